/- witanref01.SameInts at two slices with the same ints; witanlaw05.short; witanlaw05.lives. -/
import Derived.Test.YtlpfajiigkjooaaDig2
import Derived.Test.YtlpfajiigkjooaaStep
namespace Go.Proofs.Ytlpfajiigkjooaa
open Go.RowKit
set_option linter.unusedVariables false
set_option linter.unusedSimpArgs false

theorem same_any (g c g' c' n : Nat) (l : List Nat) (hl : l.length = n) (hn : n ≤ 1000000) (w : World) (hg : g < w.heap.size) (hg' : g' < w.heap.size)
    (h1 : ∀ j, j < n → w.cell? ⟨g, j, none⟩ = some (.int .i64 (l.getD j 0 : Nat))) (h2 : ∀ j, j < n → w.cell? ⟨g', j, none⟩ = some (.int .i64 (l.getD j 0 : Nat))) :
    Calls Try.prog 30 #[.slice (some ⟨g, 0, none⟩) n c, .slice (some ⟨g', 0, none⟩) n c'] w fun e w' => e = .returned (.bool true) ∧ Below w.heap.size w w' := by
  have H1 := Lib.hid h1
  have H2 := Lib.hid h2
  clear h1 h2
  go_enter Try.func30, Try.ntmps30
  go_wp2_with fail
  go_loopw [5] (fun i wr => ∃ k : Nat, k ≤ n ∧ i = .int .i64 k ∧ Below w.heap.size w wr) (fun i _ => n - (intOf i).toNat)
  case atStart => exact ⟨0, by omega, rfl, Below.refl _ _⟩
  case round =>
    obtain ⟨k, hk, rfl, hbel⟩ := hrel
    by_cases hlt : k < n
    · have hca := (hbel.cell (p := ⟨g, k, none⟩) hg).trans (H1.out k hlt)
      have hcb := (hbel.cell (p := ⟨g', k, none⟩) hg').trans (H2.out k hlt)
      generalize l.getD k 0 = x at hca hcb
      have n3 : 0 ≤ (k : Int) := by omega
      have n4 : (k : Int) < (n : Int) := by omega
      go_wp2_with fail
      go_quiet (fail)
      go_wp2_with fail
      exact ⟨⟨k + 1, by omega, by go_num, ⟨hbel.os, hbel.tape, hbel.output, hbel.size, hbel.block⟩⟩, by simp [intOf]; omega⟩
    · obtain rfl : k = n := by omega
      go_wp2_with fail
      go_ret
      exact ⟨rfl, hbel⟩

theorem short5 (a b : ByteArray) (w : World) :
    Calls Try.prog 29 #[.string a, .string b] w fun e w' => e = .returned (.bool (decide (a.size ≤ 4096) && decide (b.size ≤ 4096))) ∧ w = w' := by
  by_cases h1 : a.size ≤ 4096
  · have h1' : (a.size : Int) ≤ 4096 := by omega
    by_cases h2 : b.size ≤ 4096
    · have h2' : (b.size : Int) ≤ 4096 := by omega
      go_enter Try.func29, Try.ntmps29
      go_wp2_with fail
      go_ret
      exact ⟨by simp [h1, h2], rfl⟩
    · have h2' : ¬ (b.size : Int) ≤ 4096 := by omega
      go_enter Try.func29, Try.ntmps29
      go_wp2_with fail
      go_ret
      exact ⟨by simp [h1, h2], rfl⟩
  · have h1' : ¬ (a.size : Int) ≤ 4096 := by omega
    go_enter Try.func29, Try.ntmps29
    go_wp2_with fail
    go_ret
    exact ⟨by simp [h1], rfl⟩
end Go.Proofs.Ytlpfajiigkjooaa
