/- onetime.Step and its reference: n times the first half of the digest. -/
import Derived.Test.YtljnadbfadgglaaLawK
import Derived.Test.YtljnadbfadgglaaRefSum
namespace Go.Proofs.Ytljnadbfadgglaa
open Go.RowKit
set_option maxRecDepth 100000
set_option linter.unusedVariables false

def stepN (s : ByteArray) : Nat → ByteArray
  | 0 => s
  | n + 1 => (dig (stepN s n)).extract 0 16
theorem stepN_add (s : ByteArray) (a : Nat) : ∀ b, stepN (stepN s a) b = stepN s (a + b)
  | 0 => rfl
  | b + 1 => by show (dig (stepN (stepN s a) b)).extract 0 16 = (dig (stepN s (a + b))).extract 0 16; rw [stepN_add s a b]
theorem stepN_size (s : ByteArray) (h : s.size ≤ 4096) : ∀ n, (stepN s n).size ≤ 4096
  | 0 => h
  | n + 1 => by show ((dig (stepN s n)).extract 0 16).size ≤ 4096; rw [ByteArray.size_extract, dig_size]; omega

theorem refstep_any (s : ByteArray) (hs : s.size ≤ 4096) (n : Nat) (hn : n ≤ 15) (w : World) :
    Calls Try.prog 79 #[.string s, .int .i64 n] w fun e w' => e = .returned (.string (stepN s n)) ∧ Below w.heap.size w w' := by
  have HS := Lib.hid (stepN_size s hs)
  clear hs
  go_enter Try.func79, Try.ntmps79
  go_wp2_with fail
  go_loopw [0, 5] (fun x i wr => ∃ k : Nat, k ≤ n ∧ i = .int .i64 k ∧ x = .string (stepN s k) ∧ Below w.heap.size w wr) (fun _ i _ => n - (intOf i).toNat)
  case atStart => exact ⟨0, by omega, rfl, rfl, Below.refl _ _⟩
  case round =>
    obtain ⟨k, hk, rfl, rfl, hbel⟩ := hrel
    by_cases hlt : k < n
    · have HR := Lib.hid (refsum_any (stepN s k) (by have := HS.out k; omega) wr)
      have hd := dig_size (stepN s k)
      have h1 : (k : Int) < (n : Int) := by omega
      go_wp2_with fail
      refine HR.out.mono ?_
      rintro e w2 ⟨rfl, hb⟩
      go_wp2_with fail
      refine ⟨⟨k + 1, by omega, by go_num, rfl, hbel.trans (hb.mono hbel.size)⟩, by simp [intOf]; omega⟩
    · obtain rfl : k = n := by omega
      go_wp2_with fail
      go_ret
      exact ⟨rfl, hbel⟩

theorem step_any (s : ByteArray) (hs : s.size ≤ 4096) (z : Int) (n : Nat) (hn : (n : Int) = min (max z 0) 15) (w : World) :
    Calls Try.prog 85 #[.string s, .int .i64 z] w fun e w' => e = .returned (.string (stepN s n)) ∧ Below w.heap.size w w' := by
  have HS := Lib.hid (stepN_size s hs)
  have Hn := Lib.hid hn
  clear hs
  go_enter Try.func85, Try.ntmps85
  go_wp2_with fail
  go_loopw [0, 8] (fun x i wr => ∃ k : Nat, k ≤ n ∧ i = .int .i64 k ∧ x = .string (stepN s k) ∧ Below w.heap.size w wr) (fun _ i _ => n - (intOf i).toNat)
  case atStart => exact ⟨0, by omega, rfl, rfl, Below.refl _ _⟩
  case round =>
    obtain ⟨k, hk, rfl, rfl, hbel⟩ := hrel
    by_cases hlt : k < n
    · have HR := Lib.hid (sum_one (stepN s k) wr (HS.out k))
      have hd := dig_size (stepN s k)
      have h1 : (k : Int) < (n : Int) := by omega
      go_wp2_with fail
      refine HR.out.mono ?_
      rintro e w2 ⟨rfl, hb⟩
      go_wp2_with fail
      refine ⟨⟨k + 1, by omega, by go_num, rfl, hbel.trans (hb.mono hbel.size)⟩, by simp [intOf]; omega⟩
    · obtain rfl : k = n := by omega
      go_wp2_with fail
      go_ret
      exact ⟨rfl, hbel⟩
end Go.Proofs.Ytljnadbfadgglaa
