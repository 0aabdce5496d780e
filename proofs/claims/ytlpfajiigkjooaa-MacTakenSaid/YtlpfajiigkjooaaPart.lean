/- sha.Part, and the digest of abc: the first look of the statements of layer 3. -/
import Derived.Test.YtlpfajiigkjooaaSum
import Derived.Test.YtlpfajiigkjooaaSumW
namespace Go.Proofs.Ytlpfajiigkjooaa
open Go.RowKit

theorem part_bad (n : Int) (v : Value) (h : n < 0 ∨ 32 < n) (w : World) :
    Calls Try.prog 27 #[.int .i64 n, v] w fun e w' => e = .returned (.tuple #[.string (bs []), .int .i64 1]) ∧ w = w' := by
  rcases h with h | h
  · go_enter Try.func27, Try.ntmps27
    go_wp2
    go_ret2
    exact ⟨rfl, rfl⟩
  · have h' : ¬ n < 0 := by omega
    go_enter Try.func27, Try.ntmps27
    go_wp2
    go_ret2
    exact ⟨rfl, rfl⟩

theorem part_any (k : Int) (h0 : 0 ≤ k) (h32 : k ≤ 32) (bk o c n : Nat) (xs : List ByteArray) (hn : n = xs.length) (w : World) (hcells : ∀ (j : Nat) x, xs[j]? = some x → w.cell? ⟨bk, o + j, none⟩ = some (.string x)) (hbk : bk < w.heap.size) (hcap : n ≤ c) (hN : n ≤ 1000000)
    (hlen : (cat xs).size ≤ 4294967296) :
    Calls Try.prog 27 #[.int .i64 k, .slice (some ⟨bk, o, none⟩) n c] w fun e w' => e = .returned (.tuple #[.string ((dig (cat xs)).extract 0 k.toNat), .int .i64 0]) ∧ Below w.heap.size w w' := by
  have HS := Lib.hid (sum_any bk o c n xs hn w hcells hbk hcap hN hlen)
  have hd := dig_size (cat xs)
  clear hcells hlen hn
  go_enter Try.func27, Try.ntmps27
  go_wp2_with fail
  refine HS.out.mono ?_
  rintro e w1 ⟨rfl, hb1⟩
  go_wp2_with fail
  go_ret2
  exact ⟨rfl, hb1⟩

set_option maxRecDepth 100000 in
theorem dig_abc : (dig (cat [⟨#[97]⟩, ⟨#[98, 99]⟩])).extract 0 4 = ⟨#[186, 120, 22, 191]⟩ := by
  have h : (Sha.sum [97, 98, 99]).take 4 = [186, 120, 22, 191] := by decide +kernel
  have e : (cat [⟨#[97]⟩, ⟨#[98, 99]⟩]).data.toList = [97, 98, 99] := by rw [cat_data]; rfl
  unfold dig
  rw [e, bs_extract, List.drop_zero, show (4 : Nat) - 0 = 4 from rfl, h]
  rfl

set_option maxHeartbeats 400000 in
theorem lives3 (w : World) : Calls Try.prog 21 #[] w fun e w' => e = .returned (.bool true) ∧ Below w.heap.size w w' := by
  have hp := part_any 4 (by omega) (by omega) w.heap.size 0 2 2 [⟨#[97]⟩, ⟨#[98, 99]⟩] rfl (w.alloc (.cells #[.string ⟨#[97]⟩, .string ⟨#[98, 99]⟩] 9)) (fun j x hj => by
    rw [Nat.zero_add, cell_of_row _ _ _ _ _ _ (heap_alloc_new w _)]
    have : j = 0 ∨ j = 1 := by have := (List.getElem?_eq_some_iff.1 hj).1; simp at this; omega
    rcases this with rfl | rfl
    · simp at hj; subst hj; rfl
    · simp at hj; subst hj; rfl) (by simp) (by omega) (by omega) (by decide)
  rw [show (4 : Int).toNat = 4 from rfl, dig_abc] at hp
  have HP := Lib.hid hp
  clear hp
  go_enter Try.func21, Try.ntmps21
  go_wp2_with fail
  refine HP.out.mono ?_
  rintro e w1 ⟨rfl, hb1⟩
  go_wp2_with fail
  go_ret
  exact ⟨rfl, ((Below.refl _ _).alloc (Nat.le_refl _) _).trans (hb1.mono (by simp))⟩
end Go.Proofs.Ytlpfajiigkjooaa
