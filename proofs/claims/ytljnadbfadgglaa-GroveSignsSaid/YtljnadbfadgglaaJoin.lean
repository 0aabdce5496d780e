/- ShaSums: digests of every list of parts are the standard's; the list stays. No condition. -/
import Derived.Test.YtljnadbfadgglaaLawK
import Derived.Test.YtljnadbfadgglaaRefSum
import Derived.Lib.AppendStr
import Derived.Laws.AppendOwnNone
namespace Go.Proofs.Ytljnadbfadgglaa
open Go.ChangeShapes Go.WideShapes Go.ChangeAt Go.RowKit
set_option maxRecDepth 100000
open Go.ChangeMaps (open_string shut_string)
set_option linter.unusedVariables false

/-- The slice holds the texts xs. -/
def Texts (w : World) (a : Option Addr) (n c : Nat) (xs : List ByteArray) : Prop :=
  xs.length = n ∧ n ≤ c ∧ (a = none → n = 0 ∧ c = 0) ∧ ∀ ad, a = some ad → ∃ b off, (0 < n → ad = ⟨b, off, none⟩ ∧ b < w.heap.size) ∧ ∀ i, i < n → w.cell? ⟨b, off + i, none⟩ = some (.string (xs.getD i ByteArray.empty))
theorem IsTexts.texts {w : World} {a : Option Addr} {n c : Nat} {ss : List ByteArray} (h : IsTexts w a n c ss) : Texts w a n c (ss.take n) := by
  rcases h with ⟨rfl, rfl, rfl, rfl⟩ | ⟨x, rfl, hl, hm, hz, hc, _⟩
  · exact ⟨rfl, Nat.le_refl _, fun _ => ⟨rfl, rfl⟩, fun _ h => by cases h⟩
  · refine ⟨by rw [List.length_take]; omega, hl, (fun h => by cases h), fun ad hh => ?_⟩
    cases hh
    by_cases h0 : 0 < n
    · have h1 := hc 0 (by omega)
      obtain ⟨b, off, spot⟩ := x
      have hspot : spot = none := by simpa [Addr.add] using World.cell?_spot h1
      subst hspot
      refine ⟨b, off, fun _ => ⟨rfl, ?_⟩, fun i hi => ?_⟩
      · have := block_lt_of_cell h1
        simpa [Addr.add] using this
      · have h2 := hc i (by omega)
        have hadd : (⟨b, off, none⟩ : Addr).add i = ⟨b, off + i, none⟩ := by unfold Addr.add; split <;> simp_all
        rw [hadd] at h2
        rw [h2]
        simp [List.getD_eq_getElem?_getD, hi]
    · exact ⟨0, 0, fun h => absurd h h0, fun i hi => by omega⟩
theorem Texts.keep {w w' : World} {a : Option Addr} {n c : Nat} {xs : List ByteArray} (h : Texts w a n c xs) (hb : Below w.heap.size w w') : Texts w' a n c xs := by
  refine ⟨h.1, h.2.1, h.2.2.1, fun ad hh => ?_⟩
  obtain ⟨b, off, h1, h2⟩ := h.2.2.2 ad hh
  refine ⟨b, off, fun h0 => ⟨(h1 h0).1, Nat.lt_of_lt_of_le (h1 h0).2 hb.size⟩, fun i hi => ?_⟩
  rw [hb.cell (p := ⟨b, off + i, none⟩) (h1 (by omega)).2]
  exact h2 i hi
theorem cat_snoc (xs : List ByteArray) (x : ByteArray) : (cat (xs ++ [x])).data.toList = (cat xs).data.toList ++ x.data.toList := by
  simp [cat_data]
theorem take_succ_getD (xs : List ByteArray) (k : Nat) (h : k < xs.length) : xs.take (k + 1) = xs.take k ++ [xs.getD k ByteArray.empty] := by
  rw [List.take_succ_eq_append_getElem h]
  simp [List.getD_eq_getElem?_getD, h]
theorem cat_size_le (xs : List ByteArray) (m : Nat) (h : ∀ x ∈ xs, x.size ≤ m) : (cat xs).size ≤ m * xs.length := by
  induction xs with
  | nil => simp [cat, bs_size]
  | cons x r ih =>
    have h1 := h x (by simp)
    have h2 := ih (fun y hy => h y (by simp [hy]))
    have e : (cat (x :: r)).size = x.size + (cat r).size := by
      unfold cat
      rw [bs_size, bs_size, List.map_cons, List.flatten_cons, List.length_append, Array.length_toList]
      rfl
    rw [e, List.length_cons, Nat.mul_succ]
    omega

end Go.Proofs.Ytljnadbfadgglaa
