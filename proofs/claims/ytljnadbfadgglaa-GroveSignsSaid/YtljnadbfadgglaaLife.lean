/- Digits as cells, of the program and of the reference; the first look of the statements of layer 5 (the digits of abc). Condition: texts of at most 4,096 bytes. -/
import Derived.Test.YtljnadbfadgglaaSame
import Derived.Test.YtljnadbfadgglaaLackW
namespace Go.Proofs.Ytljnadbfadgglaa
open Go.RowKit
set_option maxRecDepth 100000
set_option linter.unusedVariables false
set_option linter.unusedSimpArgs false

/-- A text's digits. -/
def dg (s : ByteArray) : List Nat := digs (dig s).data.toList
theorem dig_len (s : ByteArray) : (dig s).data.toList.length = 32 := by rw [Array.length_toList]; exact dig_size s
theorem dg_length (s : ByteArray) : (dg s).length = 35 := digs_length _ (by rw [dig_len]; omega)
theorem dg_le (s : ByteArray) (j : Nat) : (dg s).getD j 0 ≤ 15 := digs_le _ j

/-- The slice in block g holds the ints l. -/
def HasI (w : World) (g : Nat) (l : List Nat) : Prop := g < w.heap.size ∧ ∀ j, j < l.length → w.cell? ⟨g, j, none⟩ = some (.int .i64 (l.getD j 0 : Nat))
theorem HasI.keep {w w' : World} {g : Nat} {l : List Nat} (h : HasI w g l) (hb : Below w.heap.size w w') : HasI w' g l :=
  ⟨Nat.lt_of_lt_of_le h.1 hb.size, fun j hj => (hb.cell (p := ⟨g, j, none⟩) h.1).trans (h.2 j hj)⟩
theorem HasI.of_own {w : World} {base n : Nat} {v : Value} {l : List Nat} (h : w.ownsRow base 3 1 v n (intCells l)) (hn : 0 < n) :
    ∃ g c, v = .slice (some ⟨g, 0, none⟩) n c ∧ n ≤ c ∧ base ≤ g ∧ HasI w g l := by
  have hl : l.length = n := by have := h.1; simpa [intCells] using this
  obtain ⟨g, c, rfl, hg, hgl⟩ := h.form hn
  refine ⟨g, c, rfl, ?_, hg, hgl, fun j hj => ?_⟩
  · rcases h.2 with ⟨h', _⟩ | ⟨g', cap', cur, h', _, _, hnc, _⟩
    · simp at h'
    · simp only [Value.slice.injEq, Option.some.injEq, Addr.mk.injEq, and_true, true_and] at h'
      omega
  · rw [h.cellAt j (by omega)]
    simp [intCells, List.getElem?_eq_getElem hj, List.getD_eq_getElem?_getD]

theorem digits_c (s : ByteArray) (hs : s.size ≤ 4096) (w : World) :
    Calls Try.prog 81 #[.string s] w fun e w' => ∃ g c, e = .returned (.slice (some ⟨g, 0, none⟩) 35 c) ∧ 35 ≤ c ∧ w.heap.size ≤ g ∧ HasI w' g (dg s) ∧ Below w.heap.size w w' :=
  (digits_any s hs w).mono fun e w' ⟨v, he, hown, hb⟩ => by
    obtain ⟨g, c, rfl, hc, hg, hI⟩ := HasI.of_own hown (by decide)
    exact ⟨g, c, he, hc, hg, hI, hb⟩
theorem refdigits_c (s : ByteArray) (hs : s.size ≤ 4096) (w : World) :
    Calls Try.prog 83 #[.string s] w fun e w' => ∃ g c, e = .returned (.slice (some ⟨g, 0, none⟩) 35 c) ∧ 35 ≤ c ∧ w.heap.size ≤ g ∧ HasI w' g (dg s) ∧ Below w.heap.size w w' :=
  (refdigits_any s hs w).mono fun e w' ⟨v, he, hown, hb⟩ => by
    obtain ⟨g, c, rfl, hc, hg, hI⟩ := HasI.of_own hown (by decide)
    exact ⟨g, c, he, hc, hg, hI, hb⟩

set_option maxRecDepth 100000 in
theorem dg_abc : (dg ⟨#[97, 98, 99]⟩).getD 0 0 = 11 ∧ (dg ⟨#[97, 98, 99]⟩).getD 1 0 = 10 ∧ (dg ⟨#[97, 98, 99]⟩).getD 2 0 = 7 := by
  have h : (Sha.sum [97, 98, 99]).take 2 = [186, 120] := by decide +kernel
  obtain ⟨r, hr⟩ : ∃ r, Sha.sum [97, 98, 99] = 186 :: 120 :: r := by
    generalize Sha.sum [97, 98, 99] = l at h
    match l, h with
    | a :: b :: r, h => simp at h; exact ⟨r, by rw [h.1, h.2]⟩
  have e : (dig ⟨#[97, 98, 99]⟩).data.toList = 186 :: 120 :: r := by
    unfold dig
    rw [bs_data]
    exact hr
  unfold dg
  rw [e]
  exact ⟨rfl, rfl, rfl⟩

end Go.Proofs.Ytljnadbfadgglaa
