/- The sixteen words of a block as cells. Plain. -/
import Derived.Test.YtljnadbfadgglaaRot
import Derived.StillTailTactics
import Derived.BigRegion
namespace Go.Proofs.Ytljnadbfadgglaa
open Go.RowKit
set_option maxRecDepth 100000

/-- Sixteen words as cells. -/
def wcells (f : Nat → BitVec 32) : Array Value := ((List.range 16).map fun j => Value.int .u32 (u (f j))).toArray
theorem wcells_size (f : Nat → BitVec 32) : (wcells f).size = 16 := by simp [wcells]
theorem wcells_at (f : Nat → BitVec 32) (j : Nat) (h : j < 16) : (wcells f)[j]? = some (.int .u32 (u (f j))) := by
  simp [wcells, h]
theorem wcells_set (f : Nat → BitVec 32) (j : Nat) (x : BitVec 32) : (wcells f).setIfInBounds j (.int .u32 (u x)) = wcells (fun i => if i = j then x else f i) := by
  apply Array.ext_getElem?
  intro i
  rw [Array.getElem?_setIfInBounds]
  by_cases h : j = i
  · subst h
    by_cases hj : j < 16
    · simp [wcells, hj]
    · simp [wcells, hj]
  · have h' : ¬ i = j := fun e => h e.symm
    by_cases hj : i < 16
    · simp [wcells, hj, h, h']
    · simp [wcells, hj, h]
theorem wcells_congr {f g : Nat → BitVec 32} (h : ∀ j, j < 16 → f j = g j) : wcells f = wcells g := by
  apply Array.ext_getElem?
  intro i
  by_cases hj : i < 16
  · simp [wcells, hj, h i hj]
  · simp [wcells, hj]
/-- Block b holds these sixteen words; below w's end nothing has turned but, it may be, block row. -/
def Ring (w : World) (row : Option Nat) (b : Nat) (T : TypeId) (f : Nat → BitVec 32) (wr : World) : Prop := wr.heap[b]? = some (.cells (wcells f) T (0, 0)) ∧ w.grownBy wr row
theorem Ring.cell {w wr : World} {row : Option Nat} {b : Nat} {T : TypeId} {f : Nat → BitVec 32} (h : Ring w row b T f wr) (j : Nat) (hj : j < 16) : wr.cell? ⟨b, j, none⟩ = some (.int .u32 (u (f j))) := by
  rw [cell_of_row wr b j _ T (0, 0) h.1, wcells_at f j hj]
theorem Ring.frozen {w wr : World} {row : Option Nat} {b : Nat} {T : TypeId} {f : Nat → BitVec 32} (h : Ring w row b T f wr) (j : Nat) : wr.frozen? ⟨b, j, none⟩ = false := frozen_of_row wr b j _ T h.1
theorem grown_set {w wr : World} {row : Option Nat} (h : w.grownBy wr row) (b j : Nat) (hb : w.heap.size ≤ b) (v : Value) : w.grownBy (wr.setCell ⟨b, j, none⟩ v) row :=
  ⟨h.os, h.tape, h.output, by simpa [World.setCell] using h.size, fun k hk hr => (heap_setCell_other wr ⟨b, j, none⟩ k v (fun e => by simp at e; omega)).trans (h.block k hk hr)⟩
theorem grown_drew {w wr : World} {row : Option Nat} (h : w.grownBy wr row) : w.grownBy wr.drew row := ⟨h.os, h.tape, h.output, h.size, h.block⟩
theorem Ring.set {w wr : World} {row : Option Nat} {b : Nat} {T : TypeId} {f : Nat → BitVec 32} (h : Ring w row b T f wr) (hb : w.heap.size ≤ b) (j : Nat) (x : BitVec 32) :
    Ring w row b T (fun i => if i = j then x else f i) (wr.setCell ⟨b, j, none⟩ (.int .u32 (u x))) :=
  ⟨by rw [heap_setCell_same wr b j _ T _ h.1, wcells_set], grown_set h.2 b j hb _⟩
theorem Ring.drew {w wr : World} {row : Option Nat} {b : Nat} {T : TypeId} {f : Nat → BitVec 32} (h : Ring w row b T f wr) : Ring w row b T f wr.drew := ⟨h.1, grown_drew h.2⟩
theorem Ring.drewN {w wr : World} {row : Option Nat} {b : Nat} {T : TypeId} {f : Nat → BitVec 32} (h : Ring w row b T f wr) (n : Nat) : Ring w row b T f (wr.drewN n) := ⟨h.1, ⟨h.2.os, h.2.tape, h.2.output, h.2.size, h.2.block⟩⟩
theorem Ring.congr {w wr : World} {row : Option Nat} {b : Nat} {T : TypeId} {f f' : Nat → BitVec 32} (h : Ring w row b T f wr) (e : ∀ j, j < 16 → f j = f' j) : Ring w row b T f' wr :=
  ⟨by rw [← wcells_congr e]; exact h.1, h.2⟩

/-- Which word stands in place j of the ring when word t is to come. -/
def idx (t j : Nat) : Nat := if t < 16 then j else t - 1 - (t - 1 - j) % 16
theorem idx_succ (t j : Nat) (ht : 16 ≤ t) (hj : j < 16) : idx (t + 1) j = if j = t % 16 then t else idx t j := by
  rw [idx, idx, if_neg (show ¬ t + 1 < 16 by omega), if_neg (show ¬ t < 16 by omega)]
  by_cases e : j = t % 16
  · rw [if_pos e]; omega
  · rw [if_neg e]; omega
theorem idx_low (t j : Nat) (ht : t < 16) (hj : j < 16) : idx (t + 1) j = idx t j := by
  rw [idx, idx, if_pos ht]
  split <;> omega
theorem idx_at (t d : Nat) (ht : 16 ≤ t) (hd : d < 16) : idx t ((t + d) % 16) = t - (16 - d) := by
  unfold idx; split <;> omega
theorem idx_at0 (t : Nat) (ht : 16 ≤ t) : idx t (t % 16) = t - 16 := by
  unfold idx; split <;> omega
theorem idx_now (t : Nat) (ht : t < 16) : idx t (t % 16) = t := by
  unfold idx; split <;> omega
def ringf (l : List UInt8) (t : Nat) (j : Nat) : BitVec 32 := Sha.W l (idx t j)
theorem more_length (w : List (BitVec 32)) (n : Nat) : (Sha.more w n).length = w.length + n := by
  induction n with
  | zero => rfl
  | succ n ih => simp [Sha.more, ih]; omega
theorem more_get (w : List (BitVec 32)) (n m i : Nat) (hi : i < w.length + n) (hm : n ≤ m) : (Sha.more w m).getD i 0 = (Sha.more w n).getD i 0 := by
  induction m with
  | zero => obtain rfl : n = 0 := by omega
            rfl
  | succ m ih =>
    by_cases e : n = m + 1
    · rw [e]
    · rw [← ih (by omega)]
      simp only [Sha.more, List.getD_eq_getElem?_getD]
      rw [List.getElem?_append_left (by rw [more_length]; omega)]
theorem W_first (l : List UInt8) (t : Nat) (ht : t < 16) : Sha.W l t = Sha.word l t := by
  unfold Sha.W
  rw [more_get _ 0 48 t (by simp [Sha.first]; omega) (by omega)]
  simp [Sha.more, Sha.first, List.getD_eq_getElem?_getD, ht]
theorem W_next (l : List UInt8) (t : Nat) (h1 : 16 ≤ t) (h2 : t < 64) : Sha.W l t = Sha.s1 (Sha.W l (t - 2)) + Sha.W l (t - 7) + Sha.s0 (Sha.W l (t - 15)) + Sha.W l (t - 16) := by
  have hf : (Sha.first l).length = 16 := by simp [Sha.first]
  unfold Sha.W
  rw [more_get _ (t - 16 + 1) 48 t (by omega) (by omega), more_get _ (t - 16) 48 (t - 2) (by omega) (by omega), more_get _ (t - 16) 48 (t - 7) (by omega) (by omega), more_get _ (t - 16) 48 (t - 15) (by omega) (by omega), more_get _ (t - 16) 48 (t - 16) (by omega) (by omega)]
  have hl : (Sha.more (Sha.first l) (t - 16)).length = t := by rw [more_length]; omega
  show (Sha.more (Sha.first l) (t - 16) ++ [Sha.ext (Sha.more (Sha.first l) (t - 16))]).getD t 0 = _
  generalize Sha.more (Sha.first l) (t - 16) = m at hl
  rw [List.getD_eq_getElem?_getD, List.getElem?_append_right (by omega), hl, Nat.sub_self]
  simp only [List.getElem?_cons_zero, Option.getD_some, Sha.ext, hl]

/-- What goes on from block to block, as cells: the eight words, and K. -/
def stK (s : Sha.St) : Array Value := (#[Value.int .u32 (u s.a), .int .u32 (u s.b), .int .u32 (u s.c), .int .u32 (u s.d), .int .u32 (u s.e), .int .u32 (u s.f), .int .u32 (u s.g), .int .u32 (u s.h)] : Array Value) ++ ((Sha.K.map fun x => Value.int .u32 (u x)).toArray)
theorem stK_K (s : Sha.St) (t : Nat) (h : t < 64) : (stK s)[8 + t]? = some (.int .u32 (u (Sha.K.getD t 0))) := by
  unfold stK
  rw [Array.getElem?_append_right (by simp)]
  simp only [List.size_toArray, List.length_cons, List.length_nil, Nat.reduceAdd, Nat.add_sub_cancel_left]
  have : t < Sha.K.length := h
  simp [List.getD_eq_getElem?_getD, this]
theorem K_cell {w wr : World} {row : Option Nat} {b g : Nat} {T T' : TypeId} {f : Nat → BitVec 32} {st : Sha.St} (h : Ring w row b T f wr) (hg : w.heap[g]? = some (.cells (stK st) T' (0, 0))) (hr : some g ≠ row) (i : Nat) :
    wr.cell? ⟨g, i, none⟩ = (stK st)[i]? := by
  have hlt : g < w.heap.size := (Array.getElem?_eq_some_iff.1 hg).1
  exact cell_of_row wr g i _ T' (0, 0) ((h.2.block g hlt hr).trans hg)

theorem stK_low (s : Sha.St) (i : Nat) (h : i < 8) : (stK s)[i]? = (#[Value.int .u32 (u s.a), .int .u32 (u s.b), .int .u32 (u s.c), .int .u32 (u s.d), .int .u32 (u s.e), .int .u32 (u s.f), .int .u32 (u s.g), .int .u32 (u s.h)] : Array Value)[i]? := by
  unfold stK
  rw [Array.getElem?_append_left (by simpa using h)]
theorem st_cells {w wr : World} {row : Option Nat} {b g : Nat} {T T' : TypeId} {f : Nat → BitVec 32} {st : Sha.St} (h : Ring w row b T f wr) (hg : w.heap[g]? = some (.cells (stK st) T' (0, 0))) (hr : some g ≠ row) :
    wr.cell? ⟨g, 0, none⟩ = some (.int .u32 (u st.a)) ∧ wr.cell? ⟨g, 1, none⟩ = some (.int .u32 (u st.b)) ∧ wr.cell? ⟨g, 2, none⟩ = some (.int .u32 (u st.c)) ∧ wr.cell? ⟨g, 3, none⟩ = some (.int .u32 (u st.d)) ∧
    wr.cell? ⟨g, 4, none⟩ = some (.int .u32 (u st.e)) ∧ wr.cell? ⟨g, 5, none⟩ = some (.int .u32 (u st.f)) ∧ wr.cell? ⟨g, 6, none⟩ = some (.int .u32 (u st.g)) ∧ wr.cell? ⟨g, 7, none⟩ = some (.int .u32 (u st.h)) :=
  ⟨(K_cell h hg hr 0).trans (stK_low st 0 (by decide)), (K_cell h hg hr 1).trans (stK_low st 1 (by decide)), (K_cell h hg hr 2).trans (stK_low st 2 (by decide)), (K_cell h hg hr 3).trans (stK_low st 3 (by decide)), (K_cell h hg hr 4).trans (stK_low st 4 (by decide)), (K_cell h hg hr 5).trans (stK_low st 5 (by decide)), (K_cell h hg hr 6).trans (stK_low st 6 (by decide)), (K_cell h hg hr 7).trans (stK_low st 7 (by decide))⟩

/-- Eight slots hold a state's words. -/
def Words (s : Sha.St) (a1 a2 a3 a4 a5 a6 a7 a8 : Value) : Prop :=
  a1 = .int .u32 (u s.a) ∧ a2 = .int .u32 (u s.b) ∧ a3 = .int .u32 (u s.c) ∧ a4 = .int .u32 (u s.d) ∧ a5 = .int .u32 (u s.e) ∧ a6 = .int .u32 (u s.f) ∧ a7 = .int .u32 (u s.g) ∧ a8 = .int .u32 (u s.h)

theorem ch_eq (e f g : BitVec 32) : g ^^^ e &&& (f ^^^ g) = Sha.ch e f g := by
  unfold Sha.ch
  apply BitVec.eq_of_getLsbD_eq
  intro i hi
  simp only [BitVec.getLsbD_xor, BitVec.getLsbD_and, BitVec.getLsbD_not, hi, decide_true, Bool.true_and]
  cases e.getLsbD i <;> cases f.getLsbD i <;> cases g.getLsbD i <;> rfl
theorem maj_eq (a b c : BitVec 32) : a &&& b ||| c &&& (a ||| b) = Sha.maj a b c := by
  unfold Sha.maj
  apply BitVec.eq_of_getLsbD_eq
  intro i _
  simp only [BitVec.getLsbD_xor, BitVec.getLsbD_and, BitVec.getLsbD_or]
  cases a.getLsbD i <;> cases b.getLsbD i <;> cases c.getLsbD i <;> rfl

/-- A state's words by number. -/
def at_ (s : Sha.St) : Nat → BitVec 32
  | 0 => s.a | 1 => s.b | 2 => s.c | 3 => s.d | 4 => s.e | 5 => s.f | 6 => s.g | 7 => s.h | _ => 0
def St_at (f : Nat → BitVec 32) : Sha.St := ⟨f 0, f 1, f 2, f 3, f 4, f 5, f 6, f 7⟩
theorem St_at_at (s : Sha.St) : St_at (at_ s) = s := rfl
theorem at_St (f : Nat → BitVec 32) (j : Nat) (h : j < 8) : at_ (St_at f) j = f j := by
  have : j = 0 ∨ j = 1 ∨ j = 2 ∨ j = 3 ∨ j = 4 ∨ j = 5 ∨ j = 6 ∨ j = 7 := by omega
  rcases this with rfl | rfl | rfl | rfl | rfl | rfl | rfl | rfl <;> rfl
theorem at_add (s t : Sha.St) (j : Nat) (h : j < 8) : at_ (s.add t) j = at_ s j + at_ t j := by
  have : j = 0 ∨ j = 1 ∨ j = 2 ∨ j = 3 ∨ j = 4 ∨ j = 5 ∨ j = 6 ∨ j = 7 := by omega
  rcases this with rfl | rfl | rfl | rfl | rfl | rfl | rfl | rfl <;> rfl
theorem St_ext {s t : Sha.St} (h : ∀ j, j < 8 → at_ s j = at_ t j) : s = t := by
  have h0 := h 0 (by decide); have h1 := h 1 (by decide); have h2 := h 2 (by decide); have h3 := h 3 (by decide)
  have h4 := h 4 (by decide); have h5 := h 5 (by decide); have h6 := h 6 (by decide); have h7 := h 7 (by decide)
  cases s; cases t
  simp only [at_] at h0 h1 h2 h3 h4 h5 h6 h7
  subst h0; subst h1; subst h2; subst h3; subst h4; subst h5; subst h6; subst h7
  rfl
theorem stK_at (s : Sha.St) (j : Nat) (h : j < 8) : (stK s)[j]? = some (.int .u32 (u (at_ s j))) := by
  rw [stK_low s j h]
  have : j = 0 ∨ j = 1 ∨ j = 2 ∨ j = 3 ∨ j = 4 ∨ j = 5 ∨ j = 6 ∨ j = 7 := by omega
  rcases this with rfl | rfl | rfl | rfl | rfl | rfl | rfl | rfl <;> rfl
theorem stK_size (s : Sha.St) : (stK s).size = 72 := by
  unfold stK
  simp only [Array.size_append, List.size_toArray, List.length_map, List.length_cons, List.length_nil]
  rfl
theorem stK_set (s : Sha.St) (j : Nat) (h : j < 8) (x : BitVec 32) : (stK s).setIfInBounds j (.int .u32 (u x)) = stK (St_at fun i => if i = j then x else at_ s i) := by
  apply Array.ext_getElem?
  intro i
  rw [Array.getElem?_setIfInBounds, stK_size]
  by_cases e : j = i
  · subst e
    rw [if_pos rfl, if_pos (by omega), stK_at _ _ h, at_St _ _ h, if_pos rfl]
  · rw [if_neg e]
    by_cases hi : i < 8
    · rw [stK_at _ _ hi, stK_at _ _ hi, at_St _ _ hi, if_neg (fun e' => e e'.symm)]
    · unfold stK
      rw [Array.getElem?_append_right (by simpa using hi), Array.getElem?_append_right (by simpa using hi)]
      rfl

theorem wcells_zero : wcells (fun _ => 0) = Array.replicate 16 (Value.int .u32 0) := by rfl
end Go.Proofs.Ytljnadbfadgglaa
