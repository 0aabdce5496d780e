/- One block of SHA-256: the last loop, that adds the words to the state's: what a round does. -/
import Derived.Test.YtljnadbfadgglaaBlkW
namespace Go.Proofs.Ytljnadbfadgglaa
open Go.RowKit
set_option maxRecDepth 100000
attribute [local go_sem] u_wrap u_xor u_and u_or u_add

theorem idx8 (C : Sha.St) (n : Nat) (h : n < 8) (w : World) : (Instr.index 128 (.agg #[.int .u32 (u C.a), .int .u32 (u C.b), .int .u32 (u C.c), .int .u32 (u C.d), .int .u32 (u C.e), .int .u32 (u C.f), .int .u32 (u C.g), .int .u32 (u C.h)]) (.int .i64 (n : Int))).run Try.prog w = .ok (.int .u32 (u (at_ C n))) w := by
  have : n = 0 ∨ n = 1 ∨ n = 2 ∨ n = 3 ∨ n = 4 ∨ n = 5 ∨ n = 6 ∨ n = 7 := by omega
  rcases this with rfl | rfl | rfl | rfl | rfl | rfl | rfl | rfl <;> (show _ = _; kernel_rfl)

/-- What follows the main loop: the words are added to the state's. -/
def Out (w : World) (g : Nat) (T : TypeId) (st : Sha.St) (w' : World) : Prop := w.grownBy w' (some g) ∧ w'.heap[g]? = some (.cells (stK st) T (0, 0))

theorem World.grownBy_row {w w' : World} {row : Option Nat} (h : w.grownBy w' none) : w.grownBy w' row := ⟨h.os, h.tape, h.output, h.size, fun k hk _ => h.block k hk (by simp)⟩
section
variable {w wr : World} {g : Nat} {T : TypeId} {st : Sha.St}
theorem Out.congr {st' : Sha.St} (h : Out w g T st wr) (e : ∀ j, j < 8 → at_ st' j = at_ st j) : Out w g T st' wr := by
  have : st' = st := St_ext e
  rw [this]; exact h
theorem Out.cell (h : Out w g T st wr) (j : Nat) (hj : j < 8) : wr.cell? ⟨g, j, none⟩ = some (.int .u32 (u (at_ st j))) := by
  rw [cell_of_row wr g j _ T (0, 0) h.2, stK_at st j hj]
theorem Out.frozen (h : Out w g T st wr) (j : Nat) : wr.frozen? ⟨g, j, none⟩ = false := frozen_of_row wr g j _ T h.2
theorem Out.drew (h : Out w g T st wr) : Out w g T st wr.drew := ⟨only_drew h.1, h.2⟩
theorem Out.set (h : Out w g T st wr) (j : Nat) (hj : j < 8) (x : BitVec 32) : Out w g T (St_at fun i => if i = j then x else at_ st i) (wr.setCell ⟨g, j, none⟩ (.int .u32 (u x))) :=
  ⟨only_setCell h.1 (.inl rfl) _, by rw [heap_setCell_same wr g j _ T _ h.2, stK_set st j hj]⟩
end


noncomputable def body3 : Code := (loopsOf (Try.f90.body.getD .skip)).getD 2 .skip

def words3 (st C : Sha.St) (n : Nat) : Sha.St := St_at fun j => if j < n then at_ st j + at_ C j else at_ st j
structure Inv3 (w : World) (g : Nat) (st C : Sha.St) (n : Nat) (a : Act) (w' : World) : Prop where
  size : a.tmps.size = 236
  defs : a.defers = []
  s0 : G a 0 = .pointer (some ⟨g, 0, none⟩)
  s219 : G a 219 = .agg #[.int .u32 (u C.a), .int .u32 (u C.b), .int .u32 (u C.c), .int .u32 (u C.d), .int .u32 (u C.e), .int .u32 (u C.f), .int .u32 (u C.g), .int .u32 (u C.h)]
  s220 : G a 220 = .int .i64 (n : Int)
  out : Out w g 132 (words3 st C n) w'

set_option maxRecDepth 100000 in
theorem inv3_frame {w : World} {g n : Nat} {st C : Sha.St} {a : Act} {w' : World} (h : Inv3 w g st C n a w') : ∃ v : Nat → Value, a = ⟨#[.pointer (some ⟨g, 0, none⟩), v 1, v 2, v 3, v 4, v 5, v 6, v 7, v 8, v 9, v 10, v 11, v 12, v 13, v 14, v 15, v 16, v 17, v 18, v 19, v 20, v 21, v 22, v 23, v 24, v 25, v 26, v 27, v 28, v 29, v 30, v 31, v 32, v 33, v 34, v 35, v 36, v 37, v 38, v 39, v 40, v 41, v 42, v 43, v 44, v 45, v 46, v 47, v 48, v 49, v 50, v 51, v 52, v 53, v 54, v 55, v 56, v 57, v 58, v 59, v 60, v 61, v 62, v 63, v 64, v 65, v 66, v 67, v 68, v 69, v 70, v 71, v 72, v 73, v 74, v 75, v 76, v 77, v 78, v 79, v 80, v 81, v 82, v 83, v 84, v 85, v 86, v 87, v 88, v 89, v 90, v 91, v 92, v 93, v 94, v 95, v 96, v 97, v 98, v 99, v 100, v 101, v 102, v 103, v 104, v 105, v 106, v 107, v 108, v 109, v 110, v 111, v 112, v 113, v 114, v 115, v 116, v 117, v 118, v 119, v 120, v 121, v 122, v 123, v 124, v 125, v 126, v 127, v 128, v 129, v 130, v 131, v 132, v 133, v 134, v 135, v 136, v 137, v 138, v 139, v 140, v 141, v 142, v 143, v 144, v 145, v 146, v 147, v 148, v 149, v 150, v 151, v 152, v 153, v 154, v 155, v 156, v 157, v 158, v 159, v 160, v 161, v 162, v 163, v 164, v 165, v 166, v 167, v 168, v 169, v 170, v 171, v 172, v 173, v 174, v 175, v 176, v 177, v 178, v 179, v 180, v 181, v 182, v 183, v 184, v 185, v 186, v 187, v 188, v 189, v 190, v 191, v 192, v 193, v 194, v 195, v 196, v 197, v 198, v 199, v 200, v 201, v 202, v 203, v 204, v 205, v 206, v 207, v 208, v 209, v 210, v 211, v 212, v 213, v 214, v 215, v 216, v 217, v 218, .agg #[.int .u32 (u C.a), .int .u32 (u C.b), .int .u32 (u C.c), .int .u32 (u C.d), .int .u32 (u C.e), .int .u32 (u C.f), .int .u32 (u C.g), .int .u32 (u C.h)], .int .i64 (n : Int), v 221, v 222, v 223, v 224, v 225, v 226, v 227, v 228, v 229, v 230, v 231, v 232, v 233, v 234, v 235], []⟩ := by
  refine ⟨G a, (frame_of 236 a h.size h.defs).trans ?_⟩
  rw [← h.s219, ← h.s0, ← h.s220]
  rfl

set_option maxRecDepth 100000 in
set_option maxHeartbeats 1000000 in
theorem round3 {w : World} {g n : Nat} {st C : Sha.St} {a : Act} {wr : World} (hI : Inv3 w g st C n a wr) (hlt : n < 8)
    (K : Act → World → Prop) (hfin : ∀ a w', Inv3 w g st C (n + 1) a w' → K a w') (Q : Exit → Act → World → Prop) : Code.wp Try.prog body3 (Exit.then K Q) a wr := by
  obtain ⟨v, ha⟩ := inv3_frame hI
  have hix := idx8 C n hlt
  have hcell := hI.out.cell n hlt
  have hfz := hI.out.frozen n
  have Hr := Lib.hid hI.out
  have Hf := Lib.hid hfin
  have e0 : at_ (words3 st C n) n = at_ st n := by unfold words3; rw [at_St _ _ hlt, if_neg (Nat.lt_irrefl n)]
  rw [e0] at hcell
  clear hI hfin e0
  generalize hA : at_ st n = A at hcell
  generalize hB : at_ C n = B at hix
  have HA := Lib.hid hA
  have HB := Lib.hid hB
  clear hA hB
  subst ha
  conv => arg 2; whnf
  go_wp2_with fail
  go_region
  go_wp2_with fail
  refine Hf.out _ _ ⟨rfl, rfl, rfl, rfl, ?_, ?_⟩
  · show Value.int .i64 _ = _
    go_num
  · refine ((Hr.out.set n hlt _).drew).congr (fun j hj => ?_)
    unfold words3
    rw [at_St _ _ hj, at_St _ _ hj, at_St _ _ hj]
    by_cases e : j = n
    · subst e; rw [if_pos rfl, if_pos (by omega), HA.out, HB.out]
    · rw [if_neg e]
      by_cases e2 : j < n
      · rw [if_pos e2, if_pos (by omega)]
      · rw [if_neg e2, if_neg (by omega)]
end Go.Proofs.Ytljnadbfadgglaa
