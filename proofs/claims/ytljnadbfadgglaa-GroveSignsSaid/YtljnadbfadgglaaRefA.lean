/- witanref03.Sum: a block's words are added to the digest's: what a round does. -/
import Derived.Test.YtljnadbfadgglaaRefC
import Derived.BigRegion
namespace Go.Proofs.Ytljnadbfadgglaa
open Go.RowKit
set_option maxRecDepth 100000
attribute [local go_sem] u_wrap u_add

noncomputable def bodyA : Code := (loopsOf (Try.f54.body.getD .skip)).getD 2 .skip

def addTo (H C : Sha.St) (n : Nat) : Sha.St := St_at fun j => if j < n then at_ H j + at_ C j else at_ H j
structure InvA (w : World) (hB kB xB : Nat) (va vi : Value) (H C : Sha.St) (n : Nat) (a : Act) (w' : World) : Prop where
  size : a.tmps.size = 164
  defs : a.defers = []
  s3 : G a 3 = .pointer (some ⟨hB, 0, none⟩)
  s4 : G a 4 = .slice (some ⟨kB, 0, none⟩) 64 64
  s5 : G a 5 = va
  s6 : G a 6 = vi
  s8 : G a 8 = .pointer (some ⟨xB, 0, none⟩)
  s16 : G a 16 = .int .i64 (n : Int)
  row : Row8 w hB (addTo H C n) w'

set_option maxRecDepth 100000 in
theorem invA_frame {w : World} {hB kB xB n : Nat} {va vi : Value} {H C : Sha.St} {a : Act} {w' : World} (h : InvA w hB kB xB va vi H C n a w') : ∃ v : Nat → Value, a = ⟨#[v 0, v 1, v 2, .pointer (some ⟨hB, 0, none⟩), .slice (some ⟨kB, 0, none⟩) 64 64, va, vi, v 7, .pointer (some ⟨xB, 0, none⟩), v 9, v 10, v 11, v 12, v 13, v 14, v 15, .int .i64 (n : Int), v 17, v 18, v 19, v 20, v 21, v 22, v 23, v 24, v 25, v 26, v 27, v 28, v 29, v 30, v 31, v 32, v 33, v 34, v 35, v 36, v 37, v 38, v 39, v 40, v 41, v 42, v 43, v 44, v 45, v 46, v 47, v 48, v 49, v 50, v 51, v 52, v 53, v 54, v 55, v 56, v 57, v 58, v 59, v 60, v 61, v 62, v 63, v 64, v 65, v 66, v 67, v 68, v 69, v 70, v 71, v 72, v 73, v 74, v 75, v 76, v 77, v 78, v 79, v 80, v 81, v 82, v 83, v 84, v 85, v 86, v 87, v 88, v 89, v 90, v 91, v 92, v 93, v 94, v 95, v 96, v 97, v 98, v 99, v 100, v 101, v 102, v 103, v 104, v 105, v 106, v 107, v 108, v 109, v 110, v 111, v 112, v 113, v 114, v 115, v 116, v 117, v 118, v 119, v 120, v 121, v 122, v 123, v 124, v 125, v 126, v 127, v 128, v 129, v 130, v 131, v 132, v 133, v 134, v 135, v 136, v 137, v 138, v 139, v 140, v 141, v 142, v 143, v 144, v 145, v 146, v 147, v 148, v 149, v 150, v 151, v 152, v 153, v 154, v 155, v 156, v 157, v 158, v 159, v 160, v 161, v 162, v 163], []⟩ := by
  refine ⟨G a, (frame_of 164 a h.size h.defs).trans ?_⟩
  show (⟨#[G a 0, G a 1, G a 2, G a 3, G a 4, G a 5, G a 6, G a 7, G a 8, G a 9, G a 10, G a 11, G a 12, G a 13, G a 14, G a 15, G a 16, G a 17, G a 18, G a 19, G a 20, G a 21, G a 22, G a 23, G a 24, G a 25, G a 26, G a 27, G a 28, G a 29, G a 30, G a 31, G a 32, G a 33, G a 34, G a 35, G a 36, G a 37, G a 38, G a 39, G a 40, G a 41, G a 42, G a 43, G a 44, G a 45, G a 46, G a 47, G a 48, G a 49, G a 50, G a 51, G a 52, G a 53, G a 54, G a 55, G a 56, G a 57, G a 58, G a 59, G a 60, G a 61, G a 62, G a 63, G a 64, G a 65, G a 66, G a 67, G a 68, G a 69, G a 70, G a 71, G a 72, G a 73, G a 74, G a 75, G a 76, G a 77, G a 78, G a 79, G a 80, G a 81, G a 82, G a 83, G a 84, G a 85, G a 86, G a 87, G a 88, G a 89, G a 90, G a 91, G a 92, G a 93, G a 94, G a 95, G a 96, G a 97, G a 98, G a 99, G a 100, G a 101, G a 102, G a 103, G a 104, G a 105, G a 106, G a 107, G a 108, G a 109, G a 110, G a 111, G a 112, G a 113, G a 114, G a 115, G a 116, G a 117, G a 118, G a 119, G a 120, G a 121, G a 122, G a 123, G a 124, G a 125, G a 126, G a 127, G a 128, G a 129, G a 130, G a 131, G a 132, G a 133, G a 134, G a 135, G a 136, G a 137, G a 138, G a 139, G a 140, G a 141, G a 142, G a 143, G a 144, G a 145, G a 146, G a 147, G a 148, G a 149, G a 150, G a 151, G a 152, G a 153, G a 154, G a 155, G a 156, G a 157, G a 158, G a 159, G a 160, G a 161, G a 162, G a 163], []⟩ : Act) = _
  rw [h.s3, h.s4, h.s5, h.s6, h.s8, h.s16]

set_option maxRecDepth 100000 in
set_option maxHeartbeats 1000000 in
theorem roundA {w : World} {hB kB xB n : Nat} {va vi : Value} {H C : Sha.St} {a : Act} {wr : World} (hI : InvA w hB kB xB va vi H C n a wr) (hx : w.heap[xB]? = some (.cells (st8 C) 128 (0, 0))) (hne : xB ≠ hB) (hlt : n < 8)
    (K : Act → World → Prop) (hfin : ∀ a w', InvA w hB kB xB va vi H C (n + 1) a w' → K a w') (Q : Exit → Act → World → Prop) : Code.wp Try.prog bodyA (Exit.then K Q) a wr := by
  obtain ⟨v, ha⟩ := invA_frame hI
  have hrow := hI.row
  have hc := hrow.cell n hlt
  have e0 : at_ (addTo H C n) n = at_ H n := by unfold addTo; rw [at_St _ _ hlt, if_neg (Nat.lt_irrefl n)]
  rw [e0] at hc
  have hfz := hrow.frozen n
  have hxc := (hrow.far xB n (Array.getElem?_eq_some_iff.1 hx).1 hne).trans ((cell_of_row w xB n _ _ (0, 0) hx).trans (st8_at C n hlt))
  have Hr := Lib.hid hrow
  have Hf := Lib.hid hfin
  clear hI hfin hrow hx e0
  generalize hA : at_ H n = A at hc
  generalize hBB : at_ C n = B at hxc
  have HA := Lib.hid hA
  have HB := Lib.hid hBB
  clear hA hBB
  subst ha
  conv => arg 2; whnf
  go_wp2_with fail
  go_region
  go_wp2_with fail
  refine Hf.out _ _ ⟨rfl, rfl, rfl, rfl, rfl, rfl, rfl, ?_, ?_⟩
  · show Value.int .i64 _ = _
    go_num
  · refine ((Hr.out.set n hlt _).drew).congr (fun j hj => ?_)
    unfold addTo
    rw [at_St _ _ hj, at_St _ _ hj, at_St _ _ hj]
    by_cases e : j = n
    · subst e; rw [if_pos rfl, if_pos (by omega), HA.out, HB.out]
    · rw [if_neg e]
      by_cases e2 : j < n
      · rw [if_pos e2, if_pos (by omega)]
      · rw [if_neg e2, if_neg (by omega)]
theorem addTo_all (H C : Sha.St) : addTo H C 8 = H.add C := St_ext (fun j hj => by unfold addTo; rw [at_St _ _ hj, if_pos hj, at_add _ _ _ hj])
theorem addTo_zero (H C : Sha.St) : addTo H C 0 = H := St_ext (fun j hj => by unfold addTo; rw [at_St _ _ hj, if_neg (by omega)])
end Go.Proofs.Ytljnadbfadgglaa
