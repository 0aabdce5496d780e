/- One block of SHA-256, the main loop: what a round does. -/
import Derived.Test.YtljnadbfadgglaaBlkW
import Derived.Deep.RegionWith
import Derived.Deep.RegionHeld3
namespace Go.Proofs.Ytljnadbfadgglaa
open Go.RowKit
set_option maxRecDepth 100000
attribute [local go_sem] byte_u u_wrap u_xor u_and u_or u_add u_shl24 u_shl16 u_shl8 u_shr3 u_shr10

noncomputable def body2 : Code := (loopsOf (Try.f90.body.getD .skip)).getD 1 .skip

/-- The frame and the memory at the head of round t of the main loop. -/
structure Inv2 (w : World) (g b : Nat) (l : List UInt8) (st : Sha.St) (t : Nat) (a : Act) (w' : World) : Prop where
  size : a.tmps.size = 236
  defs : a.defers = []
  s0 : G a 0 = .pointer (some ⟨g, 0, none⟩)
  s4 : G a 4 = .pointer (some ⟨b, 0, none⟩)
  s96 : G a 96 = .int .i64 (t : Int)
  ws : Words (Sha.comp (Sha.W l) st t) (G a 6) (G a 7) (G a 8) (G a 9) (G a 10) (G a 11) (G a 12) (G a 13)
  ring : Ring w none b 153 (ringf l t) w'

theorem W_ring (l : List UInt8) (t : Nat) (h16 : 16 ≤ t) (hlt : t < 64) : Sha.W l t = ringf l t (t % 16) + (Sha.rotr (ringf l t ((t + 1) % 16)) 7 ^^^ Sha.rotr (ringf l t ((t + 1) % 16)) 18 ^^^ ringf l t ((t + 1) % 16) >>> 3) + ringf l t ((t + 9) % 16) +
    (Sha.rotr (ringf l t ((t + 14) % 16)) 17 ^^^ Sha.rotr (ringf l t ((t + 14) % 16)) 19 ^^^ ringf l t ((t + 14) % 16) >>> 10) := by
  rw [W_next l t h16 hlt]
  unfold ringf
  rw [idx_at t 1 h16 (by decide), idx_at t 9 h16 (by decide), idx_at t 14 h16 (by decide), idx_at0 t h16]
  show Sha.s1 _ + _ + Sha.s0 _ + _ = _ + Sha.s0 _ + _ + Sha.s1 _
  generalize Sha.s1 (Sha.W l (t - (16 - 14))) = p
  generalize Sha.s0 (Sha.W l (t - (16 - 1))) = q
  show p + Sha.W l (t - 7) + q + Sha.W l (t - 16) = Sha.W l (t - 16) + q + Sha.W l (t - 7) + p
  generalize Sha.W l (t - 7) = y
  generalize Sha.W l (t - 16) = x
  rw [BitVec.add_comm (p + y + q) x, BitVec.add_assoc p y q, BitVec.add_comm y q, BitVec.add_comm p (q + y), ← BitVec.add_assoc, ← BitVec.add_assoc]

theorem rnd_words (C : Sha.St) (k x : BitVec 32) :
    Words (Sha.rnd C k x)
      (.int .u32 (u (C.h + (Sha.rotr C.e 6 ^^^ Sha.rotr C.e 11 ^^^ Sha.rotr C.e 25) + (C.g ^^^ C.e &&& (C.f ^^^ C.g)) + k + x + ((Sha.rotr C.a 2 ^^^ Sha.rotr C.a 13 ^^^ Sha.rotr C.a 22) + (C.a &&& C.b ||| C.c &&& (C.a ||| C.b))))))
      (.int .u32 (u C.a)) (.int .u32 (u C.b)) (.int .u32 (u C.c))
      (.int .u32 (u (C.d + (C.h + (Sha.rotr C.e 6 ^^^ Sha.rotr C.e 11 ^^^ Sha.rotr C.e 25) + (C.g ^^^ C.e &&& (C.f ^^^ C.g)) + k + x))))
      (.int .u32 (u C.e)) (.int .u32 (u C.f)) (.int .u32 (u C.g)) := by
  rw [ch_eq, maj_eq]
  exact ⟨rfl, rfl, rfl, rfl, rfl, rfl, rfl, rfl⟩

set_option maxRecDepth 100000 in
set_option maxHeartbeats 1000000 in
theorem round_lo (w : World) (g b t : Nat) (l : List UInt8) (st : Sha.St) (v : Nat → Value) (wr : World) (hlt : t < 16) (T : TypeId) (hg : w.heap[g]? = some (.cells (stK st) T (0, 0)))
    (hr : Ring w none b 153 (ringf l t) wr) (C : Sha.St) (hC : C = Sha.comp (Sha.W l) st t) (K : Act → World → Prop) (hfin : ∀ a w', Inv2 w g b l st (t + 1) a w' → K a w') (Q : Exit → Act → World → Prop) :
    Code.wp Try.prog body2 (Exit.then K Q) ⟨#[.pointer (some ⟨g, 0, none⟩), v 1, v 2, v 3, .pointer (some ⟨b, 0, none⟩), v 5, .int .u32 (u C.a), .int .u32 (u C.b), .int .u32 (u C.c), .int .u32 (u C.d), .int .u32 (u C.e), .int .u32 (u C.f), .int .u32 (u C.g), .int .u32 (u C.h), v 14, v 15, v 16, v 17, v 18, v 19, v 20, v 21, v 22, v 23, v 24, v 25, v 26, v 27, v 28, v 29, v 30, v 31, v 32, v 33, v 34, v 35, v 36, v 37, v 38, v 39, v 40, v 41, v 42, v 43, v 44, v 45, v 46, v 47, v 48, v 49, v 50, v 51, v 52, v 53, v 54, v 55, v 56, v 57, v 58, v 59, v 60, v 61, v 62, v 63, v 64, v 65, v 66, v 67, v 68, v 69, v 70, v 71, v 72, v 73, v 74, v 75, v 76, v 77, v 78, v 79, v 80, v 81, v 82, v 83, v 84, v 85, v 86, v 87, v 88, v 89, v 90, v 91, v 92, v 93, v 94, v 95, .int .i64 (t : Int), v 97, v 98, v 99, v 100, v 101, v 102, v 103, v 104, v 105, v 106, v 107, v 108, v 109, v 110, v 111, v 112, v 113, v 114, v 115, v 116, v 117, v 118, v 119, v 120, v 121, v 122, v 123, v 124, v 125, v 126, v 127, v 128, v 129, v 130, v 131, v 132, v 133, v 134, v 135, v 136, v 137, v 138, v 139, v 140, v 141, v 142, v 143, v 144, v 145, v 146, v 147, v 148, v 149, v 150, v 151, v 152, v 153, v 154, v 155, v 156, v 157, v 158, v 159, v 160, v 161, v 162, v 163, v 164, v 165, v 166, v 167, v 168, v 169, v 170, v 171, v 172, v 173, v 174, v 175, v 176, v 177, v 178, v 179, v 180, v 181, v 182, v 183, v 184, v 185, v 186, v 187, v 188, v 189, v 190, v 191, v 192, v 193, v 194, v 195, v 196, v 197, v 198, v 199, v 200, v 201, v 202, v 203, v 204, v 205, v 206, v 207, v 208, v 209, v 210, v 211, v 212, v 213, v 214, v 215, v 216, v 217, v 218, v 219, v 220, v 221, v 222, v 223, v 224, v 225, v 226, v 227, v 228, v 229, v 230, v 231, v 232, v 233, v 234, v 235], []⟩ wr := by
  have hK := (K_cell hr hg (by simp) (8 + t)).trans (stK_K st t (by omega))
  have hx := hr.cell (t % 16) (by omega)
  have Hr := Lib.hid hr
  have HC := Lib.hid hC
  have Hf := Lib.hid hfin
  clear hr hg hC hfin
  generalize hk : Sha.K.getD t 0 = k at hK
  have Hk := Lib.hid hk
  clear hk
  conv => arg 2; whnf
  go_wp2_with fail
  go_quiet ((go_at_call 108; exact Calls.quiet_of_same (rot_q _ _ (by decide) _)))
  go_wp2_with (go_at_call 108; refine (rot_q _ _ (by decide) _).mono ?_; rintro e w' ⟨rfl, rfl⟩)
  refine Hf.out _ _ ⟨rfl, rfl, rfl, rfl, rfl, ?_, ?_⟩
  · show Words (Sha.rnd (Sha.comp (Sha.W l) st t) (Sha.K.getD t 0) (Sha.W l t)) _ _ _ _ _ _ _ _
    have e : Sha.W l t = ringf l t (t % 16) := by unfold ringf; rw [idx_now t hlt]
    rw [e, Hk.out, ← HC.out]
    exact rnd_words C k _
  · exact (Hr.out.drewN _).congr (fun j hj => by unfold ringf; rw [idx_low t j hlt hj])

set_option maxRecDepth 100000 in
set_option maxHeartbeats 2000000 in
theorem round_hi (w : World) (g b t : Nat) (l : List UInt8) (st : Sha.St) (v : Nat → Value) (wr : World) (h16 : 16 ≤ t) (hlt : t < 64) (T : TypeId) (hg : w.heap[g]? = some (.cells (stK st) T (0, 0))) (hb : w.heap.size ≤ b)
    (hr : Ring w none b 153 (ringf l t) wr) (C : Sha.St) (hC : C = Sha.comp (Sha.W l) st t) (K : Act → World → Prop) (hfin : ∀ a w', Inv2 w g b l st (t + 1) a w' → K a w') (Q : Exit → Act → World → Prop) :
    Code.wp Try.prog body2 (Exit.then K Q) ⟨#[.pointer (some ⟨g, 0, none⟩), v 1, v 2, v 3, .pointer (some ⟨b, 0, none⟩), v 5, .int .u32 (u C.a), .int .u32 (u C.b), .int .u32 (u C.c), .int .u32 (u C.d), .int .u32 (u C.e), .int .u32 (u C.f), .int .u32 (u C.g), .int .u32 (u C.h), v 14, v 15, v 16, v 17, v 18, v 19, v 20, v 21, v 22, v 23, v 24, v 25, v 26, v 27, v 28, v 29, v 30, v 31, v 32, v 33, v 34, v 35, v 36, v 37, v 38, v 39, v 40, v 41, v 42, v 43, v 44, v 45, v 46, v 47, v 48, v 49, v 50, v 51, v 52, v 53, v 54, v 55, v 56, v 57, v 58, v 59, v 60, v 61, v 62, v 63, v 64, v 65, v 66, v 67, v 68, v 69, v 70, v 71, v 72, v 73, v 74, v 75, v 76, v 77, v 78, v 79, v 80, v 81, v 82, v 83, v 84, v 85, v 86, v 87, v 88, v 89, v 90, v 91, v 92, v 93, v 94, v 95, .int .i64 (t : Int), v 97, v 98, v 99, v 100, v 101, v 102, v 103, v 104, v 105, v 106, v 107, v 108, v 109, v 110, v 111, v 112, v 113, v 114, v 115, v 116, v 117, v 118, v 119, v 120, v 121, v 122, v 123, v 124, v 125, v 126, v 127, v 128, v 129, v 130, v 131, v 132, v 133, v 134, v 135, v 136, v 137, v 138, v 139, v 140, v 141, v 142, v 143, v 144, v 145, v 146, v 147, v 148, v 149, v 150, v 151, v 152, v 153, v 154, v 155, v 156, v 157, v 158, v 159, v 160, v 161, v 162, v 163, v 164, v 165, v 166, v 167, v 168, v 169, v 170, v 171, v 172, v 173, v 174, v 175, v 176, v 177, v 178, v 179, v 180, v 181, v 182, v 183, v 184, v 185, v 186, v 187, v 188, v 189, v 190, v 191, v 192, v 193, v 194, v 195, v 196, v 197, v 198, v 199, v 200, v 201, v 202, v 203, v 204, v 205, v 206, v 207, v 208, v 209, v 210, v 211, v 212, v 213, v 214, v 215, v 216, v 217, v 218, v 219, v 220, v 221, v 222, v 223, v 224, v 225, v 226, v 227, v 228, v 229, v 230, v 231, v 232, v 233, v 234, v 235], []⟩ wr := by
  have hK := (K_cell hr hg (by simp) (8 + t)).trans (stK_K st t (by omega))
  have hx0 := hr.cell (t % 16) (by omega)
  have hx1 := hr.cell ((t + 1) % 16) (by omega)
  have hx14 := hr.cell ((t + 14) % 16) (by omega)
  have hx9 := hr.cell ((t + 9) % 16) (by omega)
  have hfz := hr.frozen (t % 16)
  have Hr := Lib.hid hr
  have HC := Lib.hid hC
  have Hf := Lib.hid hfin
  have Hg := Lib.hid hg
  clear hr hg hC hfin
  generalize hk : Sha.K.getD t 0 = k at hK
  have Hk := Lib.hid hk
  clear hk
  conv => arg 2; whnf
  go_wp2_with fail
  go_quiet (fail)
  go_wp2_with fail
  have e1 : (t : Int).tmod 16 = (t : Int) % 16 := Int.tmod_eq_emod_of_nonneg (by omega)
  have e2 : 0 ≤ (t : Int) % 16 := by omega
  have e3 : (t : Int) % 16 < 16 := by omega
  have e4 : ((t : Int) % 16).toNat = t % 16 := by omega
  refine wp_region_still_tail 14 (by kernel_rfl) (by kernel_rfl) ?_
  change wpStill Try.prog _ (World.drew _) (fun a' => wpList Try.prog _ _ _ a' (World.drew _)) _ _
  simp only [List.take_succ_cons, List.take_zero, List.drop_succ_cons, List.drop_zero]
  repeat still_step
  still_call (rot_q _ _ (by decide) _)
  repeat still_step
  still_call (rot_q _ _ (by decide) _)
  repeat still_step
  refine wpStill_nil ?_
  go_wp2_with fail
  generalize hA : ringf l t (t % 16) + (Sha.rotr (ringf l t ((t + 1) % 16)) 7 ^^^ Sha.rotr (ringf l t ((t + 1) % 16)) 18 ^^^ ringf l t ((t + 1) % 16) >>> 3) = A
  have HA := Lib.hid hA
  clear hA
  go_region
  go_wp2_with fail
  refine wp_region_still_tail 14 (by kernel_rfl) (by kernel_rfl) ?_
  change wpStill Try.prog _ (World.drew _) (fun a' => wpList Try.prog _ _ _ a' (World.drew _)) _ _
  simp only [List.take_succ_cons, List.take_zero, List.drop_succ_cons, List.drop_zero]
  repeat still_step
  still_call (rot_q _ _ (by decide) _)
  repeat still_step
  still_call (rot_q _ _ (by decide) _)
  repeat still_step
  refine wpStill_nil ?_
  go_wp2_with fail
  refine wp_world (fun w' => Ring w none b 153 (ringf l (t + 1)) w') ?_ ?_
  · refine Ring.congr (Ring.drew (Ring.drew (Ring.set (Ring.set (Ring.set (Hr.out.drewN (nq + 1)) hb _ _) hb _ _) hb _ _))) (fun j hj => ?_)
    rw [← HA.out, ← W_ring l t h16 hlt]
    by_cases e : j = t % 16
    · simp only [if_pos e]
      unfold ringf
      rw [idx_succ t j h16 hj, if_pos e]
    · simp only [if_neg e]
      unfold ringf
      rw [idx_succ t j h16 hj, if_neg e]
  · intro w5 hr5
    have hK5 := (K_cell hr5 Hg.out (by simp) (8 + t)).trans (stK_K st t (by omega))
    rw [Hk.out] at hK5
    have hx5 := hr5.cell (t % 16) (by omega)
    have Hr5 := Lib.hid hr5
    clear hr5 hx0 hx1 hx14 hx9 hfz hK Hr HA
    go_quiet ((go_at_call 108; exact Calls.quiet_of_same (rot_q _ _ (by decide) _)))
    go_wp2_with (go_at_call 108; refine (rot_q _ _ (by decide) _).mono ?_; rintro e w' ⟨rfl, rfl⟩)
    refine Hf.out _ _ ⟨rfl, rfl, rfl, rfl, rfl, ?_, Hr5.out.drewN _⟩
    show Words (Sha.rnd (Sha.comp (Sha.W l) st t) (Sha.K.getD t 0) (Sha.W l t)) _ _ _ _ _ _ _ _
    have e : Sha.W l t = ringf l (t + 1) (t % 16) := by
      unfold ringf; rw [idx_succ t _ h16 (by omega), if_pos rfl]
    rw [e, Hk.out, ← HC.out]
    exact rnd_words C k _
set_option maxRecDepth 100000 in
theorem inv2_frame {w : World} {g b t : Nat} {l : List UInt8} {st C : Sha.St} {a : Act} {w' : World} (h : Inv2 w g b l st t a w') (hC : C = Sha.comp (Sha.W l) st t) : ∃ v : Nat → Value, a = ⟨#[.pointer (some ⟨g, 0, none⟩), v 1, v 2, v 3, .pointer (some ⟨b, 0, none⟩), v 5, .int .u32 (u C.a), .int .u32 (u C.b), .int .u32 (u C.c), .int .u32 (u C.d), .int .u32 (u C.e), .int .u32 (u C.f), .int .u32 (u C.g), .int .u32 (u C.h), v 14, v 15, v 16, v 17, v 18, v 19, v 20, v 21, v 22, v 23, v 24, v 25, v 26, v 27, v 28, v 29, v 30, v 31, v 32, v 33, v 34, v 35, v 36, v 37, v 38, v 39, v 40, v 41, v 42, v 43, v 44, v 45, v 46, v 47, v 48, v 49, v 50, v 51, v 52, v 53, v 54, v 55, v 56, v 57, v 58, v 59, v 60, v 61, v 62, v 63, v 64, v 65, v 66, v 67, v 68, v 69, v 70, v 71, v 72, v 73, v 74, v 75, v 76, v 77, v 78, v 79, v 80, v 81, v 82, v 83, v 84, v 85, v 86, v 87, v 88, v 89, v 90, v 91, v 92, v 93, v 94, v 95, .int .i64 (t : Int), v 97, v 98, v 99, v 100, v 101, v 102, v 103, v 104, v 105, v 106, v 107, v 108, v 109, v 110, v 111, v 112, v 113, v 114, v 115, v 116, v 117, v 118, v 119, v 120, v 121, v 122, v 123, v 124, v 125, v 126, v 127, v 128, v 129, v 130, v 131, v 132, v 133, v 134, v 135, v 136, v 137, v 138, v 139, v 140, v 141, v 142, v 143, v 144, v 145, v 146, v 147, v 148, v 149, v 150, v 151, v 152, v 153, v 154, v 155, v 156, v 157, v 158, v 159, v 160, v 161, v 162, v 163, v 164, v 165, v 166, v 167, v 168, v 169, v 170, v 171, v 172, v 173, v 174, v 175, v 176, v 177, v 178, v 179, v 180, v 181, v 182, v 183, v 184, v 185, v 186, v 187, v 188, v 189, v 190, v 191, v 192, v 193, v 194, v 195, v 196, v 197, v 198, v 199, v 200, v 201, v 202, v 203, v 204, v 205, v 206, v 207, v 208, v 209, v 210, v 211, v 212, v 213, v 214, v 215, v 216, v 217, v 218, v 219, v 220, v 221, v 222, v 223, v 224, v 225, v 226, v 227, v 228, v 229, v 230, v 231, v 232, v 233, v 234, v 235], []⟩ := by
  subst hC
  refine ⟨G a, (frame_of 236 a h.size h.defs).trans ?_⟩
  obtain ⟨h6, h7, h8, h9, h10, h11, h12, h13⟩ := h.ws
  rw [← h6, ← h7, ← h8, ← h9, ← h10, ← h11, ← h12, ← h13, ← h.s0, ← h.s4, ← h.s96]
  rfl

theorem round_any {w : World} {g b t : Nat} {l : List UInt8} {st : Sha.St} {a : Act} {w' : World} (h : Inv2 w g b l st t a w') (hlt : t < 64) (T : TypeId) (hg : w.heap[g]? = some (.cells (stK st) T (0, 0))) (hb : w.heap.size ≤ b)
    (K : Act → World → Prop) (hfin : ∀ a w', Inv2 w g b l st (t + 1) a w' → K a w') (Q : Exit → Act → World → Prop) : Code.wp Try.prog body2 (Exit.then K Q) a w' := by
  obtain ⟨v, ha⟩ := inv2_frame h rfl
  have hr := h.ring
  rw [ha]
  by_cases h16 : t < 16
  · exact round_lo w g b t l st v w' h16 T hg hr _ rfl K hfin Q
  · exact round_hi w g b t l st v w' (by omega) hlt T hg hb hr _ rfl K hfin Q
end Go.Proofs.Ytljnadbfadgglaa
