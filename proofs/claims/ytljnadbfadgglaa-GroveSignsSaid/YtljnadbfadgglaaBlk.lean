/- One block of SHA-256, whole: what block does to the state that it is handed. -/
import Derived.Test.YtljnadbfadgglaaBlk2
import Derived.Test.YtljnadbfadgglaaBlk3
import Derived.Deep.LoopGhost
namespace Go.Proofs.Ytljnadbfadgglaa
open Go.RowKit
set_option maxRecDepth 100000
attribute [local go_sem] byte_u u_wrap u_xor u_and u_or u_add u_shl24 u_shl16 u_shl8 u_shr3 u_shr10

set_option maxRecDepth 100000 in
set_option maxHeartbeats 1000000 in
theorem block_any (g : Nat) (s : ByteArray) (hs : s.size = 64) (w : World) (st : Sha.St) (hg : w.heap[g]? = some (.cells (stK st) 132 (0, 0))) :
    Calls Try.prog 90 #[.pointer (some ⟨g, 0, none⟩), .string s] w fun e w' => e = .returned (.tuple #[]) ∧ Out w g 132 (Sha.blk st s.data.toList) w' := by
  have hs' : (s.size : Int) = 64 := by omega
  have hglt : g < w.heap.size := (Array.getElem?_eq_some_iff.1 hg).1
  have Hg := Lib.hid hg
  clear hg
  go_enter Try.func90, Try.ntmps90
  go_wp2
  go_loopw [21] (fun i wr => ∃ k : Nat, k ≤ 16 ∧ i = .int .i64 k ∧ Ring w none w.heap.size 153 (fun j => if j < k then Sha.word s.data.toList j else 0) wr) (fun i _ => 16 - (intOf i).toNat)
  case atStart =>
    refine ⟨0, by omega, rfl, ?_, World.grownBy_alloc _ _ _⟩
    rw [heap_alloc_new]; rfl
  case round =>
    obtain ⟨k, hk, rfl, hr⟩ := hrel
    by_cases hlt : k < 16
    · have hcell := hr.cell k hlt
      have hfz := hr.frozen k
      have Hr := Lib.hid hr
      clear hr
      go_wp2
      go_region
      go_wp2
      go_roundw
      case rel =>
        rw [word_byW]
        refine ⟨k + 1, by omega, by go_num, ((Hr.out.set (Nat.le_refl _) k _).drew).congr (fun j hj => ?_)⟩
        by_cases e : j = k
        · subst e; simp
        · simp only [if_neg e]
          by_cases e2 : j < k
          · rw [if_pos e2, if_pos (by omega)]
          · rw [if_neg e2, if_neg (by omega)]
      case measure => simp [intOf]; omega
    · obtain rfl : k = 16 := by omega
      have hr2 : Ring w none w.heap.size 153 (ringf s.data.toList 0) wr := hr.congr (fun j hj => by rw [if_pos hj]; unfold ringf idx; rw [if_pos (by omega), W_first _ _ hj])
      obtain ⟨hc0, hc1, hc2, hc3, hc4, hc5, hc6, hc7⟩ := st_cells hr2 Hg.out (by simp)
      have Hr2 := Lib.hid hr2
      clear hr hr2 hlt hk
      go_wp2
      go_region
      go_wp2
      go_region
      go_wp2
      clear hc0 hc1 hc2 hc3 hc4 hc5 hc6 hc7
      refine wp_loop_ghost (fun n a w' => n ≤ 64 ∧ Inv2 w g w.heap.size s.data.toList st (64 - n) a w') 64 ?_ ?_
      · exact ⟨Nat.le_refl _, rfl, rfl, rfl, rfl, rfl, ⟨rfl, rfl, rfl, rfl, rfl, rfl, rfl, rfl⟩, Hr2.out.drew.drew⟩
      intro n a w6 hI
      obtain ⟨hn, hI⟩ := hI
      by_cases h0 : n = 0
      · subst h0
        generalize hC : Sha.comp (Sha.W s.data.toList) st 64 = C
        obtain ⟨v, ha⟩ := inv2_frame hI hC.symm
        have HC := Lib.hid hC
        have Hout : Out w g 132 (words3 st C 0) w6 := Out.congr ⟨World.grownBy_row hI.ring.2, (hI.ring.2.block g hglt (by simp)).trans Hg.out⟩ (fun j hj => by unfold words3; rw [at_St _ _ hj, if_neg (by omega)])
        have HO := Lib.hid Hout
        clear hC hI Hr2 Hout hn
        subst ha
        go_wp2_with fail
        refine wp_loop_ghost (fun n a w' => n ≤ 8 ∧ Inv3 w g st C (8 - n) a w') 8 ?_ ?_
        · exact ⟨Nat.le_refl _, rfl, rfl, rfl, rfl, rfl, HO.out⟩
        intro n a w7 hI
        obtain ⟨hn, hI⟩ := hI
        by_cases h0 : n = 0
        · subst h0
          obtain ⟨v, ha⟩ := inv3_frame hI
          have ho2 : Out w g 132 (Sha.blk st s.data.toList) w7 := hI.out.congr (fun j hj => by unfold words3; rw [at_St _ _ hj, if_pos (by omega), ← HC.out]; exact at_add _ _ _ hj)
          clear hI hn
          subst ha
          go_wp2
          go_end0
          exact ⟨rfl, ho2⟩
        · refine round3 hI (by omega) _ (fun a' w' h' => ?_) _
          exact ⟨n - 1, by omega, by omega, by rw [show 8 - (n - 1) = 8 - n + 1 by omega]; exact h'⟩
      · refine round_any hI (by omega) _ Hg.out (Nat.le_refl _) _ (fun a' w' h' => ?_) _
        exact ⟨n - 1, by omega, by omega, by rw [show 64 - (n - 1) = 64 - n + 1 by omega]; exact h'⟩
end Go.Proofs.Ytljnadbfadgglaa
