/- witanlaw08.alike. Condition: not above 40 signatures. -/
import Derived.Test.YtljnadbfadgglaaRCer
namespace Go.Proofs.Ytljnadbfadgglaa
open Go.RowKit
set_option maxRecDepth 100000
set_option linter.unusedVariables false
set_option linter.unusedSimpArgs false

set_option maxHeartbeats 2000000 in
theorem alike_any (B : Option Addr) (m d : Nat) (sg : List St) (w : World) (hG : Seats w B m d sg) (hm : m ≤ 40) :
    Calls Try.prog 40 #[.slice B m d] w fun r w' => (∃ A' c', r = .returned (.slice A' m c') ∧ OwnP 105 w' w.heap.size (.slice A' m c') sg) ∧ Below w.heap.size w w' := by
  obtain ⟨i0, hi0, hz0, hz1, hz2⟩ := info_parts info_signed8
  have Hi0 := Lib.hid hi0
  have Hz0 := Lib.hid hz0
  have Hz1 := Lib.hid hz1
  have Hz2 := Lib.hid hz2
  clear hi0 hz0 hz1 hz2
  have HG := Lib.hid hG
  have HML := Lib.hid hG.1
  clear hG
  go_enter Try.func40, Try.ntmps40
  go_wp2_with fail
  go_loopw [3, 4] (fun v i wr => ∃ (k : Nat), k ≤ m ∧ i = .int .i64 k ∧ Hid (wr.ownsRow w.heap.size 105 2 v k (seatCells (sg.take k))) ∧ Hid (Below w.heap.size w wr)) (fun _ i _ => m - (intOf i).toNat)
  case atStart => exact ⟨0, by omega, rfl, Lib.hid (World.ownsRow_nil _ _ _ _), Lib.hid (Below.refl _ _)⟩
  case round =>
    obtain ⟨k, hk, rfl, ho, hbel⟩ := hrel
    by_cases hkm : k < m
    · have n0 : 0 ≤ (k : Int) := by omega
      have n1 : (k : Int) < (m : Int) := by omega
      obtain ⟨b, off, rfl, hb, hcs⟩ := HG.out.at k hkm
      have ca := (hbel.out.cell (p := ⟨b, off + k * 2, none⟩) hb).trans (hcs k hkm).1
      have cb := (hbel.out.cell (p := ⟨b, off + k * 2 + 1, none⟩) hb).trans (hcs k hkm).2
      have HT : Hid (sg.take (k + 1) = sg.take k ++ [sg.getD k (0, ByteArray.empty)]) := Lib.hid (by
        have hl : k < sg.length := by have := HML.out; omega
        rw [List.take_succ_eq_append_getElem hl, List.getD_eq_getElem?_getD, List.getElem?_eq_getElem hl]
        rfl)
      have hpe : Hid (sg.getD k (0, ByteArray.empty) = ((sg.getD k (0, ByteArray.empty)).1, (sg.getD k (0, ByteArray.empty)).2)) := Lib.hid rfl
      generalize (sg.getD k (0, ByteArray.empty)).1 = id at ca hpe
      generalize (sg.getD k (0, ByteArray.empty)).2 = s at cb hpe
      have hz : w.heap.size ≤ wr.heap.size := hbel.out.size
      obtain ⟨VA, VC, rfl⟩ := own_shape ho.out
      clear hcs hkm
      go_wp2_with fail
      go_region_law (first
        | (refine step_app (by rfl) (.tmp 11) (.tmp 23) 67 (by rfl) w.heap.size 105 i0 _ 2 24 Try.underlying67 Hi0.out Hz0.out Hz1.out Hz2.out rfl (by omega) _ _ _ (by rfl) ((ho.out.alloc _).drew) ⟨wr.heap.size, 0, none⟩ 1 1 [_, _] (by rfl) (by rfl) (World.news_of_block (cs := #[_, _]) (t := 105) (fr := (0, 0)) (heap_alloc_new wr _)) (by simp [Value.oneCell']) (by unfold maxLen; omega) (by omega) (by simp; omega) ?_; intro v1 w8 hown1 hg1; obtain ⟨VA2, VC2, rfl⟩ := own_shape hown1))
      all_goals
        have hbA : Below w.heap.size w (wr.alloc (.cells #[.int .i64 id, .string s] 105)).drew := (hbel.out.alloc hz _).drew
        have hb8 := Lib.hid (hbA.grown hg1 (by simp; omega) (fun kk hk => (World.ownsRow.lt ho.out kk hk).1))
        have ho8 : Hid (w8.ownsRow w.heap.size 105 2 (.slice VA2 (k + 1) VC2) (k + 1) (seatCells (sg.take (k + 1)))) := Lib.hid (by
          rw [HT.out, hpe.out, seatCells_snoc]
          exact hown1)
        clear hbA hown1 hg1 ca cb ho hbel hz
        go_wp2_with fail
        exact ⟨⟨k + 1, by omega, by go_num, ho8, hb8⟩, by simp [intOf]; omega⟩
    · obtain rfl : k = m := by omega
      obtain ⟨VA, VC, rfl⟩ := own_shape ho.out
      have hfin : OwnP 105 wr w.heap.size (.slice VA k VC) sg := by
        have := ho.out
        rw [List.take_of_length_le (by have := HML.out; omega)] at this
        unfold OwnP
        rw [HML.out]
        exact this
      have HF := Lib.hid hfin
      clear hfin hkm
      go_wp2_with fail
      go_ret
      exact ⟨⟨VA, VC, rfl, HF.out⟩, hbel.out⟩
end Go.Proofs.Ytljnadbfadgglaa
