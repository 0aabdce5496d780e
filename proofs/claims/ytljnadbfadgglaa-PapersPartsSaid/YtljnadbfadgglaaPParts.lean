/- PapersParts: to walk a chain is to walk its beginning, and the rest from there -/
import Derived.Test.YtljnadbfadgglaaPrt
import Derived.Test.YtljnadbfadgglaaS2
namespace Go.Proofs.Ytljnadbfadgglaa
open Go.ChangeShapes Go.WideShapes Go.ChangeAt Go.RowKit
open Go.ChangeMaps (open_string shut_string)
set_option maxRecDepth 100000
set_option linter.unusedVariables false
set_option linter.unusedSimpArgs false

namespace PapersParts

set_option maxHeartbeats 16000000 in
theorem walk (e : Int) (A : Option Addr) (n c : Nat) (l : List St) {W : World} (hS : Seats W A n c l) (CA : Option Addr) (m d : Nat) (ss : List ByteArray) (hT : IsTexts W CA m d ss) (a : Int) (_ : (Lit.int .i64 a).wf = true) (_ : World) :
    Calls Try.prog 12 #[.agg #[.int .i64 e, .slice A n c], .slice CA m d, .int .i64 a] W fun r w' => r = .returned (.bool true) ∧ Below W.heap.size W w' := by
  obtain ⟨hX, hm63⟩ := hT.sizes
  have hTT := hT.texts
  have hmd : m ≤ d := hTT.2.1
  have hlx : (ss.take m).length = m := hTT.1
  have HT := Lib.hid hTT
  have HX := Lib.hid hX
  have HS := Lib.hid hS
  generalize ss.take m = xs at HT HX hX hlx hTT
  have HLX := Lib.hid hlx
  clear hS hT hX hTT hlx
  go_enter Try.func12, Try.ntmps12
  go_wp2_with fail
  have hp0 := heap_alloc_new W (.cells #[.int .i64 e, .slice A n c] 50)
  have hB0 : Below W.heap.size W (W.alloc (.cells #[.int .i64 e, .slice A n c] 50)) := (Below.refl _ _).alloc (Nat.le_refl _) _
  have hz0 : W.heap.size < (W.alloc (.cells #[.int .i64 e, .slice A n c] 50)).heap.size := by simp
  generalize W.alloc (.cells #[.int .i64 e, .slice A n c] 50) = w0 at hp0 hB0 hz0 ⊢
  refine (lives8 w0).mono ?_
  rintro r w1 ⟨rfl, hb1⟩
  have HP1 := Lib.hid ((hb1.block _ hz0).trans hp0)
  have HBW1 := Lib.hid (hB0.trans (hb1.mono (by omega)))
  have hz1 : W.heap.size < w1.heap.size := by have := hb1.size; omega
  clear hb1 hp0 hB0
  rcases Nat.lt_or_ge 20 m with hm | hm
  · have hm1 : (20 : Int) < (m : Int) := by omega
    go_wp2_with fail
    refine (lives8 w1).mono ?_
    rintro r w2 ⟨rfl, hb2⟩
    have HB2 := Lib.hid (HBW1.out.trans (hb2.mono (by omega)))
    clear hb2
    go_wp2_with fail
    go_ret
    exact ⟨rfl, HB2.out⟩
  have hm1 : (m : Int) ≤ 20 := by omega
  obtain ⟨k, hk, ek⟩ := mod_nat a m
  have hkm : (k : Int) ≤ (m : Int) := by omega
  have hkd : (k : Int) ≤ (d : Int) := by omega
  have hk0 : 0 ≤ (k : Int) := by omega
  have c0 := cell_of_row w1 W.heap.size 0 _ _ _ HP1.out
  have c1 := cell_of_row w1 W.heap.size 1 _ _ _ HP1.out
  simp at c0 c1
  have HPT := walk_parts e l xs k (by rw [HLX.out]; exact hk)
  have HXA : Hid (∀ i, i < k → ((xs.take k).getD i ByteArray.empty).size ≤ maxLen) := Lib.hid (fun i hi => by
    have := HX.out i (by omega)
    rw [List.getD_eq_getElem?_getD] at this ⊢
    rwa [List.getElem?_take, if_pos hi])
  have HXB : Hid (∀ i, i < m - k → ((xs.drop k).getD i ByteArray.empty).size ≤ maxLen) := Lib.hid (fun i hi => by
    have := HX.out (k + i) (by omega)
    rw [List.getD_eq_getElem?_getD] at this ⊢
    rwa [List.getElem?_drop])
  have HCL := fun (pe : Int) (pl : List St) => Lib.hid (walkF_le pe pl (xs.drop k))
  have HW1 := Lib.hid (pwalk_any e A n c l CA m d xs w1 (HS.out.keep HBW1.out) (HT.out.keep HBW1.out) hm63 HX.out)
  have HW2 := Lib.hid (fun w' (hb : Below W.heap.size W w') => pwalk_any e A n c l CA k d (xs.take k) w' (HS.out.keep hb) ((HT.out.keep hb).front k hk) (by omega) HXA.out)
  have HW3 := Lib.hid (fun (A' : Option Addr) (hA : A' = if d = k then CA else CA.map (·.add k)) (pe : Int) (PA : Option Addr) (pn pc : Nat) (pl : List St) w' (hb : Below W.heap.size W w') (hp : Seats w' PA pn pc pl) => pwalk_any pe PA pn pc pl A' (m - k) (d - k) (xs.drop k) w' hp ((HT.out.keep hb).rest k hk hA) (by omega) HXB.out)
  generalize walkF e l xs = F at HW1 HPT
  generalize walkF e l (xs.take k) = G at HW2 HPT
  go_wp2_with fail
  refine HW1.out.mono ?_
  rintro r w2 ⟨⟨RA, RC, rfl, hra⟩, hb2⟩
  have HRA2 := Lib.hid hra.seats
  have HP2 := Lib.hid ((hb2.block _ hz1).trans HP1.out)
  have HBW2 := Lib.hid (HBW1.out.trans (hb2.mono (by omega)))
  have hz2 := hb2.size
  clear hb2 hra c0 c1 HW1 HBW1 HP1
  have hal : Below w2.heap.size w2 (w2.alloc (.cells #[.int .i64 F.1.1, .slice RA F.1.2.length RC] 50)) := (Below.refl _ _).alloc (Nat.le_refl _) _
  have HRA3 := Lib.hid (HRA2.out.keep hal)
  have HQ3 := Lib.hid (heap_alloc_new w2 (.cells #[.int .i64 F.1.1, .slice RA F.1.2.length RC] 50))
  have HP3 := Lib.hid ((hal.block _ (by omega)).trans HP2.out)
  have HBW3 := Lib.hid (HBW2.out.trans (hal.mono (by omega)))
  have hz3 : w2.heap.size < (w2.alloc (.cells #[.int .i64 F.1.1, .slice RA F.1.2.length RC] 50)).heap.size := by simp
  go_wp2_with fail
  obtain ⟨ab, hab⟩ : ∃ ab, ab = w2.heap.size := ⟨_, rfl⟩
  rw [← hab] at HQ3 hz3 hz2
  rw [← hab]
  generalize w2.alloc (.cells #[.int .i64 F.1.1, .slice RA F.1.2.length RC] 50) = w3 at HRA3 HQ3 HP3 HBW3 hz3 hal ⊢
  clear hab hal HRA2 HP2 HBW2
  have HWA : Hid (∀ w', Below w3.heap.size w3 w' → Calls Try.prog 36 #[.agg #[.int .i64 e, .slice A n c], .slice CA k d] w' fun r w'' => WalkOut w' G w'' r ∧ Below w'.heap.size w' w'') := Lib.hid (fun w' hb => HW2.out w' (HBW3.out.trans (hb.mono (by omega))))

  have hdr : Below w3.heap.size w3 w3.drew := ⟨rfl, rfl, rfl, Nat.le_refl _, fun _ _ => rfl⟩
  have hqa : Below w3.heap.size w3 (w3.alloc (.cells #[.int .i64 0, .slice none 0 0] 50)) := (Below.refl _ _).alloc (Nat.le_refl _) _
  have hda : Below w3.heap.size w3 (w3.alloc (.cells #[.int .i64 0, .slice none 0 0] 50)).drew := ⟨hqa.os, hqa.tape, hqa.output, hqa.size, hqa.block⟩
  have c0 := cell_of_row w3 W.heap.size 0 _ _ _ HP3.out
  have c1 := cell_of_row w3 W.heap.size 1 _ _ _ HP3.out
  simp at c0 c1
  have hwl3 : W.heap.size < w3.heap.size := by omega
  have e0 := (hqa.cell (p := ⟨W.heap.size, 0, none⟩) hwl3).trans c0
  have e1 := (hqa.cell (p := ⟨W.heap.size, 1, none⟩) hwl3).trans c1
  go_wp2_with fail
  go_region_law ((go_simp; go_at_call 36; first | (refine (HWA.out w3.drew hdr).mono ?_; rintro r w4 ⟨⟨QA5, QC5, rfl, hq⟩, hb4⟩; have hb4 : Below w3.heap.size w3 w4 := ⟨hb4.os, hb4.tape, hb4.output, hb4.size, hb4.block⟩) | (refine (HWA.out (w3.alloc (.cells #[.int .i64 0, .slice none 0 0] 50)).drew hda).mono ?_; rintro r w4 ⟨⟨QA5, QC5, rfl, hq⟩, hb4⟩; have hbd : Below (w3.alloc (.cells #[.int .i64 0, .slice none 0 0] 50)).heap.size (w3.alloc (.cells #[.int .i64 0, .slice none 0 0] 50)) w4 := ⟨hb4.os, hb4.tape, hb4.output, hb4.size, hb4.block⟩; have hq4 := (hbd.block w3.heap.size (by simp)).trans (heap_alloc_new w3 (.cells #[.int .i64 0, .slice none 0 0] 50)); have q0 := cell_of_row w4 w3.heap.size 0 _ _ _ hq4; have q1 := cell_of_row w4 w3.heap.size 1 _ _ _ hq4; have qf0 := frozen_of_row w4 w3.heap.size 0 _ _ hq4; have qf1 := frozen_of_row w4 w3.heap.size 1 _ _ hq4; simp at q0 q1)))
  all_goals
    first
    | have hz4 := hb4.size
      have hal : Below w4.heap.size w4 (w4.alloc (.cells #[.int .i64 G.1.1, .slice QA5 G.1.2.length QC5] 50)) := (Below.refl _ _).alloc (Nat.le_refl _) _
      have hbc := hb4.trans (hal.mono hz4)
      have HS5 := Lib.hid (hq.seats.keep hal)
      have HN5 := Lib.hid (heap_alloc_new w4 (.cells #[.int .i64 G.1.1, .slice QA5 G.1.2.length QC5] 50))
      have hz5 : w4.heap.size < (w4.alloc (.cells #[.int .i64 G.1.1, .slice QA5 G.1.2.length QC5] 50)).heap.size := by simp
      generalize w4.alloc (.cells #[.int .i64 G.1.1, .slice QA5 G.1.2.length QC5] 50) = w5 at hbc HS5 HN5 hz5 ⊢
      obtain ⟨bb, hnbe⟩ : ∃ bb, bb = w4.heap.size := ⟨_, rfl⟩
      have hnb5 : w3.heap.size ≤ bb := by omega
      rw [← hnbe] at HN5 hz5
      rw [← hnbe]
      clear hal hnbe hb4 hq hz4
    | obtain ⟨hs1, hs2⟩ := set_two w4 w3.heap.size _ _ _ (.int .i64 G.1.1) (.slice QA5 G.1.2.length QC5) hq4
      have hbb : Below w3.heap.size w3 w4 := hqa.trans (hbd.mono (by simp))
      have hz4 : w3.heap.size < w4.heap.size := by have := hbd.size; simp at this; omega
      have hql : ∀ ad, QA5 = some ad → w3.heap.size < ad.block := fun ad hk => by subst hk; have := (World.ownsRow.lt hq ad.block rfl).1; simp at this; omega
      have HS5 := Lib.hid (hq.seats.other hs2 (fun ad hk e => by have h1 := hql ad hk; have h2 := Option.some.inj e; omega))
      have hbc := hbb.grown hs2 (by omega) (fun kk h => by have := Option.some.inj h; omega)
      have hz5 : w3.heap.size < ((w4.setCell ⟨w3.heap.size, 0, none⟩ (.int .i64 G.1.1)).setCell ⟨w3.heap.size, 1, none⟩ (.slice QA5 G.1.2.length QC5)).heap.size := by have := hs2.size; omega
      have HN5 := Lib.hid hs1
      generalize (w4.setCell ⟨w3.heap.size, 0, none⟩ (.int .i64 G.1.1)).setCell ⟨w3.heap.size, 1, none⟩ (.slice QA5 G.1.2.length QC5) = w5 at hbc HS5 HN5 hz5 ⊢
      obtain ⟨bb, hnbe⟩ : ∃ bb, bb = w3.heap.size := ⟨_, rfl⟩
      have hnb5 : w3.heap.size ≤ bb := by omega
      rw [← hnbe] at HN5 hz5
      rw [← hnbe]
      clear hs1 hs2 hq4 hbd q0 q1 qf0 qf1 hql hbb hnbe hb4 hq hz4
    clear hqa hda hdr
    clear c0 c1 e0 e1 HWA HW2
    have HRA5 := Lib.hid (HRA3.out.keep hbc)
    have HQ5 := Lib.hid ((hbc.block ab hz3).trans HQ3.out)
    have HBW5 := Lib.hid (HBW3.out.trans (hbc.mono (by omega)))
    have hzz5 := hbc.size
    clear hbc HP3 HQ3 HBW3 HRA3
    have p0 := cell_of_row w5 ab 0 _ _ _ HQ5.out
    have p1 := cell_of_row w5 ab 1 _ _ _ HQ5.out
    have b0 := cell_of_row w5 bb 0 _ _ _ HN5.out
    have b1 := cell_of_row w5 bb 1 _ _ _ HN5.out
    simp at p0 p1 b0 b1
    rcases HPT with ⟨hne, hF, hlt⟩ | ⟨he0, hcnt, hF⟩
    · subst hF
      have hne1 : (F.2.2 != 0) = true := by simpa using hne
      have HSM := Lib.hid (same_yes F.1.1 RA QA5 F.1.2.length RC QC5 F.1.2 w5 HRA5.out HS5.out)
      rcases Nat.lt_or_ge F.2.1 k with hl | hl
      · have hl1 : (F.2.1 : Int) < (k : Int) := by omega
        go_wp2_with fail
        refine HSM.out.mono ?_
        rintro r w6 ⟨rfl, hb6⟩
        have HB6 := Lib.hid (HBW5.out.trans (hb6.mono (by omega)))
        clear hb6 HSM
        go_wp2_with fail
        go_ret
        exact ⟨rfl, HB6.out⟩
      · have hl0 : F.2.1 = 0 := by omega
        have hk00 : k = 0 := by omega
        subst hk00
        have hl1 : (F.2.1 : Int) = 0 := by omega
        rw [hl0]
        go_wp2_with fail
        go_ret
        exact ⟨rfl, HBW5.out⟩
    · have hF1 : F.1 = (walkF G.1.1 G.1.2 (xs.drop k)).1 := by rw [hF]
      have hFn : (F.2.1 : Int) = (k : Int) + ((walkF G.1.1 G.1.2 (xs.drop k)).2.1 : Int) := by rw [hF]; simp
      have hFe : F.2.2 = (walkF G.1.1 G.1.2 (xs.drop k)).2.2 := by rw [hF]
      have hle := (HCL G.1.1 G.1.2).out
      rw [List.length_drop, HLX.out] at hle
      have HW4 := Lib.hid (fun (A' : Option Addr) (hA : A' = if d = k then CA else CA.map (·.add k)) w' (hb : Below w5.heap.size w5 w') => HW3.out A' hA G.1.1 QA5 G.1.2.length QC5 G.1.2 w' (HBW5.out.trans (hb.mono (by omega))) (HS5.out.keep hb))
      rw [hF1] at HQ5 HRA5 p0 p1
      rw [hFn, hFe, he0, hcnt]
      generalize walkF G.1.1 G.1.2 (xs.drop k) = C at *
      clear hF hF1 hFn hFe he0 hcnt
      have hsum0 : 0 ≤ (k : Int) + (C.2.1 : Int) := by omega
      have hsum1 : (k : Int) + (C.2.1 : Int) ≤ 20 := by omega
      clear HW3 HCL
      have HWB : Hid (∀ w', Below w5.heap.size w5 w' → Calls Try.prog 36 #[.agg #[.int .i64 G.1.1, .slice QA5 G.1.2.length QC5], .slice (if d = k then CA else Option.map (fun x => x.add k) CA) (m - k) (d - k)] w' fun r w'' => WalkOut w' C w'' r ∧ Below w'.heap.size w' w'') := Lib.hid (fun w' hb => HW4.out _ rfl w' hb)
      clear HW4
      have hdr : Below w5.heap.size w5 w5.drew := ⟨rfl, rfl, rfl, Nat.le_refl _, fun _ _ => rfl⟩
      have hqa : Below w5.heap.size w5 (w5.alloc (.cells #[.int .i64 0, .slice none 0 0] 50)) := (Below.refl _ _).alloc (Nat.le_refl _) _
      have hda : Below w5.heap.size w5 (w5.alloc (.cells #[.int .i64 0, .slice none 0 0] 50)).drew := ⟨hqa.os, hqa.tape, hqa.output, hqa.size, hqa.block⟩
      have b2 := (hqa.cell (p := ⟨bb, 0, none⟩) hz5).trans b0
      have b3 := (hqa.cell (p := ⟨bb, 1, none⟩) hz5).trans b1
      go_wp2_with fail
      go_region_law ((go_simp; go_at_call 36; first | (refine (HWB.out w5.drew hdr).mono ?_; rintro r w8 ⟨⟨QA8, QC8, rfl, hq⟩, hb4⟩; have hb4 : Below w5.heap.size w5 w8 := ⟨hb4.os, hb4.tape, hb4.output, hb4.size, hb4.block⟩) | (refine (HWB.out (w5.alloc (.cells #[.int .i64 0, .slice none 0 0] 50)).drew hda).mono ?_; rintro r w8 ⟨⟨QA8, QC8, rfl, hq⟩, hb4⟩; have hbd : Below (w5.alloc (.cells #[.int .i64 0, .slice none 0 0] 50)).heap.size (w5.alloc (.cells #[.int .i64 0, .slice none 0 0] 50)) w8 := ⟨hb4.os, hb4.tape, hb4.output, hb4.size, hb4.block⟩; have hq4 := (hbd.block w5.heap.size (by simp)).trans (heap_alloc_new w5 (.cells #[.int .i64 0, .slice none 0 0] 50)); have q0 := cell_of_row w8 w5.heap.size 0 _ _ _ hq4; have q1 := cell_of_row w8 w5.heap.size 1 _ _ _ hq4; have qf0 := frozen_of_row w8 w5.heap.size 0 _ _ hq4; have qf1 := frozen_of_row w8 w5.heap.size 1 _ _ hq4; simp at q0 q1)))
      all_goals
        first
        | have hz4 := hb4.size
          have hal : Below w8.heap.size w8 (w8.alloc (.cells #[.int .i64 C.1.1, .slice QA8 C.1.2.length QC8] 50)) := (Below.refl _ _).alloc (Nat.le_refl _) _
          have hbc := hb4.trans (hal.mono hz4)
          have HS8 := Lib.hid (hq.seats.keep hal)
          have HN8 := Lib.hid (heap_alloc_new w8 (.cells #[.int .i64 C.1.1, .slice QA8 C.1.2.length QC8] 50))
          have hz8 : w8.heap.size < (w8.alloc (.cells #[.int .i64 C.1.1, .slice QA8 C.1.2.length QC8] 50)).heap.size := by simp
          generalize w8.alloc (.cells #[.int .i64 C.1.1, .slice QA8 C.1.2.length QC8] 50) = w9 at hbc HS8 HN8 hz8 ⊢
          obtain ⟨cb, hnbe⟩ : ∃ cb, cb = w8.heap.size := ⟨_, rfl⟩
          have hnb8 : w5.heap.size ≤ cb := by omega
          rw [← hnbe] at HN8 hz8
          rw [← hnbe]
          clear hal hnbe hb4 hq hz4
        | obtain ⟨hs1, hs2⟩ := set_two w8 w5.heap.size _ _ _ (.int .i64 C.1.1) (.slice QA8 C.1.2.length QC8) hq4
          have hbb : Below w5.heap.size w5 w8 := hqa.trans (hbd.mono (by simp))
          have hz4 : w5.heap.size < w8.heap.size := by have := hbd.size; simp at this; omega
          have hql : ∀ ad, QA8 = some ad → w5.heap.size < ad.block := fun ad hk => by subst hk; have := (World.ownsRow.lt hq ad.block rfl).1; simp at this; omega
          have HS8 := Lib.hid (hq.seats.other hs2 (fun ad hk e => by have h1 := hql ad hk; have h2 := Option.some.inj e; omega))
          have hbc := hbb.grown hs2 (by omega) (fun kk h => by have := Option.some.inj h; omega)
          have hz8 : w5.heap.size < ((w8.setCell ⟨w5.heap.size, 0, none⟩ (.int .i64 C.1.1)).setCell ⟨w5.heap.size, 1, none⟩ (.slice QA8 C.1.2.length QC8)).heap.size := by have := hs2.size; omega
          have HN8 := Lib.hid hs1
          generalize (w8.setCell ⟨w5.heap.size, 0, none⟩ (.int .i64 C.1.1)).setCell ⟨w5.heap.size, 1, none⟩ (.slice QA8 C.1.2.length QC8) = w9 at hbc HS8 HN8 hz8 ⊢
          obtain ⟨cb, hnbe⟩ : ∃ cb, cb = w5.heap.size := ⟨_, rfl⟩
          have hnb8 : w5.heap.size ≤ cb := by omega
          rw [← hnbe] at HN8 hz8
          rw [← hnbe]
          clear hs1 hs2 hq4 hbd q0 q1 qf0 qf1 hql hbb hnbe hb4 hq hz4
        clear hqa hda hdr
        obtain ⟨SL, hSL⟩ : ∃ SL, SL = (if d = k then CA else Option.map (fun x => x.add k) CA) := ⟨_, rfl⟩
        rw [← hSL]
        clear hSL
        have HRA9 := Lib.hid (HRA5.out.keep hbc)
        have HQ9 := (hbc.block ab (by omega)).trans HQ5.out
        have HBW9 := Lib.hid (HBW5.out.trans (hbc.mono (by omega)))
        have HSM := Lib.hid (same_yes C.1.1 RA QA8 C.1.2.length RC QC8 C.1.2 w9 HRA9.out HS8.out)
        have hz9 := HBW9.out.size
        clear p0 p1 b0 b1 b2 b3 hbc HWB
        have p0 := cell_of_row w9 ab 0 _ _ _ HQ9
        have p1 := cell_of_row w9 ab 1 _ _ _ HQ9
        have b0 := cell_of_row w9 cb 0 _ _ _ HN8.out
        have b1 := cell_of_row w9 cb 1 _ _ _ HN8.out
        simp at p0 p1 b0 b1
        clear HQ9
        go_wp2_with fail
        refine HSM.out.mono ?_
        rintro r w10 ⟨rfl, hb10⟩
        have HB10 := Lib.hid (HBW9.out.trans (hb10.mono hz9))
        clear hb10 HSM
        go_wp2_with fail
        go_ret
        exact ⟨rfl, HB10.out⟩

/-! ### The row's step -/
set_option maxRecDepth 100000 in
theorem lifted (os : Os) (started : os.Started) (H : Type) (enc : TypeId × Value → H) :
    ReturnsInHanded {} Try.checked os 12 .any (Rows.papersPartsSpec.pre6 enc Try.prog Try.f12 Rows.papersPartsRow.domain false) (Rows.papersPartsSpec.post enc Try.prog Try.f12 false true false false) := by
  refine returnsInHanded_of_change (C := Try.checked) own started (by kernel_rfl) Try.func12
    (ChangeSpec.witness6 (enc := enc) (C := Try.checked) false ⟨#[], #[.agg #[.int .i64 0, .slice none 0 0], .slice none 0 0, .int .i64 0], []⟩ 8 (by kernel_rfl) (by kernel_rfl) (by kernel_rfl) (by kernel_rfl)) ?_
  intro W base args ds gs before hval0 hW hcnd _
  have hval : ∀ (j : Nat) t v, Try.f12.params[j]? = some t → args[j]? = some v → Value.okWide Try.prog W .any base t v := hval0
  have hW' := hW
  obtain ⟨p, q, hA0, hV, rfl, hfz, hnd⟩ := hW
  have hA : DataW.TrodAll enc Try.prog W 0 (fun _ => true) true Try.f12.params.toList args.toList ds p := hA0
  rw [Try.params12] at hA hval
  obtain ⟨v0, vs0, d0, ds0, p0, q0, hargs, rfl, rfl, h0, r0⟩ := trodAll_cons hA
  obtain ⟨v1, vs1, d1, ds1, p1, q1, rfl, rfl, rfl, h1, r1⟩ := trodAll_cons r0
  obtain ⟨v2, vs2, d2, ds2, p2, q2, rfl, rfl, rfl, h2, r2⟩ := trodAll_cons r1
  obtain ⟨rfl, rfl, rfl⟩ := trodAll_nil r2
  obtain rfl : args = #[v0, v1, v2] := by cases args; simp_all
  obtain ⟨rfl, rfl⟩ := trodVars_none hV
  obtain ⟨e0, A0, n0, c0, l0, rfl, w0⟩ := open_paper (hval 0 50 v0 rfl rfl) h0
  have k0 := h0
  have lt0 : ∀ x ∈ p0, x.block < W.heap.size := by obtain ⟨m, hm⟩ := k0; exact DataW.trod_lt m _ _ _ hm
  obtain ⟨A1, len1, cap1, rfl⟩ := okWide_slice Try.underlying34 (hval 1 34 v1 rfl rfl)
  have k1 := h1
  have lt1 : ∀ x ∈ p1, x.block < W.heap.size := by obtain ⟨m, hm⟩ := k1; exact DataW.trod_lt m _ _ _ hm
  obtain ⟨z1, w1⟩ : ∃ ss, IsTexts W A1 len1 cap1 ss := by
    obtain ⟨fuel, hf⟩ := h1
    rcases open_strings Try.underlying34 Try.underlying9 (by kernel_rfl) hf with ⟨hcs, _⟩ | ⟨x, l, c, ss, hcs, _, hl, hm, hz, _, hcell, hws⟩
    · simp [Value.cells] at hcs
      obtain ⟨rfl, rfl, rfl⟩ := hcs
      exact ⟨[], .inl ⟨rfl, rfl, rfl, rfl⟩⟩
    · simp [Value.cells] at hcs
      obtain ⟨rfl, rfl, rfl⟩ := hcs
      exact ⟨ss, .inr ⟨_, rfl, hl, hm, by simpa using hz, hcell, hws⟩⟩
  obtain ⟨a2, rfl, rfl, rfl, w2⟩ := open_int Try.underlying3 (hval 2 3 v2 rfl rfl) h2
  clear hA0 hval0
  refine (walk e0 A0 n0 c0 l0 w0 A1 len1 cap1 z1 w1 a2 w2 W).mono fun e W' ⟨he, bel⟩ => ?_
  subst he
  exact ⟨_, rfl, _, _, _, [], _, [], hW', trodAll_mk1 (shut_bool Try.underlying4 _), (trodAll_cons_mk (Below.trod laidOut (by kernel_rfl) (of_decide_eq_true (by kernel_rfl)) k0 bel lt0) (trodAll_cons_mk (Below.trod laidOut (by kernel_rfl) (of_decide_eq_true (by kernel_rfl)) k1 bel lt1) (trodAll_cons_mk (shut_int Try.underlying3 w2) trodAll_mk0))), rfl, bel.frame _, fun h => by cases h⟩

theorem over : Rows.papersPartsRow.holds Try.pinned (OpenSpec.ofChange Rows.papersPartsSpec) :=
  OpenClaim.holds_of_wide 12 Try.f12 rfl rfl rfl rfl rfl rfl rfl ⟨rfl, rfl, rfl, rfl, rfl⟩ rfl rfl rfl rfl rfl (by kernel_rfl) Try.func12 (by kernel_rfl)
    (of_decide_eq_true (by kernel_rfl)) (by unfold Func.isWrapper; first | (rw [if_pos (by decide +kernel)]; kernel_rfl) | (rw [if_neg (by decide +kernel)]; exact ⟨rfl, rfl⟩))
    (fun os started H enc _ => lifted os started H enc)
end PapersParts
/-- The statement. -/
theorem PapersParts_holds : Rows.PapersPartsSaid := PapersParts.over
#print axioms PapersParts_holds
end Go.Proofs.Ytljnadbfadgglaa
