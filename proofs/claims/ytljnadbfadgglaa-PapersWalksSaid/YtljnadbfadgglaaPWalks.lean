/- PapersWalks: how far a chain goes, and where it ends, is what the document says; the paper that is handed in stays -/
import Derived.Test.YtljnadbfadgglaaS4
import Derived.Test.YtljnadbfadgglaaS2
namespace Go.Proofs.Ytljnadbfadgglaa
open Go.ChangeShapes Go.WideShapes Go.ChangeAt Go.RowKit
open Go.ChangeMaps (open_string shut_string)
set_option maxRecDepth 100000
set_option linter.unusedVariables false
set_option linter.unusedSimpArgs false

namespace PapersWalks

set_option maxHeartbeats 4000000 in
theorem walk (e : Int) (A : Option Addr) (n c : Nat) (l : List St) {W : World} (hS : Seats W A n c l) (hsz : n * 24 ≤ 140737488351232) (CA : Option Addr) (m d : Nat) (ss : List ByteArray) (hT : IsTexts W CA m d ss) (_ : World) :
    Calls Try.prog 11 #[.agg #[.int .i64 e, .slice A n c], .slice CA m d] W fun r w' => r = .returned (.bool true) ∧ Below W.heap.size W w' := by
  obtain ⟨hX, hm63⟩ := hT.sizes
  have HT := Lib.hid hT.texts
  have HX := Lib.hid hX
  have HS := Lib.hid hS
  generalize ss.take m = xs at HT HX hX
  clear hS hT hX
  go_enter Try.func11, Try.ntmps11
  go_wp2_with fail
  have hp0 := heap_alloc_new W (.cells #[.int .i64 e, .slice A n c] 50)
  have hB0 : Below W.heap.size W (W.alloc (.cells #[.int .i64 e, .slice A n c] 50)) := (Below.refl _ _).alloc (Nat.le_refl _) _
  have hz0 : W.heap.size < (W.alloc (.cells #[.int .i64 e, .slice A n c] 50)).heap.size := by simp
  generalize W.alloc (.cells #[.int .i64 e, .slice A n c] 50) = w0 at hp0 hB0 hz0 ⊢
  refine (lives8 w0).mono ?_
  rintro r w1 ⟨rfl, hb1⟩
  have HP1 := Lib.hid ((hb1.block _ hz0).trans hp0)
  have HBW1 := Lib.hid (hB0.trans (hb1.mono (by omega)))
  have hz1 : W.heap.size < w1.heap.size := by have := hb1.size; omega
  clear hb1 hp0 hB0
  rcases Nat.lt_or_ge 20 m with hm | hm
  · have hm1 : (20 : Int) < (m : Int) := by omega
    go_wp2_with fail
    refine (lives8 w1).mono ?_
    rintro r w2 ⟨rfl, hb2⟩
    have HB2 := Lib.hid (HBW1.out.trans (hb2.mono (by omega)))
    clear hb2
    go_wp2_with fail
    go_ret
    exact ⟨rfl, HB2.out⟩
  have hm1 : (m : Int) ≤ 20 := by omega
  have c0 := cell_of_row w1 W.heap.size 0 _ _ _ HP1.out
  have c1 := cell_of_row w1 W.heap.size 1 _ _ _ HP1.out
  simp at c0 c1
  have hdr : Below w1.heap.size w1 w1.drew := ⟨rfl, rfl, rfl, Nat.le_refl _, fun _ _ => rfl⟩
  have hqa : Below w1.heap.size w1 (w1.alloc (.cells #[.int .i64 0, .slice none 0 0] 50)) := (Below.refl _ _).alloc (Nat.le_refl _) _
  have hda : Below w1.heap.size w1 (w1.alloc (.cells #[.int .i64 0, .slice none 0 0] 50)).drew := ⟨hqa.os, hqa.tape, hqa.output, hqa.size, hqa.block⟩
  have HSA := Lib.hid (fun w' (hb : Below w1.heap.size w1 w') => (HS.out.keep HBW1.out).keep hb)
  have hca0 := (hqa.cell (p := ⟨W.heap.size, 0, none⟩) hz1).trans c0
  have hca1 := (hqa.cell (p := ⟨W.heap.size, 1, none⟩) hz1).trans c1
  go_wp2_with fail
  go_region_law (first
    | (refine step_app_seats (by rfl) _ (by rfl) w1.heap.size A n c l (HSA.out _ hdr) (by rfl) hsz (Nat.le_refl _) ?_
       intro VA VC w2 ho2 hg2
       have hb2 : Below w1.heap.size w1 w2 := hdr.grown hg2 (Nat.le_refl _) (fun kk hk => by cases hk)
       have e0 := (hb2.cell (p := ⟨W.heap.size, 0, none⟩) hz1).trans c0
       have e1 := (hb2.cell (p := ⟨W.heap.size, 1, none⟩) hz1).trans c1
       have hqz : Below w2.heap.size w2 (w2.alloc (.cells #[.int .i64 0, .slice none 0 0] 50)) := (Below.refl _ _).alloc (Nat.le_refl _) _
       have g0 := (hqz.cell (p := ⟨W.heap.size, 0, none⟩) (Nat.lt_of_lt_of_le hz1 hb2.size)).trans e0
       have g1 := (hqz.cell (p := ⟨W.heap.size, 1, none⟩) (Nat.lt_of_lt_of_le hz1 hb2.size)).trans e1)
    | (refine step_app_seats (by rfl) _ (by rfl) (w1.heap.size + 1) A n c l (HSA.out _ hda) (by rfl) hsz (by simp) ?_
       intro VA VC w2 ho2 hg2
       have hb2 : Below w1.heap.size w1 w2 := hda.grown hg2 (by simp) (fun kk hk => by cases hk)
       have e0 := (hb2.cell (p := ⟨W.heap.size, 0, none⟩) hz1).trans c0
       have e1 := (hb2.cell (p := ⟨W.heap.size, 1, none⟩) hz1).trans c1
       have hq2 := (hg2.block w1.heap.size (by simp) (fun hk => by cases hk)).trans (heap_alloc_new w1 (.cells #[.int .i64 0, .slice none 0 0] 50))
       have q0 := cell_of_row w2 w1.heap.size 0 _ _ _ hq2
       have q1 := cell_of_row w2 w1.heap.size 1 _ _ _ hq2
       have qf0 := frozen_of_row w2 w1.heap.size 0 _ _ hq2
       have qf1 := frozen_of_row w2 w1.heap.size 1 _ _ hq2
       simp at q0 q1))
  all_goals
    first
    | have hal : Below w2.heap.size w2 (w2.alloc (.cells #[.int .i64 e, .slice VA n VC] 50)) := (Below.refl _ _).alloc (Nat.le_refl _) _
      have HO3 := Lib.hid ((ho2.keep hal).seats)
      have hb3 := hb2.trans (hal.mono hb2.size)
      have HP3 := Lib.hid (heap_alloc_new w2 (.cells #[.int .i64 e, .slice VA n VC] 50))
      have hz3 : w2.heap.size < (w2.alloc (.cells #[.int .i64 e, .slice VA n VC] 50)).heap.size := by simp
      have hobz : w1.heap.size ≤ w2.heap.size := hb2.size
      generalize w2.alloc (.cells #[.int .i64 e, .slice VA n VC] 50) = w3 at HP3 HO3 hb3 hz3 ⊢
      obtain ⟨ob, hob⟩ : ∃ ob, ob = w2.heap.size := ⟨_, rfl⟩
      rw [← hob] at HP3 hz3 hobz
      rw [← hob]
      clear hal hob
    | have hm4 := hq2
      obtain ⟨hs1, hs2⟩ := set_two w2 w1.heap.size _ _ _ (.int .i64 e) (.slice VA n VC) hq2
      have hz2 : w1.heap.size < w2.heap.size := by have := hg2.size; simp at this; omega
      have HO3 := Lib.hid ((ho2.other hs2 (fun kk hk e => by have h1 := (World.ownsRow.lt ho2 kk hk).1; have h2 := Option.some.inj e; omega)).seats)
      have hb3 := hb2.grown hs2 hb2.size (fun kk h => by have := Option.some.inj h; omega)
      have hz3 : w1.heap.size < ((w2.setCell ⟨w1.heap.size, 0, none⟩ (.int .i64 e)).setCell ⟨w1.heap.size, 1, none⟩ (.slice VA n VC)).heap.size := by have := hs2.size; omega
      have HP3 := Lib.hid hs1
      generalize (w2.setCell ⟨w1.heap.size, 0, none⟩ (.int .i64 e)).setCell ⟨w1.heap.size, 1, none⟩ (.slice VA n VC) = w3 at HP3 HO3 hb3 hz3 ⊢
      obtain ⟨ob, hob⟩ : ∃ ob, ob = w1.heap.size := ⟨_, rfl⟩
      have hobz : w1.heap.size ≤ ob := by omega
      rw [← hob] at HP3 hz3
      rw [← hob]
      clear hm4 hq2 q0 q1 qf0 qf1 hs1 hs2 hz2 hob
    try clear hqz g0 g1
    have HPP3 := Lib.hid ((hb3.block W.heap.size hz1).trans HP1.out)
    have HBW3 := Lib.hid (HBW1.out.trans (hb3.mono (by omega)))
    have hzw3 : W.heap.size < w3.heap.size := by have := hb3.size; omega
    clear hb2 hb3 ho2 hg2 hca0 hca1 hqa hda hdr e0 e1 c0 c1 HP1 HBW1 HSA
    have p0 := cell_of_row w3 ob 0 _ _ _ HP3.out
    have p1 := cell_of_row w3 ob 1 _ _ _ HP3.out
    simp at p0 p1
    have HW1 := Lib.hid (pwalk_any e VA n VC l CA m d xs w3 HO3.out (HT.out.keep HBW3.out) hm63 HX.out)
    have HW2 := Lib.hid (fun w' (hb : Below W.heap.size W w') => rpwalk_any e A n c l CA m d xs w' (HS.out.keep hb) (HT.out.keep hb) hm63 HX.out)
    generalize walkF e l xs = R at HW1 HW2
    go_wp2_with fail
    refine HW1.out.mono ?_
    rintro r w4 ⟨⟨RA, RC, rfl, hra⟩, hb4⟩
    have HM4 := Lib.hid hra.marks
    have HRA4 := Lib.hid hra.seats
    have HPP4 := Lib.hid ((hb4.block _ hzw3).trans HPP3.out)
    have HP4 := Lib.hid ((hb4.block _ hz3).trans HP3.out)
    have HBW4 := Lib.hid (HBW3.out.trans (hb4.mono (by omega)))
    have HT4 := Lib.hid hb4
    have hL63 : R.1.2.length ≤ 9223372036854775807 := Nat.le_trans hra.seats.2.1 hra.seats.2.2.1
    have hz4 : w3.heap.size ≤ w4.heap.size := hb4.size
    clear hb4 hra p0 p1 HPP3 HP3 HBW3 HW1
    have hal : Below w4.heap.size w4 (w4.alloc (.cells #[.int .i64 R.1.1, .slice RA R.1.2.length RC] 50)) := (Below.refl _ _).alloc (Nat.le_refl _) _
    have HQ5 := Lib.hid (heap_alloc_new w4 (.cells #[.int .i64 R.1.1, .slice RA R.1.2.length RC] 50))
    have HM5 := Lib.hid (HM4.out.keep hal)
    have HRA5 := Lib.hid (HRA4.out.keep hal)
    have HPP5 := Lib.hid ((hal.block _ (by omega)).trans HPP4.out)
    have HP5 := Lib.hid ((hal.block _ (by omega)).trans HP4.out)
    have HBW5 := Lib.hid (HBW4.out.trans (hal.mono (by omega)))
    have HT5 := Lib.hid (HT4.out.trans (hal.mono (by omega)))
    have hz5 : w4.heap.size < (w4.alloc (.cells #[.int .i64 R.1.1, .slice RA R.1.2.length RC] 50)).heap.size := by simp
    clear hal HM4 HRA4 HPP4 HP4 HBW4 HT4
    have c0 := cell_of_row _ W.heap.size 0 _ _ _ HPP5.out
    have c1 := cell_of_row _ W.heap.size 1 _ _ _ HPP5.out
    simp only [Array.getElem?_toList, List.getElem?_toArray, List.getElem?_cons_zero, List.getElem?_cons_succ] at c0 c1
    go_wp2_with fail
    obtain ⟨ab, hab⟩ : ∃ ab, ab = w4.heap.size := ⟨_, rfl⟩
    have habz : w3.heap.size ≤ ab := by omega
    rw [← hab] at HQ5 hz5 HM5
    rw [← hab]
    generalize w4.alloc (.cells #[.int .i64 R.1.1, .slice RA R.1.2.length RC] 50) = w5 at HQ5 HM5 HRA5 HPP5 HP5 HBW5 HT5 hz5 c0 c1 ⊢
    clear hab hz4
    refine (HW2.out w5 HBW5.out).mono ?_
    rintro r w6 ⟨⟨SA, SC, rfl, hsa⟩, hb6⟩
    have HSA6 := Lib.hid hsa
    have HQ6 := Lib.hid ((hb6.block ab hz5).trans HQ5.out)
    have HM6 := Lib.hid (HM5.out.keep hb6)
    have HRA6 := Lib.hid (HRA5.out.keep hb6)
    have HPP6 := Lib.hid ((hb6.block _ (by omega)).trans HPP5.out)
    have HP6 := Lib.hid ((hb6.block _ (by omega)).trans HP5.out)
    have HBW6 := Lib.hid (HBW5.out.trans (hb6.mono (by omega)))
    have HT6 := Lib.hid (HT5.out.trans (hb6.mono (by omega)))
    have hz6 : w5.heap.size ≤ w6.heap.size := hb6.size
    clear hb6 hsa HQ5 HM5 HRA5 HPP5 HP5 HBW5 HT5 c0 c1 HW2
    have hal : Below w6.heap.size w6 (w6.alloc (.cells #[.int .i64 R.1.1, .slice SA R.1.2.length SC] 50)) := (Below.refl _ _).alloc (Nat.le_refl _) _
    have HT7 := Lib.hid (heap_alloc_new w6 (.cells #[.int .i64 R.1.1, .slice SA R.1.2.length SC] 50))
    have HQ7 := Lib.hid ((hal.block ab (by omega)).trans HQ6.out)
    have HM7 := Lib.hid (HM6.out.keep hal)
    have HSM := Lib.hid (same_yes R.1.1 RA SA R.1.2.length RC SC R.1.2 _ (HRA6.out.keep hal) (HSA6.out.keep hal))
    have HPP7 := Lib.hid ((hal.block _ (by omega)).trans HPP6.out)
    have HP7 := Lib.hid ((hal.block _ (by omega)).trans HP6.out)
    have HBW7 := Lib.hid (HBW6.out.trans (hal.mono (by omega)))
    have HU7 := Lib.hid (HT6.out.trans (hal.mono (by omega)))
    have hz7 : w6.heap.size < (w6.alloc (.cells #[.int .i64 R.1.1, .slice SA R.1.2.length SC] 50)).heap.size := by simp
    clear hal HQ6 HM6 HRA6 HSA6 HPP6 HP6 HBW6 HT6
    have c0 := cell_of_row _ ab 0 _ _ _ HQ7.out
    have c1 := cell_of_row _ ab 1 _ _ _ HQ7.out
    have d0 := cell_of_row _ w6.heap.size 0 _ _ _ HT7.out
    have d1 := cell_of_row _ w6.heap.size 1 _ _ _ HT7.out
    simp only [Array.getElem?_toList, List.getElem?_toArray, List.getElem?_cons_zero, List.getElem?_cons_succ] at c0 c1 d0 d1
    go_wp2_with fail
    generalize w6.alloc (.cells #[.int .i64 R.1.1, .slice SA R.1.2.length SC] 50) = w7 at HT7 HQ7 HM7 HSM HPP7 HP7 HBW7 HU7 hz7 c0 c1 d0 d1 ⊢
    refine HSM.out.mono ?_
    rintro r w8 ⟨rfl, hb8⟩
    have HQ8 := Lib.hid ((hb8.block ab (by omega)).trans HQ7.out)
    have HM8 := Lib.hid (HM7.out.keep hb8)
    have HPP8 := Lib.hid ((hb8.block _ (by omega)).trans HPP7.out)
    have HP8 := Lib.hid ((hb8.block _ (by omega)).trans HP7.out)
    have HBW8 := Lib.hid (HBW7.out.trans (hb8.mono (by omega)))
    have HT8 := Lib.hid (HU7.out.trans (hb8.mono (by omega)))
    have hz8 : w7.heap.size ≤ w8.heap.size := hb8.size
    clear hb8 HQ7 HM7 HT7 HPP7 HP7 HBW7 HU7 HSM c0 c1 d0 d1
    obtain ⟨L, hL⟩ : ∃ L, L = R.1.2.length := ⟨_, rfl⟩
    rw [← hL] at HQ8 HM8 hL63
    obtain ⟨B, hB⟩ : ∃ B, B = w3.heap.size := ⟨_, rfl⟩
    rw [← hB] at HM8 hz3 hzw3 habz
    have HBB := Lib.hid hB
    clear hL hB
    go_wp2_with fail
    have hzB : B ≤ w8.heap.size := by omega
    have hab8 : ab < w8.heap.size := by omega
    go_loopw [12] (fun j wr => ∃ (k : Nat), k ≤ L ∧ j = .int .i64 k ∧ Hid (wr.heap[ab]? = some (.cells #[.int .i64 R.1.1, .slice RA L RC] 50 (0, 0))) ∧ Hid (Marks wr RA L B ab) ∧ Hid (Below B w8 wr)) (fun j _ => L - (intOf j).toNat)
    case atStart => exact ⟨0, by omega, rfl, HQ8, HM8, Lib.hid (Below.refl _ _)⟩
    case round =>
      obtain ⟨k, hk, rfl, hq, hm, hb⟩ := hrel
      have c0 := cell_of_row wr ab 0 _ _ _ hq.out
      have c1 := cell_of_row wr ab 1 _ _ _ hq.out
      simp at c0 c1
      by_cases hkl : k < L
      · have n0 : 0 ≤ (k : Int) := by omega
        have n1 : (k : Int) < (L : Int) := by omega
        rcases hm.out with h0 | ⟨g, cur, rfl, hg1, hg2, hg3, hg4⟩
        · omega
        have hk2 : k * 2 < cur.size := by omega
        have s0 : wr.cell? ⟨g, k * 2, none⟩ = some cur[k * 2] := (cell_of_row wr g (k * 2) _ _ _ hg3).trans (by simp [hk2])
        have s1 := frozen_of_row wr g (k * 2) _ _ hg3
        have HG3 := Lib.hid hg3
        clear hg3
        go_wp2_with fail
        have hgn : wr.grownBy (wr.setCell ⟨g, k * 2, none⟩ (.int .i64 (-9))) (some g) := only_setCell (only_of_below (Below.refl _ _) _) (p := ⟨g, k * 2, none⟩) (.inl rfl) _
        have hgs := heap_setCell_same wr g (k * 2) _ _ (.int .i64 (-9)) HG3.out
        refine ⟨⟨k + 1, by omega, by go_num, Lib.hid (blk_far hq.out hgn (by omega)), Lib.hid (.inr ⟨g, _, rfl, hg1, hg2, hgs, by simpa using hg4⟩), Lib.hid (hb.out.grown hgn (by have := hb.out.size; omega) (fun kk h => by have := Option.some.inj h; omega))⟩, by simp [intOf]; omega⟩
      · obtain rfl : k = L := by omega
        have hPP := (hb.out.block W.heap.size hzw3).trans HPP8.out
        have hP := (hb.out.block ob hz3).trans HP8.out
        have d0 := cell_of_row wr ob 0 _ _ _ hP
        have d1 := cell_of_row wr ob 1 _ _ _ hP
        have e0 := cell_of_row wr W.heap.size 0 _ _ _ hPP
        have e1 := cell_of_row wr W.heap.size 1 _ _ _ hPP
        simp at d0 d1 e0 e1
        have hbw := HBW8.out.trans (hb.out.mono (by omega))
        have HSM := Lib.hid (same_yes e VA A n VC c l wr (HO3.out.keep (HT8.out.trans (by rw [← HBB.out]; exact hb.out))) (HS.out.keep hbw))
        have HBW9 := Lib.hid hbw
        have hz9 := hbw.size
        clear hkl hPP hP hq hm hb hbw
        go_wp2_with fail
        refine HSM.out.mono ?_
        rintro r w10 ⟨rfl, hb10⟩
        have HB10 := Lib.hid (HBW9.out.trans (hb10.mono hz9))
        clear hb10 HSM
        go_wp2_with fail
        go_ret
        exact ⟨rfl, HB10.out⟩

/-! ### The row's step -/
set_option maxRecDepth 100000 in
theorem lifted (os : Os) (started : os.Started) (H : Type) (enc : TypeId × Value → H) :
    ReturnsInHanded {} Try.checked os 11 .any (Rows.papersWalksSpec.pre6 enc Try.prog Try.f11 Rows.papersWalksRow.domain false) (Rows.papersWalksSpec.post enc Try.prog Try.f11 false true false false) := by
  refine returnsInHanded_of_change_sized (C := Try.checked) own started (by kernel_rfl) Try.func11
    (ChangeSpec.witness6 (enc := enc) (C := Try.checked) false ⟨#[], #[.agg #[.int .i64 0, .slice none 0 0], .slice none 0 0], []⟩ 8 (by kernel_rfl) (by kernel_rfl) (by kernel_rfl) (by kernel_rfl)) ?_
  intro W base args ds gs before hval0 hW hcnd hsz0 _
  have hsz : (DataW.weightsEach Try.prog (Try.f11.params.toList ++ Rows.papersWalksSpec.plain.varTypes Try.prog) (ds ++ gs)).all (· ≤ reachBytes) = true := hsz0
  have hval : ∀ (j : Nat) t v, Try.f11.params[j]? = some t → args[j]? = some v → Value.okWide Try.prog W .any base t v := hval0
  have hW' := hW
  obtain ⟨p, q, hA0, hV, rfl, hfz, hnd⟩ := hW
  have hA : DataW.TrodAll enc Try.prog W 0 (fun _ => true) true Try.f11.params.toList args.toList ds p := hA0
  rw [Try.params11] at hA hval hsz
  obtain ⟨v0, vs0, d0, ds0, p0, q0, hargs, rfl, rfl, h0, r0⟩ := trodAll_cons hA
  obtain ⟨v1, vs1, d1, ds1, p1, q1, rfl, rfl, rfl, h1, r1⟩ := trodAll_cons r0
  obtain ⟨rfl, rfl, rfl⟩ := trodAll_nil r1
  obtain rfl : args = #[v0, v1] := by cases args; simp_all
  obtain ⟨rfl, rfl⟩ := trodVars_none hV
  obtain ⟨e0, A0, n0, c0, l0, rfl, w0, u0⟩ := open_paper_sized (hval 0 50 v0 rfl rfl) h0 hsz (j := 0) rfl rfl
  have k0 := h0
  have lt0 : ∀ x ∈ p0, x.block < W.heap.size := by obtain ⟨m, hm⟩ := k0; exact DataW.trod_lt m _ _ _ hm
  obtain ⟨A1, len1, cap1, rfl⟩ := okWide_slice Try.underlying34 (hval 1 34 v1 rfl rfl)
  have k1 := h1
  have lt1 : ∀ x ∈ p1, x.block < W.heap.size := by obtain ⟨m, hm⟩ := k1; exact DataW.trod_lt m _ _ _ hm
  obtain ⟨z1, w1⟩ : ∃ ss, IsTexts W A1 len1 cap1 ss := by
    obtain ⟨fuel, hf⟩ := h1
    rcases open_strings Try.underlying34 Try.underlying9 (by kernel_rfl) hf with ⟨hcs, _⟩ | ⟨x, l, c, ss, hcs, _, hl, hm, hz, _, hcell, hws⟩
    · simp [Value.cells] at hcs
      obtain ⟨rfl, rfl, rfl⟩ := hcs
      exact ⟨[], .inl ⟨rfl, rfl, rfl, rfl⟩⟩
    · simp [Value.cells] at hcs
      obtain ⟨rfl, rfl, rfl⟩ := hcs
      exact ⟨ss, .inr ⟨_, rfl, hl, hm, by simpa using hz, hcell, hws⟩⟩
  clear hA0 hval0
  refine (walk e0 A0 n0 c0 l0 w0 u0 A1 len1 cap1 z1 w1 W).mono fun e W' ⟨he, bel⟩ => ?_
  subst he
  exact ⟨_, rfl, _, _, _, [], _, [], hW', trodAll_mk1 (shut_bool Try.underlying4 _), (trodAll_cons_mk (Below.trod laidOut (by kernel_rfl) (of_decide_eq_true (by kernel_rfl)) k0 bel lt0) (trodAll_cons_mk (Below.trod laidOut (by kernel_rfl) (of_decide_eq_true (by kernel_rfl)) k1 bel lt1) trodAll_mk0)), rfl, bel.frame _, fun h => by cases h⟩

theorem over : Rows.papersWalksRow.holds Try.pinned (OpenSpec.ofChange Rows.papersWalksSpec) :=
  OpenClaim.holds_of_wide 11 Try.f11 rfl rfl rfl rfl rfl rfl rfl ⟨rfl, rfl, rfl, rfl, rfl⟩ rfl rfl rfl rfl rfl (by kernel_rfl) Try.func11 (by kernel_rfl)
    (of_decide_eq_true (by kernel_rfl)) (by unfold Func.isWrapper; first | (rw [if_pos (by decide +kernel)]; kernel_rfl) | (rw [if_neg (by decide +kernel)]; exact ⟨rfl, rfl⟩))
    (fun os started H enc _ => lifted os started H enc)
end PapersWalks
/-- The statement. -/
theorem PapersWalks_holds : Rows.PapersWalksSaid := PapersWalks.over
#print axioms PapersWalks_holds
end Go.Proofs.Ytljnadbfadgglaa
