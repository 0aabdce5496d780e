/- OnetimeLacks: the last digits tell what the others lack. No condition. -/
import Derived.Test.YtlpfajiigkjooaaLife
import Derived.Test.YtlpfajiigkjooaaBel
namespace Go.Proofs.Ytlpfajiigkjooaa
open Go.ChangeShapes Go.WideShapes Go.ChangeAt Go.RowKit
open Go.ChangeMaps (open_string shut_string)
set_option linter.unusedVariables false
set_option linter.unusedSimpArgs false

namespace OnetimeLacks

theorem walk_long (s t : ByteArray) (w : World) (h : 4096 < s.size ∨ 4096 < t.size) :
    Calls Try.prog 10 #[.string s, .string t] w fun e w' => e = .returned (.bool true) ∧ Below w.heap.size w w' := by
  have HN := fun w : World => Lib.hid (short_no s t h w)
  go_enter Try.func10, Try.ntmps10
  go_wp2_with fail
  refine (lives5 w).mono ?_
  rintro e w1 ⟨rfl, hb1⟩
  go_wp2_with fail
  refine (HN w1).out.mono ?_
  rintro e w2 ⟨rfl, rfl⟩
  go_wp2_with fail
  refine (lives5 w1).mono ?_
  rintro e w2 ⟨rfl, hb2⟩
  go_wp2_with fail
  go_ret
  exact ⟨rfl, hb1.trans (hb2.mono hb1.size)⟩

set_option maxRecDepth 100000 in
set_option maxHeartbeats 1000000 in
theorem walk_short (s t : ByteArray) (w : World) (h : s.size ≤ 4096) (ht : t.size ≤ 4096) :
    Calls Try.prog 10 #[.string s, .string t] w fun e w' => e = .returned (.bool true) ∧ Below w.heap.size w w' := by
  have HN := fun w : World => Lib.hid (short_yes s t h ht w)
  have H1 := fun w : World => Lib.hid (digits_c s h w)
  have H2 := fun w : World => Lib.hid (digits_c t ht w)
  have H3 := fun w : World => Lib.hid (refsum_any s (by omega) w)
  have H4 := fun w : World => Lib.hid (refsum_any t (by omega) w)
  have hl := Lib.hid (dg_length s)
  have hl' := Lib.hid (dg_length t)
  have hle := Lib.hid (dg_le s)
  have h480 := Lib.hid (digs_480 (dig s).data.toList (by rw [dig_len]; omega))
  have hinj := Lib.hid (digs_inj (dig s).data.toList (dig t).data.toList (by rw [dig_len]; omega) (by rw [dig_len]; omega))
  have hds := dig_size s
  have hdt := dig_size t
  change Hid (256 * (dg s).getD 32 0 + 16 * (dg s).getD 33 0 + (dg s).getD 34 0 + ((dg s).take 32).sum = 480) at h480
  change Hid ((∀ j, j < 35 → (dg s).getD j 0 ≤ (dg t).getD j 0) → (dig s).data.toList.take 16 = (dig t).data.toList.take 16) at hinj
  clear h ht
  go_enter Try.func10, Try.ntmps10
  go_wp2_with fail
  refine (lives5 w).mono ?_
  rintro e w1 ⟨rfl, hb1⟩
  go_wp2_with fail
  refine (HN w1).out.mono ?_
  rintro e w2 ⟨rfl, rfl⟩
  go_wp2_with fail
  refine (H1 w1).out.mono ?_
  rintro e w2 ⟨g, c, rfl, hc, hg, hI, hb2⟩
  go_wp2_with fail
  refine (H2 w2).out.mono ?_
  rintro e w3 ⟨g', c', rfl, hc', hg', hI', hb3⟩
  have hJ := Lib.hid (hI.keep hb3)
  have hJ' := Lib.hid hI'
  have hB3 := Lib.hid ((hb1.trans (hb2.mono hb1.size)).trans (hb3.mono (by have := hb1.size; have := hb2.size; omega)))
  clear H1 H2 HN hI hI' hb1 hb2 hb3 hg hg'
  generalize hD : dg s = D at *
  generalize hE : dg t = E at *
  have c32 := hJ.out.2 32 (by rw [hl.out]; omega)
  have c33 := hJ.out.2 33 (by rw [hl.out]; omega)
  have c34 := hJ.out.2 34 (by rw [hl.out]; omega)
  have hx2 : D.getD 32 0 ≤ 15 := hle.out 32
  have hx3 : D.getD 33 0 ≤ 15 := hle.out 33
  have hx4 : D.getD 34 0 ≤ 15 := hle.out 34
  have hlk : lackTo D 0 = 256 * D.getD 32 0 + 16 * D.getD 33 0 + D.getD 34 0 := by simp [lackTo]
  have Hlk := Lib.hid hlk
  clear hlk
  generalize D.getD 32 0 = x2 at c32 Hlk hx2
  generalize D.getD 33 0 = x3 at c33 Hlk hx3
  generalize D.getD 34 0 = x4 at c34 Hlk hx4
  go_wp2_with fail
  go_quiet (fail)
  go_wp2_with fail
  have hB4 : Hid (Below w.heap.size w (w3.drewN nq)) := Lib.hid (below_drewN hB3.out nq)
  have hK := Lib.hid (hJ.out.keep (below_drewN (Below.refl w3.heap.size w3) nq))
  have hK' := Lib.hid (hJ'.out.keep (below_drewN (Below.refl w3.heap.size w3) nq))
  clear c32 c33 c34 hB3 hJ hJ'
  generalize w3.drewN nq = w4 at hB4 hK hK' ⊢
  go_loopw [7, 8, 9] (fun sm bl i wr => ∃ k : Nat, k ≤ 35 ∧ i = .int .i64 k ∧ sm = .int .i64 ((lackTo D k : Nat) : Int) ∧ bl = .bool (belowTo D E k) ∧ Below w4.heap.size w4 wr) (fun _ _ i _ => 35 - (intOf i).toNat)
  case atStart =>
    refine ⟨0, by omega, rfl, ?_, rfl, Below.refl _ _⟩
    rw [Hlk.out]
    congr 1
  case round =>
    obtain ⟨k, hk, rfl, rfl, rfl, hbel⟩ := hrel
    have hz := hbel.size
    by_cases hlt : k < 35
    · have c1 := (hbel.cell (p := ⟨g, k, none⟩) hK.out.1).trans (hK.out.2 k (by rw [hl.out]; exact hlt))
      have c2 := (hbel.cell (p := ⟨g', k, none⟩) hK'.out.1).trans (hK'.out.2 k (by rw [hl'.out]; exact hlt))
      have hx := hle.out k
      have e3 := belowTo_succ D E k
      have e1 := lackTo_lo D k
      have e2 := lackTo_hi D k
      have hbd := lackTo_le D k hle.out
      generalize D.getD k 0 = x at c1 hx e1 e3
      generalize E.getD k 0 = y at c2 e3
      have n1 : 0 ≤ (k : Int) := by omega
      have n2 : (k : Int) < 35 := by omega
      have n3 : ¬ (x : Int) < 0 := by omega
      have n4 : (x : Int) ≤ 15 := by omega
      have n5 : (lackTo D k : Int) ≤ 5000 := by omega
      have E1 := Lib.hid e1
      have E2 := Lib.hid e2
      have E3 := Lib.hid e3
      clear e1 e2 e3
      by_cases hlo : k < 32
      · have hlo' : (k : Int) < 32 := by omega
        cases hbb : belowTo D E k with
        | true =>
          go_wp2_with fail
          go_quiet (fail)
          go_wp2_with fail
          refine ⟨⟨k + 1, by omega, by go_num, ?_, ?_, below_drewN hbel _⟩, by simp [intOf]; omega⟩
          · rw [E1.out hlo hl.out]; congr 1
          · rw [E3.out, hbb]; rfl
        | false =>
          go_wp2_with fail
          go_quiet (fail)
          go_wp2_with fail
          refine ⟨⟨k + 1, by omega, by go_num, ?_, ?_, below_drewN hbel _⟩, by simp [intOf]; omega⟩
          · rw [E1.out hlo hl.out]; congr 1
          · rw [E3.out, hbb]; simp
      · have hlo' : ¬ (k : Int) < 32 := by omega
        cases hbb : belowTo D E k with
        | true =>
          go_wp2_with fail
          go_quiet (fail)
          go_wp2_with fail
          refine ⟨⟨k + 1, by omega, by go_num, ?_, ?_, below_drewN hbel _⟩, by simp [intOf]; omega⟩
          · rw [E2.out hlo]
          · rw [E3.out, hbb]; rfl
        | false =>
          go_wp2_with fail
          go_quiet (fail)
          go_wp2_with fail
          refine ⟨⟨k + 1, by omega, by go_num, ?_, ?_, below_drewN hbel _⟩, by simp [intOf]; omega⟩
          · rw [E2.out hlo]
          · rw [E3.out, hbb]; simp
    · obtain rfl : k = 35 := by omega
      have e480 : lackTo D 35 = 480 := h480.out
      have hB5 := Lib.hid (hB4.out.trans (hbel.mono hB4.out.size))
      rw [e480, show ((480 : Nat) : Int) = 480 from rfl]
      cases hbb : belowTo D E 35 with
      | true =>
        clear hbb
        go_wp2_with fail
        go_quiet (fail)
        go_wp2_with fail
        go_ret
        exact ⟨rfl, below_drewN hB5.out _⟩
      | false =>
        have htk := hinj.out (fun j hj => belowTo_no D E 35 hbb j hj)
        have hex : (dig s).extract 0 16 = (dig t).extract 0 16 := by
          have h1 := bs_extract (dig s).data.toList 0 16
          have h2 := bs_extract (dig t).data.toList 0 16
          rw [bs_of] at h1 h2
          rw [h1, h2, List.drop_zero, List.drop_zero, htk]
        have HX := Lib.hid hex
        have hz4 := hB4.out.size
        clear hbb htk hex hinj h480 hK hK' hB4 Hlk hle hl hl' hD hE
        generalize dig s = ds at *
        generalize dig t = dt at *
        go_wp2_with fail
        refine wp_region_bel wr.heap.size wr (by kernel_rfl) (by kernel_rfl) (Below.refl _ _) ?_
        repeat (go_big_quiet_step (first | (go_at_call_of 23 s; exact calls_bel (Nat.le_refl _) (H3 _).out) | (go_at_call_of 23 t; exact calls_bel (Nat.le_refl _) (H4 _).out)))
        refine wpQuiet_nil ?_
        rintro _ ⟨x, rfl⟩
        go_wp2_with fail
        go_ret
        rw [HX.out]
        exact ⟨by simp, hB5.out.trans (x.h.mono hB5.out.size)⟩

theorem walk (s : ByteArray) (_ : s.size ≤ maxLen) (t : ByteArray) (_ : t.size ≤ maxLen) (w : World) :
    Calls Try.prog 10 #[.string s, .string t] w fun e w' => e = .returned (.bool true) ∧ Below w.heap.size w w' := by
  rcases Nat.lt_or_ge 4096 s.size with h | h
  · exact walk_long s t w (.inl h)
  · rcases Nat.lt_or_ge 4096 t.size with h' | h'
    · exact walk_long s t w (.inr h')
    · exact walk_short s t w h h'

/-! ### The row's step -/
set_option maxRecDepth 100000 in
theorem lifted (os : Os) (started : os.Started) (H : Type) (enc : TypeId × Value → H) :
    ReturnsInHanded {} Try.checked os 10 .any (Rows.onetimeLacksSpec.pre6 enc Try.prog Try.f10 Rows.onetimeLacksRow.domain false) (Rows.onetimeLacksSpec.post enc Try.prog Try.f10 false true false false) := by
  refine returnsInHanded_of_change (C := Try.checked) own started (by kernel_rfl) Try.func10
    (ChangeSpec.witness6 (enc := enc) (C := Try.checked) false ⟨#[], #[.string ByteArray.empty, .string ByteArray.empty], []⟩ 8 (by kernel_rfl) (by kernel_rfl) (by kernel_rfl) (by kernel_rfl)) ?_
  intro W base args ds gs before hval0 hW hcnd _
  have hval : ∀ (j : Nat) t v, Try.f10.params[j]? = some t → args[j]? = some v → Value.okWide Try.prog W .any base t v := hval0
  have hW' := hW
  obtain ⟨p, q, hA0, hV, rfl, hfz, hnd⟩ := hW
  have hA : DataW.TrodAll enc Try.prog W 0 (fun _ => true) true Try.f10.params.toList args.toList ds p := hA0
  rw [Try.params10] at hA hval
  obtain ⟨v0, vs0, d0, ds0, p0, q0, hargs, rfl, rfl, h0, r0⟩ := trodAll_cons hA
  obtain ⟨v1, vs1, d1, ds1, p1, q1, rfl, rfl, rfl, h1, r1⟩ := trodAll_cons r0
  obtain ⟨rfl, rfl, rfl⟩ := trodAll_nil r1
  obtain rfl : args = #[v0, v1] := by cases args; simp_all
  obtain ⟨rfl, rfl⟩ := trodVars_none hV
  obtain ⟨a0, rfl, rfl, rfl, w0⟩ := open_string Try.underlying9 (hval 0 9 v0 rfl rfl) h0
  obtain ⟨a1, rfl, rfl, rfl, w1⟩ := open_string Try.underlying9 (hval 1 9 v1 rfl rfl) h1
  clear hA0 hval0
  refine (walk a0 w0 a1 w1 W).mono fun e W' ⟨he, bel⟩ => ?_
  subst he
  exact ⟨_, rfl, _, _, _, [], _, [], hW', trodAll_mk1 (shut_bool Try.underlying4 _), (trodAll_cons_mk (shut_string Try.underlying9 w0) (trodAll_cons_mk (shut_string Try.underlying9 w1) trodAll_mk0)), rfl, bel.frame _, fun h => by cases h⟩

theorem over : Rows.onetimeLacksRow.holds Try.pinned (OpenSpec.ofChange Rows.onetimeLacksSpec) :=
  OpenClaim.holds_of_wide 10 Try.f10 rfl rfl rfl rfl rfl rfl rfl ⟨rfl, rfl, rfl, rfl, rfl⟩ rfl rfl rfl rfl rfl (by kernel_rfl) Try.func10 (by kernel_rfl)
    (of_decide_eq_true (by kernel_rfl)) (by unfold Func.isWrapper; first | (rw [if_pos (by decide +kernel)]; kernel_rfl) | (rw [if_neg (by decide +kernel)]; exact ⟨rfl, rfl⟩))
    (fun os started H enc _ => lifted os started H enc)
end OnetimeLacks
/-- The statement. -/
theorem OnetimeLacks_holds : Rows.OnetimeLacksSaid := OnetimeLacks.over
#print axioms OnetimeLacks_holds
end Go.Proofs.Ytlpfajiigkjooaa
