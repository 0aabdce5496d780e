/- OnetimeSteps: steps lead to what the reference says, and add up. No condition. -/
import Derived.Test.YtlpfajiigkjooaaLife
namespace Go.Proofs.Ytlpfajiigkjooaa
open Go.ChangeShapes Go.WideShapes Go.ChangeAt Go.RowKit
open Go.ChangeMaps (open_string shut_string)
set_option linter.unusedVariables false
set_option linter.unusedSimpArgs false

namespace OnetimeSteps

theorem walk_long (s : ByteArray) (n m : Int) (w : World) (h : 4096 < s.size ∨ 4096 < (⟨#[]⟩ : ByteArray).size) :
    Calls Try.prog 9 #[.string s, .int .i64 n, .int .i64 m] w fun e w' => e = .returned (.bool true) ∧ Below w.heap.size w w' := by
  have HN := fun w : World => Lib.hid (short_no s ⟨#[]⟩ h w)
  go_enter Try.func9, Try.ntmps9
  go_wp2_with fail
  refine (lives5 w).mono ?_
  rintro e w1 ⟨rfl, hb1⟩
  go_wp2_with fail
  refine (HN w1).out.mono ?_
  rintro e w2 ⟨rfl, rfl⟩
  go_wp2_with fail
  refine (lives5 w1).mono ?_
  rintro e w2 ⟨rfl, hb2⟩
  go_wp2_with fail
  go_ret
  exact ⟨rfl, hb1.trans (hb2.mono hb1.size)⟩

theorem walk_short (s : ByteArray) (n m : Int) (w : World) (h : s.size ≤ 4096) :
    Calls Try.prog 9 #[.string s, .int .i64 n, .int .i64 m] w fun e w' => e = .returned (.bool true) ∧ Below w.heap.size w w' := by
  have HN := fun w : World => Lib.hid (short_yes s ⟨#[]⟩ h (by decide) w)
  obtain ⟨k, hk, hk15⟩ : ∃ k : Nat, (k : Int) = min (max n 0) 15 ∧ k ≤ 15 := ⟨(min (max n 0) 15).toNat, by omega, by omega⟩
  obtain ⟨a, ha, ea⟩ := mod_nat n 7
  obtain ⟨b, hb, eb⟩ := mod_nat m 7
  change (IntKind.u64.wrap n).tmod 8 = (a : Int) at ea
  change (IntKind.u64.wrap m).tmod 8 = (b : Int) at eb
  have H1 := fun w : World => Lib.hid (step_any s h n k hk w)
  have H2 := fun w : World => Lib.hid (refstep_any s h k hk15 w)
  have H3 := fun w : World => Lib.hid (step_any s h (a : Int) a (by omega) w)
  have H4 := fun w : World => Lib.hid (step_any (stepN s a) (stepN_size s h a) (b : Int) b (by omega) w)
  have H5 := fun w : World => Lib.hid (step_any s h ((a : Int) + (b : Int)) (a + b) (by omega) w)
  have ee := Lib.hid (stepN_add s a b)
  have ha' : (a : Int) ≤ 7 := by omega
  have hb' : (b : Int) ≤ 7 := by omega
  have hk' : min (max n 0) 15 = (k : Int) := hk.symm
  clear hk
  go_enter Try.func9, Try.ntmps9
  go_wp2_with fail
  refine (lives5 w).mono ?_
  rintro e w1 ⟨rfl, hb1⟩
  go_wp2_with fail
  refine (HN w1).out.mono ?_
  rintro e w2 ⟨rfl, rfl⟩
  go_wp2_with fail
  refine (H1 w1).out.mono ?_
  rintro e w2 ⟨rfl, hb2⟩
  go_wp2_with fail
  refine (H2 w2).out.mono ?_
  rintro e w3 ⟨rfl, hb3⟩
  go_wp2_with fail
  refine (H3 w3).out.mono ?_
  rintro e w4 ⟨rfl, hb4⟩
  go_wp2_with fail
  refine (H4 w4).out.mono ?_
  rintro e w5 ⟨rfl, hb5⟩
  go_wp2_with fail
  refine (H5 w5).out.mono ?_
  rintro e w6 ⟨rfl, hb6⟩
  rw [ee.out]
  go_wp2_with fail
  go_ret
  have hs1 := hb1.size
  have hs2 := hb2.size
  have hs3 := hb3.size
  have hs4 := hb4.size
  have hs5 := hb5.size
  exact ⟨rfl, ((((hb1.trans (hb2.mono hs1)).trans (hb3.mono (by omega))).trans (hb4.mono (by omega))).trans (hb5.mono (by omega))).trans (hb6.mono (by omega))⟩

theorem walk (s : ByteArray) (_ : s.size ≤ maxLen) (n : Int) (_ : (Lit.int .i64 n).wf = true) (m : Int) (_ : (Lit.int .i64 m).wf = true) (w : World) :
    Calls Try.prog 9 #[.string s, .int .i64 n, .int .i64 m] w fun e w' => e = .returned (.bool true) ∧ Below w.heap.size w w' := by
  rcases Nat.lt_or_ge 4096 s.size with h | h
  · exact walk_long s n m w (.inl h)
  · exact walk_short s n m w h

/-! ### The row's step -/
set_option maxRecDepth 100000 in
theorem lifted (os : Os) (started : os.Started) (H : Type) (enc : TypeId × Value → H) :
    ReturnsInHanded {} Try.checked os 9 .any (Rows.onetimeStepsSpec.pre6 enc Try.prog Try.f9 Rows.onetimeStepsRow.domain false) (Rows.onetimeStepsSpec.post enc Try.prog Try.f9 false true false false) := by
  refine returnsInHanded_of_change (C := Try.checked) own started (by kernel_rfl) Try.func9
    (ChangeSpec.witness6 (enc := enc) (C := Try.checked) false ⟨#[], #[.string ByteArray.empty, .int .i64 0, .int .i64 0], []⟩ 8 (by kernel_rfl) (by kernel_rfl) (by kernel_rfl) (by kernel_rfl)) ?_
  intro W base args ds gs before hval0 hW hcnd _
  have hval : ∀ (j : Nat) t v, Try.f9.params[j]? = some t → args[j]? = some v → Value.okWide Try.prog W .any base t v := hval0
  have hW' := hW
  obtain ⟨p, q, hA0, hV, rfl, hfz, hnd⟩ := hW
  have hA : DataW.TrodAll enc Try.prog W 0 (fun _ => true) true Try.f9.params.toList args.toList ds p := hA0
  rw [Try.params9] at hA hval
  obtain ⟨v0, vs0, d0, ds0, p0, q0, hargs, rfl, rfl, h0, r0⟩ := trodAll_cons hA
  obtain ⟨v1, vs1, d1, ds1, p1, q1, rfl, rfl, rfl, h1, r1⟩ := trodAll_cons r0
  obtain ⟨v2, vs2, d2, ds2, p2, q2, rfl, rfl, rfl, h2, r2⟩ := trodAll_cons r1
  obtain ⟨rfl, rfl, rfl⟩ := trodAll_nil r2
  obtain rfl : args = #[v0, v1, v2] := by cases args; simp_all
  obtain ⟨rfl, rfl⟩ := trodVars_none hV
  obtain ⟨a0, rfl, rfl, rfl, w0⟩ := open_string Try.underlying9 (hval 0 9 v0 rfl rfl) h0
  obtain ⟨a1, rfl, rfl, rfl, w1⟩ := open_int Try.underlying3 (hval 1 3 v1 rfl rfl) h1
  obtain ⟨a2, rfl, rfl, rfl, w2⟩ := open_int Try.underlying3 (hval 2 3 v2 rfl rfl) h2
  clear hA0 hval0
  refine (walk a0 w0 a1 w1 a2 w2 W).mono fun e W' ⟨he, bel⟩ => ?_
  subst he
  exact ⟨_, rfl, _, _, _, [], _, [], hW', trodAll_mk1 (shut_bool Try.underlying4 _), (trodAll_cons_mk (shut_string Try.underlying9 w0) (trodAll_cons_mk (shut_int Try.underlying3 w1) (trodAll_cons_mk (shut_int Try.underlying3 w2) trodAll_mk0))), rfl, bel.frame _, fun h => by cases h⟩

theorem over : Rows.onetimeStepsRow.holds Try.pinned (OpenSpec.ofChange Rows.onetimeStepsSpec) :=
  OpenClaim.holds_of_wide 9 Try.f9 rfl rfl rfl rfl rfl rfl rfl ⟨rfl, rfl, rfl, rfl, rfl⟩ rfl rfl rfl rfl rfl (by kernel_rfl) Try.func9 (by kernel_rfl)
    (of_decide_eq_true (by kernel_rfl)) (by unfold Func.isWrapper; first | (rw [if_pos (by decide +kernel)]; kernel_rfl) | (rw [if_neg (by decide +kernel)]; exact ⟨rfl, rfl⟩))
    (fun os started H enc _ => lifted os started H enc)
end OnetimeSteps
/-- The statement. -/
theorem OnetimeSteps_holds : Rows.OnetimeStepsSaid := OnetimeSteps.over
#print axioms OnetimeSteps_holds
end Go.Proofs.Ytlpfajiigkjooaa
