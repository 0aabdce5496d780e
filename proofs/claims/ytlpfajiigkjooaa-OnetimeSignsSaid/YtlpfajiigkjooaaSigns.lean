/- OnetimeSigns: signatures are those of the reference, of every seed, leaf and text. No condition. -/
import Derived.Test.YtlpfajiigkjooaaUni
namespace Go.Proofs.Ytlpfajiigkjooaa
open Go.ChangeShapes Go.WideShapes Go.ChangeAt Go.RowKit
open Go.ChangeMaps (open_string shut_string)
set_option linter.unusedVariables false
set_option linter.unusedSimpArgs false

namespace OnetimeSigns

theorem walk_long (s : ByteArray) (n : Int) (t : ByteArray) (w : World) (h : 4096 < s.size ∨ 4096 < t.size) :
    Calls Try.prog 16 #[.string s, .int .i64 n, .string t] w fun e w' => e = .returned (.bool true) ∧ Below w.heap.size w w' := by
  have HN := fun w : World => Lib.hid (short_no s t h w)
  go_enter Try.func16, Try.ntmps16
  go_wp2_with fail
  refine (lives5 w).mono ?_
  rintro e w1 ⟨rfl, hb1⟩
  go_wp2_with fail
  refine (HN w1).out.mono ?_
  rintro e w2 ⟨rfl, rfl⟩
  go_wp2_with fail
  refine (lives5 w1).mono ?_
  rintro e w2 ⟨rfl, hb2⟩
  go_wp2_with fail
  go_ret
  exact ⟨rfl, hb1.trans (hb2.mono hb1.size)⟩

theorem walk_short (s : ByteArray) (n : Int) (t : ByteArray) (w : World) (h : s.size ≤ 4096) (ht : t.size ≤ 4096) :
    Calls Try.prog 16 #[.string s, .int .i64 n, .string t] w fun e w' => e = .returned (.bool true) ∧ Below w.heap.size w w' := by
  have HN := fun w : World => Lib.hid (short_yes s t h ht w)
  have H1 := fun w : World => Lib.hid (sign_u s h n t ht w)
  have H2 := fun w : World => Lib.hid (refsign_u s h n t ht w)
  generalize sigU s n t = p at H1 H2
  generalize errL n = r at H1 H2
  clear h ht
  go_enter Try.func16, Try.ntmps16
  go_wp2_with fail
  refine (lives5 w).mono ?_
  rintro e w1 ⟨rfl, hb1⟩
  go_wp2_with fail
  refine (HN w1).out.mono ?_
  rintro e w2 ⟨rfl, rfl⟩
  go_wp2_with fail
  refine (H1 w1).out.mono ?_
  rintro e w2 ⟨rfl, hb2⟩
  go_wp2_with fail
  refine (H2 w2).out.mono ?_
  rintro e w3 ⟨rfl, hb3⟩
  go_wp2_with fail
  go_ret
  have hs1 := hb1.size
  have hs2 := hb2.size
  exact ⟨by simp, (hb1.trans (hb2.mono hs1)).trans (hb3.mono (by omega))⟩

theorem walk (s : ByteArray) (_ : s.size ≤ maxLen) (n : Int) (_ : (Lit.int .i64 n).wf = true) (t : ByteArray) (_ : t.size ≤ maxLen) (w : World) :
    Calls Try.prog 16 #[.string s, .int .i64 n, .string t] w fun e w' => e = .returned (.bool true) ∧ Below w.heap.size w w' := by
  rcases Nat.lt_or_ge 4096 s.size with h | h
  · exact walk_long s n t w (.inl h)
  · rcases Nat.lt_or_ge 4096 t.size with h' | h'
    · exact walk_long s n t w (.inr h')
    · exact walk_short s n t w h h'

/-! ### The row's step -/
set_option maxRecDepth 100000 in
theorem lifted (os : Os) (started : os.Started) (H : Type) (enc : TypeId × Value → H) :
    ReturnsInHanded {} Try.checked os 16 .any (Rows.onetimeSignsSpec.pre6 enc Try.prog Try.f16 Rows.onetimeSignsRow.domain false) (Rows.onetimeSignsSpec.post enc Try.prog Try.f16 false true false false) := by
  refine returnsInHanded_of_change (C := Try.checked) own started (by kernel_rfl) Try.func16
    (ChangeSpec.witness6 (enc := enc) (C := Try.checked) false ⟨#[], #[.string ByteArray.empty, .int .i64 0, .string ByteArray.empty], []⟩ 8 (by kernel_rfl) (by kernel_rfl) (by kernel_rfl) (by kernel_rfl)) ?_
  intro W base args ds gs before hval0 hW hcnd _
  have hval : ∀ (j : Nat) t v, Try.f16.params[j]? = some t → args[j]? = some v → Value.okWide Try.prog W .any base t v := hval0
  have hW' := hW
  obtain ⟨p, q, hA0, hV, rfl, hfz, hnd⟩ := hW
  have hA : DataW.TrodAll enc Try.prog W 0 (fun _ => true) true Try.f16.params.toList args.toList ds p := hA0
  rw [Try.params16] at hA hval
  obtain ⟨v0, vs0, d0, ds0, p0, q0, hargs, rfl, rfl, h0, r0⟩ := trodAll_cons hA
  obtain ⟨v1, vs1, d1, ds1, p1, q1, rfl, rfl, rfl, h1, r1⟩ := trodAll_cons r0
  obtain ⟨v2, vs2, d2, ds2, p2, q2, rfl, rfl, rfl, h2, r2⟩ := trodAll_cons r1
  obtain ⟨rfl, rfl, rfl⟩ := trodAll_nil r2
  obtain rfl : args = #[v0, v1, v2] := by cases args; simp_all
  obtain ⟨rfl, rfl⟩ := trodVars_none hV
  obtain ⟨a0, rfl, rfl, rfl, w0⟩ := open_string Try.underlying9 (hval 0 9 v0 rfl rfl) h0
  obtain ⟨a1, rfl, rfl, rfl, w1⟩ := open_int Try.underlying3 (hval 1 3 v1 rfl rfl) h1
  obtain ⟨a2, rfl, rfl, rfl, w2⟩ := open_string Try.underlying9 (hval 2 9 v2 rfl rfl) h2
  clear hA0 hval0
  refine (walk a0 w0 a1 w1 a2 w2 W).mono fun e W' ⟨he, bel⟩ => ?_
  subst he
  exact ⟨_, rfl, _, _, _, [], _, [], hW', trodAll_mk1 (shut_bool Try.underlying4 _), (trodAll_cons_mk (shut_string Try.underlying9 w0) (trodAll_cons_mk (shut_int Try.underlying3 w1) (trodAll_cons_mk (shut_string Try.underlying9 w2) trodAll_mk0))), rfl, bel.frame _, fun h => by cases h⟩

theorem over : Rows.onetimeSignsRow.holds Try.pinned (OpenSpec.ofChange Rows.onetimeSignsSpec) :=
  OpenClaim.holds_of_wide 16 Try.f16 rfl rfl rfl rfl rfl rfl rfl ⟨rfl, rfl, rfl, rfl, rfl⟩ rfl rfl rfl rfl rfl (by kernel_rfl) Try.func16 (by kernel_rfl)
    (of_decide_eq_true (by kernel_rfl)) (by unfold Func.isWrapper; first | (rw [if_pos (by decide +kernel)]; kernel_rfl) | (rw [if_neg (by decide +kernel)]; exact ⟨rfl, rfl⟩))
    (fun os started H enc _ => lifted os started H enc)
end OnetimeSigns
/-- The statement. -/
theorem OnetimeSigns_holds : Rows.OnetimeSignsSaid := OnetimeSigns.over
#print axioms OnetimeSigns_holds
end Go.Proofs.Ytlpfajiigkjooaa
