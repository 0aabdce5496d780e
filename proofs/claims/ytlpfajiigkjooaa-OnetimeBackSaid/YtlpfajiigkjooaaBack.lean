/- OnetimeBack: a signature leads to its public key. No condition. -/
import Derived.Test.YtlpfajiigkjooaaUni
namespace Go.Proofs.Ytlpfajiigkjooaa
open Go.ChangeShapes Go.WideShapes Go.ChangeAt Go.RowKit
open Go.ChangeMaps (open_string shut_string)
set_option linter.unusedVariables false
set_option linter.unusedSimpArgs false

namespace OnetimeBack

theorem walk_long (s : ByteArray) (n : Int) (t : ByteArray) (w : World) (h : 4096 < s.size ∨ 4096 < t.size) :
    Calls Try.prog 18 #[.string s, .int .i64 n, .string t] w fun e w' => e = .returned (.bool true) ∧ Below w.heap.size w w' := by
  have HN := fun w : World => Lib.hid (short_no s t h w)
  go_enter Try.func18, Try.ntmps18
  go_wp2_with fail
  refine (lives5 w).mono ?_
  rintro e w1 ⟨rfl, hb1⟩
  go_wp2_with fail
  refine (HN w1).out.mono ?_
  rintro e w2 ⟨rfl, rfl⟩
  go_wp2_with fail
  refine (lives5 w1).mono ?_
  rintro e w2 ⟨rfl, hb2⟩
  go_wp2_with fail
  go_ret
  exact ⟨rfl, hb1.trans (hb2.mono hb1.size)⟩

theorem walk_no (s : ByteArray) (n : Int) (t : ByteArray) (w : World) (h : s.size ≤ 4096) (ht : t.size ≤ 4096) (hn : n < 0 ∨ 255 < n) :
    Calls Try.prog 18 #[.string s, .int .i64 n, .string t] w fun e w' => e = .returned (.bool true) ∧ Below w.heap.size w w' := by
  have HN := fun w : World => Lib.hid (short_yes s t h ht w)
  have H1 := fun w : World => Lib.hid (sign_no s n hn t w)
  have H2 := fun w : World => Lib.hid (public_no s n hn w)
  clear h ht
  rcases hn with hn | hn
  · go_enter Try.func18, Try.ntmps18
    go_wp2_with fail
    refine (lives5 w).mono ?_
    rintro e w1 ⟨rfl, hb1⟩
    go_wp2_with fail
    refine (HN w1).out.mono ?_
    rintro e w2 ⟨rfl, rfl⟩
    go_wp2_with fail
    refine (H1 w1).out.mono ?_
    rintro e w2 ⟨rfl, rfl⟩
    go_wp2_with fail
    refine (H2 w1).out.mono ?_
    rintro e w2 ⟨rfl, rfl⟩
    go_wp2_with fail
    go_ret
    exact ⟨rfl, hb1⟩
  · have hn0 : 0 ≤ n := by omega
    go_enter Try.func18, Try.ntmps18
    go_wp2_with fail
    refine (lives5 w).mono ?_
    rintro e w1 ⟨rfl, hb1⟩
    go_wp2_with fail
    refine (HN w1).out.mono ?_
    rintro e w2 ⟨rfl, rfl⟩
    go_wp2_with fail
    refine (H1 w1).out.mono ?_
    rintro e w2 ⟨rfl, rfl⟩
    go_wp2_with fail
    refine (H2 w1).out.mono ?_
    rintro e w2 ⟨rfl, rfl⟩
    go_wp2_with fail
    go_ret
    exact ⟨rfl, hb1⟩

theorem walk_yes (s : ByteArray) (k : Nat) (t : ByteArray) (w : World) (h : s.size ≤ 4096) (ht : t.size ≤ 4096) (hk : k ≤ 255) :
    Calls Try.prog 18 #[.string s, .int .i64 (k : Int), .string t] w fun e w' => e = .returned (.bool true) ∧ Below w.heap.size w w' := by
  have HN := fun w : World => Lib.hid (short_yes s t h ht w)
  have H1 := fun w : World => Lib.hid (sign_yes s h k hk t ht w)
  have H2 := fun w : World => Lib.hid (public_yes s h k hk w)
  have hr := rec_sign s k t
  have H3 := fun w : World => Lib.hid (recover_yes t ht (sigK s k t) hr.2 w)
  rw [hr.1] at H3
  have z1 := hr.2
  have z2 := pubK_size s k
  clear hr
  generalize sigK s k t = x at H1 H3 z1
  generalize pubK s k = p at H2 H3 z2
  clear h ht
  go_enter Try.func18, Try.ntmps18
  go_wp2_with fail
  refine (lives5 w).mono ?_
  rintro e w1 ⟨rfl, hb1⟩
  go_wp2_with fail
  refine (HN w1).out.mono ?_
  rintro e w2 ⟨rfl, rfl⟩
  go_wp2_with fail
  refine (H1 w1).out.mono ?_
  rintro e w2 ⟨rfl, hb2⟩
  go_wp2_with fail
  refine (H2 w2).out.mono ?_
  rintro e w3 ⟨rfl, hb3⟩
  go_wp2_with fail
  refine (H3 w3).out.mono ?_
  rintro e w4 ⟨rfl, hb4⟩
  go_wp2_with fail
  go_ret
  have hs1 := hb1.size
  have hs2 := hb2.size
  have hs3 := hb3.size
  exact ⟨by simp, ((hb1.trans (hb2.mono hs1)).trans (hb3.mono (by omega))).trans (hb4.mono (by omega))⟩

theorem walk (s : ByteArray) (_ : s.size ≤ maxLen) (n : Int) (_ : (Lit.int .i64 n).wf = true) (t : ByteArray) (_ : t.size ≤ maxLen) (w : World) :
    Calls Try.prog 18 #[.string s, .int .i64 n, .string t] w fun e w' => e = .returned (.bool true) ∧ Below w.heap.size w w' := by
  rcases Nat.lt_or_ge 4096 s.size with h | h
  · exact walk_long s n t w (.inl h)
  · rcases Nat.lt_or_ge 4096 t.size with h' | h'
    · exact walk_long s n t w (.inr h')
    · by_cases hn : n < 0 ∨ 255 < n
      · exact walk_no s n t w h h' hn
      · obtain ⟨k, rfl⟩ := Int.eq_ofNat_of_zero_le (show 0 ≤ n by omega)
        exact walk_yes s k t w h h' (by omega)

/-! ### The row's step -/
set_option maxRecDepth 100000 in
theorem lifted (os : Os) (started : os.Started) (H : Type) (enc : TypeId × Value → H) :
    ReturnsInHanded {} Try.checked os 18 .any (Rows.onetimeBackSpec.pre6 enc Try.prog Try.f18 Rows.onetimeBackRow.domain false) (Rows.onetimeBackSpec.post enc Try.prog Try.f18 false true false false) := by
  refine returnsInHanded_of_change (C := Try.checked) own started (by kernel_rfl) Try.func18
    (ChangeSpec.witness6 (enc := enc) (C := Try.checked) false ⟨#[], #[.string ByteArray.empty, .int .i64 0, .string ByteArray.empty], []⟩ 8 (by kernel_rfl) (by kernel_rfl) (by kernel_rfl) (by kernel_rfl)) ?_
  intro W base args ds gs before hval0 hW hcnd _
  have hval : ∀ (j : Nat) t v, Try.f18.params[j]? = some t → args[j]? = some v → Value.okWide Try.prog W .any base t v := hval0
  have hW' := hW
  obtain ⟨p, q, hA0, hV, rfl, hfz, hnd⟩ := hW
  have hA : DataW.TrodAll enc Try.prog W 0 (fun _ => true) true Try.f18.params.toList args.toList ds p := hA0
  rw [Try.params18] at hA hval
  obtain ⟨v0, vs0, d0, ds0, p0, q0, hargs, rfl, rfl, h0, r0⟩ := trodAll_cons hA
  obtain ⟨v1, vs1, d1, ds1, p1, q1, rfl, rfl, rfl, h1, r1⟩ := trodAll_cons r0
  obtain ⟨v2, vs2, d2, ds2, p2, q2, rfl, rfl, rfl, h2, r2⟩ := trodAll_cons r1
  obtain ⟨rfl, rfl, rfl⟩ := trodAll_nil r2
  obtain rfl : args = #[v0, v1, v2] := by cases args; simp_all
  obtain ⟨rfl, rfl⟩ := trodVars_none hV
  obtain ⟨a0, rfl, rfl, rfl, w0⟩ := open_string Try.underlying9 (hval 0 9 v0 rfl rfl) h0
  obtain ⟨a1, rfl, rfl, rfl, w1⟩ := open_int Try.underlying3 (hval 1 3 v1 rfl rfl) h1
  obtain ⟨a2, rfl, rfl, rfl, w2⟩ := open_string Try.underlying9 (hval 2 9 v2 rfl rfl) h2
  clear hA0 hval0
  refine (walk a0 w0 a1 w1 a2 w2 W).mono fun e W' ⟨he, bel⟩ => ?_
  subst he
  exact ⟨_, rfl, _, _, _, [], _, [], hW', trodAll_mk1 (shut_bool Try.underlying4 _), (trodAll_cons_mk (shut_string Try.underlying9 w0) (trodAll_cons_mk (shut_int Try.underlying3 w1) (trodAll_cons_mk (shut_string Try.underlying9 w2) trodAll_mk0))), rfl, bel.frame _, fun h => by cases h⟩

theorem over : Rows.onetimeBackRow.holds Try.pinned (OpenSpec.ofChange Rows.onetimeBackSpec) :=
  OpenClaim.holds_of_wide 18 Try.f18 rfl rfl rfl rfl rfl rfl rfl ⟨rfl, rfl, rfl, rfl, rfl⟩ rfl rfl rfl rfl rfl (by kernel_rfl) Try.func18 (by kernel_rfl)
    (of_decide_eq_true (by kernel_rfl)) (by unfold Func.isWrapper; first | (rw [if_pos (by decide +kernel)]; kernel_rfl) | (rw [if_neg (by decide +kernel)]; exact ⟨rfl, rfl⟩))
    (fun os started H enc _ => lifted os started H enc)
end OnetimeBack
/-- The statement. -/
theorem OnetimeBack_holds : Rows.OnetimeBackSaid := OnetimeBack.over
#print axioms OnetimeBack_holds
end Go.Proofs.Ytlpfajiigkjooaa
