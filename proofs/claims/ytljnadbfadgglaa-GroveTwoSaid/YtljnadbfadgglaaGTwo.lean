/- GroveTwo: two signers of one seed sign alike; heights have roots of their own. No condition. -/
import Derived.Test.YtljnadbfadgglaaGFar
namespace Go.Proofs.Ytljnadbfadgglaa
open Go.ChangeShapes Go.WideShapes Go.ChangeAt Go.RowKit
open Go.ChangeMaps (open_string shut_string)
set_option maxRecDepth 100000
set_option linter.unusedVariables false
set_option linter.unusedSimpArgs false

namespace GroveTwo

theorem walk_long (s t : ByteArray) (w : World) (h : 4096 < s.size ∨ 4096 < t.size) :
    Calls Try.prog 8 #[.string s, .string t] w fun e w' => e = .returned (.bool true) ∧ Below w.heap.size w w' := by
  rcases Nat.lt_or_ge 4096 s.size with h1 | h1
  · have HN := fun w : World => Lib.hid (short_no6 s h1 w)
    go_enter Try.func8, Try.ntmps8
    go_wp2_with fail
    refine (lives6 w).mono ?_
    rintro e w1 ⟨rfl, hb1⟩
    go_wp2_with fail
    refine (HN w1).out.mono ?_
    rintro e w2 ⟨rfl, rfl⟩
    go_wp2_with fail
    refine (lives6 w1).mono ?_
    rintro e w2 ⟨rfl, hb2⟩
    go_wp2_with fail
    go_ret
    exact ⟨rfl, hb1.trans (hb2.mono hb1.size)⟩
  · have HN := fun w : World => Lib.hid (short_yes6 s h1 w)
    have h2 : (4096 : Int) < (t.size : Int) := by omega
    go_enter Try.func8, Try.ntmps8
    go_wp2_with fail
    refine (lives6 w).mono ?_
    rintro e w1 ⟨rfl, hb1⟩
    go_wp2_with fail
    refine (HN w1).out.mono ?_
    rintro e w2 ⟨rfl, rfl⟩
    go_wp2_with fail
    refine (lives6 w1).mono ?_
    rintro e w2 ⟨rfl, hb2⟩
    go_wp2_with fail
    go_ret
    exact ⟨rfl, hb1.trans (hb2.mono hb1.size)⟩

set_option maxHeartbeats 400000 in
theorem walk_short (s t : ByteArray) (w : World) (hs : s.size ≤ 4096) (ht : t.size ≤ 4096) :
    Calls Try.prog 8 #[.string s, .string t] w fun e w' => e = .returned (.bool true) ∧ Below w.heap.size w w' := by
  have HN := fun w : World => Lib.hid (short_yes6 s hs w)
  have h2 : (t.size : Int) ≤ 4096 := by omega
  have H1 := fun w : World => Lib.hid (new_yes s hs 1 (by omega) w)
  have H2 := fun (w : World) (B b : Nat) (hx : SignerAt w B b s 1 0) => Lib.hid (ssign_yes (used := 0) t ht hs (by omega) (by decide) hx)
  have H3 := fun (w : World) (B b : Nat) (hx : SignerAt w B b s 1 (0 + 1)) => Lib.hid (sleft_yes (by omega) (by decide) hx)
  have H4 := fun (w : World) (B b : Nat) (hx : SignerAt w B b s 1 (0 + 1)) => Lib.hid (sroot_yes (by omega) hx)
  have H5 := fun w : World => Lib.hid (verify_u (nodeK s 1 0) 0 t ht (sgn s 0 t 1) w)
  have H6 := fun w : World => Lib.hid (verify_u (nodeK s 1 0) 1 t ht (sgn s 0 t 1) w)
  rw [ver_len (nodeK s 1 0) 0 t (sgn s 0 t 1) (by rw [sgn_size]; decide)] at H5
  have hv := ver_sgn s 0 t 1 (by omega) (by decide)
  change verB (nodeK s 1 0) 1 t (sgn s 0 t 1) = true at hv
  rw [hv] at H6
  change ∀ (w : World) (B b : Nat) (hx : SignerAt w B b s 1 1), Hid (Calls Try.prog 23 #[.pointer (some ⟨b, 0, none⟩)] w fun e w' => e = .returned (.int .i64 1) ∧ Below w.heap.size w w') at H3
  change ∀ (w : World) (B b : Nat) (hx : SignerAt w B b s 1 1), _ at H4
  change ∀ (w : World) (B b : Nat) (hx : SignerAt w B b s 1 0), Hid (Calls Try.prog 24 #[.pointer (some ⟨b, 0, none⟩), .string t] w fun e w' => e = .returned (.tuple #[.string (sgn s 0 t 1), .int .i64 0]) ∧ SignerAt w' B b s 1 1 ∧ w.grownBy w' (some b)) at H2
  generalize sgn s 0 t 1 = sg at H2 H5 H6
  generalize nodeK s 1 0 = r at H4 H5 H6
  clear hv hs ht
  go_enter Try.func8, Try.ntmps8
  go_wp2_with fail
  refine (lives6 w).mono ?_
  rintro e w1 ⟨rfl, hb1⟩
  go_wp2_with fail
  refine (HN w1).out.mono ?_
  rintro e w2 ⟨rfl, rfl⟩
  go_wp2_with fail
  refine (H1 w1).out.mono ?_
  rintro e w2 ⟨ba, rfl, ha2, hb2⟩
  have HA2 := Lib.hid ha2
  clear ha2
  go_wp2_with fail
  refine (H1 w2).out.mono ?_
  rintro e w3 ⟨bb, rfl, hb3', hb3⟩
  have HA3 := Lib.hid (HA2.out.keep hb3)
  have HBB3 := Lib.hid hb3'
  have zab : ba < bb := by have := HA2.out.lt; have := hb3'.base; omega
  have zaB : ba < w2.heap.size := HA2.out.lt
  have zbase := HA2.out.base
  clear hb3'
  go_wp2_with fail
  refine (H2 w3 _ ba HA3.out).out.mono ?_
  rintro e w4 ⟨rfl, ha4, hg4⟩
  have HA4 := Lib.hid ha4
  have HBB4 := Lib.hid (HBB3.out.far hg4 (.inl zaB))
  have HG4 := Lib.hid hg4
  clear ha4 hg4
  go_wp2_with fail
  refine (H2 w4 _ bb HBB4.out).out.mono ?_
  rintro e w5 ⟨rfl, hb5', hg5⟩
  have HBB5 := Lib.hid hb5'
  have HA5 := Lib.hid (HA4.out.far hg5 (.inr zab))
  have HG5 := Lib.hid hg5
  clear hb5' hg5
  go_wp2_with fail
  refine (H3 w5 _ ba HA5.out).out.mono ?_
  rintro e w6 ⟨rfl, hb6⟩
  have HA6 := Lib.hid (HA5.out.keep hb6)
  have HBB6 := Lib.hid (HBB5.out.keep hb6)
  go_wp2_with fail
  refine (H3 w6 _ bb HBB6.out).out.mono ?_
  rintro e w7 ⟨rfl, hb7⟩
  have HA7 := Lib.hid (HA6.out.keep hb7)
  have HBB7 := Lib.hid (HBB6.out.keep hb7)
  go_wp2_with fail
  refine (H4 w7 _ ba HA7.out).out.mono ?_
  rintro e w8 ⟨rfl, hb8⟩
  have HBB8 := Lib.hid (HBB7.out.keep hb8)
  go_wp2_with fail
  refine (H5 w8).out.mono ?_
  rintro e w9 ⟨rfl, hb9⟩
  have HBB9 := Lib.hid (HBB8.out.keep hb9)
  go_wp2_with fail
  refine (H4 w9 _ bb HBB9.out).out.mono ?_
  rintro e wa ⟨rfl, hba⟩
  go_wp2_with fail
  refine (H6 wa).out.mono ?_
  rintro e wb ⟨rfl, hbb⟩
  go_wp2_with fail
  go_ret
  have z1 := hb1.size
  have z2 := hb2.size
  have z3 := hb3.size
  have z4 := HG4.out.size
  have z5 := HG5.out.size
  have z6 := hb6.size
  have z7 := hb7.size
  have z8 := hb8.size
  have z9 := hb9.size
  have za := hba.size
  have hB5 : Below w.heap.size w w5 := below_of_grown (below_of_grown ((hb1.trans (hb2.mono z1)).trans (hb3.mono (by omega))) HG4.out (by omega) (by omega)) HG5.out (by omega) (by omega)
  exact ⟨by simp, (((((hB5.trans (hb6.mono (by omega))).trans (hb7.mono (by omega))).trans (hb8.mono (by omega))).trans (hb9.mono (by omega))).trans (hba.mono (by omega))).trans (hbb.mono (by omega))⟩

theorem walk (s : ByteArray) (_ : s.size ≤ maxLen) (t : ByteArray) (_ : t.size ≤ maxLen) (w : World) :
    Calls Try.prog 8 #[.string s, .string t] w fun e w' => e = .returned (.bool true) ∧ Below w.heap.size w w' := by
  rcases Nat.lt_or_ge 4096 s.size with h | h
  · exact walk_long s t w (.inl h)
  · rcases Nat.lt_or_ge 4096 t.size with h' | h'
    · exact walk_long s t w (.inr h')
    · exact walk_short s t w h h'

/-! ### The row's step -/
set_option maxRecDepth 100000 in
theorem lifted (os : Os) (started : os.Started) (H : Type) (enc : TypeId × Value → H) :
    ReturnsInHanded {} Try.checked os 8 .any (Rows.groveTwoSpec.pre6 enc Try.prog Try.f8 Rows.groveTwoRow.domain false) (Rows.groveTwoSpec.post enc Try.prog Try.f8 false true false false) := by
  refine returnsInHanded_of_change (C := Try.checked) own started (by kernel_rfl) Try.func8
    (ChangeSpec.witness6 (enc := enc) (C := Try.checked) false ⟨#[], #[.string ByteArray.empty, .string ByteArray.empty], []⟩ 8 (by kernel_rfl) (by kernel_rfl) (by kernel_rfl) (by kernel_rfl)) ?_
  intro W base args ds gs before hval0 hW hcnd _
  have hval : ∀ (j : Nat) t v, Try.f8.params[j]? = some t → args[j]? = some v → Value.okWide Try.prog W .any base t v := hval0
  have hW' := hW
  obtain ⟨p, q, hA0, hV, rfl, hfz, hnd⟩ := hW
  have hA : DataW.TrodAll enc Try.prog W 0 (fun _ => true) true Try.f8.params.toList args.toList ds p := hA0
  rw [Try.params8] at hA hval
  obtain ⟨v0, vs0, d0, ds0, p0, q0, hargs, rfl, rfl, h0, r0⟩ := trodAll_cons hA
  obtain ⟨v1, vs1, d1, ds1, p1, q1, rfl, rfl, rfl, h1, r1⟩ := trodAll_cons r0
  obtain ⟨rfl, rfl, rfl⟩ := trodAll_nil r1
  obtain rfl : args = #[v0, v1] := by cases args; simp_all
  obtain ⟨rfl, rfl⟩ := trodVars_none hV
  obtain ⟨a0, rfl, rfl, rfl, w0⟩ := open_string Try.underlying9 (hval 0 9 v0 rfl rfl) h0
  obtain ⟨a1, rfl, rfl, rfl, w1⟩ := open_string Try.underlying9 (hval 1 9 v1 rfl rfl) h1
  clear hA0 hval0
  refine (walk a0 w0 a1 w1 W).mono fun e W' ⟨he, bel⟩ => ?_
  subst he
  exact ⟨_, rfl, _, _, _, [], _, [], hW', trodAll_mk1 (shut_bool Try.underlying4 _), (trodAll_cons_mk (shut_string Try.underlying9 w0) (trodAll_cons_mk (shut_string Try.underlying9 w1) trodAll_mk0)), rfl, bel.frame _, fun h => by cases h⟩

theorem over : Rows.groveTwoRow.holds Try.pinned (OpenSpec.ofChange Rows.groveTwoSpec) :=
  OpenClaim.holds_of_wide 8 Try.f8 rfl rfl rfl rfl rfl rfl rfl ⟨rfl, rfl, rfl, rfl, rfl⟩ rfl rfl rfl rfl rfl (by kernel_rfl) Try.func8 (by kernel_rfl)
    (of_decide_eq_true (by kernel_rfl)) (by unfold Func.isWrapper; first | (rw [if_pos (by decide +kernel)]; kernel_rfl) | (rw [if_neg (by decide +kernel)]; exact ⟨rfl, rfl⟩))
    (fun os started H enc _ => lifted os started H enc)
end GroveTwo
/-- The statement. -/
theorem GroveTwo_holds : Rows.GroveTwoSaid := GroveTwo.over
#print axioms GroveTwo_holds
end Go.Proofs.Ytljnadbfadgglaa
