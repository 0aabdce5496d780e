/- MacChecks: which tag is taken is what the reference says. No condition. -/
import Derived.Test.YtlpfajiigkjooaaTag
import Derived.Test.YtlpfajiigkjooaaSent
namespace Go.Proofs.Ytlpfajiigkjooaa
open Go.ChangeShapes Go.WideShapes Go.ChangeAt Go.RowKit
open Go.ChangeMaps (open_string shut_string)
set_option linter.unusedVariables false
set_option linter.unusedSimpArgs false

namespace MacChecks

theorem refcheck_no (seed : ByteArray) (a b : Int) (text given : ByteArray) (h : (nodeB a && nodeB b) = false) (w : World) :
    Calls Try.prog 48 #[.string seed, .int .i64 a, .int .i64 b, .string text, .string given] w fun e w' => e = .returned (.bool false) ∧ w = w' := by
  have H := fun (n : Int) (w : World) => Lib.hid (refnode_u n w)
  cases ha : nodeB a with
  | false =>
    have Ha := fun w : World => H a w
    rw [ha] at Ha
    go_enter Try.func48, Try.ntmps48
    go_wp2_with fail
    refine (Ha _).out.mono ?_
    rintro e w1 ⟨rfl, rfl⟩
    go_wp2_with fail
    go_ret
    exact ⟨rfl, rfl⟩
  | true =>
    have hb : nodeB b = false := by simpa [ha] using h
    have Ha := fun w : World => H a w
    rw [ha] at Ha
    have Hb := fun w : World => H b w
    rw [hb] at Hb
    go_enter Try.func48, Try.ntmps48
    go_wp2_with fail
    refine (Ha _).out.mono ?_
    rintro e w1 ⟨rfl, rfl⟩
    go_wp2_with fail
    refine (Hb _).out.mono ?_
    rintro e w1 ⟨rfl, rfl⟩
    go_wp2_with fail
    go_ret
    exact ⟨rfl, rfl⟩
theorem refcheck_yes (seed : ByteArray) (hs : seed.size ≤ 4096) (a b : Nat) (ha : a < 200) (hb : b < 200) (text : ByteArray) (ht : text.size ≤ 4096) (given : ByteArray) (w : World) :
    Calls Try.prog 48 #[.string seed, .int .i64 (a : Int), .int .i64 (b : Int), .string text, .string given] w fun e w' => e = .returned (.bool ((tagK seed a b text).toList == given.toList)) ∧ Below w.heap.size w w' := by
  have na : nodeB (a : Int) = true := (nodeB_iff _).2 ⟨by omega, by omega⟩
  have nb : nodeB (b : Int) = true := (nodeB_iff _).2 ⟨by omega, by omega⟩
  have Ha := fun w : World => Lib.hid (refnode_u (a : Int) w)
  rw [na] at Ha
  have Hb := fun w : World => Lib.hid (refnode_u (b : Int) w)
  rw [nb] at Hb
  have HP := fun w : World => Lib.hid (reftag_yes seed hs a b ha hb text ht w)
  obtain ⟨z, hz⟩ : ∃ z, z = tagK seed a b text := ⟨_, rfl⟩
  rw [← hz] at HP ⊢
  clear hs ht hz na nb
  go_enter Try.func48, Try.ntmps48
  go_wp2_with fail
  refine (Ha _).out.mono ?_
  rintro e w1 ⟨rfl, rfl⟩
  go_wp2_with fail
  refine (Hb _).out.mono ?_
  rintro e w1 ⟨rfl, rfl⟩
  go_wp2_with fail
  refine (HP _).out.mono ?_
  rintro e w1 ⟨rfl, hb1⟩
  go_wp2_with fail
  go_ret
  refine ⟨?_, hb1⟩
  show Ending.returned (.bool (given.toList == z.toList)) = _
  rw [BEq.comm]
theorem refcheck_u (seed : ByteArray) (hs : seed.size ≤ 4096) (a b : Int) (text : ByteArray) (ht : text.size ≤ 4096) (given : ByteArray) (w : World) :
    Calls Try.prog 48 #[.string seed, .int .i64 a, .int .i64 b, .string text, .string given] w fun e w' => e = .returned (.bool (checkB seed a b text given)) ∧ Below w.heap.size w w' := by
  unfold checkB
  cases h : nodeB a && nodeB b with
  | false => exact (refcheck_no seed a b text given h w).mono fun _ _ ⟨he, hw⟩ => ⟨he, below_eq hw⟩
  | true =>
    simp only [Bool.and_eq_true, nodeB_iff] at h
    obtain ⟨x, rfl⟩ := Int.eq_ofNat_of_zero_le h.1.1
    obtain ⟨y, rfl⟩ := Int.eq_ofNat_of_zero_le h.2.1
    exact refcheck_yes seed hs x y (by omega) (by omega) text ht given w

theorem walk_long (s : ByteArray) (f g : Int) (t x : ByteArray) (W : World) (h : 4096 < s.size ∨ 4096 < t.size) :
    Calls Try.prog 17 #[.agg #[.string s, .int .i64 f, .int .i64 g, .string t, .string x]] W fun e w' => e = .returned (.bool true) ∧ Below W.heap.size W w' := by
  have HN := fun w : World => Lib.hid (short_no4 s t h w)
  go_enter Try.func17, Try.ntmps17
  go_wp2_with fail
  refine (lives4 _).mono ?_
  rintro e w1 ⟨rfl, hb1⟩
  have hr : w1.heap[W.heap.size]? = some (.cells #[.string s, .int .i64 f, .int .i64 g, .string t, .string x] 54 (0, 0)) := (hb1.block _ (by simp)).trans (heap_alloc_new W _)
  have c0 := cell_of_row w1 W.heap.size 0 _ _ _ hr
  have c3 := cell_of_row w1 W.heap.size 3 _ _ _ hr
  simp at c0 c3
  have hB1 : Below W.heap.size W w1 := ((Below.refl _ _).alloc (Nat.le_refl _) _).trans (hb1.mono (by simp))
  clear hr hb1
  go_wp2_with fail
  refine (HN w1).out.mono ?_
  rintro e w2 ⟨rfl, rfl⟩
  go_wp2_with fail
  refine (lives4 w1).mono ?_
  rintro e w2 ⟨rfl, hb2⟩
  go_wp2_with fail
  go_ret
  exact ⟨rfl, hB1.trans (hb2.mono hB1.size)⟩

theorem walk_short (s : ByteArray) (f g : Int) (t x : ByteArray) (W : World) (h : s.size ≤ 4096) (ht : t.size ≤ 4096) :
    Calls Try.prog 17 #[.agg #[.string s, .int .i64 f, .int .i64 g, .string t, .string x]] W fun e w' => e = .returned (.bool true) ∧ Below W.heap.size W w' := by
  have HN := fun w : World => Lib.hid (short_yes4 s t h ht w)
  have H1 := fun w : World => Lib.hid (check_u s h f g t ht x w)
  have H2 := fun w : World => Lib.hid (refcheck_u s h f g t ht x w)
  generalize checkB s f g t x = p at H1 H2
  clear h ht
  go_enter Try.func17, Try.ntmps17
  go_wp2_with fail
  refine (lives4 _).mono ?_
  rintro e w1 ⟨rfl, hb1⟩
  have hr : w1.heap[W.heap.size]? = some (.cells #[.string s, .int .i64 f, .int .i64 g, .string t, .string x] 54 (0, 0)) := (hb1.block _ (by simp)).trans (heap_alloc_new W _)
  have hlt : W.heap.size < w1.heap.size := (Array.getElem?_eq_some_iff.1 hr).1
  have c0 := cell_of_row w1 W.heap.size 0 _ _ _ hr
  have c1 := cell_of_row w1 W.heap.size 1 _ _ _ hr
  have c2 := cell_of_row w1 W.heap.size 2 _ _ _ hr
  have c3 := cell_of_row w1 W.heap.size 3 _ _ _ hr
  have c4 := cell_of_row w1 W.heap.size 4 _ _ _ hr
  simp at c0 c1 c2 c3 c4
  have hB1 : Below W.heap.size W w1 := ((Below.refl _ _).alloc (Nat.le_refl _) _).trans (hb1.mono (by simp))
  have d0 := fun y : Bel w1.heap.size w1 => y.cell hlt c0
  have d1 := fun y : Bel w1.heap.size w1 => y.cell hlt c1
  have d2 := fun y : Bel w1.heap.size w1 => y.cell hlt c2
  have d3 := fun y : Bel w1.heap.size w1 => y.cell hlt c3
  have d4 := fun y : Bel w1.heap.size w1 => y.cell hlt c4
  clear hr hb1
  go_wp2_with fail
  refine (HN w1).out.mono ?_
  rintro e w2 ⟨rfl, rfl⟩
  go_wp2_with fail
  refine wp_region_bel w1.heap.size w1 (by kernel_rfl) (by kernel_rfl) (Below.refl _ _) ?_
  repeat (go_big_quiet_step (first | (go_at_call 47; exact calls_bel (Nat.le_refl _) (H1 _).out) | (go_at_call 48; exact calls_bel (Nat.le_refl _) (H2 _).out)))
  refine wpQuiet_nil ?_
  rintro _ ⟨y, rfl⟩
  go_wp2_with fail
  go_ret
  exact ⟨by simp, hB1.trans (y.h.mono hB1.size)⟩

theorem walk (s : ByteArray) (f g : Int) (t x : ByteArray) (W : World) :
    Calls Try.prog 17 #[.agg #[.string s, .int .i64 f, .int .i64 g, .string t, .string x]] W fun e w' => e = .returned (.bool true) ∧ Below W.heap.size W w' := by
  rcases Nat.lt_or_ge 4096 s.size with h | h
  · exact walk_long s f g t x W (.inl h)
  · rcases Nat.lt_or_ge 4096 t.size with h' | h'
    · exact walk_long s f g t x W (.inr h')
    · exact walk_short s f g t x W h h'

/-! ### The row's step -/
set_option maxRecDepth 100000 in
theorem lifted (os : Os) (started : os.Started) (H : Type) (enc : TypeId × Value → H) :
    ReturnsInHanded {} Try.checked os 17 .any (Rows.macChecksSpec.pre6 enc Try.prog Try.f17 Rows.macChecksRow.domain false) (Rows.macChecksSpec.post enc Try.prog Try.f17 false true false false) := by
  refine returnsInHanded_of_change (C := Try.checked) own started (by kernel_rfl) Try.func17
    (ChangeSpec.witness6 (enc := enc) (C := Try.checked) false ⟨#[], #[.agg #[.string ByteArray.empty, .int .i64 0, .int .i64 0, .string ByteArray.empty, .string ByteArray.empty]], []⟩ 8 (by kernel_rfl) (by kernel_rfl) (by kernel_rfl) (by kernel_rfl)) ?_
  intro W base args ds gs before hval0 hW hcnd _
  have hval : ∀ (j : Nat) t v, Try.f17.params[j]? = some t → args[j]? = some v → Value.okWide Try.prog W .any base t v := hval0
  have hW' := hW
  obtain ⟨p, q, hA0, hV, rfl, hfz, hnd⟩ := hW
  have hA : DataW.TrodAll enc Try.prog W 0 (fun _ => true) true Try.f17.params.toList args.toList ds p := hA0
  rw [Try.params17] at hA hval
  obtain ⟨v0, vs0, d0, ds0, p0, q0, hargs, rfl, rfl, h0, r0⟩ := trodAll_cons hA
  obtain ⟨rfl, rfl, rfl⟩ := trodAll_nil r0
  obtain rfl : args = #[v0] := by cases args; simp_all
  obtain ⟨rfl, rfl⟩ := trodVars_none hV
  obtain ⟨s0, f0, g0, t0, x0, rfl⟩ := open_sent (hval 0 54 v0 rfl rfl) h0
  have k0 := h0
  have lt0 : ∀ x ∈ p0, x.block < W.heap.size := by obtain ⟨m, hm⟩ := k0; exact DataW.trod_lt m _ _ _ hm
  clear hA0 hval0
  refine (walk s0 f0 g0 t0 x0 W).mono fun e W' ⟨he, bel⟩ => ?_
  subst he
  exact ⟨_, rfl, _, _, _, [], _, [], hW', trodAll_mk1 (shut_bool Try.underlying4 _), (trodAll_cons_mk (Below.trod laidOut (by kernel_rfl) (of_decide_eq_true (by kernel_rfl)) k0 bel lt0) trodAll_mk0), rfl, bel.frame _, fun h => by cases h⟩

theorem over : Rows.macChecksRow.holds Try.pinned (OpenSpec.ofChange Rows.macChecksSpec) :=
  OpenClaim.holds_of_wide 17 Try.f17 rfl rfl rfl rfl rfl rfl rfl ⟨rfl, rfl, rfl, rfl, rfl⟩ rfl rfl rfl rfl rfl (by kernel_rfl) Try.func17 (by kernel_rfl)
    (of_decide_eq_true (by kernel_rfl)) (by unfold Func.isWrapper; first | (rw [if_pos (by decide +kernel)]; kernel_rfl) | (rw [if_neg (by decide +kernel)]; exact ⟨rfl, rfl⟩))
    (fun os started H enc _ => lifted os started H enc)
end MacChecks
/-- The statement. -/
theorem MacChecks_holds : Rows.MacChecksSaid := MacChecks.over
#print axioms MacChecks_holds
end Go.Proofs.Ytlpfajiigkjooaa
