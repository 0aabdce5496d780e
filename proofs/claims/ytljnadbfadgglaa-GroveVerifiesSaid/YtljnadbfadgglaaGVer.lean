/- GroveVerifies: which bytes are taken as a signature is what the reference says. No condition. -/
import Derived.Test.YtljnadbfadgglaaRefVer
import Derived.Test.YtljnadbfadgglaaPlant
namespace Go.Proofs.Ytljnadbfadgglaa
open Go.ChangeShapes Go.WideShapes Go.ChangeAt Go.RowKit
open Go.ChangeMaps (open_string shut_string)
set_option maxRecDepth 100000
set_option linter.unusedVariables false
set_option linter.unusedSimpArgs false

namespace GroveVerifies

theorem walk_long (s : ByteArray) (n : Int) (t x : ByteArray) (W : World) (h : 4096 < t.size) :
    Calls Try.prog 6 #[.agg #[.string s, .int .i64 n, .string t, .string x]] W fun e w' => e = .returned (.bool true) ∧ Below W.heap.size W w' := by
  have h' : (4096 : Int) < (t.size : Int) := by omega
  go_enter Try.func6, Try.ntmps6
  go_wp2_with fail
  refine (lives6 _).mono ?_
  rintro e w1 ⟨rfl, hb1⟩
  have hr : w1.heap[W.heap.size]? = some (.cells #[.string s, .int .i64 n, .string t, .string x] 43 (0, 0)) := (hb1.block _ (by simp)).trans (heap_alloc_new W _)
  have c2 := cell_of_row w1 W.heap.size 2 _ _ _ hr
  simp at c2
  have hB1 : Below W.heap.size W w1 := ((Below.refl _ _).alloc (Nat.le_refl _) _).trans (hb1.mono (by simp))
  clear hr hb1
  go_wp2_with fail
  refine (lives6 w1).mono ?_
  rintro e w2 ⟨rfl, hb2⟩
  go_wp2_with fail
  go_ret
  exact ⟨rfl, hB1.trans (hb2.mono hB1.size)⟩

theorem walk_short (s : ByteArray) (n : Int) (t x : ByteArray) (W : World) (h : t.size ≤ 4096) :
    Calls Try.prog 6 #[.agg #[.string s, .int .i64 n, .string t, .string x]] W fun e w' => e = .returned (.bool true) ∧ Below W.heap.size W w' := by
  have h' : (t.size : Int) ≤ 4096 := by omega
  have H1 := fun w : World => Lib.hid (verify_u s n t h x w)
  have H2 := fun w : World => Lib.hid (refverify_u s n t h x w)
  generalize verB s n t x = p at H1 H2
  go_enter Try.func6, Try.ntmps6
  go_wp2_with fail
  refine (lives6 _).mono ?_
  rintro e w1 ⟨rfl, hb1⟩
  have hr : w1.heap[W.heap.size]? = some (.cells #[.string s, .int .i64 n, .string t, .string x] 43 (0, 0)) := (hb1.block _ (by simp)).trans (heap_alloc_new W _)
  have hlt : W.heap.size < w1.heap.size := (Array.getElem?_eq_some_iff.1 hr).1
  have c0 := cell_of_row w1 W.heap.size 0 _ _ _ hr
  have c1 := cell_of_row w1 W.heap.size 1 _ _ _ hr
  have c2 := cell_of_row w1 W.heap.size 2 _ _ _ hr
  have c3 := cell_of_row w1 W.heap.size 3 _ _ _ hr
  simp at c0 c1 c2 c3
  have hB1 : Below W.heap.size W w1 := ((Below.refl _ _).alloc (Nat.le_refl _) _).trans (hb1.mono (by simp))
  have d0 := fun y : Bel w1.heap.size w1 => y.cell hlt c0
  have d1 := fun y : Bel w1.heap.size w1 => y.cell hlt c1
  have d2 := fun y : Bel w1.heap.size w1 => y.cell hlt c2
  have d3 := fun y : Bel w1.heap.size w1 => y.cell hlt c3
  clear hr hb1
  go_wp2_with fail
  refine wp_region_bel w1.heap.size w1 (by kernel_rfl) (by kernel_rfl) (Below.refl _ _) ?_
  repeat (go_big_quiet_step (first | (go_at_call 26; exact calls_bel (Nat.le_refl _) (H1 _).out) | (go_at_call 27; exact calls_bel (Nat.le_refl _) (H2 _).out)))
  refine wpQuiet_nil ?_
  rintro _ ⟨y, rfl⟩
  go_wp2_with fail
  go_ret
  exact ⟨by simp, hB1.trans (y.h.mono hB1.size)⟩

theorem walk (s : ByteArray) (n : Int) (t x : ByteArray) (W : World) :
    Calls Try.prog 6 #[.agg #[.string s, .int .i64 n, .string t, .string x]] W fun e w' => e = .returned (.bool true) ∧ Below W.heap.size W w' := by
  rcases Nat.lt_or_ge 4096 t.size with h1 | h1
  · exact walk_long s n t x W h1
  · exact walk_short s n t x W h1

/-! ### The row's step -/
set_option maxRecDepth 100000 in
theorem lifted (os : Os) (started : os.Started) (H : Type) (enc : TypeId × Value → H) :
    ReturnsInHanded {} Try.checked os 6 .any (Rows.groveVerifiesSpec.pre6 enc Try.prog Try.f6 Rows.groveVerifiesRow.domain false) (Rows.groveVerifiesSpec.post enc Try.prog Try.f6 false true false false) := by
  refine returnsInHanded_of_change (C := Try.checked) own started (by kernel_rfl) Try.func6
    (ChangeSpec.witness6 (enc := enc) (C := Try.checked) false ⟨#[], #[.agg #[.string ByteArray.empty, .int .i64 0, .string ByteArray.empty, .string ByteArray.empty]], []⟩ 8 (by kernel_rfl) (by kernel_rfl) (by kernel_rfl) (by kernel_rfl)) ?_
  intro W base args ds gs before hval0 hW hcnd _
  have hval : ∀ (j : Nat) t v, Try.f6.params[j]? = some t → args[j]? = some v → Value.okWide Try.prog W .any base t v := hval0
  have hW' := hW
  obtain ⟨p, q, hA0, hV, rfl, hfz, hnd⟩ := hW
  have hA : DataW.TrodAll enc Try.prog W 0 (fun _ => true) true Try.f6.params.toList args.toList ds p := hA0
  rw [Try.params6] at hA hval
  obtain ⟨v0, vs0, d0, ds0, p0, q0, hargs, rfl, rfl, h0, r0⟩ := trodAll_cons hA
  obtain ⟨rfl, rfl, rfl⟩ := trodAll_nil r0
  obtain rfl : args = #[v0] := by cases args; simp_all
  obtain ⟨rfl, rfl⟩ := trodVars_none hV
  obtain ⟨s0, n0, t0, x0, rfl⟩ := open_given (hval 0 43 v0 rfl rfl) h0
  have k0 := h0
  have lt0 : ∀ x ∈ p0, x.block < W.heap.size := by obtain ⟨m, hm⟩ := k0; exact DataW.trod_lt m _ _ _ hm
  clear hA0 hval0
  refine (walk s0 n0 t0 x0 W).mono fun e W' ⟨he, bel⟩ => ?_
  subst he
  exact ⟨_, rfl, _, _, _, [], _, [], hW', trodAll_mk1 (shut_bool Try.underlying4 _), (trodAll_cons_mk (Below.trod laidOut (by kernel_rfl) (of_decide_eq_true (by kernel_rfl)) k0 bel lt0) trodAll_mk0), rfl, bel.frame _, fun h => by cases h⟩

theorem over : Rows.groveVerifiesRow.holds Try.pinned (OpenSpec.ofChange Rows.groveVerifiesSpec) :=
  OpenClaim.holds_of_wide 6 Try.f6 rfl rfl rfl rfl rfl rfl rfl ⟨rfl, rfl, rfl, rfl, rfl⟩ rfl rfl rfl rfl rfl (by kernel_rfl) Try.func6 (by kernel_rfl)
    (of_decide_eq_true (by kernel_rfl)) (by unfold Func.isWrapper; first | (rw [if_pos (by decide +kernel)]; kernel_rfl) | (rw [if_neg (by decide +kernel)]; exact ⟨rfl, rfl⟩))
    (fun os started H enc _ => lifted os started H enc)
end GroveVerifies
/-- The statement. -/
theorem GroveVerifies_holds : Rows.GroveVerifiesSaid := GroveVerifies.over
#print axioms GroveVerifies_holds
end Go.Proofs.Ytljnadbfadgglaa
