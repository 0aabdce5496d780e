/- GroveRoots: the root of every seed and height is what the reference says. No condition. -/
import Derived.Test.YtljnadbfadgglaaRefG
import Derived.Test.YtljnadbfadgglaaPlant
namespace Go.Proofs.Ytljnadbfadgglaa
open Go.ChangeShapes Go.WideShapes Go.ChangeAt Go.RowKit
open Go.ChangeMaps (open_string shut_string)
set_option maxRecDepth 100000
set_option linter.unusedVariables false
set_option linter.unusedSimpArgs false

namespace GroveRoots

theorem short_yes6 (a : ByteArray) (h : a.size ≤ 4096) (w : World) : Calls Try.prog 16 #[.string a] w fun e w' => e = .returned (.bool true) ∧ w = w' :=
  (short6 a w).mono fun e w' ⟨he, hw⟩ => ⟨by rw [he, decide_eq_true h], hw⟩
theorem short_no6 (a : ByteArray) (h : 4096 < a.size) (w : World) : Calls Try.prog 16 #[.string a] w fun e w' => e = .returned (.bool false) ∧ w = w' :=
  (short6 a w).mono fun e w' ⟨he, hw⟩ => ⟨by rw [he, decide_eq_false (by omega)], hw⟩

theorem walk_long (s : ByteArray) (n : Int) (W : World) (h : 4096 < s.size) :
    Calls Try.prog 3 #[.agg #[.string s, .int .i64 n]] W fun e w' => e = .returned (.bool true) ∧ Below W.heap.size W w' := by
  have HN := fun w : World => Lib.hid (short_no6 s h w)
  go_enter Try.func3, Try.ntmps3
  go_wp2_with fail
  refine (lives6 _).mono ?_
  rintro e w1 ⟨rfl, hb1⟩
  have hr : w1.heap[W.heap.size]? = some (.cells #[.string s, .int .i64 n] 23 (0, 0)) := (hb1.block _ (by simp)).trans (heap_alloc_new W _)
  have c0 := cell_of_row w1 W.heap.size 0 _ _ _ hr
  simp at c0
  have hB1 : Below W.heap.size W w1 := ((Below.refl _ _).alloc (Nat.le_refl _) _).trans (hb1.mono (by simp))
  clear hr hb1
  go_wp2_with fail
  refine (HN w1).out.mono ?_
  rintro e w2 ⟨rfl, rfl⟩
  go_wp2_with fail
  refine (lives6 w1).mono ?_
  rintro e w2 ⟨rfl, hb2⟩
  go_wp2_with fail
  go_ret
  exact ⟨rfl, hB1.trans (hb2.mono hB1.size)⟩

theorem walk_no (s : ByteArray) (n : Int) (W : World) (h : s.size ≤ 4096) (hn : highB n = false) :
    Calls Try.prog 3 #[.agg #[.string s, .int .i64 n]] W fun e w' => e = .returned (.bool true) ∧ Below W.heap.size W w' := by
  have HN := fun w : World => Lib.hid (short_yes6 s h w)
  have H1 := fun w : World => Lib.hid (groot_no s n hn w)
  have H2 := fun w : World => Lib.hid (new_no s n hn w)
  have H3 := fun w : World => Lib.hid (right_u n w)
  have hE : errH n = 1 := by unfold errH; rw [hn]; rfl
  rw [hE] at H3
  clear h hE
  go_enter Try.func3, Try.ntmps3
  go_wp2_with fail
  refine (lives6 _).mono ?_
  rintro e w1 ⟨rfl, hb1⟩
  have hr : w1.heap[W.heap.size]? = some (.cells #[.string s, .int .i64 n] 23 (0, 0)) := (hb1.block _ (by simp)).trans (heap_alloc_new W _)
  have c0 := cell_of_row w1 W.heap.size 0 _ _ _ hr
  have c1 := cell_of_row w1 W.heap.size 1 _ _ _ hr
  simp at c0 c1
  have hB1 : Below W.heap.size W w1 := ((Below.refl _ _).alloc (Nat.le_refl _) _).trans (hb1.mono (by simp))
  clear hr hb1
  go_wp2_with fail
  refine (HN w1).out.mono ?_
  rintro e w2 ⟨rfl, rfl⟩
  go_wp2_with fail
  refine (H1 w1).out.mono ?_
  rintro e w2 ⟨rfl, rfl⟩
  go_wp2_with fail
  refine (H2 w1).out.mono ?_
  rintro e w2 ⟨rfl, rfl⟩
  go_wp2_with fail
  refine (H3 w1).out.mono ?_
  rintro e w2 ⟨rfl, rfl⟩
  go_wp2_with fail
  go_ret
  exact ⟨rfl, hB1⟩

set_option maxHeartbeats 400000 in
theorem walk_yes (s : ByteArray) (h : Nat) (W : World) (hs : s.size ≤ 4096) (hh : h ≤ 5) :
    Calls Try.prog 3 #[.agg #[.string s, .int .i64 (h : Int)]] W fun e w' => e = .returned (.bool true) ∧ Below W.heap.size W w' := by
  have HN := fun w : World => Lib.hid (short_yes6 s hs w)
  have H1 := fun w : World => Lib.hid (groot_yes s hs h hh w)
  have H2 := fun w : World => Lib.hid (new_yes s hs h hh w)
  have H3 := fun w : World => Lib.hid (right_u (h : Int) w)
  have hE : errH (h : Int) = 0 := by unfold errH; rw [(highB_iff _).2 ⟨by omega, by omega⟩]; rfl
  rw [hE] at H3
  have H4 := fun w : World => Lib.hid (leaves_any s hs h hh w)
  have H5 := fun (g c : Nat) (w : World) (ht : TextsAt w g (2 ^ h) (fun n => pubK s n)) => Lib.hid (refroot_any s h hh g c w ht)
  have H6 := fun (w : World) (B b : Nat) (hx : SignerAt w B b s h 0) => Lib.hid (sroot_yes hh hx)
  generalize nodeK s h 0 = z at H1 H5 H6
  clear hE hs
  go_enter Try.func3, Try.ntmps3
  go_wp2_with fail
  refine (lives6 _).mono ?_
  rintro e w1 ⟨rfl, hb1⟩
  have hr : w1.heap[W.heap.size]? = some (.cells #[.string s, .int .i64 (h : Int)] 23 (0, 0)) := (hb1.block _ (by simp)).trans (heap_alloc_new W _)
  have hlt : W.heap.size < w1.heap.size := (Array.getElem?_eq_some_iff.1 hr).1
  have c0 := cell_of_row w1 W.heap.size 0 _ _ _ hr
  have c1 := cell_of_row w1 W.heap.size 1 _ _ _ hr
  simp at c0 c1
  have hB1 : Below W.heap.size W w1 := ((Below.refl _ _).alloc (Nat.le_refl _) _).trans (hb1.mono (by simp))
  have C0 := Lib.hid c0
  have C1 := Lib.hid c1
  clear hr hb1
  go_wp2_with fail
  refine (HN w1).out.mono ?_
  rintro e w2 ⟨rfl, rfl⟩
  go_wp2_with fail
  refine (H1 w1).out.mono ?_
  rintro e w2 ⟨rfl, hb2⟩
  have z2 := hb2.size
  have c0 := (hb2.cell (p := ⟨W.heap.size, 0, none⟩) hlt).trans C0.out
  have c1 := (hb2.cell (p := ⟨W.heap.size, 1, none⟩) hlt).trans C1.out
  go_wp2_with fail
  refine (H2 w2).out.mono ?_
  rintro e w3 ⟨b, rfl, hsg, hb3⟩
  have HSG := Lib.hid hsg
  have z3 := hb3.size
  have hB13 := hb2.trans (hb3.mono z2)
  have d0 := (hB13.cell (p := ⟨W.heap.size, 0, none⟩) hlt).trans C0.out
  have d1 := (hB13.cell (p := ⟨W.heap.size, 1, none⟩) hlt).trans C1.out
  clear hsg c0 c1
  go_wp2_with fail
  refine (H3 w3).out.mono ?_
  rintro e w4 ⟨rfl, rfl⟩
  go_wp2_with fail
  go_region_held3 (fun w' => w'.cell? ⟨W.heap.size, 0, none⟩ = some (.string s) ∧ w'.cell? ⟨W.heap.size, 1, none⟩ = some (.int .i64 (h : Int)))
    (first
      | exact ⟨d0, d1⟩
      | exact ⟨(hb4.cell (p := ⟨W.heap.size, 0, none⟩) (by show W.heap.size < w3.heap.size; omega)).trans d0, (hb4.cell (p := ⟨W.heap.size, 1, none⟩) (by show W.heap.size < w3.heap.size; omega)).trans d1⟩
      | exact ⟨(hB5.cell (p := ⟨W.heap.size, 0, none⟩) (by show W.heap.size < w3.heap.size; omega)).trans d0, (hB5.cell (p := ⟨W.heap.size, 1, none⟩) (by show W.heap.size < w3.heap.size; omega)).trans d1⟩)
    ((first
      | (go_at_call 21; refine (H4 _).out.mono ?_; rintro e w4 ⟨g, c, rfl, hg, hta, hb4⟩)
      | (go_at_call 20; refine (H5 g c w4 hta).out.mono ?_; rintro e w5 ⟨rfl, hb5⟩; have hB5 : Below w3.heap.size w3 w5 := (((Below.refl w3.heap.size w3).drew).trans hb4).trans (hb5.mono hb4.size))))
  have HS5 := Lib.hid (HSG.out.keep hB5)
  clear d0 d1 hb4 hb5 hta
  go_wp2_with fail
  refine (H6 w5 _ b HS5.out).out.mono ?_
  rintro e w6 ⟨rfl, hb6⟩
  go_wp2_with fail
  go_ret
  have z5 := hB5.size
  have z1 := hB1.size
  exact ⟨by simp, ((hB1.trans (hB13.mono z1)).trans (hB5.mono (by omega))).trans (hb6.mono (by omega))⟩

theorem walk (s : ByteArray) (n : Int) (W : World) :
    Calls Try.prog 3 #[.agg #[.string s, .int .i64 n]] W fun e w' => e = .returned (.bool true) ∧ Below W.heap.size W w' := by
  rcases Nat.lt_or_ge 4096 s.size with h1 | h1
  · exact walk_long s n W h1
  · cases hn : highB n with
    | false => exact walk_no s n W h1 hn
    | true =>
      obtain ⟨h, rfl⟩ := Int.eq_ofNat_of_zero_le ((highB_iff n).1 hn).1
      exact walk_yes s h W h1 (by have := ((highB_iff (h : Int)).1 hn).2; omega)

/-! ### The row's step -/
set_option maxRecDepth 100000 in
theorem lifted (os : Os) (started : os.Started) (H : Type) (enc : TypeId × Value → H) :
    ReturnsInHanded {} Try.checked os 3 .any (Rows.groveRootsSpec.pre6 enc Try.prog Try.f3 Rows.groveRootsRow.domain false) (Rows.groveRootsSpec.post enc Try.prog Try.f3 false true false false) := by
  refine returnsInHanded_of_change (C := Try.checked) own started (by kernel_rfl) Try.func3
    (ChangeSpec.witness6 (enc := enc) (C := Try.checked) false ⟨#[], #[.agg #[.string ByteArray.empty, .int .i64 0]], []⟩ 8 (by kernel_rfl) (by kernel_rfl) (by kernel_rfl) (by kernel_rfl)) ?_
  intro W base args ds gs before hval0 hW hcnd _
  have hval : ∀ (j : Nat) t v, Try.f3.params[j]? = some t → args[j]? = some v → Value.okWide Try.prog W .any base t v := hval0
  have hW' := hW
  obtain ⟨p, q, hA0, hV, rfl, hfz, hnd⟩ := hW
  have hA : DataW.TrodAll enc Try.prog W 0 (fun _ => true) true Try.f3.params.toList args.toList ds p := hA0
  rw [Try.params3] at hA hval
  obtain ⟨v0, vs0, d0, ds0, p0, q0, hargs, rfl, rfl, h0, r0⟩ := trodAll_cons hA
  obtain ⟨rfl, rfl, rfl⟩ := trodAll_nil r0
  obtain rfl : args = #[v0] := by cases args; simp_all
  obtain ⟨rfl, rfl⟩ := trodVars_none hV
  obtain ⟨s0, n0, rfl⟩ := open_plant (hval 0 23 v0 rfl rfl) h0
  have k0 := h0
  have lt0 : ∀ x ∈ p0, x.block < W.heap.size := by obtain ⟨m, hm⟩ := k0; exact DataW.trod_lt m _ _ _ hm
  clear hA0 hval0
  refine (walk s0 n0 W).mono fun e W' ⟨he, bel⟩ => ?_
  subst he
  exact ⟨_, rfl, _, _, _, [], _, [], hW', trodAll_mk1 (shut_bool Try.underlying4 _), (trodAll_cons_mk (Below.trod laidOut (by kernel_rfl) (of_decide_eq_true (by kernel_rfl)) k0 bel lt0) trodAll_mk0), rfl, bel.frame _, fun h => by cases h⟩

theorem over : Rows.groveRootsRow.holds Try.pinned (OpenSpec.ofChange Rows.groveRootsSpec) :=
  OpenClaim.holds_of_wide 3 Try.f3 rfl rfl rfl rfl rfl rfl rfl ⟨rfl, rfl, rfl, rfl, rfl⟩ rfl rfl rfl rfl rfl (by kernel_rfl) Try.func3 (by kernel_rfl)
    (of_decide_eq_true (by kernel_rfl)) (by unfold Func.isWrapper; first | (rw [if_pos (by decide +kernel)]; kernel_rfl) | (rw [if_neg (by decide +kernel)]; exact ⟨rfl, rfl⟩))
    (fun os started H enc _ => lifted os started H enc)
end GroveRoots
/-- The statement. -/
theorem GroveRoots_holds : Rows.GroveRootsSaid := GroveRoots.over
#print axioms GroveRoots_holds
end Go.Proofs.Ytljnadbfadgglaa
