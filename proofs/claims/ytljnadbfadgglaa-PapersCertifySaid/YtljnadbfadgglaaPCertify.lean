/- PapersCertify: a certificate's bytes are what the document says, of any paper and signatures -/
import Derived.Test.YtljnadbfadgglaaAlk
import Derived.Test.YtljnadbfadgglaaS1
import Derived.Test.YtljnadbfadgglaaS2
namespace Go.Proofs.Ytljnadbfadgglaa
open Go.ChangeShapes Go.WideShapes Go.ChangeAt Go.RowKit
open Go.ChangeMaps (open_string shut_string)
set_option maxRecDepth 100000
set_option linter.unusedVariables false
set_option linter.unusedSimpArgs false

namespace PapersCertify

set_option maxHeartbeats 4000000 in
theorem walk (e : Int) (A : Option Addr) (n c : Nat) (l : List St) {W : World} (hS : Seats W A n c l) (B : Option Addr) (m d : Nat) (sg : List St) (hG : Seats W B m d sg) (_ : World) :
    Calls Try.prog 13 #[.agg #[.int .i64 e, .slice A n c], .slice B m d] W fun r w' => r = .returned (.bool true) ∧ Below W.heap.size W w' := by
  have HS := Lib.hid hS
  have HG := Lib.hid hG
  have hm63 : m ≤ 9223372036854775807 := Nat.le_trans hG.2.1 hG.2.2.1
  clear hS hG
  go_enter Try.func13, Try.ntmps13
  go_wp2_with fail
  have hp0 := heap_alloc_new W (.cells #[.int .i64 e, .slice A n c] 50)
  have hB0 : Below W.heap.size W (W.alloc (.cells #[.int .i64 e, .slice A n c] 50)) := (Below.refl _ _).alloc (Nat.le_refl _) _
  have hz0 : W.heap.size < (W.alloc (.cells #[.int .i64 e, .slice A n c] 50)).heap.size := by simp
  generalize W.alloc (.cells #[.int .i64 e, .slice A n c] 50) = w0 at hp0 hB0 hz0 ⊢
  refine (lives8 w0).mono ?_
  rintro r w1 ⟨rfl, hb1⟩
  have HP1 := Lib.hid ((hb1.block _ hz0).trans hp0)
  have HBW1 := Lib.hid (hB0.trans (hb1.mono (by omega)))
  have hz1 : W.heap.size < w1.heap.size := by have := hb1.size; omega
  clear hb1 hp0 hB0
  rcases Nat.lt_or_ge 40 m with hm | hm
  · have hm1 : (40 : Int) < (m : Int) := by omega
    go_wp2_with fail
    refine (lives8 w1).mono ?_
    rintro r w2 ⟨rfl, hb2⟩
    have HB2 := Lib.hid (HBW1.out.trans (hb2.mono (by omega)))
    clear hb2
    go_wp2_with fail
    go_ret
    exact ⟨rfl, HB2.out⟩
  have hm1 : (m : Int) ≤ 40 := by omega
  have c0 := cell_of_row w1 W.heap.size 0 _ _ _ HP1.out
  have c1 := cell_of_row w1 W.heap.size 1 _ _ _ HP1.out
  simp at c0 c1
  have HC1 := Lib.hid (certify_any e A n c l B m d sg w1 (HS.out.keep HBW1.out) (HG.out.keep HBW1.out))
  have HC2 := Lib.hid (fun (B' : Option Addr) (d' : Nat) w' (hb : Below W.heap.size W w') (h2 : Seats w' B' m d' sg) => refcertify_any e A n c l B' m d' sg w' (HS.out.keep hb) h2)
  generalize certV e l sg = R at HC1 HC2
  go_wp2_with fail
  refine HC1.out.mono ?_
  rintro r w2 ⟨rfl, hb2⟩
  have HP2 := Lib.hid ((hb2.block _ hz1).trans HP1.out)
  have HBW2 := Lib.hid (HBW1.out.trans (hb2.mono (by omega)))
  have hz2 : W.heap.size < w2.heap.size := by have := hb2.size; omega
  clear hb2 c0 c1 HC1 HBW1 HP1
  have c0 := cell_of_row w2 W.heap.size 0 _ _ _ HP2.out
  have c1 := cell_of_row w2 W.heap.size 1 _ _ _ HP2.out
  simp at c0 c1
  have HAL := Lib.hid (fun w' (hb : Below W.heap.size W w') => alike_any B m d sg w' (HG.out.keep hb) hm)
  have HBD : Hid (Below W.heap.size W w2.drew) := Lib.hid ⟨HBW2.out.os, HBW2.out.tape, HBW2.out.output, HBW2.out.size, HBW2.out.block⟩
  go_wp2_with fail
  go_region_law (first
    | (go_simp; go_at_call 40; refine (HAL.out w2.drew HBD.out).mono ?_; rintro r w3 ⟨⟨QA, QC, rfl, hq⟩, hb3⟩; have hq3 := Lib.hid hq.seats; have hr3 := (hb3.block W.heap.size hz2).trans HP2.out; have e0 := cell_of_row w3 W.heap.size 0 _ _ _ hr3; have e1 := cell_of_row w3 W.heap.size 1 _ _ _ hr3; simp at e0 e1; have HB3 := Lib.hid (HBD.out.trans (hb3.mono (Nat.le_of_lt hz2))))
    | (go_simp; go_at_call 39; refine (HC2.out QA QC w3 HB3.out hq3.out).mono ?_; rintro r w4 ⟨rfl, hb4⟩; have hz3 := HB3.out.size; have HB4 := Lib.hid (HB3.out.trans (hb4.mono hz3))))
  all_goals
    clear hb3 hq hr3 e0 e1 hb4 HP2 HAL HC2
    go_wp2_with fail
    go_ret
    exact ⟨rfl, HB4.out⟩

/-! ### The row's step -/
set_option maxRecDepth 100000 in
theorem lifted (os : Os) (started : os.Started) (H : Type) (enc : TypeId × Value → H) :
    ReturnsInHanded {} Try.checked os 13 .any (Rows.papersCertifySpec.pre6 enc Try.prog Try.f13 Rows.papersCertifyRow.domain false) (Rows.papersCertifySpec.post enc Try.prog Try.f13 false true false false) := by
  refine returnsInHanded_of_change (C := Try.checked) own started (by kernel_rfl) Try.func13
    (ChangeSpec.witness6 (enc := enc) (C := Try.checked) false ⟨#[], #[.agg #[.int .i64 0, .slice none 0 0], .slice none 0 0], []⟩ 8 (by kernel_rfl) (by kernel_rfl) (by kernel_rfl) (by kernel_rfl)) ?_
  intro W base args ds gs before hval0 hW hcnd _
  have hval : ∀ (j : Nat) t v, Try.f13.params[j]? = some t → args[j]? = some v → Value.okWide Try.prog W .any base t v := hval0
  have hW' := hW
  obtain ⟨p, q, hA0, hV, rfl, hfz, hnd⟩ := hW
  have hA : DataW.TrodAll enc Try.prog W 0 (fun _ => true) true Try.f13.params.toList args.toList ds p := hA0
  rw [Try.params13] at hA hval
  obtain ⟨v0, vs0, d0, ds0, p0, q0, hargs, rfl, rfl, h0, r0⟩ := trodAll_cons hA
  obtain ⟨v1, vs1, d1, ds1, p1, q1, rfl, rfl, rfl, h1, r1⟩ := trodAll_cons r0
  obtain ⟨rfl, rfl, rfl⟩ := trodAll_nil r1
  obtain rfl : args = #[v0, v1] := by cases args; simp_all
  obtain ⟨rfl, rfl⟩ := trodVars_none hV
  obtain ⟨e0, A0, n0, c0, l0, rfl, w0⟩ := open_paper (hval 0 50 v0 rfl rfl) h0
  have k0 := h0
  have lt0 : ∀ x ∈ p0, x.block < W.heap.size := by obtain ⟨m, hm⟩ := k0; exact DataW.trod_lt m _ _ _ hm
  obtain ⟨A1, len1, cap1, rfl⟩ := okWide_slice Try.underlying64 (hval 1 64 v1 rfl rfl)
  have k1 := h1
  have lt1 : ∀ x ∈ p1, x.block < W.heap.size := by obtain ⟨m, hm⟩ := k1; exact DataW.trod_lt m _ _ _ hm
  obtain ⟨z1, w1⟩ : ∃ ss, Seats W A1 len1 cap1 ss := by
    obtain ⟨fuel, hf⟩ := h1
    have hg : DataW.trod enc Try.prog W 0 (fun _ => true) true fuel 64 [.slice A1 len1 cap1] = some (d1, p1) := by simpa [Value.cells] using hf
    exact seats_of_cells (ti := 3) (ts := 9) Try.underlying64 Try.underlying75 (by kernel_rfl) rfl rfl rfl rfl Try.underlying3 Try.underlying9 (by kernel_rfl) (by kernel_rfl) hg
  clear hA0 hval0
  refine (walk e0 A0 n0 c0 l0 w0 A1 len1 cap1 z1 w1 W).mono fun e W' ⟨he, bel⟩ => ?_
  subst he
  exact ⟨_, rfl, _, _, _, [], _, [], hW', trodAll_mk1 (shut_bool Try.underlying4 _), (trodAll_cons_mk (Below.trod laidOut (by kernel_rfl) (of_decide_eq_true (by kernel_rfl)) k0 bel lt0) (trodAll_cons_mk (Below.trod laidOut (by kernel_rfl) (of_decide_eq_true (by kernel_rfl)) k1 bel lt1) trodAll_mk0)), rfl, bel.frame _, fun h => by cases h⟩

theorem over : Rows.papersCertifyRow.holds Try.pinned (OpenSpec.ofChange Rows.papersCertifySpec) :=
  OpenClaim.holds_of_wide 13 Try.f13 rfl rfl rfl rfl rfl rfl rfl ⟨rfl, rfl, rfl, rfl, rfl⟩ rfl rfl rfl rfl rfl (by kernel_rfl) Try.func13 (by kernel_rfl)
    (of_decide_eq_true (by kernel_rfl)) (by unfold Func.isWrapper; first | (rw [if_pos (by decide +kernel)]; kernel_rfl) | (rw [if_neg (by decide +kernel)]; exact ⟨rfl, rfl⟩))
    (fun os started H enc _ => lifted os started H enc)
end PapersCertify
/-- The statement. -/
theorem PapersCertify_holds : Rows.PapersCertifySaid := PapersCertify.over
#print axioms PapersCertify_holds
end Go.Proofs.Ytljnadbfadgglaa
