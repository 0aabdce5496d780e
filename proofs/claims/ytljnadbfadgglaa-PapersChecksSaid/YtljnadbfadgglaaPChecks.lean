/- PapersChecks: which certificate is taken, and why not, is what the document says. No condition.  -/
import Derived.Test.YtljnadbfadgglaaS3
import Derived.Test.YtljnadbfadgglaaS1
import Derived.Test.YtljnadbfadgglaaS2
namespace Go.Proofs.Ytljnadbfadgglaa
open Go.ChangeShapes Go.WideShapes Go.ChangeAt Go.RowKit
open Go.ChangeMaps (open_string shut_string)
set_option maxRecDepth 100000
set_option linter.unusedVariables false
set_option linter.unusedSimpArgs false

namespace PapersChecks

set_option maxRecDepth 100000
set_option maxHeartbeats 2000000 in
theorem walk (e : Int) (A : Option Addr) (n c : Nat) (l : List St) {W : World} (hS : Seats W A n c l) (x : ByteArray) (hx : x.size ≤ maxLen) (_ : World) :
    Calls Try.prog 10 #[.agg #[.int .i64 e, .slice A n c], .string x] W fun r w' => r = .returned (.bool true) ∧ Below W.heap.size W w' := by
  have HR1 := fun w' (h : Seats w' A n c l) => Lib.hid (pcheck_any e A n c l x hx w' h)
  have HR2 := fun w' (h : Seats w' A n c l) => Lib.hid (rpcheck_any e A n c l x hx w' h)
  have HS := Lib.hid hS
  generalize checkV e l x = rv at HR1 HR2
  clear hS hx
  go_enter Try.func10, Try.ntmps10
  go_wp2_with fail
  have hp0 := heap_alloc_new W (.cells #[.int .i64 e, .slice A n c] 50)
  have hB0 : Below W.heap.size W (W.alloc (.cells #[.int .i64 e, .slice A n c] 50)) := (Below.refl _ _).alloc (Nat.le_refl _) _
  have hz0 : W.heap.size < (W.alloc (.cells #[.int .i64 e, .slice A n c] 50)).heap.size := by simp
  generalize W.alloc (.cells #[.int .i64 e, .slice A n c] 50) = w0 at hp0 hB0 hz0 ⊢
  refine (lives8 w0).mono ?_
  rintro r w1 ⟨rfl, hb1⟩
  have HP1 := Lib.hid ((hb1.block _ hz0).trans hp0)
  have HBW1 := Lib.hid (hB0.trans (hb1.mono (by omega)))
  have hz1 := hb1.size
  have c0 := cell_of_row w1 W.heap.size 0 _ _ _ HP1.out
  have c1 := cell_of_row w1 W.heap.size 1 _ _ _ HP1.out
  simp at c0 c1
  clear hb1 hp0 hB0
  go_wp2_with fail
  refine (HR1 w1 (HS.out.keep HBW1.out)).out.mono ?_
  rintro r w4 ⟨hout, hb4⟩
  obtain ⟨RA, RC, rfl, hra⟩ := hout.form
  have HRA4 := Lib.hid hra.seats
  have HP4 := Lib.hid ((hb4.block _ (by omega)).trans HP1.out)
  have HBW4 := Lib.hid (HBW1.out.trans (hb4.mono (by omega)))
  have hz4 := hb4.size
  have hwl4 : W.heap.size < w4.heap.size := by omega
  clear c0 c1
  have c0 := cell_of_row w4 W.heap.size 0 _ _ _ HP4.out
  have c1 := cell_of_row w4 W.heap.size 1 _ _ _ HP4.out
  simp at c0 c1
  clear hb4 HBW1 HR1 hra hout HP1
  have hal : Below w4.heap.size w4 (w4.alloc (.cells #[.int .i64 (ck1 rv), .slice RA (ck2 rv).length RC] 50)) := (Below.refl _ _).alloc (Nat.le_refl _) _
  have HRA5 := Lib.hid (HRA4.out.keep hal)
  have HQ5 := Lib.hid (heap_alloc_new w4 (.cells #[.int .i64 (ck1 rv), .slice RA (ck2 rv).length RC] 50))
  have HBW5 := Lib.hid (HBW4.out.trans (hal.mono (by omega)))
  have hz5 : w4.heap.size < (w4.alloc (.cells #[.int .i64 (ck1 rv), .slice RA (ck2 rv).length RC] 50)).heap.size := by simp
  clear hal
  go_wp2_with fail
  obtain ⟨qb, hqb⟩ : ∃ qb, qb = w4.heap.size := ⟨_, rfl⟩
  rw [← hqb] at HQ5 hz5
  rw [← hqb]
  generalize w4.alloc (.cells #[.int .i64 (ck1 rv), .slice RA (ck2 rv).length RC] 50) = w5 at HRA5 HQ5 HBW5 hz5 ⊢
  have HQB := Lib.hid hqb
  clear hqb HRA4 HBW4 c0 c1 HP4
  refine (HR2 w5 (HS.out.keep HBW5.out)).out.mono ?_
  rintro r w6 ⟨hout, hb6⟩
  obtain ⟨SA, SC, rfl, hsa⟩ := hout.form
  have hq6 := (hb6.block qb hz5).trans HQ5.out
  have hz6 := hb6.size
  have HBW6 := Lib.hid (HBW5.out.trans (hb6.mono (by have := HQB.out; omega)))
  have q0 := cell_of_row w6 qb 0 _ _ _ hq6
  have q1 := cell_of_row w6 qb 1 _ _ _ hq6
  simp at q0 q1
  have hql : qb < w6.heap.size := by omega
  have hal : Below w6.heap.size w6 (w6.alloc (.cells #[.int .i64 (ck1 rv), .slice SA (ck2 rv).length SC] 50)) := (Below.refl _ _).alloc (Nat.le_refl _) _
  have HSM := Lib.hid (same_yes (ck1 rv) RA SA (ck2 rv).length RC SC (ck2 rv) _ ((HRA5.out.keep hb6).keep hal) (hsa.seats.keep hal))
  have HBW7 := Lib.hid (HBW6.out.trans (hal.mono (by have := HQB.out; omega)))
  clear hb6 hal hsa hout hq6 HBW5 HRA5 HQ5 HR2
  go_wp2_with fail
  refine HSM.out.mono ?_
  rintro r w8 ⟨rfl, hb8⟩
  have HBW8 := Lib.hid (HBW7.out.trans (hb8.mono HBW7.out.size))
  clear hb8 HSM
  go_wp2_with fail
  go_ret
  exact ⟨rfl, HBW8.out⟩

/-! ### The row's step -/
set_option maxRecDepth 100000 in
theorem lifted (os : Os) (started : os.Started) (H : Type) (enc : TypeId × Value → H) :
    ReturnsInHanded {} Try.checked os 10 .any (Rows.papersChecksSpec.pre6 enc Try.prog Try.f10 Rows.papersChecksRow.domain false) (Rows.papersChecksSpec.post enc Try.prog Try.f10 false true false false) := by
  refine returnsInHanded_of_change (C := Try.checked) own started (by kernel_rfl) Try.func10
    (ChangeSpec.witness6 (enc := enc) (C := Try.checked) false ⟨#[], #[.agg #[.int .i64 0, .slice none 0 0], .string ByteArray.empty], []⟩ 8 (by kernel_rfl) (by kernel_rfl) (by kernel_rfl) (by kernel_rfl)) ?_
  intro W base args ds gs before hval0 hW hcnd _
  have hval : ∀ (j : Nat) t v, Try.f10.params[j]? = some t → args[j]? = some v → Value.okWide Try.prog W .any base t v := hval0
  have hW' := hW
  obtain ⟨p, q, hA0, hV, rfl, hfz, hnd⟩ := hW
  have hA : DataW.TrodAll enc Try.prog W 0 (fun _ => true) true Try.f10.params.toList args.toList ds p := hA0
  rw [Try.params10] at hA hval
  obtain ⟨v0, vs0, d0, ds0, p0, q0, hargs, rfl, rfl, h0, r0⟩ := trodAll_cons hA
  obtain ⟨v1, vs1, d1, ds1, p1, q1, rfl, rfl, rfl, h1, r1⟩ := trodAll_cons r0
  obtain ⟨rfl, rfl, rfl⟩ := trodAll_nil r1
  obtain rfl : args = #[v0, v1] := by cases args; simp_all
  obtain ⟨rfl, rfl⟩ := trodVars_none hV
  obtain ⟨e0, A0, n0, c0, l0, rfl, w0⟩ := open_paper (hval 0 50 v0 rfl rfl) h0
  have k0 := h0
  have lt0 : ∀ x ∈ p0, x.block < W.heap.size := by obtain ⟨m, hm⟩ := k0; exact DataW.trod_lt m _ _ _ hm
  obtain ⟨a1, rfl, rfl, rfl, w1⟩ := open_string Try.underlying9 (hval 1 9 v1 rfl rfl) h1
  clear hA0 hval0
  refine (walk e0 A0 n0 c0 l0 w0 a1 w1 W).mono fun e W' ⟨he, bel⟩ => ?_
  subst he
  exact ⟨_, rfl, _, _, _, [], _, [], hW', trodAll_mk1 (shut_bool Try.underlying4 _), (trodAll_cons_mk (Below.trod laidOut (by kernel_rfl) (of_decide_eq_true (by kernel_rfl)) k0 bel lt0) (trodAll_cons_mk (shut_string Try.underlying9 w1) trodAll_mk0)), rfl, bel.frame _, fun h => by cases h⟩

theorem over : Rows.papersChecksRow.holds Try.pinned (OpenSpec.ofChange Rows.papersChecksSpec) :=
  OpenClaim.holds_of_wide 10 Try.f10 rfl rfl rfl rfl rfl rfl rfl ⟨rfl, rfl, rfl, rfl, rfl⟩ rfl rfl rfl rfl rfl (by kernel_rfl) Try.func10 (by kernel_rfl)
    (of_decide_eq_true (by kernel_rfl)) (by unfold Func.isWrapper; first | (rw [if_pos (by decide +kernel)]; kernel_rfl) | (rw [if_neg (by decide +kernel)]; exact ⟨rfl, rfl⟩))
    (fun os started H enc _ => lifted os started H enc)
end PapersChecks
/-- The statement. -/
theorem PapersChecks_holds : Rows.PapersChecksSaid := PapersChecks.over
#print axioms PapersChecks_holds
end Go.Proofs.Ytljnadbfadgglaa
