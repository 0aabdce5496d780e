/- ShaPads: the padding of every number of bytes is what the document says. No condition. -/
import Derived.Test.YtlpfajiigkjooaaLawK
import Derived.Test.YtlpfajiigkjooaaRefSum
namespace Go.Proofs.Ytlpfajiigkjooaa
open Go.ChangeShapes Go.WideShapes Go.ChangeAt Go.RowKit
open Go.ChangeMaps (open_string shut_string)
set_option linter.unusedVariables false

namespace ShaPads

theorem walk_bad (n : Int) (w : World) (h : n < 0 ∨ 4294967296 < n) :
    Calls Try.prog 4 #[.int .i64 n] w fun e w' => e = .returned (.bool true) ∧ Below w.heap.size w w' := by
  have HP := fun w => Lib.hid (pad_none n h w)
  have e1 : (bs []).toList = [] := by rw [ByteArray.toList_eq]; rfl
  have e0 : (bs []).toList.isEmpty = true := by rw [e1]; rfl
  rcases h with h | h
  · go_enter Try.func4, Try.ntmps4
    go_wp2_with fail
    refine (lives3 w).mono ?_
    rintro e w1 ⟨rfl, hb1⟩
    go_wp2_with fail
    refine (HP w1).out.mono ?_
    rintro e w2 ⟨rfl, rfl⟩
    go_wp2_with fail
    go_ret
    exact ⟨rfl, hb1⟩
  · have h' : ¬ n < 0 := by omega
    go_enter Try.func4, Try.ntmps4
    go_wp2_with fail
    refine (lives3 w).mono ?_
    rintro e w1 ⟨rfl, hb1⟩
    go_wp2_with fail
    refine (HP w1).out.mono ?_
    rintro e w2 ⟨rfl, rfl⟩
    go_wp2_with fail
    go_ret
    exact ⟨rfl, hb1⟩

set_option maxHeartbeats 400000 in
theorem walk_good (n : Nat) (h : n ≤ 4294967296) (w : World) :
    Calls Try.prog 4 #[.int .i64 (n : Int)] w fun e w' => e = .returned (.bool true) ∧ Below w.heap.size w w' := by
  have hl : (bs (Sha.pad n)).size = 64 - (n + 8) % 64 + 8 := by rw [bs_size, pad_length]
  obtain ⟨m, hm, hm1, hm2, hm3⟩ : ∃ m : Nat, (bs (Sha.pad n)).size = m ∧ 9 ≤ m ∧ m ≤ 72 ∧ (n + m) % 64 = 0 := ⟨_, hl, by omega, by omega, by omega⟩
  have Hn := Lib.hid h
  have h0 : 0 ≤ (n : Int) := by omega
  have h1 : (n : Int) ≤ 4294967296 := by omega
  have h2 : 9 ≤ (m : Int) := by omega
  have h3 : (m : Int) ≤ 72 := by omega
  have h4 : (((n : Int) + (m : Int)) % 64 == 0) = true := by rw [beq_iff_eq]; omega
  clear h hl hm1 hm2 hm3
  go_enter Try.func4, Try.ntmps4
  go_wp2_with fail
  refine (lives3 w).mono ?_
  rintro e w1 ⟨rfl, hb1⟩
  go_wp2_with fail
  refine (pad_some n Hn.out w1).mono ?_
  rintro e w2 ⟨rfl, hb2⟩
  go_wp2_with fail
  refine (refpad_any n Hn.out w2).mono ?_
  rintro e w3 ⟨v3, rfl, hown, hb3⟩
  have hcv := str_of_own (P := Try.prog) 30 9 5 Try.underlying30 Try.underlying5 Try.underlying9 hown
  clear hown
  go_wp2_with fail
  go_ret
  exact ⟨rfl, (hb1.trans (hb2.mono hb1.size)).trans (hb3.mono (Nat.le_trans hb1.size hb2.size))⟩

theorem walk (n : Int) (_ : (Lit.int .i64 n).wf = true) (w : World) :
    Calls Try.prog 4 #[.int .i64 n] w fun e w' => e = .returned (.bool true) ∧ Below w.heap.size w w' := by
  by_cases h : n < 0 ∨ 4294967296 < n
  · exact walk_bad n w h
  · obtain ⟨k, rfl⟩ := Int.eq_ofNat_of_zero_le (show 0 ≤ n by omega)
    exact walk_good k (by omega) w

/-! ### The row's step -/
set_option maxRecDepth 100000 in
theorem lifted (os : Os) (started : os.Started) (H : Type) (enc : TypeId × Value → H) :
    ReturnsInHanded {} Try.checked os 4 .any (Rows.shaPadsSpec.pre6 enc Try.prog Try.f4 Rows.shaPadsRow.domain false) (Rows.shaPadsSpec.post enc Try.prog Try.f4 false true false false) := by
  refine returnsInHanded_of_change (C := Try.checked) own started (by kernel_rfl) Try.func4
    (ChangeSpec.witness6 (enc := enc) (C := Try.checked) false ⟨#[], #[.int .i64 0], []⟩ 8 (by kernel_rfl) (by kernel_rfl) (by kernel_rfl) (by kernel_rfl)) ?_
  intro W base args ds gs before hval0 hW hcnd _
  have hval : ∀ (j : Nat) t v, Try.f4.params[j]? = some t → args[j]? = some v → Value.okWide Try.prog W .any base t v := hval0
  have hW' := hW
  obtain ⟨p, q, hA0, hV, rfl, hfz, hnd⟩ := hW
  have hA : DataW.TrodAll enc Try.prog W 0 (fun _ => true) true Try.f4.params.toList args.toList ds p := hA0
  rw [Try.params4] at hA hval
  obtain ⟨v0, vs0, d0, ds0, p0, q0, hargs, rfl, rfl, h0, r0⟩ := trodAll_cons hA
  obtain ⟨rfl, rfl, rfl⟩ := trodAll_nil r0
  obtain rfl : args = #[v0] := by cases args; simp_all
  obtain ⟨rfl, rfl⟩ := trodVars_none hV
  obtain ⟨a0, rfl, rfl, rfl, w0⟩ := open_int Try.underlying3 (hval 0 3 v0 rfl rfl) h0
  clear hA0 hval0
  refine (walk a0 w0 W).mono fun e W' ⟨he, bel⟩ => ?_
  subst he
  exact ⟨_, rfl, _, _, _, [], _, [], hW', trodAll_mk1 (shut_bool Try.underlying4 _), (trodAll_cons_mk (shut_int Try.underlying3 w0) trodAll_mk0), rfl, bel.frame _, fun h => by cases h⟩

theorem over : Rows.shaPadsRow.holds Try.pinned (OpenSpec.ofChange Rows.shaPadsSpec) :=
  OpenClaim.holds_of_wide 4 Try.f4 rfl rfl rfl rfl rfl rfl rfl ⟨rfl, rfl, rfl, rfl, rfl⟩ rfl rfl rfl rfl rfl (by kernel_rfl) Try.func4 (by kernel_rfl)
    (of_decide_eq_true (by kernel_rfl)) (by unfold Func.isWrapper; first | (rw [if_pos (by decide +kernel)]; kernel_rfl) | (rw [if_neg (by decide +kernel)]; exact ⟨rfl, rfl⟩))
    (fun os started H enc _ => lifted os started H enc)
end ShaPads
/-- The statement. -/
theorem ShaPads_holds : Rows.ShaPadsSaid := ShaPads.over
#print axioms ShaPads_holds
end Go.Proofs.Ytlpfajiigkjooaa
