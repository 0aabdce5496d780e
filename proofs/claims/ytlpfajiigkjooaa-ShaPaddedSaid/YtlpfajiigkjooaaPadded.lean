/- ShaPadded: a text with its own padding behind it. No condition. -/
import Derived.Test.YtlpfajiigkjooaaLawK
import Derived.Test.YtlpfajiigkjooaaRefSum
namespace Go.Proofs.Ytlpfajiigkjooaa
open Go.ChangeShapes Go.WideShapes Go.ChangeAt Go.RowKit
open Go.ChangeMaps (open_string shut_string)
set_option linter.unusedVariables false

namespace ShaPadded

theorem walk_long (s : ByteArray) (w : World) (h : 1000 < s.size) :
    Calls Try.prog 7 #[.string s] w fun e w' => e = .returned (.bool true) ∧ Below w.heap.size w w' := by
  have h1 : (1000 : Int) < (s.size : Int) := by omega
  go_enter Try.func7, Try.ntmps7
  go_wp2_with fail
  refine (lives3 w).mono ?_
  rintro e w1 ⟨rfl, hb1⟩
  go_wp2_with fail
  refine (lives3 w1).mono ?_
  rintro e w2 ⟨rfl, hb2⟩
  go_wp2_with fail
  go_ret
  exact ⟨rfl, hb1.trans (hb2.mono hb1.size)⟩
theorem cat_two (a b : ByteArray) : cat [a, b] = a ++ b := by
  apply ByteArray.ext
  simp [cat, bs, ByteArray.data_append]

set_option maxHeartbeats 400000 in
theorem walk_short (s : ByteArray) (w : World) (h : s.size ≤ 1000) :
    Calls Try.prog 7 #[.string s] w fun e w' => e = .returned (.bool true) ∧ Below w.heap.size w w' := by
  have h2 : (s.size : Int) ≤ 1000 := by omega
  have hpl : (bs (Sha.pad s.size)).size ≤ 72 := by rw [bs_size, pad_length]; omega
  have hsz : (s ++ bs (Sha.pad s.size)).size ≤ 4096 := by rw [ByteArray.size_append]; omega
  have Hsz := Lib.hid hsz
  have Hs := Lib.hid h
  clear h hsz
  go_enter Try.func7, Try.ntmps7
  go_wp2_with fail
  refine (lives3 w).mono ?_
  rintro e w1 ⟨rfl, hb1⟩
  go_wp2_with fail
  refine (pad_some s.size (by have := Hs.out; omega) w1).mono ?_
  rintro e w2 ⟨rfl, hb2⟩
  go_wp2_with fail
  refine (sum_blk [s, bs (Sha.pad s.size)] w2.heap.size 2 rfl _ 9 (heap_alloc_new w2 _) (by omega) (by rw [cat_two]; have := Hsz.out; omega)).mono ?_
  rw [cat_two]
  rintro e w3 ⟨rfl, hb3⟩
  go_wp2_with fail
  refine (refsum_any _ (by have := Hsz.out; omega) w3).mono ?_
  rintro e w4 ⟨rfl, hb4⟩
  go_wp2_with fail
  go_ret
  have hs1 := hb1.size
  have hs2 := hb2.size
  have hs3 := hb3.size
  simp at hs3
  exact ⟨rfl, (((hb1.trans (hb2.mono hs1)).alloc (by omega) _).trans (hb3.mono (by simp; omega))).trans (hb4.mono (by omega))⟩

theorem walk (s : ByteArray) (_ : s.size ≤ maxLen) (w : World) :
    Calls Try.prog 7 #[.string s] w fun e w' => e = .returned (.bool true) ∧ Below w.heap.size w w' := by
  rcases Nat.lt_or_ge 1000 s.size with h | h
  · exact walk_long s w h
  · exact walk_short s w h

/-! ### The row's step -/
set_option maxRecDepth 100000 in
theorem lifted (os : Os) (started : os.Started) (H : Type) (enc : TypeId × Value → H) :
    ReturnsInHanded {} Try.checked os 7 .any (Rows.shaPaddedSpec.pre6 enc Try.prog Try.f7 Rows.shaPaddedRow.domain false) (Rows.shaPaddedSpec.post enc Try.prog Try.f7 false true false false) := by
  refine returnsInHanded_of_change (C := Try.checked) own started (by kernel_rfl) Try.func7
    (ChangeSpec.witness6 (enc := enc) (C := Try.checked) false ⟨#[], #[.string ByteArray.empty], []⟩ 8 (by kernel_rfl) (by kernel_rfl) (by kernel_rfl) (by kernel_rfl)) ?_
  intro W base args ds gs before hval0 hW hcnd _
  have hval : ∀ (j : Nat) t v, Try.f7.params[j]? = some t → args[j]? = some v → Value.okWide Try.prog W .any base t v := hval0
  have hW' := hW
  obtain ⟨p, q, hA0, hV, rfl, hfz, hnd⟩ := hW
  have hA : DataW.TrodAll enc Try.prog W 0 (fun _ => true) true Try.f7.params.toList args.toList ds p := hA0
  rw [Try.params7] at hA hval
  obtain ⟨v0, vs0, d0, ds0, p0, q0, hargs, rfl, rfl, h0, r0⟩ := trodAll_cons hA
  obtain ⟨rfl, rfl, rfl⟩ := trodAll_nil r0
  obtain rfl : args = #[v0] := by cases args; simp_all
  obtain ⟨rfl, rfl⟩ := trodVars_none hV
  obtain ⟨a0, rfl, rfl, rfl, w0⟩ := open_string Try.underlying9 (hval 0 9 v0 rfl rfl) h0
  clear hA0 hval0
  refine (walk a0 w0 W).mono fun e W' ⟨he, bel⟩ => ?_
  subst he
  exact ⟨_, rfl, _, _, _, [], _, [], hW', trodAll_mk1 (shut_bool Try.underlying4 _), (trodAll_cons_mk (shut_string Try.underlying9 w0) trodAll_mk0), rfl, bel.frame _, fun h => by cases h⟩

theorem over : Rows.shaPaddedRow.holds Try.pinned (OpenSpec.ofChange Rows.shaPaddedSpec) :=
  OpenClaim.holds_of_wide 7 Try.f7 rfl rfl rfl rfl rfl rfl rfl ⟨rfl, rfl, rfl, rfl, rfl⟩ rfl rfl rfl rfl rfl (by kernel_rfl) Try.func7 (by kernel_rfl)
    (of_decide_eq_true (by kernel_rfl)) (by unfold Func.isWrapper; first | (rw [if_pos (by decide +kernel)]; kernel_rfl) | (rw [if_neg (by decide +kernel)]; exact ⟨rfl, rfl⟩))
    (fun os started H enc _ => lifted os started H enc)
end ShaPadded
/-- The statement. -/
theorem ShaPadded_holds : Rows.ShaPaddedSaid := ShaPadded.over
#print axioms ShaPadded_holds
end Go.Proofs.Ytlpfajiigkjooaa
