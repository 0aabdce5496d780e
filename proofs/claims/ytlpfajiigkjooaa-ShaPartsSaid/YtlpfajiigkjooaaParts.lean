/- ShaParts: the beginning of a digest is just that. No condition. -/
import Derived.Test.YtlpfajiigkjooaaLawK
import Derived.Test.YtlpfajiigkjooaaRefSum
namespace Go.Proofs.Ytlpfajiigkjooaa
open Go.ChangeShapes Go.WideShapes Go.ChangeAt Go.RowKit
open Go.ChangeMaps (open_string shut_string)
set_option linter.unusedVariables false

namespace ShaParts

theorem walk_long (n : Int) (s : ByteArray) (w : World) (h : 4096 < s.size) :
    Calls Try.prog 5 #[.int .i64 n, .string s] w fun e w' => e = .returned (.bool true) ∧ Below w.heap.size w w' := by
  have h1 : (4096 : Int) < (s.size : Int) := by omega
  go_enter Try.func5, Try.ntmps5
  go_wp2_with fail
  refine (lives3 w).mono ?_
  rintro e w1 ⟨rfl, hb1⟩
  go_wp2_with fail
  refine (lives3 w1).mono ?_
  rintro e w2 ⟨rfl, hb2⟩
  go_wp2_with fail
  go_ret
  exact ⟨rfl, hb1.trans (hb2.mono hb1.size)⟩

theorem walk_bad (n : Int) (s : ByteArray) (w : World) (hs : s.size ≤ 4096) (h : n < 0 ∨ 32 < n) :
    Calls Try.prog 5 #[.int .i64 n, .string s] w fun e w' => e = .returned (.bool true) ∧ Below w.heap.size w w' := by
  have h2 : (s.size : Int) ≤ 4096 := by omega
  have HP := fun v w => Lib.hid (part_bad n v h w)
  have e1 : (bs []).toList = [] := by rw [ByteArray.toList_eq]; rfl
  have e0 : (bs []).toList.isEmpty = true := by rw [e1]; rfl
  rcases h with h | h
  · go_enter Try.func5, Try.ntmps5
    go_wp2_with fail
    refine (lives3 w).mono ?_
    rintro e w1 ⟨rfl, hb1⟩
    go_wp2_with fail
    refine (HP _ _).out.mono ?_
    rintro e w2 ⟨rfl, rfl⟩
    go_wp2_with fail
    go_ret
    exact ⟨rfl, hb1.alloc hb1.size _⟩
  · have h' : ¬ n < 0 := by omega
    go_enter Try.func5, Try.ntmps5
    go_wp2_with fail
    refine (lives3 w).mono ?_
    rintro e w1 ⟨rfl, hb1⟩
    go_wp2_with fail
    refine (HP _ _).out.mono ?_
    rintro e w2 ⟨rfl, rfl⟩
    go_wp2_with fail
    go_ret
    exact ⟨rfl, hb1.alloc hb1.size _⟩

set_option maxHeartbeats 400000 in
theorem walk_good (k : Nat) (s : ByteArray) (w : World) (hs : s.size ≤ 4096) (h : k ≤ 32) :
    Calls Try.prog 5 #[.int .i64 (k : Int), .string s] w fun e w' => e = .returned (.bool true) ∧ Below w.heap.size w w' := by
  have h2 : (s.size : Int) ≤ 4096 := by omega
  have Hs := Lib.hid hs
  have h0 : 0 ≤ (k : Int) := by omega
  have h1 : (k : Int) ≤ 32 := by omega
  have hd := dig_size s
  have HP := fun w1 : World => Lib.hid (part_any (k : Int) h0 h1 w1.heap.size 0 1 1 [s] rfl (w1.alloc (.cells #[.string s] 9)) (fun j x hj => by
    rw [Nat.zero_add, cell_of_row _ _ _ _ _ _ (heap_alloc_new w1 _)]
    have : j = 0 := by have := (List.getElem?_eq_some_iff.1 hj).1; simp at this; omega
    subst this
    simp at hj; subst hj; rfl) (by simp) (by omega) (by omega) (by rw [cat_one]; omega))
  rw [show ((k : Int)).toNat = k from rfl, cat_one] at HP
  clear hs h
  go_enter Try.func5, Try.ntmps5
  go_wp2_with fail
  refine (lives3 w).mono ?_
  rintro e w1 ⟨rfl, hb1⟩
  go_wp2_with fail
  refine (HP w1).out.mono ?_
  rintro e w2 ⟨rfl, hb2⟩
  go_wp2_with fail
  refine (refsum_any s (by have := Hs.out; omega) w2).mono ?_
  rintro e w3 ⟨rfl, hb3⟩
  go_wp2_with fail
  go_ret
  have hs1 := hb1.size
  have hs2 := hb2.size
  simp at hs2
  exact ⟨rfl, ((hb1.alloc hs1 _).trans (hb2.mono (by simp; omega))).trans (hb3.mono (by omega))⟩

theorem walk (n : Int) (_ : (Lit.int .i64 n).wf = true) (s : ByteArray) (_ : s.size ≤ maxLen) (w : World) :
    Calls Try.prog 5 #[.int .i64 n, .string s] w fun e w' => e = .returned (.bool true) ∧ Below w.heap.size w w' := by
  rcases Nat.lt_or_ge 4096 s.size with h | hs
  · exact walk_long n s w h
  · by_cases h : n < 0 ∨ 32 < n
    · exact walk_bad n s w hs h
    · obtain ⟨k, rfl⟩ := Int.eq_ofNat_of_zero_le (show 0 ≤ n by omega)
      exact walk_good k s w hs (by omega)

/-! ### The row's step -/
set_option maxRecDepth 100000 in
theorem lifted (os : Os) (started : os.Started) (H : Type) (enc : TypeId × Value → H) :
    ReturnsInHanded {} Try.checked os 5 .any (Rows.shaPartsSpec.pre6 enc Try.prog Try.f5 Rows.shaPartsRow.domain false) (Rows.shaPartsSpec.post enc Try.prog Try.f5 false true false false) := by
  refine returnsInHanded_of_change (C := Try.checked) own started (by kernel_rfl) Try.func5
    (ChangeSpec.witness6 (enc := enc) (C := Try.checked) false ⟨#[], #[.int .i64 0, .string ByteArray.empty], []⟩ 8 (by kernel_rfl) (by kernel_rfl) (by kernel_rfl) (by kernel_rfl)) ?_
  intro W base args ds gs before hval0 hW hcnd _
  have hval : ∀ (j : Nat) t v, Try.f5.params[j]? = some t → args[j]? = some v → Value.okWide Try.prog W .any base t v := hval0
  have hW' := hW
  obtain ⟨p, q, hA0, hV, rfl, hfz, hnd⟩ := hW
  have hA : DataW.TrodAll enc Try.prog W 0 (fun _ => true) true Try.f5.params.toList args.toList ds p := hA0
  rw [Try.params5] at hA hval
  obtain ⟨v0, vs0, d0, ds0, p0, q0, hargs, rfl, rfl, h0, r0⟩ := trodAll_cons hA
  obtain ⟨v1, vs1, d1, ds1, p1, q1, rfl, rfl, rfl, h1, r1⟩ := trodAll_cons r0
  obtain ⟨rfl, rfl, rfl⟩ := trodAll_nil r1
  obtain rfl : args = #[v0, v1] := by cases args; simp_all
  obtain ⟨rfl, rfl⟩ := trodVars_none hV
  obtain ⟨a0, rfl, rfl, rfl, w0⟩ := open_int Try.underlying3 (hval 0 3 v0 rfl rfl) h0
  obtain ⟨a1, rfl, rfl, rfl, w1⟩ := open_string Try.underlying9 (hval 1 9 v1 rfl rfl) h1
  clear hA0 hval0
  refine (walk a0 w0 a1 w1 W).mono fun e W' ⟨he, bel⟩ => ?_
  subst he
  exact ⟨_, rfl, _, _, _, [], _, [], hW', trodAll_mk1 (shut_bool Try.underlying4 _), (trodAll_cons_mk (shut_int Try.underlying3 w0) (trodAll_cons_mk (shut_string Try.underlying9 w1) trodAll_mk0)), rfl, bel.frame _, fun h => by cases h⟩

theorem over : Rows.shaPartsRow.holds Try.pinned (OpenSpec.ofChange Rows.shaPartsSpec) :=
  OpenClaim.holds_of_wide 5 Try.f5 rfl rfl rfl rfl rfl rfl rfl ⟨rfl, rfl, rfl, rfl, rfl⟩ rfl rfl rfl rfl rfl (by kernel_rfl) Try.func5 (by kernel_rfl)
    (of_decide_eq_true (by kernel_rfl)) (by unfold Func.isWrapper; first | (rw [if_pos (by decide +kernel)]; kernel_rfl) | (rw [if_neg (by decide +kernel)]; exact ⟨rfl, rfl⟩))
    (fun os started H enc _ => lifted os started H enc)
end ShaParts
/-- The statement. -/
theorem ShaParts_holds : Rows.ShaPartsSaid := ShaParts.over
#print axioms ShaParts_holds
end Go.Proofs.Ytlpfajiigkjooaa
