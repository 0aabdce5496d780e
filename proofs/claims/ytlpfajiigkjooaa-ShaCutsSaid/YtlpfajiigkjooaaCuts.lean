/- ShaCuts: a digest hangs on no cut: of every text and every two numbers the law returns true. No condition. -/
import Derived.Test.YtlpfajiigkjooaaPart
import Derived.Test.YtlpfajiigkjooaaRows
import Derived.ProofKit
import Derived.OpenShut
import Derived.ShutString
import Derived.ChangeOld
import Derived.Deep.RegionHeld3
namespace Go.Proofs.Ytlpfajiigkjooaa
open Go.ChangeShapes Go.WideShapes Go.ChangeAt Go.RowKit
open Go.ChangeMaps (open_string shut_string)
set_option linter.unusedVariables false

namespace ShaCuts
theorem own : ownKnob Try.prog.godebug = none := by kernel_rfl
theorem laidOut : laidOutB Try.prog = true := by kernel_rfl

theorem mod_nat (a : Int) (n : Nat) : ∃ i : Nat, i ≤ n ∧ (IntKind.u64.wrap a).tmod ((n : Int) + 1) = (i : Int) := by
  have h0 : 0 ≤ IntKind.u64.wrap a := by rw [IntKind.wrap_u64]; omega
  have h1 := Int.emod_nonneg (IntKind.u64.wrap a) (show ((n : Int) + 1) ≠ 0 by omega)
  have h2 := Int.emod_lt_of_pos (IntKind.u64.wrap a) (show (0 : Int) < (n : Int) + 1 by omega)
  refine ⟨(IntKind.u64.wrap a % ((n : Int) + 1)).toNat, by omega, ?_⟩
  rw [Int.tmod_eq_emod_of_nonneg h0]
  omega
theorem cat_one (s : ByteArray) : cat [s] = s := by unfold cat; simp [bs_of]
theorem cat_five (a b c : ByteArray) : cat [a, ⟨#[]⟩, b, c, ⟨#[]⟩] = a ++ b ++ c := by
  apply ByteArray.ext
  simp [cat, bs, ByteArray.data_append]
theorem cat_cut (s : ByteArray) (i j : Nat) (h : i ≤ j) (h' : j ≤ s.size) : s.extract 0 i ++ s.extract i j ++ s.extract j s.size = s := by
  rw [ByteArray.extract_append_extract, Nat.zero_min, Nat.max_eq_right h, ByteArray.extract_append_extract, Nat.zero_min, Nat.max_eq_right h']
  simp
theorem sum_blk (cs : List ByteArray) (B n : Nat) (hn : n = cs.length) (W : World) (T : TypeId) (hB : W.heap[B]? = some (.cells (cs.map Value.string).toArray T (0, 0))) (hN : n ≤ 1000000) (hlen : (cat cs).size ≤ 4294967296) :
    Calls Try.prog 22 #[.slice (some ⟨B, 0, none⟩) n n] W fun e w' => e = .returned (.string (dig (cat cs))) ∧ Below W.heap.size W w' :=
  sum_any B 0 n n cs hn W (fun j x hj => by
    rw [Nat.zero_add, cell_of_row _ _ _ _ _ _ hB]
    simp [hj]) (Array.getElem?_eq_some_iff.1 hB).1 (Nat.le_refl _) hN hlen
theorem sum_one (s : ByteArray) (w : World) (h : s.size ≤ 4096) :
    Calls Try.prog 22 #[.slice (some ⟨w.heap.size, 0, none⟩) 1 1] (w.alloc (.cells #[.string s] 9)) fun e w' => e = .returned (.string (dig s)) ∧ Below w.heap.size w w' := by
  have := sum_any w.heap.size 0 1 1 [s] rfl (w.alloc (.cells #[.string s] 9)) (fun j x hj => by
    rw [Nat.zero_add, cell_of_row _ _ _ _ _ _ (heap_alloc_new w _)]
    have : j = 0 := by have := (List.getElem?_eq_some_iff.1 hj).1; simp at this; omega
    subst this
    simp at hj; subst hj; rfl) (by simp) (by omega) (by omega) (by rw [cat_one]; omega)
  rw [cat_one] at this
  exact this.mono fun e w' ⟨he, hb⟩ => ⟨he, ((Below.refl _ _).alloc (Nat.le_refl _) _).trans (hb.mono (by simp))⟩

theorem walk_long (s : ByteArray) (a b : Int) (w : World) (h : 4096 < s.size) :
    Calls Try.prog 6 #[.string s, .int .i64 a, .int .i64 b] w fun e w' => e = .returned (.bool true) ∧ Below w.heap.size w w' := by
  have h1 : (4096 : Int) < (s.size : Int) := by omega
  go_enter Try.func6, Try.ntmps6
  go_wp2_with fail
  refine (lives3 w).mono ?_
  rintro e w1 ⟨rfl, hb1⟩
  go_wp2_with fail
  refine (lives3 w1).mono ?_
  rintro e w2 ⟨rfl, hb2⟩
  go_wp2_with fail
  go_ret
  exact ⟨rfl, hb1.trans (hb2.mono hb1.size)⟩

set_option maxHeartbeats 400000 in
theorem walk_short (s : ByteArray) (a b : Int) (w : World) (h : s.size ≤ 4096) :
    Calls Try.prog 6 #[.string s, .int .i64 a, .int .i64 b] w fun e w' => e = .returned (.bool true) ∧ Below w.heap.size w w' := by
  have h1 : ¬ (4096 : Int) < (s.size : Int) := by omega
  have h2 : (s.size : Int) ≤ 4096 := by omega
  obtain ⟨i, hi, e1⟩ : ∃ i : Nat, i ≤ s.size ∧ (IntKind.u64.wrap a).tmod ((s.size : Int) + 1) = (i : Int) := mod_nat a s.size
  obtain ⟨d, hd, e2⟩ : ∃ d : Nat, d ≤ s.size - i ∧ (IntKind.u64.wrap b).tmod ((s.size : Int) - (i : Int) + 1) = (d : Int) := by
    have := mod_nat b (s.size - i)
    rw [show (((s.size - i : Nat) : Int) + 1) = (s.size : Int) - (i : Int) + 1 by omega] at this
    exact this
  have hi' : (i : Int) ≤ (s.size : Int) := by omega
  have hd' : (d : Int) ≤ (s.size : Int) - (i : Int) := by omega
  obtain ⟨j, hj1, hj2, e3⟩ : ∃ j : Nat, i ≤ j ∧ j ≤ s.size ∧ (i : Int) + (d : Int) = (j : Int) := ⟨i + d, by omega, by omega, by omega⟩
  have hj1' : (i : Int) ≤ (j : Int) := by omega
  have hj2' : (j : Int) ≤ (s.size : Int) := by omega
  have hz := dig_size s
  go_enter Try.func6, Try.ntmps6
  go_wp2_with fail
  refine (lives3 w).mono ?_
  rintro e w1 ⟨rfl, hb1⟩
  go_wp2_with fail
  refine (sum_one s w1 h).mono ?_
  rintro e w2 ⟨rfl, hb2⟩
  go_wp2_with fail
  have hcut := cat_cut s i j hj1 hj2
  have hcc := cat_five (s.extract 0 i) (s.extract i j) (s.extract j s.size)
  rw [hcut] at hcc
  have HC := Lib.hid hcc
  clear hcut hcc
  have g0 : 0 ≤ (i : Int) := by omega
  have g1 : 0 ≤ (j : Int) := by omega
  go_region_held3 (fun _ => True) (trivial) ((go_at_call 22; refine (sum_blk [s.extract 0 i, ⟨#[]⟩, s.extract i j, s.extract j s.size, ⟨#[]⟩] w2.heap.size 5 rfl _ 9 (by exact heap_alloc_new w2 _) (by omega) (by rw [HC.out]; omega)).mono ?_; rw [HC.out]; rintro e w3 ⟨rfl, hb3⟩))
  go_wp2_with fail
  go_ret
  have hs1 := hb1.size
  have hs2 := hb2.size
  exact ⟨rfl, ((hb1.trans (hb2.mono hs1)).alloc (by omega) _).drew.trans (hb3.mono (by simp; omega))⟩

theorem walk (s : ByteArray) (_ : s.size ≤ maxLen) (a : Int) (_ : (Lit.int .i64 a).wf = true) (b : Int) (_ : (Lit.int .i64 b).wf = true) (w : World) :
    Calls Try.prog 6 #[.string s, .int .i64 a, .int .i64 b] w fun e w' => e = .returned (.bool true) ∧ Below w.heap.size w w' := by
  rcases Nat.lt_or_ge 4096 s.size with h | h
  · exact walk_long s a b w h
  · exact walk_short s a b w h

/-! ### The row's step -/
set_option maxRecDepth 100000 in
theorem lifted (os : Os) (started : os.Started) (H : Type) (enc : TypeId × Value → H) :
    ReturnsInHanded {} Try.checked os 6 .any (Rows.shaCutsSpec.pre6 enc Try.prog Try.f6 Rows.shaCutsRow.domain false) (Rows.shaCutsSpec.post enc Try.prog Try.f6 false true false false) := by
  refine returnsInHanded_of_change (C := Try.checked) own started (by kernel_rfl) Try.func6
    (ChangeSpec.witness6 (enc := enc) (C := Try.checked) false ⟨#[], #[.string ByteArray.empty, .int .i64 0, .int .i64 0], []⟩ 8 (by kernel_rfl) (by kernel_rfl) (by kernel_rfl) (by kernel_rfl)) ?_
  intro W base args ds gs before hval0 hW hcnd _
  have hval : ∀ (j : Nat) t v, Try.f6.params[j]? = some t → args[j]? = some v → Value.okWide Try.prog W .any base t v := hval0
  have hW' := hW
  obtain ⟨p, q, hA0, hV, rfl, hfz, hnd⟩ := hW
  have hA : DataW.TrodAll enc Try.prog W 0 (fun _ => true) true Try.f6.params.toList args.toList ds p := hA0
  rw [Try.params6] at hA hval
  obtain ⟨v0, vs0, d0, ds0, p0, q0, hargs, rfl, rfl, h0, r0⟩ := trodAll_cons hA
  obtain ⟨v1, vs1, d1, ds1, p1, q1, rfl, rfl, rfl, h1, r1⟩ := trodAll_cons r0
  obtain ⟨v2, vs2, d2, ds2, p2, q2, rfl, rfl, rfl, h2, r2⟩ := trodAll_cons r1
  obtain ⟨rfl, rfl, rfl⟩ := trodAll_nil r2
  obtain rfl : args = #[v0, v1, v2] := by cases args; simp_all
  obtain ⟨rfl, rfl⟩ := trodVars_none hV
  obtain ⟨a0, rfl, rfl, rfl, w0⟩ := open_string Try.underlying9 (hval 0 9 v0 rfl rfl) h0
  obtain ⟨a1, rfl, rfl, rfl, w1⟩ := open_int Try.underlying3 (hval 1 3 v1 rfl rfl) h1
  obtain ⟨a2, rfl, rfl, rfl, w2⟩ := open_int Try.underlying3 (hval 2 3 v2 rfl rfl) h2
  clear hA0 hval0
  refine (walk a0 w0 a1 w1 a2 w2 W).mono fun e W' ⟨he, bel⟩ => ?_
  subst he
  exact ⟨_, rfl, _, _, _, [], _, [], hW', trodAll_mk1 (shut_bool Try.underlying4 _), (trodAll_cons_mk (shut_string Try.underlying9 w0) (trodAll_cons_mk (shut_int Try.underlying3 w1) (trodAll_cons_mk (shut_int Try.underlying3 w2) trodAll_mk0))), rfl, bel.frame _, fun h => by cases h⟩

theorem over : Rows.shaCutsRow.holds Try.pinned (OpenSpec.ofChange Rows.shaCutsSpec) :=
  OpenClaim.holds_of_wide 6 Try.f6 rfl rfl rfl rfl rfl rfl rfl ⟨rfl, rfl, rfl, rfl, rfl⟩ rfl rfl rfl rfl rfl (by kernel_rfl) Try.func6 (by kernel_rfl)
    (of_decide_eq_true (by kernel_rfl)) (by unfold Func.isWrapper; first | (rw [if_pos (by decide +kernel)]; kernel_rfl) | (rw [if_neg (by decide +kernel)]; exact ⟨rfl, rfl⟩))
    (fun os started H enc _ => lifted os started H enc)
end ShaCuts
/-- The statement. -/
theorem ShaCuts_holds : Rows.ShaCutsSaid := ShaCuts.over
#print axioms ShaCuts_holds
end Go.Proofs.Ytlpfajiigkjooaa
