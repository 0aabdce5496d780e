/- MacLong: bytes 0 behind a short key change nothing. No condition. -/
import Derived.Test.YtlpfajiigkjooaaTag
namespace Go.Proofs.Ytlpfajiigkjooaa
open Go.ChangeShapes Go.WideShapes Go.ChangeAt Go.RowKit
open Go.ChangeMaps (open_string shut_string)
set_option linter.unusedVariables false
set_option linter.unusedSimpArgs false

namespace MacLong

theorem walk_long (s t : ByteArray) (m : Int) (w : World) (h : 64 < s.size ∨ 4096 < t.size) :
    Calls Try.prog 12 #[.string s, .string t, .int .i64 m] w fun e w' => e = .returned (.bool true) ∧ Below w.heap.size w w' := by
  by_cases h1 : 64 < s.size
  · have h1' : (64 : Int) < (s.size : Int) := by omega
    go_enter Try.func12, Try.ntmps12
    go_wp2_with fail
    refine (lives4 w).mono ?_
    rintro e w1 ⟨rfl, hb1⟩
    go_wp2_with fail
    refine (lives4 w1).mono ?_
    rintro e w2 ⟨rfl, hb2⟩
    go_wp2_with fail
    go_ret
    exact ⟨rfl, hb1.trans (hb2.mono hb1.size)⟩
  · have h1' : (s.size : Int) ≤ 64 := by omega
    have h2' : (4096 : Int) < (t.size : Int) := by omega
    go_enter Try.func12, Try.ntmps12
    go_wp2_with fail
    refine (lives4 w).mono ?_
    rintro e w1 ⟨rfl, hb1⟩
    go_wp2_with fail
    refine (lives4 w1).mono ?_
    rintro e w2 ⟨rfl, hb2⟩
    go_wp2_with fail
    go_ret
    exact ⟨rfl, hb1.trans (hb2.mono hb1.size)⟩

/-- So many bytes 0. -/
def zeros (n : Nat) : ByteArray := bs (List.replicate n 0)
theorem zeros_size (n : Nat) : (zeros n).size = n := by unfold zeros; rw [bs_size, List.length_replicate]
theorem pad_zeros (s : ByteArray) (n : Nat) (h : s.size + n ≤ 64) : padK (s ++ zeros n) = padK s := by
  have h1 : kb (s ++ zeros n) = s ++ zeros n := by unfold kb; rw [if_neg (by rw [ByteArray.size_append, zeros_size]; omega)]
  have h2 : kb s = s := by unfold kb; rw [if_neg (by omega)]
  have h3 : (s ++ zeros n).data.toList = s.data.toList ++ List.replicate n 0 := by unfold zeros; simp [bs, ByteArray.data_append]
  unfold padK
  rw [h1, h2, h3, ByteArray.size_append, zeros_size, List.append_assoc, List.replicate_append_replicate]
  congr 2
  omega
theorem mac_zeros (s : ByteArray) (n : Nat) (h : s.size + n ≤ 64) (t : ByteArray) : macK (s ++ zeros n) t = macK s t := by
  unfold macK; rw [pad_zeros s n h]
theorem made_at (n j : Nat) (h : j < n) : (madeCells #[Value.int .u8 0] n)[j]? = some (.int .u8 0) := by
  simp [madeCells, h, Nat.mod_one]

set_option maxRecDepth 100000 in
set_option maxHeartbeats 1000000 in
theorem walk_short (s t : ByteArray) (m : Int) (w : World) (h : s.size ≤ 64) (ht : t.size ≤ 4096) :
    Calls Try.prog 12 #[.string s, .string t, .int .i64 m] w fun e w' => e = .returned (.bool true) ∧ Below w.heap.size w w' := by
  have h1' : (s.size : Int) ≤ 64 := by omega
  have h2' : (t.size : Int) ≤ 4096 := by omega
  obtain ⟨n, hn, en⟩ := mod_nat m (64 - s.size)
  rw [show (((64 - s.size : Nat) : Int) + 1) = 65 - (s.size : Int) by omega] at en
  have hn' : (n : Int) ≤ 64 := by omega
  have n0 : 0 ≤ (n : Int) := by omega
  have H1 := fun w : World => Lib.hid (mac_any s t (by omega) (by omega) w)
  have H2 := fun w : World => Lib.hid (mac_any (s ++ zeros n) t (by rw [ByteArray.size_append, zeros_size]; omega) (by omega) w)
  rw [mac_zeros s n (by omega) t] at H2
  have hzs := zeros_size n
  have hmk : ∀ W : World, (Instr.makeSlice 30 (.int .i64 (n : Int)) (.int .i64 (n : Int))).run Try.prog W = .ok (.slice (some ⟨W.heap.size, 0, none⟩) n n) (W.alloc (.cells (madeCells #[Value.int .u8 0] n) 5)) := by
    intro W
    obtain ⟨i0, hi0, hz0, hz1, hz2⟩ := info_parts info_byte
    have := run_make (P := Try.prog) W 30 5 i0 _ Try.underlying30 hi0 hz0 .i64 .i64 n n (by omega) (by omega) (by rw [hz2]; omega) (by omega)
    rw [this, hz1, Int.toNat_natCast, Nat.mul_one]
    rfl
  have hcv : ∀ (b : Nat) (V : World), V.heap[b]? = some (.cells (madeCells #[Value.int .u8 0] n) 5 (0, 0)) → (convert 30 9 (.slice (some ⟨b, 0, none⟩) n n)).run Try.prog V = .ok (.string (zeros n)) V := by
    intro b V hV
    have hl : (List.replicate n (0 : UInt8)).length = n := List.length_replicate
    have := run_convert_bytes_back (P := Try.prog) V 30 9 5 ⟨b, 0, none⟩ n (List.replicate n 0) Try.underlying30 Try.underlying5 Try.underlying9 (fun j hj => by
      have e : (⟨b, 0, none⟩ : Addr).add j = ⟨b, j, none⟩ := by unfold Addr.add; split <;> simp_all
      rw [e, cell_of_row V b j _ _ (0, 0) hV, made_at n j (by omega)]
      simp)
    rw [hl] at this
    exact this
  generalize zeros n = z at H2 hzs hcv
  generalize madeCells #[Value.int .u8 0] n = M at hmk hcv
  generalize macK s t = k at H1 H2
  have hcv1 := fun W : World => hcv W.heap.size (W.alloc (.cells M 5)) (heap_alloc_new W _)
  have hcv2 := fun W : World => hcv W.heap.size (W.alloc (.cells M 5)).drew (heap_alloc_new W _)
  have HC := Lib.hid hcv
  clear hcv
  go_enter Try.func12, Try.ntmps12
  go_wp2_with fail
  refine (lives4 w).mono ?_
  rintro e w1 ⟨rfl, hb1⟩
  go_wp2_with fail
  go_region_with ((first
    | (go_at_call_of 37 z; refine (H2 _).out.mono ?_; rintro e w3 ⟨rfl, hb3⟩)
    | (go_at_call 37; refine (H1 _).out.mono ?_; rintro e w2 ⟨rfl, hb2⟩; try (have hcx := HC.out w1.heap.size w2 ((hb2.block _ (by simp)).trans (heap_alloc_new w1 _))))))
  all_goals
    have z1 := hb1.size
    have z2 := hb2.size
    have hB : Below w.heap.size w w3 := by
      simp at z2
      first
        | exact ((hb1.drew.trans (hb2.mono (by simp; omega))).alloc (by omega) _).trans (hb3.mono (by simp; omega))
        | exact (((hb1.alloc z1 _).drew).trans (hb2.mono (by simp; omega))).trans (hb3.mono (by omega))
    go_wp2_with fail
    go_ret
    exact ⟨rfl, hB⟩

theorem walk (s : ByteArray) (_ : s.size ≤ maxLen) (t : ByteArray) (_ : t.size ≤ maxLen) (m : Int) (_ : (Lit.int .i64 m).wf = true) (w : World) :
    Calls Try.prog 12 #[.string s, .string t, .int .i64 m] w fun e w' => e = .returned (.bool true) ∧ Below w.heap.size w w' := by
  rcases Nat.lt_or_ge 64 s.size with h | h
  · exact walk_long s t m w (.inl h)
  · rcases Nat.lt_or_ge 4096 t.size with h' | h'
    · exact walk_long s t m w (.inr h')
    · exact walk_short s t m w h h'

/-! ### The row's step -/
set_option maxRecDepth 100000 in
theorem lifted (os : Os) (started : os.Started) (H : Type) (enc : TypeId × Value → H) :
    ReturnsInHanded {} Try.checked os 12 .any (Rows.macLongSpec.pre6 enc Try.prog Try.f12 Rows.macLongRow.domain false) (Rows.macLongSpec.post enc Try.prog Try.f12 false true false false) := by
  refine returnsInHanded_of_change (C := Try.checked) own started (by kernel_rfl) Try.func12
    (ChangeSpec.witness6 (enc := enc) (C := Try.checked) false ⟨#[], #[.string ByteArray.empty, .string ByteArray.empty, .int .i64 0], []⟩ 8 (by kernel_rfl) (by kernel_rfl) (by kernel_rfl) (by kernel_rfl)) ?_
  intro W base args ds gs before hval0 hW hcnd _
  have hval : ∀ (j : Nat) t v, Try.f12.params[j]? = some t → args[j]? = some v → Value.okWide Try.prog W .any base t v := hval0
  have hW' := hW
  obtain ⟨p, q, hA0, hV, rfl, hfz, hnd⟩ := hW
  have hA : DataW.TrodAll enc Try.prog W 0 (fun _ => true) true Try.f12.params.toList args.toList ds p := hA0
  rw [Try.params12] at hA hval
  obtain ⟨v0, vs0, d0, ds0, p0, q0, hargs, rfl, rfl, h0, r0⟩ := trodAll_cons hA
  obtain ⟨v1, vs1, d1, ds1, p1, q1, rfl, rfl, rfl, h1, r1⟩ := trodAll_cons r0
  obtain ⟨v2, vs2, d2, ds2, p2, q2, rfl, rfl, rfl, h2, r2⟩ := trodAll_cons r1
  obtain ⟨rfl, rfl, rfl⟩ := trodAll_nil r2
  obtain rfl : args = #[v0, v1, v2] := by cases args; simp_all
  obtain ⟨rfl, rfl⟩ := trodVars_none hV
  obtain ⟨a0, rfl, rfl, rfl, w0⟩ := open_string Try.underlying9 (hval 0 9 v0 rfl rfl) h0
  obtain ⟨a1, rfl, rfl, rfl, w1⟩ := open_string Try.underlying9 (hval 1 9 v1 rfl rfl) h1
  obtain ⟨a2, rfl, rfl, rfl, w2⟩ := open_int Try.underlying3 (hval 2 3 v2 rfl rfl) h2
  clear hA0 hval0
  refine (walk a0 w0 a1 w1 a2 w2 W).mono fun e W' ⟨he, bel⟩ => ?_
  subst he
  exact ⟨_, rfl, _, _, _, [], _, [], hW', trodAll_mk1 (shut_bool Try.underlying4 _), (trodAll_cons_mk (shut_string Try.underlying9 w0) (trodAll_cons_mk (shut_string Try.underlying9 w1) (trodAll_cons_mk (shut_int Try.underlying3 w2) trodAll_mk0))), rfl, bel.frame _, fun h => by cases h⟩

theorem over : Rows.macLongRow.holds Try.pinned (OpenSpec.ofChange Rows.macLongSpec) :=
  OpenClaim.holds_of_wide 12 Try.f12 rfl rfl rfl rfl rfl rfl rfl ⟨rfl, rfl, rfl, rfl, rfl⟩ rfl rfl rfl rfl rfl (by kernel_rfl) Try.func12 (by kernel_rfl)
    (of_decide_eq_true (by kernel_rfl)) (by unfold Func.isWrapper; first | (rw [if_pos (by decide +kernel)]; kernel_rfl) | (rw [if_neg (by decide +kernel)]; exact ⟨rfl, rfl⟩))
    (fun os started H enc _ => lifted os started H enc)
end MacLong
/-- The statement. -/
theorem MacLong_holds : Rows.MacLongSaid := MacLong.over
#print axioms MacLong_holds
end Go.Proofs.Ytlpfajiigkjooaa
