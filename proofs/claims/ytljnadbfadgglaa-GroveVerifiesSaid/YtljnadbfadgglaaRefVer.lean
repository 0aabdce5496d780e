/- witanref06.Verify: which signature is taken. Condition: the text takes at most 4,096 bytes. -/
import Derived.Test.YtljnadbfadgglaaVer
import Derived.Test.YtljnadbfadgglaaRefG
namespace Go.Proofs.Ytljnadbfadgglaa
open Go.RowKit
set_option maxRecDepth 100000
set_option linter.unusedVariables false
set_option linter.unusedSimpArgs false

theorem refverify_neg (root : ByteArray) (n : Int) (t : ByteArray) (sig : ByteArray) (hn : n < 0) (w : World) :
    Calls Try.prog 27 #[.string root, .int .i64 n, .string t, .string sig] w fun e w' => e = .returned (.bool false) ∧ Below w.heap.size w w' := by
  go_enter Try.func27, Try.ntmps27
  go_wp2_with fail
  refine wp_region_bel w.heap.size w (by kernel_rfl) (by kernel_rfl) (Below.refl _ _) ?_
  repeat (go_big_quiet_step (fail))
  refine wpQuiet_nil ?_
  rintro _ ⟨y, rfl⟩
  go_wp2_with fail
  go_ret
  exact ⟨rfl, y.h⟩
theorem refverify_big (root : ByteArray) (n : Int) (t : ByteArray) (sig : ByteArray) (h0 : 0 ≤ n) (hn : 5 < n) (w : World) :
    Calls Try.prog 27 #[.string root, .int .i64 n, .string t, .string sig] w fun e w' => e = .returned (.bool false) ∧ Below w.heap.size w w' := by
  have d1 : decide (n < 0) = false := decide_eq_false (by omega)
  have d2 : decide (5 < n) = true := decide_eq_true hn
  go_enter Try.func27, Try.ntmps27
  go_wp2_with fail
  refine wp_region_bel w.heap.size w (by kernel_rfl) (by kernel_rfl) (Below.refl _ _) ?_
  repeat (go_big_quiet_step (fail))
  refine wpQuiet_nil ?_
  rintro _ ⟨y, rfl⟩
  go_wp2_with fail
  go_ret
  exact ⟨rfl, y.h⟩
theorem refverify_len (root : ByteArray) (h : Nat) (hh : h ≤ 5) (t : ByteArray) (sig : ByteArray) (hn : ¬ sig.size = 561 + 32 * h) (w : World) :
    Calls Try.prog 27 #[.string root, .int .i64 (h : Int), .string t, .string sig] w fun e w' => e = .returned (.bool false) ∧ Below w.heap.size w w' := by
  have d1 : decide ((h : Int) < 0) = false := decide_eq_false (by omega)
  have d2 : decide (5 < (h : Int)) = false := decide_eq_false (by omega)
  have h0 : 0 ≤ (h : Int) := by omega
  have h5 : (h : Int) ≤ 5 := by omega
  have hn' : ¬ (sig.size : Int) = 561 + 32 * (h : Int) := by omega
  have b1 : (((sig.size : Int)) != 561 + 32 * (h : Int)) = true := by simpa using hn'
  have b2 : (((sig.size : Int)) == 561 + 32 * (h : Int)) = false := by simpa using hn'
  go_enter Try.func27, Try.ntmps27
  go_wp2_with fail
  refine wp_region_bel w.heap.size w (by kernel_rfl) (by kernel_rfl) (Below.refl _ _) ?_
  repeat (go_big_quiet_step (fail))
  refine wpQuiet_nil ?_
  rintro _ ⟨y, rfl⟩
  go_wp2_with fail
  go_ret
  exact ⟨rfl, y.h⟩

set_option maxHeartbeats 400000 in
theorem refverify_go (root : ByteArray) (h : Nat) (hh : h ≤ 5) (t : ByteArray) (ht : t.size ≤ 4096) (l : List UInt8) (hl : l.length = 561 + 32 * h) (w : World) :
    Calls Try.prog 27 #[.string root, .int .i64 (h : Int), .string t, .string (bs l)] w fun e w' => e = .returned (.bool (decide (leafN l < 2 ^ h) && ((vn t l h).toList == root.toList))) ∧ Below w.heap.size w w' := by
  have d1 : decide ((h : Int) < 0) = false := decide_eq_false (by omega)
  have d2 : decide (5 < (h : Int)) = false := decide_eq_false (by omega)
  have HW := fun w : World => Lib.hid (power_any h hh w)
  have hsz : (bs l).size = 561 + 32 * h := by rw [bs_size]; exact hl
  have hsz' : ((bs l).size : Int) = 561 + 32 * (h : Int) := by omega
  have hh' : (h : Int) ≤ 5 := by omega
  have hh0 : 0 ≤ (h : Int) := by omega
  have hpos : 0 < (bs l).size := by omega
  have hx := head_data l hpos
  have hlf := leafN_lt l
  have hw : wrap64 ((leafN l : Nat) : Int) = (leafN l : Int) := by unfold wrap64; omega
  have hp := (pow_int h hh).1
  obtain ⟨N, hN⟩ : ∃ N, N = 2 ^ h := ⟨_, rfl⟩
  rw [← hN] at HW hp ⊢
  clear hN
  by_cases hlt : leafN l < N
  · have hlt' : (leafN l : Int) < (N : Int) := by omega
    rw [decide_eq_true hlt, Bool.true_and]
    have HR := fun w : World => Lib.hid (refrecover_yes t ht (bs ((l.drop 1).take 560)) (by rw [bs_size, List.length_take, List.length_drop]; omega) w)
    have e1 : (bs l).extract 1 561 = bs ((l.drop 1).take 560) := bs_extract l 1 561
    have HV0 : Hid (vn t l 0 = recK t (bs ((l.drop 1).take 560))) := Lib.hid rfl
    rw [← HV0.out] at HR
    generalize bs ((l.drop 1).take 560) = x0 at HR e1 HV0
    obtain ⟨m, hm⟩ : ∃ m, m = leafN l := ⟨_, rfl⟩
    rw [← hm] at hx hw hlf hlt'
    have d3 : decide ((N : Int) ≤ (m : Int)) = false := decide_eq_false (by omega)
    have HM := Lib.hid hm
    clear hlt hm HV0
    go_enter Try.func27, Try.ntmps27
    go_wp2_with fail
    refine wp_region_bel w.heap.size w (by kernel_rfl) (by kernel_rfl) (Below.refl _ _) ?_
    repeat (go_big_quiet_step (first | (go_at_call 47; exact calls_bel_same (HW _).out)))
    refine wpQuiet_nil ?_
    rintro _ ⟨y, rfl⟩
    have hy := Lib.hid y.h
    generalize y.w = w1 at hy ⊢
    clear y
    go_wp2_with fail
    refine (HR w1).out.mono ?_
    rintro e w2 ⟨rfl, hb2⟩
    have hB2 := Lib.hid (hy.out.trans (hb2.mono hy.out.size))
    clear hy hb2 HR
    go_wp2_with fail
    clear e1 hx hw d1 d2 d3 HW
    go_loopw [9, 11, 12] (fun node at_ i wr => ∃ k : Nat, k ≤ h ∧ node = .string (vn t l k) ∧ at_ = .int .i64 ((m / 2 ^ k : Nat) : Int) ∧ i = .int .i64 k ∧ Below w.heap.size w wr) (fun _ _ i _ => h - (intOf i).toNat)
    case atStart => exact ⟨0, by omega, rfl, by rw [Nat.pow_zero, Nat.div_one], rfl, hB2.out⟩
    case round =>
      obtain ⟨k, hk, rfl, rfl, rfl, hbel⟩ := hrel
      have hz := hbel.size
      have HB := Lib.hid hbel
      clear hbel
      by_cases hlk : k < h
      · have n0 : 0 ≤ (k : Int) := by omega
        have n1 : (k : Int) < (h : Int) := by omega
        have ex1 : (bs l).extract (561 + 32 * k) (593 + 32 * k) = besN l k := by
          unfold besN
          rw [bs_extract]
          congr 2
          omega
        have vsz := vn_size t l k
        have psz := besN_size l h k hl hlk
        have ha256 : m / 2 ^ k < 256 := Nat.lt_of_le_of_lt (Nat.div_le_self _ _) hlf
        have hhalf : Hid (((m / 2 ^ k : Nat) : Int) / 2 = ((m / 2 ^ (k + 1) : Nat) : Int)) := Lib.hid (by rw [Nat.pow_succ, ← Nat.div_div_eq_div_mul]; omega)
        by_cases hodd : m / 2 ^ k % 2 = 1
        · have hX : Hid (vn t l (k + 1) = dig (besN l k ++ vn t l k)) := Lib.hid (by show (if leafN l / 2 ^ k % 2 = 1 then _ else _) = _; rw [← HM.out, if_pos hodd])
          have HS := fun V : World => Lib.hid (refsum_any (besN l k ++ vn t l k) (by rw [ByteArray.size_append, vsz, psz]; omega) V)
          rw [← hX.out] at HS
          generalize besN l k = p at ex1 HS psz
          generalize vn t l k = v at HS vsz ⊢
          have hbit : ((m / 2 ^ k : Nat) : Int) % 2 = 1 := by omega
          have hbit2 : ((m / 2 ^ k : Nat) : Int).tmod 2 = 1 := by rw [Int.tmod_eq_emod_of_nonneg (Int.natCast_nonneg _)]; exact hbit
          generalize m / 2 ^ k = a at hbit hbit2 hhalf ha256 ⊢
          clear hX hodd
          go_wp2_with fail
          refine (HS wr).out.mono ?_
          rintro e w2 ⟨rfl, hb2⟩
          have hbel2 : Below w.heap.size w w2 := HB.out.trans (hb2.mono hz)
          clear HS hb2 hbit hbit2
          go_wp2_with fail
          exact ⟨⟨k + 1, by omega, rfl, by rw [← hhalf.out], by go_num, hbel2⟩, by simp [intOf]; omega⟩
        · have hX : Hid (vn t l (k + 1) = dig (vn t l k ++ besN l k)) := Lib.hid (by show (if leafN l / 2 ^ k % 2 = 1 then _ else _) = _; rw [← HM.out, if_neg hodd])
          have HS := fun V : World => Lib.hid (refsum_any (vn t l k ++ besN l k) (by rw [ByteArray.size_append, vsz, psz]; omega) V)
          rw [← hX.out] at HS
          generalize besN l k = p at ex1 HS psz
          generalize vn t l k = v at HS vsz ⊢
          have hbit : ((m / 2 ^ k : Nat) : Int) % 2 = 0 := by omega
          have hbit2 : ((m / 2 ^ k : Nat) : Int).tmod 2 = 0 := by rw [Int.tmod_eq_emod_of_nonneg (Int.natCast_nonneg _)]; exact hbit
          generalize m / 2 ^ k = a at hbit hbit2 hhalf ha256 ⊢
          clear hX hodd
          go_wp2_with fail
          refine (HS wr).out.mono ?_
          rintro e w2 ⟨rfl, hb2⟩
          have hbel2 : Below w.heap.size w w2 := HB.out.trans (hb2.mono hz)
          clear HS hb2 hbit hbit2
          go_wp2_with fail
          exact ⟨⟨k + 1, by omega, rfl, by rw [← hhalf.out], by go_num, hbel2⟩, by simp [intOf]; omega⟩
      · obtain rfl : k = h := by omega
        obtain ⟨v, hv⟩ : ∃ v, v = vn t l k := ⟨_, rfl⟩
        rw [← hv]
        have HV := Lib.hid hv
        clear hv
        go_wp2_with fail
        go_ret
        exact ⟨by rw [← HV.out]; rfl, HB.out⟩
  · have hlt' : (N : Int) ≤ (leafN l : Int) := by omega
    rw [decide_eq_false hlt, Bool.false_and]
    generalize leafN l = m at hx hw hlt'
    have d3 : decide ((N : Int) ≤ (m : Int)) = true := decide_eq_true hlt'
    go_enter Try.func27, Try.ntmps27
    go_wp2_with fail
    refine wp_region_bel w.heap.size w (by kernel_rfl) (by kernel_rfl) (Below.refl _ _) ?_
    repeat (go_big_quiet_step (first | (go_at_call 47; exact calls_bel_same (HW _).out)))
    refine wpQuiet_nil ?_
    rintro _ ⟨y, rfl⟩
    go_wp2_with fail
    go_ret
    exact ⟨rfl, y.h⟩

theorem refverify_u (root : ByteArray) (n : Int) (t : ByteArray) (ht : t.size ≤ 4096) (sig : ByteArray) (w : World) :
    Calls Try.prog 27 #[.string root, .int .i64 n, .string t, .string sig] w fun e w' => e = .returned (.bool (verB root n t sig)) ∧ Below w.heap.size w w' := by
  unfold verB
  cases hn : highB n with
  | false =>
    by_cases h0 : n < 0
    · exact refverify_neg root n t sig h0 w
    · have h5 : 5 < n := by
        have := hn
        unfold highB at this
        simp at this
        omega
      exact refverify_big root n t sig (by omega) h5 w
  | true =>
    obtain ⟨h, rfl⟩ := Int.eq_ofNat_of_zero_le ((highB_iff n).1 hn).1
    have hh : h ≤ 5 := by have := ((highB_iff (h : Int)).1 hn).2; omega
    rw [Int.toNat_natCast]
    by_cases hs : sig.size = 561 + 32 * h
    · have hl : sig.data.toList.length = 561 + 32 * h := by rw [data_length]; exact hs
      have := refverify_go root h hh t ht sig.data.toList hl w
      rw [bs_of] at this
      rw [decide_eq_true hs]
      simpa using this
    · rw [decide_eq_false hs]
      exact refverify_len root h hh t sig hs w
end Go.Proofs.Ytljnadbfadgglaa
