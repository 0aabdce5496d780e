/- grove.Verify: which signature is taken. Condition: the text takes at most 4,096 bytes. -/
import Derived.Test.YtljnadbfadgglaaTree
namespace Go.Proofs.Ytljnadbfadgglaa
open Go.RowKit
set_option maxRecDepth 100000
set_option linter.unusedVariables false
set_option linter.unusedSimpArgs false

/-- A signature's leaf. -/
def leafN (l : List UInt8) : Nat := (l.getD 0 0).toNat
theorem leafN_lt (l : List UInt8) : leafN l < 256 := (l.getD 0 0).toNat_lt
/-- The k-th of the nodes beside. -/
def besN (l : List UInt8) (k : Nat) : ByteArray := bs ((l.drop (561 + 32 * k)).take 32)
/-- The node after k steps. -/
def vn (t : ByteArray) (l : List UInt8) : Nat → ByteArray
  | 0 => recK t (bs ((l.drop 1).take 560))
  | k + 1 => if leafN l / 2 ^ k % 2 = 1 then dig (besN l k ++ vn t l k) else dig (vn t l k ++ besN l k)
theorem vn_size (t : ByteArray) (l : List UInt8) (k : Nat) : (vn t l k).size = 32 := by
  cases k with
  | zero => exact dig_size _
  | succ k => unfold vn; split <;> exact dig_size _
theorem besN_size (l : List UInt8) (h k : Nat) (hl : l.length = 561 + 32 * h) (hk : k < h) : (besN l k).size = 32 := by
  unfold besN; rw [bs_size, List.length_take, List.length_drop]; omega
theorem and1 (n : Nat) (h : n < 256) : bits .and .i64 (n : Int) 1 = ((n % 2 : Nat) : Int) := by
  have h' : ∀ n : Fin 256, bits .and .i64 (n.val : Int) 1 = ((n.val % 2 : Nat) : Int) := by decide +kernel
  exact h' ⟨n, h⟩

def verB (root : ByteArray) (n : Int) (t sig : ByteArray) : Bool :=
  highB n && decide (sig.size = 561 + 32 * n.toNat) && decide (leafN sig.data.toList < 2 ^ n.toNat) && ((vn t sig.data.toList n.toNat).toList == root.toList)

theorem bs_rest' (l : List UInt8) (a b : Nat) (h : l.length ≤ b) : (bs l).extract a b = bs (l.drop a) := by
  rw [bs_extract, List.take_of_length_le]
  rw [List.length_drop]; omega
theorem head_data (l : List UInt8) (h : 0 < (bs l).size) : ((bs l)[0]'h).toNat = leafN l := by
  cases l with
  | nil => simp [bs_size] at h
  | cons x r => rfl
theorem empty_no (l : List UInt8) (h : 0 < l.length) : (bs l).toList.isEmpty = false := by
  rw [ByteArray.toList_eq, bs_data]
  cases l with
  | nil => simp at h
  | cons x r => rfl
theorem empty_yes : (bs []).toList.isEmpty = true := by rw [ByteArray.toList_eq, bs_data]; rfl

set_option maxHeartbeats 1000000 in
theorem verify_high (root : ByteArray) (n : Int) (t : ByteArray) (sig : ByteArray) (hn : highB n = false) (w : World) :
    Calls Try.prog 26 #[.string root, .int .i64 n, .string t, .string sig] w fun e w' => e = .returned (.bool false) ∧ w = w' := by
  have H := fun w : World => Lib.hid (high_u n w)
  rw [hn] at H
  go_enter Try.func26, Try.ntmps26
  go_wp2_with fail
  refine (H w).out.mono ?_
  rintro e w1 ⟨rfl, rfl⟩
  go_wp2_with fail
  go_ret
  exact ⟨rfl, rfl⟩
theorem verify_len (root : ByteArray) (h : Nat) (hh : h ≤ 5) (t : ByteArray) (sig : ByteArray) (hn : ¬ sig.size = 561 + 32 * h) (w : World) :
    Calls Try.prog 26 #[.string root, .int .i64 (h : Int), .string t, .string sig] w fun e w' => e = .returned (.bool false) ∧ w = w' := by
  have H := fun w : World => Lib.hid (high_u (h : Int) w)
  rw [(highB_iff _).2 ⟨by omega, by omega⟩] at H
  have hn' : ¬ (sig.size : Int) = 561 + 32 * (h : Int) := by omega
  have hh' : (h : Int) ≤ 5 := by omega
  go_enter Try.func26, Try.ntmps26
  go_wp2_with fail
  refine (H w).out.mono ?_
  rintro e w1 ⟨rfl, rfl⟩
  go_wp2_with fail
  go_ret
  exact ⟨rfl, rfl⟩

set_option maxHeartbeats 400000 in
theorem verify_go (root : ByteArray) (h : Nat) (hh : h ≤ 5) (t : ByteArray) (ht : t.size ≤ 4096) (l : List UInt8) (hl : l.length = 561 + 32 * h) (w : World) :
    Calls Try.prog 26 #[.string root, .int .i64 (h : Int), .string t, .string (bs l)] w fun e w' => e = .returned (.bool (decide (leafN l < 2 ^ h) && ((vn t l h).toList == root.toList))) ∧ Below w.heap.size w w' := by
  have H := fun w : World => Lib.hid (high_u (h : Int) w)
  rw [(highB_iff _).2 ⟨by omega, by omega⟩] at H
  have hsz : (bs l).size = 561 + 32 * h := by rw [bs_size]; exact hl
  have hsz' : ((bs l).size : Int) = 561 + 32 * (h : Int) := by omega
  have hh' : (h : Int) ≤ 5 := by omega
  have hh0 : 0 ≤ (h : Int) := by omega
  have hpos : 0 < (bs l).size := by omega
  have hx := head_data l hpos
  have hlf := leafN_lt l
  have hw : wrap64 ((leafN l : Nat) : Int) = (leafN l : Int) := by unfold wrap64; omega
  have hp := pow_int h hh
  have hcast : ((2 ^ h : Nat) : Int) = (2 : Int) ^ h := by rw [Int.natCast_pow]; rfl
  by_cases hlt : leafN l < 2 ^ h
  · have hq : (leafN l : Int) / (2 : Int) ^ h = 0 := by rw [← hcast, ← Int.natCast_ediv, Nat.div_eq_of_lt hlt]; rfl
    rw [decide_eq_true hlt, Bool.true_and]
    have HR := fun w : World => Lib.hid (recover_yes t ht (bs ((l.drop 1).take 560)) (by rw [bs_size, List.length_take, List.length_drop]; omega) w)
    have e1 : (bs l).extract 1 561 = bs ((l.drop 1).take 560) := bs_extract l 1 561
    have e2 : ∀ n, n = 561 + 32 * h → (bs l).extract 561 n = bs (l.drop (561 + 32 * 0)) := fun n hn => bs_rest' l 561 n (by omega)
    have HV0 : Hid (vn t l 0 = recK t (bs ((l.drop 1).take 560))) := Lib.hid rfl
    rw [← HV0.out] at HR
    generalize bs ((l.drop 1).take 560) = x0 at HR e1 HV0
    have E2 := Lib.hid e2
    have HQ := Lib.hid hlt
    obtain ⟨m, hm⟩ : ∃ m, m = leafN l := ⟨_, rfl⟩
    rw [← hm] at hx hw hq hlf
    have HM := Lib.hid hm
    clear e2 hlt hm hcast
    go_enter Try.func26, Try.ntmps26
    go_wp2_with fail
    refine (H w).out.mono ?_
    rintro e w1 ⟨rfl, rfl⟩
    go_wp2_with fail
    refine (HR w).out.mono ?_
    rintro e w1 ⟨rfl, hb1⟩
    clear hx hq hw
    go_wp2_with fail
    clear e1 HR H HV0
    have H0 := Lib.hid hb1
    clear hb1
    go_loopw [9, 10, 12] (fun lf node path wr => ∃ k : Nat, k ≤ h ∧ lf = .int .i64 ((m / 2 ^ k : Nat) : Int) ∧ node = .string (vn t l k) ∧ path = .string (bs (l.drop (561 + 32 * k))) ∧ Below w.heap.size w wr) (fun _ _ path _ => match path with | .string x => x.size | _ => 0)
    case atStart => exact ⟨0, by omega, by rw [Nat.pow_zero, Nat.div_one], rfl, by rw [E2.out _ rfl], H0.out⟩
    case round =>
      obtain ⟨k, hk, rfl, rfl, rfl, hbel⟩ := hrel
      have hz := hbel.size
      have HB := Lib.hid hbel
      clear hbel
      by_cases hlk : k < h
      · have hxs : (bs (l.drop (561 + 32 * k))).size = 32 * (h - k) := by rw [bs_size, List.length_drop]; omega
        have hx32 : (32 : Int) ≤ ((bs (l.drop (561 + 32 * k))).size : Int) := by omega
        have hne := empty_no (l.drop (561 + 32 * k)) (by rw [List.length_drop]; omega)
        have ex1 : (bs (l.drop (561 + 32 * k))).extract 0 32 = besN l k := by unfold besN; rw [bs_extract, List.drop_zero]
        have ex2 : (bs (l.drop (561 + 32 * k))).extract 32 (32 * (h - k)) = bs (l.drop (561 + 32 * (k + 1))) := by
          rw [bs_rest' _ 32 _ (by rw [List.length_drop]; omega), List.drop_drop]
          congr 2
        have vsz := vn_size t l k
        have psz := besN_size l h k hl hlk
        have ha256 : m / 2 ^ k < 256 := Nat.lt_of_le_of_lt (Nat.div_le_self _ _) hlf
        have hhalf : Hid (((m / 2 ^ k : Nat) : Int) / 2 = ((m / 2 ^ (k + 1) : Nat) : Int)) := Lib.hid (by rw [Nat.pow_succ, ← Nat.div_div_eq_div_mul]; omega)
        have hnext : Hid ((bs (l.drop (561 + 32 * (k + 1)))).size < 32 * (h - k)) := Lib.hid (by rw [bs_size, List.length_drop]; omega)
        obtain ⟨y, hy⟩ : ∃ y, y = bs (l.drop (561 + 32 * (k + 1))) := ⟨_, rfl⟩
        rw [← hy] at ex2 hnext
        have HY := Lib.hid hy
        clear hy
        by_cases hodd : m / 2 ^ k % 2 = 1
        · have hX : Hid (vn t l (k + 1) = dig (besN l k ++ vn t l k)) := Lib.hid (by show (if leafN l / 2 ^ k % 2 = 1 then _ else _) = _; rw [← HM.out, if_pos hodd])
          have HSum := fun (b : Nat) (V : World) (hb : V.heap[b]? = some (.cells #[.string (besN l k), .string (vn t l k)] 9 (0, 0))) => Lib.hid (sum_blk [besN l k, vn t l k] b 2 rfl V 9 hb (by omega) (by rw [cat_pair, ByteArray.size_append, vsz, psz]; omega))
          simp only [cat_pair] at HSum
          rw [← hX.out] at HSum
          generalize besN l k = p at ex1 HSum psz
          generalize vn t l k = v at HSum vsz ⊢
          generalize bs (l.drop (561 + 32 * k)) = x at hne hx32 hxs ex1 ex2 ⊢
          have hbit : bits .and .i64 ((m / 2 ^ k : Nat) : Int) 1 = 1 := by rw [and1 _ ha256]; omega
          generalize m / 2 ^ k = a at hbit hhalf ha256 ⊢
          clear hX hodd
          go_wp2_with fail
          refine (HSum (wr.heap.size + 1) _ (by
            have h1 := heap_alloc_new (wr.alloc (.cells #[.string p, .string v] 87)) (.cells #[.string p, .string v] 9)
            rw [show (wr.alloc (.cells #[.string p, .string v] 87)).heap.size = wr.heap.size + 1 by simp] at h1
            exact h1)).out.mono ?_
          rintro e w2 ⟨rfl, hb2⟩
          have hbel2 : Below w.heap.size w w2 := (((HB.out.alloc hz _).alloc (by simp; omega) _)).trans (hb2.mono (by simp; omega))
          clear HSum hb2 hbit
          go_wp2_with fail
          exact ⟨⟨k + 1, by omega, by rw [hhalf.out], rfl, by rw [HY.out], hbel2⟩, by show y.size < x.size; rw [hxs]; exact hnext.out⟩
        · have hX : Hid (vn t l (k + 1) = dig (vn t l k ++ besN l k)) := Lib.hid (by show (if leafN l / 2 ^ k % 2 = 1 then _ else _) = _; rw [← HM.out, if_neg hodd])
          have HSum := fun (b : Nat) (V : World) (hb : V.heap[b]? = some (.cells #[.string (vn t l k), .string (besN l k)] 9 (0, 0))) => Lib.hid (sum_blk [vn t l k, besN l k] b 2 rfl V 9 hb (by omega) (by rw [cat_pair, ByteArray.size_append, vsz, psz]; omega))
          simp only [cat_pair] at HSum
          rw [← hX.out] at HSum
          generalize besN l k = p at ex1 HSum psz
          generalize vn t l k = v at HSum vsz ⊢
          generalize bs (l.drop (561 + 32 * k)) = x at hne hx32 hxs ex1 ex2 ⊢
          have hbit : bits .and .i64 ((m / 2 ^ k : Nat) : Int) 1 = 0 := by rw [and1 _ ha256]; omega
          generalize m / 2 ^ k = a at hbit hhalf ha256 ⊢
          clear hX hodd
          go_wp2_with fail
          refine (HSum (wr.heap.size + 1) _ (by
            have h1 := heap_alloc_new (wr.alloc (.cells #[.string v, .string p] 87)) (.cells #[.string v, .string p] 9)
            rw [show (wr.alloc (.cells #[.string v, .string p] 87)).heap.size = wr.heap.size + 1 by simp] at h1
            exact h1)).out.mono ?_
          rintro e w2 ⟨rfl, hb2⟩
          have hbel2 : Below w.heap.size w w2 := (((HB.out.alloc hz _).alloc (by simp; omega) _)).trans (hb2.mono (by simp; omega))
          clear HSum hb2 hbit
          go_wp2_with fail
          exact ⟨⟨k + 1, by omega, by rw [hhalf.out], rfl, by rw [HY.out], hbel2⟩, by show y.size < x.size; rw [hxs]; exact hnext.out⟩
      · obtain rfl : k = h := by omega
        have hd0 : l.drop (561 + 32 * k) = [] := List.drop_of_length_le (by omega)
        rw [hd0]
        have hxe := empty_yes
        obtain ⟨v, hv⟩ : ∃ v, v = vn t l k := ⟨_, rfl⟩
        rw [← hv]
        have HV := Lib.hid hv
        clear hv hd0
        go_wp2_with fail
        go_ret
        exact ⟨by rw [← HV.out]; rfl, HB.out⟩
  · have hq : ¬ (leafN l : Int) / (2 : Int) ^ h = 0 := by
      rw [← hcast, ← Int.natCast_ediv]
      have := Nat.div_pos (show 2 ^ h ≤ leafN l by omega) hp.2.1
      omega
    rw [decide_eq_false hlt, Bool.false_and]
    generalize leafN l = m at hx hw hq
    go_enter Try.func26, Try.ntmps26
    go_wp2_with fail
    refine (H w).out.mono ?_
    rintro e w1 ⟨rfl, rfl⟩
    go_wp2_with fail
    go_ret
    exact ⟨rfl, Below.refl _ _⟩

theorem verify_u (root : ByteArray) (n : Int) (t : ByteArray) (ht : t.size ≤ 4096) (sig : ByteArray) (w : World) :
    Calls Try.prog 26 #[.string root, .int .i64 n, .string t, .string sig] w fun e w' => e = .returned (.bool (verB root n t sig)) ∧ Below w.heap.size w w' := by
  unfold verB
  cases hn : highB n with
  | false => exact (verify_high root n t sig hn w).mono fun _ _ ⟨he, hw⟩ => ⟨he, below_same hw⟩
  | true =>
    obtain ⟨h, rfl⟩ := Int.eq_ofNat_of_zero_le ((highB_iff n).1 hn).1
    have hh : h ≤ 5 := by have := ((highB_iff (h : Int)).1 hn).2; omega
    rw [Int.toNat_natCast]
    by_cases hs : sig.size = 561 + 32 * h
    · have hl : sig.data.toList.length = 561 + 32 * h := by rw [data_length]; exact hs
      have := verify_go root h hh t ht sig.data.toList hl w
      rw [bs_of] at this
      rw [decide_eq_true hs]
      simpa using this
    · rw [decide_eq_false hs]
      exact (verify_len root h hh t sig hs w).mono fun _ _ ⟨he, hw⟩ => ⟨he, below_same hw⟩
end Go.Proofs.Ytljnadbfadgglaa
