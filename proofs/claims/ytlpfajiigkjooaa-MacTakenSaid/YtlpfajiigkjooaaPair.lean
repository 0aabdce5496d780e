/- mac.node, mac.Pair and their references: the key of two nodes. Condition: the seed takes at most 4,096 bytes. -/
import Derived.Test.YtlpfajiigkjooaaKey
namespace Go.Proofs.Ytlpfajiigkjooaa
open Go.RowKit
set_option linter.unusedVariables false
set_option linter.unusedSimpArgs false

def nodeB (n : Int) : Bool := decide (0 ≤ n) && decide (n < 200)
theorem nodeB_iff (n : Int) : nodeB n = true ↔ 0 ≤ n ∧ n < 200 := by unfold nodeB; simp
theorem node_u (n : Int) (w : World) : Calls Try.prog 61 #[.int .i64 n] w fun e w' => e = .returned (.bool (nodeB n)) ∧ w = w' := by
  by_cases h : 0 ≤ n
  · go_enter Try.func61, Try.ntmps61
    go_wp2_with fail
    go_ret
    refine ⟨?_, rfl⟩
    simp [nodeB, h]
  · have h' : n < 0 := by omega
    go_enter Try.func61, Try.ntmps61
    go_wp2_with fail
    go_ret
    refine ⟨?_, rfl⟩
    simp [nodeB]
    omega
theorem refnode_u (n : Int) (w : World) : Calls Try.prog 62 #[.int .i64 n] w fun e w' => e = .returned (.bool (nodeB n)) ∧ w = w' := by
  by_cases h : 0 ≤ n
  · go_enter Try.func62, Try.ntmps62
    go_wp2_with fail
    go_ret
    refine ⟨?_, rfl⟩
    simp [nodeB, h]
  · have h' : n < 0 := by omega
    go_enter Try.func62, Try.ntmps62
    go_wp2_with fail
    go_ret
    refine ⟨?_, rfl⟩
    simp [nodeB]
    omega

/-- The key of two nodes. -/
def pairK (seed : ByteArray) (a b : Nat) : ByteArray := dig (seed ++ two (min a b) (max a b))
theorem pairK_comm (seed : ByteArray) (a b : Nat) : pairK seed a b = pairK seed b a := by unfold pairK; rw [Nat.min_comm, Nat.max_comm]
theorem pairK_size (seed : ByteArray) (a b : Nat) : (pairK seed a b).size = 32 := dig_size _
def pairU (seed : ByteArray) (a b : Int) : ByteArray := if nodeB a && nodeB b then pairK seed a.toNat b.toNat else ⟨#[]⟩
def pairE (a b : Int) : Int := if nodeB a && nodeB b then 0 else 1

theorem two_conv0 (a b : Nat) (ha : a ≤ 255) (hb : b ≤ 255) (W : World) : (convert 30 9 (.slice (some ⟨W.heap.size, 0, none⟩) 2 2)).run Try.prog (W.alloc (.cells #[.int .u8 (a : Int), .int .u8 (b : Int)] 5)) = .ok (.string (two a b)) (W.alloc (.cells #[.int .u8 (a : Int), .int .u8 (b : Int)] 5)) :=
  two_conv _ _ _ a b ha hb (fun j hj => (cell_of_row (W.alloc (.cells #[.int .u8 (a : Int), .int .u8 (b : Int)] 5)) _ _ _ _ _ (heap_alloc_new W _)).trans (by
    have : j = 0 ∨ j = 1 := by omega
    rcases this with rfl | rfl <;> rfl))
theorem sum_two0 (seed : ByteArray) (a b : Nat) (hs : seed.size ≤ 4096) (wr : World) : Calls Try.prog 22 #[.slice (some ⟨wr.heap.size + 1, 0, none⟩) 2 2] (((wr.alloc (.cells #[.int .u8 (a : Int), .int .u8 (b : Int)] 5)).alloc (.cells #[.string seed, .string (two a b)] 9))) fun e w' => e = .returned (.string (dig (seed ++ two a b))) ∧ Below wr.heap.size wr w' := by
  have h := sum_blk [seed, two a b] (wr.heap.size + 1) 2 rfl (((wr.alloc (.cells #[.int .u8 (a : Int), .int .u8 (b : Int)] 5)).alloc (.cells #[.string seed, .string (two a b)] 9))) 9 (by
    have h := heap_alloc_new (wr.alloc (.cells #[.int .u8 (a : Int), .int .u8 (b : Int)] 5)) (.cells #[.string seed, .string (two a b)] 9)
    rw [show (wr.alloc (.cells #[.int .u8 (a : Int), .int .u8 (b : Int)] 5)).heap.size = wr.heap.size + 1 by simp] at h
    exact h) (by omega) (by rw [cat_pair, ByteArray.size_append, two_size]; omega)
  rw [cat_pair] at h
  exact h.mono fun e w' ⟨he, hb⟩ => ⟨he, ((((Below.refl _ _).alloc (Nat.le_refl _) _).alloc (by simp) _)).trans (hb.mono (by simp; omega))⟩

theorem pair_no (seed : ByteArray) (a b : Int) (h : (nodeB a && nodeB b) = false) (w : World) :
    Calls Try.prog 41 #[.string seed, .int .i64 a, .int .i64 b] w fun e w' => e = .returned (.tuple #[.string ⟨#[]⟩, .int .i64 1]) ∧ w = w' := by
  have H := fun (n : Int) (w : World) => Lib.hid (node_u n w)
  cases ha : nodeB a with
  | false =>
    have Ha := fun w : World => H a w
    rw [ha] at Ha
    go_enter Try.func41, Try.ntmps41
    go_wp2_with fail
    refine (Ha _).out.mono ?_
    rintro e w1 ⟨rfl, rfl⟩
    go_wp2_with fail
    go_ret2
    exact ⟨rfl, rfl⟩
  | true =>
    have hb : nodeB b = false := by simpa [ha] using h
    have Ha := fun w : World => H a w
    rw [ha] at Ha
    have Hb := fun w : World => H b w
    rw [hb] at Hb
    go_enter Try.func41, Try.ntmps41
    go_wp2_with fail
    refine (Ha _).out.mono ?_
    rintro e w1 ⟨rfl, rfl⟩
    go_wp2_with fail
    refine (Hb _).out.mono ?_
    rintro e w1 ⟨rfl, rfl⟩
    go_wp2_with fail
    go_ret2
    exact ⟨rfl, rfl⟩

theorem pair_yes (seed : ByteArray) (hs : seed.size ≤ 4096) (a b : Nat) (ha : a < 200) (hb : b < 200) (w : World) :
    Calls Try.prog 41 #[.string seed, .int .i64 (a : Int), .int .i64 (b : Int)] w fun e w' => e = .returned (.tuple #[.string (pairK seed a b), .int .i64 0]) ∧ Below w.heap.size w w' := by
  have na : nodeB (a : Int) = true := (nodeB_iff _).2 ⟨by omega, by omega⟩
  have nb : nodeB (b : Int) = true := (nodeB_iff _).2 ⟨by omega, by omega⟩
  have Ha := fun w : World => Lib.hid (node_u (a : Int) w)
  rw [na] at Ha
  have Hb := fun w : World => Lib.hid (node_u (b : Int) w)
  rw [nb] at Hb
  have q1 : IntKind.u8.wrap (a : Int) = (a : Int) := by rw [IntKind.wrap_u8]; omega
  have q2 : IntKind.u8.wrap (b : Int) = (b : Int) := by rw [IntKind.wrap_u8]; omega
  by_cases hlt : b < a
  · have hcv := two_conv0 b a (by omega) (by omega)
    have HS := fun w : World => Lib.hid (sum_two0 seed b a hs w)
    have HE : Hid (pairK seed a b = dig (seed ++ two b a)) := Lib.hid (by unfold pairK; rw [Nat.min_eq_right (by omega), Nat.max_eq_left (by omega)])
    generalize hDD : dig (seed ++ two b a) = d at HS HE
    have hlt' : (b : Int) < (a : Int) := by omega
    clear hs hDD na nb
    go_enter Try.func41, Try.ntmps41
    go_wp2_with fail
    refine (Ha _).out.mono ?_
    rintro e w1 ⟨rfl, rfl⟩
    go_wp2_with fail
    refine (Hb _).out.mono ?_
    rintro e w1 ⟨rfl, rfl⟩
    go_wp2_with fail
    refine (HS w).out.mono ?_
    rintro e w1 ⟨rfl, hb1⟩
    go_wp2_with fail
    go_ret2
    exact ⟨by rw [HE.out]; rfl, hb1⟩
  · have hcv := two_conv0 a b (by omega) (by omega)
    have HS := fun w : World => Lib.hid (sum_two0 seed a b hs w)
    have HE : Hid (pairK seed a b = dig (seed ++ two a b)) := Lib.hid (by unfold pairK; rw [Nat.min_eq_left (by omega), Nat.max_eq_right (by omega)])
    generalize hDD : dig (seed ++ two a b) = d at HS HE
    have hlt' : ¬ (b : Int) < (a : Int) := by omega
    clear hs hDD na nb
    go_enter Try.func41, Try.ntmps41
    go_wp2_with fail
    refine (Ha _).out.mono ?_
    rintro e w1 ⟨rfl, rfl⟩
    go_wp2_with fail
    refine (Hb _).out.mono ?_
    rintro e w1 ⟨rfl, rfl⟩
    go_wp2_with fail
    refine (HS w).out.mono ?_
    rintro e w1 ⟨rfl, hb1⟩
    go_wp2_with fail
    go_ret2
    exact ⟨by rw [HE.out]; rfl, hb1⟩

theorem refpair_no (seed : ByteArray) (a b : Int) (h : (nodeB a && nodeB b) = false) (w : World) :
    Calls Try.prog 42 #[.string seed, .int .i64 a, .int .i64 b] w fun e w' => e = .returned (.tuple #[.string ⟨#[]⟩, .int .i64 1]) ∧ w = w' := by
  have H := fun (n : Int) (w : World) => Lib.hid (refnode_u n w)
  cases ha : nodeB a with
  | false =>
    have Ha := fun w : World => H a w
    rw [ha] at Ha
    go_enter Try.func42, Try.ntmps42
    go_wp2_with fail
    refine (Ha _).out.mono ?_
    rintro e w1 ⟨rfl, rfl⟩
    go_wp2_with fail
    go_ret2
    exact ⟨rfl, rfl⟩
  | true =>
    have hb : nodeB b = false := by simpa [ha] using h
    have Ha := fun w : World => H a w
    rw [ha] at Ha
    have Hb := fun w : World => H b w
    rw [hb] at Hb
    go_enter Try.func42, Try.ntmps42
    go_wp2_with fail
    refine (Ha _).out.mono ?_
    rintro e w1 ⟨rfl, rfl⟩
    go_wp2_with fail
    refine (Hb _).out.mono ?_
    rintro e w1 ⟨rfl, rfl⟩
    go_wp2_with fail
    go_ret2
    exact ⟨rfl, rfl⟩

theorem refpair_yes (seed : ByteArray) (hs : seed.size ≤ 4096) (a b : Nat) (ha : a < 200) (hb : b < 200) (w : World) :
    Calls Try.prog 42 #[.string seed, .int .i64 (a : Int), .int .i64 (b : Int)] w fun e w' => e = .returned (.tuple #[.string (pairK seed a b), .int .i64 0]) ∧ Below w.heap.size w w' := by
  have na : nodeB (a : Int) = true := (nodeB_iff _).2 ⟨by omega, by omega⟩
  have nb : nodeB (b : Int) = true := (nodeB_iff _).2 ⟨by omega, by omega⟩
  have Ha := fun w : World => Lib.hid (refnode_u (a : Int) w)
  rw [na] at Ha
  have Hb := fun w : World => Lib.hid (refnode_u (b : Int) w)
  rw [nb] at Hb
  obtain ⟨x, hx⟩ : ∃ x, x = min a b := ⟨_, rfl⟩
  obtain ⟨y, hy⟩ : ∃ y, y = max a b := ⟨_, rfl⟩
  have e1 : min (a : Int) (b : Int) = (x : Int) := by omega
  have e2 : max (a : Int) (b : Int) = (y : Int) := by omega
  have q1 : IntKind.u8.wrap (x : Int) = (x : Int) := by rw [IntKind.wrap_u8]; omega
  have q2 : IntKind.u8.wrap (y : Int) = (y : Int) := by rw [IntKind.wrap_u8]; omega
  have hcv := two_conv0 x y (by omega) (by omega)
  have HS := fun w : World => Lib.hid (refsum_any (seed ++ two x y) (by rw [ByteArray.size_append, two_size]; omega) w)
  have HE : Hid (pairK seed a b = dig (seed ++ two x y)) := Lib.hid (by unfold pairK; rw [hx, hy])
  generalize hDD : dig (seed ++ two x y) = d at HS HE
  have t2 : (two x y).size = 2 := rfl
  clear hDD na nb hx hy
  go_enter Try.func42, Try.ntmps42
  go_wp2_with fail
  refine (Ha _).out.mono ?_
  rintro e w1 ⟨rfl, rfl⟩
  go_wp2_with fail
  refine (Hb _).out.mono ?_
  rintro e w1 ⟨rfl, rfl⟩
  go_wp2_with fail
  refine (HS _).out.mono ?_
  rintro e w1 ⟨rfl, hb1⟩
  go_wp2_with fail
  go_ret2
  exact ⟨by rw [HE.out]; rfl, ((Below.refl _ _).alloc (Nat.le_refl _) _).trans (hb1.mono (by simp))⟩

theorem below_eq {B : Nat} {w w' : World} (h : w = w') : Below B w w' := by subst h; exact Below.refl _ _
theorem pair_u (seed : ByteArray) (hs : seed.size ≤ 4096) (a b : Int) (w : World) :
    Calls Try.prog 41 #[.string seed, .int .i64 a, .int .i64 b] w fun e w' => e = .returned (.tuple #[.string (pairU seed a b), .int .i64 (pairE a b)]) ∧ Below w.heap.size w w' := by
  unfold pairU pairE
  cases h : nodeB a && nodeB b with
  | false => exact (pair_no seed a b h w).mono fun _ _ ⟨he, hw⟩ => ⟨he, below_eq hw⟩
  | true =>
    simp only [Bool.and_eq_true, nodeB_iff] at h
    obtain ⟨x, rfl⟩ := Int.eq_ofNat_of_zero_le h.1.1
    obtain ⟨y, rfl⟩ := Int.eq_ofNat_of_zero_le h.2.1
    exact pair_yes seed hs x y (by omega) (by omega) w
theorem refpair_u (seed : ByteArray) (hs : seed.size ≤ 4096) (a b : Int) (w : World) :
    Calls Try.prog 42 #[.string seed, .int .i64 a, .int .i64 b] w fun e w' => e = .returned (.tuple #[.string (pairU seed a b), .int .i64 (pairE a b)]) ∧ Below w.heap.size w w' := by
  unfold pairU pairE
  cases h : nodeB a && nodeB b with
  | false => exact (refpair_no seed a b h w).mono fun _ _ ⟨he, hw⟩ => ⟨he, below_eq hw⟩
  | true =>
    simp only [Bool.and_eq_true, nodeB_iff] at h
    obtain ⟨x, rfl⟩ := Int.eq_ofNat_of_zero_le h.1.1
    obtain ⟨y, rfl⟩ := Int.eq_ofNat_of_zero_le h.2.1
    exact refpair_yes seed hs x y (by omega) (by omega) w
end Go.Proofs.Ytlpfajiigkjooaa
