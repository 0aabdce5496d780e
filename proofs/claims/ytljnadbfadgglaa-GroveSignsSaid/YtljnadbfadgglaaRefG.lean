/- witanref06: Right, power, node, Leaves, Root. Condition: heights 0 to 5, seeds of at most 4,096 bytes. -/
import Derived.Test.YtljnadbfadgglaaTree
namespace Go.Proofs.Ytljnadbfadgglaa
open Go.RowKit
set_option maxRecDepth 100000
set_option linter.unusedVariables false
set_option linter.unusedSimpArgs false

def errH (n : Int) : Int := if highB n then 0 else 1
theorem right_u (n : Int) (w : World) : Calls Try.prog 19 #[.int .i64 n] w fun e w' => e = .returned (.int .i64 (errH n)) ∧ w = w' := by
  by_cases h : 0 ≤ n
  · by_cases h5 : n ≤ 5
    · have hE : errH n = 0 := by unfold errH; rw [(highB_iff n).2 ⟨h, h5⟩]; rfl
      rw [hE]
      go_enter Try.func19, Try.ntmps19
      go_wp2_with fail
      go_ret
      exact ⟨rfl, rfl⟩
    · have hE : errH n = 1 := by unfold errH highB; simp [h5]
      have h5' : 5 < n := by omega
      rw [hE]
      go_enter Try.func19, Try.ntmps19
      go_wp2_with fail
      go_ret
      exact ⟨rfl, rfl⟩
  · have hE : errH n = 1 := by unfold errH highB; simp [h]
    have h' : n < 0 := by omega
    rw [hE]
    go_enter Try.func19, Try.ntmps19
    go_wp2_with fail
    go_ret
    exact ⟨rfl, rfl⟩

theorem power_any (h : Nat) (hh : h ≤ 5) (w : World) : Calls Try.prog 47 #[.int .i64 (h : Int)] w fun e w' => e = .returned (.int .i64 ((2 ^ h : Nat) : Int)) ∧ w = w' := by
  go_enter Try.func47, Try.ntmps47
  go_wp2_with fail
  go_loopw [3, 4] (fun x i wr => ∃ k : Nat, k ≤ h ∧ i = .int .i64 k ∧ x = .int .i64 ((2 ^ k : Nat) : Int) ∧ w = wr) (fun _ i _ => h - (intOf i).toNat)
  case atStart => exact ⟨0, by omega, rfl, rfl, rfl⟩
  case round =>
    obtain ⟨k, hk, rfl, rfl, rfl⟩ := hrel
    have hp := (pow_int k (by omega)).1
    have hps : 2 ^ (k + 1) = 2 ^ k * 2 := Nat.pow_succ 2 k
    obtain ⟨N, hN⟩ : ∃ N, N = 2 ^ k := ⟨_, rfl⟩
    rw [← hN] at hp hps ⊢
    have HNk := Lib.hid hN
    clear hN
    by_cases hlt : k < h
    · have n1 : (k : Int) < (h : Int) := by omega
      have HP := Lib.hid hps
      have hN : (N : Int) ≤ 32 := by omega
      clear hps
      go_wp2_with fail
      exact ⟨⟨k + 1, by omega, by go_num, by rw [HP.out]; go_num, trivial⟩, by simp [intOf]; omega⟩
    · obtain rfl : k = h := by omega
      clear hps
      go_wp2_with fail
      go_ret
      exact ⟨by rw [← HNk.out]; rfl, rfl⟩

/-- The reference's node. -/
def nd (f : Nat → ByteArray) (a : Nat) : Nat → ByteArray
  | 0 => f a
  | h + 1 => dig (nd f a h ++ nd f (a + 2 ^ h) h)
theorem nd_size (f : Nat → ByteArray) (hf : ∀ i, (f i).size = 32) (a h : Nat) : (nd f a h).size = 32 := by
  cases h with
  | zero => exact hf a
  | succ h => exact dig_size _
theorem nd_nodeK (seed : ByteArray) : ∀ (j i : Nat), nd (fun n => pubK seed n) (i * 2 ^ j) j = nodeK seed j i
  | 0, i => by show pubK seed (i * 2 ^ 0) = pubK seed i; rw [Nat.pow_zero, Nat.mul_one]
  | j + 1, i => by
    show dig (nd _ (i * 2 ^ (j + 1)) j ++ nd _ (i * 2 ^ (j + 1) + 2 ^ j) j) = dig (nodeK seed j (2 * i) ++ nodeK seed j (2 * i + 1))
    have e1 : i * 2 ^ (j + 1) = (2 * i) * 2 ^ j := by rw [Nat.pow_succ, Nat.mul_comm (2 ^ j) 2, ← Nat.mul_assoc, Nat.mul_comm i 2]
    have e2 : (2 * i) * 2 ^ j + 2 ^ j = (2 * i + 1) * 2 ^ j := by rw [Nat.add_mul, Nat.one_mul]
    rw [e1, e2, nd_nodeK seed j (2 * i), nd_nodeK seed j (2 * i + 1)]

/-- Texts in a slice that begins a block. -/
def TextsAt (w : World) (g n : Nat) (f : Nat → ByteArray) : Prop := g < w.heap.size ∧ ∀ i, i < n → w.cell? ⟨g, i, none⟩ = some (.string (f i))
theorem TextsAt.keep {w w' : World} {g n : Nat} {f : Nat → ByteArray} (h : TextsAt w g n f) (hb : Below w.heap.size w w') : TextsAt w' g n f :=
  ⟨Nat.lt_of_lt_of_le h.1 hb.size, fun i hi => (hb.cell (p := ⟨g, i, none⟩) h.1).trans (h.2 i hi)⟩

theorem refnode_any (g n c : Nat) (f : Nat → ByteArray) (hf : ∀ i, (f i).size = 32) (hn : n ≤ 1000) : ∀ (h a : Nat) (w : World), h ≤ 5 → a + 2 ^ h ≤ n → TextsAt w g n f →
    Calls Try.prog 46 #[.slice (some ⟨g, 0, none⟩) n c, .int .i64 (a : Int), .int .i64 (h : Int)] w fun e w' => e = .returned (.string (nd f a h)) ∧ Below w.heap.size w w' := by
  intro h
  induction h with
  | zero =>
    intro a w _ ha ht
    have hc := ht.2 a (by omega)
    have n0 : 0 ≤ (a : Int) := by omega
    have n1 : (a : Int) < (n : Int) := by omega
    show Calls Try.prog 46 #[.slice (some ⟨g, 0, none⟩) n c, .int .i64 (a : Int), .int .i64 0] w fun e w' => e = .returned (.string (f a)) ∧ Below w.heap.size w w'
    obtain ⟨x, hx⟩ : ∃ x, x = f a := ⟨_, rfl⟩
    rw [← hx] at hc ⊢
    clear ht hx hf
    go_enter Try.func46, Try.ntmps46
    go_wp2_with fail
    go_ret
    exact ⟨rfl, Below.refl _ _⟩
  | succ h ih =>
    intro a w h5 ha ht
    have hp := pow_int h (by omega)
    have hps : 2 ^ (h + 1) = 2 ^ h * 2 := Nat.pow_succ 2 h
    have H1 := Lib.hid (ih a)
    have H2 := Lib.hid (ih (a + 2 ^ h))
    have HW := fun w : World => Lib.hid (power_any h (by omega) w)
    have s1 := nd_size f hf a h
    have s2 := nd_size f hf (a + 2 ^ h) h
    have HX : Hid (nd f a (h + 1) = dig (nd f a h ++ nd f (a + 2 ^ h) h)) := Lib.hid rfl
    have HS := fun w : World => Lib.hid (refsum_any (nd f a h ++ nd f (a + 2 ^ h) h) (by rw [ByteArray.size_append]; omega) w)
    rw [← HX.out] at HS
    generalize nd f a h = x at H1 HS s1
    generalize nd f (a + 2 ^ h) h = y at H2 HS s2
    generalize 2 ^ h = N at hp hps H1 H2 HW
    have HT := Lib.hid ht
    have hN := hp.1
    have e1 : ((h + 1 : Nat) : Int) - 1 = (h : Int) := by omega
    have n1 : ¬ ((h + 1 : Nat) : Int) = 0 := by omega
    have hh4 : (h : Int) ≤ 4 := by omega
    have han : (a : Int) + (N : Int) ≤ 1000 := by omega
    have hle : a + N ≤ n := by omega
    have hle2 : a + N + N ≤ n := by omega
    clear ih ht hps hp hf HX
    go_enter Try.func46, Try.ntmps46
    go_wp2_with fail
    refine (HW w).out.mono ?_
    rintro e w1 ⟨rfl, rfl⟩
    go_wp2_with fail
    refine (H1.out w (by omega) hle HT.out).mono ?_
    rintro e w1 ⟨rfl, hb1⟩
    have H2' := H2.out w1 (by omega) hle2 (HT.out.keep hb1)
    rw [Int.natCast_add] at H2'
    have HH2 := Lib.hid H2'
    clear H2'
    go_wp2_with fail
    refine HH2.out.mono ?_
    rintro e w2 ⟨rfl, hb2⟩
    go_wp2_with fail
    refine (HS w2).out.mono ?_
    rintro e w3 ⟨rfl, hb3⟩
    go_wp2_with fail
    go_ret
    have z1 := hb1.size
    have z2 := hb2.size
    exact ⟨rfl, (hb1.trans (hb2.mono z1)).trans (hb3.mono (by omega))⟩

set_option maxHeartbeats 400000 in
theorem leaves_any (seed : ByteArray) (hs : seed.size ≤ 4096) (h : Nat) (hh : h ≤ 5) (w : World) :
    Calls Try.prog 21 #[.string seed, .int .i64 (h : Int)] w fun e w' => ∃ g c, e = .returned (.slice (some ⟨g, 0, none⟩) (2 ^ h) c) ∧ w.heap.size ≤ g ∧ TextsAt w' g (2 ^ h) (fun n => pubK seed n) ∧ Below w.heap.size w w' := by
  have hp := pow_int h hh
  have HW := fun w : World => Lib.hid (power_any h hh w)
  obtain ⟨N, hN⟩ : ∃ N, N = 2 ^ h := ⟨_, rfl⟩
  rw [← hN] at hp HW ⊢
  have hN32 := hp.1
  have hN1 := hp.2.1
  have HP := fun (k : Nat) (hk : k ≤ 255) (w : World) => Lib.hid (refpublic_yes seed hs k hk w)
  clear hs hp hN
  go_enter Try.func21, Try.ntmps21
  go_wp2_with fail
  go_loopw [5, 6] (fun v i wr => ∃ k : Nat, k ≤ N ∧ i = .int .i64 k ∧ wr.ownsRow w.heap.size 9 1 v k ((List.range k).map fun n => Value.string (pubK seed n)) ∧ Below w.heap.size w wr) (fun _ i _ => N - (intOf i).toNat)
  case atStart => exact ⟨0, by omega, rfl, World.ownsRow_nil _ _ _ _, Below.refl _ _⟩
  case round =>
    obtain ⟨k, hk, rfl, hown, hbel⟩ := hrel
    have hz := hbel.size
    by_cases hlt : k < N
    · have n1 : (k : Int) < (N : Int) := by omega
      have HPk := fun w : World => HP k (by omega) w
      have hsucc : Hid ((List.range (k + 1)).map (fun n => Value.string (pubK seed n)) = (List.range k).map (fun n => Value.string (pubK seed n)) ++ [Value.string (pubK seed k)]) := Lib.hid (by rw [List.range_succ, List.map_append]; rfl)
      generalize pubK seed k = p at HPk hsucc
      go_wp2_with fail
      refine (HW wr).out.mono ?_
      rintro e w1 ⟨rfl, rfl⟩
      go_wp2_with fail
      refine (HPk wr).out.mono ?_
      rintro e w2 ⟨rfl, hb2⟩
      have hbel2 := hbel.trans (hb2.mono hz)
      have hown2 := hown.kept (row := none) (only_of_below hb2 none) (by cases hn : Value.ownBlock _ <;> simp)
      have hz2 := hbel2.size
      clear hown hbel hz hb2
      go_wp2_with (at_builtin; go_must (refine app_lit rfl (.tmp 21) (.tmp 23) 34 9 rfl info_str6 Try.underlying34 rfl w w2 w.heap.size w.heap.size (Nat.le_refl _) hz2 hbel2 _ _ _ (by rfl) hown2 _ 1 1 (by rfl) (by rfl) (by intro u hu; simp at hu; subst hu; rfl) (by omega) (by unfold maxLen; omega) ?_); go_must (intro v1 w9 hown1 hbel1 _ _); clear hown2 hbel2 hz2)
      have hown3 : w9.ownsRow w.heap.size 9 1 v1 (k + 1) ((List.range (k + 1)).map fun n => Value.string (pubK seed n)) := by rw [hsucc.out]; exact hown1
      clear hown1
      go_wp2_with fail
      exact ⟨⟨k + 1, by omega, by go_num, hown3, hbel1⟩, by simp [intOf]; omega⟩
    · obtain rfl : k = N := by omega
      have n1 : ¬ (k : Int) < (k : Int) := by omega
      obtain ⟨g, c, rfl, hg, hgl⟩ := hown.form (by omega)
      have HO := Lib.hid hown
      clear hown
      go_wp2_with fail
      refine (HW wr).out.mono ?_
      rintro e w1 ⟨rfl, rfl⟩
      go_wp2_with fail
      go_ret
      exact ⟨g, c, rfl, hg, ⟨hgl, fun i hi => by rw [HO.out.cellAt i (by omega)]; simp [hi]⟩, hbel⟩

theorem refroot_any (seed : ByteArray) (h : Nat) (hh : h ≤ 5) (g c : Nat) (w : World) (ht : TextsAt w g (2 ^ h) (fun n => pubK seed n)) :
    Calls Try.prog 20 #[.slice (some ⟨g, 0, none⟩) (2 ^ h) c, .int .i64 (h : Int)] w fun e w' => e = .returned (.string (nodeK seed h 0)) ∧ Below w.heap.size w w' := by
  have hp := (pow_int h hh).1
  have HN := refnode_any g (2 ^ h) c (fun n => pubK seed n) (fun i => pubK_size seed i) (by omega) h 0 w hh (by omega) ht
  have e := nd_nodeK seed h 0
  rw [Nat.zero_mul] at e
  rw [e] at HN
  have HN := Lib.hid HN
  generalize 2 ^ h = N at HN hp ⊢
  obtain ⟨x, hx⟩ : ∃ x, x = nodeK seed h 0 := ⟨_, rfl⟩
  rw [← hx] at HN ⊢
  clear ht e hx
  go_enter Try.func20, Try.ntmps20
  go_wp2_with fail
  refine HN.out.mono ?_
  rintro e w1 ⟨rfl, hb1⟩
  go_wp2_with fail
  go_ret
  exact ⟨rfl, hb1⟩
end Go.Proofs.Ytljnadbfadgglaa
