/- The reference's public keys and signatures. Condition: the seed and the text take at most 4,096 bytes each. -/
import Derived.Test.YtljnadbfadgglaaKeyS
import Derived.Test.YtljnadbfadgglaaBelT
import Derived.Lib.AppendStr
namespace Go.Proofs.Ytljnadbfadgglaa
open Go.RowKit
set_option maxRecDepth 100000
set_option linter.unusedVariables false
set_option linter.unusedSimpArgs false

theorem refbegin_any (seed : ByteArray) (hs : seed.size ≤ 4096) (leaf : Nat) (hl : leaf ≤ 255) (k : Nat) (hk : k ≤ 255) (w : World) :
    Calls Try.prog 80 #[.string seed, .int .i64 (leaf : Int), .int .i64 (k : Int)] w fun e w' => e = .returned (.string (beg seed leaf k)) ∧ Below w.heap.size w w' := by
  have q1 : IntKind.u8.wrap (leaf : Int) = (leaf : Int) := by rw [IntKind.wrap_u8]; omega
  have q2 : IntKind.u8.wrap (k : Int) = (k : Int) := by rw [IntKind.wrap_u8]; omega
  have hcv : ∀ W : World, (convert 84 9 (.slice (some ⟨W.heap.size, 0, none⟩) 2 2)).run Try.prog (W.alloc (.cells #[.int .u8 (leaf : Int), .int .u8 (k : Int)] 5)) = .ok (.string (two leaf k)) (W.alloc (.cells #[.int .u8 (leaf : Int), .int .u8 (k : Int)] 5)) := fun W =>
    two_conv _ _ _ leaf k hl hk (fun j hj => (cell_of_row (W.alloc (.cells #[.int .u8 (leaf : Int), .int .u8 (k : Int)] 5)) _ _ _ _ _ (heap_alloc_new W _)).trans (by
      have : j = 0 ∨ j = 1 := by omega
      rcases this with rfl | rfl <;> rfl))
  have HS := fun w : World => Lib.hid (refsum_any (seed ++ two leaf k) (by rw [ByteArray.size_append, two_size]; omega) w)
  have hd := dig_size (seed ++ two leaf k)
  have HE : Hid (beg seed leaf k = (dig (seed ++ two leaf k)).extract 0 16) := Lib.hid rfl
  generalize hDD : dig (seed ++ two leaf k) = d at HS hd HE
  have t2 : (two leaf k).size = 2 := rfl
  clear hDD
  go_enter Try.func80, Try.ntmps80
  go_wp2_with fail
  refine (HS _).out.mono ?_
  rintro e w1 ⟨rfl, hb1⟩
  go_wp2_with fail
  go_ret
  exact ⟨by rw [HE.out]; rfl, ((Below.refl _ _).alloc (Nat.le_refl _) _).trans (hb1.mono (by simp))⟩

theorem refpublic_no (seed : ByteArray) (n : Int) (h : n < 0 ∨ 255 < n) (w : World) :
    Calls Try.prog 48 #[.string seed, .int .i64 n] w fun e w' => e = .returned (.tuple #[.string ⟨#[]⟩, .int .i64 1]) ∧ w = w' := by
  rcases h with h | h
  · go_enter Try.func48, Try.ntmps48
    go_wp2_with fail
    go_ret2
    exact ⟨rfl, rfl⟩
  · have h0 : 0 ≤ n := by omega
    go_enter Try.func48, Try.ntmps48
    go_wp2_with fail
    go_ret2
    exact ⟨rfl, rfl⟩

theorem own_str {w0 : World} {w : World} {v : Value} {l m : List UInt8} {n : Nat} (s : ByteArray) (h : w.ownsRow w0.heap.size 5 1 v (l.length + s.size) (Lib.byteCells l ++ Lib.strCells s)) (hm : m = l ++ s.data.toList) (hn : n = m.length) : w.ownsRow w0.heap.size 5 1 v n (Lib.byteCells m) := by
  subst hm; subst hn
  rw [Lib.byteCells_append, List.length_append, data_length]
  exact h

set_option maxHeartbeats 400000 in
theorem refpublic_yes (seed : ByteArray) (hs : seed.size ≤ 4096) (leaf : Nat) (hl : leaf ≤ 255) (w : World) :
    Calls Try.prog 48 #[.string seed, .int .i64 (leaf : Int)] w fun e w' => e = .returned (.tuple #[.string (pubK seed leaf), .int .i64 0]) ∧ Below w.heap.size w w' := by
  obtain ⟨i0, hi, hz0, hz1, hz2⟩ := info_parts info_byte
  have Hi := Lib.hid hi
  have Hz0 := Lib.hid hz0
  have Hz1 := Lib.hid hz1
  have Hz2 := Lib.hid hz2
  clear hi hz0 hz1 hz2
  have g0 : (0 : Int) ≤ (leaf : Int) := by omega
  have g1 : (leaf : Int) ≤ 255 := by omega
  have HB := fun (k : Nat) (hk : k ≤ 255) (w : World) => Lib.hid (refbegin_any seed hs leaf hl k hk w)
  have HL := Lib.hid (keyB_length seed leaf (fun _ => 15))
  have HE : Hid (pubK seed leaf = dig (bs (keyB seed leaf (fun _ => 15) 35))) := Lib.hid rfl
  clear hs hl
  go_enter Try.func48, Try.ntmps48
  go_wp2_with fail
  go_loopw [6, 7] (fun v i wr => ∃ k : Nat, k ≤ 35 ∧ i = .int .i64 k ∧ wr.ownsRow w.heap.size 5 1 v (16 * k) (Lib.byteCells (keyB seed leaf (fun _ => 15) k)) ∧ Below w.heap.size w wr) (fun _ i _ => 35 - (intOf i).toNat)
  case atStart => exact ⟨0, by omega, rfl, World.ownsRow_nil _ _ _ _, Below.refl _ _⟩
  case round =>
    obtain ⟨k, hk, rfl, hown, hbel⟩ := hrel
    have hz := hbel.size
    by_cases hlt : k < 35
    · have n1 : (k : Int) < 35 := by omega
      have hbs := beg_size seed leaf k
      have HS := fun w : World => Lib.hid (refstep_any (beg seed leaf k) (by omega) 15 (Nat.le_refl _) w)
      have HK := Lib.hid (keyB_succ seed leaf (fun _ => 15) k)
      have hxs := step_size (beg seed leaf k) hbs 15
      change Hid (keyB seed leaf (fun _ => 15) (k + 1) = keyB seed leaf (fun _ => 15) k ++ (stepN (beg seed leaf k) 15).data.toList) at HK
      generalize stepN (beg seed leaf k) 15 = x at HS HK hxs
      go_wp2_with fail
      refine (HB k (by omega) wr).out.mono ?_
      rintro e w1 ⟨rfl, hb1⟩
      clear hbs
      generalize beg seed leaf k = b at HS ⊢
      go_wp2_with fail
      refine (HS w1).out.mono ?_
      rintro e w2 ⟨rfl, hb2⟩
      have hbel2 : Below w.heap.size w w2 := (hbel.trans (hb1.mono hz)).trans (hb2.mono (by have := hb1.size; omega))
      have hown2 := (hown.kept (row := none) (only_of_below hb1 none) (by cases hn : Value.ownBlock _ <;> simp)).kept (row := none) (only_of_below hb2 none) (by cases hn : Value.ownBlock _ <;> simp)
      have hz2 := hbel2.size
      clear hown hbel hz
      go_wp2_with (at_builtin; go_must (refine Lib.wpList_append_own_string _ rfl (.tmp 18) (.tmp 23) 84 9 rfl w.heap.size 5 i0 Try.underlying84 Try.underlying9 Hi.out Hz0.out Hz1.out Hz2.out _ _ _ (by rfl) hown2 x (by rfl) (by unfold maxLen; omega) (by omega) hz2 ?_); go_must (intro v1 w9 hown1 hgrow _))
      have hbel9 : Below w.heap.size w w9 := hbel2.grown hgrow hz2 (fun kk hk => (hown2.lt _ hk).1)
      have hown9 : w9.ownsRow w.heap.size 5 1 v1 (16 * (k + 1)) (Lib.byteCells (keyB seed leaf (fun _ => 15) (k + 1))) :=
        own_str x (by rw [HL.out]; exact hown1) HK.out (by rw [HL.out])
      clear hown1 hgrow hown2
      go_wp2_with fail
      exact ⟨⟨k + 1, by omega, by go_num, hown9, hbel9⟩, by simp [intOf]; omega⟩
    · obtain rfl : k = 35 := by omega
      have hcv := str_of_own (P := Try.prog) 84 9 5 Try.underlying84 Try.underlying5 Try.underlying9 hown
      have HS := Lib.hid (refsum_any (bs (keyB seed leaf (fun _ => 15) 35)) (by rw [bs_size, HL.out]; omega) wr)
      rw [← HE.out] at HS
      generalize bs (keyB seed leaf (fun _ => 15) 35) = y at hcv HS
      clear hown hlt
      go_wp2_with fail
      refine HS.out.mono ?_
      rintro e w2 ⟨rfl, hb2⟩
      go_wp2_with fail
      go_ret2
      exact ⟨rfl, hbel.trans (hb2.mono hz)⟩
end Go.Proofs.Ytljnadbfadgglaa
