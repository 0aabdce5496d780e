/- onetime.key: all chains of a key, each by its number of steps. Condition: the seed takes at most 4,094 + 2 bytes with its two more. -/
import Derived.Test.YtljnadbfadgglaaLife
import Derived.Test.YtljnadbfadgglaaBel
import Derived.Test.YtljnadbfadgglaaBuild
import Derived.Test.YtljnadbfadgglaaShelf
namespace Go.Proofs.Ytljnadbfadgglaa
open Go.RowKit
set_option maxRecDepth 100000
set_option linter.unusedVariables false
set_option linter.unusedSimpArgs false

/-- Two bytes as a text. -/
def two (a b : Nat) : ByteArray := ⟨#[UInt8.ofNat a, UInt8.ofNat b]⟩
theorem two_size (a b : Nat) : (two a b).size = 2 := rfl
theorem two_bs (a b : Nat) : two a b = bs [UInt8.ofNat a, UInt8.ofNat b] := rfl
/-- Where a chain begins. -/
def beg (seed : ByteArray) (leaf i : Nat) : ByteArray := (dig (seed ++ two leaf i)).extract 0 16
theorem beg_size (seed : ByteArray) (leaf i : Nat) : (beg seed leaf i).size = 16 := by unfold beg; rw [ByteArray.size_extract, dig_size]; omega
theorem step_size (s : ByteArray) (h : s.size = 16) : ∀ n, (stepN s n).size = 16
  | 0 => h
  | n + 1 => by show ((dig (stepN s n)).extract 0 16).size = 16; rw [ByteArray.size_extract, dig_size]; omega
/-- The first k chains, walked. -/
def keyB (seed : ByteArray) (leaf : Nat) (f : Nat → Nat) (k : Nat) : List UInt8 := (List.range k).flatMap fun i => (stepN (beg seed leaf i) (f i)).data.toList
theorem keyB_succ (seed : ByteArray) (leaf : Nat) (f : Nat → Nat) (k : Nat) : keyB seed leaf f (k + 1) = keyB seed leaf f k ++ (stepN (beg seed leaf k) (f k)).data.toList := by
  unfold keyB; rw [List.range_succ, List.flatMap_append]; simp
theorem data_length (s : ByteArray) : s.data.toList.length = s.size := Array.length_toList
theorem keyB_length (seed : ByteArray) (leaf : Nat) (f : Nat → Nat) : ∀ k, (keyB seed leaf f k).length = 16 * k
  | 0 => by simp [keyB]
  | k + 1 => by rw [keyB_succ, List.length_append, keyB_length seed leaf f k, data_length, step_size _ (beg_size _ _ _)]; omega

theorem two_conv (W : World) (g c : Nat) (a b : Nat) (ha : a ≤ 255) (hb : b ≤ 255) (h : ∀ j (hj : j < 2), W.cell? ⟨g, j, none⟩ = some (.int .u8 ([(a : Int), (b : Int)].getD j 0))) :
    (convert 84 9 (.slice (some ⟨g, 0, none⟩) 2 c)).run Try.prog W = .ok (.string (two a b)) W := by
  refine run_convert_bytes_back W 84 9 5 ⟨g, 0, none⟩ c [UInt8.ofNat a, UInt8.ofNat b] Try.underlying84 Try.underlying5 Try.underlying9 (fun j hj => ?_)
  have e : (⟨g, 0, none⟩ : Addr).add j = ⟨g, j, none⟩ := by unfold Addr.add; split <;> simp_all
  rw [e, h j hj]
  have : j = 0 ∨ j = 1 := by simp at hj; omega
  rcases this with rfl | rfl
  · simp
    omega
  · simp
    omega

theorem builder_keep {T e : TypeId} {B b : Nat} {xs : List Value} {w w' : World} (h : Lib.IsBuilder T e B b xs w) (hb : Below w.heap.size w w') : Lib.IsBuilder T e B b xs w' := by
  have one : ∀ p, Lib.BuilderAt T e B b p xs w → Lib.BuilderAt T e B b p xs w' := by
    intro p hp
    have hlt := hp.lt
    obtain ⟨hB, v, hv, hown, hne⟩ := hp
    refine ⟨hB, v, (hb.block b hlt).trans hv, hown.kept (row := none) (only_of_below hb none) ?_, hne⟩
    cases hn : v.ownBlock with
    | none => exact .inl rfl
    | some x => exact .inr (by simp)
  exact h.imp (one _) (one _)

theorem cat_pair (a b : ByteArray) : cat [a, b] = a ++ b := by
  apply ByteArray.ext
  simp [cat, bs, ByteArray.data_append]
theorem sum_two (seed : ByteArray) (leaf k : Nat) (hs : seed.size ≤ 4096) (wr : World) : Calls Try.prog 52 #[.slice (some ⟨wr.heap.size + 1, 0, none⟩) 2 2] (((wr.alloc (.cells #[.int .u8 (leaf : Int), .int .u8 (k : Int)] 5)).alloc (.cells #[.string seed, .string (two leaf k)] 9)).drew) fun e w' => e = .returned (.string (dig (seed ++ two leaf k))) ∧ Below wr.heap.size wr w' := by
  have h := sum_blk [seed, two leaf k] (wr.heap.size + 1) 2 rfl (((wr.alloc (.cells #[.int .u8 (leaf : Int), .int .u8 (k : Int)] 5)).alloc (.cells #[.string seed, .string (two leaf k)] 9)).drew) 9 (by
    have h := heap_alloc_new (wr.alloc (.cells #[.int .u8 (leaf : Int), .int .u8 (k : Int)] 5)) (.cells #[.string seed, .string (two leaf k)] 9)
    rw [show (wr.alloc (.cells #[.int .u8 (leaf : Int), .int .u8 (k : Int)] 5)).heap.size = wr.heap.size + 1 by simp] at h
    exact h) (by omega) (by rw [cat_pair, ByteArray.size_append, two_size]; omega)
  rw [cat_pair] at h
  exact h.mono fun e w' ⟨he, hb⟩ => ⟨he, ((((Below.refl _ _).alloc (Nat.le_refl _) _).alloc (by simp) _).drew).trans (hb.mono (by simp; omega))⟩

theorem pub1 (i : Int) (w : World) : Calls Try.prog 78 #[.int .i64 i] w fun e w' => e = .returned (.int .i64 15) ∧ w = w' := by
  go_enter Try.func78, Try.ntmps78
  go_wp2_with fail
  go_ret
  exact ⟨rfl, rfl⟩

set_option maxHeartbeats 1000000 in
theorem key_pub (seed : ByteArray) (hs : seed.size ≤ 4096) (leaf : Nat) (hl : leaf ≤ 255) (w : World) :
    Calls Try.prog 77 #[.string seed, .int .i64 (leaf : Int), .func (.func 78) #[] #[]] w fun e w' => e = .returned (.string (bs (keyB seed leaf (fun _ => 15) 35))) ∧ Below w.heap.size w w' := by
  go_enter Try.func77, Try.ntmps77
  go_wp2_with fail
  go_loopw [9] (fun i wr => ∃ k : Nat, k ≤ 35 ∧ i = .int .i64 k ∧ Lib.IsBuilder 119 5 w.heap.size w.heap.size (Lib.byteCells (keyB seed leaf (fun _ => 15) k)) wr ∧ Below w.heap.size w wr) (fun i _ => 35 - (intOf i).toNat)
  case atStart => exact ⟨0, by omega, rfl, Lib.fresh_isBuilder _ _ w, (Below.refl _ _).alloc (Nat.le_refl _) _⟩
  case round =>
    obtain ⟨k, hk, rfl, hbu, hbel⟩ := hrel
    have hz := hbel.size
    by_cases hlt : k < 35
    · have n1 : (k : Int) < 35 := by omega
      have q1 : IntKind.u8.wrap (leaf : Int) = (leaf : Int) := by rw [IntKind.wrap_u8]; omega
      have q2 : IntKind.u8.wrap (k : Int) = (k : Int) := by rw [IntKind.wrap_u8]; omega
      have hcv : ∀ W : World, (convert 84 9 (.slice (some ⟨W.heap.size, 0, none⟩) 2 2)).run Try.prog (W.alloc (.cells #[.int .u8 (leaf : Int), .int .u8 (k : Int)] 5)).drew = .ok (.string (two leaf k)) (W.alloc (.cells #[.int .u8 (leaf : Int), .int .u8 (k : Int)] 5)).drew := fun W =>
        two_conv _ _ _ leaf k hl (by omega) (fun j hj => (cell_of_row (W.alloc (.cells #[.int .u8 (leaf : Int), .int .u8 (k : Int)] 5)) _ _ _ _ _ (heap_alloc_new W _)).trans (by
          have : j = 0 ∨ j = 1 := by omega
          rcases this with rfl | rfl <;> rfl))
      have hsum : Hid (Calls Try.prog 52 #[.slice (some ⟨wr.heap.size + 1, 0, none⟩) 2 2] (((wr.alloc (.cells #[.int .u8 (leaf : Int), .int .u8 (k : Int)] 5)).alloc (.cells #[.string seed, .string (two leaf k)] 9)).drew) fun e w' => e = .returned (.string (dig (seed ++ two leaf k))) ∧ Below wr.heap.size wr w') := Lib.hid (sum_two seed leaf k hs wr)
      have hstep := fun w : World => Lib.hid (step_any (beg seed leaf k) (by rw [beg_size]; omega) 15 15 (by decide) w)
      have hd := dig_size (seed ++ two leaf k)
      have HS := Lib.hid (keyB_succ seed leaf (fun _ => 15) k)
      have HL := Lib.hid (keyB_length seed leaf (fun _ => 15) k)
      have Hz := Lib.hid (step_size (beg seed leaf k) (beg_size seed leaf k) 15)
      change ∀ w : World, Hid (Calls Try.prog 85 #[.string ((dig (seed ++ two leaf k)).extract 0 16), .int .i64 15] w fun e w' => e = .returned (.string (stepN (beg seed leaf k) 15)) ∧ Below w.heap.size w w') at hstep
      generalize dig (seed ++ two leaf k) = d at hsum hstep hd
      change Hid (keyB seed leaf (fun _ => 15) (k + 1) = keyB seed leaf (fun _ => 15) k ++ (stepN (beg seed leaf k) 15).data.toList) at HS
      generalize stepN (beg seed leaf k) 15 = x at hstep HS Hz
      generalize keyB seed leaf (fun _ => 15) k = l at hbu HS HL
      clear hs hl
      go_wp2_with fail
      go_region_with ((first
        | (go_at_call 52; refine hsum.out.mono ?_; rintro e w2 ⟨rfl, hb2⟩)
        | (go_at_call 78; refine (pub1 _ _).mono ?_; rintro e w3 ⟨rfl, rfl⟩)
        | (go_at_call 85; refine (hstep _).out.mono ?_; rintro e w4 ⟨rfl, hb4⟩)
        | (go_at_call 84; refine (write_any w.heap.size w.heap.size l x _ (builder_keep (builder_keep hbu hb2) (hb4.mono (Nat.le_refl _))) ?_ ?_).mono ?_; (rw [HL.out, Hz.out]; omega); (have := hb2.size; have := hb4.size; omega); rintro e w5 ⟨rfl, hbu5, hb5⟩)))
      have hz5 := hb2.size
      have hz6 := hb4.size
      have hbel5 := ((hbel.trans (hb2.mono hz)).trans (hb4.mono (by omega))).trans hb5
      rw [← HS.out] at hbu5
      clear hsum hstep hcv HS HL hbu
      go_wp2_with fail
      exact ⟨⟨k + 1, by omega, by go_num, hbu5, hbel5⟩, by simp [intOf]; omega⟩
    · obtain rfl : k = 35 := by omega
      have HB := Lib.hid (Try.Builder_String_any w.heap.size w.heap.size _ wr hbu hz)
      obtain ⟨l, hll⟩ : ∃ l, l = keyB seed leaf (fun _ => 15) 35 := ⟨_, rfl⟩
      rw [← hll] at HB
      have Hll := Lib.hid hll
      clear hbu hll
      go_wp2_with fail
      refine HB.out.mono ?_
      rintro e w2 ⟨rfl, hb2⟩
      go_wp2_with fail
      go_ret
      exact ⟨by rw [← Hll.out]; rfl, hbel.trans hb2⟩
end Go.Proofs.Ytljnadbfadgglaa
