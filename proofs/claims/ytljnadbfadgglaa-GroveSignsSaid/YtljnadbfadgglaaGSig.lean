/- A signer's Sign. Condition: seed and text take at most 4,096 bytes. -/
import Derived.Test.YtljnadbfadgglaaTree
namespace Go.Proofs.Ytljnadbfadgglaa
open Go.RowKit
set_option maxRecDepth 100000
set_option linter.unusedVariables false
set_option linter.unusedSimpArgs false

/-- One byte as a text. -/
def one (a : Nat) : ByteArray := ⟨#[UInt8.ofNat a]⟩
theorem one_size (a : Nat) : (one a).size = 1 := rfl
theorem one_conv (a : Nat) (ha : a ≤ 255) (W : World) : (convert 84 9 (.slice (some ⟨W.heap.size, 0, none⟩) 1 1)).run Try.prog (W.alloc (.cells #[.int .u8 (a : Int)] 5)) = .ok (.string (one a)) (W.alloc (.cells #[.int .u8 (a : Int)] 5)) := by
  refine run_convert_bytes_back (W.alloc (.cells #[.int .u8 (a : Int)] 5)) 84 9 5 ⟨W.heap.size, 0, none⟩ 1 [UInt8.ofNat a] Try.underlying84 Try.underlying5 Try.underlying9 (fun j hj => ?_)
  have : j = 0 := by simp at hj; omega
  subst this
  have e : (⟨W.heap.size, 0, none⟩ : Addr).add 0 = ⟨W.heap.size, 0, none⟩ := by unfold Addr.add; split <;> simp_all
  rw [e, cell_of_row _ _ _ _ _ _ (heap_alloc_new W _)]
  simp
  omega

/-- The neighbour. -/
def sib (a : Nat) : Nat := if a % 2 = 1 then a - 1 else a + 1
theorem sib_lt (a m : Nat) (h : a < 2 * m) : sib a < 2 * m := by unfold sib; split <;> omega
theorem xor1 (n : Nat) (h : n < 256) : bits .xor .i64 (n : Int) 1 = ((sib n : Nat) : Int) := by
  have h' : ∀ n : Fin 256, bits .xor .i64 (n.val : Int) 1 = ((sib n.val : Nat) : Int) := by decide +kernel
  exact h' ⟨n, h⟩
/-- A grove's signature, as far as level k. -/
def sgn (seed : ByteArray) (leaf : Nat) (text : ByteArray) : Nat → ByteArray
  | 0 => one leaf ++ sigK seed leaf text
  | k + 1 => sgn seed leaf text k ++ nodeK seed k (sib (leaf / 2 ^ k))
theorem sigK_size (seed : ByteArray) (leaf : Nat) (text : ByteArray) : (sigK seed leaf text).size = 560 := by unfold sigK; rw [bs_size, keyB_length]
theorem sgn_size (seed : ByteArray) (leaf : Nat) (text : ByteArray) : ∀ k, (sgn seed leaf text k).size = 561 + 32 * k
  | 0 => by show (one leaf ++ sigK seed leaf text).size = _; rw [ByteArray.size_append, sigK_size, one_size]
  | k + 1 => by show (sgn seed leaf text k ++ nodeK seed k _).size = _; rw [ByteArray.size_append, sgn_size seed leaf text k, nodeK_size]; omega

theorem ssign_spent {w : World} {B b : Nat} {seed : ByteArray} {h used : Nat} (text : ByteArray) (hh : h ≤ 5) (hu : used = 2 ^ h) (hs : SignerAt w B b seed h used) :
    Calls Try.prog 24 #[.pointer (some ⟨b, 0, none⟩), .string text] w fun e w' => e = .returned (.tuple #[.string ⟨#[]⟩, .int .i64 11]) ∧ Below w.heap.size w w' := by
  have HL := Lib.hid (sleft_yes hh (by omega) hs)
  rw [hu, Nat.sub_self] at HL
  clear hs
  go_enter Try.func24, Try.ntmps24
  go_wp2_with fail
  refine HL.out.mono ?_
  rintro e w1 ⟨rfl, hb1⟩
  go_wp2_with fail
  go_ret2
  exact ⟨rfl, hb1⟩

set_option maxHeartbeats 400000 in
theorem ssign_yes {w : World} {B b : Nat} {seed : ByteArray} {h used : Nat} (text : ByteArray) (ht : text.size ≤ 4096) (hsd : seed.size ≤ 4096) (hh : h ≤ 5) (hu : used < 2 ^ h) (hs : SignerAt w B b seed h used) :
    Calls Try.prog 24 #[.pointer (some ⟨b, 0, none⟩), .string text] w fun e w' => e = .returned (.tuple #[.string (sgn seed used text h), .int .i64 0]) ∧ SignerAt w' B b seed h (used + 1) ∧ w.grownBy w' (some b) := by
  have hp := pow_int h hh
  have HL := Lib.hid (sleft_yes hh (by omega) hs)
  have HS := fun w : World => Lib.hid (sign_yes seed hsd used (by omega) text ht w)
  have hHS := Lib.hid hs
  have hbl := hs.lt
  obtain ⟨v, hb, g, c, bl, rfl, hc, hg, hgD, hD, h1, h2⟩ := hs
  obtain ⟨d, hd⟩ : ∃ d, d = 2 ^ h - used := ⟨_, rfl⟩
  rw [← hd] at HL
  have hd0 : ¬ (d : Int) = 0 := by omega
  have hu32 : (used : Int) ≤ 31 := by omega
  have hu0 : 0 ≤ (used : Int) := by omega
  have hgb : g ≠ b := by omega
  have HB := Lib.hid hb
  have H1 := Lib.hid h1
  have H2 := Lib.hid h2
  clear hd hb h1 h2 ht hsd
  go_enter Try.func24, Try.ntmps24
  go_wp2_with fail
  refine HL.out.mono ?_
  rintro e w1 ⟨rfl, hb1⟩
  have hr1 : w1.heap[b]? = some (.cells #[.string seed, .slice (some ⟨g, 0, none⟩) (h + 1) c, .int .i64 (used : Int)] 81 (0, 0)) := (hb1.block b hbl).trans HB.out
  have c0 := cell_of_row w1 b 0 _ _ _ hr1
  have c1 := cell_of_row w1 b 1 _ _ _ hr1
  have c2 := cell_of_row w1 b 2 _ _ _ hr1
  have f2 := frozen_of_row w1 b 2 _ _ hr1
  simp at c0 c1 c2
  have HR1 := Lib.hid hr1
  have HB1 := Lib.hid hb1
  have hz1 := hb1.size
  clear hr1 hb1
  go_wp2_with fail
  obtain ⟨V, hV⟩ : ∃ V, V = w1.setCell ⟨b, 2, none⟩ (.int .i64 ((used : Int) + 1)) := ⟨_, rfl⟩
  have hrV : V.heap[b]? = some (.cells #[.string seed, .slice (some ⟨g, 0, none⟩) (h + 1) c, .int .i64 (((used + 1 : Nat)) : Int)] 81 (0, 0)) := by
    rw [hV, heap_setCell_same w1 b 2 _ _ _ HR1.out]
    rw [Int.natCast_add]
    rfl
  have hgV : w.grownBy V (some b) := by rw [hV]; exact only_setCell (only_of_below HB1.out (some b)) (p := ⟨b, 2, none⟩) (.inl rfl) _
  rw [← hV]
  have HRV := Lib.hid hrV
  have HGV := Lib.hid hgV
  clear hV hrV hgV HR1 HB1 c0 c1 c2 f2 HL
  refine (HS V).out.mono ?_
  rintro e w2 ⟨rfl, hb2⟩
  have hg2 := Lib.hid (grow_tr HGV.out (only_of_below hb2 (some b)))
  have hr2 := Lib.hid ((hb2.block b (Nat.lt_of_lt_of_le hbl HGV.out.size)).trans HRV.out)
  have L1 := Lib.hid (fun i (hi : i ≤ h) => (hg2.out.cell_far ⟨g, i, none⟩ (by show g < _; omega) (fun e => hgb (by injection e))).trans (H1.out i hi))
  have L2 := Lib.hid (fun i (hi : i ≤ h) j (hj : j < 2 ^ (h - i)) => (hg2.out.cell_far ⟨bl i, j, none⟩ (by have := (H2.out i hi).2.1; show bl i < _; omega) (fun e => absurd (Option.some.inj e) (by have := (H2.out i hi).2.1; show ¬ bl i = b; omega))).trans ((H2.out i hi).2.2 j hj))
  have hcv := one_conv used (by omega)
  have q1 : IntKind.u8.wrap (used : Int) = (used : Int) := by rw [IntKind.wrap_u8]; omega
  have z1 := one_size used
  have z2 := sigK_size seed used text
  have HX0 : Hid (sgn seed used text 0 = one used ++ sigK seed used text) := Lib.hid rfl
  generalize sigK seed used text = sg at z2 HX0 ⊢
  clear hb2 HS HRV HGV
  go_wp2_with fail
  clear hcv q1
  rw [← HX0.out]
  refine wp_world (fun W' => Below w2.heap.size w2 W') ((Below.refl _ _).alloc (Nat.le_refl _) _) ?_
  intro W3 hW3
  have HW3 := Lib.hid hW3
  have hb2l : b < w2.heap.size := (Array.getElem?_eq_some_iff.1 hr2.out).1
  have c1 := (hW3.cell (p := ⟨b, 1, none⟩) hb2l).trans (cell_of_row w2 b 1 _ _ _ hr2.out)
  simp at c1
  have hh0 : 0 ≤ (h : Int) := by omega
  have hh1 : (h : Int) ≤ (h : Int) + 1 := by omega
  have hh2 : IntKind.i64.wrap ((h : Int) + 1 - 1) = (h : Int) := by rw [IntKind.wrap_i64]; omega
  have hh5 : (h : Int) ≤ 5 := by omega
  clear hW3
  go_quiet (fail)
  have HW4 := Lib.hid (below_drewN HW3.out nq)
  generalize W3.drewN nq = W4 at HW4 ⊢
  go_wp2_with fail
  clear c1 hh0 hh1 hh2 HX0 z1 z2
  have hg2l : g < w2.heap.size := by omega
  go_loopw [6, 9, 56] (fun lf out i wr => ∃ k : Nat, k ≤ h ∧ lf = .int .i64 ((used / 2 ^ k : Nat) : Int) ∧ out = .string (sgn seed used text k) ∧ i = .int .i64 k ∧ Below w2.heap.size w2 wr) (fun _ _ i _ => h - (intOf i).toNat)
  case atStart => exact ⟨0, by omega, by rw [Nat.pow_zero, Nat.div_one], rfl, rfl, HW4.out⟩
  case round =>
    obtain ⟨k, hk, rfl, rfl, rfl, hbel⟩ := hrel
    by_cases hlk : k < h
    · have n0 : 0 ≤ (k : Int) := by omega
      have n1 : (k : Int) < (h : Int) := by omega
      have ha256 : used / 2 ^ k < 256 := Nat.lt_of_le_of_lt (Nat.div_le_self _ _) (by omega)
      have hhalf : Hid (((used / 2 ^ k : Nat) : Int) / 2 = ((used / 2 ^ (k + 1) : Nat) : Int)) := Lib.hid (by rw [Nat.pow_succ, ← Nat.div_div_eq_div_mul]; omega)
      have hpk : 2 ^ (h - k) = 2 * 2 ^ (h - (k + 1)) := pow_half h k hlk
      have hdiv : used / 2 ^ k < 2 ^ (h - k) := by
        apply Nat.div_lt_of_lt_mul
        rw [← Nat.pow_add, show k + (h - k) = h by omega]
        exact hu
      have hsib : sib (used / 2 ^ k) < 2 ^ (h - k) := by rw [hpk] at hdiv ⊢; exact sib_lt _ _ hdiv
      have cA := (hbel.cell (p := ⟨g, k, none⟩) hg2l).trans (L1.out k hk)
      have cB := (hbel.cell (p := ⟨bl k, sib (used / 2 ^ k), none⟩) (by have := (H2.out k hk).2.1; show bl k < _; omega)).trans (L2.out k hk _ hsib)
      have hx := xor1 _ ha256
      have s1 := sgn_size seed used text k
      have s2 := nodeK_size seed k (sib (used / 2 ^ k))
      have hX : Hid (sgn seed used text (k + 1) = sgn seed used text k ++ nodeK seed k (sib (used / 2 ^ k))) := Lib.hid rfl
      have hsi : ((sib (used / 2 ^ k) : Nat) : Int) < ((2 ^ (h - k) : Nat) : Int) := by omega
      generalize nodeK seed k (sib (used / 2 ^ k)) = nb at cB s2 hX
      generalize sib (used / 2 ^ k) = sb at cB hx hsi
      generalize sgn seed used text k = sk at s1 hX ⊢
      generalize used / 2 ^ k = a at hx hhalf ha256 ⊢
      generalize 2 ^ (h - k) = M at cA hsi
      have hsb0 : 0 ≤ (sb : Int) := by omega
      have HB := Lib.hid hbel
      clear hbel hpk hdiv hsib
      go_wp2_with fail
      rw [← hX.out]
      exact ⟨⟨k + 1, by omega, by rw [← hhalf.out], rfl, by go_num, HB.out⟩, by simp [intOf]; omega⟩
    · obtain rfl : k = h := by omega
      have hgw := grow_tr hg2.out (only_of_below hbel (some b))
      have hrw := (hbel.block b hb2l).trans hr2.out
      have HGW := Lib.hid hgw
      have HRW := Lib.hid hrw
      obtain ⟨z, hz⟩ : ∃ z, z = sgn seed used text k := ⟨_, rfl⟩
      rw [← hz]
      have HZ := Lib.hid hz
      clear hgw hrw hbel hz
      go_wp2_with fail
      go_ret2
      refine ⟨by rw [← HZ.out]; rfl, ⟨_, HRW.out, g, c, bl, rfl, hc, hg, hgD, Nat.le_trans hD HGW.out.size, fun i hi => ?_, fun i hi => ⟨(H2.out i hi).1, (H2.out i hi).2.1, fun j hj => ?_⟩⟩, HGW.out⟩
      · exact (HGW.out.cell_far ⟨g, i, none⟩ (by show g < _; omega) (fun e => absurd (Option.some.inj e) hgb)).trans (H1.out i hi)
      · exact (HGW.out.cell_far ⟨bl i, j, none⟩ (by have := (H2.out i hi).2.1; show bl i < _; omega) (fun e => absurd (Option.some.inj e) (by have := (H2.out i hi).2.1; show ¬ bl i = b; omega))).trans ((H2.out i hi).2.2 j hj)
end Go.Proofs.Ytljnadbfadgglaa
