/- grove.New, Root; a signer's Root and Left; the first look of the statements of layer 6. Condition: the seed takes at most 4,096 bytes. -/
import Derived.Test.YtljnadbfadgglaaGrow
namespace Go.Proofs.Ytljnadbfadgglaa
open Go.RowKit
set_option maxRecDepth 100000
set_option linter.unusedVariables false
set_option linter.unusedSimpArgs false

/-- v holds a tree's levels; all of them lie from B on, below D. -/
def Tree (w : World) (B D : Nat) (seed : ByteArray) (h : Nat) (v : Value) : Prop := ∃ (g c : Nat) (bl : Nat → Nat), v = .slice (some ⟨g, 0, none⟩) (h + 1) c ∧ h + 1 ≤ c ∧ B ≤ g ∧ g < D ∧ D ≤ w.heap.size ∧
  (∀ i, i ≤ h → w.cell? ⟨g, i, none⟩ = some (.slice (some ⟨bl i, 0, none⟩) (2 ^ (h - i)) (2 ^ (h - i)))) ∧ ∀ i, i ≤ h → B ≤ bl i ∧ bl i < D ∧ ∀ j, j < 2 ^ (h - i) → w.cell? ⟨bl i, j, none⟩ = some (.string (nodeK seed i j))
theorem Tree.keep {w w' : World} {B D : Nat} {seed : ByteArray} {h : Nat} {v : Value} (ht : Tree w B D seed h v) (hb : Below D w w') : Tree w' B D seed h v := by
  obtain ⟨g, c, bl, rfl, hc, hg, hgD, hD, h1, h2⟩ := ht
  exact ⟨g, c, bl, rfl, hc, hg, hgD, Nat.le_trans hD hb.size, fun i hi => (hb.cell (p := ⟨g, i, none⟩) hgD).trans (h1 i hi), fun i hi => ⟨(h2 i hi).1, (h2 i hi).2.1, fun j hj => (hb.cell (p := ⟨bl i, j, none⟩) (h2 i hi).2.1).trans ((h2 i hi).2.2 j hj)⟩⟩
theorem grow_t (seed : ByteArray) (hs : seed.size ≤ 4096) (h : Nat) (hh : h ≤ 5) (w : World) :
    Calls Try.prog 45 #[.string seed, .int .i64 (h : Int)] w fun e w' => ∃ v, e = .returned v ∧ Tree w' w.heap.size w'.heap.size seed h v ∧ Below w.heap.size w w' :=
  (grow_any seed hs h hh w).mono fun e w' ⟨bl, v, he, hown, hs, hb⟩ => by
    obtain ⟨g, c, rfl, hg, hlt⟩ := hown.form (by omega)
    refine ⟨_, he, ⟨g, c, bl, rfl, ?_, hg, hlt, Nat.le_refl _, fun i hi => ?_, fun i hi => ⟨(hs i hi).1, (hs i hi).2.lt, fun j hj => (hs i hi).2.cell j hj⟩⟩, hb⟩
    · rcases hown.2 with ⟨h', _⟩ | ⟨g', cap', cur, h', _, _, hnc, _⟩
      · simp at h'
      · simp only [Value.slice.injEq, Option.some.injEq, Addr.mk.injEq, and_true, true_and] at h'
        omega
    · rw [hown.cellAt i (by omega), lvls_at h bl (h + 1) i (by omega)]

def highB (n : Int) : Bool := decide (0 ≤ n) && decide (n ≤ 5)
theorem highB_iff (n : Int) : highB n = true ↔ 0 ≤ n ∧ n ≤ 5 := by unfold highB; simp
theorem high_u (n : Int) (w : World) : Calls Try.prog 44 #[.int .i64 n] w fun e w' => e = .returned (.bool (highB n)) ∧ w = w' := by
  by_cases h : 0 ≤ n
  · go_enter Try.func44, Try.ntmps44
    go_wp2_with fail
    go_ret
    refine ⟨?_, rfl⟩
    simp [highB, h]
  · have h' : n < 0 := by omega
    go_enter Try.func44, Try.ntmps44
    go_wp2_with fail
    go_ret
    refine ⟨?_, rfl⟩
    simp [highB]
    omega

/-- A signer in block b. -/
def SignerAt (w : World) (B b : Nat) (seed : ByteArray) (h used : Nat) : Prop := ∃ v, w.heap[b]? = some (.cells #[.string seed, v, .int .i64 (used : Int)] 81 (0, 0)) ∧ Tree w B b seed h v
theorem SignerAt.lt {w : World} {B b : Nat} {seed : ByteArray} {h used : Nat} (hs : SignerAt w B b seed h used) : b < w.heap.size := by
  obtain ⟨v, hb, _⟩ := hs; exact (Array.getElem?_eq_some_iff.1 hb).1
theorem SignerAt.keep {w w' : World} {B b : Nat} {seed : ByteArray} {h used : Nat} (hs : SignerAt w B b seed h used) (hb : Below w.heap.size w w') : SignerAt w' B b seed h used := by
  have hlt := hs.lt
  obtain ⟨v, h1, h2⟩ := hs
  exact ⟨v, (hb.block b hlt).trans h1, h2.keep (hb.mono (by omega))⟩

theorem new_no (seed : ByteArray) (n : Int) (hn : highB n = false) (w : World) :
    Calls Try.prog 18 #[.string seed, .int .i64 n] w fun e w' => e = .returned (.tuple #[.pointer none, .int .i64 1]) ∧ w = w' := by
  have H := fun w : World => Lib.hid (high_u n w)
  rw [hn] at H
  go_enter Try.func18, Try.ntmps18
  go_wp2_with fail
  refine (H w).out.mono ?_
  rintro e w1 ⟨rfl, rfl⟩
  go_wp2_with fail
  go_ret2
  exact ⟨rfl, rfl⟩
theorem new_yes (seed : ByteArray) (hs : seed.size ≤ 4096) (h : Nat) (hh : h ≤ 5) (w : World) :
    Calls Try.prog 18 #[.string seed, .int .i64 (h : Int)] w fun e w' => ∃ b, e = .returned (.tuple #[.pointer (some ⟨b, 0, none⟩), .int .i64 0]) ∧ SignerAt w' w.heap.size b seed h 0 ∧ Below w.heap.size w w' := by
  have H := fun w : World => Lib.hid (high_u (h : Int) w)
  rw [(highB_iff _).2 ⟨by omega, by omega⟩] at H
  have HG := fun w : World => Lib.hid (grow_t seed hs h hh w)
  clear hs
  go_enter Try.func18, Try.ntmps18
  go_wp2_with fail
  refine (H w).out.mono ?_
  rintro e w1 ⟨rfl, rfl⟩
  go_wp2_with fail
  refine (HG w).out.mono ?_
  rintro e w1 ⟨v, rfl, ht, hb1⟩
  have HT := Lib.hid ht
  have ⟨g, c, _, hv, _⟩ := ht
  subst hv
  clear ht
  go_wp2_with fail
  go_ret2
  exact ⟨w1.heap.size, rfl, ⟨_, heap_alloc_new w1 _, HT.out.keep ((Below.refl _ _).alloc (Nat.le_refl _) _)⟩, hb1.alloc hb1.size _⟩
theorem groot_no (seed : ByteArray) (n : Int) (hn : highB n = false) (w : World) :
    Calls Try.prog 17 #[.string seed, .int .i64 n] w fun e w' => e = .returned (.tuple #[.string ⟨#[]⟩, .int .i64 1]) ∧ w = w' := by
  have H := fun w : World => Lib.hid (high_u n w)
  rw [hn] at H
  go_enter Try.func17, Try.ntmps17
  go_wp2_with fail
  refine (H w).out.mono ?_
  rintro e w1 ⟨rfl, rfl⟩
  go_wp2_with fail
  go_ret2
  exact ⟨rfl, rfl⟩
theorem groot_yes (seed : ByteArray) (hs : seed.size ≤ 4096) (h : Nat) (hh : h ≤ 5) (w : World) :
    Calls Try.prog 17 #[.string seed, .int .i64 (h : Int)] w fun e w' => e = .returned (.tuple #[.string (nodeK seed h 0), .int .i64 0]) ∧ Below w.heap.size w w' := by
  have H := fun w : World => Lib.hid (high_u (h : Int) w)
  rw [(highB_iff _).2 ⟨by omega, by omega⟩] at H
  have HG := fun w : World => Lib.hid (grow_t seed hs h hh w)
  clear hs
  go_enter Try.func17, Try.ntmps17
  go_wp2_with fail
  refine (H w).out.mono ?_
  rintro e w1 ⟨rfl, rfl⟩
  go_wp2_with fail
  refine (HG w).out.mono ?_
  rintro e w1 ⟨v, rfl, ⟨g, c, bl, rfl, hc, hg, hgD, hD, h1, h2⟩, hb1⟩
  have c1 := h1 h (Nat.le_refl _)
  have c2 := (h2 h (Nat.le_refl _)).2.2 0 (by rw [Nat.sub_self]; decide)
  rw [Nat.sub_self] at c1
  simp only [Nat.pow_zero] at c1
  have n0 : 0 ≤ (h : Int) := by omega
  have n1 : (h : Int) < (h : Int) + 1 := by omega
  obtain ⟨x, hx⟩ : ∃ x, x = nodeK seed h 0 := ⟨_, rfl⟩
  rw [← hx] at c2
  have HX := Lib.hid hx
  clear h1 h2 hx
  go_wp2_with fail
  go_ret2
  exact ⟨by rw [← HX.out]; rfl, hb1⟩

theorem sroot_nil (w : World) : Calls Try.prog 22 #[.pointer none] w fun e w' => e = .returned (.string ⟨#[]⟩) ∧ w = w' := by
  go_enter Try.func22, Try.ntmps22
  go_wp2_with fail
  go_ret
  exact ⟨rfl, rfl⟩
theorem sleft_nil (w : World) : Calls Try.prog 23 #[.pointer none] w fun e w' => e = .returned (.int .i64 0) ∧ w = w' := by
  go_enter Try.func23, Try.ntmps23
  go_wp2_with fail
  go_ret
  exact ⟨rfl, rfl⟩
theorem ssign_nil (text : ByteArray) (w : World) : Calls Try.prog 24 #[.pointer none, .string text] w fun e w' => e = .returned (.tuple #[.string ⟨#[]⟩, .int .i64 1]) ∧ w = w' := by
  go_enter Try.func24, Try.ntmps24
  go_wp2_with fail
  go_ret2
  exact ⟨rfl, rfl⟩

theorem sroot_yes {w : World} {B b : Nat} {seed : ByteArray} {h used : Nat} (hh : h ≤ 5) (hs : SignerAt w B b seed h used) :
    Calls Try.prog 22 #[.pointer (some ⟨b, 0, none⟩)] w fun e w' => e = .returned (.string (nodeK seed h 0)) ∧ Below w.heap.size w w' := by
  obtain ⟨v, hb, g, c, bl, rfl, hc, hg, hgD, hD, h1, h2⟩ := hs
  have c0 := cell_of_row w b 1 _ _ _ hb
  simp at c0
  have c1 := h1 h (Nat.le_refl _)
  have c2 := (h2 h (Nat.le_refl _)).2.2 0 (by rw [Nat.sub_self]; decide)
  rw [Nat.sub_self] at c1
  simp only [Nat.pow_zero] at c1
  have n0 : 0 ≤ (h : Int) := by omega
  have n1 : (h : Int) < (h : Int) + 1 := by omega
  have n2 : IntKind.i64.wrap ((h : Int) + 1 - 1) = (h : Int) := by rw [IntKind.wrap_i64]; omega
  have hh' : (h : Int) ≤ 5 := by omega
  obtain ⟨x, hx⟩ : ∃ x, x = nodeK seed h 0 := ⟨_, rfl⟩
  rw [← hx] at c2 ⊢
  clear h1 h2 hx hb
  go_enter Try.func22, Try.ntmps22
  go_wp2_with fail
  go_quiet (fail)
  go_wp2_with fail
  go_ret
  exact ⟨rfl, below_drewN (Below.refl _ _) _⟩
theorem sleft_yes {w : World} {B b : Nat} {seed : ByteArray} {h used : Nat} (hh : h ≤ 5) (hu : used ≤ 2 ^ h) (hs : SignerAt w B b seed h used) :
    Calls Try.prog 23 #[.pointer (some ⟨b, 0, none⟩)] w fun e w' => e = .returned (.int .i64 ((2 ^ h - used : Nat) : Int)) ∧ Below w.heap.size w w' := by
  obtain ⟨v, hb, g, c, bl, rfl, hc, hg, hgD, hD, h1, h2⟩ := hs
  have c0 := cell_of_row w b 1 _ _ _ hb
  have c3 := cell_of_row w b 2 _ _ _ hb
  simp at c0 c3
  have c1 := h1 0 (Nat.zero_le _)
  rw [Nat.sub_zero] at c1
  have hp := pow_int h hh
  obtain ⟨N, hN⟩ : ∃ N, N = 2 ^ h := ⟨_, rfl⟩
  rw [← hN] at c1 hp hu ⊢
  have n0 : (0 : Int) < (h : Int) + 1 := by omega
  have n3 : (N : Int) - (used : Int) = ((N - used : Nat) : Int) := by omega
  have hN32 : (N : Int) ≤ 32 := by omega
  have hu' : (used : Int) ≤ (N : Int) := by omega
  have hN3 := hp.1
  have N3 := Lib.hid n3
  clear h1 h2 hb hp hN n3
  go_enter Try.func23, Try.ntmps23
  go_wp2_with fail
  go_quiet (fail)
  go_wp2_with fail
  go_ret
  refine ⟨?_, below_drewN (Below.refl _ _) _⟩
  show Ending.returned (.int .i64 ((N : Int) - (used : Int))) = _
  rw [N3.out]

theorem lives6 (w : World) : Calls Try.prog 15 #[] w fun e w' => e = .returned (.bool true) ∧ Below w.heap.size w w' := by
  have HN := Lib.hid (new_yes ⟨#[113]⟩ (by decide) 0 (by omega) w)
  have HP := fun w : World => Lib.hid (public_yes ⟨#[113]⟩ (by decide) 0 (by omega) w)
  have HR := fun (w : World) (b : Nat) (B : Nat) (hs : SignerAt w B b ⟨#[113]⟩ 0 0) => Lib.hid (sroot_yes (by omega) hs)
  have HL := fun (w : World) (b : Nat) (B : Nat) (hs : SignerAt w B b ⟨#[113]⟩ 0 0) => Lib.hid (sleft_yes (by omega) (by omega) hs)
  have e0 : nodeK ⟨#[113]⟩ 0 0 = pubK ⟨#[113]⟩ 0 := rfl
  rw [e0] at HR
  generalize pubK ⟨#[113]⟩ 0 = p at HP HR
  clear e0
  go_enter Try.func15, Try.ntmps15
  go_wp2_with fail
  refine HN.out.mono ?_
  rintro e w1 ⟨b, rfl, hs1, hb1⟩
  have HS1 := Lib.hid hs1
  clear hs1
  go_wp2_with fail
  refine (HP w1).out.mono ?_
  rintro e w2 ⟨rfl, hb2⟩
  have HS2 := Lib.hid (HS1.out.keep hb2)
  go_wp2_with fail
  refine (HR w2 b _ HS2.out).out.mono ?_
  rintro e w3 ⟨rfl, hb3⟩
  have HS3 := Lib.hid (HS2.out.keep hb3)
  go_wp2_with fail
  refine (HL w3 b _ HS3.out).out.mono ?_
  rintro e w4 ⟨rfl, hb4⟩
  go_wp2_with fail
  go_ret
  have hs1 := hb1.size
  have hs2 := hb2.size
  have hs3 := hb3.size
  exact ⟨rfl, ((hb1.trans (hb2.mono hs1)).trans (hb3.mono (by omega))).trans (hb4.mono (by omega))⟩

theorem short6 (a : ByteArray) (w : World) :
    Calls Try.prog 16 #[.string a] w fun e w' => e = .returned (.bool (decide (a.size ≤ 4096))) ∧ w = w' := by
  go_enter Try.func16, Try.ntmps16
  go_wp2_with fail
  go_ret
  refine ⟨?_, rfl⟩
  show Ending.returned (.bool (decide ((a.size : Int) ≤ 4096))) = _
  congr 3
  apply propext
  omega
end Go.Proofs.Ytljnadbfadgglaa
