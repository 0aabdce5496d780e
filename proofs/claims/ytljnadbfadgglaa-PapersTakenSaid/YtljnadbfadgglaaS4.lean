/- Joined texts: more of layer 8. No condition. -/
import Derived.Test.YtljnadbfadgglaaS3
import Derived.Test.YtljnadbfadgglaaS1
import Derived.SizedLaws
import Derived.Test.YtljnadbfadgglaaS2
/- papers.clone; how far a chain goes (plain). Condition of clone: the paper has a seat at least, and not above 1,000. -/
namespace Go.Proofs.Ytljnadbfadgglaa
open Go.RowKit
set_option maxRecDepth 100000
set_option linter.unusedVariables false
set_option linter.unusedSimpArgs false

/-- The cells of seats that lie at a place. -/
theorem seats_news {w : World} {b off n c : Nat} {l : List St} (h : Seats w (some ⟨b, off, none⟩) n c l) (h0 : 0 < n) : ∀ j u, (seatCells l)[j]? = some u → w.cell? ((⟨b, off, none⟩ : Addr).add j) = some u := by
  obtain ⟨b', off', e, hb, hc⟩ := h.at 0 h0
  cases e
  intro j u hj
  have hj2 : j < l.length * 2 := by
    have := (List.getElem?_eq_some_iff.1 hj).1
    rwa [seatCells_length] at this
  have hln := h.1
  rw [addr_plain]
  obtain ⟨i, r, hr, rfl⟩ : ∃ i r, r < 2 ∧ j = i * 2 + r := ⟨j / 2, j % 2, by omega, by omega⟩
  obtain ⟨k0, k1⟩ := hc i (by omega)
  obtain ⟨s0, s1⟩ := seatCells_get l i (by omega)
  have : r = 0 ∨ r = 1 := by omega
  rcases this with rfl | rfl
  · rw [Nat.add_zero] at hj ⊢
    rw [s0] at hj
    rw [← hj]
    exact k0
  · rw [s1] at hj
    rw [← hj, ← Nat.add_assoc]
    exact k1
theorem seatCells_one (l : List St) : ∀ u ∈ seatCells l, u.oneCell' = true := by
  intro u hu
  simp only [seatCells, List.mem_flatMap] at hu
  obtain ⟨s, _, hs⟩ := hu
  simp at hs
  rcases hs with rfl | rfl <;> rfl

set_option maxHeartbeats 1000000 in
theorem clone_any (e : Int) (A : Option Addr) (n c : Nat) (l : List St) (w : World) (h : Seats w A n c l) (h0 : 0 < n) (h1 : n ≤ 1000) :
    Calls Try.prog 68 #[.agg #[.int .i64 e, .slice A n c]] w fun x w' => (∃ A' c', x = .returned (.agg #[.int .i64 e, .slice A' n c']) ∧ OwnS w' w.heap.size (.slice A' n c') l ∧ (∀ kk, Value.ownBlock (.slice A' n c') = some kk → w.heap.size + 2 ≤ kk)) ∧ Below w.heap.size w w' := by
  obtain ⟨i0, hi0, hz0, hz1, hz2⟩ := info_parts info_seat
  have Hi0 := Lib.hid hi0
  have Hz0 := Lib.hid hz0
  have Hz1 := Lib.hid hz1
  have Hz2 := Lib.hid hz2
  clear hi0 hz0 hz1 hz2
  obtain ⟨b, off, rfl, hb, _⟩ := h.at 0 h0
  have HL := Lib.hid h.1
  have hs := seatCells_length l
  have HS := Lib.hid hs
  have HH := Lib.hid h
  clear h hs
  go_enter Try.func68, Try.ntmps68
  obtain ⟨W0, hW0⟩ : ∃ W0, W0 = (w.alloc (.cells #[.int .i64 e, .slice (some ⟨b, off, none⟩) n c] 50)).alloc (.cells #[.int .i64 0, .slice none 0 0] 50) := ⟨_, rfl⟩
  have hB0 : Below w.heap.size w W0 := by rw [hW0]; exact ((Below.refl _ _).alloc (Nat.le_refl _) _).alloc (by simp) _
  have hN0 := Lib.hid (seats_news (HH.out.keep hB0) h0)
  have hz0 : w.heap.size + 2 = W0.heap.size := by rw [hW0]; simp
  have hq0 : W0.heap[w.heap.size]? = some (.cells #[.int .i64 e, .slice (some ⟨b, off, none⟩) n c] 50 (0, 0)) := by rw [hW0]; exact (heap_alloc_old _ _ (by simp)).trans (heap_alloc_new w _)
  have hq1 : W0.heap[w.heap.size + 1]? = some (.cells #[.int .i64 0, .slice none 0 0] 50 (0, 0)) := by
    rw [hW0]
    have := heap_alloc_new (w.alloc (.cells #[.int .i64 e, .slice (some ⟨b, off, none⟩) n c] 50)) (.cells #[.int .i64 0, .slice none 0 0] 50)
    rw [show (w.alloc (.cells #[.int .i64 e, .slice (some ⟨b, off, none⟩) n c] 50)).heap.size = w.heap.size + 1 by simp] at this
    exact this
  have hown := World.ownsRow_nil W0 (w.heap.size + 2) 60 2
  have hbase : w.heap.size + 2 ≤ W0.heap.size := by omega
  rw [hW0] at hown hbase
  have HN0 : Hid (∀ j u, (seatCells l)[j]? = some u → ((w.alloc (.cells #[.int .i64 e, .slice (some ⟨b, off, none⟩) n c] 50)).alloc (.cells #[.int .i64 0, .slice none 0 0] 50)).cell? ((⟨b, off, none⟩ : Addr).add j) = some u) := Lib.hid (by rw [← hW0]; exact hN0.out)
  have HW0 := Lib.hid hW0
  have HB0 := Lib.hid hB0
  have HQ0 := Lib.hid hq0
  have HQ1 := Lib.hid hq1
  clear hN0 hq0 hq1 hz0 hB0 hW0
  have HF : Hid (∀ w1, ((w.alloc (.cells #[.int .i64 e, .slice (some ⟨b, off, none⟩) n c] 50)).alloc (.cells #[.int .i64 0, .slice none 0 0] 50)).grownBy w1 (Value.ownBlock (.slice none 0 0)) → Hid (w1.heap[w.heap.size]? = some (.cells #[.int .i64 e, .slice (some ⟨b, off, none⟩) n c] 50 (0, 0))) ∧ Hid (w1.heap[w.heap.size + 1]? = some (.cells #[.int .i64 0, .slice none 0 0] 50 (0, 0))) ∧ Hid (Below w.heap.size w w1)) := Lib.hid (fun w1 hg => by
    rw [← HW0.out] at hg
    refine ⟨Lib.hid ((hg.block _ (Array.getElem?_eq_some_iff.1 HQ0.out).1 (fun e => by cases e)).trans HQ0.out), Lib.hid ((hg.block _ (Array.getElem?_eq_some_iff.1 HQ1.out).1 (fun e => by cases e)).trans HQ1.out), Lib.hid (HB0.out.grown hg HB0.out.size (fun kk hk => by cases hk))⟩)
  go_wp2_with (at_builtin; go_must (refine wpList_append_own _ rfl (.const (.slice none 0 0)) (.tmp 4) 48 rfl (w.heap.size + 2) 60 i0 _ 2 24 Try.underlying48 Hi0.out Hz0.out Hz1.out Hz2.out rfl (by decide) _ _ _ (by rfl) hown ⟨b, off, none⟩ n c (seatCells l) (by rfl) (by rw [HS.out, HL.out]) HN0.out (seatCells_one l) (by unfold maxLen; omega) (by omega) hbase ?_); go_must (intro v1 w1 hown1 hg1 _); obtain ⟨VA, VC, rfl⟩ := own_shape hown1; obtain ⟨F0, F1, FB⟩ := HF.out w1 hg1; have c0 := cell_of_row w1 w.heap.size 0 _ _ _ F0.out; have c1 := cell_of_row w1 w.heap.size 1 _ _ _ F0.out; have f1 := frozen_of_row w1 w.heap.size 1 _ _ F0.out; have d0 := cell_of_row w1 (w.heap.size + 1) 0 _ _ _ F1.out; have d1 := cell_of_row w1 (w.heap.size + 1) 1 _ _ _ F1.out; have g0 := frozen_of_row w1 (w.heap.size + 1) 0 _ _ F1.out; have g1 := frozen_of_row w1 (w.heap.size + 1) 1 _ _ F1.out; simp at c0 c1 d0 d1; have HO1 := Lib.hid hown1; clear hown1 hg1)
  have hgA : w1.grownBy (w1.setCell ⟨w.heap.size, 1, none⟩ (.slice VA n VC)) (some w.heap.size) := only_setCell (only_of_below (Below.refl _ _) _) (p := ⟨w.heap.size, 1, none⟩) (.inl rfl) _
  have hr2 := blk_far F1.out hgA (by omega)
  have ho2 : OwnS w1 (w.heap.size + 2) (.slice VA n VC) l := by
    unfold OwnS
    rw [HL.out]
    have := HO1.out
    rw [Nat.zero_add] at this
    exact this
  have ho3 := ho2.far (b := w.heap.size) (by omega) hgA
  have hB3 := FB.out.grown hgA FB.out.size (fun kk hk => by have h := Option.some.inj hk; omega)
  generalize w1.setCell ⟨w.heap.size, 1, none⟩ (.slice VA n VC) = w2 at hgA hr2 ho3 hB3 ⊢
  obtain ⟨hs1, hs2⟩ := set_two w2 (w.heap.size + 1) _ _ _ (.int .i64 e) (.slice VA n VC) hr2
  refine bodyPost_ret (results_cell_row rfl _ _ (w.heap.size + 1) _ _ _ _ (by rfl) hs1 Try.underlying50 rfl (by kernel_rfl)) rfl ?_
  have ho4 := ho3.far (b := w.heap.size + 1) (by omega) hs2
  exact ⟨⟨VA, VC, rfl, ho4.lower (by omega), fun kk hk => (World.ownsRow.lt ho4 kk hk).1⟩, hB3.grown hs2 hB3.size (fun kk hk => by have h := Option.some.inj hk; omega)⟩

/-- How far a chain goes: the paper where it ends, how many certificates were taken, the error. -/
def walkV : Int → List St → List ByteArray → Nat → (Int × List St) × Nat × Int
  | e, l, [], i => ((e, l), i, 0)
  | e, l, x :: xs, i => match checkV e l x with
    | .error er => ((e, l), i, er)
    | .ok q => walkV q.1 q.2 xs (i + 1)
def walkF (e : Int) (l : List St) (xs : List ByteArray) : (Int × List St) × Nat × Int := if rightB e l = true then walkV e l xs 0 else ((0, []), 0, 4)
def WalkOut (w : World) (r : (Int × List St) × Nat × Int) (w' : World) (x : Ending) : Prop :=
  ∃ A c, x = .returned (.tuple #[.agg #[.int .i64 r.1.1, .slice A r.1.2.length c], .int .i64 (r.2.1 : Int), .int .i64 r.2.2]) ∧ OwnS w' w.heap.size (.slice A r.1.2.length c) r.1.2
def RWalkOut (r : (Int × List St) × Nat × Int) (w' : World) (x : Ending) : Prop :=
  ∃ A c, x = .returned (.tuple #[.agg #[.int .i64 r.1.1, .slice A r.1.2.length c], .int .i64 (r.2.1 : Int), .int .i64 r.2.2]) ∧ Seats w' A r.1.2.length c r.1.2
/-- Three results, the first one a paper in memory. -/
theorem results_paper3 {fn : Func} {p q r : Tmp} (h : fn.results = #[.cell p 50, .tmp q, .tmp r]) (tmps : Array Value) (w : World) (g : Nat) (cs : Array Value) (hs : cs.size = 2)
    (hp : tmps.getD p undef = .pointer (some ⟨g, 0, none⟩)) (hg : w.heap[g]? = some (.cells cs 50 (0, 0))) :
    (results fn tmps).run Try.prog w = .ok (.tuple #[.agg cs, tmps.getD q undef, tmps.getD r undef]) w := by
  have hp' : tmps[p]?.getD undef = .pointer (some ⟨g, 0, none⟩) := by simpa using hp
  have hl := run_loadVar_row (P := Try.prog) w g 50 50 cs (0, 0) _ hg Try.underlying50 rfl (by rw [hs]; kernel_rfl)
  simp [results, h, hp', asAddr, hl]
theorem check_err {e : Int} {l : List St} {x : ByteArray} {er : Int} (h : checkV e l x = .error er) : er ≠ 0 := by
  unfold checkV at h
  split at h
  · cases h; decide
  · split at h
    · cases h; decide
    · split at h
      · cases h; decide
      · split at h
        · cases h; decide
        · split at h
          · cases h; decide
          · cases h
end Go.Proofs.Ytljnadbfadgglaa

/- papers.Walk. Condition: each certificate that came in is a text that can be. -/
namespace Go.Proofs.Ytljnadbfadgglaa
open Go.RowKit
set_option maxRecDepth 100000
set_option linter.unusedVariables false
set_option linter.unusedSimpArgs false

set_option maxHeartbeats 4000000 in
theorem pwalk_any (oe : Int) (A : Option Addr) (n c : Nat) (old : List St) (CA : Option Addr) (m d : Nat) (xs : List ByteArray) (w : World) (hO : Seats w A n c old) (hT : Texts w CA m d xs) (hm63 : m ≤ 9223372036854775807) (hxs : ∀ i, i < m → (xs.getD i ByteArray.empty).size ≤ maxLen) :
    Calls Try.prog 36 #[.agg #[.int .i64 oe, .slice A n c], .slice CA m d] w fun e w' => WalkOut w (walkF oe old xs) w' e ∧ Below w.heap.size w w' := by
  have HR := fun w' (hb : Below w.heap.size w w') => Lib.hid (right_any oe A n c old w' (hO.keep hb))
  have HO := Lib.hid hO
  have HT := Lib.hid hT
  have HX := Lib.hid hxs
  have HML := Lib.hid hT.1
  cases hr : rightB oe old with
  | false =>
    rw [hr] at HR
    have HV : Hid (walkF oe old xs = ((0, []), 0, 4)) := Lib.hid (by unfold walkF; rw [hr]; rfl)
    clear hO hT hxs hr
    go_enter Try.func36, Try.ntmps36
    go_wp2_with fail
    obtain ⟨w0, hw0⟩ : ∃ w0, w0 = (w.alloc (.cells #[.int .i64 oe, .slice A n c] 50)).alloc (.cells #[.int .i64 0, .slice none 0 0] 50) := ⟨_, rfl⟩
    rw [← hw0]
    have hB0 : Below w.heap.size w w0 := by rw [hw0]; exact ((Below.refl _ _).alloc (Nat.le_refl _) _).alloc (by simp) _
    have hc0 : Hid (w0.heap[w.heap.size + 1]? = some (.cells #[.int .i64 0, .slice none 0 0] 50 (0, 0))) := Lib.hid (by
      rw [hw0]
      have := heap_alloc_new (w.alloc (.cells #[.int .i64 oe, .slice A n c] 50)) (.cells #[.int .i64 0, .slice none 0 0] 50)
      rw [show (w.alloc (.cells #[.int .i64 oe, .slice A n c] 50)).heap.size = w.heap.size + 1 by simp] at this
      exact this)
    clear hw0
    refine (HR w0 hB0).out.mono ?_
    rintro e w1 ⟨rfl, hb1⟩
    have hl := (Array.getElem?_eq_some_iff.1 hc0.out).1
    have hc1 := (hb1.block (w.heap.size + 1) hl).trans hc0.out
    have c0 := cell_of_row w1 (w.heap.size + 1) 0 _ _ _ hc1
    have c1 := cell_of_row w1 (w.heap.size + 1) 1 _ _ _ hc1
    have f0 := frozen_of_row w1 (w.heap.size + 1) 0 _ _ hc1
    have f1 := frozen_of_row w1 (w.heap.size + 1) 1 _ _ hc1
    simp at c0 c1
    have HC1 := Lib.hid hc1
    have HB1 := Lib.hid (hB0.trans (hb1.mono (by omega)))
    clear hb1 hc1 hB0 hc0 HR
    go_wp2_with fail
    obtain ⟨hs1, hs2⟩ := set_two w1 (w.heap.size + 1) _ _ _ (.int .i64 0) (.slice none 0 0) HC1.out
    refine bodyPost_ret (results_paper3 rfl _ _ (w.heap.size + 1) _ rfl (by rfl) hs1) rfl ?_
    rw [HV.out]
    exact ⟨⟨none, 0, rfl, OwnS.nil _ _⟩, HB1.out.grown hs2 HB1.out.size (fun kk h => by have := Option.some.inj h; omega)⟩
  | true =>
    rw [hr] at HR
    obtain ⟨f1, f2, f3, f4, _⟩ := right_facts hr
    have hln : old.length = n := hO.1
    rw [hln] at f3 f4
    have HLN := Lib.hid hln
    have HV : Hid (walkF oe old xs = walkV oe old xs 0) := Lib.hid (by unfold walkF; rw [hr]; rfl)
    have HCL := fun w' (hb : Below w.heap.size w w') => Lib.hid (clone_any oe A n c old w' (hO.keep hb) (by omega) (by omega))
    obtain ⟨RW, hRW⟩ : ∃ RW, RW = walkF oe old xs := ⟨_, rfl⟩
    rw [← hRW]
    have HRW : Hid (RW = walkV oe old xs 0) := Lib.hid (hRW.trans HV.out)
    clear hO hT hxs hr hln hRW HV
    go_enter Try.func36, Try.ntmps36
    go_wp2_with fail
    obtain ⟨w0, hw0⟩ : ∃ w0, w0 = (w.alloc (.cells #[.int .i64 oe, .slice A n c] 50)).alloc (.cells #[.int .i64 0, .slice none 0 0] 50) := ⟨_, rfl⟩
    rw [← hw0]
    have hB0 : Below w.heap.size w w0 := by rw [hw0]; exact ((Below.refl _ _).alloc (Nat.le_refl _) _).alloc (by simp) _
    have hp0 : Hid (w0.heap[w.heap.size]? = some (.cells #[.int .i64 oe, .slice A n c] 50 (0, 0))) := Lib.hid (by rw [hw0]; exact (heap_alloc_old _ _ (by simp)).trans (heap_alloc_new w _))
    have hc0 : Hid (w0.heap[w.heap.size + 1]? = some (.cells #[.int .i64 0, .slice none 0 0] 50 (0, 0))) := Lib.hid (by
      rw [hw0]
      have := heap_alloc_new (w.alloc (.cells #[.int .i64 oe, .slice A n c] 50)) (.cells #[.int .i64 0, .slice none 0 0] 50)
      rw [show (w.alloc (.cells #[.int .i64 oe, .slice A n c] 50)).heap.size = w.heap.size + 1 by simp] at this
      exact this)
    clear hw0
    refine (HR w0 hB0).out.mono ?_
    rintro e w1 ⟨rfl, hb1⟩
    have hl := (Array.getElem?_eq_some_iff.1 hc0.out).1
    have hc1 := Lib.hid ((hb1.block (w.heap.size + 1) hl).trans hc0.out)
    have hp1 := (hb1.block w.heap.size (by omega)).trans hp0.out
    have hB1 := hB0.trans (hb1.mono (by omega))
    have hz1 : w.heap.size + 2 ≤ w1.heap.size := by have := hb1.size; omega
    have HCL1 := HCL w1 hB1
    have HB1 := Lib.hid hB1
    have d0 := cell_of_row w1 w.heap.size 0 _ _ _ hp1
    have d1 := cell_of_row w1 w.heap.size 1 _ _ _ hp1
    simp at d0 d1
    clear hb1 hB0 hc0 hp0 HR hl HCL hp1 hB1
    go_wp2_with fail
    refine HCL1.out.mono ?_
    rintro e w2 ⟨⟨VA, VC, rfl, ho2, hk2⟩, hb2⟩
    have hc2 := Lib.hid ((hb2.block (w.heap.size + 1) (by omega)).trans hc1.out)
    have hB2 := Lib.hid (HB1.out.trans (hb2.mono (by omega)))
    have hz2 := hb2.size
    have hlt2 := Lib.hid (fun kk hk => (World.ownsRow.lt ho2 kk hk).2)
    clear hb2 hc1 HB1 d0 d1 HCL1
    have hal : Below w2.heap.size w2 (w2.alloc (.cells #[.int .i64 oe, .slice VA n VC] 50)) := (Below.refl _ _).alloc (Nat.le_refl _) _
    have ho3 := Lib.hid ((ho2.lower (b := w.heap.size) (by omega)).keep hal)
    have hp3 := Lib.hid (heap_alloc_new w2 (.cells #[.int .i64 oe, .slice VA n VC] 50))
    have hc3 := Lib.hid ((hal.block (w.heap.size + 1) (by omega)).trans hc2.out)
    have hB3 := Lib.hid (hB2.out.trans (hal.mono (by omega)))
    have hz3 : w2.heap.size < (w2.alloc (.cells #[.int .i64 oe, .slice VA n VC] 50)).heap.size := by simp
    have hne3 : Hid (∀ kk, Value.ownBlock (.slice VA n VC) = some kk → kk ≠ w2.heap.size ∧ kk ≠ w.heap.size + 1) := Lib.hid (fun kk hk => ⟨by have := hlt2.out kk hk; omega, by have := hk2 kk hk; omega⟩)
    clear ho2 hal hc2 hB2 hk2
    go_wp2_with fail
    obtain ⟨pb, hpb⟩ : ∃ pb, pb = w2.heap.size := ⟨_, rfl⟩
    rw [← hpb] at hp3 hz3 hne3
    rw [← hpb]
    have hpb1 : w.heap.size + 1 < pb := by omega
    generalize w2.alloc (.cells #[.int .i64 oe, .slice VA n VC] 50) = w3 at ho3 hp3 hc3 hB3 hz3 ⊢
    clear hpb hlt2
    go_loopw [20] (fun j wr => ∃ (k : Nat) (e : Int) (l : List St) (A' : Option Addr) (ln c' : Nat), k ≤ m ∧ j = .int .i64 k ∧ Hid (RW = walkV e l (xs.drop k) k) ∧ Hid (l.length = ln) ∧ Hid (wr.heap[pb]? = some (.cells #[.int .i64 e, .slice A' ln c'] 50 (0, 0))) ∧ Hid (OwnS wr w.heap.size (.slice A' ln c') l) ∧ Hid (∀ kk, Value.ownBlock (.slice A' ln c') = some kk → kk ≠ pb ∧ kk ≠ w.heap.size + 1) ∧ Hid (wr.heap[w.heap.size + 1]? = some (.cells #[.int .i64 0, .slice none 0 0] 50 (0, 0))) ∧ pb < wr.heap.size ∧ Hid (Below w.heap.size w wr)) (fun j _ => m - (intOf j).toNat)
    case atStart => exact ⟨0, oe, old, VA, n, VC, by omega, rfl, HRW, HLN, hp3, ho3, hne3, hc3, hz3, hB3⟩
    case round =>
      obtain ⟨k, e, l, A', ln, c', hk, rfl, hrw, hln, hp, ho, hne, hc, hz, hB⟩ := hrel
      have p0 := cell_of_row wr pb 0 _ _ _ hp.out
      have p1 := cell_of_row wr pb 1 _ _ _ hp.out
      have r0 := cell_of_row wr (w.heap.size + 1) 0 _ _ _ hc.out
      have r1 := cell_of_row wr (w.heap.size + 1) 1 _ _ _ hc.out
      simp at p0 p1 r0 r1
      by_cases hkm : k < m
      · have n0 : 0 ≤ (k : Int) := by omega
        have n1 : (k : Int) < (m : Int) := by omega
        obtain ⟨ad, rfl⟩ : ∃ ad, CA = some ad := by
          cases CA with
          | none => have := HT.out.2.2.1 rfl; omega
          | some ad => exact ⟨ad, rfl⟩
        obtain ⟨bt, off, h1, h2⟩ := HT.out.2.2.2 ad rfl
        obtain ⟨rfl, hbl⟩ := h1 (by omega)
        have ct := (hB.out.cell (p := ⟨bt, off + k, none⟩) hbl).trans (h2 k hkm)
        have hxk := HX.out k hkm
        have hd : xs.drop k = xs.getD k ByteArray.empty :: xs.drop (k + 1) := by
          have hl : k < xs.length := by have := HML.out; omega
          rw [List.drop_eq_getElem_cons hl, List.getD_eq_getElem?_getD, List.getElem?_eq_getElem hl]
          rfl
        have HRW2 : Hid (RW = match checkV e l (xs.getD k ByteArray.empty) with
            | .error er => ((e, l), k, er)
            | .ok q => walkV q.1 q.2 (xs.drop (k + 1)) (k + 1)) := Lib.hid (by rw [hrw.out, hd]; rfl)
        generalize xs.getD k ByteArray.empty = x at ct hxk HRW2
        have HCK := Lib.hid (pcheck_any e A' ln c' l x hxk wr ho.out.seats)
        clear h1 h2 hd hrw hxk
        go_wp2_with fail
        refine HCK.out.mono ?_
        rintro r w4 ⟨hout, hb4⟩
        have hp4 := Lib.hid ((hb4.block pb hz).trans hp.out)
        have hc4 := Lib.hid ((hb4.block (w.heap.size + 1) (by omega)).trans hc.out)
        have ho4 := Lib.hid (ho.out.keep hb4)
        have hB4 := Lib.hid (hB.out.trans (hb4.mono (by omega)))
        have hz4 := hb4.size
        clear p0 p1 r0 r1
        have p0 := cell_of_row w4 pb 0 _ _ _ hp4.out
        have p1 := cell_of_row w4 pb 1 _ _ _ hp4.out
        have f0 := frozen_of_row w4 pb 0 _ _ hp4.out
        have f1 := frozen_of_row w4 pb 1 _ _ hp4.out
        have r0 := cell_of_row w4 (w.heap.size + 1) 0 _ _ _ hc4.out
        have r1 := cell_of_row w4 (w.heap.size + 1) 1 _ _ _ hc4.out
        have g0 := frozen_of_row w4 (w.heap.size + 1) 0 _ _ hc4.out
        have g1 := frozen_of_row w4 (w.heap.size + 1) 1 _ _ hc4.out
        simp at p0 p1 r0 r1
        have hl1 : pb < w4.heap.size := by omega
        have hl2 : w.heap.size + 1 < w4.heap.size := by omega
        clear hb4 hp hc ho hB HCK ct
        cases hck : checkV e l x with
        | error er =>
          rw [hck] at hout
          have hout : r = .returned (.tuple #[.agg #[.int .i64 0, .slice none 0 0], .int .i64 er]) := hout
          subst hout
          have her : (er != 0) = true := by simpa using check_err hck
          have HRW3 : Hid (RW = ((e, l), k, er)) := Lib.hid (by rw [HRW2.out, hck])
          clear hck HRW2
          go_wp2_with fail
          obtain ⟨hs1, hs2⟩ := set_two w4 (w.heap.size + 1) _ _ _ (.int .i64 e) (.slice A' ln c') hc4.out
          have ho5 := ho4.out.other hs2 (fun kk hk e => (hne.out kk hk).2 (Option.some.inj e).symm)
          have hB5 := hB4.out.grown hs2 hB4.out.size (fun kk h => by have := Option.some.inj h; omega)
          have hz5 := hs2.size
          generalize (w4.setCell ⟨w.heap.size + 1, 0, none⟩ (.int .i64 e)).setCell ⟨w.heap.size + 1, 1, none⟩ (.slice A' ln c') = w5 at hs1 hs2 ho5 hB5 hz5 ⊢
          have hal : Below w5.heap.size w5 (w5.alloc (.cells #[.int .i64 0, .slice none 0 0] 50)) := (Below.refl _ _).alloc (Nat.le_refl _) _
          refine bodyPost_ret (results_paper3 rfl _ _ (w.heap.size + 1) _ rfl (by rfl) ((hal.block (w.heap.size + 1) (by omega)).trans hs1)) rfl ?_
          rw [HRW3.out]
          have hln' := hln.out
          subst hln'
          exact ⟨⟨A', c', rfl, ho5.keep hal⟩, hB5.trans (hal.mono (by omega))⟩
        | ok q =>
          rw [hck] at hout
          obtain ⟨QA, QC, rfl, hq⟩ := hout
          have HRW3 : Hid (RW = walkV q.1 q.2 (xs.drop (k + 1)) (k + 1)) := Lib.hid (by rw [HRW2.out, hck])
          have HQ := Lib.hid hq
          clear hck HRW2 hq
          go_wp2_with fail
          obtain ⟨hs1, hs2⟩ := set_two w4 pb _ _ _ (.int .i64 q.1) (.slice QA q.2.length QC) hp4.out
          have hqlt := World.ownsRow.lt HQ.out
          have hq5 := (HQ.out.lower (b := w.heap.size) (by omega)).other hs2 (fun kk hk e => by have h1 := (hqlt kk hk).1; have h2 := Option.some.inj e; omega)
          have hc5 := blk_far hc4.out hs2 (by omega)
          have hB5 := hB4.out.grown hs2 (by omega) (fun kk h => by have := Option.some.inj h; omega)
          have hz5 := hs2.size
          generalize (w4.setCell ⟨pb, 0, none⟩ (.int .i64 q.1)).setCell ⟨pb, 1, none⟩ (.slice QA q.2.length QC) = w5 at hs1 hs2 hq5 hc5 hB5 hz5 ⊢
          have hal : Below w5.heap.size w5 (w5.alloc (.cells #[.int .i64 q.1, .slice QA q.2.length QC] 50)) := (Below.refl _ _).alloc (Nat.le_refl _) _
          refine ⟨⟨k + 1, q.1, q.2, QA, q.2.length, QC, by omega, by go_num, HRW3, Lib.hid rfl, Lib.hid ((hal.block pb (by omega)).trans hs1), Lib.hid (hq5.keep hal), Lib.hid (fun kk hk => ⟨by have h1 := (hqlt kk hk).1; omega, by have h1 := (hqlt kk hk).1; omega⟩), Lib.hid ((hal.block (w.heap.size + 1) (by omega)).trans hc5), by have := hal.size; omega, Lib.hid (hB5.trans (hal.mono (by omega)))⟩, by simp [intOf]; omega⟩
      · obtain rfl : k = m := by omega
        have HRW3 : Hid (RW = ((e, l), k, 0)) := Lib.hid (by rw [hrw.out, List.drop_of_length_le (by have := HML.out; omega)]; rfl)
        have g0 := frozen_of_row wr (w.heap.size + 1) 0 _ _ hc.out
        have g1 := frozen_of_row wr (w.heap.size + 1) 1 _ _ hc.out
        clear hrw hkm
        go_wp2_with fail
        obtain ⟨hs1, hs2⟩ := set_two wr (w.heap.size + 1) _ _ _ (.int .i64 e) (.slice A' ln c') hc.out
        refine bodyPost_ret (results_paper3 rfl _ _ (w.heap.size + 1) _ rfl (by rfl) hs1) rfl ?_
        rw [HRW3.out]
        have hln' := hln.out
        subst hln'
        refine ⟨⟨A', c', rfl, ?_⟩, hB.out.grown hs2 hB.out.size (fun kk h => by have := Option.some.inj h; omega)⟩
        exact ho.out.other hs2 (fun kk hk e => (hne.out kk hk).2 (Option.some.inj e).symm)
end Go.Proofs.Ytljnadbfadgglaa

/- witanref08.Walk. Condition: each certificate that came in is a text that can be. -/
namespace Go.Proofs.Ytljnadbfadgglaa
open Go.RowKit
set_option maxRecDepth 100000
set_option linter.unusedVariables false
set_option linter.unusedSimpArgs false

theorem Seats.other {w w' : World} {A : Option Addr} {n c : Nat} {l : List St} {row : Option Nat} (h : Seats w A n c l) (hg : w.grownBy w' row) (hne : ∀ ad, A = some ad → row ≠ some ad.block) : Seats w' A n c l := by
  refine ⟨h.1, h.2.1, h.2.2.1, h.2.2.2.1, fun ad hh => ?_⟩
  obtain ⟨b, off, h1, h2⟩ := h.2.2.2.2 ad hh
  refine ⟨b, off, fun h0 => ⟨(h1 h0).1, Nat.lt_of_lt_of_le (h1 h0).2 hg.size⟩, fun i hi => ?_⟩
  obtain ⟨e, hl⟩ := h1 (by omega)
  have hb : some b ≠ row := by
    have := hne ad hh
    rw [e] at this
    exact fun e2 => this e2.symm
  exact ⟨(hg.cell_far ⟨b, off + i * 2, none⟩ hl hb).trans (h2 i hi).1, (hg.cell_far ⟨b, off + i * 2 + 1, none⟩ hl hb).trans (h2 i hi).2⟩

set_option maxHeartbeats 4000000 in
theorem rpwalk_any (oe : Int) (A : Option Addr) (n c : Nat) (old : List St) (CA : Option Addr) (m d : Nat) (xs : List ByteArray) (w : World) (hO : Seats w A n c old) (hT : Texts w CA m d xs) (hm63 : m ≤ 9223372036854775807) (hxs : ∀ i, i < m → (xs.getD i ByteArray.empty).size ≤ maxLen) :
    Calls Try.prog 37 #[.agg #[.int .i64 oe, .slice A n c], .slice CA m d] w fun e w' => RWalkOut (walkF oe old xs) w' e ∧ Below w.heap.size w w' := by
  have HR := fun w' (hb : Below w.heap.size w w') => Lib.hid (refright_any oe A n c old w' (hO.keep hb))
  have HO := Lib.hid hO
  have HT := Lib.hid hT
  have HX := Lib.hid hxs
  have HML := Lib.hid hT.1
  cases hr : rightB oe old with
  | false =>
    rw [hr] at HR
    have HV : Hid (walkF oe old xs = ((0, []), 0, 4)) := Lib.hid (by unfold walkF; rw [hr]; rfl)
    clear hO hT hxs hr
    go_enter Try.func37, Try.ntmps37
    go_wp2_with fail
    obtain ⟨w0, hw0⟩ : ∃ w0, w0 = (w.alloc (.cells #[.int .i64 oe, .slice A n c] 50)).alloc (.cells #[.int .i64 0, .slice none 0 0] 50) := ⟨_, rfl⟩
    rw [← hw0]
    have hB0 : Below w.heap.size w w0 := by rw [hw0]; exact ((Below.refl _ _).alloc (Nat.le_refl _) _).alloc (by simp) _
    have hc0 : Hid (w0.heap[w.heap.size + 1]? = some (.cells #[.int .i64 0, .slice none 0 0] 50 (0, 0))) := Lib.hid (by
      rw [hw0]
      have := heap_alloc_new (w.alloc (.cells #[.int .i64 oe, .slice A n c] 50)) (.cells #[.int .i64 0, .slice none 0 0] 50)
      rw [show (w.alloc (.cells #[.int .i64 oe, .slice A n c] 50)).heap.size = w.heap.size + 1 by simp] at this
      exact this)
    clear hw0
    refine (HR w0 hB0).out.mono ?_
    rintro e w1 ⟨rfl, hb1⟩
    have hl := (Array.getElem?_eq_some_iff.1 hc0.out).1
    have hc1 := (hb1.block (w.heap.size + 1) hl).trans hc0.out
    have c0 := cell_of_row w1 (w.heap.size + 1) 0 _ _ _ hc1
    have c1 := cell_of_row w1 (w.heap.size + 1) 1 _ _ _ hc1
    have f0 := frozen_of_row w1 (w.heap.size + 1) 0 _ _ hc1
    have f1 := frozen_of_row w1 (w.heap.size + 1) 1 _ _ hc1
    simp at c0 c1
    have HC1 := Lib.hid hc1
    have HB1 := Lib.hid (hB0.trans (hb1.mono (by omega)))
    clear hb1 hc1 hB0 hc0 HR
    go_wp2_with fail
    obtain ⟨hs1, hs2⟩ := set_two w1 (w.heap.size + 1) _ _ _ (.int .i64 0) (.slice none 0 0) HC1.out
    refine bodyPost_ret (results_paper3 rfl _ _ (w.heap.size + 1) _ rfl (by rfl) hs1) rfl ?_
    rw [HV.out]
    exact ⟨⟨none, 0, rfl, seats_nil _⟩, HB1.out.grown hs2 HB1.out.size (fun kk h => by have := Option.some.inj h; omega)⟩
  | true =>
    rw [hr] at HR
    obtain ⟨f1, f2, f3, f4, _⟩ := right_facts hr
    have hln : old.length = n := hO.1
    rw [hln] at f3 f4
    have HLN := Lib.hid hln
    have HV : Hid (walkF oe old xs = walkV oe old xs 0) := Lib.hid (by unfold walkF; rw [hr]; rfl)
    obtain ⟨ob, ooff, rfl, hob, _⟩ := hO.at 0 (by omega)
    obtain ⟨RW, hRW⟩ : ∃ RW, RW = walkF oe old xs := ⟨_, rfl⟩
    rw [← hRW]
    have HRW : Hid (RW = walkV oe old xs 0) := Lib.hid (hRW.trans HV.out)
    clear hO hT hxs hr hln hRW HV
    go_enter Try.func37, Try.ntmps37
    go_wp2_with fail
    obtain ⟨w0, hw0⟩ : ∃ w0, w0 = (w.alloc (.cells #[.int .i64 oe, .slice (some ⟨ob, ooff, none⟩) n c] 50)).alloc (.cells #[.int .i64 0, .slice none 0 0] 50) := ⟨_, rfl⟩
    rw [← hw0]
    have hB0 : Below w.heap.size w w0 := by rw [hw0]; exact ((Below.refl _ _).alloc (Nat.le_refl _) _).alloc (by simp) _
    have hp0 : Hid (w0.heap[w.heap.size]? = some (.cells #[.int .i64 oe, .slice (some ⟨ob, ooff, none⟩) n c] 50 (0, 0))) := Lib.hid (by rw [hw0]; exact (heap_alloc_old _ _ (by simp)).trans (heap_alloc_new w _))
    have hc0 : Hid (w0.heap[w.heap.size + 1]? = some (.cells #[.int .i64 0, .slice none 0 0] 50 (0, 0))) := Lib.hid (by
      rw [hw0]
      have := heap_alloc_new (w.alloc (.cells #[.int .i64 oe, .slice (some ⟨ob, ooff, none⟩) n c] 50)) (.cells #[.int .i64 0, .slice none 0 0] 50)
      rw [show (w.alloc (.cells #[.int .i64 oe, .slice (some ⟨ob, ooff, none⟩) n c] 50)).heap.size = w.heap.size + 1 by simp] at this
      exact this)
    clear hw0
    refine (HR w0 hB0).out.mono ?_
    rintro e w1 ⟨rfl, hb1⟩
    have hl := (Array.getElem?_eq_some_iff.1 hc0.out).1
    have hc1 := Lib.hid ((hb1.block (w.heap.size + 1) hl).trans hc0.out)
    have hp1 := (hb1.block w.heap.size (by omega)).trans hp0.out
    have hB1 := hB0.trans (hb1.mono (by omega))
    have hz1 : w.heap.size + 2 ≤ w1.heap.size := by have := hb1.size; omega
    have d0 := cell_of_row w1 w.heap.size 0 _ _ _ hp1
    have d1 := cell_of_row w1 w.heap.size 1 _ _ _ hp1
    simp at d0 d1
    have hwl : w.heap.size < w1.heap.size := by omega
    have HS1 := Lib.hid (HO.out.keep hB1)
    clear hb1 hB0 hc0 hp0 HR hl hp1
    have hal : Below w1.heap.size w1 (w1.alloc (.cells #[.int .i64 oe, .slice (some ⟨ob, ooff, none⟩) n c] 50)) := (Below.refl _ _).alloc (Nat.le_refl _) _
    have ho3 := Lib.hid (HS1.out.keep hal)
    have hp3 := Lib.hid (heap_alloc_new w1 (.cells #[.int .i64 oe, .slice (some ⟨ob, ooff, none⟩) n c] 50))
    have hc3 := Lib.hid ((hal.block (w.heap.size + 1) (by omega)).trans hc1.out)
    have hB3 := Lib.hid (hB1.trans (hal.mono (by omega)))
    have hz3 : w1.heap.size < (w1.alloc (.cells #[.int .i64 oe, .slice (some ⟨ob, ooff, none⟩) n c] 50)).heap.size := by simp
    have hne3 : Hid (∀ ad, (some ⟨ob, ooff, none⟩ : Option Addr) = some ad → ad.block ≠ w1.heap.size ∧ ad.block ≠ w.heap.size + 1) := Lib.hid (fun ad hk => by cases hk; exact ⟨by show ob ≠ _; omega, by show ob ≠ _; omega⟩)
    clear hal hc1 hB1
    go_wp2_with fail
    obtain ⟨pb, hpb⟩ : ∃ pb, pb = w1.heap.size := ⟨_, rfl⟩
    rw [← hpb] at hp3 hz3 hne3
    rw [← hpb]
    have hpb1 : w.heap.size + 1 < pb := by omega
    generalize w1.alloc (.cells #[.int .i64 oe, .slice (some ⟨ob, ooff, none⟩) n c] 50) = w3 at ho3 hp3 hc3 hB3 hz3 ⊢
    clear hpb
    go_loopw [8] (fun j wr => ∃ (k : Nat) (e : Int) (l : List St) (A' : Option Addr) (ln c' : Nat), k ≤ m ∧ j = .int .i64 k ∧ Hid (RW = walkV e l (xs.drop k) k) ∧ Hid (l.length = ln) ∧ Hid (wr.heap[pb]? = some (.cells #[.int .i64 e, .slice A' ln c'] 50 (0, 0))) ∧ Hid (Seats wr A' ln c' l) ∧ Hid (∀ ad, A' = some ad → ad.block ≠ pb ∧ ad.block ≠ w.heap.size + 1) ∧ Hid (wr.heap[w.heap.size + 1]? = some (.cells #[.int .i64 0, .slice none 0 0] 50 (0, 0))) ∧ pb < wr.heap.size ∧ Hid (Below w.heap.size w wr)) (fun j _ => m - (intOf j).toNat)
    case atStart => exact ⟨0, oe, old, some ⟨ob, ooff, none⟩, n, c, by omega, rfl, HRW, HLN, hp3, ho3, hne3, hc3, hz3, hB3⟩
    case round =>
      obtain ⟨k, e, l, A', ln, c', hk, rfl, hrw, hln, hp, ho, hne, hc, hz, hB⟩ := hrel
      by_cases hkm : k < m
      · have n0 : 0 ≤ (k : Int) := by omega
        have n1 : (k : Int) < (m : Int) := by omega
        obtain ⟨ad, rfl⟩ : ∃ ad, CA = some ad := by
          cases CA with
          | none => have := HT.out.2.2.1 rfl; omega
          | some ad => exact ⟨ad, rfl⟩
        obtain ⟨bt, off, h1, h2⟩ := HT.out.2.2.2 ad rfl
        obtain ⟨rfl, hbl⟩ := h1 (by omega)
        have ct := (hB.out.cell (p := ⟨bt, off + k, none⟩) hbl).trans (h2 k hkm)
        have hxk := HX.out k hkm
        have hd : xs.drop k = xs.getD k ByteArray.empty :: xs.drop (k + 1) := by
          have hl : k < xs.length := by have := HML.out; omega
          rw [List.drop_eq_getElem_cons hl, List.getD_eq_getElem?_getD, List.getElem?_eq_getElem hl]
          rfl
        have HRW2 : Hid (RW = match checkV e l (xs.getD k ByteArray.empty) with
            | .error er => ((e, l), k, er)
            | .ok q => walkV q.1 q.2 (xs.drop (k + 1)) (k + 1)) := Lib.hid (by rw [hrw.out, hd]; rfl)
        generalize xs.getD k ByteArray.empty = x at ct hxk HRW2
        have hqa : Below wr.heap.size wr (wr.alloc (.cells #[.int .i64 0, .slice none 0 0] 50)) := (Below.refl _ _).alloc (Nat.le_refl _) _
        have HCK := Lib.hid (fun w' (hb : Below wr.heap.size wr w') => rpcheck_any e A' ln c' l x hxk w' (ho.out.keep hb))
        have cta := (hqa.cell (p := ⟨bt, off + k, none⟩) (by have := hB.out.size; show bt < _; omega)).trans ct
        have p0 := cell_of_row wr pb 0 _ _ _ hp.out
        have p1 := cell_of_row wr pb 1 _ _ _ hp.out
        have hpa := (hqa.block pb hz).trans hp.out
        have pa0 := cell_of_row _ pb 0 _ _ _ hpa
        have pa1 := cell_of_row _ pb 1 _ _ _ hpa
        simp at p0 p1
        simp only [Array.getElem?_toList, List.getElem?_toArray, List.getElem?_cons_zero, List.getElem?_cons_succ] at pa0 pa1
        clear hpa
        clear h1 h2 hd hrw hxk
        cases hck : checkV e l x with
        | error er =>
          rw [hck] at HCK
          have HCK2 : Hid (∀ w', Below wr.heap.size wr w' → Calls Try.prog 35 #[.agg #[.int .i64 e, .slice A' ln c'], .string x] w' fun r w'' => r = .returned (.tuple #[.agg #[.int .i64 0, .slice none 0 0], .int .i64 er]) ∧ Below w'.heap.size w' w'') := HCK
          have her : (er != 0) = true := by simpa using check_err hck
          have HRW3 : Hid (RW = ((e, l), k, er)) := Lib.hid (by rw [HRW2.out, hck])
          clear hck HRW2 HCK
          have hdr : Below wr.heap.size wr wr.drew := ⟨rfl, rfl, rfl, Nat.le_refl _, fun _ _ => rfl⟩
          have hqa : Below wr.heap.size wr (wr.alloc (.cells #[.int .i64 0, .slice none 0 0] 50)) := (Below.refl _ _).alloc (Nat.le_refl _) _
          have hda : Below wr.heap.size wr (wr.alloc (.cells #[.int .i64 0, .slice none 0 0] 50)).drew := ⟨hqa.os, hqa.tape, hqa.output, hqa.size, hqa.block⟩
          go_wp2_with fail
          go_region_law ((go_simp; go_at_call 35; first | (refine (HCK2.out wr.drew hdr).mono ?_; rintro r w4 ⟨rfl, hb4⟩; have hb4 : Below wr.heap.size wr w4 := ⟨hb4.os, hb4.tape, hb4.output, hb4.size, hb4.block⟩) | (refine (HCK2.out (wr.alloc (.cells #[.int .i64 0, .slice none 0 0] 50)).drew hda).mono ?_; rintro r w4 ⟨rfl, hb4⟩; have hbd : Below (wr.alloc (.cells #[.int .i64 0, .slice none 0 0] 50)).heap.size (wr.alloc (.cells #[.int .i64 0, .slice none 0 0] 50)) w4 := ⟨hb4.os, hb4.tape, hb4.output, hb4.size, hb4.block⟩; have hq4 := (hbd.block wr.heap.size (by simp)).trans (heap_alloc_new wr (.cells #[.int .i64 0, .slice none 0 0] 50)); have q0 := cell_of_row w4 wr.heap.size 0 _ _ _ hq4; have q1 := cell_of_row w4 wr.heap.size 1 _ _ _ hq4; have qf0 := frozen_of_row w4 wr.heap.size 0 _ _ hq4; have qf1 := frozen_of_row w4 wr.heap.size 1 _ _ hq4; simp at q0 q1)))
          all_goals
            first
            | have hm4 := hq4
              obtain ⟨hs1, hs2⟩ := set_two w4 wr.heap.size _ _ _ (.int .i64 0) (.slice none 0 0) hq4
              have hbb : Below wr.heap.size wr w4 := hqa.trans (hbd.mono (by simp))
              have hz4 : wr.heap.size < w4.heap.size := by have := hbd.size; simp at this; omega
              have hbc := hbb.grown hs2 (by omega) (fun kk h => by have := Option.some.inj h; omega)
              have hz5 := hbc.size
              generalize (w4.setCell ⟨wr.heap.size, 0, none⟩ (.int .i64 0)).setCell ⟨wr.heap.size, 1, none⟩ (.slice none 0 0) = w5 at hbc hz5 ⊢
              clear hs1 hs2 hm4 hq4 hbd q0 q1 qf0 qf1
            | have hz4 := hb4.size
              have hal : Below w4.heap.size w4 (w4.alloc (.cells #[.int .i64 0, .slice none 0 0] 50)) := (Below.refl _ _).alloc (Nat.le_refl _) _
              have hbc := hb4.trans (hal.mono hz4)
              have hz5 := hbc.size
              generalize w4.alloc (.cells #[.int .i64 0, .slice none 0 0] 50) = w5 at hbc hz5 ⊢
            have hp5 := Lib.hid ((hbc.block pb hz).trans hp.out)
            have hc5 := Lib.hid ((hbc.block (w.heap.size + 1) (by omega)).trans hc.out)
            have ho5 := Lib.hid (ho.out.keep hbc)
            have hB5 := Lib.hid (hB.out.trans (hbc.mono (by omega)))
            clear hbc ct HCK2 p0 p1 pa0 pa1 cta hqa hda hdr
            have p0 := cell_of_row w5 pb 0 _ _ _ hp5.out
            have p1 := cell_of_row w5 pb 1 _ _ _ hp5.out
            have f0 := frozen_of_row w5 pb 0 _ _ hp5.out
            have f1 := frozen_of_row w5 pb 1 _ _ hp5.out
            have r0 := cell_of_row w5 (w.heap.size + 1) 0 _ _ _ hc5.out
            have r1 := cell_of_row w5 (w.heap.size + 1) 1 _ _ _ hc5.out
            have g0 := frozen_of_row w5 (w.heap.size + 1) 0 _ _ hc5.out
            have g1 := frozen_of_row w5 (w.heap.size + 1) 1 _ _ hc5.out
            simp at p0 p1 r0 r1
            go_wp2_with fail
            obtain ⟨hs1, hs2⟩ := set_two w5 (w.heap.size + 1) _ _ _ (.int .i64 e) (.slice A' ln c') hc5.out
            refine bodyPost_ret (results_paper3 rfl _ _ (w.heap.size + 1) _ rfl (by rfl) hs1) rfl ?_
            rw [HRW3.out]
            have hln' := hln.out
            subst hln'
            exact ⟨⟨A', c', rfl, ho5.out.other hs2 (fun ad hk e => (hne.out ad hk).2 (Option.some.inj e).symm)⟩, hB5.out.grown hs2 hB5.out.size (fun kk h => by have := Option.some.inj h; omega)⟩
        | ok q =>
          rw [hck] at HCK
          have HCK2 : Hid (∀ w', Below wr.heap.size wr w' → Calls Try.prog 35 #[.agg #[.int .i64 e, .slice A' ln c'], .string x] w' fun r w'' => (∃ A c, r = .returned (.tuple #[.agg #[.int .i64 q.1, .slice A q.2.length c], .int .i64 0]) ∧ OwnS w'' w'.heap.size (.slice A q.2.length c) q.2) ∧ Below w'.heap.size w' w'') := HCK
          have HRW3 : Hid (RW = walkV q.1 q.2 (xs.drop (k + 1)) (k + 1)) := Lib.hid (by rw [HRW2.out, hck])
          clear hck HRW2 HCK
          have hdr : Below wr.heap.size wr wr.drew := ⟨rfl, rfl, rfl, Nat.le_refl _, fun _ _ => rfl⟩
          have hqa : Below wr.heap.size wr (wr.alloc (.cells #[.int .i64 0, .slice none 0 0] 50)) := (Below.refl _ _).alloc (Nat.le_refl _) _
          have hda : Below wr.heap.size wr (wr.alloc (.cells #[.int .i64 0, .slice none 0 0] 50)).drew := ⟨hqa.os, hqa.tape, hqa.output, hqa.size, hqa.block⟩
          go_wp2_with fail
          go_region_law ((go_simp; go_at_call 35; first | (refine (HCK2.out wr.drew hdr).mono ?_; rintro r w4 ⟨⟨QA, QC, rfl, hq⟩, hb4⟩; have hb4 : Below wr.heap.size wr w4 := ⟨hb4.os, hb4.tape, hb4.output, hb4.size, hb4.block⟩) | (refine (HCK2.out (wr.alloc (.cells #[.int .i64 0, .slice none 0 0] 50)).drew hda).mono ?_; rintro r w4 ⟨⟨QA, QC, rfl, hq⟩, hb4⟩; have hbd : Below (wr.alloc (.cells #[.int .i64 0, .slice none 0 0] 50)).heap.size (wr.alloc (.cells #[.int .i64 0, .slice none 0 0] 50)) w4 := ⟨hb4.os, hb4.tape, hb4.output, hb4.size, hb4.block⟩; have hq4 := (hbd.block wr.heap.size (by simp)).trans (heap_alloc_new wr (.cells #[.int .i64 0, .slice none 0 0] 50)); have q0 := cell_of_row w4 wr.heap.size 0 _ _ _ hq4; have q1 := cell_of_row w4 wr.heap.size 1 _ _ _ hq4; have qf0 := frozen_of_row w4 wr.heap.size 0 _ _ hq4; have qf1 := frozen_of_row w4 wr.heap.size 1 _ _ hq4; simp at q0 q1)))
          all_goals
            first
            | have hm4 := hq4
              obtain ⟨hs1, hs2⟩ := set_two w4 wr.heap.size _ _ _ (.int .i64 q.1) (.slice QA q.2.length QC) hq4
              have hbb : Below wr.heap.size wr w4 := hqa.trans (hbd.mono (by simp))
              have hz4 : wr.heap.size < w4.heap.size := by have := hbd.size; simp at this; omega
              have hql : ∀ ad, QA = some ad → wr.heap.size < ad.block := fun ad hk => by subst hk; have := (World.ownsRow.lt hq ad.block rfl).1; simp at this; omega
              have HQ5 := Lib.hid (hq.seats.other hs2 (fun ad hk e => by have h1 := hql ad hk; have h2 := Option.some.inj e; omega))
              have HQL : Hid (∀ ad, QA = some ad → pb < ad.block) := Lib.hid (fun ad hk => by have := hql ad hk; omega)
              have hbc := hbb.grown hs2 (by omega) (fun kk h => by have := Option.some.inj h; omega)
              have hz5 := hbc.size
              generalize (w4.setCell ⟨wr.heap.size, 0, none⟩ (.int .i64 q.1)).setCell ⟨wr.heap.size, 1, none⟩ (.slice QA q.2.length QC) = w5 at hbc hz5 hs1 HQ5 ⊢
              have HN5 := Lib.hid hs1
              obtain ⟨nb, hnbe⟩ : ∃ nb, nb = wr.heap.size := ⟨_, rfl⟩
              have hnb : pb < nb := by omega
              rw [← hnbe] at HN5
              rw [← hnbe]
              clear hs1 hs2 hm4 hq4 hbd q0 q1 qf0 qf1 hql hbb hnbe hb4 hq
            | have hz4 := hb4.size
              have hql : ∀ ad, QA = some ad → wr.heap.size ≤ ad.block := fun ad hk => by subst hk; exact (World.ownsRow.lt hq ad.block rfl).1
              have hal : Below w4.heap.size w4 (w4.alloc (.cells #[.int .i64 q.1, .slice QA q.2.length QC] 50)) := (Below.refl _ _).alloc (Nat.le_refl _) _
              have hbc := hb4.trans (hal.mono hz4)
              have hz5 := hbc.size
              have HQ5 := Lib.hid (hq.seats.keep hal)
              have HQL : Hid (∀ ad, QA = some ad → pb < ad.block) := Lib.hid (fun ad hk => by have := hql ad hk; omega)
              have HN5 := Lib.hid (heap_alloc_new w4 (.cells #[.int .i64 q.1, .slice QA q.2.length QC] 50))
              obtain ⟨nb, hnbe⟩ : ∃ nb, nb = w4.heap.size := ⟨_, rfl⟩
              have hnb : pb < nb := by omega
              rw [← hnbe] at HN5
              generalize w4.alloc (.cells #[.int .i64 q.1, .slice QA q.2.length QC] 50) = w5 at hbc hz5 HQ5 HN5 ⊢
              rw [← hnbe]
              clear hal hql hnbe hb4 hq
            have hp5 := Lib.hid ((hbc.block pb hz).trans hp.out)
            have hc5 := Lib.hid ((hbc.block (w.heap.size + 1) (by omega)).trans hc.out)
            have hB5 := Lib.hid (hB.out.trans (hbc.mono (by omega)))
            have k0 := cell_of_row w5 nb 0 _ _ _ HN5.out
            have k1 := cell_of_row w5 nb 1 _ _ _ HN5.out
            simp at k0 k1
            clear hbc ct HCK2 p0 p1 pa0 pa1 cta hqa hda hdr
            have p0 := cell_of_row w5 pb 0 _ _ _ hp5.out
            have p1 := cell_of_row w5 pb 1 _ _ _ hp5.out
            have f0 := frozen_of_row w5 pb 0 _ _ hp5.out
            have f1 := frozen_of_row w5 pb 1 _ _ hp5.out
            have r0 := cell_of_row w5 (w.heap.size + 1) 0 _ _ _ hc5.out
            have r1 := cell_of_row w5 (w.heap.size + 1) 1 _ _ _ hc5.out
            have g0 := frozen_of_row w5 (w.heap.size + 1) 0 _ _ hc5.out
            have g1 := frozen_of_row w5 (w.heap.size + 1) 1 _ _ hc5.out
            simp at p0 p1 r0 r1
            go_wp2_with fail
            obtain ⟨hs1, hs2⟩ := set_two w5 pb _ _ _ (.int .i64 q.1) (.slice QA q.2.length QC) hp5.out
            have hq6 := HQ5.out.other hs2 (fun ad hk e => by have h1 := HQL.out ad hk; have h2 := Option.some.inj e; omega)
            have hc6 := blk_far hc5.out hs2 (by omega)
            have hB6 := hB5.out.grown hs2 (by omega) (fun kk h => by have := Option.some.inj h; omega)
            have hz6 := hs2.size
            refine ⟨⟨k + 1, q.1, q.2, QA, q.2.length, QC, by omega, by go_num, HRW3, Lib.hid rfl, Lib.hid hs1, Lib.hid hq6, Lib.hid (fun ad hk => ⟨by have h1 := HQL.out ad hk; omega, by have h1 := HQL.out ad hk; omega⟩), Lib.hid hc6, by omega, Lib.hid hB6⟩, by simp [intOf]; omega⟩
      · obtain rfl : k = m := by omega
        have HRW3 : Hid (RW = ((e, l), k, 0)) := Lib.hid (by rw [hrw.out, List.drop_of_length_le (by have := HML.out; omega)]; rfl)
        have p0 := cell_of_row wr pb 0 _ _ _ hp.out
        have p1 := cell_of_row wr pb 1 _ _ _ hp.out
        have r0 := cell_of_row wr (w.heap.size + 1) 0 _ _ _ hc.out
        have r1 := cell_of_row wr (w.heap.size + 1) 1 _ _ _ hc.out
        have g0 := frozen_of_row wr (w.heap.size + 1) 0 _ _ hc.out
        have g1 := frozen_of_row wr (w.heap.size + 1) 1 _ _ hc.out
        simp at p0 p1 r0 r1
        clear hrw hkm
        go_wp2_with fail
        obtain ⟨hs1, hs2⟩ := set_two wr (w.heap.size + 1) _ _ _ (.int .i64 e) (.slice A' ln c') hc.out
        refine bodyPost_ret (results_paper3 rfl _ _ (w.heap.size + 1) _ rfl (by rfl) hs1) rfl ?_
        rw [HRW3.out]
        have hln' := hln.out
        subst hln'
        exact ⟨⟨A', c', rfl, ho.out.other hs2 (fun ad hk e => (hne.out ad hk).2 (Option.some.inj e).symm)⟩, hB.out.grown hs2 hB.out.size (fun kk h => by have := Option.some.inj h; omega)⟩
end Go.Proofs.Ytljnadbfadgglaa

/- What the laws on chains share: the reach of a paper's seats that came in; append of seats in a region that draws; the block of a walk's paper. No condition. -/
namespace Go.Proofs.Ytljnadbfadgglaa
open Go.ChangeShapes Go.WideShapes Go.ChangeAt Go.RowKit
set_option maxRecDepth 100000
set_option linter.unusedVariables false
set_option linter.unusedSimpArgs false

theorem open_paper_sized {H : Type} {enc : TypeId × Value → H} {w : World} {held : Bool} {r : Reach} {b0 : Nat} {v : Value} {d : DataW H} {p : List MemPlace} {ts : List TypeId} {ds : List (DataW H)} {j : Nat}
    (hv : Value.okWide Try.prog w r b0 50 v) (h : DataW.Trod enc Try.prog w 0 (fun _ => true) held 50 v d p)
    (hsz : (DataW.weightsEach Try.prog ts ds).all (· ≤ reachBytes) = true) (ht : ts[j]? = some 50) (hd : ds[j]? = some d) :
    ∃ (e : Int) (A : Option Addr) (n c : Nat) (l : List St), v = .agg #[.int .i64 e, .slice A n c] ∧ Seats w A n c l ∧ n * 24 ≤ 140737488351232 := by
  obtain ⟨e, A, n, c, l, rfl, hS⟩ := open_paper hv h
  refine ⟨e, A, n, c, l, rfl, hS, ?_⟩
  obtain ⟨fuel, hf⟩ := h
  have hf' : DataW.trod enc Try.prog w 0 (fun _ => true) held fuel 50 [.int .i64 e, .slice A n c] = some (d, p) := by simpa [Value.cells] using hf
  obtain ⟨xs, m, _, hxs, _, hlen, hx⟩ := DataW.trod_struct Try.underlying50 hf'
  have k9 : Try.prog.cellsOf 3 = 1 := by kernel_rfl
  have k3 : Try.prog.cellsOf 48 = 1 := by kernel_rfl
  have k24 : Try.prog.bytesOf 60 = 24 := by kernel_rfl
  have h1 := hx 1 _ rfl
  clear hx hf hf' hv
  match xs, hlen with
  | [y0, y1], _ =>
    simp [k9, k3] at h1
    have hd' : d = .agg [y0.1, y1.1] := by simpa using congrArg Prod.fst hxs
    rcases Go.Deep.open_slice_pairs Try.underlying48 Try.underlying60 (by kernel_rfl) rfl rfl (by kernel_rfl) (by kernel_rfl) h1 with ⟨hcs, _⟩ | ⟨a, len, cap, m', k, V0, V1, D0, D1, P0, P1, hcs, hb, hl, hm, hmm, hx2, hi⟩
    · simp at hcs
      obtain ⟨_, rfl, _⟩ := hcs
      decide
    · simp at hcs
      obtain ⟨_, rfl, _⟩ := hcs
      have hy : y1.1 = .slice ((List.range n).map fun i => .agg [D0 i, D1 i]) ((List.range (m' - n)).map fun j => .agg [D0 (n + j), D1 (n + j)]) := congrArg Prod.fst hx2
      have hw := List.all_eq_true.1 hsz _ (DataW.weights_mem_each ht hd ((n + (m' - n)) * 24) (by
        rw [hd', hy]
        simp only [DataW.weights, Try.underlying50, Try.underlying48, DataW.weightsEach, List.map_cons, List.map_nil, List.mem_append, List.mem_cons, List.length_map, List.length_range, k24]
        simp))
      have hw2 : (n + (m' - n)) * 24 ≤ reachBytes := by simpa using hw
      simp only [reachBytes] at hw2
      omega

/-- append of seats to nothing, at a step of a region that draws. -/
theorem step_app_seats {ops : Array Oper} {o : Oper} {a : Act} {w : World} {K : Act → World → Prop} {Q : Exit → Act → World → Prop} {E : Prop} (hgd : o.guard = none) (x : Operand)
    (ho : o.op = .call { callee := .builtin .append, args := #[.const (.slice none 0 0), x], argTypes := #[48, 48] })
    (base : Nat) (A : Option Addr) (n c : Nat) (l : List St) (hS : Seats w A n c l) (hx : a.eval x = .slice A n c) (hz : n * 24 ≤ 140737488351232) (hbase : base ≤ w.heap.size)
    (h : ∀ VA VC w', OwnS w' base (.slice VA n VC) l → w.grownBy w' none → K (a.put o.dst (.slice VA n VC)) w') :
    if Region.wanted o (yielded ops a.tmps) = true then Oper.wp Try.prog o a w K Q else E := by
  obtain ⟨i0, hi0, hz0, hz1, hz2⟩ := info_parts info_seat
  have hln : l.length = n := hS.1
  have hc63 := hS.2.2.1
  have hnc := hS.2.1
  have hmax : maxLen = 9223372036854775807 := rfl
  have fin : ∀ (ad : Addr), A = some ad → (∀ j u, (seatCells l)[j]? = some u → w.cell? (ad.add j) = some u) → if Region.wanted o (yielded ops a.tmps) = true then Oper.wp Try.prog o a w K Q else E := by
    intro ad had hnews
    refine step_app hgd (.const (.slice none 0 0)) x 48 ho base 60 i0 _ 2 24 Try.underlying48 hi0 hz0 hz1 hz2 rfl (by decide) (.slice none 0 0) 0 [] (by rfl) (World.ownsRow_nil _ _ _ _) ad n c (seatCells l) (by rw [hx, had]) (by rw [seatCells_length, hln]) hnews (seatCells_one l) (by omega) (by omega) hbase ?_
    intro v' w' h1 h2
    obtain ⟨VA, VC, hv⟩ := own_shape h1
    rw [Nat.zero_add] at hv
    subst hv
    refine h VA VC w' ?_ h2
    unfold OwnS
    rw [hln]
    simpa using h1
  cases A with
  | none =>
    obtain ⟨rfl, rfl⟩ := hS.2.2.2.1 rfl
    have hl0 : l = [] := List.eq_nil_of_length_eq_zero hln
    subst hl0
    have hw : Region.wanted o (yielded ops a.tmps) = true := by simp [Region.wanted, hgd]
    rw [if_pos hw]
    have hr : (Builtin.append_ #[48, 48] o.type #[.slice none 0 0, .slice none 0 0]).run Try.prog w = .ok (.slice none 0 0) w := by
      simp [Builtin.append_, run_underlying Try.underlying48, sizeOf, typeInfo, hi0, Builtin.lenOf, Builtin.firstCells, loadCells, loadCellsFrom]
    have hr0 : a.eval (.const (.slice none 0 0)) = .slice none 0 0 := rfl
    unfold Oper.wp execOp
    simp only [ho, resolve, invoke, builtin, Sem.run_bind, Sem.run_pure, Result.andThen_ok, List.map_toArray, List.map_cons, List.map_nil, hx, hr0, hr]
    exact h none 0 w (OwnS.nil _ _) ⟨rfl, rfl, rfl, Nat.le_refl _, fun _ _ _ => rfl⟩
  | some ad =>
    refine fin ad rfl ?_
    by_cases h0 : 0 < n
    · obtain ⟨b, off, e, _, _⟩ := hS.at 0 h0
      cases e
      exact seats_news hS h0
    · obtain rfl : n = 0 := by omega
      have hl0 : l = [] := List.eq_nil_of_length_eq_zero hln
      subst hl0
      intro j u hj
      simp [seatCells] at hj

/-- A walk's paper's seats lie in a block that may be written. -/
def Marks (w : World) (A : Option Addr) (L B ab : Nat) : Prop := L = 0 ∨ ∃ g cur, A = some ⟨g, 0, none⟩ ∧ B ≤ g ∧ g < ab ∧ w.heap[g]? = some (.cells cur 60 (0, 0)) ∧ L * 2 ≤ cur.size
theorem OwnS.marks {w : World} {A : Option Addr} {c B : Nat} {l : List St} (h : OwnS w B (.slice A l.length c) l) : Marks w A l.length B w.heap.size := by
  rcases h.2 with ⟨h1, h2⟩ | ⟨g, cap, cur, hv, hb, hg, hn, hm, hcs, ht⟩
  · exact .inl h2
  · injection hv with e1 e2 e3
    subst e1
    exact .inr ⟨g, cur, rfl, hb, (Array.getElem?_eq_some_iff.1 hg).1, hg, by rw [hcs]; exact Nat.mul_le_mul_right _ hn⟩
theorem Marks.keep {w w' : World} {A : Option Addr} {L B ab : Nat} (h : Marks w A L B ab) (hb : Below w.heap.size w w') : Marks w' A L B ab := by
  rcases h with h | ⟨g, cur, h1, h2, h3, h4, h5⟩
  · exact .inl h
  · exact .inr ⟨g, cur, h1, h2, h3, (hb.block g (Array.getElem?_eq_some_iff.1 h4).1).trans h4, h5⟩
theorem Marks.more {w : World} {A : Option Addr} {L B ab ab' : Nat} (h : Marks w A L B ab) (hb : ab ≤ ab') : Marks w A L B ab' := by
  rcases h with h | ⟨g, cur, h1, h2, h3, h4, h5⟩
  · exact .inl h
  · exact .inr ⟨g, cur, h1, h2, by omega, h4, h5⟩

/-- Texts that came in can be. -/
theorem IsTexts.sizes {w : World} {a : Option Addr} {n c : Nat} {ss : List ByteArray} (h : IsTexts w a n c ss) : (∀ i, i < n → ((ss.take n).getD i ByteArray.empty).size ≤ maxLen) ∧ n ≤ 9223372036854775807 := by
  have hmax : maxLen = 9223372036854775807 := rfl
  rcases h with ⟨rfl, rfl, rfl, rfl⟩ | ⟨x, rfl, hl, hm, hz, hc, hs⟩
  · exact ⟨fun i hi => by omega, by omega⟩
  · refine ⟨fun i hi => ?_, by omega⟩
    have hi2 : i < ss.length := by omega
    rw [List.getD_eq_getElem?_getD, List.getElem?_take, if_pos hi, List.getElem?_eq_getElem hi2]
    exact hs _ (List.getElem_mem hi2)
end Go.Proofs.Ytljnadbfadgglaa

/- What a walk's parts are (plain); parts of texts. No condition. -/
namespace Go.Proofs.Ytljnadbfadgglaa
open Go.RowKit
set_option maxRecDepth 100000
set_option linter.unusedVariables false
set_option linter.unusedSimpArgs false

theorem checked_right {e : Int} {l : List St} {x : ByteArray} {q : Int × List St} (h : checkV e l x = .ok q) : rightB q.1 q.2 = true := by
  unfold checkV at h
  split at h
  · cases h
  · split at h
    · cases h
    · rename_i p hp
      split at h
      · cases h
      · split at h
        · cases h
        · split at h
          · cases h
          · injection h with h
            subst h
            obtain ⟨_, hr⟩ := open_text hp
            unfold readV at hr
            split at hr
            · cases hr
            · split at hr
              · rename_i hb
                injection hr with hr
                have h1 := congrArg Prod.fst hr
                have h2 := congrArg Prod.snd hr
                simp only at h1 h2
                rw [← h1, ← h2]
                exact hb
              · cases hr
theorem walk_shift : ∀ (ys : List ByteArray) (e : Int) (l : List St) (i j : Nat), walkV e l ys (i + j) = ((walkV e l ys j).1, i + (walkV e l ys j).2.1, (walkV e l ys j).2.2)
  | [], e, l, i, j => rfl
  | y :: ys, e, l, i, j => by
    unfold walkV
    cases h : checkV e l y with
    | error er => rfl
    | ok q => exact walk_shift ys q.1 q.2 i (j + 1)
theorem walk_split : ∀ (xs ys : List ByteArray) (e : Int) (l : List St) (i : Nat), rightB e l = true →
    ((walkV e l xs i).2.2 ≠ 0 ∧ walkV e l (xs ++ ys) i = walkV e l xs i ∧ (walkV e l xs i).2.1 < i + xs.length) ∨
    ((walkV e l xs i).2.2 = 0 ∧ (walkV e l xs i).2.1 = i + xs.length ∧ walkV e l (xs ++ ys) i = walkV (walkV e l xs i).1.1 (walkV e l xs i).1.2 ys (i + xs.length) ∧ rightB (walkV e l xs i).1.1 (walkV e l xs i).1.2 = true)
  | [], ys, e, l, i, hr => .inr ⟨rfl, rfl, rfl, hr⟩
  | x :: xs, ys, e, l, i, hr => by
    rw [List.cons_append]
    cases h : checkV e l x with
    | error er =>
      have e1 : ∀ zs, walkV e l (x :: zs) i = ((e, l), i, er) := fun zs => by rw [walkV, h]
      rw [e1, e1]
      exact .inl ⟨check_err h, rfl, by simp⟩
    | ok q =>
      have e1 : ∀ zs, walkV e l (x :: zs) i = walkV q.1 q.2 zs (i + 1) := fun zs => by rw [walkV, h]
      rw [e1, e1]
      have := walk_split xs ys q.1 q.2 (i + 1) (checked_right h)
      rw [show i + 1 + xs.length = i + (x :: xs).length by simp; omega] at this
      exact this
theorem walk_parts (e : Int) (l : List St) (xs : List ByteArray) (k : Nat) (hk : k ≤ xs.length) :
    ((walkF e l (xs.take k)).2.2 ≠ 0 ∧ walkF e l xs = walkF e l (xs.take k) ∧ ((walkF e l (xs.take k)).2.1 < k ∨ (walkF e l (xs.take k)).2.1 = 0)) ∨
    ((walkF e l (xs.take k)).2.2 = 0 ∧ (walkF e l (xs.take k)).2.1 = k ∧
      walkF e l xs = ((walkF (walkF e l (xs.take k)).1.1 (walkF e l (xs.take k)).1.2 (xs.drop k)).1, k + (walkF (walkF e l (xs.take k)).1.1 (walkF e l (xs.take k)).1.2 (xs.drop k)).2.1, (walkF (walkF e l (xs.take k)).1.1 (walkF e l (xs.take k)).1.2 (xs.drop k)).2.2)) := by
  cases hr : rightB e l with
  | false =>
    have h0 : ∀ zs, walkF e l zs = ((0, []), 0, 4) := fun zs => by unfold walkF; rw [hr]; rfl
    rw [h0, h0]
    exact .inl ⟨by decide, rfl, .inr rfl⟩
  | true =>
    have h1 : ∀ zs, walkF e l zs = walkV e l zs 0 := fun zs => by unfold walkF; rw [hr]; rfl
    have hl : (xs.take k).length = k := by rw [List.length_take]; omega
    rcases walk_split (xs.take k) (xs.drop k) e l 0 hr with ⟨a, b, c⟩ | ⟨a, b, c, d⟩
    · rw [List.take_append_drop, hl, Nat.zero_add] at *
      rw [h1, h1]
      exact .inl ⟨a, b, .inl c⟩
    · rw [List.take_append_drop, hl, Nat.zero_add] at *
      rw [h1, h1]
      refine .inr ⟨a, b, ?_⟩
      have h2 : ∀ zs, walkF (walkV e l (xs.take k) 0).1.1 (walkV e l (xs.take k) 0).1.2 zs = walkV (walkV e l (xs.take k) 0).1.1 (walkV e l (xs.take k) 0).1.2 zs 0 := fun zs => by unfold walkF; rw [d]; rfl
      rw [h2, c]
      exact walk_shift _ _ _ k 0

theorem walkV_le : ∀ (xs : List ByteArray) (e : Int) (l : List St) (i : Nat), (walkV e l xs i).2.1 ≤ i + xs.length
  | [], e, l, i => Nat.le_refl _
  | x :: xs, e, l, i => by
    unfold walkV
    cases h : checkV e l x with
    | error er => simp
    | ok q =>
      have := walkV_le xs q.1 q.2 (i + 1)
      simp only [List.length_cons]
      show (walkV q.1 q.2 xs (i + 1)).2.1 ≤ _
      omega
theorem walkF_le (e : Int) (l : List St) (xs : List ByteArray) : (walkF e l xs).2.1 ≤ xs.length := by
  unfold walkF
  split
  · simpa using walkV_le xs e l 0
  · exact Nat.zero_le _

theorem Texts.front {w : World} {A : Option Addr} {n c : Nat} {xs : List ByteArray} (h : Texts w A n c xs) (k : Nat) (hk : k ≤ n) : Texts w A k c (xs.take k) := by
  obtain ⟨h1, h2, h3, h4⟩ := h
  refine ⟨by rw [List.length_take]; omega, by omega, fun hA => by obtain ⟨a, b⟩ := h3 hA; exact ⟨by omega, b⟩, fun ad had => ?_⟩
  obtain ⟨b, off, k1, k2⟩ := h4 ad had
  refine ⟨b, off, fun h0 => k1 (by omega), fun i hi => ?_⟩
  rw [k2 i (by omega), List.getD_eq_getElem?_getD, List.getD_eq_getElem?_getD, List.getElem?_take, if_pos hi]
theorem Texts.rest {w : World} {A A' : Option Addr} {n c : Nat} {xs : List ByteArray} (h : Texts w A n c xs) (k : Nat) (hk : k ≤ n) (hA : A' = if c = k then A else A.map (·.add k)) : Texts w A' (n - k) (c - k) (xs.drop k) := by
  obtain ⟨h1, h2, h3, h4⟩ := h
  subst hA
  refine ⟨by rw [List.length_drop, h1], by omega, fun hA => ?_, fun ad had => ?_⟩
  · split at hA
    · omega
    · cases A with
      | none => have := h3 rfl; omega
      | some ad => cases hA
  · split at had
    · exact ⟨0, 0, fun h0 => by omega, fun i hi => by omega⟩
    · cases A with
      | none => cases had
      | some ad0 =>
        obtain ⟨b, off, k1, k2⟩ := h4 ad0 rfl
        refine ⟨b, off + k, fun h0 => ?_, fun i hi => ?_⟩
        · obtain ⟨e1, e2⟩ := k1 (by omega)
          subst e1
          injection had with had
          exact ⟨by rw [← had]; exact addr_plain b off k, e2⟩
        · rw [Nat.add_assoc, k2 (k + i) (by omega), List.getD_eq_getElem?_getD, List.getD_eq_getElem?_getD, List.getElem?_drop]
end Go.Proofs.Ytljnadbfadgglaa

/- pack.Writer: New, Byte, Text, Done, where there is room and nothing fails. -/
namespace Go.Proofs.Ytljnadbfadgglaa
open Go.RowKit
set_option maxRecDepth 100000
set_option linter.unusedVariables false
set_option linter.unusedSimpArgs false

/-- The writer in block b: what was written, the room. -/
def PkAt (w : World) (b : Nat) (L : List UInt8) (room : Nat) : Prop := ∃ v, w.heap[b]? = some (.cells #[v, .int .i64 (room : Int), .int .i64 0] 149 (0, 0)) ∧ OwnB w (b + 1) v L
theorem PkAt.lt {w : World} {b : Nat} {L : List UInt8} {room : Nat} (h : PkAt w b L room) : b < w.heap.size := by
  obtain ⟨v, h, _⟩ := h
  exact (Array.getElem?_eq_some_iff.1 h).1
theorem PkAt.keep {w w' : World} {b : Nat} {L : List UInt8} {room : Nat} (h : PkAt w b L room) (hb : Below w.heap.size w w') : PkAt w' b L room := by
  have hl := h.lt
  obtain ⟨v, h1, h2⟩ := h
  exact ⟨v, (hb.block b hl).trans h1, h2.keep hb⟩

/-- A write leaves each old block as it was, but the writer's own and the bytes'. -/
def Apart (w w' : World) (b room : Nat) : Prop := ∀ X, X < w.heap.size → X ≠ b → (∀ v, w.heap[b]? = some (.cells #[v, .int .i64 (room : Int), .int .i64 0] 149 (0, 0)) → v.ownBlock ≠ some X) → w'.heap[X]? = w.heap[X]?
theorem PkAt.apart {w w5 : World} {b : Nat} {L : List UInt8} {room X : Nat} (h : PkAt w b L room) (hb : Below w.heap.size w w5) (hX : w.heap.size ≤ X) : ∀ v, w5.heap[b]? = some (.cells #[v, .int .i64 (room : Int), .int .i64 0] 149 (0, 0)) → v.ownBlock ≠ some X := by
  intro v hv e
  have hl := h.lt
  obtain ⟨v0, h1, h2⟩ := h
  have h3 := (hb.block b hl).symm.trans hv
  rw [h1] at h3
  simp at h3
  subst h3
  have := (World.ownsRow.lt h2 X e).2
  omega
theorem Apart.pre {w w1 w' : World} {b room : Nat} (hb : Below w.heap.size w w1) (hl : b < w.heap.size) (h : Apart w1 w' b room) : Apart w w' b room := by
  intro X hX hne hv
  exact (h X (Nat.lt_of_lt_of_le hX hb.size) hne (fun v hv2 => hv v ((hb.block b hl).symm.trans hv2))).trans (hb.block X hX)

theorem pk_new (lim : Nat) (h0 : 0 < lim) (w : World) : Calls Try.prog 69 #[.int .i64 (lim : Int)] w fun e w' => e = .returned (.pointer (some ⟨w.heap.size, 0, none⟩)) ∧ PkAt w' w.heap.size [] lim ∧ Below w.heap.size w w' := by
  have h1 : (0 : Int) < (lim : Int) := by omega
  clear h0
  go_enter Try.func69, Try.ntmps69
  go_wp2_with fail
  go_ret
  exact ⟨rfl, ⟨_, heap_alloc_new w _, World.ownsRow_nil _ _ _ _⟩, (Below.refl _ _).alloc (Nat.le_refl _) _⟩

theorem pk_add (b : Nat) (L X : List UInt8) (room : Nat) (hX0 : X ≠ []) (hlim : L.length + room ≤ 1099511627776) (hx : X.length ≤ room) (base : Nat) (xv : Value) (w : World) (hxv : OwnB w base xv X) (h : PkAt w b L room) :
    Calls Try.prog 105 #[.pointer (some ⟨b, 0, none⟩), xv] w fun e w' => e = .returned (.tuple #[]) ∧ PkAt w' b (L ++ X) (room - X.length) ∧ Below b w w' ∧ Apart w w' b room := by
  obtain ⟨i0, hi0, hz0, hz1, hz2⟩ := info_parts info_byte
  have Hi0 := Lib.hid hi0
  have Hz0 := Lib.hid hz0
  have Hz1 := Lib.hid hz1
  have Hz2 := Lib.hid hz2
  clear hi0 hz0 hz1 hz2
  have HLB := Lib.hid h.lt
  obtain ⟨g, c, rfl, hg1, hg2, hg3⟩ := hxv.form hX0
  have HG3 := Lib.hid hg3
  obtain ⟨v, h1, h2⟩ := h
  obtain ⟨VA, VC, rfl⟩ := own_shape h2
  have c0 := cell_of_row w b 0 _ _ _ h1
  have c1 := cell_of_row w b 1 _ _ _ h1
  have f0 := frozen_of_row w b 0 _ _ h1
  have f1 := frozen_of_row w b 1 _ _ h1
  simp at c0 c1
  have H1 := Lib.hid h1
  have H2 := Lib.hid h2
  have hown := h2
  unfold OwnB at hown
  have hz : b + 1 ≤ w.heap.size := HLB.out
  have q1 : IntKind.i64.wrap ((room : Int) - (X.length : Int)) = (room : Int) - (X.length : Int) := by rw [IntKind.wrap_i64]; omega
  have q2 : (X.length : Int) ≤ (room : Int) := by omega
  have HR2 : Hid (∀ w2, w.grownBy w2 (Value.slice VA L.length VC).ownBlock → w2.heap[b]? = some (.cells #[.slice VA L.length VC, .int .i64 (room : Int), .int .i64 0] 149 (0, 0))) := Lib.hid (fun w2 hg => (hg.block b hz (fun e => by have := (World.ownsRow.lt H2.out b e.symm).1; omega)).trans H1.out)
  clear h1 h2 hxv hg3 hX0
  go_enter Try.func105, Try.ntmps105
  go_wp2_with (at_builtin; go_must (refine wpList_append_own _ rfl (.tmp 17) (.tmp 18) 84 rfl (b + 1) 5 i0 _ 1 1 Try.underlying84 Hi0.out Hz0.out Hz1.out Hz2.out (by rfl) (by decide) _ _ _ (by rfl) hown ⟨g, 0, none⟩ X.length c (Lib.byteCells X) (by rfl) (by rw [Lib.byteCells_length, Nat.mul_one]) HG3.out (byteCells_one X) (by unfold maxLen; omega) (by omega) hz ?_); go_must (intro v2 w2 hown2 hgrow _); obtain ⟨VA2, VC2, rfl⟩ := own_shape hown2; have R2 := Lib.hid (HR2.out w2 hgrow); have HG2 := Lib.hid hgrow; have HO2 := Lib.hid hown2; clear hown2 hgrow hown c0 c1 f0 f1; have c0 := cell_of_row w2 b 0 _ _ _ R2.out; have c1 := cell_of_row w2 b 1 _ _ _ R2.out; have f0 := frozen_of_row w2 b 0 _ _ R2.out; have f1 := frozen_of_row w2 b 1 _ _ R2.out; simp at c0 c1)
  refine bodyPost_end (results_none rfl _ _ _) rfl ?_
  obtain ⟨hs1, hs2⟩ : ((w2.setCell ⟨b, 0, none⟩ (.slice VA2 (L.length + X.length) VC2)).setCell ⟨b, 1, none⟩ (.int .i64 ((room : Int) - (X.length : Int)))).heap[b]? = some (.cells #[.slice VA2 (L.length + X.length) VC2, .int .i64 ((room : Int) - (X.length : Int)), .int .i64 0] 149 (0, 0)) ∧ w2.grownBy ((w2.setCell ⟨b, 0, none⟩ (.slice VA2 (L.length + X.length) VC2)).setCell ⟨b, 1, none⟩ (.int .i64 ((room : Int) - (X.length : Int)))) (some b) :=
    ⟨(heap_setCell_same _ b 1 _ _ _ (heap_setCell_same w2 b 0 _ _ _ R2.out)).trans (by rfl), only_setCell (only_setCell (only_of_below (Below.refl _ _) _) (p := ⟨b, 0, none⟩) (.inl rfl) _) (p := ⟨b, 1, none⟩) (.inl rfl) _⟩
  have ho : OwnB w2 (b + 1) (.slice VA2 (L.length + X.length) VC2) (L ++ X) := by
    unfold OwnB
    rw [List.length_append, Lib.byteCells_append]
    exact HO2.out
  have hb2 : Below b w w2 := below_own (by omega) HG2.out (fun k hk => by have := (World.ownsRow.lt H2.out k hk).1; omega)
  have hb3 := below_own (by have := hb2.size; omega) hs2 (B := b) (fun k hk => by cases hk; exact Nat.le_refl _)
  refine ⟨rfl, ⟨_, by rw [show ((room - X.length : Nat) : Int) = (room : Int) - (X.length : Int) by omega]; exact hs1, own_below ho (by omega) hs2⟩, hb2.trans hb3, fun X hX hne hv => ?_⟩
  have hx2 := HG2.out.block X hX (fun e => hv _ H1.out e.symm)
  exact (hs2.block X (by have := HG2.out.size; omega) (fun e => hne (Option.some.inj e))).trans hx2

theorem pk_byte (b : Nat) (L : List UInt8) (room n : Nat) (hn : n < 256) (hlim : L.length + room ≤ 1099511627776) (hx : 1 ≤ room) (w : World) (h : PkAt w b L room) :
    Calls Try.prog 71 #[.pointer (some ⟨b, 0, none⟩), .int .i64 (n : Int)] w fun e w' => e = .returned (.tuple #[]) ∧ PkAt w' b (L ++ beL 1 n) (room - 1) ∧ Below b w w' ∧ Apart w w' b room := by
  have HL := Lib.hid h.lt
  have HA := fun (w' : World) (xv : Value) (base : Nat) (hv : OwnB w' base xv (beL 1 n)) (hb : Below w.heap.size w w') => Lib.hid (pk_add b L (beL 1 n) room (by unfold beL; simp) hlim (by simpa [beL] using hx) base xv w' hv (h.keep hb))
  obtain ⟨v, h1, h2⟩ := h
  have c2 := cell_of_row w b 2 _ _ _ h1
  simp at c2
  have n0 : 0 ≤ (n : Int) := by omega
  have n1 : (n : Int) ≤ 255 := by omega
  have q : IntKind.u8.wrap (n : Int) = (n : Int) := by rw [IntKind.wrap_u8]; omega
  have HN := Lib.hid hn
  clear h1 h2 hlim hx hn
  go_enter Try.func71, Try.ntmps71
  go_wp2_with fail
  have hbl : Below w.heap.size w (w.alloc (.cells #[.int .u8 (n : Int)] 5)) := (Below.refl _ _).alloc (Nat.le_refl _) _
  have hob : OwnB (w.alloc (.cells #[.int .u8 (n : Int)] 5)) w.heap.size (.slice (some ⟨w.heap.size, 0, none⟩) 1 1) (beL 1 n) := by
    have := own_block w #[Value.int .u8 (n : Int)] 5 1 1 w.heap.size (Nat.le_refl _) rfl (by omega) (by decide)
    have e1 : Lib.byteCells (beL 1 n) = [Value.int .u8 (n : Int)] := by
      rw [← byte_of n HN.out]; rfl
    unfold OwnB
    rw [e1]
    exact this
  refine (HA _ _ _ hob hbl).out.mono ?_
  rintro e w2 ⟨rfl, hw, hb2, hap⟩
  go_wp2_with fail
  go_end0
  exact ⟨rfl, hw, (hbl.mono (Nat.le_of_lt HL.out)).trans hb2, Apart.pre hbl HL.out hap⟩

theorem pk_text (b : Nat) (L : List UInt8) (room : Nat) (s : ByteArray) (hs : s.size ≤ 65535) (hlim : L.length + room ≤ 1099511627776) (hx : 2 + s.size ≤ room) (w : World) (h : PkAt w b L room) :
    Calls Try.prog 70 #[.pointer (some ⟨b, 0, none⟩), .string s] w fun e w' => e = .returned (.tuple #[]) ∧ PkAt w' b (L ++ (beL 2 s.size ++ s.data.toList)) (room - (2 + s.size)) ∧ Below b w w' := by
  obtain ⟨i0, hi0, hz0, hz1, hz2⟩ := info_parts info_byte
  have Hi0 := Lib.hid hi0
  have Hz0 := Lib.hid hz0
  have Hz1 := Lib.hid hz1
  have Hz2 := Lib.hid hz2
  clear hi0 hz0 hz1 hz2
  have hsl : s.data.toList.length = s.size := Array.length_toList
  have HL := Lib.hid h.lt
  have hll : (beL 2 s.size ++ s.data.toList).length = 2 + s.size := by rw [List.length_append, hsl]; rfl
  have HA := fun (w' : World) (xv : Value) (base : Nat) (hv : OwnB w' base xv (beL 2 s.size ++ s.data.toList)) (hb : Below w.heap.size w w') => Lib.hid (pk_add b L (beL 2 s.size ++ s.data.toList) room (by unfold beL; simp) hlim (by rw [hll]; exact hx) base xv w' hv (h.keep hb))
  rw [hll] at HA
  obtain ⟨v, h1, h2⟩ := h
  have c2 := cell_of_row w b 2 _ _ _ h1
  simp at c2
  have h6 : (s.size : Int) ≤ 65535 := by omega
  have q1 : IntKind.u8.wrap ((s.size : Int) / 256) = (s.size : Int) / 256 := by rw [IntKind.wrap_u8]; omega
  have q2 : IntKind.u8.wrap (s.size : Int) = (s.size : Int) % 256 := by rw [IntKind.wrap_u8]
  have HSL := Lib.hid hsl
  have HHS := Lib.hid hs
  clear h1 h2 hlim hx hsl hll hs
  have hbl : Below w.heap.size w (w.alloc (.cells #[.int .u8 ((s.size : Int) / 256), .int .u8 ((s.size : Int) % 256)] 5)) := (Below.refl _ _).alloc (Nat.le_refl _) _
  have hz1 : w.heap.size ≤ (w.alloc (.cells #[.int .u8 ((s.size : Int) / 256), .int .u8 ((s.size : Int) % 256)] 5)).heap.size := hbl.size
  have hv : (w.alloc (.cells #[.int .u8 ((s.size : Int) / 256), .int .u8 ((s.size : Int) % 256)] 5)).ownsRow w.heap.size 5 1 (.slice (some ⟨w.heap.size, 0, none⟩) 2 2) 2 (Lib.byteCells (beL 2 s.size)) := by
    have := own_block w #[.int .u8 ((s.size : Int) / 256), .int .u8 ((s.size : Int) % 256)] 5 2 2 w.heap.size (Nat.le_refl _) rfl (by omega) (by decide)
    have t1 : ((UInt8.ofNat (s.size / 256)).toNat : Int) = (s.size : Int) / 256 := by rw [byte_of _ (by have := HHS.out; omega)]; omega
    have t2 : ((UInt8.ofNat (s.size % 256)).toNat : Int) = (s.size : Int) % 256 := by rw [byte_of _ (by omega)]; omega
    have e1 : Lib.byteCells (beL 2 s.size) = [Value.int .u8 ((s.size : Int) / 256), Value.int .u8 ((s.size : Int) % 256)] := by
      rw [← t1, ← t2]; rfl
    rw [e1]
    exact this
  have HBB := Lib.hid hbl
  clear hbl
  go_enter Try.func70, Try.ntmps70
  go_wp2_with (at_builtin; go_must (refine Lib.wpList_append_own_string _ rfl (.tmp 26) (.tmp 27) 84 9 rfl w.heap.size 5 i0 Try.underlying84 Try.underlying9 Hi0.out Hz0.out Hz1.out Hz2.out _ _ _ (by rfl) hv s (by rfl) (by unfold maxLen; omega) (by omega) hz1 ?_); go_must (intro v2 w2 hown2 hgrow _))
  have hb2 : Below w.heap.size w w2 := HBB.out.grown hgrow hz1 (fun kk hk => by have := (World.ownsRow.lt hv kk hk).1; omega)
  have ho2 : OwnB w2 w.heap.size v2 (beL 2 s.size ++ s.data.toList) := by
    unfold OwnB
    rw [List.length_append, HSL.out, Lib.byteCells_append]
    exact hown2
  clear hown2 hgrow hv
  refine (HA w2 v2 w.heap.size ho2 hb2).out.mono ?_
  rintro e w3 ⟨rfl, hw, hb3, _⟩
  go_wp2_with fail
  go_end0
  exact ⟨rfl, hw, (hb2.mono (Nat.le_of_lt HL.out)).trans hb3⟩

theorem pk_done (b : Nat) (L : List UInt8) (room : Nat) (w : World) (h : PkAt w b L room) :
    Calls Try.prog 72 #[.pointer (some ⟨b, 0, none⟩)] w fun e w' => e = .returned (.tuple #[.string (bs L), .int .i64 0]) ∧ w = w' := by
  obtain ⟨v, h1, h2⟩ := h
  obtain ⟨VA, VC, rfl⟩ := own_shape h2
  have c0 := cell_of_row w b 0 _ _ _ h1
  have c2 := cell_of_row w b 2 _ _ _ h1
  simp at c0 c2
  have hcv := str_of_own (P := Try.prog) 84 9 5 Try.underlying84 Try.underlying5 Try.underlying9 h2
  clear h1 h2
  go_enter Try.func72, Try.ntmps72
  go_wp2_with fail
  go_ret2
  exact ⟨rfl, rfl⟩
end Go.Proofs.Ytljnadbfadgglaa

/- papers.Certify. No condition. -/
namespace Go.Proofs.Ytljnadbfadgglaa
open Go.RowKit
set_option maxRecDepth 100000
set_option linter.unusedVariables false
set_option linter.unusedSimpArgs false

def sigOk (s : St) : Bool := decide (0 ≤ s.1) && (decide (s.1 ≤ 255) && decide (s.2.size ≤ 65535))
def sigL (s : St) : List UInt8 := beL 1 s.1.toNat ++ (beL 2 s.2.size ++ s.2.data.toList)
/-- A certificate's bytes as far as k signatures. -/
def certTo (t : ByteArray) (sg : List St) (k : Nat) : List UInt8 := (beL 2 t.size ++ t.data.toList) ++ beL 1 sg.length ++ ((sg.take k).map sigL).flatten
def certV (e : Int) (l sg : List St) : ByteArray × Int :=
  if rightB e l = false then (⟨#[]⟩, 4) else if sg.all sigOk = false then (⟨#[]⟩, 4) else if 16 < sg.length then (⟨#[]⟩, 3) else (bs (certTo (bytesS e l) sg sg.length), 0)
theorem sigL_len (s : St) : (sigL s).length = 3 + s.2.size := by
  unfold sigL beL
  have : s.2.data.toList.length = s.2.size := Array.length_toList
  simp only [List.length_append, this]
  simp
  omega
theorem certTo_zero (t : ByteArray) (sg : List St) : certTo t sg 0 = (beL 2 t.size ++ t.data.toList) ++ beL 1 sg.length := by unfold certTo; simp
theorem certTo_succ (t : ByteArray) (sg : List St) (k : Nat) (h : k < sg.length) : certTo t sg (k + 1) = certTo t sg k ++ sigL (sg.getD k (0, ByteArray.empty)) := by
  unfold certTo
  rw [List.take_succ_eq_append_getElem h, List.map_append, List.flatten_append, List.append_assoc]
  simp [List.getD_eq_getElem?_getD, h]
theorem certTo_len (t : ByteArray) (sg : List St) (ht : t.size ≤ 400) (hs : ∀ i, i < sg.length → sigOk (sg.getD i (0, ByteArray.empty)) = true) : ∀ k, k ≤ sg.length → (certTo t sg k).length ≤ 403 + 65538 * k
  | 0, _ => by
    rw [certTo_zero]
    have : t.data.toList.length = t.size := Array.length_toList
    unfold beL
    simp only [List.length_append, this]
    simp
    omega
  | k + 1, hk => by
    rw [certTo_succ t sg k (by omega), List.length_append, sigL_len]
    have := certTo_len t sg ht hs k (by omega)
    have h2 := hs k (by omega)
    simp only [sigOk, Bool.and_eq_true, decide_eq_true_eq] at h2
    omega
theorem bytesS_size (e : Int) (l : List St) : (bytesS e l).size ≤ 400 := by
  unfold bytesS
  split
  · rename_i h
    obtain ⟨_, _, f3, f4, f5⟩ := right_facts h
    have := paperTo_len e l (fun i hi => (f5 i hi).2.2) l.length (Nat.le_refl _)
    rw [bs_size]
    unfold paperL
    omega
  · decide
theorem certV_wrong {e : Int} {l sg : List St} (h : rightB e l = false) : certV e l sg = (⟨#[]⟩, 4) := by unfold certV; rw [if_pos h]
theorem certV_bad {e : Int} {l sg : List St} (h : rightB e l = true) (i : Nat) (hi : i < sg.length) (hb : sigOk (sg.getD i (0, ByteArray.empty)) = false) : certV e l sg = (⟨#[]⟩, 4) := by
  unfold certV
  rw [if_neg (by rw [h]; decide), if_pos]
  rw [List.all_eq_false]
  refine ⟨sg[i], List.getElem_mem hi, ?_⟩
  rw [List.getD_eq_getElem?_getD, List.getElem?_eq_getElem hi] at hb
  simpa using hb
theorem all_ok {sg : List St} (h : ∀ i, i < sg.length → sigOk (sg.getD i (0, ByteArray.empty)) = true) : sg.all sigOk = true := by
  rw [List.all_eq_true]
  intro s hs
  obtain ⟨i, hi, rfl⟩ := List.getElem_of_mem hs
  have := h i hi
  rwa [List.getD_eq_getElem?_getD, List.getElem?_eq_getElem hi] at this
theorem certV_long {e : Int} {l sg : List St} (h : rightB e l = true) (ha : ∀ i, i < sg.length → sigOk (sg.getD i (0, ByteArray.empty)) = true) (hl : 16 < sg.length) : certV e l sg = (⟨#[]⟩, 3) := by
  unfold certV
  rw [if_neg (by rw [h]; decide), if_neg (by rw [all_ok ha]; decide), if_pos hl]
theorem certV_good {e : Int} {l sg : List St} (h : rightB e l = true) (ha : ∀ i, i < sg.length → sigOk (sg.getD i (0, ByteArray.empty)) = true) (hl : sg.length ≤ 16) : certV e l sg = (bs (certTo (bytesS e l) sg sg.length), 0) := by
  unfold certV
  rw [if_neg (by rw [h]; decide), if_neg (by rw [all_ok ha]; decide), if_neg (by omega)]

set_option maxHeartbeats 1000000 in
theorem certify_any (e : Int) (A : Option Addr) (n c : Nat) (l : List St) (B : Option Addr) (m d : Nat) (sg : List St) (w : World) (hS : Seats w A n c l) (hG : Seats w B m d sg) :
    Calls Try.prog 38 #[.agg #[.int .i64 e, .slice A n c], .slice B m d] w fun r w' => r = .returned (.tuple #[.string (certV e l sg).1, .int .i64 (certV e l sg).2]) ∧ Below w.heap.size w w' := by
  have hm63 : m ≤ 9223372036854775807 := Nat.le_trans hG.2.1 hG.2.2.1
  have HB := fun w' (hb : Below w.heap.size w w') => Lib.hid (bytes_u e A n c l w' (hS.keep hb))
  have HG := Lib.hid hG
  have HML := Lib.hid hG.1
  cases hr : rightB e l with
  | false =>
    have HE : Hid (bytesE e l = 4) := Lib.hid (by unfold bytesE; rw [hr]; rfl)
    have HV := Lib.hid (certV_wrong (sg := sg) hr)
    rw [HE.out] at HB
    clear hS hG hr
    go_enter Try.func38, Try.ntmps38
    go_wp2_with fail
    have hB : Below w.heap.size w (w.alloc (.cells #[.int .i64 e, .slice A n c] 50)) := (Below.refl _ _).alloc (Nat.le_refl _) _
    refine (HB _ hB).out.mono ?_
    rintro x w1 ⟨rfl, hb1⟩
    go_wp2_with fail
    go_ret2
    rw [HV.out]
    exact ⟨rfl, hB.trans (hb1.mono hB.size)⟩
  | true =>
    have HE : Hid (bytesE e l = 0) := Lib.hid (by unfold bytesE; rw [hr]; rfl)
    rw [HE.out] at HB
    have HV1 := Lib.hid (fun i hi hb => certV_bad (sg := sg) hr i hi hb)
    have HV2 := Lib.hid (fun ha hl => certV_long (sg := sg) hr ha hl)
    have HV3 := Lib.hid (fun ha hl => certV_good (sg := sg) hr ha hl)
    have hts := bytesS_size e l
    obtain ⟨LIM, hLIM⟩ : ∃ LIM : Nat, LIM = 16777216 := ⟨_, rfl⟩
    have HN : Hid (∀ w', Calls Try.prog 69 #[.int .i64 16777216] w' fun e w'' => e = .returned (.pointer (some ⟨w'.heap.size, 0, none⟩)) ∧ PkAt w'' w'.heap.size [] LIM ∧ Below w'.heap.size w' w'') := Lib.hid (fun w' => by
      have := pk_new LIM (by omega) w'
      rw [show (LIM : Int) = 16777216 by omega] at this
      exact this)
    have HLIM := Lib.hid hLIM
    clear hLIM
    generalize bytesS e l = t at HB HV3 hts
    generalize certV e l sg = R at HV1 HV2 HV3 ⊢
    clear hS hG hr
    go_enter Try.func38, Try.ntmps38
    go_wp2_with fail
    have hB : Below w.heap.size w (w.alloc (.cells #[.int .i64 e, .slice A n c] 50)) := (Below.refl _ _).alloc (Nat.le_refl _) _
    refine (HB _ hB).out.mono ?_
    rintro x w1 ⟨rfl, hb1⟩
    have HB1 := Lib.hid (hB.trans (hb1.mono hB.size))
    clear hb1 hB HB
    go_wp2_with fail
    go_loopw [23] (fun i wr => ∃ k : Nat, k ≤ m ∧ i = .int .i64 k ∧ Hid (∀ j, j < k → sigOk (sg.getD j (0, ByteArray.empty)) = true) ∧ Hid (Below w.heap.size w wr)) (fun i _ => m - (intOf i).toNat)
    case atStart => exact ⟨0, by omega, rfl, Lib.hid (fun j hj => by omega), HB1⟩
    case round =>
      obtain ⟨k, hk, rfl, hok, hbel⟩ := hrel
      by_cases hkm : k < m
      · have n0 : 0 ≤ (k : Int) := by omega
        have n1 : (k : Int) < (m : Int) := by omega
        obtain ⟨b, off, rfl, hb, hcs⟩ := HG.out.at k hkm
        have ca := (hbel.out.cell (p := ⟨b, off + k * 2, none⟩) hb).trans (hcs k hkm).1
        have cb := (hbel.out.cell (p := ⟨b, off + k * 2 + 1, none⟩) hb).trans (hcs k hkm).2
        have HBAD := Lib.hid (HV1.out k (by have := HML.out; omega))
        have HOK : Hid (sigOk (sg.getD k (0, ByteArray.empty)) = true → ∀ j, j < k + 1 → sigOk (sg.getD j (0, ByteArray.empty)) = true) := Lib.hid (fun h j hj => by
          by_cases e : j < k
          · exact hok.out j e
          · obtain rfl : j = k := by omega
            exact h)
        have hsk : Hid (sigOk (sg.getD k (0, ByteArray.empty)) = (decide (0 ≤ (sg.getD k (0, ByteArray.empty)).1) && (decide ((sg.getD k (0, ByteArray.empty)).1 ≤ 255) && decide ((sg.getD k (0, ByteArray.empty)).2.size ≤ 65535)))) := Lib.hid rfl
        generalize sigOk (sg.getD k (0, ByteArray.empty)) = ok at HBAD HOK hsk
        generalize (sg.getD k (0, ByteArray.empty)).1 = id at ca hsk
        generalize (sg.getD k (0, ByteArray.empty)).2 = s at cb hsk
        have hb2 := Lib.hid (hbel.out.alloc hbel.out.size (.cells #[.int .i64 id, .string s] 75))
        clear hcs hok
        by_cases h1 : id < 0
        · have HBAD2 := Lib.hid (HBAD.out (by rw [hsk.out]; simp; omega))
          clear HBAD HOK hsk hbel
          go_wp2_with fail
          go_ret2
          rw [HBAD2.out]
          exact ⟨rfl, hb2.out⟩
        · by_cases h2 : 255 < id
          · have HBAD2 := Lib.hid (HBAD.out (by rw [hsk.out]; simp; omega))
            clear HBAD HOK hsk hbel
            go_wp2_with fail
            go_ret2
            rw [HBAD2.out]
            exact ⟨rfl, hb2.out⟩
          · have h1' : 0 ≤ id := by omega
            have h2' : id ≤ 255 := by omega
            by_cases h3 : 65535 < s.size
            · have h3' : (65535 : Int) < (s.size : Int) := by omega
              have HBAD2 := Lib.hid (HBAD.out (by rw [hsk.out]; simp; omega))
              clear HBAD HOK hsk hbel h1 h2
              go_wp2_with fail
              go_ret2
              rw [HBAD2.out]
              exact ⟨rfl, hb2.out⟩
            · have h3' : (s.size : Int) ≤ 65535 := by omega
              have HOK2 := Lib.hid (HOK.out (by rw [hsk.out]; simp; omega))
              clear HBAD HOK hsk hbel h1 h2 h3
              go_wp2_with fail
              exact ⟨⟨k + 1, by omega, by go_num, HOK2, hb2⟩, by simp [intOf]; omega⟩
      · obtain rfl : k = m := by omega
        have HA : Hid (∀ i, i < sg.length → sigOk (sg.getD i (0, ByteArray.empty)) = true) := Lib.hid (by rw [HML.out]; exact hok.out)
        rcases Nat.lt_or_ge 16 k with hl | hl
        · have hl' : (16 : Int) < (k : Int) := by omega
          have HLG := Lib.hid (HV2.out HA.out (by rw [HML.out]; exact hl))
          clear hok hkm
          go_wp2_with fail
          go_ret2
          rw [HLG.out]
          exact ⟨rfl, hbel.out⟩
        · have hl' : (k : Int) ≤ 16 := by omega
          have HGD := Lib.hid (HV3.out HA.out (by rw [HML.out]; exact hl))
          have HCL := Lib.hid (certTo_len t sg hts HA.out)
          have HC0 := Lib.hid (certTo_zero t sg)
          have HCS := Lib.hid (certTo_succ t sg)
          have HTL : Hid (t.data.toList.length = t.size) := Lib.hid Array.length_toList
          clear hok hkm HV1 HV2 HV3
          go_wp2_with fail
          refine (HN.out wr).mono ?_
          have hLIM := HLIM.out
          rintro r w2 ⟨rfl, hp2, hb2⟩
          have HP2 := Lib.hid hp2
          have HB2 := Lib.hid (hbel.out.trans (hb2.mono hbel.out.size))
          obtain ⟨pb, hpb⟩ : ∃ pb, pb = wr.heap.size := ⟨_, rfl⟩
          have hpw : w.heap.size ≤ pb := by have := hbel.out.size; omega
          rw [← hpb] at HP2
          clear hp2 hb2 hbel
          go_wp2_with fail
          rw [← hpb]
          clear hpb
          have HT2 := Lib.hid (pk_text pb [] LIM t (by omega) (by rw [List.length_nil]; omega) (by omega) w2 HP2.out)
          refine HT2.out.mono ?_
          rintro r w3 ⟨rfl, hp3, hb3⟩
          have HP3 := Lib.hid hp3
          have HB3 := Lib.hid (HB2.out.trans (hb3.mono hpw))
          clear hp3 hb3 HP2 HB2 HT2
          go_wp2_with fail
          have hl3 : ([] ++ (beL 2 t.size ++ t.data.toList)).length = 2 + t.size := by
            rw [List.nil_append, List.length_append, HTL.out]; rfl
          have HT3 := Lib.hid (pk_byte pb _ _ k (by omega) (by rw [hl3]; omega) (by omega) w3 HP3.out)
          refine HT3.out.mono ?_
          rintro r w4 ⟨rfl, hp4, hb4, _⟩
          have HP4 : Hid (PkAt w4 pb (certTo t sg 0) (LIM - (certTo t sg 0).length)) := Lib.hid (by
            rw [HC0.out, HML.out]
            have : (beL 2 t.size ++ t.data.toList ++ beL 1 k).length = 2 + t.size + 1 := by rw [List.length_append, List.length_append, HTL.out]; rfl
            rw [this, show LIM - (2 + t.size + 1) = LIM - (2 + t.size) - 1 by omega]
            exact hp4)
          have HB4 := Lib.hid (HB3.out.trans (hb4.mono hpw))
          clear hp4 hb4 HP3 HB3 hLIM HT3 hl3
          go_wp2_with fail
          go_loopw [55] (fun i wr => ∃ j : Nat, j ≤ k ∧ i = .int .i64 j ∧ Hid (PkAt wr pb (certTo t sg j) (LIM - (certTo t sg j).length)) ∧ Hid (Below w.heap.size w wr)) (fun i _ => k - (intOf i).toNat)
          case atStart => exact ⟨0, by omega, rfl, HP4, HB4⟩
          case round =>
            obtain ⟨j, hj, rfl, hp, hbel⟩ := hrel
            by_cases hjk : j < k
            · have n0 : 0 ≤ (j : Int) := by omega
              have n1 : (j : Int) < (k : Int) := by omega
              obtain ⟨b, off, rfl, hb, hcs⟩ := HG.out.at j hjk
              have ca := (hbel.out.cell (p := ⟨b, off + j * 2, none⟩) hb).trans (hcs j hjk).1
              have cb := (hbel.out.cell (p := ⟨b, off + j * 2 + 1, none⟩) hb).trans (hcs j hjk).2
              have hok := HA.out j (by have := HML.out; omega)
              simp only [sigOk, Bool.and_eq_true, decide_eq_true_eq] at hok
              obtain ⟨o1, o2, o3⟩ := hok
              have hlen := HCL.out j (by have := HML.out; omega)
              have HSC := Lib.hid (HCS.out j (by have := HML.out; omega))
              have HSL := Lib.hid (sigL_len (sg.getD j (0, ByteArray.empty)))
              have hsl : Hid (sigL (sg.getD j (0, ByteArray.empty)) = beL 1 (sg.getD j (0, ByteArray.empty)).1.toNat ++ (beL 2 (sg.getD j (0, ByteArray.empty)).2.size ++ (sg.getD j (0, ByteArray.empty)).2.data.toList)) := Lib.hid rfl
              generalize sigL (sg.getD j (0, ByteArray.empty)) = SL at HSC HSL hsl
              generalize (sg.getD j (0, ByteArray.empty)).1 = id at ca o1 o2 hsl
              generalize (sg.getD j (0, ByteArray.empty)).2 = s at cb o3 hsl HSL
              obtain ⟨I, rfl⟩ := Int.eq_ofNat_of_zero_le o1
              have hal : Below wr.heap.size wr (wr.alloc (.cells #[.int .i64 (I : Int), .string s] 75)) := (Below.refl _ _).alloc (Nat.le_refl _) _
              have hp5 := Lib.hid (hp.out.keep hal)
              have hb5 := Lib.hid (hbel.out.trans (hal.mono hbel.out.size))
              have hq5 := heap_alloc_new wr (.cells #[.int .i64 (I : Int), .string s] 75)
              have hz5 : wr.heap.size < (wr.alloc (.cells #[.int .i64 (I : Int), .string s] 75)).heap.size := by simp
              have hpl := hp.out.lt
              have HAP := Lib.hid (hp.out.apart hal (Nat.le_refl _))
              clear hcs hal hp hbel
              go_wp2_with fail
              obtain ⟨sb, hsb⟩ : ∃ sb, sb = wr.heap.size := ⟨_, rfl⟩
              rw [← hsb] at hq5 hz5 hpl
              rw [← hsb]
              generalize wr.alloc (.cells #[.int .i64 (I : Int), .string s] 75) = w5 at hp5 hb5 hq5 hz5 HAP ⊢
              rw [← hsb] at HAP
              clear hsb
              have hLIM := HLIM.out
              have HT5 := Lib.hid (pk_byte pb _ _ I (by omega) (by omega) (by omega) w5 hp5.out)
              refine HT5.out.mono ?_
              rintro r w6 ⟨rfl, hp6, hb6, ha6⟩
              have hq6 := (ha6 sb hz5 (by omega) HAP.out).trans hq5
              have q1 := cell_of_row w6 sb 1 _ _ _ hq6
              simp at q1
              have HP6 := Lib.hid hp6
              have HB6 := Lib.hid (hb5.out.trans (hb6.mono hpw))
              clear hp6 hb6 ha6 HT5 hq6 hq5 HAP hp5 hb5 ca cb
              have HT6 := Lib.hid (pk_text pb _ _ s o3 (by rw [List.length_append, show (beL 1 I).length = 1 from rfl]; omega) (by omega) w6 HP6.out)
              clear hLIM
              go_wp2_with fail
              refine HT6.out.mono ?_
              rintro r w7 ⟨rfl, hp7, hb7⟩
              have hLIM := HLIM.out
              have HP7 : Hid (PkAt w7 pb (certTo t sg (j + 1)) (LIM - (certTo t sg (j + 1)).length)) := Lib.hid (by
                have e2 : (certTo t sg (j + 1)).length = (certTo t sg j).length + (3 + s.size) := by rw [HSC.out, List.length_append, HSL.out]
                have e1 : certTo t sg (j + 1) = certTo t sg j ++ beL 1 I ++ (beL 2 s.size ++ s.data.toList) := by
                  rw [HSC.out, hsl.out, List.append_assoc]
                  rfl
                rw [e2, e1]
                rw [show LIM - ((certTo t sg j).length + (3 + s.size)) = LIM - (certTo t sg j).length - 1 - (2 + s.size) by omega]
                exact hp7)
              have HB7 := Lib.hid (HB6.out.trans (hb7.mono hpw))
              clear hp7 hb7 hLIM HT6 HP6 HB6 q1
              go_wp2_with fail
              exact ⟨⟨j + 1, by omega, by go_num, HP7, HB7⟩, by simp [intOf]; omega⟩
            · obtain rfl : j = k := by omega
              clear hjk
              rw [HML.out] at HGD
              go_wp2_with fail
              refine (pk_done pb _ _ wr hp.out).mono ?_
              rintro r w9 ⟨rfl, rfl⟩
              go_wp2_with fail
              go_ret2
              rw [HGD.out]
              exact ⟨rfl, hbel.out⟩
end Go.Proofs.Ytljnadbfadgglaa

/- witanref08.Certify. No condition. -/
namespace Go.Proofs.Ytljnadbfadgglaa
open Go.RowKit
set_option maxRecDepth 100000
set_option linter.unusedVariables false
set_option linter.unusedSimpArgs false

set_option maxHeartbeats 2000000 in
theorem refcertify_any (e : Int) (A : Option Addr) (n c : Nat) (l : List St) (B : Option Addr) (m d : Nat) (sg : List St) (w : World) (hS : Seats w A n c l) (hG : Seats w B m d sg) :
    Calls Try.prog 39 #[.agg #[.int .i64 e, .slice A n c], .slice B m d] w fun r w' => r = .returned (.tuple #[.string (certV e l sg).1, .int .i64 (certV e l sg).2]) ∧ Below w.heap.size w w' := by
  have hm63 : m ≤ 9223372036854775807 := Nat.le_trans hG.2.1 hG.2.2.1
  have HB := fun w' (hb : Below w.heap.size w w') => Lib.hid (refbytes_u e A n c l w' (hS.keep hb))
  have HG := Lib.hid hG
  have HML := Lib.hid hG.1
  cases hr : rightB e l with
  | false =>
    have HE : Hid (bytesE e l = 4) := Lib.hid (by unfold bytesE; rw [hr]; rfl)
    have HV := Lib.hid (certV_wrong (sg := sg) hr)
    rw [HE.out] at HB
    clear hS hG hr
    go_enter Try.func39, Try.ntmps39
    go_wp2_with fail
    have hB : Below w.heap.size w (w.alloc (.cells #[.int .i64 e, .slice A n c] 50)) := (Below.refl _ _).alloc (Nat.le_refl _) _
    refine (HB _ hB).out.mono ?_
    rintro x w1 ⟨rfl, hb1⟩
    go_wp2_with fail
    go_ret2
    rw [HV.out]
    exact ⟨rfl, hB.trans (hb1.mono hB.size)⟩
  | true =>
    have HE : Hid (bytesE e l = 0) := Lib.hid (by unfold bytesE; rw [hr]; rfl)
    rw [HE.out] at HB
    have HV1 := Lib.hid (fun i hi hb => certV_bad (sg := sg) hr i hi hb)
    have HV2 := Lib.hid (fun ha hl => certV_long (sg := sg) hr ha hl)
    have HV3 := Lib.hid (fun ha hl => certV_good (sg := sg) hr ha hl)
    have hts := bytesS_size e l
    obtain ⟨LIM, hLIM⟩ : ∃ LIM : Nat, LIM = 1073741824 := ⟨_, rfl⟩
    have HN : Hid (∀ w', Calls Try.prog 57 #[.int .i64 1073741824] w' fun e w'' => e = .returned (.pointer (some ⟨w'.heap.size, 0, none⟩)) ∧ WrAt w'' w'.heap.size [] LIM 0 ∧ Below w'.heap.size w' w'') := Lib.hid (fun w' => by
      have := wr_new LIM w'
      rw [show (LIM : Int) = 1073741824 by omega] at this
      exact this)
    have HLIM := Lib.hid hLIM
    clear hLIM
    generalize bytesS e l = t at HB HV3 hts
    generalize certV e l sg = R at HV1 HV2 HV3 ⊢
    have HTL : Hid (t.data.toList.length = t.size) := Lib.hid Array.length_toList
    have HC0 := Lib.hid (certTo_zero t sg)
    have HCS := Lib.hid (certTo_succ t sg)
    have HCL := Lib.hid (certTo_len t sg hts)
    clear hS hG hr
    go_enter Try.func39, Try.ntmps39
    go_wp2_with fail
    have hB : Below w.heap.size w (w.alloc (.cells #[.int .i64 e, .slice A n c] 50)) := (Below.refl _ _).alloc (Nat.le_refl _) _
    refine (HB _ hB).out.mono ?_
    rintro x w1 ⟨rfl, hb1⟩
    have hb1w := hB.trans (hb1.mono hB.size)
    have hw1 := hb1w.size
    have HB1 := Lib.hid hb1w
    clear hb1 hB HB hb1w
    go_wp2_with fail
    refine (HN.out w1).mono ?_
    rintro r w2 ⟨rfl, hp2, hb2⟩
    have HP2 := Lib.hid hp2
    have HB2 := Lib.hid (HB1.out.trans (hb2.mono hw1))
    clear hp2 hb2 HB1 HN
    go_wp2_with fail
    obtain ⟨pb, hpb⟩ : ∃ pb, pb = w1.heap.size := ⟨_, rfl⟩
    have hpw : w.heap.size ≤ pb := by omega
    rw [← hpb] at HP2
    rw [← hpb]
    clear hpb
    have hLIM := HLIM.out
    have HT2 := Lib.hid (wr_text pb [] LIM t (by omega) (by omega) (by rw [List.length_nil]; omega) w2 HP2.out)
    clear hLIM
    refine HT2.out.mono ?_
    rintro r w3 ⟨rfl, hp3, hb3⟩
    have HP3 := Lib.hid hp3
    have HB3 := Lib.hid (HB2.out.trans (hb3.mono hpw))
    clear hp3 hb3 HP2 HB2 HT2
    go_wp2_with fail
    go_loopw [9] (fun i wr => ∃ k : Nat, k ≤ m ∧ i = .int .i64 k ∧ Hid (∀ j, j < k → sigOk (sg.getD j (0, ByteArray.empty)) = true) ∧ wr = w3) (fun i _ => m - (intOf i).toNat)
    case atStart => exact ⟨0, by omega, rfl, Lib.hid (fun j hj => by omega), rfl⟩
    case round =>
      obtain ⟨k, hk, rfl, hok, rfl⟩ := hrel
      by_cases hkm : k < m
      · have n0 : 0 ≤ (k : Int) := by omega
        have n1 : (k : Int) < (m : Int) := by omega
        obtain ⟨b, off, rfl, hb, hcs⟩ := HG.out.at k hkm
        have ca := (HB3.out.cell (p := ⟨b, off + k * 2, none⟩) hb).trans (hcs k hkm).1
        have cb := (HB3.out.cell (p := ⟨b, off + k * 2 + 1, none⟩) hb).trans (hcs k hkm).2
        have HBAD := Lib.hid (HV1.out k (by have := HML.out; omega))
        have HOK : Hid (sigOk (sg.getD k (0, ByteArray.empty)) = true → ∀ j, j < k + 1 → sigOk (sg.getD j (0, ByteArray.empty)) = true) := Lib.hid (fun h j hj => by
          by_cases e : j < k
          · exact hok.out j e
          · obtain rfl : j = k := by omega
            exact h)
        have hsk : Hid (sigOk (sg.getD k (0, ByteArray.empty)) = (decide (0 ≤ (sg.getD k (0, ByteArray.empty)).1) && (decide ((sg.getD k (0, ByteArray.empty)).1 ≤ 255) && decide ((sg.getD k (0, ByteArray.empty)).2.size ≤ 65535)))) := Lib.hid rfl
        generalize sigOk (sg.getD k (0, ByteArray.empty)) = ok at HBAD HOK hsk
        generalize (sg.getD k (0, ByteArray.empty)).1 = id at ca hsk
        generalize (sg.getD k (0, ByteArray.empty)).2 = s at cb hsk
        clear hcs hok
        by_cases h1 : id < 0
        · have HBAD2 := Lib.hid (HBAD.out (by rw [hsk.out]; simp; omega))
          clear HBAD HOK hsk
          go_wp2_with fail
          go_ret2
          rw [HBAD2.out]
          exact ⟨rfl, HB3.out⟩
        · by_cases h2 : 255 < id
          · have HBAD2 := Lib.hid (HBAD.out (by rw [hsk.out]; simp; omega))
            clear HBAD HOK hsk
            go_wp2_with fail
            go_ret2
            rw [HBAD2.out]
            exact ⟨rfl, HB3.out⟩
          · have h1' : 0 ≤ id := by omega
            have h2' : id ≤ 255 := by omega
            by_cases h3 : 65535 < s.size
            · have h3' : (65535 : Int) < (s.size : Int) := by omega
              have HBAD2 := Lib.hid (HBAD.out (by rw [hsk.out]; simp; omega))
              clear HBAD HOK hsk h1 h2
              go_wp2_with fail
              go_ret2
              rw [HBAD2.out]
              exact ⟨rfl, HB3.out⟩
            · have h3' : (s.size : Int) ≤ 65535 := by omega
              have HOK2 := Lib.hid (HOK.out (by rw [hsk.out]; simp; omega))
              clear HBAD HOK hsk h1 h2 h3
              go_wp2_with fail
              exact ⟨⟨k + 1, by omega, by go_num, HOK2, trivial⟩, by simp [intOf]; omega⟩
      · obtain rfl : k = m := by omega
        have HA : Hid (∀ i, i < sg.length → sigOk (sg.getD i (0, ByteArray.empty)) = true) := Lib.hid (by rw [HML.out]; exact hok.out)
        rcases Nat.lt_or_ge 16 k with hl | hl
        · have hl' : (16 : Int) < (k : Int) := by omega
          have HLG := Lib.hid (HV2.out HA.out (by rw [HML.out]; exact hl))
          clear hok hkm
          go_wp2_with fail
          go_ret2
          rw [HLG.out]
          exact ⟨rfl, HB3.out⟩
        · have hl' : (k : Int) ≤ 16 := by omega
          have HGD := Lib.hid (HV3.out HA.out (by rw [HML.out]; exact hl))
          clear hok hkm HV1 HV2 HV3
          have hl3 : ([] ++ (beL 2 t.size ++ t.data.toList)).length = 2 + t.size := by
            rw [List.nil_append, List.length_append, HTL.out]; rfl
          have hLIM := HLIM.out
          have HT3 := Lib.hid (wr_num1 pb _ LIM k (by omega) (by omega) (by rw [hl3]; omega) wr HP3.out)
          clear hLIM
          go_wp2_with fail
          refine HT3.out.mono ?_
          rintro r w4 ⟨rfl, hp4, hb4⟩
          have HP4 : Hid (WrAt w4 pb (certTo t sg 0) LIM 0) := Lib.hid (by
            rw [HC0.out, HML.out]
            exact hp4)
          have HB4 := Lib.hid (HB3.out.trans (hb4.mono hpw))
          clear hp4 hb4 HP3 HB3 HT3 hl3
          go_wp2_with fail
          go_loopw [10] (fun i wr => ∃ j : Nat, j ≤ k ∧ i = .int .i64 j ∧ Hid (WrAt wr pb (certTo t sg j) LIM 0) ∧ Hid (Below w.heap.size w wr)) (fun i _ => k - (intOf i).toNat)
          case atStart => exact ⟨0, by omega, rfl, HP4, HB4⟩
          case round =>
            obtain ⟨j, hj, rfl, hp, hbel⟩ := hrel
            by_cases hjk : j < k
            · have n0 : 0 ≤ (j : Int) := by omega
              have n1 : (j : Int) < (k : Int) := by omega
              obtain ⟨b, off, rfl, hb, hcs⟩ := HG.out.at j hjk
              have ca := (hbel.out.cell (p := ⟨b, off + j * 2, none⟩) hb).trans (hcs j hjk).1
              have cb0 := (hcs j hjk).2
              have hok := HA.out j (by have := HML.out; omega)
              simp only [sigOk, Bool.and_eq_true, decide_eq_true_eq] at hok
              obtain ⟨o1, o2, o3⟩ := hok
              have hlen := HCL.out HA.out j (by have := HML.out; omega)
              have HSC := Lib.hid (HCS.out j (by have := HML.out; omega))
              have hsl : Hid (sigL (sg.getD j (0, ByteArray.empty)) = beL 1 (sg.getD j (0, ByteArray.empty)).1.toNat ++ (beL 2 (sg.getD j (0, ByteArray.empty)).2.size ++ (sg.getD j (0, ByteArray.empty)).2.data.toList)) := Lib.hid rfl
              generalize sigL (sg.getD j (0, ByteArray.empty)) = SL at HSC hsl
              generalize (sg.getD j (0, ByteArray.empty)).1 = id at ca o1 o2 hsl
              generalize (sg.getD j (0, ByteArray.empty)).2 = s at cb0 o3 hsl
              obtain ⟨I, rfl⟩ := Int.eq_ofNat_of_zero_le o1
              have CB0 := Lib.hid cb0
              have hLIM := HLIM.out
              have HT5 := Lib.hid (wr_num1 pb _ LIM I (by omega) (by omega) (by omega) wr hp.out)
              clear hcs cb0 hLIM
              go_wp2_with fail
              refine HT5.out.mono ?_
              rintro r w6 ⟨rfl, hp6, hb6⟩
              have HP6 := Lib.hid hp6
              have HB6 := Lib.hid (hbel.out.trans (hb6.mono hpw))
              clear hp6 hb6 HT5 hp hbel ca
              have cb := (HB6.out.cell (p := ⟨b, off + j * 2 + 1, none⟩) hb).trans CB0.out
              have hLIM := HLIM.out
              have HT6 := Lib.hid (wr_text pb _ LIM s o3 (by omega) (by rw [List.length_append, show (beL 1 I).length = 1 from rfl]; omega) w6 HP6.out)
              clear hLIM
              go_wp2_with fail
              refine HT6.out.mono ?_
              rintro r w7 ⟨rfl, hp7, hb7⟩
              have HP7 : Hid (WrAt w7 pb (certTo t sg (j + 1)) LIM 0) := Lib.hid (by
                have e1 : certTo t sg (j + 1) = certTo t sg j ++ beL 1 I ++ (beL 2 s.size ++ s.data.toList) := by
                  rw [HSC.out, hsl.out, List.append_assoc]
                  rfl
                rw [e1]
                exact hp7)
              have HB7 := Lib.hid (HB6.out.trans (hb7.mono hpw))
              clear hp7 hb7 HT6 HP6 HB6 cb
              go_wp2_with fail
              exact ⟨⟨j + 1, by omega, by go_num, HP7, HB7⟩, by simp [intOf]; omega⟩
            · obtain rfl : j = k := by omega
              clear hjk
              rw [HML.out] at HGD
              have HDN := Lib.hid (wr_done pb _ LIM wr hp.out)
              go_wp2_with fail
              refine HDN.out.mono ?_
              rintro r w9 ⟨rfl, rfl⟩
              go_wp2_with fail
              go_ret2
              rw [HGD.out]
              exact ⟨rfl, hbel.out⟩
end Go.Proofs.Ytljnadbfadgglaa

/- witanlaw08.alike. Condition: not above 40 signatures. -/
namespace Go.Proofs.Ytljnadbfadgglaa
open Go.RowKit
set_option maxRecDepth 100000
set_option linter.unusedVariables false
set_option linter.unusedSimpArgs false

set_option maxHeartbeats 2000000 in
theorem alike_any (B : Option Addr) (m d : Nat) (sg : List St) (w : World) (hG : Seats w B m d sg) (hm : m ≤ 40) :
    Calls Try.prog 40 #[.slice B m d] w fun r w' => (∃ A' c', r = .returned (.slice A' m c') ∧ OwnP 105 w' w.heap.size (.slice A' m c') sg) ∧ Below w.heap.size w w' := by
  obtain ⟨i0, hi0, hz0, hz1, hz2⟩ := info_parts info_signed8
  have Hi0 := Lib.hid hi0
  have Hz0 := Lib.hid hz0
  have Hz1 := Lib.hid hz1
  have Hz2 := Lib.hid hz2
  clear hi0 hz0 hz1 hz2
  have HG := Lib.hid hG
  have HML := Lib.hid hG.1
  clear hG
  go_enter Try.func40, Try.ntmps40
  go_wp2_with fail
  go_loopw [3, 4] (fun v i wr => ∃ (k : Nat), k ≤ m ∧ i = .int .i64 k ∧ Hid (wr.ownsRow w.heap.size 105 2 v k (seatCells (sg.take k))) ∧ Hid (Below w.heap.size w wr)) (fun _ i _ => m - (intOf i).toNat)
  case atStart => exact ⟨0, by omega, rfl, Lib.hid (World.ownsRow_nil _ _ _ _), Lib.hid (Below.refl _ _)⟩
  case round =>
    obtain ⟨k, hk, rfl, ho, hbel⟩ := hrel
    by_cases hkm : k < m
    · have n0 : 0 ≤ (k : Int) := by omega
      have n1 : (k : Int) < (m : Int) := by omega
      obtain ⟨b, off, rfl, hb, hcs⟩ := HG.out.at k hkm
      have ca := (hbel.out.cell (p := ⟨b, off + k * 2, none⟩) hb).trans (hcs k hkm).1
      have cb := (hbel.out.cell (p := ⟨b, off + k * 2 + 1, none⟩) hb).trans (hcs k hkm).2
      have HT : Hid (sg.take (k + 1) = sg.take k ++ [sg.getD k (0, ByteArray.empty)]) := Lib.hid (by
        have hl : k < sg.length := by have := HML.out; omega
        rw [List.take_succ_eq_append_getElem hl, List.getD_eq_getElem?_getD, List.getElem?_eq_getElem hl]
        rfl)
      have hpe : Hid (sg.getD k (0, ByteArray.empty) = ((sg.getD k (0, ByteArray.empty)).1, (sg.getD k (0, ByteArray.empty)).2)) := Lib.hid rfl
      generalize (sg.getD k (0, ByteArray.empty)).1 = id at ca hpe
      generalize (sg.getD k (0, ByteArray.empty)).2 = s at cb hpe
      have hz : w.heap.size ≤ wr.heap.size := hbel.out.size
      obtain ⟨VA, VC, rfl⟩ := own_shape ho.out
      clear hcs hkm
      go_wp2_with fail
      go_region_law (first
        | (refine step_app (by rfl) (.tmp 11) (.tmp 23) 67 (by rfl) w.heap.size 105 i0 _ 2 24 Try.underlying67 Hi0.out Hz0.out Hz1.out Hz2.out rfl (by omega) _ _ _ (by rfl) ((ho.out.alloc _).drew) ⟨wr.heap.size, 0, none⟩ 1 1 [_, _] (by rfl) (by rfl) (World.news_of_block (cs := #[_, _]) (t := 105) (fr := (0, 0)) (heap_alloc_new wr _)) (by simp [Value.oneCell']) (by unfold maxLen; omega) (by omega) (by simp; omega) ?_; intro v1 w8 hown1 hg1; obtain ⟨VA2, VC2, rfl⟩ := own_shape hown1))
      all_goals
        have hbA : Below w.heap.size w (wr.alloc (.cells #[.int .i64 id, .string s] 105)).drew := (hbel.out.alloc hz _).drew
        have hb8 := Lib.hid (hbA.grown hg1 (by simp; omega) (fun kk hk => (World.ownsRow.lt ho.out kk hk).1))
        have ho8 : Hid (w8.ownsRow w.heap.size 105 2 (.slice VA2 (k + 1) VC2) (k + 1) (seatCells (sg.take (k + 1)))) := Lib.hid (by
          rw [HT.out, hpe.out, seatCells_snoc]
          exact hown1)
        clear hbA hown1 hg1 ca cb ho hbel hz
        go_wp2_with fail
        exact ⟨⟨k + 1, by omega, by go_num, ho8, hb8⟩, by simp [intOf]; omega⟩
    · obtain rfl : k = m := by omega
      obtain ⟨VA, VC, rfl⟩ := own_shape ho.out
      have hfin : OwnP 105 wr w.heap.size (.slice VA k VC) sg := by
        have := ho.out
        rw [List.take_of_length_le (by have := HML.out; omega)] at this
        unfold OwnP
        rw [HML.out]
        exact this
      have HF := Lib.hid hfin
      clear hfin hkm
      go_wp2_with fail
      go_ret
      exact ⟨⟨VA, VC, rfl, HF.out⟩, hbel.out⟩
end Go.Proofs.Ytljnadbfadgglaa

/- A certificate's bytes are opened as what was certified; which certificates of a quorum are taken (plain). -/
namespace Go.Proofs.Ytljnadbfadgglaa
open Go.RowKit
set_option maxRecDepth 100000
set_option linter.unusedVariables false
set_option linter.unusedSimpArgs false

theorem beN_beL2 (n : Nat) (h : n < 65536) : beN (beL 2 n) = n := by
  show beN [UInt8.ofNat (n / 256), UInt8.ofNat (n % 256)] = n
  simp only [beN, List.foldl_cons, List.foldl_nil, UInt8.toNat_ofNat']
  omega
theorem beN_beL1 (n : Nat) (h : n < 256) : beN (beL 1 n) = n := by
  show beN [UInt8.ofNat n] = n
  simp only [beN, List.foldl_cons, List.foldl_nil, UInt8.toNat_ofNat']
  omega
theorem txN_at (P R : List UInt8) (s : ByteArray) (hs : s.size ≤ 65535) : txN (bs (P ++ ((beL 2 s.size ++ s.data.toList) ++ R))) P.length false = (s, P.length + (2 + s.size), false) := by
  have hl : s.data.toList.length = s.size := Array.length_toList
  have h2 : (beL 2 s.size).length = 2 := rfl
  have hsz : (bs (P ++ ((beL 2 s.size ++ s.data.toList) ++ R))).size = P.length + (2 + s.size + R.length) := by
    rw [bs_size]; simp only [List.length_append, h2, hl]
  have ht : ((bs (P ++ ((beL 2 s.size ++ s.data.toList) ++ R))).data.toList.drop P.length).take 2 = beL 2 s.size := by
    rw [bs_data, List.drop_left, List.append_assoc]
    exact List.take_left' h2
  unfold txN
  rw [ht, beN_beL2 _ (by omega), hsz, if_neg (by rintro (h | h | h); cases h; omega; omega), bs_extract]
  have hd : (P ++ ((beL 2 s.size ++ s.data.toList) ++ R)).drop (P.length + 2) = s.data.toList ++ R := by
    rw [← List.drop_drop, List.drop_left, List.append_assoc]
    exact List.drop_left' h2
  rw [hd, show P.length + 2 + s.size - (P.length + 2) = s.data.toList.length by omega, List.take_left, bs_of]
  refine Prod.ext rfl (Prod.ext ?_ rfl)
  show P.length + 2 + s.size = P.length + (2 + s.size)
  omega
theorem rdN_at (P R : List UInt8) (n : Nat) (hn : n < 256) : rdN (bs (P ++ (beL 1 n ++ R))) 1 P.length false = (n, P.length + 1, false) := by
  have h1 : (beL 1 n).length = 1 := rfl
  have hsz : (bs (P ++ (beL 1 n ++ R))).size = P.length + (1 + R.length) := by
    rw [bs_size]; simp only [List.length_append, h1]
  have ht : ((bs (P ++ (beL 1 n ++ R))).data.toList.drop P.length).take 1 = beL 1 n := by
    rw [bs_data, List.drop_left]
    exact List.take_left' h1
  unfold rdN
  rw [if_neg (by simp), hsz, if_neg (by omega), ht, beN_beL1 n hn]

theorem sgN_at (P : List UInt8) (sg : List St) (hok : ∀ i, i < sg.length → sigOk (sg.getD i (0, ByteArray.empty)) = true) : ∀ k, k ≤ sg.length →
    sgN (bs (P ++ (sg.map sigL).flatten)) k P.length false = (sg.take k, (P ++ ((sg.take k).map sigL).flatten).length, false)
  | 0, _ => by simp [sgN]
  | k + 1, hk => by
    have ih := sgN_at P sg hok k (by omega)
    have ho := hok k (by omega)
    simp only [sigOk, Bool.and_eq_true, decide_eq_true_eq] at ho
    obtain ⟨o1, o2, o3⟩ := ho
    have htk : sg.take (k + 1) = sg.take k ++ [sg.getD k (0, ByteArray.empty)] := by
      rw [List.take_succ_eq_append_getElem (by omega), List.getD_eq_getElem?_getD, List.getElem?_eq_getElem (by omega)]
      rfl
    have hsp : (sg.map sigL).flatten = ((sg.take k).map sigL).flatten ++ (sigL (sg.getD k (0, ByteArray.empty)) ++ ((sg.drop (k + 1)).map sigL).flatten) := by
      conv => lhs; rw [← List.take_append_drop (k + 1) sg]
      rw [List.map_append, List.flatten_append, htk, List.map_append, List.flatten_append, List.append_assoc]
      simp
    show (((sgN _ k P.length false).1 ++ [(((rdN _ 1 (sgN _ k P.length false).2.1 (sgN _ k P.length false).2.2).1 : Int), (txN _ (rdN _ 1 (sgN _ k P.length false).2.1 (sgN _ k P.length false).2.2).2.1 (rdN _ 1 (sgN _ k P.length false).2.1 (sgN _ k P.length false).2.2).2.2).1)]), (txN _ (rdN _ 1 (sgN _ k P.length false).2.1 (sgN _ k P.length false).2.2).2.1 (rdN _ 1 (sgN _ k P.length false).2.1 (sgN _ k P.length false).2.2).2.2).2) = _
    rw [ih]
    simp only
    generalize sg.getD k (0, ByteArray.empty) = s at o1 o2 o3 htk hsp
    have e1 : P ++ (sg.map sigL).flatten = (P ++ ((sg.take k).map sigL).flatten) ++ (beL 1 s.1.toNat ++ ((beL 2 s.2.size ++ s.2.data.toList) ++ ((sg.drop (k + 1)).map sigL).flatten)) := by
      rw [hsp]; unfold sigL; simp only [List.append_assoc]
    have e2 : P ++ (sg.map sigL).flatten = (P ++ ((sg.take k).map sigL).flatten ++ beL 1 s.1.toNat) ++ ((beL 2 s.2.size ++ s.2.data.toList) ++ ((sg.drop (k + 1)).map sigL).flatten) := by
      rw [e1]; simp only [List.append_assoc]
    have r1 : rdN (bs (P ++ (sg.map sigL).flatten)) 1 (P ++ ((sg.take k).map sigL).flatten).length false = (s.1.toNat, (P ++ ((sg.take k).map sigL).flatten).length + 1, false) := by
      rw [e1]; exact rdN_at _ _ _ (by omega)
    have hl1 : (P ++ ((sg.take k).map sigL).flatten ++ beL 1 s.1.toNat).length = (P ++ ((sg.take k).map sigL).flatten).length + 1 := by rw [List.length_append]; rfl
    have r2 : txN (bs (P ++ (sg.map sigL).flatten)) ((P ++ ((sg.take k).map sigL).flatten).length + 1) false = (s.2, (P ++ ((sg.take k).map sigL).flatten).length + 1 + (2 + s.2.size), false) := by
      rw [← hl1, e2]; exact txN_at _ _ _ o3
    rw [r1]
    simp only
    rw [r2, htk]
    refine Prod.ext ?_ (Prod.ext ?_ rfl)
    · show sg.take k ++ [((s.1.toNat : Int), s.2)] = sg.take k ++ [s]
      rw [Int.toNat_of_nonneg o1]
    · show _ = (P ++ ((sg.take k ++ [s]).map sigL).flatten).length
      have h5 : ([s].map sigL).flatten.length = 3 + s.2.size := by simp [sigL_len]
      have h6 : ((P ++ ((sg.take k).map sigL).flatten) ++ ([s].map sigL).flatten).length = (P ++ ((sg.take k).map sigL).flatten).length + (3 + s.2.size) := by rw [List.length_append, h5]
      rw [List.map_append, List.flatten_append, ← List.append_assoc, h6]
      show _ + 1 + (2 + s.2.size) = _
      omega

/-- A certificate's bytes are opened as what was certified. -/
theorem openG_cert (t : ByteArray) (e : Int) (l sg : List St) (hr : readV t = some (e, l)) (ht : t.size ≤ 65535) (h16 : sg.length ≤ 16) (hok : ∀ i, i < sg.length → sigOk (sg.getD i (0, ByteArray.empty)) = true) :
    openG (bs (certTo t sg sg.length)) = some (e, l, t, sg) := by
  have ec : certTo t sg sg.length = (beL 2 t.size ++ t.data.toList ++ beL 1 sg.length) ++ (sg.map sigL).flatten := by unfold certTo; rw [List.take_length]
  have e1 : certTo t sg sg.length = [] ++ ((beL 2 t.size ++ t.data.toList) ++ (beL 1 sg.length ++ (sg.map sigL).flatten)) := by rw [ec]; simp only [List.append_assoc, List.nil_append]
  have e2 : certTo t sg sg.length = (beL 2 t.size ++ t.data.toList) ++ (beL 1 sg.length ++ (sg.map sigL).flatten) := by rw [ec]; simp only [List.append_assoc]
  have hl : (beL 2 t.size ++ t.data.toList).length = 0 + (2 + t.size) := by
    have : t.data.toList.length = t.size := Array.length_toList
    rw [List.length_append, this, Nat.zero_add]; rfl
  have h1 : txN (bs (certTo t sg sg.length)) 0 false = (t, 0 + (2 + t.size), false) := by rw [e1]; exact txN_at [] _ t ht
  have h2 : rdN (bs (certTo t sg sg.length)) 1 (0 + (2 + t.size)) false = (sg.length, 0 + (2 + t.size) + 1, false) := by
    rw [← hl, e2]; exact rdN_at _ _ _ (by omega)
  have hl2 : (beL 2 t.size ++ t.data.toList ++ beL 1 sg.length).length = 0 + (2 + t.size) + 1 := by rw [List.length_append, hl]; rfl
  have h3 : sgN (bs (certTo t sg sg.length)) sg.length (0 + (2 + t.size) + 1) false = (sg, (bs (certTo t sg sg.length)).size, false) := by
    have := sgN_at (beL 2 t.size ++ t.data.toList ++ beL 1 sg.length) sg hok sg.length (Nat.le_refl _)
    rw [List.take_length, ← ec, hl2] at this
    rw [this, bs_size]
  unfold openG
  rw [h1]
  simp only
  rw [h2]
  simp only
  rw [if_neg (by omega), hr, h3]
  simp [endN]
end Go.Proofs.Ytljnadbfadgglaa

/- Certificates with the signatures of a quorum, one fewer, in another order (plain). -/
namespace Go.Proofs.Ytljnadbfadgglaa
open Go.RowKit
set_option maxRecDepth 100000
set_option linter.unusedVariables false
set_option linter.unusedSimpArgs false

/-- Numbered texts from a on. -/
def numbered (f : Nat → ByteArray) (a k : Nat) : List St := (List.range' a k).map fun (i : Nat) => ((i : Int), f i)
theorem numbered_length (f : Nat → ByteArray) (a k : Nat) : (numbered f a k).length = k := by simp [numbered]
theorem numbered_succ (f : Nat → ByteArray) (a k : Nat) : numbered f a (k + 1) = ((a : Int), f a) :: numbered f (a + 1) k := by
  unfold numbered; rw [List.range'_succ]; rfl
theorem numbered_snoc (f : Nat → ByteArray) (k : Nat) : numbered f 0 (k + 1) = numbered f 0 k ++ [((k : Int), f k)] := by
  unfold numbered; rw [List.range'_concat]; simp
theorem numbered_get (f : Nat → ByteArray) (a k i : Nat) (hi : i < k) : (numbered f a k).getD i (0, ByteArray.empty) = (((a + i : Nat) : Int), f (a + i)) := by
  unfold numbered
  rw [List.getD_eq_getElem?_getD, List.getElem?_map, List.getElem?_range' (by omega)]
  simp
theorem signed_go (ver : ByteArray → ByteArray → Bool) (r s : Nat → ByteArray) (hv : ∀ i, ver (r i) (s i) = true) : ∀ (n a b k : Nat), a ≤ b → b + k ≤ a + n → signedB ver (numbered r a n) (numbered s b k) = true
  | 0, a, b, k, h1, h2 => by
    obtain rfl : k = 0 := by omega
    rfl
  | n + 1, a, b, 0, h1, h2 => by
    rw [numbered_succ]
    rfl
  | n + 1, a, b, k + 1, h1, h2 => by
    rw [numbered_succ, numbered_succ]
    unfold signedB
    by_cases h : a = b
    · subst h
      rw [if_pos rfl, hv, Bool.true_and]
      exact signed_go ver r s hv n (a + 1) (a + 1) k (Nat.le_refl _) (by omega)
    · rw [if_neg (by simp only; omega), ← numbered_succ]
      exact signed_go ver r s hv n (a + 1) b (k + 1) (by omega) (by omega)
theorem signed_lacks (ver : ByteArray → ByteArray → Bool) (r s : Nat → ByteArray) (z : ByteArray) : ∀ (n a b k : Nat), 0 < a → signedB ver (numbered r a n) (numbered s b k ++ [(0, z)]) = false
  | 0, a, b, 0, _ => rfl
  | 0, a, b, k + 1, _ => by rw [numbered_succ]; rfl
  | n + 1, a, b, 0, h0 => by
    rw [numbered_succ]
    show signedB ver (((a : Int), r a) :: numbered r (a + 1) n) ([] ++ [(0, z)]) = false
    rw [List.nil_append]
    unfold signedB
    rw [if_neg (by simp only; omega)]
    exact signed_lacks ver r s z n (a + 1) b 0 (by omega)
  | n + 1, a, b, k + 1, h0 => by
    rw [numbered_succ, numbered_succ, List.cons_append]
    unfold signedB
    by_cases h : a = b
    · subst h
      rw [if_pos rfl, signed_lacks ver r s z n (a + 1) (a + 1) k (by omega), Bool.and_false]
    · rw [if_neg (by simp only; omega), ← List.cons_append, ← numbered_succ]
      exact signed_lacks ver r s z n (a + 1) b (k + 1) (by omega)
theorem signed_turned (ver : ByteArray → ByteArray → Bool) (r s : Nat → ByteArray) (n k : Nat) (hn : 0 < n) (hk : 0 < k) : signedB ver (numbered r 0 n) (numbered s 1 k ++ [(0, s 0)]) = false := by
  obtain ⟨n, rfl⟩ : ∃ m, n = m + 1 := ⟨n - 1, by omega⟩
  obtain ⟨k, rfl⟩ : ∃ m, k = m + 1 := ⟨k - 1, by omega⟩
  rw [numbered_succ, numbered_succ s, List.cons_append]
  unfold signedB
  rw [if_neg (by simp), ← List.cons_append, ← numbered_succ]
  exact signed_lacks ver r s (s 0) n 1 1 (k + 1) (by omega)
theorem up_numbered (r : Nat → ByteArray) (hr : ∀ i, (r i).size = 32) : ∀ (n a : Nat), a + n ≤ 16 → upB ((a : Int) - 1) (numbered r a n) = true
  | 0, a, _ => rfl
  | n + 1, a, h => by
    rw [numbered_succ]
    unfold upB
    rw [if_neg (by simp only [hr]; omega)]
    have := up_numbered r hr n (a + 1) (by omega)
    rw [show (((a + 1 : Nat) : Int) - 1) = (a : Int) by omega] at this
    exact this
theorem right_numbered (e : Int) (r : Nat → ByteArray) (hr : ∀ i, (r i).size = 32) (n : Nat) (h4 : 4 ≤ n) (h10 : n ≤ 10) (e0 : 0 ≤ e) (e1 : e ≤ 65535) : rightB e (numbered r 0 n) = true := by
  unfold rightB
  have := up_numbered r hr n 0 (by omega)
  rw [show (((0 : Nat) : Int) - 1) = -1 by omega] at this
  rw [this, numbered_length]
  simp [e0, e1, h4, h10]
theorem ok_numbered (s : Nat → ByteArray) (hs : ∀ i, (s i).size ≤ 65535) (a k : Nat) (h : a + k ≤ 256) : ∀ i, i < (numbered s a k).length → sigOk ((numbered s a k).getD i (0, ByteArray.empty)) = true := by
  intro i hi
  rw [numbered_length] at hi
  rw [numbered_get s a k i hi]
  have := hs (a + i)
  simp [sigOk]
  omega
theorem ok_snoc (l : List St) (z : St) (hl : ∀ i, i < l.length → sigOk (l.getD i (0, ByteArray.empty)) = true) (hz : sigOk z = true) : ∀ i, i < (l ++ [z]).length → sigOk ((l ++ [z]).getD i (0, ByteArray.empty)) = true := by
  intro i hi
  rw [List.length_append] at hi
  by_cases h : i < l.length
  · have := hl i h
    rw [List.getD_eq_getElem?_getD] at this ⊢
    rwa [List.getElem?_append_left h]
  · have : i = l.length := by simp at hi; omega
    subst this
    rw [List.getD_eq_getElem?_getD, List.getElem?_append_right (Nat.le_refl _), Nat.sub_self]
    exact hz
/-- What a check of certified bytes gives. -/
theorem check_cert (oe e : Int) (old l sg : List St) (ho : rightB oe old = true) (hl : rightB e l = true) (h16 : sg.length ≤ 16) (hok : ∀ i, i < sg.length → sigOk (sg.getD i (0, ByteArray.empty)) = true) :
    checkV oe old (certV e l sg).1 = if e ≠ oe + 1 then .error 12 else if signedB (fun r s => verB r 3 (bytesS e l) s) old sg = false then .error 16 else if sg.length < qrN old.length then .error 15 else .ok (e, l) := by
  have hbs : bytesS e l = bs (paperL e l) := by unfold bytesS; rw [hl]; rfl
  have hr : readV (bytesS e l) = some (e, l) := by rw [hbs]; exact readV_bytes e l hl
  have ho2 := openG_cert (bytesS e l) e l sg hr (by have := bytesS_size e l; omega) h16 hok
  rw [certV_good hl hok h16]
  unfold checkV
  rw [ho, if_neg (by decide)]
  show (match openG (bs (certTo (bytesS e l) sg sg.length)) with
    | none => _
    | some p => _) = _
  rw [ho2]
theorem qr_le (n : Nat) (h4 : 4 ≤ n) (h7 : n ≤ 7) : 3 ≤ qrN n ∧ qrN n ≤ n := by
  have : n = 4 ∨ n = 5 ∨ n = 6 ∨ n = 7 := by omega
  rcases this with rfl | rfl | rfl | rfl <;> decide
end Go.Proofs.Ytljnadbfadgglaa

/- witanlaw08.paper. Condition: not above 7 seats, a seed of at most 200 bytes. -/
namespace Go.Proofs.Ytljnadbfadgglaa
open Go.RowKit
set_option maxRecDepth 100000
set_option linter.unusedVariables false
set_option linter.unusedSimpArgs false

/-- append of a row's values, at a step of a region that draws, with where the row lies. -/
theorem step_app_at {P : Program} {ops : Array Oper} {o : Oper} {a : Act} {w : World} {K : Act → World → Prop} {Q : Exit → Act → World → Prop} {E : Prop} (hgd : o.guard = none) (s x : Operand) (t : TypeId)
    (ho : o.op = .call { callee := .builtin .append, args := #[s, x], argTypes := #[t, t] })
    (base : Nat) (e : TypeId) (i : TypeInfo) (z : Value) (size bytes : Nat) (ht : P.underlying t = some (.slice e)) (hi : P.info? e = some i) (hz : i.zero = some z)
    (hsize : i.size = size) (hby : i.bytes = bytes) (hzs : z.cells.size = size) (hsz : 0 < size)
    (v : Value) (n : Nat) (xs : List Value) (hs : a.eval s = v) (hown : w.ownsRow base e size v n xs)
    (ad : Addr) (m c : Nat) (news : List Value) (hx : a.eval x = .slice (some ad) m c) (hl : news.length = m * size) (hnews : ∀ j u, news[j]? = some u → w.cell? (ad.add j) = some u) (h1 : ∀ u ∈ news, u.oneCell' = true)
    (h63 : n + m ≤ maxLen) (hbytes : (n + m) * bytes ≤ 140737488355328) (hbase : base ≤ w.heap.size)
    (h : ∀ v' w', w'.ownsRow base e size v' (n + m) (xs ++ news) → w.grownBy w' v.ownBlock → (v'.ownBlock = v.ownBlock ∨ v'.ownBlock = some w.heap.size) → K (a.put o.dst v') w') :
    if Region.wanted o (yielded ops a.tmps) = true then Oper.wp P o a w K Q else E := by
  have hw : Region.wanted o (yielded ops a.tmps) = true := by simp [Region.wanted, hgd]
  rw [if_pos hw]
  obtain ⟨v', w', hr, h2, h3, h4, h5⟩ := run_append_own_at (P := P) w base t o.type e i z size bytes ht hi hz hsize hby hzs hsz v n xs hown ad m c news hl hnews h1 h63 hbytes hbase
  unfold Oper.wp execOp
  simp only [ho, resolve, invoke, builtin, Sem.run_bind, Sem.run_pure, Result.andThen_ok, List.map_toArray, List.map_cons, List.map_nil, hs, hx, hr]
  exact h _ _ h2 h3 h5

def ptrs (bl : Nat → Nat) (k : Nat) : List Value := (List.range k).map fun i => .pointer (some ⟨bl i, 0, none⟩)
theorem ptrs_succ (bl : Nat → Nat) (k : Nat) : ptrs bl (k + 1) = ptrs bl k ++ [.pointer (some ⟨bl k, 0, none⟩)] := by
  unfold ptrs; rw [List.range_succ, List.map_append]; rfl
theorem ptrs_congr {f g : Nat → Nat} {k : Nat} (h : ∀ i, i < k → f i = g i) : ptrs f k = ptrs g k := by
  unfold ptrs
  apply List.map_congr_left
  intro i hi
  rw [h i (List.mem_range.1 hi)]
def rootK (seed : ByteArray) (i : Nat) : ByteArray := nodeK (seed ++ one i) 3 0
theorem info_ptr : (Try.prog.info? 29).map (fun i => (i.zero, i.size, i.bytes)) = some (some (.pointer none), 1, 8) := by kernel_rfl

/-- The signers so far: each lies by itself, and apart from two rows. -/
def Signers (w : World) (seed : ByteArray) (B0 : Nat) (bl Bs : Nat → Nat) (k : Nat) : Prop :=
  (∀ i, i < k → SignerAt w (Bs i) (bl i) (seed ++ one i) 3 0 ∧ B0 ≤ Bs i) ∧ ∀ i j, i < j → j < k → bl i < Bs j
def Off (v : Value) (bl Bs : Nat → Nat) (k : Nat) : Prop := ∀ g, v.ownBlock = some g → ∀ i, i < k → g < Bs i ∨ bl i < g
theorem Signers.keep {w w' : World} {seed : ByteArray} {B0 : Nat} {bl Bs : Nat → Nat} {k : Nat} (h : Signers w seed B0 bl Bs k) (hb : Below w.heap.size w w') : Signers w' seed B0 bl Bs k :=
  ⟨fun i hi => ⟨(h.1 i hi).1.keep hb, (h.1 i hi).2⟩, h.2⟩
theorem SignerAt.row {w w' : World} {B b : Nat} {seed : ByteArray} {h used : Nat} {row : Option Nat} (hs : SignerAt w B b seed h used) (hg : w.grownBy w' row) (hx : ∀ x, row = some x → x < B ∨ b < x) : SignerAt w' B b seed h used := by
  cases row with
  | none => exact hs.keep ((Below.refl _ _).grown hg (Nat.le_refl _) (fun kk hk => by cases hk))
  | some x => exact hs.far hg (hx x rfl)
theorem Signers.row {w w' : World} {seed : ByteArray} {B0 : Nat} {bl Bs : Nat → Nat} {k : Nat} {v : Value} (h : Signers w seed B0 bl Bs k) (hg : w.grownBy w' v.ownBlock) (hx : Off v bl Bs k) : Signers w' seed B0 bl Bs k :=
  ⟨fun i hi => ⟨(h.1 i hi).1.row hg (fun x e => hx x e i hi), (h.1 i hi).2⟩, h.2⟩
theorem Signers.blk {w w' : World} {seed : ByteArray} {B0 x : Nat} {bl Bs : Nat → Nat} {k : Nat} (h : Signers w seed B0 bl Bs k) (hg : w.grownBy w' (some x)) (hx : x < B0) : Signers w' seed B0 bl Bs k :=
  ⟨fun i hi => ⟨(h.1 i hi).1.far hg (.inl (by have := (h.1 i hi).2; omega)), (h.1 i hi).2⟩, h.2⟩
theorem Signers.lt {w : World} {seed : ByteArray} {B0 : Nat} {bl Bs : Nat → Nat} {k : Nat} (h : Signers w seed B0 bl Bs k) (i : Nat) (hi : i < k) : bl i < w.heap.size := (h.1 i hi).1.lt

/-- With a new signer. -/
def upd (f : Nat → Nat) (k x : Nat) : Nat → Nat := fun i => if i = k then x else f i
theorem upd_old {f : Nat → Nat} {k x i : Nat} (h : i < k) : upd f k x i = f i := if_neg (by omega)
theorem upd_new {f : Nat → Nat} {k x : Nat} : upd f k x k = x := if_pos rfl
theorem Signers.snoc {w w2 : World} {seed : ByteArray} {B0 : Nat} {bl Bs : Nat → Nat} {k Bk nb : Nat} (h : Signers w seed B0 bl Bs k) (hb : Below w.heap.size w w2) (hsg : SignerAt w2 Bk nb (seed ++ one k) 3 0) (hB : w.heap.size ≤ Bk) (h0 : B0 ≤ w.heap.size) :
    Signers w2 seed B0 (upd bl k nb) (upd Bs k Bk) (k + 1) := by
  refine ⟨fun i hi => ?_, fun i j hij hj => ?_⟩
  · by_cases e : i < k
    · rw [upd_old e, upd_old e]
      exact ⟨(h.1 i e).1.keep hb, (h.1 i e).2⟩
    · obtain rfl : i = k := by omega
      rw [upd_new, upd_new]
      exact ⟨hsg, by omega⟩
  · by_cases e : j < k
    · rw [upd_old (show i < k by omega), upd_old e]
      exact h.2 i j hij e
    · obtain rfl : j = k := by omega
      rw [upd_old hij, upd_new]
      have := h.lt i hij
      omega
theorem Off.snoc {v : Value} {bl Bs : Nat → Nat} {k Bk nb : Nat} (h : Off v bl Bs k) (hv : ∀ g, v.ownBlock = some g → g < Bk) : Off v (upd bl k nb) (upd Bs k Bk) (k + 1) := by
  intro g hg i hi
  by_cases e : i < k
  · rw [upd_old e, upd_old e]
    exact h g hg i e
  · obtain rfl : i = k := by omega
    rw [upd_new]
    exact .inl (hv g hg)
theorem Off.next {v v' : Value} {bl Bs : Nat → Nat} {k x : Nat} (h : Off v bl Bs k) (hv : v'.ownBlock = v.ownBlock ∨ v'.ownBlock = some x) (hx : ∀ i, i < k → bl i < x) : Off v' bl Bs k := by
  intro g hg i hi
  rcases hv with e | e
  · exact h g (e ▸ hg) i hi
  · rw [e] at hg
    have := Option.some.inj hg
    have := hx i hi
    exact .inr (by omega)
theorem rows_apart {w : World} {b1 b2 s1 s2 n1 n2 : Nat} {e1 e2 : TypeId} {v1 v2 : Value} {xs1 xs2 : List Value} (h1 : w.ownsRow b1 e1 s1 v1 n1 xs1) (h2 : w.ownsRow b2 e2 s2 v2 n2 xs2) (he : e1 ≠ e2) : ∀ g, v1.ownBlock = some g → v2.ownBlock ≠ some g := by
  intro g hg1 hg2
  rcases h1.2 with ⟨rfl, _⟩ | ⟨a, cap, cur, rfl, hb, hg, _⟩
  · cases hg1
  · rcases h2.2 with ⟨rfl, _⟩ | ⟨a', cap', cur', rfl, hb', hg', _⟩
    · cases hg2
    · have e1 : a = g := Option.some.inj hg1
      have e2 : a' = g := Option.some.inj hg2
      subst e1; subst e2
      rw [hg] at hg'
      simp at hg'
      exact he hg'.2
theorem row_apart {w w' : World} {b1 b2 s1 s2 n1 n2 : Nat} {e1 e2 : TypeId} {v1 v2 : Value} {xs1 xs2 : List Value} (h1 : w.ownsRow b1 e1 s1 v1 n1 xs1) (h2 : w.ownsRow b2 e2 s2 v2 n2 xs2) (he : e1 ≠ e2) (hg : w.grownBy w' v2.ownBlock) : w'.ownsRow b1 e1 s1 v1 n1 xs1 := by
  refine World.ownsRow.kept h1 hg ?_
  cases hv : v1.ownBlock with
  | none => exact .inl rfl
  | some g => exact .inr (fun e => rows_apart h1 h2 he g hv e.symm)
theorem row_keep {w w' : World} {b s n : Nat} {e : TypeId} {v : Value} {xs : List Value} (h : w.ownsRow b e s v n xs) (hb : Below w.heap.size w w') : w'.ownsRow b e s v n xs :=
  World.ownsRow.kept h (row := none) (only_of_below hb none) (by cases hn : Value.ownBlock _ <;> simp)
theorem row_lower {w : World} {b c s n : Nat} {e : TypeId} {v : Value} {xs : List Value} (h : w.ownsRow b e s v n xs) (hc : c ≤ b) : w.ownsRow c e s v n xs := by
  refine ⟨h.1, ?_⟩
  rcases h.2 with h1 | ⟨g, cap, cur, h1, h2, h3⟩
  · exact .inl h1
  · exact .inr ⟨g, cap, cur, h1, by omega, h3⟩
theorem row_blk {w w' : World} {b s n x : Nat} {e : TypeId} {v : Value} {xs : List Value} (h : w.ownsRow b e s v n xs) (hx : x < b) (hg : w.grownBy w' (some x)) : w'.ownsRow b e s v n xs :=
  World.ownsRow.kept h hg (.inr (fun e => by have := (World.ownsRow.lt h x e).1; omega))

set_option maxHeartbeats 4000000 in
theorem paper_any (E n : Nat) (hE : E ≤ 65535) (hn : n ≤ 7) (seed : ByteArray) (hsd : seed.size ≤ 200) (w : World) :
    Calls Try.prog 41 #[.int .i64 (E : Int), .int .i64 (n : Int), .string seed] w fun r w' => (∃ PA PC LA LC bl Bs, r = .returned (.tuple #[.agg #[.int .i64 (E : Int), .slice PA n PC], .slice LA n LC]) ∧ OwnS w' w.heap.size (.slice PA n PC) (numbered (rootK seed) 0 n) ∧ w'.ownsRow w.heap.size 29 1 (.slice LA n LC) n (ptrs bl n) ∧ Signers w' seed w.heap.size bl Bs n ∧ Off (.slice PA n PC) bl Bs n ∧ Off (.slice LA n LC) bl Bs n) ∧ Below w.heap.size w w' := by
  obtain ⟨i0, hi0, hz0, hz1, hz2⟩ := info_parts info_seat
  obtain ⟨j0, hj0, hy0, hy1, hy2⟩ := info_parts info_ptr
  have Hi0 := Lib.hid hi0
  have Hz0 := Lib.hid hz0
  have Hz1 := Lib.hid hz1
  have Hz2 := Lib.hid hz2
  have Hj0 := Lib.hid hj0
  have Hy0 := Lib.hid hy0
  have Hy1 := Lib.hid hy1
  have Hy2 := Lib.hid hy2
  clear hi0 hz0 hz1 hz2 hj0 hy0 hy1 hy2
  have HNW : Hid (∀ (i : Nat) w', Calls Try.prog 18 #[.string (seed ++ one i), .int .i64 3] w' fun e w'' => ∃ b, e = .returned (.tuple #[.pointer (some ⟨b, 0, none⟩), .int .i64 0]) ∧ SignerAt w'' w'.heap.size b (seed ++ one i) 3 0 ∧ Below w'.heap.size w' w'') := Lib.hid (fun i w' => new_yes (seed ++ one i) (by rw [ByteArray.size_append, one_size]; omega) 3 (by decide) w')
  have HCV := Lib.hid (fun (a : Nat) (ha : a ≤ 255) (W : World) => one_conv a ha W)
  have hn7 : (n : Int) ≤ 7 := by omega
  go_enter Try.func41, Try.ntmps41
  go_wp2_with fail
  obtain ⟨W0, hW0⟩ : ∃ W0, W0 = (w.alloc (.cells #[.int .i64 0, .slice none 0 0] 50)).alloc (.cells #[.int .i64 (E : Int), .slice none 0 0] 50) := ⟨_, rfl⟩
  rw [← hW0]
  have hB0 : Below w.heap.size w W0 := by rw [hW0]; exact ((Below.refl _ _).alloc (Nat.le_refl _) _).alloc (by simp) _
  have hz0 : w.heap.size + 2 = W0.heap.size := by rw [hW0]; simp
  have hq0 : W0.heap[w.heap.size]? = some (.cells #[.int .i64 0, .slice none 0 0] 50 (0, 0)) := by rw [hW0]; exact (heap_alloc_old _ _ (by simp)).trans (heap_alloc_new w _)
  have hq1 : W0.heap[w.heap.size + 1]? = some (.cells #[.int .i64 (E : Int), .slice none 0 0] 50 (0, 0)) := by
    rw [hW0]
    have := heap_alloc_new (w.alloc (.cells #[.int .i64 0, .slice none 0 0] 50)) (.cells #[.int .i64 (E : Int), .slice none 0 0] 50)
    rw [show (w.alloc (.cells #[.int .i64 0, .slice none 0 0] 50)).heap.size = w.heap.size + 1 by simp] at this
    exact this
  have HQ0 := Lib.hid hq0
  have HQ1 := Lib.hid hq1
  have HB0 := Lib.hid hB0
  clear hW0 hq0 hq1 hB0
  go_loopw [9, 10] (fun v i wr => ∃ (k : Nat) (PA : Option Addr) (PC : Nat) (bl Bs : Nat → Nat), k ≤ n ∧ i = .int .i64 k ∧ w.heap.size + 2 ≤ wr.heap.size ∧ Hid (wr.heap[w.heap.size + 1]? = some (.cells #[.int .i64 (E : Int), .slice PA k PC] 50 (0, 0))) ∧ Hid (wr.heap[w.heap.size]? = some (.cells #[.int .i64 0, .slice none 0 0] 50 (0, 0))) ∧ Hid (wr.ownsRow (w.heap.size + 2) 60 2 (.slice PA k PC) k (seatCells (numbered (rootK seed) 0 k))) ∧ Hid (wr.ownsRow (w.heap.size + 2) 29 1 v k (ptrs bl k)) ∧ Hid (Signers wr seed (w.heap.size + 2) bl Bs k) ∧ Hid (Off (.slice PA k PC) bl Bs k) ∧ Hid (Off v bl Bs k) ∧ Hid (Below w.heap.size w wr)) (fun _ i _ => n - (intOf i).toNat)
  case atStart => exact ⟨0, none, 0, fun _ => 0, fun _ => 0, by omega, rfl, by omega, HQ1, HQ0, Lib.hid (World.ownsRow_nil _ _ _ _), Lib.hid (World.ownsRow_nil _ _ _ _), Lib.hid ⟨fun i hi => by omega, fun i j hij hj => by omega⟩, Lib.hid (fun g hg i hi => by omega), Lib.hid (fun g hg i hi => by omega), HB0⟩
  case round =>
    obtain ⟨k, PA, PC, bl, Bs, hk, rfl, hz, hp, hr, ho, hl, hs, hof, hog, hbel⟩ := hrel
    obtain ⟨LA, LC, rfl⟩ := own_shape hl.out
    by_cases hkn : k < n
    · have n0 : 0 ≤ (k : Int) := by omega
      have n1 : (k : Int) < (n : Int) := by omega
      have q1 : IntKind.u8.wrap (k : Int) = (k : Int) := by rw [IntKind.wrap_u8]; omega
      have hcv := HCV.out k (by omega) wr
      have HN := HNW.out k
      have z1 := one_size k
      clear hkn
      go_wp2_with fail
      have hal : Below wr.heap.size wr (wr.alloc (.cells #[.int .u8 (k : Int)] 5)) := (Below.refl _ _).alloc (Nat.le_refl _) _
      have hza : (wr.alloc (.cells #[.int .u8 (k : Int)] 5)).heap.size = wr.heap.size + 1 := by simp
      refine (HN (wr.alloc (.cells #[.int .u8 (k : Int)] 5))).mono ?_
      rintro r w2 ⟨nb, rfl, hsg, hb2⟩
      rw [hza] at hsg
      have hb := hal.trans (hb2.mono (by omega))
      have hz2 := hb.size
      have HS2 := Lib.hid (hs.out.snoc hb hsg (by omega) hz)
      have HSK := Lib.hid hsg
      have HOF2 := Lib.hid (hof.out.snoc (Bk := wr.heap.size + 1) (nb := nb) (fun g hg => by have := (World.ownsRow.lt ho.out g hg).2; omega))
      have HOG2 := Lib.hid (hog.out.snoc (Bk := wr.heap.size + 1) (nb := nb) (fun g hg => by have := (World.ownsRow.lt hl.out g hg).2; omega))
      have HO2 := Lib.hid (row_keep ho.out hb)
      have HL2 := Lib.hid (row_keep hl.out hb)
      have hp2 := (hb.block (w.heap.size + 1) (by omega)).trans hp.out
      have HR2 := Lib.hid ((hb.block w.heap.size (by omega)).trans hr.out)
      have HB2 := Lib.hid (hbel.out.trans (hb.mono (by omega)))
      have HPL : Hid (ptrs (upd bl k nb) (k + 1) = ptrs bl k ++ [.pointer (some ⟨nb, 0, none⟩)]) := Lib.hid (by
        rw [ptrs_succ, upd_new, ptrs_congr (fun i hi => upd_old hi)])
      have HP2 := Lib.hid hp2
      have c1 := cell_of_row w2 (w.heap.size + 1) 1 _ _ _ hp2
      simp at c1
      generalize upd bl k nb = bl' at HS2 HOF2 HOG2 HPL
      generalize upd Bs k (wr.heap.size + 1) = Bs' at HS2 HOF2 HOG2
      clear hal hza hb2 hb hsg hp hr ho hl hs hof hog hbel hcv HN q1 hp2
      have hdr : Below w2.heap.size w2 w2.drew := ⟨rfl, rfl, rfl, Nat.le_refl _, fun _ _ => rfl⟩
      have HRT := Lib.hid (sroot_yes (by decide) (HSK.out.keep hdr))
      have hrk : Hid (nodeK (seed ++ one k) 3 0 = rootK seed k) := Lib.hid rfl
      rw [hrk.out] at HRT
      have HNS := Lib.hid (numbered_snoc (rootK seed) k)
      generalize rootK seed k = rt at HRT HNS
      have hw2 : w.heap.size + 1 < w2.heap.size := by omega
      go_wp2_with fail
      go_region_law (first
        | (go_simp; go_at_call 22; refine HRT.out.mono ?_; rintro r w3 ⟨rfl, hb3⟩; have hb3' : Below w2.heap.size w2 w3 := ⟨hb3.os, hb3.tape, hb3.output, hb3.size, hb3.block⟩; have hp3 := (hb3'.block (w.heap.size + 1) hw2).trans HP2.out; have d1 := cell_of_row w3 (w.heap.size + 1) 1 _ _ _ hp3; simp at d1; have HP3 := Lib.hid hp3; have HO3 := Lib.hid (row_keep HO2.out hb3'); have hzl : w.heap.size + 1 < w3.heap.size := (Nat.lt_of_lt_of_le hw2 hb3'.size))
        | (refine step_app_at (by rfl) (.tmp 38) (.tmp 43) 48 (by rfl) (w.heap.size + 2) 60 i0 _ 2 24 Try.underlying48 Hi0.out Hz0.out Hz1.out Hz2.out rfl (by omega) _ _ _ (by rfl) (World.ownsRow.alloc HO3.out _) ⟨w3.heap.size, 0, none⟩ 1 1 [_, _] (by rfl) (by rfl) (World.news_of_block (cs := #[_, _]) (t := 60) (fr := (0, 0)) (heap_alloc_new w3 _)) (by simp [Value.oneCell']) (by unfold maxLen; omega) (by omega) (by simp; omega) ?_; intro v1 w8 hown1 hg1 hat; obtain ⟨VA2, VC2, rfl⟩ := own_shape hown1; have r2 := (hg1.block (w.heap.size + 1) (by simp; omega) (fun e => by have := (World.ownsRow.lt HO3.out _ e.symm).1; omega)).trans ((heap_alloc_old w3 _ hzl).trans HP3.out); have e0 := cell_of_row w8 (w.heap.size + 1) 1 _ _ _ r2; have f0 := frozen_of_row w8 (w.heap.size + 1) 1 _ _ r2; simp at e0; have R2 := Lib.hid r2; clear r2))
      all_goals
        have halS : Below w3.heap.size w3 (w3.alloc (.cells #[.int .i64 (k : Int), .string rt] 60)) := (Below.refl _ _).alloc (Nat.le_refl _) _
        have hbS := hb3'.trans (halS.mono hb3'.size)
        have hzS := hbS.size
        have hsS := HS2.out.keep hbS
        have hs8 := hsS.row hg1 HOF2.out
        have hoS := row_keep HO2.out hbS
        have hlS := row_keep HL2.out hbS
        have hl8 := row_apart hlS hoS (by decide) hg1
        have hr8 := (hg1.block w.heap.size (by omega) (fun e => by have := (World.ownsRow.lt hoS _ e.symm).1; omega)).trans ((hbS.block w.heap.size (by omega)).trans HR2.out)
        have hb8 := (HB2.out.trans (hbS.mono (by omega))).grown hg1 (by omega) (fun kk hk => by have := (World.ownsRow.lt hoS kk hk).1; omega)
        have hof8 := Lib.hid (HOF2.out.next hat (fun i hi => hsS.lt i hi))
        have hz8 := hg1.size
        have hgS : w8.grownBy (w8.setCell ⟨w.heap.size + 1, 1, none⟩ (.slice VA2 (k + 1) VC2)) (some (w.heap.size + 1)) := only_setCell (only_of_below (Below.refl _ _) _) (p := ⟨w.heap.size + 1, 1, none⟩) (.inl rfl) _
        have hs9 := Lib.hid (hs8.blk hgS (by omega))
        have ho9 : Hid ((w8.setCell ⟨w.heap.size + 1, 1, none⟩ (.slice VA2 (k + 1) VC2)).ownsRow (w.heap.size + 2) 60 2 (.slice VA2 (k + 1) VC2) (k + 1) (seatCells (numbered (rootK seed) 0 (k + 1)))) := Lib.hid (by
          rw [HNS.out, seatCells_snoc]
          exact row_blk hown1 (by omega) hgS)
        have hl9 := row_blk hl8 (by omega) hgS
        have hp9 := Lib.hid ((heap_setCell_same w8 (w.heap.size + 1) 1 _ _ (.slice VA2 (k + 1) VC2) R2.out).trans (by rfl : _ = some (.cells #[.int .i64 (E : Int), .slice VA2 (k + 1) VC2] 50 (0, 0))))
        have hr9 := Lib.hid (blk_far hr8 hgS (by omega))
        have hb9 := Lib.hid (hb8.grown hgS hb8.size (fun kk hk => by have h := Option.some.inj hk; omega))
        have hz9 := hgS.size
        have hz9' : w.heap.size + 2 ≤ (w8.setCell ⟨w.heap.size + 1, 1, none⟩ (.slice VA2 (k + 1) VC2)).heap.size := by omega
        generalize w8.setCell ⟨w.heap.size + 1, 1, none⟩ (.slice VA2 (k + 1) VC2) = w9 at hs9 ho9 hl9 hp9 hr9 hb9 hz9' ⊢
        clear halS hbS hzS hsS hs8 hoS hlS hl8 hr8 hb8 hz8 hgS hz9 hown1 hg1 hat e0 f0 R2 hb3 hb3' hp3 d1 HP3 HO3 hzl c1 HRT HP2 hdr HSK HS2 HOF2 HO2 HL2 HR2 HB2 hw2 hz2
        have halP : Below w9.heap.size w9 (w9.alloc (.cells #[.pointer (some ⟨nb, 0, none⟩)] 29)) := (Below.refl _ _).alloc (Nat.le_refl _) _
        have HAP := Lib.hid halP
        have hownL := row_keep hl9 halP
        have HOWL := Lib.hid hownL
        have hbase : w.heap.size + 2 ≤ (w9.alloc (.cells #[.pointer (some ⟨nb, 0, none⟩)] 29)).heap.size := by have := halP.size; omega
        clear halP
        go_wp2_with (at_builtin; go_must (refine wpList_append_own_at _ rfl (.tmp 46) (.tmp 48) 70 rfl (w.heap.size + 2) 29 j0 _ 1 8 Try.underlying70 Hj0.out Hy0.out Hy1.out Hy2.out rfl (by decide) _ _ _ (by rfl) hownL ⟨w9.heap.size, 0, none⟩ 1 1 [_] (by rfl) (by rfl) (World.news_of_block (cs := #[_]) (t := 29) (fr := (0, 0)) (heap_alloc_new w9 _)) (by simp [Value.oneCell']) (by unfold maxLen; omega) (by omega) hbase ?_); go_must (intro v1 wA hownA hgA _ hatA); have HOA := Lib.hid hownA; have HGA := Lib.hid hgA; have HTA := Lib.hid hatA; clear hownA hgA hatA hownL)
        have hbA := HAP.out
        have hsP := hs9.out.keep hbA
        have hoP := row_keep ho9.out hbA
        have hzA := HGA.out.size
        have hzP := hbA.size
        refine ⟨⟨k + 1, VA2, VC2, bl', Bs', by omega, by go_num, by omega, Lib.hid ?_, Lib.hid ?_, Lib.hid (row_apart hoP HOWL.out (by decide) HGA.out), Lib.hid (by rw [HPL.out]; exact HOA.out), Lib.hid (hsP.row HGA.out HOG2.out), hof8, Lib.hid (HOG2.out.next HTA.out (fun i hi => hsP.lt i hi)), Lib.hid ?_⟩, by simp [intOf]; omega⟩
        · exact (HGA.out.block (w.heap.size + 1) (by omega) (fun e => by have := (World.ownsRow.lt HOWL.out _ e.symm).1; omega)).trans ((hbA.block (w.heap.size + 1) (by omega)).trans hp9.out)
        · exact (HGA.out.block w.heap.size (by omega) (fun e => by have := (World.ownsRow.lt HOWL.out _ e.symm).1; omega)).trans ((hbA.block w.heap.size (by omega)).trans hr9.out)
        · exact (hb9.out.trans (hbA.mono (by omega))).grown HGA.out (by omega) (fun kk hk => by have := (World.ownsRow.lt HOWL.out kk hk).1; omega)
    · obtain rfl : k = n := by omega
      have c0 := cell_of_row wr (w.heap.size + 1) 0 _ _ _ hp.out
      have c1 := cell_of_row wr (w.heap.size + 1) 1 _ _ _ hp.out
      have g0 := frozen_of_row wr w.heap.size 0 _ _ hr.out
      have g1 := frozen_of_row wr w.heap.size 1 _ _ hr.out
      have r0 := cell_of_row wr w.heap.size 0 _ _ _ hr.out
      have r1 := cell_of_row wr w.heap.size 1 _ _ _ hr.out
      simp at c0 c1 r0 r1
      clear hkn
      go_wp2_with fail
      obtain ⟨hs1, hs2⟩ := set_two wr w.heap.size _ _ _ (.int .i64 (E : Int)) (.slice PA k PC) hr.out
      refine bodyPost_ret (results_paper rfl _ _ w.heap.size _ rfl (by rfl) hs1) rfl ?_
      have hoo : OwnS wr (w.heap.size + 2) (.slice PA k PC) (numbered (rootK seed) 0 k) := by
        unfold OwnS
        rw [numbered_length]
        exact ho.out
      refine ⟨⟨PA, PC, LA, LC, bl, Bs, rfl, (hoo.far (b := w.heap.size) (by omega) hs2).lower (by omega), ?_, ?_, hof.out, hog.out⟩, hbel.out.grown hs2 hbel.out.size (fun kk h => by have := Option.some.inj h; omega)⟩
      · exact row_lower (row_blk hl.out (by omega) hs2) (by omega)
      · have := hs.out.blk hs2 (by omega)
        exact ⟨fun i hi => ⟨(this.1 i hi).1, by have := (this.1 i hi).2; omega⟩, this.2⟩
end Go.Proofs.Ytljnadbfadgglaa

/- What the checks of a quorum's certificates give (plain). No condition but the numbers' bounds. -/
namespace Go.Proofs.Ytljnadbfadgglaa
open Go.RowKit
set_option maxRecDepth 100000
set_option linter.unusedVariables false
set_option linter.unusedSimpArgs false

theorem cert_size {e : Int} {l sg : List St} (hl : rightB e l = true) (h16 : sg.length ≤ 16) (hok : ∀ i, i < sg.length → sigOk (sg.getD i (0, ByteArray.empty)) = true) : (certV e l sg).1.size ≤ maxLen := by
  rw [certV_good hl hok h16]
  show (bs _).size ≤ _
  rw [bs_size]
  have := certTo_len (bytesS e l) sg (bytesS_size e l) hok sg.length (Nat.le_refl _)
  unfold maxLen
  omega
theorem cert_ok {e : Int} {l sg : List St} (hl : rightB e l = true) (h16 : sg.length ≤ 16) (hok : ∀ i, i < sg.length → sigOk (sg.getD i (0, ByteArray.empty)) = true) : (certV e l sg).2 = 0 := by
  rw [certV_good hl hok h16]
theorem rootK_size (seed : ByteArray) (i : Nat) : (rootK seed i).size = 32 := nodeK_size _ _ _
/-- The signatures. -/
def sigF (seed text : ByteArray) (i : Nat) : ByteArray := sgn (seed ++ one i) 0 text 3
theorem sigF_size (seed text : ByteArray) (i : Nat) : (sigF seed text i).size ≤ 65535 := by unfold sigF; rw [sgn_size]; decide
theorem sigF_ver (seed text : ByteArray) (i : Nat) : verB (rootK seed i) 3 text (sigF seed text i) = true := ver_sgn (seed ++ one i) 0 text 3 (by decide) (by decide)

/-- The three certificates of the paper that comes behind. -/
structure Taken (E E1 : Int) (old nx full less turned : List St) : Prop where
  bytes : bytesE E1 nx = 0
  ok1 : (certV E1 nx full).2 = 0
  ok2 : (certV E1 nx less).2 = 0
  ok3 : (certV E1 nx turned).2 = 0
  sz1 : (certV E1 nx full).1.size ≤ maxLen
  sz2 : (certV E1 nx less).1.size ≤ maxLen
  sz3 : (certV E1 nx turned).1.size ≤ maxLen
  ck1 : checkV E old (certV E1 nx full).1 = .ok (E + 1, nx)
  ck2 : checkV E old (certV E1 nx less).1 = .error 15
  ck3 : checkV E old (certV E1 nx turned).1 = .error 16
  ck4 : checkV E1 nx (certV E1 nx full).1 = .error 12
theorem taken_plain (E N : Nat) (hE : E ≤ 999) (h4 : 4 ≤ N) (h7 : N ≤ 7) (seed seed' : ByteArray) :
    Taken (E : Int) ((E : Int) + 1) (numbered (rootK seed) 0 N) (numbered (rootK seed') 0 4)
      (numbered (sigF seed (bytesS ((E : Int) + 1) (numbered (rootK seed') 0 4))) 0 (qrN N))
      (numbered (sigF seed (bytesS ((E : Int) + 1) (numbered (rootK seed') 0 4))) 1 (qrN N - 1))
      (numbered (sigF seed (bytesS ((E : Int) + 1) (numbered (rootK seed') 0 4))) 1 (qrN N - 1) ++ [(0, sigF seed (bytesS ((E : Int) + 1) (numbered (rootK seed') 0 4)) 0)]) := by
  obtain ⟨hq3, hqN⟩ := qr_le N h4 h7
  have hro : rightB (E : Int) (numbered (rootK seed) 0 N) = true := right_numbered _ _ (rootK_size seed) N h4 (by omega) (by omega) (by omega)
  have hrn : rightB ((E : Int) + 1) (numbered (rootK seed') 0 4) = true := right_numbered _ _ (rootK_size seed') 4 (by decide) (by decide) (by omega) (by omega)
  have hbe : bytesE ((E : Int) + 1) (numbered (rootK seed') 0 4) = 0 := by unfold bytesE; rw [hrn]; rfl
  have hq := hq3
  have hlo : (numbered (rootK seed) 0 N).length = N := numbered_length _ _ _
  have hv : ∀ i, verB (rootK seed i) 3 (bytesS ((E : Int) + 1) (numbered (rootK seed') 0 4)) (sigF seed (bytesS ((E : Int) + 1) (numbered (rootK seed') 0 4)) i) = true := sigF_ver seed _
  have hsz : ∀ i, (sigF seed (bytesS ((E : Int) + 1) (numbered (rootK seed') 0 4)) i).size ≤ 65535 := sigF_size seed _
  generalize numbered (rootK seed') 0 4 = nx at hrn hbe hv hsz ⊢
  have hck := fun sg (h16 : sg.length ≤ 16) hok => check_cert (E : Int) ((E : Int) + 1) (numbered (rootK seed) 0 N) nx sg hro hrn h16 hok
  have hck4 := fun sg (h16 : sg.length ≤ 16) hok => check_cert ((E : Int) + 1) ((E : Int) + 1) nx nx sg hrn hrn h16 hok
  generalize bytesS ((E : Int) + 1) nx = text at hv hsz hck hck4 ⊢
  generalize sigF seed text = s at hv hsz ⊢
  have o1 := ok_numbered s hsz 0 (qrN N) (by omega)
  have o2 := ok_numbered s hsz 1 (qrN N - 1) (by omega)
  have o3 := ok_snoc (numbered s 1 (qrN N - 1)) (0, s 0) o2 (by have := hsz 0; simp [sigOk]; omega)
  have l1 : (numbered s 0 (qrN N)).length = qrN N := numbered_length _ _ _
  have l2 : (numbered s 1 (qrN N - 1)).length = qrN N - 1 := numbered_length _ _ _
  have l3 : (numbered s 1 (qrN N - 1) ++ [((0 : Int), s 0)]).length = qrN N := by rw [List.length_append, l2]; simp; omega
  have s1 := signed_go (fun r x => verB r 3 text x) (rootK seed) s hv N 0 0 (qrN N) (Nat.le_refl _) (by omega)
  have s2 := signed_go (fun r x => verB r 3 text x) (rootK seed) s hv N 0 1 (qrN N - 1) (by omega) (by omega)
  have s3 := signed_turned (fun r x => verB r 3 text x) (rootK seed) s N (qrN N - 1) (by omega) (by omega)
  refine ⟨hbe, cert_ok hrn (by omega) o1, cert_ok hrn (by omega) o2, cert_ok hrn (by omega) o3, cert_size hrn (by omega) o1, cert_size hrn (by omega) o2, cert_size hrn (by omega) o3, ?_, ?_, ?_, ?_⟩
  · rw [hck _ (by omega) o1, if_neg (by omega), s1, if_neg (by decide), hlo, if_neg (by omega)]
  · rw [hck _ (by omega) o2, if_neg (by omega), s2, if_neg (by decide), hlo, if_pos (by omega)]
  · rw [hck _ (by omega) o3, if_neg (by omega), s3, if_pos rfl]
  · rw [hck4 _ (by omega) o1, if_pos (by omega)]
end Go.Proofs.Ytljnadbfadgglaa
