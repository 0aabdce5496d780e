/- Joined texts: more of layer 8. No condition. -/
import Derived.Test.YtljnadbfadgglaaS3
import Derived.Test.YtljnadbfadgglaaS1
import Derived.SizedLaws
/- papers.clone; how far a chain goes (plain). Condition of clone: the paper has a seat at least, and not above 1,000. -/
namespace Go.Proofs.Ytljnadbfadgglaa
open Go.RowKit
set_option maxRecDepth 100000
set_option linter.unusedVariables false
set_option linter.unusedSimpArgs false

/-- The cells of seats that lie at a place. -/
theorem seats_news {w : World} {b off n c : Nat} {l : List St} (h : Seats w (some ⟨b, off, none⟩) n c l) (h0 : 0 < n) : ∀ j u, (seatCells l)[j]? = some u → w.cell? ((⟨b, off, none⟩ : Addr).add j) = some u := by
  obtain ⟨b', off', e, hb, hc⟩ := h.at 0 h0
  cases e
  intro j u hj
  have hj2 : j < l.length * 2 := by
    have := (List.getElem?_eq_some_iff.1 hj).1
    rwa [seatCells_length] at this
  have hln := h.1
  rw [addr_plain]
  obtain ⟨i, r, hr, rfl⟩ : ∃ i r, r < 2 ∧ j = i * 2 + r := ⟨j / 2, j % 2, by omega, by omega⟩
  obtain ⟨k0, k1⟩ := hc i (by omega)
  obtain ⟨s0, s1⟩ := seatCells_get l i (by omega)
  have : r = 0 ∨ r = 1 := by omega
  rcases this with rfl | rfl
  · rw [Nat.add_zero] at hj ⊢
    rw [s0] at hj
    rw [← hj]
    exact k0
  · rw [s1] at hj
    rw [← hj, ← Nat.add_assoc]
    exact k1
theorem seatCells_one (l : List St) : ∀ u ∈ seatCells l, u.oneCell' = true := by
  intro u hu
  simp only [seatCells, List.mem_flatMap] at hu
  obtain ⟨s, _, hs⟩ := hu
  simp at hs
  rcases hs with rfl | rfl <;> rfl

set_option maxHeartbeats 1000000 in
theorem clone_any (e : Int) (A : Option Addr) (n c : Nat) (l : List St) (w : World) (h : Seats w A n c l) (h0 : 0 < n) (h1 : n ≤ 1000) :
    Calls Try.prog 68 #[.agg #[.int .i64 e, .slice A n c]] w fun x w' => (∃ A' c', x = .returned (.agg #[.int .i64 e, .slice A' n c']) ∧ OwnS w' w.heap.size (.slice A' n c') l ∧ (∀ kk, Value.ownBlock (.slice A' n c') = some kk → w.heap.size + 2 ≤ kk)) ∧ Below w.heap.size w w' := by
  obtain ⟨i0, hi0, hz0, hz1, hz2⟩ := info_parts info_seat
  have Hi0 := Lib.hid hi0
  have Hz0 := Lib.hid hz0
  have Hz1 := Lib.hid hz1
  have Hz2 := Lib.hid hz2
  clear hi0 hz0 hz1 hz2
  obtain ⟨b, off, rfl, hb, _⟩ := h.at 0 h0
  have HL := Lib.hid h.1
  have hs := seatCells_length l
  have HS := Lib.hid hs
  have HH := Lib.hid h
  clear h hs
  go_enter Try.func68, Try.ntmps68
  obtain ⟨W0, hW0⟩ : ∃ W0, W0 = (w.alloc (.cells #[.int .i64 e, .slice (some ⟨b, off, none⟩) n c] 50)).alloc (.cells #[.int .i64 0, .slice none 0 0] 50) := ⟨_, rfl⟩
  have hB0 : Below w.heap.size w W0 := by rw [hW0]; exact ((Below.refl _ _).alloc (Nat.le_refl _) _).alloc (by simp) _
  have hN0 := Lib.hid (seats_news (HH.out.keep hB0) h0)
  have hz0 : w.heap.size + 2 = W0.heap.size := by rw [hW0]; simp
  have hq0 : W0.heap[w.heap.size]? = some (.cells #[.int .i64 e, .slice (some ⟨b, off, none⟩) n c] 50 (0, 0)) := by rw [hW0]; exact (heap_alloc_old _ _ (by simp)).trans (heap_alloc_new w _)
  have hq1 : W0.heap[w.heap.size + 1]? = some (.cells #[.int .i64 0, .slice none 0 0] 50 (0, 0)) := by
    rw [hW0]
    have := heap_alloc_new (w.alloc (.cells #[.int .i64 e, .slice (some ⟨b, off, none⟩) n c] 50)) (.cells #[.int .i64 0, .slice none 0 0] 50)
    rw [show (w.alloc (.cells #[.int .i64 e, .slice (some ⟨b, off, none⟩) n c] 50)).heap.size = w.heap.size + 1 by simp] at this
    exact this
  have hown := World.ownsRow_nil W0 (w.heap.size + 2) 60 2
  have hbase : w.heap.size + 2 ≤ W0.heap.size := by omega
  rw [hW0] at hown hbase
  have HN0 : Hid (∀ j u, (seatCells l)[j]? = some u → ((w.alloc (.cells #[.int .i64 e, .slice (some ⟨b, off, none⟩) n c] 50)).alloc (.cells #[.int .i64 0, .slice none 0 0] 50)).cell? ((⟨b, off, none⟩ : Addr).add j) = some u) := Lib.hid (by rw [← hW0]; exact hN0.out)
  have HW0 := Lib.hid hW0
  have HB0 := Lib.hid hB0
  have HQ0 := Lib.hid hq0
  have HQ1 := Lib.hid hq1
  clear hN0 hq0 hq1 hz0 hB0 hW0
  have HF : Hid (∀ w1, ((w.alloc (.cells #[.int .i64 e, .slice (some ⟨b, off, none⟩) n c] 50)).alloc (.cells #[.int .i64 0, .slice none 0 0] 50)).grownBy w1 (Value.ownBlock (.slice none 0 0)) → Hid (w1.heap[w.heap.size]? = some (.cells #[.int .i64 e, .slice (some ⟨b, off, none⟩) n c] 50 (0, 0))) ∧ Hid (w1.heap[w.heap.size + 1]? = some (.cells #[.int .i64 0, .slice none 0 0] 50 (0, 0))) ∧ Hid (Below w.heap.size w w1)) := Lib.hid (fun w1 hg => by
    rw [← HW0.out] at hg
    refine ⟨Lib.hid ((hg.block _ (Array.getElem?_eq_some_iff.1 HQ0.out).1 (fun e => by cases e)).trans HQ0.out), Lib.hid ((hg.block _ (Array.getElem?_eq_some_iff.1 HQ1.out).1 (fun e => by cases e)).trans HQ1.out), Lib.hid (HB0.out.grown hg HB0.out.size (fun kk hk => by cases hk))⟩)
  go_wp2_with (at_builtin; go_must (refine wpList_append_own _ rfl (.const (.slice none 0 0)) (.tmp 4) 48 rfl (w.heap.size + 2) 60 i0 _ 2 24 Try.underlying48 Hi0.out Hz0.out Hz1.out Hz2.out rfl (by decide) _ _ _ (by rfl) hown ⟨b, off, none⟩ n c (seatCells l) (by rfl) (by rw [HS.out, HL.out]) HN0.out (seatCells_one l) (by unfold maxLen; omega) (by omega) hbase ?_); go_must (intro v1 w1 hown1 hg1 _); obtain ⟨VA, VC, rfl⟩ := own_shape hown1; obtain ⟨F0, F1, FB⟩ := HF.out w1 hg1; have c0 := cell_of_row w1 w.heap.size 0 _ _ _ F0.out; have c1 := cell_of_row w1 w.heap.size 1 _ _ _ F0.out; have f1 := frozen_of_row w1 w.heap.size 1 _ _ F0.out; have d0 := cell_of_row w1 (w.heap.size + 1) 0 _ _ _ F1.out; have d1 := cell_of_row w1 (w.heap.size + 1) 1 _ _ _ F1.out; have g0 := frozen_of_row w1 (w.heap.size + 1) 0 _ _ F1.out; have g1 := frozen_of_row w1 (w.heap.size + 1) 1 _ _ F1.out; simp at c0 c1 d0 d1; have HO1 := Lib.hid hown1; clear hown1 hg1)
  have hgA : w1.grownBy (w1.setCell ⟨w.heap.size, 1, none⟩ (.slice VA n VC)) (some w.heap.size) := only_setCell (only_of_below (Below.refl _ _) _) (p := ⟨w.heap.size, 1, none⟩) (.inl rfl) _
  have hr2 := blk_far F1.out hgA (by omega)
  have ho2 : OwnS w1 (w.heap.size + 2) (.slice VA n VC) l := by
    unfold OwnS
    rw [HL.out]
    have := HO1.out
    rw [Nat.zero_add] at this
    exact this
  have ho3 := ho2.far (b := w.heap.size) (by omega) hgA
  have hB3 := FB.out.grown hgA FB.out.size (fun kk hk => by have h := Option.some.inj hk; omega)
  generalize w1.setCell ⟨w.heap.size, 1, none⟩ (.slice VA n VC) = w2 at hgA hr2 ho3 hB3 ⊢
  obtain ⟨hs1, hs2⟩ := set_two w2 (w.heap.size + 1) _ _ _ (.int .i64 e) (.slice VA n VC) hr2
  refine bodyPost_ret (results_cell_row rfl _ _ (w.heap.size + 1) _ _ _ _ (by rfl) hs1 Try.underlying50 rfl (by kernel_rfl)) rfl ?_
  have ho4 := ho3.far (b := w.heap.size + 1) (by omega) hs2
  exact ⟨⟨VA, VC, rfl, ho4.lower (by omega), fun kk hk => (World.ownsRow.lt ho4 kk hk).1⟩, hB3.grown hs2 hB3.size (fun kk hk => by have h := Option.some.inj hk; omega)⟩

/-- How far a chain goes: the paper where it ends, how many certificates were taken, the error. -/
def walkV : Int → List St → List ByteArray → Nat → (Int × List St) × Nat × Int
  | e, l, [], i => ((e, l), i, 0)
  | e, l, x :: xs, i => match checkV e l x with
    | .error er => ((e, l), i, er)
    | .ok q => walkV q.1 q.2 xs (i + 1)
def walkF (e : Int) (l : List St) (xs : List ByteArray) : (Int × List St) × Nat × Int := if rightB e l = true then walkV e l xs 0 else ((0, []), 0, 4)
def WalkOut (w : World) (r : (Int × List St) × Nat × Int) (w' : World) (x : Ending) : Prop :=
  ∃ A c, x = .returned (.tuple #[.agg #[.int .i64 r.1.1, .slice A r.1.2.length c], .int .i64 (r.2.1 : Int), .int .i64 r.2.2]) ∧ OwnS w' w.heap.size (.slice A r.1.2.length c) r.1.2
def RWalkOut (r : (Int × List St) × Nat × Int) (w' : World) (x : Ending) : Prop :=
  ∃ A c, x = .returned (.tuple #[.agg #[.int .i64 r.1.1, .slice A r.1.2.length c], .int .i64 (r.2.1 : Int), .int .i64 r.2.2]) ∧ Seats w' A r.1.2.length c r.1.2
/-- Three results, the first one a paper in memory. -/
theorem results_paper3 {fn : Func} {p q r : Tmp} (h : fn.results = #[.cell p 50, .tmp q, .tmp r]) (tmps : Array Value) (w : World) (g : Nat) (cs : Array Value) (hs : cs.size = 2)
    (hp : tmps.getD p undef = .pointer (some ⟨g, 0, none⟩)) (hg : w.heap[g]? = some (.cells cs 50 (0, 0))) :
    (results fn tmps).run Try.prog w = .ok (.tuple #[.agg cs, tmps.getD q undef, tmps.getD r undef]) w := by
  have hp' : tmps[p]?.getD undef = .pointer (some ⟨g, 0, none⟩) := by simpa using hp
  have hl := run_loadVar_row (P := Try.prog) w g 50 50 cs (0, 0) _ hg Try.underlying50 rfl (by rw [hs]; kernel_rfl)
  simp [results, h, hp', asAddr, hl]
theorem check_err {e : Int} {l : List St} {x : ByteArray} {er : Int} (h : checkV e l x = .error er) : er ≠ 0 := by
  unfold checkV at h
  split at h
  · cases h; decide
  · split at h
    · cases h; decide
    · split at h
      · cases h; decide
      · split at h
        · cases h; decide
        · split at h
          · cases h; decide
          · cases h
end Go.Proofs.Ytljnadbfadgglaa

/- papers.Walk. Condition: each certificate that came in is a text that can be. -/
namespace Go.Proofs.Ytljnadbfadgglaa
open Go.RowKit
set_option maxRecDepth 100000
set_option linter.unusedVariables false
set_option linter.unusedSimpArgs false

set_option maxHeartbeats 4000000 in
theorem pwalk_any (oe : Int) (A : Option Addr) (n c : Nat) (old : List St) (CA : Option Addr) (m d : Nat) (xs : List ByteArray) (w : World) (hO : Seats w A n c old) (hT : Texts w CA m d xs) (hm63 : m ≤ 9223372036854775807) (hxs : ∀ i, i < m → (xs.getD i ByteArray.empty).size ≤ maxLen) :
    Calls Try.prog 36 #[.agg #[.int .i64 oe, .slice A n c], .slice CA m d] w fun e w' => WalkOut w (walkF oe old xs) w' e ∧ Below w.heap.size w w' := by
  have HR := fun w' (hb : Below w.heap.size w w') => Lib.hid (right_any oe A n c old w' (hO.keep hb))
  have HO := Lib.hid hO
  have HT := Lib.hid hT
  have HX := Lib.hid hxs
  have HML := Lib.hid hT.1
  cases hr : rightB oe old with
  | false =>
    rw [hr] at HR
    have HV : Hid (walkF oe old xs = ((0, []), 0, 4)) := Lib.hid (by unfold walkF; rw [hr]; rfl)
    clear hO hT hxs hr
    go_enter Try.func36, Try.ntmps36
    go_wp2_with fail
    obtain ⟨w0, hw0⟩ : ∃ w0, w0 = (w.alloc (.cells #[.int .i64 oe, .slice A n c] 50)).alloc (.cells #[.int .i64 0, .slice none 0 0] 50) := ⟨_, rfl⟩
    rw [← hw0]
    have hB0 : Below w.heap.size w w0 := by rw [hw0]; exact ((Below.refl _ _).alloc (Nat.le_refl _) _).alloc (by simp) _
    have hc0 : Hid (w0.heap[w.heap.size + 1]? = some (.cells #[.int .i64 0, .slice none 0 0] 50 (0, 0))) := Lib.hid (by
      rw [hw0]
      have := heap_alloc_new (w.alloc (.cells #[.int .i64 oe, .slice A n c] 50)) (.cells #[.int .i64 0, .slice none 0 0] 50)
      rw [show (w.alloc (.cells #[.int .i64 oe, .slice A n c] 50)).heap.size = w.heap.size + 1 by simp] at this
      exact this)
    clear hw0
    refine (HR w0 hB0).out.mono ?_
    rintro e w1 ⟨rfl, hb1⟩
    have hl := (Array.getElem?_eq_some_iff.1 hc0.out).1
    have hc1 := (hb1.block (w.heap.size + 1) hl).trans hc0.out
    have c0 := cell_of_row w1 (w.heap.size + 1) 0 _ _ _ hc1
    have c1 := cell_of_row w1 (w.heap.size + 1) 1 _ _ _ hc1
    have f0 := frozen_of_row w1 (w.heap.size + 1) 0 _ _ hc1
    have f1 := frozen_of_row w1 (w.heap.size + 1) 1 _ _ hc1
    simp at c0 c1
    have HC1 := Lib.hid hc1
    have HB1 := Lib.hid (hB0.trans (hb1.mono (by omega)))
    clear hb1 hc1 hB0 hc0 HR
    go_wp2_with fail
    obtain ⟨hs1, hs2⟩ := set_two w1 (w.heap.size + 1) _ _ _ (.int .i64 0) (.slice none 0 0) HC1.out
    refine bodyPost_ret (results_paper3 rfl _ _ (w.heap.size + 1) _ rfl (by rfl) hs1) rfl ?_
    rw [HV.out]
    exact ⟨⟨none, 0, rfl, OwnS.nil _ _⟩, HB1.out.grown hs2 HB1.out.size (fun kk h => by have := Option.some.inj h; omega)⟩
  | true =>
    rw [hr] at HR
    obtain ⟨f1, f2, f3, f4, _⟩ := right_facts hr
    have hln : old.length = n := hO.1
    rw [hln] at f3 f4
    have HLN := Lib.hid hln
    have HV : Hid (walkF oe old xs = walkV oe old xs 0) := Lib.hid (by unfold walkF; rw [hr]; rfl)
    have HCL := fun w' (hb : Below w.heap.size w w') => Lib.hid (clone_any oe A n c old w' (hO.keep hb) (by omega) (by omega))
    obtain ⟨RW, hRW⟩ : ∃ RW, RW = walkF oe old xs := ⟨_, rfl⟩
    rw [← hRW]
    have HRW : Hid (RW = walkV oe old xs 0) := Lib.hid (hRW.trans HV.out)
    clear hO hT hxs hr hln hRW HV
    go_enter Try.func36, Try.ntmps36
    go_wp2_with fail
    obtain ⟨w0, hw0⟩ : ∃ w0, w0 = (w.alloc (.cells #[.int .i64 oe, .slice A n c] 50)).alloc (.cells #[.int .i64 0, .slice none 0 0] 50) := ⟨_, rfl⟩
    rw [← hw0]
    have hB0 : Below w.heap.size w w0 := by rw [hw0]; exact ((Below.refl _ _).alloc (Nat.le_refl _) _).alloc (by simp) _
    have hp0 : Hid (w0.heap[w.heap.size]? = some (.cells #[.int .i64 oe, .slice A n c] 50 (0, 0))) := Lib.hid (by rw [hw0]; exact (heap_alloc_old _ _ (by simp)).trans (heap_alloc_new w _))
    have hc0 : Hid (w0.heap[w.heap.size + 1]? = some (.cells #[.int .i64 0, .slice none 0 0] 50 (0, 0))) := Lib.hid (by
      rw [hw0]
      have := heap_alloc_new (w.alloc (.cells #[.int .i64 oe, .slice A n c] 50)) (.cells #[.int .i64 0, .slice none 0 0] 50)
      rw [show (w.alloc (.cells #[.int .i64 oe, .slice A n c] 50)).heap.size = w.heap.size + 1 by simp] at this
      exact this)
    clear hw0
    refine (HR w0 hB0).out.mono ?_
    rintro e w1 ⟨rfl, hb1⟩
    have hl := (Array.getElem?_eq_some_iff.1 hc0.out).1
    have hc1 := Lib.hid ((hb1.block (w.heap.size + 1) hl).trans hc0.out)
    have hp1 := (hb1.block w.heap.size (by omega)).trans hp0.out
    have hB1 := hB0.trans (hb1.mono (by omega))
    have hz1 : w.heap.size + 2 ≤ w1.heap.size := by have := hb1.size; omega
    have HCL1 := HCL w1 hB1
    have HB1 := Lib.hid hB1
    have d0 := cell_of_row w1 w.heap.size 0 _ _ _ hp1
    have d1 := cell_of_row w1 w.heap.size 1 _ _ _ hp1
    simp at d0 d1
    clear hb1 hB0 hc0 hp0 HR hl HCL hp1 hB1
    go_wp2_with fail
    refine HCL1.out.mono ?_
    rintro e w2 ⟨⟨VA, VC, rfl, ho2, hk2⟩, hb2⟩
    have hc2 := Lib.hid ((hb2.block (w.heap.size + 1) (by omega)).trans hc1.out)
    have hB2 := Lib.hid (HB1.out.trans (hb2.mono (by omega)))
    have hz2 := hb2.size
    have hlt2 := Lib.hid (fun kk hk => (World.ownsRow.lt ho2 kk hk).2)
    clear hb2 hc1 HB1 d0 d1 HCL1
    have hal : Below w2.heap.size w2 (w2.alloc (.cells #[.int .i64 oe, .slice VA n VC] 50)) := (Below.refl _ _).alloc (Nat.le_refl _) _
    have ho3 := Lib.hid ((ho2.lower (b := w.heap.size) (by omega)).keep hal)
    have hp3 := Lib.hid (heap_alloc_new w2 (.cells #[.int .i64 oe, .slice VA n VC] 50))
    have hc3 := Lib.hid ((hal.block (w.heap.size + 1) (by omega)).trans hc2.out)
    have hB3 := Lib.hid (hB2.out.trans (hal.mono (by omega)))
    have hz3 : w2.heap.size < (w2.alloc (.cells #[.int .i64 oe, .slice VA n VC] 50)).heap.size := by simp
    have hne3 : Hid (∀ kk, Value.ownBlock (.slice VA n VC) = some kk → kk ≠ w2.heap.size ∧ kk ≠ w.heap.size + 1) := Lib.hid (fun kk hk => ⟨by have := hlt2.out kk hk; omega, by have := hk2 kk hk; omega⟩)
    clear ho2 hal hc2 hB2 hk2
    go_wp2_with fail
    obtain ⟨pb, hpb⟩ : ∃ pb, pb = w2.heap.size := ⟨_, rfl⟩
    rw [← hpb] at hp3 hz3 hne3
    rw [← hpb]
    have hpb1 : w.heap.size + 1 < pb := by omega
    generalize w2.alloc (.cells #[.int .i64 oe, .slice VA n VC] 50) = w3 at ho3 hp3 hc3 hB3 hz3 ⊢
    clear hpb hlt2
    go_loopw [20] (fun j wr => ∃ (k : Nat) (e : Int) (l : List St) (A' : Option Addr) (ln c' : Nat), k ≤ m ∧ j = .int .i64 k ∧ Hid (RW = walkV e l (xs.drop k) k) ∧ Hid (l.length = ln) ∧ Hid (wr.heap[pb]? = some (.cells #[.int .i64 e, .slice A' ln c'] 50 (0, 0))) ∧ Hid (OwnS wr w.heap.size (.slice A' ln c') l) ∧ Hid (∀ kk, Value.ownBlock (.slice A' ln c') = some kk → kk ≠ pb ∧ kk ≠ w.heap.size + 1) ∧ Hid (wr.heap[w.heap.size + 1]? = some (.cells #[.int .i64 0, .slice none 0 0] 50 (0, 0))) ∧ pb < wr.heap.size ∧ Hid (Below w.heap.size w wr)) (fun j _ => m - (intOf j).toNat)
    case atStart => exact ⟨0, oe, old, VA, n, VC, by omega, rfl, HRW, HLN, hp3, ho3, hne3, hc3, hz3, hB3⟩
    case round =>
      obtain ⟨k, e, l, A', ln, c', hk, rfl, hrw, hln, hp, ho, hne, hc, hz, hB⟩ := hrel
      have p0 := cell_of_row wr pb 0 _ _ _ hp.out
      have p1 := cell_of_row wr pb 1 _ _ _ hp.out
      have r0 := cell_of_row wr (w.heap.size + 1) 0 _ _ _ hc.out
      have r1 := cell_of_row wr (w.heap.size + 1) 1 _ _ _ hc.out
      simp at p0 p1 r0 r1
      by_cases hkm : k < m
      · have n0 : 0 ≤ (k : Int) := by omega
        have n1 : (k : Int) < (m : Int) := by omega
        obtain ⟨ad, rfl⟩ : ∃ ad, CA = some ad := by
          cases CA with
          | none => have := HT.out.2.2.1 rfl; omega
          | some ad => exact ⟨ad, rfl⟩
        obtain ⟨bt, off, h1, h2⟩ := HT.out.2.2.2 ad rfl
        obtain ⟨rfl, hbl⟩ := h1 (by omega)
        have ct := (hB.out.cell (p := ⟨bt, off + k, none⟩) hbl).trans (h2 k hkm)
        have hxk := HX.out k hkm
        have hd : xs.drop k = xs.getD k ByteArray.empty :: xs.drop (k + 1) := by
          have hl : k < xs.length := by have := HML.out; omega
          rw [List.drop_eq_getElem_cons hl, List.getD_eq_getElem?_getD, List.getElem?_eq_getElem hl]
          rfl
        have HRW2 : Hid (RW = match checkV e l (xs.getD k ByteArray.empty) with
            | .error er => ((e, l), k, er)
            | .ok q => walkV q.1 q.2 (xs.drop (k + 1)) (k + 1)) := Lib.hid (by rw [hrw.out, hd]; rfl)
        generalize xs.getD k ByteArray.empty = x at ct hxk HRW2
        have HCK := Lib.hid (pcheck_any e A' ln c' l x hxk wr ho.out.seats)
        clear h1 h2 hd hrw hxk
        go_wp2_with fail
        refine HCK.out.mono ?_
        rintro r w4 ⟨hout, hb4⟩
        have hp4 := Lib.hid ((hb4.block pb hz).trans hp.out)
        have hc4 := Lib.hid ((hb4.block (w.heap.size + 1) (by omega)).trans hc.out)
        have ho4 := Lib.hid (ho.out.keep hb4)
        have hB4 := Lib.hid (hB.out.trans (hb4.mono (by omega)))
        have hz4 := hb4.size
        clear p0 p1 r0 r1
        have p0 := cell_of_row w4 pb 0 _ _ _ hp4.out
        have p1 := cell_of_row w4 pb 1 _ _ _ hp4.out
        have f0 := frozen_of_row w4 pb 0 _ _ hp4.out
        have f1 := frozen_of_row w4 pb 1 _ _ hp4.out
        have r0 := cell_of_row w4 (w.heap.size + 1) 0 _ _ _ hc4.out
        have r1 := cell_of_row w4 (w.heap.size + 1) 1 _ _ _ hc4.out
        have g0 := frozen_of_row w4 (w.heap.size + 1) 0 _ _ hc4.out
        have g1 := frozen_of_row w4 (w.heap.size + 1) 1 _ _ hc4.out
        simp at p0 p1 r0 r1
        have hl1 : pb < w4.heap.size := by omega
        have hl2 : w.heap.size + 1 < w4.heap.size := by omega
        clear hb4 hp hc ho hB HCK ct
        cases hck : checkV e l x with
        | error er =>
          rw [hck] at hout
          have hout : r = .returned (.tuple #[.agg #[.int .i64 0, .slice none 0 0], .int .i64 er]) := hout
          subst hout
          have her : (er != 0) = true := by simpa using check_err hck
          have HRW3 : Hid (RW = ((e, l), k, er)) := Lib.hid (by rw [HRW2.out, hck])
          clear hck HRW2
          go_wp2_with fail
          obtain ⟨hs1, hs2⟩ := set_two w4 (w.heap.size + 1) _ _ _ (.int .i64 e) (.slice A' ln c') hc4.out
          have ho5 := ho4.out.other hs2 (fun kk hk e => (hne.out kk hk).2 (Option.some.inj e).symm)
          have hB5 := hB4.out.grown hs2 hB4.out.size (fun kk h => by have := Option.some.inj h; omega)
          have hz5 := hs2.size
          generalize (w4.setCell ⟨w.heap.size + 1, 0, none⟩ (.int .i64 e)).setCell ⟨w.heap.size + 1, 1, none⟩ (.slice A' ln c') = w5 at hs1 hs2 ho5 hB5 hz5 ⊢
          have hal : Below w5.heap.size w5 (w5.alloc (.cells #[.int .i64 0, .slice none 0 0] 50)) := (Below.refl _ _).alloc (Nat.le_refl _) _
          refine bodyPost_ret (results_paper3 rfl _ _ (w.heap.size + 1) _ rfl (by rfl) ((hal.block (w.heap.size + 1) (by omega)).trans hs1)) rfl ?_
          rw [HRW3.out]
          have hln' := hln.out
          subst hln'
          exact ⟨⟨A', c', rfl, ho5.keep hal⟩, hB5.trans (hal.mono (by omega))⟩
        | ok q =>
          rw [hck] at hout
          obtain ⟨QA, QC, rfl, hq⟩ := hout
          have HRW3 : Hid (RW = walkV q.1 q.2 (xs.drop (k + 1)) (k + 1)) := Lib.hid (by rw [HRW2.out, hck])
          have HQ := Lib.hid hq
          clear hck HRW2 hq
          go_wp2_with fail
          obtain ⟨hs1, hs2⟩ := set_two w4 pb _ _ _ (.int .i64 q.1) (.slice QA q.2.length QC) hp4.out
          have hqlt := World.ownsRow.lt HQ.out
          have hq5 := (HQ.out.lower (b := w.heap.size) (by omega)).other hs2 (fun kk hk e => by have h1 := (hqlt kk hk).1; have h2 := Option.some.inj e; omega)
          have hc5 := blk_far hc4.out hs2 (by omega)
          have hB5 := hB4.out.grown hs2 (by omega) (fun kk h => by have := Option.some.inj h; omega)
          have hz5 := hs2.size
          generalize (w4.setCell ⟨pb, 0, none⟩ (.int .i64 q.1)).setCell ⟨pb, 1, none⟩ (.slice QA q.2.length QC) = w5 at hs1 hs2 hq5 hc5 hB5 hz5 ⊢
          have hal : Below w5.heap.size w5 (w5.alloc (.cells #[.int .i64 q.1, .slice QA q.2.length QC] 50)) := (Below.refl _ _).alloc (Nat.le_refl _) _
          refine ⟨⟨k + 1, q.1, q.2, QA, q.2.length, QC, by omega, by go_num, HRW3, Lib.hid rfl, Lib.hid ((hal.block pb (by omega)).trans hs1), Lib.hid (hq5.keep hal), Lib.hid (fun kk hk => ⟨by have h1 := (hqlt kk hk).1; omega, by have h1 := (hqlt kk hk).1; omega⟩), Lib.hid ((hal.block (w.heap.size + 1) (by omega)).trans hc5), by have := hal.size; omega, Lib.hid (hB5.trans (hal.mono (by omega)))⟩, by simp [intOf]; omega⟩
      · obtain rfl : k = m := by omega
        have HRW3 : Hid (RW = ((e, l), k, 0)) := Lib.hid (by rw [hrw.out, List.drop_of_length_le (by have := HML.out; omega)]; rfl)
        have g0 := frozen_of_row wr (w.heap.size + 1) 0 _ _ hc.out
        have g1 := frozen_of_row wr (w.heap.size + 1) 1 _ _ hc.out
        clear hrw hkm
        go_wp2_with fail
        obtain ⟨hs1, hs2⟩ := set_two wr (w.heap.size + 1) _ _ _ (.int .i64 e) (.slice A' ln c') hc.out
        refine bodyPost_ret (results_paper3 rfl _ _ (w.heap.size + 1) _ rfl (by rfl) hs1) rfl ?_
        rw [HRW3.out]
        have hln' := hln.out
        subst hln'
        refine ⟨⟨A', c', rfl, ?_⟩, hB.out.grown hs2 hB.out.size (fun kk h => by have := Option.some.inj h; omega)⟩
        exact ho.out.other hs2 (fun kk hk e => (hne.out kk hk).2 (Option.some.inj e).symm)
end Go.Proofs.Ytljnadbfadgglaa

/- witanref08.Walk. Condition: each certificate that came in is a text that can be. -/
namespace Go.Proofs.Ytljnadbfadgglaa
open Go.RowKit
set_option maxRecDepth 100000
set_option linter.unusedVariables false
set_option linter.unusedSimpArgs false

theorem Seats.other {w w' : World} {A : Option Addr} {n c : Nat} {l : List St} {row : Option Nat} (h : Seats w A n c l) (hg : w.grownBy w' row) (hne : ∀ ad, A = some ad → row ≠ some ad.block) : Seats w' A n c l := by
  refine ⟨h.1, h.2.1, h.2.2.1, h.2.2.2.1, fun ad hh => ?_⟩
  obtain ⟨b, off, h1, h2⟩ := h.2.2.2.2 ad hh
  refine ⟨b, off, fun h0 => ⟨(h1 h0).1, Nat.lt_of_lt_of_le (h1 h0).2 hg.size⟩, fun i hi => ?_⟩
  obtain ⟨e, hl⟩ := h1 (by omega)
  have hb : some b ≠ row := by
    have := hne ad hh
    rw [e] at this
    exact fun e2 => this e2.symm
  exact ⟨(hg.cell_far ⟨b, off + i * 2, none⟩ hl hb).trans (h2 i hi).1, (hg.cell_far ⟨b, off + i * 2 + 1, none⟩ hl hb).trans (h2 i hi).2⟩

set_option maxHeartbeats 4000000 in
theorem rpwalk_any (oe : Int) (A : Option Addr) (n c : Nat) (old : List St) (CA : Option Addr) (m d : Nat) (xs : List ByteArray) (w : World) (hO : Seats w A n c old) (hT : Texts w CA m d xs) (hm63 : m ≤ 9223372036854775807) (hxs : ∀ i, i < m → (xs.getD i ByteArray.empty).size ≤ maxLen) :
    Calls Try.prog 37 #[.agg #[.int .i64 oe, .slice A n c], .slice CA m d] w fun e w' => RWalkOut (walkF oe old xs) w' e ∧ Below w.heap.size w w' := by
  have HR := fun w' (hb : Below w.heap.size w w') => Lib.hid (refright_any oe A n c old w' (hO.keep hb))
  have HO := Lib.hid hO
  have HT := Lib.hid hT
  have HX := Lib.hid hxs
  have HML := Lib.hid hT.1
  cases hr : rightB oe old with
  | false =>
    rw [hr] at HR
    have HV : Hid (walkF oe old xs = ((0, []), 0, 4)) := Lib.hid (by unfold walkF; rw [hr]; rfl)
    clear hO hT hxs hr
    go_enter Try.func37, Try.ntmps37
    go_wp2_with fail
    obtain ⟨w0, hw0⟩ : ∃ w0, w0 = (w.alloc (.cells #[.int .i64 oe, .slice A n c] 50)).alloc (.cells #[.int .i64 0, .slice none 0 0] 50) := ⟨_, rfl⟩
    rw [← hw0]
    have hB0 : Below w.heap.size w w0 := by rw [hw0]; exact ((Below.refl _ _).alloc (Nat.le_refl _) _).alloc (by simp) _
    have hc0 : Hid (w0.heap[w.heap.size + 1]? = some (.cells #[.int .i64 0, .slice none 0 0] 50 (0, 0))) := Lib.hid (by
      rw [hw0]
      have := heap_alloc_new (w.alloc (.cells #[.int .i64 oe, .slice A n c] 50)) (.cells #[.int .i64 0, .slice none 0 0] 50)
      rw [show (w.alloc (.cells #[.int .i64 oe, .slice A n c] 50)).heap.size = w.heap.size + 1 by simp] at this
      exact this)
    clear hw0
    refine (HR w0 hB0).out.mono ?_
    rintro e w1 ⟨rfl, hb1⟩
    have hl := (Array.getElem?_eq_some_iff.1 hc0.out).1
    have hc1 := (hb1.block (w.heap.size + 1) hl).trans hc0.out
    have c0 := cell_of_row w1 (w.heap.size + 1) 0 _ _ _ hc1
    have c1 := cell_of_row w1 (w.heap.size + 1) 1 _ _ _ hc1
    have f0 := frozen_of_row w1 (w.heap.size + 1) 0 _ _ hc1
    have f1 := frozen_of_row w1 (w.heap.size + 1) 1 _ _ hc1
    simp at c0 c1
    have HC1 := Lib.hid hc1
    have HB1 := Lib.hid (hB0.trans (hb1.mono (by omega)))
    clear hb1 hc1 hB0 hc0 HR
    go_wp2_with fail
    obtain ⟨hs1, hs2⟩ := set_two w1 (w.heap.size + 1) _ _ _ (.int .i64 0) (.slice none 0 0) HC1.out
    refine bodyPost_ret (results_paper3 rfl _ _ (w.heap.size + 1) _ rfl (by rfl) hs1) rfl ?_
    rw [HV.out]
    exact ⟨⟨none, 0, rfl, seats_nil _⟩, HB1.out.grown hs2 HB1.out.size (fun kk h => by have := Option.some.inj h; omega)⟩
  | true =>
    rw [hr] at HR
    obtain ⟨f1, f2, f3, f4, _⟩ := right_facts hr
    have hln : old.length = n := hO.1
    rw [hln] at f3 f4
    have HLN := Lib.hid hln
    have HV : Hid (walkF oe old xs = walkV oe old xs 0) := Lib.hid (by unfold walkF; rw [hr]; rfl)
    obtain ⟨ob, ooff, rfl, hob, _⟩ := hO.at 0 (by omega)
    obtain ⟨RW, hRW⟩ : ∃ RW, RW = walkF oe old xs := ⟨_, rfl⟩
    rw [← hRW]
    have HRW : Hid (RW = walkV oe old xs 0) := Lib.hid (hRW.trans HV.out)
    clear hO hT hxs hr hln hRW HV
    go_enter Try.func37, Try.ntmps37
    go_wp2_with fail
    obtain ⟨w0, hw0⟩ : ∃ w0, w0 = (w.alloc (.cells #[.int .i64 oe, .slice (some ⟨ob, ooff, none⟩) n c] 50)).alloc (.cells #[.int .i64 0, .slice none 0 0] 50) := ⟨_, rfl⟩
    rw [← hw0]
    have hB0 : Below w.heap.size w w0 := by rw [hw0]; exact ((Below.refl _ _).alloc (Nat.le_refl _) _).alloc (by simp) _
    have hp0 : Hid (w0.heap[w.heap.size]? = some (.cells #[.int .i64 oe, .slice (some ⟨ob, ooff, none⟩) n c] 50 (0, 0))) := Lib.hid (by rw [hw0]; exact (heap_alloc_old _ _ (by simp)).trans (heap_alloc_new w _))
    have hc0 : Hid (w0.heap[w.heap.size + 1]? = some (.cells #[.int .i64 0, .slice none 0 0] 50 (0, 0))) := Lib.hid (by
      rw [hw0]
      have := heap_alloc_new (w.alloc (.cells #[.int .i64 oe, .slice (some ⟨ob, ooff, none⟩) n c] 50)) (.cells #[.int .i64 0, .slice none 0 0] 50)
      rw [show (w.alloc (.cells #[.int .i64 oe, .slice (some ⟨ob, ooff, none⟩) n c] 50)).heap.size = w.heap.size + 1 by simp] at this
      exact this)
    clear hw0
    refine (HR w0 hB0).out.mono ?_
    rintro e w1 ⟨rfl, hb1⟩
    have hl := (Array.getElem?_eq_some_iff.1 hc0.out).1
    have hc1 := Lib.hid ((hb1.block (w.heap.size + 1) hl).trans hc0.out)
    have hp1 := (hb1.block w.heap.size (by omega)).trans hp0.out
    have hB1 := hB0.trans (hb1.mono (by omega))
    have hz1 : w.heap.size + 2 ≤ w1.heap.size := by have := hb1.size; omega
    have d0 := cell_of_row w1 w.heap.size 0 _ _ _ hp1
    have d1 := cell_of_row w1 w.heap.size 1 _ _ _ hp1
    simp at d0 d1
    have hwl : w.heap.size < w1.heap.size := by omega
    have HS1 := Lib.hid (HO.out.keep hB1)
    clear hb1 hB0 hc0 hp0 HR hl hp1
    have hal : Below w1.heap.size w1 (w1.alloc (.cells #[.int .i64 oe, .slice (some ⟨ob, ooff, none⟩) n c] 50)) := (Below.refl _ _).alloc (Nat.le_refl _) _
    have ho3 := Lib.hid (HS1.out.keep hal)
    have hp3 := Lib.hid (heap_alloc_new w1 (.cells #[.int .i64 oe, .slice (some ⟨ob, ooff, none⟩) n c] 50))
    have hc3 := Lib.hid ((hal.block (w.heap.size + 1) (by omega)).trans hc1.out)
    have hB3 := Lib.hid (hB1.trans (hal.mono (by omega)))
    have hz3 : w1.heap.size < (w1.alloc (.cells #[.int .i64 oe, .slice (some ⟨ob, ooff, none⟩) n c] 50)).heap.size := by simp
    have hne3 : Hid (∀ ad, (some ⟨ob, ooff, none⟩ : Option Addr) = some ad → ad.block ≠ w1.heap.size ∧ ad.block ≠ w.heap.size + 1) := Lib.hid (fun ad hk => by cases hk; exact ⟨by show ob ≠ _; omega, by show ob ≠ _; omega⟩)
    clear hal hc1 hB1
    go_wp2_with fail
    obtain ⟨pb, hpb⟩ : ∃ pb, pb = w1.heap.size := ⟨_, rfl⟩
    rw [← hpb] at hp3 hz3 hne3
    rw [← hpb]
    have hpb1 : w.heap.size + 1 < pb := by omega
    generalize w1.alloc (.cells #[.int .i64 oe, .slice (some ⟨ob, ooff, none⟩) n c] 50) = w3 at ho3 hp3 hc3 hB3 hz3 ⊢
    clear hpb
    go_loopw [8] (fun j wr => ∃ (k : Nat) (e : Int) (l : List St) (A' : Option Addr) (ln c' : Nat), k ≤ m ∧ j = .int .i64 k ∧ Hid (RW = walkV e l (xs.drop k) k) ∧ Hid (l.length = ln) ∧ Hid (wr.heap[pb]? = some (.cells #[.int .i64 e, .slice A' ln c'] 50 (0, 0))) ∧ Hid (Seats wr A' ln c' l) ∧ Hid (∀ ad, A' = some ad → ad.block ≠ pb ∧ ad.block ≠ w.heap.size + 1) ∧ Hid (wr.heap[w.heap.size + 1]? = some (.cells #[.int .i64 0, .slice none 0 0] 50 (0, 0))) ∧ pb < wr.heap.size ∧ Hid (Below w.heap.size w wr)) (fun j _ => m - (intOf j).toNat)
    case atStart => exact ⟨0, oe, old, some ⟨ob, ooff, none⟩, n, c, by omega, rfl, HRW, HLN, hp3, ho3, hne3, hc3, hz3, hB3⟩
    case round =>
      obtain ⟨k, e, l, A', ln, c', hk, rfl, hrw, hln, hp, ho, hne, hc, hz, hB⟩ := hrel
      by_cases hkm : k < m
      · have n0 : 0 ≤ (k : Int) := by omega
        have n1 : (k : Int) < (m : Int) := by omega
        obtain ⟨ad, rfl⟩ : ∃ ad, CA = some ad := by
          cases CA with
          | none => have := HT.out.2.2.1 rfl; omega
          | some ad => exact ⟨ad, rfl⟩
        obtain ⟨bt, off, h1, h2⟩ := HT.out.2.2.2 ad rfl
        obtain ⟨rfl, hbl⟩ := h1 (by omega)
        have ct := (hB.out.cell (p := ⟨bt, off + k, none⟩) hbl).trans (h2 k hkm)
        have hxk := HX.out k hkm
        have hd : xs.drop k = xs.getD k ByteArray.empty :: xs.drop (k + 1) := by
          have hl : k < xs.length := by have := HML.out; omega
          rw [List.drop_eq_getElem_cons hl, List.getD_eq_getElem?_getD, List.getElem?_eq_getElem hl]
          rfl
        have HRW2 : Hid (RW = match checkV e l (xs.getD k ByteArray.empty) with
            | .error er => ((e, l), k, er)
            | .ok q => walkV q.1 q.2 (xs.drop (k + 1)) (k + 1)) := Lib.hid (by rw [hrw.out, hd]; rfl)
        generalize xs.getD k ByteArray.empty = x at ct hxk HRW2
        have hqa : Below wr.heap.size wr (wr.alloc (.cells #[.int .i64 0, .slice none 0 0] 50)) := (Below.refl _ _).alloc (Nat.le_refl _) _
        have HCK := Lib.hid (fun w' (hb : Below wr.heap.size wr w') => rpcheck_any e A' ln c' l x hxk w' (ho.out.keep hb))
        have cta := (hqa.cell (p := ⟨bt, off + k, none⟩) (by have := hB.out.size; show bt < _; omega)).trans ct
        have p0 := cell_of_row wr pb 0 _ _ _ hp.out
        have p1 := cell_of_row wr pb 1 _ _ _ hp.out
        have hpa := (hqa.block pb hz).trans hp.out
        have pa0 := cell_of_row _ pb 0 _ _ _ hpa
        have pa1 := cell_of_row _ pb 1 _ _ _ hpa
        simp at p0 p1
        simp only [Array.getElem?_toList, List.getElem?_toArray, List.getElem?_cons_zero, List.getElem?_cons_succ] at pa0 pa1
        clear hpa
        clear h1 h2 hd hrw hxk
        cases hck : checkV e l x with
        | error er =>
          rw [hck] at HCK
          have HCK2 : Hid (∀ w', Below wr.heap.size wr w' → Calls Try.prog 35 #[.agg #[.int .i64 e, .slice A' ln c'], .string x] w' fun r w'' => r = .returned (.tuple #[.agg #[.int .i64 0, .slice none 0 0], .int .i64 er]) ∧ Below w'.heap.size w' w'') := HCK
          have her : (er != 0) = true := by simpa using check_err hck
          have HRW3 : Hid (RW = ((e, l), k, er)) := Lib.hid (by rw [HRW2.out, hck])
          clear hck HRW2 HCK
          have hdr : Below wr.heap.size wr wr.drew := ⟨rfl, rfl, rfl, Nat.le_refl _, fun _ _ => rfl⟩
          have hqa : Below wr.heap.size wr (wr.alloc (.cells #[.int .i64 0, .slice none 0 0] 50)) := (Below.refl _ _).alloc (Nat.le_refl _) _
          have hda : Below wr.heap.size wr (wr.alloc (.cells #[.int .i64 0, .slice none 0 0] 50)).drew := ⟨hqa.os, hqa.tape, hqa.output, hqa.size, hqa.block⟩
          go_wp2_with fail
          go_region_law ((go_simp; go_at_call 35; first | (refine (HCK2.out wr.drew hdr).mono ?_; rintro r w4 ⟨rfl, hb4⟩; have hb4 : Below wr.heap.size wr w4 := ⟨hb4.os, hb4.tape, hb4.output, hb4.size, hb4.block⟩) | (refine (HCK2.out (wr.alloc (.cells #[.int .i64 0, .slice none 0 0] 50)).drew hda).mono ?_; rintro r w4 ⟨rfl, hb4⟩; have hbd : Below (wr.alloc (.cells #[.int .i64 0, .slice none 0 0] 50)).heap.size (wr.alloc (.cells #[.int .i64 0, .slice none 0 0] 50)) w4 := ⟨hb4.os, hb4.tape, hb4.output, hb4.size, hb4.block⟩; have hq4 := (hbd.block wr.heap.size (by simp)).trans (heap_alloc_new wr (.cells #[.int .i64 0, .slice none 0 0] 50)); have q0 := cell_of_row w4 wr.heap.size 0 _ _ _ hq4; have q1 := cell_of_row w4 wr.heap.size 1 _ _ _ hq4; have qf0 := frozen_of_row w4 wr.heap.size 0 _ _ hq4; have qf1 := frozen_of_row w4 wr.heap.size 1 _ _ hq4; simp at q0 q1)))
          all_goals
            first
            | have hm4 := hq4
              obtain ⟨hs1, hs2⟩ := set_two w4 wr.heap.size _ _ _ (.int .i64 0) (.slice none 0 0) hq4
              have hbb : Below wr.heap.size wr w4 := hqa.trans (hbd.mono (by simp))
              have hz4 : wr.heap.size < w4.heap.size := by have := hbd.size; simp at this; omega
              have hbc := hbb.grown hs2 (by omega) (fun kk h => by have := Option.some.inj h; omega)
              have hz5 := hbc.size
              generalize (w4.setCell ⟨wr.heap.size, 0, none⟩ (.int .i64 0)).setCell ⟨wr.heap.size, 1, none⟩ (.slice none 0 0) = w5 at hbc hz5 ⊢
              clear hs1 hs2 hm4 hq4 hbd q0 q1 qf0 qf1
            | have hz4 := hb4.size
              have hal : Below w4.heap.size w4 (w4.alloc (.cells #[.int .i64 0, .slice none 0 0] 50)) := (Below.refl _ _).alloc (Nat.le_refl _) _
              have hbc := hb4.trans (hal.mono hz4)
              have hz5 := hbc.size
              generalize w4.alloc (.cells #[.int .i64 0, .slice none 0 0] 50) = w5 at hbc hz5 ⊢
            have hp5 := Lib.hid ((hbc.block pb hz).trans hp.out)
            have hc5 := Lib.hid ((hbc.block (w.heap.size + 1) (by omega)).trans hc.out)
            have ho5 := Lib.hid (ho.out.keep hbc)
            have hB5 := Lib.hid (hB.out.trans (hbc.mono (by omega)))
            clear hbc ct HCK2 p0 p1 pa0 pa1 cta hqa hda hdr
            have p0 := cell_of_row w5 pb 0 _ _ _ hp5.out
            have p1 := cell_of_row w5 pb 1 _ _ _ hp5.out
            have f0 := frozen_of_row w5 pb 0 _ _ hp5.out
            have f1 := frozen_of_row w5 pb 1 _ _ hp5.out
            have r0 := cell_of_row w5 (w.heap.size + 1) 0 _ _ _ hc5.out
            have r1 := cell_of_row w5 (w.heap.size + 1) 1 _ _ _ hc5.out
            have g0 := frozen_of_row w5 (w.heap.size + 1) 0 _ _ hc5.out
            have g1 := frozen_of_row w5 (w.heap.size + 1) 1 _ _ hc5.out
            simp at p0 p1 r0 r1
            go_wp2_with fail
            obtain ⟨hs1, hs2⟩ := set_two w5 (w.heap.size + 1) _ _ _ (.int .i64 e) (.slice A' ln c') hc5.out
            refine bodyPost_ret (results_paper3 rfl _ _ (w.heap.size + 1) _ rfl (by rfl) hs1) rfl ?_
            rw [HRW3.out]
            have hln' := hln.out
            subst hln'
            exact ⟨⟨A', c', rfl, ho5.out.other hs2 (fun ad hk e => (hne.out ad hk).2 (Option.some.inj e).symm)⟩, hB5.out.grown hs2 hB5.out.size (fun kk h => by have := Option.some.inj h; omega)⟩
        | ok q =>
          rw [hck] at HCK
          have HCK2 : Hid (∀ w', Below wr.heap.size wr w' → Calls Try.prog 35 #[.agg #[.int .i64 e, .slice A' ln c'], .string x] w' fun r w'' => (∃ A c, r = .returned (.tuple #[.agg #[.int .i64 q.1, .slice A q.2.length c], .int .i64 0]) ∧ OwnS w'' w'.heap.size (.slice A q.2.length c) q.2) ∧ Below w'.heap.size w' w'') := HCK
          have HRW3 : Hid (RW = walkV q.1 q.2 (xs.drop (k + 1)) (k + 1)) := Lib.hid (by rw [HRW2.out, hck])
          clear hck HRW2 HCK
          have hdr : Below wr.heap.size wr wr.drew := ⟨rfl, rfl, rfl, Nat.le_refl _, fun _ _ => rfl⟩
          have hqa : Below wr.heap.size wr (wr.alloc (.cells #[.int .i64 0, .slice none 0 0] 50)) := (Below.refl _ _).alloc (Nat.le_refl _) _
          have hda : Below wr.heap.size wr (wr.alloc (.cells #[.int .i64 0, .slice none 0 0] 50)).drew := ⟨hqa.os, hqa.tape, hqa.output, hqa.size, hqa.block⟩
          go_wp2_with fail
          go_region_law ((go_simp; go_at_call 35; first | (refine (HCK2.out wr.drew hdr).mono ?_; rintro r w4 ⟨⟨QA, QC, rfl, hq⟩, hb4⟩; have hb4 : Below wr.heap.size wr w4 := ⟨hb4.os, hb4.tape, hb4.output, hb4.size, hb4.block⟩) | (refine (HCK2.out (wr.alloc (.cells #[.int .i64 0, .slice none 0 0] 50)).drew hda).mono ?_; rintro r w4 ⟨⟨QA, QC, rfl, hq⟩, hb4⟩; have hbd : Below (wr.alloc (.cells #[.int .i64 0, .slice none 0 0] 50)).heap.size (wr.alloc (.cells #[.int .i64 0, .slice none 0 0] 50)) w4 := ⟨hb4.os, hb4.tape, hb4.output, hb4.size, hb4.block⟩; have hq4 := (hbd.block wr.heap.size (by simp)).trans (heap_alloc_new wr (.cells #[.int .i64 0, .slice none 0 0] 50)); have q0 := cell_of_row w4 wr.heap.size 0 _ _ _ hq4; have q1 := cell_of_row w4 wr.heap.size 1 _ _ _ hq4; have qf0 := frozen_of_row w4 wr.heap.size 0 _ _ hq4; have qf1 := frozen_of_row w4 wr.heap.size 1 _ _ hq4; simp at q0 q1)))
          all_goals
            first
            | have hm4 := hq4
              obtain ⟨hs1, hs2⟩ := set_two w4 wr.heap.size _ _ _ (.int .i64 q.1) (.slice QA q.2.length QC) hq4
              have hbb : Below wr.heap.size wr w4 := hqa.trans (hbd.mono (by simp))
              have hz4 : wr.heap.size < w4.heap.size := by have := hbd.size; simp at this; omega
              have hql : ∀ ad, QA = some ad → wr.heap.size < ad.block := fun ad hk => by subst hk; have := (World.ownsRow.lt hq ad.block rfl).1; simp at this; omega
              have HQ5 := Lib.hid (hq.seats.other hs2 (fun ad hk e => by have h1 := hql ad hk; have h2 := Option.some.inj e; omega))
              have HQL : Hid (∀ ad, QA = some ad → pb < ad.block) := Lib.hid (fun ad hk => by have := hql ad hk; omega)
              have hbc := hbb.grown hs2 (by omega) (fun kk h => by have := Option.some.inj h; omega)
              have hz5 := hbc.size
              generalize (w4.setCell ⟨wr.heap.size, 0, none⟩ (.int .i64 q.1)).setCell ⟨wr.heap.size, 1, none⟩ (.slice QA q.2.length QC) = w5 at hbc hz5 hs1 HQ5 ⊢
              have HN5 := Lib.hid hs1
              obtain ⟨nb, hnbe⟩ : ∃ nb, nb = wr.heap.size := ⟨_, rfl⟩
              have hnb : pb < nb := by omega
              rw [← hnbe] at HN5
              rw [← hnbe]
              clear hs1 hs2 hm4 hq4 hbd q0 q1 qf0 qf1 hql hbb hnbe hb4 hq
            | have hz4 := hb4.size
              have hql : ∀ ad, QA = some ad → wr.heap.size ≤ ad.block := fun ad hk => by subst hk; exact (World.ownsRow.lt hq ad.block rfl).1
              have hal : Below w4.heap.size w4 (w4.alloc (.cells #[.int .i64 q.1, .slice QA q.2.length QC] 50)) := (Below.refl _ _).alloc (Nat.le_refl _) _
              have hbc := hb4.trans (hal.mono hz4)
              have hz5 := hbc.size
              have HQ5 := Lib.hid (hq.seats.keep hal)
              have HQL : Hid (∀ ad, QA = some ad → pb < ad.block) := Lib.hid (fun ad hk => by have := hql ad hk; omega)
              have HN5 := Lib.hid (heap_alloc_new w4 (.cells #[.int .i64 q.1, .slice QA q.2.length QC] 50))
              obtain ⟨nb, hnbe⟩ : ∃ nb, nb = w4.heap.size := ⟨_, rfl⟩
              have hnb : pb < nb := by omega
              rw [← hnbe] at HN5
              generalize w4.alloc (.cells #[.int .i64 q.1, .slice QA q.2.length QC] 50) = w5 at hbc hz5 HQ5 HN5 ⊢
              rw [← hnbe]
              clear hal hql hnbe hb4 hq
            have hp5 := Lib.hid ((hbc.block pb hz).trans hp.out)
            have hc5 := Lib.hid ((hbc.block (w.heap.size + 1) (by omega)).trans hc.out)
            have hB5 := Lib.hid (hB.out.trans (hbc.mono (by omega)))
            have k0 := cell_of_row w5 nb 0 _ _ _ HN5.out
            have k1 := cell_of_row w5 nb 1 _ _ _ HN5.out
            simp at k0 k1
            clear hbc ct HCK2 p0 p1 pa0 pa1 cta hqa hda hdr
            have p0 := cell_of_row w5 pb 0 _ _ _ hp5.out
            have p1 := cell_of_row w5 pb 1 _ _ _ hp5.out
            have f0 := frozen_of_row w5 pb 0 _ _ hp5.out
            have f1 := frozen_of_row w5 pb 1 _ _ hp5.out
            have r0 := cell_of_row w5 (w.heap.size + 1) 0 _ _ _ hc5.out
            have r1 := cell_of_row w5 (w.heap.size + 1) 1 _ _ _ hc5.out
            have g0 := frozen_of_row w5 (w.heap.size + 1) 0 _ _ hc5.out
            have g1 := frozen_of_row w5 (w.heap.size + 1) 1 _ _ hc5.out
            simp at p0 p1 r0 r1
            go_wp2_with fail
            obtain ⟨hs1, hs2⟩ := set_two w5 pb _ _ _ (.int .i64 q.1) (.slice QA q.2.length QC) hp5.out
            have hq6 := HQ5.out.other hs2 (fun ad hk e => by have h1 := HQL.out ad hk; have h2 := Option.some.inj e; omega)
            have hc6 := blk_far hc5.out hs2 (by omega)
            have hB6 := hB5.out.grown hs2 (by omega) (fun kk h => by have := Option.some.inj h; omega)
            have hz6 := hs2.size
            refine ⟨⟨k + 1, q.1, q.2, QA, q.2.length, QC, by omega, by go_num, HRW3, Lib.hid rfl, Lib.hid hs1, Lib.hid hq6, Lib.hid (fun ad hk => ⟨by have h1 := HQL.out ad hk; omega, by have h1 := HQL.out ad hk; omega⟩), Lib.hid hc6, by omega, Lib.hid hB6⟩, by simp [intOf]; omega⟩
      · obtain rfl : k = m := by omega
        have HRW3 : Hid (RW = ((e, l), k, 0)) := Lib.hid (by rw [hrw.out, List.drop_of_length_le (by have := HML.out; omega)]; rfl)
        have p0 := cell_of_row wr pb 0 _ _ _ hp.out
        have p1 := cell_of_row wr pb 1 _ _ _ hp.out
        have r0 := cell_of_row wr (w.heap.size + 1) 0 _ _ _ hc.out
        have r1 := cell_of_row wr (w.heap.size + 1) 1 _ _ _ hc.out
        have g0 := frozen_of_row wr (w.heap.size + 1) 0 _ _ hc.out
        have g1 := frozen_of_row wr (w.heap.size + 1) 1 _ _ hc.out
        simp at p0 p1 r0 r1
        clear hrw hkm
        go_wp2_with fail
        obtain ⟨hs1, hs2⟩ := set_two wr (w.heap.size + 1) _ _ _ (.int .i64 e) (.slice A' ln c') hc.out
        refine bodyPost_ret (results_paper3 rfl _ _ (w.heap.size + 1) _ rfl (by rfl) hs1) rfl ?_
        rw [HRW3.out]
        have hln' := hln.out
        subst hln'
        exact ⟨⟨A', c', rfl, ho.out.other hs2 (fun ad hk e => (hne.out ad hk).2 (Option.some.inj e).symm)⟩, hB.out.grown hs2 hB.out.size (fun kk h => by have := Option.some.inj h; omega)⟩
end Go.Proofs.Ytljnadbfadgglaa

/- What the laws on chains share: the reach of a paper's seats that came in; append of seats in a region that draws; the block of a walk's paper. No condition. -/
namespace Go.Proofs.Ytljnadbfadgglaa
open Go.ChangeShapes Go.WideShapes Go.ChangeAt Go.RowKit
set_option maxRecDepth 100000
set_option linter.unusedVariables false
set_option linter.unusedSimpArgs false

theorem open_paper_sized {H : Type} {enc : TypeId × Value → H} {w : World} {held : Bool} {r : Reach} {b0 : Nat} {v : Value} {d : DataW H} {p : List MemPlace} {ts : List TypeId} {ds : List (DataW H)} {j : Nat}
    (hv : Value.okWide Try.prog w r b0 50 v) (h : DataW.Trod enc Try.prog w 0 (fun _ => true) held 50 v d p)
    (hsz : (DataW.weightsEach Try.prog ts ds).all (· ≤ reachBytes) = true) (ht : ts[j]? = some 50) (hd : ds[j]? = some d) :
    ∃ (e : Int) (A : Option Addr) (n c : Nat) (l : List St), v = .agg #[.int .i64 e, .slice A n c] ∧ Seats w A n c l ∧ n * 24 ≤ 140737488351232 := by
  obtain ⟨e, A, n, c, l, rfl, hS⟩ := open_paper hv h
  refine ⟨e, A, n, c, l, rfl, hS, ?_⟩
  obtain ⟨fuel, hf⟩ := h
  have hf' : DataW.trod enc Try.prog w 0 (fun _ => true) held fuel 50 [.int .i64 e, .slice A n c] = some (d, p) := by simpa [Value.cells] using hf
  obtain ⟨xs, m, _, hxs, _, hlen, hx⟩ := DataW.trod_struct Try.underlying50 hf'
  have k9 : Try.prog.cellsOf 3 = 1 := by kernel_rfl
  have k3 : Try.prog.cellsOf 48 = 1 := by kernel_rfl
  have k24 : Try.prog.bytesOf 60 = 24 := by kernel_rfl
  have h1 := hx 1 _ rfl
  clear hx hf hf' hv
  match xs, hlen with
  | [y0, y1], _ =>
    simp [k9, k3] at h1
    have hd' : d = .agg [y0.1, y1.1] := by simpa using congrArg Prod.fst hxs
    rcases Go.Deep.open_slice_pairs Try.underlying48 Try.underlying60 (by kernel_rfl) rfl rfl (by kernel_rfl) (by kernel_rfl) h1 with ⟨hcs, _⟩ | ⟨a, len, cap, m', k, V0, V1, D0, D1, P0, P1, hcs, hb, hl, hm, hmm, hx2, hi⟩
    · simp at hcs
      obtain ⟨_, rfl, _⟩ := hcs
      decide
    · simp at hcs
      obtain ⟨_, rfl, _⟩ := hcs
      have hy : y1.1 = .slice ((List.range n).map fun i => .agg [D0 i, D1 i]) ((List.range (m' - n)).map fun j => .agg [D0 (n + j), D1 (n + j)]) := congrArg Prod.fst hx2
      have hw := List.all_eq_true.1 hsz _ (DataW.weights_mem_each ht hd ((n + (m' - n)) * 24) (by
        rw [hd', hy]
        simp only [DataW.weights, Try.underlying50, Try.underlying48, DataW.weightsEach, List.map_cons, List.map_nil, List.mem_append, List.mem_cons, List.length_map, List.length_range, k24]
        simp))
      have hw2 : (n + (m' - n)) * 24 ≤ reachBytes := by simpa using hw
      simp only [reachBytes] at hw2
      omega

/-- append of seats to nothing, at a step of a region that draws. -/
theorem step_app_seats {ops : Array Oper} {o : Oper} {a : Act} {w : World} {K : Act → World → Prop} {Q : Exit → Act → World → Prop} {E : Prop} (hgd : o.guard = none) (x : Operand)
    (ho : o.op = .call { callee := .builtin .append, args := #[.const (.slice none 0 0), x], argTypes := #[48, 48] })
    (base : Nat) (A : Option Addr) (n c : Nat) (l : List St) (hS : Seats w A n c l) (hx : a.eval x = .slice A n c) (hz : n * 24 ≤ 140737488351232) (hbase : base ≤ w.heap.size)
    (h : ∀ VA VC w', OwnS w' base (.slice VA n VC) l → w.grownBy w' none → K (a.put o.dst (.slice VA n VC)) w') :
    if Region.wanted o (yielded ops a.tmps) = true then Oper.wp Try.prog o a w K Q else E := by
  obtain ⟨i0, hi0, hz0, hz1, hz2⟩ := info_parts info_seat
  have hln : l.length = n := hS.1
  have hc63 := hS.2.2.1
  have hnc := hS.2.1
  have hmax : maxLen = 9223372036854775807 := rfl
  have fin : ∀ (ad : Addr), A = some ad → (∀ j u, (seatCells l)[j]? = some u → w.cell? (ad.add j) = some u) → if Region.wanted o (yielded ops a.tmps) = true then Oper.wp Try.prog o a w K Q else E := by
    intro ad had hnews
    refine step_app hgd (.const (.slice none 0 0)) x 48 ho base 60 i0 _ 2 24 Try.underlying48 hi0 hz0 hz1 hz2 rfl (by decide) (.slice none 0 0) 0 [] (by rfl) (World.ownsRow_nil _ _ _ _) ad n c (seatCells l) (by rw [hx, had]) (by rw [seatCells_length, hln]) hnews (seatCells_one l) (by omega) (by omega) hbase ?_
    intro v' w' h1 h2
    obtain ⟨VA, VC, hv⟩ := own_shape h1
    rw [Nat.zero_add] at hv
    subst hv
    refine h VA VC w' ?_ h2
    unfold OwnS
    rw [hln]
    simpa using h1
  cases A with
  | none =>
    obtain ⟨rfl, rfl⟩ := hS.2.2.2.1 rfl
    have hl0 : l = [] := List.eq_nil_of_length_eq_zero hln
    subst hl0
    have hw : Region.wanted o (yielded ops a.tmps) = true := by simp [Region.wanted, hgd]
    rw [if_pos hw]
    have hr : (Builtin.append_ #[48, 48] o.type #[.slice none 0 0, .slice none 0 0]).run Try.prog w = .ok (.slice none 0 0) w := by
      simp [Builtin.append_, run_underlying Try.underlying48, sizeOf, typeInfo, hi0, Builtin.lenOf, Builtin.firstCells, loadCells, loadCellsFrom]
    have hr0 : a.eval (.const (.slice none 0 0)) = .slice none 0 0 := rfl
    unfold Oper.wp execOp
    simp only [ho, resolve, invoke, builtin, Sem.run_bind, Sem.run_pure, Result.andThen_ok, List.map_toArray, List.map_cons, List.map_nil, hx, hr0, hr]
    exact h none 0 w (OwnS.nil _ _) ⟨rfl, rfl, rfl, Nat.le_refl _, fun _ _ _ => rfl⟩
  | some ad =>
    refine fin ad rfl ?_
    by_cases h0 : 0 < n
    · obtain ⟨b, off, e, _, _⟩ := hS.at 0 h0
      cases e
      exact seats_news hS h0
    · obtain rfl : n = 0 := by omega
      have hl0 : l = [] := List.eq_nil_of_length_eq_zero hln
      subst hl0
      intro j u hj
      simp [seatCells] at hj

/-- A walk's paper's seats lie in a block that may be written. -/
def Marks (w : World) (A : Option Addr) (L B ab : Nat) : Prop := L = 0 ∨ ∃ g cur, A = some ⟨g, 0, none⟩ ∧ B ≤ g ∧ g < ab ∧ w.heap[g]? = some (.cells cur 60 (0, 0)) ∧ L * 2 ≤ cur.size
theorem OwnS.marks {w : World} {A : Option Addr} {c B : Nat} {l : List St} (h : OwnS w B (.slice A l.length c) l) : Marks w A l.length B w.heap.size := by
  rcases h.2 with ⟨h1, h2⟩ | ⟨g, cap, cur, hv, hb, hg, hn, hm, hcs, ht⟩
  · exact .inl h2
  · injection hv with e1 e2 e3
    subst e1
    exact .inr ⟨g, cur, rfl, hb, (Array.getElem?_eq_some_iff.1 hg).1, hg, by rw [hcs]; exact Nat.mul_le_mul_right _ hn⟩
theorem Marks.keep {w w' : World} {A : Option Addr} {L B ab : Nat} (h : Marks w A L B ab) (hb : Below w.heap.size w w') : Marks w' A L B ab := by
  rcases h with h | ⟨g, cur, h1, h2, h3, h4, h5⟩
  · exact .inl h
  · exact .inr ⟨g, cur, h1, h2, h3, (hb.block g (Array.getElem?_eq_some_iff.1 h4).1).trans h4, h5⟩
theorem Marks.more {w : World} {A : Option Addr} {L B ab ab' : Nat} (h : Marks w A L B ab) (hb : ab ≤ ab') : Marks w A L B ab' := by
  rcases h with h | ⟨g, cur, h1, h2, h3, h4, h5⟩
  · exact .inl h
  · exact .inr ⟨g, cur, h1, h2, by omega, h4, h5⟩

/-- Texts that came in can be. -/
theorem IsTexts.sizes {w : World} {a : Option Addr} {n c : Nat} {ss : List ByteArray} (h : IsTexts w a n c ss) : (∀ i, i < n → ((ss.take n).getD i ByteArray.empty).size ≤ maxLen) ∧ n ≤ 9223372036854775807 := by
  have hmax : maxLen = 9223372036854775807 := rfl
  rcases h with ⟨rfl, rfl, rfl, rfl⟩ | ⟨x, rfl, hl, hm, hz, hc, hs⟩
  · exact ⟨fun i hi => by omega, by omega⟩
  · refine ⟨fun i hi => ?_, by omega⟩
    have hi2 : i < ss.length := by omega
    rw [List.getD_eq_getElem?_getD, List.getElem?_take, if_pos hi, List.getElem?_eq_getElem hi2]
    exact hs _ (List.getElem_mem hi2)
end Go.Proofs.Ytljnadbfadgglaa
