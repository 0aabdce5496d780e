/- PapersTaken: a quorum's signatures are enough, one fewer isn't -/
import Derived.Test.YtljnadbfadgglaaS4
import Derived.Test.YtljnadbfadgglaaS1
import Derived.Test.YtljnadbfadgglaaS2
namespace Go.Proofs.Ytljnadbfadgglaa
open Go.ChangeShapes Go.WideShapes Go.ChangeAt Go.RowKit
open Go.ChangeMaps (open_string shut_string)
set_option maxRecDepth 100000
set_option linter.unusedVariables false
set_option linter.unusedSimpArgs false

namespace PapersTaken

theorem ptr_cell {w : World} {b n c k : Nat} {A : Option Addr} {bl : Nat → Nat} (h : w.ownsRow b 29 1 (.slice A n c) n (ptrs bl n)) (hk : k < n) : ∃ g, A = some ⟨g, 0, none⟩ ∧ w.cell? ⟨g, k, none⟩ = some (.pointer (some ⟨bl k, 0, none⟩)) := by
  rcases h.2 with ⟨_, h0⟩ | ⟨g, cap, cur, hv, _⟩
  · omega
  · injection hv with e1 _ _
    refine ⟨g, e1, ?_⟩
    subst e1
    have := World.ownsRow.cells h (g := g) rfl k (.pointer (some ⟨bl k, 0, none⟩)) (by unfold ptrs; simp [hk])
    rw [addr_plain, Nat.zero_add] at this
    exact this
theorem row_same {w w' : World} {b s n : Nat} {e : TypeId} {v : Value} {xs : List Value} (h : w.ownsRow b e s v n xs) (hg : ∀ g, v.ownBlock = some g → w'.heap[g]? = w.heap[g]?) : w'.ownsRow b e s v n xs := by
  refine ⟨h.1, ?_⟩
  rcases h.2 with h1 | ⟨g, cap, cur, rfl, h2, h3, h4⟩
  · exact .inl h1
  · exact .inr ⟨g, cap, cur, rfl, h2, (hg g rfl).trans h3, h4⟩
theorem live_long (n p : Int) (s : ByteArray) (hs : 100 < s.size) (W : World) :
    Calls Try.prog 14 #[.int .i64 n, .int .i64 p, .string s] W fun r w' => r = .returned (.bool true) ∧ Below W.heap.size W w' := by
  have h1 : (100 : Int) < (s.size : Int) := by omega
  go_enter Try.func14, Try.ntmps14
  go_wp2_with fail
  refine (lives8 W).mono ?_
  rintro r w1 ⟨rfl, hb1⟩
  go_wp2_with fail
  refine (lives8 w1).mono ?_
  rintro r w2 ⟨rfl, hb2⟩
  go_wp2_with fail
  go_ret
  exact ⟨rfl, hb1.trans (hb2.mono hb1.size)⟩

theorem Seats.tail {w : World} {g n c : Nat} {x : St} {r : List St} (h : Seats w (some ⟨g, 0, none⟩) (n + 1) c (x :: r)) : Seats w (some ⟨g, 2, none⟩) n (c - 1) r := by
  obtain ⟨b, off, e, hb, hc⟩ := h.at 0 (by omega)
  cases e
  have h1 := h.1
  have h2 := h.2.1
  have h3 := h.2.2.1
  refine ⟨by simpa using h1, by omega, by omega, (fun e => by cases e), fun ad had => ?_⟩
  cases had
  refine ⟨g, 2, fun _ => ⟨rfl, hb⟩, fun i hi => ?_⟩
  have := hc (i + 1) (by omega)
  rw [show 0 + (i + 1) * 2 = 2 + i * 2 by omega] at this
  exact this

/-- What was not touched by the signers. -/
def Calm (w w' : World) (bl : Nat → Nat) (N : Nat) : Prop := w.heap.size ≤ w'.heap.size ∧ ∀ x, x < w.heap.size → (∀ i, i < N → x ≠ bl i) → w'.heap[x]? = w.heap[x]?

set_option maxHeartbeats 4000000 in
theorem walk_short (n p : Int) (s : ByteArray) (hs : s.size ≤ 100) (W : World) :
    Calls Try.prog 14 #[.int .i64 n, .int .i64 p, .string s] W fun r w' => r = .returned (.bool true) ∧ Below W.heap.size W w' := by
  obtain ⟨i0, hi0, hz0, hz1, hz2⟩ := info_parts info_signed
  have Hi0 := Lib.hid hi0
  have Hz0 := Lib.hid hz0
  have Hz1 := Lib.hid hz1
  have Hz2 := Lib.hid hz2
  clear hi0 hz0 hz1 hz2
  have h1 : (s.size : Int) ≤ 100 := by omega
  obtain ⟨a, ha, ea⟩ := mod_nat n 3
  obtain ⟨E, hE, ee⟩ := mod_nat p 999
  rw [show ((3 : Nat) : Int) + 1 = 4 by omega] at ea
  rw [show ((999 : Nat) : Int) + 1 = 1000 by omega] at ee
  obtain ⟨N, hN⟩ : ∃ N, N = 4 + a := ⟨_, rfl⟩
  obtain ⟨E1, hE1⟩ : ∃ E1, E1 = E + 1 := ⟨_, rfl⟩
  have ea2 : (4 : Int) + (a : Int) = (N : Int) := by omega
  have ee2 : (E : Int) + 1 = (E1 : Int) := by omega
  have HTK := Lib.hid (taken_plain E N hE (by omega) (by omega) s (s ++ ⟨#[120]⟩))
  have HP1 := Lib.hid (fun w => paper_any E N (by omega) (by omega) s (by omega) w)
  have hsx : (s ++ (⟨#[120]⟩ : ByteArray)).size = s.size + 1 := by rw [ByteArray.size_append]; rfl
  have HP2 : Hid (∀ w, Calls Try.prog 41 #[.int .i64 (E1 : Int), .int .i64 4, .string (s ++ ⟨#[120]⟩)] w fun r w' => (∃ PA PC LA LC bl Bs, r = .returned (.tuple #[.agg #[.int .i64 (E1 : Int), .slice PA 4 PC], .slice LA 4 LC]) ∧ OwnS w' w.heap.size (.slice PA 4 PC) (numbered (rootK (s ++ ⟨#[120]⟩)) 0 4) ∧ w'.ownsRow w.heap.size 29 1 (.slice LA 4 LC) 4 (ptrs bl 4) ∧ Signers w' (s ++ ⟨#[120]⟩) w.heap.size bl Bs 4 ∧ Off (.slice PA 4 PC) bl Bs 4 ∧ Off (.slice LA 4 LC) bl Bs 4) ∧ Below w.heap.size w w') := Lib.hid (fun w => by
    have h := paper_any E1 4 (by omega) (by omega) (s ++ ⟨#[120]⟩) (by omega) w
    rw [show ((4 : Nat) : Int) = 4 from rfl] at h
    exact h)
  have hN4 : 4 ≤ N := by omega
  have hN7 : N ≤ 7 := by omega
  have hE1' : (E : Int) + 1 = (E1 : Int) := by omega
  have HE1 := Lib.hid hE1'
  clear hE1'
  rw [HE1.out] at HTK
  have HQ := Lib.hid (fun w => quorum_u N hN4 (by omega) w)
  obtain ⟨hq3, hqN⟩ := qr_le N hN4 hN7
  generalize hqd : qrN N = q at HTK HQ hq3 hqN
  clear hqd hN hE1
  go_enter Try.func14, Try.ntmps14
  go_wp2_with fail
  refine (lives8 W).mono ?_
  rintro r w1 ⟨rfl, hb1⟩
  have HBW1 := Lib.hid hb1
  have hz1 := hb1.size
  clear hb1
  go_wp2_with fail
  refine (HP1.out w1).mono ?_
  rintro r w2 ⟨⟨PA, PC, LA, LC, bl, Bs, rfl, hpa, hla, hsg, hofp, hofl⟩, hb2⟩
  have HBW2 := Lib.hid (HBW1.out.trans (hb2.mono hz1))
  have hz2 := hb2.size
  have HPA2 := Lib.hid hpa
  have HLA2 := Lib.hid hla
  have HSG2 := Lib.hid hsg
  have HOFP := Lib.hid hofp
  have HOFL := Lib.hid hofl
  clear hpa hla hsg hofp hofl hb2 HP1 HBW1
  have hal : Below w2.heap.size w2 (w2.alloc (.cells #[.int .i64 (E : Int), .slice PA N PC] 50)) := (Below.refl _ _).alloc (Nat.le_refl _) _
  have HV3 := Lib.hid (heap_alloc_new w2 (.cells #[.int .i64 (E : Int), .slice PA N PC] 50))
  have HBW3 := Lib.hid (HBW2.out.trans (hal.mono (by omega)))
  have HPA3 := Lib.hid (HPA2.out.keep hal)
  have HLA3 := Lib.hid (row_keep HLA2.out hal)
  have HSG3 := Lib.hid (HSG2.out.keep hal)
  have HLT2 := Lib.hid (fun i hi => HSG2.out.lt i hi)
  have hz3 : w2.heap.size < (w2.alloc (.cells #[.int .i64 (E : Int), .slice PA N PC] 50)).heap.size := by simp
  clear hal HPA2 HLA2 HSG2 HBW2
  have zx : (⟨#[120]⟩ : ByteArray).size = 1 := rfl
  go_wp2_with fail
  obtain ⟨ob, hob⟩ : ∃ ob, ob = w2.heap.size := ⟨_, rfl⟩
  rw [← hob] at HV3 hz3 HLT2 hz2
  rw [← hob]
  generalize w2.alloc (.cells #[.int .i64 (E : Int), .slice PA N PC] 50) = w3 at HV3 HBW3 HPA3 HLA3 HSG3 hz3 ⊢
  clear hob
  refine (HP2.out w3).mono ?_
  rintro r w4 ⟨⟨NA, NC, _, _, _, _, rfl, hna, _, _, _, _⟩, hb4⟩
  have HNA4 := Lib.hid hna
  have HV4 := Lib.hid ((hb4.block ob hz3).trans HV3.out)
  have HBW4 := Lib.hid (HBW3.out.trans (hb4.mono (by omega)))
  have HPA4 := Lib.hid (HPA3.out.keep hb4)
  have HLA4 := Lib.hid (row_keep HLA3.out hb4)
  have HSG4 := Lib.hid (HSG3.out.keep hb4)
  have hz4 := hb4.size
  clear hna hb4 HV3 HBW3 HPA3 HLA3 HSG3 HP2 hsx
  have hal : Below w4.heap.size w4 (w4.alloc (.cells #[.int .i64 (E1 : Int), .slice NA 4 NC] 50)) := (Below.refl _ _).alloc (Nat.le_refl _) _
  have HU5 := Lib.hid (heap_alloc_new w4 (.cells #[.int .i64 (E1 : Int), .slice NA 4 NC] 50))
  have HV5 := Lib.hid ((hal.block ob (by omega)).trans HV4.out)
  have HBW5 := Lib.hid (HBW4.out.trans (hal.mono (by omega)))
  have HPA5 := Lib.hid (HPA4.out.keep hal)
  have HLA5 := Lib.hid (row_keep HLA4.out hal)
  have HSG5 := Lib.hid (HSG4.out.keep hal)
  have HNA5 := Lib.hid (HNA4.out.keep hal)
  have hz5 : w4.heap.size < (w4.alloc (.cells #[.int .i64 (E1 : Int), .slice NA 4 NC] 50)).heap.size := by simp
  clear hal HV4 HBW4 HPA4 HLA4 HSG4 HNA4
  have hu0 := cell_of_row _ w4.heap.size 0 _ _ _ HU5.out
  have hu1 := cell_of_row _ w4.heap.size 1 _ _ _ HU5.out
  simp only [Array.getElem?_toList, List.getElem?_toArray, List.getElem?_cons_zero, List.getElem?_cons_succ] at hu0 hu1
  go_wp2_with fail
  obtain ⟨nb, hnb⟩ : ∃ nb, nb = w4.heap.size := ⟨_, rfl⟩
  have hbn : ob < nb := by omega
  have hwn : w3.heap.size ≤ nb := by omega
  rw [← hnb] at HU5 hz5
  rw [← hnb]
  generalize w4.alloc (.cells #[.int .i64 (E1 : Int), .slice NA 4 NC] 50) = w5 at HU5 HV5 HBW5 HPA5 HLA5 HSG5 HNA5 hz5 hu0 hu1 ⊢
  clear hnb hu0 hu1
  refine (bytes_u (E1 : Int) NA 4 NC _ w5 HNA5.out.seats).mono ?_
  rintro r w6 ⟨rfl, hb6⟩
  have HU6 := Lib.hid ((hb6.block nb hz5).trans HU5.out)
  have HV6 := Lib.hid ((hb6.block ob (by omega)).trans HV5.out)
  have HBW6 := Lib.hid (HBW5.out.trans (hb6.mono (by omega)))
  have HPA6 := Lib.hid (HPA5.out.keep hb6)
  have HLA6 := Lib.hid (row_keep HLA5.out hb6)
  have HSG6 := Lib.hid (HSG5.out.keep hb6)
  have HNA6 := Lib.hid (HNA5.out.keep hb6)
  have hz6 := hb6.size
  clear hb6 HU5 HV5 HBW5 HPA5 HLA5 HSG5 HNA5
  rw [HTK.out.bytes]
  have hts := bytesS_size (E1 : Int) (numbered (rootK (s ++ ⟨#[120]⟩)) 0 4)
  generalize bytesS (E1 : Int) (numbered (rootK (s ++ ⟨#[120]⟩)) 0 4) = text at HTK hts ⊢
  generalize numbered (rootK (s ++ ⟨#[120]⟩)) 0 4 = nx at HTK HNA6
  go_wp2_with fail
  refine (HQ.out w6).mono ?_
  rintro r w7 ⟨rfl, rfl⟩
  clear HQ
  go_wp2_with fail
  have HNEL : Hid (∀ g, Value.ownBlock (.slice LA N LC) = some g → ∀ i, i < N → g ≠ bl i) := Lib.hid (fun g hg i hi e => by
    have h1 := HOFL.out g hg i hi
    have h2 := ((HSG6.out.1 i hi).1).base
    omega)
  have HNEP : Hid (∀ g, Value.ownBlock (.slice PA N PC) = some g → ∀ i, i < N → g ≠ bl i) := Lib.hid (fun g hg i hi e => by
    have h1 := HOFP.out g hg i hi
    have h2 := ((HSG6.out.1 i hi).1).base
    omega)
  have HSZ : Hid (∀ i, (s ++ one i).size ≤ 4096) := Lib.hid (fun i => by rw [ByteArray.size_append, one_size]; omega)
  have hσ : Hid (∀ i, sigF s text i = sgn (s ++ one i) 0 text 3) := Lib.hid (fun _ => rfl)
  generalize sigF s text = σ at HTK hσ
  have hzw : W.heap.size ≤ w6.heap.size := HBW6.out.size
  go_loopw [14, 15] (fun v i wr => ∃ k : Nat, k ≤ q ∧ i = .int .i64 k ∧ Hid (wr.ownsRow w6.heap.size 75 2 v k (seatCells (numbered σ 0 k))) ∧ Hid (Calm w6 wr bl N) ∧ Hid (∀ i, k ≤ i → i < N → SignerAt wr (Bs i) (bl i) (s ++ one i) 3 0) ∧ Hid (Below W.heap.size W wr)) (fun _ i _ => q - (intOf i).toNat)
  case atStart => exact ⟨0, by omega, rfl, Lib.hid (World.ownsRow_nil _ _ _ _), Lib.hid ⟨Nat.le_refl _, fun _ _ _ => rfl⟩, Lib.hid (fun i _ hi => (HSG6.out.1 i hi).1), HBW6⟩
  case round =>
    obtain ⟨k, hk, rfl, hown, hcalm, hsig, hbel⟩ := hrel
    obtain ⟨VA, VC, rfl⟩ := own_shape hown.out
    by_cases hkq : k < q
    · have n0 : 0 ≤ (k : Int) := by omega
      have n1 : (k : Int) < (q : Int) := by omega
      have n2 : (k : Int) < (N : Int) := by omega
      obtain ⟨g, hLA, hc⟩ := ptr_cell (row_same HLA6.out (fun g hg => hcalm.out.2 g (World.ownsRow.lt HLA6.out g hg).2 (HNEL.out g hg))) (show k < N by omega)
      have hSK := ssign_yes text (by omega) (HSZ.out k) (show 3 ≤ 5 by decide) (show 0 < 2 ^ 3 by decide) (hsig.out k (Nat.le_refl _) (by omega))
      rw [← hσ.out] at hSK
      have HSK := Lib.hid hSK
      have HBK := Lib.hid (hsig.out k (Nat.le_refl _) (by omega)).base
      have HNS := Lib.hid (numbered_snoc σ k)
      have hlk : bl k < w6.heap.size := HSG6.out.lt k (by omega)
      have hbk : W.heap.size ≤ bl k := by have := HBK.out; have := (HSG6.out.1 k (by omega)).2; omega
      generalize σ k = sg at HSK HNS
      clear hkq hSK
      subst hLA
      go_wp2_with fail
      refine HSK.out.mono ?_
      rintro r w8 ⟨rfl, hs8, hg8⟩
      have hz6r := hcalm.out.1
      have hz8 := hg8.size
      have ho8 := row_blk hown.out hlk hg8
      have hcalm8 : Calm w6 w8 bl N := ⟨by omega, fun x hx hne => (hg8.block x (by omega) (fun e => hne k (by omega) (Option.some.inj e))).trans (hcalm.out.2 x hx hne)⟩
      have hsig8 : Hid (∀ i, k + 1 ≤ i → i < N → SignerAt w8 (Bs i) (bl i) (s ++ one i) 3 0) := Lib.hid (fun i hi hiN => (hsig.out i (by omega) hiN).far hg8 (.inl (HSG6.out.2 k i (by omega) hiN)))
      have hb8 := Lib.hid (hbel.out.grown hg8 hbel.out.size (fun kk hk => by have := Option.some.inj hk; omega))
      have halS : Below w8.heap.size w8 (w8.alloc (.cells #[.int .i64 (k : Int), .string sg] 75)) := (Below.refl _ _).alloc (Nat.le_refl _) _
      have hownS := row_keep ho8 halS
      have HOS := Lib.hid hownS
      have HAS := Lib.hid halS
      have HC8 := Lib.hid hcalm8
      have hbase : w6.heap.size ≤ (w8.alloc (.cells #[.int .i64 (k : Int), .string sg] 75)).heap.size := by have := halS.size; omega
      clear hs8 hg8 hown hcalm hsig hbel HSK ho8 hcalm8 halS hc
      go_wp2_with (at_builtin; go_must (refine wpList_append_own _ rfl (.tmp 90) (.tmp 94) 64 rfl w6.heap.size 75 i0 _ 2 24 Try.underlying64 Hi0.out Hz0.out Hz1.out Hz2.out rfl (by decide) _ _ _ (by rfl) hownS ⟨w8.heap.size, 0, none⟩ 1 1 [_, _] (by rfl) (by rfl) (World.news_of_block (cs := #[_, _]) (t := 75) (fr := (0, 0)) (heap_alloc_new w8 _)) (by simp [Value.oneCell']) (by unfold maxLen; omega) (by omega) hbase ?_); go_must (intro v1 wA hownA hgA _); have HOA := Lib.hid hownA; have HGA := Lib.hid hgA; clear hownA hgA hownS)
      have hbA := HAS.out
      have hzA := HGA.out.size
      have hzS := hbA.size
      have hz8' := HC8.out.1
      have hcA : Below w8.heap.size w8 wA → True := fun _ => trivial
      refine ⟨⟨k + 1, by omega, by go_num, Lib.hid (by rw [HNS.out, seatCells_snoc]; exact HOA.out), Lib.hid ⟨by omega, fun x hx hne => ?_⟩, Lib.hid (fun i hi hiN => ?_), Lib.hid ?_⟩, by simp [intOf]; omega⟩
      · exact (HGA.out.block x (by omega) (fun e => by have := (World.ownsRow.lt HOS.out _ e.symm).1; omega)).trans ((hbA.block x (by omega)).trans (HC8.out.2 x hx hne))
      · exact ((hsig8.out i hi hiN).keep hbA).row HGA.out (fun x e => .inr (by have h1 := (World.ownsRow.lt HOS.out x e).1; have h2 := HSG6.out.lt i hiN; omega))
      · exact (hb8.out.trans (hbA.mono (by have := hb8.out.size; omega))).grown HGA.out (by have := hb8.out.size; omega) (fun kk hk => by have := (World.ownsRow.lt HOS.out kk hk).1; omega)
    · obtain rfl : k = q := by omega
      have hcm := hcalm.out
      have hz9 := hcm.1
      have hlt := HLT2.out
      have HU9 := Lib.hid ((hcm.2 nb (by omega) (fun i hi => by have := hlt i hi; omega)).trans HU6.out)
      have HV9 := Lib.hid ((hcm.2 ob (by omega) (fun i hi => by have := hlt i hi; omega)).trans HV6.out)
      have HN9 := Lib.hid (OwnS.seats (row_same HNA6.out (fun g hg => hcm.2 g (World.ownsRow.lt HNA6.out g hg).2 (fun i hi => by have h1 := (World.ownsRow.lt HNA6.out g hg).1; have := hlt i hi; omega))))
      have HO9 := Lib.hid (OwnS.seats (row_same HPA6.out (fun g hg => hcm.2 g (World.ownsRow.lt HPA6.out g hg).2 (HNEP.out g hg))))
      have hgs : OwnP 75 wr w6.heap.size (.slice VA k VC) (numbered σ 0 k) := by
        unfold OwnP
        rw [numbered_length]
        exact hown.out
      obtain ⟨vg, rfl⟩ : ∃ vg, VA = some ⟨vg, 0, none⟩ := by
        rcases hown.out.2 with ⟨_, h0⟩ | ⟨g, cap, cur, hv, _⟩
        · omega
        · injection hv with e1 _ _
          exact ⟨g, e1⟩
      have HG9 := Lib.hid hgs.seats
      have hnz : nb < wr.heap.size := by omega
      have hoz : ob < wr.heap.size := by omega
      have HB9 := hbel
      clear hcm hlt hgs hown hcalm hsig hbel HSG6 HPA6 HLA6 HNA6 HU6 HV6 HBW6 HOFP HOFL HNEL HNEP HSZ hσ HLT2
      have u0 := cell_of_row wr nb 0 _ _ _ HU9.out
      have u1 := cell_of_row wr nb 1 _ _ _ HU9.out
      simp at u0 u1
      have HC1 := Lib.hid (certify_any (E1 : Int) NA 4 NC nx (some ⟨vg, 0, none⟩) k VC _ wr HN9.out HG9.out)
      clear hkq
      go_wp2_with fail
      refine HC1.out.mono ?_
      rintro r w10 ⟨rfl, hb10⟩
      rw [HTK.out.ok1]
      have HU10 := Lib.hid ((hb10.block nb hnz).trans HU9.out)
      have HV10 := Lib.hid ((hb10.block ob hoz).trans HV9.out)
      have HN10 := Lib.hid (HN9.out.keep hb10)
      have HO10 := Lib.hid (HO9.out.keep hb10)
      have HG10 := Lib.hid (HG9.out.keep hb10)
      have HB10 := Lib.hid (HB9.out.trans (hb10.mono (by omega)))
      have hz10 := hb10.size
      clear hb10 HU9 HV9 HN9 HO9 HG9 HB9 HC1 u0 u1
      have u0 := cell_of_row w10 nb 0 _ _ _ HU10.out
      have u1 := cell_of_row w10 nb 1 _ _ _ HU10.out
      simp at u0 u1
      have hVC : k ≤ VC := HG10.out.2.1
      have hVC1 : ¬ VC = 1 := by omega
      have hVC2 : (1 : Int) ≤ (VC : Int) := by omega
      have hk1 : (1 : Int) ≤ (k : Int) := by omega
      have hbd : Below w10.heap.size w10 w10.drew := ⟨rfl, rfl, rfl, Nat.le_refl _, fun _ _ => rfl⟩
      have HR10 : Hid (Seats w10 (some ⟨vg, 2, none⟩) (k - 1) (VC - 1) (numbered σ 1 (k - 1))) := Lib.hid (by
        have h := HG10.out
        rw [show k = k - 1 + 1 by omega, numbered_succ] at h
        exact Seats.tail h)
      have HC2 := Lib.hid (certify_any (E1 : Int) NA 4 NC nx (some ⟨vg, 2, none⟩) (k - 1) (VC - 1) _ w10.drew (HN10.out.keep hbd) (HR10.out.keep hbd))
      clear hbd
      go_wp2_with fail
      go_region_law ((go_simp; go_at_call 38; refine HC2.out.mono ?_; rintro r w11 ⟨rfl, hb11⟩))
      all_goals
        have hb11' : Below w10.heap.size w10 w11 := ⟨hb11.os, hb11.tape, hb11.output, hb11.size, hb11.block⟩
        rw [HTK.out.ok2]
        have HU11 := Lib.hid ((hb11'.block nb (by omega)).trans HU10.out)
        have HV11 := Lib.hid ((hb11'.block ob (by omega)).trans HV10.out)
        have HN11 := Lib.hid (HN10.out.keep hb11')
        have HO11 := Lib.hid (HO10.out.keep hb11')
        have HG11 := Lib.hid (HG10.out.keep hb11')
        have HR11 := Lib.hid (HR10.out.keep hb11')
        have HB11 := Lib.hid (HB10.out.trans (hb11'.mono (by have := HB10.out.size; omega)))
        have hz11 := hb11'.size
        clear hb11 hb11' HU10 HV10 HN10 HO10 HG10 HR10 HB10 HC2 u0 u1
        obtain ⟨gb, goff, hge, hgl, hgc⟩ := HG11.out.at 0 (by omega)
        cases hge
        have s0 := (hgc 0 (by omega)).1
        have s1 := (hgc 0 (by omega)).2
        rw [numbered_get σ 0 k 0 (by omega)] at s0 s1
        simp only [Nat.zero_mul, Nat.zero_add, Nat.add_zero] at s0 s1
        have hnews := seats_news HR11.out (by omega)
        have HNW := Lib.hid hnews
        have hl1 : (seatCells (numbered σ 1 (k - 1))).length = (k - 1) * 2 := by rw [seatCells_length, numbered_length]
        have HL1 := Lib.hid hl1
        have hk00 : 0 < k := by omega
        have hbd : Below w11.heap.size w11 w11.drew := ⟨rfl, rfl, rfl, Nat.le_refl _, fun _ _ => rfl⟩
        have hb0 : Below w11.heap.size w11 (w11.alloc (.cells #[.int .i64 0, .string (σ 0)] 75)) := (Below.refl _ _).alloc (Nat.le_refl _) _
        have hbB : Below w11.heap.size w11 (w11.alloc (.cells #[.int .i64 0, .string (σ 0)] 75)).drew := ⟨hb0.os, hb0.tape, hb0.output, hb0.size, hb0.block⟩
        have hblk : (w11.alloc (.cells #[.int .i64 0, .string (σ 0)] 75)).drew.heap[w11.heap.size]? = some (.cells #[.int .i64 0, .string (σ 0)] 75) := heap_alloc_new w11 _
        have hszB : w11.heap.size < (w11.alloc (.cells #[.int .i64 0, .string (σ 0)] 75)).drew.heap.size := (Array.getElem?_eq_some_iff.1 hblk).1
        have HNQ : Hid (∀ wX, Below w11.heap.size w11 wX → ∀ j u, (seatCells (numbered σ 1 (k - 1)))[j]? = some u → wX.cell? ((⟨vg, 2, none⟩ : Addr).add j) = some u) := Lib.hid (fun wX hb => seats_news (HR11.out.keep hb) (by omega))
        have HBB := Lib.hid hbB
        have HBK := Lib.hid hblk
        have HBD := Lib.hid hbd
        clear hgc hnews hl1 hb0 hbB hblk hbd
        go_wp2_with fail
        go_region_law (first
          | (refine step_app (by rfl) (.tmp 109) (.tmp 111) 64 (by rfl) w11.heap.size 75 i0 _ 2 24 Try.underlying64 Hi0.out Hz0.out Hz1.out Hz2.out rfl (by decide) (.slice none 0 0) 0 [] (by rfl) (World.ownsRow_nil _ _ _ _) ⟨vg, 2, none⟩ (k - 1) (VC - 1) (seatCells (numbered σ 1 (k - 1))) (by rfl) HL1.out (HNQ.out w11.drew HBD.out) (seatCells_one _) (by unfold maxLen; omega) (by omega) (Nat.le_refl _) ?_; intro v1 w12 hown1 hg1; have hb12 : Below w11.heap.size w11 w12 := HBD.out.grown hg1 (Nat.le_refl _) (fun kk hk => by cases hk); have t0 := (hb12.cell (p := ⟨vg, 0, none⟩) hgl).trans s0; have t1 := (hb12.cell (p := ⟨vg, 1, none⟩) hgl).trans s1)
          | (refine step_app (by rfl) (.tmp 109) (.tmp 111) 64 (by rfl) w11.heap.size 75 i0 _ 2 24 Try.underlying64 Hi0.out Hz0.out Hz1.out Hz2.out rfl (by decide) (.slice none 0 0) 0 [] (by rfl) (World.ownsRow_nil _ _ _ _) ⟨vg, 2, none⟩ (k - 1) (VC - 1) (seatCells (numbered σ 1 (k - 1))) (by rfl) HL1.out (HNQ.out (w11.alloc (.cells #[.int .i64 0, .string (σ 0)] 75)).drew HBB.out) (seatCells_one _) (by unfold maxLen; omega) (by omega) (Nat.le_of_lt hszB) ?_; intro v1 w12 hown1 hg1; have hb12 : Below w11.heap.size w11 w12 := HBB.out.grown hg1 (Nat.le_of_lt hszB) (fun kk hk => by cases hk); have hblk12 := (hg1.block w11.heap.size hszB (fun e => by cases e)).trans HBK.out)
          | (refine step_app (by rfl) (.tmp 112) (.tmp 116) 64 (by rfl) w11.heap.size 75 i0 _ 2 24 Try.underlying64 Hi0.out Hz0.out Hz1.out Hz2.out rfl (by decide) _ _ _ (by rfl) (World.ownsRow.alloc hown1 _) ⟨w12.heap.size, 0, none⟩ 1 1 [_, _] (by rfl) (by rfl) (World.news_of_block (cs := #[_, _]) (t := 75) (fr := (0, 0)) (heap_alloc_new w12 _)) (by simp [Value.oneCell']) (by unfold maxLen; omega) (by omega) (by have := hb12.size; simp; omega) ?_; intro v2 w13 hown2 hg2; have hb13 : Below w11.heap.size w11 w13 := (hb12.alloc hb12.size (.cells #[.int .i64 0, .string (σ 0)] 75)).grown hg2 (by have := hb12.size; simp; omega) (fun kk hk => (World.ownsRow.lt hown1 kk hk).1))
          | (refine step_app (by rfl) (.tmp 112) (.tmp 116) 64 (by rfl) w11.heap.size 75 i0 _ 2 24 Try.underlying64 Hi0.out Hz0.out Hz1.out Hz2.out rfl (by decide) _ _ _ (by rfl) hown1 ⟨w11.heap.size, 0, none⟩ 1 1 [_, _] (by rfl) (by rfl) (World.news_of_block (cs := #[_, _]) (t := 75) (fr := (0, 0)) hblk12) (by simp [Value.oneCell']) (by unfold maxLen; omega) (by omega) hb12.size ?_; intro v2 w13 hown2 hg2; have hb13 : Below w11.heap.size w11 w13 := hb12.grown hg2 hb12.size (fun kk hk => (World.ownsRow.lt hown1 kk hk).1)))
        all_goals
          obtain ⟨m2, hm2⟩ : ∃ m2, m2 = 0 + (k - 1) + 1 := ⟨_, rfl⟩
          rw [← hm2] at hown2
          obtain ⟨VA2, VC2, rfl⟩ := own_shape hown2
          have HG13 := Lib.hid (OwnP.seats (T := 75) (base := w11.heap.size) (l := numbered σ 1 (k - 1) ++ [((0 : Int), σ 0)]) (show OwnP _ w13 _ (.slice VA2 m2 VC2) _ by
            unfold OwnP
            rw [List.length_append, numbered_length, seatCells_snoc]
            rw [show (k - 1 + [((0 : Int), σ 0)].length) = m2 by simp; omega]
            exact hown2))
          clear hm2
          have HU13 := Lib.hid ((hb13.block nb (by omega)).trans HU11.out)
          have HV13 := Lib.hid ((hb13.block ob (by omega)).trans HV11.out)
          have HN13 := Lib.hid (HN11.out.keep hb13)
          have HO13 := Lib.hid (HO11.out.keep hb13)
          have HB13 := Lib.hid (HB11.out.trans (hb13.mono (by have := HB11.out.size; omega)))
          have hz13 := hb13.size
          have HC3 := Lib.hid (certify_any (E1 : Int) NA 4 NC nx VA2 m2 VC2 _ w13 HN13.out HG13.out)
          have HK1 := Lib.hid (fun w' (h : Seats w' PA N PC (numbered (rootK s) 0 N)) => pcheck_any (E : Int) PA N PC (numbered (rootK s) 0 N) _ HTK.out.sz1 w' h)
          have HK2 := Lib.hid (fun w' (h : Seats w' PA N PC (numbered (rootK s) 0 N)) => pcheck_any (E : Int) PA N PC (numbered (rootK s) 0 N) _ HTK.out.sz2 w' h)
          have HK3 := Lib.hid (fun w' (h : Seats w' PA N PC (numbered (rootK s) 0 N)) => pcheck_any (E : Int) PA N PC (numbered (rootK s) 0 N) _ HTK.out.sz3 w' h)
          have HK4 := Lib.hid (fun w' (h : Seats w' NA 4 NC nx) => pcheck_any (E1 : Int) NA 4 NC nx _ HTK.out.sz1 w' h)
          simp only [HTK.out.ck1, HE1.out] at HK1
          simp only [HTK.out.ck2] at HK2
          simp only [HTK.out.ck3] at HK3
          simp only [HTK.out.ck4] at HK4
          have hok3 := HTK.out.ok3
          generalize (certV (↑E1) nx (numbered σ 0 k)).1 = x1 at HK1 HK4 ⊢
          generalize (certV (↑E1) nx (numbered σ 1 (k - 1))).1 = x2 at HK2 ⊢
          clear hb13 hown2 hg2 HU11 HV11 HN11 HO11 HG11 HR11 HB11 HNW HL1 HNQ HBB HBK HBD hgl hown1 hg1 hb12 s0 s1
          have u0 := cell_of_row w13 nb 0 _ _ _ HU13.out
          have u1 := cell_of_row w13 nb 1 _ _ _ HU13.out
          simp only [Array.getElem?_toList, List.getElem?_toArray, List.getElem?_cons_zero, List.getElem?_cons_succ] at u0 u1
          go_wp2_with fail
          refine HC3.out.mono ?_
          rintro r w14 ⟨rfl, hb14⟩
          rw [hok3]
          generalize (certV (↑E1) nx (numbered σ 1 (k - 1) ++ [((0 : Int), σ 0)])).1 = x3 at HK3 ⊢
          have HU14 := Lib.hid ((hb14.block nb (by omega)).trans HU13.out)
          have HV14 := Lib.hid ((hb14.block ob (by omega)).trans HV13.out)
          have HN14 := Lib.hid (HN13.out.keep hb14)
          have HO14 := Lib.hid (HO13.out.keep hb14)
          have HB14 := Lib.hid (HB13.out.trans (hb14.mono (by have := HB13.out.size; omega)))
          have hz14 := hb14.size
          clear hb14 HU13 HV13 HN13 HO13 HG13 HB13 HC3 HTK hok3 u0 u1
          have u0 := cell_of_row w14 ob 0 _ _ _ HV14.out
          have u1 := cell_of_row w14 ob 1 _ _ _ HV14.out
          simp only [Array.getElem?_toList, List.getElem?_toArray, List.getElem?_cons_zero, List.getElem?_cons_succ] at u0 u1
          go_wp2_with fail
          refine (HK1.out w14 HO14.out).mono ?_
          rintro r w15 ⟨⟨RA, RC, rfl, hra⟩, hb15⟩
          have hrn : nx.length = 4 := by have := HN14.out.1; omega
          have hra' := hra
          simp only [hrn] at hra ⊢
          have hal : Below w15.heap.size w15 (w15.alloc (.cells #[.int .i64 (E1 : Int), .slice RA 4 RC] 50)) := (Below.refl _ _).alloc (Nat.le_refl _) _
          have hb16 : Below w14.heap.size w14 (w15.alloc (.cells #[.int .i64 (E1 : Int), .slice RA 4 RC] 50)) := hb15.trans (hal.mono hb15.size)
          have HRA16 := Lib.hid (hra'.seats.keep hal)
          simp only [hrn] at HRA16
          have HQ16 := Lib.hid (heap_alloc_new w15 (.cells #[.int .i64 (E1 : Int), .slice RA 4 RC] 50))
          have HU16 := Lib.hid ((hb16.block nb (by omega)).trans HU14.out)
          have HV16 := Lib.hid ((hb16.block ob (by omega)).trans HV14.out)
          have HN16 := Lib.hid (HN14.out.keep hb16)
          have HO16 := Lib.hid (HO14.out.keep hb16)
          have HB16 := Lib.hid (HB14.out.trans (hb16.mono (by have := HB14.out.size; omega)))
          have hz16 : w15.heap.size < (w15.alloc (.cells #[.int .i64 (E1 : Int), .slice RA 4 RC] 50)).heap.size := by simp
          have hz15 := hb15.size
          clear hal hb15 hb16 hra hra' HU14 HV14 HN14 HO14 HB14 HK1 u0 u1 hrn
          have u0 := cell_of_row _ ob 0 _ _ _ HV16.out
          have u1 := cell_of_row _ ob 1 _ _ _ HV16.out
          simp only [Array.getElem?_toList, List.getElem?_toArray, List.getElem?_cons_zero, List.getElem?_cons_succ] at u0 u1
          go_wp2_with fail
          obtain ⟨qb, hqb⟩ : ∃ qb, qb = w15.heap.size := ⟨_, rfl⟩
          rw [← hqb] at HQ16 hz16 hz15
          rw [← hqb]
          generalize w15.alloc (.cells #[.int .i64 (E1 : Int), .slice RA 4 RC] 50) = w16 at HRA16 HQ16 HU16 HV16 HN16 HO16 HB16 hz16 ⊢
          clear hqb
          refine (HK2.out w16 HO16.out).mono ?_
          rintro r w17 ⟨rfl, hb17⟩
          have hz17 := hb17.size
          have HU17 := Lib.hid ((hb17.block nb (by omega)).trans HU16.out)
          have HV17 := Lib.hid ((hb17.block ob (by omega)).trans HV16.out)
          have HQ17 := Lib.hid ((hb17.block qb (by omega)).trans HQ16.out)
          have HN17 := Lib.hid (HN16.out.keep hb17)
          have HO17 := Lib.hid (HO16.out.keep hb17)
          have HRA17 := Lib.hid (HRA16.out.keep hb17)
          have HB17 := Lib.hid (HB16.out.trans (hb17.mono (by have := HB16.out.size; omega)))
          clear hb17 HU16 HV16 HQ16 HN16 HO16 HRA16 HB16 HK2
          have u0 := cell_of_row w17 ob 0 _ _ _ HV17.out
          have u1 := cell_of_row w17 ob 1 _ _ _ HV17.out
          simp only [Array.getElem?_toList, List.getElem?_toArray, List.getElem?_cons_zero, List.getElem?_cons_succ] at u0 u1
          go_wp2_with fail
          refine (HK3.out w17 HO17.out).mono ?_
          rintro r w18 ⟨rfl, hb18⟩
          have hal : Below w18.heap.size w18 (w18.alloc (.cells #[.int .i64 0, .slice none 0 0] 50)) := (Below.refl _ _).alloc (Nat.le_refl _) _
          have hb19 : Below w17.heap.size w17 (w18.alloc (.cells #[.int .i64 0, .slice none 0 0] 50)) := hb18.trans (hal.mono hb18.size)
          have hz19 : w18.heap.size < (w18.alloc (.cells #[.int .i64 0, .slice none 0 0] 50)).heap.size := by simp
          have hz18 := hb18.size
          have HU19 := Lib.hid ((hb19.block nb (by omega)).trans HU17.out)
          have HQ19 := Lib.hid ((hb19.block qb (by omega)).trans HQ17.out)
          have HN19 := Lib.hid (HN17.out.keep hb19)
          have HRA19 := Lib.hid (HRA17.out.keep hb19)
          have HB19 := Lib.hid (HB17.out.trans (hb19.mono (by have := HB17.out.size; omega)))
          clear hal hb18 hb19 HU17 HV17 HQ17 HN17 HO17 HRA17 HB17 HK3
          have v0 := cell_of_row _ nb 0 _ _ _ HU19.out
          have v1 := cell_of_row _ nb 1 _ _ _ HU19.out
          simp only [Array.getElem?_toList, List.getElem?_toArray, List.getElem?_cons_zero, List.getElem?_cons_succ] at v0 v1
          go_wp2_with fail
          generalize w18.alloc (.cells #[.int .i64 0, .slice none 0 0] 50) = w19 at HU19 HQ19 HN19 HRA19 HB19 hz19 ⊢
          refine (HK4.out w19 HN19.out).mono ?_
          rintro r w20 ⟨rfl, hb20⟩
          have hz20 := hb20.size
          have HU20 := Lib.hid ((hb20.block nb (by omega)).trans HU19.out)
          have HQ20 := Lib.hid ((hb20.block qb (by omega)).trans HQ19.out)
          have HSM := Lib.hid (same_yes (E1 : Int) RA NA 4 RC NC nx w20 (HRA19.out.keep hb20) (HN19.out.keep hb20))
          have HB20 := Lib.hid (HB19.out.trans (hb20.mono (by have := HB19.out.size; omega)))
          clear hb20 HU19 HQ19 HN19 HRA19 HB19 HK4
          have u0 := cell_of_row w20 qb 0 _ _ _ HQ20.out
          have u1 := cell_of_row w20 qb 1 _ _ _ HQ20.out
          simp only [Array.getElem?_toList, List.getElem?_toArray, List.getElem?_cons_zero, List.getElem?_cons_succ] at u0 u1
          have v0 := cell_of_row w20 nb 0 _ _ _ HU20.out
          have v1 := cell_of_row w20 nb 1 _ _ _ HU20.out
          simp only [Array.getElem?_toList, List.getElem?_toArray, List.getElem?_cons_zero, List.getElem?_cons_succ] at v0 v1
          go_wp2_with fail
          refine HSM.out.mono ?_
          rintro r w21 ⟨rfl, hb21⟩
          have HB21 := Lib.hid (HB20.out.trans (hb21.mono HB20.out.size))
          clear hb21 HSM
          go_wp2_with fail
          go_ret
          exact ⟨rfl, HB21.out⟩
theorem walk (n : Int) (_ : (Lit.int .i64 n).wf = true) (p : Int) (_ : (Lit.int .i64 p).wf = true) (s : ByteArray) (_ : s.size ≤ maxLen) (W : World) :
    Calls Try.prog 14 #[.int .i64 n, .int .i64 p, .string s] W fun r w' => r = .returned (.bool true) ∧ Below W.heap.size W w' := by
  rcases Nat.lt_or_ge 100 s.size with h | h
  · exact live_long n p s h W
  · exact walk_short n p s h W

/-! ### The row's step -/
set_option maxRecDepth 100000 in
theorem lifted (os : Os) (started : os.Started) (H : Type) (enc : TypeId × Value → H) :
    ReturnsInHanded {} Try.checked os 14 .any (Rows.papersTakenSpec.pre6 enc Try.prog Try.f14 Rows.papersTakenRow.domain false) (Rows.papersTakenSpec.post enc Try.prog Try.f14 false true false false) := by
  refine returnsInHanded_of_change (C := Try.checked) own started (by kernel_rfl) Try.func14
    (ChangeSpec.witness6 (enc := enc) (C := Try.checked) false ⟨#[], #[.int .i64 0, .int .i64 0, .string ByteArray.empty], []⟩ 8 (by kernel_rfl) (by kernel_rfl) (by kernel_rfl) (by kernel_rfl)) ?_
  intro W base args ds gs before hval0 hW hcnd _
  have hval : ∀ (j : Nat) t v, Try.f14.params[j]? = some t → args[j]? = some v → Value.okWide Try.prog W .any base t v := hval0
  have hW' := hW
  obtain ⟨p, q, hA0, hV, rfl, hfz, hnd⟩ := hW
  have hA : DataW.TrodAll enc Try.prog W 0 (fun _ => true) true Try.f14.params.toList args.toList ds p := hA0
  rw [Try.params14] at hA hval
  obtain ⟨v0, vs0, d0, ds0, p0, q0, hargs, rfl, rfl, h0, r0⟩ := trodAll_cons hA
  obtain ⟨v1, vs1, d1, ds1, p1, q1, rfl, rfl, rfl, h1, r1⟩ := trodAll_cons r0
  obtain ⟨v2, vs2, d2, ds2, p2, q2, rfl, rfl, rfl, h2, r2⟩ := trodAll_cons r1
  obtain ⟨rfl, rfl, rfl⟩ := trodAll_nil r2
  obtain rfl : args = #[v0, v1, v2] := by cases args; simp_all
  obtain ⟨rfl, rfl⟩ := trodVars_none hV
  obtain ⟨a0, rfl, rfl, rfl, w0⟩ := open_int Try.underlying3 (hval 0 3 v0 rfl rfl) h0
  obtain ⟨a1, rfl, rfl, rfl, w1⟩ := open_int Try.underlying3 (hval 1 3 v1 rfl rfl) h1
  obtain ⟨a2, rfl, rfl, rfl, w2⟩ := open_string Try.underlying9 (hval 2 9 v2 rfl rfl) h2
  clear hA0 hval0
  refine (walk a0 w0 a1 w1 a2 w2 W).mono fun e W' ⟨he, bel⟩ => ?_
  subst he
  exact ⟨_, rfl, _, _, _, [], _, [], hW', trodAll_mk1 (shut_bool Try.underlying4 _), (trodAll_cons_mk (shut_int Try.underlying3 w0) (trodAll_cons_mk (shut_int Try.underlying3 w1) (trodAll_cons_mk (shut_string Try.underlying9 w2) trodAll_mk0))), rfl, bel.frame _, fun h => by cases h⟩

theorem over : Rows.papersTakenRow.holds Try.pinned (OpenSpec.ofChange Rows.papersTakenSpec) :=
  OpenClaim.holds_of_wide 14 Try.f14 rfl rfl rfl rfl rfl rfl rfl ⟨rfl, rfl, rfl, rfl, rfl⟩ rfl rfl rfl rfl rfl (by kernel_rfl) Try.func14 (by kernel_rfl)
    (of_decide_eq_true (by kernel_rfl)) (by unfold Func.isWrapper; first | (rw [if_pos (by decide +kernel)]; kernel_rfl) | (rw [if_neg (by decide +kernel)]; exact ⟨rfl, rfl⟩))
    (fun os started H enc _ => lifted os started H enc)
end PapersTaken
/-- The statement. -/
theorem PapersTaken_holds : Rows.PapersTakenSaid := PapersTaken.over
#print axioms PapersTaken_holds
end Go.Proofs.Ytljnadbfadgglaa
