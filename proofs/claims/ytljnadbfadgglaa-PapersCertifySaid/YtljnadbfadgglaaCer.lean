/- papers.Certify. No condition. -/
import Derived.Test.YtljnadbfadgglaaS3
import Derived.Test.YtljnadbfadgglaaPk
namespace Go.Proofs.Ytljnadbfadgglaa
open Go.RowKit
set_option maxRecDepth 100000
set_option linter.unusedVariables false
set_option linter.unusedSimpArgs false

def sigOk (s : St) : Bool := decide (0 ≤ s.1) && (decide (s.1 ≤ 255) && decide (s.2.size ≤ 65535))
def sigL (s : St) : List UInt8 := beL 1 s.1.toNat ++ (beL 2 s.2.size ++ s.2.data.toList)
/-- A certificate's bytes as far as k signatures. -/
def certTo (t : ByteArray) (sg : List St) (k : Nat) : List UInt8 := (beL 2 t.size ++ t.data.toList) ++ beL 1 sg.length ++ ((sg.take k).map sigL).flatten
def certV (e : Int) (l sg : List St) : ByteArray × Int :=
  if rightB e l = false then (⟨#[]⟩, 4) else if sg.all sigOk = false then (⟨#[]⟩, 4) else if 16 < sg.length then (⟨#[]⟩, 3) else (bs (certTo (bytesS e l) sg sg.length), 0)
theorem sigL_len (s : St) : (sigL s).length = 3 + s.2.size := by
  unfold sigL beL
  have : s.2.data.toList.length = s.2.size := Array.length_toList
  simp only [List.length_append, this]
  simp
  omega
theorem certTo_zero (t : ByteArray) (sg : List St) : certTo t sg 0 = (beL 2 t.size ++ t.data.toList) ++ beL 1 sg.length := by unfold certTo; simp
theorem certTo_succ (t : ByteArray) (sg : List St) (k : Nat) (h : k < sg.length) : certTo t sg (k + 1) = certTo t sg k ++ sigL (sg.getD k (0, ByteArray.empty)) := by
  unfold certTo
  rw [List.take_succ_eq_append_getElem h, List.map_append, List.flatten_append, List.append_assoc]
  simp [List.getD_eq_getElem?_getD, h]
theorem certTo_len (t : ByteArray) (sg : List St) (ht : t.size ≤ 400) (hs : ∀ i, i < sg.length → sigOk (sg.getD i (0, ByteArray.empty)) = true) : ∀ k, k ≤ sg.length → (certTo t sg k).length ≤ 403 + 65538 * k
  | 0, _ => by
    rw [certTo_zero]
    have : t.data.toList.length = t.size := Array.length_toList
    unfold beL
    simp only [List.length_append, this]
    simp
    omega
  | k + 1, hk => by
    rw [certTo_succ t sg k (by omega), List.length_append, sigL_len]
    have := certTo_len t sg ht hs k (by omega)
    have h2 := hs k (by omega)
    simp only [sigOk, Bool.and_eq_true, decide_eq_true_eq] at h2
    omega
theorem bytesS_size (e : Int) (l : List St) : (bytesS e l).size ≤ 400 := by
  unfold bytesS
  split
  · rename_i h
    obtain ⟨_, _, f3, f4, f5⟩ := right_facts h
    have := paperTo_len e l (fun i hi => (f5 i hi).2.2) l.length (Nat.le_refl _)
    rw [bs_size]
    unfold paperL
    omega
  · decide
theorem certV_wrong {e : Int} {l sg : List St} (h : rightB e l = false) : certV e l sg = (⟨#[]⟩, 4) := by unfold certV; rw [if_pos h]
theorem certV_bad {e : Int} {l sg : List St} (h : rightB e l = true) (i : Nat) (hi : i < sg.length) (hb : sigOk (sg.getD i (0, ByteArray.empty)) = false) : certV e l sg = (⟨#[]⟩, 4) := by
  unfold certV
  rw [if_neg (by rw [h]; decide), if_pos]
  rw [List.all_eq_false]
  refine ⟨sg[i], List.getElem_mem hi, ?_⟩
  rw [List.getD_eq_getElem?_getD, List.getElem?_eq_getElem hi] at hb
  simpa using hb
theorem all_ok {sg : List St} (h : ∀ i, i < sg.length → sigOk (sg.getD i (0, ByteArray.empty)) = true) : sg.all sigOk = true := by
  rw [List.all_eq_true]
  intro s hs
  obtain ⟨i, hi, rfl⟩ := List.getElem_of_mem hs
  have := h i hi
  rwa [List.getD_eq_getElem?_getD, List.getElem?_eq_getElem hi] at this
theorem certV_long {e : Int} {l sg : List St} (h : rightB e l = true) (ha : ∀ i, i < sg.length → sigOk (sg.getD i (0, ByteArray.empty)) = true) (hl : 16 < sg.length) : certV e l sg = (⟨#[]⟩, 3) := by
  unfold certV
  rw [if_neg (by rw [h]; decide), if_neg (by rw [all_ok ha]; decide), if_pos hl]
theorem certV_good {e : Int} {l sg : List St} (h : rightB e l = true) (ha : ∀ i, i < sg.length → sigOk (sg.getD i (0, ByteArray.empty)) = true) (hl : sg.length ≤ 16) : certV e l sg = (bs (certTo (bytesS e l) sg sg.length), 0) := by
  unfold certV
  rw [if_neg (by rw [h]; decide), if_neg (by rw [all_ok ha]; decide), if_neg (by omega)]

set_option maxHeartbeats 1000000 in
theorem certify_any (e : Int) (A : Option Addr) (n c : Nat) (l : List St) (B : Option Addr) (m d : Nat) (sg : List St) (w : World) (hS : Seats w A n c l) (hG : Seats w B m d sg) :
    Calls Try.prog 38 #[.agg #[.int .i64 e, .slice A n c], .slice B m d] w fun r w' => r = .returned (.tuple #[.string (certV e l sg).1, .int .i64 (certV e l sg).2]) ∧ Below w.heap.size w w' := by
  have hm63 : m ≤ 9223372036854775807 := Nat.le_trans hG.2.1 hG.2.2.1
  have HB := fun w' (hb : Below w.heap.size w w') => Lib.hid (bytes_u e A n c l w' (hS.keep hb))
  have HG := Lib.hid hG
  have HML := Lib.hid hG.1
  cases hr : rightB e l with
  | false =>
    have HE : Hid (bytesE e l = 4) := Lib.hid (by unfold bytesE; rw [hr]; rfl)
    have HV := Lib.hid (certV_wrong (sg := sg) hr)
    rw [HE.out] at HB
    clear hS hG hr
    go_enter Try.func38, Try.ntmps38
    go_wp2_with fail
    have hB : Below w.heap.size w (w.alloc (.cells #[.int .i64 e, .slice A n c] 50)) := (Below.refl _ _).alloc (Nat.le_refl _) _
    refine (HB _ hB).out.mono ?_
    rintro x w1 ⟨rfl, hb1⟩
    go_wp2_with fail
    go_ret2
    rw [HV.out]
    exact ⟨rfl, hB.trans (hb1.mono hB.size)⟩
  | true =>
    have HE : Hid (bytesE e l = 0) := Lib.hid (by unfold bytesE; rw [hr]; rfl)
    rw [HE.out] at HB
    have HV1 := Lib.hid (fun i hi hb => certV_bad (sg := sg) hr i hi hb)
    have HV2 := Lib.hid (fun ha hl => certV_long (sg := sg) hr ha hl)
    have HV3 := Lib.hid (fun ha hl => certV_good (sg := sg) hr ha hl)
    have hts := bytesS_size e l
    obtain ⟨LIM, hLIM⟩ : ∃ LIM : Nat, LIM = 16777216 := ⟨_, rfl⟩
    have HN : Hid (∀ w', Calls Try.prog 69 #[.int .i64 16777216] w' fun e w'' => e = .returned (.pointer (some ⟨w'.heap.size, 0, none⟩)) ∧ PkAt w'' w'.heap.size [] LIM ∧ Below w'.heap.size w' w'') := Lib.hid (fun w' => by
      have := pk_new LIM (by omega) w'
      rw [show (LIM : Int) = 16777216 by omega] at this
      exact this)
    have HLIM := Lib.hid hLIM
    clear hLIM
    generalize bytesS e l = t at HB HV3 hts
    generalize certV e l sg = R at HV1 HV2 HV3 ⊢
    clear hS hG hr
    go_enter Try.func38, Try.ntmps38
    go_wp2_with fail
    have hB : Below w.heap.size w (w.alloc (.cells #[.int .i64 e, .slice A n c] 50)) := (Below.refl _ _).alloc (Nat.le_refl _) _
    refine (HB _ hB).out.mono ?_
    rintro x w1 ⟨rfl, hb1⟩
    have HB1 := Lib.hid (hB.trans (hb1.mono hB.size))
    clear hb1 hB HB
    go_wp2_with fail
    go_loopw [23] (fun i wr => ∃ k : Nat, k ≤ m ∧ i = .int .i64 k ∧ Hid (∀ j, j < k → sigOk (sg.getD j (0, ByteArray.empty)) = true) ∧ Hid (Below w.heap.size w wr)) (fun i _ => m - (intOf i).toNat)
    case atStart => exact ⟨0, by omega, rfl, Lib.hid (fun j hj => by omega), HB1⟩
    case round =>
      obtain ⟨k, hk, rfl, hok, hbel⟩ := hrel
      by_cases hkm : k < m
      · have n0 : 0 ≤ (k : Int) := by omega
        have n1 : (k : Int) < (m : Int) := by omega
        obtain ⟨b, off, rfl, hb, hcs⟩ := HG.out.at k hkm
        have ca := (hbel.out.cell (p := ⟨b, off + k * 2, none⟩) hb).trans (hcs k hkm).1
        have cb := (hbel.out.cell (p := ⟨b, off + k * 2 + 1, none⟩) hb).trans (hcs k hkm).2
        have HBAD := Lib.hid (HV1.out k (by have := HML.out; omega))
        have HOK : Hid (sigOk (sg.getD k (0, ByteArray.empty)) = true → ∀ j, j < k + 1 → sigOk (sg.getD j (0, ByteArray.empty)) = true) := Lib.hid (fun h j hj => by
          by_cases e : j < k
          · exact hok.out j e
          · obtain rfl : j = k := by omega
            exact h)
        have hsk : Hid (sigOk (sg.getD k (0, ByteArray.empty)) = (decide (0 ≤ (sg.getD k (0, ByteArray.empty)).1) && (decide ((sg.getD k (0, ByteArray.empty)).1 ≤ 255) && decide ((sg.getD k (0, ByteArray.empty)).2.size ≤ 65535)))) := Lib.hid rfl
        generalize sigOk (sg.getD k (0, ByteArray.empty)) = ok at HBAD HOK hsk
        generalize (sg.getD k (0, ByteArray.empty)).1 = id at ca hsk
        generalize (sg.getD k (0, ByteArray.empty)).2 = s at cb hsk
        have hb2 := Lib.hid (hbel.out.alloc hbel.out.size (.cells #[.int .i64 id, .string s] 75))
        clear hcs hok
        by_cases h1 : id < 0
        · have HBAD2 := Lib.hid (HBAD.out (by rw [hsk.out]; simp; omega))
          clear HBAD HOK hsk hbel
          go_wp2_with fail
          go_ret2
          rw [HBAD2.out]
          exact ⟨rfl, hb2.out⟩
        · by_cases h2 : 255 < id
          · have HBAD2 := Lib.hid (HBAD.out (by rw [hsk.out]; simp; omega))
            clear HBAD HOK hsk hbel
            go_wp2_with fail
            go_ret2
            rw [HBAD2.out]
            exact ⟨rfl, hb2.out⟩
          · have h1' : 0 ≤ id := by omega
            have h2' : id ≤ 255 := by omega
            by_cases h3 : 65535 < s.size
            · have h3' : (65535 : Int) < (s.size : Int) := by omega
              have HBAD2 := Lib.hid (HBAD.out (by rw [hsk.out]; simp; omega))
              clear HBAD HOK hsk hbel h1 h2
              go_wp2_with fail
              go_ret2
              rw [HBAD2.out]
              exact ⟨rfl, hb2.out⟩
            · have h3' : (s.size : Int) ≤ 65535 := by omega
              have HOK2 := Lib.hid (HOK.out (by rw [hsk.out]; simp; omega))
              clear HBAD HOK hsk hbel h1 h2 h3
              go_wp2_with fail
              exact ⟨⟨k + 1, by omega, by go_num, HOK2, hb2⟩, by simp [intOf]; omega⟩
      · obtain rfl : k = m := by omega
        have HA : Hid (∀ i, i < sg.length → sigOk (sg.getD i (0, ByteArray.empty)) = true) := Lib.hid (by rw [HML.out]; exact hok.out)
        rcases Nat.lt_or_ge 16 k with hl | hl
        · have hl' : (16 : Int) < (k : Int) := by omega
          have HLG := Lib.hid (HV2.out HA.out (by rw [HML.out]; exact hl))
          clear hok hkm
          go_wp2_with fail
          go_ret2
          rw [HLG.out]
          exact ⟨rfl, hbel.out⟩
        · have hl' : (k : Int) ≤ 16 := by omega
          have HGD := Lib.hid (HV3.out HA.out (by rw [HML.out]; exact hl))
          have HCL := Lib.hid (certTo_len t sg hts HA.out)
          have HC0 := Lib.hid (certTo_zero t sg)
          have HCS := Lib.hid (certTo_succ t sg)
          have HTL : Hid (t.data.toList.length = t.size) := Lib.hid Array.length_toList
          clear hok hkm HV1 HV2 HV3
          go_wp2_with fail
          refine (HN.out wr).mono ?_
          have hLIM := HLIM.out
          rintro r w2 ⟨rfl, hp2, hb2⟩
          have HP2 := Lib.hid hp2
          have HB2 := Lib.hid (hbel.out.trans (hb2.mono hbel.out.size))
          obtain ⟨pb, hpb⟩ : ∃ pb, pb = wr.heap.size := ⟨_, rfl⟩
          have hpw : w.heap.size ≤ pb := by have := hbel.out.size; omega
          rw [← hpb] at HP2
          clear hp2 hb2 hbel
          go_wp2_with fail
          rw [← hpb]
          clear hpb
          have HT2 := Lib.hid (pk_text pb [] LIM t (by omega) (by rw [List.length_nil]; omega) (by omega) w2 HP2.out)
          refine HT2.out.mono ?_
          rintro r w3 ⟨rfl, hp3, hb3⟩
          have HP3 := Lib.hid hp3
          have HB3 := Lib.hid (HB2.out.trans (hb3.mono hpw))
          clear hp3 hb3 HP2 HB2 HT2
          go_wp2_with fail
          have hl3 : ([] ++ (beL 2 t.size ++ t.data.toList)).length = 2 + t.size := by
            rw [List.nil_append, List.length_append, HTL.out]; rfl
          have HT3 := Lib.hid (pk_byte pb _ _ k (by omega) (by rw [hl3]; omega) (by omega) w3 HP3.out)
          refine HT3.out.mono ?_
          rintro r w4 ⟨rfl, hp4, hb4, _⟩
          have HP4 : Hid (PkAt w4 pb (certTo t sg 0) (LIM - (certTo t sg 0).length)) := Lib.hid (by
            rw [HC0.out, HML.out]
            have : (beL 2 t.size ++ t.data.toList ++ beL 1 k).length = 2 + t.size + 1 := by rw [List.length_append, List.length_append, HTL.out]; rfl
            rw [this, show LIM - (2 + t.size + 1) = LIM - (2 + t.size) - 1 by omega]
            exact hp4)
          have HB4 := Lib.hid (HB3.out.trans (hb4.mono hpw))
          clear hp4 hb4 HP3 HB3 hLIM HT3 hl3
          go_wp2_with fail
          go_loopw [55] (fun i wr => ∃ j : Nat, j ≤ k ∧ i = .int .i64 j ∧ Hid (PkAt wr pb (certTo t sg j) (LIM - (certTo t sg j).length)) ∧ Hid (Below w.heap.size w wr)) (fun i _ => k - (intOf i).toNat)
          case atStart => exact ⟨0, by omega, rfl, HP4, HB4⟩
          case round =>
            obtain ⟨j, hj, rfl, hp, hbel⟩ := hrel
            by_cases hjk : j < k
            · have n0 : 0 ≤ (j : Int) := by omega
              have n1 : (j : Int) < (k : Int) := by omega
              obtain ⟨b, off, rfl, hb, hcs⟩ := HG.out.at j hjk
              have ca := (hbel.out.cell (p := ⟨b, off + j * 2, none⟩) hb).trans (hcs j hjk).1
              have cb := (hbel.out.cell (p := ⟨b, off + j * 2 + 1, none⟩) hb).trans (hcs j hjk).2
              have hok := HA.out j (by have := HML.out; omega)
              simp only [sigOk, Bool.and_eq_true, decide_eq_true_eq] at hok
              obtain ⟨o1, o2, o3⟩ := hok
              have hlen := HCL.out j (by have := HML.out; omega)
              have HSC := Lib.hid (HCS.out j (by have := HML.out; omega))
              have HSL := Lib.hid (sigL_len (sg.getD j (0, ByteArray.empty)))
              have hsl : Hid (sigL (sg.getD j (0, ByteArray.empty)) = beL 1 (sg.getD j (0, ByteArray.empty)).1.toNat ++ (beL 2 (sg.getD j (0, ByteArray.empty)).2.size ++ (sg.getD j (0, ByteArray.empty)).2.data.toList)) := Lib.hid rfl
              generalize sigL (sg.getD j (0, ByteArray.empty)) = SL at HSC HSL hsl
              generalize (sg.getD j (0, ByteArray.empty)).1 = id at ca o1 o2 hsl
              generalize (sg.getD j (0, ByteArray.empty)).2 = s at cb o3 hsl HSL
              obtain ⟨I, rfl⟩ := Int.eq_ofNat_of_zero_le o1
              have hal : Below wr.heap.size wr (wr.alloc (.cells #[.int .i64 (I : Int), .string s] 75)) := (Below.refl _ _).alloc (Nat.le_refl _) _
              have hp5 := Lib.hid (hp.out.keep hal)
              have hb5 := Lib.hid (hbel.out.trans (hal.mono hbel.out.size))
              have hq5 := heap_alloc_new wr (.cells #[.int .i64 (I : Int), .string s] 75)
              have hz5 : wr.heap.size < (wr.alloc (.cells #[.int .i64 (I : Int), .string s] 75)).heap.size := by simp
              have hpl := hp.out.lt
              have HAP := Lib.hid (hp.out.apart hal (Nat.le_refl _))
              clear hcs hal hp hbel
              go_wp2_with fail
              obtain ⟨sb, hsb⟩ : ∃ sb, sb = wr.heap.size := ⟨_, rfl⟩
              rw [← hsb] at hq5 hz5 hpl
              rw [← hsb]
              generalize wr.alloc (.cells #[.int .i64 (I : Int), .string s] 75) = w5 at hp5 hb5 hq5 hz5 HAP ⊢
              rw [← hsb] at HAP
              clear hsb
              have hLIM := HLIM.out
              have HT5 := Lib.hid (pk_byte pb _ _ I (by omega) (by omega) (by omega) w5 hp5.out)
              refine HT5.out.mono ?_
              rintro r w6 ⟨rfl, hp6, hb6, ha6⟩
              have hq6 := (ha6 sb hz5 (by omega) HAP.out).trans hq5
              have q1 := cell_of_row w6 sb 1 _ _ _ hq6
              simp at q1
              have HP6 := Lib.hid hp6
              have HB6 := Lib.hid (hb5.out.trans (hb6.mono hpw))
              clear hp6 hb6 ha6 HT5 hq6 hq5 HAP hp5 hb5 ca cb
              have HT6 := Lib.hid (pk_text pb _ _ s o3 (by rw [List.length_append, show (beL 1 I).length = 1 from rfl]; omega) (by omega) w6 HP6.out)
              clear hLIM
              go_wp2_with fail
              refine HT6.out.mono ?_
              rintro r w7 ⟨rfl, hp7, hb7⟩
              have hLIM := HLIM.out
              have HP7 : Hid (PkAt w7 pb (certTo t sg (j + 1)) (LIM - (certTo t sg (j + 1)).length)) := Lib.hid (by
                have e2 : (certTo t sg (j + 1)).length = (certTo t sg j).length + (3 + s.size) := by rw [HSC.out, List.length_append, HSL.out]
                have e1 : certTo t sg (j + 1) = certTo t sg j ++ beL 1 I ++ (beL 2 s.size ++ s.data.toList) := by
                  rw [HSC.out, hsl.out, List.append_assoc]
                  rfl
                rw [e2, e1]
                rw [show LIM - ((certTo t sg j).length + (3 + s.size)) = LIM - (certTo t sg j).length - 1 - (2 + s.size) by omega]
                exact hp7)
              have HB7 := Lib.hid (HB6.out.trans (hb7.mono hpw))
              clear hp7 hb7 hLIM HT6 HP6 HB6 q1
              go_wp2_with fail
              exact ⟨⟨j + 1, by omega, by go_num, HP7, HB7⟩, by simp [intOf]; omega⟩
            · obtain rfl : j = k := by omega
              clear hjk
              rw [HML.out] at HGD
              go_wp2_with fail
              refine (pk_done pb _ _ wr hp.out).mono ?_
              rintro r w9 ⟨rfl, rfl⟩
              go_wp2_with fail
              go_ret2
              rw [HGD.out]
              exact ⟨rfl, hbel.out⟩
end Go.Proofs.Ytljnadbfadgglaa
