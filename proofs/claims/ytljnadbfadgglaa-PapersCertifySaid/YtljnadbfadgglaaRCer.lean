/- witanref08.Certify. No condition. -/
import Derived.Test.YtljnadbfadgglaaCer
namespace Go.Proofs.Ytljnadbfadgglaa
open Go.RowKit
set_option maxRecDepth 100000
set_option linter.unusedVariables false
set_option linter.unusedSimpArgs false

set_option maxHeartbeats 2000000 in
theorem refcertify_any (e : Int) (A : Option Addr) (n c : Nat) (l : List St) (B : Option Addr) (m d : Nat) (sg : List St) (w : World) (hS : Seats w A n c l) (hG : Seats w B m d sg) :
    Calls Try.prog 39 #[.agg #[.int .i64 e, .slice A n c], .slice B m d] w fun r w' => r = .returned (.tuple #[.string (certV e l sg).1, .int .i64 (certV e l sg).2]) ∧ Below w.heap.size w w' := by
  have hm63 : m ≤ 9223372036854775807 := Nat.le_trans hG.2.1 hG.2.2.1
  have HB := fun w' (hb : Below w.heap.size w w') => Lib.hid (refbytes_u e A n c l w' (hS.keep hb))
  have HG := Lib.hid hG
  have HML := Lib.hid hG.1
  cases hr : rightB e l with
  | false =>
    have HE : Hid (bytesE e l = 4) := Lib.hid (by unfold bytesE; rw [hr]; rfl)
    have HV := Lib.hid (certV_wrong (sg := sg) hr)
    rw [HE.out] at HB
    clear hS hG hr
    go_enter Try.func39, Try.ntmps39
    go_wp2_with fail
    have hB : Below w.heap.size w (w.alloc (.cells #[.int .i64 e, .slice A n c] 50)) := (Below.refl _ _).alloc (Nat.le_refl _) _
    refine (HB _ hB).out.mono ?_
    rintro x w1 ⟨rfl, hb1⟩
    go_wp2_with fail
    go_ret2
    rw [HV.out]
    exact ⟨rfl, hB.trans (hb1.mono hB.size)⟩
  | true =>
    have HE : Hid (bytesE e l = 0) := Lib.hid (by unfold bytesE; rw [hr]; rfl)
    rw [HE.out] at HB
    have HV1 := Lib.hid (fun i hi hb => certV_bad (sg := sg) hr i hi hb)
    have HV2 := Lib.hid (fun ha hl => certV_long (sg := sg) hr ha hl)
    have HV3 := Lib.hid (fun ha hl => certV_good (sg := sg) hr ha hl)
    have hts := bytesS_size e l
    obtain ⟨LIM, hLIM⟩ : ∃ LIM : Nat, LIM = 1073741824 := ⟨_, rfl⟩
    have HN : Hid (∀ w', Calls Try.prog 57 #[.int .i64 1073741824] w' fun e w'' => e = .returned (.pointer (some ⟨w'.heap.size, 0, none⟩)) ∧ WrAt w'' w'.heap.size [] LIM 0 ∧ Below w'.heap.size w' w'') := Lib.hid (fun w' => by
      have := wr_new LIM w'
      rw [show (LIM : Int) = 1073741824 by omega] at this
      exact this)
    have HLIM := Lib.hid hLIM
    clear hLIM
    generalize bytesS e l = t at HB HV3 hts
    generalize certV e l sg = R at HV1 HV2 HV3 ⊢
    have HTL : Hid (t.data.toList.length = t.size) := Lib.hid Array.length_toList
    have HC0 := Lib.hid (certTo_zero t sg)
    have HCS := Lib.hid (certTo_succ t sg)
    have HCL := Lib.hid (certTo_len t sg hts)
    clear hS hG hr
    go_enter Try.func39, Try.ntmps39
    go_wp2_with fail
    have hB : Below w.heap.size w (w.alloc (.cells #[.int .i64 e, .slice A n c] 50)) := (Below.refl _ _).alloc (Nat.le_refl _) _
    refine (HB _ hB).out.mono ?_
    rintro x w1 ⟨rfl, hb1⟩
    have hb1w := hB.trans (hb1.mono hB.size)
    have hw1 := hb1w.size
    have HB1 := Lib.hid hb1w
    clear hb1 hB HB hb1w
    go_wp2_with fail
    refine (HN.out w1).mono ?_
    rintro r w2 ⟨rfl, hp2, hb2⟩
    have HP2 := Lib.hid hp2
    have HB2 := Lib.hid (HB1.out.trans (hb2.mono hw1))
    clear hp2 hb2 HB1 HN
    go_wp2_with fail
    obtain ⟨pb, hpb⟩ : ∃ pb, pb = w1.heap.size := ⟨_, rfl⟩
    have hpw : w.heap.size ≤ pb := by omega
    rw [← hpb] at HP2
    rw [← hpb]
    clear hpb
    have hLIM := HLIM.out
    have HT2 := Lib.hid (wr_text pb [] LIM t (by omega) (by omega) (by rw [List.length_nil]; omega) w2 HP2.out)
    clear hLIM
    refine HT2.out.mono ?_
    rintro r w3 ⟨rfl, hp3, hb3⟩
    have HP3 := Lib.hid hp3
    have HB3 := Lib.hid (HB2.out.trans (hb3.mono hpw))
    clear hp3 hb3 HP2 HB2 HT2
    go_wp2_with fail
    go_loopw [9] (fun i wr => ∃ k : Nat, k ≤ m ∧ i = .int .i64 k ∧ Hid (∀ j, j < k → sigOk (sg.getD j (0, ByteArray.empty)) = true) ∧ wr = w3) (fun i _ => m - (intOf i).toNat)
    case atStart => exact ⟨0, by omega, rfl, Lib.hid (fun j hj => by omega), rfl⟩
    case round =>
      obtain ⟨k, hk, rfl, hok, rfl⟩ := hrel
      by_cases hkm : k < m
      · have n0 : 0 ≤ (k : Int) := by omega
        have n1 : (k : Int) < (m : Int) := by omega
        obtain ⟨b, off, rfl, hb, hcs⟩ := HG.out.at k hkm
        have ca := (HB3.out.cell (p := ⟨b, off + k * 2, none⟩) hb).trans (hcs k hkm).1
        have cb := (HB3.out.cell (p := ⟨b, off + k * 2 + 1, none⟩) hb).trans (hcs k hkm).2
        have HBAD := Lib.hid (HV1.out k (by have := HML.out; omega))
        have HOK : Hid (sigOk (sg.getD k (0, ByteArray.empty)) = true → ∀ j, j < k + 1 → sigOk (sg.getD j (0, ByteArray.empty)) = true) := Lib.hid (fun h j hj => by
          by_cases e : j < k
          · exact hok.out j e
          · obtain rfl : j = k := by omega
            exact h)
        have hsk : Hid (sigOk (sg.getD k (0, ByteArray.empty)) = (decide (0 ≤ (sg.getD k (0, ByteArray.empty)).1) && (decide ((sg.getD k (0, ByteArray.empty)).1 ≤ 255) && decide ((sg.getD k (0, ByteArray.empty)).2.size ≤ 65535)))) := Lib.hid rfl
        generalize sigOk (sg.getD k (0, ByteArray.empty)) = ok at HBAD HOK hsk
        generalize (sg.getD k (0, ByteArray.empty)).1 = id at ca hsk
        generalize (sg.getD k (0, ByteArray.empty)).2 = s at cb hsk
        clear hcs hok
        by_cases h1 : id < 0
        · have HBAD2 := Lib.hid (HBAD.out (by rw [hsk.out]; simp; omega))
          clear HBAD HOK hsk
          go_wp2_with fail
          go_ret2
          rw [HBAD2.out]
          exact ⟨rfl, HB3.out⟩
        · by_cases h2 : 255 < id
          · have HBAD2 := Lib.hid (HBAD.out (by rw [hsk.out]; simp; omega))
            clear HBAD HOK hsk
            go_wp2_with fail
            go_ret2
            rw [HBAD2.out]
            exact ⟨rfl, HB3.out⟩
          · have h1' : 0 ≤ id := by omega
            have h2' : id ≤ 255 := by omega
            by_cases h3 : 65535 < s.size
            · have h3' : (65535 : Int) < (s.size : Int) := by omega
              have HBAD2 := Lib.hid (HBAD.out (by rw [hsk.out]; simp; omega))
              clear HBAD HOK hsk h1 h2
              go_wp2_with fail
              go_ret2
              rw [HBAD2.out]
              exact ⟨rfl, HB3.out⟩
            · have h3' : (s.size : Int) ≤ 65535 := by omega
              have HOK2 := Lib.hid (HOK.out (by rw [hsk.out]; simp; omega))
              clear HBAD HOK hsk h1 h2 h3
              go_wp2_with fail
              exact ⟨⟨k + 1, by omega, by go_num, HOK2, trivial⟩, by simp [intOf]; omega⟩
      · obtain rfl : k = m := by omega
        have HA : Hid (∀ i, i < sg.length → sigOk (sg.getD i (0, ByteArray.empty)) = true) := Lib.hid (by rw [HML.out]; exact hok.out)
        rcases Nat.lt_or_ge 16 k with hl | hl
        · have hl' : (16 : Int) < (k : Int) := by omega
          have HLG := Lib.hid (HV2.out HA.out (by rw [HML.out]; exact hl))
          clear hok hkm
          go_wp2_with fail
          go_ret2
          rw [HLG.out]
          exact ⟨rfl, HB3.out⟩
        · have hl' : (k : Int) ≤ 16 := by omega
          have HGD := Lib.hid (HV3.out HA.out (by rw [HML.out]; exact hl))
          clear hok hkm HV1 HV2 HV3
          have hl3 : ([] ++ (beL 2 t.size ++ t.data.toList)).length = 2 + t.size := by
            rw [List.nil_append, List.length_append, HTL.out]; rfl
          have hLIM := HLIM.out
          have HT3 := Lib.hid (wr_num1 pb _ LIM k (by omega) (by omega) (by rw [hl3]; omega) wr HP3.out)
          clear hLIM
          go_wp2_with fail
          refine HT3.out.mono ?_
          rintro r w4 ⟨rfl, hp4, hb4⟩
          have HP4 : Hid (WrAt w4 pb (certTo t sg 0) LIM 0) := Lib.hid (by
            rw [HC0.out, HML.out]
            exact hp4)
          have HB4 := Lib.hid (HB3.out.trans (hb4.mono hpw))
          clear hp4 hb4 HP3 HB3 HT3 hl3
          go_wp2_with fail
          go_loopw [10] (fun i wr => ∃ j : Nat, j ≤ k ∧ i = .int .i64 j ∧ Hid (WrAt wr pb (certTo t sg j) LIM 0) ∧ Hid (Below w.heap.size w wr)) (fun i _ => k - (intOf i).toNat)
          case atStart => exact ⟨0, by omega, rfl, HP4, HB4⟩
          case round =>
            obtain ⟨j, hj, rfl, hp, hbel⟩ := hrel
            by_cases hjk : j < k
            · have n0 : 0 ≤ (j : Int) := by omega
              have n1 : (j : Int) < (k : Int) := by omega
              obtain ⟨b, off, rfl, hb, hcs⟩ := HG.out.at j hjk
              have ca := (hbel.out.cell (p := ⟨b, off + j * 2, none⟩) hb).trans (hcs j hjk).1
              have cb0 := (hcs j hjk).2
              have hok := HA.out j (by have := HML.out; omega)
              simp only [sigOk, Bool.and_eq_true, decide_eq_true_eq] at hok
              obtain ⟨o1, o2, o3⟩ := hok
              have hlen := HCL.out HA.out j (by have := HML.out; omega)
              have HSC := Lib.hid (HCS.out j (by have := HML.out; omega))
              have hsl : Hid (sigL (sg.getD j (0, ByteArray.empty)) = beL 1 (sg.getD j (0, ByteArray.empty)).1.toNat ++ (beL 2 (sg.getD j (0, ByteArray.empty)).2.size ++ (sg.getD j (0, ByteArray.empty)).2.data.toList)) := Lib.hid rfl
              generalize sigL (sg.getD j (0, ByteArray.empty)) = SL at HSC hsl
              generalize (sg.getD j (0, ByteArray.empty)).1 = id at ca o1 o2 hsl
              generalize (sg.getD j (0, ByteArray.empty)).2 = s at cb0 o3 hsl
              obtain ⟨I, rfl⟩ := Int.eq_ofNat_of_zero_le o1
              have CB0 := Lib.hid cb0
              have hLIM := HLIM.out
              have HT5 := Lib.hid (wr_num1 pb _ LIM I (by omega) (by omega) (by omega) wr hp.out)
              clear hcs cb0 hLIM
              go_wp2_with fail
              refine HT5.out.mono ?_
              rintro r w6 ⟨rfl, hp6, hb6⟩
              have HP6 := Lib.hid hp6
              have HB6 := Lib.hid (hbel.out.trans (hb6.mono hpw))
              clear hp6 hb6 HT5 hp hbel ca
              have cb := (HB6.out.cell (p := ⟨b, off + j * 2 + 1, none⟩) hb).trans CB0.out
              have hLIM := HLIM.out
              have HT6 := Lib.hid (wr_text pb _ LIM s o3 (by omega) (by rw [List.length_append, show (beL 1 I).length = 1 from rfl]; omega) w6 HP6.out)
              clear hLIM
              go_wp2_with fail
              refine HT6.out.mono ?_
              rintro r w7 ⟨rfl, hp7, hb7⟩
              have HP7 : Hid (WrAt w7 pb (certTo t sg (j + 1)) LIM 0) := Lib.hid (by
                have e1 : certTo t sg (j + 1) = certTo t sg j ++ beL 1 I ++ (beL 2 s.size ++ s.data.toList) := by
                  rw [HSC.out, hsl.out, List.append_assoc]
                  rfl
                rw [e1]
                exact hp7)
              have HB7 := Lib.hid (HB6.out.trans (hb7.mono hpw))
              clear hp7 hb7 HT6 HP6 HB6 cb
              go_wp2_with fail
              exact ⟨⟨j + 1, by omega, by go_num, HP7, HB7⟩, by simp [intOf]; omega⟩
            · obtain rfl : j = k := by omega
              clear hjk
              rw [HML.out] at HGD
              have HDN := Lib.hid (wr_done pb _ LIM wr hp.out)
              go_wp2_with fail
              refine HDN.out.mono ?_
              rintro r w9 ⟨rfl, rfl⟩
              go_wp2_with fail
              go_ret2
              rw [HGD.out]
              exact ⟨rfl, hbel.out⟩
end Go.Proofs.Ytljnadbfadgglaa
