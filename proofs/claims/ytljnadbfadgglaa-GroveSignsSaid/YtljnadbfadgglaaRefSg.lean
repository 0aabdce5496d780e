/- witanref06.Sign. Condition: heights 0 to 5, seed and text of at most 4,096 bytes. -/
import Derived.Test.YtljnadbfadgglaaGTrue
import Derived.Test.YtljnadbfadgglaaRefG
import Derived.Lib.AppendStr
namespace Go.Proofs.Ytljnadbfadgglaa
open Go.RowKit
set_option maxRecDepth 100000
set_option linter.unusedVariables false
set_option linter.unusedSimpArgs false

theorem one_cells (a : Nat) (ha : a ≤ 255) : [Value.int .u8 (a : Int)] = Lib.byteCells (one a).data.toList := by
  show _ = [Value.int .u8 ((UInt8.ofNat a).toNat : Int)]
  congr 3
  simp
  omega

/-- The neighbour's node by the leaves. -/
theorem node_sib (s : ByteArray) (h k leaf : Nat) (hh : h ≤ 5) (hk : k < h) (hl : leaf < 2 ^ h) : ∃ P : Nat, sib (leaf / 2 ^ k) * 2 ^ k = P ∧ P ≤ 100 ∧ ∀ (g c : Nat) (w : World), TextsAt w g (2 ^ h) (fun n => pubK s n) →
    Calls Try.prog 46 #[.slice (some ⟨g, 0, none⟩) (2 ^ h) c, .int .i64 (P : Int), .int .i64 (k : Int)] w fun e w' => e = .returned (.string (nodeK s k (sib (leaf / 2 ^ k)))) ∧ Below w.heap.size w w' := by
  have hp := (pow_int h hh).1
  have hpk : 2 ^ (h - k) = 2 * 2 ^ (h - (k + 1)) := pow_half h k hk
  have hdiv : leaf / 2 ^ k < 2 ^ (h - k) := by
    apply Nat.div_lt_of_lt_mul
    rw [← Nat.pow_add, show k + (h - k) = h by omega]
    exact hl
  have hsib : sib (leaf / 2 ^ k) < 2 ^ (h - k) := by rw [hpk] at hdiv ⊢; exact sib_lt _ _ hdiv
  have hle : (sib (leaf / 2 ^ k) + 1) * 2 ^ k ≤ 2 ^ (h - k) * 2 ^ k := Nat.mul_le_mul_right _ hsib
  rw [← Nat.pow_add, show h - k + k = h by omega, Nat.add_mul, Nat.one_mul] at hle
  refine ⟨_, rfl, Nat.le_trans (Nat.le_trans (Nat.le_add_right _ _) hle) (by omega), fun g c w ht => ?_⟩
  have := refnode_any g (2 ^ h) c (fun n => pubK s n) (fun i => pubK_size s i) (by omega) k (sib (leaf / 2 ^ k) * 2 ^ k) w (by omega) hle ht
  rwa [nd_nodeK] at this

set_option maxHeartbeats 800000 in
theorem refsg_any (seed : ByteArray) (hs : seed.size ≤ 4096) (h : Nat) (hh : h ≤ 5) (leaf : Nat) (hl : leaf < 2 ^ h) (text : ByteArray) (ht : text.size ≤ 4096) (g c : Nat) (w : World) (hta : TextsAt w g (2 ^ h) (fun n => pubK seed n)) :
    Calls Try.prog 25 #[.string seed, .slice (some ⟨g, 0, none⟩) (2 ^ h) c, .int .i64 (h : Int), .int .i64 (leaf : Int), .string text] w fun e w' => e = .returned (.string (sgn seed leaf text h)) ∧ Below w.heap.size w w' := by
  obtain ⟨i0, hi0, hz0, hz1, hz2⟩ := info_parts info_byte
  have Hi0 := Lib.hid hi0
  have Hz0 := Lib.hid hz0
  have Hz1 := Lib.hid hz1
  have Hz2 := Lib.hid hz2
  clear hi0 hz0 hz1 hz2
  have hp := (pow_int h hh).1
  have HS := fun w : World => Lib.hid (refsign_yes seed hs leaf (by omega) text ht w)
  have HW := fun (k : Nat) (hk : k ≤ 5) (w : World) => Lib.hid (power_any k hk w)
  have HNd := fun (k : Nat) (hk : k < h) => Lib.hid (node_sib seed h k leaf hh hk hl)
  have HTA := Lib.hid hta
  have hl31 : leaf ≤ 31 := by omega
  have hl255 : (leaf : Int) ≤ 31 := by omega
  have HX0 : Hid (sgn seed leaf text 0 = one leaf ++ sigK seed leaf text) := Lib.hid rfl
  have z2 := sigK_size seed leaf text
  generalize sigK seed leaf text = sg at HS HX0 z2
  have HOC := Lib.hid (one_cells leaf (by omega))
  have HSZ := fun k => Lib.hid (sgn_size seed leaf text k)
  have HXS : Hid (∀ k, sgn seed leaf text (k + 1) = sgn seed leaf text k ++ nodeK seed k (sib (leaf / 2 ^ k))) := Lib.hid fun _ => rfl
  have q1 : IntKind.u8.wrap (leaf : Int) = (leaf : Int) := by rw [IntKind.wrap_u8]; omega
  obtain ⟨N, hN⟩ : ∃ N, N = 2 ^ h := ⟨_, rfl⟩
  rw [← hN] at HNd HTA ⊢
  clear hs ht hta hp hl hN
  go_enter Try.func25, Try.ntmps25
  go_wp2_with fail
  refine (HS w).out.mono ?_
  rintro e w1 ⟨rfl, hb1⟩
  have hz1 := hb1.size
  have hb1' : Below w.heap.size w (w1.alloc (.cells #[.int .u8 (leaf : Int)] 5)) := hb1.alloc hz1 _
  have HB1 := Lib.hid hb1'
  have hown0 : (w1.alloc (.cells #[.int .u8 (leaf : Int)] 5)).ownsRow w.heap.size 5 1 (.slice (some ⟨w1.heap.size, 0, none⟩) 1 1) 1 (Lib.byteCells (one leaf).data.toList) := by
    rw [← HOC.out]
    exact own_block w1 #[.int .u8 (leaf : Int)] 5 1 1 w.heap.size hz1 rfl (by omega) (by unfold maxLen; omega)
  have hz1s : w.heap.size ≤ (w1.alloc (.cells #[.int .u8 (leaf : Int)] 5)).heap.size := by simp; omega
  clear hb1 hb1' HS
  go_wp2_with (at_builtin; go_must (refine Lib.wpList_append_own_string _ rfl (.tmp 26) (.tmp 27) 84 9 rfl w.heap.size 5 i0 Try.underlying84 Try.underlying9 Hi0.out Hz0.out Hz1.out Hz2.out _ _ _ (by rfl) hown0 sg (by rfl) (by unfold maxLen; omega) (by omega) hz1s ?_); go_must (intro v1 w2 hown1 hgrow _))
  have hbel2 : Below w.heap.size w w2 := HB1.out.grown hgrow hz1s (fun kk hk => (hown0.lt _ hk).1)
  have hown2 : w2.ownsRow w.heap.size 5 1 v1 (sgn seed leaf text 0).size (Lib.byteCells (sgn seed leaf text 0).data.toList) := by
    rw [HX0.out, data_app, Lib.byteCells_append, ByteArray.size_append, one_size]
    exact hown1
  have HO2 := Lib.hid hown2
  have HB2 := Lib.hid hbel2
  clear hown0 hown1 hown2 hgrow hbel2 hz1s HB1 HOC q1 HX0 z2
  go_wp2_with fail
  go_loopw [13, 14, 15, 16] (fun v i _ _ wr => ∃ k : Nat, k ≤ h ∧ i = .int .i64 k ∧ wr.ownsRow w.heap.size 5 1 v (sgn seed leaf text k).size (Lib.byteCells (sgn seed leaf text k).data.toList) ∧ Below w.heap.size w wr) (fun _ i _ _ _ => h - (intOf i).toNat)
  case atStart => exact ⟨0, by omega, rfl, HO2.out, HB2.out⟩
  case round =>
    obtain ⟨k, hk, rfl, hown, hbel⟩ := hrel
    have hz := hbel.size
    by_cases hlt : k < h
    · have n1 : (k : Int) < (h : Int) := by omega
      obtain ⟨P, hP, hP100, HC⟩ := (HNd k hlt).out
      have HCh := fun (w' : World) (ht' : TextsAt w' g N (fun n => pubK seed n)) => Lib.hid (HC g c w' ht')
      have HWk := fun w : World => HW k (by omega) w
      have hNpos : 0 < 2 ^ k := Nat.pow_pos (by decide)
      have s1 := (HSZ k).out
      have s2 := nodeK_size seed k (sib (leaf / 2 ^ k))
      have HX := Lib.hid (HXS.out k)
      have hq0 : Hid (((leaf / 2 ^ k : Nat) : Int) = (leaf : Int) / ((2 ^ k : Nat) : Int)) := Lib.hid (Int.natCast_ediv _ _)
      have hal : leaf / 2 ^ k ≤ 31 := Nat.le_trans (Nat.div_le_self _ _) hl31
      generalize nodeK seed k (sib (leaf / 2 ^ k)) = nb at HCh s2 HX
      generalize leaf / 2 ^ k = a at hP hq0 hal
      generalize 2 ^ k = M at HWk hP hNpos hq0
      have hPc : Hid ((sib a : Int) * (M : Int) = (P : Int)) := Lib.hid (by rw [← Int.natCast_mul, hP])
      have hM0 : ¬ (M : Int) = 0 := by omega
      have hP0 : 0 ≤ (P : Int) := by omega
      have hP1 : (P : Int) ≤ 100 := by omega
      have HB := Lib.hid hbel
      clear HC HNd HW hP hbel
      by_cases hodd : a % 2 = 1
      · obtain ⟨b, rfl⟩ : ∃ b, a = b + 1 := ⟨a - 1, by omega⟩
        have hsb : sib (b + 1) = b := by unfold sib; rw [if_pos hodd]; omega
        have hm := hPc.out
        rw [hsb] at hm
        have hq : (leaf : Int) / (M : Int) = (b : Int) + 1 := by rw [← hq0.out]; omega
        have hr : ((b : Int) + 1) % 2 = 1 := by omega
        have hb31 : (b : Int) ≤ 31 := by omega
        clear hPc hq0 hodd hsb
        go_wp2_with fail
        refine (HWk wr).out.mono ?_
        rintro e w3 ⟨rfl, rfl⟩
        go_wp2_with fail
        refine (HWk wr).out.mono ?_
        rintro e w3 ⟨rfl, rfl⟩
        go_wp2_with fail
        refine (HCh wr (HTA.out.keep HB.out)).out.mono ?_
        rintro e w4 ⟨rfl, hb4⟩
        have hbel4 := HB.out.trans (hb4.mono hz)
        have hz4 := hbel4.size
        have hown4 := hown.kept (row := none) (only_of_below hb4 none) (by cases hn : Value.ownBlock _ <;> simp)
        have HB4 := Lib.hid hbel4
        clear hown hb4 hbel4 HB hm hq hr hz
        go_wp2_with (at_builtin; go_must (refine Lib.wpList_append_own_string _ rfl (.tmp 45) (.tmp 52) 84 9 rfl w.heap.size 5 i0 Try.underlying84 Try.underlying9 Hi0.out Hz0.out Hz1.out Hz2.out _ _ _ (by rfl) hown4 nb (by rfl) (by unfold maxLen; omega) (by omega) hz4 ?_); go_must (intro v5 w5 hown5 hgrow5 _))
        have hbel5 : Below w.heap.size w w5 := HB4.out.grown hgrow5 hz4 (fun kk hk => (hown4.lt _ hk).1)
        have hown6 : w5.ownsRow w.heap.size 5 1 v5 (sgn seed leaf text (k + 1)).size (Lib.byteCells (sgn seed leaf text (k + 1)).data.toList) := by
          rw [HX.out, data_app, Lib.byteCells_append, ByteArray.size_append]
          exact hown5
        clear hown5 hgrow5 hown4 hz4 s1 s2
        go_wp2_with fail
        exact ⟨⟨k + 1, by omega, by go_num, hown6, hbel5⟩, by simp [intOf]; omega⟩
      · have hsb : sib a = a + 1 := by unfold sib; rw [if_neg hodd]
        have hm := hPc.out
        rw [hsb, Int.natCast_add] at hm
        have hm : ((a : Int) + 1) * (M : Int) = (P : Int) := hm
        have hq : (leaf : Int) / (M : Int) = (a : Int) := hq0.out.symm
        have hr : (a : Int) % 2 = 0 := by omega
        have ha31 : (a : Int) ≤ 31 := by omega
        clear hPc hq0 hodd hsb
        go_wp2_with fail
        refine (HWk wr).out.mono ?_
        rintro e w3 ⟨rfl, rfl⟩
        go_wp2_with fail
        refine (HWk wr).out.mono ?_
        rintro e w3 ⟨rfl, rfl⟩
        go_wp2_with fail
        refine (HCh wr (HTA.out.keep HB.out)).out.mono ?_
        rintro e w4 ⟨rfl, hb4⟩
        have hbel4 := HB.out.trans (hb4.mono hz)
        have hz4 := hbel4.size
        have hown4 := hown.kept (row := none) (only_of_below hb4 none) (by cases hn : Value.ownBlock _ <;> simp)
        have HB4 := Lib.hid hbel4
        clear hown hb4 hbel4 HB hm hq hr hz
        go_wp2_with (at_builtin; go_must (refine Lib.wpList_append_own_string _ rfl (.tmp 45) (.tmp 52) 84 9 rfl w.heap.size 5 i0 Try.underlying84 Try.underlying9 Hi0.out Hz0.out Hz1.out Hz2.out _ _ _ (by rfl) hown4 nb (by rfl) (by unfold maxLen; omega) (by omega) hz4 ?_); go_must (intro v5 w5 hown5 hgrow5 _))
        have hbel5 : Below w.heap.size w w5 := HB4.out.grown hgrow5 hz4 (fun kk hk => (hown4.lt _ hk).1)
        have hown6 : w5.ownsRow w.heap.size 5 1 v5 (sgn seed leaf text (k + 1)).size (Lib.byteCells (sgn seed leaf text (k + 1)).data.toList) := by
          rw [HX.out, data_app, Lib.byteCells_append, ByteArray.size_append]
          exact hown5
        clear hown5 hgrow5 hown4 hz4 s1 s2
        go_wp2_with fail
        exact ⟨⟨k + 1, by omega, by go_num, hown6, hbel5⟩, by simp [intOf]; omega⟩
    · obtain rfl : k = h := by omega
      have hcv := str_of_own (P := Try.prog) 84 9 5 Try.underlying84 Try.underlying5 Try.underlying9 hown
      rw [bs_of] at hcv
      obtain ⟨x, hx⟩ : ∃ x, x = sgn seed leaf text k := ⟨_, rfl⟩
      rw [← hx] at hcv
      have HX := Lib.hid hx
      clear hown hlt hx
      go_wp2_with fail
      go_ret
      exact ⟨by rw [← HX.out]; rfl, hbel⟩
end Go.Proofs.Ytljnadbfadgglaa
