/- witanref03.words: a block's words and all that follow. Condition: the slice's sixty-four bytes are there. -/
import Derived.Test.YtljnadbfadgglaaRef
import Derived.Test.YtljnadbfadgglaaBlkW
import Derived.Deep.RegionHeld3
import Derived.Deep.AppendLies
import Derived.Deep.RegionLaw
namespace Go.Proofs.Ytljnadbfadgglaa
open Go.RowKit
set_option maxRecDepth 100000
attribute [local go_sem] byte_u u_wrap u_xor u_and u_or u_add u_shl24 u_shl16 u_shl8 u_shr3 u_shr10

theorem info_word : (Try.prog.info? 127).map (fun i => (i.zero, i.size, i.bytes)) = some (some (.int .u32 0), 1, 4) := by kernel_rfl

def uCells (l : List (BitVec 32)) : List Value := l.map fun x => Value.int .u32 (u x)
theorem uCells_snoc (l : List (BitVec 32)) (x : BitVec 32) : uCells (l ++ [x]) = uCells l ++ [.int .u32 (u x)] := by simp [uCells]
theorem first_succ (l : List UInt8) (k : Nat) (h : k < 16) : (Sha.first l).take (k + 1) = (Sha.first l).take k ++ [Sha.word l k] := by
  have e : (Sha.first l)[k]? = some (Sha.word l k) := by simp [Sha.first, h]
  rw [List.take_add_one, e]
  rfl

theorem more_next (l : List UInt8) (n : Nat) : Sha.more (Sha.first l) (n + 1) = Sha.more (Sha.first l) n ++ [Sha.s1 ((Sha.more (Sha.first l) n).getD (n + 16 - 2) 0) + (Sha.more (Sha.first l) n).getD (n + 16 - 7) 0 + Sha.s0 ((Sha.more (Sha.first l) n).getD (n + 16 - 15) 0) + (Sha.more (Sha.first l) n).getD (n + 16 - 16) 0] := by
  have hl : (Sha.more (Sha.first l) n).length = n + 16 := by rw [more_length]; simp [Sha.first]; omega
  show Sha.more (Sha.first l) n ++ [Sha.ext (Sha.more (Sha.first l) n)] = _
  unfold Sha.ext
  rw [hl]

set_option maxRecDepth 100000 in
set_option maxHeartbeats 1000000 in
theorem words_any (gb off cap : Nat) (l : List UInt8) (w : World) (hb : ∀ i, i < 64 → w.cell? ⟨gb, off + i, none⟩ = some (.int .u8 (u (byW l i)))) (hgb : gb < w.heap.size) :
    Calls Try.prog 93 #[.slice (some ⟨gb, off, none⟩) 64 cap] w fun e w' => ∃ g c, e = .returned (.slice (some ⟨g, 0, none⟩) 64 c) ∧ w'.ownsRow w.heap.size 127 1 (.slice (some ⟨g, 0, none⟩) 64 c) 64 (uCells (Sha.more (Sha.first l) 48)) ∧ Below w.heap.size w w' := by
  have HB := Lib.hid hb
  clear hb
  obtain ⟨i0, hi0, hz0, hz1, hz2⟩ := info_parts info_word
  have Hi0 := Lib.hid hi0
  have Hz0 := Lib.hid hz0
  have Hz1 := Lib.hid hz1
  have Hz2 := Lib.hid hz2
  clear hi0 hz0 hz1 hz2
  go_enter Try.func93, Try.ntmps93
  go_wp2
  go_loopw [3, 4] (fun v i wr => ∃ k : Nat, k ≤ 16 ∧ i = .int .i64 (4 * (k : Int)) ∧ wr.ownsRow w.heap.size 127 1 v k (uCells ((Sha.first l).take k)) ∧ Below w.heap.size w wr) (fun _ i _ => 64 - (intOf i).toNat)
  case atStart => exact ⟨0, by omega, rfl, World.ownsRow_nil _ _ _ _, Below.refl _ _⟩
  case round =>
    obtain ⟨k, hk, rfl, hown, hbel⟩ := hrel
    have hz := hbel.size
    by_cases hlt : k < 16
    · have hc0 := (hbel.cell (p := ⟨gb, off + (4 * k), none⟩) hgb).trans (HB.out (4 * k) (by omega))
      have hc1 := (hbel.cell (p := ⟨gb, off + (4 * k + 1), none⟩) hgb).trans (HB.out (4 * k + 1) (by omega))
      have hc2 := (hbel.cell (p := ⟨gb, off + (4 * k + 2), none⟩) hgb).trans (HB.out (4 * k + 2) (by omega))
      have hc3 := (hbel.cell (p := ⟨gb, off + (4 * k + 3), none⟩) hgb).trans (HB.out (4 * k + 3) (by omega))
      have hwd := word_byW l k
      generalize byW l (4 * k) = b0 at *
      generalize byW l (4 * k + 1) = b1 at *
      generalize byW l (4 * k + 2) = b2 at *
      generalize byW l (4 * k + 3) = b3 at *
      have HW := Lib.hid hwd
      clear hwd
      have e1 : IntKind.i64.wrap (4 * (k : Int) + 1) = 4 * (k : Int) + 1 := IntWalk.i64_in _ (by omega)
      have e2 : IntKind.i64.wrap (4 * (k : Int) + 2) = 4 * (k : Int) + 2 := IntWalk.i64_in _ (by omega)
      have e3 : IntKind.i64.wrap (4 * (k : Int) + 3) = 4 * (k : Int) + 3 := IntWalk.i64_in _ (by omega)
      have f0 : 0 ≤ 4 * (k : Int) := by omega
      have f1 : 0 ≤ 4 * (k : Int) + 1 := by omega
      have f2 : 0 ≤ 4 * (k : Int) + 2 := by omega
      have f3 : 0 ≤ 4 * (k : Int) + 3 := by omega
      have g0 : 4 * (k : Int) < 64 := by omega
      have g1 : 4 * (k : Int) + 1 < 64 := by omega
      have g2 : 4 * (k : Int) + 2 < 64 := by omega
      have g3 : 4 * (k : Int) + 3 < 64 := by omega
      have t0 : (4 * (k : Int)).toNat = 4 * k := by omega
      have t1 : (4 * (k : Int) + 1).toNat = 4 * k + 1 := by omega
      have t2 : (4 * (k : Int) + 2).toNat = 4 * k + 2 := by omega
      have t3 : (4 * (k : Int) + 3).toNat = 4 * k + 3 := by omega
      go_wp2_with fail
      go_region_held3 (fun w' => w'.cell? ⟨gb, off + (4 * k), none⟩ = some (.int .u8 (u b0)) ∧ w'.cell? ⟨gb, off + (4 * k + 1), none⟩ = some (.int .u8 (u b1)) ∧ w'.cell? ⟨gb, off + (4 * k + 2), none⟩ = some (.int .u8 (u b2)) ∧ w'.cell? ⟨gb, off + (4 * k + 3), none⟩ = some (.int .u8 (u b3)))
        (first
          | go_keep
          | (go_split_ands
             refine ⟨?_, ?_, ?_, ?_⟩ <;> (rw [hgrow.cell_far _ (by simp; omega) (fun e => by have := (hown.lt _ e.symm).1; dsimp only at this; omega)]; assumption)))
        ((refine step_append_lies _ (by rfl) _ _ _ (by rfl) w.heap.size 127 i0 _ 1 4 Try.underlying133 Hi0.out Hz0.out Hz1.out Hz2.out rfl (by omega) _ k _ (by rfl) ((hown.alloc _).drew) ⟨wr.heap.size, 0, none⟩ 1 1 [_] (by rfl) (by rfl) (World.news_of_block (cs := #[_]) (t := 127) (fr := (0, 0)) (heap_alloc_new wr _)) (by simp [Value.oneCell']) (by omega) (by unfold maxLen; omega) (by omega) (by simp; omega) (wr.heap.size + 1) (by simp) ?_; intro gg cap w1 hown1 hgrow hat hlt1))
      have hbel1 : Below w.heap.size w w1 := ((hbel.alloc hz _).drew).grown hgrow (by simp; omega) (fun kk hk => (hown.lt _ hk).1)
      have hown2 : w1.ownsRow w.heap.size 127 1 (.slice (some ⟨gg, 0, none⟩) (k + 1) cap) (k + 1) (uCells ((Sha.first l).take (k + 1))) := by
        rw [first_succ l k hlt, uCells_snoc, ← HW.out]; exact hown1
      clear hown1 hgrow hat hlt1 hown hbel hz e1 e2 e3 f0 f1 f2 f3 g0 g1 g2 g3 t0 t1 t2 t3 hc0 hc1 hc2 hc3
      go_wp2_with fail
      refine ⟨⟨k + 1, by omega, by go_num, hown2, hbel1⟩, by simp [intOf]; omega⟩
    · obtain rfl : k = 16 := by omega
      have hown0 : wr.ownsRow w.heap.size 127 1 u3 16 (uCells (Sha.more (Sha.first l) 0)) := by
        rw [List.take_of_length_le (by simp [Sha.first])] at hown; exact hown
      have HO := Lib.hid hown0
      have HBe := Lib.hid hbel
      clear hown hown0 hbel hlt hk hz
      rw [show (4 * ((16 : Nat) : Int)) = 64 from rfl]
      go_wp2_with fail
      go_loopw [3, 5] (fun v i wr => ∃ t : Nat, 16 ≤ t ∧ t ≤ 64 ∧ i = .int .i64 (t : Int) ∧ wr.ownsRow w.heap.size 127 1 v t (uCells (Sha.more (Sha.first l) (t - 16))) ∧ Below w.heap.size w wr) (fun _ i _ => 64 - (intOf i).toNat)
      case atStart => exact ⟨16, by omega, by omega, rfl, HO.out, HBe.out⟩
      case round =>
        clear HO HBe
        obtain ⟨t, ht1, ht2, rfl, hown, hbel⟩ := hrel
        have hz := hbel.size
        obtain ⟨gg, cc, rfl, hg1, hg2⟩ := hown.form (by omega)
        by_cases hlt : t < 64
        · have hW := more_next l (t - 16)
          rw [show t - 16 + 16 = t by omega] at hW
          have hlen : (Sha.more (Sha.first l) (t - 16)).length = t := by rw [more_length]; simp [Sha.first]; omega
          have hcl : ∀ j (hj : j < t), wr.cell? ⟨gg, j, none⟩ = some (.int .u32 (u ((Sha.more (Sha.first l) (t - 16)).getD j 0))) := by
            intro j hj
            rw [hown.cellAt j (by omega)]
            simp [uCells, List.getD_eq_getElem?_getD, hlen, hj]
          have hc15 := hcl (t - 15) (by omega)
          have hc2 := hcl (t - 2) (by omega)
          have hc7 := hcl (t - 7) (by omega)
          have hc16 := hcl (t - 16) (by omega)
          clear hcl
          have HW := Lib.hid hW
          have HO := Lib.hid hown
          clear hW hlen
          go_wp2_with fail
          go_region
          go_wp2_with (go_at_call 94; refine (turn_q _ _ (by decide) _).mono ?_; rintro e w' ⟨rfl, rfl⟩)
          have e7 : IntKind.i64.wrap ((t : Int) - 7) = (t : Int) - 7 := IntWalk.i64_in _ (by omega)
          have e16 : IntKind.i64.wrap ((t : Int) - 16) = (t : Int) - 16 := IntWalk.i64_in _ (by omega)
          have f7 : 7 ≤ (t : Int) := by omega
          have f16 : 16 ≤ (t : Int) := by omega
          have g7 : (t : Int) - 7 < (t : Int) := by omega
          have g16 : (t : Int) - 16 < (t : Int) := by omega
          have t7 : ((t : Int) - 7).toNat = t - 7 := by omega
          have t16 : ((t : Int) - 16).toNat = t - 16 := by omega
          go_region_law (first
            | (refine step_append_lies _ (by rfl) _ _ _ (by rfl) w.heap.size 127 i0 _ 1 4 Try.underlying133 Hi0.out Hz0.out Hz1.out Hz2.out rfl (by omega) _ t _ (by rfl) (((HO.out.alloc _).drew).drew) ⟨wr.heap.size, 0, none⟩ 1 1 [_] (by rfl) (by rfl) (World.news_of_block (cs := #[_]) (t := 127) (fr := (0, 0)) (heap_alloc_new wr _)) (by simp [Value.oneCell']) (by omega) (by unfold maxLen; omega) (by omega) (by simp; omega) (wr.heap.size + 1) (by simp) ?_; intro gn cap w1 hown1 hgrow hat hlt1))
          all_goals
            have hbel1 : Below w.heap.size w w1 := (((hbel.alloc hz _).drew).drew).grown hgrow (by simp; omega) (fun kk hk => (hown.lt _ hk).1)
            have hown2 : w1.ownsRow w.heap.size 127 1 (.slice (some ⟨gn, 0, none⟩) (t + 1) cap) (t + 1) (uCells (Sha.more (Sha.first l) (t + 1 - 16))) := by
              rw [show t + 1 - 16 = t - 16 + 1 by omega, HW.out, uCells_snoc]
              simp only [List.getD_eq_getElem?_getD]
              exact hown1
            clear hown1 hgrow hat hlt1 hown hbel hz e7 e16 f7 f16 g7 g16 t7 t16 hc15 hc2 hc7 hc16 hg1 hg2 HO HW
            go_wp2_with fail
            refine ⟨⟨t + 1, by omega, by omega, by go_num, hown2, hbel1⟩, by simp [intOf]; omega⟩
        · obtain rfl : t = 64 := by omega
          go_wp2
          go_ret
          exact ⟨gg, cc, rfl, hown, hbel⟩
end Go.Proofs.Ytljnadbfadgglaa
