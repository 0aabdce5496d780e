/- sha.Sum: the digest of the parts joined. Condition: the parts together take at most 2^32 bytes. -/
import Derived.Test.YtljnadbfadgglaaBlk
import Derived.Test.YtljnadbfadgglaaSumW
import Derived.Test.YtljnadbfadgglaaShelf
import Derived.Test.YtljnadbfadgglaaConst
namespace Go.Proofs.Ytljnadbfadgglaa
open Go.RowKit
set_option maxRecDepth 100000
attribute [local go_sem] u_shr24 u_shr16 u_shr8

theorem pad_len (n : Nat) : (Sha.pad n).length = 64 - (n + 8) % 64 + 8 := by simp [Sha.pad, Sha.lenBytes]; omega

set_option maxRecDepth 100000 in
set_option maxHeartbeats 1000000 in
theorem sum_any (bk o c n : Nat) (xs : List ByteArray) (hn : n = xs.length) (w : World) (hcells : ∀ (j : Nat) x, xs[j]? = some x → w.cell? ⟨bk, o + j, none⟩ = some (.string x)) (hbk : bk < w.heap.size) (hcap : n ≤ c) (hN : n ≤ 1000000)
    (hlen : (cat xs).size ≤ 4294967296) :
    Calls Try.prog 52 #[.slice (some ⟨bk, o, none⟩) n c] w fun e w' => e = .returned (.string (dig (cat xs))) ∧ Below w.heap.size w w' := by
  subst hn
  have Hl := Lib.hid hlen
  have HJ := Lib.hid (Try.strings_Join bk o c xs ⟨#[]⟩ w hcells hbk (by omega) hcap (by rw [← cat_size]; omega))
  clear hcells hlen
  go_enter Try.func52, Try.ntmps52
  go_wp2_with fail
  refine HJ.out.mono ?_
  rintro e w1 ⟨rfl, hb1⟩
  rw [join_cat]
  clear HJ
  generalize hT : cat xs = T
  rw [hT] at Hl
  have HT := Lib.hid hT
  clear hT
  have hsz := hb1.size
  go_wp2_with fail
  refine (pad_some _ Hl.out w1).mono ?_
  rintro e w2 ⟨rfl, hb2⟩
  have hpl : (bs (Sha.pad T.size)).size ≤ 72 := by rw [bs_size, pad_len]; omega
  have hTs : T.size ≤ 4294967296 := Hl.out
  go_wp2_with fail
  refine (consts_any w2).mono ?_
  rintro e w3 ⟨rfl, hb3⟩
  go_wp2_with (refine build_to rfl 132 _ rfl (stK Sha.H0) (by as_aux_lemma => kernel_rfl) ?_)
  have hb4 : Below w.heap.size w (w3.alloc (.cells (stK Sha.H0) 132)) := (((hb1.trans (hb2.mono hsz)).trans (hb3.mono (by have := hb2.size; omega))).alloc (by have := hb2.size; have := hb3.size; omega) _)
  have hg0 : w.heap.size ≤ w3.heap.size := by have := hb2.size; have := hb3.size; omega
  have hh0 : (w3.alloc (.cells (stK Sha.H0) 132)).heap[w3.heap.size]? = some (.cells (stK Sha.H0) 132 (0, 0)) := heap_alloc_new _ _
  have e0 : T ++ bs (Sha.pad T.size) = bs (padded T) := by rw [str_append]; rfl
  rw [e0]
  have hmod := padded_length T
  have hd := dig_hash T
  have hll : (padded T).length ≤ 4294967296 + 72 := by
    unfold padded; rw [List.length_append, pad_len, Array.length_toList]
    show T.size + _ ≤ _
    omega
  generalize padded T = l at hmod hd hll
  have HD := Lib.hid hd
  have H0' := Lib.hid hh0
  have HB4 := Lib.hid hb4
  clear hd hh0 hb4 e0 hpl Hl hb1 hb2 hb3 hsz hTs
  go_loopw [3] (fun x wr => ∃ k : Nat, 64 * k ≤ l.length ∧ x = .string (bs (l.drop (64 * k))) ∧ wr.heap[w3.heap.size]? = some (.cells (stK (Sha.hash l k)) 132 (0, 0)) ∧ Below w.heap.size w wr) (fun x _ => match x with | .string s => s.size | _ => 0)
  case atStart => exact ⟨0, by omega, rfl, H0'.out, HB4.out⟩
  case round =>
    obtain ⟨k, hk, rfl, hst, hbel⟩ := hrel
    have hsz : (bs (l.drop (64 * k))).size = l.length - 64 * k := by rw [bs_size, List.length_drop]
    by_cases hlt : 64 * k + 64 ≤ l.length
    · have e1 : (bs (l.drop (64 * k))).extract 0 64 = bs ((l.drop (64 * k)).take 64) := by rw [bs_extract]; rfl
      have e2 : (bs (l.drop (64 * k))).extract 64 (bs (l.drop (64 * k))).size = bs (l.drop (64 * (k + 1))) := by
        rw [bs_rest _ _ _ (bs_size _), List.drop_drop, show 64 * k + 64 = 64 * (k + 1) by omega]
      have e3 : ((bs (l.drop (64 * k))).extract 0 64).size = 64 := by rw [e1, bs_size, List.length_take, List.length_drop]; omega
      have e4 : (bs (l.drop (64 * (k + 1)))).size + 64 = (bs (l.drop (64 * k))).size := by rw [bs_size, bs_size, List.length_drop, List.length_drop]; omega
      have hB := block_any w3.heap.size ((bs (l.drop (64 * k))).extract 0 64) e3 wr _ hst
      rw [e1, bs_data, ← hash_succ, ← e1] at hB
      have HB := Lib.hid hB
      have E2 := Lib.hid e2
      have E4 := Lib.hid e4
      generalize hx : bs (l.drop (64 * k)) = x at *
      have h64 : 64 ≤ x.size := by omega
      have hmax : x.size ≤ 4294967296 + 72 := by omega
      clear hB e2 e3 e4 e1 hsz hx
      go_wp2_with fail
      refine HB.out.mono ?_
      rintro e w5 ⟨rfl, ho⟩
      have hbel5 : Below w.heap.size w w5 := hbel.grown ho.1 hbel.size (fun j hj => by cases hj; exact hg0)
      have HO := Lib.hid ho.2
      clear ho HB hbel hst
      go_wp2_with fail
      rw [E2.out]
      go_roundw
      case rel => exact ⟨k + 1, by omega, rfl, HO.out, hbel5⟩
      case measure => have := E4.out; simp; omega
    · have hke : l.length = 64 * k := by omega
      have hkd : l.length / 64 = k := by omega
      rw [hkd] at HD
      have hst2 := hst
      generalize hC : Sha.hash l k = C at hst2 HD
      have hout : Out wr w3.heap.size 132 C wr := ⟨World.grownBy.refl _ _, hst2⟩
      have hrow := hst2
      generalize hx : bs (l.drop (64 * k)) = x at *
      have h64 : ¬ 64 ≤ (x.size : Int) := by omega
      clear hst2 hst hx hC hk hke hkd hlt hmod hll HB4 H0' hout
      have hglt : w3.heap.size < wr.heap.size := (Array.getElem?_eq_some_iff.1 hrow).1
      obtain ⟨hc0, hc1, hc2, hc3, hc4, hc5, hc6, hc7⟩ := row_cells hrow
      have hz := hbel.size
      clear hrow hsz
      have hmk : ∀ w : World, (Instr.makeSlice 84 (.int .i64 0) (.int .i64 32)).run Try.prog w = .ok (.slice (some ⟨w.heap.size, 0, none⟩) 0 32) (w.alloc (.cells (madeCells #[Value.int .u8 0] 32) 5)) := by
        intro w
        obtain ⟨i0, hi0, hz0, hz1, hz2⟩ := info_parts info_byte
        have := run_make (P := Try.prog) w 84 5 i0 _ Try.underlying84 hi0 hz0 .i64 .i64 0 32 (by omega) (by omega) (by rw [hz2]; decide) (by decide)
        rw [this, hz1]
        rfl
      go_wp2_with fail
      clear hmk hc0 hc1 hc2 hc3 hc4 hc5 hc6 hc7
      go_loopw [7, 39] (fun v i w' => ∃ n : Nat, n ≤ 8 ∧ i = .int .i64 n ∧ w'.ownsRow w.heap.size 5 1 v (4 * n) (Lib.byteCells (outTo C n)) ∧ Below w.heap.size w w') (fun _ i _ => 8 - (intOf i).toNat)
      case atStart =>
        refine ⟨0, by omega, rfl, ?_, hbel.alloc hz _⟩
        exact own_block wr (madeCells #[Value.int .u8 0] 32) 5 0 32 w.heap.size hz (by simp [madeCells]) (by omega) (by decide)
      case round =>
        obtain ⟨n, hn, rfl, hown, hbel'⟩ := hrel
        have hz' := hbel'.size
        by_cases hlt : n < 8
        · have hix := idx8 C n hlt
          have hoc := out_cells C n hlt
          generalize at_ C n = A at hix hoc
          have HOC := Lib.hid hoc
          clear hoc
          go_wp2_with (at_builtin; go_must (refine app_lit rfl (.tmp 42) (.tmp 54) 84 5 rfl info_byte Try.underlying84 rfl w _ w.heap.size w.heap.size (Nat.le_refl _) hz' hbel' _ _ _ (by rfl) hown _ 4 4 (by rfl) (by rfl) (by intro u hu; simp at hu; rcases hu with rfl | rfl | rfl | rfl <;> rfl) (by omega) (by unfold maxLen; omega) ?_); go_must (intro v1 w9 hown1 hbel1 _ _); clear hown hbel' hz')
          have hown2 : w9.ownsRow w.heap.size 5 1 v1 (4 * (n + 1)) (Lib.byteCells (outTo C (n + 1))) := by rw [HOC.out]; exact hown1
          clear hown1
          refine ⟨⟨n + 1, by omega, by go_num, hown2, hbel1⟩, by simp [intOf]; omega⟩
        · obtain rfl : n = 8 := by omega
          have hcv := str_of_own (P := Try.prog) 84 9 5 Try.underlying84 Try.underlying5 Try.underlying9 hown
          rw [outTo_all, ← HD.out] at hcv
          clear hown hlt
          go_wp2
          go_ret
          exact ⟨ret_val (by rw [HT.out]; rfl), hbel'⟩
end Go.Proofs.Ytljnadbfadgglaa
