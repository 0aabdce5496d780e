/- Joined texts: what the layers 1 and 6 compute: groves, readers, both texts. No condition. -/
import Derived.Test.YtljnadbfadgglaaS1
import Derived.Deep.AppendLies
import Derived.Deep.RegionHeld3
import Derived.SliceStrings
import Derived.Deep.Fields
import Derived.ChangeArms
/- grove.grow: a tree's levels. Condition: the seed takes at most 4,096 bytes, the height is 0 to 5. -/
namespace Go.Proofs.Ytljnadbfadgglaa
open Go.RowKit
set_option maxRecDepth 100000
set_option linter.unusedVariables false
set_option linter.unusedSimpArgs false

/-- A tree's nodes: number i of level j. -/
def nodeK (seed : ByteArray) : Nat → Nat → ByteArray
  | 0, i => pubK seed i
  | j + 1, i => dig (nodeK seed j (2 * i) ++ nodeK seed j (2 * i + 1))
theorem nodeK_size (seed : ByteArray) (j i : Nat) : (nodeK seed j i).size = 32 := by
  cases j with
  | zero => exact pubK_size seed i
  | succ j => exact dig_size _

/-- Block b holds texts: f 0, f 1 .. -/
def Str (w : World) (b n : Nat) (f : Nat → ByteArray) : Prop := ∃ cur, w.heap[b]? = some (.cells cur 9 (0, 0)) ∧ n ≤ cur.size ∧ ∀ i, i < n → cur[i]? = some (.string (f i))
theorem Str.lt {w : World} {b n : Nat} {f : Nat → ByteArray} (h : Str w b n f) : b < w.heap.size := by
  obtain ⟨cur, hb, _⟩ := h; exact (Array.getElem?_eq_some_iff.1 hb).1
theorem Str.cell {w : World} {b n : Nat} {f : Nat → ByteArray} (h : Str w b n f) (i : Nat) (hi : i < n) : w.cell? ⟨b, i, none⟩ = some (.string (f i)) := by
  obtain ⟨cur, hb, _, hc⟩ := h
  rw [cell_of_row w b i _ _ _ hb, hc i hi]
theorem Str.keep {w w' : World} {b n : Nat} {f : Nat → ByteArray} (h : Str w b n f) (hb : Below w.heap.size w w') : Str w' b n f := by
  have hlt := h.lt
  obtain ⟨cur, hh, r⟩ := h
  exact ⟨cur, (hb.block b hlt).trans hh, r⟩
theorem Str.grown {w w' : World} {b n base m : Nat} {f : Nat → ByteArray} {v : Value} {xs : List Value} (h : Str w b n f) (hown : w.ownsRow base 34 1 v m xs) (hg : w.grownBy w' v.ownBlock) : Str w' b n f := by
  have hlt := h.lt
  obtain ⟨cur, hh, r⟩ := h
  exact ⟨cur, (hg.block b hlt (fun e => Lib.ownBlock_ne hown hh (by decide) e.symm)).trans hh, r⟩
theorem Str.set {w : World} {b N k : Nat} {f : Nat → ByteArray} {x : ByteArray} (h : ∃ cur, w.heap[b]? = some (.cells cur 9 (0, 0)) ∧ cur.size = N ∧ ∀ i, i < k → cur[i]? = some (.string (f i))) (hk : k < N) (hx : x = f k) :
    ∃ cur, (w.setCell ⟨b, k, none⟩ (.string x)).heap[b]? = some (.cells cur 9 (0, 0)) ∧ cur.size = N ∧ ∀ i, i < k + 1 → cur[i]? = some (.string (f i)) := by
  obtain ⟨cur, hb, hs, hc⟩ := h
  refine ⟨cur.setIfInBounds k (.string x), heap_setCell_same w b k _ _ _ hb, by simp [hs], fun i hi => ?_⟩
  rw [Array.getElem?_setIfInBounds]
  by_cases e : k = i
  · subst e; rw [if_pos rfl, if_pos (by omega), hx]
  · rw [if_neg e]; exact hc i (by omega)

theorem info_str6 : (Try.prog.info? 9).map (fun i => (i.zero, i.size, i.bytes)) = some (some (.string ByteArray.empty), 1, 16) := by kernel_rfl
theorem info_lvl : (Try.prog.info? 34).map (fun i => (i.zero, i.size, i.bytes)) = some (some (.slice none 0 0), 1, 24) := by kernel_rfl
theorem mkS (n : Nat) (hn : n ≤ 1000) (w : World) : (Instr.makeSlice 34 (.int .i64 (n : Int)) (.int .i64 (n : Int))).run Try.prog w = .ok (.slice (some ⟨w.heap.size, 0, none⟩) n n) (w.alloc (.cells (madeCells #[Value.string ByteArray.empty] n) 9)) := by
  obtain ⟨i0, hi0, hz0, hz1, hz2⟩ := info_parts info_str6
  have := run_make (P := Try.prog) w 34 9 i0 _ Try.underlying34 hi0 hz0 .i64 .i64 n n (by omega) (by omega) (by rw [hz2]; omega) (by omega)
  rw [this, hz1, Int.toNat_natCast, Nat.mul_one]
  rfl
theorem pow_int (h : Nat) (hh : h ≤ 5) : 2 ^ h ≤ 32 ∧ 1 ≤ 2 ^ h ∧ wrap64 ((2 : Int) ^ h) = ((2 ^ h : Nat) : Int) := by
  have : h = 0 ∨ h = 1 ∨ h = 2 ∨ h = 3 ∨ h = 4 ∨ h = 5 := by omega
  rcases this with rfl | rfl | rfl | rfl | rfl | rfl <;> exact ⟨by decide, by decide, by decide +kernel⟩
theorem pow_half (h j : Nat) (hj : j < h) : 2 ^ (h - j) = 2 * 2 ^ (h - (j + 1)) := by
  rw [show h - j = (h - (j + 1)) + 1 by omega, Nat.pow_succ, Nat.mul_comm]

/-- The levels as values. -/
def lvls (h : Nat) (bl : Nat → Nat) (m : Nat) : List Value := (List.range m).map fun i => Value.slice (some ⟨bl i, 0, none⟩) (2 ^ (h - i)) (2 ^ (h - i))
theorem lvls_succ (h : Nat) (bl : Nat → Nat) (m : Nat) : lvls h bl (m + 1) = lvls h bl m ++ [Value.slice (some ⟨bl m, 0, none⟩) (2 ^ (h - m)) (2 ^ (h - m))] := by
  unfold lvls; rw [List.range_succ, List.map_append]; rfl
theorem lvls_congr (h : Nat) (bl bl' : Nat → Nat) (m : Nat) (e : ∀ i, i < m → bl' i = bl i) : lvls h bl' m = lvls h bl m := by
  unfold lvls
  apply List.map_congr_left
  intro i hi
  rw [e i (by simpa using hi)]
theorem lvls_at (h : Nat) (bl : Nat → Nat) (m i : Nat) (hi : i < m) : (lvls h bl m)[i]? = some (Value.slice (some ⟨bl i, 0, none⟩) (2 ^ (h - i)) (2 ^ (h - i))) := by
  unfold lvls; simp [hi]

set_option maxHeartbeats 2000000 in
theorem grow_any (seed : ByteArray) (hs : seed.size ≤ 4096) (h : Nat) (hh : h ≤ 5) (w : World) :
    Calls Try.prog 45 #[.string seed, .int .i64 (h : Int)] w fun e w' => ∃ bl v, e = .returned v ∧ w'.ownsRow w.heap.size 34 1 v (h + 1) (lvls h bl (h + 1)) ∧ (∀ i, i ≤ h → w.heap.size ≤ bl i ∧ Str w' (bl i) (2 ^ (h - i)) (nodeK seed i)) ∧ Below w.heap.size w w' := by
  obtain ⟨hN32, hN1, hshl⟩ := pow_int h hh
  obtain ⟨N, hN⟩ : ∃ N, N = 2 ^ h := ⟨_, rfl⟩
  rw [← hN] at hN32 hN1 hshl
  have HP := fun (k : Nat) (hk : k ≤ 255) (w : World) => Lib.hid (public_yes seed hs k hk w)
  have hmk := mkS N (by omega)
  have hmz : (madeCells #[Value.string ByteArray.empty] N).size = N := size_madeCells _ _
  generalize madeCells #[Value.string ByteArray.empty] N = M at hmk hmz
  have hhi : (h : Int) ≤ 5 := by omega
  have HN := Lib.hid hN
  clear hs hN
  go_enter Try.func45, Try.ntmps45
  go_wp2_with fail
  clear hmk hshl
  go_loopw [15] (fun i wr => ∃ k : Nat, k ≤ N ∧ i = .int .i64 k ∧ Hid (∃ cur, wr.heap[w.heap.size]? = some (.cells cur 9 (0, 0)) ∧ cur.size = N ∧ ∀ i, i < k → cur[i]? = some (.string (nodeK seed 0 i))) ∧ Below w.heap.size w wr) (fun i _ => N - (intOf i).toNat)
  case atStart => exact ⟨0, by omega, rfl, Lib.hid ⟨M, heap_alloc_new w _, hmz, fun i hi => by omega⟩, (Below.refl _ _).alloc (Nat.le_refl _) _⟩
  case round =>
    obtain ⟨k, hk, rfl, hrow, hbel⟩ := hrel
    have hz := hbel.size
    by_cases hlt : k < N
    · have n0 : 0 ≤ (k : Int) := by omega
      have n1 : (k : Int) < (N : Int) := by omega
      go_wp2_with fail
      refine (HP k (by omega) wr).out.mono ?_
      rintro e w2 ⟨rfl, hb2⟩
      obtain ⟨cur, hc1, hc2, hc3⟩ := hrow.out
      have hblt := (Array.getElem?_eq_some_iff.1 hc1).1
      have hc1' := (hb2.block w.heap.size hblt).trans hc1
      have hck : w2.cell? ⟨w.heap.size, k, none⟩ = some (cur[k]'(by omega)) := by rw [cell_of_row w2 w.heap.size k _ _ _ hc1']; simp
      have hfk : w2.frozen? ⟨w.heap.size, k, none⟩ = false := frozen_of_row w2 w.heap.size k _ _ hc1'
      have hnew := Str.set (f := nodeK seed 0) (x := pubK seed k) ⟨cur, hc1', hc2, hc3⟩ hlt rfl
      have HNEW := Lib.hid hnew
      have hbel2 := (hbel.trans (hb2.mono hz)).setCell (p := ⟨w.heap.size, k, none⟩) (Nat.le_refl _) (.string (pubK seed k))
      clear hc1 hc3 hc1' hrow hnew hb2
      generalize cur[k]'(by omega) = old at hck
      go_wp2_with fail
      first
        | exact ⟨⟨k + 1, by omega, by go_num, HNEW, hbel2⟩, by simp [intOf]; omega⟩
        | trace_state
    · obtain rfl : k = N := by omega
      obtain ⟨cur, hc1, hc2, hc3⟩ := hrow.out
      have hstr : Str wr w.heap.size k (nodeK seed 0) := ⟨cur, hc1, by omega, hc3⟩
      have HSTR := Lib.hid hstr
      clear hrow hc1 hc3 hstr
      go_wp2_with fail
      have hb0 := hbel.alloc hz (.cells #[.slice (some ⟨w.heap.size, 0, none⟩) k k] 34)
      have hown0 : (wr.alloc (.cells #[.slice (some ⟨w.heap.size, 0, none⟩) k k] 34)).ownsRow w.heap.size 34 1 (.slice (some ⟨wr.heap.size, 0, none⟩) 1 1) 1 (lvls h (fun _ => w.heap.size) 1) := by
        have := own_block wr #[.slice (some ⟨w.heap.size, 0, none⟩) k k] 34 1 1 w.heap.size hz rfl (by omega) (by unfold maxLen; omega)
        rw [show lvls h (fun _ => w.heap.size) 1 = [Value.slice (some ⟨w.heap.size, 0, none⟩) k k] by rw [HN.out]; rfl]
        exact this
      have hs0 : Hid (∀ i, i ≤ 0 → w.heap.size ≤ (fun _ : Nat => w.heap.size) i ∧ Str (wr.alloc (.cells #[.slice (some ⟨w.heap.size, 0, none⟩) k k] 34)) w.heap.size (2 ^ (h - i)) (nodeK seed i)) := Lib.hid (fun i hi => by
        obtain rfl : i = 0 := by omega
        refine ⟨Nat.le_refl _, ?_⟩
        rw [Nat.sub_zero, ← HN.out]
        exact HSTR.out.keep ((Below.refl _ _).alloc (Nat.le_refl _) _))
      have HOWN0 := Lib.hid hown0
      have HB0 := Lib.hid hb0
      have hk2 : k = 2 ^ (h - 0) := HN.out
      clear hown0 hb0 HSTR hbel hz hmz
      go_loopw [5, 7] (fun lev v wa => ∃ (j : Nat) (bl : Nat → Nat), j ≤ h ∧ lev = .slice (some ⟨bl j, 0, none⟩) (2 ^ (h - j)) (2 ^ (h - j)) ∧ wa.ownsRow w.heap.size 34 1 v (j + 1) (lvls h bl (j + 1)) ∧ Hid (∀ i, i ≤ j → w.heap.size ≤ bl i ∧ Str wa (bl i) (2 ^ (h - i)) (nodeK seed i)) ∧ Below w.heap.size w wa) (fun lev _ _ => match lev with | .slice _ n _ => n | _ => 0)
      case atStart => exact ⟨0, fun _ => w.heap.size, by omega, by rw [← hk2], HOWN0.out, hs0, HB0.out⟩
      case round =>
        obtain ⟨j, bl, hj, rfl, hown, hstr, hbel⟩ := hrel
        have hz := hbel.size
        by_cases hjh : j < h
        · obtain ⟨m, hm⟩ : ∃ m, m = 2 ^ (h - (j + 1)) := ⟨_, rfl⟩
          have hn2 : 2 ^ (h - j) = 2 * m := by rw [hm]; exact pow_half h j hjh
          have hm16 : 1 ≤ m ∧ m ≤ 16 := by
            have h1 := (pow_int (h - (j + 1)) (by omega)).2.1
            have h2 := (pow_int (h - j) (by omega)).1
            omega
          rw [hn2]
          have Hm := Lib.hid hm
          have hq1 : ((2 * m : Nat) : Int) / 2 = (m : Int) := by omega
          have hq2 : ((2 * m : Nat) : Int).tdiv 2 = (m : Int) := by rw [Int.tdiv_eq_ediv_of_nonneg (by omega)]; omega
          have hgt : (1 : Int) < ((2 * m : Nat) : Int) := by omega
          have hmk := mkS m (by omega) wr
          have hmz : (madeCells #[Value.string ByteArray.empty] m).size = m := size_madeCells _ _
          generalize madeCells #[Value.string ByteArray.empty] m = M2 at hmk hmz
          have hsj := (hstr.out j (Nat.le_refl _)).2
          rw [hn2] at hsj
          have Hsj := Lib.hid hsj
          have HW := Lib.hid hown
          have HS := hstr
          have HB := Lib.hid hbel
          clear hown hstr hbel hm hn2 hsj hk2
          go_wp2_with fail
          clear hmk
          obtain ⟨wo, hwo⟩ : ∃ wo, wo = wr := ⟨_, rfl⟩
          subst hwo
          have hzc : wo.heap.size < (wo.alloc (.cells M2 9)).heap.size := by simp
          go_loopw [39] (fun i wk => ∃ q : Nat, q ≤ m ∧ i = .int .i64 q ∧ Hid (∃ cur, wk.heap[wo.heap.size]? = some (.cells cur 9 (0, 0)) ∧ cur.size = m ∧ ∀ i, i < q → cur[i]? = some (.string (nodeK seed (j + 1) i))) ∧ Below wo.heap.size wo wk) (fun i _ => m - (intOf i).toNat)
          case atStart => exact ⟨0, by omega, rfl, Lib.hid ⟨M2, heap_alloc_new wo _, hmz, fun i hi => by omega⟩, (Below.refl _ _).alloc (Nat.le_refl _) _⟩
          case round =>
            obtain ⟨q, hq, rfl, hrow, hbk⟩ := hrel
            have hzk := hbk.size
            by_cases hqm : q < m
            · have n0 : 0 ≤ (q : Int) := by omega
              have n1 : (q : Int) < (m : Int) := by omega
              have i0 : 0 ≤ 2 * (q : Int) := by omega
              have i1 : 2 * (q : Int) < 2 * (m : Int) := by omega
              have i2 : 0 ≤ 2 * (q : Int) + 1 := by omega
              have i3 : 2 * (q : Int) + 1 < 2 * (m : Int) := by omega
              have a1 : IntKind.i64.wrap (2 * (q : Int)) = 2 * (q : Int) := by rw [IntKind.wrap_i64]; omega
              have a2 : IntKind.i64.wrap (2 * (q : Int) + 1) = 2 * (q : Int) + 1 := by rw [IntKind.wrap_i64]; omega
              have t1 : (2 * (q : Int)).toNat = 2 * q := by omega
              have t2 : (2 * (q : Int) + 1).toNat = 2 * q + 1 := by omega
              have hs2 := Hsj.out.keep hbk
              have ca := hs2.cell (2 * q) (by omega)
              have cb := hs2.cell (2 * q + 1) (by omega)
              have hbj := hs2.lt
              have hbne : bl j ≠ wo.heap.size := by have := Hsj.out.lt; omega
              have hA := nodeK_size seed j (2 * q)
              have hB := nodeK_size seed j (2 * q + 1)
              have HX : Hid (nodeK seed (j + 1) q = dig (nodeK seed j (2 * q) ++ nodeK seed j (2 * q + 1))) := Lib.hid rfl
              have HSum := fun (b : Nat) (V : World) (hb : V.heap[b]? = some (.cells #[.string (nodeK seed j (2 * q)), .string (nodeK seed j (2 * q + 1))] 9 (0, 0))) => Lib.hid (sum_blk [nodeK seed j (2 * q), nodeK seed j (2 * q + 1)] b 2 rfl V 9 hb (by omega) (by rw [cat_pair, ByteArray.size_append]; omega))
              simp only [cat_pair] at HSum
              rw [← HX.out] at HSum
              generalize nodeK seed j (2 * q) = x at ca hA HSum
              generalize nodeK seed j (2 * q + 1) = y at cb hB HSum
              obtain ⟨cur, hc1, hc2, hc3⟩ := hrow.out
              have hclt := (Array.getElem?_eq_some_iff.1 hc1).1
              have HC1 := Lib.hid hc1
              have HC3 := Lib.hid hc3
              clear hs2 hc1 hc3 hrow HX
              go_wp2_with fail
              go_region_held3 (fun w' => w'.cell? ⟨bl j, 2 * q, none⟩ = some (.string x) ∧ w'.cell? ⟨bl j, 2 * q + 1, none⟩ = some (.string y))
                (first
                  | exact ⟨ca, cb⟩
                  | exact ⟨(World.cell?_of_block (Below.heap_alloc wr _ (bl j) hbj)).trans ca, (World.cell?_of_block (Below.heap_alloc wr _ (bl j) hbj)).trans cb⟩
                  | exact ⟨(hB2.cell (p := ⟨bl j, 2 * q, none⟩) hbj).trans ca, (hB2.cell (p := ⟨bl j, 2 * q + 1, none⟩) hbj).trans cb⟩
                  | exact ⟨(World.cell?_of_block (Below.heap_setCell _ _ _ _ (by exact hbne))).trans ((hB2.cell (p := ⟨bl j, 2 * q, none⟩) hbj).trans ca), (World.cell?_of_block (Below.heap_setCell _ _ _ _ (by exact hbne))).trans ((hB2.cell (p := ⟨bl j, 2 * q + 1, none⟩) hbj).trans cb)⟩)
                ((first
                  | (go_at_call 52; refine (HSum wr.heap.size _ (by exact heap_alloc_new wr _)).out.mono ?_; rintro e w2 ⟨rfl, hb2⟩
                     have hB2 : Below wr.heap.size wr w2 := (((Below.refl wr.heap.size wr).alloc (Nat.le_refl _) _).drew).trans (hb2.mono (by simp))
                     have hc2' : w2.heap[wo.heap.size]? = some (.cells cur 9 (0, 0)) := (hB2.block _ hclt).trans HC1.out
                     have hck : w2.cell? ⟨wo.heap.size, q, none⟩ = some (cur[q]'(by omega)) := by rw [cell_of_row w2 wo.heap.size q _ _ _ hc2']; simp
                     have hfk : w2.frozen? ⟨wo.heap.size, q, none⟩ = false := frozen_of_row w2 wo.heap.size q _ _ hc2'
                     have HC2 := Lib.hid hc2'
                     clear hc2' hb2)))
              have hnew := Lib.hid (Str.set (f := nodeK seed (j + 1)) (x := nodeK seed (j + 1) q) ⟨cur, HC2.out, hc2, HC3.out⟩ hqm rfl)
              have hbk2 := (hbk.trans (hB2.mono hzk)).setCell (p := ⟨wo.heap.size, q, none⟩) (Nat.le_refl _) (.string (nodeK seed (j + 1) q))
              clear HSum ca cb a1 a2 t1 t2 hck hfk hB2
              go_wp2_with fail
              exact ⟨⟨q + 1, by omega, by go_num, hnew, hbk2⟩, by simp [intOf]; omega⟩
            · obtain rfl : q = m := by omega
              obtain ⟨cur, hc1, hc2, hc3⟩ := hrow.out
              have hstr2 : Str wr wo.heap.size q (nodeK seed (j + 1)) := ⟨cur, hc1, by omega, hc3⟩
              have HS2 := Lib.hid hstr2
              have hown2 := HW.out.kept (row := none) (only_of_below hbk none) (by cases hn : Value.ownBlock _ <;> simp)
              have hbel2 := HB.out.trans (hbk.mono hz)
              have hz2 := hbel2.size
              have hS3 := Lib.hid (fun i (hi : i ≤ j) => (⟨(HS.out i hi).1, (HS.out i hi).2.keep hbk⟩ : w.heap.size ≤ bl i ∧ Str wr (bl i) (2 ^ (h - i)) (nodeK seed i)))
              have hwo := hz
              clear hc1 hc3 hrow hstr2 hbk
              go_wp2_with (at_builtin; go_must (refine app_lit rfl (.tmp 60) (.tmp 62) 78 34 rfl info_lvl Try.underlying78 rfl w wr w.heap.size w.heap.size (Nat.le_refl _) hz2 hbel2 _ _ _ (by rfl) hown2 _ 1 1 (by rfl) (by rfl) (by intro u hu; simp at hu; subst hu; rfl) (by omega) (by unfold maxLen; omega) ?_); go_must (intro v1 w9 hown1 hbel1 hsz9 hgrow9))
              obtain ⟨bl', hbl'⟩ : ∃ bl' : Nat → Nat, bl' = fun i => if i = j + 1 then wo.heap.size else bl i := ⟨_, rfl⟩
              have e1 : bl' (j + 1) = wo.heap.size := by rw [hbl']; simp
              have e2 : ∀ i, i ≤ j → bl' i = bl i := fun i hi => by rw [hbl']; simp; omega
              have hlv : lvls h bl' (j + 1 + 1) = lvls h bl (j + 1) ++ [Value.slice (some ⟨wo.heap.size, 0, none⟩) q q] := by
                rw [lvls_succ, lvls_congr h bl bl' (j + 1) (fun i hi => e2 i (by omega)), e1, ← Hm.out]
              refine ⟨⟨j + 1, bl', by omega, by rw [e1, ← Hm.out], by rw [hlv]; exact hown1, Lib.hid (fun i hi => ?_), hbel1⟩, by show q < 2 * q; omega⟩
              have hownA := hown2.alloc (.cells #[.slice (some ⟨wo.heap.size, 0, none⟩) q q] 34)
              have hbA := (Below.refl wr.heap.size wr).alloc (Nat.le_refl _) (.cells #[.slice (some ⟨wo.heap.size, 0, none⟩) q q] 34)
              by_cases e : i = j + 1
              · subst e
                rw [e1, ← Hm.out]
                exact ⟨hwo, (HS2.out.keep hbA).grown hownA hgrow9⟩
              · rw [e2 i (by omega)]
                exact ⟨(hS3.out i (by omega)).1, ((hS3.out i (by omega)).2.keep hbA).grown hownA hgrow9⟩
        · obtain rfl : j = h := by omega
          have h1 : ¬ (1 : Int) < ((2 ^ (j - j) : Nat) : Int) := by rw [Nat.sub_self]; decide
          have h1' : (2 ^ (j - j) : Nat) = 1 := by rw [Nat.sub_self]
          rw [h1']
          have HW := Lib.hid hown
          clear hown h1 h1' hk2
          go_wp2_with fail
          go_ret
          exact ⟨bl, _, rfl, HW.out, hstr.out, hbel⟩
end Go.Proofs.Ytljnadbfadgglaa

/- grove.New, Root; a signer's Root and Left; the first look of the statements of layer 6. Condition: the seed takes at most 4,096 bytes. -/
namespace Go.Proofs.Ytljnadbfadgglaa
open Go.RowKit
set_option maxRecDepth 100000
set_option linter.unusedVariables false
set_option linter.unusedSimpArgs false

/-- v holds a tree's levels; all of them lie from B on, below D. -/
def Tree (w : World) (B D : Nat) (seed : ByteArray) (h : Nat) (v : Value) : Prop := ∃ (g c : Nat) (bl : Nat → Nat), v = .slice (some ⟨g, 0, none⟩) (h + 1) c ∧ h + 1 ≤ c ∧ B ≤ g ∧ g < D ∧ D ≤ w.heap.size ∧
  (∀ i, i ≤ h → w.cell? ⟨g, i, none⟩ = some (.slice (some ⟨bl i, 0, none⟩) (2 ^ (h - i)) (2 ^ (h - i)))) ∧ ∀ i, i ≤ h → B ≤ bl i ∧ bl i < D ∧ ∀ j, j < 2 ^ (h - i) → w.cell? ⟨bl i, j, none⟩ = some (.string (nodeK seed i j))
theorem Tree.keep {w w' : World} {B D : Nat} {seed : ByteArray} {h : Nat} {v : Value} (ht : Tree w B D seed h v) (hb : Below D w w') : Tree w' B D seed h v := by
  obtain ⟨g, c, bl, rfl, hc, hg, hgD, hD, h1, h2⟩ := ht
  exact ⟨g, c, bl, rfl, hc, hg, hgD, Nat.le_trans hD hb.size, fun i hi => (hb.cell (p := ⟨g, i, none⟩) hgD).trans (h1 i hi), fun i hi => ⟨(h2 i hi).1, (h2 i hi).2.1, fun j hj => (hb.cell (p := ⟨bl i, j, none⟩) (h2 i hi).2.1).trans ((h2 i hi).2.2 j hj)⟩⟩
theorem grow_t (seed : ByteArray) (hs : seed.size ≤ 4096) (h : Nat) (hh : h ≤ 5) (w : World) :
    Calls Try.prog 45 #[.string seed, .int .i64 (h : Int)] w fun e w' => ∃ v, e = .returned v ∧ Tree w' w.heap.size w'.heap.size seed h v ∧ Below w.heap.size w w' :=
  (grow_any seed hs h hh w).mono fun e w' ⟨bl, v, he, hown, hs, hb⟩ => by
    obtain ⟨g, c, rfl, hg, hlt⟩ := hown.form (by omega)
    refine ⟨_, he, ⟨g, c, bl, rfl, ?_, hg, hlt, Nat.le_refl _, fun i hi => ?_, fun i hi => ⟨(hs i hi).1, (hs i hi).2.lt, fun j hj => (hs i hi).2.cell j hj⟩⟩, hb⟩
    · rcases hown.2 with ⟨h', _⟩ | ⟨g', cap', cur, h', _, _, hnc, _⟩
      · simp at h'
      · simp only [Value.slice.injEq, Option.some.injEq, Addr.mk.injEq, and_true, true_and] at h'
        omega
    · rw [hown.cellAt i (by omega), lvls_at h bl (h + 1) i (by omega)]

def highB (n : Int) : Bool := decide (0 ≤ n) && decide (n ≤ 5)
theorem highB_iff (n : Int) : highB n = true ↔ 0 ≤ n ∧ n ≤ 5 := by unfold highB; simp
theorem high_u (n : Int) (w : World) : Calls Try.prog 44 #[.int .i64 n] w fun e w' => e = .returned (.bool (highB n)) ∧ w = w' := by
  by_cases h : 0 ≤ n
  · go_enter Try.func44, Try.ntmps44
    go_wp2_with fail
    go_ret
    refine ⟨?_, rfl⟩
    simp [highB, h]
  · have h' : n < 0 := by omega
    go_enter Try.func44, Try.ntmps44
    go_wp2_with fail
    go_ret
    refine ⟨?_, rfl⟩
    simp [highB]
    omega

/-- A signer in block b. -/
def SignerAt (w : World) (B b : Nat) (seed : ByteArray) (h used : Nat) : Prop := ∃ v, w.heap[b]? = some (.cells #[.string seed, v, .int .i64 (used : Int)] 81 (0, 0)) ∧ Tree w B b seed h v
theorem SignerAt.lt {w : World} {B b : Nat} {seed : ByteArray} {h used : Nat} (hs : SignerAt w B b seed h used) : b < w.heap.size := by
  obtain ⟨v, hb, _⟩ := hs; exact (Array.getElem?_eq_some_iff.1 hb).1
theorem SignerAt.keep {w w' : World} {B b : Nat} {seed : ByteArray} {h used : Nat} (hs : SignerAt w B b seed h used) (hb : Below w.heap.size w w') : SignerAt w' B b seed h used := by
  have hlt := hs.lt
  obtain ⟨v, h1, h2⟩ := hs
  exact ⟨v, (hb.block b hlt).trans h1, h2.keep (hb.mono (by omega))⟩

theorem new_no (seed : ByteArray) (n : Int) (hn : highB n = false) (w : World) :
    Calls Try.prog 18 #[.string seed, .int .i64 n] w fun e w' => e = .returned (.tuple #[.pointer none, .int .i64 1]) ∧ w = w' := by
  have H := fun w : World => Lib.hid (high_u n w)
  rw [hn] at H
  go_enter Try.func18, Try.ntmps18
  go_wp2_with fail
  refine (H w).out.mono ?_
  rintro e w1 ⟨rfl, rfl⟩
  go_wp2_with fail
  go_ret2
  exact ⟨rfl, rfl⟩
theorem new_yes (seed : ByteArray) (hs : seed.size ≤ 4096) (h : Nat) (hh : h ≤ 5) (w : World) :
    Calls Try.prog 18 #[.string seed, .int .i64 (h : Int)] w fun e w' => ∃ b, e = .returned (.tuple #[.pointer (some ⟨b, 0, none⟩), .int .i64 0]) ∧ SignerAt w' w.heap.size b seed h 0 ∧ Below w.heap.size w w' := by
  have H := fun w : World => Lib.hid (high_u (h : Int) w)
  rw [(highB_iff _).2 ⟨by omega, by omega⟩] at H
  have HG := fun w : World => Lib.hid (grow_t seed hs h hh w)
  clear hs
  go_enter Try.func18, Try.ntmps18
  go_wp2_with fail
  refine (H w).out.mono ?_
  rintro e w1 ⟨rfl, rfl⟩
  go_wp2_with fail
  refine (HG w).out.mono ?_
  rintro e w1 ⟨v, rfl, ht, hb1⟩
  have HT := Lib.hid ht
  have ⟨g, c, _, hv, _⟩ := ht
  subst hv
  clear ht
  go_wp2_with fail
  go_ret2
  exact ⟨w1.heap.size, rfl, ⟨_, heap_alloc_new w1 _, HT.out.keep ((Below.refl _ _).alloc (Nat.le_refl _) _)⟩, hb1.alloc hb1.size _⟩
theorem groot_no (seed : ByteArray) (n : Int) (hn : highB n = false) (w : World) :
    Calls Try.prog 17 #[.string seed, .int .i64 n] w fun e w' => e = .returned (.tuple #[.string ⟨#[]⟩, .int .i64 1]) ∧ w = w' := by
  have H := fun w : World => Lib.hid (high_u n w)
  rw [hn] at H
  go_enter Try.func17, Try.ntmps17
  go_wp2_with fail
  refine (H w).out.mono ?_
  rintro e w1 ⟨rfl, rfl⟩
  go_wp2_with fail
  go_ret2
  exact ⟨rfl, rfl⟩
theorem groot_yes (seed : ByteArray) (hs : seed.size ≤ 4096) (h : Nat) (hh : h ≤ 5) (w : World) :
    Calls Try.prog 17 #[.string seed, .int .i64 (h : Int)] w fun e w' => e = .returned (.tuple #[.string (nodeK seed h 0), .int .i64 0]) ∧ Below w.heap.size w w' := by
  have H := fun w : World => Lib.hid (high_u (h : Int) w)
  rw [(highB_iff _).2 ⟨by omega, by omega⟩] at H
  have HG := fun w : World => Lib.hid (grow_t seed hs h hh w)
  clear hs
  go_enter Try.func17, Try.ntmps17
  go_wp2_with fail
  refine (H w).out.mono ?_
  rintro e w1 ⟨rfl, rfl⟩
  go_wp2_with fail
  refine (HG w).out.mono ?_
  rintro e w1 ⟨v, rfl, ⟨g, c, bl, rfl, hc, hg, hgD, hD, h1, h2⟩, hb1⟩
  have c1 := h1 h (Nat.le_refl _)
  have c2 := (h2 h (Nat.le_refl _)).2.2 0 (by rw [Nat.sub_self]; decide)
  rw [Nat.sub_self] at c1
  simp only [Nat.pow_zero] at c1
  have n0 : 0 ≤ (h : Int) := by omega
  have n1 : (h : Int) < (h : Int) + 1 := by omega
  obtain ⟨x, hx⟩ : ∃ x, x = nodeK seed h 0 := ⟨_, rfl⟩
  rw [← hx] at c2
  have HX := Lib.hid hx
  clear h1 h2 hx
  go_wp2_with fail
  go_ret2
  exact ⟨by rw [← HX.out]; rfl, hb1⟩

theorem sroot_nil (w : World) : Calls Try.prog 22 #[.pointer none] w fun e w' => e = .returned (.string ⟨#[]⟩) ∧ w = w' := by
  go_enter Try.func22, Try.ntmps22
  go_wp2_with fail
  go_ret
  exact ⟨rfl, rfl⟩
theorem sleft_nil (w : World) : Calls Try.prog 23 #[.pointer none] w fun e w' => e = .returned (.int .i64 0) ∧ w = w' := by
  go_enter Try.func23, Try.ntmps23
  go_wp2_with fail
  go_ret
  exact ⟨rfl, rfl⟩
theorem ssign_nil (text : ByteArray) (w : World) : Calls Try.prog 24 #[.pointer none, .string text] w fun e w' => e = .returned (.tuple #[.string ⟨#[]⟩, .int .i64 1]) ∧ w = w' := by
  go_enter Try.func24, Try.ntmps24
  go_wp2_with fail
  go_ret2
  exact ⟨rfl, rfl⟩

theorem sroot_yes {w : World} {B b : Nat} {seed : ByteArray} {h used : Nat} (hh : h ≤ 5) (hs : SignerAt w B b seed h used) :
    Calls Try.prog 22 #[.pointer (some ⟨b, 0, none⟩)] w fun e w' => e = .returned (.string (nodeK seed h 0)) ∧ Below w.heap.size w w' := by
  obtain ⟨v, hb, g, c, bl, rfl, hc, hg, hgD, hD, h1, h2⟩ := hs
  have c0 := cell_of_row w b 1 _ _ _ hb
  simp at c0
  have c1 := h1 h (Nat.le_refl _)
  have c2 := (h2 h (Nat.le_refl _)).2.2 0 (by rw [Nat.sub_self]; decide)
  rw [Nat.sub_self] at c1
  simp only [Nat.pow_zero] at c1
  have n0 : 0 ≤ (h : Int) := by omega
  have n1 : (h : Int) < (h : Int) + 1 := by omega
  have n2 : IntKind.i64.wrap ((h : Int) + 1 - 1) = (h : Int) := by rw [IntKind.wrap_i64]; omega
  have hh' : (h : Int) ≤ 5 := by omega
  obtain ⟨x, hx⟩ : ∃ x, x = nodeK seed h 0 := ⟨_, rfl⟩
  rw [← hx] at c2 ⊢
  clear h1 h2 hx hb
  go_enter Try.func22, Try.ntmps22
  go_wp2_with fail
  go_quiet (fail)
  go_wp2_with fail
  go_ret
  exact ⟨rfl, below_drewN (Below.refl _ _) _⟩
theorem sleft_yes {w : World} {B b : Nat} {seed : ByteArray} {h used : Nat} (hh : h ≤ 5) (hu : used ≤ 2 ^ h) (hs : SignerAt w B b seed h used) :
    Calls Try.prog 23 #[.pointer (some ⟨b, 0, none⟩)] w fun e w' => e = .returned (.int .i64 ((2 ^ h - used : Nat) : Int)) ∧ Below w.heap.size w w' := by
  obtain ⟨v, hb, g, c, bl, rfl, hc, hg, hgD, hD, h1, h2⟩ := hs
  have c0 := cell_of_row w b 1 _ _ _ hb
  have c3 := cell_of_row w b 2 _ _ _ hb
  simp at c0 c3
  have c1 := h1 0 (Nat.zero_le _)
  rw [Nat.sub_zero] at c1
  have hp := pow_int h hh
  obtain ⟨N, hN⟩ : ∃ N, N = 2 ^ h := ⟨_, rfl⟩
  rw [← hN] at c1 hp hu ⊢
  have n0 : (0 : Int) < (h : Int) + 1 := by omega
  have n3 : (N : Int) - (used : Int) = ((N - used : Nat) : Int) := by omega
  have hN32 : (N : Int) ≤ 32 := by omega
  have hu' : (used : Int) ≤ (N : Int) := by omega
  have hN3 := hp.1
  have N3 := Lib.hid n3
  clear h1 h2 hb hp hN n3
  go_enter Try.func23, Try.ntmps23
  go_wp2_with fail
  go_quiet (fail)
  go_wp2_with fail
  go_ret
  refine ⟨?_, below_drewN (Below.refl _ _) _⟩
  show Ending.returned (.int .i64 ((N : Int) - (used : Int))) = _
  rw [N3.out]

theorem lives6 (w : World) : Calls Try.prog 15 #[] w fun e w' => e = .returned (.bool true) ∧ Below w.heap.size w w' := by
  have HN := Lib.hid (new_yes ⟨#[113]⟩ (by decide) 0 (by omega) w)
  have HP := fun w : World => Lib.hid (public_yes ⟨#[113]⟩ (by decide) 0 (by omega) w)
  have HR := fun (w : World) (b : Nat) (B : Nat) (hs : SignerAt w B b ⟨#[113]⟩ 0 0) => Lib.hid (sroot_yes (by omega) hs)
  have HL := fun (w : World) (b : Nat) (B : Nat) (hs : SignerAt w B b ⟨#[113]⟩ 0 0) => Lib.hid (sleft_yes (by omega) (by omega) hs)
  have e0 : nodeK ⟨#[113]⟩ 0 0 = pubK ⟨#[113]⟩ 0 := rfl
  rw [e0] at HR
  generalize pubK ⟨#[113]⟩ 0 = p at HP HR
  clear e0
  go_enter Try.func15, Try.ntmps15
  go_wp2_with fail
  refine HN.out.mono ?_
  rintro e w1 ⟨b, rfl, hs1, hb1⟩
  have HS1 := Lib.hid hs1
  clear hs1
  go_wp2_with fail
  refine (HP w1).out.mono ?_
  rintro e w2 ⟨rfl, hb2⟩
  have HS2 := Lib.hid (HS1.out.keep hb2)
  go_wp2_with fail
  refine (HR w2 b _ HS2.out).out.mono ?_
  rintro e w3 ⟨rfl, hb3⟩
  have HS3 := Lib.hid (HS2.out.keep hb3)
  go_wp2_with fail
  refine (HL w3 b _ HS3.out).out.mono ?_
  rintro e w4 ⟨rfl, hb4⟩
  go_wp2_with fail
  go_ret
  have hs1 := hb1.size
  have hs2 := hb2.size
  have hs3 := hb3.size
  exact ⟨rfl, ((hb1.trans (hb2.mono hs1)).trans (hb3.mono (by omega))).trans (hb4.mono (by omega))⟩

theorem short6 (a : ByteArray) (w : World) :
    Calls Try.prog 16 #[.string a] w fun e w' => e = .returned (.bool (decide (a.size ≤ 4096))) ∧ w = w' := by
  go_enter Try.func16, Try.ntmps16
  go_wp2_with fail
  go_ret
  refine ⟨?_, rfl⟩
  show Ending.returned (.bool (decide ((a.size : Int) ≤ 4096))) = _
  congr 3
  apply propext
  omega
end Go.Proofs.Ytljnadbfadgglaa

/- witanref06: Right, power, node, Leaves, Root. Condition: heights 0 to 5, seeds of at most 4,096 bytes. -/
namespace Go.Proofs.Ytljnadbfadgglaa
open Go.RowKit
set_option maxRecDepth 100000
set_option linter.unusedVariables false
set_option linter.unusedSimpArgs false

def errH (n : Int) : Int := if highB n then 0 else 1
theorem right_u (n : Int) (w : World) : Calls Try.prog 19 #[.int .i64 n] w fun e w' => e = .returned (.int .i64 (errH n)) ∧ w = w' := by
  by_cases h : 0 ≤ n
  · by_cases h5 : n ≤ 5
    · have hE : errH n = 0 := by unfold errH; rw [(highB_iff n).2 ⟨h, h5⟩]; rfl
      rw [hE]
      go_enter Try.func19, Try.ntmps19
      go_wp2_with fail
      go_ret
      exact ⟨rfl, rfl⟩
    · have hE : errH n = 1 := by unfold errH highB; simp [h5]
      have h5' : 5 < n := by omega
      rw [hE]
      go_enter Try.func19, Try.ntmps19
      go_wp2_with fail
      go_ret
      exact ⟨rfl, rfl⟩
  · have hE : errH n = 1 := by unfold errH highB; simp [h]
    have h' : n < 0 := by omega
    rw [hE]
    go_enter Try.func19, Try.ntmps19
    go_wp2_with fail
    go_ret
    exact ⟨rfl, rfl⟩

theorem power_any (h : Nat) (hh : h ≤ 5) (w : World) : Calls Try.prog 47 #[.int .i64 (h : Int)] w fun e w' => e = .returned (.int .i64 ((2 ^ h : Nat) : Int)) ∧ w = w' := by
  go_enter Try.func47, Try.ntmps47
  go_wp2_with fail
  go_loopw [3, 4] (fun x i wr => ∃ k : Nat, k ≤ h ∧ i = .int .i64 k ∧ x = .int .i64 ((2 ^ k : Nat) : Int) ∧ w = wr) (fun _ i _ => h - (intOf i).toNat)
  case atStart => exact ⟨0, by omega, rfl, rfl, rfl⟩
  case round =>
    obtain ⟨k, hk, rfl, rfl, rfl⟩ := hrel
    have hp := (pow_int k (by omega)).1
    have hps : 2 ^ (k + 1) = 2 ^ k * 2 := Nat.pow_succ 2 k
    obtain ⟨N, hN⟩ : ∃ N, N = 2 ^ k := ⟨_, rfl⟩
    rw [← hN] at hp hps ⊢
    have HNk := Lib.hid hN
    clear hN
    by_cases hlt : k < h
    · have n1 : (k : Int) < (h : Int) := by omega
      have HP := Lib.hid hps
      have hN : (N : Int) ≤ 32 := by omega
      clear hps
      go_wp2_with fail
      exact ⟨⟨k + 1, by omega, by go_num, by rw [HP.out]; go_num, trivial⟩, by simp [intOf]; omega⟩
    · obtain rfl : k = h := by omega
      clear hps
      go_wp2_with fail
      go_ret
      exact ⟨by rw [← HNk.out]; rfl, rfl⟩

/-- The reference's node. -/
def nd (f : Nat → ByteArray) (a : Nat) : Nat → ByteArray
  | 0 => f a
  | h + 1 => dig (nd f a h ++ nd f (a + 2 ^ h) h)
theorem nd_size (f : Nat → ByteArray) (hf : ∀ i, (f i).size = 32) (a h : Nat) : (nd f a h).size = 32 := by
  cases h with
  | zero => exact hf a
  | succ h => exact dig_size _
theorem nd_nodeK (seed : ByteArray) : ∀ (j i : Nat), nd (fun n => pubK seed n) (i * 2 ^ j) j = nodeK seed j i
  | 0, i => by show pubK seed (i * 2 ^ 0) = pubK seed i; rw [Nat.pow_zero, Nat.mul_one]
  | j + 1, i => by
    show dig (nd _ (i * 2 ^ (j + 1)) j ++ nd _ (i * 2 ^ (j + 1) + 2 ^ j) j) = dig (nodeK seed j (2 * i) ++ nodeK seed j (2 * i + 1))
    have e1 : i * 2 ^ (j + 1) = (2 * i) * 2 ^ j := by rw [Nat.pow_succ, Nat.mul_comm (2 ^ j) 2, ← Nat.mul_assoc, Nat.mul_comm i 2]
    have e2 : (2 * i) * 2 ^ j + 2 ^ j = (2 * i + 1) * 2 ^ j := by rw [Nat.add_mul, Nat.one_mul]
    rw [e1, e2, nd_nodeK seed j (2 * i), nd_nodeK seed j (2 * i + 1)]

/-- Texts in a slice that begins a block. -/
def TextsAt (w : World) (g n : Nat) (f : Nat → ByteArray) : Prop := g < w.heap.size ∧ ∀ i, i < n → w.cell? ⟨g, i, none⟩ = some (.string (f i))
theorem TextsAt.keep {w w' : World} {g n : Nat} {f : Nat → ByteArray} (h : TextsAt w g n f) (hb : Below w.heap.size w w') : TextsAt w' g n f :=
  ⟨Nat.lt_of_lt_of_le h.1 hb.size, fun i hi => (hb.cell (p := ⟨g, i, none⟩) h.1).trans (h.2 i hi)⟩

theorem refnode_any (g n c : Nat) (f : Nat → ByteArray) (hf : ∀ i, (f i).size = 32) (hn : n ≤ 1000) : ∀ (h a : Nat) (w : World), h ≤ 5 → a + 2 ^ h ≤ n → TextsAt w g n f →
    Calls Try.prog 46 #[.slice (some ⟨g, 0, none⟩) n c, .int .i64 (a : Int), .int .i64 (h : Int)] w fun e w' => e = .returned (.string (nd f a h)) ∧ Below w.heap.size w w' := by
  intro h
  induction h with
  | zero =>
    intro a w _ ha ht
    have hc := ht.2 a (by omega)
    have n0 : 0 ≤ (a : Int) := by omega
    have n1 : (a : Int) < (n : Int) := by omega
    show Calls Try.prog 46 #[.slice (some ⟨g, 0, none⟩) n c, .int .i64 (a : Int), .int .i64 0] w fun e w' => e = .returned (.string (f a)) ∧ Below w.heap.size w w'
    obtain ⟨x, hx⟩ : ∃ x, x = f a := ⟨_, rfl⟩
    rw [← hx] at hc ⊢
    clear ht hx hf
    go_enter Try.func46, Try.ntmps46
    go_wp2_with fail
    go_ret
    exact ⟨rfl, Below.refl _ _⟩
  | succ h ih =>
    intro a w h5 ha ht
    have hp := pow_int h (by omega)
    have hps : 2 ^ (h + 1) = 2 ^ h * 2 := Nat.pow_succ 2 h
    have H1 := Lib.hid (ih a)
    have H2 := Lib.hid (ih (a + 2 ^ h))
    have HW := fun w : World => Lib.hid (power_any h (by omega) w)
    have s1 := nd_size f hf a h
    have s2 := nd_size f hf (a + 2 ^ h) h
    have HX : Hid (nd f a (h + 1) = dig (nd f a h ++ nd f (a + 2 ^ h) h)) := Lib.hid rfl
    have HS := fun w : World => Lib.hid (refsum_any (nd f a h ++ nd f (a + 2 ^ h) h) (by rw [ByteArray.size_append]; omega) w)
    rw [← HX.out] at HS
    generalize nd f a h = x at H1 HS s1
    generalize nd f (a + 2 ^ h) h = y at H2 HS s2
    generalize 2 ^ h = N at hp hps H1 H2 HW
    have HT := Lib.hid ht
    have hN := hp.1
    have e1 : ((h + 1 : Nat) : Int) - 1 = (h : Int) := by omega
    have n1 : ¬ ((h + 1 : Nat) : Int) = 0 := by omega
    have hh4 : (h : Int) ≤ 4 := by omega
    have han : (a : Int) + (N : Int) ≤ 1000 := by omega
    have hle : a + N ≤ n := by omega
    have hle2 : a + N + N ≤ n := by omega
    clear ih ht hps hp hf HX
    go_enter Try.func46, Try.ntmps46
    go_wp2_with fail
    refine (HW w).out.mono ?_
    rintro e w1 ⟨rfl, rfl⟩
    go_wp2_with fail
    refine (H1.out w (by omega) hle HT.out).mono ?_
    rintro e w1 ⟨rfl, hb1⟩
    have H2' := H2.out w1 (by omega) hle2 (HT.out.keep hb1)
    rw [Int.natCast_add] at H2'
    have HH2 := Lib.hid H2'
    clear H2'
    go_wp2_with fail
    refine HH2.out.mono ?_
    rintro e w2 ⟨rfl, hb2⟩
    go_wp2_with fail
    refine (HS w2).out.mono ?_
    rintro e w3 ⟨rfl, hb3⟩
    go_wp2_with fail
    go_ret
    have z1 := hb1.size
    have z2 := hb2.size
    exact ⟨rfl, (hb1.trans (hb2.mono z1)).trans (hb3.mono (by omega))⟩

set_option maxHeartbeats 400000 in
theorem leaves_any (seed : ByteArray) (hs : seed.size ≤ 4096) (h : Nat) (hh : h ≤ 5) (w : World) :
    Calls Try.prog 21 #[.string seed, .int .i64 (h : Int)] w fun e w' => ∃ g c, e = .returned (.slice (some ⟨g, 0, none⟩) (2 ^ h) c) ∧ w.heap.size ≤ g ∧ TextsAt w' g (2 ^ h) (fun n => pubK seed n) ∧ Below w.heap.size w w' := by
  have hp := pow_int h hh
  have HW := fun w : World => Lib.hid (power_any h hh w)
  obtain ⟨N, hN⟩ : ∃ N, N = 2 ^ h := ⟨_, rfl⟩
  rw [← hN] at hp HW ⊢
  have hN32 := hp.1
  have hN1 := hp.2.1
  have HP := fun (k : Nat) (hk : k ≤ 255) (w : World) => Lib.hid (refpublic_yes seed hs k hk w)
  clear hs hp hN
  go_enter Try.func21, Try.ntmps21
  go_wp2_with fail
  go_loopw [5, 6] (fun v i wr => ∃ k : Nat, k ≤ N ∧ i = .int .i64 k ∧ wr.ownsRow w.heap.size 9 1 v k ((List.range k).map fun n => Value.string (pubK seed n)) ∧ Below w.heap.size w wr) (fun _ i _ => N - (intOf i).toNat)
  case atStart => exact ⟨0, by omega, rfl, World.ownsRow_nil _ _ _ _, Below.refl _ _⟩
  case round =>
    obtain ⟨k, hk, rfl, hown, hbel⟩ := hrel
    have hz := hbel.size
    by_cases hlt : k < N
    · have n1 : (k : Int) < (N : Int) := by omega
      have HPk := fun w : World => HP k (by omega) w
      have hsucc : Hid ((List.range (k + 1)).map (fun n => Value.string (pubK seed n)) = (List.range k).map (fun n => Value.string (pubK seed n)) ++ [Value.string (pubK seed k)]) := Lib.hid (by rw [List.range_succ, List.map_append]; rfl)
      generalize pubK seed k = p at HPk hsucc
      go_wp2_with fail
      refine (HW wr).out.mono ?_
      rintro e w1 ⟨rfl, rfl⟩
      go_wp2_with fail
      refine (HPk wr).out.mono ?_
      rintro e w2 ⟨rfl, hb2⟩
      have hbel2 := hbel.trans (hb2.mono hz)
      have hown2 := hown.kept (row := none) (only_of_below hb2 none) (by cases hn : Value.ownBlock _ <;> simp)
      have hz2 := hbel2.size
      clear hown hbel hz hb2
      go_wp2_with (at_builtin; go_must (refine app_lit rfl (.tmp 21) (.tmp 23) 34 9 rfl info_str6 Try.underlying34 rfl w w2 w.heap.size w.heap.size (Nat.le_refl _) hz2 hbel2 _ _ _ (by rfl) hown2 _ 1 1 (by rfl) (by rfl) (by intro u hu; simp at hu; subst hu; rfl) (by omega) (by unfold maxLen; omega) ?_); go_must (intro v1 w9 hown1 hbel1 _ _); clear hown2 hbel2 hz2)
      have hown3 : w9.ownsRow w.heap.size 9 1 v1 (k + 1) ((List.range (k + 1)).map fun n => Value.string (pubK seed n)) := by rw [hsucc.out]; exact hown1
      clear hown1
      go_wp2_with fail
      exact ⟨⟨k + 1, by omega, by go_num, hown3, hbel1⟩, by simp [intOf]; omega⟩
    · obtain rfl : k = N := by omega
      have n1 : ¬ (k : Int) < (k : Int) := by omega
      obtain ⟨g, c, rfl, hg, hgl⟩ := hown.form (by omega)
      have HO := Lib.hid hown
      clear hown
      go_wp2_with fail
      refine (HW wr).out.mono ?_
      rintro e w1 ⟨rfl, rfl⟩
      go_wp2_with fail
      go_ret
      exact ⟨g, c, rfl, hg, ⟨hgl, fun i hi => by rw [HO.out.cellAt i (by omega)]; simp [hi]⟩, hbel⟩

theorem refroot_any (seed : ByteArray) (h : Nat) (hh : h ≤ 5) (g c : Nat) (w : World) (ht : TextsAt w g (2 ^ h) (fun n => pubK seed n)) :
    Calls Try.prog 20 #[.slice (some ⟨g, 0, none⟩) (2 ^ h) c, .int .i64 (h : Int)] w fun e w' => e = .returned (.string (nodeK seed h 0)) ∧ Below w.heap.size w w' := by
  have hp := (pow_int h hh).1
  have HN := refnode_any g (2 ^ h) c (fun n => pubK seed n) (fun i => pubK_size seed i) (by omega) h 0 w hh (by omega) ht
  have e := nd_nodeK seed h 0
  rw [Nat.zero_mul] at e
  rw [e] at HN
  have HN := Lib.hid HN
  generalize 2 ^ h = N at HN hp ⊢
  obtain ⟨x, hx⟩ : ∃ x, x = nodeK seed h 0 := ⟨_, rfl⟩
  rw [← hx] at HN ⊢
  clear ht e hx
  go_enter Try.func20, Try.ntmps20
  go_wp2_with fail
  refine HN.out.mono ?_
  rintro e w1 ⟨rfl, hb1⟩
  go_wp2_with fail
  go_ret
  exact ⟨rfl, hb1⟩
end Go.Proofs.Ytljnadbfadgglaa

/- Values of the structs Plant and Given that come in: their fields. No condition. -/
namespace Go.Proofs.Ytljnadbfadgglaa
open Go.ChangeShapes Go.WideShapes Go.ChangeAt Go.RowKit
set_option maxRecDepth 100000
set_option linter.unusedVariables false

theorem open_plant {H : Type} {enc : TypeId × Value → H} {w : World} {base : Nat} {spare : Nat → Bool} {held : Bool} {r : Reach} {b0 : Nat} {v : Value} {d : DataW H} {p : List MemPlace}
    (hv : Value.okWide Try.prog w r b0 23 v) (h : DataW.Trod enc Try.prog w base spare held 23 v d p) :
    ∃ (s : ByteArray) (n : Int), v = .agg #[.string s, .int .i64 n] := by
  obtain ⟨cs, rfl, hsz⟩ := okWide_struct Try.underlying23 hv
  obtain ⟨c0, c1, rfl⟩ : ∃ c0 c1, cs = #[c0, c1] := by
    have h2 : cs.size = 2 := hsz.trans (by kernel_rfl)
    obtain ⟨l⟩ := cs
    match l, h2 with
    | [c0, c1], _ => exact ⟨c0, c1, rfl⟩
  obtain ⟨fuel, hf⟩ := h
  have hf' : DataW.trod enc Try.prog w base spare held fuel 23 [c0, c1] = some (d, p) := by simpa [Value.cells] using hf
  obtain ⟨xs, n, _, _, _, hlen, hx⟩ := DataW.trod_struct Try.underlying23 hf'
  have k9 : Try.prog.cellsOf 9 = 1 := by kernel_rfl
  have k3 : Try.prog.cellsOf 3 = 1 := by kernel_rfl
  have h0 := hx 0 _ rfl
  have h1 := hx 1 _ rfl
  clear hx hf hf' hsz hv
  match xs, hlen with
  | [y0, y1], _ =>
    simp [k9, k3] at h0 h1
    obtain ⟨s, e0, _⟩ := DataW.trod_string Try.underlying9 h0
    obtain ⟨f, e1, _⟩ := DataW.trod_int Try.underlying3 h1
    simp at e0 e1
    subst e0; subst e1
    exact ⟨s, f, rfl⟩

theorem open_given {H : Type} {enc : TypeId × Value → H} {w : World} {base : Nat} {spare : Nat → Bool} {held : Bool} {r : Reach} {b0 : Nat} {v : Value} {d : DataW H} {p : List MemPlace}
    (hv : Value.okWide Try.prog w r b0 43 v) (h : DataW.Trod enc Try.prog w base spare held 43 v d p) :
    ∃ (s : ByteArray) (n : Int) (t x : ByteArray), v = .agg #[.string s, .int .i64 n, .string t, .string x] := by
  obtain ⟨cs, rfl, hsz⟩ := okWide_struct Try.underlying43 hv
  obtain ⟨c0, c1, c2, c3, rfl⟩ : ∃ c0 c1 c2 c3, cs = #[c0, c1, c2, c3] := by
    have h2 : cs.size = 4 := hsz.trans (by kernel_rfl)
    obtain ⟨l⟩ := cs
    match l, h2 with
    | [c0, c1, c2, c3], _ => exact ⟨c0, c1, c2, c3, rfl⟩
  obtain ⟨fuel, hf⟩ := h
  have hf' : DataW.trod enc Try.prog w base spare held fuel 43 [c0, c1, c2, c3] = some (d, p) := by simpa [Value.cells] using hf
  obtain ⟨xs, n, _, _, _, hlen, hx⟩ := DataW.trod_struct Try.underlying43 hf'
  have k9 : Try.prog.cellsOf 9 = 1 := by kernel_rfl
  have k3 : Try.prog.cellsOf 3 = 1 := by kernel_rfl
  have h0 := hx 0 _ rfl
  have h1 := hx 1 _ rfl
  have h2 := hx 2 _ rfl
  have h3 := hx 3 _ rfl
  clear hx hf hf' hsz hv
  match xs, hlen with
  | [y0, y1, y2, y3], _ =>
    simp [k9, k3] at h0 h1 h2 h3
    obtain ⟨s, e0, _⟩ := DataW.trod_string Try.underlying9 h0
    obtain ⟨f, e1, _⟩ := DataW.trod_int Try.underlying3 h1
    obtain ⟨t, e2, _⟩ := DataW.trod_string Try.underlying9 h2
    obtain ⟨x, e3, _⟩ := DataW.trod_string Try.underlying9 h3
    simp at e0 e1 e2 e3
    subst e0; subst e1; subst e2; subst e3
    exact ⟨s, f, t, x, rfl⟩
end Go.Proofs.Ytljnadbfadgglaa

/- grove.Verify: which signature is taken. Condition: the text takes at most 4,096 bytes. -/
namespace Go.Proofs.Ytljnadbfadgglaa
open Go.RowKit
set_option maxRecDepth 100000
set_option linter.unusedVariables false
set_option linter.unusedSimpArgs false

/-- A signature's leaf. -/
def leafN (l : List UInt8) : Nat := (l.getD 0 0).toNat
theorem leafN_lt (l : List UInt8) : leafN l < 256 := (l.getD 0 0).toNat_lt
/-- The k-th of the nodes beside. -/
def besN (l : List UInt8) (k : Nat) : ByteArray := bs ((l.drop (561 + 32 * k)).take 32)
/-- The node after k steps. -/
def vn (t : ByteArray) (l : List UInt8) : Nat → ByteArray
  | 0 => recK t (bs ((l.drop 1).take 560))
  | k + 1 => if leafN l / 2 ^ k % 2 = 1 then dig (besN l k ++ vn t l k) else dig (vn t l k ++ besN l k)
theorem vn_size (t : ByteArray) (l : List UInt8) (k : Nat) : (vn t l k).size = 32 := by
  cases k with
  | zero => exact dig_size _
  | succ k => unfold vn; split <;> exact dig_size _
theorem besN_size (l : List UInt8) (h k : Nat) (hl : l.length = 561 + 32 * h) (hk : k < h) : (besN l k).size = 32 := by
  unfold besN; rw [bs_size, List.length_take, List.length_drop]; omega
theorem and1 (n : Nat) (h : n < 256) : bits .and .i64 (n : Int) 1 = ((n % 2 : Nat) : Int) := by
  have h' : ∀ n : Fin 256, bits .and .i64 (n.val : Int) 1 = ((n.val % 2 : Nat) : Int) := by decide +kernel
  exact h' ⟨n, h⟩

def verB (root : ByteArray) (n : Int) (t sig : ByteArray) : Bool :=
  highB n && decide (sig.size = 561 + 32 * n.toNat) && decide (leafN sig.data.toList < 2 ^ n.toNat) && ((vn t sig.data.toList n.toNat).toList == root.toList)

theorem bs_rest' (l : List UInt8) (a b : Nat) (h : l.length ≤ b) : (bs l).extract a b = bs (l.drop a) := by
  rw [bs_extract, List.take_of_length_le]
  rw [List.length_drop]; omega
theorem head_data (l : List UInt8) (h : 0 < (bs l).size) : ((bs l)[0]'h).toNat = leafN l := by
  cases l with
  | nil => simp [bs_size] at h
  | cons x r => rfl
theorem empty_no (l : List UInt8) (h : 0 < l.length) : (bs l).toList.isEmpty = false := by
  rw [ByteArray.toList_eq, bs_data]
  cases l with
  | nil => simp at h
  | cons x r => rfl
theorem empty_yes : (bs []).toList.isEmpty = true := by rw [ByteArray.toList_eq, bs_data]; rfl

set_option maxHeartbeats 1000000 in
theorem verify_high (root : ByteArray) (n : Int) (t : ByteArray) (sig : ByteArray) (hn : highB n = false) (w : World) :
    Calls Try.prog 26 #[.string root, .int .i64 n, .string t, .string sig] w fun e w' => e = .returned (.bool false) ∧ w = w' := by
  have H := fun w : World => Lib.hid (high_u n w)
  rw [hn] at H
  go_enter Try.func26, Try.ntmps26
  go_wp2_with fail
  refine (H w).out.mono ?_
  rintro e w1 ⟨rfl, rfl⟩
  go_wp2_with fail
  go_ret
  exact ⟨rfl, rfl⟩
theorem verify_len (root : ByteArray) (h : Nat) (hh : h ≤ 5) (t : ByteArray) (sig : ByteArray) (hn : ¬ sig.size = 561 + 32 * h) (w : World) :
    Calls Try.prog 26 #[.string root, .int .i64 (h : Int), .string t, .string sig] w fun e w' => e = .returned (.bool false) ∧ w = w' := by
  have H := fun w : World => Lib.hid (high_u (h : Int) w)
  rw [(highB_iff _).2 ⟨by omega, by omega⟩] at H
  have hn' : ¬ (sig.size : Int) = 561 + 32 * (h : Int) := by omega
  have hh' : (h : Int) ≤ 5 := by omega
  go_enter Try.func26, Try.ntmps26
  go_wp2_with fail
  refine (H w).out.mono ?_
  rintro e w1 ⟨rfl, rfl⟩
  go_wp2_with fail
  go_ret
  exact ⟨rfl, rfl⟩

set_option maxHeartbeats 400000 in
theorem verify_go (root : ByteArray) (h : Nat) (hh : h ≤ 5) (t : ByteArray) (ht : t.size ≤ 4096) (l : List UInt8) (hl : l.length = 561 + 32 * h) (w : World) :
    Calls Try.prog 26 #[.string root, .int .i64 (h : Int), .string t, .string (bs l)] w fun e w' => e = .returned (.bool (decide (leafN l < 2 ^ h) && ((vn t l h).toList == root.toList))) ∧ Below w.heap.size w w' := by
  have H := fun w : World => Lib.hid (high_u (h : Int) w)
  rw [(highB_iff _).2 ⟨by omega, by omega⟩] at H
  have hsz : (bs l).size = 561 + 32 * h := by rw [bs_size]; exact hl
  have hsz' : ((bs l).size : Int) = 561 + 32 * (h : Int) := by omega
  have hh' : (h : Int) ≤ 5 := by omega
  have hh0 : 0 ≤ (h : Int) := by omega
  have hpos : 0 < (bs l).size := by omega
  have hx := head_data l hpos
  have hlf := leafN_lt l
  have hw : wrap64 ((leafN l : Nat) : Int) = (leafN l : Int) := by unfold wrap64; omega
  have hp := pow_int h hh
  have hcast : ((2 ^ h : Nat) : Int) = (2 : Int) ^ h := by rw [Int.natCast_pow]; rfl
  by_cases hlt : leafN l < 2 ^ h
  · have hq : (leafN l : Int) / (2 : Int) ^ h = 0 := by rw [← hcast, ← Int.natCast_ediv, Nat.div_eq_of_lt hlt]; rfl
    rw [decide_eq_true hlt, Bool.true_and]
    have HR := fun w : World => Lib.hid (recover_yes t ht (bs ((l.drop 1).take 560)) (by rw [bs_size, List.length_take, List.length_drop]; omega) w)
    have e1 : (bs l).extract 1 561 = bs ((l.drop 1).take 560) := bs_extract l 1 561
    have e2 : ∀ n, n = 561 + 32 * h → (bs l).extract 561 n = bs (l.drop (561 + 32 * 0)) := fun n hn => bs_rest' l 561 n (by omega)
    have HV0 : Hid (vn t l 0 = recK t (bs ((l.drop 1).take 560))) := Lib.hid rfl
    rw [← HV0.out] at HR
    generalize bs ((l.drop 1).take 560) = x0 at HR e1 HV0
    have E2 := Lib.hid e2
    have HQ := Lib.hid hlt
    obtain ⟨m, hm⟩ : ∃ m, m = leafN l := ⟨_, rfl⟩
    rw [← hm] at hx hw hq hlf
    have HM := Lib.hid hm
    clear e2 hlt hm hcast
    go_enter Try.func26, Try.ntmps26
    go_wp2_with fail
    refine (H w).out.mono ?_
    rintro e w1 ⟨rfl, rfl⟩
    go_wp2_with fail
    refine (HR w).out.mono ?_
    rintro e w1 ⟨rfl, hb1⟩
    clear hx hq hw
    go_wp2_with fail
    clear e1 HR H HV0
    have H0 := Lib.hid hb1
    clear hb1
    go_loopw [9, 10, 12] (fun lf node path wr => ∃ k : Nat, k ≤ h ∧ lf = .int .i64 ((m / 2 ^ k : Nat) : Int) ∧ node = .string (vn t l k) ∧ path = .string (bs (l.drop (561 + 32 * k))) ∧ Below w.heap.size w wr) (fun _ _ path _ => match path with | .string x => x.size | _ => 0)
    case atStart => exact ⟨0, by omega, by rw [Nat.pow_zero, Nat.div_one], rfl, by rw [E2.out _ rfl], H0.out⟩
    case round =>
      obtain ⟨k, hk, rfl, rfl, rfl, hbel⟩ := hrel
      have hz := hbel.size
      have HB := Lib.hid hbel
      clear hbel
      by_cases hlk : k < h
      · have hxs : (bs (l.drop (561 + 32 * k))).size = 32 * (h - k) := by rw [bs_size, List.length_drop]; omega
        have hx32 : (32 : Int) ≤ ((bs (l.drop (561 + 32 * k))).size : Int) := by omega
        have hne := empty_no (l.drop (561 + 32 * k)) (by rw [List.length_drop]; omega)
        have ex1 : (bs (l.drop (561 + 32 * k))).extract 0 32 = besN l k := by unfold besN; rw [bs_extract, List.drop_zero]
        have ex2 : (bs (l.drop (561 + 32 * k))).extract 32 (32 * (h - k)) = bs (l.drop (561 + 32 * (k + 1))) := by
          rw [bs_rest' _ 32 _ (by rw [List.length_drop]; omega), List.drop_drop]
          congr 2
        have vsz := vn_size t l k
        have psz := besN_size l h k hl hlk
        have ha256 : m / 2 ^ k < 256 := Nat.lt_of_le_of_lt (Nat.div_le_self _ _) hlf
        have hhalf : Hid (((m / 2 ^ k : Nat) : Int) / 2 = ((m / 2 ^ (k + 1) : Nat) : Int)) := Lib.hid (by rw [Nat.pow_succ, ← Nat.div_div_eq_div_mul]; omega)
        have hnext : Hid ((bs (l.drop (561 + 32 * (k + 1)))).size < 32 * (h - k)) := Lib.hid (by rw [bs_size, List.length_drop]; omega)
        obtain ⟨y, hy⟩ : ∃ y, y = bs (l.drop (561 + 32 * (k + 1))) := ⟨_, rfl⟩
        rw [← hy] at ex2 hnext
        have HY := Lib.hid hy
        clear hy
        by_cases hodd : m / 2 ^ k % 2 = 1
        · have hX : Hid (vn t l (k + 1) = dig (besN l k ++ vn t l k)) := Lib.hid (by show (if leafN l / 2 ^ k % 2 = 1 then _ else _) = _; rw [← HM.out, if_pos hodd])
          have HSum := fun (b : Nat) (V : World) (hb : V.heap[b]? = some (.cells #[.string (besN l k), .string (vn t l k)] 9 (0, 0))) => Lib.hid (sum_blk [besN l k, vn t l k] b 2 rfl V 9 hb (by omega) (by rw [cat_pair, ByteArray.size_append, vsz, psz]; omega))
          simp only [cat_pair] at HSum
          rw [← hX.out] at HSum
          generalize besN l k = p at ex1 HSum psz
          generalize vn t l k = v at HSum vsz ⊢
          generalize bs (l.drop (561 + 32 * k)) = x at hne hx32 hxs ex1 ex2 ⊢
          have hbit : bits .and .i64 ((m / 2 ^ k : Nat) : Int) 1 = 1 := by rw [and1 _ ha256]; omega
          generalize m / 2 ^ k = a at hbit hhalf ha256 ⊢
          clear hX hodd
          go_wp2_with fail
          refine (HSum (wr.heap.size + 1) _ (by
            have h1 := heap_alloc_new (wr.alloc (.cells #[.string p, .string v] 87)) (.cells #[.string p, .string v] 9)
            rw [show (wr.alloc (.cells #[.string p, .string v] 87)).heap.size = wr.heap.size + 1 by simp] at h1
            exact h1)).out.mono ?_
          rintro e w2 ⟨rfl, hb2⟩
          have hbel2 : Below w.heap.size w w2 := (((HB.out.alloc hz _).alloc (by simp; omega) _)).trans (hb2.mono (by simp; omega))
          clear HSum hb2 hbit
          go_wp2_with fail
          exact ⟨⟨k + 1, by omega, by rw [hhalf.out], rfl, by rw [HY.out], hbel2⟩, by show y.size < x.size; rw [hxs]; exact hnext.out⟩
        · have hX : Hid (vn t l (k + 1) = dig (vn t l k ++ besN l k)) := Lib.hid (by show (if leafN l / 2 ^ k % 2 = 1 then _ else _) = _; rw [← HM.out, if_neg hodd])
          have HSum := fun (b : Nat) (V : World) (hb : V.heap[b]? = some (.cells #[.string (vn t l k), .string (besN l k)] 9 (0, 0))) => Lib.hid (sum_blk [vn t l k, besN l k] b 2 rfl V 9 hb (by omega) (by rw [cat_pair, ByteArray.size_append, vsz, psz]; omega))
          simp only [cat_pair] at HSum
          rw [← hX.out] at HSum
          generalize besN l k = p at ex1 HSum psz
          generalize vn t l k = v at HSum vsz ⊢
          generalize bs (l.drop (561 + 32 * k)) = x at hne hx32 hxs ex1 ex2 ⊢
          have hbit : bits .and .i64 ((m / 2 ^ k : Nat) : Int) 1 = 0 := by rw [and1 _ ha256]; omega
          generalize m / 2 ^ k = a at hbit hhalf ha256 ⊢
          clear hX hodd
          go_wp2_with fail
          refine (HSum (wr.heap.size + 1) _ (by
            have h1 := heap_alloc_new (wr.alloc (.cells #[.string v, .string p] 87)) (.cells #[.string v, .string p] 9)
            rw [show (wr.alloc (.cells #[.string v, .string p] 87)).heap.size = wr.heap.size + 1 by simp] at h1
            exact h1)).out.mono ?_
          rintro e w2 ⟨rfl, hb2⟩
          have hbel2 : Below w.heap.size w w2 := (((HB.out.alloc hz _).alloc (by simp; omega) _)).trans (hb2.mono (by simp; omega))
          clear HSum hb2 hbit
          go_wp2_with fail
          exact ⟨⟨k + 1, by omega, by rw [hhalf.out], rfl, by rw [HY.out], hbel2⟩, by show y.size < x.size; rw [hxs]; exact hnext.out⟩
      · obtain rfl : k = h := by omega
        have hd0 : l.drop (561 + 32 * k) = [] := List.drop_of_length_le (by omega)
        rw [hd0]
        have hxe := empty_yes
        obtain ⟨v, hv⟩ : ∃ v, v = vn t l k := ⟨_, rfl⟩
        rw [← hv]
        have HV := Lib.hid hv
        clear hv hd0
        go_wp2_with fail
        go_ret
        exact ⟨by rw [← HV.out]; rfl, HB.out⟩
  · have hq : ¬ (leafN l : Int) / (2 : Int) ^ h = 0 := by
      rw [← hcast, ← Int.natCast_ediv]
      have := Nat.div_pos (show 2 ^ h ≤ leafN l by omega) hp.2.1
      omega
    rw [decide_eq_false hlt, Bool.false_and]
    generalize leafN l = m at hx hw hq
    go_enter Try.func26, Try.ntmps26
    go_wp2_with fail
    refine (H w).out.mono ?_
    rintro e w1 ⟨rfl, rfl⟩
    go_wp2_with fail
    go_ret
    exact ⟨rfl, Below.refl _ _⟩

theorem verify_u (root : ByteArray) (n : Int) (t : ByteArray) (ht : t.size ≤ 4096) (sig : ByteArray) (w : World) :
    Calls Try.prog 26 #[.string root, .int .i64 n, .string t, .string sig] w fun e w' => e = .returned (.bool (verB root n t sig)) ∧ Below w.heap.size w w' := by
  unfold verB
  cases hn : highB n with
  | false => exact (verify_high root n t sig hn w).mono fun _ _ ⟨he, hw⟩ => ⟨he, below_same hw⟩
  | true =>
    obtain ⟨h, rfl⟩ := Int.eq_ofNat_of_zero_le ((highB_iff n).1 hn).1
    have hh : h ≤ 5 := by have := ((highB_iff (h : Int)).1 hn).2; omega
    rw [Int.toNat_natCast]
    by_cases hs : sig.size = 561 + 32 * h
    · have hl : sig.data.toList.length = 561 + 32 * h := by rw [data_length]; exact hs
      have := verify_go root h hh t ht sig.data.toList hl w
      rw [bs_of] at this
      rw [decide_eq_true hs]
      simpa using this
    · rw [decide_eq_false hs]
      exact (verify_len root h hh t sig hs w).mono fun _ _ ⟨he, hw⟩ => ⟨he, below_same hw⟩
end Go.Proofs.Ytljnadbfadgglaa

/- witanref06.Verify: which signature is taken. Condition: the text takes at most 4,096 bytes. -/
namespace Go.Proofs.Ytljnadbfadgglaa
open Go.RowKit
set_option maxRecDepth 100000
set_option linter.unusedVariables false
set_option linter.unusedSimpArgs false

theorem refverify_neg (root : ByteArray) (n : Int) (t : ByteArray) (sig : ByteArray) (hn : n < 0) (w : World) :
    Calls Try.prog 27 #[.string root, .int .i64 n, .string t, .string sig] w fun e w' => e = .returned (.bool false) ∧ Below w.heap.size w w' := by
  go_enter Try.func27, Try.ntmps27
  go_wp2_with fail
  refine wp_region_bel w.heap.size w (by kernel_rfl) (by kernel_rfl) (Below.refl _ _) ?_
  repeat (go_big_quiet_step (fail))
  refine wpQuiet_nil ?_
  rintro _ ⟨y, rfl⟩
  go_wp2_with fail
  go_ret
  exact ⟨rfl, y.h⟩
theorem refverify_big (root : ByteArray) (n : Int) (t : ByteArray) (sig : ByteArray) (h0 : 0 ≤ n) (hn : 5 < n) (w : World) :
    Calls Try.prog 27 #[.string root, .int .i64 n, .string t, .string sig] w fun e w' => e = .returned (.bool false) ∧ Below w.heap.size w w' := by
  have d1 : decide (n < 0) = false := decide_eq_false (by omega)
  have d2 : decide (5 < n) = true := decide_eq_true hn
  go_enter Try.func27, Try.ntmps27
  go_wp2_with fail
  refine wp_region_bel w.heap.size w (by kernel_rfl) (by kernel_rfl) (Below.refl _ _) ?_
  repeat (go_big_quiet_step (fail))
  refine wpQuiet_nil ?_
  rintro _ ⟨y, rfl⟩
  go_wp2_with fail
  go_ret
  exact ⟨rfl, y.h⟩
theorem refverify_len (root : ByteArray) (h : Nat) (hh : h ≤ 5) (t : ByteArray) (sig : ByteArray) (hn : ¬ sig.size = 561 + 32 * h) (w : World) :
    Calls Try.prog 27 #[.string root, .int .i64 (h : Int), .string t, .string sig] w fun e w' => e = .returned (.bool false) ∧ Below w.heap.size w w' := by
  have d1 : decide ((h : Int) < 0) = false := decide_eq_false (by omega)
  have d2 : decide (5 < (h : Int)) = false := decide_eq_false (by omega)
  have h0 : 0 ≤ (h : Int) := by omega
  have h5 : (h : Int) ≤ 5 := by omega
  have hn' : ¬ (sig.size : Int) = 561 + 32 * (h : Int) := by omega
  have b1 : (((sig.size : Int)) != 561 + 32 * (h : Int)) = true := by simpa using hn'
  have b2 : (((sig.size : Int)) == 561 + 32 * (h : Int)) = false := by simpa using hn'
  go_enter Try.func27, Try.ntmps27
  go_wp2_with fail
  refine wp_region_bel w.heap.size w (by kernel_rfl) (by kernel_rfl) (Below.refl _ _) ?_
  repeat (go_big_quiet_step (fail))
  refine wpQuiet_nil ?_
  rintro _ ⟨y, rfl⟩
  go_wp2_with fail
  go_ret
  exact ⟨rfl, y.h⟩

set_option maxHeartbeats 400000 in
theorem refverify_go (root : ByteArray) (h : Nat) (hh : h ≤ 5) (t : ByteArray) (ht : t.size ≤ 4096) (l : List UInt8) (hl : l.length = 561 + 32 * h) (w : World) :
    Calls Try.prog 27 #[.string root, .int .i64 (h : Int), .string t, .string (bs l)] w fun e w' => e = .returned (.bool (decide (leafN l < 2 ^ h) && ((vn t l h).toList == root.toList))) ∧ Below w.heap.size w w' := by
  have d1 : decide ((h : Int) < 0) = false := decide_eq_false (by omega)
  have d2 : decide (5 < (h : Int)) = false := decide_eq_false (by omega)
  have HW := fun w : World => Lib.hid (power_any h hh w)
  have hsz : (bs l).size = 561 + 32 * h := by rw [bs_size]; exact hl
  have hsz' : ((bs l).size : Int) = 561 + 32 * (h : Int) := by omega
  have hh' : (h : Int) ≤ 5 := by omega
  have hh0 : 0 ≤ (h : Int) := by omega
  have hpos : 0 < (bs l).size := by omega
  have hx := head_data l hpos
  have hlf := leafN_lt l
  have hw : wrap64 ((leafN l : Nat) : Int) = (leafN l : Int) := by unfold wrap64; omega
  have hp := (pow_int h hh).1
  obtain ⟨N, hN⟩ : ∃ N, N = 2 ^ h := ⟨_, rfl⟩
  rw [← hN] at HW hp ⊢
  clear hN
  by_cases hlt : leafN l < N
  · have hlt' : (leafN l : Int) < (N : Int) := by omega
    rw [decide_eq_true hlt, Bool.true_and]
    have HR := fun w : World => Lib.hid (refrecover_yes t ht (bs ((l.drop 1).take 560)) (by rw [bs_size, List.length_take, List.length_drop]; omega) w)
    have e1 : (bs l).extract 1 561 = bs ((l.drop 1).take 560) := bs_extract l 1 561
    have HV0 : Hid (vn t l 0 = recK t (bs ((l.drop 1).take 560))) := Lib.hid rfl
    rw [← HV0.out] at HR
    generalize bs ((l.drop 1).take 560) = x0 at HR e1 HV0
    obtain ⟨m, hm⟩ : ∃ m, m = leafN l := ⟨_, rfl⟩
    rw [← hm] at hx hw hlf hlt'
    have d3 : decide ((N : Int) ≤ (m : Int)) = false := decide_eq_false (by omega)
    have HM := Lib.hid hm
    clear hlt hm HV0
    go_enter Try.func27, Try.ntmps27
    go_wp2_with fail
    refine wp_region_bel w.heap.size w (by kernel_rfl) (by kernel_rfl) (Below.refl _ _) ?_
    repeat (go_big_quiet_step (first | (go_at_call 47; exact calls_bel_same (HW _).out)))
    refine wpQuiet_nil ?_
    rintro _ ⟨y, rfl⟩
    have hy := Lib.hid y.h
    generalize y.w = w1 at hy ⊢
    clear y
    go_wp2_with fail
    refine (HR w1).out.mono ?_
    rintro e w2 ⟨rfl, hb2⟩
    have hB2 := Lib.hid (hy.out.trans (hb2.mono hy.out.size))
    clear hy hb2 HR
    go_wp2_with fail
    clear e1 hx hw d1 d2 d3 HW
    go_loopw [9, 11, 12] (fun node at_ i wr => ∃ k : Nat, k ≤ h ∧ node = .string (vn t l k) ∧ at_ = .int .i64 ((m / 2 ^ k : Nat) : Int) ∧ i = .int .i64 k ∧ Below w.heap.size w wr) (fun _ _ i _ => h - (intOf i).toNat)
    case atStart => exact ⟨0, by omega, rfl, by rw [Nat.pow_zero, Nat.div_one], rfl, hB2.out⟩
    case round =>
      obtain ⟨k, hk, rfl, rfl, rfl, hbel⟩ := hrel
      have hz := hbel.size
      have HB := Lib.hid hbel
      clear hbel
      by_cases hlk : k < h
      · have n0 : 0 ≤ (k : Int) := by omega
        have n1 : (k : Int) < (h : Int) := by omega
        have ex1 : (bs l).extract (561 + 32 * k) (593 + 32 * k) = besN l k := by
          unfold besN
          rw [bs_extract]
          congr 2
          omega
        have vsz := vn_size t l k
        have psz := besN_size l h k hl hlk
        have ha256 : m / 2 ^ k < 256 := Nat.lt_of_le_of_lt (Nat.div_le_self _ _) hlf
        have hhalf : Hid (((m / 2 ^ k : Nat) : Int) / 2 = ((m / 2 ^ (k + 1) : Nat) : Int)) := Lib.hid (by rw [Nat.pow_succ, ← Nat.div_div_eq_div_mul]; omega)
        by_cases hodd : m / 2 ^ k % 2 = 1
        · have hX : Hid (vn t l (k + 1) = dig (besN l k ++ vn t l k)) := Lib.hid (by show (if leafN l / 2 ^ k % 2 = 1 then _ else _) = _; rw [← HM.out, if_pos hodd])
          have HS := fun V : World => Lib.hid (refsum_any (besN l k ++ vn t l k) (by rw [ByteArray.size_append, vsz, psz]; omega) V)
          rw [← hX.out] at HS
          generalize besN l k = p at ex1 HS psz
          generalize vn t l k = v at HS vsz ⊢
          have hbit : ((m / 2 ^ k : Nat) : Int) % 2 = 1 := by omega
          have hbit2 : ((m / 2 ^ k : Nat) : Int).tmod 2 = 1 := by rw [Int.tmod_eq_emod_of_nonneg (Int.natCast_nonneg _)]; exact hbit
          generalize m / 2 ^ k = a at hbit hbit2 hhalf ha256 ⊢
          clear hX hodd
          go_wp2_with fail
          refine (HS wr).out.mono ?_
          rintro e w2 ⟨rfl, hb2⟩
          have hbel2 : Below w.heap.size w w2 := HB.out.trans (hb2.mono hz)
          clear HS hb2 hbit hbit2
          go_wp2_with fail
          exact ⟨⟨k + 1, by omega, rfl, by rw [← hhalf.out], by go_num, hbel2⟩, by simp [intOf]; omega⟩
        · have hX : Hid (vn t l (k + 1) = dig (vn t l k ++ besN l k)) := Lib.hid (by show (if leafN l / 2 ^ k % 2 = 1 then _ else _) = _; rw [← HM.out, if_neg hodd])
          have HS := fun V : World => Lib.hid (refsum_any (vn t l k ++ besN l k) (by rw [ByteArray.size_append, vsz, psz]; omega) V)
          rw [← hX.out] at HS
          generalize besN l k = p at ex1 HS psz
          generalize vn t l k = v at HS vsz ⊢
          have hbit : ((m / 2 ^ k : Nat) : Int) % 2 = 0 := by omega
          have hbit2 : ((m / 2 ^ k : Nat) : Int).tmod 2 = 0 := by rw [Int.tmod_eq_emod_of_nonneg (Int.natCast_nonneg _)]; exact hbit
          generalize m / 2 ^ k = a at hbit hbit2 hhalf ha256 ⊢
          clear hX hodd
          go_wp2_with fail
          refine (HS wr).out.mono ?_
          rintro e w2 ⟨rfl, hb2⟩
          have hbel2 : Below w.heap.size w w2 := HB.out.trans (hb2.mono hz)
          clear HS hb2 hbit hbit2
          go_wp2_with fail
          exact ⟨⟨k + 1, by omega, rfl, by rw [← hhalf.out], by go_num, hbel2⟩, by simp [intOf]; omega⟩
      · obtain rfl : k = h := by omega
        obtain ⟨v, hv⟩ : ∃ v, v = vn t l k := ⟨_, rfl⟩
        rw [← hv]
        have HV := Lib.hid hv
        clear hv
        go_wp2_with fail
        go_ret
        exact ⟨by rw [← HV.out]; rfl, HB.out⟩
  · have hlt' : (N : Int) ≤ (leafN l : Int) := by omega
    rw [decide_eq_false hlt, Bool.false_and]
    generalize leafN l = m at hx hw hlt'
    have d3 : decide ((N : Int) ≤ (m : Int)) = true := decide_eq_true hlt'
    go_enter Try.func27, Try.ntmps27
    go_wp2_with fail
    refine wp_region_bel w.heap.size w (by kernel_rfl) (by kernel_rfl) (Below.refl _ _) ?_
    repeat (go_big_quiet_step (first | (go_at_call 47; exact calls_bel_same (HW _).out)))
    refine wpQuiet_nil ?_
    rintro _ ⟨y, rfl⟩
    go_wp2_with fail
    go_ret
    exact ⟨rfl, y.h⟩

theorem refverify_u (root : ByteArray) (n : Int) (t : ByteArray) (ht : t.size ≤ 4096) (sig : ByteArray) (w : World) :
    Calls Try.prog 27 #[.string root, .int .i64 n, .string t, .string sig] w fun e w' => e = .returned (.bool (verB root n t sig)) ∧ Below w.heap.size w w' := by
  unfold verB
  cases hn : highB n with
  | false =>
    by_cases h0 : n < 0
    · exact refverify_neg root n t sig h0 w
    · have h5 : 5 < n := by
        have := hn
        unfold highB at this
        simp at this
        omega
      exact refverify_big root n t sig (by omega) h5 w
  | true =>
    obtain ⟨h, rfl⟩ := Int.eq_ofNat_of_zero_le ((highB_iff n).1 hn).1
    have hh : h ≤ 5 := by have := ((highB_iff (h : Int)).1 hn).2; omega
    rw [Int.toNat_natCast]
    by_cases hs : sig.size = 561 + 32 * h
    · have hl : sig.data.toList.length = 561 + 32 * h := by rw [data_length]; exact hs
      have := refverify_go root h hh t ht sig.data.toList hl w
      rw [bs_of] at this
      rw [decide_eq_true hs]
      simpa using this
    · rw [decide_eq_false hs]
      exact refverify_len root h hh t sig hs w
end Go.Proofs.Ytljnadbfadgglaa

/- A signer's Sign. Condition: seed and text take at most 4,096 bytes. -/
namespace Go.Proofs.Ytljnadbfadgglaa
open Go.RowKit
set_option maxRecDepth 100000
set_option linter.unusedVariables false
set_option linter.unusedSimpArgs false

/-- One byte as a text. -/
def one (a : Nat) : ByteArray := ⟨#[UInt8.ofNat a]⟩
theorem one_size (a : Nat) : (one a).size = 1 := rfl
theorem one_conv (a : Nat) (ha : a ≤ 255) (W : World) : (convert 84 9 (.slice (some ⟨W.heap.size, 0, none⟩) 1 1)).run Try.prog (W.alloc (.cells #[.int .u8 (a : Int)] 5)) = .ok (.string (one a)) (W.alloc (.cells #[.int .u8 (a : Int)] 5)) := by
  refine run_convert_bytes_back (W.alloc (.cells #[.int .u8 (a : Int)] 5)) 84 9 5 ⟨W.heap.size, 0, none⟩ 1 [UInt8.ofNat a] Try.underlying84 Try.underlying5 Try.underlying9 (fun j hj => ?_)
  have : j = 0 := by simp at hj; omega
  subst this
  have e : (⟨W.heap.size, 0, none⟩ : Addr).add 0 = ⟨W.heap.size, 0, none⟩ := by unfold Addr.add; split <;> simp_all
  rw [e, cell_of_row _ _ _ _ _ _ (heap_alloc_new W _)]
  simp
  omega

/-- The neighbour. -/
def sib (a : Nat) : Nat := if a % 2 = 1 then a - 1 else a + 1
theorem sib_lt (a m : Nat) (h : a < 2 * m) : sib a < 2 * m := by unfold sib; split <;> omega
theorem xor1 (n : Nat) (h : n < 256) : bits .xor .i64 (n : Int) 1 = ((sib n : Nat) : Int) := by
  have h' : ∀ n : Fin 256, bits .xor .i64 (n.val : Int) 1 = ((sib n.val : Nat) : Int) := by decide +kernel
  exact h' ⟨n, h⟩
/-- A grove's signature, as far as level k. -/
def sgn (seed : ByteArray) (leaf : Nat) (text : ByteArray) : Nat → ByteArray
  | 0 => one leaf ++ sigK seed leaf text
  | k + 1 => sgn seed leaf text k ++ nodeK seed k (sib (leaf / 2 ^ k))
theorem sigK_size (seed : ByteArray) (leaf : Nat) (text : ByteArray) : (sigK seed leaf text).size = 560 := by unfold sigK; rw [bs_size, keyB_length]
theorem sgn_size (seed : ByteArray) (leaf : Nat) (text : ByteArray) : ∀ k, (sgn seed leaf text k).size = 561 + 32 * k
  | 0 => by show (one leaf ++ sigK seed leaf text).size = _; rw [ByteArray.size_append, sigK_size, one_size]
  | k + 1 => by show (sgn seed leaf text k ++ nodeK seed k _).size = _; rw [ByteArray.size_append, sgn_size seed leaf text k, nodeK_size]; omega

theorem ssign_spent {w : World} {B b : Nat} {seed : ByteArray} {h used : Nat} (text : ByteArray) (hh : h ≤ 5) (hu : used = 2 ^ h) (hs : SignerAt w B b seed h used) :
    Calls Try.prog 24 #[.pointer (some ⟨b, 0, none⟩), .string text] w fun e w' => e = .returned (.tuple #[.string ⟨#[]⟩, .int .i64 11]) ∧ Below w.heap.size w w' := by
  have HL := Lib.hid (sleft_yes hh (by omega) hs)
  rw [hu, Nat.sub_self] at HL
  clear hs
  go_enter Try.func24, Try.ntmps24
  go_wp2_with fail
  refine HL.out.mono ?_
  rintro e w1 ⟨rfl, hb1⟩
  go_wp2_with fail
  go_ret2
  exact ⟨rfl, hb1⟩

set_option maxHeartbeats 400000 in
theorem ssign_yes {w : World} {B b : Nat} {seed : ByteArray} {h used : Nat} (text : ByteArray) (ht : text.size ≤ 4096) (hsd : seed.size ≤ 4096) (hh : h ≤ 5) (hu : used < 2 ^ h) (hs : SignerAt w B b seed h used) :
    Calls Try.prog 24 #[.pointer (some ⟨b, 0, none⟩), .string text] w fun e w' => e = .returned (.tuple #[.string (sgn seed used text h), .int .i64 0]) ∧ SignerAt w' B b seed h (used + 1) ∧ w.grownBy w' (some b) := by
  have hp := pow_int h hh
  have HL := Lib.hid (sleft_yes hh (by omega) hs)
  have HS := fun w : World => Lib.hid (sign_yes seed hsd used (by omega) text ht w)
  have hHS := Lib.hid hs
  have hbl := hs.lt
  obtain ⟨v, hb, g, c, bl, rfl, hc, hg, hgD, hD, h1, h2⟩ := hs
  obtain ⟨d, hd⟩ : ∃ d, d = 2 ^ h - used := ⟨_, rfl⟩
  rw [← hd] at HL
  have hd0 : ¬ (d : Int) = 0 := by omega
  have hu32 : (used : Int) ≤ 31 := by omega
  have hu0 : 0 ≤ (used : Int) := by omega
  have hgb : g ≠ b := by omega
  have HB := Lib.hid hb
  have H1 := Lib.hid h1
  have H2 := Lib.hid h2
  clear hd hb h1 h2 ht hsd
  go_enter Try.func24, Try.ntmps24
  go_wp2_with fail
  refine HL.out.mono ?_
  rintro e w1 ⟨rfl, hb1⟩
  have hr1 : w1.heap[b]? = some (.cells #[.string seed, .slice (some ⟨g, 0, none⟩) (h + 1) c, .int .i64 (used : Int)] 81 (0, 0)) := (hb1.block b hbl).trans HB.out
  have c0 := cell_of_row w1 b 0 _ _ _ hr1
  have c1 := cell_of_row w1 b 1 _ _ _ hr1
  have c2 := cell_of_row w1 b 2 _ _ _ hr1
  have f2 := frozen_of_row w1 b 2 _ _ hr1
  simp at c0 c1 c2
  have HR1 := Lib.hid hr1
  have HB1 := Lib.hid hb1
  have hz1 := hb1.size
  clear hr1 hb1
  go_wp2_with fail
  obtain ⟨V, hV⟩ : ∃ V, V = w1.setCell ⟨b, 2, none⟩ (.int .i64 ((used : Int) + 1)) := ⟨_, rfl⟩
  have hrV : V.heap[b]? = some (.cells #[.string seed, .slice (some ⟨g, 0, none⟩) (h + 1) c, .int .i64 (((used + 1 : Nat)) : Int)] 81 (0, 0)) := by
    rw [hV, heap_setCell_same w1 b 2 _ _ _ HR1.out]
    rw [Int.natCast_add]
    rfl
  have hgV : w.grownBy V (some b) := by rw [hV]; exact only_setCell (only_of_below HB1.out (some b)) (p := ⟨b, 2, none⟩) (.inl rfl) _
  rw [← hV]
  have HRV := Lib.hid hrV
  have HGV := Lib.hid hgV
  clear hV hrV hgV HR1 HB1 c0 c1 c2 f2 HL
  refine (HS V).out.mono ?_
  rintro e w2 ⟨rfl, hb2⟩
  have hg2 := Lib.hid (grow_tr HGV.out (only_of_below hb2 (some b)))
  have hr2 := Lib.hid ((hb2.block b (Nat.lt_of_lt_of_le hbl HGV.out.size)).trans HRV.out)
  have L1 := Lib.hid (fun i (hi : i ≤ h) => (hg2.out.cell_far ⟨g, i, none⟩ (by show g < _; omega) (fun e => hgb (by injection e))).trans (H1.out i hi))
  have L2 := Lib.hid (fun i (hi : i ≤ h) j (hj : j < 2 ^ (h - i)) => (hg2.out.cell_far ⟨bl i, j, none⟩ (by have := (H2.out i hi).2.1; show bl i < _; omega) (fun e => absurd (Option.some.inj e) (by have := (H2.out i hi).2.1; show ¬ bl i = b; omega))).trans ((H2.out i hi).2.2 j hj))
  have hcv := one_conv used (by omega)
  have q1 : IntKind.u8.wrap (used : Int) = (used : Int) := by rw [IntKind.wrap_u8]; omega
  have z1 := one_size used
  have z2 := sigK_size seed used text
  have HX0 : Hid (sgn seed used text 0 = one used ++ sigK seed used text) := Lib.hid rfl
  generalize sigK seed used text = sg at z2 HX0 ⊢
  clear hb2 HS HRV HGV
  go_wp2_with fail
  clear hcv q1
  rw [← HX0.out]
  refine wp_world (fun W' => Below w2.heap.size w2 W') ((Below.refl _ _).alloc (Nat.le_refl _) _) ?_
  intro W3 hW3
  have HW3 := Lib.hid hW3
  have hb2l : b < w2.heap.size := (Array.getElem?_eq_some_iff.1 hr2.out).1
  have c1 := (hW3.cell (p := ⟨b, 1, none⟩) hb2l).trans (cell_of_row w2 b 1 _ _ _ hr2.out)
  simp at c1
  have hh0 : 0 ≤ (h : Int) := by omega
  have hh1 : (h : Int) ≤ (h : Int) + 1 := by omega
  have hh2 : IntKind.i64.wrap ((h : Int) + 1 - 1) = (h : Int) := by rw [IntKind.wrap_i64]; omega
  have hh5 : (h : Int) ≤ 5 := by omega
  clear hW3
  go_quiet (fail)
  have HW4 := Lib.hid (below_drewN HW3.out nq)
  generalize W3.drewN nq = W4 at HW4 ⊢
  go_wp2_with fail
  clear c1 hh0 hh1 hh2 HX0 z1 z2
  have hg2l : g < w2.heap.size := by omega
  go_loopw [6, 9, 56] (fun lf out i wr => ∃ k : Nat, k ≤ h ∧ lf = .int .i64 ((used / 2 ^ k : Nat) : Int) ∧ out = .string (sgn seed used text k) ∧ i = .int .i64 k ∧ Below w2.heap.size w2 wr) (fun _ _ i _ => h - (intOf i).toNat)
  case atStart => exact ⟨0, by omega, by rw [Nat.pow_zero, Nat.div_one], rfl, rfl, HW4.out⟩
  case round =>
    obtain ⟨k, hk, rfl, rfl, rfl, hbel⟩ := hrel
    by_cases hlk : k < h
    · have n0 : 0 ≤ (k : Int) := by omega
      have n1 : (k : Int) < (h : Int) := by omega
      have ha256 : used / 2 ^ k < 256 := Nat.lt_of_le_of_lt (Nat.div_le_self _ _) (by omega)
      have hhalf : Hid (((used / 2 ^ k : Nat) : Int) / 2 = ((used / 2 ^ (k + 1) : Nat) : Int)) := Lib.hid (by rw [Nat.pow_succ, ← Nat.div_div_eq_div_mul]; omega)
      have hpk : 2 ^ (h - k) = 2 * 2 ^ (h - (k + 1)) := pow_half h k hlk
      have hdiv : used / 2 ^ k < 2 ^ (h - k) := by
        apply Nat.div_lt_of_lt_mul
        rw [← Nat.pow_add, show k + (h - k) = h by omega]
        exact hu
      have hsib : sib (used / 2 ^ k) < 2 ^ (h - k) := by rw [hpk] at hdiv ⊢; exact sib_lt _ _ hdiv
      have cA := (hbel.cell (p := ⟨g, k, none⟩) hg2l).trans (L1.out k hk)
      have cB := (hbel.cell (p := ⟨bl k, sib (used / 2 ^ k), none⟩) (by have := (H2.out k hk).2.1; show bl k < _; omega)).trans (L2.out k hk _ hsib)
      have hx := xor1 _ ha256
      have s1 := sgn_size seed used text k
      have s2 := nodeK_size seed k (sib (used / 2 ^ k))
      have hX : Hid (sgn seed used text (k + 1) = sgn seed used text k ++ nodeK seed k (sib (used / 2 ^ k))) := Lib.hid rfl
      have hsi : ((sib (used / 2 ^ k) : Nat) : Int) < ((2 ^ (h - k) : Nat) : Int) := by omega
      generalize nodeK seed k (sib (used / 2 ^ k)) = nb at cB s2 hX
      generalize sib (used / 2 ^ k) = sb at cB hx hsi
      generalize sgn seed used text k = sk at s1 hX ⊢
      generalize used / 2 ^ k = a at hx hhalf ha256 ⊢
      generalize 2 ^ (h - k) = M at cA hsi
      have hsb0 : 0 ≤ (sb : Int) := by omega
      have HB := Lib.hid hbel
      clear hbel hpk hdiv hsib
      go_wp2_with fail
      rw [← hX.out]
      exact ⟨⟨k + 1, by omega, by rw [← hhalf.out], rfl, by go_num, HB.out⟩, by simp [intOf]; omega⟩
    · obtain rfl : k = h := by omega
      have hgw := grow_tr hg2.out (only_of_below hbel (some b))
      have hrw := (hbel.block b hb2l).trans hr2.out
      have HGW := Lib.hid hgw
      have HRW := Lib.hid hrw
      obtain ⟨z, hz⟩ : ∃ z, z = sgn seed used text k := ⟨_, rfl⟩
      rw [← hz]
      have HZ := Lib.hid hz
      clear hgw hrw hbel hz
      go_wp2_with fail
      go_ret2
      refine ⟨by rw [← HZ.out]; rfl, ⟨_, HRW.out, g, c, bl, rfl, hc, hg, hgD, Nat.le_trans hD HGW.out.size, fun i hi => ?_, fun i hi => ⟨(H2.out i hi).1, (H2.out i hi).2.1, fun j hj => ?_⟩⟩, HGW.out⟩
      · exact (HGW.out.cell_far ⟨g, i, none⟩ (by show g < _; omega) (fun e => absurd (Option.some.inj e) hgb)).trans (H1.out i hi)
      · exact (HGW.out.cell_far ⟨bl i, j, none⟩ (by have := (H2.out i hi).2.1; show bl i < _; omega) (fun e => absurd (Option.some.inj e) (by have := (H2.out i hi).2.1; show ¬ bl i = b; omega))).trans ((H2.out i hi).2.2 j hj)
end Go.Proofs.Ytljnadbfadgglaa

/- Plain: a grove's signature leads to its root. No condition. -/
namespace Go.Proofs.Ytljnadbfadgglaa
open Go.RowKit
set_option maxRecDepth 100000
set_option linter.unusedVariables false
set_option linter.unusedSimpArgs false

theorem data_app (a b : ByteArray) : (a ++ b).data.toList = a.data.toList ++ b.data.toList := by simp [ByteArray.data_append]
theorem sgn_len (seed : ByteArray) (leaf : Nat) (text : ByteArray) (k : Nat) : (sgn seed leaf text k).data.toList.length = 561 + 32 * k := by rw [data_length, sgn_size]
theorem bes_sgn (seed : ByteArray) (leaf : Nat) (text : ByteArray) : ∀ h k, k < h → besN (sgn seed leaf text h).data.toList k = nodeK seed k (sib (leaf / 2 ^ k))
  | 0, k, hk => by omega
  | h + 1, k, hk => by
    have e : (sgn seed leaf text (h + 1)).data.toList = (sgn seed leaf text h).data.toList ++ (nodeK seed h (sib (leaf / 2 ^ h))).data.toList := data_app _ _
    have hl := sgn_len seed leaf text h
    by_cases hkh : k < h
    · rw [← bes_sgn seed leaf text h k hkh]
      unfold besN
      rw [e, List.drop_append_of_le_length (by omega), List.take_append_of_le_length (by rw [List.length_drop]; omega)]
    · obtain rfl : k = h := by omega
      unfold besN
      rw [e, ← hl, List.drop_left, List.take_of_length_le (by rw [data_length, nodeK_size]; omega), bs_of]
theorem head_sgn (seed : ByteArray) (leaf : Nat) (text : ByteArray) : ∀ h, ∃ r, (sgn seed leaf text h).data.toList = UInt8.ofNat leaf :: ((sigK seed leaf text).data.toList ++ r)
  | 0 => ⟨[], by show (one leaf ++ sigK seed leaf text).data.toList = _; rw [data_app]; simp [one]⟩
  | h + 1 => by
    obtain ⟨r, hr⟩ := head_sgn seed leaf text h
    refine ⟨r ++ (nodeK seed h (sib (leaf / 2 ^ h))).data.toList, ?_⟩
    show (sgn seed leaf text h ++ nodeK seed h _).data.toList = _
    rw [data_app, hr]
    simp
theorem leaf_sgn (seed : ByteArray) (leaf : Nat) (text : ByteArray) (h : Nat) (hl : leaf < 256) : leafN (sgn seed leaf text h).data.toList = leaf := by
  obtain ⟨r, hr⟩ := head_sgn seed leaf text h
  unfold leafN
  rw [hr]
  show (UInt8.ofNat leaf).toNat = leaf
  simp
  omega
theorem one_sgn (seed : ByteArray) (leaf : Nat) (text : ByteArray) (h : Nat) : bs (((sgn seed leaf text h).data.toList.drop 1).take 560) = sigK seed leaf text := by
  obtain ⟨r, hr⟩ := head_sgn seed leaf text h
  have hs : (sigK seed leaf text).data.toList.length = 560 := by rw [data_length, sigK_size]
  rw [hr, List.drop_succ_cons, List.drop_zero, List.take_append_of_le_length (by omega), List.take_of_length_le (by omega), bs_of]

theorem vn_sgn (seed : ByteArray) (leaf : Nat) (text : ByteArray) (h : Nat) (hl : leaf < 256) : ∀ k, k ≤ h → vn text (sgn seed leaf text h).data.toList k = nodeK seed k (leaf / 2 ^ k)
  | 0, _ => by
    show recK text (bs (((sgn seed leaf text h).data.toList.drop 1).take 560)) = pubK seed (leaf / 2 ^ 0)
    rw [one_sgn, (rec_sign seed leaf text).1, Nat.pow_zero, Nat.div_one]
  | k + 1, hk => by
    have ih := vn_sgn seed leaf text h hl k (by omega)
    have hb := bes_sgn seed leaf text h k (by omega)
    show (if leafN _ / 2 ^ k % 2 = 1 then _ else _) = dig (nodeK seed k (2 * (leaf / 2 ^ (k + 1))) ++ nodeK seed k (2 * (leaf / 2 ^ (k + 1)) + 1))
    rw [ih, hb, leaf_sgn seed leaf text h hl, Nat.pow_succ, ← Nat.div_div_eq_div_mul]
    generalize leaf / 2 ^ k = a
    unfold sib
    by_cases ho : a % 2 = 1
    · rw [if_pos ho, if_pos ho, show 2 * (a / 2) = a - 1 by omega, show a - 1 + 1 = a by omega]
    · rw [if_neg ho, if_neg ho, show 2 * (a / 2) = a by omega]

/-- A signature is taken under the root. -/
theorem ver_sgn (seed : ByteArray) (leaf : Nat) (text : ByteArray) (h : Nat) (hh : h ≤ 5) (hl : leaf < 2 ^ h) : verB (nodeK seed h 0) (h : Int) text (sgn seed leaf text h) = true := by
  have hp := (pow_int h hh).1
  unfold verB
  rw [(highB_iff _).2 ⟨by omega, by omega⟩, Int.toNat_natCast, sgn_size, leaf_sgn seed leaf text h (by omega), vn_sgn seed leaf text h (by omega) h (Nat.le_refl _), Nat.div_eq_of_lt hl]
  simp [hl]
/-- Another length is not. -/
theorem ver_len (root : ByteArray) (n : Int) (t sig : ByteArray) (h : sig.size ≠ 561 + 32 * n.toNat) : verB root n t sig = false := by
  unfold verB
  rw [decide_eq_false h]
  simp
end Go.Proofs.Ytljnadbfadgglaa

/- A signer stays while another one signs; short seeds. No condition. -/
namespace Go.Proofs.Ytljnadbfadgglaa
open Go.RowKit
set_option maxRecDepth 100000
set_option linter.unusedVariables false

theorem SignerAt.far {w w' : World} {B b x : Nat} {seed : ByteArray} {h used : Nat} (hs : SignerAt w B b seed h used) (hg : w.grownBy w' (some x)) (hx : x < B ∨ b < x) : SignerAt w' B b seed h used := by
  have hlt := hs.lt
  obtain ⟨v, hb, g, c, bl, rfl, hc, hg1, hgD, hD, h1, h2⟩ := hs
  refine ⟨_, (hg.block b hlt (fun e => by have := Option.some.inj e; omega)).trans hb, g, c, bl, rfl, hc, hg1, hgD, Nat.le_trans hD hg.size, fun i hi => ?_, fun i hi => ⟨(h2 i hi).1, (h2 i hi).2.1, fun j hj => ?_⟩⟩
  · exact (hg.cell_far ⟨g, i, none⟩ (by show g < _; omega) (fun e => by have : g = x := Option.some.inj e; omega)).trans (h1 i hi)
  · exact (hg.cell_far ⟨bl i, j, none⟩ (by have := (h2 i hi).2.1; show bl i < _; omega) (fun e => by have : bl i = x := Option.some.inj e; have := h2 i hi; omega)).trans ((h2 i hi).2.2 j hj)
theorem below_of_grown {B x : Nat} {w w1 w2 : World} (h : Below B w w1) (hg : w1.grownBy w2 (some x)) (hx : B ≤ x) (hB : B ≤ w1.heap.size) : Below B w w2 :=
  h.grown hg hB (fun j hj => by have := Option.some.inj hj; omega)
theorem SignerAt.base {w : World} {B b : Nat} {seed : ByteArray} {h used : Nat} (hs : SignerAt w B b seed h used) : B < b := by
  obtain ⟨v, hb, g, c, bl, rfl, hc, hg1, hgD, hD, h1, h2⟩ := hs
  omega
theorem short_yes6 (a : ByteArray) (h : a.size ≤ 4096) (w : World) : Calls Try.prog 16 #[.string a] w fun e w' => e = .returned (.bool true) ∧ w = w' :=
  (short6 a w).mono fun e w' ⟨he, hw⟩ => ⟨by rw [he, decide_eq_true h], hw⟩
theorem short_no6 (a : ByteArray) (h : 4096 < a.size) (w : World) : Calls Try.prog 16 #[.string a] w fun e w' => e = .returned (.bool false) ∧ w = w' :=
  (short6 a w).mono fun e w' ⟨he, hw⟩ => ⟨by rw [he, decide_eq_false (by omega)], hw⟩
end Go.Proofs.Ytljnadbfadgglaa

/- pack.Reader: a reader's numbers of one and two bytes. -/
namespace Go.Proofs.Ytljnadbfadgglaa
open Go.RowKit
set_option maxRecDepth 100000
set_option linter.unusedVariables false
set_option linter.unusedSimpArgs false

/-- A reader in block b. -/
def RdAt (w : World) (b : Nat) (x : ByteArray) (i : Nat) (bad : Bool) : Prop := w.heap[b]? = some (.cells #[.string x, .int .i64 (i : Int), .bool bad] 142 (0, 0))
theorem RdAt.lt {w : World} {b : Nat} {x : ByteArray} {i : Nat} {bad : Bool} (h : RdAt w b x i bad) : b < w.heap.size := (Array.getElem?_eq_some_iff.1 h).1
theorem RdAt.keep {w w' : World} {b : Nat} {x : ByteArray} {i : Nat} {bad : Bool} (h : RdAt w b x i bad) (hb : Below w.heap.size w w') : RdAt w' b x i bad := (hb.block b h.lt).trans h

theorem rd_new (x : ByteArray) (w : World) : Calls Try.prog 59 #[.string x] w fun e w' => e = .returned (.pointer (some ⟨w.heap.size, 0, none⟩)) ∧ RdAt w' w.heap.size x 0 false ∧ Below w.heap.size w w' := by
  go_enter Try.func59, Try.ntmps59
  go_wp2_with fail
  go_ret
  exact ⟨rfl, heap_alloc_new w _, (Below.refl _ _).alloc (Nat.le_refl _) _⟩

/-- Bytes as a number. -/
def beN (l : List UInt8) : Nat := l.foldl (fun n c => n * 256 + c.toNat) 0
theorem beN_snoc (l : List UInt8) (c : UInt8) : beN (l ++ [c]) = beN l * 256 + c.toNat := by unfold beN; rw [List.foldl_append]; rfl
set_option maxRecDepth 100000 in
theorem or8 (n c : Nat) (hn : n < 256) (hc : c < 256) : bits .or .u64 ((n : Int) * 256) (c : Int) = ((n * 256 + c : Nat) : Int) := by
  have h' : ∀ n : Fin 256, ∀ c : Fin 256, bits .or .u64 ((n.val : Int) * 256) (c.val : Int) = ((n.val * 256 + c.val : Nat) : Int) := by decide +kernel
  exact h' ⟨n, hn⟩ ⟨c, hc⟩

theorem number_bad (b : Nat) (x : ByteArray) (i : Nat) (m : Nat) (w : World) (h : RdAt w b x i true) :
    Calls Try.prog 97 #[.pointer (some ⟨b, 0, none⟩), .int .i64 (m : Int)] w fun e w' => e = .returned (.int .u64 0) ∧ w = w' := by
  have c2 := cell_of_row w b 2 _ _ _ h
  simp at c2
  clear h
  go_enter Try.func97, Try.ntmps97
  go_wp2_with fail
  go_ret
  exact ⟨rfl, rfl⟩

theorem number_short (b : Nat) (x : ByteArray) (hx : x.size ≤ maxLen) (i : Nat) (hi : i ≤ x.size) (m : Nat) (hm : m ≤ 2) (hs : x.size < i + m) (w : World) (h : RdAt w b x i false) :
    Calls Try.prog 97 #[.pointer (some ⟨b, 0, none⟩), .int .i64 (m : Int)] w fun e w' => e = .returned (.int .u64 0) ∧ RdAt w' b x i true ∧ w.grownBy w' (some b) := by
  have hmax : maxLen = 9223372036854775807 := rfl
  have c0 := cell_of_row w b 0 _ _ _ h
  have c1 := cell_of_row w b 1 _ _ _ h
  have c2 := cell_of_row w b 2 _ _ _ h
  have f2 := frozen_of_row w b 2 _ _ h
  simp at c0 c1 c2
  have H := Lib.hid h
  have q1 : IntKind.i64.wrap ((x.size : Int) - (i : Int)) = (x.size : Int) - (i : Int) := by rw [IntKind.wrap_i64]; omega
  have q2 : (x.size : Int) - (i : Int) < (m : Int) := by omega
  clear h hs
  go_enter Try.func97, Try.ntmps97
  go_wp2_with fail
  go_quiet (fail)
  go_wp2_with fail
  go_ret
  have hb := below_drewN (Below.refl w.heap.size w) nq
  have hr := (hb.block b H.out.lt).trans H.out
  exact ⟨rfl, heap_setCell_same _ b 2 _ _ _ hr, only_setCell (only_of_below hb (some b)) (p := ⟨b, 2, none⟩) (.inl rfl) _⟩

theorem takeU (l : List UInt8) (k : Nat) (h : k < l.length) : l.take (k + 1) = l.take k ++ [l.getD k 0] := by
  rw [List.take_succ_eq_append_getElem h]
  simp [List.getD_eq_getElem?_getD, h]
theorem beN_take1 (l : List UInt8) (k : Nat) (h : k ≤ 1) : beN (l.take k) < 256 := by
  have : k = 0 ∨ k = 1 := by omega
  rcases this with rfl | rfl
  · rw [List.take_zero]; decide
  · cases l with
    | nil => decide
    | cons x r => have := x.toNat_lt; simp [beN]; omega

set_option maxHeartbeats 8000000 in
theorem number_yes (b : Nat) (x : ByteArray) (hx : x.size ≤ maxLen) (i : Nat) (m : Nat) (hm : m ≤ 2) (hs : i + m ≤ x.size) (w : World) (h : RdAt w b x i false) :
    Calls Try.prog 97 #[.pointer (some ⟨b, 0, none⟩), .int .i64 (m : Int)] w fun e w' => e = .returned (.int .u64 ((beN ((x.data.toList.drop i).take m) : Nat) : Int)) ∧ RdAt w' b x (i + m) false ∧ w.grownBy w' (some b) := by
  have hmax : maxLen = 9223372036854775807 := rfl
  have c0 := cell_of_row w b 0 _ _ _ h
  have c1 := cell_of_row w b 1 _ _ _ h
  have c2 := cell_of_row w b 2 _ _ _ h
  simp at c0 c1 c2
  have H := Lib.hid h
  have q1 : IntKind.i64.wrap ((x.size : Int) - (i : Int)) = (x.size : Int) - (i : Int) := by rw [IntKind.wrap_i64]; omega
  have q2 : ¬ (x.size : Int) - (i : Int) < (m : Int) := by omega
  have q3 : (m : Int) ≤ (x.size : Int) - (i : Int) := by omega
  have q4 : IntKind.i64.wrap ((i : Int) + (m : Int)) = (i : Int) + (m : Int) := by rw [IntKind.wrap_i64]; omega
  have q5 : (i : Int) + (m : Int) ≤ (x.size : Int) := by omega
  have q6 : (0 : Int) ≤ (i : Int) + (m : Int) := by omega
  have q7 : (i : Int) ≤ (i : Int) + (m : Int) := by omega
  have q8 : (0 : Int) ≤ (i : Int) := by omega
  have q9 : ((i : Int) + (m : Int)).toNat = i + m := by omega
  have hm2 : (m : Int) ≤ 2 := by omega
  have hcv := fun W : World => Lib.run_convert_string_bytes (P := Try.prog) W 9 84 5 (x.extract i (i + m)) Try.underlying9 Try.underlying84 Try.underlying5
  have hxs : (x.extract i (i + m)).size = m := by rw [ByteArray.size_extract]; omega
  rw [hxs] at hcv
  clear h hs
  go_enter Try.func97, Try.ntmps97
  go_wp2_with fail
  go_quiet (fail)
  have hb := below_drewN (Below.refl w.heap.size w) nq
  have hr := Lib.hid ((hb.block b H.out.lt).trans H.out)
  have HB := Lib.hid hb
  generalize w.drewN nq = w0 at hb hr HB ⊢
  have d0 := cell_of_row w0 b 0 _ _ _ hr.out
  have d1 := cell_of_row w0 b 1 _ _ _ hr.out
  simp at d0 d1
  clear c0 c1 c2 hb
  go_wp2_with fail
  have hltb := (Array.getElem?_eq_some_iff.1 hr.out).1
  go_region_with (fail)
  all_goals (try simp only [Act.put, List.getElem_toArray, List.getElem_cons_succ, List.getElem_cons_zero, List.setIfInBounds_toArray, List.set_cons_zero, List.set_cons_succ])
  all_goals
    have hsz5 := Lib.bytesWorld_size w0.drew 5 (x.extract i (i + m))
    have hB5 : Below w0.heap.size w0 (Lib.bytesWorld w0.drew 5 (x.extract i (i + m))) := (Below.drew (Below.refl _ w0)).trans (below_bytes w0.drew _)
    have hcB : ∀ j, j < m → (Lib.bytesWorld w0.drew 5 (x.extract i (i + m))).cell? ⟨w0.heap.size, j, none⟩ = some (.int .u8 (((x.extract i (i + m)).data.toList.getD j 0).toNat : Int)) := fun j hj => Lib.bytesWorld_cell w0.drew _ (x.extract i (i + m)) j (by omega)
    have hll : (x.extract i (i + m)).data.toList.length = m := by rw [Array.length_toList]; exact hxs
    have HLE : Hid ((x.extract i (i + m)).data.toList = (x.data.toList.drop i).take m) := Lib.hid (by
      have h := bs_extract x.data.toList i (i + m)
      rw [bs_of] at h
      rw [h, bs_data, Nat.add_sub_cancel_left])
    generalize (x.extract i (i + m)).data.toList = l at hcB hll HLE
    generalize Lib.bytesWorld w0.drew 5 (x.extract i (i + m)) = w5 at hsz5 hB5 hcB ⊢
    have HB5 := Lib.hid hB5
    have HCB := Lib.hid hcB
    have hr5 := Lib.hid ((hB5.block b hltb).trans hr.out)
    clear hcv d0 d1 hB5 hcB q1 q2 q3
    go_wp2_with fail
    go_loopw [5, 7, 48] (fun n _ j wr => ∃ k : Nat, k ≤ m ∧ j = .int .i64 k ∧ n = .int .u64 ((beN (l.take k) : Nat) : Int) ∧ w5 = wr) (fun _ _ j _ => m - (intOf j).toNat)
    case atStart => exact ⟨0, by omega, rfl, rfl, rfl⟩
    case round =>
      obtain ⟨k, hk, rfl, rfl, rfl⟩ := hrel
      by_cases hkm : k < m
      · have n0 : 0 ≤ (k : Int) := by omega
        have n1 : (k : Int) < (m : Int) := by omega
        have hc := HCB.out k hkm
        have HX : Hid (beN (l.take (k + 1)) = beN (l.take k) * 256 + (l.getD k 0).toNat) := Lib.hid (by rw [takeU l k (by omega), beN_snoc])
        have hlt := beN_take1 l k (by omega)
        have hb := (l.getD k 0).toNat_lt
        generalize (l.getD k 0).toNat = cb at hc HX hb
        generalize beN (l.take k) = N at HX hlt ⊢
        have a1 : IntKind.u64.wrap ((N : Int) * 256) = (N : Int) * 256 := by rw [IntKind.wrap_u64]; omega
        have a2 : IntKind.u64.wrap (cb : Int) = (cb : Int) := by rw [IntKind.wrap_u64]; omega
        have a3 := or8 N cb hlt hb
        go_wp2_with fail
        exact ⟨⟨k + 1, by omega, by go_num, by rw [HX.out]; go_num, trivial⟩, by simp [intOf]; omega⟩
      · obtain rfl : k = m := by omega
        have e1 := cell_of_row w5 b 1 _ _ _ hr5.out
        have f1 := frozen_of_row w5 b 1 _ _ hr5.out
        simp at e1
        rw [List.take_of_length_le (by omega)]
        clear hkm
        go_wp2_with fail
        go_ret
        refine ⟨by rw [← HLE.out]; rfl, ?_, only_setCell (only_of_below (HB.out.trans (HB5.out.mono HB.out.size)) (some b)) (p := ⟨b, 1, none⟩) (.inl rfl) _⟩
        show (w5.setCell ⟨b, 1, none⟩ (.int .i64 ((i : Int) + (k : Int)))).heap[b]? = _
        rw [heap_setCell_same w5 b 1 _ _ _ hr5.out, Int.natCast_add]
        rfl
end Go.Proofs.Ytljnadbfadgglaa

/- pack.Reader: bytes, words, texts, what is left, the end. -/
namespace Go.Proofs.Ytljnadbfadgglaa
open Go.RowKit
set_option maxRecDepth 100000
set_option linter.unusedVariables false
set_option linter.unusedSimpArgs false

theorem below_only {w w' : World} {b : Nat} (h : w = w') : w.grownBy w' (some b) := by subst h; exact only_of_below (Below.refl _ _) (some b)

/-- What is read: the value, the place behind it, whether something was short. -/
def rdN (x : ByteArray) (m i : Nat) (bad : Bool) : Nat × Nat × Bool :=
  if bad then (0, i, true) else if x.size < i + m then (0, i, true) else (beN ((x.data.toList.drop i).take m), i + m, false)
theorem number_u (b : Nat) (x : ByteArray) (hx : x.size ≤ maxLen) (i : Nat) (hi : i ≤ x.size) (bad : Bool) (m : Nat) (hm : m ≤ 2) (w : World) (h : RdAt w b x i bad) :
    Calls Try.prog 97 #[.pointer (some ⟨b, 0, none⟩), .int .i64 (m : Int)] w fun e w' => e = .returned (.int .u64 (((rdN x m i bad).1 : Nat) : Int)) ∧ RdAt w' b x (rdN x m i bad).2.1 (rdN x m i bad).2.2 ∧ w.grownBy w' (some b) := by
  unfold rdN
  cases bad with
  | true => exact (number_bad b x i m w h).mono fun e w' ⟨he, hw⟩ => ⟨he, by subst hw; exact h, below_only hw⟩
  | false =>
    by_cases hs : x.size < i + m
    · rw [if_pos hs]
      exact number_short b x hx i hi m hm hs w h
    · rw [if_neg hs]
      exact number_yes b x hx i m hm (by omega) w h
theorem rdN_le (x : ByteArray) (m i : Nat) (hi : i ≤ x.size) (bad : Bool) : (rdN x m i bad).2.1 ≤ x.size := by
  unfold rdN
  cases bad with
  | true => exact hi
  | false => by_cases hs : x.size < i + m <;> simp [hs] <;> omega
theorem beN_lt : ∀ (l : List UInt8), l.length ≤ 2 → beN l < 65536
  | [], _ => by decide
  | [a], _ => by have := a.toNat_lt; simp [beN]; omega
  | [a, c], _ => by have := a.toNat_lt; have := c.toNat_lt; simp [beN]; omega
  | _ :: _ :: _ :: _, h => by simp at h
theorem rdN_lt (x : ByteArray) (m i : Nat) (hm : m ≤ 2) (bad : Bool) : (rdN x m i bad).1 < 65536 := by
  unfold rdN
  cases bad with
  | true => rw [if_pos rfl]; show 0 < 65536; decide
  | false =>
    by_cases hs : x.size < i + m
    · simp [hs]
    · simp only [hs, if_false]
      exact beN_lt _ (by rw [List.length_take]; omega)

theorem rd_byte (b : Nat) (x : ByteArray) (hx : x.size ≤ maxLen) (i : Nat) (hi : i ≤ x.size) (bad : Bool) (w : World) (h : RdAt w b x i bad) :
    Calls Try.prog 60 #[.pointer (some ⟨b, 0, none⟩)] w fun e w' => e = .returned (.int .i64 (((rdN x 1 i bad).1 : Nat) : Int)) ∧ RdAt w' b x (rdN x 1 i bad).2.1 (rdN x 1 i bad).2.2 ∧ w.grownBy w' (some b) := by
  have H := Lib.hid (number_u b x hx i hi bad 1 (by omega) w h)
  have hv := rdN_lt x 1 i (by omega) bad
  generalize rdN x 1 i bad = r at H hv ⊢
  obtain ⟨v, j, c⟩ := r
  have q : IntKind.i64.wrap (v : Int) = (v : Int) := by rw [IntKind.wrap_i64]; simp only at hv; omega
  clear h
  go_enter Try.func60, Try.ntmps60
  go_wp2_with fail
  refine H.out.mono ?_
  rintro e w1 ⟨rfl, hr, hg⟩
  go_wp2_with fail
  go_ret
  exact ⟨rfl, hr, hg⟩
theorem rd_word (b : Nat) (x : ByteArray) (hx : x.size ≤ maxLen) (i : Nat) (hi : i ≤ x.size) (bad : Bool) (w : World) (h : RdAt w b x i bad) :
    Calls Try.prog 61 #[.pointer (some ⟨b, 0, none⟩)] w fun e w' => e = .returned (.int .i64 (((rdN x 2 i bad).1 : Nat) : Int)) ∧ RdAt w' b x (rdN x 2 i bad).2.1 (rdN x 2 i bad).2.2 ∧ w.grownBy w' (some b) := by
  have H := Lib.hid (number_u b x hx i hi bad 2 (by omega) w h)
  have hv := rdN_lt x 2 i (by omega) bad
  generalize rdN x 2 i bad = r at H hv ⊢
  obtain ⟨v, j, c⟩ := r
  have q : IntKind.i64.wrap (v : Int) = (v : Int) := by rw [IntKind.wrap_i64]; simp only at hv; omega
  clear h
  go_enter Try.func61, Try.ntmps61
  go_wp2_with fail
  refine H.out.mono ?_
  rintro e w1 ⟨rfl, hr, hg⟩
  go_wp2_with fail
  go_ret
  exact ⟨rfl, hr, hg⟩
theorem rd_left (b : Nat) (x : ByteArray) (hx : x.size ≤ maxLen) (i : Nat) (hi : i ≤ x.size) (bad : Bool) (w : World) (h : RdAt w b x i bad) :
    Calls Try.prog 62 #[.pointer (some ⟨b, 0, none⟩)] w fun e w' => e = .returned (.int .i64 ((x.size - i : Nat) : Int)) ∧ Below w.heap.size w w' := by
  have hmax : maxLen = 9223372036854775807 := rfl
  have c0 := cell_of_row w b 0 _ _ _ h
  have c1 := cell_of_row w b 1 _ _ _ h
  simp at c0 c1
  have q1 : IntKind.i64.wrap ((x.size : Int) - (i : Int)) = (x.size : Int) - (i : Int) := by rw [IntKind.wrap_i64]; omega
  have Q := Lib.hid (show (x.size : Int) - (i : Int) = ((x.size - i : Nat) : Int) by omega)
  clear h
  go_enter Try.func62, Try.ntmps62
  go_wp2_with fail
  go_quiet (fail)
  go_wp2_with fail
  go_ret
  refine ⟨?_, below_drewN (Below.refl _ _) _⟩
  show Ending.returned (.int .i64 ((x.size : Int) - (i : Int))) = _
  rw [Q.out]

def endN (x : ByteArray) (i : Nat) (bad : Bool) : Int := if bad then 2 else if i < x.size then 5 else 0
theorem rd_end (b : Nat) (x : ByteArray) (hx : x.size ≤ maxLen) (i : Nat) (hi : i ≤ x.size) (bad : Bool) (w : World) (h : RdAt w b x i bad) :
    Calls Try.prog 99 #[.pointer (some ⟨b, 0, none⟩)] w fun e w' => e = .returned (.int .i64 (endN x i bad)) ∧ Below w.heap.size w w' := by
  have H := Lib.hid (rd_left b x hx i hi bad w h)
  have c2 := cell_of_row w b 2 _ _ _ h
  simp at c2
  clear h
  unfold endN
  cases bad with
  | true =>
    go_enter Try.func99, Try.ntmps99
    go_wp2_with fail
    go_ret
    exact ⟨rfl, Below.refl _ _⟩
  | false =>
    by_cases hs : i < x.size
    · obtain ⟨d, hd⟩ : ∃ d, x.size - i = d + 1 := ⟨x.size - i - 1, by omega⟩
      rw [hd] at H
      have q : (0 : Int) < ((d + 1 : Nat) : Int) := by omega
      generalize d + 1 = z at H q
      go_enter Try.func99, Try.ntmps99
      go_wp2_with fail
      refine H.out.mono ?_
      rintro e w1 ⟨rfl, hb⟩
      go_wp2_with fail
      go_ret
      exact ⟨by simp [hs], hb⟩
    · have hd : x.size - i = 0 := by omega
      rw [hd] at H
      go_enter Try.func99, Try.ntmps99
      go_wp2_with fail
      refine H.out.mono ?_
      rintro e w1 ⟨rfl, hb⟩
      go_wp2_with fail
      go_ret
      exact ⟨by simp [hs], hb⟩
end Go.Proofs.Ytljnadbfadgglaa

/- pack.Reader: a text behind its length. -/
namespace Go.Proofs.Ytljnadbfadgglaa
open Go.RowKit
set_option maxRecDepth 100000
set_option linter.unusedVariables false
set_option linter.unusedSimpArgs false

theorem text_bad (b : Nat) (x : ByteArray) (i : Nat) (w : World) (h : RdAt w b x i true) :
    Calls Try.prog 98 #[.pointer (some ⟨b, 0, none⟩)] w fun e w' => e = .returned (.string ⟨#[]⟩) ∧ w = w' := by
  have H := Lib.hid (number_bad b x i 2 w h)
  have c1 := cell_of_row w b 1 _ _ _ h
  have c2 := cell_of_row w b 2 _ _ _ h
  simp at c1 c2
  clear h
  go_enter Try.func98, Try.ntmps98
  go_wp2_with fail
  refine H.out.mono ?_
  rintro e w1 ⟨rfl, rfl⟩
  go_wp2_with fail
  go_ret
  exact ⟨rfl, rfl⟩
theorem text_short (b : Nat) (x : ByteArray) (hx : x.size ≤ maxLen) (i : Nat) (hi : i ≤ x.size) (hs : x.size < i + 2) (w : World) (h : RdAt w b x i false) :
    Calls Try.prog 98 #[.pointer (some ⟨b, 0, none⟩)] w fun e w' => e = .returned (.string ⟨#[]⟩) ∧ RdAt w' b x i true ∧ w.grownBy w' (some b) := by
  have H := Lib.hid (number_short b x hx i hi 2 (by omega) hs w h)
  have c1 := cell_of_row w b 1 _ _ _ h
  simp at c1
  clear h
  go_enter Try.func98, Try.ntmps98
  go_wp2_with fail
  refine H.out.mono ?_
  rintro e w1 ⟨rfl, hr, hg⟩
  have c2 := cell_of_row w1 b 2 _ _ _ hr
  simp at c2
  go_wp2_with fail
  go_ret
  exact ⟨rfl, hr, hg⟩
theorem text_over (b : Nat) (x : ByteArray) (hx : x.size ≤ maxLen) (i n : Nat) (h2 : i + 2 ≤ x.size) (hn : beN ((x.data.toList.drop i).take 2) = n) (hs : x.size < i + 2 + n) (w : World) (h : RdAt w b x i false) :
    Calls Try.prog 98 #[.pointer (some ⟨b, 0, none⟩)] w fun e w' => e = .returned (.string ⟨#[]⟩) ∧ RdAt w' b x i true ∧ w.grownBy w' (some b) := by
  have hmax : maxLen = 9223372036854775807 := rfl
  have H := Lib.hid (number_yes b x hx i 2 (by omega) h2 w h)
  rw [hn] at H
  have hn6 : n < 65536 := by rw [← hn]; exact beN_lt _ (by rw [List.length_take]; omega)
  have q0 : IntKind.i64.wrap (n : Int) = (n : Int) := by rw [IntKind.wrap_i64]; omega
  have c1 := cell_of_row w b 1 _ _ _ h
  simp at c1
  clear h hn
  go_enter Try.func98, Try.ntmps98
  go_wp2_with fail
  refine H.out.mono ?_
  rintro e w1 ⟨rfl, hr, hg⟩
  obtain ⟨p, hp⟩ : ∃ p, i + 2 = p := ⟨_, rfl⟩
  rw [hp] at hr h2 hs
  have HP := Lib.hid hp
  have d0 := cell_of_row w1 b 0 _ _ _ hr
  have d1 := cell_of_row w1 b 1 _ _ _ hr
  have d2 := cell_of_row w1 b 2 _ _ _ hr
  simp at d0 d1 d2
  have q1 : IntKind.i64.wrap ((x.size : Int) - (p : Int)) = (x.size : Int) - (p : Int) := by rw [IntKind.wrap_i64]; omega
  have q2 : (x.size : Int) - (p : Int) < (n : Int) := by omega
  have HR := Lib.hid hr
  have HG := Lib.hid hg
  clear c1 hr hg hp
  go_wp2_with fail
  go_quiet (fail)
  have hb := below_drewN (Below.refl w1.heap.size w1) nq
  have hr0 := (hb.block b HR.out.lt).trans HR.out
  have HR0 := Lib.hid hr0
  have HB0 := Lib.hid hb
  generalize w1.drewN nq = w2 at hb hr0 HR0 HB0 ⊢
  have f1 := frozen_of_row w2 b 1 _ _ hr0
  have g1 := cell_of_row w2 b 1 _ _ _ hr0
  have r3 := heap_setCell_same w2 b 1 _ _ (.int .i64 (i : Int)) hr0
  have HR3 := Lib.hid r3
  have f2 := frozen_of_row _ b 2 _ _ r3
  have g2 := cell_of_row _ b 2 _ _ _ r3
  simp at g1 g2
  clear hb hr0 r3 d0 d1 d2
  go_wp2_with fail
  go_ret
  have G0 := grow_tr HG.out (only_of_below HB0.out (some b))
  exact ⟨rfl, heap_setCell_same _ b 2 _ _ _ HR3.out, only_setCell (only_setCell G0 (p := ⟨b, 1, none⟩) (.inl rfl) _) (p := ⟨b, 2, none⟩) (.inl rfl) _⟩
theorem text_yes (b : Nat) (x : ByteArray) (hx : x.size ≤ maxLen) (i n : Nat) (h2 : i + 2 ≤ x.size) (hn : beN ((x.data.toList.drop i).take 2) = n) (hs : i + 2 + n ≤ x.size) (w : World) (h : RdAt w b x i false) :
    Calls Try.prog 98 #[.pointer (some ⟨b, 0, none⟩)] w fun e w' => e = .returned (.string (x.extract (i + 2) (i + 2 + n))) ∧ RdAt w' b x (i + 2 + n) false ∧ w.grownBy w' (some b) := by
  have hmax : maxLen = 9223372036854775807 := rfl
  have H := Lib.hid (number_yes b x hx i 2 (by omega) h2 w h)
  rw [hn] at H
  have hn6 : n < 65536 := by rw [← hn]; exact beN_lt _ (by rw [List.length_take]; omega)
  have q0 : IntKind.i64.wrap (n : Int) = (n : Int) := by rw [IntKind.wrap_i64]; omega
  have c1 := cell_of_row w b 1 _ _ _ h
  simp at c1
  clear h hn
  go_enter Try.func98, Try.ntmps98
  go_wp2_with fail
  refine H.out.mono ?_
  rintro e w1 ⟨rfl, hr, hg⟩
  obtain ⟨p, hp⟩ : ∃ p, i + 2 = p := ⟨_, rfl⟩
  rw [hp] at hr h2 hs
  have HP := Lib.hid hp
  have d0 := cell_of_row w1 b 0 _ _ _ hr
  have d1 := cell_of_row w1 b 1 _ _ _ hr
  have d2 := cell_of_row w1 b 2 _ _ _ hr
  simp at d0 d1 d2
  have q1 : IntKind.i64.wrap ((x.size : Int) - (p : Int)) = (x.size : Int) - (p : Int) := by rw [IntKind.wrap_i64]; omega
  have q2 : ¬ (x.size : Int) - (p : Int) < (n : Int) := by omega
  have q3 : (n : Int) ≤ (x.size : Int) - (p : Int) := by omega
  have q4 : IntKind.i64.wrap ((p : Int) + (n : Int)) = (p : Int) + (n : Int) := by rw [IntKind.wrap_i64]; omega
  have q5 : (p : Int) + (n : Int) ≤ (x.size : Int) := by omega
  have q6 : (0 : Int) ≤ (p : Int) + (n : Int) := by omega
  have q7 : (p : Int) ≤ (p : Int) + (n : Int) := by omega
  have q8 : (0 : Int) ≤ (p : Int) := by omega
  have q9 : ((p : Int) + (n : Int)).toNat = p + n := by omega
  have HR := Lib.hid hr
  have HG := Lib.hid hg
  clear c1 hr hg hp
  go_wp2_with fail
  go_quiet (fail)
  have hb := below_drewN (Below.refl w1.heap.size w1) nq
  have hr0 := (hb.block b HR.out.lt).trans HR.out
  have HB0 := Lib.hid (only_of_below hb (some b))
  have HR0 := Lib.hid hr0
  generalize w1.drewN nq = w2 at hb hr0 HR0 HB0 ⊢
  have e0 := cell_of_row w2 b 0 _ _ _ hr0
  have e1 := cell_of_row w2 b 1 _ _ _ hr0
  simp at e0 e1
  clear hb hr0 d0 d1 d2
  go_wp2_with fail
  go_quiet (fail)
  have hb := below_drewN (Below.refl w2.heap.size w2) nq
  have hr0 := (hb.block b (Array.getElem?_eq_some_iff.1 HR0.out).1).trans HR0.out
  have HB3 := Lib.hid (only_of_below hb (some b))
  have HR3 := Lib.hid hr0
  generalize w2.drewN nq = w3 at hb hr0 HR3 HB3 ⊢
  have k1 := cell_of_row w3 b 1 _ _ _ hr0
  have f1 := frozen_of_row w3 b 1 _ _ hr0
  simp at k1
  clear hb hr0 e0 e1
  go_wp2_with fail
  go_ret
  rw [HP.out]
  have G0 := grow_tr (grow_tr HG.out HB0.out) HB3.out
  refine ⟨rfl, ?_, only_setCell G0 (p := ⟨b, 1, none⟩) (.inl rfl) _⟩
  show (w3.setCell ⟨b, 1, none⟩ (.int .i64 ((p : Int) + (n : Int)))).heap[b]? = _
  rw [heap_setCell_same w3 b 1 _ _ _ HR3.out, Int.natCast_add]
  rfl
end Go.Proofs.Ytljnadbfadgglaa

/- witanref01.Reader: numbers of one and two bytes, texts, the end. -/
namespace Go.Proofs.Ytljnadbfadgglaa
open Go.RowKit
set_option maxRecDepth 100000
set_option linter.unusedVariables false
set_option linter.unusedSimpArgs false

/-- The reference's reader in block b: what is left, whether something couldn't be read. -/
def RrAt (w : World) (b : Nat) (l : List UInt8) (bad : Bool) : Prop := w.heap[b]? = some (.cells #[.string (bs l), .bool bad] 147 (0, 0))
theorem RrAt.lt {w : World} {b : Nat} {l : List UInt8} {bad : Bool} (h : RrAt w b l bad) : b < w.heap.size := (Array.getElem?_eq_some_iff.1 h).1
theorem RrAt.keep {w w' : World} {b : Nat} {l : List UInt8} {bad : Bool} (h : RrAt w b l bad) (hb : Below w.heap.size w w') : RrAt w' b l bad := (hb.block b h.lt).trans h

theorem at_data (l : List UInt8) (k : Nat) (h : k < (bs l).size) : ((bs l)[k]'h).toNat = (l.getD k 0).toNat := by
  have hk : k < l.length := by rw [bs_size] at h; exact h
  have e : (bs l)[k]'h = l[k]'hk := rfl
  rw [e]
  simp [List.getD_eq_getElem?_getD, hk]

theorem bits_no (b : Nat) (l : List UInt8) (bad : Bool) (m : Nat) (hm : m ≤ 2) (hs : bad = true ∨ l.length < m) (w : World) (h : RrAt w b l bad) :
    Calls Try.prog 109 #[.pointer (some ⟨b, 0, none⟩), .int .i64 (m : Int)] w fun e w' => e = .returned (.int .u64 0) ∧ RrAt w' b l true ∧ w.grownBy w' (some b) := by
  have c0 := cell_of_row w b 0 _ _ _ h
  have c1 := cell_of_row w b 1 _ _ _ h
  have f1 := frozen_of_row w b 1 _ _ h
  simp at c0 c1
  have hz := bs_size l
  have H := Lib.hid h
  clear h
  cases bad with
  | true =>
    go_enter Try.func109, Try.ntmps109
    go_wp2_with fail
    go_ret
    exact ⟨rfl, heap_setCell_same w b 1 _ _ _ H.out, only_setCell (only_of_below (Below.refl _ _) (some b)) (p := ⟨b, 1, none⟩) (.inl rfl) _⟩
  | false =>
    have hs' : ((bs l).size : Int) < (m : Int) := by rcases hs with h | h; cases h; omega
    clear hs hz
    go_enter Try.func109, Try.ntmps109
    go_wp2_with fail
    go_ret
    exact ⟨rfl, heap_setCell_same w b 1 _ _ _ H.out, only_setCell (only_of_below (Below.refl _ _) (some b)) (p := ⟨b, 1, none⟩) (.inl rfl) _⟩

theorem bits_yes (b : Nat) (l : List UInt8) (m : Nat) (hm : m ≤ 2) (hs : m ≤ l.length) (w : World) (h : RrAt w b l false) :
    Calls Try.prog 109 #[.pointer (some ⟨b, 0, none⟩), .int .i64 (m : Int)] w fun e w' => e = .returned (.int .u64 ((beN (l.take m) : Nat) : Int)) ∧ RrAt w' b (l.drop m) false ∧ w.grownBy w' (some b) := by
  have c0 := cell_of_row w b 0 _ _ _ h
  have c1 := cell_of_row w b 1 _ _ _ h
  have f0 := frozen_of_row w b 0 _ _ h
  simp at c0 c1
  have hz : (bs l).size = l.length := bs_size l
  have H := Lib.hid h
  have hz1 : (m : Int) ≤ ((bs l).size : Int) := by omega
  have hz2 : ¬ ((bs l).size : Int) < (m : Int) := by omega
  have hm2 : (m : Int) ≤ 2 := by omega
  have hm0 : (0 : Int) ≤ (m : Int) := by omega
  have he : (bs l).extract m (bs l).size = bs (l.drop m) := bs_rest' l m _ (by omega)
  have HE := Lib.hid he
  have hsz := Lib.hid (show m ≤ l.length from hs)
  clear h hz he hs
  go_enter Try.func109, Try.ntmps109
  go_wp2_with fail
  go_loopw [5, 6] (fun n j wr => ∃ k : Nat, k ≤ m ∧ j = .int .i64 k ∧ n = .int .u64 ((beN (l.take k) : Nat) : Int) ∧ w = wr) (fun _ j _ => m - (intOf j).toNat)
  case atStart => exact ⟨0, by omega, rfl, rfl, rfl⟩
  case round =>
    obtain ⟨k, hk, rfl, rfl, rfl⟩ := hrel
    by_cases hkm : k < m
    · have n0 : 0 ≤ (k : Int) := by omega
      have n1 : (k : Int) < (m : Int) := by omega
      have hkl : k < (bs l).size := by rw [bs_size]; have := hsz.out; omega
      have n2 : (k : Int) < ((bs l).size : Int) := by omega
      have hx := at_data l k hkl
      have HX : Hid (beN (l.take (k + 1)) = beN (l.take k) * 256 + (l.getD k 0).toNat) := Lib.hid (by rw [takeU l k (by have := hsz.out; omega), beN_snoc])
      have hlt := beN_take1 l k (by omega)
      have hb := (l.getD k 0).toNat_lt
      generalize (l.getD k 0).toNat = cb at hx HX hb
      generalize beN (l.take k) = N at HX hlt ⊢
      have a1 : IntKind.u64.wrap ((N : Int) * 256) = (N : Int) * 256 := by rw [IntKind.wrap_u64]; omega
      have a2 : IntKind.u64.wrap (cb : Int) = (cb : Int) := by rw [IntKind.wrap_u64]; omega
      have a3 : IntKind.u64.wrap ((N : Int) * 256 + (cb : Int)) = (N : Int) * 256 + (cb : Int) := by rw [IntKind.wrap_u64]; omega
      go_wp2_with fail
      exact ⟨⟨k + 1, by omega, by go_num, by rw [HX.out]; go_num, trivial⟩, by simp [intOf]; omega⟩
    · obtain rfl : k = m := by omega
      obtain ⟨v, hv⟩ : ∃ v, v = beN (l.take k) := ⟨_, rfl⟩
      rw [← hv]
      have HV := Lib.hid hv
      clear hkm hv
      go_wp2_with fail
      go_ret
      refine ⟨by rw [← HV.out]; rfl, ?_, only_setCell (only_of_below (Below.refl _ _) (some b)) (p := ⟨b, 0, none⟩) (.inl rfl) _⟩
      show (World.setCell _ ⟨b, 0, none⟩ _).heap[b]? = _
      rw [heap_setCell_same _ b 0 _ _ _ H.out, ← HE.out]
      rfl
/-- What the reference reads: the value, what is left, whether it couldn't be read. -/
def rrN (m : Nat) (l : List UInt8) (bad : Bool) : Nat × List UInt8 × Bool := if bad = true ∨ l.length < m then (0, l, true) else (beN (l.take m), l.drop m, false)
theorem rrN_lt (m : Nat) (l : List UInt8) (bad : Bool) (hm : m ≤ 2) : (rrN m l bad).1 < 65536 := by
  unfold rrN
  by_cases h : bad = true ∨ l.length < m
  · rw [if_pos h]; show 0 < 65536; decide
  · rw [if_neg h]; exact beN_lt _ (by rw [List.length_take]; omega)
theorem bits_u (b : Nat) (l : List UInt8) (bad : Bool) (m : Nat) (hm : m ≤ 2) (w : World) (h : RrAt w b l bad) :
    Calls Try.prog 109 #[.pointer (some ⟨b, 0, none⟩), .int .i64 (m : Int)] w fun e w' => e = .returned (.int .u64 (((rrN m l bad).1 : Nat) : Int)) ∧ RrAt w' b (rrN m l bad).2.1 (rrN m l bad).2.2 ∧ w.grownBy w' (some b) := by
  unfold rrN
  by_cases hs : bad = true ∨ l.length < m
  · rw [if_pos hs]; exact bits_no b l bad m hm hs w h
  · rw [if_neg hs]
    have hb : bad = false := by cases bad with | true => exact absurd (.inl rfl) hs | false => rfl
    subst hb
    exact bits_yes b l m hm (by have : ¬ l.length < m := fun h' => hs (.inr h'); omega) w h
theorem rr_num (b : Nat) (l : List UInt8) (bad : Bool) (m : Nat) (hm : m ≤ 2) (w : World) (h : RrAt w b l bad) :
    Calls Try.prog 101 #[.pointer (some ⟨b, 0, none⟩), .int .i64 (m : Int)] w fun e w' => e = .returned (.int .i64 (((rrN m l bad).1 : Nat) : Int)) ∧ RrAt w' b (rrN m l bad).2.1 (rrN m l bad).2.2 ∧ w.grownBy w' (some b) := by
  have H := Lib.hid (bits_u b l bad m hm w h)
  have hv := rrN_lt m l bad hm
  generalize rrN m l bad = r at H hv ⊢
  obtain ⟨v, j, c⟩ := r
  have q : IntKind.i64.wrap (v : Int) = (v : Int) := by rw [IntKind.wrap_i64]; simp only at hv; omega
  clear h
  go_enter Try.func101, Try.ntmps101
  go_wp2_with fail
  refine H.out.mono ?_
  rintro e w1 ⟨rfl, hr, hg⟩
  go_wp2_with fail
  go_ret
  exact ⟨rfl, hr, hg⟩
def rrE (l : List UInt8) (bad : Bool) : Int := if bad then 2 else if 0 < l.length then 5 else 0
theorem rr_end (b : Nat) (l : List UInt8) (bad : Bool) (w : World) (h : RrAt w b l bad) :
    Calls Try.prog 102 #[.pointer (some ⟨b, 0, none⟩)] w fun e w' => e = .returned (.int .i64 (rrE l bad)) ∧ w = w' := by
  have c0 := cell_of_row w b 0 _ _ _ h
  have c1 := cell_of_row w b 1 _ _ _ h
  simp at c0 c1
  have hz : (bs l).size = l.length := bs_size l
  clear h
  unfold rrE
  cases bad with
  | true =>
    go_enter Try.func102, Try.ntmps102
    go_wp2_with fail
    go_ret
    exact ⟨rfl, rfl⟩
  | false =>
    by_cases hs : 0 < l.length
    · have hs' : (0 : Int) < ((bs l).size : Int) := by omega
      have HS := Lib.hid hs
      clear hz hs
      go_enter Try.func102, Try.ntmps102
      go_wp2_with fail
      go_ret
      exact ⟨by simp [HS.out], rfl⟩
    · have hs' : (bs l).size = 0 := by omega
      have HS := Lib.hid hs
      clear hz hs
      go_enter Try.func102, Try.ntmps102
      go_wp2_with fail
      go_ret
      exact ⟨by simp [HS.out], rfl⟩
end Go.Proofs.Ytljnadbfadgglaa

/- witanref01.Reader: a text behind its length. -/
namespace Go.Proofs.Ytljnadbfadgglaa
open Go.RowKit
set_option maxRecDepth 100000
set_option linter.unusedVariables false
set_option linter.unusedSimpArgs false

theorem beN_two (l : List UInt8) (h : 2 ≤ l.length) : beN (l.take 2) = (l.getD 0 0).toNat * 256 + (l.getD 1 0).toNat := by
  match l, h with
  | a :: c :: r, _ => simp [beN]

theorem rtext_no (b : Nat) (l : List UInt8) (bad : Bool) (hs : bad = true ∨ l.length < 2) (w : World) (h : RrAt w b l bad) :
    Calls Try.prog 100 #[.pointer (some ⟨b, 0, none⟩)] w fun e w' => e = .returned (.string ⟨#[]⟩) ∧ RrAt w' b l true ∧ w.grownBy w' (some b) := by
  have c0 := cell_of_row w b 0 _ _ _ h
  have c1 := cell_of_row w b 1 _ _ _ h
  have f1 := frozen_of_row w b 1 _ _ h
  simp at c0 c1
  have hz := bs_size l
  have H := Lib.hid h
  clear h
  cases bad with
  | true =>
    go_enter Try.func100, Try.ntmps100
    go_wp2_with fail
    go_ret
    exact ⟨rfl, heap_setCell_same w b 1 _ _ _ H.out, only_setCell (only_of_below (Below.refl _ _) (some b)) (p := ⟨b, 1, none⟩) (.inl rfl) _⟩
  | false =>
    have hs' : ((bs l).size : Int) < 2 := by rcases hs with h | h; cases h; omega
    clear hs hz
    go_enter Try.func100, Try.ntmps100
    go_wp2_with fail
    go_ret
    exact ⟨rfl, heap_setCell_same w b 1 _ _ _ H.out, only_setCell (only_of_below (Below.refl _ _) (some b)) (p := ⟨b, 1, none⟩) (.inl rfl) _⟩

theorem rtext_over (b : Nat) (l : List UInt8) (hl : l.length ≤ maxLen) (h2 : 2 ≤ l.length) (hs : l.length < 2 + beN (l.take 2)) (w : World) (h : RrAt w b l false) :
    Calls Try.prog 100 #[.pointer (some ⟨b, 0, none⟩)] w fun e w' => e = .returned (.string ⟨#[]⟩) ∧ RrAt w' b l true ∧ w.grownBy w' (some b) := by
  have hmax : maxLen = 9223372036854775807 := rfl
  have c0 := cell_of_row w b 0 _ _ _ h
  have c1 := cell_of_row w b 1 _ _ _ h
  simp at c0 c1
  have hz : (bs l).size = l.length := bs_size l
  have hz0 : 0 < (bs l).size := by omega
  have hz1 : 1 < (bs l).size := by omega
  have hx0 := at_data l 0 hz0
  have hx1 := at_data l 1 hz1
  rw [beN_two l h2] at hs
  have hb0 := (l.getD 0 0).toNat_lt
  have hb1 := (l.getD 1 0).toNat_lt
  generalize (l.getD 0 0).toNat = a at hx0 hs hb0
  generalize (l.getD 1 0).toNat = d at hx1 hs hb1
  have H := Lib.hid h
  have n2 : ¬ ((bs l).size : Int) < 2 := by omega
  have n3 : (1 : Int) < ((bs l).size : Int) := by omega
  have n4 : (0 : Int) < ((bs l).size : Int) := by omega
  have q1 : IntKind.i64.wrap (((bs l).size : Int) - 2) = ((bs l).size : Int) - 2 := by rw [IntKind.wrap_i64]; omega
  have q2 : IntKind.i64.wrap ((a : Int) * 256) = (a : Int) * 256 := by rw [IntKind.wrap_i64]; omega
  have q3 : IntKind.i64.wrap ((a : Int) * 256 + (d : Int)) = (a : Int) * 256 + (d : Int) := by rw [IntKind.wrap_i64]; omega
  have q4 : IntKind.i64.wrap (a : Int) = (a : Int) := by rw [IntKind.wrap_i64]; omega
  have q5 : IntKind.i64.wrap (d : Int) = (d : Int) := by rw [IntKind.wrap_i64]; omega
  have q6 : ((bs l).size : Int) - 2 < (a : Int) * 256 + (d : Int) := by omega
  clear h hz hs
  go_enter Try.func100, Try.ntmps100
  go_wp2_with fail
  go_quiet (fail)
  have hb := below_drewN (Below.refl w.heap.size w) nq
  have hr0 := (hb.block b H.out.lt).trans H.out
  have HB0 := Lib.hid (only_of_below hb (some b))
  have HR0 := Lib.hid hr0
  generalize w.drewN nq = w2 at hb hr0 HR0 HB0 ⊢
  have e0 := cell_of_row w2 b 0 _ _ _ hr0
  have e1 := cell_of_row w2 b 1 _ _ _ hr0
  have f1 := frozen_of_row w2 b 1 _ _ hr0
  simp at e0 e1
  clear hb hr0 c0 c1
  go_wp2_with fail
  go_ret
  exact ⟨rfl, heap_setCell_same w2 b 1 _ _ _ HR0.out, only_setCell HB0.out (p := ⟨b, 1, none⟩) (.inl rfl) _⟩
theorem rtext_yes (b : Nat) (l : List UInt8) (hl : l.length ≤ maxLen) (h2 : 2 ≤ l.length) (n : Nat) (hn : beN (l.take 2) = n) (hs : 2 + n ≤ l.length) (w : World) (h : RrAt w b l false) :
    Calls Try.prog 100 #[.pointer (some ⟨b, 0, none⟩)] w fun e w' => e = .returned (.string (bs ((l.drop 2).take n))) ∧ RrAt w' b (l.drop (2 + n)) false ∧ w.grownBy w' (some b) := by
  have hmax : maxLen = 9223372036854775807 := rfl
  have c0 := cell_of_row w b 0 _ _ _ h
  have c1 := cell_of_row w b 1 _ _ _ h
  simp at c0 c1
  have hz : (bs l).size = l.length := bs_size l
  have hz0 : 0 < (bs l).size := by omega
  have hz1 : 1 < (bs l).size := by omega
  have hx0 := at_data l 0 hz0
  have hx1 := at_data l 1 hz1
  rw [beN_two l h2] at hn
  have hb0 := (l.getD 0 0).toNat_lt
  have hb1 := (l.getD 1 0).toNat_lt
  generalize (l.getD 0 0).toNat = a at hx0 hn hb0
  generalize (l.getD 1 0).toNat = d at hx1 hn hb1
  have H := Lib.hid h
  have n2 : ¬ ((bs l).size : Int) < 2 := by omega
  have n3 : (1 : Int) < ((bs l).size : Int) := by omega
  have n4 : (0 : Int) < ((bs l).size : Int) := by omega
  have q1 : IntKind.i64.wrap (((bs l).size : Int) - 2) = ((bs l).size : Int) - 2 := by rw [IntKind.wrap_i64]; omega
  have q2 : IntKind.i64.wrap ((a : Int) * 256) = (a : Int) * 256 := by rw [IntKind.wrap_i64]; omega
  have q3 : IntKind.i64.wrap ((a : Int) * 256 + (d : Int)) = (n : Int) := by rw [IntKind.wrap_i64]; omega
  have q3' : (a : Int) * 256 + (d : Int) = (n : Int) := by omega
  have q4 : IntKind.i64.wrap (a : Int) = (a : Int) := by rw [IntKind.wrap_i64]; omega
  have q5 : IntKind.i64.wrap (d : Int) = (d : Int) := by rw [IntKind.wrap_i64]; omega
  have q6 : (n : Int) ≤ ((bs l).size : Int) - 2 := by omega
  have q7 : IntKind.i64.wrap (2 + (n : Int)) = 2 + (n : Int) := by rw [IntKind.wrap_i64]; omega
  have q8 : 2 + (n : Int) ≤ ((bs l).size : Int) := by omega
  have q9 : (0 : Int) ≤ 2 + (n : Int) := by omega
  have q10 : (2 : Int) ≤ 2 + (n : Int) := by omega
  have q11 : (2 + (n : Int)).toNat = 2 + n := by omega
  have ex1 : (bs l).extract 2 (2 + n) = bs ((l.drop 2).take n) := by rw [bs_extract, Nat.add_sub_cancel_left]
  have ex2 : (bs l).extract (2 + n) (bs l).size = bs (l.drop (2 + n)) := bs_rest' l (2 + n) _ (by omega)
  have E1 := Lib.hid ex1
  have E2 := Lib.hid ex2
  clear h hz hs hn ex1 ex2
  go_enter Try.func100, Try.ntmps100
  go_wp2_with fail
  go_quiet (fail)
  have hb := below_drewN (Below.refl w.heap.size w) nq
  have hr0 := (hb.block b H.out.lt).trans H.out
  have HB0 := Lib.hid (only_of_below hb (some b))
  have HR0 := Lib.hid hr0
  generalize w.drewN nq = w2 at hb hr0 HR0 HB0 ⊢
  have e0 := cell_of_row w2 b 0 _ _ _ hr0
  have f0 := frozen_of_row w2 b 0 _ _ hr0
  simp at e0
  clear hb hr0 c0 c1
  go_wp2_with fail
  go_ret
  refine ⟨by rw [← E1.out]; rfl, ?_, only_setCell HB0.out (p := ⟨b, 0, none⟩) (.inl rfl) _⟩
  show (World.setCell _ ⟨b, 0, none⟩ _).heap[b]? = _
  rw [heap_setCell_same _ b 0 _ _ _ HR0.out, ← E2.out]
  rfl
end Go.Proofs.Ytljnadbfadgglaa
