/- grove.grow: a tree's levels. Condition: the seed takes at most 4,096 bytes, the height is 0 to 5. -/
import Derived.Test.YtljnadbfadgglaaUni
import Derived.Deep.AppendLies
import Derived.Deep.RegionHeld3
namespace Go.Proofs.Ytljnadbfadgglaa
open Go.RowKit
set_option maxRecDepth 100000
set_option linter.unusedVariables false
set_option linter.unusedSimpArgs false

/-- A tree's nodes: number i of level j. -/
def nodeK (seed : ByteArray) : Nat → Nat → ByteArray
  | 0, i => pubK seed i
  | j + 1, i => dig (nodeK seed j (2 * i) ++ nodeK seed j (2 * i + 1))
theorem nodeK_size (seed : ByteArray) (j i : Nat) : (nodeK seed j i).size = 32 := by
  cases j with
  | zero => exact pubK_size seed i
  | succ j => exact dig_size _

/-- Block b holds texts: f 0, f 1 .. -/
def Str (w : World) (b n : Nat) (f : Nat → ByteArray) : Prop := ∃ cur, w.heap[b]? = some (.cells cur 9 (0, 0)) ∧ n ≤ cur.size ∧ ∀ i, i < n → cur[i]? = some (.string (f i))
theorem Str.lt {w : World} {b n : Nat} {f : Nat → ByteArray} (h : Str w b n f) : b < w.heap.size := by
  obtain ⟨cur, hb, _⟩ := h; exact (Array.getElem?_eq_some_iff.1 hb).1
theorem Str.cell {w : World} {b n : Nat} {f : Nat → ByteArray} (h : Str w b n f) (i : Nat) (hi : i < n) : w.cell? ⟨b, i, none⟩ = some (.string (f i)) := by
  obtain ⟨cur, hb, _, hc⟩ := h
  rw [cell_of_row w b i _ _ _ hb, hc i hi]
theorem Str.keep {w w' : World} {b n : Nat} {f : Nat → ByteArray} (h : Str w b n f) (hb : Below w.heap.size w w') : Str w' b n f := by
  have hlt := h.lt
  obtain ⟨cur, hh, r⟩ := h
  exact ⟨cur, (hb.block b hlt).trans hh, r⟩
theorem Str.grown {w w' : World} {b n base m : Nat} {f : Nat → ByteArray} {v : Value} {xs : List Value} (h : Str w b n f) (hown : w.ownsRow base 34 1 v m xs) (hg : w.grownBy w' v.ownBlock) : Str w' b n f := by
  have hlt := h.lt
  obtain ⟨cur, hh, r⟩ := h
  exact ⟨cur, (hg.block b hlt (fun e => Lib.ownBlock_ne hown hh (by decide) e.symm)).trans hh, r⟩
theorem Str.set {w : World} {b N k : Nat} {f : Nat → ByteArray} {x : ByteArray} (h : ∃ cur, w.heap[b]? = some (.cells cur 9 (0, 0)) ∧ cur.size = N ∧ ∀ i, i < k → cur[i]? = some (.string (f i))) (hk : k < N) (hx : x = f k) :
    ∃ cur, (w.setCell ⟨b, k, none⟩ (.string x)).heap[b]? = some (.cells cur 9 (0, 0)) ∧ cur.size = N ∧ ∀ i, i < k + 1 → cur[i]? = some (.string (f i)) := by
  obtain ⟨cur, hb, hs, hc⟩ := h
  refine ⟨cur.setIfInBounds k (.string x), heap_setCell_same w b k _ _ _ hb, by simp [hs], fun i hi => ?_⟩
  rw [Array.getElem?_setIfInBounds]
  by_cases e : k = i
  · subst e; rw [if_pos rfl, if_pos (by omega), hx]
  · rw [if_neg e]; exact hc i (by omega)

theorem info_str6 : (Try.prog.info? 9).map (fun i => (i.zero, i.size, i.bytes)) = some (some (.string ByteArray.empty), 1, 16) := by kernel_rfl
theorem info_lvl : (Try.prog.info? 34).map (fun i => (i.zero, i.size, i.bytes)) = some (some (.slice none 0 0), 1, 24) := by kernel_rfl
theorem mkS (n : Nat) (hn : n ≤ 1000) (w : World) : (Instr.makeSlice 34 (.int .i64 (n : Int)) (.int .i64 (n : Int))).run Try.prog w = .ok (.slice (some ⟨w.heap.size, 0, none⟩) n n) (w.alloc (.cells (madeCells #[Value.string ByteArray.empty] n) 9)) := by
  obtain ⟨i0, hi0, hz0, hz1, hz2⟩ := info_parts info_str6
  have := run_make (P := Try.prog) w 34 9 i0 _ Try.underlying34 hi0 hz0 .i64 .i64 n n (by omega) (by omega) (by rw [hz2]; omega) (by omega)
  rw [this, hz1, Int.toNat_natCast, Nat.mul_one]
  rfl
theorem pow_int (h : Nat) (hh : h ≤ 5) : 2 ^ h ≤ 32 ∧ 1 ≤ 2 ^ h ∧ wrap64 ((2 : Int) ^ h) = ((2 ^ h : Nat) : Int) := by
  have : h = 0 ∨ h = 1 ∨ h = 2 ∨ h = 3 ∨ h = 4 ∨ h = 5 := by omega
  rcases this with rfl | rfl | rfl | rfl | rfl | rfl <;> exact ⟨by decide, by decide, by decide +kernel⟩
theorem pow_half (h j : Nat) (hj : j < h) : 2 ^ (h - j) = 2 * 2 ^ (h - (j + 1)) := by
  rw [show h - j = (h - (j + 1)) + 1 by omega, Nat.pow_succ, Nat.mul_comm]

/-- The levels as values. -/
def lvls (h : Nat) (bl : Nat → Nat) (m : Nat) : List Value := (List.range m).map fun i => Value.slice (some ⟨bl i, 0, none⟩) (2 ^ (h - i)) (2 ^ (h - i))
theorem lvls_succ (h : Nat) (bl : Nat → Nat) (m : Nat) : lvls h bl (m + 1) = lvls h bl m ++ [Value.slice (some ⟨bl m, 0, none⟩) (2 ^ (h - m)) (2 ^ (h - m))] := by
  unfold lvls; rw [List.range_succ, List.map_append]; rfl
theorem lvls_congr (h : Nat) (bl bl' : Nat → Nat) (m : Nat) (e : ∀ i, i < m → bl' i = bl i) : lvls h bl' m = lvls h bl m := by
  unfold lvls
  apply List.map_congr_left
  intro i hi
  rw [e i (by simpa using hi)]
theorem lvls_at (h : Nat) (bl : Nat → Nat) (m i : Nat) (hi : i < m) : (lvls h bl m)[i]? = some (Value.slice (some ⟨bl i, 0, none⟩) (2 ^ (h - i)) (2 ^ (h - i))) := by
  unfold lvls; simp [hi]

set_option maxHeartbeats 2000000 in
theorem grow_any (seed : ByteArray) (hs : seed.size ≤ 4096) (h : Nat) (hh : h ≤ 5) (w : World) :
    Calls Try.prog 45 #[.string seed, .int .i64 (h : Int)] w fun e w' => ∃ bl v, e = .returned v ∧ w'.ownsRow w.heap.size 34 1 v (h + 1) (lvls h bl (h + 1)) ∧ (∀ i, i ≤ h → w.heap.size ≤ bl i ∧ Str w' (bl i) (2 ^ (h - i)) (nodeK seed i)) ∧ Below w.heap.size w w' := by
  obtain ⟨hN32, hN1, hshl⟩ := pow_int h hh
  obtain ⟨N, hN⟩ : ∃ N, N = 2 ^ h := ⟨_, rfl⟩
  rw [← hN] at hN32 hN1 hshl
  have HP := fun (k : Nat) (hk : k ≤ 255) (w : World) => Lib.hid (public_yes seed hs k hk w)
  have hmk := mkS N (by omega)
  have hmz : (madeCells #[Value.string ByteArray.empty] N).size = N := size_madeCells _ _
  generalize madeCells #[Value.string ByteArray.empty] N = M at hmk hmz
  have hhi : (h : Int) ≤ 5 := by omega
  have HN := Lib.hid hN
  clear hs hN
  go_enter Try.func45, Try.ntmps45
  go_wp2_with fail
  clear hmk hshl
  go_loopw [15] (fun i wr => ∃ k : Nat, k ≤ N ∧ i = .int .i64 k ∧ Hid (∃ cur, wr.heap[w.heap.size]? = some (.cells cur 9 (0, 0)) ∧ cur.size = N ∧ ∀ i, i < k → cur[i]? = some (.string (nodeK seed 0 i))) ∧ Below w.heap.size w wr) (fun i _ => N - (intOf i).toNat)
  case atStart => exact ⟨0, by omega, rfl, Lib.hid ⟨M, heap_alloc_new w _, hmz, fun i hi => by omega⟩, (Below.refl _ _).alloc (Nat.le_refl _) _⟩
  case round =>
    obtain ⟨k, hk, rfl, hrow, hbel⟩ := hrel
    have hz := hbel.size
    by_cases hlt : k < N
    · have n0 : 0 ≤ (k : Int) := by omega
      have n1 : (k : Int) < (N : Int) := by omega
      go_wp2_with fail
      refine (HP k (by omega) wr).out.mono ?_
      rintro e w2 ⟨rfl, hb2⟩
      obtain ⟨cur, hc1, hc2, hc3⟩ := hrow.out
      have hblt := (Array.getElem?_eq_some_iff.1 hc1).1
      have hc1' := (hb2.block w.heap.size hblt).trans hc1
      have hck : w2.cell? ⟨w.heap.size, k, none⟩ = some (cur[k]'(by omega)) := by rw [cell_of_row w2 w.heap.size k _ _ _ hc1']; simp
      have hfk : w2.frozen? ⟨w.heap.size, k, none⟩ = false := frozen_of_row w2 w.heap.size k _ _ hc1'
      have hnew := Str.set (f := nodeK seed 0) (x := pubK seed k) ⟨cur, hc1', hc2, hc3⟩ hlt rfl
      have HNEW := Lib.hid hnew
      have hbel2 := (hbel.trans (hb2.mono hz)).setCell (p := ⟨w.heap.size, k, none⟩) (Nat.le_refl _) (.string (pubK seed k))
      clear hc1 hc3 hc1' hrow hnew hb2
      generalize cur[k]'(by omega) = old at hck
      go_wp2_with fail
      first
        | exact ⟨⟨k + 1, by omega, by go_num, HNEW, hbel2⟩, by simp [intOf]; omega⟩
        | trace_state
    · obtain rfl : k = N := by omega
      obtain ⟨cur, hc1, hc2, hc3⟩ := hrow.out
      have hstr : Str wr w.heap.size k (nodeK seed 0) := ⟨cur, hc1, by omega, hc3⟩
      have HSTR := Lib.hid hstr
      clear hrow hc1 hc3 hstr
      go_wp2_with fail
      have hb0 := hbel.alloc hz (.cells #[.slice (some ⟨w.heap.size, 0, none⟩) k k] 34)
      have hown0 : (wr.alloc (.cells #[.slice (some ⟨w.heap.size, 0, none⟩) k k] 34)).ownsRow w.heap.size 34 1 (.slice (some ⟨wr.heap.size, 0, none⟩) 1 1) 1 (lvls h (fun _ => w.heap.size) 1) := by
        have := own_block wr #[.slice (some ⟨w.heap.size, 0, none⟩) k k] 34 1 1 w.heap.size hz rfl (by omega) (by unfold maxLen; omega)
        rw [show lvls h (fun _ => w.heap.size) 1 = [Value.slice (some ⟨w.heap.size, 0, none⟩) k k] by rw [HN.out]; rfl]
        exact this
      have hs0 : Hid (∀ i, i ≤ 0 → w.heap.size ≤ (fun _ : Nat => w.heap.size) i ∧ Str (wr.alloc (.cells #[.slice (some ⟨w.heap.size, 0, none⟩) k k] 34)) w.heap.size (2 ^ (h - i)) (nodeK seed i)) := Lib.hid (fun i hi => by
        obtain rfl : i = 0 := by omega
        refine ⟨Nat.le_refl _, ?_⟩
        rw [Nat.sub_zero, ← HN.out]
        exact HSTR.out.keep ((Below.refl _ _).alloc (Nat.le_refl _) _))
      have HOWN0 := Lib.hid hown0
      have HB0 := Lib.hid hb0
      have hk2 : k = 2 ^ (h - 0) := HN.out
      clear hown0 hb0 HSTR hbel hz hmz
      go_loopw [5, 7] (fun lev v wa => ∃ (j : Nat) (bl : Nat → Nat), j ≤ h ∧ lev = .slice (some ⟨bl j, 0, none⟩) (2 ^ (h - j)) (2 ^ (h - j)) ∧ wa.ownsRow w.heap.size 34 1 v (j + 1) (lvls h bl (j + 1)) ∧ Hid (∀ i, i ≤ j → w.heap.size ≤ bl i ∧ Str wa (bl i) (2 ^ (h - i)) (nodeK seed i)) ∧ Below w.heap.size w wa) (fun lev _ _ => match lev with | .slice _ n _ => n | _ => 0)
      case atStart => exact ⟨0, fun _ => w.heap.size, by omega, by rw [← hk2], HOWN0.out, hs0, HB0.out⟩
      case round =>
        obtain ⟨j, bl, hj, rfl, hown, hstr, hbel⟩ := hrel
        have hz := hbel.size
        by_cases hjh : j < h
        · obtain ⟨m, hm⟩ : ∃ m, m = 2 ^ (h - (j + 1)) := ⟨_, rfl⟩
          have hn2 : 2 ^ (h - j) = 2 * m := by rw [hm]; exact pow_half h j hjh
          have hm16 : 1 ≤ m ∧ m ≤ 16 := by
            have h1 := (pow_int (h - (j + 1)) (by omega)).2.1
            have h2 := (pow_int (h - j) (by omega)).1
            omega
          rw [hn2]
          have Hm := Lib.hid hm
          have hq1 : ((2 * m : Nat) : Int) / 2 = (m : Int) := by omega
          have hq2 : ((2 * m : Nat) : Int).tdiv 2 = (m : Int) := by rw [Int.tdiv_eq_ediv_of_nonneg (by omega)]; omega
          have hgt : (1 : Int) < ((2 * m : Nat) : Int) := by omega
          have hmk := mkS m (by omega) wr
          have hmz : (madeCells #[Value.string ByteArray.empty] m).size = m := size_madeCells _ _
          generalize madeCells #[Value.string ByteArray.empty] m = M2 at hmk hmz
          have hsj := (hstr.out j (Nat.le_refl _)).2
          rw [hn2] at hsj
          have Hsj := Lib.hid hsj
          have HW := Lib.hid hown
          have HS := hstr
          have HB := Lib.hid hbel
          clear hown hstr hbel hm hn2 hsj hk2
          go_wp2_with fail
          clear hmk
          obtain ⟨wo, hwo⟩ : ∃ wo, wo = wr := ⟨_, rfl⟩
          subst hwo
          have hzc : wo.heap.size < (wo.alloc (.cells M2 9)).heap.size := by simp
          go_loopw [39] (fun i wk => ∃ q : Nat, q ≤ m ∧ i = .int .i64 q ∧ Hid (∃ cur, wk.heap[wo.heap.size]? = some (.cells cur 9 (0, 0)) ∧ cur.size = m ∧ ∀ i, i < q → cur[i]? = some (.string (nodeK seed (j + 1) i))) ∧ Below wo.heap.size wo wk) (fun i _ => m - (intOf i).toNat)
          case atStart => exact ⟨0, by omega, rfl, Lib.hid ⟨M2, heap_alloc_new wo _, hmz, fun i hi => by omega⟩, (Below.refl _ _).alloc (Nat.le_refl _) _⟩
          case round =>
            obtain ⟨q, hq, rfl, hrow, hbk⟩ := hrel
            have hzk := hbk.size
            by_cases hqm : q < m
            · have n0 : 0 ≤ (q : Int) := by omega
              have n1 : (q : Int) < (m : Int) := by omega
              have i0 : 0 ≤ 2 * (q : Int) := by omega
              have i1 : 2 * (q : Int) < 2 * (m : Int) := by omega
              have i2 : 0 ≤ 2 * (q : Int) + 1 := by omega
              have i3 : 2 * (q : Int) + 1 < 2 * (m : Int) := by omega
              have a1 : IntKind.i64.wrap (2 * (q : Int)) = 2 * (q : Int) := by rw [IntKind.wrap_i64]; omega
              have a2 : IntKind.i64.wrap (2 * (q : Int) + 1) = 2 * (q : Int) + 1 := by rw [IntKind.wrap_i64]; omega
              have t1 : (2 * (q : Int)).toNat = 2 * q := by omega
              have t2 : (2 * (q : Int) + 1).toNat = 2 * q + 1 := by omega
              have hs2 := Hsj.out.keep hbk
              have ca := hs2.cell (2 * q) (by omega)
              have cb := hs2.cell (2 * q + 1) (by omega)
              have hbj := hs2.lt
              have hbne : bl j ≠ wo.heap.size := by have := Hsj.out.lt; omega
              have hA := nodeK_size seed j (2 * q)
              have hB := nodeK_size seed j (2 * q + 1)
              have HX : Hid (nodeK seed (j + 1) q = dig (nodeK seed j (2 * q) ++ nodeK seed j (2 * q + 1))) := Lib.hid rfl
              have HSum := fun (b : Nat) (V : World) (hb : V.heap[b]? = some (.cells #[.string (nodeK seed j (2 * q)), .string (nodeK seed j (2 * q + 1))] 9 (0, 0))) => Lib.hid (sum_blk [nodeK seed j (2 * q), nodeK seed j (2 * q + 1)] b 2 rfl V 9 hb (by omega) (by rw [cat_pair, ByteArray.size_append]; omega))
              simp only [cat_pair] at HSum
              rw [← HX.out] at HSum
              generalize nodeK seed j (2 * q) = x at ca hA HSum
              generalize nodeK seed j (2 * q + 1) = y at cb hB HSum
              obtain ⟨cur, hc1, hc2, hc3⟩ := hrow.out
              have hclt := (Array.getElem?_eq_some_iff.1 hc1).1
              have HC1 := Lib.hid hc1
              have HC3 := Lib.hid hc3
              clear hs2 hc1 hc3 hrow HX
              go_wp2_with fail
              go_region_held3 (fun w' => w'.cell? ⟨bl j, 2 * q, none⟩ = some (.string x) ∧ w'.cell? ⟨bl j, 2 * q + 1, none⟩ = some (.string y))
                (first
                  | exact ⟨ca, cb⟩
                  | exact ⟨(World.cell?_of_block (Below.heap_alloc wr _ (bl j) hbj)).trans ca, (World.cell?_of_block (Below.heap_alloc wr _ (bl j) hbj)).trans cb⟩
                  | exact ⟨(hB2.cell (p := ⟨bl j, 2 * q, none⟩) hbj).trans ca, (hB2.cell (p := ⟨bl j, 2 * q + 1, none⟩) hbj).trans cb⟩
                  | exact ⟨(World.cell?_of_block (Below.heap_setCell _ _ _ _ (by exact hbne))).trans ((hB2.cell (p := ⟨bl j, 2 * q, none⟩) hbj).trans ca), (World.cell?_of_block (Below.heap_setCell _ _ _ _ (by exact hbne))).trans ((hB2.cell (p := ⟨bl j, 2 * q + 1, none⟩) hbj).trans cb)⟩)
                ((first
                  | (go_at_call 52; refine (HSum wr.heap.size _ (by exact heap_alloc_new wr _)).out.mono ?_; rintro e w2 ⟨rfl, hb2⟩
                     have hB2 : Below wr.heap.size wr w2 := (((Below.refl wr.heap.size wr).alloc (Nat.le_refl _) _).drew).trans (hb2.mono (by simp))
                     have hc2' : w2.heap[wo.heap.size]? = some (.cells cur 9 (0, 0)) := (hB2.block _ hclt).trans HC1.out
                     have hck : w2.cell? ⟨wo.heap.size, q, none⟩ = some (cur[q]'(by omega)) := by rw [cell_of_row w2 wo.heap.size q _ _ _ hc2']; simp
                     have hfk : w2.frozen? ⟨wo.heap.size, q, none⟩ = false := frozen_of_row w2 wo.heap.size q _ _ hc2'
                     have HC2 := Lib.hid hc2'
                     clear hc2' hb2)))
              have hnew := Lib.hid (Str.set (f := nodeK seed (j + 1)) (x := nodeK seed (j + 1) q) ⟨cur, HC2.out, hc2, HC3.out⟩ hqm rfl)
              have hbk2 := (hbk.trans (hB2.mono hzk)).setCell (p := ⟨wo.heap.size, q, none⟩) (Nat.le_refl _) (.string (nodeK seed (j + 1) q))
              clear HSum ca cb a1 a2 t1 t2 hck hfk hB2
              go_wp2_with fail
              exact ⟨⟨q + 1, by omega, by go_num, hnew, hbk2⟩, by simp [intOf]; omega⟩
            · obtain rfl : q = m := by omega
              obtain ⟨cur, hc1, hc2, hc3⟩ := hrow.out
              have hstr2 : Str wr wo.heap.size q (nodeK seed (j + 1)) := ⟨cur, hc1, by omega, hc3⟩
              have HS2 := Lib.hid hstr2
              have hown2 := HW.out.kept (row := none) (only_of_below hbk none) (by cases hn : Value.ownBlock _ <;> simp)
              have hbel2 := HB.out.trans (hbk.mono hz)
              have hz2 := hbel2.size
              have hS3 := Lib.hid (fun i (hi : i ≤ j) => (⟨(HS.out i hi).1, (HS.out i hi).2.keep hbk⟩ : w.heap.size ≤ bl i ∧ Str wr (bl i) (2 ^ (h - i)) (nodeK seed i)))
              have hwo := hz
              clear hc1 hc3 hrow hstr2 hbk
              go_wp2_with (at_builtin; go_must (refine app_lit rfl (.tmp 60) (.tmp 62) 78 34 rfl info_lvl Try.underlying78 rfl w wr w.heap.size w.heap.size (Nat.le_refl _) hz2 hbel2 _ _ _ (by rfl) hown2 _ 1 1 (by rfl) (by rfl) (by intro u hu; simp at hu; subst hu; rfl) (by omega) (by unfold maxLen; omega) ?_); go_must (intro v1 w9 hown1 hbel1 hsz9 hgrow9))
              obtain ⟨bl', hbl'⟩ : ∃ bl' : Nat → Nat, bl' = fun i => if i = j + 1 then wo.heap.size else bl i := ⟨_, rfl⟩
              have e1 : bl' (j + 1) = wo.heap.size := by rw [hbl']; simp
              have e2 : ∀ i, i ≤ j → bl' i = bl i := fun i hi => by rw [hbl']; simp; omega
              have hlv : lvls h bl' (j + 1 + 1) = lvls h bl (j + 1) ++ [Value.slice (some ⟨wo.heap.size, 0, none⟩) q q] := by
                rw [lvls_succ, lvls_congr h bl bl' (j + 1) (fun i hi => e2 i (by omega)), e1, ← Hm.out]
              refine ⟨⟨j + 1, bl', by omega, by rw [e1, ← Hm.out], by rw [hlv]; exact hown1, Lib.hid (fun i hi => ?_), hbel1⟩, by show q < 2 * q; omega⟩
              have hownA := hown2.alloc (.cells #[.slice (some ⟨wo.heap.size, 0, none⟩) q q] 34)
              have hbA := (Below.refl wr.heap.size wr).alloc (Nat.le_refl _) (.cells #[.slice (some ⟨wo.heap.size, 0, none⟩) q q] 34)
              by_cases e : i = j + 1
              · subst e
                rw [e1, ← Hm.out]
                exact ⟨hwo, (HS2.out.keep hbA).grown hownA hgrow9⟩
              · rw [e2 i (by omega)]
                exact ⟨(hS3.out i (by omega)).1, ((hS3.out i (by omega)).2.keep hbA).grown hownA hgrow9⟩
        · obtain rfl : j = h := by omega
          have h1 : ¬ (1 : Int) < ((2 ^ (j - j) : Nat) : Int) := by rw [Nat.sub_self]; decide
          have h1' : (2 ^ (j - j) : Nat) = 1 := by rw [Nat.sub_self]
          rw [h1']
          have HW := Lib.hid hown
          clear hown h1 h1' hk2
          go_wp2_with fail
          go_ret
          exact ⟨bl, _, rfl, HW.out, hstr.out, hbel⟩
end Go.Proofs.Ytljnadbfadgglaa
