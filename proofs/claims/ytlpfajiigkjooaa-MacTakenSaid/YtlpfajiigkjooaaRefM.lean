/- witanref04.Mac: the reference's MAC. Condition: the key takes at most 4,096 bytes, the text 8,192. -/
import Derived.Test.YtlpfajiigkjooaaMacW
import Derived.Test.YtlpfajiigkjooaaBelT
import Derived.Deep.AppendLies
namespace Go.Proofs.Ytlpfajiigkjooaa
open Go.RowKit Go.Great
set_option linter.unusedVariables false
set_option linter.unusedSimpArgs false

/-- append(s, x..) of values that were just laid into a block, onto a row of the call's own; and where the new slice lies. -/
theorem app_lies {ops : Array Oper} {rest : List Oper} {o : Oper} {a : Act} {Q : Exit → Act → World → Prop} (hgd : o.guard = none) (s x : Operand) (t e : TypeId)
    (ho : o.op = .call { callee := .builtin .append, args := #[s, x], argTypes := #[t, t] })
    {z : Value} {bytes : Nat} (hi : (Try.prog.info? e).map (fun i => (i.zero, i.size, i.bytes)) = some (some z, 1, bytes)) (ht : Try.prog.underlying t = some (.slice e)) (hz : z.cells.size = 1)
    (W0 w : World) (B base : Nat) (hB : B ≤ base) (hbase : base ≤ w.heap.size) (hbel : Below B W0 w)
    (v : Value) (n : Nat) (xs : List Value) (hs : a.eval s = v) (hown : w.ownsRow base e 1 v n xs)
    (cs : Array Value) (m c : Nat) (hx : a.eval x = .slice (some ⟨w.heap.size, 0, none⟩) m c) (hm : cs.size = m) (hm0 : 0 < m) (h1 : ∀ u ∈ cs.toList, u.oneCell' = true)
    (hlen : (n + m) * bytes ≤ 140737488355328) (hlen' : n + m ≤ maxLen)
    (h : ∀ g cap w', w'.ownsRow base e 1 (.slice (some ⟨g, 0, none⟩) (n + m) cap) (n + m) (xs ++ cs.toList) → Below B W0 w' → (w.alloc (.cells cs e)).grownBy w' v.ownBlock → (v.ownBlock = some g ∨ g = w.heap.size + 1) → g < w'.heap.size → wpList Try.prog ops Q rest (a.put o.dst (.slice (some ⟨g, 0, none⟩) (n + m) cap)) w') :
    wpList Try.prog ops Q (o :: rest) a (w.alloc (.cells cs e)) := by
  obtain ⟨i0, hi0, hz0, hz1, hz2⟩ := info_parts hi
  refine wpList_append_lies (w.alloc (.cells cs e)) hgd s x t ho base e i0 z 1 bytes ht hi0 hz0 hz1 hz2 hz (by decide) v n xs hs (hown.alloc _) ⟨w.heap.size, 0, none⟩ m c cs.toList hx (by simp [hm]) (World.news_of_block (heap_alloc_new w _)) h1 hm0 hlen' hlen (by simp; omega) (w.heap.size + 1) (by simp) ?_
  intro g cap w' hown' hg hat hlt
  refine h g cap w' hown' ?_ hg hat hlt
  refine (hbel.alloc (by omega) _).grown hg (by simp; omega) (fun k hk => ?_)
  have := (hown.lt k hk).1
  omega

theorem padK_at (key : ByteArray) (k : Nat) (h : k < 64) : (padK key).getD k 0 = (kb key).data.toList.getD k 0 := by
  have hl : (kb key).data.toList.length = (kb key).size := Array.length_toList
  unfold padK
  rw [List.getD_eq_getElem?_getD, List.getD_eq_getElem?_getD]
  rcases Nat.lt_or_ge k (kb key).size with h' | h'
  · rw [List.getElem?_append_left (by omega)]
  · rw [List.getElem?_append_right (by omega), List.getElem?_eq_none (l := (kb key).data.toList) (by omega)]
    rw [List.getElem?_replicate]
    split <;> rfl
theorem ne_new {v u : Value} {g H : Nat} (hu : u.ownBlock = none ∨ u.ownBlock ≠ v.ownBlock) (hlt : ∀ j, u.ownBlock = some j → j < H) (hat : v.ownBlock = some g ∨ g = H + 1) : u.ownBlock = none ∨ u.ownBlock ≠ some g := by
  rcases hat with h | h
  · rcases hu with h' | h'
    · exact .inl h'
    · exact .inr (by rw [← h]; exact h')
  · exact .inr (fun e => by have := hlt g e; omega)
theorem xk_succ (c : UInt8) (l : List UInt8) (k : Nat) (h : k < l.length) : xk c (l.take (k + 1)) = xk c (l.take k) ++ [l.getD k 0 ^^^ c] := by
  unfold xk; rw [take_snoc l k h, List.map_append]; rfl
theorem own_one {w : World} {base n : Nat} {v : Value} {l : List UInt8} {m : List UInt8} {b : UInt8} {z : Int} (hz : z = (b.toNat : Int)) (h : w.ownsRow base 5 1 v (n + 1) (Lib.byteCells l ++ [.int .u8 z])) (hm : m = l ++ [b]) : w.ownsRow base 5 1 v (n + 1) (Lib.byteCells m) := by
  subst hm; subst hz
  rw [Lib.byteCells_append]
  exact h

set_option maxHeartbeats 1000000 in
theorem refmac_short (key text : ByteArray) (hk : key.size ≤ 64) (ht : text.size ≤ 8192) (w : World) :
    Calls Try.prog 38 #[.string key, .string text] w fun e w' => e = .returned (.string (macK key text)) ∧ Below w.heap.size w w' := by
  have hkk : kb key = key := by unfold kb; rw [if_neg (by omega)]
  have hk' : (key.size : Int) ≤ 64 := by omega
  have hkb := kb_size key
  have hat := padK_at key
  have hl := padK_length key
  rw [hkk] at hkb hat
  have HE : Hid (macK key text = dig (bs (xk 92 (padK key)) ++ dig (bs (xk 54 (padK key)) ++ text))) := Lib.hid rfl
  generalize padK key = l at hl HE hat
  have Hat := Lib.hid hat
  clear hkk hat
  have hb0 : Below w.heap.size w w := Below.refl _ _
  have hz00 : w.heap.size ≤ w.heap.size := Nat.le_refl _
  go_enter Try.func38, Try.ntmps38
  go_wp2_with fail
  go_loopw [5, 6, 7] (fun v u i wr => ∃ k : Nat, k ≤ 64 ∧ i = .int .i64 k ∧ wr.ownsRow w.heap.size 5 1 v k (Lib.byteCells (xk 54 (l.take k))) ∧ wr.ownsRow w.heap.size 5 1 u k (Lib.byteCells (xk 92 (l.take k))) ∧ (u.ownBlock = none ∨ u.ownBlock ≠ v.ownBlock) ∧ (v.ownBlock = none ∨ v.ownBlock ≠ u.ownBlock) ∧ Below w.heap.size w wr) (fun _ _ i _ => 64 - (intOf i).toNat)
  case atStart => exact ⟨0, by omega, rfl, World.ownsRow_nil _ _ _ _, World.ownsRow_nil _ _ _ _, .inl rfl, .inl rfl, Below.refl _ _⟩
  case round =>
    obtain ⟨k, hk, rfl, hv, hu, hn1, hn2, hbel⟩ := hrel
    have hz := hbel.size
    by_cases hlt : k < 64
    · have n0 : 0 ≤ (k : Int) := by omega
      have n1 : (k : Int) < 64 := by omega
      have e1 := Lib.hid (xk_succ 54 l k (by omega))
      have e2 := Lib.hid (xk_succ 92 l k (by omega))
      have hb := Hat.out k hlt
      have x1 := Lib.hid (xor54 (l.getD k 0))
      have x2 := Lib.hid (xor92 (l.getD k 0))
      by_cases hin : k < key.size
      · have hin' : (k : Int) < (key.size : Int) := by omega
        have hx : key.data[k]'(by exact hin) = l.getD k 0 := by
          rw [hb, List.getD_eq_getElem?_getD, List.getElem?_eq_getElem (by rw [data_length]; exact hin)]
          rfl
        have hx2 : key[k] = l.getD k 0 := hx
        generalize l.getD k 0 = b at *
        have y1 : bits .xor .u8 (b.toNat : Int) 54 = ((b.toNat ^^^ 54 : Nat) : Int) := by rw [x1.out, UInt8.toNat_xor]; rfl
        have y2 : bits .xor .u8 (b.toNat : Int) 92 = ((b.toNat ^^^ 92 : Nat) : Int) := by rw [x2.out, UInt8.toNat_xor]; rfl
        have z1 : Hid (((b.toNat ^^^ 54 : Nat) : Int) = ((b ^^^ 54).toNat : Int)) := Lib.hid (by rw [UInt8.toNat_xor]; rfl)
        have z2 : Hid (((b.toNat ^^^ 92 : Nat) : Int) = ((b ^^^ 92).toNat : Int)) := Lib.hid (by rw [UInt8.toNat_xor]; rfl)
        have lu : Hid (∀ j, u6.ownBlock = some j → j < wr.heap.size) := Lib.hid (fun j hj => (hu.lt j hj).2)
        have Hn1 := Lib.hid hn1
        have Hn2 := Lib.hid hn2
        have Hu := Lib.hid hu
        clear hn1 hn2 hu hb
        go_wp2_with (at_builtin; first
          | (refine app_lies rfl (.tmp 25) (.tmp 28) 30 5 rfl info_byte Try.underlying30 rfl w wr w.heap.size w.heap.size (Nat.le_refl _) hz hbel _ _ _ (by rfl) hv _ 1 1 (by rfl) (by rfl) (by omega) (by intro u hu; simp at hu; subst hu; rfl) (by omega) (by unfold maxLen; omega) ?_
             intro g1 c1 w5 hown1 hbel1 hgrow1 hat1 hlt1
             have hn3 := Lib.hid (ne_new Hn1.out lu.out hat1)
             have hu5 := (Hu.out.alloc (.cells _ 5)).kept hgrow1 Hn1.out
             have lu5 : Hid (∀ j, u6.ownBlock = some j → j < w5.heap.size) := Lib.hid (fun j hj => (hu5.lt j hj).2)
             have hz5 := hbel1.size
             have hown1 := Lib.hid hown1
             clear hgrow1 hat1 hv hbel hz)
          | (refine app_lies rfl (.tmp 30) (.tmp 33) 30 5 rfl info_byte Try.underlying30 rfl w w5 w.heap.size w.heap.size (Nat.le_refl _) hz5 hbel1 _ _ _ (by rfl) hu5 _ 1 1 (by rfl) (by rfl) (by omega) (by intro u hu; simp at hu; subst hu; rfl) (by omega) (by unfold maxLen; omega) ?_
             intro g2 c2 w6 hown2 hbel2 hgrow2 hat2 hlt2
             have hv6 := (hown1.out.alloc (.cells _ 5)).kept hgrow2 (.inr (hn3.out.elim (fun h => by rw [h]; simp [Value.ownBlock]) (fun h e => h e.symm)))
             have hne : g1 ≠ g2 := by
               rcases hat2 with h | h
               · rcases hn3.out with h' | h'
                 · rw [h'] at h; cases h
                 · exact fun e => h' (by rw [h, e])
               · omega
             clear hgrow2 hat2))
        have hv7 := own_one (by first | exact z1.out | (rw [hx2]; exact x1.out) | exact x1.out) hv6 e1.out
        have hu7 := own_one (by first | exact z2.out | (rw [hx2]; exact x2.out) | exact x2.out) hown2 e2.out
        refine ⟨⟨k + 1, by omega, by go_num, hv7, hu7, .inr (by simp [Value.ownBlock]; omega), .inr (by simp [Value.ownBlock]; omega), hbel2⟩, by simp [intOf]; omega⟩
      · have hin' : ¬ (k : Int) < (key.size : Int) := by omega
        have hx : l.getD k 0 = 0 := by
          rw [hb, List.getD_eq_getElem?_getD, List.getElem?_eq_none (by rw [data_length]; omega)]; rfl
        generalize l.getD k 0 = b at *
        subst hx
        have lu : Hid (∀ j, u6.ownBlock = some j → j < wr.heap.size) := Lib.hid (fun j hj => (hu.lt j hj).2)
        have Hn1 := Lib.hid hn1
        have Hn2 := Lib.hid hn2
        have Hu := Lib.hid hu
        clear hn1 hn2 hu hb
        go_wp2_with (at_builtin; first
          | (refine app_lies rfl (.tmp 25) (.tmp 28) 30 5 rfl info_byte Try.underlying30 rfl w wr w.heap.size w.heap.size (Nat.le_refl _) hz hbel _ _ _ (by rfl) hv _ 1 1 (by rfl) (by rfl) (by omega) (by intro u hu; simp at hu; subst hu; rfl) (by omega) (by unfold maxLen; omega) ?_
             intro g1 c1 w5 hown1 hbel1 hgrow1 hat1 hlt1
             have hn3 := Lib.hid (ne_new Hn1.out lu.out hat1)
             have hu5 := (Hu.out.alloc (.cells _ 5)).kept hgrow1 Hn1.out
             have lu5 : Hid (∀ j, u6.ownBlock = some j → j < w5.heap.size) := Lib.hid (fun j hj => (hu5.lt j hj).2)
             have hz5 := hbel1.size
             have hown1 := Lib.hid hown1
             clear hgrow1 hat1 hv hbel hz)
          | (refine app_lies rfl (.tmp 30) (.tmp 33) 30 5 rfl info_byte Try.underlying30 rfl w w5 w.heap.size w.heap.size (Nat.le_refl _) hz5 hbel1 _ _ _ (by rfl) hu5 _ 1 1 (by rfl) (by rfl) (by omega) (by intro u hu; simp at hu; subst hu; rfl) (by omega) (by unfold maxLen; omega) ?_
             intro g2 c2 w6 hown2 hbel2 hgrow2 hat2 hlt2
             have hv6 := (hown1.out.alloc (.cells _ 5)).kept hgrow2 (.inr (hn3.out.elim (fun h => by rw [h]; simp [Value.ownBlock]) (fun h e => h e.symm)))
             have hne : g1 ≠ g2 := by
               rcases hat2 with h | h
               · rcases hn3.out with h' | h'
                 · rw [h'] at h; cases h
                 · exact fun e => h' (by rw [h, e])
               · omega
             clear hgrow2 hat2))
        have hv7 := own_one (by first | rfl | decide) hv6 e1.out
        have hu7 := own_one (by first | rfl | decide) hown2 e2.out
        refine ⟨⟨k + 1, by omega, by go_num, hv7, hu7, .inr (by simp [Value.ownBlock]; omega), .inr (by simp [Value.ownBlock]; omega), hbel2⟩, by simp [intOf]; omega⟩
    · obtain rfl : k = 64 := by omega
      rw [List.take_of_length_le (by omega)] at hv hu
      have hcv1 : ∀ x : Bel wr.heap.size wr, (convert 30 9 u5).run Try.prog x.w = .ok (.string (bs (xk 54 l))) x.w := fun x => str_of_own (P := Try.prog) 30 9 5 Try.underlying30 Try.underlying5 Try.underlying9 (hv.kept (row := none) (only_of_below x.h none) (by cases hn : Value.ownBlock _ <;> simp))
      have hcv2 : ∀ x : Bel wr.heap.size wr, (convert 30 9 u6).run Try.prog x.w = .ok (.string (bs (xk 92 l))) x.w := fun x => str_of_own (P := Try.prog) 30 9 5 Try.underlying30 Try.underlying5 Try.underlying9 (hu.kept (row := none) (only_of_below x.h none) (by cases hn : Value.ownBlock _ <;> simp))
      have hp : (bs (xk 54 l)).size = 64 := by rw [bs_size, xk_length, hl]
      have hq : (bs (xk 92 l)).size = 64 := by rw [bs_size, xk_length, hl]
      generalize bs (xk 54 l) = p at *
      generalize bs (xk 92 l) = q at *
      have hd := dig_size (p ++ text)
      have HS1 := fun W : World => Lib.hid (refsum_any (p ++ text) (by rw [ByteArray.size_append]; omega) W)
      have HS2 := fun W : World => Lib.hid (refsum_any (q ++ dig (p ++ text)) (by rw [ByteArray.size_append]; omega) W)
      rw [← HE.out] at HS2
      have HX := Lib.hid hbel
      have hz9 := hbel.size
      clear hv hu hn1 hn2 hbel hz Hat
      generalize dig (p ++ text) = y at *
      go_wp2_with fail
      refine wp_region_bel wr.heap.size wr (by kernel_rfl) (by kernel_rfl) (Below.refl _ _) ?_
      repeat (go_big_quiet_step (first | (go_at_call_of 23 text; exact calls_bel (Nat.le_refl _) (HS1 _).out) | (go_at_call 23; exact calls_bel (Nat.le_refl _) (HS2 _).out)))
      refine wpQuiet_nil ?_
      rintro _ ⟨x, rfl⟩
      go_wp2_with fail
      go_ret
      exact ⟨rfl, hb0.trans ((HX.out.trans (x.h.mono hz9)).mono hz00)⟩

set_option maxHeartbeats 1000000 in
theorem refmac_long (key text : ByteArray) (hk : 64 < key.size) (hk4 : key.size ≤ 4096) (ht : text.size ≤ 8192) (w : World) :
    Calls Try.prog 38 #[.string key, .string text] w fun e w' => e = .returned (.string (macK key text)) ∧ Below w.heap.size w w' := by
  have hkk : kb key = dig key := by unfold kb; rw [if_pos hk]
  have hk' : (64 : Int) < (key.size : Int) := by omega
  have hkb := kb_size key
  have hat := padK_at key
  have hl := padK_length key
  rw [hkk] at hkb hat
  have HE : Hid (macK key text = dig (bs (xk 92 (padK key)) ++ dig (bs (xk 54 (padK key)) ++ text))) := Lib.hid rfl
  generalize padK key = l at hl HE hat
  have Hat := Lib.hid hat
  clear hkk hat
  have HSk := fun w : World => Lib.hid (refsum_any key (by omega) w)
  generalize dig key = d at HSk hkb Hat
  go_enter Try.func38, Try.ntmps38
  go_wp2_with fail
  refine (HSk w).out.mono ?_
  rintro e w0 ⟨rfl, hb0⟩
  have hz00 := hb0.size
  go_wp2_with fail
  go_loopw [5, 6, 7] (fun v u i wr => ∃ k : Nat, k ≤ 64 ∧ i = .int .i64 k ∧ wr.ownsRow w0.heap.size 5 1 v k (Lib.byteCells (xk 54 (l.take k))) ∧ wr.ownsRow w0.heap.size 5 1 u k (Lib.byteCells (xk 92 (l.take k))) ∧ (u.ownBlock = none ∨ u.ownBlock ≠ v.ownBlock) ∧ (v.ownBlock = none ∨ v.ownBlock ≠ u.ownBlock) ∧ Below w0.heap.size w0 wr) (fun _ _ i _ => 64 - (intOf i).toNat)
  case atStart => exact ⟨0, by omega, rfl, World.ownsRow_nil _ _ _ _, World.ownsRow_nil _ _ _ _, .inl rfl, .inl rfl, Below.refl _ _⟩
  case round =>
    obtain ⟨k, hk, rfl, hv, hu, hn1, hn2, hbel⟩ := hrel
    have hz := hbel.size
    by_cases hlt : k < 64
    · have n0 : 0 ≤ (k : Int) := by omega
      have n1 : (k : Int) < 64 := by omega
      have e1 := Lib.hid (xk_succ 54 l k (by omega))
      have e2 := Lib.hid (xk_succ 92 l k (by omega))
      have hb := Hat.out k hlt
      have x1 := Lib.hid (xor54 (l.getD k 0))
      have x2 := Lib.hid (xor92 (l.getD k 0))
      by_cases hin : k < d.size
      · have hin' : (k : Int) < (d.size : Int) := by omega
        have hx : d.data[k]'(by exact hin) = l.getD k 0 := by
          rw [hb, List.getD_eq_getElem?_getD, List.getElem?_eq_getElem (by rw [data_length]; exact hin)]
          rfl
        have hx2 : d[k] = l.getD k 0 := hx
        generalize l.getD k 0 = b at *
        have y1 : bits .xor .u8 (b.toNat : Int) 54 = ((b.toNat ^^^ 54 : Nat) : Int) := by rw [x1.out, UInt8.toNat_xor]; rfl
        have y2 : bits .xor .u8 (b.toNat : Int) 92 = ((b.toNat ^^^ 92 : Nat) : Int) := by rw [x2.out, UInt8.toNat_xor]; rfl
        have z1 : Hid (((b.toNat ^^^ 54 : Nat) : Int) = ((b ^^^ 54).toNat : Int)) := Lib.hid (by rw [UInt8.toNat_xor]; rfl)
        have z2 : Hid (((b.toNat ^^^ 92 : Nat) : Int) = ((b ^^^ 92).toNat : Int)) := Lib.hid (by rw [UInt8.toNat_xor]; rfl)
        have lu : Hid (∀ j, u6.ownBlock = some j → j < wr.heap.size) := Lib.hid (fun j hj => (hu.lt j hj).2)
        have Hn1 := Lib.hid hn1
        have Hn2 := Lib.hid hn2
        have Hu := Lib.hid hu
        clear hn1 hn2 hu hb
        go_wp2_with (at_builtin; first
          | (refine app_lies rfl (.tmp 25) (.tmp 28) 30 5 rfl info_byte Try.underlying30 rfl w0 wr w0.heap.size w0.heap.size (Nat.le_refl _) hz hbel _ _ _ (by rfl) hv _ 1 1 (by rfl) (by rfl) (by omega) (by intro u hu; simp at hu; subst hu; rfl) (by omega) (by unfold maxLen; omega) ?_
             intro g1 c1 w5 hown1 hbel1 hgrow1 hat1 hlt1
             have hn3 := Lib.hid (ne_new Hn1.out lu.out hat1)
             have hu5 := (Hu.out.alloc (.cells _ 5)).kept hgrow1 Hn1.out
             have lu5 : Hid (∀ j, u6.ownBlock = some j → j < w5.heap.size) := Lib.hid (fun j hj => (hu5.lt j hj).2)
             have hz5 := hbel1.size
             have hown1 := Lib.hid hown1
             clear hgrow1 hat1 hv hbel hz)
          | (refine app_lies rfl (.tmp 30) (.tmp 33) 30 5 rfl info_byte Try.underlying30 rfl w0 w5 w0.heap.size w0.heap.size (Nat.le_refl _) hz5 hbel1 _ _ _ (by rfl) hu5 _ 1 1 (by rfl) (by rfl) (by omega) (by intro u hu; simp at hu; subst hu; rfl) (by omega) (by unfold maxLen; omega) ?_
             intro g2 c2 w6 hown2 hbel2 hgrow2 hat2 hlt2
             have hv6 := (hown1.out.alloc (.cells _ 5)).kept hgrow2 (.inr (hn3.out.elim (fun h => by rw [h]; simp [Value.ownBlock]) (fun h e => h e.symm)))
             have hne : g1 ≠ g2 := by
               rcases hat2 with h | h
               · rcases hn3.out with h' | h'
                 · rw [h'] at h; cases h
                 · exact fun e => h' (by rw [h, e])
               · omega
             clear hgrow2 hat2))
        have hv7 := own_one (by first | exact z1.out | (rw [hx2]; exact x1.out) | exact x1.out) hv6 e1.out
        have hu7 := own_one (by first | exact z2.out | (rw [hx2]; exact x2.out) | exact x2.out) hown2 e2.out
        refine ⟨⟨k + 1, by omega, by go_num, hv7, hu7, .inr (by simp [Value.ownBlock]; omega), .inr (by simp [Value.ownBlock]; omega), hbel2⟩, by simp [intOf]; omega⟩
      · have hin' : ¬ (k : Int) < (d.size : Int) := by omega
        have hx : l.getD k 0 = 0 := by
          rw [hb, List.getD_eq_getElem?_getD, List.getElem?_eq_none (by rw [data_length]; omega)]; rfl
        generalize l.getD k 0 = b at *
        subst hx
        have lu : Hid (∀ j, u6.ownBlock = some j → j < wr.heap.size) := Lib.hid (fun j hj => (hu.lt j hj).2)
        have Hn1 := Lib.hid hn1
        have Hn2 := Lib.hid hn2
        have Hu := Lib.hid hu
        clear hn1 hn2 hu hb
        go_wp2_with (at_builtin; first
          | (refine app_lies rfl (.tmp 25) (.tmp 28) 30 5 rfl info_byte Try.underlying30 rfl w0 wr w0.heap.size w0.heap.size (Nat.le_refl _) hz hbel _ _ _ (by rfl) hv _ 1 1 (by rfl) (by rfl) (by omega) (by intro u hu; simp at hu; subst hu; rfl) (by omega) (by unfold maxLen; omega) ?_
             intro g1 c1 w5 hown1 hbel1 hgrow1 hat1 hlt1
             have hn3 := Lib.hid (ne_new Hn1.out lu.out hat1)
             have hu5 := (Hu.out.alloc (.cells _ 5)).kept hgrow1 Hn1.out
             have lu5 : Hid (∀ j, u6.ownBlock = some j → j < w5.heap.size) := Lib.hid (fun j hj => (hu5.lt j hj).2)
             have hz5 := hbel1.size
             have hown1 := Lib.hid hown1
             clear hgrow1 hat1 hv hbel hz)
          | (refine app_lies rfl (.tmp 30) (.tmp 33) 30 5 rfl info_byte Try.underlying30 rfl w0 w5 w0.heap.size w0.heap.size (Nat.le_refl _) hz5 hbel1 _ _ _ (by rfl) hu5 _ 1 1 (by rfl) (by rfl) (by omega) (by intro u hu; simp at hu; subst hu; rfl) (by omega) (by unfold maxLen; omega) ?_
             intro g2 c2 w6 hown2 hbel2 hgrow2 hat2 hlt2
             have hv6 := (hown1.out.alloc (.cells _ 5)).kept hgrow2 (.inr (hn3.out.elim (fun h => by rw [h]; simp [Value.ownBlock]) (fun h e => h e.symm)))
             have hne : g1 ≠ g2 := by
               rcases hat2 with h | h
               · rcases hn3.out with h' | h'
                 · rw [h'] at h; cases h
                 · exact fun e => h' (by rw [h, e])
               · omega
             clear hgrow2 hat2))
        have hv7 := own_one (by first | rfl | decide) hv6 e1.out
        have hu7 := own_one (by first | rfl | decide) hown2 e2.out
        refine ⟨⟨k + 1, by omega, by go_num, hv7, hu7, .inr (by simp [Value.ownBlock]; omega), .inr (by simp [Value.ownBlock]; omega), hbel2⟩, by simp [intOf]; omega⟩
    · obtain rfl : k = 64 := by omega
      rw [List.take_of_length_le (by omega)] at hv hu
      have hcv1 : ∀ x : Bel wr.heap.size wr, (convert 30 9 u5).run Try.prog x.w = .ok (.string (bs (xk 54 l))) x.w := fun x => str_of_own (P := Try.prog) 30 9 5 Try.underlying30 Try.underlying5 Try.underlying9 (hv.kept (row := none) (only_of_below x.h none) (by cases hn : Value.ownBlock _ <;> simp))
      have hcv2 : ∀ x : Bel wr.heap.size wr, (convert 30 9 u6).run Try.prog x.w = .ok (.string (bs (xk 92 l))) x.w := fun x => str_of_own (P := Try.prog) 30 9 5 Try.underlying30 Try.underlying5 Try.underlying9 (hu.kept (row := none) (only_of_below x.h none) (by cases hn : Value.ownBlock _ <;> simp))
      have hp : (bs (xk 54 l)).size = 64 := by rw [bs_size, xk_length, hl]
      have hq : (bs (xk 92 l)).size = 64 := by rw [bs_size, xk_length, hl]
      generalize bs (xk 54 l) = p at *
      generalize bs (xk 92 l) = q at *
      have hd := dig_size (p ++ text)
      have HS1 := fun W : World => Lib.hid (refsum_any (p ++ text) (by rw [ByteArray.size_append]; omega) W)
      have HS2 := fun W : World => Lib.hid (refsum_any (q ++ dig (p ++ text)) (by rw [ByteArray.size_append]; omega) W)
      rw [← HE.out] at HS2
      have HX := Lib.hid hbel
      have hz9 := hbel.size
      clear hv hu hn1 hn2 hbel hz Hat
      generalize dig (p ++ text) = y at *
      go_wp2_with fail
      refine wp_region_bel wr.heap.size wr (by kernel_rfl) (by kernel_rfl) (Below.refl _ _) ?_
      repeat (go_big_quiet_step (first | (go_at_call_of 23 text; exact calls_bel (Nat.le_refl _) (HS1 _).out) | (go_at_call 23; exact calls_bel (Nat.le_refl _) (HS2 _).out)))
      refine wpQuiet_nil ?_
      rintro _ ⟨x, rfl⟩
      go_wp2_with fail
      go_ret
      exact ⟨rfl, hb0.trans ((HX.out.trans (x.h.mono hz9)).mono hz00)⟩

theorem refmac_any (key text : ByteArray) (hk : key.size ≤ 4096) (ht : text.size ≤ 8192) (w : World) :
    Calls Try.prog 38 #[.string key, .string text] w fun e w' => e = .returned (.string (macK key text)) ∧ Below w.heap.size w w' := by
  rcases Nat.lt_or_ge 64 key.size with h | h
  · exact refmac_long key text h hk ht w
  · exact refmac_short key text h ht w
end Go.Proofs.Ytlpfajiigkjooaa
