/- pack.Writer: New, Byte, Text, Done, where there is room and nothing fails. -/
import Derived.Test.YtljnadbfadgglaaS3
namespace Go.Proofs.Ytljnadbfadgglaa
open Go.RowKit
set_option maxRecDepth 100000
set_option linter.unusedVariables false
set_option linter.unusedSimpArgs false

/-- The writer in block b: what was written, the room. -/
def PkAt (w : World) (b : Nat) (L : List UInt8) (room : Nat) : Prop := ∃ v, w.heap[b]? = some (.cells #[v, .int .i64 (room : Int), .int .i64 0] 149 (0, 0)) ∧ OwnB w (b + 1) v L
theorem PkAt.lt {w : World} {b : Nat} {L : List UInt8} {room : Nat} (h : PkAt w b L room) : b < w.heap.size := by
  obtain ⟨v, h, _⟩ := h
  exact (Array.getElem?_eq_some_iff.1 h).1
theorem PkAt.keep {w w' : World} {b : Nat} {L : List UInt8} {room : Nat} (h : PkAt w b L room) (hb : Below w.heap.size w w') : PkAt w' b L room := by
  have hl := h.lt
  obtain ⟨v, h1, h2⟩ := h
  exact ⟨v, (hb.block b hl).trans h1, h2.keep hb⟩

/-- A write leaves each old block as it was, but the writer's own and the bytes'. -/
def Apart (w w' : World) (b room : Nat) : Prop := ∀ X, X < w.heap.size → X ≠ b → (∀ v, w.heap[b]? = some (.cells #[v, .int .i64 (room : Int), .int .i64 0] 149 (0, 0)) → v.ownBlock ≠ some X) → w'.heap[X]? = w.heap[X]?
theorem PkAt.apart {w w5 : World} {b : Nat} {L : List UInt8} {room X : Nat} (h : PkAt w b L room) (hb : Below w.heap.size w w5) (hX : w.heap.size ≤ X) : ∀ v, w5.heap[b]? = some (.cells #[v, .int .i64 (room : Int), .int .i64 0] 149 (0, 0)) → v.ownBlock ≠ some X := by
  intro v hv e
  have hl := h.lt
  obtain ⟨v0, h1, h2⟩ := h
  have h3 := (hb.block b hl).symm.trans hv
  rw [h1] at h3
  simp at h3
  subst h3
  have := (World.ownsRow.lt h2 X e).2
  omega
theorem Apart.pre {w w1 w' : World} {b room : Nat} (hb : Below w.heap.size w w1) (hl : b < w.heap.size) (h : Apart w1 w' b room) : Apart w w' b room := by
  intro X hX hne hv
  exact (h X (Nat.lt_of_lt_of_le hX hb.size) hne (fun v hv2 => hv v ((hb.block b hl).symm.trans hv2))).trans (hb.block X hX)

theorem pk_new (lim : Nat) (h0 : 0 < lim) (w : World) : Calls Try.prog 69 #[.int .i64 (lim : Int)] w fun e w' => e = .returned (.pointer (some ⟨w.heap.size, 0, none⟩)) ∧ PkAt w' w.heap.size [] lim ∧ Below w.heap.size w w' := by
  have h1 : (0 : Int) < (lim : Int) := by omega
  clear h0
  go_enter Try.func69, Try.ntmps69
  go_wp2_with fail
  go_ret
  exact ⟨rfl, ⟨_, heap_alloc_new w _, World.ownsRow_nil _ _ _ _⟩, (Below.refl _ _).alloc (Nat.le_refl _) _⟩

theorem pk_add (b : Nat) (L X : List UInt8) (room : Nat) (hX0 : X ≠ []) (hlim : L.length + room ≤ 1099511627776) (hx : X.length ≤ room) (base : Nat) (xv : Value) (w : World) (hxv : OwnB w base xv X) (h : PkAt w b L room) :
    Calls Try.prog 105 #[.pointer (some ⟨b, 0, none⟩), xv] w fun e w' => e = .returned (.tuple #[]) ∧ PkAt w' b (L ++ X) (room - X.length) ∧ Below b w w' ∧ Apart w w' b room := by
  obtain ⟨i0, hi0, hz0, hz1, hz2⟩ := info_parts info_byte
  have Hi0 := Lib.hid hi0
  have Hz0 := Lib.hid hz0
  have Hz1 := Lib.hid hz1
  have Hz2 := Lib.hid hz2
  clear hi0 hz0 hz1 hz2
  have HLB := Lib.hid h.lt
  obtain ⟨g, c, rfl, hg1, hg2, hg3⟩ := hxv.form hX0
  have HG3 := Lib.hid hg3
  obtain ⟨v, h1, h2⟩ := h
  obtain ⟨VA, VC, rfl⟩ := own_shape h2
  have c0 := cell_of_row w b 0 _ _ _ h1
  have c1 := cell_of_row w b 1 _ _ _ h1
  have f0 := frozen_of_row w b 0 _ _ h1
  have f1 := frozen_of_row w b 1 _ _ h1
  simp at c0 c1
  have H1 := Lib.hid h1
  have H2 := Lib.hid h2
  have hown := h2
  unfold OwnB at hown
  have hz : b + 1 ≤ w.heap.size := HLB.out
  have q1 : IntKind.i64.wrap ((room : Int) - (X.length : Int)) = (room : Int) - (X.length : Int) := by rw [IntKind.wrap_i64]; omega
  have q2 : (X.length : Int) ≤ (room : Int) := by omega
  have HR2 : Hid (∀ w2, w.grownBy w2 (Value.slice VA L.length VC).ownBlock → w2.heap[b]? = some (.cells #[.slice VA L.length VC, .int .i64 (room : Int), .int .i64 0] 149 (0, 0))) := Lib.hid (fun w2 hg => (hg.block b hz (fun e => by have := (World.ownsRow.lt H2.out b e.symm).1; omega)).trans H1.out)
  clear h1 h2 hxv hg3 hX0
  go_enter Try.func105, Try.ntmps105
  go_wp2_with (at_builtin; go_must (refine wpList_append_own _ rfl (.tmp 17) (.tmp 18) 84 rfl (b + 1) 5 i0 _ 1 1 Try.underlying84 Hi0.out Hz0.out Hz1.out Hz2.out (by rfl) (by decide) _ _ _ (by rfl) hown ⟨g, 0, none⟩ X.length c (Lib.byteCells X) (by rfl) (by rw [Lib.byteCells_length, Nat.mul_one]) HG3.out (byteCells_one X) (by unfold maxLen; omega) (by omega) hz ?_); go_must (intro v2 w2 hown2 hgrow _); obtain ⟨VA2, VC2, rfl⟩ := own_shape hown2; have R2 := Lib.hid (HR2.out w2 hgrow); have HG2 := Lib.hid hgrow; have HO2 := Lib.hid hown2; clear hown2 hgrow hown c0 c1 f0 f1; have c0 := cell_of_row w2 b 0 _ _ _ R2.out; have c1 := cell_of_row w2 b 1 _ _ _ R2.out; have f0 := frozen_of_row w2 b 0 _ _ R2.out; have f1 := frozen_of_row w2 b 1 _ _ R2.out; simp at c0 c1)
  refine bodyPost_end (results_none rfl _ _ _) rfl ?_
  obtain ⟨hs1, hs2⟩ : ((w2.setCell ⟨b, 0, none⟩ (.slice VA2 (L.length + X.length) VC2)).setCell ⟨b, 1, none⟩ (.int .i64 ((room : Int) - (X.length : Int)))).heap[b]? = some (.cells #[.slice VA2 (L.length + X.length) VC2, .int .i64 ((room : Int) - (X.length : Int)), .int .i64 0] 149 (0, 0)) ∧ w2.grownBy ((w2.setCell ⟨b, 0, none⟩ (.slice VA2 (L.length + X.length) VC2)).setCell ⟨b, 1, none⟩ (.int .i64 ((room : Int) - (X.length : Int)))) (some b) :=
    ⟨(heap_setCell_same _ b 1 _ _ _ (heap_setCell_same w2 b 0 _ _ _ R2.out)).trans (by rfl), only_setCell (only_setCell (only_of_below (Below.refl _ _) _) (p := ⟨b, 0, none⟩) (.inl rfl) _) (p := ⟨b, 1, none⟩) (.inl rfl) _⟩
  have ho : OwnB w2 (b + 1) (.slice VA2 (L.length + X.length) VC2) (L ++ X) := by
    unfold OwnB
    rw [List.length_append, Lib.byteCells_append]
    exact HO2.out
  have hb2 : Below b w w2 := below_own (by omega) HG2.out (fun k hk => by have := (World.ownsRow.lt H2.out k hk).1; omega)
  have hb3 := below_own (by have := hb2.size; omega) hs2 (B := b) (fun k hk => by cases hk; exact Nat.le_refl _)
  refine ⟨rfl, ⟨_, by rw [show ((room - X.length : Nat) : Int) = (room : Int) - (X.length : Int) by omega]; exact hs1, own_below ho (by omega) hs2⟩, hb2.trans hb3, fun X hX hne hv => ?_⟩
  have hx2 := HG2.out.block X hX (fun e => hv _ H1.out e.symm)
  exact (hs2.block X (by have := HG2.out.size; omega) (fun e => hne (Option.some.inj e))).trans hx2

theorem pk_byte (b : Nat) (L : List UInt8) (room n : Nat) (hn : n < 256) (hlim : L.length + room ≤ 1099511627776) (hx : 1 ≤ room) (w : World) (h : PkAt w b L room) :
    Calls Try.prog 71 #[.pointer (some ⟨b, 0, none⟩), .int .i64 (n : Int)] w fun e w' => e = .returned (.tuple #[]) ∧ PkAt w' b (L ++ beL 1 n) (room - 1) ∧ Below b w w' ∧ Apart w w' b room := by
  have HL := Lib.hid h.lt
  have HA := fun (w' : World) (xv : Value) (base : Nat) (hv : OwnB w' base xv (beL 1 n)) (hb : Below w.heap.size w w') => Lib.hid (pk_add b L (beL 1 n) room (by unfold beL; simp) hlim (by simpa [beL] using hx) base xv w' hv (h.keep hb))
  obtain ⟨v, h1, h2⟩ := h
  have c2 := cell_of_row w b 2 _ _ _ h1
  simp at c2
  have n0 : 0 ≤ (n : Int) := by omega
  have n1 : (n : Int) ≤ 255 := by omega
  have q : IntKind.u8.wrap (n : Int) = (n : Int) := by rw [IntKind.wrap_u8]; omega
  have HN := Lib.hid hn
  clear h1 h2 hlim hx hn
  go_enter Try.func71, Try.ntmps71
  go_wp2_with fail
  have hbl : Below w.heap.size w (w.alloc (.cells #[.int .u8 (n : Int)] 5)) := (Below.refl _ _).alloc (Nat.le_refl _) _
  have hob : OwnB (w.alloc (.cells #[.int .u8 (n : Int)] 5)) w.heap.size (.slice (some ⟨w.heap.size, 0, none⟩) 1 1) (beL 1 n) := by
    have := own_block w #[Value.int .u8 (n : Int)] 5 1 1 w.heap.size (Nat.le_refl _) rfl (by omega) (by decide)
    have e1 : Lib.byteCells (beL 1 n) = [Value.int .u8 (n : Int)] := by
      rw [← byte_of n HN.out]; rfl
    unfold OwnB
    rw [e1]
    exact this
  refine (HA _ _ _ hob hbl).out.mono ?_
  rintro e w2 ⟨rfl, hw, hb2, hap⟩
  go_wp2_with fail
  go_end0
  exact ⟨rfl, hw, (hbl.mono (Nat.le_of_lt HL.out)).trans hb2, Apart.pre hbl HL.out hap⟩

theorem pk_text (b : Nat) (L : List UInt8) (room : Nat) (s : ByteArray) (hs : s.size ≤ 65535) (hlim : L.length + room ≤ 1099511627776) (hx : 2 + s.size ≤ room) (w : World) (h : PkAt w b L room) :
    Calls Try.prog 70 #[.pointer (some ⟨b, 0, none⟩), .string s] w fun e w' => e = .returned (.tuple #[]) ∧ PkAt w' b (L ++ (beL 2 s.size ++ s.data.toList)) (room - (2 + s.size)) ∧ Below b w w' := by
  obtain ⟨i0, hi0, hz0, hz1, hz2⟩ := info_parts info_byte
  have Hi0 := Lib.hid hi0
  have Hz0 := Lib.hid hz0
  have Hz1 := Lib.hid hz1
  have Hz2 := Lib.hid hz2
  clear hi0 hz0 hz1 hz2
  have hsl : s.data.toList.length = s.size := Array.length_toList
  have HL := Lib.hid h.lt
  have hll : (beL 2 s.size ++ s.data.toList).length = 2 + s.size := by rw [List.length_append, hsl]; rfl
  have HA := fun (w' : World) (xv : Value) (base : Nat) (hv : OwnB w' base xv (beL 2 s.size ++ s.data.toList)) (hb : Below w.heap.size w w') => Lib.hid (pk_add b L (beL 2 s.size ++ s.data.toList) room (by unfold beL; simp) hlim (by rw [hll]; exact hx) base xv w' hv (h.keep hb))
  rw [hll] at HA
  obtain ⟨v, h1, h2⟩ := h
  have c2 := cell_of_row w b 2 _ _ _ h1
  simp at c2
  have h6 : (s.size : Int) ≤ 65535 := by omega
  have q1 : IntKind.u8.wrap ((s.size : Int) / 256) = (s.size : Int) / 256 := by rw [IntKind.wrap_u8]; omega
  have q2 : IntKind.u8.wrap (s.size : Int) = (s.size : Int) % 256 := by rw [IntKind.wrap_u8]
  have HSL := Lib.hid hsl
  have HHS := Lib.hid hs
  clear h1 h2 hlim hx hsl hll hs
  have hbl : Below w.heap.size w (w.alloc (.cells #[.int .u8 ((s.size : Int) / 256), .int .u8 ((s.size : Int) % 256)] 5)) := (Below.refl _ _).alloc (Nat.le_refl _) _
  have hz1 : w.heap.size ≤ (w.alloc (.cells #[.int .u8 ((s.size : Int) / 256), .int .u8 ((s.size : Int) % 256)] 5)).heap.size := hbl.size
  have hv : (w.alloc (.cells #[.int .u8 ((s.size : Int) / 256), .int .u8 ((s.size : Int) % 256)] 5)).ownsRow w.heap.size 5 1 (.slice (some ⟨w.heap.size, 0, none⟩) 2 2) 2 (Lib.byteCells (beL 2 s.size)) := by
    have := own_block w #[.int .u8 ((s.size : Int) / 256), .int .u8 ((s.size : Int) % 256)] 5 2 2 w.heap.size (Nat.le_refl _) rfl (by omega) (by decide)
    have t1 : ((UInt8.ofNat (s.size / 256)).toNat : Int) = (s.size : Int) / 256 := by rw [byte_of _ (by have := HHS.out; omega)]; omega
    have t2 : ((UInt8.ofNat (s.size % 256)).toNat : Int) = (s.size : Int) % 256 := by rw [byte_of _ (by omega)]; omega
    have e1 : Lib.byteCells (beL 2 s.size) = [Value.int .u8 ((s.size : Int) / 256), Value.int .u8 ((s.size : Int) % 256)] := by
      rw [← t1, ← t2]; rfl
    rw [e1]
    exact this
  have HBB := Lib.hid hbl
  clear hbl
  go_enter Try.func70, Try.ntmps70
  go_wp2_with (at_builtin; go_must (refine Lib.wpList_append_own_string _ rfl (.tmp 26) (.tmp 27) 84 9 rfl w.heap.size 5 i0 Try.underlying84 Try.underlying9 Hi0.out Hz0.out Hz1.out Hz2.out _ _ _ (by rfl) hv s (by rfl) (by unfold maxLen; omega) (by omega) hz1 ?_); go_must (intro v2 w2 hown2 hgrow _))
  have hb2 : Below w.heap.size w w2 := HBB.out.grown hgrow hz1 (fun kk hk => by have := (World.ownsRow.lt hv kk hk).1; omega)
  have ho2 : OwnB w2 w.heap.size v2 (beL 2 s.size ++ s.data.toList) := by
    unfold OwnB
    rw [List.length_append, HSL.out, Lib.byteCells_append]
    exact hown2
  clear hown2 hgrow hv
  refine (HA w2 v2 w.heap.size ho2 hb2).out.mono ?_
  rintro e w3 ⟨rfl, hw, hb3, _⟩
  go_wp2_with fail
  go_end0
  exact ⟨rfl, hw, (hb2.mono (Nat.le_of_lt HL.out)).trans hb3⟩

theorem pk_done (b : Nat) (L : List UInt8) (room : Nat) (w : World) (h : PkAt w b L room) :
    Calls Try.prog 72 #[.pointer (some ⟨b, 0, none⟩)] w fun e w' => e = .returned (.tuple #[.string (bs L), .int .i64 0]) ∧ w = w' := by
  obtain ⟨v, h1, h2⟩ := h
  obtain ⟨VA, VC, rfl⟩ := own_shape h2
  have c0 := cell_of_row w b 0 _ _ _ h1
  have c2 := cell_of_row w b 2 _ _ _ h1
  simp at c0 c2
  have hcv := str_of_own (P := Try.prog) 84 9 5 Try.underlying84 Try.underlying5 Try.underlying9 h2
  clear h1 h2
  go_enter Try.func72, Try.ntmps72
  go_wp2_with fail
  go_ret2
  exact ⟨rfl, rfl⟩
end Go.Proofs.Ytljnadbfadgglaa
