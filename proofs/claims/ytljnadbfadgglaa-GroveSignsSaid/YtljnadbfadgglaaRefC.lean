/- witanref03.Sum: the sixty-four rounds of a block: what a round does. -/
import Derived.Test.YtljnadbfadgglaaRef
import Derived.Test.YtljnadbfadgglaaBlk3
import Derived.Test.YtljnadbfadgglaaConst
import Derived.Test.YtljnadbfadgglaaWords
import Derived.Deep.LoopGhost
namespace Go.Proofs.Ytljnadbfadgglaa
open Go.RowKit
set_option maxRecDepth 100000
theorem u_not (a : BitVec 32) : bits .xor .u32 IntKind.u32.max (u a) = u (~~~a) := by
  show IntKind.u32.wrap ((BitVec.ofInt 32 IntKind.u32.max ^^^ BitVec.ofInt 32 (u a)).toNat : Int) = _
  rw [ofInt_u, show BitVec.ofInt 32 IntKind.u32.max = BitVec.allOnes 32 by decide, BitVec.allOnes_xor, wrap_u]
attribute [local go_sem] u_not u_wrap u_xor u_and u_or u_add u_shr3 u_shr10

/-- The eight words of a state as cells. -/
def st8 (s : Sha.St) : Array Value := #[.int .u32 (u s.a), .int .u32 (u s.b), .int .u32 (u s.c), .int .u32 (u s.d), .int .u32 (u s.e), .int .u32 (u s.f), .int .u32 (u s.g), .int .u32 (u s.h)]
theorem st8_at (s : Sha.St) (j : Nat) (h : j < 8) : (st8 s)[j]? = some (.int .u32 (u (at_ s j))) := by
  have : j = 0 ∨ j = 1 ∨ j = 2 ∨ j = 3 ∨ j = 4 ∨ j = 5 ∨ j = 6 ∨ j = 7 := by omega
  rcases this with rfl | rfl | rfl | rfl | rfl | rfl | rfl | rfl <;> rfl
theorem st8_size (s : Sha.St) : (st8 s).size = 8 := rfl
theorem st8_set (s : Sha.St) (j : Nat) (h : j < 8) (x : BitVec 32) : (st8 s).setIfInBounds j (.int .u32 (u x)) = st8 (St_at fun i => if i = j then x else at_ s i) := by
  apply Array.ext_getElem?
  intro i
  rw [Array.getElem?_setIfInBounds, st8_size]
  by_cases e : j = i
  · subst e
    rw [if_pos rfl, if_pos h, st8_at _ _ h, at_St _ _ h, if_pos rfl]
  · rw [if_neg e]
    by_cases hi : i < 8
    · rw [st8_at _ _ hi, st8_at _ _ hi, at_St _ _ hi, if_neg (fun e' => e e'.symm)]
    · rw [Array.getElem?_eq_none (by rw [st8_size]; omega), Array.getElem?_eq_none (by rw [st8_size]; omega)]
/-- Block b holds a state's eight words; of what w had nothing else has turned. -/
def Row8 (w : World) (b : Nat) (s : Sha.St) (w' : World) : Prop := w.grownBy w' (some b) ∧ w'.heap[b]? = some (.cells (st8 s) 128 (0, 0))
section
variable {w wr : World} {b : Nat} {st : Sha.St}
theorem Row8.cell (h : Row8 w b st wr) (j : Nat) (hj : j < 8) : wr.cell? ⟨b, j, none⟩ = some (.int .u32 (u (at_ st j))) := by
  rw [cell_of_row wr b j _ _ (0, 0) h.2, st8_at st j hj]
theorem Row8.frozen (h : Row8 w b st wr) (j : Nat) : wr.frozen? ⟨b, j, none⟩ = false := frozen_of_row wr b j _ _ h.2
theorem Row8.drew (h : Row8 w b st wr) : Row8 w b st wr.drew := ⟨only_drew h.1, h.2⟩
theorem Row8.drewN (h : Row8 w b st wr) (n : Nat) : Row8 w b st (wr.drewN n) := ⟨only_drewN h.1 n, h.2⟩
theorem Row8.set (h : Row8 w b st wr) (j : Nat) (hj : j < 8) (x : BitVec 32) : Row8 w b (St_at fun i => if i = j then x else at_ st i) (wr.setCell ⟨b, j, none⟩ (.int .u32 (u x))) :=
  ⟨only_setCell h.1 (.inl rfl) _, by rw [heap_setCell_same wr b j _ _ _ h.2, st8_set st j hj]⟩
theorem Row8.congr {st' : Sha.St} (h : Row8 w b st wr) (e : ∀ j, j < 8 → at_ st' j = at_ st j) : Row8 w b st' wr := by
  have : st' = st := St_ext e
  rw [this]; exact h
theorem Row8.put (h : Row8 w b st wr) (s : Sha.St) : Row8 w b s (wr.setRow b (st8 s)) :=
  ⟨⟨h.1.os, h.1.tape, h.1.output, by simpa using h.1.size, fun k hk hne => (setRow_other wr b k _ (fun e => hne (by rw [e]))).trans (h.1.block k hk hne)⟩, setRow_heap _ _ _ _ _ _ h.2⟩
theorem Row8.far (h : Row8 w b st wr) (k i : Nat) (hk : k < w.heap.size) (hne : k ≠ b) : wr.cell? ⟨k, i, none⟩ = w.cell? ⟨k, i, none⟩ :=
  World.cell?_of_block (h.1.block k hk (fun e => hne (by injection e)))
end

noncomputable def bodyC : Code := (loopsOf (Try.f54.body.getD .skip)).getD 1 .skip

/-- What the rounds read, in the world in which they begin. -/
structure Reads8 (w : World) (kB gW xB : Nat) (l : List UInt8) : Prop where
  k : ∀ t, t < 64 → w.cell? ⟨kB, t, none⟩ = some (.int .u32 (u (Sha.K.getD t 0)))
  wd : ∀ t, t < 64 → w.cell? ⟨gW, t, none⟩ = some (.int .u32 (u (Sha.W l t)))
  kn : kB ≠ xB
  gn : gW ≠ xB
  kl : kB < w.heap.size
  gl : gW < w.heap.size

structure InvC (w : World) (hB kB gW cW xB : Nat) (va vi : Value) (l : List UInt8) (S0 : Sha.St) (t : Nat) (a : Act) (w' : World) : Prop where
  size : a.tmps.size = 164
  defs : a.defers = []
  s3 : G a 3 = .pointer (some ⟨hB, 0, none⟩)
  s4 : G a 4 = .slice (some ⟨kB, 0, none⟩) 64 64
  s5 : G a 5 = va
  s6 : G a 6 = vi
  s7 : G a 7 = .slice (some ⟨gW, 0, none⟩) 64 cW
  s8 : G a 8 = .pointer (some ⟨xB, 0, none⟩)
  s9 : G a 9 = .int .i64 (t : Int)
  row : Row8 w xB (Sha.comp (Sha.W l) S0 t) w'

set_option maxRecDepth 100000 in
theorem invC_frame {w : World} {hB kB gW cW xB t : Nat} {va vi : Value} {l : List UInt8} {S0 : Sha.St} {a : Act} {w' : World} (h : InvC w hB kB gW cW xB va vi l S0 t a w') : ∃ v : Nat → Value, a = ⟨#[v 0, v 1, v 2, .pointer (some ⟨hB, 0, none⟩), .slice (some ⟨kB, 0, none⟩) 64 64, va, vi, .slice (some ⟨gW, 0, none⟩) 64 cW, .pointer (some ⟨xB, 0, none⟩), .int .i64 (t : Int), v 10, v 11, v 12, v 13, v 14, v 15, v 16, v 17, v 18, v 19, v 20, v 21, v 22, v 23, v 24, v 25, v 26, v 27, v 28, v 29, v 30, v 31, v 32, v 33, v 34, v 35, v 36, v 37, v 38, v 39, v 40, v 41, v 42, v 43, v 44, v 45, v 46, v 47, v 48, v 49, v 50, v 51, v 52, v 53, v 54, v 55, v 56, v 57, v 58, v 59, v 60, v 61, v 62, v 63, v 64, v 65, v 66, v 67, v 68, v 69, v 70, v 71, v 72, v 73, v 74, v 75, v 76, v 77, v 78, v 79, v 80, v 81, v 82, v 83, v 84, v 85, v 86, v 87, v 88, v 89, v 90, v 91, v 92, v 93, v 94, v 95, v 96, v 97, v 98, v 99, v 100, v 101, v 102, v 103, v 104, v 105, v 106, v 107, v 108, v 109, v 110, v 111, v 112, v 113, v 114, v 115, v 116, v 117, v 118, v 119, v 120, v 121, v 122, v 123, v 124, v 125, v 126, v 127, v 128, v 129, v 130, v 131, v 132, v 133, v 134, v 135, v 136, v 137, v 138, v 139, v 140, v 141, v 142, v 143, v 144, v 145, v 146, v 147, v 148, v 149, v 150, v 151, v 152, v 153, v 154, v 155, v 156, v 157, v 158, v 159, v 160, v 161, v 162, v 163], []⟩ := by
  refine ⟨G a, (frame_of 164 a h.size h.defs).trans ?_⟩
  show (⟨#[G a 0, G a 1, G a 2, G a 3, G a 4, G a 5, G a 6, G a 7, G a 8, G a 9, G a 10, G a 11, G a 12, G a 13, G a 14, G a 15, G a 16, G a 17, G a 18, G a 19, G a 20, G a 21, G a 22, G a 23, G a 24, G a 25, G a 26, G a 27, G a 28, G a 29, G a 30, G a 31, G a 32, G a 33, G a 34, G a 35, G a 36, G a 37, G a 38, G a 39, G a 40, G a 41, G a 42, G a 43, G a 44, G a 45, G a 46, G a 47, G a 48, G a 49, G a 50, G a 51, G a 52, G a 53, G a 54, G a 55, G a 56, G a 57, G a 58, G a 59, G a 60, G a 61, G a 62, G a 63, G a 64, G a 65, G a 66, G a 67, G a 68, G a 69, G a 70, G a 71, G a 72, G a 73, G a 74, G a 75, G a 76, G a 77, G a 78, G a 79, G a 80, G a 81, G a 82, G a 83, G a 84, G a 85, G a 86, G a 87, G a 88, G a 89, G a 90, G a 91, G a 92, G a 93, G a 94, G a 95, G a 96, G a 97, G a 98, G a 99, G a 100, G a 101, G a 102, G a 103, G a 104, G a 105, G a 106, G a 107, G a 108, G a 109, G a 110, G a 111, G a 112, G a 113, G a 114, G a 115, G a 116, G a 117, G a 118, G a 119, G a 120, G a 121, G a 122, G a 123, G a 124, G a 125, G a 126, G a 127, G a 128, G a 129, G a 130, G a 131, G a 132, G a 133, G a 134, G a 135, G a 136, G a 137, G a 138, G a 139, G a 140, G a 141, G a 142, G a 143, G a 144, G a 145, G a 146, G a 147, G a 148, G a 149, G a 150, G a 151, G a 152, G a 153, G a 154, G a 155, G a 156, G a 157, G a 158, G a 159, G a 160, G a 161, G a 162, G a 163], []⟩ : Act) = _
  rw [h.s3, h.s4, h.s5, h.s6, h.s7, h.s8, h.s9]

theorem rnd_cells (C : Sha.St) (k x : BitVec 32) :
    st8 (Sha.rnd C k x) = #[.int .u32 (u (C.h + (Sha.rotr C.e 6 ^^^ Sha.rotr C.e 11 ^^^ Sha.rotr C.e 25) + (C.e &&& C.f ^^^ ~~~C.e &&& C.g) + k + x + ((Sha.rotr C.a 2 ^^^ Sha.rotr C.a 13 ^^^ Sha.rotr C.a 22) + (C.a &&& C.b ^^^ C.a &&& C.c ^^^ C.b &&& C.c)))),
      .int .u32 (u C.a), .int .u32 (u C.b), .int .u32 (u C.c),
      .int .u32 (u (C.d + (C.h + (Sha.rotr C.e 6 ^^^ Sha.rotr C.e 11 ^^^ Sha.rotr C.e 25) + (C.e &&& C.f ^^^ ~~~C.e &&& C.g) + k + x))),
      .int .u32 (u C.e), .int .u32 (u C.f), .int .u32 (u C.g)] := rfl

set_option maxRecDepth 100000 in
set_option maxHeartbeats 1000000 in
theorem roundC {w : World} {hB kB gW cW xB t : Nat} {va vi : Value} {l : List UInt8} {S0 : Sha.St} {a : Act} {wr : World} (hI : InvC w hB kB gW cW xB va vi l S0 t a wr) (hR : Reads8 w kB gW xB l) (hlt : t < 64)
    (K : Act → World → Prop) (hfin : ∀ a w', InvC w hB kB gW cW xB va vi l S0 (t + 1) a w' → K a w') (Q : Exit → Act → World → Prop) : Code.wp Try.prog bodyC (Exit.then K Q) a wr := by
  obtain ⟨v, ha⟩ := invC_frame hI
  obtain ⟨C, hC⟩ : ∃ C, C = Sha.comp (Sha.W l) S0 t := ⟨_, rfl⟩
  have hrow := hI.row
  rw [← hC] at hrow
  have hk := (hrow.far kB t hR.kl hR.kn).trans (hR.k t hlt)
  have hw := (hrow.far gW t hR.gl hR.gn).trans (hR.wd t hlt)
  have hc0 : wr.cell? ⟨xB, 0, none⟩ = some (.int .u32 (u C.a)) := hrow.cell 0 (by decide)
  have hc1 : wr.cell? ⟨xB, 1, none⟩ = some (.int .u32 (u C.b)) := hrow.cell 1 (by decide)
  have hc2 : wr.cell? ⟨xB, 2, none⟩ = some (.int .u32 (u C.c)) := hrow.cell 2 (by decide)
  have hc3 : wr.cell? ⟨xB, 3, none⟩ = some (.int .u32 (u C.d)) := hrow.cell 3 (by decide)
  have hc4 : wr.cell? ⟨xB, 4, none⟩ = some (.int .u32 (u C.e)) := hrow.cell 4 (by decide)
  have hc5 : wr.cell? ⟨xB, 5, none⟩ = some (.int .u32 (u C.f)) := hrow.cell 5 (by decide)
  have hc6 : wr.cell? ⟨xB, 6, none⟩ = some (.int .u32 (u C.g)) := hrow.cell 6 (by decide)
  have hc7 : wr.cell? ⟨xB, 7, none⟩ = some (.int .u32 (u C.h)) := hrow.cell 7 (by decide)
  have Hr := Lib.hid hrow
  have Hf := Lib.hid hfin
  have HC := Lib.hid hC
  clear hI hfin hrow hC hR
  generalize hkk : Sha.K.getD t 0 = kk at hk
  have Hkk := Lib.hid hkk
  clear hkk
  have hsg : IntKind.u32.signed = false := rfl
  subst ha
  conv => arg 2; whnf
  go_wp2_with fail
  go_quiet (fail)
  go_wp2_with (go_at_call 94; refine (turn_q _ _ (by decide) _).mono ?_; rintro e w' ⟨rfl, rfl⟩)
  go_quiet (fail)
  go_wp2_with (first
    | (go_at_call 94; refine (turn_q _ _ (by decide) _).mono ?_; rintro e w' ⟨rfl, rfl⟩)
    | ((with_reducible refine wpList_store_rowTo rfl 128 (.tmp 8) (.tmp 123) rfl rfl xB ?cs ?hx ?hy 128 (st8 C) ?hg ?hi ?ho ?h1 ?_)
       case hx => rfl
       case hy => rfl
       case hg => exact Hr.out.2
       case hi => as_aux_lemma => kernel_rfl
       case ho => exact st8_size C
       case h1 => simp [Value.oneCell']))
  refine Hf.out _ _ ⟨rfl, rfl, rfl, rfl, rfl, rfl, rfl, rfl, ?_, ?_⟩
  · show Value.int .i64 _ = _
    go_num
  · show Row8 w xB (Sha.rnd (Sha.comp (Sha.W l) S0 t) (Sha.K.getD t 0) (Sha.W l t)) _
    rw [← HC.out, Hkk.out]
    have hp := fun n => (Hr.out.drewN n).put (Sha.rnd C kk (Sha.W l t))
    simp only [rnd_cells] at hp
    exact hp _
end Go.Proofs.Ytljnadbfadgglaa
