/- Joined texts: what layer 8 computes: papers and certificates, both texts. No condition. -/
import Derived.Test.YtljnadbfadgglaaS1
import Derived.Lib.AppendStr
import Derived.Deep.RegionHeld3
import Derived.Laws.StructEq
import Derived.Test.YtljnadbfadgglaaS2
import Derived.Deep.RegionLaw
import Derived.Deep.LoopGhost
import Derived.Deep.SlicePairs
import Derived.Deep.Fields
import Derived.ChangeArms
/- A paper's seats in memory; papers.right. No condition. -/
namespace Go.Proofs.Ytljnadbfadgglaa
open Go.RowKit
set_option maxRecDepth 100000
set_option linter.unusedVariables false
set_option linter.unusedSimpArgs false

abbrev St := Int × ByteArray
/-- The slice holds these pairs of a number and a text. -/
def Seats (w : World) (a : Option Addr) (n c : Nat) (l : List St) : Prop :=
  l.length = n ∧ n ≤ c ∧ c ≤ maxLen ∧ (a = none → n = 0 ∧ c = 0) ∧ ∀ ad, a = some ad → ∃ b off, (0 < n → ad = ⟨b, off, none⟩ ∧ b < w.heap.size) ∧
    ∀ i, i < n → w.cell? ⟨b, off + i * 2, none⟩ = some (.int .i64 (l.getD i (0, ByteArray.empty)).1) ∧ w.cell? ⟨b, off + i * 2 + 1, none⟩ = some (.string (l.getD i (0, ByteArray.empty)).2)
theorem Seats.keep {w w' : World} {a : Option Addr} {n c : Nat} {l : List St} (h : Seats w a n c l) (hb : Below w.heap.size w w') : Seats w' a n c l := by
  refine ⟨h.1, h.2.1, h.2.2.1, h.2.2.2.1, fun ad hh => ?_⟩
  obtain ⟨b, off, h1, h2⟩ := h.2.2.2.2 ad hh
  refine ⟨b, off, fun h0 => ⟨(h1 h0).1, Nat.lt_of_lt_of_le (h1 h0).2 hb.size⟩, fun i hi => ?_⟩
  have hl := (h1 (by omega)).2
  exact ⟨(hb.cell (p := ⟨b, off + i * 2, none⟩) hl).trans (h2 i hi).1, (hb.cell (p := ⟨b, off + i * 2 + 1, none⟩) hl).trans (h2 i hi).2⟩
theorem Seats.at {w : World} {a : Option Addr} {n c : Nat} {l : List St} (h : Seats w a n c l) (k : Nat) (hk : k < n) :
    ∃ b off, a = some ⟨b, off, none⟩ ∧ b < w.heap.size ∧ ∀ i, i < n → w.cell? ⟨b, off + i * 2, none⟩ = some (.int .i64 (l.getD i (0, ByteArray.empty)).1) ∧ w.cell? ⟨b, off + i * 2 + 1, none⟩ = some (.string (l.getD i (0, ByteArray.empty)).2) := by
  cases a with
  | none => have := h.2.2.2.1 rfl; omega
  | some ad =>
    obtain ⟨b, off, h1, h2⟩ := h.2.2.2.2 ad rfl
    obtain ⟨rfl, hb⟩ := h1 (by omega)
    exact ⟨b, off, rfl, hb, h2⟩

/-- Rising numbers below 16, roots of 32 bytes. -/
def upB : Int → List St → Bool
  | _, [] => true
  | last, s :: r => if s.1 ≤ last ∨ 16 ≤ s.1 ∨ s.2.size ≠ 32 then false else upB s.1 r
def rightB (e : Int) (l : List St) : Bool := upB (-1) l && (decide (0 ≤ e) && decide (e ≤ 65535) && decide (4 ≤ l.length) && decide (l.length ≤ 10))

theorem right_any (e : Int) (A : Option Addr) (n c : Nat) (l : List St) (w : World) (h : Seats w A n c l) :
    Calls Try.prog 55 #[.agg #[.int .i64 e, .slice A n c]] w fun x w' => x = .returned (.bool (rightB e l)) ∧ Below w.heap.size w w' := by
  have hl := h.1
  have hmax : maxLen = 9223372036854775807 := rfl
  have hn63 : n ≤ 9223372036854775807 := Nat.le_trans h.2.1 h.2.2.1
  have HS := Lib.hid h
  have HL := Lib.hid hl
  clear h hl
  go_enter Try.func55, Try.ntmps55
  go_wp2_with fail
  have hr0 := Lib.hid (heap_alloc_new w (.cells #[.int .i64 e, .slice A n c] 50))
  have hB0 := Lib.hid (show Below w.heap.size w (w.alloc (.cells #[.int .i64 e, .slice A n c] 50)) from (Below.refl _ _).alloc (Nat.le_refl _) _)
  have hz0 : w.heap.size < (w.alloc (.cells #[.int .i64 e, .slice A n c] 50)).heap.size := by simp
  generalize w.alloc (.cells #[.int .i64 e, .slice A n c] 50) = w0 at hr0 hB0 hz0 ⊢
  go_loopw [3, 10, 5] (fun la j _ wr => ∃ (k : Nat) (last : Int), k ≤ n ∧ j = .int .i64 k ∧ la = .int .i64 last ∧ Hid (upB (-1) l = upB last (l.drop k)) ∧ Below w0.heap.size w0 wr) (fun _ j _ _ => n - (intOf j).toNat)
  case atStart => exact ⟨0, -1, by omega, rfl, rfl, Lib.hid rfl, Below.refl _ _⟩
  case round =>
    obtain ⟨k, last, hk, rfl, rfl, hup, hbel⟩ := hrel
    have hz := hbel.size
    have HB := Lib.hid hbel
    clear hbel
    by_cases hkn : k < n
    · have n0 : 0 ≤ (k : Int) := by omega
      have n1 : (k : Int) < (n : Int) := by omega
      obtain ⟨b, off, rfl, hb, hcs⟩ := HS.out.at k hkn
      have hBw := hB0.out.trans (HB.out.mono (Nat.le_of_lt hz0))
      have ca := (hBw.cell (p := ⟨b, off + k * 2, none⟩) hb).trans (hcs k hkn).1
      have cb := (hBw.cell (p := ⟨b, off + k * 2 + 1, none⟩) hb).trans (hcs k hkn).2
      have hd : l.drop k = l.getD k (0, ByteArray.empty) :: l.drop (k + 1) := by
        have hkl : k < l.length := by have := HL.out; omega
        rw [List.drop_eq_getElem_cons hkl]
        simp [List.getD_eq_getElem?_getD, hkl]
      have HU : Hid (upB (-1) l = if (l.getD k (0, ByteArray.empty)).1 ≤ last ∨ 16 ≤ (l.getD k (0, ByteArray.empty)).1 ∨ (l.getD k (0, ByteArray.empty)).2.size ≠ 32 then false else upB (l.getD k (0, ByteArray.empty)).1 (l.drop (k + 1))) := Lib.hid (by rw [hup.out, hd]; rfl)
      generalize (l.getD k (0, ByteArray.empty)).1 = id at ca HU
      generalize (l.getD k (0, ByteArray.empty)).2 = rt at cb HU
      clear hcs hd hup
      by_cases h1 : id ≤ last
      · go_wp2_with fail
        go_ret
        exact ⟨by unfold rightB; rw [HU.out, if_pos (.inl h1)]; rfl, (hBw.alloc hBw.size _)⟩
      · by_cases h2 : 16 ≤ id
        · go_wp2_with fail
          go_ret
          exact ⟨by unfold rightB; rw [HU.out, if_pos (.inr (.inl h2))]; rfl, (hBw.alloc hBw.size _)⟩
        · by_cases h3 : rt.size = 32
          · have h3' : (rt.size : Int) = 32 := by omega
            have HU2 := Lib.hid (by rw [HU.out, if_neg (by omega)] : upB (-1) l = upB id (List.drop (k + 1) l))
            clear HU h3
            go_wp2_with fail
            go_roundw
            case rel => exact ⟨k + 1, id, by omega, by go_num, rfl, HU2, HB.out.alloc HB.out.size _⟩
            case measure => simp [intOf]; omega
          · have h3' : ¬ (rt.size : Int) = 32 := by omega
            go_wp2_with fail
            go_ret
            exact ⟨by unfold rightB; rw [HU.out, if_pos (.inr (.inr h3))]; rfl, (hBw.alloc hBw.size _)⟩
    · obtain rfl : k = n := by omega
      have hU : upB (-1) l = true := by rw [hup.out, List.drop_of_length_le (by have := HL.out; omega)]; rfl
      have hBw := hB0.out.trans (HB.out.mono (Nat.le_of_lt hz0))
      have hr1 := (HB.out.block _ hz0).trans hr0.out
      have c0 := cell_of_row wr w.heap.size 0 _ _ _ hr1
      have c1 := cell_of_row wr w.heap.size 1 _ _ _ hr1
      simp at c0 c1
      have HR : Hid (rightB e l = (decide (0 ≤ e) && decide (e ≤ 65535) && decide (4 ≤ (k : Int)) && decide ((k : Int) ≤ 10))) := Lib.hid (by
        unfold rightB
        rw [hU, HL.out, Bool.true_and, show decide (4 ≤ k) = decide (4 ≤ (k : Int)) from decide_eq_decide.2 (by omega), show decide (k ≤ 10) = decide ((k : Int) ≤ 10) from decide_eq_decide.2 (by omega)])
      clear hU hup hr1
      by_cases e1 : 0 ≤ e
      · by_cases e2 : e ≤ 65535
        · by_cases e3 : 4 ≤ (k : Int)
          · by_cases e4 : (k : Int) ≤ 10
            all_goals
              go_wp2_with fail
              go_ret
              exact ⟨by rw [HR.out]; simp [e1, e2, e3, e4], hBw⟩
          · go_wp2_with fail
            go_ret
            exact ⟨by rw [HR.out]; simp [e1, e2, e3]; intros; omega, hBw⟩
        · go_wp2_with fail
          go_ret
          exact ⟨by rw [HR.out]; simp [e1, e2]; intros; omega, hBw⟩
      · go_wp2_with fail
        go_ret
        exact ⟨by rw [HR.out]; simp [e1]; intros; omega, hBw⟩
end Go.Proofs.Ytljnadbfadgglaa

/- witanref08.Right. No condition. -/
namespace Go.Proofs.Ytljnadbfadgglaa
open Go.RowKit
set_option maxRecDepth 100000
set_option linter.unusedVariables false
set_option linter.unusedSimpArgs false

theorem drop_getD (l : List St) (k : Nat) (hkl : k < l.length) : l.drop k = l.getD k (0, ByteArray.empty) :: l.drop (k + 1) := by
  rw [List.drop_eq_getElem_cons hkl]
  simp [List.getD_eq_getElem?_getD, hkl]

set_option maxHeartbeats 2000000 in
theorem refright_any (e : Int) (A : Option Addr) (n c : Nat) (l : List St) (w : World) (h : Seats w A n c l) :
    Calls Try.prog 56 #[.agg #[.int .i64 e, .slice A n c]] w fun x w' => x = .returned (.bool (rightB e l)) ∧ Below w.heap.size w w' := by
  have hl := h.1
  have hmax : maxLen = 9223372036854775807 := rfl
  have hn63 : n ≤ 9223372036854775807 := Nat.le_trans h.2.1 h.2.2.1
  have HS := Lib.hid h
  have HL := Lib.hid hl
  clear h hl
  go_enter Try.func56, Try.ntmps56
  go_wp2_with fail
  have hr0 := Lib.hid (heap_alloc_new w (.cells #[.int .i64 e, .slice A n c] 50))
  have hB0 := Lib.hid (show Below w.heap.size w (w.alloc (.cells #[.int .i64 e, .slice A n c] 50)) from (Below.refl _ _).alloc (Nat.le_refl _) _)
  have hz0 : w.heap.size < (w.alloc (.cells #[.int .i64 e, .slice A n c] 50)).heap.size := by simp
  generalize w.alloc (.cells #[.int .i64 e, .slice A n c] 50) = w0 at hr0 hB0 hz0 ⊢
  go_loopw [3] (fun j wr => ∃ (k : Nat) (last : Int), k ≤ n ∧ j = .int .i64 k ∧ Hid (upB (-1) l = upB last (l.drop k)) ∧ -1 ≤ last ∧ Hid (k = 0 → last = -1) ∧ Hid (∀ i, k = i + 1 → (l.getD i (0, ByteArray.empty)).1 = last) ∧ Below w0.heap.size w0 wr) (fun j _ => n - (intOf j).toNat)
  case atStart => exact ⟨0, -1, by omega, rfl, Lib.hid rfl, by omega, Lib.hid (fun _ => rfl), Lib.hid (fun i h => by omega), Below.refl _ _⟩
  case round =>
    obtain ⟨k, last, hk, rfl, hup, hlast, hl0, hl1, hbel⟩ := hrel
    have hz := hbel.size
    have HB := Lib.hid hbel
    have hr1 := (hbel.block _ hz0).trans hr0.out
    have c1 := cell_of_row wr w.heap.size 1 _ _ _ hr1
    have c0 := cell_of_row wr w.heap.size 0 _ _ _ hr1
    simp at c0 c1
    have hwl : w.heap.size < wr.heap.size := by omega
    clear hbel hr1
    by_cases hkn : k < n
    · have n0 : 0 ≤ (k : Int) := by omega
      have n1 : (k : Int) < (n : Int) := by omega
      obtain ⟨b, off, rfl, hb, hcs⟩ := HS.out.at k hkn
      have hBw := hB0.out.trans (HB.out.mono (Nat.le_of_lt hz0))
      have ca := (hBw.cell (p := ⟨b, off + k * 2, none⟩) hb).trans (hcs k hkn).1
      have cb := (hBw.cell (p := ⟨b, off + k * 2 + 1, none⟩) hb).trans (hcs k hkn).2
      have HU : Hid (upB (-1) l = if (l.getD k (0, ByteArray.empty)).1 ≤ last ∨ 16 ≤ (l.getD k (0, ByteArray.empty)).1 ∨ (l.getD k (0, ByteArray.empty)).2.size ≠ 32 then false else upB (l.getD k (0, ByteArray.empty)).1 (l.drop (k + 1))) := Lib.hid (by rw [hup.out, drop_getD l k (by have := HL.out; omega)]; rfl)
      have HN : Hid (∀ i, k + 1 = i + 1 → (l.getD i (0, ByteArray.empty)).1 = (l.getD k (0, ByteArray.empty)).1) := Lib.hid (fun i hi => by rw [show i = k by omega])
      generalize (l.getD k (0, ByteArray.empty)).1 = id at ca HU HN
      generalize (l.getD k (0, ByteArray.empty)).2 = rt at cb HU
      have HBW := Lib.hid hBw
      go_wp2_with fail
      have hx := Lib.hid (heap_alloc_new wr (.cells #[.int .i64 id, .string rt] 60))
      have hxB : Below wr.heap.size wr (wr.alloc (.cells #[.int .i64 id, .string rt] 60)) := (Below.refl _ _).alloc (Nat.le_refl _) _
      generalize wr.alloc (.cells #[.int .i64 id, .string rt] 60) = wx at hx hxB ⊢
      have d0 := cell_of_row wx wr.heap.size 0 _ _ _ hx.out
      have d1 := cell_of_row wx wr.heap.size 1 _ _ _ hx.out
      simp at d0 d1
      have e1 := (hxB.cell (p := ⟨w.heap.size, 1, none⟩) hwl).trans c1
      have HX := Lib.hid hxB
      clear ca cb hBw hxB hup c0 c1
      have hBz := HBW.out.size
      by_cases h1 : id < 0
      · have a1 : decide (id < 0) = true := by simpa using h1
        go_quiet (fail)
        go_wp2_with fail
        go_ret
        exact ⟨by unfold rightB; rw [HU.out, if_pos (by omega)]; rfl, below_drewN (HBW.out.trans (HX.out.mono hBz)) _⟩
      have a1 : decide (id < 0) = false := by simpa using h1
      by_cases h2 : 16 ≤ id
      · have a2 : decide (16 ≤ id) = true := by simpa using h2
        go_quiet (fail)
        go_wp2_with fail
        go_ret
        exact ⟨by unfold rightB; rw [HU.out, if_pos (by omega)]; rfl, below_drewN (HBW.out.trans (HX.out.mono hBz)) _⟩
      have a2 : decide (16 ≤ id) = false := by simpa using h2
      by_cases h3 : rt.size = 32
      · have a3 : decide ((rt.size : Int) = 32) = true := by simp; omega
        cases k with
        | zero =>
          have hl := hl0.out rfl
          have hkk := Lib.hid (show upB (-1) l = upB id (l.drop (0 + 1)) by rw [HU.out, if_neg (by omega)])
          go_quiet (fail)
          go_wp2_with fail
          go_roundw
          case rel => exact ⟨0 + 1, id, by omega, by go_num, hkk, by omega, Lib.hid (by omega), HN, below_drewN (HB.out.trans (HX.out.mono HB.out.size)) _⟩
          case measure => simp [intOf]; omega
        | succ j =>
          have cp := (HBW.out.cell (p := ⟨b, off + j * 2, none⟩) hb).trans (hcs j (by omega)).1
          rw [hl1.out j rfl] at cp
          have cq := (HX.out.cell (p := ⟨b, off + j * 2, none⟩) (Nat.lt_of_lt_of_le hb hBz)).trans cp
          have w1 : IntKind.i64.wrap (((j + 1 : Nat) : Int) - 1) = (j : Int) := by rw [IntKind.wrap_i64]; go_num
          have a5 : decide ((0 : Int) < ((j + 1 : Nat) : Int)) = true := by simp
          have n3 : 0 ≤ (j : Int) := by omega
          have n4 : (j : Int) < (n : Int) := by omega
          clear cp
          by_cases h4 : id ≤ last
          · have a4 : decide (id ≤ last) = true := by simpa using h4
            go_quiet (fail)
            go_wp2_with fail
            go_ret
            exact ⟨by unfold rightB; rw [HU.out, if_pos (by omega)]; rfl, below_drewN (HBW.out.trans (HX.out.mono hBz)) _⟩
          · have a4 : decide (id ≤ last) = false := by simpa using h4
            have hkk := Lib.hid (show upB (-1) l = upB id (l.drop (j + 1 + 1)) by rw [HU.out, if_neg (by omega)])
            go_quiet (fail)
            go_wp2_with fail
            go_roundw
            case rel => exact ⟨j + 1 + 1, id, by omega, by go_num, hkk, by omega, Lib.hid (by omega), HN, below_drewN (HB.out.trans (HX.out.mono HB.out.size)) _⟩
            case measure => simp [intOf]; omega
      · have a3 : ((rt.size : Int) != 32) = true := by simp; omega
        have H3 := Lib.hid h3
        clear h3
        go_quiet (fail)
        go_wp2_with fail
        go_ret
        exact ⟨by unfold rightB; rw [HU.out, if_pos (.inr (.inr H3.out))]; rfl, below_drewN (HBW.out.trans (HX.out.mono hBz)) _⟩
    · obtain rfl : k = n := by omega
      have hU : upB (-1) l = true := by rw [hup.out, List.drop_of_length_le (by have := HL.out; omega)]; rfl
      have hBw := hB0.out.trans (HB.out.mono (Nat.le_of_lt hz0))
      have HR : Hid (rightB e l = (decide (0 ≤ e) && decide (e ≤ 65535) && decide (4 ≤ (k : Int)) && decide ((k : Int) ≤ 10))) := Lib.hid (by
        unfold rightB
        rw [hU, HL.out, Bool.true_and, show decide (4 ≤ k) = decide (4 ≤ (k : Int)) from decide_eq_decide.2 (by omega), show decide (k ≤ 10) = decide ((k : Int) ≤ 10) from decide_eq_decide.2 (by omega)])
      clear hU hup
      by_cases e1 : 0 ≤ e
      · by_cases e2 : e ≤ 65535
        · by_cases e3 : 4 ≤ (k : Int)
          · by_cases e4 : (k : Int) ≤ 10
            all_goals
              go_wp2_with fail
              go_ret
              exact ⟨by rw [HR.out]; simp [e1, e2, e3, e4], hBw⟩
          · go_wp2_with fail
            go_ret
            exact ⟨by rw [HR.out]; simp [e1, e2, e3]; intros; omega, hBw⟩
        · go_wp2_with fail
          go_ret
          exact ⟨by rw [HR.out]; simp [e1, e2]; intros; omega, hBw⟩
      · go_wp2_with fail
        go_ret
        exact ⟨by rw [HR.out]; simp [e1]; intros; omega, hBw⟩
end Go.Proofs.Ytljnadbfadgglaa

/- papers.Bytes. No condition. -/
namespace Go.Proofs.Ytljnadbfadgglaa
open Go.RowKit
set_option maxRecDepth 100000
set_option linter.unusedVariables false
set_option linter.unusedSimpArgs false

/-- A seat's bytes, a paper's bytes. -/
def seatL (s : St) : List UInt8 := UInt8.ofNat s.1.toNat :: s.2.data.toList
def paperTo (e : Int) (l : List St) (k : Nat) : List UInt8 := [80, UInt8.ofNat (e.toNat / 256), UInt8.ofNat (e.toNat % 256), UInt8.ofNat l.length] ++ ((l.take k).map seatL).flatten
def paperL (e : Int) (l : List St) : List UInt8 := paperTo e l l.length
def bytesS (e : Int) (l : List St) : ByteArray := if rightB e l then bs (paperL e l) else ⟨#[]⟩
def bytesE (e : Int) (l : List St) : Int := if rightB e l then 0 else 4

/-- app_lit with the new block's number under a letter. -/
theorem app_litH {ops : Array Oper} {rest : List Oper} {o : Oper} {a : Act} {Q : Exit → Act → World → Prop} (hgd : o.guard = none) (s x : Operand) (t e : TypeId)
    (ho : o.op = .call { callee := .builtin .append, args := #[s, x], argTypes := #[t, t] })
    {z : Value} {bytes : Nat} (hi : (Try.prog.info? e).map (fun i => (i.zero, i.size, i.bytes)) = some (some z, 1, bytes)) (ht : Try.prog.underlying t = some (.slice e)) (hz : z.cells.size = 1)
    (W0 w : World) (B base : Nat) (hB : B ≤ base) (hbase : base ≤ w.heap.size) (hbel : Below B W0 w)
    (v : Value) (n : Nat) (xs : List Value) (hs : a.eval s = v) (hown : w.ownsRow base e 1 v n xs)
    (H : Nat) (hH : w.heap.size = H) (cs : Array Value) (m c : Nat) (hx : a.eval x = .slice (some ⟨H, 0, none⟩) m c) (hm : cs.size = m) (h1 : ∀ u ∈ cs.toList, u.oneCell' = true)
    (hlen : (n + m) * bytes ≤ 140737488355328) (hlen' : n + m ≤ maxLen)
    (h : ∀ v' w', w'.ownsRow base e 1 v' (n + m) (xs ++ cs.toList) → Below B W0 w' → w.heap.size ≤ w'.heap.size → (w.alloc (.cells cs e)).grownBy w' v.ownBlock → wpList Try.prog ops Q rest (a.put o.dst v') w') :
    wpList Try.prog ops Q (o :: rest) a (w.alloc (.cells cs e)) := by
  subst hH
  exact app_lit hgd s x t e ho hi ht hz W0 w B base hB hbase hbel v n xs hs hown cs m c hx hm h1 hlen hlen' h

theorem upB_all : ∀ (l : List St) (last : Int), -1 ≤ last → upB last l = true → ∀ i, i < l.length → 0 ≤ (l.getD i (0, ByteArray.empty)).1 ∧ (l.getD i (0, ByteArray.empty)).1 ≤ 15 ∧ (l.getD i (0, ByteArray.empty)).2.size = 32
  | [], _, _, _, i, h => by simp at h
  | s :: r, last, hl, h, i, hi => by
    unfold upB at h
    by_cases hc : s.1 ≤ last ∨ 16 ≤ s.1 ∨ s.2.size ≠ 32
    · rw [if_pos hc] at h; cases h
    · rw [if_neg hc] at h
      have h1 : ¬ s.1 ≤ last := fun x => hc (.inl x)
      have h2 : ¬ 16 ≤ s.1 := fun x => hc (.inr (.inl x))
      have h3 : s.2.size = 32 := Decidable.byContradiction fun x => hc (.inr (.inr x))
      cases i with
      | zero => exact ⟨by show 0 ≤ s.1; omega, by show s.1 ≤ 15; omega, h3⟩
      | succ j => exact upB_all r s.1 (by omega) h j (by simpa using hi)
theorem right_facts {e : Int} {l : List St} (h : rightB e l = true) : 0 ≤ e ∧ e ≤ 65535 ∧ 4 ≤ l.length ∧ l.length ≤ 10 ∧ ∀ i, i < l.length → 0 ≤ (l.getD i (0, ByteArray.empty)).1 ∧ (l.getD i (0, ByteArray.empty)).1 ≤ 15 ∧ (l.getD i (0, ByteArray.empty)).2.size = 32 := by
  unfold rightB at h
  simp only [Bool.and_eq_true, decide_eq_true_eq] at h
  exact ⟨h.2.1.1.1, h.2.1.1.2, h.2.1.2, h.2.2, upB_all l (-1) (by omega) h.1⟩
theorem paperTo_succ (e : Int) (l : List St) (k : Nat) (h : k < l.length) : paperTo e l (k + 1) = paperTo e l k ++ (UInt8.ofNat (l.getD k (0, ByteArray.empty)).1.toNat :: (l.getD k (0, ByteArray.empty)).2.data.toList) := by
  unfold paperTo
  rw [List.take_succ_eq_append_getElem h, List.map_append, List.flatten_append, List.append_assoc]
  simp [List.getD_eq_getElem?_getD, h, seatL]
theorem paperTo_len (e : Int) (l : List St) (hs : ∀ i, i < l.length → (l.getD i (0, ByteArray.empty)).2.size = 32) : ∀ k, k ≤ l.length → (paperTo e l k).length = 4 + 33 * k
  | 0, _ => by simp [paperTo]
  | k + 1, hk => by
    rw [paperTo_succ e l k (by omega), List.length_append, paperTo_len e l hs k (by omega), List.length_cons, Array.length_toList]
    have := hs k (by omega)
    have e1 : (l.getD k (0, ByteArray.empty)).2.data.size = (l.getD k (0, ByteArray.empty)).2.size := rfl
    omega

theorem bytes_no (e : Int) (A : Option Addr) (n c : Nat) (l : List St) (w : World) (h : Seats w A n c l) (hr : rightB e l = false) :
    Calls Try.prog 29 #[.agg #[.int .i64 e, .slice A n c]] w fun x w' => x = .returned (.tuple #[.string ⟨#[]⟩, .int .i64 4]) ∧ Below w.heap.size w w' := by
  have HR := fun w' (hb : Below w.heap.size w w') => Lib.hid (right_any e A n c l w' (h.keep hb))
  rw [hr] at HR
  clear h hr
  go_enter Try.func29, Try.ntmps29
  go_wp2_with fail
  have hB : Below w.heap.size w (w.alloc (.cells #[.int .i64 e, .slice A n c] 50)) := (Below.refl _ _).alloc (Nat.le_refl _) _
  refine (HR _ hB).out.mono ?_
  rintro x w1 ⟨rfl, hb1⟩
  go_wp2_with fail
  go_ret2
  exact ⟨rfl, hB.trans (hb1.mono hB.size)⟩

set_option maxHeartbeats 1000000 in
theorem bytes_yes (e : Int) (A : Option Addr) (n c : Nat) (l : List St) (w : World) (h : Seats w A n c l) (hr : rightB e l = true) :
    Calls Try.prog 29 #[.agg #[.int .i64 e, .slice A n c]] w fun x w' => x = .returned (.tuple #[.string (bs (paperL e l)), .int .i64 0]) ∧ Below w.heap.size w w' := by
  obtain ⟨i0, hi0, hz0, hz1, hz2⟩ := info_parts info_byte
  have Hi0 := Lib.hid hi0
  have Hz0 := Lib.hid hz0
  have Hz1 := Lib.hid hz1
  have Hz2 := Lib.hid hz2
  clear hi0 hz0 hz1 hz2
  obtain ⟨f1, f2, f3, f4, f5⟩ := right_facts hr
  have HR := fun w' (hb : Below w.heap.size w w') => Lib.hid (right_any e A n c l w' (h.keep hb))
  rw [hr] at HR
  have HL := Lib.hid h.1
  have f3 : 4 ≤ n := by have := h.1; omega
  have f4 : n ≤ 10 := by have := h.1; omega
  have F5 := Lib.hid f5
  have HP := Lib.hid (fun k (hk : k < n) => paperTo_succ e l k (by have := h.1; omega))
  have HPL := Lib.hid (fun k (hk : k ≤ n) => paperTo_len e l (fun i hi => (f5 i hi).2.2) k (by have := h.1; omega))
  have HS := Lib.hid h
  obtain ⟨E, rfl⟩ := Int.eq_ofNat_of_zero_le f1
  have q1 : IntKind.u8.wrap ((E : Int) / 256) = ((E / 256 : Nat) : Int) := by rw [IntKind.wrap_u8]; omega
  have q2 : IntKind.u8.wrap (E : Int) = ((E % 256 : Nat) : Int) := by rw [IntKind.wrap_u8]; omega
  have q3 : IntKind.u8.wrap (n : Int) = (n : Int) := by rw [IntKind.wrap_u8]; omega
  have HE := Lib.hid (show E ≤ 65535 by omega)
  clear h hr f5
  go_enter Try.func29, Try.ntmps29
  go_wp2_with fail
  have hB : Below w.heap.size w (w.alloc (.cells #[.int .i64 (E : Int), .slice A n c] 50)) := (Below.refl _ _).alloc (Nat.le_refl _) _
  refine (HR _ hB).out.mono ?_
  rintro x w1 ⟨rfl, hb1⟩
  have hr1 := (hb1.block w.heap.size (by simp)).trans (heap_alloc_new w _)
  have c0 := cell_of_row w1 w.heap.size 0 _ _ _ hr1
  have c1 := cell_of_row w1 w.heap.size 1 _ _ _ hr1
  simp at c0 c1
  have hB1 := hB.trans (hb1.mono hB.size)
  have hlt1 : w.heap.size < w1.heap.size := (Array.getElem?_eq_some_iff.1 hr1).1
  clear hB hb1 hr1 HR
  go_wp2_with fail
  have hown0 : (w1.alloc (.cells #[Value.int .u8 80, Value.int .u8 ((E : Int) / 256), Value.int .u8 ((E : Int) % 256), Value.int .u8 (n : Int)] 5)).ownsRow w1.heap.size 5 1 (.slice (some ⟨w1.heap.size, 0, none⟩) 4 4) (4 + 33 * 0) (Lib.byteCells (paperTo (E : Int) l 0)) := by
    have := own_block w1 #[Value.int .u8 80, Value.int .u8 ((E : Int) / 256), Value.int .u8 ((E : Int) % 256), Value.int .u8 (n : Int)] 5 4 4 w1.heap.size (Nat.le_refl _) rfl (by omega) (by decide)
    have e1 : Lib.byteCells (paperTo (E : Int) l 0) = [Value.int .u8 80, Value.int .u8 ((E : Int) / 256), Value.int .u8 ((E : Int) % 256), Value.int .u8 (n : Int)] := by
      show [Value.int .u8 _, Value.int .u8 _, Value.int .u8 _, Value.int .u8 _] = _
      have h6 := HE.out
      have h7 := HL.out
      have t1 : ((UInt8.ofNat (E / 256)).toNat : Int) = (E : Int) / 256 := by rw [UInt8.toNat_ofNat']; omega
      have t2 : ((UInt8.ofNat (E % 256)).toNat : Int) = (E : Int) % 256 := by rw [UInt8.toNat_ofNat']; omega
      have t3 : ((UInt8.ofNat l.length).toNat : Int) = (n : Int) := by rw [UInt8.toNat_ofNat']; omega
      rw [← t1, ← t2, ← t3]
      rfl
    rw [e1]
    exact this
  have hB2 : Below w.heap.size w (w1.alloc (.cells #[Value.int .u8 80, Value.int .u8 ((E : Int) / 256), Value.int .u8 ((E : Int) % 256), Value.int .u8 (n : Int)] 5)) := hB1.alloc hB1.size _
  have hz2 : w1.heap.size ≤ (w1.alloc (.cells #[Value.int .u8 80, Value.int .u8 ((E : Int) / 256), Value.int .u8 ((E : Int) % 256), Value.int .u8 (n : Int)] 5)).heap.size := by simp
  generalize w1.alloc (.cells #[Value.int .u8 80, Value.int .u8 ((E : Int) / 256), Value.int .u8 ((E : Int) % 256), Value.int .u8 (n : Int)] 5) = w2 at hown0 hB2 hz2 ⊢
  have hbase : w.heap.size ≤ w1.heap.size := by omega
  have HO := Lib.hid hown0
  have HB2 := Lib.hid hB2
  clear hown0 hB2 c0 c1 hB1
  go_loopw [4, 25] (fun v i wr => ∃ k : Nat, k ≤ n ∧ i = .int .i64 k ∧ Hid (wr.ownsRow w1.heap.size 5 1 v (4 + 33 * k) (Lib.byteCells (paperTo (E : Int) l k))) ∧ w1.heap.size ≤ wr.heap.size ∧ Below w.heap.size w wr) (fun _ i _ => n - (intOf i).toNat)
  case atStart => exact ⟨0, by omega, rfl, HO, hz2, HB2.out⟩
  case round =>
    obtain ⟨k, hk, rfl, hownh, hz, hbelh⟩ := hrel
    by_cases hkn : k < n
    · have n0 : 0 ≤ (k : Int) := by omega
      have n1 : (k : Int) < (n : Int) := by omega
      obtain ⟨b, off, rfl, hb, hcs⟩ := HS.out.at k hkn
      have ca := (hbelh.cell (p := ⟨b, off + k * 2, none⟩) hb).trans (hcs k hkn).1
      have cb := (hbelh.cell (p := ⟨b, off + k * 2 + 1, none⟩) hb).trans (hcs k hkn).2
      have f6 := F5.out k (by have := HL.out; omega)
      have HK := HP.out k hkn
      generalize (l.getD k (0, ByteArray.empty)).1 = id at ca f6 HK
      generalize (l.getD k (0, ByteArray.empty)).2 = rt at cb f6 HK
      obtain ⟨g1, g2, g3⟩ := f6
      obtain ⟨I, rfl⟩ := Int.eq_ofNat_of_zero_le g1
      have HKK := Lib.hid HK
      have HG := Lib.hid g3
      have q4 : IntKind.u8.wrap (I : Int) = (I : Int) := by rw [IntKind.wrap_u8]; omega
      have G2 := Lib.hid g2
      clear hcs HK g3 q1 q2 q3
      have hown1 := hownh.out.alloc (.cells #[.int .i64 (I : Int), .string rt] 60)
      have hbel1 := hbelh.alloc hbelh.size (.cells #[.int .i64 (I : Int), .string rt] 60)
      have hz1 : w1.heap.size ≤ (wr.alloc (.cells #[.int .i64 (I : Int), .string rt] 60)).heap.size := by simp; omega
      have HCE : Hid (∀ w9 : World, ((wr.alloc (.cells #[.int .i64 (I : Int), .string rt] 60)).alloc (.cells #[.int .u8 (I : Int)] 5)).grownBy w9 (Value.ownBlock _) → w9.cell? ⟨wr.heap.size, 1, none⟩ = some (.string rt)) := Lib.hid (fun w9 hg => by
        refine (hg.cell_far ⟨wr.heap.size, 1, none⟩ (by simp; omega) (fun e => ?_)).trans ?_
        · have := (hownh.out.lt _ e.symm).2
          simp at this
        · rw [cell_of_row _ _ 1 _ _ _ ((heap_alloc_old _ _ (by simp)).trans (heap_alloc_new wr (.cells #[.int .i64 (I : Int), .string rt] 60)))]
          rfl)
      have HX := Lib.hid hbelh.size
      clear hownh hbelh
      go_wp2_with (first
        | (at_builtin; refine app_litH rfl (.tmp 29) (.tmp 33) 84 5 rfl info_byte Try.underlying84 rfl w (wr.alloc (.cells #[.int .i64 (I : Int), .string rt] 60)) w.heap.size w1.heap.size hbase hz1 hbel1 _ _ _ (by rfl) hown1 (wr.heap.size + 1) (by simp) _ 1 1 (by rfl) (by rfl) (by intro u hu; simp at hu; subst hu; rfl) (by omega) (by unfold maxLen; omega) ?_; intro v1 w9 hown2 hbel2 hsz2 hg2; have ce := HCE.out w9 hg2; have hz9 := Nat.le_trans hz1 hsz2; clear hsz2 hg2 hown1 hbel1 hz1)
        | (at_builtin; refine Lib.wpList_append_own_string _ rfl (.tmp 35) (.tmp 37) 84 9 rfl w1.heap.size 5 i0 Try.underlying84 Try.underlying9 Hi0.out Hz0.out Hz1.out Hz2.out _ _ _ (by rfl) hown2 rt (by rfl) (by have := HG.out; unfold maxLen; omega) (by have := HG.out; omega) hz9 ?_; intro v2 w8 hown3 hgrow _))
      have hbel3 : Below w.heap.size w w8 := hbel2.grown hgrow hbel2.size (fun kk hk => by have := (hown2.lt _ hk).1; omega)
      have hz8 : w1.heap.size ≤ w8.heap.size := by have := hgrow.size; omega
      have hown4 : Hid (w8.ownsRow w1.heap.size 5 1 v2 (4 + 33 * (k + 1)) (Lib.byteCells (paperTo (E : Int) l (k + 1)))) := Lib.hid (by
        have e1 : 4 + 33 * (k + 1) = 4 + 33 * k + 1 + rt.size := by have := HG.out; omega
        have t1 : ((UInt8.ofNat ((I : Int).toNat)).toNat : Int) = (I : Int) := by rw [UInt8.toNat_ofNat']; have := G2.out; omega
        rw [e1, HKK.out, Lib.byteCells_append]
        have e2 : Lib.byteCells (UInt8.ofNat ((I : Int).toNat) :: rt.data.toList) = [Value.int .u8 (I : Int)] ++ Lib.byteCells rt.data.toList := by
          show Value.int .u8 ((UInt8.ofNat ((I : Int).toNat)).toNat : Int) :: Lib.byteCells rt.data.toList = _
          rw [t1]; rfl
        rw [e2, ← List.append_assoc]
        exact hown3)
      clear hown2 hown3 hgrow hbel2 ce hz9
      go_wp2_with fail
      exact ⟨⟨k + 1, by omega, by go_num, hown4, hz8, hbel3⟩, by simp [intOf]; omega⟩
    · obtain rfl : k = n := by omega
      have hcv := str_of_own (P := Try.prog) 84 9 5 Try.underlying84 Try.underlying5 Try.underlying9 hownh.out
      have HPE : Hid (paperTo (E : Int) l k = paperL (E : Int) l) := Lib.hid (by unfold paperL; rw [HL.out])
      rw [HPE.out] at hcv
      clear hownh hkn q1 q2 q3
      go_wp2_with fail
      go_ret2
      exact ⟨rfl, hbelh⟩
end Go.Proofs.Ytljnadbfadgglaa

/- witanref01.Writer: numbers of one and two bytes, texts, all that was written. -/
namespace Go.Proofs.Ytljnadbfadgglaa
open Go.RowKit
set_option maxRecDepth 100000
set_option linter.unusedVariables false
set_option linter.unusedSimpArgs false

/-- A slice of bytes of the call's own. -/
def OwnB (w : World) (base : Nat) (v : Value) (L : List UInt8) : Prop := w.ownsRow base 5 1 v L.length (Lib.byteCells L)
theorem OwnB.keep {w w' : World} {base : Nat} {v : Value} {L : List UInt8} (h : OwnB w base v L) (hb : Below w.heap.size w w') : OwnB w' base v L :=
  World.ownsRow.kept h (row := none) (only_of_below hb none) (by cases hn : Value.ownBlock _ <;> simp)
theorem OwnB.form {w : World} {base : Nat} {v : Value} {L : List UInt8} (h : OwnB w base v L) (h0 : L ≠ []) : ∃ g c, v = .slice (some ⟨g, 0, none⟩) L.length c ∧ base ≤ g ∧ g < w.heap.size ∧ ∀ j u, (Lib.byteCells L)[j]? = some u → w.cell? ((⟨g, 0, none⟩ : Addr).add j) = some u := by
  rcases h.2 with ⟨_, h1⟩ | ⟨g, cap, cur, rfl, hb, hg, _⟩
  · exact absurd (List.eq_nil_of_length_eq_zero h1) h0
  · exact ⟨g, cap, rfl, hb, (Array.getElem?_eq_some_iff.1 hg).1, World.ownsRow.cells h rfl⟩

/-- The reference's writer in block b. -/
def WrAt (w : World) (b : Nat) (L : List UInt8) (lim : Nat) (e : Int) : Prop := ∃ v, w.heap[b]? = some (.cells #[v, .int .i64 (lim : Int), .int .i64 e] 95 (0, 0)) ∧ OwnB w (b + 1) v L
theorem WrAt.lt {w : World} {b : Nat} {L : List UInt8} {lim : Nat} {e : Int} (h : WrAt w b L lim e) : b < w.heap.size := by
  obtain ⟨v, h, _⟩ := h
  exact (Array.getElem?_eq_some_iff.1 h).1
theorem WrAt.keep {w w' : World} {b : Nat} {L : List UInt8} {lim : Nat} {e : Int} (h : WrAt w b L lim e) (hb : Below w.heap.size w w') : WrAt w' b L lim e := by
  have hl := h.lt
  obtain ⟨v, h1, h2⟩ := h
  exact ⟨v, (hb.block b hl).trans h1, h2.keep hb⟩

theorem wr_new (lim : Nat) (w : World) : Calls Try.prog 57 #[.int .i64 (lim : Int)] w fun e w' => e = .returned (.pointer (some ⟨w.heap.size, 0, none⟩)) ∧ WrAt w' w.heap.size [] lim 0 ∧ Below w.heap.size w w' := by
  have h0 : (0 : Int) ≤ (lim : Int) := by omega
  have hm : max (lim : Int) 0 = (lim : Int) := by omega
  go_enter Try.func57, Try.ntmps57
  go_wp2_with fail
  go_ret
  exact ⟨rfl, ⟨_, heap_alloc_new w _, World.ownsRow_nil _ _ _ _⟩, (Below.refl _ _).alloc (Nat.le_refl _) _⟩

theorem put_bad (b : Nat) (L : List UInt8) (lim : Nat) (er : Int) (x : Value) (r : Bool) (he : er ≠ 0) (w : World) (h : WrAt w b L lim er) :
    Calls Try.prog 95 #[.pointer (some ⟨b, 0, none⟩), x, .bool r] w fun e w' => e = .returned (.tuple #[]) ∧ w = w' := by
  obtain ⟨v, h1, h2⟩ := h
  have c2 := cell_of_row w b 2 _ _ _ h1
  simp at c2
  have he' : (er != 0) = true := by simpa using he
  clear h1 h2 he
  go_enter Try.func95, Try.ntmps95
  go_wp2_with fail
  refine bodyPost_ret (results_none rfl _ _ _) rfl ?_
  exact ⟨rfl, rfl⟩
theorem own_below {w w' : World} {base b : Nat} {v : Value} {L : List UInt8} (h : OwnB w base v L) (hb : b < base) (hg : w.grownBy w' (some b)) : OwnB w' base v L :=
  World.ownsRow.kept h hg (.inr (fun e => by have := (World.ownsRow.lt h b e).1; omega))
theorem below_own {w w' : World} {B : Nat} {row : Option Nat} (hB : B ≤ w.heap.size) (hg : w.grownBy w' row) (hr : ∀ k, row = some k → B ≤ k) : Below B w w' :=
  (Below.refl B w).grown hg hB hr
theorem put_field (b : Nat) (L : List UInt8) (lim : Nat) (x : Value) (w : World) (h : WrAt w b L lim 0) :
    Calls Try.prog 95 #[.pointer (some ⟨b, 0, none⟩), x, .bool false] w fun e w' => e = .returned (.tuple #[]) ∧ WrAt w' b L lim 4 ∧ Below b w w' := by
  have H := Lib.hid h
  obtain ⟨v, h1, h2⟩ := h
  have c2 := cell_of_row w b 2 _ _ _ h1
  have f2 := frozen_of_row w b 2 _ _ h1
  simp at c2
  have H1 := Lib.hid h1
  have H2 := Lib.hid h2
  clear h1 h2
  go_enter Try.func95, Try.ntmps95
  go_wp2_with fail
  refine bodyPost_ret (results_none rfl _ _ _) rfl ?_
  have hg : w.grownBy (w.setCell ⟨b, 2, none⟩ (.int .i64 4)) (some b) := only_setCell (only_of_below (Below.refl _ _) (some b)) (p := ⟨b, 2, none⟩) (.inl rfl) _
  exact ⟨rfl, ⟨v, heap_setCell_same w b 2 _ _ _ H1.out, own_below H2.out (by omega) hg⟩, below_own (Nat.le_of_lt H.out.lt) hg (fun k hk => by cases hk; exact Nat.le_refl _)⟩

theorem put_long (b : Nat) (L X : List UInt8) (lim : Nat) (hl : L.length ≤ lim) (hlim : lim ≤ 1099511627776) (hx : lim < L.length + X.length) (hX : X.length ≤ 1099511627776) (A : Option Addr) (c : Nat) (w : World) (h : WrAt w b L lim 0) :
    Calls Try.prog 95 #[.pointer (some ⟨b, 0, none⟩), .slice A X.length c, .bool true] w fun e w' => e = .returned (.tuple #[]) ∧ WrAt w' b L lim 3 ∧ Below b w w' := by
  have H := Lib.hid h
  obtain ⟨v, h1, h2⟩ := h
  obtain ⟨VA, VC, rfl⟩ := own_shape h2
  have c0 := cell_of_row w b 0 _ _ _ h1
  have c1 := cell_of_row w b 1 _ _ _ h1
  have c2 := cell_of_row w b 2 _ _ _ h1
  simp at c0 c1 c2
  have H1 := Lib.hid h1
  have H2 := Lib.hid h2
  have q1 : IntKind.i64.wrap ((lim : Int) - (L.length : Int)) = (lim : Int) - (L.length : Int) := by rw [IntKind.wrap_i64]; omega
  have q2 : (lim : Int) - (L.length : Int) < (X.length : Int) := by omega
  clear h1 h2
  go_enter Try.func95, Try.ntmps95
  go_wp2_with fail
  go_quiet (fail)
  have hb := below_drewN (Below.refl w.heap.size w) nq
  have hr := (hb.block b (Array.getElem?_eq_some_iff.1 H1.out).1).trans H1.out
  have f2 := frozen_of_row (w.drewN nq) b 2 _ _ hr
  have c2' := cell_of_row (w.drewN nq) b 2 _ _ _ hr
  simp at c2'
  have HR := Lib.hid hr
  have HB := Lib.hid hb
  clear hb hr c0 c1
  go_wp2_with fail
  refine bodyPost_ret (results_none rfl _ _ _) rfl ?_
  have hg : w.grownBy ((w.drewN nq).setCell ⟨b, 2, none⟩ (.int .i64 3)) (some b) := only_setCell (only_of_below HB.out (some b)) (p := ⟨b, 2, none⟩) (.inl rfl) _
  exact ⟨rfl, ⟨_, heap_setCell_same _ b 2 _ _ _ HR.out, own_below H2.out (by omega) hg⟩, below_own (Nat.le_of_lt H.out.lt) hg (fun k hk => by cases hk; exact Nat.le_refl _)⟩

theorem put_yes (b : Nat) (L X : List UInt8) (lim : Nat) (hX0 : X ≠ []) (hlim : lim ≤ 1099511627776) (hx : L.length + X.length ≤ lim) (base : Nat) (xv : Value) (w : World) (hxv : OwnB w base xv X) (h : WrAt w b L lim 0) :
    Calls Try.prog 95 #[.pointer (some ⟨b, 0, none⟩), xv, .bool true] w fun e w' => e = .returned (.tuple #[]) ∧ WrAt w' b (L ++ X) lim 0 ∧ Below b w w' := by
  obtain ⟨i0, hi0, hz0, hz1, hz2⟩ := info_parts info_byte
  have Hi0 := Lib.hid hi0
  have Hz0 := Lib.hid hz0
  have Hz1 := Lib.hid hz1
  have Hz2 := Lib.hid hz2
  clear hi0 hz0 hz1 hz2
  have HLB := Lib.hid h.lt
  obtain ⟨g, c, rfl, hg1, hg2, hg3⟩ := hxv.form hX0
  have HG3 := Lib.hid hg3
  obtain ⟨v, h1, h2⟩ := h
  obtain ⟨VA, VC, rfl⟩ := own_shape h2
  have c0 := cell_of_row w b 0 _ _ _ h1
  have c1 := cell_of_row w b 1 _ _ _ h1
  have c2 := cell_of_row w b 2 _ _ _ h1
  simp at c0 c1 c2
  have H1 := Lib.hid h1
  have H2 := Lib.hid h2
  have q1 : IntKind.i64.wrap ((lim : Int) - (L.length : Int)) = (lim : Int) - (L.length : Int) := by rw [IntKind.wrap_i64]; omega
  have q2 : ¬ (lim : Int) - (L.length : Int) < (X.length : Int) := by omega
  clear h1 h2 hxv hg3 hX0
  go_enter Try.func95, Try.ntmps95
  go_wp2_with fail
  go_quiet (fail)
  have hb := below_drewN (Below.refl w.heap.size w) nq
  have hr := (hb.block b (Array.getElem?_eq_some_iff.1 H1.out).1).trans H1.out
  have HO := Lib.hid (OwnB.keep H2.out hb)
  have HN : Hid (∀ j u, (Lib.byteCells X)[j]? = some u → (w.drewN nq).cell? ((⟨g, 0, none⟩ : Addr).add j) = some u) := Lib.hid HG3.out
  have hz : b + 1 ≤ (w.drewN nq).heap.size := HLB.out
  have HB := Lib.hid hb
  have HW : Hid (Below b w (w.drewN nq)) := Lib.hid (below_drewN (Below.refl _ _) _)
  have HR := Lib.hid hr
  generalize w.drewN nq = w1 at hr HO HN HB HW HR hz ⊢
  have d0 := cell_of_row w1 b 0 _ _ _ hr
  simp at d0
  clear hb hr c0 c1 c2 q1 q2 hg1 hg2
  have hown := HO.out
  unfold OwnB at hown
  have HR2 : Hid (∀ w2, w1.grownBy w2 (Value.slice VA L.length VC).ownBlock → w2.heap[b]? = some (.cells #[.slice VA L.length VC, .int .i64 (lim : Int), .int .i64 0] 95 (0, 0))) := Lib.hid (fun w2 hg => (hg.block b hz (fun e => by have := (World.ownsRow.lt HO.out b e.symm).1; omega)).trans HR.out)
  go_wp2_with (at_builtin; refine wpList_append_own _ rfl (.tmp 36) (.tmp 37) 84 rfl (b + 1) 5 i0 _ 1 1 Try.underlying84 Hi0.out Hz0.out Hz1.out Hz2.out (by rfl) (by decide) _ _ _ (by rfl) hown ⟨g, 0, none⟩ X.length c (Lib.byteCells X) (by rfl) (by rw [Lib.byteCells_length, Nat.mul_one]) HN.out (byteCells_one X) (by unfold maxLen; omega) (by omega) hz ?_; intro v2 w2 hown2 hgrow _; clear hown; obtain ⟨VA2, VC2, rfl⟩ := own_shape hown2; have r2 := HR2.out _ hgrow; have e0 := cell_of_row w2 b 0 _ _ _ r2; have f0 := frozen_of_row w2 b 0 _ _ r2; simp at e0; have R2 := Lib.hid r2; have HO2 := Lib.hid hown2; have HG2 := Lib.hid hgrow; clear r2 hown2 hgrow)
  refine bodyPost_end (results_none rfl _ _ _) rfl ?_
  have hg : w2.grownBy (w2.setCell ⟨b, 0, none⟩ (.slice VA2 (L.length + X.length) VC2)) (some b) := only_setCell (only_of_below (Below.refl _ _) (some b)) (p := ⟨b, 0, none⟩) (.inl rfl) _
  have ho : OwnB w2 (b + 1) (.slice VA2 (L.length + X.length) VC2) (L ++ X) := by
    unfold OwnB
    rw [List.length_append, Lib.byteCells_append]
    exact HO2.out
  have hb2 : Below b w1 w2 := below_own (by omega) HG2.out (fun k hk => by have := (World.ownsRow.lt HO.out k hk).1; omega)
  have hb3 : Below b w2 (w2.setCell ⟨b, 0, none⟩ (.slice VA2 (L.length + X.length) VC2)) := below_own (by have := hb2.size; omega) hg (fun k hk => by cases hk; exact Nat.le_refl _)
  refine ⟨rfl, ⟨_, heap_setCell_same w2 b 0 _ _ _ R2.out, own_below ho (by omega) hg⟩, (HW.out.trans hb2).trans hb3⟩
end Go.Proofs.Ytljnadbfadgglaa

/- witanref01.Writer: numbers, texts, what was written. -/
namespace Go.Proofs.Ytljnadbfadgglaa
open Go.RowKit
set_option maxRecDepth 100000
set_option linter.unusedVariables false
set_option linter.unusedSimpArgs false

/-- A number as bytes. -/
def beL (m n : Nat) : List UInt8 := if m = 1 then [UInt8.ofNat n] else [UInt8.ofNat (n / 256), UInt8.ofNat (n % 256)]

theorem byte_of (n : Nat) (hn : n < 256) : ((UInt8.ofNat n).toNat : Int) = (n : Int) := by rw [UInt8.toNat_ofNat']; omega
theorem big_one (n : Nat) (hn : n < 256) (w : World) : Calls Try.prog 96 #[.int .u64 (n : Int), .int .i64 1] w fun e w' => e = .returned (.slice (some ⟨w.heap.size, 0, none⟩) 1 1) ∧ OwnB w' w.heap.size (.slice (some ⟨w.heap.size, 0, none⟩) 1 1) (beL 1 n) ∧ Below w.heap.size w w' := by
  have hmk : ∀ w : World, (Instr.makeSlice 84 (.int .i64 1) (.int .i64 1)).run Try.prog w = .ok (.slice (some ⟨w.heap.size, 0, none⟩) 1 1) (w.alloc (.cells #[Value.int .u8 0] 5)) := fun _ => by kernel_rfl
  have n0 : 0 ≤ (n : Int) := by omega
  have n1 : (n : Int) < 256 := by omega
  have HN := Lib.hid hn
  clear hn
  go_enter Try.func96, Try.ntmps96
  go_wp2_with fail
  clear hmk
  go_loopw [0, 6] (fun v i wr => (i = .int .i64 0 ∧ v = .int .u64 (n : Int) ∧ wr = w.alloc (.cells #[Value.int .u8 0] 5)) ∨ (i = .int .i64 (-1) ∧ (∃ m : Int, v = .int .u64 m) ∧ wr = w.alloc (.cells #[Value.int .u8 (n : Int)] 5))) (fun _ i _ => (intOf i + 1).toNat)
  case atStart => exact .inl ⟨rfl, rfl, rfl⟩
  case round =>
    rcases hrel with ⟨rfl, rfl, rfl⟩ | ⟨rfl, ⟨m, rfl⟩, rfl⟩
    · go_wp2_with fail
      have e1 : (n : Int) % 256 = (n : Int) := by omega
      exact ⟨.inr ⟨rfl, ⟨_, rfl⟩, by rw [e1]⟩, by simp [intOf]⟩
    · go_wp2_with fail
      go_ret
      refine ⟨rfl, ?_, (Below.refl _ _).alloc (Nat.le_refl _) _⟩
      have := own_block w #[Value.int .u8 (n : Int)] 5 1 1 w.heap.size (Nat.le_refl _) rfl (by omega) (by decide)
      have e1 : Lib.byteCells (beL 1 n) = [Value.int .u8 (n : Int)] := by
        rw [← byte_of n HN.out]; rfl
      unfold OwnB
      rw [e1]
      exact this
set_option maxHeartbeats 400000 in
theorem big_two (n : Nat) (hn : n < 65536) (w : World) : Calls Try.prog 96 #[.int .u64 (n : Int), .int .i64 2] w fun e w' => e = .returned (.slice (some ⟨w.heap.size, 0, none⟩) 2 2) ∧ OwnB w' w.heap.size (.slice (some ⟨w.heap.size, 0, none⟩) 2 2) (beL 2 n) ∧ Below w.heap.size w w' := by
  have hmk : ∀ w : World, (Instr.makeSlice 84 (.int .i64 2) (.int .i64 2)).run Try.prog w = .ok (.slice (some ⟨w.heap.size, 0, none⟩) 2 2) (w.alloc (.cells #[Value.int .u8 0, Value.int .u8 0] 5)) := fun _ => by kernel_rfl
  have n0 : 0 ≤ (n : Int) := by omega
  have n1 : (n : Int) < 65536 := by omega
  have HN := Lib.hid hn
  clear hn
  go_enter Try.func96, Try.ntmps96
  go_wp2_with fail
  clear hmk
  go_loopw [0, 6] (fun v i wr => (i = .int .i64 1 ∧ v = .int .u64 (n : Int) ∧ wr = w.alloc (.cells #[Value.int .u8 0, Value.int .u8 0] 5)) ∨ (i = .int .i64 0 ∧ v = .int .u64 ((n : Int) / 256) ∧ wr = w.alloc (.cells #[Value.int .u8 0, Value.int .u8 ((n : Int) % 256)] 5)) ∨ (i = .int .i64 (-1) ∧ (∃ m : Int, v = .int .u64 m) ∧ wr = w.alloc (.cells #[Value.int .u8 ((n : Int) / 256), Value.int .u8 ((n : Int) % 256)] 5))) (fun _ i _ => (intOf i + 1).toNat)
  case atStart => exact .inl ⟨rfl, rfl, rfl⟩
  case round =>
    rcases hrel with ⟨rfl, rfl, rfl⟩ | ⟨rfl, rfl, rfl⟩ | ⟨rfl, ⟨m, rfl⟩, rfl⟩
    · go_wp2_with fail
      refine ⟨.inr (.inl ⟨rfl, ?_, ?_⟩), by simp [intOf]⟩ <;> first | exact True.intro | rfl
    · have q1 : (n : Int) / 256 % 256 = (n : Int) / 256 := by omega
      go_wp2_with fail
      refine ⟨.inr (.inr ⟨rfl, ⟨_, rfl⟩, ?_⟩), by simp [intOf]⟩ <;> first | exact True.intro | rfl
    · go_wp2_with fail
      go_ret
      refine ⟨rfl, ?_, (Below.refl _ _).alloc (Nat.le_refl _) _⟩
      have := own_block w #[Value.int .u8 ((n : Int) / 256), Value.int .u8 ((n : Int) % 256)] 5 2 2 w.heap.size (Nat.le_refl _) rfl (by omega) (by decide)
      have t1 : ((UInt8.ofNat (n / 256)).toNat : Int) = (n : Int) / 256 := by rw [byte_of _ (by have := HN.out; omega)]; omega
      have t2 : ((UInt8.ofNat (n % 256)).toNat : Int) = (n : Int) % 256 := by rw [byte_of _ (by omega)]; omega
      have e1 : Lib.byteCells (beL 2 n) = [Value.int .u8 ((n : Int) / 256), Value.int .u8 ((n : Int) % 256)] := by
        rw [← t1, ← t2]; rfl
      unfold OwnB
      rw [e1]
      exact this

theorem wr_num1 (b : Nat) (L : List UInt8) (lim n : Nat) (hn : n < 256) (hlim : lim ≤ 1099511627776) (hx : L.length + 1 ≤ lim) (w : World) (h : WrAt w b L lim 0) :
    Calls Try.prog 58 #[.pointer (some ⟨b, 0, none⟩), .int .i64 (n : Int), .int .i64 1] w fun e w' => e = .returned (.tuple #[]) ∧ WrAt w' b (L ++ beL 1 n) lim 0 ∧ Below b w w' := by
  have HB := fun w : World => Lib.hid (big_one n hn w)
  have HP := fun (base : Nat) (w' : World) (hv : OwnB w' base (.slice (some ⟨base, 0, none⟩) 1 1) (beL 1 n)) (hb : Below w.heap.size w w') => Lib.hid (put_yes b L (beL 1 n) lim (by unfold beL; simp) hlim hx base _ w' hv (h.keep hb))
  have HL := Lib.hid h.lt
  have n0 : 0 ≤ (n : Int) := by omega
  have n1 : (n : Int) < 256 := by omega
  have q : IntKind.u64.wrap (n : Int) = (n : Int) := by rw [IntKind.wrap_u64]; omega
  clear h hx hlim hn
  go_enter Try.func58, Try.ntmps58
  go_wp2_with fail
  go_loop [6, 7] (fun m i => (m = .int .i64 1 ∧ i = .int .i64 0) ∨ (m = .int .i64 256 ∧ i = .int .i64 1)) (fun _ i => (1 - intOf i).toNat)
  case atStart => exact .inl ⟨rfl, rfl⟩
  case round =>
    rcases hrel with ⟨rfl, rfl⟩ | ⟨rfl, rfl⟩
    · go_wp2_with fail
      exact ⟨.inr ⟨rfl, rfl⟩, by simp [intOf]⟩
    · go_wp2_with fail
      refine (HB w).out.mono ?_
      rintro e w1 ⟨rfl, hv, hb1⟩
      go_wp2_with fail
      refine (HP w.heap.size w1 hv hb1).out.mono ?_
      rintro e w2 ⟨rfl, hw, hb2⟩
      go_wp2_with fail
      go_end0
      exact ⟨rfl, hw, (hb1.mono (Nat.le_of_lt HL.out)).trans hb2⟩
theorem wr_num2 (b : Nat) (L : List UInt8) (lim n : Nat) (hn : n < 65536) (hlim : lim ≤ 1099511627776) (hx : L.length + 2 ≤ lim) (w : World) (h : WrAt w b L lim 0) :
    Calls Try.prog 58 #[.pointer (some ⟨b, 0, none⟩), .int .i64 (n : Int), .int .i64 2] w fun e w' => e = .returned (.tuple #[]) ∧ WrAt w' b (L ++ beL 2 n) lim 0 ∧ Below b w w' := by
  have HB := fun w : World => Lib.hid (big_two n hn w)
  have HP := fun (base : Nat) (w' : World) (hv : OwnB w' base (.slice (some ⟨base, 0, none⟩) 2 2) (beL 2 n)) (hb : Below w.heap.size w w') => Lib.hid (put_yes b L (beL 2 n) lim (by unfold beL; simp) hlim hx base _ w' hv (h.keep hb))
  have HL := Lib.hid h.lt
  have n0 : 0 ≤ (n : Int) := by omega
  obtain ⟨T, hT⟩ : ∃ T : Int, T = 65536 := ⟨_, rfl⟩
  have n1 : (n : Int) < T := by omega
  have q : IntKind.u64.wrap (n : Int) = (n : Int) := by rw [IntKind.wrap_u64]; omega
  have HT := Lib.hid hT
  clear h hx hlim hn hT
  go_enter Try.func58, Try.ntmps58
  go_wp2_with fail
  go_loop [6, 7] (fun m i => (m = .int .i64 1 ∧ i = .int .i64 0) ∨ (m = .int .i64 256 ∧ i = .int .i64 1) ∨ (m = .int .i64 T ∧ i = .int .i64 2)) (fun _ i => (2 - intOf i).toNat)
  case atStart => exact .inl ⟨rfl, rfl⟩
  case round =>
    rcases hrel with ⟨rfl, rfl⟩ | ⟨rfl, rfl⟩ | ⟨rfl, rfl⟩
    · go_wp2_with fail
      exact ⟨.inr (.inl ⟨rfl, rfl⟩), by simp [intOf]⟩
    · go_wp2_with fail
      rw [HT.out]
      exact ⟨Or.inr (Or.inr ⟨rfl, rfl⟩), by simp [intOf]⟩
    · go_wp2_with fail
      refine (HB w).out.mono ?_
      rintro e w1 ⟨rfl, hv, hb1⟩
      go_wp2_with fail
      refine (HP w.heap.size w1 hv hb1).out.mono ?_
      rintro e w2 ⟨rfl, hw, hb2⟩
      go_wp2_with fail
      go_end0
      exact ⟨rfl, hw, (hb1.mono (Nat.le_of_lt HL.out)).trans hb2⟩

theorem wr_text (b : Nat) (L : List UInt8) (lim : Nat) (s : ByteArray) (hs : s.size ≤ 65535) (hlim : lim ≤ 1099511627776) (hx : L.length + (2 + s.size) ≤ lim) (w : World) (h : WrAt w b L lim 0) :
    Calls Try.prog 73 #[.pointer (some ⟨b, 0, none⟩), .string s] w fun e w' => e = .returned (.tuple #[]) ∧ WrAt w' b (L ++ (beL 2 s.size ++ s.data.toList)) lim 0 ∧ Below b w w' := by
  obtain ⟨i0, hi0, hz0, hz1, hz2⟩ := info_parts info_byte
  have Hi0 := Lib.hid hi0
  have Hz0 := Lib.hid hz0
  have Hz1 := Lib.hid hz1
  have Hz2 := Lib.hid hz2
  clear hi0 hz0 hz1 hz2
  have HB := fun w : World => Lib.hid (big_two s.size (by omega) w)
  have hsl : s.data.toList.length = s.size := Array.length_toList
  have HP := fun (base : Nat) (xv : Value) (w' : World) (hv : OwnB w' base xv (beL 2 s.size ++ s.data.toList)) (hb : Below w.heap.size w w') => Lib.hid (put_yes b L (beL 2 s.size ++ s.data.toList) lim (by unfold beL; simp) hlim (by rw [List.length_append, hsl]; exact hx) base _ w' hv (h.keep hb))
  have HL := Lib.hid h.lt
  have q : IntKind.u64.wrap (s.size : Int) = (s.size : Int) := by rw [IntKind.wrap_u64]; omega
  have h6 : (s.size : Int) ≤ 65535 := by omega
  have HSL := Lib.hid hsl
  clear h hx hlim hsl
  go_enter Try.func73, Try.ntmps73
  go_wp2_with fail
  refine (HB w).out.mono ?_
  rintro e w1 ⟨rfl, hv, hb1⟩
  have hz1 := hb1.size
  unfold OwnB at hv
  have hv : w1.ownsRow w.heap.size 5 1 (.slice (some ⟨w.heap.size, 0, none⟩) 2 2) 2 (Lib.byteCells (beL 2 s.size)) := hv
  have HBB := Lib.hid hb1
  clear hb1
  go_wp2_with (at_builtin; go_must (refine Lib.wpList_append_own_string _ rfl (.tmp 13) (.tmp 14) 84 9 rfl w.heap.size 5 i0 Try.underlying84 Try.underlying9 Hi0.out Hz0.out Hz1.out Hz2.out _ _ _ (by rfl) hv s (by rfl) (by unfold maxLen; omega) (by omega) hz1 ?_); go_must (intro v2 w2 hown2 hgrow _))
  have hb2 : Below w.heap.size w w2 := HBB.out.grown hgrow hz1 (fun kk hk => by have := (World.ownsRow.lt hv kk hk).1; omega)
  have ho2 : OwnB w2 w.heap.size v2 (beL 2 s.size ++ s.data.toList) := by
    unfold OwnB
    rw [List.length_append, HSL.out, Lib.byteCells_append]
    exact hown2
  clear hown2 hgrow hv
  refine (HP w.heap.size v2 w2 ho2 hb2).out.mono ?_
  rintro e w3 ⟨rfl, hw, hb3⟩
  go_wp2_with fail
  go_end0
  exact ⟨rfl, hw, (hb2.mono (Nat.le_of_lt HL.out)).trans hb3⟩

theorem wr_done (b : Nat) (L : List UInt8) (lim : Nat) (w : World) (h : WrAt w b L lim 0) :
    Calls Try.prog 74 #[.pointer (some ⟨b, 0, none⟩)] w fun e w' => e = .returned (.tuple #[.string (bs L), .int .i64 0]) ∧ w = w' := by
  obtain ⟨v, h1, h2⟩ := h
  obtain ⟨VA, VC, rfl⟩ := own_shape h2
  have c0 := cell_of_row w b 0 _ _ _ h1
  have c2 := cell_of_row w b 2 _ _ _ h1
  simp at c0 c2
  have hcv := str_of_own (P := Try.prog) 84 9 5 Try.underlying84 Try.underlying5 Try.underlying9 h2
  clear h1 h2
  go_enter Try.func74, Try.ntmps74
  go_wp2_with fail
  go_ret2
  exact ⟨rfl, rfl⟩
end Go.Proofs.Ytljnadbfadgglaa

/- witanref08.Bytes. No condition. -/
namespace Go.Proofs.Ytljnadbfadgglaa
open Go.RowKit
set_option maxRecDepth 100000
set_option linter.unusedVariables false
set_option linter.unusedSimpArgs false

/-- append of a row's values, at a step of a region that draws. -/
theorem step_app {P : Program} {ops : Array Oper} {o : Oper} {a : Act} {w : World} {K : Act → World → Prop} {Q : Exit → Act → World → Prop} {E : Prop} (hgd : o.guard = none) (s x : Operand) (t : TypeId)
    (ho : o.op = .call { callee := .builtin .append, args := #[s, x], argTypes := #[t, t] })
    (base : Nat) (e : TypeId) (i : TypeInfo) (z : Value) (size bytes : Nat) (ht : P.underlying t = some (.slice e)) (hi : P.info? e = some i) (hz : i.zero = some z)
    (hsize : i.size = size) (hby : i.bytes = bytes) (hzs : z.cells.size = size) (hsz : 0 < size)
    (v : Value) (n : Nat) (xs : List Value) (hs : a.eval s = v) (hown : w.ownsRow base e size v n xs)
    (ad : Addr) (m c : Nat) (news : List Value) (hx : a.eval x = .slice (some ad) m c) (hl : news.length = m * size) (hnews : ∀ j u, news[j]? = some u → w.cell? (ad.add j) = some u) (h1 : ∀ u ∈ news, u.oneCell' = true)
    (h63 : n + m ≤ maxLen) (hbytes : (n + m) * bytes ≤ 140737488355328) (hbase : base ≤ w.heap.size)
    (h : ∀ v' w', w'.ownsRow base e size v' (n + m) (xs ++ news) → w.grownBy w' v.ownBlock → K (a.put o.dst v') w') :
    if Region.wanted o (yielded ops a.tmps) = true then Oper.wp P o a w K Q else E := by
  have hw : Region.wanted o (yielded ops a.tmps) = true := by simp [Region.wanted, hgd]
  rw [if_pos hw]
  exact wp_append_own w s x t ho base e i z size bytes ht hi hz hsize hby hzs hsz v n xs hs hown ad m c news hx hl hnews h1 h63 hbytes hbase fun v' w' h2 h3 _ => h v' w' h2 h3
/-- append of a text's bytes, likewise. -/
theorem step_app_str {P : Program} {ops : Array Oper} {o : Oper} {a : Act} {w : World} {K : Act → World → Prop} {Q : Exit → Act → World → Prop} {E : Prop} (hgd : o.guard = none) (sl x : Operand) (t u : TypeId)
    (ho : o.op = .call { callee := .builtin .append, args := #[sl, x], argTypes := #[t, u] })
    (base : Nat) (e : TypeId) (i : TypeInfo) (ht : P.underlying t = some (.slice e)) (hu : P.underlying u = some .string) (hi : P.info? e = some i) (hz : i.zero = some (.int .u8 0))
    (hsize : i.size = 1) (hby : i.bytes = 1)
    (v : Value) (n : Nat) (xs : List Value) (hs : a.eval sl = v) (hown : w.ownsRow base e 1 v n xs) (s : ByteArray) (hx : a.eval x = .string s)
    (h63 : n + s.size ≤ maxLen) (hbytes : n + s.size ≤ 140737488355328) (hbase : base ≤ w.heap.size)
    (h : ∀ v' w', w'.ownsRow base e 1 v' (n + s.size) (xs ++ Lib.strCells s) → w.grownBy w' v.ownBlock → K (a.put o.dst v') w') :
    if Region.wanted o (yielded ops a.tmps) = true then Oper.wp P o a w K Q else E := by
  have hw : Region.wanted o (yielded ops a.tmps) = true := by simp [Region.wanted, hgd]
  rw [if_pos hw]
  obtain ⟨v', w', hr, h2, h3, h4⟩ := Lib.run_append_own_string (P := P) w base t u o.type e i ht hu hi hz hsize hby v n xs hown s h63 hbytes hbase
  unfold Oper.wp execOp
  simp only [ho, resolve, invoke, builtin, Sem.run_bind, Sem.run_pure, Result.andThen_ok, List.map_toArray, List.map_cons, List.map_nil, hs, hx, hr]
  exact h _ _ h2 h3

theorem far_cell {w w' : World} {row : Option Nat} {B b o : Nat} (hg : w.grownBy w' row) (hr : ∀ k, row = some k → B ≤ k) (hb : b < w.heap.size) (hB : b < B) : w'.cell? ⟨b, o, none⟩ = w.cell? ⟨b, o, none⟩ :=
  hg.cell_far ⟨b, o, none⟩ hb (fun e => by
    have h : B ≤ b := hr b e.symm
    omega)

theorem refbytes_no (e : Int) (A : Option Addr) (n c : Nat) (l : List St) (w : World) (h : Seats w A n c l) (hr : rightB e l = false) :
    Calls Try.prog 30 #[.agg #[.int .i64 e, .slice A n c]] w fun x w' => x = .returned (.tuple #[.string ⟨#[]⟩, .int .i64 4]) ∧ Below w.heap.size w w' := by
  have HR := fun w' (hb : Below w.heap.size w w') => Lib.hid (refright_any e A n c l w' (h.keep hb))
  rw [hr] at HR
  clear h hr
  go_enter Try.func30, Try.ntmps30
  go_wp2_with fail
  have hB : Below w.heap.size w (w.alloc (.cells #[.int .i64 e, .slice A n c] 50)) := (Below.refl _ _).alloc (Nat.le_refl _) _
  refine (HR _ hB).out.mono ?_
  rintro x w1 ⟨rfl, hb1⟩
  go_wp2_with fail
  go_ret2
  exact ⟨rfl, hB.trans (hb1.mono hB.size)⟩

set_option maxHeartbeats 1000000 in
theorem refbytes_yes (e : Int) (A : Option Addr) (n c : Nat) (l : List St) (w : World) (h : Seats w A n c l) (hr : rightB e l = true) :
    Calls Try.prog 30 #[.agg #[.int .i64 e, .slice A n c]] w fun x w' => x = .returned (.tuple #[.string (bs (paperL e l)), .int .i64 0]) ∧ Below w.heap.size w w' := by
  obtain ⟨i0, hi0, hz0, hz1, hz2⟩ := info_parts info_byte
  have Hi0 := Lib.hid hi0
  have Hz0 := Lib.hid hz0
  have Hz1 := Lib.hid hz1
  have Hz2 := Lib.hid hz2
  clear hi0 hz0 hz1 hz2
  obtain ⟨f1, f2, f3, f4, f5⟩ := right_facts hr
  have HR := fun w' (hb : Below w.heap.size w w') => Lib.hid (refright_any e A n c l w' (h.keep hb))
  rw [hr] at HR
  have HL := Lib.hid h.1
  have f3 : 4 ≤ n := by have := h.1; omega
  have f4 : n ≤ 10 := by have := h.1; omega
  have F5 := Lib.hid f5
  have HP := Lib.hid (fun k (hk : k < n) => paperTo_succ e l k (by have := h.1; omega))
  have HS := Lib.hid h
  obtain ⟨E, rfl⟩ := Int.eq_ofNat_of_zero_le f1
  have HE := Lib.hid (show E ≤ 65535 by omega)
  clear h hr f5 f1 f2
  go_enter Try.func30, Try.ntmps30
  go_wp2_with fail
  have hB : Below w.heap.size w (w.alloc (.cells #[.int .i64 (E : Int), .slice A n c] 50)) := (Below.refl _ _).alloc (Nat.le_refl _) _
  refine (HR _ hB).out.mono ?_
  rintro x w1 ⟨rfl, hb1⟩
  have hr1 := (hb1.block w.heap.size (by simp)).trans (heap_alloc_new w _)
  have hlt1 : w.heap.size < w1.heap.size := (Array.getElem?_eq_some_iff.1 hr1).1
  have hB1 := hB.trans (hb1.mono hB.size)
  clear hB hb1 HR
  go_wp2_with fail
  refine (wr_new 1000 w1).mono ?_
  rintro x w2 ⟨rfl, hw2, hb2⟩
  have hr2 := (hb2.block _ hlt1).trans hr1
  have hB2 := hB1.trans (hb2.mono hB1.size)
  clear hr1 hB1
  go_wp2_with fail
  refine (wr_num1 w1.heap.size [] 1000 80 (by omega) (by omega) (by simp) w2 hw2).mono ?_
  rintro x w3 ⟨rfl, hw3, hb3⟩
  have hr3 := (hb3.block _ hlt1).trans hr2
  have hB3 := hB2.trans (hb3.mono (by omega))
  clear hr2 hB2 hw2 hb2 hb3
  have c0 := cell_of_row w3 w.heap.size 0 _ _ _ hr3
  simp at c0
  go_wp2_with fail
  refine (wr_num2 w1.heap.size _ 1000 E (by have := HE.out; omega) (by omega) (by simp [beL]) w3 hw3).mono ?_
  rintro x w4 ⟨rfl, hw4, hb4⟩
  have hr4 := (hb4.block _ hlt1).trans hr3
  have hB4 := hB3.trans (hb4.mono (by omega))
  clear hr3 hB3 hw3 hb4 c0
  have c1 := cell_of_row w4 w.heap.size 1 _ _ _ hr4
  simp at c1
  go_wp2_with fail
  refine (wr_num1 w1.heap.size _ 1000 n (by omega) (by omega) (by simp [beL]) w4 hw4).mono ?_
  rintro x w5 ⟨rfl, hw5, hb5⟩
  have hr5 := (hb5.block _ hlt1).trans hr4
  have hB5 := hB4.trans (hb5.mono (by omega))
  clear hr4 hB4 hw4 hb5 c1
  have hzz := hw5.lt
  obtain ⟨v, hv, hov⟩ := hw5
  obtain ⟨VA, VC, rfl⟩ := own_shape hov
  have c0 : w5.cell? ⟨w1.heap.size, 0, none⟩ = some (.slice VA 4 VC) := cell_of_row w5 w1.heap.size 0 _ _ _ hv
  have HO : Hid (w5.ownsRow (w1.heap.size + 1) 5 1 (.slice VA 4 VC) (4 + 33 * 0) (Lib.byteCells (paperTo (E : Int) l 0))) := Lib.hid (by
    have e1 : paperTo (E : Int) l 0 = [] ++ beL 1 80 ++ beL 2 E ++ beL 1 n := by
      show [80, UInt8.ofNat (E / 256), UInt8.ofNat (E % 256), UInt8.ofNat l.length] = _
      rw [HL.out]; rfl
    rw [e1]
    exact hov)
  have HR5 := Lib.hid hr5
  have HB5 := Lib.hid hB5
  clear hov hr5 hB5 hv
  go_wp2_with fail
  have hz5 : w1.heap.size + 1 ≤ w5.heap.size := hzz
  clear c0
  go_loopw [5, 6] (fun v i wr => ∃ k : Nat, k ≤ n ∧ i = .int .i64 k ∧ Hid (wr.ownsRow (w1.heap.size + 1) 5 1 v (4 + 33 * k) (Lib.byteCells (paperTo (E : Int) l k))) ∧ w1.heap.size + 1 ≤ wr.heap.size ∧ Hid (wr.heap[w.heap.size]? = some (.cells #[.int .i64 (E : Int), .slice A n c] 50 (0, 0))) ∧ Below w.heap.size w wr) (fun _ i _ => n - (intOf i).toNat)
  case atStart => exact ⟨0, by omega, rfl, HO, hz5, HR5, HB5.out⟩
  case round =>
    obtain ⟨k, hk, rfl, hownh, hz, hrh, hbelh⟩ := hrel
    have c1 := cell_of_row wr w.heap.size 1 _ _ _ hrh.out
    simp at c1
    by_cases hkn : k < n
    · have n0 : 0 ≤ (k : Int) := by omega
      have n1 : (k : Int) < (n : Int) := by omega
      obtain ⟨b, off, rfl, hb, hcs⟩ := HS.out.at k hkn
      have ca := (hbelh.cell (p := ⟨b, off + k * 2, none⟩) hb).trans (hcs k hkn).1
      have cb := (hbelh.cell (p := ⟨b, off + k * 2 + 1, none⟩) hb).trans (hcs k hkn).2
      have f6 := F5.out k (by have := HL.out; omega)
      have HK := HP.out k hkn
      generalize (l.getD k (0, ByteArray.empty)).1 = id at ca f6 HK
      generalize (l.getD k (0, ByteArray.empty)).2 = rt at cb f6 HK
      obtain ⟨g1, g2, g3⟩ := f6
      obtain ⟨I, rfl⟩ := Int.eq_ofNat_of_zero_le g1
      have HKK := Lib.hid HK
      have HG := Lib.hid g3
      have q4 : IntKind.u8.wrap (I : Int) = (I : Int) := by rw [IntKind.wrap_u8]; omega
      have G2 := Lib.hid g2
      have HOW := Lib.hid hownh.out
      have HLT : Hid (∀ kk, Value.ownBlock _ = some kk → w1.heap.size + 1 ≤ kk) := Lib.hid (fun kk hk => (hownh.out.lt kk hk).1)
      have HBR := Lib.hid hbelh
      have HRR := hrh
      have HZ : Hid (∀ w8 row, (wr.alloc (.cells #[.int .u8 (I : Int)] 5)).drew.grownBy w8 row → w1.heap.size + 1 ≤ w8.heap.size) := Lib.hid (fun w8 row hg => by have h := hg.size; simp at h; omega)
      clear hcs HK g3 hownh hbelh hrh
      go_wp2_with fail
      go_region_held3 (fun w' => w'.cell? ⟨w.heap.size, 1, none⟩ = some (.slice (some ⟨b, off, none⟩) n c) ∧ w'.cell? ⟨b, off + k * 2, none⟩ = some (.int .i64 (I : Int)) ∧ w'.cell? ⟨b, off + k * 2 + 1, none⟩ = some (.string rt))
        (first
          | go_keep
          | (go_split_ands
             refine ⟨?_, ?_, ?_⟩
             · (rw [far_cell hg1 HLT.out (by simp; omega) (by omega)]; assumption)
             · (rw [far_cell hg1 HLT.out (by simp; omega) (by omega)]; assumption)
             · (rw [far_cell hg1 HLT.out (by simp; omega) (by omega)]; assumption))
          | (go_split_ands
             refine ⟨?_, ?_, ?_⟩
             · (rw [far_cell hg2 (fun k h => (hown1.lt k h).1) (by omega) (by omega)]; assumption)
             · (rw [far_cell hg2 (fun k h => (hown1.lt k h).1) (by omega) (by omega)]; assumption)
             · (rw [far_cell hg2 (fun k h => (hown1.lt k h).1) (by omega) (by omega)]; assumption))
          | fail)
        ((first
          | (refine step_app (by rfl) (.tmp 33) (.tmp 41) 84 (by rfl) (w1.heap.size + 1) 5 i0 _ 1 1 Try.underlying84 Hi0.out Hz0.out Hz1.out Hz2.out rfl (by omega) _ _ _ (by rfl) ((HOW.out.alloc _).drew) ⟨wr.heap.size, 0, none⟩ 1 1 [.int .u8 (I : Int)] (by rfl) (by rfl) (World.news_of_block (cs := #[.int .u8 (I : Int)]) (t := 5) (fr := (0, 0)) (heap_alloc_new wr _)) (by simp [Value.oneCell']) (by unfold maxLen; omega) (by omega) (by simp; omega) ?_; intro v1 w8 hown1 hg1; have hz8 : w1.heap.size + 1 ≤ w8.heap.size := HZ.out w8 _ hg1)
          | (refine step_app_str (by rfl) (.tmp 42) (.tmp 48) 84 9 (by rfl) (w1.heap.size + 1) 5 i0 Try.underlying84 Try.underlying9 Hi0.out Hz0.out Hz1.out Hz2.out _ _ _ (by rfl) hown1 rt (by rfl) (by have := HG.out; unfold maxLen; omega) (by have := HG.out; omega) (by have := hg1.size; simp at this; omega) ?_; intro v2 w9 hown2 hg2)))
      have hb8 : Below w.heap.size w w8 := ((HBR.out.alloc HBR.out.size _).drew).grown hg1 (by have := HBR.out.size; simp; omega) (fun kk hk => by have := HLT.out kk hk; omega)
      have hb9 : Below w.heap.size w w9 := hb8.grown hg2 hb8.size (fun kk hk => by have := (hown1.lt kk hk).1; omega)
      have hr8 := (hg1.block w.heap.size (by simp; omega) (fun e => by have := HLT.out _ e.symm; omega)).trans ((heap_alloc_old wr (.cells #[.int .u8 (I : Int)] 5) (show w.heap.size < wr.heap.size by omega)).trans HRR.out)
      have hr9 := Lib.hid ((hg2.block w.heap.size (by omega) (fun e => by have := (hown1.lt _ e.symm).1; omega)).trans hr8)
      have hz9 : w1.heap.size + 1 ≤ w9.heap.size := by have := hg2.size; omega
      have hown4 : Hid (w9.ownsRow (w1.heap.size + 1) 5 1 v2 (4 + 33 * (k + 1)) (Lib.byteCells (paperTo (E : Int) l (k + 1)))) := Lib.hid (by
        have e1 : 4 + 33 * (k + 1) = 4 + 33 * k + 1 + rt.size := by have := HG.out; omega
        have t1 : ((UInt8.ofNat ((I : Int).toNat)).toNat : Int) = (I : Int) := by rw [UInt8.toNat_ofNat']; have := G2.out; omega
        rw [e1, HKK.out, Lib.byteCells_append]
        have e2 : Lib.byteCells (UInt8.ofNat ((I : Int).toNat) :: rt.data.toList) = [Value.int .u8 (I : Int)] ++ Lib.byteCells rt.data.toList := by
          show Value.int .u8 ((UInt8.ofNat ((I : Int).toNat)).toNat : Int) :: Lib.byteCells rt.data.toList = _
          rw [t1]; rfl
        rw [e2, ← List.append_assoc]
        exact hown2)
      clear hown1 hown2 hg1 hg2 hb8 hr8 hz8 q4 c1
      go_wp2_with fail
      exact ⟨⟨k + 1, by omega, by go_num, hown4, hz9, hr9, hb9⟩, by simp [intOf]; omega⟩
    · obtain rfl : k = n := by omega
      have hcv := str_of_own (P := Try.prog) 84 9 5 Try.underlying84 Try.underlying5 Try.underlying9 hownh.out
      have HPE : Hid (paperTo (E : Int) l k = paperL (E : Int) l) := Lib.hid (by unfold paperL; rw [HL.out])
      rw [HPE.out] at hcv
      clear hownh hkn
      go_wp2_with fail
      go_ret2
      exact ⟨rfl, hbelh⟩
end Go.Proofs.Ytljnadbfadgglaa

/- witanref08.Same of papers that are the same. No condition. -/
namespace Go.Proofs.Ytljnadbfadgglaa
open Go.RowKit
set_option maxRecDepth 100000
set_option linter.unusedVariables false
set_option linter.unusedSimpArgs false

set_option maxHeartbeats 400000 in
theorem same_yes (e : Int) (A A' : Option Addr) (n c c' : Nat) (l : List St) (w : World) (h : Seats w A n c l) (h' : Seats w A' n c' l) :
    Calls Try.prog 33 #[.agg #[.int .i64 e, .slice A n c], .agg #[.int .i64 e, .slice A' n c']] w fun x w' => x = .returned (.bool true) ∧ Below w.heap.size w w' := by
  have hmax : maxLen = 9223372036854775807 := rfl
  have hn63 : n ≤ 9223372036854775807 := Nat.le_trans h.2.1 h.2.2.1
  have HS := Lib.hid h
  have HS' := Lib.hid h'
  clear h h' hmax
  go_enter Try.func33, Try.ntmps33
  go_wp2_with fail
  have hr0 := Lib.hid ((heap_alloc_old (w.alloc (.cells #[.int .i64 e, .slice A n c] 50)) (.cells #[.int .i64 e, .slice A' n c'] 50) (show w.heap.size < _ by simp)).trans (heap_alloc_new w _))
  have hr1 := Lib.hid (heap_alloc_new (w.alloc (.cells #[.int .i64 e, .slice A n c] 50)) (.cells #[.int .i64 e, .slice A' n c'] 50))
  rw [show (w.alloc (.cells #[.int .i64 e, .slice A n c] 50)).heap.size = w.heap.size + 1 by simp] at hr1
  have hB0 := Lib.hid (show Below w.heap.size w ((w.alloc (.cells #[.int .i64 e, .slice A n c] 50)).alloc (.cells #[.int .i64 e, .slice A' n c'] 50)) from ((Below.refl _ _).alloc (Nat.le_refl _) _).alloc (by simp) _)
  generalize (w.alloc (.cells #[.int .i64 e, .slice A n c] 50)).alloc (.cells #[.int .i64 e, .slice A' n c'] 50) = w0 at hr0 hr1 hB0 ⊢
  have hz0 : w.heap.size + 1 < w0.heap.size := (Array.getElem?_eq_some_iff.1 hr1.out).1
  go_loopw [5] (fun j wr => ∃ (k : Nat), k ≤ n ∧ j = .int .i64 k ∧ Below w0.heap.size w0 wr) (fun j _ => n - (intOf j).toNat)
  case atStart => exact ⟨0, by omega, rfl, Below.refl _ _⟩
  case round =>
    obtain ⟨k, hk, rfl, hbel⟩ := hrel
    have hz := hbel.size
    have c1 := cell_of_row wr w.heap.size 1 _ _ _ ((hbel.block _ (by omega)).trans hr0.out)
    have d1 := cell_of_row wr (w.heap.size + 1) 1 _ _ _ ((hbel.block _ hz0).trans hr1.out)
    simp at c1 d1
    have hBw := hB0.out.trans (hbel.mono (by omega))
    have HB := Lib.hid hbel
    have HBW := Lib.hid hBw
    clear hbel
    by_cases hkn : k < n
    · have n0 : 0 ≤ (k : Int) := by omega
      have n1 : (k : Int) < (n : Int) := by omega
      obtain ⟨b, off, rfl, hb, hcs⟩ := HS.out.at k hkn
      obtain ⟨b', off', rfl, hb', hcs'⟩ := HS'.out.at k hkn
      have ca := (hBw.cell (p := ⟨b, off + k * 2, none⟩) hb).trans (hcs k hkn).1
      have cb := (hBw.cell (p := ⟨b, off + k * 2 + 1, none⟩) hb).trans (hcs k hkn).2
      have ca' := (hBw.cell (p := ⟨b', off' + k * 2, none⟩) hb').trans (hcs' k hkn).1
      have cb' := (hBw.cell (p := ⟨b', off' + k * 2 + 1, none⟩) hb').trans (hcs' k hkn).2
      generalize (l.getD k (0, ByteArray.empty)).1 = id at ca ca'
      generalize (l.getD k (0, ByteArray.empty)).2 = rt at cb cb'
      clear hcs hcs' hBw
      go_wp2_with fail
      go_quiet (fail)
      clear ca cb ca' cb' c1 d1
      go_wp2_with fail
      go_roundw
      case rel => exact ⟨k + 1, by omega, by go_num, below_drewN HB.out _⟩
      case measure => simp [intOf]; omega
    · obtain rfl : k = n := by omega
      clear hBw hkn
      go_wp2_with fail
      go_ret
      exact ⟨rfl, HBW.out⟩
end Go.Proofs.Ytljnadbfadgglaa

/- Seats of the call's own; what bytes are read as (plain). No condition. -/
namespace Go.Proofs.Ytljnadbfadgglaa
open Go.RowKit
set_option maxRecDepth 100000
set_option linter.unusedVariables false
set_option linter.unusedSimpArgs false

def seatCells (l : List St) : List Value := l.flatMap fun s => [.int .i64 s.1, .string s.2]
theorem seatCells_snoc (l : List St) (s : St) : seatCells (l ++ [s]) = seatCells l ++ [.int .i64 s.1, .string s.2] := by simp [seatCells]
theorem seatCells_length (l : List St) : (seatCells l).length = l.length * 2 := by
  induction l with
  | nil => rfl
  | cons s r ih =>
    have : seatCells (s :: r) = [.int .i64 s.1, .string s.2] ++ seatCells r := rfl
    rw [this, List.length_append, ih, List.length_cons]
    simp only [List.length_cons, List.length_nil]
    omega
theorem seatCells_get : ∀ (l : List St) (i : Nat), i < l.length → (seatCells l)[i * 2]? = some (.int .i64 (l.getD i (0, ByteArray.empty)).1) ∧ (seatCells l)[i * 2 + 1]? = some (.string (l.getD i (0, ByteArray.empty)).2)
  | [], i, h => by simp at h
  | s :: r, 0, _ => ⟨rfl, rfl⟩
  | s :: r, i + 1, h => by
    have := seatCells_get r i (by simpa using h)
    have e : seatCells (s :: r) = .int .i64 s.1 :: .string s.2 :: seatCells r := rfl
    rw [e, show (i + 1) * 2 = i * 2 + 1 + 1 by omega, List.getElem?_cons_succ, List.getElem?_cons_succ, List.getElem?_cons_succ, List.getElem?_cons_succ]
    exact this
/-- Seats of the call's own. -/
def OwnS (w : World) (base : Nat) (v : Value) (l : List St) : Prop := w.ownsRow base 60 2 v l.length (seatCells l)
theorem OwnS.keep {w w' : World} {base : Nat} {v : Value} {l : List St} (h : OwnS w base v l) (hb : Below w.heap.size w w') : OwnS w' base v l :=
  World.ownsRow.kept h (row := none) (only_of_below hb none) (by cases hn : Value.ownBlock _ <;> simp)
theorem OwnS.far {w w' : World} {base b : Nat} {v : Value} {l : List St} (h : OwnS w base v l) (hb : b < base) (hg : w.grownBy w' (some b)) : OwnS w' base v l :=
  World.ownsRow.kept h hg (.inr (fun e => by have := (World.ownsRow.lt h b e).1; omega))
theorem OwnS.nil (w : World) (base : Nat) : OwnS w base (.slice none 0 0) [] := World.ownsRow_nil _ _ _ _
theorem OwnS.seats {w : World} {base n c : Nat} {A : Option Addr} {l : List St} (h : OwnS w base (.slice A n c) l) : Seats w A n c l := by
  rcases h.2 with ⟨h1, h2⟩ | ⟨g, cap, cur, hv, hb, hg, hn, hm, hcs, ht⟩
  · have hl : l = [] := List.eq_nil_of_length_eq_zero h2
    subst hl
    injection h1 with e1 e2 e3
    subst e1; subst e2; subst e3
    exact ⟨rfl, Nat.le_refl _, Nat.zero_le _, fun _ => ⟨rfl, rfl⟩, fun _ h => by cases h⟩
  · injection hv with e1 e2 e3
    subst e1; subst e2; subst e3
    refine ⟨rfl, hn, hm, (fun h => by cases h), fun ad had => ?_⟩
    cases had
    have hlt := (Array.getElem?_eq_some_iff.1 hg).1
    refine ⟨g, 0, fun _ => ⟨rfl, hlt⟩, fun i hi => ?_⟩
    have hc := World.ownsRow.cells h (g := g) rfl
    obtain ⟨h1, h2⟩ := seatCells_get l i hi
    have k1 := hc _ _ h1
    have k2 := hc _ _ h2
    have a1 : ∀ j, (⟨g, 0, none⟩ : Addr).add j = ⟨g, 0 + j, none⟩ := fun j => by unfold Addr.add; split <;> simp_all
    rw [a1] at k1 k2
    exact ⟨k1, k2⟩
theorem info_seat : (Try.prog.info? 60).map (fun i => (i.zero, i.size, i.bytes)) = some (some (.agg #[.int .i64 0, .string ⟨#[]⟩]), 2, 24) := by kernel_rfl

/-- A byte of a text. -/
def byteN (x : ByteArray) (i : Nat) : Nat := (x.data.toList.getD i 0).toNat
/-- k seats from a place on. -/
def rdSeats (x : ByteArray) (a k : Nat) : List St := (List.range k).map fun i => ((byteN x (a + 33 * i) : Int), x.extract (a + 33 * i + 1) (a + 33 * i + 33))
theorem rdSeats_succ (x : ByteArray) (a k : Nat) : rdSeats x a (k + 1) = rdSeats x a k ++ [((byteN x (a + 33 * k) : Int), x.extract (a + 33 * k + 1) (a + 33 * k + 33))] := by
  unfold rdSeats
  rw [List.range_succ, List.map_append]
  rfl
theorem rdSeats_length (x : ByteArray) (a k : Nat) : (rdSeats x a k).length = k := by simp [rdSeats]
/-- What the program reads. -/
def readG (x : ByteArray) : Option (Int × List St) :=
  let a := rdN x 1 0 false
  let b := rdN x 2 a.2.1 a.2.2
  let c := rdN x 1 b.2.1 b.2.2
  if a.1 ≠ 80 ∨ x.size - c.2.1 ≠ c.1 * 33 then none else if rightB (b.1 : Int) (rdSeats x c.2.1 c.1) then some ((b.1 : Int), rdSeats x c.2.1 c.1) else none
/-- What the document says. -/
def readV (x : ByteArray) : Option (Int × List St) :=
  if x.size < 4 ∨ byteN x 0 ≠ 80 ∨ x.size ≠ 4 + 33 * byteN x 3 then none else if rightB ((byteN x 1 * 256 + byteN x 2 : Nat) : Int) (rdSeats x 4 (byteN x 3)) then some (((byteN x 1 * 256 + byteN x 2 : Nat) : Int), rdSeats x 4 (byteN x 3)) else none

theorem drop_cons (x : ByteArray) (i : Nat) (h : i < x.size) : x.data.toList.drop i = x.data.toList.getD i 0 :: x.data.toList.drop (i + 1) := by
  have hl : i < x.data.toList.length := by rw [Array.length_toList]; exact h
  rw [List.drop_eq_getElem_cons hl, List.getD_eq_getElem?_getD, List.getElem?_eq_getElem hl]
  rfl
theorem rdN_bad (x : ByteArray) (m i : Nat) : rdN x m i true = (0, i, true) := by simp [rdN]
theorem rdN_short (x : ByteArray) (m i : Nat) (h : x.size < i + m) : rdN x m i false = (0, i, true) := by simp [rdN, h]
theorem rdN_one (x : ByteArray) (i : Nat) (h : i < x.size) : rdN x 1 i false = (byteN x i, i + 1, false) := by
  unfold rdN
  rw [if_neg (by simp), if_neg (by omega), drop_cons x i h]
  simp [beN, byteN]
theorem rdN_two (x : ByteArray) (i : Nat) (h : i + 1 < x.size) : rdN x 2 i false = (byteN x i * 256 + byteN x (i + 1), i + 2, false) := by
  unfold rdN
  rw [if_neg (by simp), if_neg (by omega), drop_cons x i (by omega), drop_cons x (i + 1) h]
  simp [beN, byteN]
theorem right_short (e : Int) (l : List St) (h : l.length < 4) : rightB e l = false := by
  unfold rightB
  rw [decide_eq_false (show ¬ 4 ≤ l.length by omega)]
  simp
theorem readG_eq (x : ByteArray) : readG x = readV x := by
  by_cases h4 : x.size < 4
  · have hv : readV x = none := by unfold readV; exact if_pos (.inl h4)
    rw [hv]
    unfold readG
    by_cases h0 : x.size = 0
    · simp only [rdN_short x 1 0 (by omega), rdN_bad]
      exact if_pos (.inl (by decide))
    · by_cases h3 : x.size < 3
      · simp only [rdN_one x 0 (by omega), rdN_short x 2 (0 + 1) (by omega), rdN_bad]
        split
        · rfl
        · rw [right_short _ _ (by rw [rdSeats_length]; omega)]; rfl
      · simp only [rdN_one x 0 (by omega), rdN_two x (0 + 1) (by omega), rdN_short x 1 (0 + 1 + 2) (by omega)]
        split
        · rfl
        · rw [right_short _ _ (by rw [rdSeats_length]; omega)]; rfl
  · by_cases hc : byteN x 0 ≠ 80 ∨ x.size - 4 ≠ byteN x 3 * 33
    · have hv : readV x = none := by unfold readV; exact if_pos (by rcases hc with h | h; exact .inr (.inl h); exact .inr (.inr (by omega)))
      rw [hv]
      unfold readG
      simp only [rdN_one x 0 (by omega), rdN_two x (0 + 1) (by omega), rdN_one x (0 + 1 + 2) (by omega)]
      exact if_pos hc
    · have h1 : byteN x 0 = 80 := Decidable.byContradiction fun h => hc (.inl h)
      have h2 : x.size - 4 = byteN x 3 * 33 := Decidable.byContradiction fun h => hc (.inr h)
      have hv : readV x = if rightB ((byteN x 1 * 256 + byteN x 2 : Nat) : Int) (rdSeats x 4 (byteN x 3)) then some (((byteN x 1 * 256 + byteN x 2 : Nat) : Int), rdSeats x 4 (byteN x 3)) else none := by
        unfold readV
        exact if_neg (by rintro (h | h | h); omega; exact h h1; omega)
      rw [hv]
      unfold readG
      simp only [rdN_one x 0 (by omega), rdN_two x (0 + 1) (by omega), rdN_one x (0 + 1 + 2) (by omega)]
      exact if_neg hc
end Go.Proofs.Ytljnadbfadgglaa

/- papers.Read. No condition. -/
namespace Go.Proofs.Ytljnadbfadgglaa
open Go.RowKit
set_option maxRecDepth 100000
set_option linter.unusedVariables false
set_option linter.unusedSimpArgs false

/-- What a reading gives: the paper, or none and an error. -/
def ReadOut (w : World) (r : Option (Int × List St)) (w' : World) (x : Ending) : Prop :=
  match r with
  | none => x = .returned (.tuple #[.agg #[.int .i64 0, .slice none 0 0], .int .i64 5])
  | some p => ∃ A c, x = .returned (.tuple #[.agg #[.int .i64 p.1, .slice A p.2.length c], .int .i64 0]) ∧ OwnS w' w.heap.size (.slice A p.2.length c) p.2

theorem OwnS.lower {w : World} {base b : Nat} {v : Value} {l : List St} (h : OwnS w base v l) (hb : b ≤ base) : OwnS w b v l := by
  refine ⟨h.1, ?_⟩
  rcases h.2 with h1 | ⟨g, cap, cur, h1, h2, h3⟩
  · exact .inl h1
  · exact .inr ⟨g, cap, cur, h1, Nat.le_trans hb h2, h3⟩
/-- Two results, the first one a paper in memory. -/
theorem results_paper {fn : Func} {p q : Tmp} (h : fn.results = #[.cell p 50, .tmp q]) (tmps : Array Value) (w : World) (g : Nat) (cs : Array Value) (hs : cs.size = 2)
    (hp : tmps.getD p undef = .pointer (some ⟨g, 0, none⟩)) (hg : w.heap[g]? = some (.cells cs 50 (0, 0))) :
    (results fn tmps).run Try.prog w = .ok (.tuple #[.agg cs, tmps.getD q undef]) w := by
  have hp' : tmps[p]?.getD undef = .pointer (some ⟨g, 0, none⟩) := by simpa using hp
  have hl := run_loadVar_row (P := Try.prog) w g 50 50 cs (0, 0) _ hg Try.underlying50 rfl (by rw [hs]; kernel_rfl)
  simp [results, h, hp', asAddr, hl]

set_option maxHeartbeats 4000000 in
theorem read_any (x : ByteArray) (hx : x.size ≤ maxLen) (w : World) :
    Calls Try.prog 31 #[.string x] w fun e w' => ReadOut w (readG x) w' e ∧ Below w.heap.size w w' := by
  have hmax : maxLen = 9223372036854775807 := rfl
  obtain ⟨i0, hi0, hz0, hz1, hz2⟩ := info_parts info_seat
  have Hi0 := Lib.hid hi0
  have Hz0 := Lib.hid hz0
  have Hz1 := Lib.hid hz1
  have Hz2 := Lib.hid hz2
  clear hi0 hz0 hz1 hz2
  have HRG : Hid (readG x = if (rdN x 1 0 false).1 ≠ 80 ∨ x.size - (rdN x 1 (rdN x 2 (rdN x 1 0 false).2.1 (rdN x 1 0 false).2.2).2.1 (rdN x 2 (rdN x 1 0 false).2.1 (rdN x 1 0 false).2.2).2.2).2.1 ≠ (rdN x 1 (rdN x 2 (rdN x 1 0 false).2.1 (rdN x 1 0 false).2.2).2.1 (rdN x 2 (rdN x 1 0 false).2.1 (rdN x 1 0 false).2.2).2.2).1 * 33 then none else if rightB ((rdN x 2 (rdN x 1 0 false).2.1 (rdN x 1 0 false).2.2).1 : Int) (rdSeats x (rdN x 1 (rdN x 2 (rdN x 1 0 false).2.1 (rdN x 1 0 false).2.2).2.1 (rdN x 2 (rdN x 1 0 false).2.1 (rdN x 1 0 false).2.2).2.2).2.1 (rdN x 1 (rdN x 2 (rdN x 1 0 false).2.1 (rdN x 1 0 false).2.2).2.1 (rdN x 2 (rdN x 1 0 false).2.1 (rdN x 1 0 false).2.2).2.2).1) then some (((rdN x 2 (rdN x 1 0 false).2.1 (rdN x 1 0 false).2.2).1 : Int), rdSeats x (rdN x 1 (rdN x 2 (rdN x 1 0 false).2.1 (rdN x 1 0 false).2.2).2.1 (rdN x 2 (rdN x 1 0 false).2.1 (rdN x 1 0 false).2.2).2.2).2.1 (rdN x 1 (rdN x 2 (rdN x 1 0 false).2.1 (rdN x 1 0 false).2.2).2.1 (rdN x 2 (rdN x 1 0 false).2.1 (rdN x 1 0 false).2.2).2.2).1) else none) := Lib.hid rfl
  have H1 := fun (b : Nat) (w : World) (h : RdAt w b x 0 false) => Lib.hid (rd_byte b x hx 0 (Nat.zero_le _) false w h)
  have l1 := rdN_le x 1 0 (Nat.zero_le _) false
  have b1 := rdN_lt x 1 0 (by omega) false
  generalize rdN x 1 0 false = r1 at HRG H1 l1 b1
  obtain ⟨hd, i1, k1⟩ := r1
  simp only at l1 b1
  have H2 := fun (b : Nat) (w : World) (h : RdAt w b x i1 k1) => Lib.hid (rd_word b x hx i1 l1 k1 w h)
  have l2 := rdN_le x 2 i1 l1 k1
  have b2 := rdN_lt x 2 i1 (by omega) k1
  simp only at HRG
  generalize rdN x 2 i1 k1 = r2 at HRG H2 l2 b2
  obtain ⟨ep, i2, k2⟩ := r2
  simp only at l2 b2
  have H3 := fun (b : Nat) (w : World) (h : RdAt w b x i2 k2) => Lib.hid (rd_byte b x hx i2 l2 k2 w h)
  have l3 := rdN_le x 1 i2 l2 k2
  have b3 := rdN_lt x 1 i2 (by omega) k2
  simp only at HRG
  generalize rdN x 1 i2 k2 = r3 at HRG H3 l3 b3
  obtain ⟨n, i3, k3⟩ := r3
  simp only at l3 b3 HRG H1 H2 H3
  have H4 := fun (b : Nat) (w : World) (h : RdAt w b x i3 k3) => Lib.hid (rd_left b x hx i3 l3 k3 w h)
  have L3 := Lib.hid l3
  clear l1 l2 b1 b2 hmax
  go_enter Try.func31, Try.ntmps31
  go_wp2_with fail
  obtain ⟨w0, hw0⟩ : ∃ w0, w0 = w.alloc (.cells #[.int .i64 0, .slice none 0 0] 50) := ⟨_, rfl⟩
  rw [← hw0]
  have hz0 : w.heap.size < w0.heap.size := by rw [hw0]; simp
  have hr0 : Hid (w0.heap[w.heap.size]? = some (.cells #[.int .i64 0, .slice none 0 0] 50 (0, 0))) := Lib.hid (by rw [hw0]; exact heap_alloc_new w _)
  have hB0 : Below w.heap.size w w0 := by rw [hw0]; exact (Below.refl _ _).alloc (Nat.le_refl _) _
  clear hw0
  refine (rd_new x w0).mono ?_
  rintro e w1 ⟨rfl, hrd1, hb1⟩
  have hr1 := Lib.hid ((hb1.block _ hz0).trans hr0.out)
  have hB1 := hB0.trans (hb1.mono (by omega))
  clear hB0 hb1 hr0
  go_wp2_with fail
  refine (H1 w0.heap.size w1 hrd1).out.mono ?_
  rintro e w2 ⟨rfl, hrd2, hg2⟩
  have hr2 := Lib.hid ((hg2.block w.heap.size (by have := hB1.size; have := hrd1.lt; omega) (fun e => by have h := Option.some.inj e; omega)).trans hr1.out)
  have hB2 := hB1.grown hg2 hB1.size (fun kk hk => by cases hk; omega)
  clear hrd1 hr1 hg2 hB1
  go_wp2_with fail
  refine (H2 w0.heap.size w2 hrd2).out.mono ?_
  rintro e w3 ⟨rfl, hrd3, hg3⟩
  have hr3 := Lib.hid ((hg3.block w.heap.size (by have := hrd2.lt; omega) (fun e => by have h := Option.some.inj e; omega)).trans hr2.out)
  have hB3 := hB2.grown hg3 hB2.size (fun kk hk => by cases hk; omega)
  clear hrd2 hr2 hg3 hB2
  go_wp2_with fail
  have hlt3 := hrd3.lt
  have hal : Below w3.heap.size w3 (w3.alloc (.cells #[.int .i64 (ep : Int), .slice none 0 0] 50)) := (Below.refl _ _).alloc (Nat.le_refl _) _
  have hrd4 := hrd3.keep hal
  have hr4 := Lib.hid ((hal.block w.heap.size (by omega)).trans hr3.out)
  have hB4 := hB3.trans (hal.mono hB3.size)
  have hp4 := Lib.hid (heap_alloc_new w3 (.cells #[.int .i64 (ep : Int), .slice none 0 0] 50))
  have hz4 : w3.heap.size < (w3.alloc (.cells #[.int .i64 (ep : Int), .slice none 0 0] 50)).heap.size := by simp
  generalize w3.alloc (.cells #[.int .i64 (ep : Int), .slice none 0 0] 50) = w4 at hal hrd4 hr4 hB4 hp4 hz4 ⊢
  clear hrd3 hr3 hB3 hal
  refine (H3 w0.heap.size w4 hrd4).out.mono ?_
  rintro e w5 ⟨rfl, hrd5, hg5⟩
  have hr5 := Lib.hid ((hg5.block w.heap.size (by omega) (fun e => by have h := Option.some.inj e; omega)).trans hr4.out)
  have hp5 := Lib.hid ((hg5.block w3.heap.size hz4 (fun e => by have h := Option.some.inj e; omega)).trans hp4.out)
  have hB5 := hB4.grown hg5 hB4.size (fun kk hk => by cases hk; omega)
  have hz5 := hg5.size
  have hlt5 : w3.heap.size < w5.heap.size := by omega
  have hbase : w0.heap.size < w3.heap.size := hlt3
  have HFAIL : Hid (∀ (W : World) (row : Option Nat), w5.grownBy W row → (∀ kk, row = some kk → w.heap.size < kk) → W.heap[w.heap.size]? = some (.cells #[.int .i64 0, .slice none 0 0] 50 (0, 0)) ∧ Below w.heap.size w W) := Lib.hid (fun W row hg hk => ⟨(hg.block w.heap.size (by omega) (fun e => by have := hk _ e.symm; omega)).trans hr5.out, hB5.grown hg hB5.size (fun kk h => by have := hk kk h; omega)⟩)
  clear hrd4 hr4 hg5 hB4 hp4 H1 H2 H3 hz4 hz5
  by_cases h80 : hd = 80
  · obtain rfl := h80
    go_wp2_with fail
    refine (H4 w0.heap.size w5 hrd5).out.mono ?_
    rintro e w6 ⟨rfl, hb6⟩
    have hrd6 := hrd5.keep hb6
    have hr6 := Lib.hid ((hb6.block w.heap.size (by omega)).trans hr5.out)
    have hp6 := Lib.hid ((hb6.block w3.heap.size hlt5).trans hp5.out)
    have hB6 := hB5.trans (hb6.mono hB5.size)
    have hz6 := hb6.size
    have hlt6 : w3.heap.size < w6.heap.size := by omega
    clear hb6 hrd5 hr5 hp5 hB5 HFAIL hz6 hlt5
    obtain ⟨d, hd⟩ : ∃ d, x.size - i3 = d := ⟨_, rfl⟩
    rw [hd] at H4 HRG
    rw [hd]
    have HD : Hid (x.size = i3 + d) := Lib.hid (by have := L3.out; omega)
    have hd3 : (d : Int) ≤ (x.size : Int) := by omega
    have q0 : IntKind.i64.wrap ((n : Int) * 33) = (n : Int) * 33 := by rw [IntKind.wrap_i64]; omega
    have q1 : IntKind.i64.wrap ((x.size : Int) - (d : Int)) = (i3 : Int) := by rw [IntKind.wrap_i64]; unfold maxLen at hx; omega
    clear hd
    by_cases hm : d = n * 33
    · obtain rfl := hm
      have hi3 : (i3 : Int) + (n : Int) * 33 = (x.size : Int) := by have := HD.out; omega
      have Q2 : IntKind.i64.wrap ((x.size : Int) - (n : Int) * 33) = (i3 : Int) := by rw [IntKind.wrap_i64]; unfold maxLen at hx; omega
      have HRG2 : Hid (readG x = if rightB (ep : Int) (rdSeats x i3 n) = true then some ((ep : Int), rdSeats x i3 n) else none) := Lib.hid (by rw [HRG.out, if_neg (by simp)])
      have HI3 := Lib.hid hi3
      clear q1 hd3 hi3 HRG
      go_wp2_with fail
      refine (H4 w0.heap.size w6 hrd6).out.mono ?_
      rintro e w7 ⟨rfl, hb7⟩
      have hr7 := Lib.hid ((hb7.block w.heap.size (by omega)).trans hr6.out)
      have hp7 := Lib.hid ((hb7.block w3.heap.size hlt6).trans hp6.out)
      have hB7 := Lib.hid (hB6.trans (hb7.mono hB6.size))
      have hz7 := hb7.size
      have hlt7 : w3.heap.size + 1 ≤ w7.heap.size := by omega
      clear hb7 hrd6 hr6 hp6 hB6 hz7 hlt6 H4
      go_wp2_with fail
      clear Q2 q0
      have HX := Lib.hid hx
      have hx63 : x.size ≤ 9223372036854775807 := hx
      go_loopw [8] (fun j wr => ∃ (k a : Nat) (v : Value), k ≤ n ∧ a ≤ x.size ∧ Hid (a = i3 + 33 * k) ∧ j = .int .i64 a ∧ Hid (wr.heap[w3.heap.size]? = some (.cells #[.int .i64 (ep : Int), v] 50 (0, 0))) ∧ Hid (OwnS wr (w3.heap.size + 1) v (rdSeats x i3 k)) ∧ Hid (wr.heap[w.heap.size]? = some (.cells #[.int .i64 0, .slice none 0 0] 50 (0, 0))) ∧ w3.heap.size + 1 ≤ wr.heap.size ∧ Hid (Below w.heap.size w wr)) (fun j _ => x.size - (intOf j).toNat)
      case atStart => exact ⟨0, i3, _, by omega, L3.out, Lib.hid (by omega), rfl, hp7, Lib.hid (OwnS.nil _ _), hr7, hlt7, hB7⟩
      case round =>
        obtain ⟨k, a, v, hk, hax, ha, rfl, hp, hos, hr, hz, hbel⟩ := hrel
        by_cases hkn : k < n
        · have n0 : 0 ≤ (a : Int) := by omega
          have hxa : a + 33 ≤ x.size := by have := ha.out; have := HI3.out; omega
          have n1 : (a : Int) < (x.size : Int) := by omega
          have q1 : IntKind.i64.wrap ((a : Int) + 1) = (a : Int) + 1 := by rw [IntKind.wrap_i64]; omega
          have q2 : IntKind.i64.wrap ((a : Int) + 1 + 32) = (a : Int) + 33 := by rw [IntKind.wrap_i64]; omega
          have q3 : IntKind.i64.wrap ((a : Int) + 33) = (a : Int) + 33 := by rw [IntKind.wrap_i64]; omega
          have m1 : 0 ≤ (a : Int) + 1 := by omega
          have m2 : (a : Int) + 1 ≤ (a : Int) + 33 := by omega
          have m3 : (a : Int) + 33 ≤ (x.size : Int) := by omega
          have m4 : ((a : Int) + 1).toNat = a + 1 := by omega
          have m5 : ((a : Int) + 33).toNat = a + 33 := by omega
          have m6 : 0 ≤ (a : Int) + 33 := by omega
          obtain ⟨VA, VC, rfl⟩ := own_shape hos.out
          rw [rdSeats_length] at hp hos
          have c1 := cell_of_row wr w3.heap.size 1 _ _ _ hp.out
          have f1 := frozen_of_row wr w3.heap.size 1 _ _ hp.out
          simp at c1
          have hkn' := Lib.hid hkn
          clear hkn
          have HR8 : Hid (∀ (W w8 : World) (row : Option Nat), Below wr.heap.size wr W → W.grownBy w8 row → (∀ kk, row = some kk → w3.heap.size + 1 ≤ kk) → w8.heap[w3.heap.size]? = some (.cells #[.int .i64 (ep : Int), .slice VA k VC] 50 (0, 0))) := Lib.hid (fun W w8 row hb hg hk => (hg.block w3.heap.size (by have := hb.size; omega) (fun e => by have := hk _ e.symm; omega)).trans ((hb.block w3.heap.size (by omega)).trans hp.out))
          have HLT : Hid (∀ kk, Value.ownBlock (.slice VA k VC) = some kk → w3.heap.size + 1 ≤ kk) := Lib.hid (fun kk hk => (World.ownsRow.lt hos.out kk hk).1)
          have HO2 : Hid (wr.ownsRow (w3.heap.size + 1) 60 2 (.slice VA k VC) k (seatCells (rdSeats x i3 k))) := Lib.hid (by have := hos.out; unfold OwnS at this; rw [rdSeats_length] at this; exact this)
          have hax' : a < x.size := by omega
          obtain ⟨Bv, hBv⟩ : ∃ Bv, byteN x a = Bv := ⟨_, rfl⟩
          have q5 : (x[a]'hax').toNat = Bv := by
            rw [← hBv]
            have hl : a < x.data.toList.length := by rw [Array.length_toList]; exact hax'
            unfold byteN
            rw [List.getD_eq_getElem?_getD, List.getElem?_eq_getElem hl]
            rfl
          have q6 : IntKind.i64.wrap (Bv : Int) = (Bv : Int) := by have := (x[a]'hax').toNat_lt; rw [IntKind.wrap_i64]; omega
          have HBV := Lib.hid hBv
          have hzlt : w3.heap.size < wr.heap.size := by omega
          clear hBv
          go_wp2_with fail
          go_region_law (first
            | (refine step_app (by rfl) (.tmp 40) (.tmp 53) 48 (by rfl) (w3.heap.size + 1) 60 i0 _ 2 24 Try.underlying48 Hi0.out Hz0.out Hz1.out Hz2.out rfl (by omega) _ _ _ (by rfl) ((HO2.out.alloc _).drew) ⟨wr.heap.size, 0, none⟩ 1 1 [_, _] (by rfl) (by rfl) (World.news_of_block (cs := #[_, _]) (t := 60) (fr := (0, 0)) (heap_alloc_new wr _)) (by simp [Value.oneCell']) (by unfold maxLen; omega) (by omega) (by simp; omega) ?_; intro v1 w8 hown1 hg1; obtain ⟨VA2, VC2, rfl⟩ := own_shape hown1; have r2 := HR8.out _ w8 _ (((Below.refl _ _).alloc (Nat.le_refl _) _).drew) hg1 HLT.out; have e0 := cell_of_row w8 w3.heap.size 1 _ _ _ r2; have f0 := frozen_of_row w8 w3.heap.size 1 _ _ r2; simp at e0; have R2 := Lib.hid r2; clear r2))
          all_goals
            have hbA : Below w.heap.size w (wr.alloc (.cells #[.int .i64 (Bv : Int), .string (x.extract (a + 1) (a + 33))] 60)).drew := (hbel.out.alloc hbel.out.size _).drew
            have hzA : (wr.alloc (.cells #[.int .i64 (Bv : Int), .string (x.extract (a + 1) (a + 33))] 60)).drew.heap.size = wr.heap.size + 1 := by simp
            have hrA : (wr.alloc (.cells #[.int .i64 (Bv : Int), .string (x.extract (a + 1) (a + 33))] 60)).drew.heap[w.heap.size]? = some (.cells #[.int .i64 0, .slice none 0 0] 50 (0, 0)) := (heap_alloc_old wr _ (show w.heap.size < wr.heap.size by omega)).trans hr.out
            have hb8 : Below w.heap.size w w8 := hbA.grown hg1 (by omega) (fun kk hk => by have := HLT.out kk hk; omega)
            have hr8 := (hg1.block w.heap.size (by omega) (fun e => by have := HLT.out _ e.symm; omega)).trans hrA
            have hz8 := hg1.size
            have hgS : w8.grownBy (w8.setCell ⟨w3.heap.size, 1, none⟩ (.slice VA2 (k + 1) VC2)) (some w3.heap.size) := only_setCell (only_of_below (Below.refl _ _) _) (p := ⟨w3.heap.size, 1, none⟩) (.inl rfl) _
            have hown9 : OwnS w8 (w3.heap.size + 1) (.slice VA2 (k + 1) VC2) (rdSeats x i3 (k + 1)) := by
              unfold OwnS
              rw [rdSeats_length, rdSeats_succ, seatCells_snoc, ← ha.out, HBV.out]
              exact hown1
            have hp9 := Lib.hid ((heap_setCell_same w8 w3.heap.size 1 _ _ (.slice VA2 (k + 1) VC2) R2.out).trans (by rfl : _ = some (.cells #[.int .i64 (ep : Int), .slice VA2 (k + 1) VC2] 50 (0, 0))))
            have ho9 := Lib.hid (hown9.far (by omega) hgS)
            have hr9 := Lib.hid ((hgS.block w.heap.size (by omega) (fun e => by have h := Option.some.inj e; omega)).trans hr8)
            have hz9 : w3.heap.size + 1 ≤ (w8.setCell ⟨w3.heap.size, 1, none⟩ (.slice VA2 (k + 1) VC2)).heap.size := by have := hgS.size; omega
            have hb9 := Lib.hid (hb8.grown hgS hb8.size (fun kk hk => by have h := Option.some.inj hk; omega))
            generalize w8.setCell ⟨w3.heap.size, 1, none⟩ (.slice VA2 (k + 1) VC2) = w9 at hp9 ho9 hr9 hz9 hb9 ⊢
            clear hbA hzA hrA hb8 hr8 hz8 hgS hown9 hown1 hg1 e0 f0 R2 HR8 HLT HO2 q5 q6 c1 f1 q1 q2 m1 m2 m3 m4 m5 m6 hp hos hr hz
            go_wp2_with fail
            refine ⟨⟨k + 1, a + 33, _, by have := hkn'.out; omega, by omega, Lib.hid (by have := ha.out; omega), by go_num, hp9, ho9, hr9, hz9, hb9⟩, by simp [intOf]; omega⟩
        · obtain rfl : k = n := by omega
          obtain ⟨VA, VC, rfl⟩ := own_shape hos.out
          have hax2 : ¬ (a : Int) < (x.size : Int) := by have := ha.out; have := HI3.out; omega
          have hss := (hos.out.seats)
          rw [rdSeats_length] at hp hos hss
          have c0 := cell_of_row wr w3.heap.size 0 _ _ _ hp.out
          have c1 := cell_of_row wr w3.heap.size 1 _ _ _ hp.out
          simp at c0 c1
          have HRT := Lib.hid (right_any (ep : Int) VA k VC (rdSeats x i3 k) wr hss)
          have hzw : w.heap.size < wr.heap.size := by omega
          clear hss hkn
          go_wp2_with fail
          refine HRT.out.mono ?_
          rintro e w8 ⟨rfl, hb8⟩
          have hr8 := Lib.hid ((hb8.block w.heap.size hzw).trans hr.out)
          have hp8 := Lib.hid ((hb8.block w3.heap.size (by omega)).trans hp.out)
          have ho8 := Lib.hid (hos.out.keep hb8)
          have hB8 := Lib.hid (hbel.out.trans (hb8.mono (by omega)))
          have hz8 : w.heap.size < w8.heap.size := by have := hb8.size; omega
          have r0 := cell_of_row w8 w.heap.size 0 _ _ _ hr8.out
          have r1 := cell_of_row w8 w.heap.size 1 _ _ _ hr8.out
          have f0 := frozen_of_row w8 w.heap.size 0 _ _ hr8.out
          have f1 := frozen_of_row w8 w.heap.size 1 _ _ hr8.out
          have c0 := cell_of_row w8 w3.heap.size 0 _ _ _ hp8.out
          have c1 := cell_of_row w8 w3.heap.size 1 _ _ _ hp8.out
          simp at r0 r1 c0 c1
          clear hb8 hr hp hos hbel HRT
          cases hrb : rightB (ep : Int) (rdSeats x i3 k) with
          | false =>
            have HRB := Lib.hid hrb
            clear hrb
            go_wp2_with fail
            have hg : w8.grownBy ((w8.setCell ⟨w.heap.size, 0, none⟩ (.int .i64 0)).setCell ⟨w.heap.size, 1, none⟩ (.slice none 0 0)) (some w.heap.size) := only_setCell (only_setCell (only_of_below (Below.refl _ _) _) (p := ⟨w.heap.size, 0, none⟩) (.inl rfl) _) (p := ⟨w.heap.size, 1, none⟩) (.inl rfl) _
            refine bodyPost_ret (results_paper rfl _ _ w.heap.size #[.int .i64 0, .slice none 0 0] rfl (by rfl) ?_) rfl ?_
            · exact (heap_setCell_same _ w.heap.size 1 _ _ _ (heap_setCell_same w8 w.heap.size 0 _ _ _ hr8.out)).trans (by rfl)
            · rw [HRG2.out, HRB.out]
              exact ⟨rfl, hB8.out.grown hg (by omega) (fun kk h => by have := Option.some.inj h; omega)⟩
          | true =>
            have HRB := Lib.hid hrb
            clear hrb
            go_wp2_with fail
            have hg : w8.grownBy ((w8.setCell ⟨w.heap.size, 0, none⟩ (.int .i64 (ep : Int))).setCell ⟨w.heap.size, 1, none⟩ (.slice VA k VC)) (some w.heap.size) := only_setCell (only_setCell (only_of_below (Below.refl _ _) _) (p := ⟨w.heap.size, 0, none⟩) (.inl rfl) _) (p := ⟨w.heap.size, 1, none⟩) (.inl rfl) _
            refine bodyPost_ret (results_paper rfl _ _ w.heap.size #[.int .i64 (ep : Int), .slice VA k VC] rfl (by rfl) ?_) rfl ?_
            · exact (heap_setCell_same _ w.heap.size 1 _ _ _ (heap_setCell_same w8 w.heap.size 0 _ _ _ hr8.out)).trans (by rfl)
            · rw [HRG2.out, HRB.out]
              have ho9 := ho8.out.far (b := w.heap.size) (by omega) hg
              refine ⟨⟨VA, VC, ?_, ?_⟩, hB8.out.grown hg (by omega) (fun kk h => by have := Option.some.inj h; omega)⟩
              · show _ = Ending.returned (.tuple #[.agg #[.int .i64 (ep : Int), .slice VA (rdSeats x i3 k).length VC], .int .i64 0])
                rw [rdSeats_length]
                rfl
              · show OwnS _ w.heap.size (.slice VA (rdSeats x i3 k).length VC) (rdSeats x i3 k)
                rw [rdSeats_length]
                exact ho9.lower (by omega)
    · have hm' : ¬ (d : Int) = (n : Int) * 33 := by omega
      have HM := Lib.hid hm
      have c0 := cell_of_row w6 w.heap.size 0 _ _ _ hr6.out
      have c1 := cell_of_row w6 w.heap.size 1 _ _ _ hr6.out
      have f0 := frozen_of_row w6 w.heap.size 0 _ _ hr6.out
      have f1 := frozen_of_row w6 w.heap.size 1 _ _ hr6.out
      simp at c0 c1
      clear hm
      go_wp2_with fail
      have hg : w6.grownBy ((w6.setCell ⟨w.heap.size, 0, none⟩ (.int .i64 0)).setCell ⟨w.heap.size, 1, none⟩ (.slice none 0 0)) (some w.heap.size) := only_setCell (only_setCell (only_of_below (Below.refl _ _) _) (p := ⟨w.heap.size, 0, none⟩) (.inl rfl) _) (p := ⟨w.heap.size, 1, none⟩) (.inl rfl) _
      refine bodyPost_ret (results_paper rfl _ _ w.heap.size #[.int .i64 0, .slice none 0 0] rfl (by rfl) ?_) rfl ?_
      · exact (heap_setCell_same _ w.heap.size 1 _ _ _ (heap_setCell_same w6 w.heap.size 0 _ _ _ hr6.out)).trans (by rfl)
      · rw [HRG.out, if_pos (.inr HM.out)]
        exact ⟨rfl, hB6.grown hg hB6.size (fun kk h => by have := Option.some.inj h; omega)⟩
  · have h80' : ¬ (hd : Int) = 80 := by omega
    have H8 := Lib.hid h80
    have c0 := cell_of_row w5 w.heap.size 0 _ _ _ hr5.out
    have c1 := cell_of_row w5 w.heap.size 1 _ _ _ hr5.out
    have f0 := frozen_of_row w5 w.heap.size 0 _ _ hr5.out
    have f1 := frozen_of_row w5 w.heap.size 1 _ _ hr5.out
    simp at c0 c1
    clear h80
    go_wp2_with fail
    have hg : w5.grownBy ((w5.setCell ⟨w.heap.size, 0, none⟩ (.int .i64 0)).setCell ⟨w.heap.size, 1, none⟩ (.slice none 0 0)) (some w.heap.size) := only_setCell (only_setCell (only_of_below (Below.refl _ _) _) (p := ⟨w.heap.size, 0, none⟩) (.inl rfl) _) (p := ⟨w.heap.size, 1, none⟩) (.inl rfl) _
    refine bodyPost_ret (results_paper rfl _ _ w.heap.size #[.int .i64 0, .slice none 0 0] rfl (by rfl) ?_) rfl ?_
    · exact (heap_setCell_same _ w.heap.size 1 _ _ _ (heap_setCell_same w5 w.heap.size 0 _ _ _ hr5.out)).trans (by rfl)
    · rw [HRG.out, if_pos (.inl H8.out)]
      exact ⟨rfl, hB5.grown hg hB5.size (fun kk h => by have := Option.some.inj h; omega)⟩
end Go.Proofs.Ytljnadbfadgglaa

/- witanref08.Read. No condition. -/
namespace Go.Proofs.Ytljnadbfadgglaa
open Go.RowKit
set_option maxRecDepth 100000
set_option linter.unusedVariables false
set_option linter.unusedSimpArgs false

theorem byte_at (x : ByteArray) (a : Nat) (h : a < x.size) : (x[a]'h).toNat = byteN x a := by
  have hl : a < x.data.toList.length := by rw [Array.length_toList]; exact h
  unfold byteN
  rw [List.getD_eq_getElem?_getD, List.getElem?_eq_getElem hl]
  rfl
theorem byteN_lt (x : ByteArray) (a : Nat) : byteN x a < 256 := UInt8.toNat_lt _

set_option maxHeartbeats 4000000 in
theorem refread_short (x : ByteArray) (hs : x.size < 4) (w : World) :
    Calls Try.prog 32 #[.string x] w fun e w' => e = .returned (.tuple #[.agg #[.int .i64 0, .slice none 0 0], .int .i64 5]) ∧ Below w.heap.size w w' := by
  have hs' : (x.size : Int) < 4 := by omega
  clear hs
  go_enter Try.func32, Try.ntmps32
  go_wp2_with fail
  refine bodyPost_ret (results_paper rfl _ _ w.heap.size #[.int .i64 0, .slice none 0 0] rfl (by rfl) (heap_alloc_new w _)) rfl ?_
  exact ⟨rfl, (Below.refl _ _).alloc (Nat.le_refl _) _⟩
set_option maxHeartbeats 4000000 in
theorem refread_no (x : ByteArray) (hs : 4 ≤ x.size) (hx : x.size ≤ maxLen) (hno : byteN x 0 ≠ 80 ∨ x.size ≠ 4 + 33 * byteN x 3) (w : World) :
    Calls Try.prog 32 #[.string x] w fun e w' => e = .returned (.tuple #[.agg #[.int .i64 0, .slice none 0 0], .int .i64 5]) ∧ Below w.heap.size w w' := by
  have hs' : 4 ≤ (x.size : Int) := by omega
  have q0 := byte_at x 0 (by omega)
  have q3 := byte_at x 3 (by omega)
  have b3 := byteN_lt x 3
  generalize byteN x 0 = b0 at q0 hno
  generalize byteN x 3 = n at q3 hno b3
  have w1 : IntKind.i64.wrap (n : Int) = (n : Int) := by rw [IntKind.wrap_i64]; omega
  have w2 : IntKind.i64.wrap (33 * (n : Int)) = 33 * (n : Int) := by rw [IntKind.wrap_i64]; omega
  have w3 : IntKind.i64.wrap (4 + 33 * (n : Int)) = 4 + 33 * (n : Int) := by rw [IntKind.wrap_i64]; omega
  have p0 : 0 < x.size := by omega
  have p3 : 3 < x.size := by omega
  have p0' : (0 : Int) < (x.size : Int) := by omega
  have p3' : (3 : Int) < (x.size : Int) := by omega
  have p4 : ¬ (x.size : Int) < 4 := by omega
  by_cases h0 : b0 = 80
  · obtain rfl := h0
    have hm : ¬ (x.size : Int) = 4 + 33 * (n : Int) := by rcases hno with h | h; exact absurd rfl h; omega
    clear hno
    go_enter Try.func32, Try.ntmps32
    go_wp2_with fail
    refine bodyPost_ret (results_paper rfl _ _ w.heap.size #[.int .i64 0, .slice none 0 0] rfl (by rfl) (heap_alloc_new w _)) rfl ?_
    exact ⟨rfl, (Below.refl _ _).alloc (Nat.le_refl _) _⟩
  · have h0' : ¬ (b0 : Int) = 80 := by omega
    clear hno h0
    go_enter Try.func32, Try.ntmps32
    go_wp2_with fail
    refine bodyPost_ret (results_paper rfl _ _ w.heap.size #[.int .i64 0, .slice none 0 0] rfl (by rfl) (heap_alloc_new w _)) rfl ?_
    exact ⟨rfl, (Below.refl _ _).alloc (Nat.le_refl _) _⟩

set_option maxHeartbeats 4000000 in
theorem refread_go (x : ByteArray) (hx : x.size ≤ maxLen) (n : Nat) (hb0 : byteN x 0 = 80) (hb3 : byteN x 3 = n) (hm : x.size = 4 + 33 * n) (w : World) :
    Calls Try.prog 32 #[.string x] w fun e w' => ReadOut w (if rightB ((byteN x 1 * 256 + byteN x 2 : Nat) : Int) (rdSeats x 4 n) then some (((byteN x 1 * 256 + byteN x 2 : Nat) : Int), rdSeats x 4 n) else none) w' e ∧ Below w.heap.size w w' := by
  obtain ⟨i0, hi0, hz0, hz1, hz2⟩ := info_parts info_seat
  have Hi0 := Lib.hid hi0
  have Hz0 := Lib.hid hz0
  have Hz1 := Lib.hid hz1
  have Hz2 := Lib.hid hz2
  clear hi0 hz0 hz1 hz2
  have p0 : 0 < x.size := by omega
  have p1 : 1 < x.size := by omega
  have p2 : 2 < x.size := by omega
  have p3 : 3 < x.size := by omega
  have q0 := byte_at x 0 p0
  have q1 := byte_at x 1 p1
  have q2 := byte_at x 2 p2
  have q3 := byte_at x 3 p3
  have b1 := byteN_lt x 1
  have b2 := byteN_lt x 2
  have b3 := byteN_lt x 3
  rw [hb0] at q0
  rw [hb3] at q3 b3
  generalize byteN x 1 = c1 at q1 b1 ⊢
  generalize byteN x 2 = c2 at q2 b2 ⊢
  obtain ⟨ep, hep⟩ : ∃ ep, c1 * 256 + c2 = ep := ⟨_, rfl⟩
  rw [hep]
  obtain ⟨RG, hRG⟩ : ∃ RG, RG = if rightB (ep : Int) (rdSeats x 4 n) = true then some ((ep : Int), rdSeats x 4 n) else none := ⟨_, rfl⟩
  rw [← hRG]
  have HRG2 := Lib.hid hRG
  clear hRG
  have wn1 : IntKind.i64.wrap (n : Int) = (n : Int) := by rw [IntKind.wrap_i64]; omega
  have wn2 : IntKind.i64.wrap (33 * (n : Int)) = 33 * (n : Int) := by rw [IntKind.wrap_i64]; omega
  have wn3 : IntKind.i64.wrap (4 + 33 * (n : Int)) = 4 + 33 * (n : Int) := by rw [IntKind.wrap_i64]; omega
  have wc1 : IntKind.i64.wrap (c1 : Int) = (c1 : Int) := by rw [IntKind.wrap_i64]; omega
  have wc2 : IntKind.i64.wrap (c2 : Int) = (c2 : Int) := by rw [IntKind.wrap_i64]; omega
  have wc3 : IntKind.i64.wrap ((c1 : Int) * 256) = (c1 : Int) * 256 := by rw [IntKind.wrap_i64]; omega
  have wc4 : IntKind.i64.wrap ((c1 : Int) * 256 + (c2 : Int)) = (ep : Int) := by rw [IntKind.wrap_i64]; omega
  have p0' : (0 : Int) < (x.size : Int) := by omega
  have p1' : (1 : Int) < (x.size : Int) := by omega
  have p2' : (2 : Int) < (x.size : Int) := by omega
  have p3' : (3 : Int) < (x.size : Int) := by omega
  have p4' : ¬ (x.size : Int) < 4 := by omega
  have hm' : ((x.size : Int) != 4 + 33 * (n : Int)) = false := by simp; omega
  have p5' : decide ((x.size : Int) < 4) = false := by simp; omega
  have b3' := b3
  have HM := Lib.hid hm
  clear hm hb0 hb3 hep b1 b2
  go_enter Try.func32, Try.ntmps32
  go_wp2_with fail
  clear wn1 wn2 wn3 q0 q3 hm' p5' p0' p3'
  go_region
  obtain ⟨w7, hw7⟩ : ∃ w7, w7 = ((w.alloc (.cells #[.int .i64 0, .slice none 0 0] 50)).alloc (.cells #[.int .i64 (ep : Int), .slice none 0 0] 50)).drew := ⟨_, rfl⟩
  rw [← hw7]
  have hr7 : Hid (w7.heap[w.heap.size]? = some (.cells #[.int .i64 0, .slice none 0 0] 50 (0, 0))) := Lib.hid (by rw [hw7]; exact (heap_alloc_old _ _ (by simp)).trans (heap_alloc_new w _))
  have hp7 : Hid (w7.heap[w.heap.size + 1]? = some (.cells #[.int .i64 (ep : Int), .slice none 0 0] 50 (0, 0))) := Lib.hid (by
    rw [hw7]
    have := heap_alloc_new (w.alloc (.cells #[.int .i64 0, .slice none 0 0] 50)) (.cells #[.int .i64 (ep : Int), .slice none 0 0] 50)
    rw [show (w.alloc (.cells #[.int .i64 0, .slice none 0 0] 50)).heap.size = w.heap.size + 1 by simp] at this
    exact this)
  have hB7 : Hid (Below w.heap.size w w7) := Lib.hid (by rw [hw7]; exact (((Below.refl _ _).alloc (Nat.le_refl _) _).alloc (by simp) _).drew)
  have hlt7 : w.heap.size + 1 + 1 ≤ w7.heap.size := by rw [hw7]; simp
  clear hw7 wc1 wc2 wc3 wc4 q1 q2 p1' p2' p4'
  go_wp2_with fail
  have HX := Lib.hid hx
  have hx63 : x.size ≤ 9223372036854775807 := hx
  go_loopw [5] (fun j wr => ∃ (k a : Nat) (v : Value), k ≤ n ∧ a ≤ x.size ∧ Hid (a = 4 + 33 * k) ∧ j = .int .i64 a ∧ Hid (wr.heap[(w.heap.size + 1)]? = some (.cells #[.int .i64 (ep : Int), v] 50 (0, 0))) ∧ Hid (OwnS wr ((w.heap.size + 1) + 1) v (rdSeats x 4 k)) ∧ Hid (wr.heap[w.heap.size]? = some (.cells #[.int .i64 0, .slice none 0 0] 50 (0, 0))) ∧ (w.heap.size + 1) + 1 ≤ wr.heap.size ∧ Hid (Below w.heap.size w wr)) (fun j _ => x.size - (intOf j).toNat)
  case atStart => exact ⟨0, 4, _, by omega, by omega, Lib.hid (by omega), rfl, hp7, Lib.hid (OwnS.nil _ _), hr7, hlt7, hB7⟩
  case round =>
    obtain ⟨k, a, v, hk, hax, ha, rfl, hp, hos, hr, hz, hbel⟩ := hrel
    by_cases hkn : k < n
    · have n0 : 0 ≤ (a : Int) := by omega
      have hxa : a + 33 ≤ x.size := by have := ha.out; have := HM.out; omega
      have n1 : (a : Int) < (x.size : Int) := by omega
      have q1 : IntKind.i64.wrap ((a : Int) + 1) = (a : Int) + 1 := by rw [IntKind.wrap_i64]; omega
      have q2 : IntKind.i64.wrap ((a : Int) + 1 + 32) = (a : Int) + 33 := by rw [IntKind.wrap_i64]; omega
      have q3 : IntKind.i64.wrap ((a : Int) + 33) = (a : Int) + 33 := by rw [IntKind.wrap_i64]; omega
      have m1 : 0 ≤ (a : Int) + 1 := by omega
      have m2 : (a : Int) + 1 ≤ (a : Int) + 33 := by omega
      have m3 : (a : Int) + 33 ≤ (x.size : Int) := by omega
      have m4 : ((a : Int) + 1).toNat = a + 1 := by omega
      have m5 : ((a : Int) + 33).toNat = a + 33 := by omega
      have m6 : 0 ≤ (a : Int) + 33 := by omega
      obtain ⟨VA, VC, rfl⟩ := own_shape hos.out
      rw [rdSeats_length] at hp hos
      have c1 := cell_of_row wr (w.heap.size + 1) 1 _ _ _ hp.out
      have f1 := frozen_of_row wr (w.heap.size + 1) 1 _ _ hp.out
      simp at c1
      have hkn' := Lib.hid hkn
      clear hkn
      have HR8 : Hid (∀ (W w8 : World) (row : Option Nat), Below wr.heap.size wr W → W.grownBy w8 row → (∀ kk, row = some kk → (w.heap.size + 1) + 1 ≤ kk) → w8.heap[(w.heap.size + 1)]? = some (.cells #[.int .i64 (ep : Int), .slice VA k VC] 50 (0, 0))) := Lib.hid (fun W w8 row hb hg hk => (hg.block (w.heap.size + 1) (by have := hb.size; omega) (fun e => by have := hk _ e.symm; omega)).trans ((hb.block (w.heap.size + 1) (by omega)).trans hp.out))
      have HLT : Hid (∀ kk, Value.ownBlock (.slice VA k VC) = some kk → (w.heap.size + 1) + 1 ≤ kk) := Lib.hid (fun kk hk => (World.ownsRow.lt hos.out kk hk).1)
      have HO2 : Hid (wr.ownsRow ((w.heap.size + 1) + 1) 60 2 (.slice VA k VC) k (seatCells (rdSeats x 4 k))) := Lib.hid (by have := hos.out; unfold OwnS at this; rw [rdSeats_length] at this; exact this)
      have hax' : a < x.size := by omega
      obtain ⟨Bv, hBv⟩ : ∃ Bv, byteN x a = Bv := ⟨_, rfl⟩
      have q5 : (x[a]'hax').toNat = Bv := by
        rw [← hBv]
        have hl : a < x.data.toList.length := by rw [Array.length_toList]; exact hax'
        unfold byteN
        rw [List.getD_eq_getElem?_getD, List.getElem?_eq_getElem hl]
        rfl
      have q6 : IntKind.i64.wrap (Bv : Int) = (Bv : Int) := by have := (x[a]'hax').toNat_lt; rw [IntKind.wrap_i64]; omega
      have HBV := Lib.hid hBv
      have hzlt : (w.heap.size + 1) < wr.heap.size := by omega
      clear hBv
      go_wp2_with fail
      go_region_law (first
        | (refine step_app (by rfl) (.tmp 41) (.tmp 53) 48 (by rfl) ((w.heap.size + 1) + 1) 60 i0 _ 2 24 Try.underlying48 Hi0.out Hz0.out Hz1.out Hz2.out rfl (by omega) _ _ _ (by rfl) ((HO2.out.alloc _).drew) ⟨wr.heap.size, 0, none⟩ 1 1 [_, _] (by rfl) (by rfl) (World.news_of_block (cs := #[_, _]) (t := 60) (fr := (0, 0)) (heap_alloc_new wr _)) (by simp [Value.oneCell']) (by unfold maxLen; omega) (by omega) (by simp; omega) ?_; intro v1 w8 hown1 hg1; obtain ⟨VA2, VC2, rfl⟩ := own_shape hown1; have r2 := HR8.out _ w8 _ (((Below.refl _ _).alloc (Nat.le_refl _) _).drew) hg1 HLT.out; have e0 := cell_of_row w8 (w.heap.size + 1) 1 _ _ _ r2; have f0 := frozen_of_row w8 (w.heap.size + 1) 1 _ _ r2; simp at e0; have R2 := Lib.hid r2; clear r2))
      all_goals
        have hbA : Below w.heap.size w (wr.alloc (.cells #[.int .i64 (Bv : Int), .string (x.extract (a + 1) (a + 33))] 60)).drew := (hbel.out.alloc hbel.out.size _).drew
        have hzA : (wr.alloc (.cells #[.int .i64 (Bv : Int), .string (x.extract (a + 1) (a + 33))] 60)).drew.heap.size = wr.heap.size + 1 := by simp
        have hrA : (wr.alloc (.cells #[.int .i64 (Bv : Int), .string (x.extract (a + 1) (a + 33))] 60)).drew.heap[w.heap.size]? = some (.cells #[.int .i64 0, .slice none 0 0] 50 (0, 0)) := (heap_alloc_old wr _ (show w.heap.size < wr.heap.size by omega)).trans hr.out
        have hb8 : Below w.heap.size w w8 := hbA.grown hg1 (by omega) (fun kk hk => by have := HLT.out kk hk; omega)
        have hr8 := (hg1.block w.heap.size (by omega) (fun e => by have := HLT.out _ e.symm; omega)).trans hrA
        have hz8 := hg1.size
        have hgS : w8.grownBy (w8.setCell ⟨(w.heap.size + 1), 1, none⟩ (.slice VA2 (k + 1) VC2)) (some (w.heap.size + 1)) := only_setCell (only_of_below (Below.refl _ _) _) (p := ⟨(w.heap.size + 1), 1, none⟩) (.inl rfl) _
        have hown9 : OwnS w8 ((w.heap.size + 1) + 1) (.slice VA2 (k + 1) VC2) (rdSeats x 4 (k + 1)) := by
          unfold OwnS
          rw [rdSeats_length, rdSeats_succ, seatCells_snoc, ← ha.out, HBV.out]
          exact hown1
        have hp9 := Lib.hid ((heap_setCell_same w8 (w.heap.size + 1) 1 _ _ (.slice VA2 (k + 1) VC2) R2.out).trans (by rfl : _ = some (.cells #[.int .i64 (ep : Int), .slice VA2 (k + 1) VC2] 50 (0, 0))))
        have ho9 := Lib.hid (hown9.far (by omega) hgS)
        have hr9 := Lib.hid ((hgS.block w.heap.size (by omega) (fun e => by have h := Option.some.inj e; omega)).trans hr8)
        have hz9 : (w.heap.size + 1) + 1 ≤ (w8.setCell ⟨(w.heap.size + 1), 1, none⟩ (.slice VA2 (k + 1) VC2)).heap.size := by have := hgS.size; omega
        have hb9 := Lib.hid (hb8.grown hgS hb8.size (fun kk hk => by have h := Option.some.inj hk; omega))
        generalize w8.setCell ⟨(w.heap.size + 1), 1, none⟩ (.slice VA2 (k + 1) VC2) = w9 at hp9 ho9 hr9 hz9 hb9 ⊢
        clear hbA hzA hrA hb8 hr8 hz8 hgS hown9 hown1 hg1 e0 f0 R2 HR8 HLT HO2 q5 q6 c1 f1 q1 q2 m1 m2 m3 m4 m5 m6 hp hos hr hz
        go_wp2_with fail
        refine ⟨⟨k + 1, a + 33, _, by have := hkn'.out; omega, by omega, Lib.hid (by have := ha.out; omega), by go_num, hp9, ho9, hr9, hz9, hb9⟩, by simp [intOf]; omega⟩
    · obtain rfl : k = n := by omega
      obtain ⟨VA, VC, rfl⟩ := own_shape hos.out
      have hax2 : ¬ (a : Int) < (x.size : Int) := by have := ha.out; have := HM.out; omega
      have hss := (hos.out.seats)
      rw [rdSeats_length] at hp hos hss
      have c0 := cell_of_row wr (w.heap.size + 1) 0 _ _ _ hp.out
      have c1 := cell_of_row wr (w.heap.size + 1) 1 _ _ _ hp.out
      simp at c0 c1
      have HRT := Lib.hid (refright_any (ep : Int) VA k VC (rdSeats x 4 k) wr hss)
      have hzw : w.heap.size < wr.heap.size := by omega
      clear hss hkn
      go_wp2_with fail
      refine HRT.out.mono ?_
      rintro e w8 ⟨rfl, hb8⟩
      have hr8 := Lib.hid ((hb8.block w.heap.size hzw).trans hr.out)
      have hp8 := Lib.hid ((hb8.block (w.heap.size + 1) (by omega)).trans hp.out)
      have ho8 := Lib.hid (hos.out.keep hb8)
      have hB8 := Lib.hid (hbel.out.trans (hb8.mono (by omega)))
      have hz8 : w.heap.size < w8.heap.size := by have := hb8.size; omega
      have r0 := cell_of_row w8 w.heap.size 0 _ _ _ hr8.out
      have r1 := cell_of_row w8 w.heap.size 1 _ _ _ hr8.out
      have f0 := frozen_of_row w8 w.heap.size 0 _ _ hr8.out
      have f1 := frozen_of_row w8 w.heap.size 1 _ _ hr8.out
      have c0 := cell_of_row w8 (w.heap.size + 1) 0 _ _ _ hp8.out
      have c1 := cell_of_row w8 (w.heap.size + 1) 1 _ _ _ hp8.out
      simp at r0 r1 c0 c1
      clear hb8 hr hp hos hbel HRT
      cases hrb : rightB (ep : Int) (rdSeats x 4 k) with
      | false =>
        have HRB := Lib.hid hrb
        clear hrb
        go_wp2_with fail
        have hg : w8.grownBy ((w8.setCell ⟨w.heap.size, 0, none⟩ (.int .i64 0)).setCell ⟨w.heap.size, 1, none⟩ (.slice none 0 0)) (some w.heap.size) := only_setCell (only_setCell (only_of_below (Below.refl _ _) _) (p := ⟨w.heap.size, 0, none⟩) (.inl rfl) _) (p := ⟨w.heap.size, 1, none⟩) (.inl rfl) _
        refine bodyPost_ret (results_paper rfl _ _ w.heap.size #[.int .i64 0, .slice none 0 0] rfl (by rfl) ?_) rfl ?_
        · exact (heap_setCell_same _ w.heap.size 1 _ _ _ (heap_setCell_same w8 w.heap.size 0 _ _ _ hr8.out)).trans (by rfl)
        · rw [HRG2.out, HRB.out]
          exact ⟨rfl, hB8.out.grown hg (by omega) (fun kk h => by have := Option.some.inj h; omega)⟩
      | true =>
        have HRB := Lib.hid hrb
        clear hrb
        go_wp2_with fail
        have hg : w8.grownBy ((w8.setCell ⟨w.heap.size, 0, none⟩ (.int .i64 (ep : Int))).setCell ⟨w.heap.size, 1, none⟩ (.slice VA k VC)) (some w.heap.size) := only_setCell (only_setCell (only_of_below (Below.refl _ _) _) (p := ⟨w.heap.size, 0, none⟩) (.inl rfl) _) (p := ⟨w.heap.size, 1, none⟩) (.inl rfl) _
        refine bodyPost_ret (results_paper rfl _ _ w.heap.size #[.int .i64 (ep : Int), .slice VA k VC] rfl (by rfl) ?_) rfl ?_
        · exact (heap_setCell_same _ w.heap.size 1 _ _ _ (heap_setCell_same w8 w.heap.size 0 _ _ _ hr8.out)).trans (by rfl)
        · rw [HRG2.out, HRB.out]
          have ho9 := ho8.out.far (b := w.heap.size) (by omega) hg
          refine ⟨⟨VA, VC, ?_, ?_⟩, hB8.out.grown hg (by omega) (fun kk h => by have := Option.some.inj h; omega)⟩
          · show _ = Ending.returned (.tuple #[.agg #[.int .i64 (ep : Int), .slice VA (rdSeats x 4 k).length VC], .int .i64 0])
            rw [rdSeats_length]
            rfl
          · show OwnS _ w.heap.size (.slice VA (rdSeats x 4 k).length VC) (rdSeats x 4 k)
            rw [rdSeats_length]
            exact ho9.lower (by omega)

theorem refread_any (x : ByteArray) (hx : x.size ≤ maxLen) (w : World) :
    Calls Try.prog 32 #[.string x] w fun e w' => ReadOut w (readV x) w' e ∧ Below w.heap.size w w' := by
  unfold readV
  by_cases h : x.size < 4 ∨ byteN x 0 ≠ 80 ∨ x.size ≠ 4 + 33 * byteN x 3
  · rw [if_pos h]
    by_cases h4 : x.size < 4
    · exact refread_short x h4 w
    · exact refread_no x (by omega) hx (by rcases h with h | h; omega; exact h) w
  · rw [if_neg h]
    have h0 : byteN x 0 = 80 := Decidable.byContradiction fun y => h (.inr (.inl y))
    have h3 : x.size = 4 + 33 * byteN x 3 := Decidable.byContradiction fun y => h (.inr (.inr y))
    have h4 : ¬ x.size < 4 := fun y => h (.inl y)
    exact refread_go x hx _ h0 rfl h3 w
end Go.Proofs.Ytljnadbfadgglaa

/- Texts that are read, certificates that are read (plain), and the readers' contracts over one model. No condition. -/
namespace Go.Proofs.Ytljnadbfadgglaa
open Go.RowKit
set_option maxRecDepth 100000
set_option linter.unusedVariables false
set_option linter.unusedSimpArgs false

/-- A text that is read: the text, the place behind it, whether something was short. -/
def txN (x : ByteArray) (i : Nat) (bad : Bool) : ByteArray × Nat × Bool :=
  if bad = true ∨ x.size < i + 2 ∨ x.size < i + 2 + beN ((x.data.toList.drop i).take 2) then (⟨#[]⟩, i, true)
  else (x.extract (i + 2) (i + 2 + beN ((x.data.toList.drop i).take 2)), i + 2 + beN ((x.data.toList.drop i).take 2), false)
theorem txN_le (x : ByteArray) (i : Nat) (hi : i ≤ x.size) (bad : Bool) : (txN x i bad).2.1 ≤ x.size := by
  unfold txN
  by_cases h : bad = true ∨ x.size < i + 2 ∨ x.size < i + 2 + beN ((x.data.toList.drop i).take 2)
  · rw [if_pos h]; exact hi
  · rw [if_neg h]
    have h3 : ¬ x.size < i + 2 + beN ((x.data.toList.drop i).take 2) := fun y => h (.inr (.inr y))
    show i + 2 + beN ((x.data.toList.drop i).take 2) ≤ x.size
    omega
theorem txN_size (x : ByteArray) (i : Nat) (bad : Bool) : (txN x i bad).1.size ≤ 65535 := by
  unfold txN
  by_cases h : bad = true ∨ x.size < i + 2 ∨ x.size < i + 2 + beN ((x.data.toList.drop i).take 2)
  · rw [if_pos h]; exact Nat.zero_le _
  · rw [if_neg h]
    have := beN_lt ((x.data.toList.drop i).take 2) (by rw [List.length_take]; omega)
    rw [ByteArray.size_extract]
    omega
theorem text_u (b : Nat) (x : ByteArray) (hx : x.size ≤ maxLen) (i : Nat) (hi : i ≤ x.size) (bad : Bool) (w : World) (h : RdAt w b x i bad) :
    Calls Try.prog 98 #[.pointer (some ⟨b, 0, none⟩)] w fun e w' => e = .returned (.string (txN x i bad).1) ∧ RdAt w' b x (txN x i bad).2.1 (txN x i bad).2.2 ∧ w.grownBy w' (some b) := by
  unfold txN
  by_cases hc : bad = true ∨ x.size < i + 2 ∨ x.size < i + 2 + beN ((x.data.toList.drop i).take 2)
  · rw [if_pos hc]
    cases bad with
    | true => exact (text_bad b x i w h).mono fun e w' ⟨he, hw⟩ => ⟨he, by subst hw; exact h, below_only hw⟩
    | false =>
      by_cases h2 : x.size < i + 2
      · exact text_short b x hx i hi h2 w h
      · exact text_over b x hx i _ (by omega) rfl (by rcases hc with h | h | h; cases h; omega; exact h) w h
  · rw [if_neg hc]
    have hb : bad = false := by cases bad with | true => exact absurd (.inl rfl) hc | false => rfl
    subst hb
    have h2 : ¬ x.size < i + 2 := fun y => hc (.inr (.inl y))
    have h3 : ¬ x.size < i + 2 + beN ((x.data.toList.drop i).take 2) := fun y => hc (.inr (.inr y))
    exact text_yes b x hx i _ (by omega) rfl (by omega) w h

/-- The reference's reader at a place of a text. -/
def RfAt (w : World) (b : Nat) (x : ByteArray) (i : Nat) (bad : Bool) : Prop := RrAt w b (x.data.toList.drop i) bad
theorem RfAt.lt {w : World} {b : Nat} {x : ByteArray} {i : Nat} {bad : Bool} (h : RfAt w b x i bad) : b < w.heap.size := RrAt.lt h
theorem RfAt.keep {w w' : World} {b : Nat} {x : ByteArray} {i : Nat} {bad : Bool} (h : RfAt w b x i bad) (hb : Below w.heap.size w w') : RfAt w' b x i bad := RrAt.keep h hb
theorem len_drop (x : ByteArray) (i : Nat) : (x.data.toList.drop i).length = x.size - i := by rw [List.length_drop, Array.length_toList]; rfl
theorem rrN_rdN (x : ByteArray) (m i : Nat) (hi : i ≤ x.size) (bad : Bool) : rrN m (x.data.toList.drop i) bad = ((rdN x m i bad).1, x.data.toList.drop (rdN x m i bad).2.1, (rdN x m i bad).2.2) := by
  unfold rrN rdN
  rw [len_drop]
  cases bad with
  | true => rw [if_pos (.inl rfl), if_pos rfl]
  | false =>
    by_cases h : x.size < i + m
    · rw [if_pos (.inr (by omega)), if_neg (by simp), if_pos h]
    · rw [if_neg (by rintro (y | y); cases y; omega), if_neg (by simp), if_neg h, List.drop_drop]
theorem rnum_u (b : Nat) (x : ByteArray) (m i : Nat) (hm : m ≤ 2) (hi : i ≤ x.size) (bad : Bool) (w : World) (h : RfAt w b x i bad) :
    Calls Try.prog 101 #[.pointer (some ⟨b, 0, none⟩), .int .i64 (m : Int)] w fun e w' => e = .returned (.int .i64 (((rdN x m i bad).1 : Nat) : Int)) ∧ RfAt w' b x (rdN x m i bad).2.1 (rdN x m i bad).2.2 ∧ w.grownBy w' (some b) := by
  have := rr_num b (x.data.toList.drop i) bad m hm w h
  rw [rrN_rdN x m i hi bad] at this
  exact this
theorem rend_u (b : Nat) (x : ByteArray) (i : Nat) (hi : i ≤ x.size) (bad : Bool) (w : World) (h : RfAt w b x i bad) :
    Calls Try.prog 102 #[.pointer (some ⟨b, 0, none⟩)] w fun e w' => e = .returned (.int .i64 (endN x i bad)) ∧ w = w' := by
  have := rr_end b (x.data.toList.drop i) bad w h
  have e : rrE (x.data.toList.drop i) bad = endN x i bad := by
    unfold rrE endN
    rw [len_drop]
    cases bad with
    | true => rfl
    | false =>
      by_cases h : i < x.size
      · have h' : 0 < x.size - i := by omega
        simp [h, h']
      · have h' : ¬ 0 < x.size - i := by omega
        simp [h, h']
  rw [e] at this
  exact this
theorem extract_bs (x : ByteArray) (i n : Nat) : x.extract (i + 2) (i + 2 + n) = bs (((x.data.toList.drop i).drop 2).take n) := by
  have h := bs_extract x.data.toList (i + 2) (i + 2 + n)
  rw [bs_of] at h
  rw [h, Nat.add_sub_cancel_left, List.drop_drop]
theorem rtext_u (b : Nat) (x : ByteArray) (hx : x.size ≤ maxLen) (i : Nat) (hi : i ≤ x.size) (bad : Bool) (w : World) (h : RfAt w b x i bad) :
    Calls Try.prog 100 #[.pointer (some ⟨b, 0, none⟩)] w fun e w' => e = .returned (.string (txN x i bad).1) ∧ RfAt w' b x (txN x i bad).2.1 (txN x i bad).2.2 ∧ w.grownBy w' (some b) := by
  have hl := len_drop x i
  by_cases hc : bad = true ∨ x.size < i + 2 ∨ x.size < i + 2 + beN ((x.data.toList.drop i).take 2)
  · have ht : txN x i bad = (⟨#[]⟩, i, true) := by unfold txN; exact if_pos hc
    rw [ht]
    cases bad with
    | true => exact rtext_no b (x.data.toList.drop i) true (.inl rfl) w h
    | false =>
      by_cases h2 : x.size < i + 2
      · exact rtext_no b (x.data.toList.drop i) false (.inr (by omega)) w h
      · exact rtext_over b (x.data.toList.drop i) (by omega) (by omega) (by rcases hc with h | h | h; cases h; omega; omega) w h
  · have ht : txN x i bad = (x.extract (i + 2) (i + 2 + beN ((x.data.toList.drop i).take 2)), i + 2 + beN ((x.data.toList.drop i).take 2), false) := by unfold txN; exact if_neg hc
    rw [ht]
    have hb : bad = false := by cases bad with | true => exact absurd (.inl rfl) hc | false => rfl
    subst hb
    have h2 : ¬ x.size < i + 2 := fun y => hc (.inr (.inl y))
    have h3 : ¬ x.size < i + 2 + beN ((x.data.toList.drop i).take 2) := fun y => hc (.inr (.inr y))
    refine (rtext_yes b (x.data.toList.drop i) (by omega) (by omega) _ rfl (by omega) w h).mono ?_
    rintro e w' ⟨he, hr, hg⟩
    refine ⟨by rw [he, extract_bs], ?_, hg⟩
    show RrAt w' b (x.data.toList.drop (i + 2 + beN ((x.data.toList.drop i).take 2))) false
    rw [List.drop_drop, ← Nat.add_assoc] at hr
    exact hr

/-- k signatures. -/
def sgN (x : ByteArray) : Nat → Nat → Bool → List St × Nat × Bool
  | 0, i, b => ([], i, b)
  | k + 1, i, b => ((sgN x k i b).1 ++ [(((rdN x 1 (sgN x k i b).2.1 (sgN x k i b).2.2).1 : Int), (txN x (rdN x 1 (sgN x k i b).2.1 (sgN x k i b).2.2).2.1 (rdN x 1 (sgN x k i b).2.1 (sgN x k i b).2.2).2.2).1)], (txN x (rdN x 1 (sgN x k i b).2.1 (sgN x k i b).2.2).2.1 (rdN x 1 (sgN x k i b).2.1 (sgN x k i b).2.2).2.2).2)
theorem sgN_length (x : ByteArray) (i : Nat) (b : Bool) : ∀ k, (sgN x k i b).1.length = k
  | 0 => rfl
  | k + 1 => by
    show ((sgN x k i b).1 ++ [_]).length = k + 1
    rw [List.length_append, sgN_length x i b k]
    rfl
theorem sgN_le (x : ByteArray) (i : Nat) (hi : i ≤ x.size) (b : Bool) : ∀ k, (sgN x k i b).2.1 ≤ x.size
  | 0 => hi
  | k + 1 => txN_le x _ (rdN_le x 1 _ (sgN_le x i hi b k) _) _
/-- A certificate that is read: the epoch, the seats, the paper's bytes, the signatures. -/
def openG (x : ByteArray) : Option (Int × List St × ByteArray × List St) :=
  if 16 < (rdN x 1 (txN x 0 false).2.1 (txN x 0 false).2.2).1 then none
  else match readV (txN x 0 false).1 with
    | none => none
    | some p => if endN x (sgN x (rdN x 1 (txN x 0 false).2.1 (txN x 0 false).2.2).1 (rdN x 1 (txN x 0 false).2.1 (txN x 0 false).2.2).2.1 (rdN x 1 (txN x 0 false).2.1 (txN x 0 false).2.2).2.2).2.1 (sgN x (rdN x 1 (txN x 0 false).2.1 (txN x 0 false).2.2).1 (rdN x 1 (txN x 0 false).2.1 (txN x 0 false).2.2).2.1 (rdN x 1 (txN x 0 false).2.1 (txN x 0 false).2.2).2.2).2.2 = 0
      then some (p.1, p.2, (txN x 0 false).1, (sgN x (rdN x 1 (txN x 0 false).2.1 (txN x 0 false).2.2).1 (rdN x 1 (txN x 0 false).2.1 (txN x 0 false).2.2).2.1 (rdN x 1 (txN x 0 false).2.1 (txN x 0 false).2.2).2.2).1) else none
/-- Pairs of the call's own, of whatever type of two cells. -/
def OwnP (T : TypeId) (w : World) (base : Nat) (v : Value) (l : List St) : Prop := w.ownsRow base T 2 v l.length (seatCells l)
theorem OwnP.keep {T : TypeId} {w w' : World} {base : Nat} {v : Value} {l : List St} (h : OwnP T w base v l) (hb : Below w.heap.size w w') : OwnP T w' base v l :=
  World.ownsRow.kept h (row := none) (only_of_below hb none) (by cases hn : Value.ownBlock _ <;> simp)
theorem OwnP.far {T : TypeId} {w w' : World} {base b : Nat} {v : Value} {l : List St} (h : OwnP T w base v l) (hb : b < base) (hg : w.grownBy w' (some b)) : OwnP T w' base v l :=
  World.ownsRow.kept h hg (.inr (fun e => by have := (World.ownsRow.lt h b e).1; omega))
theorem OwnP.nil (T : TypeId) (w : World) (base : Nat) : OwnP T w base (.slice none 0 0) [] := World.ownsRow_nil _ _ _ _
theorem OwnP.lower {T : TypeId} {w : World} {base b : Nat} {v : Value} {l : List St} (h : OwnP T w base v l) (hb : b ≤ base) : OwnP T w b v l := by
  refine ⟨h.1, ?_⟩
  rcases h.2 with h1 | ⟨g, cap, cur, h1, h2, h3⟩
  · exact .inl h1
  · exact .inr ⟨g, cap, cur, h1, Nat.le_trans hb h2, h3⟩
theorem OwnP.seats {T : TypeId} {w : World} {base n c : Nat} {A : Option Addr} {l : List St} (h : OwnP T w base (.slice A n c) l) : Seats w A n c l := by
  rcases h.2 with ⟨h1, h2⟩ | ⟨g, cap, cur, hv, hb, hg, hn, hm, hcs, ht⟩
  · have hl : l = [] := List.eq_nil_of_length_eq_zero h2
    subst hl
    injection h1 with e1 e2 e3
    subst e1; subst e2; subst e3
    exact ⟨rfl, Nat.le_refl _, Nat.zero_le _, fun _ => ⟨rfl, rfl⟩, fun _ h => by cases h⟩
  · injection hv with e1 e2 e3
    subst e1; subst e2; subst e3
    refine ⟨rfl, hn, hm, (fun h => by cases h), fun ad had => ?_⟩
    cases had
    have hlt := (Array.getElem?_eq_some_iff.1 hg).1
    refine ⟨g, 0, fun _ => ⟨rfl, hlt⟩, fun i hi => ?_⟩
    have hc := World.ownsRow.cells h (g := g) rfl
    obtain ⟨h1, h2⟩ := seatCells_get l i hi
    have k1 := hc _ _ h1
    have k2 := hc _ _ h2
    have a1 : ∀ j, (⟨g, 0, none⟩ : Addr).add j = ⟨g, 0 + j, none⟩ := fun j => by unfold Addr.add; split <;> simp_all
    rw [a1] at k1 k2
    exact ⟨k1, k2⟩
theorem info_signed : (Try.prog.info? 75).map (fun i => (i.zero, i.size, i.bytes)) = some (some (.agg #[.int .i64 0, .string ⟨#[]⟩]), 2, 24) := by kernel_rfl
theorem info_signed8 : (Try.prog.info? 105).map (fun i => (i.zero, i.size, i.bytes)) = some (some (.agg #[.int .i64 0, .string ⟨#[]⟩]), 2, 24) := by kernel_rfl
end Go.Proofs.Ytljnadbfadgglaa

/- papers.open. No condition. -/
namespace Go.Proofs.Ytljnadbfadgglaa
open Go.RowKit
set_option maxRecDepth 100000
set_option linter.unusedVariables false
set_option linter.unusedSimpArgs false

/-- What opening gives. -/
def OpenOut (w : World) (r : Option (Int × List St × ByteArray × List St)) (w' : World) (x : Ending) : Prop :=
  match r with
  | none => ∃ a A n c t B m d, x = .returned (.tuple #[.agg #[.int .i64 a, .slice A n c, .string t, .slice B m d], .bool false])
  | some p => ∃ A c B d, x = .returned (.tuple #[.agg #[.int .i64 p.1, .slice A p.2.1.length c, .string p.2.2.1, .slice B p.2.2.2.length d], .bool true]) ∧ OwnS w' w.heap.size (.slice A p.2.1.length c) p.2.1 ∧ OwnP 75 w' w.heap.size (.slice B p.2.2.2.length d) p.2.2.2

theorem set_four (w : World) (g : Nat) (T : TypeId) (o0 o1 o2 o3 v0 v1 v2 v3 : Value) (h : w.heap[g]? = some (.cells #[o0, o1, o2, o3] T (0, 0))) :
    ((((w.setCell ⟨g, 0, none⟩ v0).setCell ⟨g, 1, none⟩ v1).setCell ⟨g, 2, none⟩ v2).setCell ⟨g, 3, none⟩ v3).heap[g]? = some (.cells #[v0, v1, v2, v3] T (0, 0)) ∧
    w.grownBy ((((w.setCell ⟨g, 0, none⟩ v0).setCell ⟨g, 1, none⟩ v1).setCell ⟨g, 2, none⟩ v2).setCell ⟨g, 3, none⟩ v3) (some g) := by
  refine ⟨?_, only_setCell (only_setCell (only_setCell (only_setCell (only_of_below (Below.refl _ _) _) (p := ⟨g, 0, none⟩) (.inl rfl) _) (p := ⟨g, 1, none⟩) (.inl rfl) _) (p := ⟨g, 2, none⟩) (.inl rfl) _) (p := ⟨g, 3, none⟩) (.inl rfl) _⟩
  exact (heap_setCell_same _ g 3 _ _ _ (heap_setCell_same _ g 2 _ _ _ (heap_setCell_same _ g 1 _ _ _ (heap_setCell_same w g 0 _ _ _ h)))).trans (by rfl)
theorem blk_keep {W0 W w8 : World} {row : Option Nat} {cb : Nat} {C : Obj} (h : W0.heap[cb]? = some C) (hb : Below W0.heap.size W0 W) (hg : W.grownBy w8 row) (hr : ∀ kk, row = some kk → cb + 1 ≤ kk) : w8.heap[cb]? = some C := by
  have hl : cb < W0.heap.size := (Array.getElem?_eq_some_iff.1 h).1
  exact (hg.block cb (by have := hb.size; omega) (fun e => by have := hr _ e.symm; omega)).trans ((hb.block cb hl).trans h)
theorem blk_far {W w8 : World} {rb cb : Nat} {C : Obj} (h : W.heap[cb]? = some C) (hg : W.grownBy w8 (some rb)) (hne : cb ≠ rb) : w8.heap[cb]? = some C :=
  (hg.block cb (Array.getElem?_eq_some_iff.1 h).1 (fun e => hne (Option.some.inj e))).trans h
/-- Two results, the first one a certificate in memory. -/
theorem results_cert {fn : Func} {p q : Tmp} (h : fn.results = #[.cell p 99, .tmp q]) (tmps : Array Value) (w : World) (g : Nat) (cs : Array Value) (hs : cs.size = 4)
    (hp : tmps.getD p undef = .pointer (some ⟨g, 0, none⟩)) (hg : w.heap[g]? = some (.cells cs 99 (0, 0))) :
    (results fn tmps).run Try.prog w = .ok (.tuple #[.agg cs, tmps.getD q undef]) w := by
  have hp' : tmps[p]?.getD undef = .pointer (some ⟨g, 0, none⟩) := by simpa using hp
  have hl := run_loadVar_row (P := Try.prog) w g 99 99 cs (0, 0) _ hg Try.underlying99 rfl (by rw [hs]; kernel_rfl)
  simp [results, h, hp', asAddr, hl]

set_option maxHeartbeats 4000000 in
theorem open_any (x : ByteArray) (hx : x.size ≤ maxLen) (w : World) :
    Calls Try.prog 63 #[.string x] w fun e w' => OpenOut w (openG x) w' e ∧ Below w.heap.size w w' := by
  obtain ⟨i0, hi0, hz0, hz1, hz2⟩ := info_parts info_signed
  have Hi0 := Lib.hid hi0
  have Hz0 := Lib.hid hz0
  have Hz1 := Lib.hid hz1
  have Hz2 := Lib.hid hz2
  clear hi0 hz0 hz1 hz2
  have HRG := Lib.hid (show openG x = _ by unfold openG; rfl)
  have H1 := fun (b : Nat) (w : World) (h : RdAt w b x 0 false) => Lib.hid (text_u b x hx 0 (Nat.zero_le _) false w h)
  have l1 := txN_le x 0 (Nat.zero_le _) false
  have s1 := txN_size x 0 false
  generalize txN x 0 false = r1 at HRG H1 l1 s1
  obtain ⟨t, i1, k1⟩ := r1
  simp only at l1 HRG s1
  have H2 := fun (b : Nat) (w : World) (h : RdAt w b x i1 k1) => Lib.hid (rd_byte b x hx i1 l1 k1 w h)
  have l2 := rdN_le x 1 i1 l1 k1
  have b2 := rdN_lt x 1 i1 (by omega) k1
  generalize rdN x 1 i1 k1 = r2 at HRG H2 l2 b2
  obtain ⟨n, i2, k2⟩ := r2
  simp only at l2 b2 HRG H1 H2
  have HSL := Lib.hid (fun k => sgN_le x i2 l2 k2 k)
  have HNUM := fun (k b : Nat) (w : World) (h : RdAt w b x (sgN x k i2 k2).2.1 (sgN x k i2 k2).2.2) => Lib.hid (rd_byte b x hx _ (sgN_le x i2 l2 k2 k) _ w h)
  have HTXT := fun (k b : Nat) (w : World) (h : RdAt w b x (rdN x 1 (sgN x k i2 k2).2.1 (sgN x k i2 k2).2.2).2.1 (rdN x 1 (sgN x k i2 k2).2.1 (sgN x k i2 k2).2.2).2.2) => Lib.hid (text_u b x hx _ (rdN_le x 1 _ (sgN_le x i2 l2 k2 k) _) _ w h)
  have HEND := fun (k b : Nat) (w : World) (h : RdAt w b x (sgN x k i2 k2).2.1 (sgN x k i2 k2).2.2) => Lib.hid (rd_end b x hx _ (sgN_le x i2 l2 k2 k) _ w h)
  have HREAD := fun (w : World) => Lib.hid (read_any t (by unfold maxLen; omega) w)
  rw [readG_eq] at HREAD
  clear l1 l2 hx
  go_enter Try.func63, Try.ntmps63
  go_wp2_with fail
  obtain ⟨w0, hw0⟩ : ∃ w0, w0 = w.alloc (.cells #[.int .i64 0, .slice none 0 0, .string ⟨#[]⟩, .slice none 0 0] 99) := ⟨_, rfl⟩
  rw [← hw0]
  have hz0 : w.heap.size < w0.heap.size := by rw [hw0]; simp
  have hr0 : Hid (w0.heap[w.heap.size]? = some (.cells #[.int .i64 0, .slice none 0 0, .string ⟨#[]⟩, .slice none 0 0] 99 (0, 0))) := Lib.hid (by rw [hw0]; exact heap_alloc_new w _)
  have hB0 : Below w.heap.size w w0 := by rw [hw0]; exact (Below.refl _ _).alloc (Nat.le_refl _) _
  clear hw0
  refine (rd_new x w0).mono ?_
  rintro e w1 ⟨rfl, hrd1, hb1⟩
  have hr1 := Lib.hid ((hb1.block _ hz0).trans hr0.out)
  have hB1 := hB0.trans (hb1.mono (by omega))
  clear hB0 hb1 hr0
  go_wp2_with fail
  refine (H1 w0.heap.size w1 hrd1).out.mono ?_
  rintro e w2 ⟨rfl, hrd2, hg2⟩
  have hr2 := Lib.hid ((hg2.block w.heap.size (by have := hB1.size; have := hrd1.lt; omega) (fun e => by have h := Option.some.inj e; omega)).trans hr1.out)
  have hB2 := hB1.grown hg2 hB1.size (fun kk hk => by have h := Option.some.inj hk; omega)
  have hbase := hrd2.lt
  clear hrd1 hr1 hg2 hB1
  go_wp2_with fail
  have hal : Below w2.heap.size w2 (w2.alloc (.cells #[.int .i64 0, .slice none 0 0, .string t, .slice none 0 0] 99)) := (Below.refl _ _).alloc (Nat.le_refl _) _
  have hrd3 := hrd2.keep hal
  have hr3 := Lib.hid ((hal.block w.heap.size (by omega)).trans hr2.out)
  have hB3 := hB2.trans (hal.mono hB2.size)
  have hc3 := Lib.hid (heap_alloc_new w2 (.cells #[.int .i64 0, .slice none 0 0, .string t, .slice none 0 0] 99))
  have hz3 : w2.heap.size < (w2.alloc (.cells #[.int .i64 0, .slice none 0 0, .string t, .slice none 0 0] 99)).heap.size := by simp
  generalize w2.alloc (.cells #[.int .i64 0, .slice none 0 0, .string t, .slice none 0 0] 99) = w3 at hal hrd3 hr3 hB3 hc3 hz3 ⊢
  clear hrd2 hr2 hB2 hal
  refine (H2 w0.heap.size w3 hrd3).out.mono ?_
  rintro e w4 ⟨rfl, hrd4, hg4⟩
  have hr4 := Lib.hid ((hg4.block w.heap.size (by omega) (fun e => by have h := Option.some.inj e; omega)).trans hr3.out)
  have hc4 := Lib.hid ((hg4.block w2.heap.size hz3 (fun e => by have h := Option.some.inj e; omega)).trans hc3.out)
  have hB4 := hB3.grown hg4 hB3.size (fun kk hk => by have h := Option.some.inj hk; omega)
  have hz4 := hg4.size
  have hlt4 : w2.heap.size + 1 ≤ w4.heap.size := by omega
  obtain ⟨cb, hcb⟩ : ∃ cb, w2.heap.size = cb := ⟨_, rfl⟩
  rw [hcb] at hlt4 hc4 hbase hz3
  rw [hcb]
  obtain ⟨rb, hrb⟩ : ∃ rb, w0.heap.size = rb := ⟨_, rfl⟩
  rw [hrb] at hbase hrd4 hz0
  rw [hrb]
  clear hrd3 hr3 hg4 hB3 hc3 hz4 hcb hrb hz3 H1 H2
  by_cases h16 : 16 < n
  · have H16 := Lib.hid h16
    have h16' : 16 < (n : Int) := by omega
    have c0 := cell_of_row w4 cb 0 _ _ _ hc4.out
    have c1 := cell_of_row w4 cb 1 _ _ _ hc4.out
    have c2 := cell_of_row w4 cb 2 _ _ _ hc4.out
    have c3 := cell_of_row w4 cb 3 _ _ _ hc4.out
    have r0 := cell_of_row w4 w.heap.size 0 _ _ _ hr4.out
    have r1 := cell_of_row w4 w.heap.size 1 _ _ _ hr4.out
    have r2 := cell_of_row w4 w.heap.size 2 _ _ _ hr4.out
    have r3 := cell_of_row w4 w.heap.size 3 _ _ _ hr4.out
    have f0 := frozen_of_row w4 w.heap.size 0 _ _ hr4.out
    have f1 := frozen_of_row w4 w.heap.size 1 _ _ hr4.out
    have f2 := frozen_of_row w4 w.heap.size 2 _ _ hr4.out
    have f3 := frozen_of_row w4 w.heap.size 3 _ _ hr4.out
    simp at c0 c1 c2 c3 r0 r1 r2 r3
    clear h16
    go_wp2_with fail
    obtain ⟨hs1, hs2⟩ := set_four w4 w.heap.size _ _ _ _ _ (.int .i64 0) (.slice none 0 0) (.string t) (.slice none 0 0) hr4.out
    refine bodyPost_ret (results_cert rfl _ _ w.heap.size _ rfl (by rfl) hs1) rfl ?_
    rw [HRG.out, if_pos H16.out]
    exact ⟨⟨_, _, _, _, _, _, _, _, rfl⟩, hB4.grown hs2 hB4.size (fun kk h => by have := Option.some.inj h; omega)⟩
  · have h16' : (n : Int) ≤ 16 := by omega
    have HRG2 := Lib.hid (HRG.out.trans (if_neg h16))
    clear HRG h16
    go_wp2_with fail
    have HC4 : Hid (w4.heap[cb]? = some (.cells #[.int .i64 0, .slice none 0 0, .string t, .slice none 0 0] 99 (0, 0))) := hc4
    have HRD4 : Hid (RdAt w4 rb x (sgN x 0 i2 k2).2.1 (sgN x 0 i2 k2).2.2) := Lib.hid hrd4
    have HB4 := Lib.hid hB4
    clear hrd4 hB4
    go_loopw [21] (fun j wr => ∃ (k : Nat) (v : Value), k ≤ n ∧ j = .int .i64 k ∧ Hid (RdAt wr rb x (sgN x k i2 k2).2.1 (sgN x k i2 k2).2.2) ∧ Hid (wr.heap[cb]? = some (.cells #[.int .i64 0, .slice none 0 0, .string t, v] 99 (0, 0))) ∧ Hid (OwnP 75 wr (cb + 1) v (sgN x k i2 k2).1) ∧ Hid (wr.heap[w.heap.size]? = some (.cells #[.int .i64 0, .slice none 0 0, .string ⟨#[]⟩, .slice none 0 0] 99 (0, 0))) ∧ cb + 1 ≤ wr.heap.size ∧ Hid (Below w.heap.size w wr)) (fun j _ => n - (intOf j).toNat)
    case atStart => exact ⟨0, _, by omega, rfl, HRD4, HC4, Lib.hid (OwnP.nil _ _ _), hr4, hlt4, HB4⟩
    case round =>
      obtain ⟨k, v, hk, rfl, hrd, hc, hos, hr, hz, hbel⟩ := hrel
      by_cases hkn : k < n
      · have n0 : 0 ≤ (k : Int) := by omega
        have n1 : (k : Int) < (n : Int) := by omega
        have HN := HNUM k
        have HT := HTXT k
        have HS : Hid (sgN x (k + 1) i2 k2 = ((sgN x k i2 k2).1 ++ [(((rdN x 1 (sgN x k i2 k2).2.1 (sgN x k i2 k2).2.2).1 : Int), (txN x (rdN x 1 (sgN x k i2 k2).2.1 (sgN x k i2 k2).2.2).2.1 (rdN x 1 (sgN x k i2 k2).2.1 (sgN x k i2 k2).2.2).2.2).1)], (txN x (rdN x 1 (sgN x k i2 k2).2.1 (sgN x k i2 k2).2.2).2.1 (rdN x 1 (sgN x k i2 k2).2.1 (sgN x k i2 k2).2.2).2.2).2)) := Lib.hid rfl
        have hsl := sgN_length x i2 k2 k
        generalize rdN x 1 (sgN x k i2 k2).2.1 (sgN x k i2 k2).2.2 = q at HN HT HS
        obtain ⟨id, j1, c1⟩ := q
        simp only at HN HT HS
        generalize txN x j1 c1 = q at HT HS
        obtain ⟨sx, j2, c2⟩ := q
        simp only at HT HS
        have HN1 := HN rb wr hrd.out
        generalize sgN x k i2 k2 = S0 at HN1 HS hsl hos
        obtain ⟨l0, j0, c0⟩ := S0
        simp only at HN1 HS hsl hos
        subst hsl
        obtain ⟨VA, VC, rfl⟩ := own_shape hos.out
        clear HN
        go_wp2_with fail
        refine HN1.out.mono ?_
        rintro e w5 ⟨rfl, hrd5, hg5⟩
        have hc5 := blk_far hc.out hg5 (by omega)
        have hr5 := Lib.hid (blk_far hr.out hg5 (by omega))
        have ho5 := Lib.hid (hos.out.far (b := rb) (by omega) hg5)
        have hB5 := Lib.hid (hbel.out.grown hg5 hbel.out.size (fun kk hk => by have h := Option.some.inj hk; omega))
        have hz5 : cb + 1 ≤ w5.heap.size := by have := hg5.size; omega
        have HRD5 := Lib.hid hrd5
        have c5 := cell_of_row w5 cb 3 _ _ _ hc5
        have HC5 := Lib.hid hc5
        simp at c5
        have HCALL : Hid (∀ w6 : World, w5.drew.grownBy w6 (some rb) → Hid (w6.heap[cb]? = some (.cells #[.int .i64 0, .slice none 0 0, .string t, .slice VA l0.length VC] 99 (0, 0))) ∧ w6.cell? ⟨cb, 3, none⟩ = some (.slice VA l0.length VC) ∧ Hid (w6.ownsRow (cb + 1) 75 2 (.slice VA l0.length VC) l0.length (seatCells l0)) ∧ cb < w6.heap.size) := Lib.hid (fun w6 hg6 => by
          have hc6 := blk_far (W := w5.drew) hc5 hg6 (by omega)
          refine ⟨Lib.hid hc6, ?_, Lib.hid (OwnP.far (w := w5.drew) (b := rb) ho5.out (by omega) hg6), (Array.getElem?_eq_some_iff.1 hc6).1⟩
          rw [cell_of_row w6 cb 3 _ _ _ hc6]
          rfl)
        have HLT : Hid (∀ kk, Value.ownBlock (.slice VA l0.length VC) = some kk → cb + 1 ≤ kk) := Lib.hid (fun kk hk => (World.ownsRow.lt ho5.out kk hk).1)
        clear hrd5 hg5 hc hr hos hbel HN1 hc5 hrd
        go_wp2_with fail
        go_region_law (first
          | (go_simp; go_at_call 98; refine (HT rb w5.drew HRD5.out).out.mono ?_; rintro e w6 ⟨rfl, hrd6, hg6⟩; obtain ⟨HC6, c6, HO6, hzl⟩ := HCALL.out w6 hg6)
          | (refine step_app (by rfl) (.tmp 26) (.tmp 31) 64 (by rfl) (cb + 1) 75 i0 _ 2 24 Try.underlying64 Hi0.out Hz0.out Hz1.out Hz2.out rfl (by omega) _ _ _ (by rfl) (World.ownsRow.alloc HO6.out _) ⟨w6.heap.size, 0, none⟩ 1 1 [_, _] (by rfl) (by rfl) (World.news_of_block (cs := #[_, _]) (t := 75) (fr := (0, 0)) (heap_alloc_new w6 _)) (by simp [Value.oneCell']) (by unfold maxLen; omega) (by omega) (by simp; omega) ?_; intro v1 w8 hown1 hg1; obtain ⟨VA2, VC2, rfl⟩ := own_shape hown1; have r2 := blk_keep HC6.out ((Below.refl _ _).alloc (Nat.le_refl _) _) hg1 HLT.out; have e0 := cell_of_row w8 cb 3 _ _ _ r2; have f0 := frozen_of_row w8 cb 3 _ _ r2; simp at e0; have R2 := Lib.hid r2; clear r2))
        all_goals
          have hr6 := blk_far (W := w5.drew) hr5.out hg6 (by omega)
          have hz6 := hg6.size
          have hz6 : w5.heap.size ≤ w6.heap.size := by simpa using hz6
          have hb6 : Below w.heap.size w w6 := (hB5.out.drew).grown hg6 (by simp; omega) (fun kk hk => by have h := Option.some.inj hk; omega)
          have hal : Below w6.heap.size w6 (w6.alloc (.cells #[.int .i64 (id : Int), .string sx] 75)) := (Below.refl _ _).alloc (Nat.le_refl _) _
          have hz7 := hal.size
          have hrd8 := blk_keep hrd6 hal hg1 (fun kk hk => by have := HLT.out kk hk; omega)
          have hr8 := blk_keep hr6 hal hg1 (fun kk hk => by have := HLT.out kk hk; omega)
          have hb8 : Below w.heap.size w w8 := (hb6.trans (hal.mono hb6.size)).grown hg1 (by omega) (fun kk hk => by have := HLT.out kk hk; omega)
          have hz8 := hg1.size
          have hgS : w8.grownBy (w8.setCell ⟨cb, 3, none⟩ (.slice VA2 (l0.length + 1) VC2)) (some cb) := only_setCell (only_of_below (Below.refl _ _) _) (p := ⟨cb, 3, none⟩) (.inl rfl) _
          have hown9 : OwnP 75 w8 (cb + 1) (.slice VA2 (l0.length + 1) VC2) (sgN x (l0.length + 1) i2 k2).1 := by
            unfold OwnP
            rw [HS.out]
            show w8.ownsRow _ _ _ _ (l0 ++ [((id : Int), sx)]).length (seatCells (l0 ++ [((id : Int), sx)]))
            rw [List.length_append, seatCells_snoc]
            exact hown1
          have hc9 := Lib.hid ((heap_setCell_same w8 cb 3 _ _ (.slice VA2 (l0.length + 1) VC2) R2.out).trans (by rfl : _ = some (.cells #[.int .i64 0, .slice none 0 0, .string t, .slice VA2 (l0.length + 1) VC2] 99 (0, 0))))
          have ho9 := Lib.hid (hown9.far (b := cb) (by omega) hgS)
          have hr9 := Lib.hid (blk_far hr8 hgS (by omega))
          have hrd9 : Hid (RdAt (w8.setCell ⟨cb, 3, none⟩ (.slice VA2 (l0.length + 1) VC2)) rb x (sgN x (l0.length + 1) i2 k2).2.1 (sgN x (l0.length + 1) i2 k2).2.2) := Lib.hid (by rw [HS.out]; exact blk_far hrd8 hgS (by omega))
          have hz9 : cb + 1 ≤ (w8.setCell ⟨cb, 3, none⟩ (.slice VA2 (l0.length + 1) VC2)).heap.size := by have := hgS.size; omega
          have hb9 := Lib.hid (hb8.grown hgS hb8.size (fun kk hk => by have h := Option.some.inj hk; omega))
          generalize w8.setCell ⟨cb, 3, none⟩ (.slice VA2 (l0.length + 1) VC2) = w9 at hc9 ho9 hr9 hrd9 hz9 hb9 ⊢
          clear hr6 hz6 hb6 hal hz7 hrd8 hr8 hb8 hz8 hgS hown9 hown1 hg1 e0 f0 R2 HLT HO6 HC6 c6 HCALL c5 HC5 hrd6 hg6 HT
          go_wp2_with fail
          refine ⟨⟨l0.length + 1, _, by omega, by go_num, hrd9, hc9, ho9, hr9, hz9, hb9⟩, by simp [intOf]; omega⟩
      · obtain rfl : k = n := by omega
        have HEN := HEND k rb
        have hlen := sgN_length x i2 k2 k
        generalize sgN x k i2 k2 = S0 at hrd hos HRG2 HEN hlen
        obtain ⟨l0, j0, sh0⟩ := S0
        simp only at hrd hos HRG2 HEN hlen
        obtain ⟨VA, VC, rfl⟩ := own_shape hos.out
        have d0 := cell_of_row wr cb 2 _ _ _ hc.out
        simp at d0
        clear HNUM HTXT HEND hkn
        go_wp2_with fail
        refine (HREAD wr).out.mono ?_
        rintro e w5 ⟨hout, hb5⟩
        obtain ⟨pe, PA, pn, pc, er, rfl, hfx⟩ : ∃ (pe : Int) (PA : Option Addr) (pn pc : Nat) (er : Int), e = .returned (.tuple #[.agg #[.int .i64 pe, .slice PA pn pc], .int .i64 er]) ∧ Hid ((readV t = none ∧ er = 5) ∨ (∃ l, readV t = some (pe, l) ∧ er = 0 ∧ pn = l.length ∧ OwnS w5 wr.heap.size (.slice PA pn pc) l)) := by
          cases hv : readV t with
          | none =>
            rw [hv] at hout
            exact ⟨0, none, 0, 0, 5, hout, Lib.hid (.inl ⟨rfl, rfl⟩)⟩
          | some p =>
            rw [hv] at hout
            obtain ⟨A, c, he, ho⟩ := hout
            exact ⟨p.1, A, p.2.length, c, 0, he, Lib.hid (.inr ⟨p.2, rfl, rfl, rfl, ho⟩)⟩
        clear hout
        have hrd5 := Lib.hid (hrd.out.keep hb5)
        have hr5 := Lib.hid ((hb5.block w.heap.size (by omega)).trans hr.out)
        have hc5 := Lib.hid ((hb5.block cb (by omega)).trans hc.out)
        have ho5 := Lib.hid (hos.out.keep hb5)
        have hB5 := Lib.hid (hbel.out.trans (hb5.mono (by omega)))
        have hz5 : cb + 1 ≤ w5.heap.size := by have := hb5.size; omega
        have HZ5 := Lib.hid hb5.size
        have c0 := cell_of_row w5 cb 0 _ _ _ hc5.out
        have c1 := cell_of_row w5 cb 1 _ _ _ hc5.out
        have f0 := frozen_of_row w5 cb 0 _ _ hc5.out
        have f1 := frozen_of_row w5 cb 1 _ _ hc5.out
        simp at c0 c1
        have hzc : cb < w5.heap.size := by omega
        clear hb5 hrd hr hc hos hbel d0 HREAD
        go_wp2_with fail
        have hgS : w5.grownBy ((w5.setCell ⟨cb, 0, none⟩ (.int .i64 pe)).setCell ⟨cb, 1, none⟩ (.slice PA pn pc)) (some cb) := only_setCell (only_setCell (only_of_below (Below.refl _ _) _) (p := ⟨cb, 0, none⟩) (.inl rfl) _) (p := ⟨cb, 1, none⟩) (.inl rfl) _
        have hc6 := (heap_setCell_same _ cb 1 _ _ (.slice PA pn pc) (heap_setCell_same w5 cb 0 _ _ (.int .i64 pe) hc5.out)).trans (by rfl : _ = some (.cells #[.int .i64 pe, .slice PA pn pc, .string t, .slice VA l0.length VC] 99 (0, 0)))
        have hrd6 := blk_far hrd5.out hgS (by omega)
        have hr6 := blk_far hr5.out hgS (by omega)
        have ho6 := ho5.out.far (b := cb) (by omega) hgS
        have hB6 := hB5.out.grown hgS (by omega) (fun kk hk => by have h := Option.some.inj hk; omega)
        have hz6 := hgS.size
        have hfx6 : Hid ((readV t = none ∧ er = 5) ∨ (∃ l, readV t = some (pe, l) ∧ er = 0 ∧ pn = l.length ∧ OwnS ((w5.setCell ⟨cb, 0, none⟩ (.int .i64 pe)).setCell ⟨cb, 1, none⟩ (.slice PA pn pc)) (cb + 1) (.slice PA pn pc) l)) := Lib.hid (by
          rcases hfx.out with h | ⟨l, h1, h2, h3, h4⟩
          · exact .inl h
          · exact .inr ⟨l, h1, h2, h3, (h4.lower hz).far (by omega) hgS⟩)
        generalize ((w5.setCell ⟨cb, 0, none⟩ (.int .i64 pe)).setCell ⟨cb, 1, none⟩ (.slice PA pn pc)) = w6 at hgS hc6 hrd6 hr6 ho6 hB6 hfx6 hz6 ⊢
        have hal : Below w6.heap.size w6 (w6.alloc (.cells #[.int .i64 pe, .slice PA pn pc] 50)) := (Below.refl _ _).alloc (Nat.le_refl _) _
        have hc7 := Lib.hid ((hal.block cb (by omega)).trans hc6)
        have hrd7 := Lib.hid (RdAt.keep hrd6 hal)
        have hr7 := Lib.hid ((hal.block w.heap.size (by omega)).trans hr6)
        have ho7 := Lib.hid (ho6.keep hal)
        have hB7 := Lib.hid (hB6.trans (hal.mono (by omega)))
        have hz7 : cb + 1 ≤ (w6.alloc (.cells #[.int .i64 pe, .slice PA pn pc] 50)).heap.size := by have := hal.size; omega
        have hfx7 : Hid ((readV t = none ∧ er = 5) ∨ (∃ l, readV t = some (pe, l) ∧ er = 0 ∧ pn = l.length ∧ OwnS (w6.alloc (.cells #[.int .i64 pe, .slice PA pn pc] 50)) (cb + 1) (.slice PA pn pc) l)) := Lib.hid (by
          rcases hfx6.out with h | ⟨l, h1, h2, h3, h4⟩
          · exact .inl h
          · exact .inr ⟨l, h1, h2, h3, h4.keep hal⟩)
        generalize w6.alloc (.cells #[.int .i64 pe, .slice PA pn pc] 50) = w7 at hal hc7 hrd7 hr7 ho7 hB7 hfx7 hz7 ⊢
        clear hal hfx6
        have hc7o := hc7.out
        have hr7o := hr7.out
        clear hz6 hc6 hgS c0 c1 f0 f1 hc5 hrd5 hr5 ho5 hB5 hfx HZ5 hrd6 hr6 ho6 hB6
        have r0 := cell_of_row w7 w.heap.size 0 _ _ _ hr7o
        have r1 := cell_of_row w7 w.heap.size 1 _ _ _ hr7o
        have r2 := cell_of_row w7 w.heap.size 2 _ _ _ hr7o
        have r3 := cell_of_row w7 w.heap.size 3 _ _ _ hr7o
        have f0 := frozen_of_row w7 w.heap.size 0 _ _ hr7o
        have f1 := frozen_of_row w7 w.heap.size 1 _ _ hr7o
        have f2 := frozen_of_row w7 w.heap.size 2 _ _ hr7o
        have f3 := frozen_of_row w7 w.heap.size 3 _ _ hr7o
        have e0 := cell_of_row w7 cb 0 _ _ _ hc7o
        have e1 := cell_of_row w7 cb 1 _ _ _ hc7o
        have e2 := cell_of_row w7 cb 2 _ _ _ hc7o
        have e3 := cell_of_row w7 cb 3 _ _ _ hc7o
        simp at r0 r1 r2 r3 e0 e1 e2 e3
        have hwc : w.heap.size ≠ cb := by omega
        have hwl : w.heap.size < w7.heap.size := by omega
        have HE8 : Hid (∀ w8 : World, Below w7.drew.heap.size w7.drew w8 → (∀ o, w8.cell? ⟨w.heap.size, o, none⟩ = w7.cell? ⟨w.heap.size, o, none⟩) ∧ (∀ o, w8.frozen? ⟨w.heap.size, o, none⟩ = w7.frozen? ⟨w.heap.size, o, none⟩) ∧ (∀ o, w8.cell? ⟨cb, o, none⟩ = w7.cell? ⟨cb, o, none⟩)) := Lib.hid (fun w8 hb =>
          ⟨fun o => hb.cell (p := ⟨w.heap.size, o, none⟩) hwl, fun o => hb.frozen (p := ⟨w.heap.size, o, none⟩) hwl, fun o => hb.cell (p := ⟨cb, o, none⟩) (show cb < w7.heap.size by omega)⟩)
        rcases hfx7.out with ⟨hv, rfl⟩ | ⟨l, hv, rfl, hpn, hol⟩
        · have HV := Lib.hid hv
          clear hv hc7o hr7o
          first
            | go_region_law (fail)
            | fail
          all_goals
            go_wp2_with fail
            obtain ⟨hs1, hs2⟩ := set_four w7 w.heap.size _ _ _ _ _ (.int .i64 pe) (.slice PA pn pc) (.string t) (.slice VA k VC) hr7.out
            refine bodyPost_ret (results_cert rfl _ _ w.heap.size _ rfl (by rfl) hs1) rfl ?_
            rw [HRG2.out, HV.out]
            exact ⟨⟨_, _, _, _, _, _, _, _, rfl⟩, (hB7.out.grown hs2 (by omega) (fun kk h => by have := Option.some.inj h; omega)).drew⟩
        · have HV := Lib.hid hv
          have HOL := Lib.hid hol
          have HPN := Lib.hid hpn
          clear hv hol hpn hc7o hr7o
          first
            | go_region_law ((go_simp; go_at_call 99; refine (HEN w7.drew hrd7.out).out.mono ?_; rintro e w8 ⟨rfl, hb8⟩; obtain ⟨z1, z2, z3⟩ := HE8.out w8 hb8))
            | fail
          all_goals
            have hr8 := (hb8.block w.heap.size hwl).trans hr7.out
            have hbb : Below w7.heap.size w7 w8 := ⟨hb8.os, hb8.tape, hb8.output, hb8.size, hb8.block⟩
            have ho8 := ho7.out.keep hbb
            have hl8 := HOL.out.keep hbb
            have hB8 := hB7.out.trans (hbb.mono (Nat.le_of_lt hwl))
            have hz8 : w7.heap.size ≤ w8.heap.size := hb8.size
            clear z1 z2 z3 hb8
            go_wp2_with fail
            obtain ⟨hs1, hs2⟩ := set_four w8 w.heap.size _ _ _ _ _ (.int .i64 pe) (.slice PA pn pc) (.string t) (.slice VA k VC) hr8
            refine bodyPost_ret (results_cert rfl _ _ w.heap.size _ rfl (by rfl) hs1) rfl ?_
            rw [HRG2.out, HV.out]
            refine ⟨?_, hB8.grown hs2 (by omega) (fun kk h => by have := Option.some.inj h; omega)⟩
            show OpenOut w _ _ (Ending.returned (.tuple #[.agg #[.int .i64 pe, .slice PA pn pc, .string t, .slice VA k VC], .bool (endN x j0 sh0 == 0)]))
            have ho9 := (ho8.far (b := w.heap.size) (by omega) hs2).lower (b := w.heap.size) (by omega)
            have hl9 := (hl8.far (b := w.heap.size) (by omega) hs2).lower (b := w.heap.size) (by omega)
            have hpn := HPN.out
            subst hpn
            by_cases he : endN x j0 sh0 = 0
            · simp only [he, if_true]
              rw [hlen] at ho9
              refine ⟨PA, pc, VA, VC, ?_, hl9, ?_⟩
              · show Ending.returned _ = Ending.returned (.tuple #[.agg #[.int .i64 pe, .slice PA l.length pc, .string t, .slice VA l0.length VC], .bool true])
                rw [hlen]
                rfl
              · show OwnP _ _ _ (.slice VA l0.length VC) l0
                rw [hlen]
                exact ho9
            · simp only [he, if_false]
              refine ⟨pe, PA, l.length, pc, t, VA, k, VC, ?_⟩
              rw [show (endN x j0 sh0 == 0) = false by simpa using he]
end Go.Proofs.Ytljnadbfadgglaa

/- witanref08.Open. No condition. -/
namespace Go.Proofs.Ytljnadbfadgglaa
open Go.RowKit
set_option maxRecDepth 100000
set_option linter.unusedVariables false
set_option linter.unusedSimpArgs false

/-- What the reference's opening gives. -/
def ROpenOut (w : World) (r : Option (Int × List St × ByteArray × List St)) (w' : World) (x : Ending) : Prop :=
  match r with
  | none => x = .returned (.tuple #[.agg #[.int .i64 0, .slice none 0 0], .string ⟨#[]⟩, .slice none 0 0, .bool false])
  | some p => ∃ A c B d, x = .returned (.tuple #[.agg #[.int .i64 p.1, .slice A p.2.1.length c], .string p.2.2.1, .slice B p.2.2.2.length d, .bool true]) ∧ OwnS w' w.heap.size (.slice A p.2.1.length c) p.2.1 ∧ OwnP 105 w' w.heap.size (.slice B p.2.2.2.length d) p.2.2.2

theorem results_paper4 {fn : Func} {p q r s : Tmp} (h : fn.results = #[.cell p 50, .tmp q, .tmp r, .tmp s]) (tmps : Array Value) (w : World) (g : Nat) (cs : Array Value) (hs : cs.size = 2)
    (hp : tmps.getD p undef = .pointer (some ⟨g, 0, none⟩)) (hg : w.heap[g]? = some (.cells cs 50 (0, 0))) :
    (results fn tmps).run Try.prog w = .ok (.tuple #[.agg cs, tmps.getD q undef, tmps.getD r undef, tmps.getD s undef]) w := by
  have hp' : tmps[p]?.getD undef = .pointer (some ⟨g, 0, none⟩) := by simpa using hp
  have hl := run_loadVar_row (P := Try.prog) w g 50 50 cs (0, 0) _ hg Try.underlying50 rfl (by rw [hs]; kernel_rfl)
  simp [results, h, hp', asAddr, hl]
theorem rf_new (x : ByteArray) (w : World) : RfAt (w.alloc (.cells #[.string x, .bool false] 147)) w.heap.size x 0 false := by
  unfold RfAt RrAt
  rw [List.drop_zero, bs_of]
  exact heap_alloc_new w _
theorem set_two (w : World) (g : Nat) (T : TypeId) (o0 o1 v0 v1 : Value) (h : w.heap[g]? = some (.cells #[o0, o1] T (0, 0))) :
    ((w.setCell ⟨g, 0, none⟩ v0).setCell ⟨g, 1, none⟩ v1).heap[g]? = some (.cells #[v0, v1] T (0, 0)) ∧
    w.grownBy ((w.setCell ⟨g, 0, none⟩ v0).setCell ⟨g, 1, none⟩ v1) (some g) := by
  refine ⟨?_, only_setCell (only_setCell (only_of_below (Below.refl _ _) _) (p := ⟨g, 0, none⟩) (.inl rfl) _) (p := ⟨g, 1, none⟩) (.inl rfl) _⟩
  exact (heap_setCell_same _ g 1 _ _ _ (heap_setCell_same w g 0 _ _ _ h)).trans (by rfl)

theorem OwnS.other {w w' : World} {base : Nat} {v : Value} {l : List St} {row : Option Nat} (h : OwnS w base v l) (hg : w.grownBy w' row) (hne : ∀ k, v.ownBlock = some k → row ≠ some k) : OwnS w' base v l := by
  refine World.ownsRow.kept h hg ?_
  cases hb : v.ownBlock with
  | none => exact .inl rfl
  | some k => exact .inr (fun e => hne k hb e.symm)

set_option maxHeartbeats 4000000 in
theorem refopen_any (x : ByteArray) (hx : x.size ≤ maxLen) (w : World) :
    Calls Try.prog 65 #[.string x] w fun e w' => ROpenOut w (openG x) w' e ∧ Below w.heap.size w w' := by
  obtain ⟨i0, hi0, hz0, hz1, hz2⟩ := info_parts info_signed8
  have Hi0 := Lib.hid hi0
  have Hz0 := Lib.hid hz0
  have Hz1 := Lib.hid hz1
  have Hz2 := Lib.hid hz2
  clear hi0 hz0 hz1 hz2
  have HRG := Lib.hid (show openG x = _ by unfold openG; rfl)
  have H1 := fun (b : Nat) (w : World) (h : RfAt w b x 0 false) => Lib.hid (rtext_u b x hx 0 (Nat.zero_le _) false w h)
  have l1 := txN_le x 0 (Nat.zero_le _) false
  have s1 := txN_size x 0 false
  generalize txN x 0 false = r1 at HRG H1 l1 s1
  obtain ⟨t, i1, k1⟩ := r1
  simp only at l1 HRG s1
  have H2 := fun (b : Nat) (w : World) (h : RfAt w b x i1 k1) => Lib.hid (rnum_u b x 1 i1 (by omega) l1 k1 w h)
  have l2 := rdN_le x 1 i1 l1 k1
  have b2 := rdN_lt x 1 i1 (by omega) k1
  generalize rdN x 1 i1 k1 = r2 at HRG H2 l2 b2
  obtain ⟨n, i2, k2⟩ := r2
  simp only at l2 b2 HRG H1 H2
  have HNUM := fun (k b : Nat) (w : World) (h : RfAt w b x (sgN x k i2 k2).2.1 (sgN x k i2 k2).2.2) => Lib.hid (rnum_u b x 1 _ (by omega) (sgN_le x i2 l2 k2 k) _ w h)
  have HTXT := fun (k b : Nat) (w : World) (h : RfAt w b x (rdN x 1 (sgN x k i2 k2).2.1 (sgN x k i2 k2).2.2).2.1 (rdN x 1 (sgN x k i2 k2).2.1 (sgN x k i2 k2).2.2).2.2) => Lib.hid (rtext_u b x hx _ (rdN_le x 1 _ (sgN_le x i2 l2 k2 k) _) _ w h)
  have HEND := fun (k b : Nat) (w : World) (h : RfAt w b x (sgN x k i2 k2).2.1 (sgN x k i2 k2).2.2) => Lib.hid (rend_u b x _ (sgN_le x i2 l2 k2 k) _ w h)
  have HREAD := fun (w : World) => Lib.hid (refread_any t (by unfold maxLen; omega) w)
  clear l1 l2 hx
  go_enter Try.func65, Try.ntmps65
  go_wp2_with fail
  obtain ⟨w0, hw0⟩ : ∃ w0, w0 = w.alloc (.cells #[.int .i64 0, .slice none 0 0] 50) := ⟨_, rfl⟩
  rw [← hw0]
  have hz0 : w.heap.size < w0.heap.size := by rw [hw0]; simp
  have e0 : w0.heap.size = w.heap.size + 1 := by rw [hw0]; simp
  have E0 := Lib.hid e0
  clear e0
  have hr0 : Hid (w0.heap[w.heap.size]? = some (.cells #[.int .i64 0, .slice none 0 0] 50 (0, 0))) := Lib.hid (by rw [hw0]; exact heap_alloc_new w _)
  have hB0 : Below w.heap.size w w0 := by rw [hw0]; exact (Below.refl _ _).alloc (Nat.le_refl _) _
  clear hw0
  have hal : Below w0.heap.size w0 (w0.alloc (.cells #[.string x, .bool false] 147)) := (Below.refl _ _).alloc (Nat.le_refl _) _
  have hrd1 := rf_new x w0
  rw [E0.out] at hrd1
  have hr1 := Lib.hid ((hal.block w.heap.size hz0).trans hr0.out)
  have hB1 := hB0.trans (hal.mono (by omega))
  have hz1 : w.heap.size + 1 < (w0.alloc (.cells #[.string x, .bool false] 147)).heap.size := by have := E0.out; simp; omega
  generalize w0.alloc (.cells #[.string x, .bool false] 147) = w1 at hal hrd1 hr1 hB1 hz1 ⊢
  obtain ⟨rb, hrb⟩ : ∃ rb, w.heap.size + 1 = rb := ⟨_, rfl⟩
  rw [hrb] at hrd1 hz1
  rw [hrb]
  have hwr : w.heap.size < rb := by omega
  clear hal hr0 hB0 hz0 hrb
  refine (H1 rb w1 hrd1).out.mono ?_
  rintro e w2 ⟨rfl, hrd2, hg2⟩
  have hr2 := Lib.hid (blk_far hr1.out hg2 (by omega))
  have hB2 := hB1.grown hg2 hB1.size (fun kk hk => by have h := Option.some.inj hk; omega)
  have hz2 := hg2.size
  have hrl2 : rb < w2.heap.size := by omega
  clear hrd1 hr1 hg2 hB1 hz2 hz1 H1
  go_wp2_with fail
  refine (HREAD w2).out.mono ?_
  rintro e w3 ⟨hout, hb3⟩
  obtain ⟨pe, PA, pn, pc, er, rfl, hfx⟩ : ∃ (pe : Int) (PA : Option Addr) (pn pc : Nat) (er : Int), e = .returned (.tuple #[.agg #[.int .i64 pe, .slice PA pn pc], .int .i64 er]) ∧ Hid ((readV t = none ∧ er = 5) ∨ (∃ l, readV t = some (pe, l) ∧ er = 0 ∧ pn = l.length ∧ OwnS w3 w2.heap.size (.slice PA pn pc) l)) := by
    cases hv : readV t with
    | none =>
      rw [hv] at hout
      exact ⟨0, none, 0, 0, 5, hout, Lib.hid (.inl ⟨rfl, rfl⟩)⟩
    | some p =>
      rw [hv] at hout
      obtain ⟨A, c, he, ho⟩ := hout
      exact ⟨p.1, A, p.2.length, c, 0, he, Lib.hid (.inr ⟨p.2, rfl, rfl, rfl, ho⟩)⟩
  have HUP : Hid (er = 0 → ∀ kk, Value.ownBlock (.slice PA pn pc) = some kk → kk < w3.heap.size) := Lib.hid (fun h0 kk hk => by
    rcases hfx.out with ⟨_, h⟩ | ⟨l, h1, h2, h3, h4⟩
    · rw [h0] at h; cases h
    · exact (World.ownsRow.lt h4 kk hk).2)
  clear hout HREAD
  have hrd3 := hrd2.keep hb3
  have hr3 := Lib.hid ((hb3.block w.heap.size (by omega)).trans hr2.out)
  have hB3 := hB2.trans (hb3.mono (by omega))
  have hz3 := hb3.size
  clear hb3 hrd2 hr2 hB2
  go_wp2_with fail
  have hal : Below w3.heap.size w3 (w3.alloc (.cells #[.int .i64 pe, .slice PA pn pc] 50)) := (Below.refl _ _).alloc (Nat.le_refl _) _
  have hrd4 := hrd3.keep hal
  have hr4 := Lib.hid ((hal.block w.heap.size (by omega)).trans hr3.out)
  have hB4 := hB3.trans (hal.mono (by omega))
  have hp4 := Lib.hid (heap_alloc_new w3 (.cells #[.int .i64 pe, .slice PA pn pc] 50))
  have hfx4 : Hid ((readV t = none ∧ er = 5) ∨ (∃ l, readV t = some (pe, l) ∧ er = 0 ∧ pn = l.length ∧ OwnS (w3.alloc (.cells #[.int .i64 pe, .slice PA pn pc] 50)) w2.heap.size (.slice PA pn pc) l)) := Lib.hid (by
    rcases hfx.out with h | ⟨l, h1, h2, h3, h4⟩
    · exact .inl h
    · exact .inr ⟨l, h1, h2, h3, h4.keep hal⟩)
  have hz4 : w3.heap.size < (w3.alloc (.cells #[.int .i64 pe, .slice PA pn pc] 50)).heap.size := by simp
  generalize w3.alloc (.cells #[.int .i64 pe, .slice PA pn pc] 50) = w4 at hal hrd4 hr4 hB4 hp4 hfx4 hz4 ⊢
  clear hal hrd3 hr3 hB3 hfx
  refine (H2 rb w4 hrd4).out.mono ?_
  rintro e w5 ⟨rfl, hrd5, hg5⟩
  have hr5 := Lib.hid (blk_far hr4.out hg5 (by omega))
  have hp5 := Lib.hid (blk_far hp4.out hg5 (by omega))
  have hB5 := Lib.hid (hB4.grown hg5 (by omega) (fun kk hk => by have h := Option.some.inj hk; omega))
  have hfx5 : Hid ((readV t = none ∧ er = 5) ∨ (∃ l, readV t = some (pe, l) ∧ er = 0 ∧ pn = l.length ∧ OwnS w5 w2.heap.size (.slice PA pn pc) l)) := Lib.hid (by
    rcases hfx4.out with h | ⟨l, h1, h2, h3, h4⟩
    · exact .inl h
    · exact .inr ⟨l, h1, h2, h3, h4.far (by omega) hg5⟩)
  have hz5 := hg5.size
  obtain ⟨pb, hpb⟩ : ∃ pb, w3.heap.size = pb := ⟨_, rfl⟩
  rw [hpb] at hp5 hz4 hz3 HUP
  rw [hpb]
  have hz5 : pb + 1 ≤ w5.heap.size := by omega
  clear hrd4 hr4 hg5 hB4 hp4 hfx4 hz4 hpb H2
  have HRD5 : Hid (RfAt w5 rb x (sgN x 0 i2 k2).2.1 (sgN x 0 i2 k2).2.2) := Lib.hid hrd5
  clear hrd5
  by_cases h16 : 16 < n
  · have H16 := Lib.hid h16
    have h16' : 16 < (n : Int) := by omega
    have HNONE := Lib.hid (HRG.out.trans (if_pos h16))
    clear h16 HNUM HTXT HEND
    go_wp2_with fail
    go_loopw [11, 12] (fun v j wr => v = .slice none 0 0 ∧ j = .int .i64 0 ∧ w5 = wr) (fun _ _ _ => 0)
    case atStart => exact ⟨rfl, rfl, rfl⟩
    case round =>
      obtain ⟨rfl, rfl, rfl⟩ := hrel
      have r0 := cell_of_row w5 w.heap.size 0 _ _ _ hr5.out
      have r1 := cell_of_row w5 w.heap.size 1 _ _ _ hr5.out
      have f0 := frozen_of_row w5 w.heap.size 0 _ _ hr5.out
      have f1 := frozen_of_row w5 w.heap.size 1 _ _ hr5.out
      simp at r0 r1
      rcases hfx5.out with ⟨hv, rfl⟩ | ⟨l, hv, rfl, hpn, hol⟩
      · clear hv
        go_wp2_with fail
        obtain ⟨hs1, hs2⟩ := set_two w5 w.heap.size _ _ _ (.int .i64 0) (.slice none 0 0) hr5.out
        refine bodyPost_ret (results_paper4 rfl _ _ w.heap.size _ rfl (by rfl) hs1) rfl ?_
        rw [HNONE.out]
        exact ⟨rfl, hB5.out.grown hs2 (by omega) (fun kk h => by have := Option.some.inj h; omega)⟩
      · clear hv hol hpn
        go_wp2_with fail
        obtain ⟨hs1, hs2⟩ := set_two w5 w.heap.size _ _ _ (.int .i64 0) (.slice none 0 0) hr5.out
        refine bodyPost_ret (results_paper4 rfl _ _ w.heap.size _ rfl (by rfl) hs1) rfl ?_
        rw [HNONE.out]
        exact ⟨rfl, hB5.out.grown hs2 (by omega) (fun kk h => by have := Option.some.inj h; omega)⟩
  · have h16' : (n : Int) ≤ 16 := by omega
    have HRG2 := Lib.hid (HRG.out.trans (if_neg h16))
    clear HRG h16
    go_wp2_with fail
    go_loopw [11, 12] (fun v j wr => ∃ k : Nat, k ≤ n ∧ j = .int .i64 k ∧ Hid (RfAt wr rb x (sgN x k i2 k2).2.1 (sgN x k i2 k2).2.2) ∧ Hid (OwnP 105 wr (pb + 1) v (sgN x k i2 k2).1) ∧ Hid (wr.heap[w.heap.size]? = some (.cells #[.int .i64 0, .slice none 0 0] 50 (0, 0))) ∧ Hid (wr.heap[pb]? = some (.cells #[.int .i64 pe, .slice PA pn pc] 50 (0, 0))) ∧ Hid ((readV t = none ∧ er = 5) ∨ (∃ l, readV t = some (pe, l) ∧ er = 0 ∧ pn = l.length ∧ OwnS wr w2.heap.size (.slice PA pn pc) l)) ∧ pb + 1 ≤ wr.heap.size ∧ Hid (Below w.heap.size w wr)) (fun _ j _ => n - (intOf j).toNat)
    case atStart => exact ⟨0, by omega, rfl, HRD5, Lib.hid (OwnP.nil _ _ _), hr5, hp5, hfx5, hz5, hB5⟩
    case round =>
      obtain ⟨k, hk, rfl, hrd, hos, hr, hp, hfx, hz, hbel⟩ := hrel
      by_cases hkn : k < n
      · have n0 : 0 ≤ (k : Int) := by omega
        have n1 : (k : Int) < (n : Int) := by omega
        have HN := HNUM k
        have HT := HTXT k
        have HS : Hid (sgN x (k + 1) i2 k2 = ((sgN x k i2 k2).1 ++ [(((rdN x 1 (sgN x k i2 k2).2.1 (sgN x k i2 k2).2.2).1 : Int), (txN x (rdN x 1 (sgN x k i2 k2).2.1 (sgN x k i2 k2).2.2).2.1 (rdN x 1 (sgN x k i2 k2).2.1 (sgN x k i2 k2).2.2).2.2).1)], (txN x (rdN x 1 (sgN x k i2 k2).2.1 (sgN x k i2 k2).2.2).2.1 (rdN x 1 (sgN x k i2 k2).2.1 (sgN x k i2 k2).2.2).2.2).2)) := Lib.hid rfl
        have hsl := sgN_length x i2 k2 k
        generalize rdN x 1 (sgN x k i2 k2).2.1 (sgN x k i2 k2).2.2 = q at HN HT HS
        obtain ⟨id, j1, c1⟩ := q
        simp only at HN HT HS
        generalize txN x j1 c1 = q at HT HS
        obtain ⟨sx, j2, c2⟩ := q
        simp only at HT HS
        have HN1 := HN rb wr hrd.out
        generalize sgN x k i2 k2 = S0 at HN1 HS hsl hos
        obtain ⟨l0, j0, c0⟩ := S0
        simp only at HN1 HS hsl hos
        subst hsl
        obtain ⟨VA, VC, rfl⟩ := own_shape hos.out
        clear HN
        go_wp2_with fail
        refine HN1.out.mono ?_
        rintro e w6 ⟨rfl, hrd6, hg6⟩
        have hr6 := Lib.hid (blk_far hr.out hg6 (by omega))
        have hp6 := Lib.hid (blk_far hp.out hg6 (by omega))
        have ho6 := Lib.hid (hos.out.far (b := rb) (by omega) hg6)
        have hB6 := Lib.hid (hbel.out.grown hg6 (by omega) (fun kk hk => by have h := Option.some.inj hk; omega))
        have hfx6 : Hid ((readV t = none ∧ er = 5) ∨ (∃ l, readV t = some (pe, l) ∧ er = 0 ∧ pn = l.length ∧ OwnS w6 w2.heap.size (.slice PA pn pc) l)) := Lib.hid (by
          rcases hfx.out with h | ⟨l, h1, h2, h3, h4⟩
          · exact .inl h
          · exact .inr ⟨l, h1, h2, h3, h4.far (by omega) hg6⟩)
        have hz6 : pb + 1 ≤ w6.heap.size := by have := hg6.size; omega
        clear hrd hos hr hp hfx hbel hg6 HN1
        go_wp2_with fail
        refine (HT rb w6 hrd6).out.mono ?_
        rintro e w7 ⟨rfl, hrd7, hg7⟩
        have hr7 := Lib.hid (blk_far hr6.out hg7 (by omega))
        have hp7 := Lib.hid (blk_far hp6.out hg7 (by omega))
        have ho7 : Hid (w7.ownsRow (pb + 1) 105 2 (.slice VA l0.length VC) l0.length (seatCells l0)) := Lib.hid (ho6.out.far (b := rb) (by omega) hg7)
        have hB7 := Lib.hid (hB6.out.grown hg7 (by omega) (fun kk hk => by have h := Option.some.inj hk; omega))
        have hfx7 : Hid ((readV t = none ∧ er = 5) ∨ (∃ l, readV t = some (pe, l) ∧ er = 0 ∧ pn = l.length ∧ OwnS w7 w2.heap.size (.slice PA pn pc) l)) := Lib.hid (by
          rcases hfx6.out with h | ⟨l, h1, h2, h3, h4⟩
          · exact .inl h
          · exact .inr ⟨l, h1, h2, h3, h4.far (by omega) hg7⟩)
        have hz7 : pb + 1 ≤ w7.heap.size := by have := hg7.size; omega
        have hrl7 : rb < w7.heap.size := by have := hrd7.lt; omega
        have HRD7 := Lib.hid hrd7
        have HLT : Hid (∀ kk, Value.ownBlock (.slice VA l0.length VC) = some kk → pb + 1 ≤ kk) := Lib.hid (fun kk hk => (World.ownsRow.lt ho7.out kk hk).1)
        have HZ7 := Lib.hid hrd6.lt
        clear hrd6 hr6 hp6 ho6 hB6 hfx6 hg7 hrd7 HT
        go_wp2_with (at_builtin; refine wpList_append_own _ rfl (.tmp 37) (.tmp 42) 67 rfl (pb + 1) 105 i0 _ 2 24 Try.underlying67 Hi0.out Hz0.out Hz1.out Hz2.out rfl (by decide) _ _ _ (by rfl) (World.ownsRow.alloc ho7.out _) ⟨w7.heap.size, 0, none⟩ 1 1 [_, _] (by rfl) (by rfl) (World.news_of_block (cs := #[_, _]) (t := 105) (fr := (0, 0)) (heap_alloc_new w7 _)) (by simp [Value.oneCell']) (by unfold maxLen; omega) (by omega) (by simp; omega) ?_; intro v1 w8 hown1 hg1 _)
        have hal : Below w7.heap.size w7 (w7.alloc (.cells #[.int .i64 (id : Int), .string sx] 105)) := (Below.refl _ _).alloc (Nat.le_refl _) _
        have hza := hal.size
        have hz8 := hg1.size
        have hr8 := Lib.hid (blk_keep hr7.out hal hg1 (fun kk hk => by have := HLT.out kk hk; omega))
        have hp8 := Lib.hid (blk_keep hp7.out hal hg1 (fun kk hk => by have := HLT.out kk hk; omega))
        have hrd8 : Hid (RfAt w8 rb x (sgN x (l0.length + 1) i2 k2).2.1 (sgN x (l0.length + 1) i2 k2).2.2) := Lib.hid (by rw [HS.out]; exact blk_keep HRD7.out hal hg1 (fun kk hk => by have := HLT.out kk hk; omega))
        have hB8 := Lib.hid ((hB7.out.trans (hal.mono (by omega))).grown hg1 (by omega) (fun kk hk => by have := HLT.out kk hk; omega))
        have hfx8 : Hid ((readV t = none ∧ er = 5) ∨ (∃ l, readV t = some (pe, l) ∧ er = 0 ∧ pn = l.length ∧ OwnS w8 w2.heap.size (.slice PA pn pc) l)) := Lib.hid (by
          rcases hfx7.out with h | ⟨l, h1, h2, h3, h4⟩
          · exact .inl h
          · exact .inr ⟨l, h1, h2, h3, (h4.keep hal).other hg1 (fun k hk e => by have := HLT.out k e; have := HUP.out h2 k hk; omega)⟩)
        have ho8 : Hid (OwnP 105 w8 (pb + 1) v1 (sgN x (l0.length + 1) i2 k2).1) := Lib.hid (by
          unfold OwnP
          rw [HS.out]
          show w8.ownsRow _ _ _ _ (l0 ++ [((id : Int), sx)]).length (seatCells (l0 ++ [((id : Int), sx)]))
          rw [List.length_append, seatCells_snoc]
          exact hown1)
        refine ⟨⟨l0.length + 1, by omega, by go_num, hrd8, ho8, hr8, hp8, hfx8, by omega, hB8⟩, by simp [intOf]; omega⟩
      · obtain rfl : k = n := by omega
        have HEN := HEND k rb
        have hlen := sgN_length x i2 k2 k
        generalize sgN x k i2 k2 = S0 at hrd hos HRG2 HEN hlen
        obtain ⟨l0, j0, sh0⟩ := S0
        simp only at hrd hos HRG2 HEN hlen
        obtain ⟨VA, VC, rfl⟩ := own_shape hos.out
        have HE1 := HEN wr hrd.out
        have hwpb : w.heap.size ≠ pb := by omega
        have hwl : w.heap.size < wr.heap.size := by omega
        have hlen' := Lib.hid hlen
        have hr' := hr.out
        have hp' := hp.out
        have r0 := cell_of_row wr w.heap.size 0 _ _ _ hr'
        have r1 := cell_of_row wr w.heap.size 1 _ _ _ hr'
        have f0 := frozen_of_row wr w.heap.size 0 _ _ hr'
        have f1 := frozen_of_row wr w.heap.size 1 _ _ hr'
        have p0 := cell_of_row wr pb 0 _ _ _ hp'
        have p1 := cell_of_row wr pb 1 _ _ _ hp'
        simp at r0 r1 p0 p1
        clear HNUM HTXT HEND hkn HEN hr' hp' hlen
        rcases hfx.out with ⟨hv, rfl⟩ | ⟨l, hv, rfl, hpn, hol⟩
        · have HV := Lib.hid hv
          clear hv
          go_wp2_with fail
          obtain ⟨hs1, hs2⟩ := set_two wr w.heap.size _ _ _ (.int .i64 0) (.slice none 0 0) hr.out
          refine bodyPost_ret (results_paper4 rfl _ _ w.heap.size _ rfl (by rfl) hs1) rfl ?_
          rw [HRG2.out, HV.out]
          exact ⟨rfl, hbel.out.grown hs2 (by omega) (fun kk h => by have := Option.some.inj h; omega)⟩
        · have HV := Lib.hid hv
          have HOL := Lib.hid hol
          have HPN := Lib.hid hpn
          clear hv hol hpn
          by_cases he : endN x j0 sh0 = 0
          · rw [he] at HE1
            have HE0 := Lib.hid he
            clear he
            go_wp2_with fail
            refine HE1.out.mono ?_
            rintro e w8 ⟨rfl, rfl⟩
            go_wp2_with fail
            obtain ⟨hs1, hs2⟩ := set_two wr w.heap.size _ _ _ (.int .i64 pe) (.slice PA pn pc) hr.out
            refine bodyPost_ret (results_paper4 rfl _ _ w.heap.size _ rfl (by rfl) hs1) rfl ?_
            rw [HRG2.out, HV.out]
            have ho9 := (hos.out.far (b := w.heap.size) (by omega) hs2).lower (b := w.heap.size) (by omega)
            have hl9 := (HOL.out.far (b := w.heap.size) (by omega) hs2).lower (b := w.heap.size) (by omega)
            have hpn := HPN.out
            subst hpn
            refine ⟨?_, hbel.out.grown hs2 (by omega) (fun kk h => by have := Option.some.inj h; omega)⟩
            simp only [HE0.out, if_true]
            rw [hlen'.out] at ho9
            refine ⟨PA, pc, VA, VC, ?_, hl9, ?_⟩
            · show Ending.returned _ = Ending.returned (.tuple #[.agg #[.int .i64 pe, .slice PA l.length pc], .string t, .slice VA l0.length VC, .bool true])
              rw [hlen'.out]
              rfl
            · show OwnP _ _ _ (.slice VA l0.length VC) l0
              rw [hlen'.out]
              exact ho9
          · have HE0 := Lib.hid he
            have he' : (endN x j0 sh0 != 0) = true := by simpa using he
            generalize endN x j0 sh0 = en at HE1 HE0 he' HRG2
            clear he
            go_wp2_with fail
            refine HE1.out.mono ?_
            rintro e w8 ⟨rfl, rfl⟩
            go_wp2_with fail
            obtain ⟨hs1, hs2⟩ := set_two wr w.heap.size _ _ _ (.int .i64 0) (.slice none 0 0) hr.out
            refine bodyPost_ret (results_paper4 rfl _ _ w.heap.size _ rfl (by rfl) hs1) rfl ?_
            rw [HRG2.out, HV.out]
            simp only [HE0.out, if_false]
            exact ⟨rfl, hbel.out.grown hs2 (by omega) (fun kk h => by have := Option.some.inj h; omega)⟩
end Go.Proofs.Ytljnadbfadgglaa

/- papers' certificates: which signatures are right. Condition: the paper's bytes are at most 4,096. -/
namespace Go.Proofs.Ytljnadbfadgglaa
open Go.RowKit
set_option maxRecDepth 100000
set_option linter.unusedVariables false
set_option linter.unusedSimpArgs false

/-- The signatures are of seats, rising, and right. -/
def signedB (ver : ByteArray → ByteArray → Bool) : List St → List St → Bool
  | _, [] => true
  | [], _ :: _ => false
  | o :: os, s :: ss => if o.1 = s.1 then (ver o.2 s.2 && signedB ver os ss) else signedB ver os (s :: ss)

set_option maxHeartbeats 4000000 in
theorem signed_any (ep : Int) (PA : Option Addr) (pn pc : Nat) (t : ByteArray) (ht : t.size ≤ 4096) (B : Option Addr) (m d : Nat) (sg : List St) (oe : Int) (A : Option Addr) (n c : Nat) (old : List St) (w : World) (hS : Seats w B m d sg) (hO : Seats w A n c old) :
    Calls Try.prog 64 #[.agg #[.int .i64 ep, .slice PA pn pc, .string t, .slice B m d], .agg #[.int .i64 oe, .slice A n c]] w fun x w' => x = .returned (.bool (signedB (fun r s => verB r 3 t s) old sg)) ∧ Below w.heap.size w w' := by
  have hmax : maxLen = 9223372036854775807 := rfl
  have hm63 : m ≤ 9223372036854775807 := Nat.le_trans hS.2.1 hS.2.2.1
  have hn63 : n ≤ 9223372036854775807 := Nat.le_trans hO.2.1 hO.2.2.1
  have HSL := Lib.hid hS.1
  have HOL := Lib.hid hO.1
  have HS := Lib.hid hS
  have HO := Lib.hid hO
  have HV := fun (r s : ByteArray) (w : World) => Lib.hid (verify_u r 3 t ht s w)
  obtain ⟨ver, hver⟩ : ∃ ver : ByteArray → ByteArray → Bool, ver = fun r s => verB r 3 t s := ⟨_, rfl⟩
  rw [← hver]
  have HV : ∀ (r s : ByteArray) (w : World), Hid (Calls Try.prog 26 #[.string r, .int .i64 3, .string t, .string s] w fun e w' => e = .returned (.bool (ver r s)) ∧ Below w.heap.size w w') := by rw [hver]; exact HV
  obtain ⟨R, hR⟩ : ∃ R, R = signedB ver old sg := ⟨_, rfl⟩
  rw [← hR]
  have HR := Lib.hid hR
  clear hS hO hmax hver ht hR
  go_enter Try.func64, Try.ntmps64
  go_wp2_with fail
  obtain ⟨cb, hcb⟩ : ∃ cb, cb = w.heap.size := ⟨_, rfl⟩
  rw [← hcb]
  obtain ⟨w0, hw0⟩ : ∃ w0, w0 = (w.alloc (.cells #[.int .i64 ep, .slice PA pn pc, .string t, .slice B m d] 99)).alloc (.cells #[.int .i64 oe, .slice A n c] 50) := ⟨_, rfl⟩
  rw [← hw0]
  have hc0 : Hid (w0.heap[cb]? = some (.cells #[.int .i64 ep, .slice PA pn pc, .string t, .slice B m d] 99 (0, 0))) := Lib.hid (by rw [hw0, hcb]; exact (heap_alloc_old _ _ (by simp)).trans (heap_alloc_new w _))
  have hp0 : Hid (w0.heap[cb + 1]? = some (.cells #[.int .i64 oe, .slice A n c] 50 (0, 0))) := Lib.hid (by
    rw [hw0, hcb]
    have := heap_alloc_new (w.alloc (.cells #[.int .i64 ep, .slice PA pn pc, .string t, .slice B m d] 99)) (.cells #[.int .i64 oe, .slice A n c] 50)
    rw [show (w.alloc (.cells #[.int .i64 ep, .slice PA pn pc, .string t, .slice B m d] 99)).heap.size = w.heap.size + 1 by simp] at this
    exact this)
  have hz0 : cb + 2 ≤ w0.heap.size := by rw [hw0, hcb]; simp
  have hB0 : Below cb w w0 := by rw [hw0, hcb]; exact ((Below.refl _ _).alloc (Nat.le_refl _) _).alloc (by simp) _
  have HCB := Lib.hid hcb
  clear hw0 hcb
  have HB0 := Lib.hid hB0
  have d3 := cell_of_row w0 cb 3 _ _ _ hc0.out
  simp at d3
  clear hB0
  go_step3
  go_wp2_with fail
  go_step3
  go_wp2_with fail
  clear d3
  go_loopg [5, 12] m (fun g s5 s12 wx => ∃ (k a : Nat), k + g = m ∧ a ≤ n ∧ s12 = .int .i64 k ∧ s5 = .int .i64 a ∧ Hid (R = signedB ver (old.drop a) (sg.drop k)) ∧ Below w0.heap.size w0 wx)
  case atStart => exact ⟨0, 0, by omega, by omega, rfl, rfl, Lib.hid (by rw [HR.out]; rfl), Below.refl _ _⟩
  case round =>
    obtain ⟨k, a, hkg, han, rfl, rfl, hup, hbx⟩ := hrel
    cases gk with
    | zero =>
      have hkz : ¬ ((k : Int) < (m : Int)) := by omega
      have HBX := Lib.hid hbx
      have hRt : R = true := by rw [hup.out, List.drop_of_length_le (l := sg) (by have := HSL.out; omega)]; cases (old.drop a) <;> rfl
      have HRT := Lib.hid hRt
      clear hup hRt hbx
      go_wp2_with fail
      first | rw [Exit.noGoto_ret] | skip
      go_ret
      rw [HRT.out]
      exact ⟨rfl, by rw [← HCB.out]; exact HB0.out.trans (HBX.out.mono (by omega))⟩
    | succ g =>
      have hkz : (k : Int) < (m : Int) := by omega
      have hk0 : 0 ≤ (k : Int) := by omega
      obtain ⟨b, off, rfl, hb, hcs⟩ := HS.out.at k (by omega)
      have hBw := HB0.out.trans (hbx.mono (by omega))
      have hbc : b < cb := by have := HCB.out; omega
      have ca := (hBw.cell (p := ⟨b, off + k * 2, none⟩) hbc).trans (hcs k (by omega)).1
      have cx := (hBw.cell (p := ⟨b, off + k * 2 + 1, none⟩) hbc).trans (hcs k (by omega)).2
      have hd : sg.drop k = sg.getD k (0, ByteArray.empty) :: sg.drop (k + 1) := drop_getD sg k (by have := HSL.out; omega)
      have HU : Hid (R = signedB ver (old.drop a) (((sg.getD k (0, ByteArray.empty)).1, (sg.getD k (0, ByteArray.empty)).2) :: sg.drop (k + 1))) := Lib.hid (by rw [hup.out, hd])
      generalize (sg.getD k (0, ByteArray.empty)).1 = id at ca HU
      generalize (sg.getD k (0, ByteArray.empty)).2 = sx at cx HU
      have HBX := Lib.hid hbx
      clear hup hd hcs hBw hbx
      have HALB : Hid (Below w0.heap.size w0 (wr.alloc (.cells #[.int .i64 id, .string sx] 75))) := Lib.hid (HBX.out.alloc HBX.out.size _)
      have hs3 := Lib.hid (heap_alloc_new wr (.cells #[.int .i64 id, .string sx] 75))
      have HWZ := Lib.hid HBX.out.size
      have HAZ : wr.heap.size < (wr.alloc (.cells #[.int .i64 id, .string sx] 75)).heap.size := by simp
      go_wp2_with fail
      obtain ⟨sb, hsb⟩ : ∃ sb, sb = wr.heap.size := ⟨_, rfl⟩
      rw [← hsb] at hs3 HWZ HAZ
      rw [← hsb]
      clear hsb ca cx
      generalize wr.alloc (.cells #[.int .i64 id, .string sx] 75) = w3 at HALB hs3 HAZ ⊢
      have HAN := Lib.hid han
      clear HBX
      go_loopg [5] (n - a) (fun g' s5 wx => ∃ a', a' + g' = n ∧ s5 = .int .i64 (a' : Int) ∧ Hid (R = signedB ver (old.drop a') ((id, sx) :: sg.drop (k + 1))) ∧ Below w3.heap.size w3 wx)
      case atStart => exact ⟨a, by omega, rfl, HU, Below.refl _ _⟩
      case round =>
        obtain ⟨a', hag, rfl, hup, hbx⟩ := hrel
        have hz3 := hbx.size
        have hBz := hz0
        have hp1 := (hbx.block (cb + 1) (by have := HWZ.out; omega)).trans ((HALB.out.block (cb + 1) (by omega)).trans hp0.out)
        have hc1 := (hbx.block cb (by have := HWZ.out; omega)).trans ((HALB.out.block cb (by omega)).trans hc0.out)
        have hs1 := (hbx.block sb HAZ).trans hs3.out
        have p1 := cell_of_row wr (cb + 1) 1 _ _ _ hp1
        have x2 := cell_of_row wr cb 2 _ _ _ hc1
        have y0 := cell_of_row wr sb 0 _ _ _ hs1
        have y1 := cell_of_row wr sb 1 _ _ _ hs1
        simp at p1 x2 y0 y1
        have hBW : Below cb w wr := HB0.out.trans ((HALB.out.mono (by omega)).trans (hbx.mono (by have := HALB.out.size; omega)))
        have HBX := Lib.hid hbx
        have hl1 : cb < wr.heap.size := by have := HWZ.out; omega
        have hl2 : cb + 1 < wr.heap.size := by have := HWZ.out; omega
        have hl3 : sb < wr.heap.size := by omega
        clear hp1 hc1 hs1 hbx
        by_cases hlt : a' < n
        · obtain ⟨g2, rfl⟩ : ∃ g2, gk = g2 + 1 := ⟨gk - 1, by omega⟩
          have n0 : 0 ≤ (a' : Int) := by omega
          have n1 : (a' : Int) < (n : Int) := by omega
          obtain ⟨b2, off2, rfl, hb2, hcs2⟩ := HO.out.at a' hlt
          have hb2' : b2 < cb := by have := HCB.out; omega
          have ca := (hBW.cell (p := ⟨b2, off2 + a' * 2, none⟩) hb2').trans (hcs2 a' hlt).1
          have cx := (hBW.cell (p := ⟨b2, off2 + a' * 2 + 1, none⟩) hb2').trans (hcs2 a' hlt).2
          have hd : old.drop a' = ((old.getD a' (0, ByteArray.empty)).1, (old.getD a' (0, ByteArray.empty)).2) :: old.drop (a' + 1) := drop_getD old a' (by have := HOL.out; omega)
          have HU2 : Hid (R = if (old.getD a' (0, ByteArray.empty)).1 = id then (ver (old.getD a' (0, ByteArray.empty)).2 sx && signedB ver (old.drop (a' + 1)) (sg.drop (k + 1))) else signedB ver (old.drop (a' + 1)) ((id, sx) :: sg.drop (k + 1))) := Lib.hid (by rw [hup.out, hd]; rfl)
          generalize (old.getD a' (0, ByteArray.empty)).1 = oi at ca HU2
          generalize (old.getD a' (0, ByteArray.empty)).2 = orr at cx HU2
          have HBW := Lib.hid hBW
          clear hup hd hcs2 hBW
          have HV1 := HV orr sx (wr.alloc (.cells #[.int .i64 oi, .string orr] 60))
          have HALL := Lib.hid ((Below.refl wr.heap.size wr).alloc (Nat.le_refl _) (.cells #[.int .i64 oi, .string orr] 60))
          by_cases he : oi = id
          · obtain rfl := he
            have HU3 : Hid (R = (ver orr sx && signedB ver (old.drop (a' + 1)) (sg.drop (k + 1)))) := Lib.hid (HU2.out.trans (if_pos rfl))
            clear HU2
            go_wp2_with fail
            refine HV1.out.mono ?_
            rintro e w5 ⟨rfl, hb5⟩
            have hb6 := Lib.hid (HALL.out.trans (hb5.mono (by simp)))
            clear hb5 ca cx p1 x2 y0 y1
            cases hv : ver orr sx with
            | false =>
              have hRf : R = false := by rw [HU3.out, hv]; rfl
              have HRF := Lib.hid hRf
              clear hv hRf
              go_wp2_with fail
              first | rw [Exit.noGoto_ret] | skip
              go_ret
              rw [HRF.out]
              exact ⟨rfl, by rw [← HCB.out]; exact HBW.out.trans (hb6.out.mono (by omega))⟩
            | true =>
              have hRf : R = signedB ver (old.drop (a' + 1)) (sg.drop (k + 1)) := by rw [HU3.out, hv]; rfl
              have HRF := Lib.hid hRf
              clear hv hRf
              go_wp2_with fail
              go_roundg g
              case measure => omega
              case rel => exact ⟨k + 1, a' + 1, by omega, by omega, by go_num, by go_num, HRF, (HALB.out.trans (HBX.out.mono (by have := HALB.out.size; omega))).trans (hb6.out.mono (by have := HALB.out.size; omega))⟩
          · have he' : ¬ id = oi := fun e => he e.symm
            have HU3 : Hid (R = signedB ver (old.drop (a' + 1)) ((id, sx) :: sg.drop (k + 1))) := Lib.hid (HU2.out.trans (if_neg he))
            clear HU2
            go_wp2_with fail
            go_roundg g2
            case measure => omega
            case rel => exact ⟨a' + 1, by omega, by go_num, HU3, HBX.out.trans (HALL.out.mono (by omega))⟩
        · have hlt' : ¬ (a' : Int) < (n : Int) := by omega
          have hRf : R = false := by rw [hup.out, List.drop_of_length_le (l := old) (by have := HOL.out; omega)]; rfl
          have HRF := Lib.hid hRf
          clear hup hRf hlt
          go_wp2_with fail
          first | rw [Exit.noGoto_ret] | skip
          go_ret
          rw [HRF.out]
          exact ⟨rfl, by rw [← HCB.out]; exact hBW⟩
end Go.Proofs.Ytljnadbfadgglaa

/- Quorums; a seat's root; which signatures the reference takes. No condition. -/
namespace Go.Proofs.Ytljnadbfadgglaa
open Go.RowKit
set_option maxRecDepth 100000
set_option linter.unusedVariables false
set_option linter.unusedSimpArgs false

/-- How many must agree. -/
def qrN (n : Nat) : Nat := (n - 1) / 3 + (n - (n - 1) / 3) / 2 + 1

theorem faults_u (n : Nat) (h4 : 4 ≤ n) (h10 : n ≤ 10) (w : World) : Calls Try.prog 75 #[.int .i64 (n : Int)] w fun e w' => e = .returned (.int .i64 (((n - 1) / 3 : Nat) : Int)) ∧ w = w' := by
  have q0 : ¬ (n : Int) < 1 := by omega
  have q1 : 1 ≤ (n : Int) := by omega
  have q2 : (n : Int) ≤ 10 := by omega
  go_enter Try.func75, Try.ntmps75
  go_wp2_with fail
  go_ret
  refine ⟨?_, rfl⟩
  show Ending.returned (.int .i64 (((n : Int) - 1) / 3)) = _
  congr 2
  omega
theorem rfaults_u (n : Nat) (h4 : 4 ≤ n) (h10 : n ≤ 10) (w : World) : Calls Try.prog 103 #[.int .i64 (n : Int)] w fun e w' => e = .returned (.int .i64 (((n - 1) / 3 : Nat) : Int)) ∧ w = w' := by
  have q0 : ¬ (n : Int) < 1 := by omega
  have q1 : 1 ≤ (n : Int) := by omega
  have q2 : (n : Int) ≤ 10 := by omega
  go_enter Try.func103, Try.ntmps103
  go_wp2_with fail
  go_ret
  refine ⟨?_, rfl⟩
  show Ending.returned (.int .i64 (((n : Int) - 1) / 3)) = _
  congr 2
  omega
theorem quorum_u (n : Nat) (h4 : 4 ≤ n) (h10 : n ≤ 10) (w : World) : Calls Try.prog 42 #[.int .i64 (n : Int)] w fun e w' => e = .returned (.int .i64 ((qrN n : Nat) : Int)) ∧ w = w' := by
  have H := fun w : World => Lib.hid (faults_u n h4 h10 w)
  obtain ⟨f, hf⟩ : ∃ f, f = (n - 1) / 3 := ⟨_, rfl⟩
  rw [← hf] at H
  have f1 : (f : Int) ≤ 3 := by omega
  have f2 : (f : Int) ≤ (n : Int) := by omega
  have q0 : ¬ (n : Int) < 1 := by omega
  have q1 : 1 ≤ (n : Int) := by omega
  have q2 : (n : Int) ≤ 10 := by omega
  have q3 : 0 ≤ (n : Int) - (f : Int) := by omega
  have HF := Lib.hid hf
  clear hf
  go_enter Try.func42, Try.ntmps42
  go_wp2_with fail
  refine (H w).out.mono ?_
  rintro e w1 ⟨rfl, rfl⟩
  go_wp2_with fail
  go_ret
  refine ⟨?_, rfl⟩
  show Ending.returned (.int .i64 ((f : Int) + ((n : Int) - (f : Int)) / 2 + 1)) = _
  congr 2
  unfold qrN
  have := HF.out
  omega
theorem rquorum_u (n : Nat) (h4 : 4 ≤ n) (h10 : n ≤ 10) (w : World) : Calls Try.prog 67 #[.int .i64 (n : Int)] w fun e w' => e = .returned (.int .i64 ((qrN n : Nat) : Int)) ∧ w = w' := by
  have H := fun w : World => Lib.hid (rfaults_u n h4 h10 w)
  obtain ⟨f, hf⟩ : ∃ f, f = (n - 1) / 3 := ⟨_, rfl⟩
  rw [← hf] at H
  have f1 : (f : Int) ≤ 3 := by omega
  have f2 : (f : Int) ≤ (n : Int) := by omega
  have q0 : ¬ (n : Int) < 1 := by omega
  have q1 : 1 ≤ (n : Int) := by omega
  have q2 : (n : Int) ≤ 10 := by omega
  have HF := Lib.hid hf
  clear hf
  go_enter Try.func67, Try.ntmps67
  go_wp2_with fail
  refine (H w).out.mono ?_
  rintro e w1 ⟨rfl, rfl⟩
  go_wp2_with fail
  refine (H w).out.mono ?_
  rintro e w1 ⟨rfl, rfl⟩
  go_wp2_with fail
  go_ret
  refine ⟨?_, rfl⟩
  show Ending.returned (.int .i64 ((n : Int) / 2 + ((n : Int) % 2 + (f : Int) % 2) / 2 + (f : Int) / 2 + 1)) = _
  congr 2
  unfold qrN
  have := HF.out
  omega

/-- A seat's root. -/
def rootB (id : Int) : List St → Option ByteArray
  | [] => none
  | o :: os => if o.1 = id then some o.2 else rootB id os
def RootOut (r : Option ByteArray) (x : Ending) : Prop :=
  match r with
  | none => x = .returned (.tuple #[.string ⟨#[]⟩, .bool false])
  | some s => x = .returned (.tuple #[.string s, .bool true])
theorem root_any (oe : Int) (A : Option Addr) (n c : Nat) (old : List St) (id : Int) (w : World) (hO : Seats w A n c old) :
    Calls Try.prog 66 #[.agg #[.int .i64 oe, .slice A n c], .int .i64 id] w fun x w' => RootOut (rootB id old) x ∧ Below w.heap.size w w' := by
  have hmax : maxLen = 9223372036854775807 := rfl
  have hn63 : n ≤ 9223372036854775807 := Nat.le_trans hO.2.1 hO.2.2.1
  have HOL := Lib.hid hO.1
  have HO := Lib.hid hO
  obtain ⟨R, hR⟩ : ∃ R, R = rootB id old := ⟨_, rfl⟩
  rw [← hR]
  have HR := Lib.hid hR
  clear hO hmax hR
  go_enter Try.func66, Try.ntmps66
  go_wp2_with fail
  have hr0 := Lib.hid (heap_alloc_new w (.cells #[.int .i64 oe, .slice A n c] 50))
  have hB0 := Lib.hid (show Below w.heap.size w (w.alloc (.cells #[.int .i64 oe, .slice A n c] 50)) from (Below.refl _ _).alloc (Nat.le_refl _) _)
  have hz0 : w.heap.size < (w.alloc (.cells #[.int .i64 oe, .slice A n c] 50)).heap.size := by simp
  generalize w.alloc (.cells #[.int .i64 oe, .slice A n c] 50) = w0 at hr0 hB0 hz0 ⊢
  have c1 := cell_of_row w0 w.heap.size 1 _ _ _ hr0.out
  simp at c1
  go_loopw [6] (fun j wr => ∃ k : Nat, k ≤ n ∧ j = .int .i64 k ∧ Hid (R = rootB id (old.drop k)) ∧ w0 = wr) (fun j _ => n - (intOf j).toNat)
  case atStart => exact ⟨0, by omega, rfl, HR, rfl⟩
  case round =>
    obtain ⟨k, hk, rfl, hup, rfl⟩ := hrel
    by_cases hkn : k < n
    · have n0 : 0 ≤ (k : Int) := by omega
      have n1 : (k : Int) < (n : Int) := by omega
      obtain ⟨b, off, rfl, hb, hcs⟩ := HO.out.at k hkn
      have ca := (hB0.out.cell (p := ⟨b, off + k * 2, none⟩) hb).trans (hcs k hkn).1
      have cb := (hB0.out.cell (p := ⟨b, off + k * 2 + 1, none⟩) hb).trans (hcs k hkn).2
      have HU : Hid (R = if (old.getD k (0, ByteArray.empty)).1 = id then some (old.getD k (0, ByteArray.empty)).2 else rootB id (old.drop (k + 1))) := Lib.hid (by rw [hup.out, drop_getD old k (by have := HOL.out; omega)]; rfl)
      generalize (old.getD k (0, ByteArray.empty)).1 = oi at ca HU
      generalize (old.getD k (0, ByteArray.empty)).2 = orr at cb HU
      clear hcs hup
      by_cases he : oi = id
      · obtain rfl := he
        have HU3 := Lib.hid (HU.out.trans (if_pos rfl))
        clear HU
        go_wp2_with fail
        go_ret2
        rw [HU3.out]
        exact ⟨rfl, hB0.out⟩
      · have he' : ¬ oi = id := he
        have HU3 := Lib.hid (HU.out.trans (if_neg he))
        clear HU he
        go_wp2_with fail
        refine ⟨⟨k + 1, by omega, by go_num, HU3, ?_⟩, by simp [intOf]; omega⟩
        first | exact True.intro | rfl
    · obtain rfl : k = n := by omega
      have hRn : R = none := by rw [hup.out, List.drop_of_length_le (l := old) (by have := HOL.out; omega)]; rfl
      have HRN := Lib.hid hRn
      clear hup hRn hkn
      go_wp2_with fail
      go_ret2
      rw [HRN.out]
      exact ⟨rfl, hB0.out⟩

def lessB : Option Int → Int → Bool
  | none, _ => true
  | some q, id => decide (q < id)
/-- The reference's test of signatures; p: the number before. -/
def refSg (ver : ByteArray → ByteArray → Bool) (old : List St) : Option Int → List St → Bool
  | _, [] => true
  | p, s :: ss => match rootB s.1 old with
    | none => false
    | some r => lessB p s.1 && ver r s.2 && refSg ver old (some s.1) ss
theorem up_pair : ∀ (l : List St) (p : Int), upB p l = true → List.Pairwise (fun a b : St => a.1 < b.1) l ∧ ∀ o ∈ l, p < o.1
  | [], _, _ => ⟨List.Pairwise.nil, fun _ h => by cases h⟩
  | s :: r, p, h => by
    unfold upB at h
    split at h
    · cases h
    · rename_i hc
      have h1 : ¬ s.1 ≤ p := fun y => hc (.inl y)
      obtain ⟨h2, h3⟩ := up_pair r s.1 h
      refine ⟨List.pairwise_cons.2 ⟨fun a ha => h3 a ha, h2⟩, fun o ho => ?_⟩
      rcases List.mem_cons.1 ho with rfl | ho
      · omega
      · have := h3 o ho
        omega
theorem rootB_none (id : Int) : ∀ l : List St, (∀ o ∈ l, o.1 ≠ id) → rootB id l = none
  | [], _ => rfl
  | o :: os, h => by
    unfold rootB
    rw [if_neg (h o (by simp))]
    exact rootB_none id os (fun q hq => h q (by simp [hq]))
theorem rootB_app (id : Int) : ∀ (a b : List St), (∀ o ∈ a, o.1 ≠ id) → rootB id (a ++ b) = rootB id b
  | [], _, _ => rfl
  | o :: os, b, h => by
    show rootB id (o :: (os ++ b)) = _
    have e : rootB id (o :: (os ++ b)) = rootB id (os ++ b) := by
      show (if o.1 = id then some o.2 else rootB id (os ++ b)) = _
      exact if_neg (h o (by simp))
    rw [e]
    exact rootB_app id os b (fun q hq => h q (by simp [hq]))
theorem rootB_some {id : Int} {r : ByteArray} : ∀ {l : List St}, rootB id l = some r → ∃ a b, l = a ++ (id, r) :: b ∧ ∀ o ∈ a, o.1 ≠ id
  | [], h => by cases h
  | o :: os, h => by
    unfold rootB at h
    by_cases e : o.1 = id
    · rw [if_pos e] at h
      cases h
      exact ⟨[], os, by rw [← e]; rfl, fun _ h => by cases h⟩
    · rw [if_neg e] at h
      obtain ⟨a, b, h1, h2⟩ := rootB_some h
      exact ⟨o :: a, b, by rw [h1]; rfl, fun q hq => by rcases List.mem_cons.1 hq with rfl | hq; exact e; exact h2 q hq⟩
theorem signed_none (ver : ByteArray → ByteArray → Bool) (id : Int) (x : ByteArray) (ss : List St) : ∀ l : List St, rootB id l = none → signedB ver l ((id, x) :: ss) = false
  | [], _ => rfl
  | o :: os, h => by
    unfold rootB at h
    by_cases e : o.1 = id
    · rw [if_pos e] at h; cases h
    · rw [if_neg e] at h
      show (if o.1 = id then (ver o.2 x && signedB ver os ss) else signedB ver os ((id, x) :: ss)) = false
      rw [if_neg e]
      exact signed_none ver id x ss os h
theorem signed_at (ver : ByteArray → ByteArray → Bool) (id : Int) (r x : ByteArray) (ss b : List St) : ∀ a : List St, (∀ o ∈ a, o.1 ≠ id) → signedB ver (a ++ (id, r) :: b) ((id, x) :: ss) = (ver r x && signedB ver b ss)
  | [], _ => by
    show (if id = id then (ver r x && signedB ver b ss) else signedB ver b ((id, x) :: ss)) = _
    rw [if_pos rfl]
  | o :: os, h => by
    show (if o.1 = id then (ver o.2 x && signedB ver (os ++ (id, r) :: b) ss) else signedB ver (os ++ (id, r) :: b) ((id, x) :: ss)) = _
    rw [if_neg (h o (by simp))]
    exact signed_at ver id r x ss b os (fun q hq => h q (by simp [hq]))
theorem signed_ref (ver : ByteArray → ByteArray → Bool) (old : List St) (hp : List.Pairwise (fun a b : St => a.1 < b.1) old) : ∀ (ss rest pre : List St) (p : Option Int), old = pre ++ rest → (p = none → pre = []) → (∀ q, p = some q → (∀ o ∈ pre, o.1 ≤ q) ∧ ∀ o ∈ rest, q < o.1) →
    signedB ver rest ss = refSg ver old p ss
  | [], rest, pre, p, h1, h2, h3 => by cases rest <;> rfl
  | s :: ss, rest, pre, p, h1, h2, h3 => by
    obtain ⟨id, x⟩ := s
    cases hr : rootB id rest with
    | none =>
      rw [signed_none ver id x ss rest hr]
      unfold refSg
      cases ho : rootB id old with
      | none => rfl
      | some r =>
        cases p with
        | none =>
          rw [h1, h2 rfl] at ho
          rw [List.nil_append, hr] at ho
          cases ho
        | some q =>
          have hq : ¬ q < id := fun hlt => by
            rw [h1, rootB_app id pre rest (fun o hm => by have := (h3 q rfl).1 o hm; omega), hr] at ho
            cases ho
          show false = (lessB (some q) id && ver r x && refSg ver old (some id) ss)
          rw [show lessB (some q) id = false from decide_eq_false hq]
          rfl
    | some r =>
      obtain ⟨a, b, e1, e2⟩ := rootB_some hr
      rw [e1, signed_at ver id r x ss b a e2]
      have hpre : ∀ o ∈ pre, o.1 ≠ id := by
        cases p with
        | none => rw [h2 rfl]; intro o ho; cases ho
        | some q =>
          intro o ho
          have k1 := (h3 q rfl).1 o ho
          have k2 := (h3 q rfl).2 (id, r) (by rw [e1]; simp)
          have k2 : q < id := k2
          omega
      have hold : rootB id old = some r := by rw [h1, rootB_app id pre rest hpre, hr]
      unfold refSg
      rw [hold]
      have hlt : lessB p id = true := by
        cases p with
        | none => rfl
        | some q =>
          have k2 := (h3 q rfl).2 (id, r) (by rw [e1]; simp)
          exact decide_eq_true k2
      have hrest : List.Pairwise (fun a b : St => a.1 < b.1) (pre ++ (a ++ (id, r) :: b)) := by rw [← e1, ← h1]; exact hp
      rw [List.pairwise_append, List.pairwise_append, List.pairwise_cons] at hrest
      obtain ⟨_, ⟨_, ⟨k3, _⟩, k4⟩, k5⟩ := hrest
      have ih := signed_ref ver old hp ss b (pre ++ (a ++ [(id, r)])) (some id) (by rw [h1, e1]; simp) (fun h => by cases h) (fun q hq => by
        cases hq
        refine ⟨fun o ho => ?_, fun o ho => k3 o ho⟩
        rcases List.mem_append.1 ho with ho | ho
        · exact Int.le_of_lt (k5 o ho (id, r) (by simp))
        · rcases List.mem_append.1 ho with ho | ho
          · exact Int.le_of_lt (k4 o ho (id, r) (by simp))
          · rw [List.mem_singleton] at ho
            subst ho
            exact Int.le_refl _)
      show (ver r x && signedB ver b ss) = (lessB p id && ver r x && refSg ver old (some id) ss)
      rw [hlt, ih, Bool.true_and]
theorem signed_eq (ver : ByteArray → ByteArray → Bool) (old ss : List St) (e : Int) (h : rightB e old = true) : refSg ver old none ss = signedB ver old ss := by
  have h1 : upB (-1) old = true := by unfold rightB at h; simp only [Bool.and_eq_true] at h; exact h.1
  exact (signed_ref ver old (up_pair old (-1) h1).1 ss old [] none rfl (fun _ => rfl) (fun q hq => by cases hq)).symm
end Go.Proofs.Ytljnadbfadgglaa

/- papers.Check. No condition. -/
namespace Go.Proofs.Ytljnadbfadgglaa
open Go.RowKit
set_option maxRecDepth 100000
set_option linter.unusedVariables false
set_option linter.unusedSimpArgs false

/-- What the check gives: an error, or the paper. -/
def checkV (oe : Int) (old : List St) (x : ByteArray) : Except Int (Int × List St) :=
  if rightB oe old = false then .error 4 else match openG x with
    | none => .error 5
    | some p => if p.1 ≠ oe + 1 then .error 12 else if signedB (fun r s => verB r 3 p.2.2.1 s) old p.2.2.2 = false then .error 16
      else if p.2.2.2.length < qrN old.length then .error 15 else .ok (p.1, p.2.1)
def CheckOut (w : World) (r : Except Int (Int × List St)) (w' : World) (x : Ending) : Prop :=
  match r with
  | .error er => x = .returned (.tuple #[.agg #[.int .i64 0, .slice none 0 0], .int .i64 er])
  | .ok p => ∃ A c, x = .returned (.tuple #[.agg #[.int .i64 p.1, .slice A p.2.length c], .int .i64 0]) ∧ OwnS w' w.heap.size (.slice A p.2.length c) p.2
theorem open_text {x : ByteArray} {p : Int × List St × ByteArray × List St} (h : openG x = some p) : p.2.2.1.size ≤ 4096 ∧ readV p.2.2.1 = some (p.1, p.2.1) := by
  unfold openG at h
  split at h
  · cases h
  · split at h
    · cases h
    · rename_i q hq
      split at h
      · injection h with h
        subst h
        refine ⟨?_, hq⟩
        have hq' := hq
        unfold readV at hq'
        split at hq'
        · cases hq'
        · rename_i hc
          split at hq'
          · rename_i hr
            have h10 := (right_facts hr).2.2.2.1
            rw [rdSeats_length] at h10
            have h3 : (txN x 0 false).1.size = 4 + 33 * byteN (txN x 0 false).1 3 := Decidable.byContradiction fun y => hc (.inr (.inr y))
            show (txN x 0 false).1.size ≤ 4096
            omega
          · cases hq'
      · cases h

set_option maxHeartbeats 4000000 in
theorem check_wrong (oe : Int) (A : Option Addr) (n c : Nat) (old : List St) (x : ByteArray) (w : World) (hO : Seats w A n c old) (hr : rightB oe old = false) :
    Calls Try.prog 34 #[.agg #[.int .i64 oe, .slice A n c], .string x] w fun e w' => e = .returned (.tuple #[.agg #[.int .i64 0, .slice none 0 0], .int .i64 4]) ∧ Below w.heap.size w w' := by
  have HR := fun w' (hb : Below w.heap.size w w') => Lib.hid (right_any oe A n c old w' (hO.keep hb))
  rw [hr] at HR
  clear hO hr
  go_enter Try.func34, Try.ntmps34
  go_wp2_with fail
  obtain ⟨w0, hw0⟩ : ∃ w0, w0 = (w.alloc (.cells #[.int .i64 oe, .slice A n c] 50)).alloc (.cells #[.int .i64 0, .slice none 0 0] 50) := ⟨_, rfl⟩
  rw [← hw0]
  have hB0 : Below w.heap.size w w0 := by rw [hw0]; exact ((Below.refl _ _).alloc (Nat.le_refl _) _).alloc (by simp) _
  have hc0 : Hid (w0.heap[w.heap.size + 1]? = some (.cells #[.int .i64 0, .slice none 0 0] 50 (0, 0))) := Lib.hid (by
    rw [hw0]
    have := heap_alloc_new (w.alloc (.cells #[.int .i64 oe, .slice A n c] 50)) (.cells #[.int .i64 0, .slice none 0 0] 50)
    rw [show (w.alloc (.cells #[.int .i64 oe, .slice A n c] 50)).heap.size = w.heap.size + 1 by simp] at this
    exact this)
  clear hw0
  refine (HR w0 hB0).out.mono ?_
  rintro e w1 ⟨rfl, hb1⟩
  have hl := (Array.getElem?_eq_some_iff.1 hc0.out).1
  have hc1 := (hb1.block (w.heap.size + 1) hl).trans hc0.out
  have c0 := cell_of_row w1 (w.heap.size + 1) 0 _ _ _ hc1
  have c1 := cell_of_row w1 (w.heap.size + 1) 1 _ _ _ hc1
  have f0 := frozen_of_row w1 (w.heap.size + 1) 0 _ _ hc1
  have f1 := frozen_of_row w1 (w.heap.size + 1) 1 _ _ hc1
  simp at c0 c1
  have HC1 := Lib.hid hc1
  have HB1 := Lib.hid (hB0.trans (hb1.mono (by omega)))
  clear hb1 hc1 hB0 hc0 HR
  go_wp2_with fail
  obtain ⟨hs1, hs2⟩ := set_two w1 (w.heap.size + 1) _ _ _ (.int .i64 0) (.slice none 0 0) HC1.out
  refine bodyPost_ret (results_paper rfl _ _ (w.heap.size + 1) _ rfl (by rfl) hs1) rfl ?_
  exact ⟨rfl, HB1.out.grown hs2 HB1.out.size (fun kk h => by have := Option.some.inj h; omega)⟩

set_option maxHeartbeats 4000000 in
theorem check_right (oe : Int) (A : Option Addr) (n c : Nat) (old : List St) (x : ByteArray) (hx : x.size ≤ maxLen) (w : World) (hO : Seats w A n c old) (hr : rightB oe old = true) :
    Calls Try.prog 34 #[.agg #[.int .i64 oe, .slice A n c], .string x] w fun e w' => CheckOut w (checkV oe old x) w' e ∧ Below w.heap.size w w' := by
  have HV : Hid (checkV oe old x = match openG x with
    | none => .error 5
    | some p => if p.1 ≠ oe + 1 then .error 12 else if signedB (fun r s => verB r 3 p.2.2.1 s) old p.2.2.2 = false then .error 16
      else if p.2.2.2.length < qrN old.length then .error 15 else .ok (p.1, p.2.1)) := Lib.hid (by unfold checkV; rw [hr]; rfl)
  obtain ⟨f1, f2, f3, f4, _⟩ := right_facts hr
  have HR := fun w' (hb : Below w.heap.size w w') => Lib.hid (right_any oe A n c old w' (hO.keep hb))
  rw [hr] at HR
  have HOP := fun w' => Lib.hid (open_any x hx w')
  have HO := Lib.hid hO
  have f5 : old.length = n := hO.1
  rw [f5] at f3 f4
  have F5 := Lib.hid f5
  have q1 : IntKind.i64.wrap (oe + 1) = oe + 1 := by rw [IntKind.wrap_i64]; omega
  clear hO hr f5
  go_enter Try.func34, Try.ntmps34
  go_wp2_with fail
  obtain ⟨w0, hw0⟩ : ∃ w0, w0 = (w.alloc (.cells #[.int .i64 oe, .slice A n c] 50)).alloc (.cells #[.int .i64 0, .slice none 0 0] 50) := ⟨_, rfl⟩
  rw [← hw0]
  have hB0 : Below w.heap.size w w0 := by rw [hw0]; exact ((Below.refl _ _).alloc (Nat.le_refl _) _).alloc (by simp) _
  have hp0 : Hid (w0.heap[w.heap.size]? = some (.cells #[.int .i64 oe, .slice A n c] 50 (0, 0))) := Lib.hid (by rw [hw0]; exact (heap_alloc_old _ _ (by simp)).trans (heap_alloc_new w _))
  have hc0 : Hid (w0.heap[w.heap.size + 1]? = some (.cells #[.int .i64 0, .slice none 0 0] 50 (0, 0))) := Lib.hid (by
    rw [hw0]
    have := heap_alloc_new (w.alloc (.cells #[.int .i64 oe, .slice A n c] 50)) (.cells #[.int .i64 0, .slice none 0 0] 50)
    rw [show (w.alloc (.cells #[.int .i64 oe, .slice A n c] 50)).heap.size = w.heap.size + 1 by simp] at this
    exact this)
  clear hw0
  refine (HR w0 hB0).out.mono ?_
  rintro e w1 ⟨rfl, hb1⟩
  have hl := (Array.getElem?_eq_some_iff.1 hc0.out).1
  have hc1 := Lib.hid ((hb1.block (w.heap.size + 1) hl).trans hc0.out)
  have hp1 := Lib.hid ((hb1.block w.heap.size (by omega)).trans hp0.out)
  have hB1 := Lib.hid (hB0.trans (hb1.mono (by omega)))
  have hz1 : w.heap.size + 2 ≤ w1.heap.size := by have := hb1.size; omega
  clear hb1 hB0 hc0 hp0 HR hl
  go_wp2_with fail
  refine (HOP w1).out.mono ?_
  rintro e w2 ⟨hout, hb2⟩
  have hc2 := Lib.hid ((hb2.block (w.heap.size + 1) (by omega)).trans hc1.out)
  have hp2 := Lib.hid ((hb2.block w.heap.size (by omega)).trans hp1.out)
  have hB2 := Lib.hid (hB1.out.trans (hb2.mono (by omega)))
  have hz2 : w.heap.size + 2 ≤ w2.heap.size := by have := hb2.size; omega
  clear hb2 hc1 hp1 hB1 HOP
  cases hog : openG x with
  | none =>
    rw [hog] at hout
    obtain ⟨a, OA, on, oc, t, OB, om, od, rfl⟩ := hout
    have HV2 : Hid (checkV oe old x = .error 5) := Lib.hid (by rw [HV.out, hog])
    clear HV hog
    have c0 := cell_of_row w2 (w.heap.size + 1) 0 _ _ _ hc2.out
    have c1 := cell_of_row w2 (w.heap.size + 1) 1 _ _ _ hc2.out
    have g0 := frozen_of_row w2 (w.heap.size + 1) 0 _ _ hc2.out
    have g1 := frozen_of_row w2 (w.heap.size + 1) 1 _ _ hc2.out
    simp at c0 c1
    have hl : w.heap.size + 1 < w2.heap.size := by omega
    go_wp2_with fail
    obtain ⟨hs1, hs2⟩ := set_two w2 (w.heap.size + 1) _ _ _ (.int .i64 0) (.slice none 0 0) hc2.out
    obtain ⟨W, hW⟩ : ∃ W, W = (w2.setCell ⟨w.heap.size + 1, 0, none⟩ (.int .i64 0)).setCell ⟨w.heap.size + 1, 1, none⟩ (.slice none 0 0) := ⟨_, rfl⟩
    rw [← hW]
    rw [← hW] at hs1 hs2
    have hz3 := hs2.size
    refine bodyPost_ret (results_paper rfl _ _ (w.heap.size + 1) _ rfl (by rfl) ((heap_alloc_old W _ (show w.heap.size + 1 < W.heap.size by omega)).trans hs1)) rfl ?_
    rw [HV2.out]
    have hB3 := hB2.out.grown hs2 hB2.out.size (fun kk h => by have := Option.some.inj h; omega)
    exact ⟨rfl, hB3.alloc hB3.size _⟩
  | some p =>
    rw [hog] at hout
    obtain ⟨pe, l, t, sg⟩ := p
    obtain ⟨PA, PC, SA, SC, rfl, hol, hos⟩ := hout
    obtain ⟨ht, _⟩ := open_text hog
    have HV2 : Hid (checkV oe old x = if pe ≠ oe + 1 then .error 12 else if signedB (fun r s => verB r 3 t s) old sg = false then .error 16
      else if sg.length < qrN n then .error 15 else .ok (pe, l)) := Lib.hid (by rw [HV.out, hog, F5.out])
    have HOL := Lib.hid hol
    have HOS := Lib.hid hos
    have HS3 := fun w' (hb : Below w2.heap.size w2 w') => Lib.hid (signed_any pe PA l.length PC t ht SA sg.length SC sg oe A n c old w' (hos.seats.keep hb) (HO.out.keep (hB2.out.trans (hb.mono (by omega)))))
    have hq := quorum_u n f3 f4
    have c0 := cell_of_row w2 (w.heap.size + 1) 0 _ _ _ hc2.out
    have c1 := cell_of_row w2 (w.heap.size + 1) 1 _ _ _ hc2.out
    have g0 := frozen_of_row w2 (w.heap.size + 1) 0 _ _ hc2.out
    have g1 := frozen_of_row w2 (w.heap.size + 1) 1 _ _ hc2.out
    have d0 := cell_of_row w2 w.heap.size 0 _ _ _ hp2.out
    have d1 := cell_of_row w2 w.heap.size 1 _ _ _ hp2.out
    simp at c0 c1 d0 d1
    have hl : w.heap.size + 1 < w2.heap.size := by omega
    have hl0 : w.heap.size < w2.heap.size := by omega
    have HQ := fun w' => Lib.hid (hq w')
    clear HV hog hol hos ht hq
    by_cases he : pe = oe + 1
    · have he' : (pe != oe + 1) = false := by simpa using he
      have HV3 := Lib.hid (HV2.out.trans (if_neg (by simpa using he)))
      have HE := Lib.hid he
      clear he HV2
      have hal : Below w2.heap.size w2 (w2.alloc (.cells #[.int .i64 pe, .slice PA l.length PC, .string t, .slice SA sg.length SC] 99)) := (Below.refl _ _).alloc (Nat.le_refl _) _
      have HSC := HS3 _ hal
      have HAL := Lib.hid hal
      have HC3 := Lib.hid (heap_alloc_new w2 (.cells #[.int .i64 pe, .slice PA l.length PC, .string t, .slice SA sg.length SC] 99))
      have HZ3 : w2.heap.size < (w2.alloc (.cells #[.int .i64 pe, .slice PA l.length PC, .string t, .slice SA sg.length SC] 99)).heap.size := by simp
      clear hal HS3
      go_wp2_with fail
      obtain ⟨kb, hkb⟩ : ∃ kb, kb = w2.heap.size := ⟨_, rfl⟩
      rw [← hkb] at HC3 HZ3
      rw [← hkb]
      generalize w2.alloc (.cells #[.int .i64 pe, .slice PA l.length PC, .string t, .slice SA sg.length SC] 99) = w3 at HSC HAL HC3 HZ3 ⊢
      clear c0 c1 g0 g1 d0 d1
      refine HSC.out.mono ?_
      rintro e w4 ⟨rfl, hb4⟩
      have HKB := Lib.hid hkb
      have hz3 := HAL.out.size
      have hz4 := hb4.size
      have hc4 := Lib.hid ((hb4.block (w.heap.size + 1) (by omega)).trans ((HAL.out.block (w.heap.size + 1) hl).trans hc2.out))
      have hp4 := Lib.hid ((hb4.block w.heap.size (by omega)).trans ((HAL.out.block w.heap.size hl0).trans hp2.out))
      have hk4 := Lib.hid ((hb4.block kb HZ3).trans HC3.out)
      have hB4 := Lib.hid (hB2.out.trans ((HAL.out.trans (hb4.mono hz3)).mono (by omega)))
      have HOL4 := Lib.hid ((HOL.out.keep HAL.out).keep hb4)
      have hkl : w.heap.size + 1 < kb := by omega
      have hkl4 : kb < w4.heap.size := by omega
      clear hb4 HSC hkb HOL HOS HAL
      have c0 := cell_of_row w4 (w.heap.size + 1) 0 _ _ _ hc4.out
      have c1 := cell_of_row w4 (w.heap.size + 1) 1 _ _ _ hc4.out
      have g0 := frozen_of_row w4 (w.heap.size + 1) 0 _ _ hc4.out
      have g1 := frozen_of_row w4 (w.heap.size + 1) 1 _ _ hc4.out
      have d0 := cell_of_row w4 w.heap.size 0 _ _ _ hp4.out
      have d1 := cell_of_row w4 w.heap.size 1 _ _ _ hp4.out
      have k0 := cell_of_row w4 kb 0 _ _ _ hk4.out
      have k1 := cell_of_row w4 kb 1 _ _ _ hk4.out
      have k3 := cell_of_row w4 kb 3 _ _ _ hk4.out
      simp at c0 c1 d0 d1 k0 k1 k3
      cases hsb : signedB (fun r s => verB r 3 t s) old sg with
      | false =>
        have HV4 := Lib.hid (HV3.out.trans (if_pos hsb))
        clear hsb HV3 HQ
        go_wp2_with fail
        obtain ⟨hs1, hs2⟩ := set_two w4 (w.heap.size + 1) _ _ _ (.int .i64 0) (.slice none 0 0) hc4.out
        refine bodyPost_ret (results_paper rfl _ _ (w.heap.size + 1) _ rfl (by rfl) hs1) rfl ?_
        rw [HV4.out]
        exact ⟨rfl, hB4.out.grown hs2 hB4.out.size (fun kk h => by have := Option.some.inj h; omega)⟩
      | true =>
        have HV4 := Lib.hid (HV3.out.trans (if_neg (by rw [hsb]; simp)))
        clear hsb HV3
        by_cases hlt : sg.length < qrN n
        · have HV5 := Lib.hid (HV4.out.trans (if_pos hlt))
          have hlt' : (sg.length : Int) < (qrN n : Int) := by omega
          generalize qrN n = qn at HQ hlt'
          clear hlt HV4
          go_wp2_with fail
          go_quiet ((go_at_call 42; exact Calls.quiet_of_same ((HQ _).out.mono fun e w' h => ⟨h.1, h.2.symm⟩)))
          have hb := below_drewN (Below.refl w4.heap.size w4) nq
          have hc5 := Lib.hid ((hb.block (w.heap.size + 1) (by omega)).trans hc4.out)
          have hB5 := Lib.hid (hB4.out.trans (hb.mono (by omega)))
          have hz5 := hb.size
          generalize w4.drewN nq = w5 at hb hc5 hB5 hz5 ⊢
          clear hb c0 c1 g0 g1 d0 d1 k0 k1 k3
          have c0 := cell_of_row w5 (w.heap.size + 1) 0 _ _ _ hc5.out
          have c1 := cell_of_row w5 (w.heap.size + 1) 1 _ _ _ hc5.out
          have g0 := frozen_of_row w5 (w.heap.size + 1) 0 _ _ hc5.out
          have g1 := frozen_of_row w5 (w.heap.size + 1) 1 _ _ hc5.out
          simp at c0 c1
          go_wp2_with fail
          obtain ⟨hs1, hs2⟩ := set_two w5 (w.heap.size + 1) _ _ _ (.int .i64 0) (.slice none 0 0) hc5.out
          refine bodyPost_ret (results_paper rfl _ _ (w.heap.size + 1) _ rfl (by rfl) hs1) rfl ?_
          rw [HV5.out]
          exact ⟨rfl, hB5.out.grown hs2 hB5.out.size (fun kk h => by have := Option.some.inj h; omega)⟩
        · have HV5 := Lib.hid (HV4.out.trans (if_neg hlt))
          have hlt' : ¬ (sg.length : Int) < (qrN n : Int) := by omega
          generalize qrN n = qn at HQ hlt'
          clear hlt HV4
          go_wp2_with fail
          go_quiet ((go_at_call 42; exact Calls.quiet_of_same ((HQ _).out.mono fun e w' h => ⟨h.1, h.2.symm⟩)))
          have hb := below_drewN (Below.refl w4.heap.size w4) nq
          have hc5 := Lib.hid ((hb.block (w.heap.size + 1) (by omega)).trans hc4.out)
          have hk5 := Lib.hid ((hb.block kb hkl4).trans hk4.out)
          have hp5 := Lib.hid ((hb.block w.heap.size (by omega)).trans hp4.out)
          have hB5 := Lib.hid (hB4.out.trans (hb.mono (by omega)))
          have HOL5 := Lib.hid (HOL4.out.keep hb)
          have hz5 := hb.size
          generalize w4.drewN nq = w5 at hb hc5 hk5 hp5 hB5 HOL5 hz5 ⊢
          clear hb c0 c1 g0 g1 d0 d1 k0 k1 k3
          have c0 := cell_of_row w5 (w.heap.size + 1) 0 _ _ _ hc5.out
          have c1 := cell_of_row w5 (w.heap.size + 1) 1 _ _ _ hc5.out
          have g0 := frozen_of_row w5 (w.heap.size + 1) 0 _ _ hc5.out
          have g1 := frozen_of_row w5 (w.heap.size + 1) 1 _ _ hc5.out
          have d0 := cell_of_row w5 w.heap.size 0 _ _ _ hp5.out
          have d1 := cell_of_row w5 w.heap.size 1 _ _ _ hp5.out
          have k0 := cell_of_row w5 kb 0 _ _ _ hk5.out
          have k1 := cell_of_row w5 kb 1 _ _ _ hk5.out
          have k3 := cell_of_row w5 kb 3 _ _ _ hk5.out
          simp at c0 c1 d0 d1 k0 k1 k3
          go_wp2_with fail
          obtain ⟨hs1, hs2⟩ := set_two w5 (w.heap.size + 1) _ _ _ (.int .i64 pe) (.slice PA l.length PC) hc5.out
          refine bodyPost_ret (results_paper rfl _ _ (w.heap.size + 1) _ rfl (by rfl) hs1) rfl ?_
          rw [HV5.out]
          refine ⟨⟨PA, PC, rfl, ?_⟩, hB5.out.grown hs2 (by omega) (fun kk h => by have := Option.some.inj h; omega)⟩
          have := (HOL5.out.far (b := w.heap.size + 1) (by omega) hs2).lower (b := w.heap.size) (by omega)
          exact this
    · have he' : (pe != oe + 1) = true := by simpa using he
      have HV2 := Lib.hid (HV2.out.trans (if_pos he))
      clear he HS3 HQ
      go_wp2_with fail
      obtain ⟨hs1, hs2⟩ := set_two w2 (w.heap.size + 1) _ _ _ (.int .i64 0) (.slice none 0 0) hc2.out
      obtain ⟨W, hW⟩ : ∃ W, W = (w2.setCell ⟨w.heap.size + 1, 0, none⟩ (.int .i64 0)).setCell ⟨w.heap.size + 1, 1, none⟩ (.slice none 0 0) := ⟨_, rfl⟩
      rw [← hW]
      rw [← hW] at hs1 hs2
      have hz3 := hs2.size
      refine bodyPost_ret (results_paper rfl _ _ (w.heap.size + 1) _ rfl (by rfl) ((heap_alloc_old W _ (show w.heap.size + 1 < W.heap.size by omega)).trans hs1)) rfl ?_
      rw [HV2.out]
      have hB3 := hB2.out.grown hs2 hB2.out.size (fun kk h => by have := Option.some.inj h; omega)
      exact ⟨rfl, hB3.alloc hB3.size _⟩
theorem pcheck_any (oe : Int) (A : Option Addr) (n c : Nat) (old : List St) (x : ByteArray) (hx : x.size ≤ maxLen) (w : World) (hO : Seats w A n c old) :
    Calls Try.prog 34 #[.agg #[.int .i64 oe, .slice A n c], .string x] w fun e w' => CheckOut w (checkV oe old x) w' e ∧ Below w.heap.size w w' := by
  cases hr : rightB oe old with
  | true => exact check_right oe A n c old x hx w hO hr
  | false =>
    have e : checkV oe old x = .error 4 := by unfold checkV; rw [hr]; rfl
    rw [e]
    exact check_wrong oe A n c old x w hO hr
end Go.Proofs.Ytljnadbfadgglaa

/- witanref08.Check. No condition. -/
namespace Go.Proofs.Ytljnadbfadgglaa
open Go.RowKit
set_option maxRecDepth 100000
set_option linter.unusedVariables false
set_option linter.unusedSimpArgs false

set_option maxHeartbeats 4000000 in
theorem refcheck_wrong (oe : Int) (A : Option Addr) (n c : Nat) (old : List St) (x : ByteArray) (w : World) (hO : Seats w A n c old) (hr : rightB oe old = false) :
    Calls Try.prog 35 #[.agg #[.int .i64 oe, .slice A n c], .string x] w fun e w' => e = .returned (.tuple #[.agg #[.int .i64 0, .slice none 0 0], .int .i64 4]) ∧ Below w.heap.size w w' := by
  have HR := fun w' (hb : Below w.heap.size w w') => Lib.hid (refright_any oe A n c old w' (hO.keep hb))
  rw [hr] at HR
  clear hO hr
  go_enter Try.func35, Try.ntmps35
  go_wp2_with fail
  obtain ⟨w0, hw0⟩ : ∃ w0, w0 = (w.alloc (.cells #[.int .i64 oe, .slice A n c] 50)).alloc (.cells #[.int .i64 0, .slice none 0 0] 50) := ⟨_, rfl⟩
  rw [← hw0]
  have hB0 : Below w.heap.size w w0 := by rw [hw0]; exact ((Below.refl _ _).alloc (Nat.le_refl _) _).alloc (by simp) _
  have hc0 : Hid (w0.heap[w.heap.size + 1]? = some (.cells #[.int .i64 0, .slice none 0 0] 50 (0, 0))) := Lib.hid (by
    rw [hw0]
    have := heap_alloc_new (w.alloc (.cells #[.int .i64 oe, .slice A n c] 50)) (.cells #[.int .i64 0, .slice none 0 0] 50)
    rw [show (w.alloc (.cells #[.int .i64 oe, .slice A n c] 50)).heap.size = w.heap.size + 1 by simp] at this
    exact this)
  clear hw0
  refine (HR w0 hB0).out.mono ?_
  rintro e w1 ⟨rfl, hb1⟩
  have hl := (Array.getElem?_eq_some_iff.1 hc0.out).1
  have hc1 := (hb1.block (w.heap.size + 1) hl).trans hc0.out
  have c0 := cell_of_row w1 (w.heap.size + 1) 0 _ _ _ hc1
  have c1 := cell_of_row w1 (w.heap.size + 1) 1 _ _ _ hc1
  have f0 := frozen_of_row w1 (w.heap.size + 1) 0 _ _ hc1
  have f1 := frozen_of_row w1 (w.heap.size + 1) 1 _ _ hc1
  simp at c0 c1
  have HC1 := Lib.hid hc1
  have HB1 := Lib.hid (hB0.trans (hb1.mono (by omega)))
  clear hb1 hc1 hB0 hc0 HR
  go_wp2_with fail
  obtain ⟨hs1, hs2⟩ := set_two w1 (w.heap.size + 1) _ _ _ (.int .i64 0) (.slice none 0 0) HC1.out
  refine bodyPost_ret (results_paper rfl _ _ (w.heap.size + 1) _ rfl (by rfl) hs1) rfl ?_
  exact ⟨rfl, HB1.out.grown hs2 HB1.out.size (fun kk h => by have := Option.some.inj h; omega)⟩

/-- The number before. -/
def prevS (sg : List St) : Nat → Option Int
  | 0 => none
  | k + 1 => some (sg.getD k (0, ByteArray.empty)).1

set_option maxHeartbeats 4000000 in
theorem refcheck_right (oe : Int) (A : Option Addr) (n c : Nat) (old : List St) (x : ByteArray) (hx : x.size ≤ maxLen) (w : World) (hO : Seats w A n c old) (hr : rightB oe old = true) :
    Calls Try.prog 35 #[.agg #[.int .i64 oe, .slice A n c], .string x] w fun e w' => CheckOut w (checkV oe old x) w' e ∧ Below w.heap.size w w' := by
  have HV : Hid (checkV oe old x = match openG x with
    | none => .error 5
    | some p => if p.1 ≠ oe + 1 then .error 12 else if signedB (fun r s => verB r 3 p.2.2.1 s) old p.2.2.2 = false then .error 16
      else if p.2.2.2.length < qrN old.length then .error 15 else .ok (p.1, p.2.1)) := Lib.hid (by unfold checkV; rw [hr]; rfl)
  obtain ⟨f1, f2, f3, f4, _⟩ := right_facts hr
  have HR := fun w' (hb : Below w.heap.size w w') => Lib.hid (refright_any oe A n c old w' (hO.keep hb))
  rw [hr] at HR
  have HOP := fun w' => Lib.hid (refopen_any x hx w')
  have HO := Lib.hid hO
  have f5 : old.length = n := hO.1
  rw [f5] at f3 f4
  have F5 := Lib.hid f5
  have q1 : IntKind.i64.wrap (oe + 1) = oe + 1 := by rw [IntKind.wrap_i64]; omega
  have HRI := Lib.hid hr
  clear hO hr f5
  go_enter Try.func35, Try.ntmps35
  go_wp2_with fail
  obtain ⟨w0, hw0⟩ : ∃ w0, w0 = (w.alloc (.cells #[.int .i64 oe, .slice A n c] 50)).alloc (.cells #[.int .i64 0, .slice none 0 0] 50) := ⟨_, rfl⟩
  rw [← hw0]
  have hB0 : Below w.heap.size w w0 := by rw [hw0]; exact ((Below.refl _ _).alloc (Nat.le_refl _) _).alloc (by simp) _
  have hp0 : Hid (w0.heap[w.heap.size]? = some (.cells #[.int .i64 oe, .slice A n c] 50 (0, 0))) := Lib.hid (by rw [hw0]; exact (heap_alloc_old _ _ (by simp)).trans (heap_alloc_new w _))
  have hc0 : Hid (w0.heap[w.heap.size + 1]? = some (.cells #[.int .i64 0, .slice none 0 0] 50 (0, 0))) := Lib.hid (by
    rw [hw0]
    have := heap_alloc_new (w.alloc (.cells #[.int .i64 oe, .slice A n c] 50)) (.cells #[.int .i64 0, .slice none 0 0] 50)
    rw [show (w.alloc (.cells #[.int .i64 oe, .slice A n c] 50)).heap.size = w.heap.size + 1 by simp] at this
    exact this)
  clear hw0
  refine (HR w0 hB0).out.mono ?_
  rintro e w1 ⟨rfl, hb1⟩
  have hl := (Array.getElem?_eq_some_iff.1 hc0.out).1
  have hc1 := Lib.hid ((hb1.block (w.heap.size + 1) hl).trans hc0.out)
  have hp1 := Lib.hid ((hb1.block w.heap.size (by omega)).trans hp0.out)
  have hB1 := Lib.hid (hB0.trans (hb1.mono (by omega)))
  have hz1 : w.heap.size + 2 ≤ w1.heap.size := by have := hb1.size; omega
  clear hb1 hB0 hc0 hp0 HR hl
  go_wp2_with fail
  refine (HOP w1).out.mono ?_
  rintro e w2 ⟨hout, hb2⟩
  have hc2 := Lib.hid ((hb2.block (w.heap.size + 1) (by omega)).trans hc1.out)
  have hp2 := Lib.hid ((hb2.block w.heap.size (by omega)).trans hp1.out)
  have hB2 := Lib.hid (hB1.out.trans (hb2.mono (by omega)))
  have hz2 : w.heap.size + 2 ≤ w2.heap.size := by have := hb2.size; omega
  clear hb2 hc1 hp1 hB1 HOP
  cases hog : openG x with
  | none =>
    rw [hog] at hout
    obtain rfl := hout
    have HV2 : Hid (checkV oe old x = .error 5) := Lib.hid (by rw [HV.out, hog])
    clear HV hog
    have c0 := cell_of_row w2 (w.heap.size + 1) 0 _ _ _ hc2.out
    have c1 := cell_of_row w2 (w.heap.size + 1) 1 _ _ _ hc2.out
    have g0 := frozen_of_row w2 (w.heap.size + 1) 0 _ _ hc2.out
    have g1 := frozen_of_row w2 (w.heap.size + 1) 1 _ _ hc2.out
    simp at c0 c1
    have hl : w.heap.size + 1 < w2.heap.size := by omega
    go_wp2_with fail
    obtain ⟨hs1, hs2⟩ := set_two w2 (w.heap.size + 1) _ _ _ (.int .i64 0) (.slice none 0 0) hc2.out
    obtain ⟨W, hW⟩ : ∃ W, W = (w2.setCell ⟨w.heap.size + 1, 0, none⟩ (.int .i64 0)).setCell ⟨w.heap.size + 1, 1, none⟩ (.slice none 0 0) := ⟨_, rfl⟩
    rw [← hW]
    rw [← hW] at hs1 hs2
    have hz3 := hs2.size
    refine bodyPost_ret (results_paper rfl _ _ (w.heap.size + 1) _ rfl (by rfl) ((heap_alloc_old W _ (show w.heap.size + 1 < W.heap.size by omega)).trans hs1)) rfl ?_
    rw [HV2.out]
    have hB3 := hB2.out.grown hs2 hB2.out.size (fun kk h => by have := Option.some.inj h; omega)
    exact ⟨rfl, hB3.alloc hB3.size _⟩
  | some p =>
    rw [hog] at hout
    obtain ⟨pe, l, t, sg⟩ := p
    obtain ⟨PA, PC, SA, SC, rfl, hol, hos⟩ := hout
    obtain ⟨ht, _⟩ := open_text hog
    have HV2 : Hid (checkV oe old x = if pe ≠ oe + 1 then .error 12 else if refSg (fun r s => verB r 3 t s) old none sg = false then .error 16
      else if sg.length < qrN n then .error 15 else .ok (pe, l)) := Lib.hid (by rw [HV.out, hog, F5.out, signed_eq (fun r s => verB r 3 t s) old sg oe HRI.out])
    have hq := rquorum_u n f3 f4
    have c0 := cell_of_row w2 (w.heap.size + 1) 0 _ _ _ hc2.out
    have c1 := cell_of_row w2 (w.heap.size + 1) 1 _ _ _ hc2.out
    have g0 := frozen_of_row w2 (w.heap.size + 1) 0 _ _ hc2.out
    have g1 := frozen_of_row w2 (w.heap.size + 1) 1 _ _ hc2.out
    have d0 := cell_of_row w2 w.heap.size 0 _ _ _ hp2.out
    have d1 := cell_of_row w2 w.heap.size 1 _ _ _ hp2.out
    simp at c0 c1 d0 d1
    have hl : w.heap.size + 1 < w2.heap.size := by omega
    have hl0 : w.heap.size < w2.heap.size := by omega
    have HQ := fun w' => Lib.hid (hq w')
    clear HV hog hq
    by_cases he : pe = oe + 1
    · have he' : (pe != oe + 1) = false := by simpa using he
      have HV3 := Lib.hid (HV2.out.trans (if_neg (by simpa using he)))
      have HE := Lib.hid he
      clear he HV2
      have hal : Below w2.heap.size w2 (w2.alloc (.cells #[.int .i64 pe, .slice PA l.length PC] 50)) := (Below.refl _ _).alloc (Nat.le_refl _) _
      have HC3 := Lib.hid (heap_alloc_new w2 (.cells #[.int .i64 pe, .slice PA l.length PC] 50))
      have HZ3 : w2.heap.size < (w2.alloc (.cells #[.int .i64 pe, .slice PA l.length PC] 50)).heap.size := by simp
      have HOL3 := Lib.hid (hol.keep hal)
      have HOS3 := Lib.hid (hos.seats.keep hal)
      have HAL := Lib.hid hal
      clear hal hol hos
      go_wp2_with fail
      obtain ⟨kb, hkb⟩ : ∃ kb, kb = w2.heap.size := ⟨_, rfl⟩
      rw [← hkb] at HC3 HZ3
      rw [← hkb]
      obtain ⟨ver, hver⟩ : ∃ ver : ByteArray → ByteArray → Bool, ver = fun r s => verB r 3 t s := ⟨_, rfl⟩
      rw [← hver] at HV3
      have HVF : ∀ (r s : ByteArray) (w : World), Hid (Calls Try.prog 27 #[.string r, .int .i64 3, .string t, .string s] w fun e w' => e = .returned (.bool (ver r s)) ∧ Below w.heap.size w w') := fun r s w => Lib.hid (by rw [hver]; exact refverify_u r 3 t ht s w)
      generalize w2.alloc (.cells #[.int .i64 pe, .slice PA l.length PC] 50) = w3 at HC3 HZ3 HOL3 HOS3 HAL ⊢
      have hc3 := Lib.hid ((HAL.out.block (w.heap.size + 1) hl).trans hc2.out)
      have hp3 := Lib.hid ((HAL.out.block w.heap.size hl0).trans hp2.out)
      have hB3 := Lib.hid (hB2.out.trans (HAL.out.mono (by omega)))
      have HO3 := Lib.hid (HO.out.keep hB3.out)
      have hz3 : w.heap.size + 2 ≤ w3.heap.size := by have := HAL.out.size; omega
      have hkl : w.heap.size + 1 < kb := by omega
      have HLM := Lib.hid HOS3.out.2.1
      have hm63 : sg.length ≤ 9223372036854775807 := Nat.le_trans HOS3.out.2.1 HOS3.out.2.2.1
      clear c0 c1 g0 g1 d0 d1 hkb hver ht HAL hp2 hc2 hB2
      obtain ⟨RR, hRR⟩ : ∃ RR, RR = refSg ver old none sg := ⟨_, rfl⟩
      rw [← hRR] at HV3
      have HRR := Lib.hid hRR
      clear hRR
      go_loopw [10] (fun j wr => ∃ k : Nat, k ≤ sg.length ∧ j = .int .i64 k ∧ Hid (RR = refSg ver old (prevS sg k) (sg.drop k)) ∧ Below w3.heap.size w3 wr) (fun j _ => sg.length - (intOf j).toNat)
      case atStart => exact ⟨0, by omega, rfl, HRR, Below.refl _ _⟩
      case round =>
        obtain ⟨k, hk, rfl, hup, hbel⟩ := hrel
        have HB3 := Lib.hid hbel
        have hzr := hbel.size
        have HCR := Lib.hid ((hbel.block (w.heap.size + 1) (by omega)).trans hc3.out)
        have HPR := Lib.hid ((hbel.block w.heap.size (by omega)).trans hp3.out)
        have HBR := Lib.hid (hB3.out.trans (hbel.mono (by omega)))
        clear hbel
        by_cases hkn : k < sg.length
        · have n0 : 0 ≤ (k : Int) := by omega
          have n1 : (k : Int) < (sg.length : Int) := by omega
          obtain ⟨b, off, rfl, hb, hcs⟩ := HOS3.out.at k hkn
          have hb' : b < wr.heap.size := by omega
          have ca := (HB3.out.cell (p := ⟨b, off + k * 2, none⟩) hb).trans (hcs k hkn).1
          have cx := (HB3.out.cell (p := ⟨b, off + k * 2 + 1, none⟩) hb).trans (hcs k hkn).2
          have hd := drop_getD sg k hkn
          have HNX : Hid (prevS sg (k + 1) = some (sg.getD k (0, ByteArray.empty)).1) := Lib.hid rfl
          have HU : Hid (RR = refSg ver old (prevS sg k) (((sg.getD k (0, ByteArray.empty)).1, (sg.getD k (0, ByteArray.empty)).2) :: sg.drop (k + 1))) := Lib.hid (by rw [hup.out, hd])
          generalize (sg.getD k (0, ByteArray.empty)).1 = id at ca HU HNX
          generalize (sg.getD k (0, ByteArray.empty)).2 = sx at cx HU
          have d0 := cell_of_row wr w.heap.size 0 _ _ _ HPR.out
          have d1 := cell_of_row wr w.heap.size 1 _ _ _ HPR.out
          simp at d0 d1
          have hwl : w.heap.size < wr.heap.size := by omega
          have q0 := fun y : Bel wr.heap.size wr => y.cell hwl d0
          have q1 := fun y : Bel wr.heap.size wr => y.cell hwl d1
          have q2 := fun y : Bel wr.heap.size wr => y.cell hb' ca
          have q3 := fun y : Bel wr.heap.size wr => y.cell hb' cx
          have K1 := fun y : Bel wr.heap.size wr => Lib.hid (root_any oe A n c old id y.w (HO3.out.keep (HB3.out.trans (y.h.mono hzr))))
          clear hd hup ca cx d0 d1
          cases hrt : rootB id old with
          | none =>
            rw [hrt] at K1
            have K2 : ∀ y : Bel wr.heap.size wr, Hid (Calls Try.prog 66 #[.agg #[.int .i64 oe, .slice A n c], .int .i64 id] y.w fun e w' => e = .returned (.tuple #[.string ⟨#[]⟩, .bool false]) ∧ Below y.w.heap.size y.w w') := K1
            have hRf : RR = false := by rw [HU.out]; unfold refSg; rw [hrt]
            have HV4 := Lib.hid (HV3.out.trans (if_pos hRf))
            clear hrt hRf K1 hcs HU
            go_wp2_with fail
            refine wp_region_bel wr.heap.size wr (by kernel_rfl) (by kernel_rfl) (Below.refl _ _) ?_
            repeat (go_big_quiet_step (first | (go_at_call 66; exact calls_bel (Nat.le_refl _) (K2 _).out)))
            refine wpQuiet_nil ?_
            rintro _ ⟨y, rfl⟩
            clear K2
            go_wp2_with fail
            refine wp_region_bel wr.heap.size wr (by kernel_rfl) (by kernel_rfl) y.h ?_
            repeat (go_big_quiet_step (fail))
            refine wpQuiet_nil ?_
            rintro _ ⟨z, rfl⟩
            clear q0 q1 q2 q3 
            have hcy := (z.h.block (w.heap.size + 1) (by omega)).trans HCR.out
            have hBy := HBR.out.trans (z.h.mono (by omega))
            have hzy := z.h.size
            have c0 := cell_of_row z.w (w.heap.size + 1) 0 _ _ _ hcy
            have c1 := cell_of_row z.w (w.heap.size + 1) 1 _ _ _ hcy
            have g0 := frozen_of_row z.w (w.heap.size + 1) 0 _ _ hcy
            have g1 := frozen_of_row z.w (w.heap.size + 1) 1 _ _ hcy
            simp at c0 c1
            have HCY := Lib.hid hcy
            have HBY := Lib.hid hBy
            clear hcy hBy
            go_wp2_with fail
            obtain ⟨hs1, hs2⟩ := set_two z.w (w.heap.size + 1) _ _ _ (.int .i64 0) (.slice none 0 0) HCY.out
            refine bodyPost_ret (results_paper rfl _ _ (w.heap.size + 1) _ rfl (by rfl) hs1) rfl ?_
            rw [HV4.out]
            exact ⟨rfl, HBY.out.grown hs2 HBY.out.size (fun kk h => by have := Option.some.inj h; omega)⟩
          | some r =>
            rw [hrt] at K1
            have K2 : ∀ y : Bel wr.heap.size wr, Hid (Calls Try.prog 66 #[.agg #[.int .i64 oe, .slice A n c], .int .i64 id] y.w fun e w' => e = .returned (.tuple #[.string r, .bool true]) ∧ Below y.w.heap.size y.w w') := K1
            have HU2 : Hid (RR = (lessB (prevS sg k) id && ver r sx && refSg ver old (some id) (sg.drop (k + 1)))) := Lib.hid (by rw [HU.out]; show (match rootB id old with | none => false | some r => lessB (prevS sg k) id && ver r sx && refSg ver old (some id) (sg.drop (k + 1))) = _; rw [hrt])
            clear hrt K1 HU
            cases k with
            | zero =>
              have HU3 : Hid (RR = (ver r sx && refSg ver old (some id) (sg.drop (0 + 1)))) := Lib.hid (by rw [HU2.out]; rfl)
              clear HU2 hcs
              simp only [Nat.zero_mul, Nat.add_zero] at q2 q3
              go_wp2_with fail
              refine wp_region_bel wr.heap.size wr (by kernel_rfl) (by kernel_rfl) (Below.refl _ _) ?_
              repeat (go_big_quiet_step (first | (go_at_call 66; exact calls_bel (Nat.le_refl _) (K2 _).out)))
              refine wpQuiet_nil ?_
              rintro _ ⟨y, rfl⟩
              clear K2
              have HV1 := fun w' => HVF r sx w'
              cases hv : ver r sx with
              | false =>
                have HV4 := Lib.hid (HV3.out.trans (if_pos (by rw [HU3.out, hv]; rfl)))
                rw [hv] at HV1
                clear hv
                go_wp2_with fail
                refine wp_region_bel wr.heap.size wr (by kernel_rfl) (by kernel_rfl) y.h ?_
                repeat (go_big_quiet_step (first | (go_at_call 27; exact calls_bel (Nat.le_refl _) (HV1 _).out)))
                refine wpQuiet_nil ?_
                rintro _ ⟨z, rfl⟩
                clear q0 q1 q2 q3 
                have hcy := (z.h.block (w.heap.size + 1) (by omega)).trans HCR.out
                have hBy := HBR.out.trans (z.h.mono (by omega))
                have hzy := z.h.size
                have c0 := cell_of_row z.w (w.heap.size + 1) 0 _ _ _ hcy
                have c1 := cell_of_row z.w (w.heap.size + 1) 1 _ _ _ hcy
                have g0 := frozen_of_row z.w (w.heap.size + 1) 0 _ _ hcy
                have g1 := frozen_of_row z.w (w.heap.size + 1) 1 _ _ hcy
                simp at c0 c1
                have HCY := Lib.hid hcy
                have HBY := Lib.hid hBy
                clear hcy hBy
                go_wp2_with fail
                obtain ⟨hs1, hs2⟩ := set_two z.w (w.heap.size + 1) _ _ _ (.int .i64 0) (.slice none 0 0) HCY.out
                refine bodyPost_ret (results_paper rfl _ _ (w.heap.size + 1) _ rfl (by rfl) hs1) rfl ?_
                rw [HV4.out]
                exact ⟨rfl, HBY.out.grown hs2 HBY.out.size (fun kk h => by have := Option.some.inj h; omega)⟩
              | true =>
                have HN : Hid (RR = refSg ver old (prevS sg (0 + 1)) (sg.drop (0 + 1))) := Lib.hid (by rw [HU3.out, hv, HNX.out]; rfl)
                rw [hv] at HV1
                clear hv
                go_wp2_with fail
                refine wp_region_bel wr.heap.size wr (by kernel_rfl) (by kernel_rfl) y.h ?_
                repeat (go_big_quiet_step (first | (go_at_call 27; exact calls_bel (Nat.le_refl _) (HV1 _).out)))
                refine wpQuiet_nil ?_
                rintro _ ⟨z, rfl⟩
                clear q0 q1 q2 q3 
                have hbz := HB3.out.trans (z.h.mono (by omega))
                go_wp2_with fail
                exact ⟨⟨0 + 1, by omega, by go_num, HN, hbz⟩, by simp [intOf]; omega⟩
            | succ j =>
              have cp := (HB3.out.cell (p := ⟨b, off + j * 2, none⟩) hb).trans (hcs j (by omega)).1
              have HP : Hid (prevS sg (j + 1) = some (sg.getD j (0, ByteArray.empty)).1) := Lib.hid rfl
              generalize (sg.getD j (0, ByteArray.empty)).1 = last at cp HP
              have q4 := fun y : Bel wr.heap.size wr => y.cell hb' cp
              have w1' : IntKind.i64.wrap (((j + 1 : Nat) : Int) - 1) = (j : Int) := by rw [IntKind.wrap_i64]; go_num
              have a5 : decide ((0 : Int) < ((j + 1 : Nat) : Int)) = true := by simp
              have n3 : 0 ≤ (j : Int) := by omega
              have n4 : (j : Int) < (sg.length : Int) := by omega
              clear hcs cp
              by_cases h4 : id ≤ last
              · have a4 : decide (id ≤ last) = true := by simpa using h4
                have HV4 := Lib.hid (HV3.out.trans (if_pos (by rw [HU2.out, HP.out, show lessB (some last) id = false from decide_eq_false (by omega)]; rfl)))
                clear h4 HU2
                go_wp2_with fail
                refine wp_region_bel wr.heap.size wr (by kernel_rfl) (by kernel_rfl) (Below.refl _ _) ?_
                repeat (go_big_quiet_step (first | (go_at_call 66; exact calls_bel (Nat.le_refl _) (K2 _).out)))
                refine wpQuiet_nil ?_
                rintro _ ⟨y, rfl⟩
                clear K2
                go_wp2_with fail
                refine wp_region_bel wr.heap.size wr (by kernel_rfl) (by kernel_rfl) y.h ?_
                repeat (go_big_quiet_step (fail))
                refine wpQuiet_nil ?_
                rintro _ ⟨z, rfl⟩
                clear q0 q1 q2 q3 q4
                have hcy := (z.h.block (w.heap.size + 1) (by omega)).trans HCR.out
                have hBy := HBR.out.trans (z.h.mono (by omega))
                have hzy := z.h.size
                have c0 := cell_of_row z.w (w.heap.size + 1) 0 _ _ _ hcy
                have c1 := cell_of_row z.w (w.heap.size + 1) 1 _ _ _ hcy
                have g0 := frozen_of_row z.w (w.heap.size + 1) 0 _ _ hcy
                have g1 := frozen_of_row z.w (w.heap.size + 1) 1 _ _ hcy
                simp at c0 c1
                have HCY := Lib.hid hcy
                have HBY := Lib.hid hBy
                clear hcy hBy
                go_wp2_with fail
                obtain ⟨hs1, hs2⟩ := set_two z.w (w.heap.size + 1) _ _ _ (.int .i64 0) (.slice none 0 0) HCY.out
                refine bodyPost_ret (results_paper rfl _ _ (w.heap.size + 1) _ rfl (by rfl) hs1) rfl ?_
                rw [HV4.out]
                exact ⟨rfl, HBY.out.grown hs2 HBY.out.size (fun kk h => by have := Option.some.inj h; omega)⟩
              · have a4 : decide (id ≤ last) = false := by simpa using h4
                have HU3 : Hid (RR = (ver r sx && refSg ver old (some id) (sg.drop (j + 1 + 1)))) := Lib.hid (by rw [HU2.out, HP.out, show lessB (some last) id = true from decide_eq_true (by omega), Bool.true_and])
                clear h4 HU2
                go_wp2_with fail
                refine wp_region_bel wr.heap.size wr (by kernel_rfl) (by kernel_rfl) (Below.refl _ _) ?_
                repeat (go_big_quiet_step (first | (go_at_call 66; exact calls_bel (Nat.le_refl _) (K2 _).out)))
                refine wpQuiet_nil ?_
                rintro _ ⟨y, rfl⟩
                clear K2
                have HV1 := fun w' => HVF r sx w'
                cases hv : ver r sx with
                | false =>
                  have HV4 := Lib.hid (HV3.out.trans (if_pos (by rw [HU3.out, hv]; rfl)))
                  rw [hv] at HV1
                  clear hv
                  go_wp2_with fail
                  refine wp_region_bel wr.heap.size wr (by kernel_rfl) (by kernel_rfl) y.h ?_
                  repeat (go_big_quiet_step (first | (go_at_call 27; exact calls_bel (Nat.le_refl _) (HV1 _).out)))
                  refine wpQuiet_nil ?_
                  rintro _ ⟨z, rfl⟩
                  clear q0 q1 q2 q3 q4
                  have hcy := (z.h.block (w.heap.size + 1) (by omega)).trans HCR.out
                  have hBy := HBR.out.trans (z.h.mono (by omega))
                  have hzy := z.h.size
                  have c0 := cell_of_row z.w (w.heap.size + 1) 0 _ _ _ hcy
                  have c1 := cell_of_row z.w (w.heap.size + 1) 1 _ _ _ hcy
                  have g0 := frozen_of_row z.w (w.heap.size + 1) 0 _ _ hcy
                  have g1 := frozen_of_row z.w (w.heap.size + 1) 1 _ _ hcy
                  simp at c0 c1
                  have HCY := Lib.hid hcy
                  have HBY := Lib.hid hBy
                  clear hcy hBy
                  go_wp2_with fail
                  obtain ⟨hs1, hs2⟩ := set_two z.w (w.heap.size + 1) _ _ _ (.int .i64 0) (.slice none 0 0) HCY.out
                  refine bodyPost_ret (results_paper rfl _ _ (w.heap.size + 1) _ rfl (by rfl) hs1) rfl ?_
                  rw [HV4.out]
                  exact ⟨rfl, HBY.out.grown hs2 HBY.out.size (fun kk h => by have := Option.some.inj h; omega)⟩
                | true =>
                  have HN : Hid (RR = refSg ver old (prevS sg (j + 1 + 1)) (sg.drop (j + 1 + 1))) := Lib.hid (by rw [HU3.out, hv, HNX.out]; rfl)
                  rw [hv] at HV1
                  clear hv
                  go_wp2_with fail
                  refine wp_region_bel wr.heap.size wr (by kernel_rfl) (by kernel_rfl) y.h ?_
                  repeat (go_big_quiet_step (first | (go_at_call 27; exact calls_bel (Nat.le_refl _) (HV1 _).out)))
                  refine wpQuiet_nil ?_
                  rintro _ ⟨z, rfl⟩
                  clear q0 q1 q2 q3 q4
                  have hbz := HB3.out.trans (z.h.mono (by omega))
                  go_wp2_with fail
                  exact ⟨⟨j + 1 + 1, by omega, by go_num, HN, hbz⟩, by simp [intOf]; omega⟩
        · obtain rfl : k = sg.length := by omega
          have hRt : RR = true := by rw [hup.out, List.drop_length]; cases (prevS sg sg.length) <;> rfl
          have HV4 := Lib.hid (HV3.out.trans (if_neg (by rw [hRt]; simp)))
          have HKR := Lib.hid ((HB3.out.block kb HZ3).trans HC3.out)
          have c0 := cell_of_row wr (w.heap.size + 1) 0 _ _ _ HCR.out
          have c1 := cell_of_row wr (w.heap.size + 1) 1 _ _ _ HCR.out
          have g0 := frozen_of_row wr (w.heap.size + 1) 0 _ _ HCR.out
          have g1 := frozen_of_row wr (w.heap.size + 1) 1 _ _ HCR.out
          have d1 := cell_of_row wr w.heap.size 1 _ _ _ HPR.out
          have k0 := cell_of_row wr kb 0 _ _ _ HKR.out
          have k1 := cell_of_row wr kb 1 _ _ _ HKR.out
          simp at c0 c1 d1 k0 k1
          clear hup hRt hkn
          by_cases hlt : sg.length < qrN n
          · have HV5 := Lib.hid (HV4.out.trans (if_pos hlt))
            have hlt' : (sg.length : Int) < (qrN n : Int) := by omega
            generalize qrN n = qn at HQ hlt'
            clear hlt HV4
            go_wp2_with fail
            refine (HQ wr).out.mono ?_
            rintro e w8 ⟨rfl, rfl⟩
            go_wp2_with fail
            obtain ⟨hs1, hs2⟩ := set_two wr (w.heap.size + 1) _ _ _ (.int .i64 0) (.slice none 0 0) HCR.out
            refine bodyPost_ret (results_paper rfl _ _ (w.heap.size + 1) _ rfl (by rfl) hs1) rfl ?_
            rw [HV5.out]
            exact ⟨rfl, HBR.out.grown hs2 HBR.out.size (fun kk h => by have := Option.some.inj h; omega)⟩
          · have HV5 := Lib.hid (HV4.out.trans (if_neg hlt))
            have hlt' : ¬ (sg.length : Int) < (qrN n : Int) := by omega
            generalize qrN n = qn at HQ hlt'
            clear hlt HV4
            go_wp2_with fail
            refine (HQ wr).out.mono ?_
            rintro e w8 ⟨rfl, rfl⟩
            go_wp2_with fail
            obtain ⟨hs1, hs2⟩ := set_two wr (w.heap.size + 1) _ _ _ (.int .i64 pe) (.slice PA l.length PC) HCR.out
            refine bodyPost_ret (results_paper rfl _ _ (w.heap.size + 1) _ rfl (by rfl) hs1) rfl ?_
            rw [HV5.out]
            refine ⟨⟨PA, PC, rfl, ?_⟩, HBR.out.grown hs2 HBR.out.size (fun kk h => by have := Option.some.inj h; omega)⟩
            have := (((HOL3.out.lower (b := w.heap.size + 2) (by omega)).keep HB3.out).far (b := w.heap.size + 1) (by omega) hs2).lower (b := w.heap.size) (by omega)
            exact this
    · have he' : (pe != oe + 1) = true := by simpa using he
      have HV2 := Lib.hid (HV2.out.trans (if_pos he))
      clear he HQ hol hos ht
      go_wp2_with fail
      obtain ⟨hs1, hs2⟩ := set_two w2 (w.heap.size + 1) _ _ _ (.int .i64 0) (.slice none 0 0) hc2.out
      obtain ⟨W, hW⟩ : ∃ W, W = (w2.setCell ⟨w.heap.size + 1, 0, none⟩ (.int .i64 0)).setCell ⟨w.heap.size + 1, 1, none⟩ (.slice none 0 0) := ⟨_, rfl⟩
      rw [← hW]
      rw [← hW] at hs1 hs2
      have hz3 := hs2.size
      refine bodyPost_ret (results_paper rfl _ _ (w.heap.size + 1) _ rfl (by rfl) ((heap_alloc_old W _ (show w.heap.size + 1 < W.heap.size by omega)).trans hs1)) rfl ?_
      rw [HV2.out]
      have hB3 := hB2.out.grown hs2 hB2.out.size (fun kk h => by have := Option.some.inj h; omega)
      exact ⟨rfl, hB3.alloc hB3.size _⟩
theorem rpcheck_any (oe : Int) (A : Option Addr) (n c : Nat) (old : List St) (x : ByteArray) (hx : x.size ≤ maxLen) (w : World) (hO : Seats w A n c old) :
    Calls Try.prog 35 #[.agg #[.int .i64 oe, .slice A n c], .string x] w fun e w' => CheckOut w (checkV oe old x) w' e ∧ Below w.heap.size w w' := by
  cases hr : rightB oe old with
  | true => exact refcheck_right oe A n c old x hx w hO hr
  | false =>
    have e : checkV oe old x = .error 4 := by unfold checkV; rw [hr]; rfl
    rw [e]
    exact refcheck_wrong oe A n c old x w hO hr
end Go.Proofs.Ytljnadbfadgglaa

/- A right paper's bytes are read as that paper (plain). -/
namespace Go.Proofs.Ytljnadbfadgglaa
open Go.RowKit
set_option maxRecDepth 100000
set_option linter.unusedVariables false
set_option linter.unusedSimpArgs false

theorem seatL_length (s : St) (h : s.2.size = 32) : (seatL s).length = 33 := by
  unfold seatL
  rw [List.length_cons, Array.length_toList]
  have : s.2.data.size = s.2.size := rfl
  omega
theorem drop_seats : ∀ (l : List St) (i : Nat), (∀ j, j < l.length → (l.getD j (0, ByteArray.empty)).2.size = 32) → i < l.length →
    ((l.map seatL).flatten).drop (33 * i) = seatL (l.getD i (0, ByteArray.empty)) ++ ((l.drop (i + 1)).map seatL).flatten
  | [], i, _, h => by simp at h
  | s :: r, 0, _, _ => rfl
  | s :: r, i + 1, hs, h => by
    have h0 := hs 0 (by simp)
    have h0 : s.2.size = 32 := h0
    have := drop_seats r i (fun j hj => hs (j + 1) (by simpa using hj)) (by simpa using h)
    rw [List.map_cons, List.flatten_cons, show 33 * (i + 1) = (seatL s).length + 33 * i by rw [seatL_length s h0]; omega, List.drop_append]
    rw [List.drop_of_length_le (by omega), List.nil_append, show (seatL s).length + 33 * i - (seatL s).length = 33 * i by omega]
    exact this
theorem paper_drop (e : Int) (l : List St) (hs : ∀ j, j < l.length → (l.getD j (0, ByteArray.empty)).2.size = 32) (i : Nat) (h : i < l.length) :
    (paperL e l).drop (4 + 33 * i) = seatL (l.getD i (0, ByteArray.empty)) ++ ((l.drop (i + 1)).map seatL).flatten := by
  unfold paperL paperTo
  rw [List.take_length, List.drop_append]
  have e1 : [80, UInt8.ofNat (e.toNat / 256), UInt8.ofNat (e.toNat % 256), UInt8.ofNat l.length].length = 4 := rfl
  rw [e1, List.drop_of_length_le (by rw [e1]; omega), List.nil_append, Nat.add_sub_cancel_left]
  exact drop_seats l i hs h
theorem getD_drop (l : List UInt8) (a : Nat) : l.getD a 0 = (l.drop a).getD 0 0 := by
  simp [List.getD_eq_getElem?_getD]
theorem byteN_bs (l : List UInt8) (a : Nat) : byteN (bs l) a = (l.getD a 0).toNat := by unfold byteN; rw [bs_data]
theorem readV_bytes (e : Int) (l : List St) (h : rightB e l = true) : readV (bs (paperL e l)) = some (e, l) := by
  obtain ⟨f1, f2, f3, f4, f5⟩ := right_facts h
  have hs : ∀ j, j < l.length → (l.getD j (0, ByteArray.empty)).2.size = 32 := fun j hj => (f5 j hj).2.2
  have hlen : (bs (paperL e l)).size = 4 + 33 * l.length := by rw [bs_size]; exact paperTo_len e l hs l.length (Nat.le_refl _)
  have b0 : byteN (bs (paperL e l)) 0 = 80 := by rw [byteN_bs]; rfl
  have b3 : byteN (bs (paperL e l)) 3 = l.length := by
    rw [byteN_bs]
    show (UInt8.ofNat l.length).toNat = _
    rw [UInt8.toNat_ofNat']; omega
  have b12 : byteN (bs (paperL e l)) 1 * 256 + byteN (bs (paperL e l)) 2 = e.toNat := by
    rw [byteN_bs, byteN_bs]
    show (UInt8.ofNat (e.toNat / 256)).toNat * 256 + (UInt8.ofNat (e.toNat % 256)).toNat = _
    rw [UInt8.toNat_ofNat', UInt8.toNat_ofNat']; omega
  have hrd : rdSeats (bs (paperL e l)) 4 l.length = l := by
    unfold rdSeats
    apply List.ext_getElem
    · simp
    · intro i h1 h2
      rw [List.getElem_map, List.getElem_range]
      have hp := paper_drop e l hs i h2
      have hg : l.getD i (0, ByteArray.empty) = l[i] := by rw [List.getD_eq_getElem?_getD, List.getElem?_eq_getElem h2]; rfl
      have g5 := f5 i h2
      rw [hg] at hp g5
      refine Prod.ext ?_ ?_
      · show ((byteN (bs (paperL e l)) (4 + 33 * i) : Nat) : Int) = l[i].1
        rw [byteN_bs, getD_drop, hp]
        show (((UInt8.ofNat l[i].1.toNat).toNat : Nat) : Int) = _
        rw [UInt8.toNat_ofNat']; omega
      · show (bs (paperL e l)).extract (4 + 33 * i + 1) (4 + 33 * i + 33) = l[i].2
        rw [bs_extract, show 4 + 33 * i + 33 - (4 + 33 * i + 1) = 32 by omega, ← List.drop_drop, hp]
        show bs ((l[i].2.data.toList ++ _).take 32) = _
        have h32 : l[i].2.data.toList.length = 32 := by rw [Array.length_toList]; exact g5.2.2
        rw [List.take_append_of_le_length (by omega), List.take_of_length_le (by omega), bs_of]
  unfold readV
  rw [if_neg (by rintro (h | h | h); omega; exact h b0; rw [b3] at h; exact h hlen), b3, b12, hrd, Int.toNat_of_nonneg f1, h]
  rfl
theorem openG_nil : openG ⟨#[]⟩ = none := by
  unfold openG
  have e1 : txN ⟨#[]⟩ 0 false = (⟨#[]⟩, 0, true) := by unfold txN; exact if_pos (.inr (.inl (by decide)))
  rw [e1]
  have e2 : rdN ⟨#[]⟩ 1 0 true = (0, 0, true) := by rw [rdN_bad]
  simp only [e2]
  have e3 : readV ⟨#[]⟩ = none := by unfold readV; exact if_pos (.inl (by decide))
  rw [e3]
  rfl
theorem seats_block {w : World} {g : Nat} {cs : Array Value} {T : TypeId} {l : List St} {n : Nat} (h : w.heap[g]? = some (.cells cs T (0, 0))) (hl : l.length = n) (hc : cs.toList = seatCells l) (hn : n ≤ maxLen) : Seats w (some ⟨g, 0, none⟩) n n l := by
  have hlt := (Array.getElem?_eq_some_iff.1 h).1
  refine ⟨hl, Nat.le_refl _, hn, (fun h => by cases h), fun ad had => ?_⟩
  cases had
  refine ⟨g, 0, fun _ => ⟨rfl, hlt⟩, fun i hi => ?_⟩
  obtain ⟨h1, h2⟩ := seatCells_get l i (by omega)
  rw [Nat.zero_add, cell_of_row w g (i * 2) _ _ _ h, cell_of_row w g (i * 2 + 1) _ _ _ h]
  rw [← hc] at h1 h2
  exact ⟨by simpa using h1, by simpa using h2⟩
end Go.Proofs.Ytljnadbfadgglaa

/- witanlaw08.lives. No condition. -/
namespace Go.Proofs.Ytljnadbfadgglaa
open Go.RowKit
set_option maxRecDepth 100000
set_option linter.unusedVariables false
set_option linter.unusedSimpArgs false

/-- 32 noughts; the seats of lives. -/
def zroot : ByteArray := bs (List.replicate 32 0)
theorem zroot_size : zroot.size = 32 := by unfold zroot; rw [bs_size]; rfl
def lsts : List St := [(0, zroot), (1, zroot), (2, zroot), (9, zroot)]
theorem lsts_right : rightB 2 lsts = true := by
  have hz := zroot_size
  simp [rightB, upB, lsts, hz]

set_option maxHeartbeats 2000000 in
theorem lives8 (w : World) : Calls Try.prog 28 #[] w fun e w' => e = .returned (.bool true) ∧ Below w.heap.size w w' := by
  have hmk : ∀ w : World, (Instr.makeSlice 84 (.int .i64 32) (.int .i64 32)).run Try.prog w = .ok (.slice (some ⟨w.heap.size, 0, none⟩) 32 32) (w.alloc (.cells (madeCells #[Value.int .u8 0] 32) 5)) := fun _ => by kernel_rfl
  obtain ⟨MC, hMC⟩ : ∃ MC, MC = madeCells #[Value.int .u8 0] 32 := ⟨_, rfl⟩
  rw [← hMC] at hmk
  have hcv : ∀ w : World, (convert 84 9 (.slice (some ⟨w.heap.size, 0, none⟩) 32 32)).run Try.prog (w.alloc (.cells MC 5)) = .ok (.string zroot) (w.alloc (.cells MC 5)) := fun w => by
    refine run_convert_bytes_back (P := Try.prog) (w.alloc (.cells MC 5)) 84 9 5 ⟨w.heap.size, 0, none⟩ 32 (List.replicate 32 0) Try.underlying84 Try.underlying5 Try.underlying9 (fun j hj => ?_)
    have hj' : j < 32 := by simpa using hj
    have ha : (⟨w.heap.size, 0, none⟩ : Addr).add j = ⟨w.heap.size, j, none⟩ := by unfold Addr.add; split <;> simp_all
    rw [ha, cell_of_row _ _ _ _ _ _ (heap_alloc_new w _), hMC]
    rw [List.getElem_replicate]
    simp [madeCells, hj', Nat.mod_one]
  have hz := zroot_size
  have hlen : (bs (paperL 2 lsts)).size = 136 := by
    rw [bs_size]
    exact paperTo_len 2 lsts (fun i hi => ((right_facts lsts_right).2.2.2.2 i hi).2.2) lsts.length (Nat.le_refl _)
  have hsc : [Value.int .i64 0, .string zroot, .int .i64 1, .string zroot, .int .i64 2, .string zroot, .int .i64 9, .string zroot] = seatCells lsts := rfl
  have HBY := fun (A : Option Addr) (c : Nat) (w : World) (h : Seats w A 4 c lsts) => Lib.hid (bytes_yes 2 A 4 c lsts w h lsts_right)
  have HRD := fun (w : World) => Lib.hid (read_any (bs (paperL 2 lsts)) (by rw [hlen]; decide) w)
  rw [readG_eq, readV_bytes 2 lsts lsts_right] at HRD
  have HCK := fun (A : Option Addr) (c : Nat) (w : World) (h : Seats w A 4 c lsts) => Lib.hid (pcheck_any 2 A 4 c lsts ⟨#[]⟩ (by decide) w h)
  have hck : checkV 2 lsts ⟨#[]⟩ = .error 5 := by
    unfold checkV
    rw [lsts_right, openG_nil]
    rfl
  rw [hck] at HCK
  have HSM := fun (A A' : Option Addr) (c c' : Nat) (w : World) (h : Seats w A 4 c lsts) (h' : Seats w A' 4 c' lsts) => Lib.hid (same_yes 2 A A' 4 c c' lsts w h h')
  have HSC := Lib.hid hsc
  have HLN : lsts.length = 4 := rfl
  have HLEN : ((bs (paperL 2 lsts)).size : Int) = 136 := by omega
  generalize bs (paperL 2 lsts) = bb at HBY HRD HLEN hlen
  generalize lsts = ls at HBY HRD HCK HSM HSC HLN
  generalize zroot = zr at hcv HSC
  have HLH := Lib.hid HLN
  have HLEN8 := HLEN
  clear hsc hck hlen hz hMC HLN
  go_enter Try.func28, Try.ntmps28
  go_wp2_with fail
  obtain ⟨w1, hw1⟩ : ∃ w1, w1 = w.alloc (.cells MC 5) := ⟨_, rfl⟩
  have e1 : w1.heap.size = w.heap.size + 1 := by rw [hw1]; simp
  obtain ⟨w2, hw2⟩ : ∃ w2, w2 = w1.alloc (.cells #[Value.int .i64 0, .string zr, .int .i64 1, .string zr, .int .i64 2, .string zr, .int .i64 9, .string zr] 60) := ⟨_, rfl⟩
  have e2 : w2.heap.size = w.heap.size + 1 + 1 := by rw [hw2]; simp [e1]
  obtain ⟨w3, hw3⟩ : ∃ w3, w3 = w2.alloc (.cells #[.int .i64 2, .slice (some ⟨w.heap.size + 1, 0, none⟩) 4 4] 50) := ⟨_, rfl⟩
  have hs2 : w2.heap[w.heap.size + 1]? = some (.cells #[Value.int .i64 0, .string zr, .int .i64 1, .string zr, .int .i64 2, .string zr, .int .i64 9, .string zr] 60 (0, 0)) := by rw [← e1, hw2]; exact heap_alloc_new w1 _
  have hs3 : w3.heap[w.heap.size + 1]? = some (.cells #[Value.int .i64 0, .string zr, .int .i64 1, .string zr, .int .i64 2, .string zr, .int .i64 9, .string zr] 60 (0, 0)) := by rw [hw3]; exact (heap_alloc_old w2 _ (by omega)).trans hs2
  have hp3 : w3.heap[w.heap.size + 1 + 1]? = some (.cells #[.int .i64 2, .slice (some ⟨w.heap.size + 1, 0, none⟩) 4 4] 50 (0, 0)) := by rw [← e2, hw3]; exact heap_alloc_new w2 _
  have hB3 : Below w.heap.size w w3 := by rw [hw3, hw2, hw1]; exact (((Below.refl _ _).alloc (Nat.le_refl _) _).alloc (by simp) _).alloc (by simp; omega) _
  rw [← hw1, ← hw2, ← hw3]
  have hse3 : Seats w3 (some ⟨w.heap.size + 1, 0, none⟩) 4 4 ls := seats_block hs3 HLH.out HSC.out (by decide)
  have HSE3 := Lib.hid hse3
  have HP3 := Lib.hid hp3
  have HB3 := Lib.hid hB3
  obtain ⟨sb, hsb⟩ : ∃ sb, w.heap.size + 1 = sb := ⟨_, rfl⟩
  rw [hsb] at HSE3 HP3
  rw [hsb]
  have hzp : sb + 1 < w3.heap.size := (Array.getElem?_eq_some_iff.1 HP3.out).1
  have hws : w.heap.size < sb := by omega
  clear hw1 hw2 hw3 e1 e2 hs2 hs3 hp3 hB3 hse3 hmk hcv HSC hsb
  refine (HBY _ 4 w3 HSE3.out).out.mono ?_
  rintro e w4 ⟨rfl, hb4⟩
  have HSE4 := Lib.hid (HSE3.out.keep hb4)
  have HP4 := Lib.hid ((hb4.block (sb + 1) hzp).trans HP3.out)
  have HB4 := Lib.hid (HB3.out.trans (hb4.mono (by omega)))
  have hz4 := hb4.size
  clear hb4 HSE3 HP3 HB3 HBY
  go_wp2_with fail
  refine (HRD w4).out.mono ?_
  rintro e w5 ⟨⟨RA, RC, rfl, hro⟩, hb5⟩
  have HSE5 := Lib.hid (HSE4.out.keep hb5)
  have HP5 := Lib.hid ((hb5.block (sb + 1) (by omega)).trans HP4.out)
  have HB5 := Lib.hid (HB4.out.trans (hb5.mono (by omega)))
  have HRO5 := Lib.hid hro.seats
  have hz5 := hb5.size
  rw [HLH.out] at HRO5
  rw [show ((2 : Int), ls).2.length = 4 from HLH.out]
  have p0 := cell_of_row w5 (sb + 1) 0 _ _ _ HP5.out
  have p1 := cell_of_row w5 (sb + 1) 1 _ _ _ HP5.out
  simp at p0 p1
  have hl5 : sb + 1 < w5.heap.size := by omega
  clear hb5 HSE4 HP4 HB4 HRD hro
  have hal : Below w5.heap.size w5 (w5.alloc (.cells #[.int .i64 2, .slice RA 4 RC] 50)) := (Below.refl _ _).alloc (Nat.le_refl _) _
  have HSE6 := Lib.hid (HSE5.out.keep hal)
  have HRO6 := Lib.hid (HRO5.out.keep hal)
  have HP6 := Lib.hid ((hal.block (sb + 1) hl5).trans HP5.out)
  have HQ6 := Lib.hid (heap_alloc_new w5 (.cells #[.int .i64 2, .slice RA 4 RC] 50))
  have HB6 := Lib.hid (HB5.out.trans (hal.mono (by omega)))
  have hz6 : w5.heap.size < (w5.alloc (.cells #[.int .i64 2, .slice RA 4 RC] 50)).heap.size := by simp
  clear hal
  go_wp2_with fail
  obtain ⟨qb, hqb⟩ : ∃ qb, qb = w5.heap.size := ⟨_, rfl⟩
  rw [← hqb] at HQ6 hz6 hl5
  rw [← hqb]
  generalize w5.alloc (.cells #[.int .i64 2, .slice RA 4 RC] 50) = w6 at HSE6 HRO6 HP6 HQ6 HB6 hz6 ⊢
  clear hqb HSE5 HRO5 HP5 HB5 hz5 hz4 p0 p1
  refine (HCK _ 4 w6 HSE6.out).out.mono ?_
  rintro e w7 ⟨rfl, hb7⟩
  have HSE7 := Lib.hid (HSE6.out.keep hb7)
  have HRO7 := Lib.hid (HRO6.out.keep hb7)
  have hP7 := (hb7.block (sb + 1) (by omega)).trans HP6.out
  have hQ7 := (hb7.block qb hz6).trans HQ6.out
  have HB7 := Lib.hid (HB6.out.trans (hb7.mono (by omega)))
  have hz7 := hb7.size
  have p0 := cell_of_row w7 (sb + 1) 0 _ _ _ hP7
  have p1 := cell_of_row w7 (sb + 1) 1 _ _ _ hP7
  have q0 := cell_of_row w7 qb 0 _ _ _ hQ7
  have q1 := cell_of_row w7 qb 1 _ _ _ hQ7
  simp at p0 p1 q0 q1
  have hl7 : sb + 1 < w7.heap.size := by omega
  have hl8 : qb < w7.heap.size := by omega
  have hal : Below w7.heap.size w7 (w7.alloc (.cells #[.int .i64 0, .slice none 0 0] 50)) := (Below.refl _ _).alloc (Nat.le_refl _) _
  have HSM8 := HSM _ _ 4 RC _ (HSE7.out.keep hal) (HRO7.out.keep hal)
  have HB8 := Lib.hid (HB7.out.trans (hal.mono (by omega)))
  clear hal hb7 hP7 hQ7 HSE6 HRO6 HP6 HQ6 HB6 HCK HSM
  go_wp2_with fail
  refine HSM8.out.mono ?_
  rintro e w9 ⟨rfl, hb9⟩
  have HB9 := Lib.hid (HB8.out.trans (hb9.mono HB8.out.size))
  clear hb9 HSM8
  go_wp2_with fail
  go_ret
  exact ⟨rfl, HB9.out⟩
end Go.Proofs.Ytljnadbfadgglaa

/- Papers, and lists of signatures, that come in: their fields. No condition. -/
namespace Go.Proofs.Ytljnadbfadgglaa
open Go.ChangeShapes Go.WideShapes Go.ChangeAt Go.RowKit
set_option maxRecDepth 100000
set_option linter.unusedVariables false

theorem list_of {P : Nat → St → Prop} : ∀ n : Nat, (∀ i, i < n → ∃ q, P i q) → ∃ l : List St, l.length = n ∧ ∀ i, i < n → P i (l.getD i (0, ByteArray.empty))
  | 0, _ => ⟨[], rfl, fun i h => by omega⟩
  | n + 1, h => by
    obtain ⟨l, hl, hp⟩ := list_of n (fun i hi => h i (by omega))
    obtain ⟨q, hq⟩ := h n (by omega)
    refine ⟨l ++ [q], by simp [hl], fun i hi => ?_⟩
    by_cases e : i = n
    · subst e
      simpa [List.getD_eq_getElem?_getD, hl] using hq
    · have := hp i (by omega)
      rw [List.getD_eq_getElem?_getD, List.getElem?_append_left (by omega), ← List.getD_eq_getElem?_getD]
      exact this
theorem addr_plain (b off j : Nat) : (⟨b, off, none⟩ : Addr).add j = ⟨b, off + j, none⟩ := by unfold Addr.add; split <;> simp_all
/-- A slice of pairs of a number and a text, in cells. -/
theorem seats_of_cells {H : Type} {enc : TypeId × Value → H} {w : World} {held : Bool} {fuel : Nat} {t e ti ts : TypeId} {f0 f1 : Field} {A : Option Addr} {n c : Nat} {x : DataW H × List MemPlace} (ht : Try.prog.underlying t = some (.slice e)) (he : Try.prog.underlying e = some (.struct #[f0, f1]))
    (ce : Try.prog.cellsOf e = 2) (o0 : f0.offset = 0) (o1 : f1.offset = 1) (e0 : f0.type = ti) (e1 : f1.type = ts) (ui : Try.prog.underlying ti = some (.int .i64)) (us : Try.prog.underlying ts = some .string) (c0 : Try.prog.cellsOf ti = 1) (c1 : Try.prog.cellsOf ts = 1)
    (h : DataW.trod enc Try.prog w 0 (fun _ => true) held fuel t [.slice A n c] = some x) : ∃ l, Seats w A n c l := by
  subst e0; subst e1
  rcases Go.Deep.open_slice_pairs ht he ce o0 o1 c0 c1 h with ⟨hcs, _⟩ | ⟨a, len, cap, m, k, V0, V1, D0, D1, P0, P1, hcs, hb, hl, hm, hmm, hx, hi⟩
  · injection hcs with hv _
    injection hv with h1 h2 h3
    subst h1; subst h2; subst h3
    exact ⟨[], rfl, Nat.le_refl _, Nat.zero_le _, fun _ => ⟨rfl, rfl⟩, fun _ h => by cases h⟩
  · injection hcs with hv _
    injection hv with h1 h2 h3
    subst h1; subst h2; subst h3
    have hmc : m = c := by rw [hmm]; exact if_pos rfl
    subst hmc
    have each : ∀ i, i < n → ∃ q : St, w.cell? (a.add (i * 2)) = some (.int .i64 q.1) ∧ w.cell? (a.add (i * 2 + 1)) = some (.string q.2) := by
      intro i hin
      obtain ⟨g0, g1, t0, t1⟩ := hi i (by omega)
      obtain ⟨z, ez, _⟩ := DataW.trod_int ui t0
      obtain ⟨s, es, _⟩ := DataW.trod_string us t1
      simp at ez es
      exact ⟨(z, s), by rw [g0, ez], by rw [g1, es]⟩
    obtain ⟨l, hl1, hl2⟩ := list_of n each
    by_cases h0 : 0 < n
    · obtain ⟨k0, k1⟩ := hl2 0 h0
      obtain ⟨b, off, spot⟩ := a
      have hspot : spot = none := by simpa [Addr.add] using World.cell?_spot k0
      subst hspot
      have hadd : ∀ j, (⟨b, off, none⟩ : Addr).add j = ⟨b, off + j, none⟩ := fun j => addr_plain b off j
      refine ⟨l, hl1, hl, hm, (fun h => by cases h), fun ad hh => ?_⟩
      cases hh
      refine ⟨b, off, fun _ => ⟨rfl, ?_⟩, fun i hin => ?_⟩
      · have := block_lt_of_cell k0
        simpa [Addr.add] using this
      · obtain ⟨y0, y1⟩ := hl2 i hin
        rw [hadd] at y0 y1
        exact ⟨y0, by rw [Nat.add_assoc]; exact y1⟩
    · exact ⟨l, hl1, hl, hm, (fun h => by cases h), fun ad hh => ⟨0, 0, fun h => absurd h h0, fun i hin => by omega⟩⟩
theorem open_paper {H : Type} {enc : TypeId × Value → H} {w : World} {held : Bool} {r : Reach} {b0 : Nat} {v : Value} {d : DataW H} {p : List MemPlace}
    (hv : Value.okWide Try.prog w r b0 50 v) (h : DataW.Trod enc Try.prog w 0 (fun _ => true) held 50 v d p) :
    ∃ (e : Int) (A : Option Addr) (n c : Nat) (l : List St), v = .agg #[.int .i64 e, .slice A n c] ∧ Seats w A n c l := by
  obtain ⟨cs, rfl, hsz⟩ := okWide_struct Try.underlying50 hv
  obtain ⟨c0, c1, rfl⟩ : ∃ c0 c1, cs = #[c0, c1] := by
    have h2 : cs.size = 2 := hsz.trans (by kernel_rfl)
    obtain ⟨l⟩ := cs
    match l, h2 with
    | [c0, c1], _ => exact ⟨c0, c1, rfl⟩
  obtain ⟨fuel, hf⟩ := h
  have hf' : DataW.trod enc Try.prog w 0 (fun _ => true) held fuel 50 [c0, c1] = some (d, p) := by simpa [Value.cells] using hf
  obtain ⟨xs, n, _, _, _, hlen, hx⟩ := DataW.trod_struct Try.underlying50 hf'
  have k9 : Try.prog.cellsOf 3 = 1 := by kernel_rfl
  have k3 : Try.prog.cellsOf 48 = 1 := by kernel_rfl
  have h0 := hx 0 _ rfl
  have h1 := hx 1 _ rfl
  clear hx hf hf' hsz hv
  match xs, hlen with
  | [y0, y1], _ =>
    simp [k9, k3] at h0 h1
    obtain ⟨e, e0, _⟩ := DataW.trod_int Try.underlying3 h0
    simp at e0
    subst e0
    have hsl : ∃ A m c, c1 = .slice A m c := by
      rcases Go.Deep.open_slice Try.underlying48 h1 with ⟨hcs, _⟩ | ⟨a, len, cap, m, n, D, Pl, hcs, _⟩
      · simp at hcs; exact ⟨_, _, _, hcs⟩
      · simp at hcs; exact ⟨_, _, _, hcs⟩
    obtain ⟨A, m, c, rfl⟩ := hsl
    obtain ⟨l, hl⟩ := seats_of_cells (ti := 3) (ts := 9) Try.underlying48 Try.underlying60 (by kernel_rfl) rfl rfl rfl rfl Try.underlying3 Try.underlying9 (by kernel_rfl) (by kernel_rfl) h1
    exact ⟨e, A, m, c, l, rfl, hl⟩
end Go.Proofs.Ytljnadbfadgglaa

/- What the laws of layer 8 share: contracts over one model. No condition. -/
namespace Go.Proofs.Ytljnadbfadgglaa
open Go.RowKit
set_option maxRecDepth 100000
set_option linter.unusedVariables false
set_option linter.unusedSimpArgs false

theorem bytes_u (e : Int) (A : Option Addr) (n c : Nat) (l : List St) (w : World) (h : Seats w A n c l) :
    Calls Try.prog 29 #[.agg #[.int .i64 e, .slice A n c]] w fun x w' => x = .returned (.tuple #[.string (bytesS e l), .int .i64 (bytesE e l)]) ∧ Below w.heap.size w w' := by
  unfold bytesS bytesE
  cases hr : rightB e l with
  | true => exact bytes_yes e A n c l w h hr
  | false => exact bytes_no e A n c l w h hr
theorem refbytes_u (e : Int) (A : Option Addr) (n c : Nat) (l : List St) (w : World) (h : Seats w A n c l) :
    Calls Try.prog 30 #[.agg #[.int .i64 e, .slice A n c]] w fun x w' => x = .returned (.tuple #[.string (bytesS e l), .int .i64 (bytesE e l)]) ∧ Below w.heap.size w w' := by
  unfold bytesS bytesE
  cases hr : rightB e l with
  | true => exact refbytes_yes e A n c l w h hr
  | false => exact refbytes_no e A n c l w h hr
theorem seats_nil (w : World) : Seats w none 0 0 [] := ⟨rfl, Nat.le_refl _, Nat.zero_le _, fun _ => ⟨rfl, rfl⟩, fun _ h => by cases h⟩

/-- A reading's paper, its seats, its error. -/
def rd1 (r : Option (Int × List St)) : Int := match r with | none => 0 | some p => p.1
def rd2 (r : Option (Int × List St)) : List St := match r with | none => [] | some p => p.2
def rd3 (r : Option (Int × List St)) : Int := match r with | none => 5 | some _ => 0
theorem ReadOut.form {w w' : World} {r : Option (Int × List St)} {x : Ending} (h : ReadOut w r w' x) : ∃ A c, x = .returned (.tuple #[.agg #[.int .i64 (rd1 r), .slice A (rd2 r).length c], .int .i64 (rd3 r)]) ∧ Seats w' A (rd2 r).length c (rd2 r) := by
  cases r with
  | none => exact ⟨none, 0, h, seats_nil _⟩
  | some p =>
    obtain ⟨A, c, he, ho⟩ := h
    exact ⟨A, c, he, ho.seats⟩
def ck1 (r : Except Int (Int × List St)) : Int := match r with | .error _ => 0 | .ok p => p.1
def ck2 (r : Except Int (Int × List St)) : List St := match r with | .error _ => [] | .ok p => p.2
def ck3 (r : Except Int (Int × List St)) : Int := match r with | .error e => e | .ok _ => 0
theorem CheckOut.form {w w' : World} {r : Except Int (Int × List St)} {x : Ending} (h : CheckOut w r w' x) : ∃ A c, x = .returned (.tuple #[.agg #[.int .i64 (ck1 r), .slice A (ck2 r).length c], .int .i64 (ck3 r)]) ∧ OwnS w' w.heap.size (.slice A (ck2 r).length c) (ck2 r) := by
  cases r with
  | error e => exact ⟨none, 0, h, OwnS.nil _ _⟩
  | ok p =>
    obtain ⟨A, c, he, ho⟩ := h
    exact ⟨A, c, he, ho⟩
end Go.Proofs.Ytljnadbfadgglaa
