/- ShaSums: digests of every list of parts are the standard's; the list stays. No condition. -/
import Derived.Test.YtlpfajiigkjooaaLawK
import Derived.Test.YtlpfajiigkjooaaRefSum
import Derived.Lib.AppendStr
import Derived.Laws.AppendOwnNone
namespace Go.Proofs.Ytlpfajiigkjooaa
open Go.ChangeShapes Go.WideShapes Go.ChangeAt Go.RowKit
open Go.ChangeMaps (open_string shut_string)
set_option linter.unusedVariables false

/-- The slice holds the texts xs. -/
def Texts (w : World) (a : Option Addr) (n c : Nat) (xs : List ByteArray) : Prop :=
  xs.length = n ∧ n ≤ c ∧ (a = none → n = 0 ∧ c = 0) ∧ ∀ ad, a = some ad → ∃ b off, (0 < n → ad = ⟨b, off, none⟩ ∧ b < w.heap.size) ∧ ∀ i, i < n → w.cell? ⟨b, off + i, none⟩ = some (.string (xs.getD i ByteArray.empty))
theorem IsTexts.texts {w : World} {a : Option Addr} {n c : Nat} {ss : List ByteArray} (h : IsTexts w a n c ss) : Texts w a n c (ss.take n) := by
  rcases h with ⟨rfl, rfl, rfl, rfl⟩ | ⟨x, rfl, hl, hm, hz, hc, _⟩
  · exact ⟨rfl, Nat.le_refl _, fun _ => ⟨rfl, rfl⟩, fun _ h => by cases h⟩
  · refine ⟨by rw [List.length_take]; omega, hl, (fun h => by cases h), fun ad hh => ?_⟩
    cases hh
    by_cases h0 : 0 < n
    · have h1 := hc 0 (by omega)
      obtain ⟨b, off, spot⟩ := x
      have hspot : spot = none := by simpa [Addr.add] using World.cell?_spot h1
      subst hspot
      refine ⟨b, off, fun _ => ⟨rfl, ?_⟩, fun i hi => ?_⟩
      · have := block_lt_of_cell h1
        simpa [Addr.add] using this
      · have h2 := hc i (by omega)
        have hadd : (⟨b, off, none⟩ : Addr).add i = ⟨b, off + i, none⟩ := by unfold Addr.add; split <;> simp_all
        rw [hadd] at h2
        rw [h2]
        simp [List.getD_eq_getElem?_getD, hi]
    · exact ⟨0, 0, fun h => absurd h h0, fun i hi => by omega⟩
theorem Texts.keep {w w' : World} {a : Option Addr} {n c : Nat} {xs : List ByteArray} (h : Texts w a n c xs) (hb : Below w.heap.size w w') : Texts w' a n c xs := by
  refine ⟨h.1, h.2.1, h.2.2.1, fun ad hh => ?_⟩
  obtain ⟨b, off, h1, h2⟩ := h.2.2.2 ad hh
  refine ⟨b, off, fun h0 => ⟨(h1 h0).1, Nat.lt_of_lt_of_le (h1 h0).2 hb.size⟩, fun i hi => ?_⟩
  rw [hb.cell (p := ⟨b, off + i, none⟩) (h1 (by omega)).2]
  exact h2 i hi
theorem cat_snoc (xs : List ByteArray) (x : ByteArray) : (cat (xs ++ [x])).data.toList = (cat xs).data.toList ++ x.data.toList := by
  simp [cat_data]
theorem take_succ_getD (xs : List ByteArray) (k : Nat) (h : k < xs.length) : xs.take (k + 1) = xs.take k ++ [xs.getD k ByteArray.empty] := by
  rw [List.take_succ_eq_append_getElem h]
  simp [List.getD_eq_getElem?_getD, h]
theorem cat_size_le (xs : List ByteArray) (m : Nat) (h : ∀ x ∈ xs, x.size ≤ m) : (cat xs).size ≤ m * xs.length := by
  induction xs with
  | nil => simp [cat, bs_size]
  | cons x r ih =>
    have h1 := h x (by simp)
    have h2 := ih (fun y hy => h y (by simp [hy]))
    have e : (cat (x :: r)).size = x.size + (cat r).size := by
      unfold cat
      rw [bs_size, bs_size, List.map_cons, List.flatten_cons, List.length_append, Array.length_toList]
      rfl
    rw [e, List.length_cons, Nat.mul_succ]
    omega

set_option maxHeartbeats 400000 in
theorem join_any (A : Option Addr) (n c : Nat) (xs : List ByteArray) (w : World) (h : Texts w A n c xs) (hn : n ≤ 100) (hsm : ∀ i, i < n → (xs.getD i ByteArray.empty).size ≤ 4096) :
    Calls Try.prog 24 #[.slice A n c] w fun e w' => e = .returned (.string (cat xs)) ∧ Below w.heap.size w w' := by
  obtain ⟨i0, hi0, hz0, hz1, hz2⟩ := info_parts info_byte
  have Hi0 := Lib.hid hi0
  have Hz0 := Lib.hid hz0
  have Hz1 := Lib.hid hz1
  have Hz2 := Lib.hid hz2
  clear hi0 hz0 hz1 hz2
  have hxl := h.1
  have HT := Lib.hid h
  have HS := Lib.hid hsm
  have HXL := Lib.hid hxl
  have hpre : ∀ k, k ≤ n → (cat (xs.take k)).size ≤ 409600 := by
    intro k hk
    have := cat_size_le (xs.take k) 4096 (fun x hx => by
      obtain ⟨i, hi, rfl⟩ := List.getElem_of_mem hx
      have hi' : i < n := by rw [List.length_take] at hi; omega
      have := hsm i hi'
      simpa [List.getD_eq_getElem?_getD, show i < xs.length by omega] using this)
    rw [List.length_take] at this
    have : 4096 * min k xs.length ≤ 4096 * 100 := Nat.mul_le_mul_left _ (by omega)
    omega
  have HP := Lib.hid hpre
  clear h hsm hxl hpre
  go_enter Try.func24, Try.ntmps24
  go_wp2
  go_loopw [3, 4] (fun v i wr => ∃ k : Nat, k ≤ n ∧ i = .int .i64 k ∧ wr.ownsRow w.heap.size 5 1 v (cat (xs.take k)).size (Lib.byteCells (cat (xs.take k)).data.toList) ∧ Below w.heap.size w wr) (fun _ i _ => n - (intOf i).toNat)
  case atStart => exact ⟨0, by omega, rfl, World.ownsRow_nil _ _ _ _, Below.refl _ _⟩
  case round =>
    obtain ⟨k, hk, rfl, hown, hbel⟩ := hrel
    have hz := hbel.size
    by_cases hlt : k < n
    · obtain ⟨ad, rfl⟩ : ∃ ad, A = some ad := by
        cases A with
        | none => have := HT.out.2.2.1 rfl; omega
        | some ad => exact ⟨ad, rfl⟩
      obtain ⟨b, off, h1, h2⟩ := HT.out.2.2.2 ad rfl
      obtain ⟨rfl, hbl⟩ := h1 (by omega)
      have hc := (hbel.cell (p := ⟨b, off + k, none⟩) hbl).trans (h2 k hlt)
      have hxs := HS.out k hlt
      have htk := take_succ_getD xs k (by have := HXL.out; omega)
      have HTK := Lib.hid htk
      have hps := HP.out k hk
      generalize hx : xs.getD k ByteArray.empty = x at *
      clear h1 h2 hx htk
      go_wp2_with (at_builtin; go_must (refine Lib.wpList_append_own_string _ rfl (.tmp 11) (.tmp 15) 30 9 rfl w.heap.size 5 i0 Try.underlying30 Try.underlying9 Hi0.out Hz0.out Hz1.out Hz2.out _ _ _ (by rfl) hown x (by rfl) (by unfold maxLen; omega) (by omega) hz ?_); go_must (intro v1 w1 hown1 hgrow _))
      have hbel1 : Below w.heap.size w w1 := hbel.grown hgrow hz (fun kk hk => (hown.lt _ hk).1)
      have hown2 : w1.ownsRow w.heap.size 5 1 v1 (cat (xs.take (k + 1))).size (Lib.byteCells (cat (xs.take (k + 1))).data.toList) := by
        rw [HTK.out, cat_snoc, Lib.byteCells_append]
        have e : (cat (xs.take k ++ [x])).size = (cat (xs.take k)).size + x.size := by
          rw [Lib.size_eq, cat_snoc, List.length_append, ← Lib.size_eq, ← Lib.size_eq]
        rw [e]
        exact hown1
      clear hown1 hgrow hown hbel hz hps hc hxs HTK
      go_wp2_with fail
      refine ⟨⟨k + 1, by omega, by go_num, hown2, hbel1⟩, by simp [intOf]; omega⟩
    · obtain rfl : k = n := by omega
      have hcv := str_of_own (P := Try.prog) 30 9 5 Try.underlying30 Try.underlying5 Try.underlying9 hown
      rw [bs_of, List.take_of_length_le (by have := HXL.out; omega)] at hcv
      clear hown hlt
      go_wp2
      go_ret
      exact ⟨rfl, hbel⟩
end Go.Proofs.Ytlpfajiigkjooaa
