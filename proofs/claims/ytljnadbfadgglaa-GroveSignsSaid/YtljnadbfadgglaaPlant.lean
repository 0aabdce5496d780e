/- Values of the structs Plant and Given that come in: their fields. No condition. -/
import Derived.Test.YtljnadbfadgglaaLawK
import Derived.SliceStrings
import Derived.Deep.Fields
import Derived.ChangeArms
namespace Go.Proofs.Ytljnadbfadgglaa
open Go.ChangeShapes Go.WideShapes Go.ChangeAt Go.RowKit
set_option maxRecDepth 100000
set_option linter.unusedVariables false

theorem open_plant {H : Type} {enc : TypeId × Value → H} {w : World} {base : Nat} {spare : Nat → Bool} {held : Bool} {r : Reach} {b0 : Nat} {v : Value} {d : DataW H} {p : List MemPlace}
    (hv : Value.okWide Try.prog w r b0 23 v) (h : DataW.Trod enc Try.prog w base spare held 23 v d p) :
    ∃ (s : ByteArray) (n : Int), v = .agg #[.string s, .int .i64 n] := by
  obtain ⟨cs, rfl, hsz⟩ := okWide_struct Try.underlying23 hv
  obtain ⟨c0, c1, rfl⟩ : ∃ c0 c1, cs = #[c0, c1] := by
    have h2 : cs.size = 2 := hsz.trans (by kernel_rfl)
    obtain ⟨l⟩ := cs
    match l, h2 with
    | [c0, c1], _ => exact ⟨c0, c1, rfl⟩
  obtain ⟨fuel, hf⟩ := h
  have hf' : DataW.trod enc Try.prog w base spare held fuel 23 [c0, c1] = some (d, p) := by simpa [Value.cells] using hf
  obtain ⟨xs, n, _, _, _, hlen, hx⟩ := DataW.trod_struct Try.underlying23 hf'
  have k9 : Try.prog.cellsOf 9 = 1 := by kernel_rfl
  have k3 : Try.prog.cellsOf 3 = 1 := by kernel_rfl
  have h0 := hx 0 _ rfl
  have h1 := hx 1 _ rfl
  clear hx hf hf' hsz hv
  match xs, hlen with
  | [y0, y1], _ =>
    simp [k9, k3] at h0 h1
    obtain ⟨s, e0, _⟩ := DataW.trod_string Try.underlying9 h0
    obtain ⟨f, e1, _⟩ := DataW.trod_int Try.underlying3 h1
    simp at e0 e1
    subst e0; subst e1
    exact ⟨s, f, rfl⟩

theorem open_given {H : Type} {enc : TypeId × Value → H} {w : World} {base : Nat} {spare : Nat → Bool} {held : Bool} {r : Reach} {b0 : Nat} {v : Value} {d : DataW H} {p : List MemPlace}
    (hv : Value.okWide Try.prog w r b0 43 v) (h : DataW.Trod enc Try.prog w base spare held 43 v d p) :
    ∃ (s : ByteArray) (n : Int) (t x : ByteArray), v = .agg #[.string s, .int .i64 n, .string t, .string x] := by
  obtain ⟨cs, rfl, hsz⟩ := okWide_struct Try.underlying43 hv
  obtain ⟨c0, c1, c2, c3, rfl⟩ : ∃ c0 c1 c2 c3, cs = #[c0, c1, c2, c3] := by
    have h2 : cs.size = 4 := hsz.trans (by kernel_rfl)
    obtain ⟨l⟩ := cs
    match l, h2 with
    | [c0, c1, c2, c3], _ => exact ⟨c0, c1, c2, c3, rfl⟩
  obtain ⟨fuel, hf⟩ := h
  have hf' : DataW.trod enc Try.prog w base spare held fuel 43 [c0, c1, c2, c3] = some (d, p) := by simpa [Value.cells] using hf
  obtain ⟨xs, n, _, _, _, hlen, hx⟩ := DataW.trod_struct Try.underlying43 hf'
  have k9 : Try.prog.cellsOf 9 = 1 := by kernel_rfl
  have k3 : Try.prog.cellsOf 3 = 1 := by kernel_rfl
  have h0 := hx 0 _ rfl
  have h1 := hx 1 _ rfl
  have h2 := hx 2 _ rfl
  have h3 := hx 3 _ rfl
  clear hx hf hf' hsz hv
  match xs, hlen with
  | [y0, y1, y2, y3], _ =>
    simp [k9, k3] at h0 h1 h2 h3
    obtain ⟨s, e0, _⟩ := DataW.trod_string Try.underlying9 h0
    obtain ⟨f, e1, _⟩ := DataW.trod_int Try.underlying3 h1
    obtain ⟨t, e2, _⟩ := DataW.trod_string Try.underlying9 h2
    obtain ⟨x, e3, _⟩ := DataW.trod_string Try.underlying9 h3
    simp at e0 e1 e2 e3
    subst e0; subst e1; subst e2; subst e3
    exact ⟨s, f, t, x, rfl⟩
end Go.Proofs.Ytljnadbfadgglaa
