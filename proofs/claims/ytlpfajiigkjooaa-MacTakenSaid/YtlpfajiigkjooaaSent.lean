/- A value of the struct Sent that comes in: its five fields. No condition. -/
import Derived.Test.YtlpfajiigkjooaaLawK
import Derived.SliceStrings
import Derived.Deep.Fields
import Derived.ChangeArms
namespace Go.Proofs.Ytlpfajiigkjooaa
open Go.ChangeShapes Go.WideShapes Go.ChangeAt Go.RowKit
set_option linter.unusedVariables false

theorem array5 {α : Type} {cs : Array α} (h : cs.size = 5) : ∃ c0 c1 c2 c3 c4, cs = #[c0, c1, c2, c3, c4] := by
  obtain ⟨l⟩ := cs
  match l, h with
  | [c0, c1, c2, c3, c4], _ => exact ⟨c0, c1, c2, c3, c4, rfl⟩

theorem open_sent {H : Type} {enc : TypeId × Value → H} {w : World} {base : Nat} {spare : Nat → Bool} {held : Bool} {r : Reach} {b0 : Nat} {v : Value} {d : DataW H} {p : List MemPlace}
    (hv : Value.okWide Try.prog w r b0 54 v) (h : DataW.Trod enc Try.prog w base spare held 54 v d p) :
    ∃ (s : ByteArray) (f g : Int) (t x : ByteArray), v = .agg #[.string s, .int .i64 f, .int .i64 g, .string t, .string x] := by
  obtain ⟨cs, rfl, hsz⟩ := okWide_struct Try.underlying54 hv
  obtain ⟨c0, c1, c2, c3, c4, rfl⟩ := array5 (hsz.trans (by kernel_rfl))
  obtain ⟨fuel, hf⟩ := h
  have hf' : DataW.trod enc Try.prog w base spare held fuel 54 [c0, c1, c2, c3, c4] = some (d, p) := by simpa [Value.cells] using hf
  obtain ⟨xs, n, _, _, _, hlen, hx⟩ := DataW.trod_struct Try.underlying54 hf'
  have k9 : Try.prog.cellsOf 9 = 1 := by kernel_rfl
  have k3 : Try.prog.cellsOf 3 = 1 := by kernel_rfl
  have h0 := hx 0 _ rfl
  have h1 := hx 1 _ rfl
  have h2 := hx 2 _ rfl
  have h3 := hx 3 _ rfl
  have h4 := hx 4 _ rfl
  clear hx hf hf' hsz hv
  match xs, hlen with
  | [y0, y1, y2, y3, y4], _ =>
    simp [k9, k3] at h0 h1 h2 h3 h4
    obtain ⟨s, e0, _⟩ := DataW.trod_string Try.underlying9 h0
    obtain ⟨f, e1, _⟩ := DataW.trod_int Try.underlying3 h1
    obtain ⟨g, e2, _⟩ := DataW.trod_int Try.underlying3 h2
    obtain ⟨t, e3, _⟩ := DataW.trod_string Try.underlying9 h3
    obtain ⟨x, e4, _⟩ := DataW.trod_string Try.underlying9 h4
    simp at e0 e1 e2 e3 e4
    subst e0; subst e1; subst e2; subst e3; subst e4
    exact ⟨s, f, g, t, x, rfl⟩
end Go.Proofs.Ytlpfajiigkjooaa
