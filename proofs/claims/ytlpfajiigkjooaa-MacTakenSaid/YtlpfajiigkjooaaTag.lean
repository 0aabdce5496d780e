/- The first look of the statements of layer 4; the tag of two nodes; Check. Condition: seed and text take at most 4,096 bytes. -/
import Derived.Test.YtlpfajiigkjooaaRefM
import Derived.Test.YtlpfajiigkjooaaPair
namespace Go.Proofs.Ytlpfajiigkjooaa
open Go.RowKit
set_option linter.unusedVariables false
set_option linter.unusedSimpArgs false

def foxKey : ByteArray := ⟨#[107, 101, 121]⟩
def foxText : ByteArray := ⟨#[84, 104, 101, 32, 113, 117, 105, 99, 107, 32, 98, 114, 111, 119, 110, 32, 102, 111, 120, 32, 106, 117, 109, 112, 115, 32, 111, 118, 101, 114, 32, 116, 104, 101, 32, 108, 97, 122, 121, 32, 100, 111, 103]⟩
set_option maxRecDepth 100000 in
theorem mac_fox : (macK foxKey foxText).extract 0 4 = ⟨#[247, 188, 131, 244]⟩ := by
  have h : (Sha.sum (xk 92 ([107, 101, 121] ++ List.replicate 61 0) ++ Sha.sum (xk 54 ([107, 101, 121] ++ List.replicate 61 0) ++ foxText.data.toList))).take 4 = [247, 188, 131, 244] := by decide +kernel
  have hp : padK foxKey = [107, 101, 121] ++ List.replicate 61 0 := by
    have hk : kb foxKey = foxKey := by unfold kb; rw [if_neg (by decide)]
    unfold padK
    rw [hk]
    rfl
  have app : ∀ (a : List UInt8) (b : ByteArray), (bs a ++ b).data.toList = a ++ b.data.toList := by intro a b; simp [bs, ByteArray.data_append]
  unfold macK
  rw [hp]
  unfold dig
  rw [app, app, bs_data, bs_extract, List.drop_zero, show (4 : Nat) - 0 = 4 from rfl, h]
  rfl

theorem lives4 (w : World) : Calls Try.prog 35 #[] w fun e w' => e = .returned (.bool true) ∧ Below w.heap.size w w' := by
  have HM := Lib.hid (mac_any foxKey foxText (by decide) (by decide) w)
  have hz := macK_size foxKey foxText
  have hx := mac_fox
  generalize macK foxKey foxText = m at HM hz hx
  unfold foxKey foxText at HM
  go_enter Try.func35, Try.ntmps35
  go_wp2_with fail
  refine HM.out.mono ?_
  rintro e w1 ⟨rfl, hb1⟩
  go_wp2_with fail
  go_ret
  exact ⟨rfl, hb1⟩

theorem short4 (a b : ByteArray) (w : World) :
    Calls Try.prog 36 #[.string a, .string b] w fun e w' => e = .returned (.bool (decide (a.size ≤ 4096) && decide (b.size ≤ 4096))) ∧ w = w' := by
  by_cases h1 : a.size ≤ 4096
  · have h1' : (a.size : Int) ≤ 4096 := by omega
    by_cases h2 : b.size ≤ 4096
    · have h2' : (b.size : Int) ≤ 4096 := by omega
      go_enter Try.func36, Try.ntmps36
      go_wp2_with fail
      go_ret
      exact ⟨by simp [h1, h2], rfl⟩
    · have h2' : ¬ (b.size : Int) ≤ 4096 := by omega
      go_enter Try.func36, Try.ntmps36
      go_wp2_with fail
      go_ret
      exact ⟨by simp [h1, h2], rfl⟩
  · have h1' : ¬ (a.size : Int) ≤ 4096 := by omega
    go_enter Try.func36, Try.ntmps36
    go_wp2_with fail
    go_ret
    exact ⟨by simp [h1], rfl⟩
theorem short_yes4 (a b : ByteArray) (h1 : a.size ≤ 4096) (h2 : b.size ≤ 4096) (w : World) :
    Calls Try.prog 36 #[.string a, .string b] w fun e w' => e = .returned (.bool true) ∧ w = w' :=
  (short4 a b w).mono fun e w' ⟨he, hw⟩ => ⟨by rw [he]; simp [h1, h2], hw⟩
theorem short_no4 (a b : ByteArray) (h : 4096 < a.size ∨ 4096 < b.size) (w : World) :
    Calls Try.prog 36 #[.string a, .string b] w fun e w' => e = .returned (.bool false) ∧ w = w' :=
  (short4 a b w).mono fun e w' ⟨he, hw⟩ => ⟨by
    rw [he]
    rcases h with h | h
    · simp [Nat.not_le.2 h]
    · simp [Nat.not_le.2 h], hw⟩

/-- One byte as a text. -/
def one (a : Nat) : ByteArray := ⟨#[UInt8.ofNat a]⟩
theorem one_size (a : Nat) : (one a).size = 1 := rfl
theorem one_conv (a : Nat) (ha : a ≤ 255) (W : World) : (convert 30 9 (.slice (some ⟨W.heap.size, 0, none⟩) 1 1)).run Try.prog (W.alloc (.cells #[.int .u8 (a : Int)] 5)) = .ok (.string (one a)) (W.alloc (.cells #[.int .u8 (a : Int)] 5)) := by
  refine run_convert_bytes_back (W.alloc (.cells #[.int .u8 (a : Int)] 5)) 30 9 5 ⟨W.heap.size, 0, none⟩ 1 [UInt8.ofNat a] Try.underlying30 Try.underlying5 Try.underlying9 (fun j hj => ?_)
  have : j = 0 := by simp at hj; omega
  subst this
  have e : (⟨W.heap.size, 0, none⟩ : Addr).add 0 = ⟨W.heap.size, 0, none⟩ := by unfold Addr.add; split <;> simp_all
  rw [e, cell_of_row _ _ _ _ _ _ (heap_alloc_new W _)]
  simp
  omega

/-- The tag of two nodes. -/
def tagK (seed : ByteArray) (a b : Nat) (text : ByteArray) : ByteArray := (macK (pairK seed a b) (one a ++ text)).extract 0 8
theorem tagK_size (seed : ByteArray) (a b : Nat) (text : ByteArray) : (tagK seed a b text).size = 8 := by unfold tagK; rw [ByteArray.size_extract, macK_size]; omega
def tagU (seed : ByteArray) (a b : Int) (text : ByteArray) : ByteArray := if nodeB a && nodeB b then tagK seed a.toNat b.toNat text else ⟨#[]⟩

theorem tag_no (seed : ByteArray) (a b : Int) (text : ByteArray) (h : (nodeB a && nodeB b) = false) (w : World) :
    Calls Try.prog 68 #[.string seed, .int .i64 a, .int .i64 b, .string text] w fun e w' => e = .returned (.tuple #[.string ⟨#[]⟩, .int .i64 1]) ∧ w = w' := by
  have HP := fun w : World => Lib.hid (pair_no seed a b h w)
  go_enter Try.func68, Try.ntmps68
  go_wp2_with fail
  refine (HP _).out.mono ?_
  rintro e w1 ⟨rfl, rfl⟩
  go_wp2_with fail
  go_ret2
  exact ⟨rfl, rfl⟩

theorem tag_yes (seed : ByteArray) (hs : seed.size ≤ 4096) (a b : Nat) (ha : a < 200) (hb : b < 200) (text : ByteArray) (ht : text.size ≤ 4096) (w : World) :
    Calls Try.prog 68 #[.string seed, .int .i64 (a : Int), .int .i64 (b : Int), .string text] w fun e w' => e = .returned (.tuple #[.string (tagK seed a b text), .int .i64 0]) ∧ Below w.heap.size w w' := by
  have HP := fun w : World => Lib.hid (pair_yes seed hs a b ha hb w)
  have hps := pairK_size seed a b
  have HM := fun w : World => Lib.hid (mac_any (pairK seed a b) (one a ++ text) (by omega) (by rw [ByteArray.size_append, one_size]; omega) w)
  have hz := macK_size (pairK seed a b) (one a ++ text)
  have HE : Hid (tagK seed a b text = (macK (pairK seed a b) (one a ++ text)).extract 0 8) := Lib.hid rfl
  generalize macK (pairK seed a b) (one a ++ text) = m at HM hz HE
  generalize pairK seed a b = p at HP HM hps
  have q1 : IntKind.u8.wrap (a : Int) = (a : Int) := by rw [IntKind.wrap_u8]; omega
  have hcv := one_conv a (by omega)
  have t1 : (one a).size = 1 := rfl
  clear hs
  go_enter Try.func68, Try.ntmps68
  go_wp2_with fail
  refine (HP _).out.mono ?_
  rintro e w1 ⟨rfl, hb1⟩
  go_wp2_with fail
  refine (HM _).out.mono ?_
  rintro e w2 ⟨rfl, hb2⟩
  go_wp2_with fail
  go_ret2
  exact ⟨by rw [HE.out]; rfl, (hb1.alloc hb1.size _).trans (hb2.mono (by have := hb1.size; simp; omega))⟩

theorem reftag_yes (seed : ByteArray) (hs : seed.size ≤ 4096) (a b : Nat) (ha : a < 200) (hb : b < 200) (text : ByteArray) (ht : text.size ≤ 4096) (w : World) :
    Calls Try.prog 69 #[.string seed, .int .i64 (a : Int), .int .i64 (b : Int), .string text] w fun e w' => e = .returned (.string (tagK seed a b text)) ∧ Below w.heap.size w w' := by
  have HP := fun w : World => Lib.hid (refpair_yes seed hs a b ha hb w)
  have hps := pairK_size seed a b
  have HM := fun w : World => Lib.hid (refmac_any (pairK seed a b) (one a ++ text) (by omega) (by rw [ByteArray.size_append, one_size]; omega) w)
  have hz := macK_size (pairK seed a b) (one a ++ text)
  have HE : Hid (tagK seed a b text = (macK (pairK seed a b) (one a ++ text)).extract 0 8) := Lib.hid rfl
  generalize macK (pairK seed a b) (one a ++ text) = m at HM hz HE
  generalize pairK seed a b = p at HP HM hps
  have q1 : IntKind.u8.wrap (a : Int) = (a : Int) := by rw [IntKind.wrap_u8]; omega
  have hcv := one_conv a (by omega)
  have t1 : (one a).size = 1 := rfl
  clear hs
  go_enter Try.func69, Try.ntmps69
  go_wp2_with fail
  refine (HP _).out.mono ?_
  rintro e w1 ⟨rfl, hb1⟩
  go_wp2_with fail
  refine (HM _).out.mono ?_
  rintro e w2 ⟨rfl, hb2⟩
  go_wp2_with fail
  go_ret
  exact ⟨by rw [HE.out]; rfl, (hb1.alloc hb1.size _).trans (hb2.mono (by have := hb1.size; simp; omega))⟩

theorem tag_u (seed : ByteArray) (hs : seed.size ≤ 4096) (a b : Int) (text : ByteArray) (ht : text.size ≤ 4096) (w : World) :
    Calls Try.prog 68 #[.string seed, .int .i64 a, .int .i64 b, .string text] w fun e w' => e = .returned (.tuple #[.string (tagU seed a b text), .int .i64 (pairE a b)]) ∧ Below w.heap.size w w' := by
  unfold tagU pairE
  cases h : nodeB a && nodeB b with
  | false => exact (tag_no seed a b text h w).mono fun _ _ ⟨he, hw⟩ => ⟨he, below_eq hw⟩
  | true =>
    simp only [Bool.and_eq_true, nodeB_iff] at h
    obtain ⟨x, rfl⟩ := Int.eq_ofNat_of_zero_le h.1.1
    obtain ⟨y, rfl⟩ := Int.eq_ofNat_of_zero_le h.2.1
    exact tag_yes seed hs x y (by omega) (by omega) text ht w

/-- Which tag is taken. -/
def checkB (seed : ByteArray) (a b : Int) (text given : ByteArray) : Bool := nodeB a && nodeB b && ((tagK seed a.toNat b.toNat text).toList == given.toList)

theorem check_no (seed : ByteArray) (a b : Int) (text given : ByteArray) (h : (nodeB a && nodeB b) = false) (w : World) :
    Calls Try.prog 47 #[.string seed, .int .i64 a, .int .i64 b, .string text, .string given] w fun e w' => e = .returned (.bool false) ∧ w = w' := by
  have HP := fun w : World => Lib.hid (tag_no seed a b text h w)
  go_enter Try.func47, Try.ntmps47
  go_wp2_with fail
  refine (HP _).out.mono ?_
  rintro e w1 ⟨rfl, rfl⟩
  go_wp2_with fail
  go_ret
  exact ⟨rfl, rfl⟩
theorem check_yes (seed : ByteArray) (hs : seed.size ≤ 4096) (a b : Nat) (ha : a < 200) (hb : b < 200) (text : ByteArray) (ht : text.size ≤ 4096) (given : ByteArray) (w : World) :
    Calls Try.prog 47 #[.string seed, .int .i64 (a : Int), .int .i64 (b : Int), .string text, .string given] w fun e w' => e = .returned (.bool ((tagK seed a b text).toList == given.toList)) ∧ Below w.heap.size w w' := by
  have HP := fun w : World => Lib.hid (tag_yes seed hs a b ha hb text ht w)
  obtain ⟨x, hx⟩ : ∃ x, x = tagK seed a b text := ⟨_, rfl⟩
  rw [← hx] at HP ⊢
  clear hs ht hx
  go_enter Try.func47, Try.ntmps47
  go_wp2_with fail
  refine (HP _).out.mono ?_
  rintro e w1 ⟨rfl, hb1⟩
  go_wp2_with fail
  go_ret
  exact ⟨rfl, hb1⟩
theorem check_u (seed : ByteArray) (hs : seed.size ≤ 4096) (a b : Int) (text : ByteArray) (ht : text.size ≤ 4096) (given : ByteArray) (w : World) :
    Calls Try.prog 47 #[.string seed, .int .i64 a, .int .i64 b, .string text, .string given] w fun e w' => e = .returned (.bool (checkB seed a b text given)) ∧ Below w.heap.size w w' := by
  unfold checkB
  cases h : nodeB a && nodeB b with
  | false => exact (check_no seed a b text given h w).mono fun _ _ ⟨he, hw⟩ => ⟨he, below_eq hw⟩
  | true =>
    simp only [Bool.and_eq_true, nodeB_iff] at h
    obtain ⟨x, rfl⟩ := Int.eq_ofNat_of_zero_le h.1.1
    obtain ⟨y, rfl⟩ := Int.eq_ofNat_of_zero_le h.2.1
    exact check_yes seed hs x y (by omega) (by omega) text ht given w
end Go.Proofs.Ytlpfajiigkjooaa
