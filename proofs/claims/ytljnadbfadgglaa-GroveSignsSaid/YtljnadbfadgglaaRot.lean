/- The rotation of math/bits at 32 bits, and the words of the walk as BitVec 32. No condition but the range of the count. -/
import Derived.Test.YtljnadbfadgglaaProg
import Derived.Test.YtljnadbfadgglaaSha
import Derived.Test.YtljnadbfadgglaaKit
namespace Go.Proofs.Ytljnadbfadgglaa
open Go.RowKit
set_option maxRecDepth 100000

/-- A word as the walk's number. -/
def u (x : BitVec 32) : Int := (x.toNat : Int)
theorem u_lo (x : BitVec 32) : 0 ≤ u x := by unfold u; omega
theorem u_hi (x : BitVec 32) : u x ≤ 4294967295 := by unfold u; have := x.isLt; omega
theorem ofInt_u (x : BitVec 32) : BitVec.ofInt 32 (u x) = x := by
  unfold u; rw [BitVec.ofInt_natCast]; simp
theorem wrap_u (x : BitVec 32) : IntKind.u32.wrap (x.toNat : Int) = u x := by
  rw [IntKind.wrap_u32]; unfold u; have := x.isLt; omega
theorem u_xor (a b : BitVec 32) : bits .xor .u32 (u a) (u b) = u (a ^^^ b) := by
  show IntKind.u32.wrap ((BitVec.ofInt 32 (u a) ^^^ BitVec.ofInt 32 (u b)).toNat : Int) = _
  rw [ofInt_u, ofInt_u, wrap_u]
theorem u_and (a b : BitVec 32) : bits .and .u32 (u a) (u b) = u (a &&& b) := by
  show IntKind.u32.wrap ((BitVec.ofInt 32 (u a) &&& BitVec.ofInt 32 (u b)).toNat : Int) = _
  rw [ofInt_u, ofInt_u, wrap_u]
theorem u_or (a b : BitVec 32) : bits .or .u32 (u a) (u b) = u (a ||| b) := by
  show IntKind.u32.wrap ((BitVec.ofInt 32 (u a) ||| BitVec.ofInt 32 (u b)).toNat : Int) = _
  rw [ofInt_u, ofInt_u, wrap_u]
theorem u_add (a b : BitVec 32) : IntKind.u32.wrap (u a + u b) = u (a + b) := by
  rw [IntKind.wrap_u32]; unfold u; rw [BitVec.toNat_add]; omega
theorem u_shl (a : BitVec 32) (n : Nat) : IntKind.u32.wrap (u a * 2 ^ n) = u (a <<< n) := by
  rw [IntKind.wrap_u32]; unfold u; rw [BitVec.toNat_shiftLeft, Nat.shiftLeft_eq]
  simp
theorem u_shr (a : BitVec 32) (n : Nat) : u a / 2 ^ n = u (a >>> n) := by
  unfold u; rw [BitVec.toNat_ushiftRight, Nat.shiftRight_eq_div_pow]
  simp

theorem u_wrap (a : BitVec 32) : IntKind.u32.wrap (u a) = u a := by unfold u; exact wrap_u a
theorem u_shl24 (a : BitVec 32) : IntKind.u32.wrap (u a * (16777216 : Int)) = u (a <<< 24) := u_shl a 24
theorem u_shl16 (a : BitVec 32) : IntKind.u32.wrap (u a * (65536 : Int)) = u (a <<< 16) := u_shl a 16
theorem u_shl8 (a : BitVec 32) : IntKind.u32.wrap (u a * (256 : Int)) = u (a <<< 8) := u_shl a 8
theorem u_shr3 (a : BitVec 32) : u a / (8 : Int) = u (a >>> 3) := u_shr a 3
theorem u_shr10 (a : BitVec 32) : u a / (1024 : Int) = u (a >>> 10) := u_shr a 10
theorem u_shr24 (a : BitVec 32) : u a / (16777216 : Int) = u (a >>> 24) := u_shr a 24
theorem u_shr16 (a : BitVec 32) : u a / (65536 : Int) = u (a >>> 16) := u_shr a 16
theorem u_shr8 (a : BitVec 32) : u a / (256 : Int) = u (a >>> 8) := u_shr a 8
/-- A byte of a text as a word. -/
def byW (l : List UInt8) (i : Nat) : BitVec 32 := (l.getD i 0).toBitVec.setWidth 32
theorem u_byW (l : List UInt8) (i : Nat) : u (byW l i) = ((l.getD i 0).toNat : Int) := by
  unfold u byW
  rw [BitVec.toNat_setWidth]
  have := (l.getD i 0).toNat_lt
  simp only [UInt8.toNat_toBitVec]
  omega
theorem word_byW (l : List UInt8) (i : Nat) : byW l (4*i) <<< 24 ||| byW l (4*i+1) <<< 16 ||| byW l (4*i+2) <<< 8 ||| byW l (4*i+3) = Sha.word l i := rfl
theorem byte_u (s : ByteArray) (i : Nat) (h : i < s.size) : ((s[i]'h).toNat : Int) = u (byW s.data.toList i) := by
  rw [u_byW]
  have e : s.data[i]? = some (s[i]'h) := Array.getElem?_eq_getElem h
  simp [List.getD, e]

theorem rot_count : ∀ n : Fin 32, 1 ≤ n.val → bits .and .u64 (IntKind.u64.wrap (-(n.val : Int))) 31 = ((32 - n.val : Nat) : Int) := by decide +kernel

set_option maxHeartbeats 400000 in
theorem rot_any (x : BitVec 32) (n : Nat) (k : Int) (h1 : 1 ≤ n) (h2 : n ≤ 31) (hk : k = -(n : Int)) (w : World) :
    Calls Try.prog 108 #[.int .u32 (u x), .int .i64 k] w fun e w' => e = .returned (.int .u32 (u (Sha.rotr x n))) ∧ w = w' := by
  have hb : bits .and .u64 (IntKind.u64.wrap k) 31 = ((32 - n : Nat) : Int) := by rw [hk]; exact rot_count ⟨n, by omega⟩ h1
  clear hk
  generalize hm : 32 - n = m at hb
  have hn : n = 32 - m := by omega
  subst hn
  clear hm
  have hm1 : 1 ≤ m := by omega
  have hm2 : m ≤ 31 := by omega
  clear h1 h2
  have e1 := u_shl x m
  have e2 := u_shr x (32 - m)
  have e3 := u_or (x <<< m) (x >>> (32 - m))
  go_enter Try.func108, Try.ntmps108
  go_wp2
  go_ret
  exact ⟨ret_val (congrArg (fun z => Value.int .u32 (u z)) (BitVec.or_comm _ _ |>.trans (by unfold Sha.rotr; rw [show 32 - (32 - m) = m by omega]))), rfl⟩
/-- The same, the count read off the argument. -/
theorem rot_q (x : BitVec 32) (k : Int) (h : 1 ≤ -k ∧ -k ≤ 31) (w : World) :
    Calls Try.prog 108 #[.int .u32 (u x), .int .i64 k] w fun e w' => e = .returned (.int .u32 (u (Sha.rotr x (-k).toNat))) ∧ w' = w :=
  (rot_any x (-k).toNat k (by omega) (by omega) (by omega) w).mono fun _ _ ⟨he, hw⟩ => ⟨he, hw.symm⟩
end Go.Proofs.Ytljnadbfadgglaa
