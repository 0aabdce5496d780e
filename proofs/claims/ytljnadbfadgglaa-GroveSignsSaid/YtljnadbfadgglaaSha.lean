/- Plain SHA-256 over BitVec 32 and lists of bytes: definitions. No condition. -/
namespace Go.Proofs
namespace Sha
abbrev U := BitVec 32
def rotr (x : U) (n : Nat) : U := x >>> n ||| x <<< (32 - n)
def K : List U := [
  0x428a2f98, 0x71374491, 0xb5c0fbcf, 0xe9b5dba5, 0x3956c25b, 0x59f111f1, 0x923f82a4, 0xab1c5ed5,
  0xd807aa98, 0x12835b01, 0x243185be, 0x550c7dc3, 0x72be5d74, 0x80deb1fe, 0x9bdc06a7, 0xc19bf174,
  0xe49b69c1, 0xefbe4786, 0x0fc19dc6, 0x240ca1cc, 0x2de92c6f, 0x4a7484aa, 0x5cb0a9dc, 0x76f988da,
  0x983e5152, 0xa831c66d, 0xb00327c8, 0xbf597fc7, 0xc6e00bf3, 0xd5a79147, 0x06ca6351, 0x14292967,
  0x27b70a85, 0x2e1b2138, 0x4d2c6dfc, 0x53380d13, 0x650a7354, 0x766a0abb, 0x81c2c92e, 0x92722c85,
  0xa2bfe8a1, 0xa81a664b, 0xc24b8b70, 0xc76c51a3, 0xd192e819, 0xd6990624, 0xf40e3585, 0x106aa070,
  0x19a4c116, 0x1e376c08, 0x2748774c, 0x34b0bcb5, 0x391c0cb3, 0x4ed8aa4a, 0x5b9cca4f, 0x682e6ff3,
  0x748f82ee, 0x78a5636f, 0x84c87814, 0x8cc70208, 0x90befffa, 0xa4506ceb, 0xbef9a3f7, 0xc67178f2]
structure St where
  (a b c d e f g h : U)
def H0 : St := ⟨0x6a09e667, 0xbb67ae85, 0x3c6ef372, 0xa54ff53a, 0x510e527f, 0x9b05688c, 0x1f83d9ab, 0x5be0cd19⟩
def s0 (x : U) : U := rotr x 7 ^^^ rotr x 18 ^^^ x >>> 3
def s1 (x : U) : U := rotr x 17 ^^^ rotr x 19 ^^^ x >>> 10
def S0 (x : U) : U := rotr x 2 ^^^ rotr x 13 ^^^ rotr x 22
def S1 (x : U) : U := rotr x 6 ^^^ rotr x 11 ^^^ rotr x 25
def ch (e f g : U) : U := (e &&& f) ^^^ (~~~e &&& g)
def maj (a b c : U) : U := (a &&& b) ^^^ (a &&& c) ^^^ (b &&& c)
def word (l : List UInt8) (i : Nat) : U := (l.getD (4*i) 0).toBitVec.setWidth 32 <<< 24 ||| (l.getD (4*i+1) 0).toBitVec.setWidth 32 <<< 16 ||| (l.getD (4*i+2) 0).toBitVec.setWidth 32 <<< 8 ||| (l.getD (4*i+3) 0).toBitVec.setWidth 32
def first (l : List UInt8) : List U := (List.range 16).map (word l)
def ext (w : List U) : U := s1 (w.getD (w.length - 2) 0) + w.getD (w.length - 7) 0 + s0 (w.getD (w.length - 15) 0) + w.getD (w.length - 16) 0
def more (w : List U) : Nat → List U
  | 0 => w
  | n+1 => more w n ++ [ext (more w n)]
def W (l : List UInt8) (t : Nat) : U := (more (first l) 48).getD t 0
def rnd (s : St) (k w : U) : St :=
  let u := s.h + S1 s.e + ch s.e s.f s.g + k + w
  let v := S0 s.a + maj s.a s.b s.c
  ⟨u + v, s.a, s.b, s.c, s.d + u, s.e, s.f, s.g⟩
def comp (w : Nat → U) (s : St) : Nat → St
  | 0 => s
  | n+1 => rnd (comp w s n) (K.getD n 0) (w n)
def St.add (s t : St) : St := ⟨s.a + t.a, s.b + t.b, s.c + t.c, s.d + t.d, s.e + t.e, s.f + t.f, s.g + t.g, s.h + t.h⟩
def blk (s : St) (l : List UInt8) : St := s.add (comp (W l) s 64)
def hash (l : List UInt8) : Nat → St
  | 0 => H0
  | n+1 => blk (hash l n) ((l.drop (64*n)).take 64)
def lenBytes (n : Nat) : List UInt8 := [7,6,5,4,3,2,1,0].map fun i => UInt8.ofNat (8*n / 2^(8*i))
def pad (n : Nat) : List UInt8 := 128 :: (List.replicate (63 - (n+8)%64) 0 ++ lenBytes n)
def by4 (x : U) : List UInt8 := [⟨(x >>> 24).setWidth 8⟩, ⟨(x >>> 16).setWidth 8⟩, ⟨(x >>> 8).setWidth 8⟩, ⟨x.setWidth 8⟩]
def St.out (s : St) : List UInt8 := by4 s.a ++ by4 s.b ++ by4 s.c ++ by4 s.d ++ by4 s.e ++ by4 s.f ++ by4 s.g ++ by4 s.h
def sum (l : List UInt8) : List UInt8 := (hash (l ++ pad l.length) ((l ++ pad l.length).length / 64)).out
end Sha
end Go.Proofs
