/- Joined texts of the claim. No condition. -/
import Derived.Test.YtlibpcllceepkaaGreatB10
import Derived.Test.YtlibpcllceepkaaGreatB09
import Derived.Test.YtlibpcllceepkaaGreatIter
import Derived.Test.YtlibpcllceepkaaGreatB04
import Derived.Test.YtlibpcllceepkaaGreatB07
import Derived.WideKeyEntry
import Derived.DeepKeys4
import Derived.WideKeyPair
namespace Go.Proofs.YtlibpcllceepkaaGreat
open Go.RowKit
set_option maxRecDepth 100000
set_option maxRecDepth 100000
set_option linter.unusedVariables false
set_option linter.unusedSimpArgs false
set_option maxHeartbeats 16000000
theorem gAd (b:Nat) (x:ByteArray) (i:Nat) (w:World) (h:RdAt w b x i true) :
  Calls Tryz.prog 306 #[.pointer (some ⟨b,0,none⟩)] w fun e w'=>e=.returned (.string ⟨#[]⟩)∧w=w':=by
 have H:=zH (hIy b x i 2 w h);have c1:=zR w b 1 _ _ _ h;have c2:=zR w b 2 _ _ _ h;simp at c1 c2;clear h;go_enter Tryz.func306,Tryz.ntmps306;go_wp2_with fail;refine H.o.mono ?_;rintro e w1 ⟨rfl,rfl⟩;go_wp2_with fail;go_ret;exact⟨rfl,rfl⟩
theorem hZ1 (b:Nat) (x:ByteArray) (f:x.size≤maxLen) (i:Nat) (hi:i≤x.size) (d:x.size<i+2) (w:World) (h:RdAt w b x i false) :
  Calls Tryz.prog 306 #[.pointer (some ⟨b,0,none⟩)] w fun e w'=>e=.returned (.string ⟨#[]⟩)∧RdAt w' b x i true∧w.grownBy w' (some b):=by
 have H:=zH (hF9 b x f i hi 2 (by omega) d w h);have c1:=zR w b 1 _ _ _ h;simp at c1;clear h;go_enter Tryz.func306,Tryz.ntmps306;go_wp2_with fail;refine H.o.mono ?_;rintro e w1 ⟨rfl,a,c⟩;have c2:=zR w1 b 2 _ _ _ a;simp at c2;go_wp2_with fail;go_ret;exact⟨rfl,a,c⟩
theorem hZ8 (b:Nat) (x:ByteArray) (v:x.size≤maxLen) (i n:Nat) (q:i+2≤x.size) (g:beN ((x.data.toList.drop i).take 2)=n) (u:x.size<i+2+n) (w:World) (h:RdAt w b x i false) :
  Calls Tryz.prog 306 #[.pointer (some ⟨b,0,none⟩)] w fun e w'=>e=.returned (.string ⟨#[]⟩)∧RdAt w' b x i true∧w.grownBy w' (some b):=by
 have t:maxLen=9223372036854775807:=rfl;have H:=zH (hFi b x v i 2 (by omega) q w h);rw[g] at H;have y:n<65536:=by rw[←g];exact hLu _ (by rw[List.length_take];omega)
 have q0:IntKind.i64.wrap (n:Int)=(n:Int):=by rw[IntKind.wrap_i64];omega
 have c1:=zR w b 1 _ _ _ h;simp at c1;clear h g;go_enter Tryz.func306,Tryz.ntmps306;go_wp2_with fail;refine H.o.mono ?_;rintro e w1 ⟨rfl,c,r⟩;obtain⟨p,j⟩:∃ p,i+2=p:=⟨_,rfl⟩;rw[j] at c q u;have z:=zH j;have d0:=zR w1 b 0 _ _ _ c;have d1:=zR w1 b 1 _ _ _ c;have d2:=zR w1 b 2 _ _ _ c;simp at d0 d1 d2;have q1:IntKind.i64.wrap ((x.size:Int) - (p:Int))=(x.size:Int) - (p:Int):=by rw[IntKind.wrap_i64];omega
 have q2:(x.size:Int) - (p:Int)<(n:Int):=by omega
 have k:=zH c;have s:=zH r;clear c1 c r j;go_wp2_with fail;go_quiet (fail)
 have d:=hAc (Below.refl w1.heap.size w1) nq;have a:=(d.block b k.o.lt).trans k.o;have l:=zH a;have f:=zH d;generalize w1.drewN nq=w2 at d a l f ⊢;have f1:=frozen_of_row w2 b 1 _ _ a;have g1:=zR w2 b 1 _ _ _ a;have r3:=heap_setCell_same w2 b 1 _ _ (.int .i64 i) a;have m:=zH r3;have f2:=frozen_of_row _ b 2 _ _ r3;have g2:=zR _ b 2 _ _ _ r3;simp at g1 g2;clear d a r3 d0 d1 d2;go_wp2_with fail;go_ret;have G0:=hEu s.o (hAa f.o (some b));exact⟨rfl,heap_setCell_same _ b 2 _ _ _ m.o,hAb (hAb G0 (p:=⟨b,1,none⟩) (.inl rfl) _) (p:=⟨b,2,none⟩) (.inl rfl) _⟩
theorem hWo (b:Nat) (x:ByteArray) (z:x.size≤maxLen) (i n:Nat) (r:i+2≤x.size) (l:beN ((x.data.toList.drop i).take 2)=n) (y:i+2+n≤x.size) (w:World) (h:RdAt w b x i false) :
  Calls Tryz.prog 306 #[.pointer (some ⟨b,0,none⟩)] w fun e w'=>e=.returned (.string (x.extract (i+2) (i+2+n)))∧RdAt w' b x (i+2+n) false∧w.grownBy w' (some b):=by
 have v:maxLen=9223372036854775807:=rfl;have H:=zH (hFi b x z i 2 (by omega) r w h);rw[l] at H;have B:n<65536:=by rw[←l];exact hLu _ (by rw[List.length_take];omega)
 have q0:IntKind.i64.wrap (n:Int)=(n:Int):=by rw[IntKind.wrap_i64];omega
 have c1:=zR w b 1 _ _ _ h;simp at c1;clear h l;go_enter Tryz.func306,Tryz.ntmps306;go_wp2_with fail;refine H.o.mono ?_;rintro e w1 ⟨rfl,d,s⟩;obtain⟨p,m⟩:∃ p,i+2=p:=⟨_,rfl⟩;rw[m] at d r y;have u:=zH m;have d0:=zR w1 b 0 _ _ _ d;have d1:=zR w1 b 1 _ _ _ d;have d2:=zR w1 b 2 _ _ _ d;simp at d0 d1 d2;have q1:IntKind.i64.wrap ((x.size:Int) - (p:Int))=(x.size:Int) - (p:Int):=by rw[IntKind.wrap_i64];omega
 have q2:¬ (x.size:Int) - (p:Int)<(n:Int):=by omega
 have q3:(n:Int)≤(x.size:Int) - (p:Int):=by omega
 have q4:IntKind.i64.wrap ((p:Int)+(n:Int))=(p:Int)+(n:Int):=by rw[IntKind.wrap_i64];omega
 have q5:(p:Int)+(n:Int)≤(x.size:Int):=by omega
 have q6:(0:Int)≤(p:Int)+(n:Int):=by omega
 have q7:(p:Int)≤(p:Int)+(n:Int):=by omega
 have q8:(0:Int)≤(p:Int):=by omega
 have q9:((p:Int)+(n:Int)).toNat=p+n:=by omega
 have q:=zH d;have t:=zH s;clear c1 d s m;go_wp2_with fail;go_quiet (fail)
 have c:=hAc (Below.refl w1.heap.size w1) nq;have a:=(c.block b q.o.lt).trans q.o;have g:=zH (hAa c (some b));have f:=zH a;generalize w1.drewN nq=w2 at c a f g ⊢;have e0:=zR w2 b 0 _ _ _ a;have e1:=zR w2 b 1 _ _ _ a;simp at e0 e1;clear c a d0 d1 d2;go_wp2_with fail;go_quiet (fail)
 have c:=hAc (Below.refl w2.heap.size w2) nq;have a:=(c.block b (zL f.o)).trans f.o;have j:=zH (hAa c (some b));have k:=zH a;generalize w2.drewN nq=w3 at c a k j ⊢;have k1:=zR w3 b 1 _ _ _ a;have f1:=frozen_of_row w3 b 1 _ _ a;simp at k1;clear c a e0 e1;go_wp2_with fail;go_ret;rw[u.o];have G0:=hEu (hEu t.o g.o) j.o;refine⟨rfl,?_,hAb G0 (p:=⟨b,1,none⟩) (.inl rfl) _⟩;show(w3.setCell ⟨b,1,none⟩ (.int .i64 ((p:Int)+(n:Int)))).heap[b]?=_;rw[heap_setCell_same w3 b 1 _ _ _ k.o,Int.natCast_add];rfl
end Go.Proofs.YtlibpcllceepkaaGreat
namespace Go.Proofs.YtlibpcllceepkaaGreat
open Go.RowKit
set_option maxRecDepth 100000
set_option linter.unusedVariables false
set_option linter.unusedSimpArgs false
set_option maxHeartbeats 16000000
def PkR (w:World) (b:Nat) (L:List UInt8):Prop:=L.length≤65536∧PkAt w b L (65536 - L.length)
theorem PkR.lt {w:World} {b:Nat} {L:List UInt8} (h:PkR w b L):b<w.heap.size:=h.2.lt
theorem PkR.keep {w w':World} {b:Nat} {L:List UInt8} (h:PkR w b L) (a:Below w.heap.size w w'):PkR w' b L:=⟨h.1,h.2.keep a⟩
theorem hPs (w:World):Calls Tryz.prog 86 #[.int .i64 65536] w fun e w'=>e=.returned (.pointer (some ⟨w.heap.size,0,none⟩))∧PkR w' w.heap.size []∧Below w.heap.size w w':=
 (hEz 65536 (by decide) w).mono fun e w' ⟨a,b,c⟩=>⟨a,⟨by simp,b⟩,c⟩
theorem hFj (b:Nat) (L:List UInt8) (n:Nat) (f:n<256) (g:L.length+1≤65536) (w:World) (h:PkR w b L) :
  Calls Tryz.prog 87 #[.pointer (some ⟨b,0,none⟩),.int .i64 n] w fun e w'=>e=.returned (.tuple #[])∧PkR w' b (L++beL 1 n)∧Below b w w':=
 (hA5 b L _ n f (by omega) (by omega) w h.2).mono fun e w' ⟨a,c,d,_⟩=>⟨a,⟨by simp[beL];omega,by
  have e:65536 - (L++beL 1 n).length=65536 - L.length - 1:=by simp[beL];omega
  rw[e];exact c⟩,d⟩
theorem gAc (b:Nat) (L:List UInt8) (n:Nat) (f:n<65536) (g:L.length+2≤65536) (w:World) (h:PkR w b L) :
  Calls Tryz.prog 88 #[.pointer (some ⟨b,0,none⟩),.int .i64 n] w fun e w'=>e=.returned (.tuple #[])∧PkR w' b (L++beL 2 n)∧Below b w w':=
 (hJp b L _ n f (by omega) (by omega) w h.2).mono fun e w' ⟨a,c,d⟩=>⟨a,⟨by simp[beL];omega,by
  have e:65536 - (L++beL 2 n).length=65536 - L.length - 2:=by simp[beL];omega
  rw[e];exact c⟩,d⟩
theorem hV0 (b:Nat) (L:List UInt8) (n:Nat) (f:n<4294967296) (g:L.length+4≤65536) (w:World) (h:PkR w b L) :
  Calls Tryz.prog 141 #[.pointer (some ⟨b,0,none⟩),.int .i64 n] w fun e w'=>e=.returned (.tuple #[])∧PkR w' b (L++be4 n)∧Below b w w':=
 (hJo b L _ n f (by omega) (by omega) w h.2).mono fun e w' ⟨a,c,d⟩=>⟨a,⟨by simp[be4];omega,by
  have e:65536 - (L++be4 n).length=65536 - L.length - 4:=by simp[be4];omega
  rw[e];exact c⟩,d⟩
theorem hCt (n:Nat):(be8 n).length=8:=by simp[be8]
theorem gAb (b:Nat) (L:List UInt8) (n:Nat) (f:L.length+8≤65536) (w:World) (h:PkR w b L) :
  Calls Tryz.prog 119 #[.pointer (some ⟨b,0,none⟩),.int .u64 (n:Int)] w fun e w'=>e=.returned (.tuple #[])∧PkR w' b (L++be8 n)∧Below b w w':=
 (hJn b L _ n (by omega) (by omega) w h.2).mono fun e w' ⟨a,c,d⟩=>⟨a,⟨by simp[hCt];omega,by
  have e:65536 - (L++be8 n).length=65536 - L.length - 8:=by simp[hCt];omega
  rw[e];exact c⟩,d⟩
def txL (s:ByteArray):List UInt8:=beL 2 s.size++s.data.toList
theorem hBb (s:ByteArray):(txL s).length=2+s.size:=by simp[txL,beL];omega
theorem hM6 (b:Nat) (L:List UInt8) (s:ByteArray) (f:s.size≤65535) (g:L.length+2+s.size≤65536) (w:World) (h:PkR w b L) :
  Calls Tryz.prog 91 #[.pointer (some ⟨b,0,none⟩),.string s] w fun e w'=>e=.returned (.tuple #[])∧PkR w' b (L++txL s)∧Below b w w':=
 (hPr b L _ s f (by omega) (by omega) w h.2).mono fun e w' ⟨a,c,d⟩=>⟨a,⟨by rw[List.length_append,hBb];omega,by
  have e:65536 - (L++txL s).length=65536 - L.length - (2+s.size):=by rw[List.length_append,hBb];omega
  rw[e];exact c⟩,d⟩
theorem hZk {w:World} {b:Nat} {L:List UInt8} {room:Nat} (h:PkAt w b L room) {X:Nat} {cs:Array Value} {T:TypeId} {fr:Nat×Nat} (k:w.heap[X]?=some (.cells cs T fr)) (i:T≠5):∀ v,w.heap[b]?=some (.cells #[v,.int .i64 room,.int .i64 0] 246 (0,0))→v.ownBlock≠some X:=by
 obtain⟨v0,j,f⟩:=h;intro v c e;rw[j] at c;have c:v0=v:=by
  injection c with c;injection c with c;have:=congrArg (fun a=>a[0]?) c;simpa using this
 subst c;rcases f.2 with⟨rfl,_⟩ | ⟨g,cap,cur,rfl,_,d,_⟩
 ·cases e
 ·cases e;rw[k] at d;injection d with d;injection d with _ f _;exact i f
def KeepX (w w':World) (b:Nat):Prop:=∀ X cs T fr,w.heap[X]?=some (.cells cs T fr)→T≠5→X≠b→w'.heap[X]?=some (.cells cs T fr)
theorem Apart.keepX {w w':World} {b:Nat} {L:List UInt8} {room:Nat} (h:PkAt w b L room) (d:Apart w w' b room):KeepX w w' b:=fun X cs T fr a c e=>(d X (zL a) e (hZk h a c)).trans a
theorem hTr (b:Nat) (L:List UInt8) (n:Nat) (g:L.length+8≤65536) (w:World) (h:PkR w b L) :
  Calls Tryz.prog 119 #[.pointer (some ⟨b,0,none⟩),.int .u64 (n:Int)] w fun e w'=>e=.returned (.tuple #[])∧PkR w' b (L++be8 n)∧Below b w w'∧KeepX w w' b:=
 (hMu b L _ n (by omega) (by omega) w h.2).mono fun e w' ⟨a,c,d,f⟩=>⟨a,⟨by simp[hCt];omega,by
  have e:65536 - (L++be8 n).length=65536 - L.length - 8:=by simp[hCt];omega
  rw[e];exact c⟩,d,f.keepX h.2⟩
theorem hKe (b:Nat) (L:List UInt8) (s:ByteArray) (g:s.size≤65535) (i:L.length+2+s.size≤65536) (w:World) (h:PkR w b L) :
  Calls Tryz.prog 91 #[.pointer (some ⟨b,0,none⟩),.string s] w fun e w'=>e=.returned (.tuple #[])∧PkR w' b (L++txL s)∧Below b w w'∧KeepX w w' b:=
 (hMx b L _ s g (by omega) (by omega) w h.2).mono fun e w' ⟨a,c,d,f⟩=>⟨a,⟨by rw[List.length_append,hBb];omega,by
  have e:65536 - (L++txL s).length=65536 - L.length - (2+s.size):=by rw[List.length_append,hBb];omega
  rw[e];exact c⟩,d,f.keepX h.2⟩
theorem hTs (b:Nat) (L:List UInt8) (n:Nat) (g:n<4294967296) (i:L.length+4≤65536) (w:World) (h:PkR w b L) :
  Calls Tryz.prog 141 #[.pointer (some ⟨b,0,none⟩),.int .i64 n] w fun e w'=>e=.returned (.tuple #[])∧PkR w' b (L++be4 n)∧Below b w w'∧KeepX w w' b:=
 (hMv b L _ n g (by omega) (by omega) w h.2).mono fun e w' ⟨a,c,d,f⟩=>⟨a,⟨by simp[be4];omega,by
  have e:65536 - (L++be4 n).length=65536 - L.length - 4:=by simp[be4];omega
  rw[e];exact c⟩,d,f.keepX h.2⟩
theorem hMz (b:Nat) (L:List UInt8) (w:World) (h:PkR w b L) :
  Calls Tryz.prog 95 #[.pointer (some ⟨b,0,none⟩)] w fun e w'=>e=.returned (.tuple #[.string (bs L),.int .i64 0])∧w=w':=hD6 b L _ w h.2
def Rs (w:World) (b:Nat) (S:List UInt8):Prop:=∃ x i,RdAt w b x i false∧x.size≤maxLen∧i≤x.size∧x.data.toList.drop i=S
theorem Rs.lt {w:World} {b:Nat} {S:List UInt8} (h:Rs w b S):b<w.heap.size:=by obtain⟨x,i,h,_⟩:=h;exact h.lt
theorem Rs.keep {w w':World} {b:Nat} {S:List UInt8} (h:Rs w b S) (d:Below w.heap.size w w'):Rs w' b S:=by
 obtain⟨x,i,a,c⟩:=h;exact⟨x,i,a.keep d,c⟩
theorem Rs.new {w:World} {b:Nat} {x:ByteArray} (h:RdAt w b x 0 false) (a:x.size≤maxLen):Rs w b x.data.toList:=⟨x,0,h,a,Nat.zero_le _,rfl⟩
theorem hBd (x:ByteArray):x.data.toList.length=x.size:=Array.length_toList
theorem hYu (n:Nat) (h:n<4294967296):beN (be4 n)=n:=by
 simp only[beN,be4,List.foldl_cons,List.foldl_nil,UInt8.toNat_ofNat'];omega
theorem hYt (n:Nat) (h:n<256):beN (beL 1 n)=n:=by
 simp only[beN,beL,if_true,List.foldl_cons,List.foldl_nil,UInt8.toNat_ofNat'];omega
theorem hRx (n:Nat) (h:n<65536):beN (beL 2 n)=n:=by
 rw[show beL 2 n=[UInt8.ofNat (n / 256),UInt8.ofNat (n % 256)] from rfl];simp only[beN,List.foldl_cons,List.foldl_nil,UInt8.toNat_ofNat'];omega
theorem hYv (n:Nat) (h:n<18446744073709551616):beN (be8 n)=n:=by
 rw[show be8 n=[UInt8.ofNat (n / 72057594037927936),UInt8.ofNat (n / 281474976710656),UInt8.ofNat (n / 1099511627776),UInt8.ofNat (n / 4294967296),UInt8.ofNat (n / 16777216),UInt8.ofNat (n / 65536),UInt8.ofNat (n / 256),UInt8.ofNat (n / 1)] from rfl];simp only[beN,List.foldl_cons,List.foldl_nil,UInt8.toNat_ofNat'];omega
theorem Rs.num {x:ByteArray} {i:Nat} {X S:List UInt8} (hi:i≤x.size) (h:x.data.toList.drop i=X++S):rdN x X.length i false=(beN X,i+X.length,false)∧x.data.toList.drop (i+X.length)=S∧i+X.length≤x.size:=by
 have a:=congrArg List.length h;rw[List.length_drop,hBd,List.length_append] at a;refine⟨?_,by rw[←List.drop_drop,h,List.drop_left],by omega⟩;unfold rdN;rw[if_neg (by simp),if_neg (by omega),h,List.take_left]
theorem hC6 (b:Nat) (n:Nat) (g:n<256) (S:List UInt8) (w:World) (h:Rs w b (beL 1 n++S)) :
  Calls Tryz.prog 304 #[.pointer (some ⟨b,0,none⟩)] w fun e w'=>e=.returned (.int .i64 n)∧Rs w' b S∧w.grownBy w' (some b):=by
 obtain⟨x,i,d,a,c,f⟩:=h;obtain⟨e1,e2,e3⟩:=Rs.num c f;have e1:rdN x 1 i false=_:=e1;refine(hX1 b x a i c false w d).mono fun e w' ⟨k1,k2,k3⟩=>?_;rw[e1,hYt n g] at k1;rw[e1] at k2;exact⟨k1,⟨x,_,k2,a,e3,e2⟩,k3⟩
theorem hYb (b:Nat) (n:Nat) (g:n<65536) (S:List UInt8) (w:World) (h:Rs w b (beL 2 n++S)) :
  Calls Tryz.prog 322 #[.pointer (some ⟨b,0,none⟩)] w fun e w'=>e=.returned (.int .i64 n)∧Rs w' b S∧w.grownBy w' (some b):=by
 obtain⟨x,i,d,a,c,f⟩:=h;obtain⟨e1,e2,e3⟩:=Rs.num c f;have e1:rdN x 2 i false=_:=e1;refine(hX5 b x a i c false w d).mono fun e w' ⟨k1,k2,k3⟩=>?_;rw[e1,hRx n g] at k1;rw[e1] at k2;exact⟨k1,⟨x,_,k2,a,e3,e2⟩,k3⟩
theorem hPy (b:Nat) (n:Nat) (g:n<4294967296) (S:List UInt8) (w:World) (h:Rs w b (be4 n++S)) :
  Calls Tryz.prog 308 #[.pointer (some ⟨b,0,none⟩)] w fun e w'=>e=.returned (.int .i64 n)∧Rs w' b S∧w.grownBy w' (some b):=by
 obtain⟨x,i,d,a,c,f⟩:=h;obtain⟨e1,e2,e3⟩:=Rs.num c f;have e1:rdN x 4 i false=_:=e1;refine(hX4 b x a i c false w d).mono fun e w' ⟨k1,k2,k3⟩=>?_;rw[e1,hYu n g] at k1;rw[e1] at k2;exact⟨k1,⟨x,_,k2,a,e3,e2⟩,k3⟩
theorem hPw (b:Nat) (n:Nat) (g:n<18446744073709551616) (S:List UInt8) (w:World) (h:Rs w b (be8 n++S)) :
  Calls Tryz.prog 310 #[.pointer (some ⟨b,0,none⟩)] w fun e w'=>e=.returned (.int .u64 (n:Int))∧Rs w' b S∧w.grownBy w' (some b):=by
 obtain⟨x,i,d,a,c,f⟩:=h;obtain⟨e1,e2,e3⟩:=Rs.num c f;rw[hCt] at e1 e2 e3;refine(hXz b x a i c false w d).mono fun e w' ⟨k1,k2,k3⟩=>?_;rw[e1,hYv n g] at k1;rw[e1] at k2;exact⟨k1,⟨x,_,k2,a,e3,e2⟩,k3⟩
theorem hJt (b:Nat) (s:ByteArray) (l:s.size≤65535) (S:List UInt8) (w:World) (h:Rs w b (txL s++S)) :
  Calls Tryz.prog 306 #[.pointer (some ⟨b,0,none⟩)] w fun e w'=>e=.returned (.string s)∧Rs w' b S∧w.grownBy w' (some b):=by
 obtain⟨x,i,f,c,g,a⟩:=h;unfold txL at a;rw[List.append_assoc] at a;obtain⟨e1,e2,e3⟩:=Rs.num g a;have e2:x.data.toList.drop (i+2)=_:=e2;have e3:i+2≤x.size:=e3;have j:=congrArg List.length e2;rw[List.length_drop,hBd,List.length_append,hBd] at j;have k:(x.data.toList.drop i).take 2=beL 2 s.size:=by
  rw[a,show beL 2 s.size=[UInt8.ofNat (s.size / 256),UInt8.ofNat (s.size % 256)] from rfl];rfl
 refine(hWo b x c i s.size e3 (by rw[k];exact hRx _ (by omega)) (by omega) w f).mono fun e w' ⟨k1,k2,k3⟩=>?_;have d:x.extract (i+2) (i+2+s.size)=s:=by
  apply ByteArray.ext;apply Array.ext';rw[ByteArray.data_extract,Array.toList_extract,List.extract_eq_take_drop,e2,show i+2+s.size - (i+2)=s.data.toList.length by rw[hBd];omega,List.take_left]
 rw[d] at k1;refine⟨k1,⟨x,_,k2,c,by omega,?_⟩,k3⟩;rw[←List.drop_drop,e2,show s.size=s.data.toList.length by rw[hBd],List.drop_left]
theorem hPx (b:Nat) (S:List UInt8) (w:World) (h:Rs w b S) :
  Calls Tryz.prog 307 #[.pointer (some ⟨b,0,none⟩)] w fun e w'=>e=.returned (.int .i64 S.length)∧Below w.heap.size w w':=by
 obtain⟨x,i,c,d,f,g⟩:=h;have a:=congrArg List.length g;rw[List.length_drop,hBd] at a;refine(hPt b x d i f false w c).mono fun e w' ⟨k1,k2⟩=>⟨?_,k2⟩;rw[k1,←a]
theorem hUb (b:Nat) (w:World) (h:Rs w b []) :
  Calls Tryz.prog 324 #[.pointer (some ⟨b,0,none⟩)] w fun e w'=>e=.returned (.int .i64 0)∧Below w.heap.size w w':=by
 obtain⟨x,i,a,c,d,f⟩:=h;have g:=congrArg List.length f;rw[List.length_drop,hBd,List.length_nil] at g;refine(hZl b x c i d false w a).mono fun e w' ⟨k1,k2⟩=>⟨?_,k2⟩;rw[k1];unfold endN;rw[if_neg (by simp),if_neg (by omega)]
def sortK (kv:Kvs):List (List UInt8):=(kv.map fun p=>p.1.data.toList).mergeSort (fun x y=>decide (x≤y))
theorem hRc {kv kv':Kvs} (h:kv.Perm kv'):sortK kv=sortK kv':=Go.mergeSort_of_perm (h.map _)
theorem hA4 (kv:Kvs):(sortK kv).length=kv.length:=by unfold sortK;rw[List.length_mergeSort,List.length_map]
def oneR:Value→Option (DataW Unit×List MemPlace):=fun _=>some (.lit (.bool true),[])
theorem MpK.owns {w:World} {b:Nat} {kv:Kvs} (h:MpK 9 w b (encK kv)) (q:kv.length≤1000):∃ D0:DataW Unit,w.ownsMap Tryz.prog 9 oneR b 1000 D0∧(Go.strKeys D0).Perm (kv.map fun p=>p.1.data.toList)∧Maps.size D0=kv.length:=by
 obtain⟨es,cl,i,f,j,o,k⟩:=h;have g:es.toList.length=kv.length:=by
  have:=congrArg List.length f;simpa[encK] using this
 have d:∀ x∈es.toList,∃ kl,keyOf Tryz.prog 9 x.key=some kl∧WideElems.rd Tryz.prog 9 oneR x=some (kl,.lit (.bool true)):=fun x a=>by
  obtain⟨kl,c⟩:=j (x.key,x.val) (by rw[←f];exact List.mem_map.2 ⟨x,a,rfl⟩);exact⟨kl,c,by unfold WideElems.rd;rw[c];rfl⟩
 refine⟨_,⟨es,cl,i,⟨?_,k,fun x a=>?_⟩,?_,rfl⟩,?_,?_⟩
 ·have:es.toList.length=es.size:=Array.length_toList;unfold maxLen;omega
 ·obtain⟨kl,_,h⟩:=d x a;exact⟨_,h⟩
 ·have:es.toList.length=es.size:=Array.length_toList;omega
 ·have m:(es.toList.map (WideElems.rg Tryz.prog 9 oneR)).map (fun p=>Go.strOf p.1)=kv.map fun p=>p.1.data.toList:=by
   have e:kv.map (fun p=>p.1.data.toList)=(encK kv).map (fun p=>match p.1 with | .string s=>s.data.toList | _=>[]):=by simp[encK]
   rw[e,←f,List.map_map,List.map_map];apply List.map_congr_left;intro x a;obtain⟨kl,c,l⟩:=d x a;simp only[Function.comp,WideElems.rg_of l];obtain⟨s,n,rfl,_⟩:=WideMaps.string_of_keyOf Tryz.underlying9 c;rw[n];rfl
  show((es.toList.map (WideElems.rg Tryz.prog 9 oneR)).foldr DataW.insert []).map (fun p=>Go.strOf p.1) |>.Perm _
  rw[←m];exact(WideShapes.sorted_perm _).map _
 ·show((es.toList.map (WideElems.rg Tryz.prog 9 oneR)).foldr DataW.insert []).length=_;rw[(WideShapes.sorted_perm _).length_eq,List.length_map,g]
theorem hZa (kb:Nat) (w:World):Calls Tryz.prog 303 #[.map (some kb)] w fun e w'=>e=.returned (.func (.func 320) #[] #[.pointer (some ⟨w.heap.size,0,none⟩)])∧w'=w.alloc (.cells #[.map (some kb)] 163):=Tryz.maps_Keys_303 (some kb) w
theorem hWm (kb:Nat) (kv:Kvs) (k:kv.length≤1000) (w:World) (h:MpK 9 w kb (encK kv)) :
  Calls Tryz.prog 302 #[.func (.func 320) #[] #[.pointer (some ⟨w.heap.size,0,none⟩)]] (w.alloc (.cells #[.map (some kb)] 163)) fun e w'=>∃ v,e=.returned v ∧
   w'.ownsRow w.heap.size 9 1 v kv.length ((sortK kv).map encStr)∧Below w.heap.size w w':=by
 obtain⟨D0,i,d,f⟩:=h.owns k;refine(Tryz.slices_Sorted_302_303 kb 1000 D0 oneR w i (by rw[f];unfold maxLen;omega) (by rw[f];omega)).mono ?_;rintro e w' ⟨v,ss,rfl,g,a,_,j⟩;have b:Below w.heap.size w (w.alloc (.cells #[.map (some kb)] 163)):=(Below.refl _ _).alloc (Nat.le_refl _) _;have c:ss.length=kv.length:=by rw[g.length_eq,d.length_eq,List.length_map]
 refine⟨v,rfl,?_,b.trans (j.mono b.size)⟩;rw[Go.mergeSort_of_perm (g.trans d),c] at a;exact ownsRow_base_a a (by simp)
def Real64 (x:Nat):Prop:=canon x=x∧x<18446744073709551616
theorem Real64.zero:Real64 0:=⟨by kernel_rfl,by decide⟩
theorem Real64.canon {x:Nat} (h:x<18446744073709551616):Real64 (canon x):=⟨hDm x,hE7 h⟩
def KvOk (kv:Kvs):Prop:=∀ p∈kv,Real64 p.2∧1≤p.1.size∧p.1.size≤16
theorem hXg {kv:Kvs} (h:KvOk kv) {s:ByteArray} {x:Nat} (e:getK kv s=some x):Real64 x:=by
 obtain⟨l1,l2,a,_⟩:=hBh e;exact(h (s,x) (by rw[a];simp)).1
theorem hE4 {kv:Kvs} (h:KvOk kv) {s:ByteArray} {x:Nat} (d:Real64 x) (b:1≤s.size) (c:s.size≤16):KvOk (setK kv s x):=by
 intro p a;cases e:getK kv s with
 |none=>
  rw[(hCu e).2] at a;rcases List.mem_append.1 a with a | a
  ·exact h p a
  ·cases List.mem_singleton.1 a;exact⟨d,b,c⟩
 |some y=>
  obtain⟨l1,l2,e1,e2,_⟩:=hBh e;rw[e2] at a;rcases List.mem_append.1 a with a | a
  ·exact h p (by rw[e1];simp[a])
  ·rcases List.mem_cons.1 a with rfl | a
   ·exact⟨d,b,c⟩
   ·exact h p (by rw[e1];simp[a])
theorem hXb {kv:Kvs} (h:KvOk kv) {s:ByteArray}:KvOk (delK kv s):=by
 intro p a;cases e:getK kv s with
 |none=>
  have:∀ (l:Kvs),getK l s=none→delK l s=l:=by
   intro l;induction l with
   |nil=>intro _;rfl
   |cons q l ih=>
    intro b;unfold getK at b;split at b
    ·cases b
    ·rename_i c;unfold delK;rw[if_neg c,ih b]
  rw[this kv e] at a;exact h p a
 |some y=>
  obtain⟨l1,l2,e1,_,e3⟩:=hBh e;rw[e3] at a;refine h p ?_;rw[e1];rcases List.mem_append.1 a with a | a
  ·simp[a]
  ·simp[a]
theorem hYs {kv:Kvs} (h:KvOk kv) {q:Rq} (a:q.Ok):KvOk (apK kv q).1∧(apK kv q).2.1≤8∧Real64 (apK kv q).2.2:=by
 have hc:=Real64.canon a.lt;unfold apK;cases e:getK kv q.key with
 |none=>
  simp only;split
  ·exact⟨hE4 h hc a.z1 a.z2,by simp,hc⟩
  ·exact⟨h,by simp,Real64.zero⟩
 |some x=>
  have b:=hXg h e;have c:Real64 (addF x q.real):=⟨hP6 _ _,hWv b.2 a.lt⟩;have d:Real64 (mostF x q.real):=⟨hOy _ _,hVt b.2 a.lt⟩;simp only;split
  ·exact⟨hE4 h hc a.z1 a.z2,by simp,hc⟩
  ·split
   ·exact⟨hE4 h c a.z1 a.z2,by simp,c⟩
   ·split
    ·exact⟨hE4 h d a.z1 a.z2,by simp,d⟩
    ·split
     ·exact⟨hXb h,by simp,b⟩
     ·exact⟨hE4 h b a.z1 a.z2,by simp,b⟩
def ROk (rho:Nat→Rq):Prop:=∀ n,1≤n→n≤8→(rho n).Ok∧(rho n).st=n
theorem hCb {rho:Nat→Rq} (a:ROk rho):∀ n,n≤8→KvOk (hist rho n).1∧(hist rho n).2.1≤8∧Real64 (hist rho n).2.2
 |0,_=>⟨fun p c=>(by simp[hist] at c),by simp[hist],Real64.zero⟩
 |n+1,h=>by
  obtain⟨b,_⟩:=hCb a n (by omega);exact hYs b (a (n+1) (by omega) h).1
def keysL (kv:Kvs) (ks:List (List UInt8)):List UInt8:=ks.flatMap fun k=>txL (bs k)++be8 (canon ((getK kv (bs k)).getD 0))
theorem hQs (kv:Kvs) (ks:List (List UInt8)) (k:Nat) (h:k<ks.length):keysL kv (ks.take (k+1))=keysL kv (ks.take k)++(txL (bs (ks.getD k []))++be8 (canon ((getK kv (bs (ks.getD k []))).getD 0))):=by
 rw[List.take_succ_eq_append_getElem h,List.getD_eq_getElem?_getD,List.getElem?_eq_getElem h];unfold keysL;rw[List.flatMap_append];simp
def cliL (d code real:Nat):Nat→List UInt8
 |0=>[]
 |k+1=>cliL d code real k++(if k=0 then be4 d++txL (resT code real) else be4 0++txL (resT 0 0))
theorem hC0 (code real:Nat):(resT code real).size=9:=by simp[resT,hA3,hCt,beL]
theorem hD9 (d code real:Nat):∀ k,(cliL d code real k).length=15*k
 |0=>rfl
 |k+1=>by
  unfold cliL;rw[List.length_append,hD9 d code real k];split
  ·rw[List.length_append,hBb,hC0];simp[be4];omega
  ·rw[List.length_append,hBb,hC0];simp[be4];omega
theorem hAv (e:Nat):(confT e).size=8:=by simp[confT,hA3,confL,beL]
def headLL (e d n:Nat):List UInt8:=beL 1 76++txL (confT e)++beL 1 4++memL 4++be4 d++beL 1 n
theorem hDa (e d n:Nat):(headLL e d n).length=21:=by simp[headLL,hBb,hAv,beL,be4,memL]
noncomputable def ledL (rho:Nat→Rq) (e d:Nat):List UInt8:=
 headLL e d (hist rho d).1.length++keysL (hist rho d).1 (sortK (hist rho d).1)++cliL d (hist rho d).2.1 (hist rho d).2.2 8
noncomputable def ledT (rho:Nat→Rq) (e d:Nat):ByteArray:=bs (ledL rho e d)
theorem hDs (kv:Kvs):∀ (ks:List (List UInt8)) (h:∀ k∈ks,k.length≤16),(keysL kv ks).length≤26*ks.length
 |[],_=>by simp[keysL]
 |k::ks,h=>by
  have a:=hDs kv ks (fun x b=>h x (List.mem_cons_of_mem _ b));have c:=h k (List.mem_cons_self ..);unfold keysL at a ⊢;rw[List.flatMap_cons,List.length_append,List.length_append,hBb,hA3,hCt,List.length_cons];omega
theorem hDt {kv:Kvs} {k:List UInt8} (h:k∈sortK kv):∃ p∈kv,p.1.data.toList=k:=by
 unfold sortK at h;rw[List.mem_mergeSort] at h;exact List.mem_map.1 h
theorem hKt {kv:Kvs} (h:KvOk kv) (g:(kv.map Prod.fst).Nodup) {k:List UInt8} (f:k∈sortK kv):∃ x,getK kv (bs k)=some x∧Real64 x∧1≤k.length∧k.length≤16:=by
 obtain⟨p,a,rfl⟩:=hDt f;have e:getK kv (bs p.1.data.toList)=some p.2:=by
  rw[hIl];exact hFb g (by simpa using a)
 obtain⟨b,c,d⟩:=h p a;exact⟨p.2,e,b,by rw[hBd];exact c,by rw[hBd];exact d⟩
theorem hQr {l m:Kvs} (b:l.Perm m) (a:(l.map Prod.fst).Nodup) (ks:List (List UInt8)):keysL l ks=keysL m ks:=by
 unfold keysL
 congr 1
 funext k
 rw[hF6 b a]
def backK (kv:Kvs) (ks:List (List UInt8)):Kvs:=ks.map fun k=>(bs k,(getK kv (bs k)).getD 0)
theorem hIk {kv:Kvs} (d:(kv.map Prod.fst).Nodup):(backK kv (sortK kv)).Perm kv:=by
 have b:(sortK kv).Perm (kv.map fun p=>p.1.data.toList):=List.mergeSort_perm _ _;have a:=b.map (fun k=>(bs k,(getK kv (bs k)).getD 0));rw[List.map_map] at a;have c:kv.map ((fun k=>(bs k,(getK kv (bs k)).getD 0)) ∘ fun p=>p.1.data.toList)=kv:=by
  conv=>rhs;rw[←List.map_id kv]
  apply List.map_congr_left;intro p e;simp only[Function.comp,id];rw[hIl,hFb d (show(p.1,p.2)∈kv from e)];rfl
 rw[c] at a;exact a
theorem hPe {kv:Kvs} (b:(kv.map Prod.fst).Nodup):((sortK kv).map bs).Nodup:=by
 have a:=((hIk b).map Prod.fst).nodup_iff.2 b;unfold backK at a;rw[List.map_map] at a;exact a
theorem hP9 (kv:Kvs) (ks:List (List UInt8)) (k:Nat) (h:k<ks.length):backK kv (ks.take (k+1))=backK kv (ks.take k)++[(bs (ks.getD k []),(getK kv (bs (ks.getD k []))).getD 0)]:=by
 rw[List.take_succ_eq_append_getElem h,List.getD_eq_getElem?_getD,List.getElem?_eq_getElem h];unfold backK;rw[List.map_append];rfl
theorem hOh {kv:Kvs} {ks:List (List UInt8)} (c:(ks.map bs).Nodup) (k:Nat) (h:k<ks.length):getK (backK kv (ks.take k)) (bs (ks.getD k []))=none:=by
 cases e:getK (backK kv (ks.take k)) (bs (ks.getD k [])) with
 |none=>rfl
 |some x=>
  exfalso
  obtain⟨l1,l2,e1,_⟩:=hBh e;have b:(bs (ks.getD k []),x)∈backK kv (ks.take k):=by rw[e1];simp
  obtain⟨y,d,e2⟩:=List.mem_map.1 b;injection e2 with e2 _;obtain⟨j,a,rfl⟩:=List.getElem_of_mem d;rw[List.length_take] at a;rw[List.getElem_take,List.getD_eq_getElem?_getD,List.getElem?_eq_getElem h] at e2;have f:=(List.getElem?_inj (i:=j) (j:=k) (by rw[List.length_map];omega) c).1 (by
   rw[List.getElem?_map,List.getElem?_map,List.getElem?_eq_getElem (by omega),List.getElem?_eq_getElem h];exact congrArg some e2)
  omega
def Lst {α:Type} (P:α→List Value→Prop):List α→List Value→Prop
 |[],xs=>xs=[]
 |a::l,xs=>∃ h t,xs=h++t∧P a h∧Lst P l t
theorem Lst.app {α:Type} {P:α→List Value→Prop}:∀ {l m:List α} {xs ys:List Value},Lst P l xs→Lst P m ys→Lst P (l++m) (xs++ys)
 |[],m,xs,ys,h,k=>by cases h;exact k
 |a::l,m,xs,ys,h,k=>by
  obtain⟨u,t,rfl,b,c⟩:=h;exact⟨u,t++ys,by rw[List.append_assoc],b,Lst.app c k⟩
theorem Lst.one {α:Type} {P:α→List Value→Prop} {a:α} {h:List Value} (k:P a h):Lst P [a] h:=⟨h,[],by simp,k,rfl⟩
theorem Lst.imp {α:Type} {P R:α→List Value→Prop} (h:∀ a u,P a u→R a u):∀ {l:List α} {xs:List Value},Lst P l xs→Lst R l xs
 |[],xs,k=>k
 |a::l,xs,⟨u,t,e,k1,k2⟩=>⟨u,t,e,h a u k1,Lst.imp h k2⟩
theorem Lst.len {α:Type} {P:α→List Value→Prop} (n:Nat) (b:∀ a u,P a u→u.length=n):∀ {l:List α} {xs:List Value},Lst P l xs→xs.length=l.length*n
 |[],xs,k=>by cases k;simp
 |a::l,xs,⟨u,t,e,k1,k2⟩=>by
  have:=Lst.len n b k2;rw[e,List.length_append,b a u k1,this,List.length_cons,Nat.succ_mul,Nat.add_comm]
theorem Lst.get {α:Type} {P:α→List Value→Prop} (n:Nat) (b:∀ a u,P a u→u.length=n):∀ {l:List α} {xs:List Value},Lst P l xs→∀ k (g:k<l.length),∃ u,P l[k] u∧∀ j,j<n→xs[k*n+j]?=u[j]?
 |[],xs,k,i,hi=>by simp at hi
 |a::l,xs,⟨u,t,e,k1,k2⟩,0,hi=>⟨u,k1,fun j c=>by rw[e,Nat.zero_mul,Nat.zero_add,List.getElem?_append_left (by rw[b a u k1];exact c)]⟩
 |a::l,xs,⟨u,t,e,k1,k2⟩,i+1,hi=>by
  obtain⟨v,d,f⟩:=Lst.get n b k2 i (by simpa using hi);refine⟨v,d,fun j c=>?_⟩;rw[e,List.getElem?_append_right (by rw[b a u k1,Nat.succ_mul];omega),b a u k1,Nat.succ_mul,←f j c]
  congr 1
  omega
theorem Lst.tail {α:Type} {P:α→List Value→Prop} (n:Nat) (d:∀ a u,P a u→u.length=n) {a:α} {l:List α} {xs:List Value} (h:Lst P (a::l) xs):Lst P l (xs.drop n):=by
 obtain⟨u,t,rfl,b,c⟩:=h;rw[←d a u b,List.drop_left];exact c
structure FM where
 kind:Nat
 e:Nat
 v:Nat
 s:Nat
 cl:Nat
 q:Rq
 code:Nat
 real:Nat
 text:ByteArray
 next:Bool
 sigs:List St
 chs:List (Nat×Nat×ByteArray)
 links:Option (List Nat)
structure Sls where
 A1:Option Addr
 c1:Nat
 A2:Option Addr
 c2:Nat
 A3:Option Addr
 c3:Nat
 A4:Option Addr
 c4:Nat
def zeroRq:Rq:=⟨0,0,⟨#[]⟩,0⟩
def FM.cells (m:FM) (z:Sls):Array Value:=#[.int .i64 m.kind,.int .i64 m.e,.int .i64 m.v,.int .i64 m.s,
 .int .i64 m.cl,.int .i64 m.q.st,.int .i64 m.q.kind,.string m.q.key,.float .f64 m.q.real,.int .i64 0,
 .int .i64 m.code,.float .f64 m.real,.string m.text,
 .slice z.A1 (if m.next then 4 else 0) z.c1,.slice z.A2 m.sigs.length z.c2,.slice z.A3 m.chs.length z.c3,.slice z.A4 (if m.links.isSome then 1 else 0) z.c4]
def encCh (x:Nat×Nat×ByteArray):List Value:=[.int .i64 x.1,.int .i64 x.2.1,.slice none 0 0,.int .i64 x.1,.string x.2.2]
theorem hCh (x:Nat×Nat×ByteArray):(encCh x).length=5:=rfl
structure FM.At (w:World) (o:Tags) (m:FM) (z:Sls):Prop where
 next:if m.next then MemD w o z.A1 z.c1 else z.A1=none∧z.c1=0
 sigs:SlD encS w o z.A2 m.sigs.length z.c2 m.sigs
 chs:SlD encCh w o z.A3 m.chs.length z.c3 m.chs
 links:match m.links with
  |none=>z.A4=none∧z.c4=0
  |some bys=>LinkD w o z.A4 z.c4 bys
theorem FM.At.fix {P:Nat→Prop} {o o':Tags} {w w':World} {m:FM} {z:Sls} (h:m.At w o z) (f:Fix P o o' w w') (a:P 0):m.At w' o' z:=by
 refine⟨?_,h.sigs.fix f a,h.chs.fix f a,?_⟩
 ·have:=h.next;split
  ·rename_i b;rw[if_pos b] at this;exact this.fix f a
  ·rename_i b;rw[if_neg b] at this;exact this
 ·have:=h.links
  revert this
  cases m.links with
  |none=>exact id
  |some bys=>exact fun h=>h.fix f a
def MsgV (w:World) (o:Tags) (m:FM) (cs:List Value):Prop:=∃ z,cs=(m.cells z).toList∧m.At w o z
theorem MsgV.fix {P:Nat→Prop} {o o':Tags} {w w':World} {m:FM} {cs:List Value} (h:MsgV w o m cs) (f:Fix P o o' w w') (a:P 0):MsgV w' o' m cs:=by
 obtain⟨z,e,h⟩:=h;exact⟨z,e,h.fix f a⟩
theorem MsgV.len {w:World} {o:Tags} {m:FM} {cs:List Value} (h:MsgV w o m cs):cs.length=17:=by
 obtain⟨z,rfl,_⟩:=h;rfl
def chT (e v f:Nat):ByteArray:=bs (beL 1 86++beL 2 e++beL 1 f++beL 1 v++beL 1 0)
noncomputable def SMsg.fm (rho:Nat→Rq) (m:SMsg):FM:=
 match m.kind with
 |1=>⟨1,m.e,0,0,1,rho m.n,0,0,⟨#[]⟩,false,[(101,(rho m.n).t)],[],none⟩
 |2=>⟨2,m.e,m.v,m.n,1,rho m.n,0,0,⟨#[]⟩,false,[(101,(rho m.n).t)],[],none⟩
 |3=>⟨3,m.e,m.v,m.n,1,rho m.n,0,0,⟨#[]⟩,false,[((m.bys.headD 0:Nat),prepT m.e m.v m.n (rho m.n))],[],none⟩
 |4=>⟨4,m.e,m.v,m.n,1,rho m.n,0,0,⟨#[]⟩,false,[],[],none⟩
 |5=>⟨5,m.e,0,m.n,0,zeroRq,0,0,ledT rho (m.e+1) m.n,true,[((m.bys.headD 0:Nat),stateT m.n (ledT rho (m.e+1) m.n)),((m.bys.headD 0:Nat),confT (m.e+1))],[],none⟩
 |6=>⟨6,m.e,m.v,0,0,zeroRq,0,0,⟨#[]⟩,false,[],m.bys.map fun f=>(f,m.v,chT m.e m.v f),none⟩
 |7=>⟨7,m.e,m.v,0,0,zeroRq,0,0,⟨#[]⟩,false,[],m.bys.map fun f=>(f,m.v,chT m.e m.v f),none⟩
 |8=>⟨8,m.e,0,0,1,rho m.n,(hist rho m.n).2.1,(hist rho m.n).2.2,⟨#[]⟩,false,[],[],none⟩
 |9=>⟨9,m.e,0,0,0,zeroRq,0,0,⟨#[]⟩,false,[],[],none⟩
 |_=>⟨10,m.e,0,m.n,0,zeroRq,0,0,ledT rho 1 4,false,sgl m.bys (stateT 4 (ledT rho 1 4)),[],some m.bys⟩
def MpE (k:TypeId) (w:World) (b:Nat) (l1:List KV) (x v:Value) (l2:List KV) (born:Nat):Prop:=
 ∃ es clock,w.heap[b]?=some (.map es clock)∧es.toList.map (fun e=>(e.key,e.val))=l1++(x,v)::l2∧(∀ p∈l1++(x,v)::l2,∃ kl,keyOf Tryz.prog k p.1=some kl)∧((l1++(x,v)::l2).map Prod.fst).Nodup∧MapKept.Stamped es clock ∧
  ∃ e0,es[l1.length]?=some e0∧e0.born=born
theorem MpE.mp {k:TypeId} {w:World} {b:Nat} {l1:List KV} {x v:Value} {l2:List KV} {born:Nat} (h:MpE k w b l1 x v l2 born):MpK k w b (l1++(x,v)::l2):=by
 obtain⟨es,cl,a,c,d,e,f,_⟩:=h;exact⟨es,cl,a,c,d,e,f⟩
theorem MpE.move {k:TypeId} {w w':World} {b:Nat} {l1:List KV} {x v:Value} {l2:List KV} {born:Nat} (h:MpE k w b l1 x v l2 born) (d:w'.heap[b]?=w.heap[b]?):MpE k w' b l1 x v l2 born:=by
 obtain⟨es,cl,a,c⟩:=h;exact⟨es,cl,d.trans a,c⟩
theorem hTm {α:Type} (es:Array α) (j:Nat) (f:α→α) (h:∀ e,es[j]?=some e→f e=e):es.modify j f=es:=by
 apply Array.ext_getElem?;intro i;rw[Array.getElem?_modify];split
 ·rename_i hi;subst hi;cases he:es[j]? with
  |none=>rfl
  |some e=>rw[Option.map_some,h e he]
 ·rfl
theorem hFv {k:TypeId} {w:World} {t e:TypeId} {b:Nat} {l:List KV} (K:Maps.Keyed Tryz.prog k) (B:Tryz.prog.underlying t=some (.map k e)) {z:Value} (C:(zeroValue e).run Tryz.prog w=.ok z w) (h:MpK k w b l) {x:Value} {lx:Lit} (m:keyOf Tryz.prog k x=some lx) (i:∀ p∈l,p.1≠x) :
  ∃ w' born,(Instr.mapEntry t (.map (some b)) x).run Tryz.prog w=.ok (.tuple #[z,.int .i64 ((born:Nat):Int)]) w'∧MpE k w' b l x z [] born∧w.grownBy w' (some b):=by
 obtain⟨es,cl,g,f,n,r,q⟩:=h;have o:=(zL g);rcases MpK.find (w:=w) K f n m with⟨f1,_⟩ | ⟨j,l1,u,l2,_,f2,_⟩
 ·have y:l.length=es.size:=by rw[←f];simp
  refine⟨{ w with heap:=w.heap.setIfInBounds b (.map (es.push ⟨x,z,cl⟩) (cl+1)) },cl,?_,⟨es.push ⟨x,z,cl⟩,cl+1,by simp[o],by simp[f],?_,?_,?_,⟨x,z,cl⟩,by rw[y];simp,rfl⟩,hBn⟩
  ·simp[Instr.mapEntry,run_underlying B,MapKept.run_getObj_map g,K.check w _ m,f1,C,MapKept.run_setObj_map _ g,Result.andThen,goInt]
  ·intro p d;rcases List.mem_append.1 d with d | d
   ·exact n p d
   ·obtain rfl:=List.mem_singleton.1 d;exact⟨lx,m⟩
  ·rw[List.map_append,List.nodup_append];refine⟨r,by simp,fun a s c hc=>?_⟩;obtain⟨p,d,rfl⟩:=List.mem_map.1 s;simp at hc;rw[hc];exact i p d
  ·refine MapKept.stamped_push q (fun e v=>?_);exact i (e.key,e.val) (by rw[←f];exact List.mem_map.2 ⟨e,v,rfl⟩)
 ·exact absurd rfl (i (x,u) (by rw[f2];simp))
theorem hFw {k:TypeId} {w:World} {t e:TypeId} {b:Nat} {l1 l2:List KV} (K:Maps.Keyed Tryz.prog k) (r:Tryz.prog.underlying t=some (.map k e)) {x v:Value} (h:MpK k w b (l1++(x,v)::l2)) :
  ∃ w' born,(Instr.mapEntry t (.map (some b)) x).run Tryz.prog w=.ok (.tuple #[v,.int .i64 ((born:Nat):Int)]) w'∧MpE k w' b l1 x v l2 born∧w.grownBy w' (some b):=by
 obtain⟨es,cl,f,l,g,m,o⟩:=h;have n:=(zL f);obtain⟨lx,i⟩:=g (x,v) (by simp);rcases MpK.find (w:=w) K l g i with⟨_,f1⟩ | ⟨j,m1,u,m2,f1,f2,f3,f4,f5,_⟩
 ·exact absurd rfl (f1 (x,v) (by simp))
 ·obtain⟨rfl,rfl,rfl⟩:=hDo m f2;have p:((es[j]?).map (·.key)).getD x=x:=by rw[f4];rfl
  obtain⟨e0,a⟩:∃ e0,es[j]?=some e0:=by
   cases c:es[j]? with
   |none=>rw[c] at f4;cases f4
   |some e0=>exact⟨e0,rfl⟩
  have d:e0.key=x:=by rw[a] at f4;exact Option.some.inj f4
  have q:(es.modify j fun e=>{ e with key:=x })=es:=hTm es j _ (fun e c=>by rw[a] at c;cases c;rw[←d]);refine⟨{ w with heap:=w.heap.setIfInBounds b (.map (es.modify j fun e=>{ e with key:=x }) cl) },e0.born,?_,⟨es,cl,by rw[q];simp[n],l,g,m,o,e0,by rw[f3];exact a,rfl⟩,hBn⟩;have ks:=K.stays w i;simp only[Instr.mapEntry,run_underlying r,MapKept.run_getObj_map f,K.check w _ i,f1,Sem.run_bind,Result.andThen,p,ks,MapKept.run_setObj_map _ f,Sem.run_pure,a,d,Option.map_some,Option.getD_some,goInt]
theorem hCd {k:TypeId} {w:World} {t:TypeId} {b:Nat} {l1 l2:List KV} {x v:Value} {born:Nat} (h:MpE k w b l1 x v l2 born) (v':Value) :
  ∃ w',(Instr.entryStore t (.map (some b)) (.int .i64 born) v').run Tryz.prog w=.ok () w'∧MpK k w' b (l1++(x,v')::l2)∧w.grownBy w' (some b):=by
 obtain⟨es,cl,f,i,g,q,d,e0,c,rfl⟩:=h;have n:=(zL f);have j:es.findIdx? (fun e=>(e.born:Int) == (e0.born:Int))=some l1.length:=by
  rw[show es.findIdx? (fun e=>(e.born:Int) == (e0.born:Int))=es.toList.findIdx? (fun e=>(e.born:Int) == (e0.born:Int)) by cases es;simp];exact Go.WideElems.findIdx_born d.2.1 (by rw[Array.getElem?_toList];exact c)
 have m:l1.length<es.toList.length:=by
  have:=(zL c);simpa using this
 refine⟨{ w with heap:=w.heap.setIfInBounds b (.map (es.modify l1.length fun e=>{ e with val:=v' }) cl) },?_,⟨es.modify l1.length fun e=>{ e with val:=v' },cl,by simp[n],?_,?_,?_,?_⟩,hBn⟩
 ·simp[Instr.entryStore,MapKept.run_getObj_map f,Result.andThen,asInt,asIntOf,j,MapKept.run_setObj_map _ f]
 ·rw[Array.toList_modify,List.modify_eq_take_cons_drop m,List.map_append,List.map_cons,List.map_take,List.map_drop,i];have o:es.toList[l1.length].key=x:=by
   have h:=congrArg (fun l=>l[l1.length]?) i;simp only[List.getElem?_map,List.getElem?_append_right (Nat.le_refl _),Nat.sub_self,List.getElem?_cons_zero,List.getElem?_eq_getElem m,Option.map_some] at h;exact congrArg Prod.fst (Option.some.inj h)
  rw[o];simp
 ·intro p a;rcases List.mem_append.1 a with a | a
  ·exact g p (by simp[a])
  ·rcases List.mem_cons.1 a with rfl | a
   ·obtain⟨kl,r⟩:=g (x,v) (by simp);exact⟨kl,r⟩
   ·exact g p (by simp[a])
 ·simpa using q
 ·exact MapKept.stamped_modify d _ _ (fun _ _=>rfl) (fun e _ _=>rfl)
theorem hJj:laidOutB Tryz.prog=true:=by kernel_rfl
theorem hIe:∃ m,Tryz.prog.types.size=m+1:=⟨Tryz.prog.types.size - 1,by kernel_rfl⟩
theorem hBl:Maps.Keyed Tryz.prog 368:=Maps.Keyed.of_law (deep_law_laid hJj (m:=3) (by omega) (of_decide_eq_true (by kernel_rfl)) (by kernel_rfl) (by kernel_rfl))
theorem hC9:Maps.Keyed Tryz.prog 114:=Maps.Keyed.of_law (deep_law_laid hJj (m:=3) (by omega) (of_decide_eq_true (by kernel_rfl)) (by kernel_rfl) (by kernel_rfl))
theorem hDb:Maps.Keyed Tryz.prog 316:=Maps.Keyed.of_law (deep_law_laid hJj (m:=3) (by omega) (of_decide_eq_true (by kernel_rfl)) (by kernel_rfl) (by kernel_rfl))
theorem hWt (s c:ByteArray) (h:s.size≤maxLen) (hc:c.size≤maxLen):∃ kl,keyOf Tryz.prog 368 (.agg #[.string s,.string c])=some kl:=by
 refine⟨.string (keyBytes [.string s.data.toList,.string c.data.toList]),?_⟩;obtain⟨m,g⟩:=hIe;have e:Tryz.prog.keyType 368=true:=by kernel_rfl
 have a:Tryz.prog.cellsOf 368=2:=by kernel_rfl
 have d:Tryz.prog.cellsOf 9=1:=by kernel_rfl
 have b:=Tryz.underlying368;have f:=Tryz.underlying9;unfold keyOf;simp only[b];rw[if_pos (by simp[e,Value.formed,b,a]),g];unfold Program.keyLits;simp only[b,Value.cells];rw[if_pos ⟨by rw[a];rfl,by kernel_rfl⟩,List.mapM_cons,List.mapM_cons,List.mapM_nil];simp[d,Program.keyLits,f,h,hc]
theorem hYf (a:Int) (t:ByteArray) (i:(Lit.int .i64 a).wf=true) (k:t.size≤maxLen):∃ kl,keyOf Tryz.prog 114 (.agg #[.int .i64 a,.string t])=some kl:=by
 refine⟨.string (keyBytes [.int .i64 a,.string t.data.toList]),?_⟩;obtain⟨m,j⟩:=hIe;have f:Tryz.prog.keyType 114=true:=by kernel_rfl
 have b:Tryz.prog.cellsOf 114=2:=by kernel_rfl
 have e:Tryz.prog.cellsOf 9=1:=by kernel_rfl
 have d:Tryz.prog.cellsOf 3=1:=by kernel_rfl
 have c:=Tryz.underlying114;have h:=Tryz.underlying9;have g:=Tryz.underlying3;unfold keyOf;simp only[c];rw[if_pos (by simp[f,Value.formed,c,b]),j];unfold Program.keyLits;simp only[c,Value.cells];rw[if_pos ⟨by rw[b];rfl,by kernel_rfl⟩,List.mapM_cons,List.mapM_cons,List.mapM_nil];simp[e,d,Program.keyLits,h,g,i,k]
theorem hMt (a b:Int) (h:(Lit.int .i64 a).wf=true) (i:(Lit.int .i64 b).wf=true):∃ kl,keyOf Tryz.prog 316 (.agg #[.int .i64 a,.int .i64 b])=some kl:=by
 refine⟨.string (keyBytes [.int .i64 a,.int .i64 b]),?_⟩;obtain⟨m,j⟩:=hIe;have f:Tryz.prog.keyType 316=true:=by kernel_rfl
 have c:Tryz.prog.cellsOf 316=2:=by kernel_rfl
 have e:Tryz.prog.cellsOf 3=1:=by kernel_rfl
 have d:=Tryz.underlying316;have g:=Tryz.underlying3;unfold keyOf;simp only[d];rw[if_pos (by simp[f,Value.formed,d,c]),j];unfold Program.keyLits;simp only[d,Value.cells];rw[if_pos (by rw[c];rfl),show List.range 2=[0,1] from rfl,List.mapM_cons,List.mapM_cons,List.mapM_nil];simp[e,Program.keyLits,g,h,i]
end Go.Proofs.YtlibpcllceepkaaGreat
