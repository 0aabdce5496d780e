/- Joined texts of the claim. No condition. -/
import Derived.Test.YtlibpcllceepkaaGreatB23
import Derived.Test.YtlibpcllceepkaaGreatB19
import Derived.Test.YtlibpcllceepkaaGreatB18
namespace Go.Proofs.YtlibpcllceepkaaGreat
open Go.RowKit
set_option maxRecDepth 100000
set_option linter.unusedVariables false
set_option linter.unusedSimpArgs false
set_option maxHeartbeats 16000000
def msgC (k e v n a st kd:Int) (ky:ByteArray) (re:Nat) (f code:Int) (rl:Nat) (t:ByteArray) (x1 x2 x3 x4:Value):Array Value:=#[.int .i64 k,.int .i64 e,.int .i64 v,.int .i64 n,.int .i64 a,.int .i64 st,.int .i64 kd,.string ky,.float .f64 re,.int .i64 f,.int .i64 code,.float .f64 rl,.string t,x1,x2,x3,x4]
theorem hAd {k e v n a st kd:Int} {ky:ByteArray} {re:Nat} {f code:Int} {rl:Nat} {t:ByteArray} {x1 x2 x3 x4:Value} {w:World} {g:Nat} {T:TypeId} (h:w.heap[g]?=some (.cells (msgC k e v n a st kd ky re f code rl t x1 x2 x3 x4) T (0,0))) :
  (w.cell? ⟨g,0,none⟩=some (.int .i64 k)∧w.cell? ⟨g,1,none⟩=some (.int .i64 e)∧w.cell? ⟨g,2,none⟩=some (.int .i64 v)∧w.cell? ⟨g,3,none⟩=some (.int .i64 n)) ∧
  (w.cell? ⟨g,4,none⟩=some (.int .i64 a)∧w.cell? ⟨g,5,none⟩=some (.int .i64 st)∧w.cell? ⟨g,6,none⟩=some (.int .i64 kd)∧w.cell? ⟨g,7,none⟩=some (.string ky)∧w.cell? ⟨g,8,none⟩=some (.float .f64 re)∧w.cell? ⟨g,9,none⟩=some (.int .i64 f)) ∧
  (w.cell? ⟨g,10,none⟩=some (.int .i64 code)∧w.cell? ⟨g,11,none⟩=some (.float .f64 rl)∧w.cell? ⟨g,12,none⟩=some (.string t)) ∧
  (w.cell? ⟨g,13,none⟩=some x1∧w.cell? ⟨g,14,none⟩=some x2∧w.cell? ⟨g,15,none⟩=some x3∧w.cell? ⟨g,16,none⟩=some x4):=by
 have c:=fun k=>zR w g k _ _ _ h;exact⟨⟨c 0,c 1,c 2,c 3⟩,⟨c 4,c 5,c 6,c 7,c 8,c 9⟩,⟨c 10,c 11,c 12⟩,⟨c 13,c 14,c 15,c 16⟩⟩
theorem hGj (kd e v n:Nat) (q:Rq) (p:q.Ok) (z:e≤60) (C:v≤15) (y:4*e<n) (a:n≤4*e+4) (code:Int) (rl:Nat) (t:ByteArray) (x1 x3 x4:Value) (A:Option Addr) (m c:Nat) (B:kd=2∧m=1∨kd=3∧m=1∨kd=4∧m=0) (w:World) :
  Calls Tryz.prog 113 #[.agg (msgC kd e v n 1 q.st q.kind q.key q.real 0 code rl t x1 (.slice A m c) x3 x4)] w fun r w'=>r=.returned (.bool true)∧Below w.heap.size w w':=by
 have k:=(Below.refl w.heap.size w).alloc (Nat.le_refl _) (.cells (msgC kd e v n 1 q.st q.kind q.key q.real 0 code rl t x1 (.slice A m c) x3 x4) 48);have l:=heap_alloc_new w (.cells (msgC kd e v n 1 q.st q.kind q.key q.real 0 code rl t x1 (.slice A m c) x3 x4) 48);have g:=zH k;have u:=zH l;have zz:=hAd l;have x:=fun w=>zH (of_u e n z y a w);have h:=fun w=>zH (hW3 q p w);have j:=fun w=>zH (hEx q p w);have q0:(0:Int)≤(v:Int):=by omega
 have q1:(v:Int)≤15:=by omega
 clear k l y a z C p;unfold Rq.v at h j;unfold msgC at g ⊢;rcases B with⟨rfl,rfl⟩ | ⟨rfl,rfl⟩ | ⟨rfl,rfl⟩;all_goals
  go_enter Tryz.func113,Tryz.ntmps113;go_wp2_with fail;refine(x _).o.mono ?_;rintro r wx ⟨rfl,rfl⟩;go_wp2_with fail;refine(h _).o.mono ?_;rintro r w2 ⟨rfl,d⟩;have b:=zH (zB g.o d);have a:=(d.block _ (zL u.o)).trans u.o;have i:=zH a;clear zz d;have zz:=hAd a;clear a;go_wp2_with fail
 ·refine(j _).o.mono ?_;rintro r w3 ⟨rfl,f⟩;have s:=zH (zB b.o f);have a:=(f.block _ (zL i.o)).trans i.o;clear zz f;have zz:=hAd a;clear a;go_wp2_with fail;go_ret;exact⟨rfl,s.o⟩
 ·go_ret;exact⟨rfl,b.o⟩
 ·go_ret;exact⟨rfl,b.o⟩
theorem hN0 (kd e v:Nat) (Ha:1≤v) (hv:v≤15) (bys:List Nat) (m:Nat) (Y:kd=6∧m=1∨kd=7∧m=3) (d:∀ f∈bys,f<4) (L:bys.Pairwise (· < ·)) (o:Tags) (a st k2:Int) (ky:ByteArray) (re:Nat) (f0 n0 code:Int) (rl:Nat) (t:ByteArray) (x1 x2 x4:Value) (A:Option Addr) (c:Nat) (w:World) (M:SlD encCh w o A m c (bys.map fun f=>(f,v,chT e v f))) :
  Calls Tryz.prog 114 #[.agg (msgC kd e v n0 a st k2 ky re f0 code rl t x1 x2 (.slice A m c) x4)] w fun r w'=>r=.returned (.bool true)∧Below w.heap.size w w':=by
 have I:=(Below.refl w.heap.size w).alloc (Nat.le_refl _) (.cells (msgC kd e v n0 a st k2 ky re f0 code rl t x1 x2 (.slice A m c) x4) 48);have F:=heap_alloc_new w (.cells (msgC kd e v n0 a st k2 ky re f0 code rl t x1 x2 (.slice A m c) x4) 48);have Hf:bys.length=m:=by have:=M.1;simpa using this
 have hm:1≤m∧m≤3:=by omega
 obtain⟨sb,so,rfl,K,_,x⟩:=M.at 5 hCh (0,0,ByteArray.empty) (by omega);have P:=zH (fun(k:Nat) (X:k<m) (j:Nat) (u:Value) (V:(encCh (bys.getD k 0,v,chT e v (bys.getD k 0)))[j]?=some u)=>x k j u X (by have:=(List.getElem?_eq_some_iff.1 V).1;exact this) (by
  rw[show(bys.map fun f=>(f,v,chT e v f)).getD k (0,0,ByteArray.empty)=(bys.getD k 0,v,chT e v (bys.getD k 0)) by
   rw[List.getD_eq_getElem?_getD,List.getElem?_map,List.getD_eq_getElem?_getD,List.getElem?_eq_getElem (by omega)];rfl]
  exact V))
 have s:=zH K;have b:=zH I;have C:=zH F;have G:=zH (fun(i:Nat) (hi:i+1<m)=>(show bys.getD i 0<bys.getD (i+1) 0 by
  rw[List.getD_eq_getElem?_getD,List.getElem?_eq_getElem (by omega),List.getD_eq_getElem?_getD,List.getElem?_eq_getElem (by omega)];exact List.pairwise_iff_getElem.1 L i (i+1) (by omega) (by omega) (by omega)))
 have R:=zH (fun(i:Nat) (hi:i<m)=>(show bys.getD i 0<4 by
  rw[List.getD_eq_getElem?_getD,List.getElem?_eq_getElem (by omega)];exact d _ (List.getElem_mem _)))
 have Q:=fun f w hf=>zH (hR7 e f v hf Ha hv (chT e v f) w);have zz:=hAd F;have qm:(m:Int)≤3:=by omega
 have qm1:(1:Int)≤(m:Int):=by omega
 have S:zI (w.heap.size<(w.alloc (.cells (msgC kd e v n0 a st k2 ky re f0 code rl t x1 x2 (.slice (some ⟨sb,so,none⟩) m c) x4) 48)).heap.size):=zH (zL F);clear I F M x K L d hm;unfold msgC at b C S ⊢;rcases Y with⟨rfl,J⟩ | ⟨rfl,J⟩;all_goals
  try have qy:¬ (m:Int) > 1:=by omega
  clear J;go_enter Tryz.func114,Tryz.ntmps114;go_wp2_with fail;obtain⟨g,U⟩:=zN (w.heap.size);rw[←U] at C ⊢;clear zz U;generalize World.alloc w _=w1 at b C S ⊢;go_loopw [4,28] (fun s4 j wr=>∃ (k:Nat) (p:Int),k≤m∧s4=.int .i64 p∧j=.int .i64 k∧zI (∀ i,i<m→k≤i→p<(bys.getD i 0:Nat))∧zI (Below w1.heap.size w1 wr)) (fun _ j _=>m - (intOf j).toNat)
  case atStart=>exact⟨0,-1,by omega,rfl,rfl,zH (fun i hi _=>by omega),zH (Below.refl _ _)⟩
  case round=>
   obtain⟨k,p,X,rfl,rfl,Z,q⟩:=hrel;have q4:(0:Int)≤(k:Int):=by omega
   have z:=(q.o.block _ (zL C.o)).trans C.o;by_cases hk3:k<m
   ·have q3:(k:Int)<(m:Int):=by omega
    have q5:=Z.o k hk3 (Nat.le_refl _);have n:=P.o k hk3;have l:=b.o.trans (q.o.mono b.o.size);have v0:wr.cell? ⟨sb,so+k*5,none⟩=_:=(l.cell (p:=⟨sb,so+(k*5+0),none⟩) s.o).trans (n 0 _ rfl);have v1:wr.cell? ⟨sb,so+k*5+1,none⟩=_:=(l.cell (p:=⟨sb,so+(k*5+1),none⟩) s.o).trans (n 1 _ rfl);have v2:wr.cell? ⟨sb,so+k*5+2,none⟩=_:=(l.cell (p:=⟨sb,so+(k*5+2),none⟩) s.o).trans (n 2 _ rfl);have v3:wr.cell? ⟨sb,so+k*5+3,none⟩=_:=(l.cell (p:=⟨sb,so+(k*5+3),none⟩) s.o).trans (n 3 _ rfl);have v4:wr.cell? ⟨sb,so+k*5+4,none⟩=_:=(l.cell (p:=⟨sb,so+(k*5+4),none⟩) s.o).trans (n 4 _ rfl);have B:=fun W=>Q (bys.getD k 0) W (R.o k hk3);have E:∀ i,i<m→k+1≤i→((bys.getD k 0:Nat):Int)<(bys.getD i 0:Nat):=fun i hi h=>by
     have u0:=fun h=>G.o 0 h;have u1:=fun h=>G.o 1 h;obtain rfl | rfl:k=0∨k=1:=by omega
     ·obtain rfl | rfl:i=1∨i=2:=by omega
      ·exact Int.ofNat_lt.2 (u0 (by omega))
      ·exact Int.ofNat_lt.2 (Nat.lt_trans (u0 (by omega)) (u1 (by omega)))
     ·obtain rfl:i=2:=by omega
      exact Int.ofNat_lt.2 (u1 (by omega))
    generalize bys.getD k 0=f at q5 B E v0 v1 v2 v3 v4;generalize chT e v f=tt at B v0 v1 v2 v3 v4;have q6:¬ (f:Int)≤p:=by omega
    have T:=zH E;have HA:=zH (q.o.alloc q.o.size (.cells #[.int .i64 f,.int .i64 v,.slice none 0 0,.int .i64 f,.string tt] 208));have y:=heap_alloc_new wr (.cells #[.int .i64 f,.int .i64 v,.slice none 0 0,.int .i64 f,.string tt] 208);have D:=(heap_alloc_old wr (.cells #[.int .i64 f,.int .i64 v,.slice none 0 0,.int .i64 f,.string tt] 208) (zL z)).trans z;have O:=zH y;have y0:=(zR _ wr.heap.size 0 _ _ _ y).trans (show _=some (Value.int .i64 f) from rfl);have y1:=(zR _ wr.heap.size 1 _ _ _ y).trans (show _=some (Value.int .i64 v) from rfl);have y2:=(zR _ wr.heap.size 2 _ _ _ y).trans (show _=some (Value.slice none 0 0) from rfl);have y3:=(zR _ wr.heap.size 3 _ _ _ y).trans (show _=some (Value.int .i64 f) from rfl);have y4:=(zR _ wr.heap.size 4 _ _ _ y).trans (show _=some (Value.string tt) from rfl);have m1:=zQ _ g 1 (.int .i64 e) D;have m2:=zQ _ g 2 (.int .i64 v) D;clear z D y E l n q Z;go_wp2_with fail;refine(B _).o.mono ?_;rintro r w4 ⟨rfl,d⟩;have N:=zH (zB HA.o d);have H:=(d.block _ (zL O.o)).trans O.o;clear y0 y1 y2 y3 y4 m1 m2 v0 v1 v2 v3 v4 d B;have y0:=(zR _ wr.heap.size 0 _ _ _ H).trans (show _=some (Value.int .i64 f) from rfl);clear H;go_wp2_with fail;exact⟨⟨k+1,_,by omega,rfl,by go_num,T,N⟩,by simp[intOf];omega⟩
   ·have q3:¬ (k:Int)<(m:Int):=by omega
    clear hk3 z;go_wp2_with fail;go_ret;exact⟨rfl,b.o.trans (q.o.mono b.o.size)⟩
theorem hVo (bys:List Nat) (b:∀ f∈bys,f<4) (Z:bys.length≤4) (o:Tags) (k v n a st k2:Int) (ky:ByteArray) (re:Nat) (f0 code:Int) (rl:Nat) (t:ByteArray) (x1 x2 x3:Value) (A:Option Addr) (c:Nat) (w:World) (Y:LinkD w o A c bys) :
  Calls Tryz.prog 115 #[.agg (msgC k 1 v n a st k2 ky re f0 code rl t x1 x2 x3 (.slice A 1 c))] w fun r w'=>r=.returned (.bool true)∧Below w.heap.size w w':=by
 obtain⟨Hc,Hf,sb,so,A',c',B,m,d,rfl,I,_,w0',w1',w2',H,C,hq⟩:=Y;have F:=(Below.refl w.heap.size w).alloc (Nat.le_refl _) (.cells (msgC k 1 v n a st k2 ky re f0 code rl t x1 x2 x3 (.slice (some ⟨sb,so,none⟩) 1 c)) 48);have L:=heap_alloc_new w (.cells (msgC k 1 v n a st k2 ky re f0 code rl t x1 x2 x3 (.slice (some ⟨sb,so,none⟩) 1 c)) 48);have e:=zH F;have x:=zH L;have zz:=hAd L;have Q:=fun W h=>zH (right4 1 (by omega) A' c' W h);have S:=fun W h=>zH (hGp (sgl bys (confT 1)) (fun s hs=>by
  obtain⟨f,X,rfl⟩:=List.mem_map.1 hs;have:=b f X;dsimp only;omega) o B m d (by have:=C.1;simp[sgl] at this;omega) W h)
 have V:=zH H.1;have R:=zH C;have K:=zH (And.intro w0' (And.intro w1' w2'));have y:=zH I;clear F L H C hq b Z w0' w1' w2' I;unfold msgC at e x ⊢;go_enter Tryz.func115,Tryz.ntmps115;go_wp2_with fail;obtain⟨g,T⟩:=zN (w.heap.size);rw[←T] at x ⊢;clear zz T;generalize World.alloc w _=w1 at e x ⊢;go_loopw [8] (fun j wr=>∃ i:Nat,i≤1∧j=.int .i64 i∧zI (Below w1.heap.size w1 wr)) (fun j _=>1 - (intOf j).toNat)
 case atStart=>exact⟨0,by omega,rfl,zH (Below.refl _ _)⟩
 case round=>
  obtain⟨i,hi,rfl,q⟩:=hrel;have u:=(q.o.block _ (zL x.o)).trans x.o;by_cases hi1:i<1
  ·obtain rfl:i=0:=by omega
   have l:=e.o.trans (q.o.mono e.o.size);have v0:=(l.cell (p:=⟨sb,so,none⟩) y.o).trans K.o.1;have v1:=(l.cell (p:=⟨sb,so+1,none⟩) y.o).trans K.o.2.1;have v2:=(l.cell (p:=⟨sb,so+2,none⟩) y.o).trans K.o.2.2;have D:=zH (l.alloc l.size (.cells #[.int .i64 1,.slice A' 4 c',.slice B m d] 120));have U:=zH (q.o.alloc q.o.size (.cells #[.int .i64 1,.slice A' 4 c',.slice B m d] 120));have z:=heap_alloc_new wr (.cells #[.int .i64 1,.slice A' 4 c',.slice B m d] 120);have O:=zH z;have y0:=(zR _ wr.heap.size 0 _ _ _ z).trans (show _=some (Value.int .i64 1) from rfl);have y1:=(zR _ wr.heap.size 1 _ _ _ z).trans (show _=some (Value.slice A' 4 c') from rfl);have y2:=(zR _ wr.heap.size 2 _ _ _ z).trans (show _=some (Value.slice B m d) from rfl);clear u l q z hi;go_wp2_with fail;refine(Q _ (V.o.keep D.o)).o.mono ?_;rintro r w4 ⟨rfl,b⟩;have M:=zH (zB U.o b);have J:=zH (zB D.o b);have E:=(b.block _ (zL O.o)).trans O.o;clear y0 y1 y2 v0 v1 v2 b;have y2:=(zR _ wr.heap.size 2 _ _ _ E).trans (show _=some (Value.slice B m d) from rfl);clear E;go_wp2_with fail;refine(S _ (R.o.fix (P:=fun _=>True) (Fix.same J.o) trivial)).o.mono ?_;rintro r w5 ⟨rfl,G⟩;have N:=zH (zB M.o G);clear y2 G;go_wp2_with fail;exact⟨⟨1,by omega,rfl,N⟩,by simp[intOf]⟩
  ·obtain rfl:i=1:=by omega
   clear hi1 hi;have m1:=zQ _ g 1 (.int .i64 1) u;have m16:=zQ _ g 16 (.slice (some ⟨sb,so,none⟩) 1 c) u;clear u;go_wp2_with fail;go_ret;exact⟨rfl,e.o.trans (q.o.mono e.o.size)⟩
theorem hB8 (kd:Int) (A1 A2 A3 A4:Option Addr) (c1 c2 c3 c4:Nat) (w:World) :
  Calls Tryz.prog 116 #[.agg (msgC kd 0 0 0 0 0 0 ⟨#[]⟩ 0 0 0 0 ⟨#[]⟩ (.slice A1 0 c1) (.slice A2 0 c2) (.slice A3 0 c3) (.slice A4 0 c4))] w fun r w'=>r=.returned (.bool true)∧Below w.heap.size w w':=by
 have e:=(Below.refl w.heap.size w).alloc (Nat.le_refl _) (.cells (msgC kd 0 0 0 0 0 0 ⟨#[]⟩ 0 0 0 0 ⟨#[]⟩ (.slice A1 0 c1) (.slice A2 0 c2) (.slice A3 0 c3) (.slice A4 0 c4)) 243);have g:=heap_alloc_new w (.cells (msgC kd 0 0 0 0 0 0 ⟨#[]⟩ 0 0 0 0 ⟨#[]⟩ (.slice A1 0 c1) (.slice A2 0 c2) (.slice A3 0 c3) (.slice A4 0 c4)) 243);have b:=zH e;have i:=zH g;have d:=fun w=>zH (hKb w);have c:=fun w=>zH (hD8 0 w);have f:canon 0=0:=by decide +kernel
 rw[f] at c;have zz:=hAd g;have b1:bits .or .i64 0 0=0:=by decide
 clear e g f;unfold nullV at d;unfold msgC at b ⊢;go_enter Tryz.func116,Tryz.ntmps116;go_wp2_with fail;refine(d _).o.mono ?_;rintro r w2 ⟨rfl,a⟩;have h:=zH (zB b.o a);have j:=(a.block _ (zL i.o)).trans i.o;clear zz a;have zz:=hAd j;clear j;go_wp2_with fail;refine(c _).o.mono ?_;rintro r wx ⟨rfl,rfl⟩;go_wp2_with fail;go_ret;exact⟨rfl,h.o⟩
theorem hJ1 (e f v:Nat) (M:e≤59) (N:f<4) (J:1≤v) (K:v≤15) (A:Option Addr) (c:Nat) (w:World) (H:Mem w A c) :
  Calls Tryz.prog 254 #[.agg #[.int .i64 e,.slice A 4 c],.agg #[.int .i64 f,.int .i64 v,.slice none 0 0,.int .i64 f,.string (chT e v f)]] w fun r w'=>r=.returned (.int .i64 0)∧Below w.heap.size w w':=by
 obtain⟨t,I⟩:=zN (chT e v f);have u:=fun W=>zH (hLy e f v (by omega) (by omega) J K (f:Int) t W);rw[←I] at u ⊢;have E:=fun W h=>zH (right4 e (by omega) A c W h);have D:=fun W h=>zH (has4 (f:Int) (e:Int) A c W h);rw[decide_eq_true ⟨by omega,by omega⟩] at D;obtain⟨v1,v2,v3,v4⟩:=hAp w (.cells #[.int .i64 e,.slice A 4 c] 31) (.cells #[.int .i64 f,.int .i64 v,.slice none 0 0,.int .i64 f,.string t] 208);have B:=zH (H.keep v4);have l:=zH v4;have m:=zH v1;have F:=zH v2;have c0:=fun W (G:Below ((w.alloc (.cells #[.int .i64 e,.slice A 4 c] 31)).alloc (.cells #[.int .i64 f,.int .i64 v,.slice none 0 0,.int .i64 f,.string t] 208)).heap.size ((w.alloc (.cells #[.int .i64 e,.slice A 4 c] 31)).alloc (.cells #[.int .i64 f,.int .i64 v,.slice none 0 0,.int .i64 f,.string t] 208)) W)=>show W.heap[w.heap.size]?=some (.cells #[.int .i64 e,.slice A 4 c] 31 (0,0))∧W.heap[w.heap.size+1]?=some (.cells #[.int .i64 f,.int .i64 v,.slice none 0 0,.int .i64 f,.string t] 208 (0,0)) from⟨(G.block _ (by simp;omega)).trans v1,(G.block _ (by simp)).trans v2⟩;have a:=zH c0;have z:=v3;clear v1 v2 v3 v4 H I c0;have a0:=(zR _ w.heap.size 0 _ _ _ m.o).trans (show _=some (Value.int .i64 e) from rfl);have a1:=(zR _ w.heap.size 1 _ _ _ m.o).trans (show _=some (Value.slice A 4 c) from rfl);go_enter Tryz.func254,Tryz.ntmps254;go_wp2_with fail;obtain⟨g,C⟩:=zN (w.heap.size);have L:=zH C;rw[←C] at a z ⊢;clear C a0 a1 m F;generalize World.alloc _ _=w2 at a B l z ⊢;refine(E _ B.o).o.mono ?_;rintro q w3 ⟨rfl,n⟩;have p:=zH n;have b:=a.o w3 n;have d0:=zQ w3 (g+1) 0 (.int .i64 f) b.2;have d1:=zQ w3 (g+1) 1 (.int .i64 v) b.2;have d2:=zQ w3 (g+1) 2 (.slice none 0 0) b.2;have d3:=zQ w3 (g+1) 3 (.int .i64 f) b.2;have d4:=zQ w3 (g+1) 4 (.string t) b.2;have a0:=zQ w3 g 0 (.int .i64 e) b.1;have a1:=zQ w3 g 1 (.slice A 4 c) b.1;clear n b;go_wp2_with fail;refine(u _).o.mono ?_;rintro q w4 ⟨rfl,x⟩;have k:=zH (zB p.o x);have d:=a.o w4 k.o;clear a0 a1 d0 d1 d2 d3 d4 x p;have d0:=zQ w4 (g+1) 0 (.int .i64 f) d.2;have d1:=zQ w4 (g+1) 1 (.int .i64 v) d.2;have d2:=zQ w4 (g+1) 2 (.slice none 0 0) d.2;have d3:=zQ w4 (g+1) 3 (.int .i64 f) d.2;have d4:=zQ w4 (g+1) 4 (.string t) d.2;have a0:=zQ w4 g 0 (.int .i64 e) d.1;have a1:=zQ w4 g 1 (.slice A 4 c) d.1;clear d;go_wp2_with fail;refine(D _ (B.o.keep k.o)).o.mono ?_;rintro q w5 ⟨rfl,y⟩;have s:=zH (zB k.o y);have i:=a.o w5 s.o;clear a0 a1 d0 d1 d2 d3 d4 y k;have d0:=zQ w5 (g+1) 0 (.int .i64 f) i.2;have d1:=zQ w5 (g+1) 1 (.int .i64 v) i.2;have d2:=zQ w5 (g+1) 2 (.slice none 0 0) i.2;have d3:=zQ w5 (g+1) 3 (.int .i64 f) i.2;have d4:=zQ w5 (g+1) 4 (.string t) i.2;have a0:=zQ w5 g 0 (.int .i64 e) i.1;have a1:=zQ w5 g 1 (.slice A 4 c) i.1;clear i;go_wp2_with fail;go_loopw [32] (fun j wr=>j=.int .i64 0∧w5=wr) (fun _ _=>0)
 case atStart=>exact⟨rfl,rfl⟩
 case round=>
  obtain⟨rfl,rfl⟩:=hrel;go_wp2_with fail;go_ret;exact⟨rfl,l.o.trans (s.o.mono l.o.size)⟩
def chsL (e v:Nat) (bys:List Nat):List (Nat×Nat×ByteArray):=bys.map fun f=>(f,v,chT e v f)
theorem hJf:(Tryz.prog.info? 208).map (·.size)=some 5:=by kernel_rfl
theorem hR9 (e v:Nat) (he:e≤59) (Hk:1≤v) (hv:v≤15) (A:Option Addr) (c:Nat) (bys:List Nat) (hl:bys.length=3) (n:∀ f∈bys,f<4) (Q:∀ i,i+1<3→bys.getD i 0<bys.getD (i+1) 0) (A3:Option Addr) (c3:Nat) (o:Tags) (w:World) (hm:Mem w A c) (hs:SlD encCh w o A3 3 c3 (chsL e v bys)) :
  Calls Tryz.prog 286 #[.agg #[.int .i64 e,.slice A 4 c],.int .i64 v,.slice A3 3 c3] w fun r w'=>r=.returned (.int .i64 0)∧Below w.heap.size w w':=by
 obtain⟨cb,off,rfl,Hc,_,z⟩:=hs.at 5 hCh (0,0,⟨#[]⟩) (by omega);have P:∀ k,k<3→∀ W,Below w.heap.size w W→W.rangeAt cb (off+k*5) [.int .i64 ((bys.getD k 0:Nat):Int),.int .i64 v,.slice none 0 0,.int .i64 ((bys.getD k 0:Nat):Int),.string (chT e v (bys.getD k 0))]:=fun k D W hb j u hj=>by
  have Hh:j<5:=(List.getElem?_eq_some_iff.1 hj).1;have hd:(chsL e v bys).getD k (0,0,⟨#[]⟩)=(bys.getD k 0,v,chT e v (bys.getD k 0)):=by
   unfold chsL;rw[List.getD_eq_getElem?_getD,List.getElem?_map,List.getD_eq_getElem?_getD,List.getElem?_eq_getElem (by omega)];rfl
  have:=z k j u D Hh (by rw[hd];exact hj);rw[Nat.add_assoc];exact(hb.cell (p:=⟨cb,off+(k*5+j),none⟩) Hc).trans this
 have O:∀ k,k<3→bys.getD k 0<4:=fun k D=>by
  rw[List.getD_eq_getElem?_getD,List.getElem?_eq_getElem (by omega)];exact n _ (List.getElem_mem _)
 have M:=zH P;have Y:=zH O;have N:=zH Q;have G:=(Below.refl w.heap.size w).alloc (Nat.le_refl _) (.cells #[.int .i64 e,.slice A 4 c] 31);have J:=heap_alloc_new w (.cells #[.int .i64 e,.slice A 4 c] 31);have a0:=(zR _ w.heap.size 0 _ _ _ J).trans (show _=some (Value.int .i64 e) from rfl);have a1:=(zR _ w.heap.size 1 _ _ _ J).trans (show _=some (Value.slice A 4 c) from rfl);have T:=zH G;have S:=zH J;have R:=zH (hm.keep G);have Hb:=fun W h=>zH (right4 e (by omega) A c W h);have X:=fun f W hf h=>zH (hJ1 e f v he hf Hk hv A c W h);have q1:(1:Int)≤(v:Int):=by omega
 have q2:(v:Int)≤15:=by omega
 clear z hs P O Q G J hm n;go_enter Tryz.func286,Tryz.ntmps286;go_wp2_with fail;refine(Hb _ R.o).o.mono ?_;rintro q w2 ⟨rfl,y⟩;have B:=zH (zB T.o y);have U:=zH y;have E:=zH ((y.block _ (zL S.o)).trans S.o);have Z:=zH (R.o.keep y);obtain⟨g,hg⟩:=zN (w.heap.size);rw[←hg] at E ⊢;clear hg y a0 a1 S R U;go_wp2_with fail;go_loopw [7,26] (fun s7 j wr=>∃ k:Nat,k≤3∧s7=.bool true∧j=.int .i64 k∧zI (Below w2.heap.size w2 wr)) (fun _ j _=>3 - (intOf j).toNat)
 case atStart=>exact⟨0,by omega,rfl,rfl,zH (Below.refl _ _)⟩
 case round=>
  obtain⟨k,D,rfl,rfl,a⟩:=hrel;by_cases hk3:k<3
  ·have q3:(k:Int)<3:=by omega
   have q4:(0:Int)≤(k:Int):=by omega
   have b:=M.o k hk3 wr (B.o.trans (a.o.mono B.o.size));generalize bys.getD k 0=f at b;generalize chT e v f=t at b;have F:=zH b;have I:=zH (a.o.alloc a.o.size (.cells #[.int .i64 f,.int .i64 v,.slice none 0 0,.int .i64 f,.string t] 208));have y1:=(zR _ wr.heap.size 1 _ _ _ (heap_alloc_new wr (.cells #[.int .i64 f,.int .i64 v,.slice none 0 0,.int .i64 f,.string t] 208))).trans (show _=some (Value.int .i64 v) from rfl);clear b;go_wp2_with (refine wpList_load_mid (by rfl) 208 (.tmp 28) (by rfl) cb (off+k*5) (by rfl) [.int .i64 f,.int .i64 v,.slice none 0 0,.int .i64 f,.string t] _ F.o Tryz.underlying208 rfl hJf ?_);exact⟨⟨k+1,by omega,rfl,by go_num,I⟩,by simp[intOf];omega⟩
  ·have q3:¬ (k:Int)<3:=by omega
   clear hk3 D;have s:=zH (B.o.trans (a.o.mono B.o.size));have x:=zH ((a.o.block _ (zL E.o)).trans E.o);have K:=zH (Z.o.keep a.o);clear a;go_wp2_with fail;generalize wr=w3 at s x K ⊢;go_loopw [10,11,42] (fun s10 s11 j wr=>∃ (k:Nat) (p:Int),k≤3∧s10=.bool true∧s11=.int .i64 p∧j=.int .i64 k∧zI (∀ i,i<3→k≤i→p<(bys.getD i 0:Nat))∧zI (Below w3.heap.size w3 wr)) (fun _ _ j _=>3 - (intOf j).toNat)
   case atStart=>exact⟨0,-1,by omega,rfl,rfl,rfl,zH (fun i hi _=>by omega),zH (Below.refl _ _)⟩
   case round=>
    obtain⟨k,p,D,rfl,rfl,rfl,hp,a⟩:=hrel;by_cases hk3:k<3
    ·have q3:(k:Int)<3:=by omega
     have q4:(0:Int)≤(k:Int):=by omega
     have b:=M.o k hk3 wr (s.o.trans (a.o.mono s.o.size));have q5:=hp.o k hk3 (Nat.le_refl _);have C:=X (bys.getD k 0) (wr.alloc (.cells #[.int .i64 ((bys.getD k 0:Nat):Int),.int .i64 v,.slice none 0 0,.int .i64 ((bys.getD k 0:Nat):Int),.string (chT e v (bys.getD k 0))] 208)) (Y.o k hk3) (K.o.keep (a.o.alloc a.o.size _));have H:∀ i,i<3→k+1≤i→((bys.getD k 0:Nat):Int)<(bys.getD i 0:Nat):=fun i hi h=>by
      have u0:=N.o 0 (by omega);have u1:=N.o 1 (by omega);obtain rfl | rfl | rfl:k=0∨k=1∨k=2:=by omega
      ·obtain rfl | rfl:i=1∨i=2:=by omega
       ·exact Int.ofNat_lt.2 u0
       ·exact Int.ofNat_lt.2 (Nat.lt_trans u0 u1)
      ·obtain rfl:i=2:=by omega
       exact Int.ofNat_lt.2 u1
      ·omega
     generalize bys.getD k 0=f at b q5 C H;generalize chT e v f=t at b C;have F:=zH b;have Ha:=zH H;have I:=zH (a.o.alloc a.o.size (.cells #[.int .i64 f,.int .i64 v,.slice none 0 0,.int .i64 f,.string t] 208));have l:=heap_alloc_new wr (.cells #[.int .i64 f,.int .i64 v,.slice none 0 0,.int .i64 f,.string t] 208);have d:=(I.o.block _ (zL x.o)).trans x.o;have L:=zH l;have y0:=(zR _ wr.heap.size 0 _ _ _ l).trans (show _=some (Value.int .i64 f) from rfl);have y1:=(zR _ wr.heap.size 1 _ _ _ l).trans (show _=some (Value.int .i64 v) from rfl);have y2:=(zR _ wr.heap.size 2 _ _ _ l).trans (show _=some (Value.slice none 0 0) from rfl);have y3:=(zR _ wr.heap.size 3 _ _ _ l).trans (show _=some (Value.int .i64 f) from rfl);have y4:=(zR _ wr.heap.size 4 _ _ _ l).trans (show _=some (Value.string t) from rfl);have a0:=zQ _ g 0 (.int .i64 e) d;have a1:=zQ _ g 1 (.slice A 4 c) d;clear b H l d;go_wp2_with (refine wpList_load_mid (by rfl) 208 (.tmp 44) (by rfl) cb (off+k*5) (by rfl) [.int .i64 f,.int .i64 v,.slice none 0 0,.int .i64 f,.string t] _ F.o Tryz.underlying208 rfl hJf ?_);refine C.o.mono ?_;rintro q w4 ⟨rfl,n⟩;have V:=zH (zB I.o n);have m:=(n.block _ (zL L.o)).trans L.o;clear y0 y1 y2 y3 y4 a0 a1 n C;have y0:=(zR _ wr.heap.size 0 _ _ _ m).trans (show _=some (Value.int .i64 f) from rfl);have y1:=(zR _ wr.heap.size 1 _ _ _ m).trans (show _=some (Value.int .i64 v) from rfl);have y2:=(zR _ wr.heap.size 2 _ _ _ m).trans (show _=some (Value.slice none 0 0) from rfl);have y3:=(zR _ wr.heap.size 3 _ _ _ m).trans (show _=some (Value.int .i64 f) from rfl);have y4:=(zR _ wr.heap.size 4 _ _ _ m).trans (show _=some (Value.string t) from rfl);clear m;go_wp2_with fail;exact⟨⟨k+1,_,by omega,rfl,rfl,by go_num,Ha,V⟩,by simp[intOf];omega⟩
    ·have q3:¬ (k:Int)<3:=by omega
     clear hk3 D;have d:=(a.o.block _ (zL x.o)).trans x.o;have a0:=zQ _ g 0 (.int .i64 e) d;have a1:=zQ _ g 1 (.slice A 4 c) d;clear d;go_wp2_with fail;refine(quorum4 _).mono ?_;rintro q w4 ⟨rfl,rfl⟩;go_wp2_with fail;go_ret;exact⟨rfl,s.o.trans (a.o.mono s.o.size)⟩
theorem hHc (w:World) (X:Array Value) (T:TypeId):(w.alloc (.cells X T)).there w.heap.size 0 X.size:=fun j a=>⟨by
 rw[zR _ _ _ _ _ _ (heap_alloc_new w (.cells X T)),Array.getElem?_eq_getElem (by omega)];rfl,frozen_of_row _ _ _ _ _ (heap_alloc_new w (.cells X T))⟩
theorem hHb {B:Nat} {w0 w:World} (h:Below B w0 w) (a:B≤w.heap.size) (X Y:Array Value) (T:TypeId):Below B w0 ((w.alloc (.cells X T)).setCells w.heap.size 0 Y.toList):=by
 obtain⟨_,_,_,b⟩:=hAx Y.toList 0 (w.alloc (.cells X T)) w.heap.size X T (heap_alloc_new w (.cells X T));exact(h.alloc a _).trans (hAj b (by simp;omega) a)
def zCert:List Value:=[.int .i64 0,.int .i64 0,.int .i64 0,.int .i64 0,.int .i64 0,.string ⟨#[]⟩,.float .f64 0,.int .i64 0,.slice none 0 0]
def zCerts:Array Value:=#[.int .i64 0,.int .i64 0,.int .i64 0,.int .i64 0,.int .i64 0,.string ⟨#[]⟩,.float .f64 0,.int .i64 0,.slice none 0 0,.int .i64 0,.int .i64 0,.int .i64 0,.int .i64 0,.int .i64 0,.string ⟨#[]⟩,.float .f64 0,.int .i64 0,.slice none 0 0,.int .i64 0,.int .i64 0,.int .i64 0,.int .i64 0,.int .i64 0,.string ⟨#[]⟩,.float .f64 0,.int .i64 0,.slice none 0 0,.int .i64 0,.int .i64 0,.int .i64 0,.int .i64 0,.int .i64 0,.string ⟨#[]⟩,.float .f64 0,.int .i64 0,.slice none 0 0]
def zBools:Array Value:=#[.bool false,.bool false,.bool false,.bool false]
theorem hRp:zCerts.all (·.oneCell')=true:=by simp[zCerts,Value.oneCell']
theorem hRo:zBools.all (·.oneCell')=true:=by simp[zBools,Value.oneCell']
theorem hXk:(Tryz.prog.info? 36).map (fun i=>(i.zero,i.size,i.bytes))=some (some (.agg #[.int .i64 0,.int .i64 0,.int .i64 0,.string ⟨#[]⟩,.float .f64 0,.int .i64 0]),6,56):=by kernel_rfl
theorem mk0 (w:World):∃ x:Obj,(Instr.makeSlice 61 (.int .i64 0) (.int .i64 0)).run Tryz.prog w=.ok (.slice (some ⟨w.heap.size,0,none⟩) 0 0) (w.alloc x):=by
 obtain⟨i0,a,b,d,c⟩:=info_parts hXk;have:=run_make (P:=Tryz.prog) w 61 36 i0 _ Tryz.underlying61 a b .i64 .i64 0 0 (by omega) (by omega) (by rw[c];omega) (by omega);exact⟨_,this⟩
theorem hLx (e v:Nat) (X:e≤59) (T:1≤v) (Z:v≤15) (A:Option Addr) (c:Nat) (bys:List Nat) (Y:bys.length=3) (z:∀ f∈bys,f<4) (C:∀ i,i+1<3→bys.getD i 0<bys.getD (i+1) 0) (A3:Option Addr) (c3:Nat) (o:Tags) (w:World) (R:Mem w A c) (H:SlD encCh w o A3 3 c3 (chsL e v bys)) :
  Calls Tryz.prog 256 #[.agg #[.int .i64 e,.slice A 4 c],.int .i64 v,.slice A3 3 c3] w fun r w'=>(∃ Q qc,r=.returned (.tuple #[.slice Q 0 qc,.int .i64 0]))∧Below w.heap.size w w':=by
 have d:=(Below.refl w.heap.size w).alloc (Nat.le_refl _) (.cells #[.int .i64 e,.slice A 4 c] 31);have F:=heap_alloc_new w (.cells #[.int .i64 e,.slice A 4 c] 31);have s:=zH (hR9 e v X T Z A c bys Y z C A3 c3 o _ (R.keep d) (H.fix (P:=fun _=>True) (Fix.same (o:=o) d) trivial));obtain⟨cb,off,rfl,M,_,a⟩:=H.at 5 hCh (0,0,⟨#[]⟩) (by omega);have B:∀ k,k<3→∀ W,Below w.heap.size w W→W.rangeAt cb (off+k*5) [.int .i64 ((bys.getD k 0:Nat):Int),.int .i64 v,.slice none 0 0,.int .i64 ((bys.getD k 0:Nat):Int),.string (chT e v (bys.getD k 0))]:=fun k G W U j u N=>by
  have O:j<5:=(List.getElem?_eq_some_iff.1 N).1;have V:(chsL e v bys).getD k (0,0,⟨#[]⟩)=(bys.getD k 0,v,chT e v (bys.getD k 0)):=by
   unfold chsL;rw[List.getD_eq_getElem?_getD,List.getElem?_map,List.getD_eq_getElem?_getD,List.getElem?_eq_getElem (by omega)];rfl
  have:=a k j u G O (by rw[V];exact N);rw[Nat.add_assoc];exact(U.cell (p:=⟨cb,off+(k*5+j),none⟩) M).trans this
 have L:=zH B;have a0:=(zR _ w.heap.size 0 _ _ _ F).trans (show _=some (Value.int .i64 e) from rfl);have a1:=(zR _ w.heap.size 1 _ _ _ F).trans (show _=some (Value.slice A 4 c) from rfl);have l:=zH d;clear a H B d F R z C;go_enter Tryz.func256,Tryz.ntmps256;go_wp2_with fail;refine s.o.mono ?_;rintro q w2 ⟨rfl,y⟩;have h:=zH (zB l.o y);clear y a0 a1 s;go_wp2_with (first
  |(refine wpList_store_mid (by rfl) 377 (.tmp 9) (.tmp 27) (by rfl) w2.heap.size 0 zCerts (by rfl) (by rfl) (hHc w2 zCerts _) (by show _=some 36;kernel_rfl) hRp ?_;generalize D:World.setCells _ _ _ _=w3;have m:zI (Below w.heap.size w w3):=(by rw[←D];exact zH (hHb h.o h.o.size _ zCerts 377));clear D)
  |(refine wpList_store_mid (by rfl) 378 (.tmp 10) (.tmp 28) (by rfl) w3.heap.size 0 zBools (by rfl) (by rfl) (hHc w3 zBools _) (by show _=some 4;kernel_rfl) hRo ?_;generalize E:World.setCells _ _ _ _=w4;have J:zI (Below w.heap.size w w4):=(by rw[←E];exact zH (hHb m.o m.o.size _ zBools 378));clear E))
 clear h l;go_loopw [11,31] (fun s11 j wr=>∃ k:Nat,k≤3∧s11=.int .i64 0∧j=.int .i64 k∧zI (Below w.heap.size w wr)) (fun _ j _=>3 - (intOf j).toNat)
 case atStart=>exact⟨0,by omega,rfl,rfl,J⟩
 case round=>
  obtain⟨k,G,rfl,rfl,b⟩:=hrel;by_cases hk3:k<3
  ·have q3:(k:Int)<3:=by omega
   have q4:(0:Int)≤(k:Int):=by omega
   have g:=L.o k hk3 wr b.o;generalize bys.getD k 0=f at g;generalize chT e v f=t at g;have K:=zH g;have I:=zH (b.o.alloc b.o.size (.cells #[.int .i64 f,.int .i64 v,.slice none 0 0,.int .i64 f,.string t] 208));have y2:=(zR _ wr.heap.size 2 _ _ _ (heap_alloc_new wr (.cells #[.int .i64 f,.int .i64 v,.slice none 0 0,.int .i64 f,.string t] 208))).trans (show _=some (Value.slice none 0 0) from rfl);clear g;go_wp2_with (refine wpList_load_mid (by rfl) 208 (.tmp 33) (by rfl) cb (off+k*5) (by rfl) [.int .i64 f,.int .i64 v,.slice none 0 0,.int .i64 f,.string t] _ K.o Tryz.underlying208 rfl hJf ?_);clear y2;generalize World.alloc _ _=w5 at I ⊢;go_loopw [11,38] (fun s11 j wr=>s11=.int .i64 0∧j=.int .i64 0∧w5=wr) (fun _ _ _=>0)
   case atStart=>exact⟨rfl,rfl,rfl⟩
   case round=>
    obtain⟨rfl,rfl,rfl⟩:=hrel;go_wp2_with fail;exact⟨⟨k+1,by omega,rfl,by go_num,I⟩,by simp[intOf];omega⟩
  ·have q3:¬ (k:Int)<3:=by omega
   clear hk3 G;obtain⟨x,S⟩:=mk0 wr;have n:=zH (b.o.alloc b.o.size x);generalize wr.alloc x=w5 at S n;go_wp2_with fail;go_loopw [17,78] (fun s17 j wr=>(∃ Q qc,s17=.slice Q 0 qc)∧j=.int .i64 0∧w5=wr) (fun _ _ _=>0)
   case atStart=>exact⟨⟨_,_,rfl⟩,rfl,rfl⟩
   case round=>
    obtain⟨⟨Q,qc,rfl⟩,rfl,rfl⟩:=hrel;go_wp2_with fail;go_ret2;exact⟨⟨Q,qc,rfl⟩,n.o⟩
end Go.Proofs.YtlibpcllceepkaaGreat
