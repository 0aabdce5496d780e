/- Joined texts of the claim. No condition. -/
import Derived.Test.YtlibpcllceepkaaGreatB22
import Derived.Test.YtlibpcllceepkaaGreatB07
namespace Go.Proofs.YtlibpcllceepkaaGreat
open Go.RowKit
set_option maxRecDepth 100000
set_option linter.unusedVariables false
set_option linter.unusedSimpArgs false
set_option maxHeartbeats 16000000
theorem SlD.of_rowW {α:Type} {enc:α→List Value} {w:World} {o:Tags} {g n:Nat} {T:TypeId} {l:List α} (h:w.heap[g]?=some (.cells (l.flatMap enc).toArray T (0,0))) (d:l.length=n) (c:n≤maxLen) (a:o g=0):SlD enc w o (some ⟨g,0,none⟩) n n l:=by
 refine⟨d,Nat.le_refl _,c,(fun e=>by cases e),fun ad e=>?_⟩;cases e;refine⟨g,0,rfl,(zL h),a,fun j u b=>?_⟩;rw[Nat.zero_add,zR w g j _ _ _ h];simpa using b
theorem of_u (e n:Nat) (c:e≤60) (a:4*e<n) (b:n≤4*e+4) (w:World):Calls Tryz.prog 144 #[.int .i64 e,.int .i64 n] w fun r w'=>r=.returned (.bool true)∧w=w':=by
 have q0:(0:Int)≤(e:Int):=by omega
 have q1:(e:Int)≤60:=by omega
 have q2:(n:Int) > (e:Int)*4:=by omega
 have q3:(n:Int)≤(e:Int)*4+4:=by omega
 have q4:(e:Int)*4<(n:Int):=by omega
 go_enter Tryz.func144,Tryz.ntmps144;go_wp2_with fail;go_ret;exact⟨rfl,rfl⟩
theorem hW3 (q:Rq) (g:q.Ok) (w:World):Calls Tryz.prog 145 #[.agg q.v] w fun r w'=>r=.returned (.bool true)∧Below w.heap.size w w':=by
 have c:=(Below.refl w.heap.size w).alloc (Nat.le_refl _) (.cells q.v 36);have a:=zH c;have b:=fun w=>zH (hCr q g w);obtain⟨z0,z1,z2,z3,z4,z5⟩:=hAf (show(w.alloc (.cells q.v 36)).heap[w.heap.size]?=some (.cells (six 1 q.st q.kind q.key q.real 0) 36 (0,0)) from heap_alloc_new w _);clear c g;unfold Rq.v at b a z0 z1 z2 z3 z4 z5 ⊢;go_enter Tryz.func145,Tryz.ntmps145;go_wp2_with fail;refine(b _).o.mono ?_;rintro e w2 ⟨rfl,d⟩;have f:=zH (zB a.o d);clear d z0 z1 z2 z3 z4 z5;go_wp2_with fail;go_ret;exact⟨rfl,f.o⟩
theorem hGp (l:List St) (n:∀ s∈l,0≤s.1∧s.1<200) (o:Tags) (A:Option Addr) (m c:Nat) (z:m≤16) (w:World) (g:SlD encS w o A m c l) :
  Calls Tryz.prog 112 #[.slice A m c] w fun r w'=>r=.returned (.bool true)∧Below w.heap.size w w':=by
 have v:=g.1;have q:=zH g;have h:=zH n;have qm:(m:Int)≤16:=by omega
 have qm0:(0:Int)≤(m:Int):=by omega
 clear g n;go_enter Tryz.func112,Tryz.ntmps112;go_wp2_with fail;go_loopw [7] (fun j wr=>∃ k:Nat,k≤m∧j=.int .i64 k∧zI (Below w.heap.size w wr)) (fun j _=>m - (intOf j).toNat)
 case atStart=>exact⟨0,by omega,rfl,zH (Below.refl _ _)⟩
 case round=>
  obtain⟨k,y,rfl,b⟩:=hrel;have q0:(0:Int)≤(k:Int):=by omega
  by_cases hk4:k<m
  ·have q1:(k:Int)<(m:Int):=by omega
   obtain⟨sb,so,u,f,_,a⟩:=q.o.at 2 hBf (0,ByteArray.empty) (by omega);subst u;have d:l.getD k (0,ByteArray.empty)∈l:=by
    rw[List.getD_eq_getElem?_getD,List.getElem?_eq_getElem (by omega)];exact List.getElem_mem _
   have e:=h.o _ d;have v0:wr.cell? ⟨sb,so+k*2,none⟩=_:=(b.o.cell (p:=⟨sb,so+(k*2+0),none⟩) f).trans (a k 0 _ hk4 (by omega) rfl);have v1:wr.cell? ⟨sb,so+k*2+1,none⟩=_:=(b.o.cell (p:=⟨sb,so+(k*2+1),none⟩) f).trans (a k 1 _ hk4 (by omega) rfl);generalize l.getD k (0,ByteArray.empty)=s at e v0 v1;obtain⟨x,t⟩:=s;dsimp only at e v0 v1;obtain⟨x0,x1⟩:=e;have i:=zH (b.o.alloc b.o.size (.cells #[.int .i64 x,.string t] 114));have c1:=(zR _ wr.heap.size 0 _ _ _ (heap_alloc_new wr (.cells #[.int .i64 x,.string t] 114))).trans (show _=some (Value.int .i64 x) from rfl);clear a d;go_wp2_with fail;exact⟨⟨k+1,by omega,by go_num,i⟩,by simp[intOf];omega⟩
  ·obtain rfl:k=m:=by omega
   have q1:¬ (k:Int)<(k:Int):=by omega
   clear hk4;go_wp2_with fail;go_ret;exact⟨rfl,b.o⟩
theorem hR7 (e f v:Nat) (C:f<4) (B:1≤v) (D:v≤15) (t:ByteArray) (w:World) :
  Calls Tryz.prog 146 #[.int .i64 e,.agg #[.int .i64 f,.int .i64 v,.slice none 0 0,.int .i64 f,.string t]] w fun r w'=>r=.returned (.bool true)∧Below w.heap.size w w':=by
 have m:=(Below.refl w.heap.size w).alloc (Nat.le_refl _) (.cells #[.int .i64 f,.int .i64 v,.slice none 0 0,.int .i64 f,.string t] 208);have b:=heap_alloc_new w (.cells #[.int .i64 f,.int .i64 v,.slice none 0 0,.int .i64 f,.string t] 208);have h:=zH m;have x:=zH b;have q0:(0:Int)≤(f:Int):=by omega
 have q1:(f:Int)<4:=by omega
 have q2:(1:Int)≤(v:Int):=by omega
 have q3:(v:Int)≤15:=by omega
 have z0:=(zR _ w.heap.size 0 _ _ _ b).trans (show _=some (Value.int .i64 f) from rfl);have z1:=(zR _ w.heap.size 1 _ _ _ b).trans (show _=some (Value.int .i64 v) from rfl);have z2:=(zR _ w.heap.size 2 _ _ _ b).trans (show _=some (Value.slice none 0 0) from rfl);have z3:=(zR _ w.heap.size 3 _ _ _ b).trans (show _=some (Value.int .i64 f) from rfl);have z4:=(zR _ w.heap.size 4 _ _ _ b).trans (show _=some (Value.string t) from rfl);obtain⟨w1,c⟩:=zN (w.alloc (.cells #[.int .i64 f,.int .i64 v,.slice none 0 0,.int .i64 f,.string t] 208));have d:=(Below.refl w1.heap.size w1).alloc (Nat.le_refl _) (.cells #[.int .i64 f,.string t] 114);have k:=heap_alloc_new w1 (.cells #[.int .i64 f,.string t] 114);have n:SlD encS (w1.alloc (.cells #[.int .i64 f,.string t] 114)) (fun _=>0) (some ⟨w1.heap.size,0,none⟩) 1 1 [((f:Int),t)]:=SlD.of_rowW (enc:=encS) (l:=[((f:Int),t)]) (o:=fun _=>0) k rfl (by unfold maxLen;simp) rfl;have p:∀ s∈[((f:Int),t)],0≤s.1∧s.1<200:=fun s z=>by
  rw[List.mem_singleton.1 z];exact⟨q0,by dsimp only;omega⟩
 have i:=zH (hGp [((f:Int),t)] p (fun _=>0) (some ⟨w1.heap.size,0,none⟩) 1 1 (by omega) _ n);have a:=zH d;have q:w1.heap.size=w.heap.size+1:=by rw[c];simp
 rw[q,c] at i;rw[c] at a;clear m b d k c n p q;go_enter Tryz.func146,Tryz.ntmps146;go_wp2_with fail;refine i.o.mono ?_;rintro r w3 ⟨rfl,g⟩;have u:=zH (h.o.trans ((zB a.o g).mono h.o.size));have y:=((zB a.o g).block _ (zL x.o)).trans x.o;clear z0 z1 z2 z3 z4 g;have z2:=(zR _ w.heap.size 2 _ _ _ y).trans (show _=some (Value.slice none 0 0) from rfl);clear y;go_wp2_with fail;go_loopw [42] (fun j wr=>j=.int .i64 0∧w3=wr) (fun _ _=>0)
 case atStart=>exact⟨rfl,rfl⟩
 case round=>
  obtain⟨rfl,rfl⟩:=hrel;go_wp2_with fail;go_ret;exact⟨rfl,u.o⟩
theorem CliAt.req {o:Tags} {w:World} {rho:Nat→Rq} {b:Nat} {z:CB} {c:SCli} (h:CliAt w o rho b z c) (d:c.open_=true) (f:1≤c.stamp) :
  w.cell? ⟨b,3,none⟩=some (.int .i64 1)∧w.cell? ⟨b,4,none⟩=some (.int .i64 ((rho c.stamp).st:Int))∧w.cell? ⟨b,5,none⟩=some (.int .i64 ((rho c.stamp).kind:Int))∧w.cell? ⟨b,6,none⟩=some (.string (rho c.stamp).key)∧w.cell? ⟨b,7,none⟩=some (.float .f64 (rho c.stamp).real)∧w.cell? ⟨b,8,none⟩=some (.int .i64 0):=by
 have hc:c.cop=c.stamp:=by unfold SCli.cop;rw[if_pos d]
 have e:wrq rho c.cop=rho c.stamp:=by unfold wrq;rw[hc,if_neg (by omega)]
 have a:wcl c.cop=1:=by unfold wcl;rw[hc,if_neg (by omega)]
 have k3:w.cell? ⟨b,3,none⟩=some (.int .i64 ((wcl c.cop:Nat):Int)):=h.cell 3 rfl;have k4:w.cell? ⟨b,4,none⟩=some (.int .i64 ((wrq rho c.cop).st:Int)):=h.cell 4 rfl;have k5:w.cell? ⟨b,5,none⟩=some (.int .i64 ((wrq rho c.cop).kind:Int)):=h.cell 5 rfl;have k6:w.cell? ⟨b,6,none⟩=some (.string (wrq rho c.cop).key):=h.cell 6 rfl;have k7:w.cell? ⟨b,7,none⟩=some (.float .f64 (wrq rho c.cop).real):=h.cell 7 rfl;rw[a] at k3;rw[e] at k4 k5 k6 k7;exact⟨k3,k4,k5,k6,k7,h.cell 8 rfl⟩
theorem hU7 {o:Tags} {rho:Nat→Rq} {b:Nat} {z:CB} {c:SCli} (X:ROk rho) (B:c.open_=true) (n:1≤c.stamp) (N:c.stamp≤8) (w:World) (h:CliAt w o rho b z c) :
  Calls Tryz.prog 84 #[.pointer (some ⟨b,0,none⟩)] w fun e w'=>∃ A cc xs,e=.returned (.slice A 4 cc)∧w'.ownsRow w.heap.size 92 19 (.slice A 4 cc) 4 xs∧Lst (PkV w' (o.ext w.heap.size 0)) (toFour rho ⟨1,0,0,c.stamp,[]⟩) xs∧Below w.heap.size w w':=by
 have V:=(X c.stamp n N).1;have m:=fun w=>zH (hDk (rho c.stamp) V w);obtain⟨k3,k4,k5,k6,k7,k8⟩:=h.req B n;have P:=zH h;have F:=zH (And.intro B n);obtain⟨t,R⟩:=zN ((rho c.stamp).t);rw[←R] at m;have Y:=zH R;unfold Rq.v at m;clear h V B n N X R;go_enter Tryz.func84,Tryz.ntmps84;go_wp2_with fail;refine(m _).o.mono ?_;rintro e w1 ⟨rfl,I⟩;have k:=zH I;have Z:zI (∀ W,Below w1.heap.size w1 W→W.cell? ⟨b,3,none⟩=some (.int .i64 1)∧W.cell? ⟨b,4,none⟩=some (.int .i64 ((rho c.stamp).st:Int))∧W.cell? ⟨b,5,none⟩=some (.int .i64 ((rho c.stamp).kind:Int))∧W.cell? ⟨b,6,none⟩=some (.string (rho c.stamp).key)∧W.cell? ⟨b,7,none⟩=some (.float .f64 (rho c.stamp).real)∧W.cell? ⟨b,8,none⟩=some (.int .i64 0)):=
  zH (fun W Q=>(P.o.keep (zB k.o Q)).req F.o.1 F.o.2)
 have U:=fun(W:World) (Q:Below w1.heap.size w1 W)=>zH (hHs W (P.o.keep (zB k.o Q)));clear k3 k4 k5 k6 k7 k8 I m;go_wp2_with fail;have G:Below w1.heap.size w1 w1.drew:=Below.drew (Below.refl _ _);refine wp_region_held_drew (S:=(fun W=>Below w1.heap.size w1 W)) (by kernel_rfl) G (fun a=>?_);change wpAnyH _ _ _ _ _ 13 (Array.replicate 13 false) _ _;clear G;generalize w1.drew=w2 at a ⊢;refine zK 0 13 rfl rfl ?_;try dsimp only;try simp only[zA,zC,zD]
 refine zK 1 14 rfl rfl ?_;try dsimp only;try simp only[zA,zC,zD]
 refine zK 2 15 rfl rfl ?_;try dsimp only;try simp only[zA,zC,zD]
 refine zK 3 16 rfl rfl ?_;try dsimp only;try simp only[zA,zC,zD]
 (refine zT 4 17 rfl rfl (v:=?v17_5) (.inl ⟨by rfl,?y17_5⟩) ?_;case y17_5=>(intro w s;(try dsimp only at s);obtain⟨k3,k4,k5,k6,k7,k8⟩:=Z.o w s;clear s;go_simp;try with_reducible rfl));try dsimp only;try simp only[zA,zC,zD]
 refine zK 5 18 rfl rfl ?_;try dsimp only;try simp only[zA,zC,zD]
 refine zK 7 20 rfl rfl ?_;try dsimp only;try simp only[zA,zC,zD]
 refine wpAnyH_ready (rs:=[6]) (by kernel_rfl) (by simp) ?_;refine AllReadyH.cons rfl (fun K g=>?_) AllReadyH.nil;rw[if_pos (by rfl)];go_simp;go_at_call 111;refine(U _ a).o.mono ?_;rintro e wd ⟨rfl,rfl⟩;refine g.out _ _ a (fun _=>?_);try dsimp only
 clear g K;refine zK 8 21 rfl rfl ?_;try dsimp only;try simp only[zA,zC,zD]
 refine wpAnyH_ready (rs:=[9]) (by kernel_rfl) (by simp) ?_;refine AllReadyH.cons rfl (fun K g=>?_) AllReadyH.nil;go_simp;have f:=heap_alloc_new w2 (.cells #[.int .i64 101,.string t] 114);have d:Below w1.heap.size w1 (w2.alloc (.cells #[.int .i64 101,.string t] 114)):=a.alloc (Below.size a) _;refine g.out _ _ d (fun _=>?_);try dsimp only
 clear g K;obtain⟨gs,x⟩:=zN (w2.heap.size);have L:w1.heap.size≤gs:=by rw[x];exact Below.size a
 rw[←x] at f ⊢;clear x;change wpAnyH _ _ _ _ _ _ _ _ (w2.alloc (.cells #[.int .i64 101,.string t] 114));clear a;generalize w2.alloc _=wa at f d ⊢;refine zK 10 23 rfl rfl ?_;try dsimp only;try simp only[zA,zC,zD]
 refine wpAnyH_ready (rs:=[11]) (by kernel_rfl) (by simp) ?_;refine AllReadyH.cons rfl (fun K g=>?_) AllReadyH.nil;rw[if_pos (by rfl)];go_simp;go_at_call 110;have i:Below w.heap.size w wa:=zB k.o d;have M:=Tags.ext_new o w.heap.size 0 gs (Nat.le_trans k.o.size L);have J:=P.o.keepT i (Tags.ext_old o w.heap.size 0);have r:=SlD.of_rowW (enc:=encS) (l:=[(101,t)]) f rfl (by unfold maxLen;simp) M;rw[Y.o] at r;have H:((⟨1,0,0,c.stamp,[]⟩:SMsg).fm rho).At wa (o.ext w.heap.size 0) ⟨none,0,some ⟨gs,0,none⟩,1,none,0,none,0⟩:=⟨⟨rfl,rfl⟩,r,SlD.nil _ _ _,⟨rfl,rfl⟩⟩;have O:=hE9 ⟨1,0,0,c.stamp,[]⟩ _ wa J H;have D:Calls Tryz.prog 110 #[.pointer (some ⟨b,0,none⟩),.agg #[.int .i64 1,.int .i64 0,.int .i64 0,.int .i64 0,.int .i64 1,.int .i64 ((rho c.stamp).st:Int),.int .i64 ((rho c.stamp).kind:Int),.string (rho c.stamp).key,.float .f64 (rho c.stamp).real,.int .i64 0,.int .i64 0,.float .f64 0,.string ⟨#[]⟩,.slice none 0 0,.slice (some ⟨gs,0,none⟩) 1 1,.slice none 0 0,.slice none 0 0]] wa _:=O
 with_reducible refine D.mono ?_
 rintro e w5 ⟨A,cc,xs,rfl,C,y,u⟩;have j:Below w1.heap.size w1 w5:=d.trans (u.mono d.size);refine g.out _ _ j (fun _=>?_);try dsimp only
 clear g K;have q:=zH (hGa C i.size);have p:=zH y;have T:=zH j;have E:=zH (i.trans (u.mono i.size));clear C y u j O D H r J M i f d L;have a:Below w1.heap.size w1 w5:=T.o;refine zK 12 2 rfl rfl ?_;try dsimp only;try simp only[zA,zC,zD]
 refine wpAnyH_done (by kernel_rfl) ?_ _;clear a;go_wp2_with fail;go_ret;first
  |exact⟨A,cc,rfl,⟨xs,q.o,p.o⟩,E.o⟩
  |exact⟨A,cc,xs,rfl,q.o,p.o,E.o⟩
end Go.Proofs.YtlibpcllceepkaaGreat
