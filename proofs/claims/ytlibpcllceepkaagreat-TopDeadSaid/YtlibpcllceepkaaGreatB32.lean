/- Joined texts of the claim. No condition. -/
import Derived.Test.YtlibpcllceepkaaGreatB27
import Derived.Test.YtlibpcllceepkaaGreatB31
namespace Go.Proofs.YtlibpcllceepkaaGreat
open Go.RowKit
set_option maxRecDepth 100000
set_option linter.unusedVariables false
set_option linter.unusedSimpArgs false
set_option maxHeartbeats 16000000
theorem hLf (r:SRep):r.restart.log=r.log∧r.restart.id=r.id:=by
 unfold SRep.restart;split
 ·exact⟨rfl,rfl⟩
 ·unfold SRep.start;split<;>exact⟨rfl,rfl⟩
theorem hOq {r r':SRep} (h:r.enter=some r'):∃ l,SRep.hushed r.says=some l∧(({ r with says:=l,active:=true,next:=4*r.log.e+1 }:SRep).restart).propose=some r':=by
 unfold SRep.enter at h;split at h
 ·cases h
 ·rename_i l a;exact⟨l,a,h⟩
theorem hKg {o:Tags} {rho:Nat→Rq} {b:Nat} {z:RB} {r r':SRep} {m:Nat} (hr:ROk rho) (hx:r.enter=some r') (Q:Option Addr) (qc:Nat) (w:World) (h:RepF w o rho b z r r.log.e (m+25)) :
  Calls Tryz.prog 257 #[.pointer (some ⟨b,0,none⟩),.int .i64 r.log.v,.slice Q 0 qc] w fun e w'=>e=.returned (.tuple #[])∧∃ o' z',RepF w' o' rho b z' r' r'.log.e m∧ChgR (r.id+1) o o' w w':=by
 obtain⟨l,hl,f⟩:=hOq hx;have Hq:=h.num.e;have x0:=h.c0;have y0:=h.t0;have Hf:=zH (hBc z.lb (tg r.id 3) o z.ms rho r.log _ h.log);have t:=(Below.refl w.heap.size w).alloc (Nat.le_refl _) (.cells #[.int .i64 5,.int .i64 7] 3);have W:=heap_alloc_new w (.cells #[.int .i64 5,.int .i64 7] 3);have q:=zH (h.keepT t (Tags.ext_old o w.heap.size 7));have g:=zH (ChgR.below (k:=r.id+1) t (Tags.ext_old o w.heap.size 7));generalize o.ext w.heap.size 7=o1 at q g;have C:=zH (hNc (o:=o1) (rho:=rho) (b:=b) (z:=z) (r:=r) (be:=r.log.e) (m:=m+25) [5,7] l (by
  rcases hL9 hl with⟨x,S,T,U⟩ | ⟨x,y,S,T,U,h4⟩
  ·exact .inr (.inl ⟨x,S,by rw[fm6 rho x T];rfl,U⟩)
  ·exact .inr (.inr ⟨x,y,S,by rw[fm6 rho x T];rfl,by rw[fm7 rho y U];rfl,h4⟩)) w.heap.size 2 2 rfl (by omega) _ (by simp) (fun j hj=>by
  have Hr:j<2:=hj;obtain rfl | rfl:j=0∨j=1:=by omega
  ·exact(zR _ w.heap.size 0 _ _ _ W).trans rfl
  ·exact(zR _ w.heap.size 1 _ _ _ W).trans rfl) q.o)
 have HP:=zH f;clear hl f hx h t W q;go_enter Tryz.func257,Tryz.ntmps257;go_wp2_with fail;refine Hf.o.mono ?_;rintro e wx ⟨rfl,rfl⟩;go_wp2_with fail;refine C.o.mono ?_;rintro e w2 ⟨rfl,o2,z2,L,G⟩;have a:=zH L;have u:=zH (g.o.trans G);have x0:=a.o.c0;have y5:=a.o.t5;have f5:=a.o.tfz 5;obtain⟨M,H⟩:=a.o.setT 5 (.bool true) (z':=z2) (r':={ r with says:=l,active:=true }) rfl rfl rfl { a.o.num with } (fun p f=>by rcases p with _|_|_|_|_|_|_|_|_|_|_|_|_|_|p<;>first | exact absurd (by decide) f | rfl);have c:=zH M;have i:=zH (u.o.trans H);clear L G M H C g;go_wp2_with fail;generalize World.setCell _ _ _=w3 at c i ⊢;clear x0 y5 f5 a u;have x0:=fun y:Bel w3.heap.size w3=>y.cell c.o.lt c.o.c0;have R:=fun y:Bel w3.heap.size w3=>zH (hJb y.w (c.o.keep y.h));obtain⟨F,V⟩:=zN (4*r.log.e+1);have E:∀ y:Bel w3.heap.size w3,zI (Calls Tryz.prog 74 #[.pointer (some ⟨z2.tb,0,none⟩)] y.w fun e w'=>e=.returned (.int .i64 F)∧y.w=w'):=fun y=>zH (by rw[V];exact(R y).o);have HF:=zH V;have q1:(0:Int)≤(F:Int):=by omega
 have q2:(F:Int)≤5:=by omega
 have qw:IntKind.i64.wrap ((F:Int)+0)=(F:Int):=by rw[IntKind.wrap_i64];omega
 clear R V;refine hAi 14 w3.heap.size w3 (by kernel_rfl) (by kernel_rfl) (Below.refl _ _) ?_;simp only[List.take_succ_cons,List.take_zero,List.drop_succ_cons,List.drop_zero];repeat (go_big_quiet_step ((go_at_call 74;exact hAw (E _).o)))
 refine wpQuiet_nil ?_;rintro⟨wy,Y⟩;show wpList _ _ _ _ _ wy;have d:=zH (c.o.keep Y);have B:=zH (i.o.trans (ChgR.below (k:=r.id+1) (o':=o2) Y (fun _ _=>rfl)));clear x0 E c i Y;have y7:=d.o.t7;have f7:=d.o.tfz 7;obtain⟨N,I⟩:=d.o.setT 7 (.int .i64 F) (z':=z2) (r':={ r with says:=l,active:=true,next:=4*r.log.e+1 }) (by rw[HF.o];rfl) rfl rfl { d.o.num with nx1:=by show 1≤4*r.log.e+1;omega,nx9:=by show 4*r.log.e+1≤9;omega } (fun p f=>by rcases p with _|_|_|_|_|_|_|_|_|_|_|_|_|_|p<;>first | exact absurd (by decide) f | rfl);have s:=zH N;have n:=zH (B.o.trans I);clear N I;go_wp2_with fail;generalize World.setCell _ _ _=w4 at s n ⊢;clear y7 f7 d B;refine(hDp w4 s.o).mono ?_;rintro e w5 ⟨rfl,o5,O,J⟩;have X:=hLf { r with says:=l,active:=true,next:=4*r.log.e+1 };have D:=zH (show RepF w5 o5 rho b z2 (({ r with says:=l,active:=true,next:=4*r.log.e+1 }:SRep).restart) (({ r with says:=l,active:=true,next:=4*r.log.e+1 }:SRep).restart).log.e (m+25) by rw[X.1];exact O);have Z:=zH (n.o.trans (show ChgR (r.id+1) o2 o5 w4 w5 from J));have HI:=zH (show(({ r with says:=l,active:=true,next:=4*r.log.e+1 }:SRep).restart).id=r.id from X.2);clear O J X s n;have x0:=D.o.c0;have Ht:=hDu ⟨z2.tb,0,none⟩ w5;have Hb:=zH (hHe (m:=m) hr HP.o w5 D.o);go_wp2_with fail;go_loopw [62] (fun j wr=>j=.int .i64 0∧w5=wr) (fun _ _=>0)
 case atStart=>exact⟨rfl,rfl⟩
 case round=>
  obtain⟨rfl,rfl⟩:=hrel;go_wp2_with fail;refine Hb.o.mono ?_;rintro e w6 ⟨rfl,o6,z6,P,K⟩;have Hc:=zH P;have Ha:=zH (Z.o.trans (by have h:=K;rw[HI.o] at h;exact h));clear P K;go_wp2_with fail;go_end0;exact⟨rfl,o6,z6,Hc.o,Ha.o⟩
theorem hH4 {o:Tags} {rho:Nat→Rq} {b:Nat} {z:RB} {r:SRep} {be m:Nat} (j:r.active=true) (M:Array Value) (k:M[1]?=some (.int .i64 r.log.e)) (l:M[2]?=some (.int .i64 r.log.v)) (w:World) (h:RepF w o rho b z r be m) :
  Calls Tryz.prog 244 #[.pointer (some ⟨b,0,none⟩),.agg M] w fun e w'=>e=.returned (.bool true)∧Below w.heap.size w w':=by
 have f:=(Below.refl w.heap.size w).alloc (Nat.le_refl _) (.cells M 48);have i:=heap_alloc_new w (.cells M 48);have c:=(zL i);have a:=zH (h.keep f);have d:=zH f;have c1:=(zR _ w.heap.size 1 _ _ _ i).trans k;have c2:=(zR _ w.heap.size 2 _ _ _ i).trans l;obtain⟨w1,g⟩:=zN (w.alloc (.cells M 48));rw[←g] at a d c1 c2 c;have u1:=fun y:Bel w1.heap.size w1=>y.cell c c1;have u2:=fun y:Bel w1.heap.size w1=>y.cell c c2;have x0:=fun y:Bel w1.heap.size w1=>y.cell a.o.lt a.o.c0;have y0:=fun y:Bel w1.heap.size w1=>y.cell a.o.tlt a.o.t0;have y3:=fun y:Bel w1.heap.size w1=>y.cell a.o.tlt a.o.t3;have y5:=fun y:Bel w1.heap.size w1=>y.cell a.o.tlt a.o.t5;rw[j] at y5;have n:=fun y:Bel w1.heap.size w1=>zH (hDe y.w (a.o.keep y.h));have p:=fun y:Bel w1.heap.size w1=>zH (hBc z.lb (tg r.id 3) o z.ms rho r.log y.w (a.o.keep y.h).log);have q:=zH g;clear h f i c1 c2 c g k l;go_enter Tryz.func244,Tryz.ntmps244;go_wp2_with fail;rw[←q.o];refine hAg w1.heap.size w1 (by kernel_rfl) (by kernel_rfl) (Below.refl _ _) ?_;repeat (go_big_quiet_step ((first | (go_at_call 214;exact hAq (Nat.le_refl _) (n _).o) | (go_at_call 217;exact hAw (p _).o))))
 refine wpQuiet_nil ?_;rintro _ ⟨y,rfl⟩;go_wp2_with fail;go_ret;exact⟨rfl,d.o.trans (y.h.mono d.o.size)⟩
theorem hO3 {o:Tags} {rho:Nat→Rq} {b:Nat} {z:RB} {r:SRep} {be m:Nat} (M:Array Value) (e v:Int) (n:M[1]?=some (.int .i64 e)) (p:M[2]?=some (.int .i64 v)) (q:Bool)
  (s:(e == (r.log.e:Int))=false∧q=false∨e=(r.log.e:Int)∧(r.log.v:Int)<v∧q=true∨e=(r.log.e:Int)∧¬ (r.log.v:Int)<v∧(v == (r.log.v:Int))=false∧q=false∨e=(r.log.e:Int)∧¬ (r.log.v:Int)<v∧v=(r.log.v:Int)∧q = !r.active) (w:World) (h:RepF w o rho b z r be m) :
  Calls Tryz.prog 253 #[.pointer (some ⟨b,0,none⟩),.agg M] w fun e w'=>e=.returned (.bool q)∧Below w.heap.size w w':=by
 have f:=(Below.refl w.heap.size w).alloc (Nat.le_refl _) (.cells M 48);have k:=heap_alloc_new w (.cells M 48);have d:=(zL k);have c:=zH (h.keep f);have a:=zH f;have c1:=(zR _ w.heap.size 1 _ _ _ k).trans n;have c2:=(zR _ w.heap.size 2 _ _ _ k).trans p;obtain⟨w1,j⟩:=zN (w.alloc (.cells M 48));rw[←j] at c a c1 c2 d;have u1:=fun y:Bel w1.heap.size w1=>y.cell d c1;have u2:=fun y:Bel w1.heap.size w1=>y.cell d c2;have x0:=fun y:Bel w1.heap.size w1=>y.cell c.o.lt c.o.c0;have y0:=fun y:Bel w1.heap.size w1=>y.cell c.o.tlt c.o.t0;have y3:=fun y:Bel w1.heap.size w1=>y.cell c.o.tlt c.o.t3;have y5:=fun y:Bel w1.heap.size w1=>y.cell c.o.tlt c.o.t5;have g:=fun y:Bel w1.heap.size w1=>zH (hDe y.w (c.o.keep y.h));have i:=fun y:Bel w1.heap.size w1=>zH (hBc z.lb (tg r.id 3) o z.ms rho r.log y.w (c.o.keep y.h).log);have l:=zH j;generalize (r.log.e:Int)=re at *;generalize (r.log.v:Int)=rv at *;generalize r.active=ra at *;clear h f k c1 c2 d j n p;rcases s with⟨q1,rfl⟩ | ⟨rfl,q0,rfl⟩ | ⟨rfl,q0,q2,rfl⟩ | ⟨rfl,q0,rfl,rfl⟩
 rotate_left
 ·have q1:decide (rv<v)=true:=decide_eq_true q0;go_enter Tryz.func253,Tryz.ntmps253;go_wp2_with fail;rw[←l.o];refine hAg w1.heap.size w1 (by kernel_rfl) (by kernel_rfl) (Below.refl _ _) ?_;repeat (go_big_quiet_step ((first | (go_at_call 214;exact hAq (Nat.le_refl _) (g _).o) | (go_at_call 217;exact hAw (i _).o))))
  refine wpQuiet_nil ?_;rintro _ ⟨y,rfl⟩;go_wp2_with fail;go_ret;exact⟨rfl,a.o.trans (y.h.mono a.o.size)⟩
 ·have q1:decide (rv<v)=false:=decide_eq_false q0;go_enter Tryz.func253,Tryz.ntmps253;go_wp2_with fail;rw[←l.o];refine hAg w1.heap.size w1 (by kernel_rfl) (by kernel_rfl) (Below.refl _ _) ?_;repeat (go_big_quiet_step ((first | (go_at_call 214;exact hAq (Nat.le_refl _) (g _).o) | (go_at_call 217;exact hAw (i _).o))))
  refine wpQuiet_nil ?_;rintro _ ⟨y,rfl⟩;go_wp2_with fail;go_ret;exact⟨rfl,a.o.trans (y.h.mono a.o.size)⟩
 all_goals
  go_enter Tryz.func253,Tryz.ntmps253;go_wp2_with fail;rw[←l.o];refine hAg w1.heap.size w1 (by kernel_rfl) (by kernel_rfl) (Below.refl _ _) ?_;repeat (go_big_quiet_step ((first | (go_at_call 214;exact hAq (Nat.le_refl _) (g _).o) | (go_at_call 217;exact hAw (i _).o))))
  refine wpQuiet_nil ?_;rintro _ ⟨y,rfl⟩;go_wp2_with fail;go_ret;exact⟨rfl,a.o.trans (y.h.mono a.o.size)⟩
theorem hKf {o:Tags} {rho:Nat→Rq} {b:Nat} {z:RB} {r:SRep} {be m:Nat} (M:Array Value) (x:SMsg) (a:M[1]?=some (.int .i64 x.e)) (c:M[2]?=some (.int .i64 x.v)) (w:World) (h:RepF w o rho b z r be m) :
  Calls Tryz.prog 253 #[.pointer (some ⟨b,0,none⟩),.agg M] w fun e w'=>e=.returned (.bool (r.ahead x))∧Below w.heap.size w w':=by
 refine hO3 M _ _ a c _ ?_ w h;unfold SRep.ahead;by_cases he:x.e=r.log.e
 ·by_cases hv:r.log.v<x.v
  ·exact .inr (.inl ⟨by omega,by omega,by simp[he,hv]⟩)
  ·by_cases hw:x.v=r.log.v
   ·exact .inr (.inr (.inr ⟨by omega,by omega,by omega,by simp[he,hw]⟩))
   ·exact .inr (.inr (.inl ⟨by omega,by omega,by simp;omega,by simp[he,hv,hw]⟩))
 ·exact .inl ⟨by simp;omega,by simp[he]⟩
end Go.Proofs.YtlibpcllceepkaaGreat
