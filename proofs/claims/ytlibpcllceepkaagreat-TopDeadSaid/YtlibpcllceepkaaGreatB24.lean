/- Joined texts of the claim. No condition. -/
import Derived.Test.YtlibpcllceepkaaGreatB23
namespace Go.Proofs.YtlibpcllceepkaaGreat
open Go.RowKit
set_option maxRecDepth 100000
set_option linter.unusedVariables false
set_option linter.unusedSimpArgs false
set_option maxHeartbeats 16000000
theorem Blk.sets {o:Tags} {i b:Nat} {T:TypeId}:∀ (l:List (Nat×Value)) {w:World} {cs:Array Value},Blk w o i b T cs→Blk (setsW b l w) o i b T (setsC l cs)∧w.grownBy (setsW b l w) (some b)∧Chg i o o w (setsW b l w)
 |[],w,cs,h=>⟨h,hAa (Below.refl _ _) _,Chg.refl _ _ _⟩
 |p::l,w,cs,h=>by
  obtain⟨a,c,d⟩:=h.set p.1 p.2;obtain⟨k1,k2,k3⟩:=Blk.sets l a;exact⟨k1,c.trans k2,d.trans k3⟩
theorem CliAt.blk_set {o o':Tags} {w w':World} {rho:Nat→Rq} {b:Nat} {z z':CB} {c c':SCli} (h:CliAt w o rho b z c) (f:Fix (fun t=>t≠tg 4 1) o o' w w') (j:Blk w' o' (tg 4 1) b 99 (cliC rho z' c'))
  (a:z'.ch=z.ch∧c'.chain=c.chain) (i:z'.A=z.A∧z'.ac=z.ac∧z'.R=z.R∧z'.rc=z.rc∧c'.acc=c.acc) (hc:c'.open_=true→∃ mb,z'.mp=some mb∧MpK 316 w' mb (cameL rho c'.stamp c'.came)∧o' mb=tg 4 5):CliAt w' o' rho b z' c':=by
 obtain⟨e,g⟩:=a;obtain⟨a1,a2,a3,a4,a5⟩:=i;obtain⟨xs,k,d⟩:=h.acc;refine⟨j,?_,hc,⟨xs,?_,d⟩,?_⟩
 ·rw[e,g];exact h.ch.fix f (by decide) (by decide)
 ·rw[a1,a2,a5];exact k.fix f (by decide)
 ·rw[a3,a4,a5];exact h.res.fix f (by decide)
theorem sets12 (a0 a1 a2 a3 a4 a5 a6 a7 a8 a9 a10 a11 v2 v3 v4 v5 v6 v7 v8 v9:Value):(setsC [(2,v2),(3,v3),(4,v4),(5,v5),(6,v6),(7,v7),(8,v8)] #[a0,a1,a2,a3,a4,a5,a6,a7,a8,a9,a10,a11]).setIfInBounds 9 v9=#[a0,a1,v2,v3,v4,v5,v6,v7,v8,v9,a10,a11]:=by
 simp only[setsC,List.setIfInBounds_toArray,List.set_cons_zero,List.set_cons_succ]
theorem hJg (rho:Nat→Rq) (z:CB) (c:SCli) (n:Nat) (q:Rq) (b:q=rho (c.stamp+1)) (a:q.st=c.stamp+1) :
  (setsC [(2,.int .i64 q.st),(3,.int .i64 1),(4,.int .i64 q.st),(5,.int .i64 q.kind),(6,.string q.key),(7,.float .f64 q.real),(8,.int .i64 0)] (cliC rho z c)).setIfInBounds 9 (.map (some n))=cliC rho { z with mp:=some n } { c with stamp:=c.stamp+1,open_:=true,came:=[] }:=by
 have e1:SCli.cop { c with stamp:=c.stamp+1,open_:=true,came:=[] }=c.stamp+1:=rfl;have e2:wcl (c.stamp+1)=1:=if_neg (by omega);have e3:wrq rho (c.stamp+1)=q:=by rw[b];exact if_neg (by omega)
 unfold cliC;rw[e1,e2,e3,sets12];dsimp only;rw[a];rfl
theorem hW7 {o:Tags} {rho:Nat→Rq} {b:Nat} {z:CB} {c:SCli} (hr:ROk rho) (Hj:c.open_=false) (Hk:c.stamp<8) (w:World) (h:CliAt w o rho b z c) :
  Calls Tryz.prog 59 #[.pointer (some ⟨b,0,none⟩),.agg #[.int .i64 ((rho (c.stamp+1)).kind:Int),.string (rho (c.stamp+1)).key,.float .f64 (rho (c.stamp+1)).real,.int .i64 0]] w fun e w'=>∃ A cc xs o' z',e=.returned (.tuple #[.slice A 4 cc,.int .i64 0])∧Row w' o' 0 92 19 (.slice A 4 cc) 4 xs∧Lst (PkV w' o') (toFour rho ⟨1,0,0,c.stamp+1,[]⟩) xs∧CliAt w' o' rho b z' { c with stamp:=c.stamp+1,open_:=true,came:=[] }∧ChgR 5 o o' w w':=by
 obtain⟨hq,j⟩:=hr (c.stamp+1) (by omega) (by omega);have F:=zH j;have y:=fun W=>zH (hCr _ hq W);unfold Rq.v at y;obtain⟨q,S⟩:=zN (rho (c.stamp+1));rw[←S] at F y ⊢;have HQ:=zH S;have HH:=zH h;have Z:=zH Hj;have Hc:=(Below.refl w.heap.size w).alloc (Nat.le_refl _) (.cells #[.int .i64 q.kind,.string q.key,.float .f64 q.real,.int .i64 0] 34);have hN:=heap_alloc_new w (.cells #[.int .i64 q.kind,.string q.key,.float .f64 q.real,.int .i64 0] 34);have s:=zH Hc;have l:=zH hN;have K:=h.lt;have qs:(c.stamp:Int)<8:=by omega
 have qs0:(0:Int)≤(c.stamp:Int):=by omega
 have an:=fun(w:World) (a:Addr) (k:FloatKind) (n:Nat)=>run_store Tryz.prog w a (.float k n) .plain rfl;have hU:=zH hr;have aa:=zH Hk;clear h Hc hN hq j S hr Hj Hk;go_enter Tryz.func59,Tryz.ntmps59;go_wp2_with fail;obtain⟨g,M⟩:=zN (w.heap.size);rw[←M] at l K ⊢;have HG:=zH M;clear M;generalize w.alloc _=w1 at s l ⊢;have C:=zH (HH.o.keep s.o);have gl:=(zL l.o);have hZ:∀ W,Below w1.heap.size w1 W→W.cell? ⟨b,0,none⟩=some (.int .i64 1)∧W.cell? ⟨b,2,none⟩=some (.int .i64 c.stamp)∧W.cell? ⟨g,0,none⟩=some (.int .i64 q.kind)∧W.cell? ⟨g,1,none⟩=some (.string q.key)∧W.cell? ⟨g,2,none⟩=some (.float .f64 q.real)∧W.cell? ⟨g,3,none⟩=some (.int .i64 0):=fun W f=>
  ⟨(C.o.keep f).cell 0 rfl,(C.o.keep f).cell 2 rfl,zR W g 0 _ _ _ ((f.block g gl).trans l.o),zR W g 1 _ _ _ ((f.block g gl).trans l.o),zR W g 2 _ _ _ ((f.block g gl).trans l.o),zR W g 3 _ _ _ ((f.block g gl).trans l.o)⟩
 have G:=(Below.refl w1.heap.size w1).alloc (Nat.le_refl _) (.cells #[.int .i64 0,.int .i64 0,.int .i64 0,.string ⟨#[]⟩,.float .f64 0,.int .i64 0] 36);obtain⟨a0,a1,a2,a3,a4,a5⟩:=hZ _ (Below.refl _ _);obtain⟨b0,b1,b2,b3,b4,b5⟩:=hZ _ G;have e1:IntKind.i64.wrap ((c.stamp:Int)+1)=(q.st:Int):=by rw[IntKind.wrap_i64,F.o];omega
 have Y:=zH (show ∀ g2 wx,g2=w1.heap.size→wx=(w1.alloc (.cells #[.int .i64 1,.int .i64 q.st,.int .i64 q.kind,.string q.key,.float .f64 q.real,.int .i64 0] 36)).drew→Below w1.heap.size w1 wx∧w1.heap.size≤g2∧wx.heap[g2]?=some (.cells (six 1 q.st q.kind q.key q.real 0) 36 (0,0)) from by
  rintro g2 wx rfl rfl;exact⟨Below.drew ((Below.refl _ _).alloc (Nat.le_refl _) _),Nat.le_refl _,heap_alloc_new w1 _⟩)
 clear hZ G;go_cut [6] from 7 (fun s6 wx=>∃ g2,s6=.pointer (some ⟨g2,0,none⟩)∧zI (Below w1.heap.size w1 wx∧w1.heap.size≤g2∧wx.heap[g2]?=some (.cells (six 1 q.st q.kind q.key q.real 0) 36 (0,0))))
 case first=>
  go_region_law (fail)
  all_goals
   go_wp2_with fail;go_meet
   case rel=>exact⟨_,rfl,zH (Y.o _ _ (by with_reducible rfl) (by with_reducible rfl))⟩
 case rest=>
  obtain⟨g2,rfl,j⟩:=hcut;obtain⟨J,Hg,Q⟩:=j.o;have Hy:=zH (zB s.o J);have X:=zH (C.o.keep J);have D:=zH Q;obtain⟨z0,z1,z2,z3,z4,z5⟩:=hAf Q;have Hh:b<g2:=Nat.lt_of_lt_of_le K (Nat.le_trans (by rw[HG.o];exact s.o.size) Hg);have Hz:=zH Hh;clear j J Hg Q a0 a1 a2 a3 a4 a5 b0 b1 b2 b3 b4 b5 Y K gl Hh e1;go_wp2_with fail;refine(y _).o.mono ?_;rintro e w3 ⟨rfl,B⟩;have Hx:=zH (zB Hy.o B);have d:=zH (X.o.keep B);have hJ:=zH ((B.block g2 (zL D.o)).trans D.o);have U:=hCm (fun h=>by rw[Z.o] at h;cases h) w3 d.o;rw[Z.o] at U;have Ha:=zH U;clear z0 z1 z2 z3 z4 z5 B X D y U;obtain⟨z0,z1,z2,z3,z4,z5⟩:=hAf hJ.o;go_wp2_with fail;refine Ha.o.mono ?_;rintro e wx ⟨rfl,rfl⟩;have am:=Hz.o;have Ht:¬ g2=b:=by omega
  have Hu:¬ b=g2:=by omega
  have fz:=d.o.fz;have x2:w3.cell? ⟨b,2,none⟩=_:=d.o.cell 2 rfl;have x3:w3.cell? ⟨b,3,none⟩=_:=d.o.cell 3 rfl;have x4:w3.cell? ⟨b,4,none⟩=_:=d.o.cell 4 rfl;have x5:w3.cell? ⟨b,5,none⟩=_:=d.o.cell 5 rfl;have x6:w3.cell? ⟨b,6,none⟩=_:=d.o.cell 6 rfl;have x7:w3.cell? ⟨b,7,none⟩=_:=d.o.cell 7 rfl;have x8:w3.cell? ⟨b,8,none⟩=_:=d.o.cell 8 rfl;clear Ha;go_upto_region 10 with fail;generalize f:World.setCell _ _ _=w4;obtain⟨k1,k2,k3⟩:=d.o.blk.sets [(2,.int .i64 q.st),(3,.int .i64 1),(4,.int .i64 q.st),(5,.int .i64 q.kind),(6,.string q.key),(7,.float .f64 q.real),(8,.int .i64 0)];rw[show setsW b [(2,.int .i64 q.st),(3,.int .i64 1),(4,.int .i64 q.st),(5,.int .i64 q.kind),(6,.string q.key),(7,.float .f64 q.real),(8,.int .i64 0)] w3=w4 from f] at k1 k2 k3;have HJ:=zH k1;have hI:=zH k3;have x9:w4.cell? ⟨b,9,none⟩=some (.map z.mp):=(zR w4 b 9 _ _ _ k1.1).trans rfl;have f9:=frozen_of_row w4 b 9 _ _ k1.1;have ae:b<w4.heap.size:=(zL k1.1);have ag:=@run_makeMap Tryz.prog;clear k1 k2 k3 f z0 z1 z2 z3 z4 z5 Ht Hu fz x2 x3 x4 x5 x6 x7 x8;go_upto_region 11 with fail;obtain⟨n,hn⟩:=zN (w4.heap.size);obtain⟨j1,j2,j3⟩:=HJ.o.set 9 (.map (some n));have T:(w4.setCell ⟨b,9,none⟩ (.map (some n))).heap.size=n:=by rw[hn];simp[World.setCell]
  rw[←hn];have H:=(Below.refl (w4.setCell ⟨b,9,none⟩ (.map (some n))).heap.size (w4.setCell ⟨b,9,none⟩ (.map (some n)))).alloc (Nat.le_refl _) (.map #[] 0);have O:=heap_alloc_new (w4.setCell ⟨b,9,none⟩ (.map (some n))) (.map #[] 0);rw[T] at O;have R:∀ x,x<(w4.setCell ⟨b,9,none⟩ (.map (some n))).heap.size→(o.ext n (tg 4 5)) x=o x:=by rw[T];exact Tags.ext_old o n (tg 4 5)
  have Hb:=(hI.o.trans j3).trans (Chg.below (i:=tg 4 1) (o:=o) H R);have Hf:=j1.fix (P:=fun _=>True) (Fix.below H R) trivial;have Hi:=Tags.ext_new o n (tg 4 5) n (Nat.le_refl _);rw[hJg rho z c n q HQ.o F.o] at Hf;have L:=d.o.blk_set (z':={ z with mp:=some n }) (c':={ c with stamp:=c.stamp+1,open_:=true,came:=[] }) (Hb.fix (P:=fun t=>t≠tg 4 1) (by simp)) Hf ⟨rfl,rfl⟩ ⟨rfl,rfl,rfl,rfl,rfl⟩ (fun _=>⟨n,rfl,MpK.empty O,Hi⟩);have E:=zH ((ChgR.below (k:=5) (o':=o) Hx.o (fun _ _=>rfl)).trans (Chg.r (k:=5) (p:=1) Hb (by decide)));have u:=zH L;generalize World.alloc _ _=w5 at E u ⊢;generalize o.ext n (tg 4 5)=o5 at E u;have V:=zH (hU7 hU.o rfl (show 1≤c.stamp+1 by omega) (show c.stamp+1≤8 by have:=aa.o;omega) w5 u.o);clear j1 j2 j3 T O R Hi L hn f9 ag x9 ae;go_wp2_with fail;refine V.o.mono ?_;rintro e w6 ⟨A,cc,xs,rfl,m,N,I⟩;have Hm:=zH N;have Hp:=zH (show Row w6 (o5.ext w5.heap.size 0) 0 92 19 (.slice A 4 cc) 4 xs from⟨hCi m,fun g M=>Tags.ext_new o5 w5.heap.size 0 g (World.ownsRow.lt m g M).1⟩);have Hl:=zH (u.o.keepT I (Tags.ext_old o5 w5.heap.size 0));have hO:=zH (E.o.trans (ChgR.below I (Tags.ext_old o5 w5.heap.size 0)));clear m N I V;go_wp2_with fail;go_ret2;exact⟨A,cc,xs,o5.ext w5.heap.size 0,_,rfl,Hp.o,Hm.o,Hl.o,hO.o⟩
end Go.Proofs.YtlibpcllceepkaaGreat
