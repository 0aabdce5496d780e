/- Joined texts of the claim. No condition. -/
import Derived.Test.YtlibpcllceepkaaGreatB27
import Derived.Test.YtlibpcllceepkaaGreatB21
import Derived.Deep.CutRange
namespace Go.Proofs.YtlibpcllceepkaaGreat
open Go.RowKit
set_option maxRecDepth 100000
set_option linter.unusedVariables false
set_option linter.unusedSimpArgs false
set_option maxHeartbeats 16000000
theorem hTe (b kb i:Nat) (o:Tags) (rho:Nat→Rq) (e d:Nat) (w:World) (h:LedAt w o i b kb rho e d):Calls Tryz.prog 241 #[.pointer (some ⟨b,0,none⟩),.int .i64 0] w fun r w'=>r=.returned (.tuple #[.int .i64 0,.agg #[.int .i64 0,.float .f64 0]])∧Below w.heap.size w w':=by
 have c:=(Below.refl w.heap.size w).alloc (Nat.le_refl _) (.cells #[.int .i64 0,.float .f64 0] 43);have f:=zH (heap_alloc_new w (.cells #[.int .i64 0,.float .f64 0] 43));have g:=fun(w:World) (a:Addr) (k:FloatKind) (n:Nat)=>run_store Tryz.prog w a (.float k n) .plain rfl;clear h;go_enter Tryz.func241,Tryz.ntmps241;go_wp2_with fail;exact bodyPost_ret (hCq rfl _ _ w.heap.size _ rfl (by rfl) f.o) rfl ⟨rfl,c⟩
theorem hTf (b kb i:Nat) (o:Tags) (rho:Nat→Rq) (e d:Nat) (c:Nat) (x:c≠1) (y:c≤8) (w:World) (h:LedAt w o i b kb rho e d):Calls Tryz.prog 241 #[.pointer (some ⟨b,0,none⟩),.int .i64 c] w fun r w'=>r=.returned (.tuple #[.int .i64 0,.agg #[.int .i64 0,.float .f64 0]])∧Below w.heap.size w w':=by
 by_cases hc0:c=0
 ·subst hc0;exact hTe b kb i o rho e d w h
 obtain⟨A1,c1,A2,c2,p,_⟩:=h.blk;have v:=p.lt;have k0:∀ j,j<3→w.cell? ⟨b,5+(c - 1)*3+j,none⟩=some ((#[.int .i64 0,.int .i64 0,.float .f64 0]:Array Value).getD j undef):=fun j B=>by
  refine(zR w b _ _ _ _ p.1).trans ?_;obtain rfl | rfl | rfl | rfl | rfl | rfl | rfl:c=2∨c=3∨c=4∨c=5∨c=6∨c=7∨c=8:=by omega
  all_goals
   obtain rfl | rfl | rfl:j=0∨j=1∨j=2:=by omega
   all_goals rfl
 have k5:=k0 0 (by omega);have k6:=k0 1 (by omega);have k7:=k0 2 (by omega);have q1:¬ (c:Int)<1:=by omega
 have q2:¬ (c:Int) > 8:=by omega
 have q3:(0:Int)≤(c:Int) - 1:=by omega
 have q4:(c:Int) - 1<8:=by omega
 have q5:((c:Int) - 1).toNat=c - 1:=by omega
 obtain⟨a1,a2,u,l⟩:=hAp w (.cells #[.int .i64 0,.float .f64 0] 43) (.cells #[.int .i64 0,.int .i64 0,.float .f64 0] 165);have m:=zH l;have f:=zH a1;have g:=zH a2;have z:=fun(w:World) (a:Addr) (k:FloatKind) (n:Nat)=>run_store Tryz.prog w a (.float k n) .plain rfl;clear h p l a1 a2 k0;simp at k5 k6 k7;go_enter Tryz.func241,Tryz.ntmps241;go_wp2_with fail;generalize World.alloc _ _=w0 at m f g u ⊢;have r0:=zR w0 w.heap.size 0 _ _ _ f.o;have r1:=zR w0 w.heap.size 1 _ _ _ f.o;have rf:=fun k=>frozen_of_row w0 w.heap.size k _ _ f.o;have s0:=zR w0 (w.heap.size+1) 0 _ _ _ g.o;have s1:=zR w0 (w.heap.size+1) 1 _ _ _ g.o;have s2:=zR w0 (w.heap.size+1) 2 _ _ _ g.o;simp at r0 r1 s0 s1 s2;obtain⟨t0,t1⟩:=hAz w0 w.heap.size _ _ _ (.int .i64 0) (.float .f64 0) f.o;have q:=zH t0;have s:=zH (m.o.grown t1 m.o.size (fun kk t=>by have h:=Option.some.inj t;omega));clear t0 t1;go_region_law (fail)
 all_goals
  go_wp2_with fail;exact bodyPost_ret (hCq rfl _ _ w.heap.size _ rfl (by rfl) q.o) rfl ⟨rfl,s.o.trans ((Below.refl _ _:Below _ _ _).trans (hAc (Below.refl w.heap.size _) 1))⟩
theorem hJs {W:World} {tb:Nat} {M:Array Value} {T:TypeId} (h:W.heap[tb]?=some (.cells M T (0,0))):W.rangeAt tb 0 M.toList:=fun j v a=>by
 rw[zR W tb (0+j) _ _ _ h,Nat.zero_add];simpa using a
theorem hWi (T:ByteArray) (e m:Nat) (SA:Option Addr) (sc:Nat) (MA:Option Addr) (mc:Nat) (LA:Option Addr) (lc:Nat):(Tryz.prog.info? 122).map (·.size)=some (setC T e m SA sc MA mc LA lc).size:=by
 show _=some 5
 kernel_rfl
theorem hQ4 {o:Tags} {w:World} {rho:Nat→Rq} {b:Nat} {z:RB} {r:SRep} {be m:Nat} (k n:Nat) (c:k+n≤88) (h:RepF w o rho b z r be m):w.there b k n:=fun j a=>⟨by
 rw[zR w b (k+j) _ _ _ h.blk.1,Array.getElem?_eq_getElem (by show k+j<88;omega)];rfl,h.fz _⟩
abbrev z8:Array Value:=#[.int .i64 0,.int .i64 0,.int .i64 0,.string ⟨#[]⟩,.float .f64 0,.int .i64 0,.int .i64 0,.string ⟨#[]⟩]
theorem gAm:z8.all (·.oneCell')=true:=by simp[Value.oneCell']
theorem gAf (rho:Nat→Rq):wt8 rho 0=z8:=by kernel_rfl
theorem hPa (rho:Nat→Rq) (z:RB) (r:SRep) (k:Nat) (a:k<9):setL (repC rho z { r with waiting:=0 }) (5+k*8) (wt8 rho 0).toList=repC rho z { r with waiting:=0 }:=by
 obtain rfl | rfl | rfl | rfl | rfl | rfl | rfl | rfl | rfl:k=0∨k=1∨k=2∨k=3∨k=4∨k=5∨k=6∨k=7∨k=8:=by omega
 all_goals kernel_rfl
theorem hT0 {o:Tags} {w:World} {rho:Nat→Rq} {b:Nat} {z:RB} {r:SRep} {be m:Nat} (k:Nat) (a:k<9) (g:r.waiting=0) (h:RepF w o rho b z r be m) :
  RepF (w.setCells b (5+k*8) (wt8 rho 0).toList) o rho b z r be m∧ChgR (r.id+1) o o w (w.setCells b (5+k*8) (wt8 rho 0).toList):=by
 obtain⟨_,_,_,d⟩:=hAx (wt8 rho 0).toList (5+k*8) w b _ _ h.blk.1;have hc:Chg (tg r.id 1) o o w (w.setCells b (5+k*8) (wt8 rho 0).toList):=Chg.grown d (fun k a _=>by cases a;exact h.blk.2);refine⟨h.upd1 1 hc h.num (fun p _=>rfl) ⟨?_,h.blk.2⟩,hc.r (by decide)⟩;have c:=hBo (wt8 rho 0).toList (5+k*8) w b _ _ h.blk.1;have e:setL (repC rho z r) (5+k*8) (wt8 rho 0).toList=repC rho z r:=by
  have f:r={ r with waiting:=0 }:=by
   cases r;cases g;rfl
  rw[f];exact hPa rho z r k a
 rw[e] at c;exact c
theorem hTx {o:Tags} {rho:Nat→Rq} {b:Nat} {z:RB} {r:SRep} {m:Nat} (bys:List Nat) (he:r.log.e=0) (hw:r.waiting=0) (b2 kb2:Nat) (SA:Option Addr) (sc:Nat) (MA:Option Addr) (mc:Nat) (LA:Option Addr) (lc:Nat) (w:World) (h:RepF w o rho b z r 0 m)
  (hl:LedAt w o (tg r.id 6) b2 kb2 rho 1 4) (Ht:SetAt w o rho SA sc MA mc LA lc (some bys)) :
  Calls Tryz.prog 261 #[.pointer (some ⟨b,0,none⟩),.pointer (some ⟨b2,0,none⟩),.agg (setC (ledT rho 1 4) 0 bys.length SA sc MA mc LA lc)] w fun e w'=>e=.returned (.tuple #[])∧∃ o' z',RepF w' o' rho b z' ((({ r with settled:=some bys,d:=4 }:SRep).renew 1).calm.stop) 1 m∧ChgR (r.id+1) o o' w w':=by
 obtain⟨S5,y⟩:=zN (setC (ledT rho 1 4) 0 bys.length SA sc MA mc LA lc);have q:=zH ((Below.refl w.heap.size w).alloc (Nat.le_refl _) (.cells S5 122));have HN:=zH (heap_alloc_new w (.cells S5 122));have Y:=zH (h.keepT q.o (Tags.ext_old o w.heap.size 7));have V:=zH (hl.fix (P:=fun _=>True) (Fix.below q.o (Tags.ext_old o w.heap.size 7)) trivial trivial);have D:=zH (Ht.fix (P:=fun _=>True) (Fix.below q.o (Tags.ext_old o w.heap.size 7)) trivial);have Hq:=Tags.ext_new o w.heap.size 7 w.heap.size (Nat.le_refl _);have B:=zH (ChgR.below (k:=r.id+1) q.o (Tags.ext_old o w.heap.size 7));have Hx:=zH h.lt;have ag:zI (S5.size=5):=zH (by rw[y];rfl);have Hb:zI ((Tryz.prog.info? 122).map (·.size)=some S5.size):=zH (by rw[y];exact hWi _ _ _ _ _ _ _ _ _);have ai:zI ((Tryz.prog.info? 122).map (·.size)=some S5.toList.length):=zH (by rw[Array.length_toList];exact Hb.o);have ae:zI (S5.all (·.oneCell')=true):=zH (by rw[y];unfold setC;simp[Value.oneCell']);rw[←y];have ah:=zH y;have HE:=zH he;have HW:=zH hw;clear h hl Ht y he hw;go_enter Tryz.func261,Tryz.ntmps261;go_wp2_with fail;obtain⟨g,hg⟩:=zN (w.heap.size);rw[←hg] at HN q Hx Y V D Hq B ⊢;clear hg;generalize o.ext g 7=o1 at Y V D Hq B ⊢;generalize w.alloc _=w1 at q HN Y V D B ⊢;have E:Below w1.heap.size w1 w1.drew:=Below.drew (Below.refl _ _);have f:=zH (Y.o.keep E);have X:=zH (V.o.fix (P:=fun _=>True) (Fix.same (o:=o1) E) trivial trivial);have Hc:=zH (D.o.fix (P:=fun _=>True) (Fix.same (o:=o1) E) trivial);have C:=zH (show w1.drew.heap[g]?=some (.cells S5 122 (0,0)) from HN.o);have T:=zH (B.o.trans (ChgR.below (k:=r.id+1) (o':=o1) E (fun _ _=>rfl)));have Hj:b≠g:=by have:=Hx.o;omega
 clear E q HN Y V D B;go_cut [] from 9 (fun wx=>zI (∃ o2,RepF wx o2 rho b { z with bk:=b2,kb:=kb2,SA:=SA,sac:=sc,MA:=MA,mac:=mc,LA:=LA,lac:=lc } { r with settled:=some bys,d:=4 } 1 m∧ChgR (r.id+1) o o2 w wx))
 case first=>
  refine wp_region_held_drew (S:=(fun W=>W.heap[g]?=some (.cells S5 122 (0,0)))) (by kernel_rfl) C.o (fun J=>?_);change wpAnyH _ _ _ _ _ 10 (Array.replicate 10 false) _ _;generalize w1.drew=w2 at f X Hc C T J ⊢
  (refine zT 0 9 rfl rfl (v:=?v9) (.inl ⟨by rfl,?y9⟩) ?_;case y9=>(intro w c;(try dsimp only at c);go_simp;try with_reducible rfl));(try dsimp only);simp only[zA,zC,zD]
  (refine zT 1 10 rfl rfl (v:=?v10) (.inl ⟨by rfl,?y10⟩) ?_;case y10=>(intro w c;(try dsimp only at c);go_simp;try with_reducible rfl));(try dsimp only);simp only[zA,zC,zD]
  (refine zT 2 11 rfl rfl (v:=?v11) (.inl ⟨by rfl,?y11⟩) ?_;case y11=>(intro w c;(try dsimp only at c);go_simp;try with_reducible rfl));(try dsimp only);simp only[zA,zC,zD]
  (refine zT 3 12 rfl rfl (yieldsIf_load_mid (by rfl) 122 (.tmp 5) (by rfl) g 0 (by rfl) S5.toList _ (fun W hW=>hJs hW) Tryz.underlying122 rfl ai.o) ?_);(try dsimp only);simp only[zA,zC,zD]
  (refine zT 4 13 rfl rfl (v:=?v13) (.inl ⟨by rfl,?y13⟩) ?_;case y13=>(intro w c;(try dsimp only at c);go_simp;try with_reducible rfl));(try dsimp only);simp only[zA,zC,zD]
  (refine zT 5 14 rfl rfl (v:=?v14) (.inl ⟨by rfl,?y14⟩) ?_;case y14=>(intro w c;(try dsimp only at c);go_simp;try with_reducible rfl));(try dsimp only);simp only[zA,zC,zD];have t2:=f.o.c2;have f2:=f.o.fz 2;refine wpAnyH_ready (rs:=[6]) (by kernel_rfl) (by simp) ?_;refine AllReadyH.cons rfl (fun K hK=>?_) AllReadyH.nil;go_simp;have L:w2.grownBy (w2.setCell ⟨b,2,none⟩ (.pointer (some ⟨b2,0,none⟩))) (some b):=hAb (hAa (Below.refl _ _) _) (p:=⟨b,2,none⟩) (.inl rfl) _;have G:(w2.setCell ⟨b,2,none⟩ (.pointer (some ⟨b2,0,none⟩))).heap[g]?=some (.cells S5 122 (0,0)):=(L.block g (zL C.o) (fun e=>Hj (Option.some.inj e).symm)).trans C.o;have l:=heap_setCell_same w2 b 2 _ _ (.pointer (some ⟨b2,0,none⟩)) f.o.blk.1;refine hK.out _ _ G (fun _=>?_);try dsimp only
  clear hK K t2 f2;generalize w2.setCell _ _=w3 at L G l ⊢
  (refine zT 7 15 rfl rfl (v:=?v15) (.inl ⟨by rfl,?y15⟩) ?_;case y15=>(intro w c;(try dsimp only at c);go_simp;try with_reducible rfl));(try dsimp only);simp only[zA,zC,zD]
  (refine zT 8 16 rfl rfl (v:=?v16) (.inl ⟨by rfl,?y16⟩) ?_;case y16=>(intro w c;(try dsimp only at c);go_simp;try with_reducible rfl));(try dsimp only);simp only[zA,zC,zD];refine wpAnyH_ready (rs:=[9]) (by kernel_rfl) (by simp) ?_;refine AllReadyH.cons rfl (fun K hK=>?_) AllReadyH.nil;rw[if_pos (by rfl)];have az:w3.there b 78 S5.size:=fun j hj=>by
   rw[ag.o] at hj;refine⟨?_,frozen_of_row w3 b _ _ _ l⟩;rw[zR w3 b (78+j) _ _ _ l,Array.getElem?_eq_getElem (by show 78+j<88;omega)];rfl
  refine wp_store_mid 122 (.tmp 16) (.tmp 12) (by rfl) b 78 S5 (by rfl) (by rfl) az Hb.o ae.o ?_;obtain⟨_,_,_,Hp⟩:=hAx S5.toList 78 w3 b _ _ l;have N:=hBo S5.toList 78 w3 b _ _ l;refine hK.out _ _ ((Hp.block g (zL G) (fun e=>Hj (Option.some.inj e).symm)).trans G) (fun _=>?_);try dsimp only
  clear hK K;refine wpAnyH_done (by kernel_rfl) ?_ _;have ar:w2.grownBy (w3.setCells b 78 S5.toList) (some b):=hEu L Hp;have F:Chg (tg r.id 1) o1 o1 w2 (w3.setCells b 78 S5.toList):=Chg.grown ar (fun k hk _=>by cases hk;exact f.o.blk.2);have hF:Fix (fun t=>∀ p∈[1,6,12],t≠tg r.id p) o1 o1 w2 (w3.setCells b 78 S5.toList):=hBk F (by decide);have Hl:RepF (w3.setCells b 78 S5.toList) o1 rho b { z with bk:=b2,kb:=kb2,SA:=SA,sac:=sc,MA:=MA,mac:=mc,LA:=LA,lac:=lc } { r with settled:=some bys,d:=4 } 1 m:=by
   refine f.o.upd [1,6,12] hF { f.o.num with d:=(by show 4≤8;omega) } (fun p hp=>by rcases p with _|_|_|_|_|_|_|_|_|_|_|_|_|_|p<;>first | exact absurd (by decide) hp | rfl) ?_;intro p hp;rcases(by simpa using hp:p=1∨p=6∨p=12) with rfl | rfl | rfl
   ·refine⟨N.trans ?_,f.o.blk.2⟩;rw[ah.o];have e:setL ((repC rho z r).setIfInBounds 2 (.pointer (some ⟨b2,0,none⟩))) 78 (setC (ledT rho 1 4) 0 bys.length SA sc MA mc LA lc).toList=repC rho { z with bk:=b2,kb:=kb2,SA:=SA,sac:=sc,MA:=MA,mac:=mc,LA:=LA,lac:=lc } { r with settled:=some bys,d:=4 }:=by kernel_rfl
    rw[e]
   ·exact X.o.fix (F.fix (P:=fun t=>t≠tg r.id 1) (by simp)) (by unfold tg;omega) (hCe _ _).symm
   ·exact Hc.o.fix (F.fix (P:=fun t=>t≠tg r.id 1) (by simp)) (hCe _ _).symm
  have aB:=zH Hl;have aH:=zH (T.o.trans (F.r (by decide)));clear Hl hF F ar L Hp G l N az J;go_wp2_with fail;go_meet
  case rel=>exact zH ⟨o1,aB.o,aH.o⟩
 case rest=>
  obtain⟨o2,M,ak⟩:=hcut.o;clear hcut f X Hc C T Hj Hq ah Hb ai ae ag;have H:=M.blk;rw[show repC rho { z with bk:=b2,kb:=kb2,SA:=SA,sac:=sc,MA:=MA,mac:=mc,LA:=LA,lac:=lc } { r with settled:=some bys,d:=4 }=((repC rho { ({ z with bk:=b2,kb:=kb2,SA:=SA,sac:=sc,MA:=MA,mac:=mc,LA:=LA,lac:=lc }:RB) with S:=none,sc:=0 } (({ r with settled:=some bys,d:=4 }:SRep).renew 1)).setIfInBounds 0 (.pointer (some ⟨z.tb,0,none⟩))).setIfInBounds 77 (.slice z.S r.says.length z.sc) by kernel_rfl] at H;have n:=M.num;have aa:=zH (hKh (r:={ r with settled:=some bys,d:=4 }) (be:=1) (m:=m) (by omega) ⟨n.id,(by show 1≤1;omega),(by show 0≤15;omega),n.d,(by intro x hx;cases hx),List.nodup_nil,(by intro x hx;cases hx),List.nodup_nil,(by show 1≤4*1+1;omega),(by show 4*1+1≤9;omega),n.fails,n.tend,n.wait,(by have:=n.says;show 0+m≤1000;omega),n.o,n.hist,(by intro x hx;cases hx),n.left,n.now⟩ _ _ wc H (fun p _=>M.part p));have Hy:=zH ak;clear M ak H n;go_wp2_with fail;refine aa.o.mono ?_;rintro e w3 ⟨rfl,o3,z3,i,am,Hk⟩;have Z:=zH i;have Hz:=zH (Hy.o.trans am);have aG:=zH (show z3.bk=b2 from Hk);clear i am Hk aa Hy;obtain⟨r3,i⟩:=zN (({ r with settled:=some bys,d:=4 }:SRep).renew 1);have U:zI (r3.id=r.id):=zH (by rw[i];rfl);have I:zI (r3.waiting=0):=zH (by rw[i];exact HW.o);have aI:zI (r3.d=4):=zH (by rw[i];rfl);rw[←i] at Z;have aK:=zH i;clear i HW;have hO:=fun(k:Nat) (hk:k<9) ok wr (h:RepF wr ok rho b z3 r3 1 m)=>zH (show ∃ (sk cd:Nat) (rl:Nat),Calls Tryz.prog 241 #[.pointer (some ⟨b2,0,none⟩),.int .i64 k] wr fun e w'=>e=.returned (.tuple #[.int .i64 sk,.agg #[.int .i64 cd,.float .f64 rl]])∧Below wr.heap.size wr w' from by
   have hb:=h.book;rw[aG.o,aI.o] at hb;by_cases h1:k=1
   ·subst h1;exact⟨4,_,_,hMe b2 z3.kb (tg r3.id 6) ok rho 1 4 wr hb⟩
   ·exact⟨0,0,0,hTf b2 z3.kb (tg r3.id 6) ok rho 1 4 k h1 (by omega) wr hb⟩)
  go_wp2_with fail;go_loopw [19] (fun j wr=>∃ k:Nat,k≤9∧j=.int .i64 k∧zI (∃ ok,RepF wr ok rho b z3 r3 1 m∧ChgR (r.id+1) o ok w wr)) (fun j _=>9 - (intOf j).toNat)
  case atStart=>exact⟨0,by omega,rfl,zH ⟨o3,Z.o,Hz.o⟩⟩
  case round=>
   obtain⟨k,hk,rfl,ay⟩:=hrel;obtain⟨ok,ax,aq⟩:=ay.o;have s:=zH ax;have R:=zH aq;clear ay ax aq;have q0:(0:Int)≤(k:Int):=by omega
   by_cases hk9:k<9
   ·have q1:(k:Int)<9:=by omega
    obtain⟨sk,cd,rl,au⟩:=(hO k hk9 ok wr s.o).o;have hJ:=zH au;have q2:(0:Int)≤(sk:Int):=by omega
    have aU:=fun(w:World) (a:Addr) (k:FloatKind) (n:Nat)=>run_store Tryz.prog w a (.float k n) .plain rfl;clear au;go_wp2_with fail;refine hJ.o.mono ?_;rintro e w5 ⟨rfl,Hg⟩;have aj:=(Below.refl w5.heap.size w5).alloc (Nat.le_refl _) (.cells #[.int .i64 cd,.float .f64 rl] 43);have Hh:=Hg.trans (aj.mono Hg.size);have u:=zH (s.o.keep Hh);have O:=zH (R.o.trans (ChgR.below (k:=r.id+1) (o':=ok) Hh (fun _ _=>rfl)));have aV:=u.o.wait_at k hk9 1 (.int .i64 0) (by rw[I.o,show(if k=1 then 0 else 0)=0 by split<;>rfl];rfl);have aL:=zH (show ∀ W:World,W=w5.alloc (.cells #[.int .i64 cd,.float .f64 rl] 43)→W.there b (5+k*8) 8 from fun W e=>by rw[e];exact hQ4 (5+k*8) 8 (by omega) u.o);obtain⟨aw,ap⟩:=hT0 k hk9 I.o u.o;have Ha:=zH aw;have Q:=zH (O.o.trans (by rw[←U.o];exact ap));clear aw ap Hg Hh aj hJ;go_wp2_with (first
     |refine wpList_store_mid (by rfl) 116 (.tmp 48) (.tmp 45) (by rfl) b (5+k*8) (wt8 rho 0) (by rfl) (by rfl) (aL.o _ (by with_reducible rfl)) (by show _=some 8;kernel_rfl) (hFp rho 0) ?_)
    exact⟨⟨k+1,by omega,by go_num,zH ⟨ok,Ha.o,Q.o⟩⟩,by simp[intOf];omega⟩
   ·obtain rfl:k=9:=by omega
    clear hk9 hO Z Hz q0;have x4:=s.o.c4;have hI:=zH (hLv z3.tm r3.fails r3.running r3.tend wr s.o.tim.1);go_wp2_with fail;refine hI.o.mono ?_;rintro e w5 ⟨rfl,ht,hg⟩;obtain⟨av,an⟩:=hCz s.o ht hg (by omega) s.o.num.tend;have hU:=zH (show RepF w5 ok rho b z3 r3.calm 1 m from av);have HJ:=zH (R.o.trans (by rw[←U.o];exact an));have ab:=zH (hDp w5 hU.o);clear x4 av an ht hg hI s R;go_wp2_with fail;refine ab.o.mono ?_;rintro e w6 ⟨rfl,o6,Hr,ao⟩;rw[hI8 (r:=r3.calm) I.o] at Hr;have u:=zH Hr;have O:=zH (HJ.o.trans (by rw[←U.o];exact ao));have aJ:=zH (hGd (r:=r3.calm.stop) I.o w6 u.o);clear Hr ao ab hU HJ;go_wp2_with fail;refine aJ.o.mono ?_;rintro e w7 ⟨rfl,Hi⟩;have Ha:=zH (u.o.keep Hi);have Q:=zH (O.o.trans (ChgR.below (k:=r.id+1) (o':=o6) Hi (fun _ _=>rfl)));clear Hi;go_wp2_with fail;go_end0;exact⟨rfl,o6,z3,by have h:=Ha.o;rw[aK.o] at h;exact h,Q.o⟩
theorem hSs {o:Tags} {rho:Nat→Rq} {b:Nat} {z:RB} {r:SRep} {be m:Nat} (f:ROk rho) (hc:cnt r.votes<3) (w:World) (h:RepF w o rho b z r be m) :
  Calls Tryz.prog 252 #[.pointer (some ⟨b,0,none⟩)] w fun e w'=>e=.returned (.tuple #[])∧Below w.heap.size w w':=by
 have g:=h.num.e;have d:=zH (hRa z.tl z.vm z.cm (tg r.id 4) o r.log.e _ (hCy f _ _ (by omega)).2 r.votes (by rw[←hJh h.num.nodup h.num.votes];exact hc) w h.tal);have x0:=h.c0;have y1:=h.t1;clear h;go_enter Tryz.func252,Tryz.ntmps252;go_wp2_with fail;refine d.o.mono ?_;rintro e w1 ⟨rfl,c⟩;have a:=zH c;clear x0 y1 d c;go_wp2_with fail;refine bodyPost_ret (results_none rfl _ _ _) rfl ?_;exact⟨rfl,a.o.trans ((Below.refl w1.heap.size w1).alloc (Nat.le_refl _) _ |>.mono a.o.size)⟩
theorem hNm (T:ByteArray) (n:Nat) (a:n≠0) (SA:Option Addr) (sc:Nat) (MA:Option Addr) (mc:Nat) (LA:Option Addr) (lc:Nat):setC T 0 n SA sc MA mc LA lc=#[.string T,.slice SA n sc,.int .i64 1,.slice MA 4 mc,.slice LA n lc]:=by
 unfold setC;rw[if_neg a,if_neg a,if_neg a];rfl
theorem hTy {o o':Tags} {w w':World} {rho:Nat→Rq} {b:Nat} {z:RB} {r:SRep} {be m:Nat} (h:RepF w o rho b z r be m) (bys:List Nat) (c:TrAt w' o' (tg r.id 7) z.ch [bys]) (hc:Chg (tg r.id 7) o o' w w') :
  RepF w' o' rho b z { r with chain:=some bys } be m∧ChgR (r.id+1) o o' w w':=
 ⟨h.upd1 7 hc { h.num with } (fun p a=>by rcases p with _|_|_|_|_|_|_|_|_|_|_|_|_|_|p<;>first | exact absurd (by decide) a | rfl) c,hc.r (by decide)⟩
theorem hQo {o:Tags} {rho:Nat→Rq} {b:Nat} {z:RB} {r:SRep} {m:Nat} (hr:ROk rho) (hc:3≤cnt r.votes) (he:r.log.e=0) (hw:r.waiting=0) (Hu:r.chain=none) (w:World) (h:RepF w o rho b z r 0 m) :
  Calls Tryz.prog 252 #[.pointer (some ⟨b,0,none⟩)] w fun e w'=>e=.returned (.tuple #[])∧∃ o' z',RepF w' o' rho b z' ((({ r with chain:=some (among r.votes 4),settled:=some (among r.votes 4),d:=4 }:SRep).renew 1).calm.stop) 1 m∧ChgR (r.id+1) o o' w w':=by
 have aB:r.votes.length=cnt r.votes:=(hJh h.num.nodup h.num.votes).symm;have X:=h.tal;rw[he] at X;obtain⟨bys,Ha⟩:=zN (among r.votes 4);have hq:Qu bys:=by rw[Ha];exact hV2 hc
 have hO:∃ k,k<4∧k∈r.votes:=by
  obtain⟨x,E⟩:=List.exists_mem_of_length_pos (show 0<(among r.votes 4).length from Nat.lt_of_lt_of_le (by omega) hc);exact⟨x,(hEj _ _ _).1 E⟩
 have S:=zH (hPd z.tl z.vm z.cm (tg r.id 4) o 0 (by omega) _ (hCy hr _ _ (by omega)).2 r.votes (by omega) hO w X);rw[←Ha] at S ⊢;have Q:=fun o A c w hm=>zH (hX9 rho hr 1 (by omega) (hIs rho 4) (tg r.id 6) o A c w hm);have x0:=h.c0;have y1:=h.t1;have HR:=zH h;have HQ:=zH hq;have n0:bys.length≠0:=by have:=hq.three;omega
 obtain⟨n,hn⟩:=zN (bys.length);have HE:=zH he;have HW:=zH hw;have ak:=zH Hu;rw[←hn] at S n0;have O:=zH hn;obtain⟨T,hT⟩:=zN (ledT rho 1 4);have Hq:ledT rho (0+1) (4*(0+1))=T:=by rw[hT]
 rw[Hq] at S;have HT:=zH hT;have Hr:ledT rho 1 (4*1)=T:=by rw[hT]
 simp only[Hr] at Q;clear h X hO hq he hw Hu aB hc Ha hn hT Hq Hr;go_enter Tryz.func252,Tryz.ntmps252;go_wp2_with fail;refine S.o.mono ?_;rintro e w1 ⟨⟨SA,sc,MA,mc,LA,lc,rfl,hI,Hx,Hy⟩,K⟩;rw[hNm T n n0];have B:=(Below.refl w1.heap.size w1).alloc (Nat.le_refl _) (.cells #[.string T,.slice SA n sc,.int .i64 1,.slice MA 4 mc,.slice LA n lc] 122);have v:=heap_alloc_new w1 (.cells #[.string T,.slice SA n sc,.int .i64 1,.slice MA 4 mc,.slice LA n lc] 122);have Y:=K.trans (B.mono K.size);have i:=Tags.ext_new o w.heap.size 0;have H:=zH (HR.o.keepT Y (Tags.ext_old o w.heap.size 0));have F:=zH (ChgR.below (k:=r.id+1) Y (Tags.ext_old o w.heap.size 0));have s:=zH ((Hy.keep B).data' (o.ext w.heap.size 0) (fun x E=>i x E));have J:=zH ((SlD.of_own hI (by unfold sgl;rw[List.length_map,O.o]) (o.ext w.heap.size 0) (fun x E _=>i x E)).fix (P:=fun _=>True) (Fix.same B) trivial);have G:=zH ((SlD.of_own Hx (by unfold sgl;rw[List.length_map,O.o]) (o.ext w.heap.size 0) (fun x E _=>i x E)).fix (P:=fun _=>True) (Fix.same B) trivial);have L:(o.ext w.heap.size 0) w1.heap.size=0:=i _ K.size;have c0:=(zR _ w1.heap.size 0 _ _ _ v).trans (show _=some (Value.string T) from rfl);have c2:=(zR _ w1.heap.size 2 _ _ _ v).trans (show _=some (Value.int .i64 1) from rfl);have c3:=(zR _ w1.heap.size 3 _ _ _ v).trans (show _=some (Value.slice MA 4 mc) from rfl);have l:=zH v;generalize o.ext w.heap.size 0=o2 at H F s J G L;have Hc:=Q o2 MA mc _ s.o.1;clear B v Y K hI Hx Hy i x0 y1 S HR;go_wp2_with fail;obtain⟨g,hg⟩:=zN (w1.heap.size);rw[←hg] at l L ⊢;clear hg c0 c2 c3;generalize w1.alloc _=w2 at H F s J G l Hc ⊢;refine Hc.o.mono ?_;rintro e w3 ⟨b2,kb2,o3,rfl,Hw,j,_,f⟩;have I:=zH (H.o.keepT f j);have Hi:=zH (F.o.trans (ChgR.below (k:=r.id+1) f j));have N:=zH (s.o.fix (P:=fun _=>True) (Fix.below f j) trivial);have U:=zH (J.o.fix (P:=fun _=>True) (Fix.below f j) trivial);have M:=zH (G.o.fix (P:=fun _=>True) (Fix.below f j) trivial);have p:=zH ((f.block g (zL l.o)).trans l.o);have ay:o3 g=0:=(j g (zL l.o)).trans L;have Hk:=zH (show LedAt w3 o3 (tg r.id 6) b2 kb2 rho 1 4 from Hw);clear Hw j f H F s J G l L Hc Q;go_wp2_with fail;have c2:=zQ _ g 2 (.int .i64 1) p.o;have c3:=zQ _ g 3 (.slice MA 4 mc) p.o;have c4:=zQ _ g 4 (.slice LA n lc) p.o;have gl:=(zL p.o);have x3:=fun y:Bel w3.heap.size w3=>y.cell I.o.lt I.o.c3;have u2:=fun y:Bel w3.heap.size w3=>y.cell gl c2;have u3:=fun y:Bel w3.heap.size w3=>y.cell gl c3;have u4:=fun y:Bel w3.heap.size w3=>y.cell gl c4;clear c2 c3 c4;refine hAi 8 w3.heap.size w3 (by kernel_rfl) (by kernel_rfl) (Below.refl _ _) ?_;simp only[List.take_succ_cons,List.take_zero,List.drop_succ_cons,List.drop_zero];repeat (go_big_quiet_step (fail))
 refine wpQuiet_nil ?_;rintro⟨wy,q⟩;show wpList _ _ _ _ _ wy;have R:=zH (I.o.keep q);have D:=R.o.chain;rw[ak.o] at D;have a:=M.o.fix (P:=fun _=>True) (Fix.same q) trivial;have Hh:=zH (hZr z.ch (tg r.id 7) (hCe _ _) o3 MA mc LA n lc bys HQ.o wy D (N.o.1.keep q) a);have Hj:=zH (Hi.o.trans (ChgR.below (k:=r.id+1) (o':=o3) q (fun _ _=>rfl)));have Hm:=zH (N.o.fix (P:=fun _=>True) (Fix.same q) trivial);have V:=zH (U.o.fix (P:=fun _=>True) (Fix.same q) trivial);have a:=zH a;have Hp:=zH ((q.block g gl).trans p.o);have Hl:=zH (Hk.o.fix (P:=fun _=>True) (Fix.same q) trivial trivial);clear x3 u2 u3 u4 gl D q I Hi N U M p Hk;go_wp2_with fail;refine Hh.o.mono ?_;rintro e w4 ⟨rfl,o4,hJ,Hb⟩;obtain⟨Hz,C⟩:=hTy R.o bys hJ Hb;have W:=Hb.fix (P:=fun t=>t≠tg r.id 7) (by simp);have u:=(hCe r.id 7).symm;have ar:=zH Hz;have ai:=zH (Hj.o.trans C);have an:=zH (Hm.o.fix W u);have aa:=zH (V.o.fix W u);have hU:=zH (a.o.fix W u);have am:=zH (Hl.o.fix W (by unfold tg;omega) u);have ao:=zH (C.at Hp.o (by rw[ay];simp));have Hf:SetAt w4 o4 rho SA sc MA mc LA lc (some bys):=⟨fun e=>(by cases e),fun bs e=>by
  cases e;refine⟨HQ.o.three,?_,an.o,?_⟩
  ·have h:=aa.o;rw[O.o,HT.o] at h;exact h
  ·have h:=hU.o;rw[O.o] at h;exact h⟩
 have Z:=hTx (r:={ r with chain:=some bys }) (m:=m) bys HE.o HW.o b2 kb2 SA sc MA mc LA lc w4 ar.o am.o Hf;rw[←O.o,←HT.o,hNm T n n0] at Z;have ah:=zH Z;have av:=zH (hJs ao.o);clear hJ Hb Hz C W u Hf Z R Hh Hj Hm V a Hp Hl;go_wp2_with (first
  |refine wpList_load_mid (by rfl) 122 (.tmp 2) (by rfl) g 0 (by rfl) [_,_,_,_,_] _ (av.o) Tryz.underlying122 rfl (by show _=some 5;kernel_rfl) ?_)
 refine ah.o.mono ?_;rintro e w5 ⟨rfl,o5,z5,HJ,Ht⟩;have au:=zH HJ;have aj:=zH (ai.o.trans Ht);clear HJ Ht;go_wp2_with fail;go_end0;exact⟨rfl,o5,z5,au.o,aj.o⟩
theorem hK5 (rho:Nat→Rq) (r:SRep) (l:r.log.e≤60) (n j:Nat) (d:r.slot n=some j) :
  ∃ (a c k f:Int) (s:ByteArray) (e:Nat),((r.getS j).done=true→six a c k s e f=(rho n).v)∧∀ (w:World) (o:Tags) (lb:Nat) (ms:Nat→Nat),LogAt w o (tg r.id 3) lb ms rho r.log →
   Calls Tryz.prog 277 #[.pointer (some ⟨lb,0,none⟩),.int .i64 n] w (fun e' w'=>e'=.returned (.tuple #[.agg (six a c k s e f),.bool (r.getS j).done])∧Below w.heap.size w w'):=by
 unfold SRep.slot at d;split at d
 ·rename_i m;injection d with hj;have g:j<4:=by omega
  have i:n=4*r.log.e+1+j:=by omega
  have hc:=fun w o lb ms h=>hK7 lb (tg r.id 3) o ms rho r.log l j g w h;rw[←i] at hc;cases hd:(r.getS j).done
  ·have b:(r.log.sl.getD j SSl.new).done=false:=hd;rw[b] at hc;exact⟨0,0,0,0,⟨#[]⟩,0,(fun h=>by cases h),hc⟩
  ·have b:(r.log.sl.getD j SSl.new).done=true:=hd;rw[b] at hc;exact⟨1,((rho n).st:Int),((rho n).kind:Int),0,(rho n).key,(rho n).real,fun _=>rfl,hc⟩
 ·cases d
def SRep.perf (r:SRep):SRep:={ r with o:=r.o++[(101,⟨8,r.log.e,0,r.d+1,[]⟩)],d:=r.d+1,hist:=r.hist+1,waiting:=0 }
def SRep.at (r:SRep) (k:Nat):SRep:=if k=1 then r else r.perf
theorem hJm {r r2:SRep} (h:r.performs=some r2):∃ pf:Bool,r2=(if pf then r.perf.calm.restart else r)∧∀ k,k≤1→(k=0→pf=true) →
  ((r.at k).full=true∧r.at k=(if pf then r.perf else r))∨((r.at k).full=false∧∃ j,(r.at k).slot ((r.at k).d+1)=some j∧(((r.at k).getS j).done=false∧r.at k=(if pf then r.perf else r)∨((r.at k).getS j).done=true∧k=1∧pf=true∧r.waiting=r.d+1)):=by
 unfold SRep.performs at h;split at h
 ·rename_i i;cases h;refine⟨false,rfl,fun k m a=>?_⟩;have:k=1:=by
   by_cases h0:k=0
   ·exact absurd (a h0) (by decide)
   ·omega
  subst this;exact .inl ⟨i,rfl⟩
 ·rename_i i;have f:r.full=false:=by simpa using i
  split at h
  ·cases h
  ·rename_i j l;split at h
   ·rename_i g;split at h
    ·cases h
    ·rename_i r1 b;unfold SRep.perform at b;split at b
     ·rename_i p;have e1:r1=r.perf:=by injection b with e;exact e.symm
      subst e1;split at h
      ·rename_i c;injection h with h;refine⟨true,h.symm,fun k m a=>?_⟩;by_cases h0:k=0
       ·subst h0;exact .inl ⟨c,rfl⟩
       ·obtain rfl:k=1:=by omega
        exact .inr ⟨f,j,l,.inr ⟨g,rfl,rfl,p⟩⟩
      ·rename_i c;split at h
       ·cases h
       ·rename_i j1 o;split at h
        ·cases h
        ·rename_i n;injection h with h;refine⟨true,h.symm,fun k m a=>?_⟩;by_cases h0:k=0
         ·subst h0;exact .inr ⟨(eq_false_of_ne_true c),j1,o,.inl ⟨(eq_false_of_ne_true n),rfl⟩⟩
         ·obtain rfl:k=1:=by omega
          exact .inr ⟨f,j,l,.inr ⟨g,rfl,rfl,p⟩⟩
     ·cases b
   ·rename_i g;cases h;refine⟨false,rfl,fun k m a=>?_⟩;have:k=1:=by
     by_cases h0:k=0
     ·exact absurd (a h0) (by decide)
     ·omega
    subst this;exact .inr ⟨f,j,l,.inl ⟨(eq_false_of_ne_true g),rfl⟩⟩
theorem SRep.at_e (r:SRep) (k:Nat):(r.at k).log=r.log:=by unfold SRep.at SRep.perf;split<;>rfl
theorem SRep.at_id (r:SRep) (k:Nat):(r.at k).id=r.id:=by unfold SRep.at SRep.perf;split<;>rfl
def voteR (r:SRep):SRep:=({ r with left:=r.left - 2,votes:=r.votes++[r.id],voted:=true }:SRep).say ⟨5,r.log.e,0,r.d,[r.id]⟩
theorem hGl {r r2:SRep} (h:r.voting=some r2):((r.full && !r.voted)=false∧r2=r)∨(r.full=true∧r.voted=false∧2≤r.left∧r.id∉r.votes∧r2=voteR r):=by
 unfold SRep.voting at h;split at h
 ·rename_i b;rw[Bool.and_eq_true] at b;unfold SRep.vote at h;split at h
  ·cases h
  ·rename_i d;unfold SRep.tAdd at h;split at h
   ·cases h
   ·rename_i r1 a;split at a
    ·cases a
    ·rename_i c;injection a with a;injection h with h;subst a;exact .inr ⟨b.1,by simpa using b.2,by omega,c,h.symm⟩
 ·rename_i b;injection h with h;exact .inl ⟨eq_false_of_ne_true b,h.symm⟩
def beginR (r:SRep):SRep:=(({ r with chain:=some (among r.votes 4),settled:=some (among r.votes 4),d:=4 }:SRep).renew 1).calm.stop
theorem hL5 {r r2:SRep} (h:r.goOver=some r2):(cnt r.votes<3∧r2=r)∨(3≤cnt r.votes∧r.chain=none∧r.waiting=0∧r.log.e=0∧r2=beginR r):=by
 unfold SRep.goOver at h;split at h
 ·rename_i hc;injection h with h;exact .inl ⟨hc,h.symm⟩
 ·rename_i hc;unfold SRep.begin_ at h;split at h
  ·cases h
  ·rename_i a;injection h with h;simp only[Bool.or_eq_true,not_or,Bool.not_eq_true,Bool.not_eq_false',beq_iff_eq,Option.isSome_eq_false_iff,Option.isNone_iff_eq_none] at a;exact .inr ⟨by omega,a.1.1,a.1.2,a.2,h.symm⟩
theorem hBv {o:Tags} {rho:Nat→Rq} {b:Nat} {z:RB} {r r':SRep} {m:Nat} (f:ROk rho) (i:r.goOver=some r') (w:World) (h:RepF w o rho b z r r.log.e m) :
  Calls Tryz.prog 252 #[.pointer (some ⟨b,0,none⟩)] w fun e w'=>e=.returned (.tuple #[])∧∃ o' z',RepF w' o' rho b z' r' r'.log.e m∧ChgR (r.id+1) o o' w w':=by
 rcases hL5 i with⟨hc,rfl⟩ | ⟨hc,c,g,d,rfl⟩
 ·exact(hSs f hc w h).mono (fun e w' a=>⟨a.1,o,z,h.keep a.2,ChgR.below a.2 (fun _ _=>rfl)⟩)
 ·rw[d] at h;exact hQo f hc d g c w h
end Go.Proofs.YtlibpcllceepkaaGreat
