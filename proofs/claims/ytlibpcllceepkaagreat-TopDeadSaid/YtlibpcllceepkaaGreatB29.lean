/- Joined texts of the claim. No condition. -/
import Derived.Test.YtlibpcllceepkaaGreatB28
import Derived.Deep.Cut
namespace Go.Proofs.YtlibpcllceepkaaGreat
open Go.RowKit
set_option maxRecDepth 100000
set_option linter.unusedVariables false
set_option linter.unusedSimpArgs false
set_option maxHeartbeats 16000000
theorem hGi {w0 w:World} {g:Nat} (d:Below w0.heap.size w0 w) (l:w0.heap.size≤g) (h:w.heap[g]?=some (.cells (six 0 0 0 ⟨#[]⟩ 0 0) 36 (0,0))) (a c kd ff:Int) (ky:ByteArray) (re:Nat) :
  w.there g 0 (six a c kd ky re ff).size∧Below w0.heap.size w0 (w.setCells g 0 (six a c kd ky re ff).toList)∧(w.setCells g 0 (six a c kd ky re ff).toList).heap[g]?=some (.cells (six a c kd ky re ff) 36 (0,0)):=by
 obtain⟨_,_,_,f⟩:=hAx (six a c kd ky re ff).toList 0 w g _ _ h;refine⟨fun j i=>⟨?_,frozen_of_row w g _ _ _ h⟩,d.grown f d.size (fun k m=>by cases m;exact l),?_⟩
 ·rw[zR w g (0+j) _ _ _ h,Array.getElem?_eq_getElem (by have i:j<6:=i;show 0+j<6;omega)];rfl
 ·have b:=hBo (six a c kd ky re ff).toList 0 w g _ _ h;have e:setL (six 0 0 0 ⟨#[]⟩ 0 0) 0 (six a c kd ky re ff).toList=six a c kd ky re ff:=by kernel_rfl
  rw[e] at b;exact b
theorem hH1 {o:Tags} {rho:Nat→Rq} {b:Nat} {z:RB} {r:SRep} {m:Nat} (w:World) (h:RepF w o rho b z r r.log.e m) :
  Calls Tryz.prog 276 #[.pointer (some ⟨z.bk,0,none⟩)] w fun e w'=>e=.returned (.bool r.full)∧Below w.heap.size w w':=by
 have a:decide (r.d=4*(r.log.e+1))=r.full:=by
  unfold SRep.full;by_cases h:r.d=4*(r.log.e+1)
  ·rw[decide_eq_true h];exact(beq_iff_eq.2 h).symm
  ·rw[decide_eq_false h];exact(beq_eq_false_iff_ne.2 h).symm
 rw[←a];exact hHu z.bk z.kb (tg r.id 6) o rho r.log.e r.d (by have:=h.num.e;omega) (by have:=h.num.d;omega) w h.book
theorem hNa {o:Tags} {rho:Nat→Rq} {b:Nat} {z:RB} {r r':SRep} {m:Nat} (hr:ROk rho) (hx:r.do_=some r') (w:World) (h:RepF w o rho b z r r.log.e (m+10)) :
  Calls Tryz.prog 211 #[.pointer (some ⟨b,0,none⟩)] w fun e w'=>e=.returned (.tuple #[])∧∃ o' z',RepF w' o' rho b z' r' r'.log.e m∧ChgR (r.id+1) o o' w w':=by
 unfold SRep.do_ at hx;split at hx
 ·cases hx
 rename_i r2 hp;split at hx
 ·cases hx
 rename_i r3 hv;obtain⟨pf,bd,av⟩:=hJm hp;have Hm:=zH av;have HX:=zH hx;have HV:=zH hv;have Hh:=zH bd;have HR:=zH h;have bE:=h.num.e;have x2:=h.c2;have aE:=zH (hBu z.bk z.kb (tg r.id 6) o rho r.log.e r.d w h.book);clear hx hv bd av hp h;go_enter Tryz.func211,Tryz.ntmps211;go_wp2_with fail;refine aE.o.mono ?_;rintro e wx ⟨rfl,rfl⟩;clear x2 aE;go_wp2_with fail;have ak:=fun(rc:SRep) ok zk wr (h:RepF wr ok rho b zk rc rc.log.e (m+8))=>zH (hBu zk.bk zk.kb (tg rc.id 6) ok rho rc.log.e rc.d wr h.book)
 go_loopg [] 1 (fun k wr=>k≤1∧(k=0→pf=true)∧zI (∃ ok zk,RepF wr ok rho b zk (r.at k) r.log.e (m+8+2*k)∧ChgR (r.id+1) o ok w wr))
 case atStart=>exact⟨by omega,by omega,zH ⟨o,z,HR.o,ChgR.refl _ _ _⟩⟩
 case round=>
  obtain⟨aN,aM,bg⟩:=hrel;obtain⟨ok,zk,aS,aZ⟩:=bg.o;obtain⟨rc,hJ⟩:=zN (r.at gk);have an:rc.log=r.log:=by rw[hJ];exact r.at_e gk
  have aR:rc.id=r.id:=by rw[hJ];exact r.at_id gk
  rw[←hJ] at aS;have hI:=Hm.o gk aN aM;rw[←hJ] at hI;have bt:=zH hJ;have aH:=zH an;have bD:=zH aR;have Hr:=zH (show RepF wr ok rho b zk rc rc.log.e (m+8+2*gk) by rw[an];exact aS);have aq:=zH aZ;have HK:=zH (And.intro aN aM);clear bg aS aZ hJ an aR aN aM;have b7:=hH1 wr Hr.o;have i:=zH b7;have x2:=Hr.o.c2;clear b7;rcases hI with⟨hf,ax⟩ | ⟨hf,j,hj,hI⟩
  ·rw[hf] at i;go_wp2_with fail;refine i.o.mono ?_;rintro e w2 ⟨rfl,Hw⟩;have HT:=zH (show ∃ ot zt,RepF w2 ot rho b zt (if pf then r.perf else r) r.log.e (m+8)∧ChgR (r.id+1) o ot w w2 from⟨ok,zk,by
    have h:=(Hr.o.keep Hw).le (show m+8≤m+8+2*gk by omega);rw[aH.o,ax] at h;exact h,aq.o.trans (ChgR.below Hw (fun _ _=>rfl))⟩)
   clear x2 i Hw Hm ak HR Hr aq;obtain⟨ot,zt,HJ,ah⟩:=HT.o;obtain⟨rt,H⟩:=zN ((if pf then r.perf else r));have Hz:rt.log=r.log:=by rw[H];cases pf<;>rfl
   have ai:rt.id=r.id:=by rw[H];cases pf<;>rfl
   rw[←H,←Hz] at HJ;have u:=zH HJ;have Ha:=zH ah;have Ht:=zH H;have aG:=zH Hz;have Hq:=zH ai;clear HJ ah H Hz ai HT;have x2:=u.o.c2;have Hb:=zH (hBu zt.bk zt.kb (tg rt.id 6) ot rho rt.log.e rt.d w2 u.o.book);go_wp2_with fail;refine Hb.o.mono ?_;rintro e wd ⟨rfl,rfl⟩;clear Hb x2;go_upto_if 44 with fail;go_cut [] from 5 (fun wx=>zI (∃ o2 z2,RepF wx o2 rho b z2 r2 r2.log.e (m+8)∧ChgR (r.id+1) o o2 w wx))
   case first=>
    cases pf
    ·have e2:rt=r:=Ht.o;have e3:r2=r:=Hh.o;have q1:¬ r.d<rt.d:=by rw[e2];omega
     have HF:=zH (show RepF w2 ot rho b zt r2 r2.log.e (m+8) by rw[e3];rw[e2] at u;exact u.o);clear e2 e3;go_wp2_with fail;go_meet
     case rel=>exact zH ⟨ot,zt,HF.o,Ha.o⟩
    ·have e2:rt=r.perf:=Ht.o;have e3:r2=r.perf.calm.restart:=Hh.o;have q1:r.d<rt.d:=by rw[e2];show r.d<r.d+1;omega
     have t:=zH (show r2=rt.calm.restart by rw[e2];exact e3);have x4:=u.o.c4;have Z:=zH (hLv zt.tm rt.fails rt.running rt.tend w2 u.o.tim.1);clear e2 e3;go_wp2_with fail;refine Z.o.mono ?_;rintro e w5 ⟨rfl,ht,hg⟩;obtain⟨U,R⟩:=hCz u.o ht hg (by omega) u.o.num.tend;have q:=zH (show RepF w5 ot rho b zt rt.calm rt.log.e (m+8) from U);have C:=zH (Ha.o.trans (by rw[←Hq.o];exact R));have ab:=zH (hDp w5 q.o);clear x4 U R ht hg Z u Ha;go_wp2_with fail;refine ab.o.mono ?_;rintro e w6 ⟨rfl,o6,Hk,Hi⟩;have HF:=zH (show RepF w6 o6 rho b zt r2 r2.log.e (m+8) by
      have hl:rt.calm.restart.log=rt.log:=by
       unfold SRep.restart;split
       ·rfl
       ·unfold SRep.start;split<;>rfl
      rw[t.o,hl];exact Hk)
     have aD:=zH (C.o.trans (by rw[←Hq.o];exact Hi));clear Hk Hi ab q C;go_wp2_with fail;go_meet
     case rel=>exact zH ⟨o6,zt,HF.o,aD.o⟩
   case rest=>
    obtain⟨oq,zq,aj,ag⟩:=hcut.o;have D:=zH aj;have L:=zH ag;have Hc:zI (r2.id=r.id):=zH (by
     rw[Hh.o];cases pf
     ·rfl
     ·show r.perf.calm.restart.id=r.id;unfold SRep.restart;split
      ·rfl
      ·unfold SRep.start;split<;>rfl)
    clear hcut aj ag u Ha Ht aG Hq Hh;have x2:=D.o.c2;have i:=zH (hH1 wc D.o);rcases hGl HV.o with⟨Hf,e3⟩ | ⟨y,V,aO,aP,e3⟩
    ·cases y:r2.full
     ·rw[y] at i;have t:=zH e3;clear Hf y e3;go_wp2_with fail;refine i.o.mono ?_;rintro e w4 ⟨rfl,f⟩;have q:=zH (show RepF w4 oq rho b zq r3 r3.log.e (m+8) by rw[t.o];exact D.o.keep f);have C:=zH (L.o.trans (ChgR.below (k:=r.id+1) (o':=oq) f (fun _ _=>rfl)));have x84:=q.o.c84;have O:zI (r3.id=r.id):=zH (by rw[t.o];exact Hc.o);have N:=zH (hBv (m:=m+3) hr HX.o w4 (q.o.le (by omega)));clear f x2 i D L;go_wp2_with fail;refine N.o.mono ?_;rintro e w9 ⟨rfl,o9,z9,G,F⟩;have P:=zH (G.le (show m≤m+3 by omega));have M:=zH (C.o.trans (by rw[←O.o];exact F));clear G F;go_wp2_with fail;go_end0;exact⟨rfl,o9,z9,P.o,M.o⟩
     ·have V:r2.voted=true:=by rw[y] at Hf;simpa using Hf
      rw[y] at i;have t:=zH e3;have Hu:=zH V;clear Hf y e3 V;go_wp2_with fail;refine i.o.mono ?_;rintro e w4 ⟨rfl,f⟩;have l:=zH (D.o.keep f);have q:=zH (show RepF w4 oq rho b zq r3 r3.log.e (m+8) by rw[t.o];exact l.o);have C:=zH (L.o.trans (ChgR.below (k:=r.id+1) (o':=oq) f (fun _ _=>rfl)));have x84:=q.o.c84;have x0:=l.o.c0;have y6:=l.o.t6;rw[Hu.o] at y6;have O:zI (r3.id=r.id):=zH (by rw[t.o];exact Hc.o);have N:=zH (hBv (m:=m+3) hr HX.o w4 (q.o.le (by omega)));clear f x2 i D L l;go_wp2_with fail;refine N.o.mono ?_;rintro e w9 ⟨rfl,o9,z9,G,F⟩;have P:=zH (G.le (show m≤m+3 by omega));have M:=zH (C.o.trans (by rw[←O.o];exact F));clear G F;go_wp2_with fail;go_end0;exact⟨rfl,o9,z9,P.o,M.o⟩
    ·rw[y] at i;have t:=zH e3;have Hu:=zH V;have aa:=zH (show r2.d=4*(r2.log.e+1) by unfold SRep.full at y;exact beq_iff_eq.1 y);clear y e3 V;go_wp2_with fail;refine i.o.mono ?_;rintro e w4 ⟨rfl,f⟩;have l:=zH (D.o.keep f);have Y:=zH (L.o.trans (ChgR.below (k:=r.id+1) (o':=oq) f (fun _ _=>rfl)));have x0:=l.o.c0;have y6:=l.o.t6;rw[Hu.o] at y6;have ae:=zH (hNh (m:=m+3) hr aa.o aP aO w4 l.o);clear f x2 i D L aa;go_wp2_with fail;refine ae.o.mono ?_;rintro e w5 ⟨rfl,o5,z5,U,R⟩;have q:=zH (show RepF w5 o5 rho b z5 r3 r3.log.e (m+3) by rw[t.o];exact U);have C:=zH (Y.o.trans (by rw[←Hc.o];exact R));have x84:=q.o.c84;have O:zI (r3.id=r.id):=zH (by rw[t.o];exact Hc.o);have N:=zH (hBv (m:=m+3) hr HX.o w5 q.o);clear U R x0 y6 ae l Y;go_wp2_with fail;refine N.o.mono ?_;rintro e w9 ⟨rfl,o9,z9,G,F⟩;have P:=zH (G.le (show m≤m+3 by omega));have M:=zH (C.o.trans (by rw[←O.o];exact F));clear G F;go_wp2_with fail;go_end0;exact⟨rfl,o9,z9,P.o,M.o⟩
  ·rw[hf] at i;have bw:rc.d<8:=by
    have:=Hr.o.num.e;unfold SRep.slot at hj;split at hj
    ·omega
    ·cases hj
   go_wp2_with fail;refine i.o.mono ?_;rintro e w2 ⟨rfl,Hw⟩;have J:=zH (Hr.o.keep Hw);have aW:=zH (aq.o.trans (ChgR.below (k:=r.id+1) (o':=ok) Hw (fun _ _=>rfl)));clear x2 i Hw Hr aq;go_wp2_with fail;obtain⟨a,c,kd,ff,ky,re,aT,aK⟩:=hK5 rho rc (by have:=J.o.num.e;omega) (rc.d+1) j hj;have aw:((rc.d+1:Nat):Int)=(rc.d:Int)+1:=by omega
   rw[aw] at aK;have aI:=zH aT;have Z:=fun w o lb ms h=>zH (aK w o lb ms h);obtain⟨dn,b6⟩:=zN ((rc.getS j).done);rw[←b6] at Z aI hI;have aX:=zH hI;have aF:=fun wr h=>zH (hBu zk.bk zk.kb (tg rc.id 6) ok rho rc.log.e rc.d wr h);have Hy:=J.o.lt;have ay:=J.o.tlt;have x0:=J.o.c0;have x2:=J.o.c2;have y0:=J.o.t0;have n0:(0:Int)≤(rc.d:Int):=by omega
   have n1:(rc.d:Int)<8:=by omega
   have bC:IntKind.i64.wrap ((rc.d:Int)+1)=(rc.d:Int)+1:=by rw[IntKind.wrap_i64];omega
   have bA:=fun(w:World) (a:Addr) (k:FloatKind) (n:Nat)=>run_store Tryz.prog w a (.float k n) .plain rfl;have ar:=zH (show(Tryz.prog.info? 36).map (·.size)=some (six a c kd ky re ff).size from by show _=some 6;kernel_rfl);have au:=zH (show(six a c kd ky re ff).all (·.oneCell')=true by unfold six;simp[Value.oneCell']);have Hb:=fun W (hb:Below w2.heap.size w2 W)=>aF W (J.o.keep hb).book;have ap:=fun W (hb:Below w2.heap.size w2 W)=>Z W ok zk.lb zk.ms (J.o.keep hb).log;clear aT aK hI b6 aw aF Z;go_cut [3,4] from 10 to 37 (fun s3 s4 wx=>∃ gq,s3=.pointer (some ⟨gq,0,none⟩)∧s4=.bool dn∧zI (Below w2.heap.size w2 wx∧wx.heap[gq]?=some (.cells (six a c kd ky re ff) 36 (0,0))))
   case first=>
    refine wp_region_held_drew (S:=(fun W=>Below w2.heap.size w2 W)) (by kernel_rfl) (Below.drew (Below.refl _ _)) (fun B=>?_);change wpAnyH _ _ _ _ _ 20 (Array.replicate 20 false) _ _;generalize w2.drew=w3 at B ⊢;refine zK 0 17 rfl rfl ?_;try dsimp only;try simp only[zA,zC,zD]
    refine zK 1 18 rfl rfl ?_;try dsimp only;try simp only[zA,zC,zD]
    refine zK 2 19 rfl rfl ?_;try dsimp only;try simp only[zA,zC,zD]
    (refine zT 3 20 rfl rfl (v:=?v20_4) (.inl ⟨by rfl,?y20_4⟩) ?_;case y20_4=>(intro w I;have e0:=(Below.cell I (p:=⟨b,0,none⟩) Hy).trans x0;have e2:=(Below.cell I (p:=⟨b,2,none⟩) Hy).trans x2;have t0:=(Below.cell I (p:=⟨zk.tb,0,none⟩) ay).trans y0;clear I;go_simp;try with_reducible rfl));try dsimp only;try simp only[zA,zC,zD]
    refine zK 4 21 rfl rfl ?_;try dsimp only;try simp only[zA,zC,zD]
    refine zK 5 22 rfl rfl ?_;try dsimp only;try simp only[zA,zC,zD]
    (refine zT 6 23 rfl rfl (v:=?v23_7) (.inl ⟨by rfl,?y23_7⟩) ?_;case y23_7=>(intro w I;have e0:=(Below.cell I (p:=⟨b,0,none⟩) Hy).trans x0;have e2:=(Below.cell I (p:=⟨b,2,none⟩) Hy).trans x2;have t0:=(Below.cell I (p:=⟨zk.tb,0,none⟩) ay).trans y0;clear I;go_simp;try with_reducible rfl));try dsimp only;try simp only[zA,zC,zD]
    refine zK 7 24 rfl rfl ?_;try dsimp only;try simp only[zA,zC,zD]
    refine zK 8 25 rfl rfl ?_;try dsimp only;try simp only[zA,zC,zD]
    refine zK 9 26 rfl rfl ?_;try dsimp only;try simp only[zA,zC,zD]
    (refine zT 10 27 rfl rfl (v:=?v27_11) (.inl ⟨by rfl,?y27_11⟩) ?_;case y27_11=>(intro w I;have e0:=(Below.cell I (p:=⟨b,0,none⟩) Hy).trans x0;have e2:=(Below.cell I (p:=⟨b,2,none⟩) Hy).trans x2;have t0:=(Below.cell I (p:=⟨zk.tb,0,none⟩) ay).trans y0;clear I;go_simp;try with_reducible rfl));try dsimp only;try simp only[zA,zC,zD]
    refine wpAnyH_ready (rs:=[11,17]) (by kernel_rfl) (by simp) ?_;refine AllReadyH.cons rfl (fun K x=>?_) (AllReadyH.cons rfl (fun K x=>?_) AllReadyH.nil)
    ·rw[if_pos (by rfl)];go_simp;go_at_call 41;refine(Hb _ B).o.mono ?_;rintro e wd ⟨rfl,rfl⟩;refine x.out _ _ B (fun _=>?_);try dsimp only
     clear x K;refine zK 12 29 rfl rfl ?_;try dsimp only;try simp only[zA,zC,zD]
     refine wpAnyH_ready (rs:=[13,17]) (by kernel_rfl) (by simp) ?_;refine AllReadyH.cons rfl (fun K x=>?_) (AllReadyH.cons rfl (fun K x=>?_) AllReadyH.nil)
     ·rw[if_pos (by rfl)];go_simp;go_at_call 277;refine(ap _ B).o.mono ?_;rintro e w5 ⟨rfl,Hx⟩;have X:Below w2.heap.size w2 w5:=Below.trans B (Hx.mono (Below.size B));refine x.out _ _ X (fun _=>?_);try dsimp only
      clear x K;refine zK 14 16 rfl rfl ?_;try dsimp only;try simp only[zA,zC,zD]
      refine zK 15 31 rfl rfl ?_;try dsimp only;try simp only[zA,zC,zD]
      refine zK 16 32 rfl rfl ?_;try dsimp only;try simp only[zA,zC,zD]
      refine wpAnyH_ready (rs:=[17]) (by kernel_rfl) (by simp) ?_;refine AllReadyH.cons rfl (fun K x=>?_) AllReadyH.nil;go_simp;have s:=heap_alloc_new w5 (.cells (six 0 0 0 ⟨#[]⟩ 0 0) 36);have E:Below w2.heap.size w2 (w5.alloc (.cells (six 0 0 0 ⟨#[]⟩ 0 0) 36)):=X.alloc (Below.size X) _;have Hj:w2.heap.size≤w5.heap.size:=Below.size X;refine x.out _ _ E (fun _=>?_);try dsimp only
      clear x K;obtain⟨g,hg⟩:=zN (w5.heap.size);rw[←hg] at s Hj ⊢;clear hg;change wpAnyH _ _ _ _ _ _ _ _ (w5.alloc (.cells (six 0 0 0 ⟨#[]⟩ 0 0) 36));generalize w5.alloc _=wa at s E ⊢;refine wpAnyH_ready (rs:=[18]) (by kernel_rfl) (by simp) ?_;refine AllReadyH.cons rfl (fun K x=>?_) AllReadyH.nil;obtain⟨Hl,Q,T⟩:=hGi E Hj s a c kd ff ky re;rw[if_pos (by rfl)];refine wp_store_mid 36 (.tmp 3) (.tmp 31) (by rfl) g 0 (six a c kd ky re ff) (by rfl) (by rfl) Hl ar.o au.o ?_;refine x.out _ _ Q (fun _=>?_);try dsimp only
      clear x K;refine zK 19 4 rfl rfl ?_;try dsimp only;try simp only[zA,zC,zD]
      refine wpAnyH_done (by kernel_rfl) ?_ _;have Hp:=zH (And.intro Q T);clear T Q Hl;go_wp2_with fail;go_meet
      case rel=>exact⟨_,rfl,rfl,Hp⟩
     ·go_simp;have s:=heap_alloc_new w3 (.cells (six 0 0 0 ⟨#[]⟩ 0 0) 36);have E:Below w2.heap.size w2 (w3.alloc (.cells (six 0 0 0 ⟨#[]⟩ 0 0) 36)):=B.alloc (Below.size B) _;have Hj:w2.heap.size≤w3.heap.size:=Below.size B;refine x.out _ _ E (fun _=>?_);try dsimp only
      clear x K;obtain⟨g,hg⟩:=zN (w3.heap.size);rw[←hg] at s Hj ⊢;clear hg;change wpAnyH _ _ _ _ _ _ _ _ (w3.alloc (.cells (six 0 0 0 ⟨#[]⟩ 0 0) 36));generalize w3.alloc _=wa at s E ⊢;refine wpAnyH_ready (rs:=[13]) (by kernel_rfl) (by simp) ?_;refine AllReadyH.cons rfl (fun K x=>?_) AllReadyH.nil;rw[if_pos (by rfl)];go_simp;go_at_call 277;refine(ap _ E).o.mono ?_;rintro e w5 ⟨rfl,Hx⟩;have X:Below w2.heap.size w2 w5:=Below.trans E (Hx.mono (Below.size E));have hU:=(Hx.block g (zL s)).trans s;refine x.out _ _ X (fun _=>?_);try dsimp only
      clear x K;refine zK 14 16 rfl rfl ?_;try dsimp only;try simp only[zA,zC,zD]
      refine zK 15 31 rfl rfl ?_;try dsimp only;try simp only[zA,zC,zD]
      refine zK 16 32 rfl rfl ?_;try dsimp only;try simp only[zA,zC,zD]
      refine wpAnyH_ready (rs:=[18]) (by kernel_rfl) (by simp) ?_;refine AllReadyH.cons rfl (fun K x=>?_) AllReadyH.nil;obtain⟨Hl,Q,T⟩:=hGi X Hj hU a c kd ff ky re;rw[if_pos (by rfl)];refine wp_store_mid 36 (.tmp 3) (.tmp 31) (by rfl) g 0 (six a c kd ky re ff) (by rfl) (by rfl) Hl ar.o au.o ?_;refine x.out _ _ Q (fun _=>?_);try dsimp only
      clear x K;refine zK 19 4 rfl rfl ?_;try dsimp only;try simp only[zA,zC,zD]
      refine wpAnyH_done (by kernel_rfl) ?_ _;have Hp:=zH (And.intro Q T);clear T Q Hl;go_wp2_with fail;go_meet
      case rel=>exact⟨_,rfl,rfl,Hp⟩
    ·go_simp;have s:=heap_alloc_new w3 (.cells (six 0 0 0 ⟨#[]⟩ 0 0) 36);have E:Below w2.heap.size w2 (w3.alloc (.cells (six 0 0 0 ⟨#[]⟩ 0 0) 36)):=B.alloc (Below.size B) _;have Hj:w2.heap.size≤w3.heap.size:=Below.size B;refine x.out _ _ E (fun _=>?_);try dsimp only
     clear x K;obtain⟨g,hg⟩:=zN (w3.heap.size);rw[←hg] at s Hj ⊢;clear hg;change wpAnyH _ _ _ _ _ _ _ _ (w3.alloc (.cells (six 0 0 0 ⟨#[]⟩ 0 0) 36));generalize w3.alloc _=wa at s E ⊢;refine wpAnyH_ready (rs:=[11]) (by kernel_rfl) (by simp) ?_;refine AllReadyH.cons rfl (fun K x=>?_) AllReadyH.nil;rw[if_pos (by rfl)];go_simp;go_at_call 41;refine(Hb _ E).o.mono ?_;rintro e wd ⟨rfl,rfl⟩;refine x.out _ _ E (fun _=>?_);try dsimp only
     clear x K;refine zK 12 29 rfl rfl ?_;try dsimp only;try simp only[zA,zC,zD]
     refine wpAnyH_ready (rs:=[13]) (by kernel_rfl) (by simp) ?_;refine AllReadyH.cons rfl (fun K x=>?_) AllReadyH.nil;rw[if_pos (by rfl)];go_simp;go_at_call 277;refine(ap _ E).o.mono ?_;rintro e w5 ⟨rfl,Hx⟩;have X:Below w2.heap.size w2 w5:=Below.trans E (Hx.mono (Below.size E));have hU:=(Hx.block g (zL s)).trans s;refine x.out _ _ X (fun _=>?_);try dsimp only
     clear x K;refine zK 14 16 rfl rfl ?_;try dsimp only;try simp only[zA,zC,zD]
     refine zK 15 31 rfl rfl ?_;try dsimp only;try simp only[zA,zC,zD]
     refine zK 16 32 rfl rfl ?_;try dsimp only;try simp only[zA,zC,zD]
     refine wpAnyH_ready (rs:=[18]) (by kernel_rfl) (by simp) ?_;refine AllReadyH.cons rfl (fun K x=>?_) AllReadyH.nil;obtain⟨Hl,Q,T⟩:=hGi X Hj hU a c kd ff ky re;rw[if_pos (by rfl)];refine wp_store_mid 36 (.tmp 3) (.tmp 31) (by rfl) g 0 (six a c kd ky re ff) (by rfl) (by rfl) Hl ar.o au.o ?_;refine x.out _ _ Q (fun _=>?_);try dsimp only
     clear x K;refine zK 19 4 rfl rfl ?_;try dsimp only;try simp only[zA,zC,zD]
     refine wpAnyH_done (by kernel_rfl) ?_ _;have Hp:=zH (And.intro Q T);clear T Q Hl;go_wp2_with fail;go_meet
     case rel=>exact⟨_,rfl,rfl,Hp⟩
   case rest=>
    obtain⟨gq,rfl,rfl,hcut⟩:=hcut;obtain⟨f,s⟩:=hcut.o;have l:=zH (J.o.keep f);have Y:=zH (aW.o.trans (ChgR.below (k:=r.id+1) (o':=ok) f (fun _ _=>rfl)));have bj:=zH s;clear hcut f s J aW Hy ay x0 x2 y0 n0 n1 bC bA ar au Hb ap;cases dn
    ·have ax:rc=if pf then r.perf else r:=by
      rcases aX.o with h | h
      ·exact h.2
      ·exact absurd h.1 (by decide)
     have HT:=zH (show ∃ ot zt,RepF wc ot rho b zt (if pf then r.perf else r) r.log.e (m+8)∧ChgR (r.id+1) o ot w wc from⟨ok,zk,by
      have h:=l.o.le (show m+8≤m+8+2*gk by omega);rw[aH.o,ax] at h;exact h,Y.o⟩)
     clear Hm ak HR l Y ax;obtain⟨ot,zt,HJ,ah⟩:=HT.o;obtain⟨rt,H⟩:=zN ((if pf then r.perf else r));have Hz:rt.log=r.log:=by rw[H];cases pf<;>rfl
     have ai:rt.id=r.id:=by rw[H];cases pf<;>rfl
     rw[←H,←Hz] at HJ;have u:=zH HJ;have Ha:=zH ah;have Ht:=zH H;have aG:=zH Hz;have Hq:=zH ai;clear HJ ah H Hz ai HT;have x2:=u.o.c2;have Hb:=zH (hBu zt.bk zt.kb (tg rt.id 6) ot rho rt.log.e rt.d wc u.o.book);go_wp2_with fail;refine Hb.o.mono ?_;rintro e wd ⟨rfl,rfl⟩;clear Hb x2;go_upto_if 44 with fail;go_cut [] from 5 (fun wx=>zI (∃ o2 z2,RepF wx o2 rho b z2 r2 r2.log.e (m+8)∧ChgR (r.id+1) o o2 w wx))
     case first=>
      cases pf
      ·have e2:rt=r:=Ht.o;have e3:r2=r:=Hh.o;have q1:¬ r.d<rt.d:=by rw[e2];omega
       have HF:=zH (show RepF wc ot rho b zt r2 r2.log.e (m+8) by rw[e3];rw[e2] at u;exact u.o);clear e2 e3;go_wp2_with fail;go_meet
       case rel=>exact zH ⟨ot,zt,HF.o,Ha.o⟩
      ·have e2:rt=r.perf:=Ht.o;have e3:r2=r.perf.calm.restart:=Hh.o;have q1:r.d<rt.d:=by rw[e2];show r.d<r.d+1;omega
       have t:=zH (show r2=rt.calm.restart by rw[e2];exact e3);have x4:=u.o.c4;have Z:=zH (hLv zt.tm rt.fails rt.running rt.tend wc u.o.tim.1);clear e2 e3;go_wp2_with fail;refine Z.o.mono ?_;rintro e w5 ⟨rfl,ht,hg⟩;obtain⟨U,R⟩:=hCz u.o ht hg (by omega) u.o.num.tend;have q:=zH (show RepF w5 ot rho b zt rt.calm rt.log.e (m+8) from U);have C:=zH (Ha.o.trans (by rw[←Hq.o];exact R));have ab:=zH (hDp w5 q.o);clear x4 U R ht hg Z u Ha;go_wp2_with fail;refine ab.o.mono ?_;rintro e w6 ⟨rfl,o6,Hk,Hi⟩;have HF:=zH (show RepF w6 o6 rho b zt r2 r2.log.e (m+8) by
        have hl:rt.calm.restart.log=rt.log:=by
         unfold SRep.restart;split
         ·rfl
         ·unfold SRep.start;split<;>rfl
        rw[t.o,hl];exact Hk)
       have aD:=zH (C.o.trans (by rw[←Hq.o];exact Hi));clear Hk Hi ab q C;go_wp2_with fail;go_meet
       case rel=>exact zH ⟨o6,zt,HF.o,aD.o⟩
     case rest=>
      obtain⟨oq,zq,aj,ag⟩:=hcut.o;have D:=zH aj;have L:=zH ag;have Hc:zI (r2.id=r.id):=zH (by
       rw[Hh.o];cases pf
       ·rfl
       ·show r.perf.calm.restart.id=r.id;unfold SRep.restart;split
        ·rfl
        ·unfold SRep.start;split<;>rfl)
      clear hcut aj ag u Ha Ht aG Hq Hh;have x2:=D.o.c2;have i:=zH (hH1 wc D.o);rcases hGl HV.o with⟨Hf,e3⟩ | ⟨y,V,aO,aP,e3⟩
      ·cases y:r2.full
       ·rw[y] at i;have t:=zH e3;clear Hf y e3;go_wp2_with fail;refine i.o.mono ?_;rintro e w4 ⟨rfl,f⟩;have q:=zH (show RepF w4 oq rho b zq r3 r3.log.e (m+8) by rw[t.o];exact D.o.keep f);have C:=zH (L.o.trans (ChgR.below (k:=r.id+1) (o':=oq) f (fun _ _=>rfl)));have x84:=q.o.c84;have O:zI (r3.id=r.id):=zH (by rw[t.o];exact Hc.o);have N:=zH (hBv (m:=m+3) hr HX.o w4 (q.o.le (by omega)));clear f x2 i D L;go_wp2_with fail;refine N.o.mono ?_;rintro e w9 ⟨rfl,o9,z9,G,F⟩;have P:=zH (G.le (show m≤m+3 by omega));have M:=zH (C.o.trans (by rw[←O.o];exact F));clear G F;go_wp2_with fail;go_end0;exact⟨rfl,o9,z9,P.o,M.o⟩
       ·have V:r2.voted=true:=by rw[y] at Hf;simpa using Hf
        rw[y] at i;have t:=zH e3;have Hu:=zH V;clear Hf y e3 V;go_wp2_with fail;refine i.o.mono ?_;rintro e w4 ⟨rfl,f⟩;have l:=zH (D.o.keep f);have q:=zH (show RepF w4 oq rho b zq r3 r3.log.e (m+8) by rw[t.o];exact l.o);have C:=zH (L.o.trans (ChgR.below (k:=r.id+1) (o':=oq) f (fun _ _=>rfl)));have x84:=q.o.c84;have x0:=l.o.c0;have y6:=l.o.t6;rw[Hu.o] at y6;have O:zI (r3.id=r.id):=zH (by rw[t.o];exact Hc.o);have N:=zH (hBv (m:=m+3) hr HX.o w4 (q.o.le (by omega)));clear f x2 i D L l;go_wp2_with fail;refine N.o.mono ?_;rintro e w9 ⟨rfl,o9,z9,G,F⟩;have P:=zH (G.le (show m≤m+3 by omega));have M:=zH (C.o.trans (by rw[←O.o];exact F));clear G F;go_wp2_with fail;go_end0;exact⟨rfl,o9,z9,P.o,M.o⟩
      ·rw[y] at i;have t:=zH e3;have Hu:=zH V;have aa:=zH (show r2.d=4*(r2.log.e+1) by unfold SRep.full at y;exact beq_iff_eq.1 y);clear y e3 V;go_wp2_with fail;refine i.o.mono ?_;rintro e w4 ⟨rfl,f⟩;have l:=zH (D.o.keep f);have Y:=zH (L.o.trans (ChgR.below (k:=r.id+1) (o':=oq) f (fun _ _=>rfl)));have x0:=l.o.c0;have y6:=l.o.t6;rw[Hu.o] at y6;have ae:=zH (hNh (m:=m+3) hr aa.o aP aO w4 l.o);clear f x2 i D L aa;go_wp2_with fail;refine ae.o.mono ?_;rintro e w5 ⟨rfl,o5,z5,U,R⟩;have q:=zH (show RepF w5 o5 rho b z5 r3 r3.log.e (m+3) by rw[t.o];exact U);have C:=zH (Y.o.trans (by rw[←Hc.o];exact R));have x84:=q.o.c84;have O:zI (r3.id=r.id):=zH (by rw[t.o];exact Hc.o);have N:=zH (hBv (m:=m+3) hr HX.o w5 q.o);clear U R x0 y6 ae l Y;go_wp2_with fail;refine N.o.mono ?_;rintro e w9 ⟨rfl,o9,z9,G,F⟩;have P:=zH (G.le (show m≤m+3 by omega));have M:=zH (C.o.trans (by rw[←O.o];exact F));clear G F;go_wp2_with fail;go_end0;exact⟨rfl,o9,z9,P.o,M.o⟩
    ·obtain⟨aL,ba,bh⟩:gk=1∧pf=true∧r.waiting=r.d+1:=by
      rcases aX.o with h | h
      ·exact absurd h.1 (by decide)
      ·exact h.2
     have bz:rc=r:=by rw[bt.o,aL];rfl
     subst bz;have aQ:=hO5 (m:=m+8) hr bh bw (by
      intro h;unfold SRep.full at hf;rw[beq_eq_false_iff_ne] at hf;exact hf h) wc (l.o.le (by omega))
     rw[←aI.o rfl] at aQ;have aY:=zH aQ;have bu:=zH (hJs bj.o);have bp:=zH aL;have bq:=zH ba;clear aQ aL ba bh Hm ak;unfold six at aY;go_wp2_with (first
      |refine wpList_load_mid (by rfl) 36 (.tmp 3) (by rfl) gq 0 (by rfl) [.int .i64 a,.int .i64 c,.int .i64 kd,.string ky,.float .f64 re,.int .i64 ff] _ bu.o Tryz.underlying36 rfl (by show _=some 6;kernel_rfl) ?_)
     refine aY.o.mono ?_;rintro e w6 ⟨rfl,o6,z6,Hk,Hi⟩;have br:=zH Hk;have bo:=zH (Y.o.trans Hi);clear Hk Hi;go_wp2_with fail
     go_roundg 0
     case measure=>have:=bp.o;omega
     case rel=>exact⟨by omega,fun _=>bq.o,zH ⟨o6,z6,br.o,bo.o⟩⟩
theorem hA8 {r:SRep} {n j:Nat} (a:r.slot n=some j):j<4∧n=4*r.log.e+1+j:=by
 unfold SRep.slot at a;split at a
 ·rename_i b;injection a with hj;omega
 ·cases a
theorem hBm {r r2:SRep} {j:Nat} {s:SSl} (h:r.lookS j s=some r2):SRep.looks r.log.v s=true∧r2=r.setS j (s.look r.log.v):=by
 unfold SRep.lookS at h;split at h
 ·rename_i a;injection h with h;exact⟨a,h.symm⟩
 ·cases h
theorem gAl (q:Rq):six 1 (q.st:Int) (q.kind:Int) q.key q.real 0=q.v:=rfl
theorem hGe (rho:Nat→Rq) (r:SRep) (i:r.log.e≤60) (n j:Nat) (l:r.slot n=some j) :
  ∃ (a c k f:Int) (s:ByteArray) (e:Nat),((r.getS j).prop=true→six a c k s e f=(rho n).v)∧∀ (w:World) (o:Tags) (lb:Nat) (ms:Nat→Nat),LogAt w o (tg r.id 3) lb ms rho r.log →
   Calls Tryz.prog 274 #[.pointer (some ⟨lb,0,none⟩),.int .i64 n] w (fun e' w'=>e'=.returned (.tuple #[.agg (six a c k s e f),.bool (r.getS j).prop])∧Below w.heap.size w w'):=by
 obtain⟨d,g⟩:=hA8 l;have hc:=fun w o lb ms h=>hMj lb (tg r.id 3) o ms rho r.log i j d w h;rw[←g] at hc;cases hd:(r.getS j).prop
 ·have b:(r.log.sl.getD j SSl.new).prop=false:=hd;rw[b] at hc;exact⟨0,0,0,0,⟨#[]⟩,0,(fun h=>by cases h),hc⟩
 ·have b:(r.log.sl.getD j SSl.new).prop=true:=hd;rw[b] at hc;exact⟨1,((rho n).st:Int),((rho n).kind:Int),0,(rho n).key,(rho n).real,fun _=>rfl,hc⟩
theorem hDq {rho:Nat→Rq} (a:ROk rho) {r:SRep} {n j:Nat} (b:r.slot n=some j) (c:r.log.e≤1):(rho n).Ok:=by
 obtain⟨_,_⟩:=hA8 b;exact(a n (by omega) (by omega)).1
theorem hHa {o:Tags} {rho:Nat→Rq} {b:Nat} {z:RB} {r r2:SRep} {be m:Nat} (y:ROk rho) {n j:Nat} (u:r.slot n=some j) (f:Nat) (s:f<4) (ok:Bool) (a:r.lCommit f j=some (ok,r2)) (w:World) (h:RepF w o rho b z r be m) :
  Calls Tryz.prog 250 #[.pointer (some ⟨z.lb,0,none⟩),.int .i64 f,.int .i64 n,.agg (rho n).v] w fun e w'=>e=.returned (.int .i64 (if ok then 0 else 7))∧∃ o',RepF w' o' rho b z r2 be m∧ChgR (r.id+1) o o' w w':=by
 obtain⟨k,c⟩:=hA8 u;have t:=hDq y u h.num.e;have B:=h.num.e;unfold SRep.lCommit at a;split at a
 ·rename_i q;injection a with a;injection a with g i;subst g i;have hc:=hIw z.lb (tg r.id 3) o z.ms rho r.log (by omega) j k f s w h.log (by rw[←c];exact t) q;rw[←c] at hc;exact hc.mono fun e w' d=>⟨d.1,o,h.keep d.2,ChgR.below d.2 (fun _ _=>rfl)⟩
 ·rename_i q;rw[Option.map_eq_some_iff] at a;obtain⟨r3,l,p⟩:=a;injection p with g i;subst g i;obtain⟨x,rfl⟩:=hBm l;have hc:=hQu z.lb (tg r.id 3) (hCe _ _) o z.ms rho r.log (by omega) j k f s w h.log (by rw[←c];exact t) q x;rw[←c] at hc;refine hc.mono fun e w' d=>⟨d.1,?_⟩;obtain⟨o',g,i⟩:=d.2;obtain⟨l,p⟩:=hGy h g i rfl h.num.v;exact⟨o',l,p⟩
theorem hGb {o:Tags} {rho:Nat→Rq} {b:Nat} {z:RB} {r r2:SRep} {be m:Nat} (y:ROk rho) {n j:Nat} (u:r.slot n=some j) (f:Nat) (s:f<4) (ok:Bool) (a:r.lPrepare f j=some (ok,r2)) (w:World) (h:RepF w o rho b z r be m) :
  Calls Tryz.prog 248 #[.pointer (some ⟨z.lb,0,none⟩),.int .i64 f,.int .i64 n,.agg (rho n).v,.agg #[.int .i64 f,.string (prepT r.log.e r.log.v n (rho n))]] w fun e w'=>e=.returned (.int .i64 (if ok then 0 else 7))∧∃ o',RepF w' o' rho b z r2 be m∧ChgR (r.id+1) o o' w w':=by
 obtain⟨k,c⟩:=hA8 u;have t:=hDq y u h.num.e;have B:=h.num.e;have C:=h.num.v;unfold SRep.lPrepare at a;split at a
 ·rename_i q;injection a with a;injection a with g i;subst g i;have hc:=hHv z.lb (tg r.id 3) o z.ms rho r.log (by omega) (by omega) j k f s w h.log (by rw[←c];exact t) q;rw[←c] at hc;exact hc.mono fun e w' d=>⟨d.1,o,h.keep d.2,ChgR.below d.2 (fun _ _=>rfl)⟩
 ·rename_i q;rw[Option.map_eq_some_iff] at a;obtain⟨r3,l,p⟩:=a;injection p with g i;subst g i;obtain⟨x,rfl⟩:=hBm l;have hc:=hOw z.lb (tg r.id 3) (hCe _ _) o z.ms rho r.log (by omega) (by omega) j k f s w h.log (by rw[←c];exact t) q x;rw[←c] at hc;refine hc.mono fun e w' d=>⟨d.1,?_⟩;obtain⟨o',g,i⟩:=d.2;obtain⟨l,p⟩:=hGy h g i rfl h.num.v;exact⟨o',l,p⟩
theorem hGc {o:Tags} {rho:Nat→Rq} {b:Nat} {z:RB} {r r2:SRep} {be m:Nat} (u:ROk rho) {n j:Nat} (s:r.slot n=some j) (ok:Bool) (a:r.lPropose j=some (ok,r2)) (w:World) (h:RepF w o rho b z r be m) :
  Calls Tryz.prog 246 #[.pointer (some ⟨z.lb,0,none⟩),.int .i64 n,.agg (rho n).v] w fun e w'=>e=.returned (.int .i64 (if ok then 0 else 7))∧∃ o',RepF w' o' rho b z r2 be m∧ChgR (r.id+1) o o' w w':=by
 obtain⟨i,c⟩:=hA8 s;have q:=hDq u s h.num.e;have x:=h.num.e;unfold SRep.lPropose at a;split at a
 ·rename_i p;injection a with a;injection a with f g;subst f g;have hc:=hHw z.lb (tg r.id 3) o z.ms rho r.log (by omega) j i w h.log (by rw[←c];exact q) p;rw[←c] at hc;exact hc.mono fun e w' d=>⟨d.1,o,h.keep d.2,ChgR.below d.2 (fun _ _=>rfl)⟩
 ·rename_i p;rw[Option.map_eq_some_iff] at a;obtain⟨r3,k,l⟩:=a;injection l with f g;subst f g;obtain⟨t,rfl⟩:=hBm k;have hc:=hOx z.lb (tg r.id 3) (hCe _ _) o z.ms rho r.log (by omega) j i w h.log (by rw[←c];exact q) (eq_false_of_ne_true p) t;rw[←c] at hc;refine hc.mono fun e w' d=>⟨d.1,?_⟩;obtain⟨o',f,g⟩:=d.2;obtain⟨k,l⟩:=hGy h f g rfl h.num.v;exact⟨o',k,l⟩
theorem hK8 {o:Tags} {rho:Nat→Rq} {b:Nat} {z:RB} {r:SRep} {be m:Nat} (f:ROk rho) {n j:Nat} (d:r.slot n=some j) (w:World) (h:RepF w o rho b z r be m) :
  Calls Tryz.prog 275 #[.pointer (some ⟨z.lb,0,none⟩),.int .i64 n] w fun e w'=>e=.returned (.bool (r.prepared j))∧Below w.heap.size w w':=by
 obtain⟨c,a⟩:=hA8 d;have hc:=hMi z.lb (tg r.id 3) o z.ms rho r.log (by have:=h.num.e;omega) j c (by rw[←a];exact hDq f d h.num.e) w h.log;rw[←a] at hc;exact hc
theorem hQn {r r':SRep} {n:Nat} (h:r.goOn n=some r'):∃ j r1,r.slot n=some j∧r1.do_=some r'∧(r.prepared j=false∧r1=r∨r.prepared j=true∧∃ ok r0,r.lCommit r.id j=some (ok,r0)∧r1=if ok then r0.say ⟨4,r0.log.e,r0.log.v,n,[]⟩ else r0):=by
 unfold SRep.goOn at h;split at h
 ·cases h
 rename_i j c;split at h
 ·cases h
 rename_i r1 a;refine⟨j,r1,c,h,?_⟩;unfold SRep.commits at a;split at a
 ·rename_i b;split at a
  ·cases a
  ·rename_i ok r0 hc;injection a with a;exact .inr ⟨b,ok,r0,hc,a.symm⟩
 ·rename_i b;injection a with a;exact .inl ⟨eq_false_of_ne_true b,a.symm⟩
theorem hFt {r r0:SRep} {f j:Nat} {ok:Bool} (h:r.lCommit f j=some (ok,r0)):r0.log.e=r.log.e∧r0.log.v=r.log.v∧r0.id=r.id:=by
 unfold SRep.lCommit at h;split at h
 ·injection h with h;injection h with h1 h2;subst h2;exact⟨rfl,rfl,rfl⟩
 ·rw[Option.map_eq_some_iff] at h;obtain⟨r3,a,b⟩:=h;injection b with h1 h2;subst h2;obtain⟨c,rfl⟩:=hBm a;exact⟨rfl,rfl,rfl⟩
theorem hH3 {o:Tags} {rho:Nat→Rq} {b:Nat} {z:RB} {r r':SRep} {m n:Nat} (W:ROk rho) (hx:r.goOn n=some r') (w:World) (h:RepF w o rho b z r r.log.e (m+15)) :
  Calls Tryz.prog 249 #[.pointer (some ⟨b,0,none⟩),.int .i64 n] w fun e w'=>e=.returned (.tuple #[])∧∃ o' z',RepF w' o' rho b z' r' r'.log.e m∧ChgR (r.id+1) o o' w w':=by
 obtain⟨j,r1,hs,hd,Z⟩:=hQn hx;have ao:=h.num.e;have aq:=h.num.v;have ai:=h.num.id;obtain⟨ap,Hl⟩:=hA8 hs;obtain⟨a,c,kd,ff,ky,re,X,Hq⟩:=hGe rho r (by omega) n j hs;have O:=zH (Hq w o z.lb z.ms h.log);have HR:=zH h;have x0:=h.c0;have y0:=h.t0;have HS:=zH hs;have HD:=zH hd;have hJ:=zH Hl;have F:=zH X;have aj:=fun(w:World) (a:Addr) (k:FloatKind) (n:Nat)=>run_store Tryz.prog w a (.float k n) .plain rfl;obtain⟨pv,U⟩:=zN ((r.getS j).prop);rw[←U] at O F;have Hg:=zH U;clear h Hq hx hs hd Hl X U;go_enter Tryz.func249,Tryz.ntmps249;go_wp2_with fail;refine O.o.mono ?_;rintro e w1 ⟨rfl,H⟩;unfold six;have R:Below w.heap.size w (w1.alloc (.cells (six a c kd ky re ff) 36)):=H.alloc H.size _;have i:=zH (heap_alloc_new w1 (.cells (six a c kd ky re ff) 36));have d:=zH (HR.o.keepT R (Tags.ext_old o w.heap.size 7));have l:=zH (ChgR.below (k:=r.id+1) R (Tags.ext_old o w.heap.size 7));have T:=Tags.ext_new o w.heap.size 7 w1.heap.size H.size;obtain⟨o2,Hm⟩:=zN (o.ext w.heap.size 7);rw[←Hm] at d l T;unfold six at i d l;clear x0 y0 O H R HR Hm;go_wp2_with fail;obtain⟨g,hg⟩:=zN (w1.heap.size);rw[←hg] at i T ⊢;clear hg;generalize w1.alloc _=w2 at i d l ⊢;have gl:=(zL i.o);obtain⟨z0,z1,z2,z3,z4,z5⟩:=hAf (show w2.heap[g]?=some (.cells (six a c kd ky re ff) 36 (0,0)) from i.o);have u0:=fun y:Bel w2.heap.size w2=>y.cell gl z0;have u1:=fun y:Bel w2.heap.size w2=>y.cell gl z1;have u2:=fun y:Bel w2.heap.size w2=>y.cell gl z2;have u3:=fun y:Bel w2.heap.size w2=>y.cell gl z3;have u4:=fun y:Bel w2.heap.size w2=>y.cell gl z4;have u5:=fun y:Bel w2.heap.size w2=>y.cell gl z5;have x0:=fun y:Bel w2.heap.size w2=>y.cell d.o.lt d.o.c0;have x1:=fun y:Bel w2.heap.size w2=>y.cell d.o.lt d.o.c1;have y0:=fun y:Bel w2.heap.size w2=>y.cell d.o.tlt d.o.t0;have t:=fun y:Bel w2.heap.size w2=>zH (hK8 W HS.o y.w (d.o.keep y.h));clear z0 z1 z2 z3 z4 z5 aj;rcases Z with⟨K,rfl⟩ | ⟨K,ok,r0,S,Ht⟩
 ·rw[K] at t;refine hAg w2.heap.size w2 (by kernel_rfl) (by kernel_rfl) (Below.refl _ _) ?_;repeat (go_big_quiet_step ((go_at_call 275;exact hAq (Nat.le_refl _) (t _).o)))
  refine wpQuiet_nil ?_;rintro _ ⟨y,rfl⟩;have f:=zH (d.o.keep y.h);have p:=zH (l.o.trans (ChgR.below (k:=r1.id+1) (o':=o2) y.h (fun _ _=>rfl)));have x:=zH (hNa (m:=m+5) W HD.o y.w f.o);clear u0 u1 u2 u3 u4 u5 x0 x1 y0 t gl;go_wp2_with fail;refine x.o.mono ?_;rintro e w4 ⟨rfl,o4,z4,E,C⟩;have Q:=zH (E.le (show m≤m+5 by omega));have L:=zH (p.o.trans C);clear E C;go_wp2_with fail;go_end0;exact⟨rfl,o4,z4,Q.o,L.o⟩
 ·rw[K] at t;have Hr:pv=true:=by
   rw[Hg.o];unfold SRep.prepared at K;rw[Bool.and_eq_true] at K;exact K.1
  have V:=F.o Hr;have I:=fun w h=>hHa (o:=o2) (rho:=rho) (b:=b) (z:=z) (be:=r.log.e) (m:=m+15) W HS.o r.id ai ok S w h;rw[←V] at I;unfold six at I;have Hc:=fun w h=>zH (I w h);have hO:=zH V;have s:=zH (hFt S);have P:=zH Ht;clear Hr V I Ht S;refine hAi 23 w2.heap.size w2 (by kernel_rfl) (by kernel_rfl) (Below.refl _ _) ?_;simp only[List.take_succ_cons,List.take_zero,List.drop_succ_cons,List.drop_zero];repeat (go_big_quiet_step ((go_at_call 275;exact hAq (Nat.le_refl _) (t _).o)))
  refine wpQuiet_nil ?_;rintro⟨wy,hy⟩;show wpList _ _ _ _ _ wy;have J:=Hc wy (d.o.keep hy);have G:=zH (l.o.trans (ChgR.below (k:=r.id+1) (o':=o2) hy (fun _ _=>rfl)));have N:=zH ((hy.block g gl).trans i.o);clear u0 u1 u2 u3 u4 u5 x0 x1 y0 t gl Hc d l i hy;cases ok
  ·have B:zI (r1=r0):=zH P.o;go_wp2_with fail;refine J.o.mono ?_;rintro e w3 ⟨rfl,o3,D,u⟩;have f:=zH (show RepF w3 o3 rho b z r1 r1.log.e (m+15) by rw[B.o,s.o.1];exact D);have p:=zH (G.o.trans u);have Y:zI (r1.id=r.id):=zH (by rw[B.o];exact s.o.2.2);have x:=zH (hNa (m:=m+5) W HD.o w3 f.o);clear D u J G N;go_wp2_with fail;refine x.o.mono ?_;rintro e w4 ⟨rfl,o4,z4,E,C⟩;have Q:=zH (E.le (show m≤m+5 by omega));have L:=zH (p.o.trans (by rw[←Y.o];exact C));clear E C;go_wp2_with fail;go_end0;exact⟨rfl,o4,z4,Q.o,L.o⟩
  ·have B:zI (r1=r0.say ⟨4,r0.log.e,r0.log.v,n,[]⟩):=zH P.o;obtain⟨q1,q2,q3,q4,q5,q6⟩:a=1∧c=((rho n).st:Int)∧kd=((rho n).kind:Int)∧ky=(rho n).key∧re=(rho n).real∧ff=0:=by
    have h:=hO.o;unfold six Rq.v at h;simpa using h
   subst q1 q2 q3 q4 q5 q6;go_wp2_with fail;refine J.o.mono ?_;rintro e w3 ⟨rfl,o3,D,u⟩;have f:=zH (show RepF w3 o3 rho b z r0 r0.log.e (m+15) by rw[s.o.1];exact D);have p:=zH (G.o.trans u);have M:=zH (u.at N.o (by rw[T];simp));have Y:zI (r0.id=r.id):=zH s.o.2.2;clear D u J G N F Hg;go_wp2_with fail;have gl:=(zL M.o);obtain⟨z0,z1,z2,z3,z4,z5⟩:=hBz (q:=rho n) M.o;have u0:=fun y:Bel w3.heap.size w3=>y.cell gl z0;have u1:=fun y:Bel w3.heap.size w3=>y.cell gl z1;have u2:=fun y:Bel w3.heap.size w3=>y.cell gl z2;have u3:=fun y:Bel w3.heap.size w3=>y.cell gl z3;have u4:=fun y:Bel w3.heap.size w3=>y.cell gl z4;have u5:=fun y:Bel w3.heap.size w3=>y.cell gl z5;have x0:=fun y:Bel w3.heap.size w3=>y.cell f.o.lt f.o.c0;have y0:=fun y:Bel w3.heap.size w3=>y.cell f.o.tlt f.o.t0;have Hi:=fun y:Bel w3.heap.size w3=>zH (hBc z.lb (tg r0.id 3) o3 z.ms rho r0.log y.w (f.o.keep y.h).log);clear z0 z1 z2 z3 z4 z5;refine hAi 12 w3.heap.size w3 (by kernel_rfl) (by kernel_rfl) (Below.refl _ _) ?_;simp only[List.take_succ_cons,List.take_zero,List.drop_succ_cons,List.drop_zero];repeat (go_big_quiet_step ((go_at_call 217;exact hAw (Hi _).o)))
   refine wpQuiet_nil ?_;rintro⟨wz,hz⟩;show wpList _ _ _ _ _ wz;have Hp:(⟨4,r0.log.e,r0.log.v,n,[]⟩:SMsg).ok=true:=by
    have h1:=s.o.1;have h2:=s.o.2.1;have h3:=hJ.o;simp[SMsg.ok,h1,h2];omega
   have Hh:=zH (hE0 (be:=r0.log.e) (m:=m+10) ⟨4,r0.log.e,r0.log.v,n,[]⟩ Hp rfl zz0 #[.int .i64 4,.int .i64 0,.int .i64 r0.log.v,.int .i64 n,.int .i64 1,.int .i64 ((rho n).st:Int),.int .i64 ((rho n).kind:Int),.string (rho n).key,.float .f64 (rho n).real,.int .i64 0,.int .i64 0,.float .f64 0,.string ⟨#[]⟩,.slice none 0 0,.slice none 0 0,.slice none 0 0,.slice none 0 0] rfl wz (f.o.keep hz) (hRv _ rfl rfl rfl rfl));have Hf:=zH (p.o.trans (ChgR.below (k:=r.id+1) (o':=o3) hz (fun _ _=>rfl)));clear u0 u1 u2 u3 u4 u5 x0 y0 Hi gl M f p hz Hp;go_wp2_with fail;refine Hh.o.mono ?_;rintro e w5 ⟨rfl,o5,z5,Hu,Hj⟩;have aa:=zH (show RepF w5 o5 rho b z5 r1 r1.log.e (m+10) by rw[B.o];exact Hu);have Hz:=zH (Hf.o.trans (by rw[←Y.o];exact Hj));have hI:zI (r1.id=r.id):=zH (by rw[B.o];exact Y.o);have x:=zH (hNa (m:=m) W HD.o w5 aa.o);clear Hu Hj Hh Hf;go_wp2_with fail;refine x.o.mono ?_;rintro e w6 ⟨rfl,o6,z6,Hw,Hk⟩;have ab:=zH Hw;have HJ:=zH (Hz.o.trans (by rw[←hI.o];exact Hk));clear Hw Hk;go_wp2_with fail;go_end0;exact⟨rfl,o6,z6,ab.o,HJ.o⟩
end Go.Proofs.YtlibpcllceepkaaGreat
