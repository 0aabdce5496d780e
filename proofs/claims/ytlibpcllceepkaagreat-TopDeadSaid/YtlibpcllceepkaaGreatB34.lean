/- Joined texts of the claim. No condition. -/
import Derived.Test.YtlibpcllceepkaaGreatB33
import Derived.Test.YtlibpcllceepkaaGreatB26
import Derived.Test.YtlibpcllceepkaaGreatB29
namespace Go.Proofs.YtlibpcllceepkaaGreat
open Go.RowKit
set_option maxRecDepth 100000
set_option linter.unusedVariables false
set_option linter.unusedSimpArgs false
set_option maxHeartbeats 16000000
theorem hIz {r r':SRep} {f:Nat} {x:SMsg} (h:r.onNewView f x=some r'):r.ahead x=false∧r'=r∨r.ahead x=true∧f=x.v % 4∧x.v=r.log.v∧r.enter=some r':=by
 unfold SRep.onNewView at h;split at h
 ·rename_i a;injection h with h;exact .inl ⟨by simpa using a,h.symm⟩
 ·rename_i a;split at h
  ·cases h
  ·rename_i hc;simp only[Bool.or_eq_true,Bool.not_eq_true',beq_eq_false_iff_ne,not_or,ne_eq,Decidable.not_not] at hc;exact .inr ⟨by simpa using a,hc.1,hc.2,h⟩
theorem hWw {r:SRep} {x:SMsg} (h:r.ahead x=true):x.e=r.log.e:=by
 unfold SRep.ahead at h;simp only[Bool.and_eq_true,beq_iff_eq] at h;exact h.1
theorem hA6:∀ (l:List Nat),upB l=true→(∀ x∈l,x<4)∧l.Pairwise (· < ·)
 |[],_=>⟨by simp,by simp⟩
 |[x],h=>⟨by simpa[upB] using h,by simp⟩
 |x::y::l,h=>by
  simp only[upB,Bool.and_eq_true,decide_eq_true_eq] at h;obtain⟨c,b⟩:=hA6 (y::l) h.2;refine⟨fun z a=>?_,?_⟩
  ·rcases List.mem_cons.1 a with rfl | a
   ·exact Nat.lt_trans h.1 (c y (by simp))
   ·exact c z a
  ·rw[List.pairwise_cons];refine⟨fun z a=>?_,b⟩;rcases List.mem_cons.1 a with rfl | a
   ·exact h.1
   ·rw[List.pairwise_cons] at b;exact Nat.lt_trans h.1 (b.1 z a)
theorem hLb {o:Tags} {rho:Nat→Rq} {b:Nat} {z:RB} {r r':SRep} {m f:Nat} (hr:ROk rho) {x:SMsg} (hk:x.kind=7) (q:x.ok=true) (hx:r.onNewView f x=some r') (zz:Sls) (w:World) (h:RepF w o rho b z r r.log.e (m+25)) (ha:(x.fm rho).At w o zz) :
  Calls Tryz.prog 225 #[.pointer (some ⟨b,0,none⟩),.int .i64 f,.agg ((x.fm rho).cells zz)] w fun e w'=>e=.returned (.tuple #[])∧∃ o' z',RepF w' o' rho b z' r' r'.log.e m∧ChgR (r.id+1) o o' w w':=by
 have Hb:=hIz hx;obtain⟨kd,xe,xv,n,xb⟩:=x;obtain⟨A1,c1,A2,c2,A3,c3,A4,c4⟩:=zz;dsimp only at hk;subst hk;have Hu:xe≤1∧1≤xv∧xv≤15∧xb.length=3∧upB xb=true:=by
  simp only[SMsg.ok,Bool.and_eq_true,decide_eq_true_eq,beq_iff_eq] at q;exact⟨q.1.1.1.1.1,q.1.1.1.1.2,q.1.1.1.2,q.1.2,q.2⟩
 obtain⟨an,Hp,X,u,Hm⟩:=Hu;obtain⟨j,Hk⟩:=hA6 xb Hm;have U:SlD encCh w o A3 (xb.map fun f=>(f,xv,chT xe xv f)).length c3 (chsL xe xv xb):=ha.chs;rw[List.length_map,u] at U;show Calls _ _ #[.pointer (some ⟨b,0,none⟩),.int .i64 f,.agg #[.int .i64 7,.int .i64 xe,.int .i64 xv,.int .i64 0,.int .i64 0,.int .i64 0,.int .i64 0,.string ⟨#[]⟩,.float .f64 0,.int .i64 0,.int .i64 0,.float .f64 0,.string ⟨#[]⟩,.slice A1 0 c1,.slice A2 0 c2,.slice A3 (xb.map fun f=>(f,xv,chT xe xv f)).length c3,.slice A4 0 c4]] w _;rw[List.length_map,u];have H:=(Below.refl w.heap.size w).alloc (Nat.le_refl _) (.cells #[.int .i64 7,.int .i64 xe,.int .i64 xv,.int .i64 0,.int .i64 0,.int .i64 0,.int .i64 0,.string ⟨#[]⟩,.float .f64 0,.int .i64 0,.int .i64 0,.float .f64 0,.string ⟨#[]⟩,.slice A1 0 c1,.slice A2 0 c2,.slice A3 3 c3,.slice A4 0 c4] 48);have R:=heap_alloc_new w (.cells #[.int .i64 7,.int .i64 xe,.int .i64 xv,.int .i64 0,.int .i64 0,.int .i64 0,.int .i64 0,.string ⟨#[]⟩,.float .f64 0,.int .i64 0,.int .i64 0,.float .f64 0,.string ⟨#[]⟩,.slice A1 0 c1,.slice A2 0 c2,.slice A3 3 c3,.slice A4 0 c4] 48);have D:=zH (h.keepT H (Tags.ext_old o w.heap.size 7));have J:=zH (ChgR.below (k:=r.id+1) H (Tags.ext_old o w.heap.size 7));have G:=zH (U.fix (P:=fun _=>True) (Fix.below H (Tags.ext_old o w.heap.size 7)) trivial);generalize o.ext w.heap.size 7=o1 at D J G;obtain⟨w1,Y⟩:=zN (w.alloc (.cells #[.int .i64 7,.int .i64 xe,.int .i64 xv,.int .i64 0,.int .i64 0,.int .i64 0,.int .i64 0,.string ⟨#[]⟩,.float .f64 0,.int .i64 0,.int .i64 0,.float .f64 0,.string ⟨#[]⟩,.slice A1 0 c1,.slice A2 0 c2,.slice A3 3 c3,.slice A4 0 c4] 48));rw[←Y] at D J G R;have s:=zH Y;obtain⟨g,hg⟩:=zN (w.heap.size);rw[←hg] at R;have Z:=zH hg;have HN:=zH R;have C:=zH (hKf #[.int .i64 7,.int .i64 xe,.int .i64 xv,.int .i64 0,.int .i64 0,.int .i64 0,.int .i64 0,.string ⟨#[]⟩,.float .f64 0,.int .i64 0,.int .i64 0,.float .f64 0,.string ⟨#[]⟩,.slice A1 0 c1,.slice A2 0 c2,.slice A3 3 c3,.slice A4 0 c4] ⟨7,xe,xv,n,xb⟩ rfl rfl w1 D.o);have Hf:=fun w h=>zH (hCn (o:=o1) (rho:=rho) (b:=b) (z:=z) (r:=r) (be:=r.log.e) (m:=m+25) xv (by omega) w h);have HJ:=fun w hm hs=>zH (hLx xe xv (by omega) Hp X z.M z.mc xb u j (fun i hi=>by
  rw[List.getD_eq_getElem?_getD,List.getElem?_eq_getElem (by omega),List.getD_eq_getElem?_getD,List.getElem?_eq_getElem (by omega)];exact List.pairwise_iff_getElem.1 Hk i (i+1) (by omega) (by omega) (by omega)) A3 c3 o1 w hm hs)
 obtain⟨z0,z1,z2,z3,z4,z5,z6,z7,z8,z9,z10,z11,z12,z13,z14,z15,z16⟩:=row17 R;have x0:=D.o.c0;clear R H h U ha hx q Hm Hk j Y hg Hp X;rcases Hb with⟨t,rfl⟩ | ⟨t,hf,Hq,Hi⟩
 ·rw[t] at C;clear t;go_enter Tryz.func225,Tryz.ntmps225;rw[Z.o,s.o] at z0 z1 z2 z3 z4 z5 z6 z7 z8 z9 z10 z11 z12 z13 z14 z15 z16;rw[s.o] at C;go_wp2_with fail;refine C.o.mono ?_;rintro e w2 ⟨rfl,c⟩;rw[←s.o] at c;have y:=zH (D.o.keep c);have E:=zH (J.o.trans (ChgR.below (k:=r'.id+1) (o':=o1) c (fun _ _=>rfl)));clear z0 z1 z2 z3 z4 z5 z6 z7 z8 z9 z10 z11 z12 z13 z14 z15 z16 c;go_wp2_with fail;exact bodyPost_ret (results_none rfl _ _ _) rfl ⟨rfl,o1,z,y.o.le (by omega),E.o⟩
 ·have ah:xe=r.log.e:=hWw t;rw[t] at C;dsimp only at hf Hq;subst ah;subst Hq;clear t;have HF:=zH hf;have Hz:=zH Hi;clear Hi;go_enter Tryz.func225,Tryz.ntmps225;rw[Z.o,s.o] at z0 z1 z2 z3 z4 z5 z6 z7 z8 z9 z10 z11 z12 z13 z14 z15 z16;rw[s.o] at C;go_wp2_with fail;refine C.o.mono ?_;rintro e w2 ⟨rfl,c⟩;rw[←s.o] at c;have y:=zH (D.o.keep c);have E:=zH (J.o.trans (ChgR.below (k:=r.id+1) (o':=o1) c (fun _ _=>rfl)));have N:=zH (G.o.fix (P:=fun _=>True) (Fix.same (o:=o1) c) trivial);have h2:=(c.block g (zL HN.o)).trans HN.o;have L:=zH h2;rw[Z.o] at h2;clear z0 z1 z2 z3 z4 z5 z6 z7 z8 z9 z10 z11 z12 z13 z14 z15 z16 c x0 C;obtain⟨z0,z1,z2,z3,z4,z5,z6,z7,z8,z9,z10,z11,z12,z13,z14,z15,z16⟩:=row17 h2;have T:=Hf w2 y.o;rw[←HF.o] at T;clear h2 Hf;go_wp2_with fail;refine T.o.mono ?_;rintro e w3 ⟨rfl,B⟩;have l:=zH (y.o.keep B);have Hc:=zH (E.o.trans (ChgR.below (k:=r.id+1) (o':=o1) B (fun _ _=>rfl)));have O:=zH (N.o.fix (P:=fun _=>True) (Fix.same (o:=o1) B) trivial);have F:=zH ((B.block g (zL L.o)).trans L.o);clear z0 z1 z2 z3 z4 z5 z6 z7 z8 z9 z10 z11 z12 z13 z14 z15 z16 B T y E N L D J G HN;go_wp2_with fail;rw[←Z.o];have h3:=F.o;obtain⟨z0,z1,z2,z3,z4,z5,z6,z7,z8,z9,z10,z11,z12,z13,z14,z15,z16⟩:=row17 h3;have x0:=l.o.c0;have y3:=l.o.t3;have y4:=l.o.t4;have u:=l.o.lt;have V:=l.o.tlt;have I:=(zL F.o);clear z0 z1 z3 z4 z5 z6 z7 z8 z9 z10 z11 z12 z13 z14 z16 h3;refine wp_region_held_drew (S:=(fun W=>Below w3.heap.size w3 W)) (by kernel_rfl) (Below.drew (Below.refl _ _)) (fun d=>?_);change wpAnyH _ _ _ _ _ 17 (Array.replicate 17 false) _ _;generalize w3.drew=wd at d ⊢;refine zK 0 21 rfl rfl ?_;try dsimp only;try simp only[zA,zC,zD]
  refine zK 1 22 rfl rfl ?_;try dsimp only;try simp only[zA,zC,zD]
  refine zK 2 23 rfl rfl ?_;try dsimp only;try simp only[zA,zC,zD]
  (refine zT 3 24 rfl rfl (v:=?v24_4) (.inl ⟨by rfl,?y24_4⟩) ?_;case y24_4=>(intro w a;have e0:=(Below.cell a (p:=⟨b,0,none⟩) u).trans x0;clear a;go_simp;try with_reducible rfl));try dsimp only;try simp only[zA,zC,zD]
  refine zK 4 25 rfl rfl ?_;try dsimp only;try simp only[zA,zC,zD]
  refine zK 5 26 rfl rfl ?_;try dsimp only;try simp only[zA,zC,zD]
  (refine zT 6 27 rfl rfl (v:=?v27_7) (.inl ⟨by rfl,?y27_7⟩) ?_;case y27_7=>(intro w a;have e3:=(Below.cell a (p:=⟨z.tb,3,none⟩) V).trans y3;have e4:=(Below.cell a (p:=⟨z.tb,4,none⟩) V).trans y4;clear a;go_simp;try with_reducible rfl));try dsimp only;try simp only[zA,zC,zD]
  refine zK 7 28 rfl rfl ?_;try dsimp only;try simp only[zA,zC,zD]
  (refine zT 8 29 rfl rfl (v:=?v29_9) (.inl ⟨by rfl,?y29_9⟩) ?_;case y29_9=>(intro w a;have e2:=(Below.cell a (p:=⟨g,2,none⟩) I).trans z2;clear a;go_simp;try with_reducible rfl));try dsimp only;try simp only[zA,zC,zD]
  refine zK 9 30 rfl rfl ?_;try dsimp only;try simp only[zA,zC,zD]
  (refine zT 10 31 rfl rfl (v:=?v31_11) (.inl ⟨by rfl,?y31_11⟩) ?_;case y31_11=>(intro w a;have e5:=(Below.cell a (p:=⟨g,15,none⟩) I).trans z15;clear a;go_simp;try with_reducible rfl));try dsimp only;try simp only[zA,zC,zD]
  refine wpAnyH_ready (rs:=[11]) (by kernel_rfl) (by simp) ?_;refine AllReadyH.cons rfl (fun K hK=>?_) AllReadyH.nil;have Hg:=zH (l.o.keep d);have Hj:=HJ wd Hg.o.mem.1 (O.o.fix (P:=fun _=>True) (Fix.same (o:=o1) d) trivial);rw[if_pos (by rfl)];go_simp;go_at_call 256;refine Hj.o.mono ?_;rintro e w4 ⟨⟨Q,qc,rfl⟩,j⟩;have j:Below w3.heap.size w3 w4:=Below.trans d (j.mono (Below.size d));refine hK.out _ _ j (fun _=>?_);try dsimp only
  clear hK K;refine zK 12 20 rfl rfl ?_;try dsimp only;try simp only[zA,zC,zD]
  refine zK 13 33 rfl rfl ?_;try dsimp only;try simp only[zA,zC,zD]
  refine zK 14 34 rfl rfl ?_;try dsimp only;try simp only[zA,zC,zD]
  refine zK 15 6 rfl rfl ?_;try dsimp only;try simp only[zA,zC,zD]
  refine zK 16 7 rfl rfl ?_;try dsimp only;try simp only[zA,zC,zD]
  refine wpAnyH_done (by kernel_rfl) ?_ _;have hI:=zH (l.o.keep j);have Hw:=zH (Hc.o.trans (ChgR.below (k:=r.id+1) (o':=o1) j (fun _ _=>rfl)));have g2:=zQ _ g 2 (.int .i64 r.log.v) ((j.block g I).trans F.o);have Hy:=zH (hKg (m:=m) hr Hz.o Q qc w4 hI.o);clear j Hj z2 z15 x0 y3 y4 d Hg l Hc F O u V I;go_wp2_with fail;refine Hy.o.mono ?_;rintro e w5 ⟨rfl,o5,z5,Hl,Hh⟩;have hJ:=zH Hl;have Hx:=zH (Hw.o.trans Hh);clear Hl Hh;go_wp2_with fail;go_end0;exact⟨rfl,o5,z5,hJ.o,Hx.o⟩
end Go.Proofs.YtlibpcllceepkaaGreat
