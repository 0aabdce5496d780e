/- Joined texts of the claim. No condition. -/
import Derived.Test.YtlibpcllceepkaaGreatB30
namespace Go.Proofs.YtlibpcllceepkaaGreat
open Go.RowKit
set_option maxRecDepth 100000
set_option linter.unusedVariables false
set_option linter.unusedSimpArgs false
set_option maxHeartbeats 16000000
theorem hK9 {r r':SRep} (h:r.propose=some r'):r.proposes=false∧r'=r∨r.waiting≠0∧r.leads=true∧∃ j s,r.slot r.waiting=some j∧r.room j=true∧r.waiting=r.next∧({ r with next:=r.next+1 }:SRep).lPropose j=some (true,s)∧(s.say ⟨2,s.log.e,s.log.v,r.next,[]⟩).takeUp r.next=some r':=by
 unfold SRep.propose at h;split at h
 ·rename_i c;injection h with h;exact .inl ⟨by simpa using c,h.symm⟩
 ·rename_i c;have a:r.proposes=true:=by simpa using c
  unfold SRep.proposes at a;simp only[Bool.and_eq_true,Bool.not_eq_true',beq_eq_false_iff_ne] at a;refine .inr ⟨a.2,a.1,?_⟩;split at h
  ·cases h
  ·rename_i j d;split at h
   ·cases h
   ·rename_i b;simp only[Bool.or_eq_true,Bool.not_eq_true',beq_eq_false_iff_ne,not_or,ne_eq,Bool.not_eq_false,Decidable.not_not] at b;split at h
    ·rename_i s f;exact⟨j,s,d,b.1,b.2,f,h⟩
    ·cases h
theorem hP3 (rho:Nat→Rq) {n:Nat} (h:n≠0):wt8 rho n=#[.int .i64 1,.int .i64 ((rho n).st:Int),.int .i64 ((rho n).kind:Int),.string (rho n).key,.float .f64 (rho n).real,.int .i64 0,.int .i64 101,.string (rho n).t]:=by
 unfold wt8 wcl wrq wby wtx;rw[if_neg h,if_neg h,if_neg h,if_neg h];rfl
theorem hJi {r r0:SRep} {j:Nat} {ok:Bool} (h:r.lPropose j=some (ok,r0)):r0.log.e=r.log.e∧r0.log.v=r.log.v∧r0.id=r.id:=by
 unfold SRep.lPropose at h;split at h
 ·injection h with h;injection h with h1 h2;subst h2;exact⟨rfl,rfl,rfl⟩
 ·rw[Option.map_eq_some_iff] at h;obtain⟨r3,a,b⟩:=h;injection b with h1 h2;subst h2;obtain⟨c,rfl⟩:=hBm a;exact⟨rfl,rfl,rfl⟩
theorem hWn (a b:Nat) (w:World) {ca cb:Array Value} (d:w.heap[a]?=some (.cells ca 188 (0,0))) (f:w.heap[b]?=some (.cells cb 188 (0,0))) :
  ∃ q:Bool,(binOp .eql 110 (.pointer (some ⟨a,0,none⟩)) (.pointer (some ⟨b,0,none⟩))).run Tryz.prog w=.ok (.bool q) w:=by
 by_cases h:a=b
 ·subst h;exact⟨true,hDu _ w⟩
 ·obtain⟨j,g,i⟩:∃ j,Tryz.prog.info? 188=some j∧j.size=8:=by
   have c:(Tryz.prog.info? 188).map (·.size)=some 8:=by kernel_rfl
   rw[Option.map_eq_some_iff] at c;exact c
  exact⟨false,run_eql_ptr_other w Tryz.underlying110 g (by omega) (fun e=>h (by cases e;rfl)) d f⟩
theorem hJq {o:Tags} {rho:Nat→Rq} {b:Nat} {z:RB} {r:SRep} {be m:Nat} (f:r.leads=false) (w:World) (h:RepF w o rho b z r be m) :
  Calls Tryz.prog 243 #[.pointer (some ⟨b,0,none⟩)] w fun e w'=>e=.returned (.tuple #[])∧Below w.heap.size w w':=by
 have x0:=h.c0;have c:=zH (hEm w h);rw[f] at c;have g:=hDu ⟨z.tb,0,none⟩ w;clear h f;go_enter Tryz.func243,Tryz.ntmps243;go_wp2_with fail;go_loopw [3] (fun j wr=>j=.int .i64 1∧w=wr) (fun _ _=>0)
 case atStart=>exact⟨rfl,rfl⟩
 case round=>
  obtain⟨rfl,rfl⟩:=hrel;go_wp2_with fail;refine c.o.mono ?_;rintro e w2 ⟨rfl,a⟩;have d:=zH a;clear a;go_wp2_with fail;go_end0;exact⟨rfl,d.o⟩
theorem hHe {o:Tags} {rho:Nat→Rq} {b:Nat} {z:RB} {r r':SRep} {m:Nat} (hr:ROk rho) (hx:r.propose=some r') (w:World) (h:RepF w o rho b z r r.log.e (m+25)) :
  Calls Tryz.prog 243 #[.pointer (some ⟨b,0,none⟩)] w fun e w'=>e=.returned (.tuple #[])∧∃ o' z',RepF w' o' rho b z' r' r'.log.e m∧ChgR (r.id+1) o o' w w':=by
 rcases hK9 hx with⟨hp,rfl⟩ | ⟨hw,hl,j,s,hs,az,aE,aU,ba⟩
 ·have HR:=zH (h.le (show m≤m+25 by omega));by_cases hw:r'.waiting=0
  ·refine(hGd hw w h).mono ?_;rintro e w' ⟨rfl,hb⟩;exact⟨rfl,o,z,HR.o.keep hb,ChgR.below hb (fun _ _=>rfl)⟩
  ·refine(hJq (by
    unfold SRep.proposes at hp;simp only[Bool.and_eq_false_iff,Bool.not_eq_false',beq_iff_eq] at hp;rcases hp with hp | hp
    ·exact hp
    ·exact absurd hp hw) w h).mono ?_
   rintro e w' ⟨rfl,hb⟩;exact⟨rfl,o,z,HR.o.keep hb,ChgR.below hb (fun _ _=>rfl)⟩
 have HR:=zH h;have x0:=h.c0;have bp:=zH h.term.1;have bo:=zH h.term.2;have aw:=zH (hEm w h);rw[hl] at aw;have bA:r.next<9:=by
  have h1:=az;unfold SRep.room at h1;simp only[Bool.and_eq_true,decide_eq_true_eq] at h1;have:=h.num.e;omega
 rw[aE] at hs;have aO:=zH (fun W h=>hV8 (o:=o) (rho:=rho) (b:=b) (z:=z) (r:=r) (m:=m+25) hr hs az W h);have HW:=zH hw;have HS:=zH hs;have br:=zH aE;have aK:=zH aU;have bq:=zH ba;clear h hw hl hs az aE aU ba hx;go_enter Tryz.func243,Tryz.ntmps243;go_wp2_with fail;clear x0;go_loopw [3] (fun j wr=>∃ k:Nat,1≤k∧k≤9∧j=.int .i64 k∧zI (k=1∧wr=w∨2≤k∧∃ o' z',RepF wr o' rho b z' r' r'.log.e m∧ChgR (r.id+1) o o' w wr∧∃ c,wr.heap[z.tb]?=some (.cells c 188 (0,0)))) (fun j _=>9 - (intOf j).toNat)
 case atStart=>exact⟨1,by omega,by omega,rfl,zH (.inl ⟨rfl,rfl⟩)⟩
 case round=>
  obtain⟨k,bE,hk,rfl,b7⟩:=hrel;rcases b7.o with⟨rfl,rfl⟩ | ⟨bG,o2,z2,Hw,aR,c2,aB⟩
  ·have x0:=HR.o.c0;have ay:=hDu ⟨z.tb,0,none⟩ wr;obtain⟨R8,f⟩:=zN (wt8 rho r.waiting:Array Value);go_wp2_with fail;refine aw.o.mono ?_;rintro e w2 ⟨rfl,Hr⟩;have bl:=zH Hr;have P:=zH (HR.o.keep Hr);have Ha:=P.o.wait_at 1 (by omega);rw[if_pos rfl,←f] at Ha;have HJ:=zH Ha;have Hb:=hEi r.waiting rho;have Z:=hFp rho r.waiting;rw[←f] at Hb Z;have ao:=zH Hb;have ai:=zH Z;have h8:zI (R8.size=8):=zH (by rw[f];rfl);have i:=zH ((f.trans (hP3 rho HW.o)).trans (by rw[br.o]));have N:=heap_alloc_new w2 (.cells R8 116);have y0:=(zR _ w2.heap.size 0 _ _ _ N).trans (show _=some (Value.int .i64 1) by rw[i.o];rfl);have y1:=(zR _ w2.heap.size 1 _ _ _ N).trans (show _=some (Value.int .i64 ((rho r.next).st:Int)) by rw[i.o];rfl);have y2:=(zR _ w2.heap.size 2 _ _ _ N).trans (show _=some (Value.int .i64 ((rho r.next).kind:Int)) by rw[i.o];rfl);have y3:=(zR _ w2.heap.size 3 _ _ _ N).trans (show _=some (Value.string (rho r.next).key) by rw[i.o];rfl);have y4:=(zR _ w2.heap.size 4 _ _ _ N).trans (show _=some (Value.float .f64 (rho r.next).real) by rw[i.o];rfl);have y5:=(zR _ w2.heap.size 5 _ _ _ N).trans (show _=some (Value.int .i64 0) by rw[i.o];rfl);have aH:=zH (Hr.alloc Hr.size (.cells R8 116));clear Ha Hb Z f x0 ay aw Hr;go_wp2_with (first
    |refine wpList_load_mid (by rfl) 116 (.tmp 30) (by rfl) b (5+1*8) (by rfl) R8.toList _ HJ.o Tryz.underlying116 rfl ao.o ?_
    |(refine wpList_store_row (by rfl) 116 (.tmp 4) (.tmp 31) (by rfl) w2.heap.size R8 (by rfl) (by rfl) 116 _ (heap_alloc_new w2 _) (by rw[h8.o];kernel_rfl) (by rw[h8.o];rfl) ai.o ?_;rw[World.setRow_alloc_new]))
   have J:=aH.o;have Q:=zH (HR.o.keepT J (Tags.ext_old o wr.heap.size 7));have Hi:=zH (ChgR.below (k:=r.id+1) J (Tags.ext_old o wr.heap.size 7));have aL:=zH N;have Ht:=Tags.ext_new o wr.heap.size 7 w2.heap.size bl.o.size;have bw:=Tags.ext_old o wr.heap.size 7;have am:=zH (aO.o _ (HR.o.keep J));generalize o.ext wr.heap.size 7=o3 at Q Hi Ht bw;refine am.o.mono ?_;rintro e w4 ⟨rfl,hI⟩;have Hf:=zH (Q.o.keep hI);have aI:=zH (Hi.o.trans (ChgR.below (k:=r.id+1) (o':=o3) hI (fun _ _=>rfl)));have ag:=zH ((hI.block w2.heap.size (by simp)).trans aL.o);clear J hI Q Hi N aL am aO y0 y1 y2 y3 y4 y5 HJ aH;obtain⟨g,hg⟩:=zN (w2.heap.size);rw[←hg] at ag Ht ⊢;clear hg;have x0:=Hf.o.c0;have y7:=Hf.o.t7;have f7:=Hf.o.tfz 7;obtain⟨aY,ar⟩:=Hf.o.setT 7 (.int .i64 ((r.next:Int)+1)) (z':=z) (r':={ r with next:=r.next+1 }) rfl rfl rfl { Hf.o.num with nx1:=by show 1≤r.next+1;omega,nx9:=by show r.next+1≤9;omega } (fun p hp=>by rcases p with _|_|_|_|_|_|_|_|_|_|_|_|_|_|p<;>first | exact absurd (by decide) hp | rfl);have bh:=(Hf.o.term.set 7 (.int .i64 ((r.next:Int)+1))).2.1;have R:=zH aY;have hU:=zH (aI.o.trans ar);have E:=zH (ar.at ag.o (by rw[Ht];simp));clear aY ar bh aI ag;go_wp2_with fail;generalize World.setCell _ _ _=w5 at R hU E ⊢;have gl:=(zL E.o);have z0:=(zR _ g 0 _ _ _ E.o).trans (show _=some (Value.int .i64 1) by rw[i.o];rfl);have z1:=(zR _ g 1 _ _ _ E.o).trans (show _=some (Value.int .i64 ((rho r.next).st:Int)) by rw[i.o];rfl);have z2:=(zR _ g 2 _ _ _ E.o).trans (show _=some (Value.int .i64 ((rho r.next).kind:Int)) by rw[i.o];rfl);have z3:=(zR _ g 3 _ _ _ E.o).trans (show _=some (Value.string (rho r.next).key) by rw[i.o];rfl);have z4:=(zR _ g 4 _ _ _ E.o).trans (show _=some (Value.float .f64 (rho r.next).real) by rw[i.o];rfl);have z5:=(zR _ g 5 _ _ _ E.o).trans (show _=some (Value.int .i64 0) by rw[i.o];rfl);have u0:=fun y:Bel w5.heap.size w5=>y.cell gl z0;have u1:=fun y:Bel w5.heap.size w5=>y.cell gl z1;have u2:=fun y:Bel w5.heap.size w5=>y.cell gl z2;have u3:=fun y:Bel w5.heap.size w5=>y.cell gl z3;have u4:=fun y:Bel w5.heap.size w5=>y.cell gl z4;have u5:=fun y:Bel w5.heap.size w5=>y.cell gl z5;have v0:=fun y:Bel w5.heap.size w5=>y.cell R.o.lt R.o.c0;have v1:=fun y:Bel w5.heap.size w5=>y.cell R.o.tlt R.o.t0;have aX:=fun W (h:RepF W o3 rho b z { r with next:=r.next+1 } r.log.e (m+25))=>hGc (o:=o3) (rho:=rho) (b:=b) (z:=z) (r:={ r with next:=r.next+1 }) (be:=r.log.e) (m:=m+25) hr (n:=r.next) HS.o true aK.o W h;have aj:=zH aX;unfold Rq.v at aj;clear z0 z1 z2 z3 z4 z5 x0 y7 f7 aX;refine hAi 10 w5.heap.size w5 (by kernel_rfl) (by kernel_rfl) (Below.refl _ _) ?_;simp only[List.take_succ_cons,List.take_zero,List.drop_succ_cons,List.drop_zero];repeat (go_big_quiet_step (fail))
   refine wpQuiet_nil ?_;rintro⟨wy,hy⟩;show wpList _ _ _ _ _ wy;have aN:=zH (aj.o wy (R.o.keep hy));have aJ:=zH (hU.o.trans (ChgR.below (k:=r.id+1) (o':=o3) hy (fun _ _=>rfl)));have ah:=zH ((hy.block g gl).trans E.o);clear u0 u1 u2 u3 u4 u5 v0 v1 aj R hU E hy gl;go_wp2_with fail;refine aN.o.mono ?_;rintro e w6 ⟨rfl,o6,aZ,hJ⟩;have F:=zH aZ;have aa:=zH (aJ.o.trans hJ);have Hz:=zH (hJ.at ah.o (by rw[Ht];simp));have ax:o6 g=7:=(hJ.tags g (zL ah.o)).trans Ht;clear aZ hJ aN aJ ah;go_wp2_with fail;have ae:=zH (hJi aK.o);have e1:s.log.e=r.log.e:=ae.o.1;have e2:s.log.v=r.log.v:=ae.o.2.1;have e3:s.id=r.id:=ae.o.2.2;have HI:=zH e3;have bC:r.log.e≤1:=by have:=F.o.num.e;omega
   have bI:s.log.v≤15:=F.o.num.v;obtain⟨bD,aV⟩:=hA8 HS.o;go_cut [4,5] from 10 to 92 (fun s4 s5 wx=>s4=.pointer (some ⟨g,0,none⟩)∧s5=.int .i64 r.next∧zI (∃ o7 z7,RepF wx o7 rho b z7 (s.say ⟨2,s.log.e,s.log.v,r.next,[]⟩) (s.say ⟨2,s.log.e,s.log.v,r.next,[]⟩).log.e (m+20)∧ChgR (r.id+1) o o7 wr wx∧wx.heap[g]?=some (.cells R8 116 (0,0))))
   case first=>
    have Hp:Below w6.heap.size w6 w6.drew:=Below.drew (Below.refl _ _);have aW:(⟨2,s.log.e,s.log.v,r.next,[]⟩:SMsg).ok=true:=by
     simp[SMsg.ok,e1];omega
    have aM:=zH aW;have E1:=zH e1;have aQ:=fun(W:World) (hb:Below w6.heap.size w6 W)=>zH (hBc z.lb (tg s.id 3) o6 z.ms rho s.log W (F.o.keep hb).log);have u:zI (∀ W:World,W.heap[g]?=some (.cells R8 116 (0,0))→W.cell? ⟨g,0,none⟩=some (.int .i64 1)∧W.cell? ⟨g,1,none⟩=some (.int .i64 ((rho r.next).st:Int))∧W.cell? ⟨g,2,none⟩=some (.int .i64 ((rho r.next).kind:Int))∧W.cell? ⟨g,3,none⟩=some (.string (rho r.next).key)∧W.cell? ⟨g,4,none⟩=some (.float .f64 (rho r.next).real)∧W.cell? ⟨g,5,none⟩=some (.int .i64 0)∧W.cell? ⟨g,6,none⟩=some (.int .i64 101)∧W.cell? ⟨g,7,none⟩=some (.string (rho r.next).t)):=zH (fun W hW=>by
     rw[i.o] at hW;exact⟨zR W g 0 _ _ _ hW,zR W g 1 _ _ _ hW,zR W g 2 _ _ _ hW,zR W g 3 _ _ _ hW,zR W g 4 _ _ _ hW,zR W g 5 _ _ _ hW,zR W g 6 _ _ _ hW,zR W g 7 _ _ _ hW⟩)
    have hO:=(zL Hz.o);have aq:∀ {W:World} {X:Obj},Below w6.heap.size w6 W→(W.cell? ⟨b,0,none⟩=some (.pointer (some ⟨z.tb,0,none⟩))∧W.cell? ⟨z.tb,0,none⟩=some (.pointer (some ⟨z.lb,0,none⟩))∧W.heap[g]?=some (.cells R8 116 (0,0)))→((W.alloc X).cell? ⟨b,0,none⟩=some (.pointer (some ⟨z.tb,0,none⟩))∧(W.alloc X).cell? ⟨z.tb,0,none⟩=some (.pointer (some ⟨z.lb,0,none⟩))∧(W.alloc X).heap[g]?=some (.cells R8 116 (0,0))):=fun {W X} hb _=>by
     have hz:=(hb.alloc (Below.size hb) X);exact⟨(F.o.keep hz).c0,(F.o.keep hz).t0,(hz.block g hO).trans Hz.o⟩
    refine wp_region_held_drew (S:=(fun W=>W.cell? ⟨b,0,none⟩=some (.pointer (some ⟨z.tb,0,none⟩))∧W.cell? ⟨z.tb,0,none⟩=some (.pointer (some ⟨z.lb,0,none⟩))∧W.heap[g]?=some (.cells R8 116 (0,0)))) (by kernel_rfl) ⟨(F.o.keep Hp).c0,(F.o.keep Hp).t0,(Hp.block g hO).trans Hz.o⟩ (fun O=>?_);change wpAnyH _ _ _ _ _ 17 (Array.replicate 17 false) _ _;have G:=Hp;clear Hp aW e1 e2 e3 aV;generalize w6.drew=w7 at O G ⊢
    (refine zT 0 71 rfl rfl (v:=?v71_1) (.inl ⟨by rfl,?y71_1⟩) ?_;case y71_1=>(intro w a;(try dsimp only at a);obtain⟨x0,t0,d⟩:=a;obtain⟨k0,k1,k2,k3,k4,k5,k6,k7⟩:=u.o w d;clear d;go_simp;try with_reducible rfl));try dsimp only;try simp only[zA,zC,zD]
    (refine zT 1 72 rfl rfl (v:=?v72_2) (.inl ⟨by rfl,?y72_2⟩) ?_;case y72_2=>(intro w a;(try dsimp only at a);obtain⟨x0,t0,d⟩:=a;obtain⟨k0,k1,k2,k3,k4,k5,k6,k7⟩:=u.o w d;clear d;go_simp;try with_reducible rfl));try dsimp only;try simp only[zA,zC,zD]
    (refine zT 2 73 rfl rfl (v:=?v73_3) (.inl ⟨by rfl,?y73_3⟩) ?_;case y73_3=>(intro w a;(try dsimp only at a);obtain⟨x0,t0,d⟩:=a;obtain⟨k0,k1,k2,k3,k4,k5,k6,k7⟩:=u.o w d;clear d;go_simp;try with_reducible rfl));try dsimp only;try simp only[zA,zC,zD]
    (refine zT 3 74 rfl rfl (v:=?v74_4) (.inl ⟨by rfl,?y74_4⟩) ?_;case y74_4=>(intro w a;(try dsimp only at a);obtain⟨x0,t0,d⟩:=a;obtain⟨k0,k1,k2,k3,k4,k5,k6,k7⟩:=u.o w d;clear d;go_simp;try with_reducible rfl));try dsimp only;try simp only[zA,zC,zD]
    (refine zT 4 75 rfl rfl (v:=?v75_5) (.inl ⟨by rfl,?y75_5⟩) ?_;case y75_5=>(intro w a;(try dsimp only at a);obtain⟨x0,t0,d⟩:=a;obtain⟨k0,k1,k2,k3,k4,k5,k6,k7⟩:=u.o w d;clear d;go_simp;try with_reducible rfl));try dsimp only;try simp only[zA,zC,zD]
    (refine zT 5 76 rfl rfl (v:=?v76_6) (.inl ⟨by rfl,?y76_6⟩) ?_;case y76_6=>(intro w a;(try dsimp only at a);obtain⟨x0,t0,d⟩:=a;obtain⟨k0,k1,k2,k3,k4,k5,k6,k7⟩:=u.o w d;clear d;go_simp;try with_reducible rfl));try dsimp only;try simp only[zA,zC,zD]
    (refine zT 6 77 rfl rfl (v:=?v77_7) (.inl ⟨by rfl,?y77_7⟩) ?_;case y77_7=>(intro w a;(try dsimp only at a);obtain⟨x0,t0,d⟩:=a;obtain⟨k0,k1,k2,k3,k4,k5,k6,k7⟩:=u.o w d;clear d;go_simp;try with_reducible rfl));try dsimp only;try simp only[zA,zC,zD]
    (refine zT 7 78 rfl rfl (v:=?v78_8) (.inl ⟨by rfl,?y78_8⟩) ?_;case y78_8=>(intro w a;(try dsimp only at a);obtain⟨x0,t0,d⟩:=a;obtain⟨k0,k1,k2,k3,k4,k5,k6,k7⟩:=u.o w d;clear d;go_simp;try with_reducible rfl));try dsimp only;try simp only[zA,zC,zD]
    (refine zT 9 80 rfl rfl (v:=?v80_9) (.inl ⟨by rfl,?y80_9⟩) ?_;case y80_9=>(intro w a;(try dsimp only at a);obtain⟨x0,t0,d⟩:=a;obtain⟨k0,k1,k2,k3,k4,k5,k6,k7⟩:=u.o w d;clear d;go_simp;try with_reducible rfl));try dsimp only;try simp only[zA,zC,zD]
    (refine zT 10 81 rfl rfl (v:=?v81_10) (.inl ⟨by rfl,?y81_10⟩) ?_;case y81_10=>(intro w a;(try dsimp only at a);obtain⟨x0,t0,d⟩:=a;obtain⟨k0,k1,k2,k3,k4,k5,k6,k7⟩:=u.o w d;clear d;go_simp;try with_reducible rfl));try dsimp only;try simp only[zA,zC,zD]
    (refine zT 11 82 rfl rfl (v:=?v82_11) (.inl ⟨by rfl,?y82_11⟩) ?_;case y82_11=>(intro w a;(try dsimp only at a);obtain⟨x0,t0,d⟩:=a;obtain⟨k0,k1,k2,k3,k4,k5,k6,k7⟩:=u.o w d;clear d;go_simp;try with_reducible rfl));try dsimp only;try simp only[zA,zC,zD]
    (refine zT 12 83 rfl rfl (v:=?v83_12) (.inl ⟨by rfl,?y83_12⟩) ?_;case y83_12=>(intro w a;(try dsimp only at a);obtain⟨x0,t0,d⟩:=a;obtain⟨k0,k1,k2,k3,k4,k5,k6,k7⟩:=u.o w d;clear d;go_simp;try with_reducible rfl));try dsimp only;try simp only[zA,zC,zD]
    (refine zT 13 84 rfl rfl (v:=?v84_13) (.inl ⟨by rfl,?y84_13⟩) ?_;case y84_13=>(intro w a;(try dsimp only at a);obtain⟨x0,t0,d⟩:=a;obtain⟨k0,k1,k2,k3,k4,k5,k6,k7⟩:=u.o w d;clear d;go_simp;try with_reducible rfl));try dsimp only;try simp only[zA,zC,zD]
    refine wpAnyH_ready (rs:=[8,14]) (by kernel_rfl) (by simp) ?_;refine AllReadyH.cons rfl (fun K D=>?_) (AllReadyH.cons rfl (fun K D=>?_) AllReadyH.nil)
    ·rw[if_pos (by rfl)];go_simp;go_at_call 217;refine(aQ _ G).o.mono ?_;rintro e wd ⟨rfl,rfl⟩;refine D.out _ _ O (fun _=>?_);try dsimp only
     clear D K;refine wpAnyH_ready (rs:=[14]) (by kernel_rfl) (by simp) ?_;refine AllReadyH.cons rfl (fun K D=>?_) AllReadyH.nil;go_simp;have x:=heap_alloc_new w7 (.cells #[.int .i64 101,.string (rho r.next).t] 114);have I:Below w6.heap.size w6 (w7.alloc (.cells #[.int .i64 101,.string (rho r.next).t] 114)):=G.alloc (Below.size G) _;have H:=aq (X:=(.cells #[.int .i64 101,.string (rho r.next).t] 114)) G O;refine D.out _ _ H (fun _=>?_);try dsimp only
     clear D K;obtain⟨gs,V⟩:=zN (w7.heap.size);have av:w6.heap.size≤gs:=by rw[V];exact Below.size G
     rw[←V] at x ⊢;clear V;change wpAnyH _ _ _ _ _ _ _ _ (w7.alloc (.cells #[.int .i64 101,.string (rho r.next).t] 114));generalize w7.alloc _=wa at x I H ⊢;refine zK 15 86 rfl rfl ?_;try dsimp only;try simp only[zA,zC,zD]
     refine wpAnyH_ready (rs:=[16]) (by kernel_rfl) (by simp) ?_;refine AllReadyH.cons rfl (fun K D=>?_) AllReadyH.nil;rw[if_pos (by rfl)];go_simp;go_at_call 238;have f:=F.o.keepT I (Tags.ext_old o6 w6.heap.size 0);have Hm:=aa.o.trans (ChgR.below (k:=r.id+1) I (Tags.ext_old o6 w6.heap.size 0));have Hu:=Tags.ext_new o6 w6.heap.size 0 gs av;have Hl:=SlD.of_row (enc:=encS) (l:=[(101,(rho r.next).t)]) x rfl (by unfold maxLen;simp) Hu;have Hq:((⟨2,s.log.e,s.log.v,r.next,[]⟩:SMsg).fm rho).At wa (o6.ext w6.heap.size 0) ⟨none,0,some ⟨gs,0,none⟩,1,none,0,none,0⟩:=⟨⟨rfl,rfl⟩,Hl,SlD.nil _ _ _,⟨rfl,rfl⟩⟩;have Hx:=hH8 (be:=r.log.e) (m:=m+20) ⟨2,s.log.e,s.log.v,r.next,[]⟩ aM.o rfl ⟨none,0,some ⟨gs,0,none⟩,1,none,0,none,0⟩ #[.int .i64 2,.int .i64 0,.int .i64 s.log.v,.int .i64 r.next,.int .i64 1,.int .i64 ((rho r.next).st:Int),.int .i64 ((rho r.next).kind:Int),.string (rho r.next).key,.float .f64 (rho r.next).real,.int .i64 0,.int .i64 0,.float .f64 0,.string ⟨#[]⟩,.slice none 0 0,.slice (some ⟨gs,0,none⟩) 1 1,.slice none 0 0,.slice none 0 0] rfl _ f Hq
     with_reducible refine Hx.mono ?_
     rintro e wf ⟨rfl,o7,z7,C,B,M⟩;have T:wf.cell? ⟨b,0,none⟩=some (.pointer (some ⟨z.tb,0,none⟩))∧wf.cell? ⟨z.tb,0,none⟩=some (.pointer (some ⟨z.lb,0,none⟩))∧wf.heap[g]?=some (.cells R8 116 (0,0)):=⟨by rw[C.c0,M.1],by rw[←M.1,C.t0,M.2],B.at H.2.2 (by rw[Tags.ext_old _ _ _ _ hO,ax];simp)⟩;refine D.out _ _ T (fun _=>?_);try dsimp only
     clear D K;refine wpAnyH_done (by kernel_rfl) ?_ _;have ak:=zH C;have Hj:=zH (Hm.trans (by rw[HI.o] at B;exact B));have ab:=zH T.2.2;clear C B M T H f Hm Hu Hl Hq Hx x I;go_wp2_with fail;go_meet
     case rel=>
      refine⟨rfl,rfl,zH ⟨o7,z7,?_,Hj.o,ab.o⟩⟩;have h:=ak.o;rw[←E1.o] at h;exact h
    ·go_simp;have x:=heap_alloc_new w7 (.cells #[.int .i64 101,.string (rho r.next).t] 114);have I:Below w6.heap.size w6 (w7.alloc (.cells #[.int .i64 101,.string (rho r.next).t] 114)):=G.alloc (Below.size G) _;have H:=aq (X:=(.cells #[.int .i64 101,.string (rho r.next).t] 114)) G O;refine D.out _ _ H (fun _=>?_);try dsimp only
     clear D K;obtain⟨gs,V⟩:=zN (w7.heap.size);have av:w6.heap.size≤gs:=by rw[V];exact Below.size G
     rw[←V] at x ⊢;clear V;change wpAnyH _ _ _ _ _ _ _ _ (w7.alloc (.cells #[.int .i64 101,.string (rho r.next).t] 114));generalize w7.alloc _=wa at x I H ⊢;refine wpAnyH_ready (rs:=[8]) (by kernel_rfl) (by simp) ?_;refine AllReadyH.cons rfl (fun K D=>?_) AllReadyH.nil;rw[if_pos (by rfl)];go_simp;go_at_call 217;refine(aQ _ I).o.mono ?_;rintro e wd ⟨rfl,rfl⟩;refine D.out _ _ H (fun _=>?_);try dsimp only
     clear D K;refine zK 15 86 rfl rfl ?_;try dsimp only;try simp only[zA,zC,zD]
     refine wpAnyH_ready (rs:=[16]) (by kernel_rfl) (by simp) ?_;refine AllReadyH.cons rfl (fun K D=>?_) AllReadyH.nil;rw[if_pos (by rfl)];go_simp;go_at_call 238;have f:=F.o.keepT I (Tags.ext_old o6 w6.heap.size 0);have Hm:=aa.o.trans (ChgR.below (k:=r.id+1) I (Tags.ext_old o6 w6.heap.size 0));have Hu:=Tags.ext_new o6 w6.heap.size 0 gs av;have Hl:=SlD.of_row (enc:=encS) (l:=[(101,(rho r.next).t)]) x rfl (by unfold maxLen;simp) Hu;have Hq:((⟨2,s.log.e,s.log.v,r.next,[]⟩:SMsg).fm rho).At wa (o6.ext w6.heap.size 0) ⟨none,0,some ⟨gs,0,none⟩,1,none,0,none,0⟩:=⟨⟨rfl,rfl⟩,Hl,SlD.nil _ _ _,⟨rfl,rfl⟩⟩;have Hx:=hH8 (be:=r.log.e) (m:=m+20) ⟨2,s.log.e,s.log.v,r.next,[]⟩ aM.o rfl ⟨none,0,some ⟨gs,0,none⟩,1,none,0,none,0⟩ #[.int .i64 2,.int .i64 0,.int .i64 s.log.v,.int .i64 r.next,.int .i64 1,.int .i64 ((rho r.next).st:Int),.int .i64 ((rho r.next).kind:Int),.string (rho r.next).key,.float .f64 (rho r.next).real,.int .i64 0,.int .i64 0,.float .f64 0,.string ⟨#[]⟩,.slice none 0 0,.slice (some ⟨gs,0,none⟩) 1 1,.slice none 0 0,.slice none 0 0] rfl _ f Hq
     with_reducible refine Hx.mono ?_
     rintro e wf ⟨rfl,o7,z7,C,B,M⟩;have T:wf.cell? ⟨b,0,none⟩=some (.pointer (some ⟨z.tb,0,none⟩))∧wf.cell? ⟨z.tb,0,none⟩=some (.pointer (some ⟨z.lb,0,none⟩))∧wf.heap[g]?=some (.cells R8 116 (0,0)):=⟨by rw[C.c0,M.1],by rw[←M.1,C.t0,M.2],B.at H.2.2 (by rw[Tags.ext_old _ _ _ _ hO,ax];simp)⟩;refine D.out _ _ T (fun _=>?_);try dsimp only
     clear D K;refine wpAnyH_done (by kernel_rfl) ?_ _;have ak:=zH C;have Hj:=zH (Hm.trans (by rw[HI.o] at B;exact B));have ab:=zH T.2.2;clear C B M T H f Hm Hu Hl Hq Hx x I;go_wp2_with fail;go_meet
     case rel=>
      refine⟨rfl,rfl,zH ⟨o7,z7,?_,Hj.o,ab.o⟩⟩;have h:=ak.o;rw[←E1.o] at h;exact h
   case rest=>
    obtain⟨rfl,rfl,hcut⟩:=hcut;obtain⟨o7,z7,C,B,aT⟩:=hcut.o;have an:=zH (hI7 (m:=m) hr bq.o wc C);have U:wc.heap[g]?=some (.cells #[.int .i64 1,.int .i64 ((rho r.next).st:Int),.int .i64 ((rho r.next).kind:Int),.string (rho r.next).key,.float .f64 (rho r.next).real,.int .i64 0,.int .i64 101,.string (rho r.next).t] 116 (0,0)):=by rw[←i.o];exact aT
    have z0:=zQ _ g 0 (.int .i64 1) U;have z1:=zQ _ g 1 (.int .i64 ((rho r.next).st:Int)) U;have z2:=zQ _ g 2 (.int .i64 ((rho r.next).kind:Int)) U;have z3:=zQ _ g 3 (.string (rho r.next).key) U;have z4:=zQ _ g 4 (.float .f64 (rho r.next).real) U;have z5:=zQ _ g 5 (.int .i64 0) U;have Hj:=zH B;unfold Rq.v at an;clear hcut C B aT U F aa Hz e1 e2 e3 aV;go_wp2_with fail;refine an.o.mono ?_;rintro e w8 ⟨rfl,o8,z8,b6,aS⟩;have au:=Hj.o.trans (show ChgR (r.id+1) o7 o8 wc w8 by
     have h:ChgR (s.id+1) o7 o8 wc w8:=aS;rw[HI.o] at h;exact h)
    have HF:=zH (show 2≤2∧∃ o' z',RepF w8 o' rho b z' r' r'.log.e m∧ChgR (r.id+1) o o' wr w8∧∃ c,w8.heap[z.tb]?=some (.cells c 188 (0,0)) from⟨by omega,o8,z8,b6,au,au.term z.tb HR.o.tlt (by rw[bo.o];unfold tg;omega) _ bp.o⟩);clear b6 aS au z0 z1 z2 z3 z4 z5 an;go_wp2_with fail;exact⟨⟨2,by omega,by omega,rfl,zH (.inr HF.o)⟩,by simp[intOf]⟩
  ·have P:=zH Hw;have Hy:=zH aR;have aP:=zH aB;have x0:=Hw.c0;obtain⟨q,ay⟩:=hWn z2.tb z.tb wr Hw.term.1 aB;have Y:=zH (hEm wr Hw);clear Hw aR aB b7;by_cases hk9:k≤8
   ·have q1:(k:Int)≤8:=by omega
    have q0:(1:Int)≤(k:Int):=by omega
    cases q
    ·go_wp2_with fail;go_end0;exact⟨rfl,o2,z2,P.o,Hy.o⟩
    ·cases hl2:r'.leads
     ·rw[hl2] at Y;go_wp2_with fail;refine Y.o.mono ?_;rintro e w3 ⟨rfl,L⟩;have Q:=zH (P.o.keep L);have Hi:=zH (Hy.o.trans (ChgR.below (k:=r.id+1) (o':=o2) L (fun _ _=>rfl)));clear L;go_wp2_with fail;go_end0;exact⟨rfl,o2,z2,Q.o,Hi.o⟩
     ·rw[hl2] at Y;go_wp2_with fail;refine Y.o.mono ?_;rintro e w3 ⟨rfl,L⟩;have bB:=zH L;have Q:=zH (P.o.keep L);obtain⟨R8,f⟩:=zN (wt8 rho 0:Array Value);have Ha:=Q.o.wait_at k (by omega);rw[if_neg (by omega),←f] at Ha;have HJ:=zH Ha;have Hb:=hEi 0 rho;have Z:=hFp rho 0;rw[←f] at Hb Z;have ao:=zH Hb;have ai:=zH Z;have h8:zI (R8.size=8):=zH (by rw[f];rfl);have bH:=(zR _ w3.heap.size 0 _ _ _ (heap_alloc_new w3 (.cells R8 116))).trans (show _=some (Value.int .i64 0) by rw[f];rfl);have J:=L.alloc L.size (.cells R8 116);have HF:=zH (show 2≤k+1∧∃ o' z',RepF (w3.alloc (.cells R8 116)) o' rho b z' r' r'.log.e m∧ChgR (r.id+1) o o' w (w3.alloc (.cells R8 116))∧∃ c,(w3.alloc (.cells R8 116)).heap[z.tb]?=some (.cells c 188 (0,0)) from⟨by omega,o2,z2,P.o.keep J,Hy.o.trans (ChgR.below (k:=r.id+1) (o':=o2) J (fun _ _=>rfl)),c2,(J.block z.tb (zL aP.o)).trans aP.o⟩);clear L x0 ay Y Ha Hb Z f J;go_wp2_with (first
       |refine wpList_load_mid (by rfl) 116 (.tmp 30) (by rfl) b (5+k*8) (by rfl) R8.toList _ HJ.o Tryz.underlying116 rfl ao.o ?_
       |(refine wpList_store_row (by rfl) 116 (.tmp 4) (.tmp 31) (by rfl) w3.heap.size R8 (by rfl) (by rfl) 116 _ (heap_alloc_new w3 _) (by rw[h8.o];kernel_rfl) (by rw[h8.o];rfl) ai.o ?_;rw[World.setRow_alloc_new]))
      exact⟨⟨k+1,by omega,by omega,by go_num,zH (.inr HF.o)⟩,by simp[intOf];omega⟩
   ·obtain rfl:k=9:=by omega
    clear hk9;go_wp2_with fail;go_end0;exact⟨rfl,o2,z2,P.o,Hy.o⟩
end Go.Proofs.YtlibpcllceepkaaGreat
