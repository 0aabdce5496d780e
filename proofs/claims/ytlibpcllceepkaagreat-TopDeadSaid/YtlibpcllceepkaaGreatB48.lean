/- Joined texts of the claim. No condition. -/
import Derived.Test.YtlibpcllceepkaaGreatB47
namespace Go.Proofs.YtlibpcllceepkaaGreat
open Go.RowKit
set_option maxRecDepth 100000
set_option linter.unusedVariables false
set_option linter.unusedSimpArgs false
set_option maxHeartbeats 16000000
theorem hN8:∀ (l:List Nat) (a b:Nat),l.Pairwise (· < ·)→(∀ x∈l,a≤x∧x<b)→l.length≤b - a
 |[],a,b,_,_=>Nat.zero_le _
 |x::l,a,b,hp,hm=>by
  rw[List.pairwise_cons] at hp;have d:=hN8 l (x+1) b hp.2 (fun y c=>⟨hp.1 y c,(hm y (by simp[c])).2⟩);have:=hm x (by simp);simp only[List.length_cons];omega
theorem Own1.of {w:World} {base:Nat} {T:TypeId} {k:Nat} {v:Value} {n:Nat} {xs:List Value} (h:w.ownsRow base T k v n xs):Own1 w base T k v n xs:=
 ⟨hCi h,fun g a=>by
  have:=(World.ownsRow.lt h g a).1;show(if g<base then 0 else 1)=1;rw[if_neg (by omega)]⟩
theorem hRg {i:Nat} {l:List Nat} {W V:SWorld} (h:SW.tickR (i::l) W=some V):∃ r q,SW.find W.reps i=some r∧r.ok=true∧W.now≤5000∧({ r with now:=W.now }:SRep).gives=some q∧q.id=r.id∧q.now=W.now∧q.again.id=r.id ∧
  W.lane.length+q.again.o.length≤4096∧(∀ x∈q.again.o,x.2.ok=true)∧SW.tickR l { W with reps:=SW.setRep W.reps { q.again with o:=[] },lane:=W.lane++q.again.o.map fun x=>(i,x.1,x.2) }=some V:=by
 rw[hJc] at h;split at h
 ·cases h
 ·rename_i r d;split at h
  ·cases h
  ·rename_i r' a;split at h
   ·rename_i c;split at h
    ·cases h
    ·rename_i W1 e;obtain⟨p1,p2,rfl⟩:=hDd e;unfold SRep.tick at a;split at a
     ·cases a
     ·rename_i hc;simp only[Bool.or_eq_true,Bool.not_eq_true',decide_eq_false_iff_not,not_or,Bool.not_eq_false,Classical.not_not] at hc;split at a
      ·cases a
      ·rename_i q f;split at a
       ·rename_i b;injection a with a;subst a;exact⟨r,q,d,hc.1,hc.2,f,b.1,b.2,c,p1,p2,h⟩
       ·cases a
   ·cases h
theorem hRq (r:SRep):r.again.log=r.log:=by
 unfold SRep.again;split
 ·obtain⟨X,a⟩:=hCo r.says r;rw[a];rfl
 ·rfl
theorem hOk {W W':SWorld} (b:W.lane.length≤4096) (h:SW.cTick W=some W'):SW.cok W.cli=true∧∃ L:List (Nat×SMsg),W.lane.length+L.length≤4096∧(∀ q∈L,q.2.ok=true)∧W'={ W with lane:=W.lane++L.map fun q=>(101,q.1,q.2) }∧∀ rho,tickPs rho W.cli W.now=L.map (pkF rho 101):=by
 unfold SW.cTick at h;split at h
 ·cases h
 ·rename_i hc;refine⟨by simpa using hc,?_⟩;split at h
  ·rename_i a;obtain⟨p1,p2,rfl⟩:=hDd h;refine⟨SW.cOut W.cli,p1,p2,rfl,fun rho=>?_⟩;unfold tickPs SW.cOut;rw[if_pos a,List.map_append];cases W.cli.open_<;>rfl
  ·rename_i a;injection h with h;subst h;refine⟨[],by simpa using b,by simp,?_,fun rho=>?_⟩
   ·simp
   ·unfold tickPs;rw[if_neg a];rfl
theorem hSk {c:SCli} (h:SW.cok c=true):c.stamp≤8∧c.acc≤c.stamp∧(c.open_=true→1≤c.stamp):=by
 unfold SW.cok at h;simp only[Bool.and_eq_true,decide_eq_true_eq,Bool.or_eq_true,Bool.not_eq_true',beq_iff_eq] at h;refine⟨h.1.1.1.1.1.1,h.1.1.1.1.1.2,fun a=>?_⟩;rcases h.1.1.1.1.2 with h2 | h2
 ·rw[a] at h2;cases h2
 ·omega
theorem WorldAt.tock {w:World} {o:Tags} {rho:Nat→Rq} {b:Nat} {p:WB} {W:SWorld} (h:WorldAt w o rho b p W) (k:W.now≤4000) :
  WorldAt (w.setCell ⟨b,3,none⟩ (.int .i64 ((W.now:Int)+1))) o rho b p { W with now:=W.now+1 }∧Chg (tg 6 1) o o w (w.setCell ⟨b,3,none⟩ (.int .i64 ((W.now:Int)+1))):=by
 obtain⟨e,_,hc⟩:=Blk.sets [(3,.int .i64 ((W.now:Int)+1))] h.blk;have a:Chg (tg 6 1) o o w (w.setCell ⟨b,3,none⟩ (.int .i64 ((W.now:Int)+1))):=hc;have f:Fix (fun t=>t≠tg 6 1) o o w (w.setCell ⟨b,3,none⟩ (.int .i64 ((W.now:Int)+1))):=a.fix (by simp);obtain⟨z,c⟩:=h.cli;obtain⟨r1,r2⟩:=h.rmap.1.fixT f (by rw[h.rmap.2];decide);obtain⟨c1,c2⟩:=h.cmap.1.fixT f (by rw[h.cmap.2];decide);have g:(((W.now+1:Nat):Int))=(W.now:Int)+1:=by omega
 refine⟨⟨?_,⟨r1,r2.trans h.rmap.2⟩,⟨c1,c2.trans h.cmap.2⟩,h.lane.fix f (by decide) (by decide),fun r j=>by
  obtain⟨z,d⟩:=h.reps r j;exact⟨z,d.fix16 f (by decide) (fun q i=>by have:=d.num.id;unfold tg;omega)⟩,⟨z,c.fix16 f (by decide) (fun q i=>by unfold tg;omega)⟩,h.ids,by show W.now+1≤5000;omega⟩,a⟩
 show Blk _ o (tg 6 1) b 80 #[_,_,_,.int .i64 ((W.now+1:Nat):Int)];rw[g];exact e
theorem hP8 (a:Addr) (V:World):(nilAhead 535 71 (.pointer (some a)) "Tick").run Tryz.prog V=.ok (some false) V:=by
 rfl
theorem hP7 (a:Addr) (V:World):(nilAhead 535 53 (.pointer (some a)) "Tick").run Tryz.prog V=.ok (some false) V:=by
 rfl
theorem hRm {o:Tags} {rho:Nat→Rq} {b:Nat} {p:WB} {W W':SWorld} (hr:ROk rho) (a:SW.tick W=some W') (hs:(W.reps.map (·.id)).Pairwise (· < ·)) (w:World) (h:WorldAt w o rho b p W) :
  Calls Tryz.prog 28 #[.pointer (some ⟨b,0,none⟩),.int .i64 (-1)] w fun e w'=>e=.returned (.int .i64 0)∧∃ o',WorldAt w' o' rho b p W'∧ChgW o o' w w':=by
 have bT:W.now≤4000∧∃ V,SW.tickR (W.reps.map (·.id)) { W with now:=W.now+1 }=some V∧SW.cTick V=some W':=by
  unfold SW.tick at a;split at a
  ·cases a
  ·rename_i hc;simp only[Bool.not_eq_true',decide_eq_false_iff_not,Classical.not_not] at hc;split at a
   ·cases a
   ·exact⟨hc,_,‹_›,a⟩
 obtain⟨bA,V,hv,aX⟩:=bT;obtain⟨ids,F⟩:=zN (W.reps.map (·.id));rw[←F] at hs hv;have ay:∀ x∈ids,0≤x∧x<4:=fun x a=>by
  rw[F] at a;obtain⟨r,hr,rfl⟩:=List.mem_map.1 a;obtain⟨z,hz⟩:=h.reps r hr;exact⟨Nat.zero_le _,hz.num.id⟩
 have bz:=hN8 ids 0 4 hs ay;obtain⟨n,hn⟩:=zN (ids.length);rw[←hn] at bz;obtain⟨m,hm⟩:=zN (n+1);have HM:=zH hm;have cf:m≤5:=by omega
 have b7:repL p W.reps=((W.reps.map fun r=>((r.id:Int),Value.pointer (some ⟨p.rb r.id,0,none⟩))).map fun q=>(.int .i64 q.1,q.2)):=by
  unfold repL;rw[List.map_map];rfl
 have az:(W.reps.map fun r=>((r.id:Int),Value.pointer (some ⟨p.rb r.id,0,none⟩))).map Prod.fst=ids.map fun i:Nat=>(i:Int):=by
  rw[F,List.map_map,List.map_map];rfl
 have J:(W.reps.map fun r=>((r.id:Int),Value.pointer (some ⟨p.rb r.id,0,none⟩))).length=n:=by
  rw[hn,F,List.length_map,List.length_map]
 have bo:(ids.map fun i:Nat=>(i:Int)).Pairwise (· < ·):=by
  rw[List.pairwise_map];exact hs.imp fun h=>by omega
 have aF:=h.rmap.1;rw[b7] at aF;have aG:=hWl p.rm _ (by rw[J];omega) (by rw[az];exact bo) w aF;rw[J,az] at aG;have aT:=zH aG;have HW:=zH h;have HR:=zH hr;have ap:=zH (And.intro hv aX);have Hy:=zH (And.intro F (And.intro hn ay));obtain⟨c0,_,_,_⟩:=h.c;obtain⟨i0,b6,bq,br,bt⟩:=info_parts hFe;have bI:=zH b6;have bJ:=zH bq;have bK:=zH br;have bL:=zH bt;clear b6 bq br bt h hr a hs hv aX F hn ay b7 az J bo aF aG hm;go_enter Tryz.func28,Tryz.ntmps28;go_wp2_with fail;refine(hY9 p.rm w).mono ?_;rintro e wk ⟨rfl,rfl⟩;go_wp2_with fail;refine aT.o.mono ?_;rintro e w2 ⟨v2,rfl,Hc,ar⟩;obtain⟨RA,rc,rfl⟩:=hAk Hc;have aQ:=zH (Own1.of Hc);have aN:=zH ar;have aH:=HW.o.keep ar;obtain⟨_,c1,_,_⟩:=aH.c;have aS:=zH (hWk p.cm [((1:Int),Value.pointer (some ⟨p.cb,0,none⟩))] (by simp) (by simp) w2 aH.cmap.1);clear c0 Hc ar aH aT;go_wp2_with fail;refine(hY8 p.cm w2).mono ?_;rintro e wk ⟨rfl,rfl⟩;go_wp2_with fail;refine aS.o.mono ?_;rintro e w3 ⟨v3,rfl,Hf,au⟩;obtain⟨CA,cc,rfl⟩:=hAk Hf;obtain⟨gc,rfl,bR,bx,bO,bP,aa⟩:=hCj (n:=1) Hf (by omega);have y0:w3.cell? ⟨gc,0,none⟩=some (.int .i64 1):=aa 0 _ rfl;have ao:=zH (aQ.o.below au);have aj:=zH (zB aN.o au);have bE:zI (∀ v∈[Value.int .i64 101],v.oneCell'=true):=zH (fun v hv=>by
  rw[List.mem_singleton.1 hv];rfl)
 clear c1 Hf au aa aS aQ aN;go_wp2_with fail;go_loopw [5,7,29] (fun s5 _ j wr=>j=.int .i64 0∧s5=.slice RA n rc∧w3=wr∨j=.int .i64 1∧∃ A c,s5=.slice A m c∧zI (Own1 wr w.heap.size 3 1 (.slice A m c) m ((ids.map fun i:Nat=>(i:Int)).map encZ++[.int .i64 101])∧Below w.heap.size w wr)) (fun _ _ j _=>1 - (intOf j).toNat)
 case atStart=>exact .inl ⟨rfl,rfl,rfl⟩
 case round=>
  rcases hrel with⟨rfl,rfl,rfl⟩ | ⟨rfl,A,c,rfl,X⟩
  ·have bD:zI (∀ j v,([Value.int .i64 101])[j]?=some v→(w3.alloc (.cells #[.int .i64 101] 3)).cell? ((⟨w3.heap.size,0,none⟩:Addr).add j)=some v):=zH (fun j v hv=>by
    rw[hAl,zR _ _ _ _ _ _ (heap_alloc_new w3 _)];simpa using hv)
   have aq:=(Below.refl w3.heap.size w3).alloc (Nat.le_refl _) (.cells #[.int .i64 101] 3);have aR:=zH (ao.o.below aq);have ak:=zH (zB aj.o aq);clear aq ao aj;go_wp2_with (at_builtin;go_must (refine hA9 rfl (.tmp 33) (.tmp 36) 29 rfl (fun b=>if b<w.heap.size then 0 else 1) 1 3 i0 _ 1 8 Tryz.underlying29 bI.o bJ.o bK.o bL.o rfl (by decide) _ _ _ (by rfl) aR.o ⟨w3.heap.size,0,none⟩ 1 1 [Value.int .i64 101] (by rfl) (by rfl) bD.o bE.o (by unfold maxLen;omega) (by omega) ?_);go_must (intro v4 w4 hI;obtain⟨VA,VC,rfl⟩:=hAk hI.row.1;have HU:=zH hI;clear hI));have bN:=ak.o.trans (HU.o.below aR.o ak.o.size);exact⟨.inr ⟨by go_num,VA,VC,by rw[HM.o],zH ⟨by rw[HM.o];exact HU.o.own1 ak.o.size,bN⟩⟩,by simp[intOf]⟩
  ·have Hl:=X;clear X y0 ao aj;have Y:=HW.o.keepT (o':=fun x=>if x<w.heap.size then o x else 7) Hl.o.2 (fun x a=>if_pos a);have aU:=zH Y;obtain⟨ga,rfl,c9,bV,bY,bZ,_⟩:=hCj Hl.o.1.row (by rw[HM.o];omega);have Hb:zI (Row wr (fun x=>if x<w.heap.size then o x else 7) 7 3 1 (.slice (some ⟨ga,0,none⟩) m c) m ((ids.map fun i:Nat=>(i:Int)).map encZ++[.int .i64 101])):=zH ⟨Hl.o.1.1,fun g hg=>by
    have e:ga=g:=Option.some.inj hg;show(if g<w.heap.size then o g else 7)=7;rw[if_neg (by omega)]⟩
   have am:=zH (ChgW.below (o':=fun x=>if x<w.heap.size then o x else 7) Hl.o.2 (fun x a=>if_pos a));have l:=zH (hHp (-1) (by omega) (fun r _=>by omega) wr Y);obtain⟨t1,t2⟩:=Y.tock bA;have HT:=zH (And.intro t1 t2);obtain⟨_,_,_,c3⟩:=Y.c;have f3:=frozen_of_row wr b 3 _ _ Y.blk.1;have q0:(0:Int)≤(W.now:Int):=by omega
   have q1:(W.now:Int)≤4000:=by omega
   generalize (fun x=>if x<w.heap.size then o x else 7)=o4 at aU Hb am l HT Y t1 t2;clear Y t1 t2 Hl bR bx bO bP;go_wp2_with fail;refine l.o.mono ?_;rintro e wx ⟨rfl,rfl⟩;go_upto_region 14 with fail;generalize World.setCell _ _ _=w5 at HT ⊢;have aV:=zH HT.o.1;have hO:=zH (Hb.o.fix (P:=fun t=>t≠tg 6 1) (HT.o.2.fix (by simp)) (by decide));have aO:=zH (am.o.trans (ChgW.of_chg HT.o.2 (by decide)));clear HT Hb am l c3 f3 q0 q1 aU;go_wp2_with fail;go_loopw [11,12,13,62] (fun _ _ _ j wl=>∃ k:Nat,k≤m∧j=.int .i64 k∧zI (∃ ok Wk,WorldAt wl ok rho b p Wk∧ChgW o ok w wl∧Row wl ok 7 3 1 (.slice (some ⟨ga,0,none⟩) m c) m ((ids.map fun i:Nat=>(i:Int)).map encZ++[.int .i64 101])∧(k≤n→SW.tickR (ids.drop k) Wk=some V)∧(k=m→Wk=W'))) (fun _ _ _ j _=>m - (intOf j).toNat)
   case atStart=>exact⟨0,by omega,rfl,zH ⟨o4,_,aV.o,aO.o,hO.o,fun _=>ap.o.1,fun h=>by have:=HM.o;omega⟩⟩
   case round=>
    obtain⟨k,hk,rfl,X⟩:=hrel;obtain⟨ok,Wk,E,Z,Ha,Hw,ab⟩:=X.o;have q0:(0:Int)≤(k:Int):=by omega
    clear aV aO hO HW;obtain⟨_,bw,_,_,_,_,f⟩:=hCj Ha.1 (by rw[HM.o];omega);cases bw;rcases Nat.lt_or_ge k m with hkn1 | hkn1
    ·have q1:(k:Int)<(m:Int):=by omega
     have q2:(k:Int)<100:=by omega
     rcases Nat.lt_or_ge k n with hkn | hkn
     ·have J:k<ids.length:=by rw[←Hy.o.2.1];exact hkn
      obtain⟨i,hi⟩:=zN (ids[k]);have av:wr.cell? ⟨ga,k,none⟩=some (.int .i64 i):=f k _ (by
       rw[List.getElem?_append_left (by simpa using J),List.getElem?_map,List.getElem?_map,List.getElem?_eq_getElem J,hi];rfl)
      have N:=Hw (by omega);rw[List.drop_eq_getElem_cons J,←hi] at N;obtain⟨r,q,hf,bi,bh,aZ,bj,bl,Hp,aD,aE,ag⟩:=hRg N;obtain⟨HJ,rfl⟩:=hFa hf;have l:=zH (hGo HJ wr E);have Q:=zH E;have Hg:=zH Z;have Hj:=zH Ha;have HG:=zH (And.intro aZ (And.intro bj (And.intro bl (And.intro bh (And.intro Hp bi)))));have HL:=zH (And.intro aD aE);have aJ:=zH ag;have bu:=zH HJ;have bM:=hP8;clear X E Z Ha Hw ab f hi N hf bi bh aZ bj bl Hp aD aE ag HJ J;go_wp2_with fail;refine l.o.mono ?_;rintro e wx ⟨rfl,rfl⟩;clear av l;go_wp2_with fail;obtain⟨_,_,c2,c3⟩:=Q.o.c;have Hm:wr.drew.cell? ⟨b,2,none⟩=some (.pointer (some ⟨p.lb,0,none⟩))∧wr.drew.cell? ⟨b,3,none⟩=some (.int .i64 Wk.now):=⟨c2,c3⟩;clear c2 c3;refine wp_region_held_drew (S:=(fun V=>V.cell? ⟨b,2,none⟩=some (.pointer (some ⟨p.lb,0,none⟩))∧V.cell? ⟨b,3,none⟩=some (.int .i64 Wk.now))) (by kernel_rfl) Hm (fun s=>?_);change wpAnyH _ _ _ _ _ 14 (Array.replicate 14 false) _ _;clear Hm;have I:=zH (Q.o.keep (Below.drew (Below.refl wr.heap.size wr)));have Hh:=zH (Hg.o.trans (ChgW.below (o':=ok) (Below.drew (Below.refl wr.heap.size wr)) (fun _ _=>rfl)));have Hk:=zH (Hj.o.fix (P:=fun _=>True) (Fix.same (o:=ok) (Below.drew (Below.refl wr.heap.size wr))) trivial);clear Q Hg Hj;generalize wr.drew=wd at s I Hh Hk ⊢;refine zK 0 72 rfl rfl ?_;try dsimp only;try simp only[zA,zC,zD]
      refine zK 1 73 rfl rfl ?_;try dsimp only;try simp only[zA,zC,zD]
      refine zK 2 74 rfl rfl ?_;try dsimp only;try simp only[zA,zC,zD]
      (refine zT 3 75 rfl rfl (v:=?v75_R) (.inl ⟨by rfl,?y75_R⟩) ?_;case y75_R=>(intro w d;(try dsimp only at d);obtain⟨s2,s3⟩:=d;go_simp;try with_reducible rfl));try dsimp only;try simp only[zA,zC,zD]
      refine zK 4 76 rfl rfl ?_;try dsimp only;try simp only[zA,zC,zD]
      refine zK 5 77 rfl rfl ?_;try dsimp only;try simp only[zA,zC,zD]
      refine zK 6 78 rfl rfl ?_;try dsimp only;try simp only[zA,zC,zD]
      refine zK 7 79 rfl rfl ?_;try dsimp only;try simp only[zA,zC,zD]
      (refine zT 8 80 rfl rfl (v:=?v80_R) (.inl ⟨by rfl,?y80_R⟩) ?_;case y80_R=>(intro w d;(try dsimp only at d);obtain⟨s2,s3⟩:=d;go_simp;try with_reducible rfl));try dsimp only;try simp only[zA,zC,zD]
      refine zK 9 81 rfl rfl ?_;try dsimp only;try simp only[zA,zC,zD]
      refine zK 10 82 rfl rfl ?_;try dsimp only;try simp only[zA,zC,zD]
      refine zK 11 83 rfl rfl ?_;try dsimp only;try simp only[zA,zC,zD]
      refine wpAnyH_ready (rs:=[12]) (by kernel_rfl) (by simp) ?_;refine AllReadyH.cons rfl (fun K R=>?_) AllReadyH.nil;rw[if_pos (by rfl)];go_simp;go_invoke;go_simp;obtain⟨z,hz⟩:=I.o.reps r bu.o;have Hu:=hV4 HR.o HG.o.1 HG.o.2.1 HG.o.2.2.1 HG.o.2.2.2.1 wd (hz.fresh HG.o.2.2.2.2.2 (by omega));refine Hu.mono ?_;rintro e w6 ⟨v,xs,o6,z6,rfl,H,G,bm,u⟩;have Hp:=HG.o.2.2.2.2.1;have bW:=hz.num.id;have D:=I.o.rep_set (r:={ q.again with o:=[] }) (z:=z6) (by have h:=u;rw[←Hp] at h;exact h) (by show q.again.id<4;omega) (by have h:=bm.le (m':=0) (by omega);rw[←Hp,←hRq] at h;exact h);have U:=D.c;have C:=Hk.o.fix (P:=(· < 16)) (ChgW.of_r u (by omega)).fix (by decide);refine R.out _ _ ⟨U.2.2.1,U.2.2.2⟩ (fun _=>?_);try dsimp only
      clear R K;obtain⟨VA,VC,rfl⟩:=hAk H.1;have Hr:=hGz (i:=tg 5 0) H G (by rw[List.length_map]) (by unfold tg;omega);have Ht:=hCw p.lb p.bb p.mb (tg 5 0) (by decide) o6 (Wk.lane.map (pkW rho)) (q.again.o.map (pkF rho r.id)) VA _ VC (by rw[List.length_map];exact HL.o.1) (fun x a=>by
       obtain⟨y,hy,rfl⟩:=List.mem_map.1 a;exact hLo HR.o (HL.o.2 y hy) _ _) w6 D.lane Hr
      refine wpAnyH_ready (rs:=[13]) (by kernel_rfl) (by simp) ?_;refine AllReadyH.cons rfl (fun K R=>?_) AllReadyH.nil;rw[if_pos (by rfl)];go_simp;go_at_call 58;refine Ht.mono ?_;rintro e w7 ⟨rfl,o7,T,B⟩;have Hq:Wk.lane.map (pkW rho)++q.again.o.map (pkF rho r.id)=(Wk.lane++q.again.o.map fun x=>(r.id,x.1,x.2)).map (pkW rho):=by
       rw[List.map_append,List.map_map];rfl
      rw[Hq] at T;have O:=D.lane_set B T;have M:=O.c;refine R.out _ _ ⟨M.2.2.1,M.2.2.2⟩ (fun _=>?_);try dsimp only
      clear R K;refine wpAnyH_done (by kernel_rfl) ?_ _;have an:=zH (show ∃ ok Wk,WorldAt w7 ok rho b p Wk∧ChgW o ok w w7∧Row w7 ok 7 3 1 (.slice (some ⟨ga,0,none⟩) m c) m ((ids.map fun i:Nat=>(i:Int)).map encZ++[.int .i64 101])∧(k+1≤n→SW.tickR (ids.drop (k+1)) Wk=some V)∧(k+1=m→Wk=W') from
       ⟨o7,_,O,(Hh.o.trans (ChgW.of_r u (by omega))).trans (ChgW.of_chg B (by decide)),C.fix (P:=(· < 16)) (ChgW.of_chg B (by decide)).fix (by decide),fun _=>aJ.o,fun h=>absurd h (by have:=HM.o;omega)⟩)
      clear O M T B Hq Ht Hr H G bm u D U s hz Hu C;go_wp2_with fail;exact⟨⟨k+1,by omega,by go_num,an⟩,by simp only[intOf];omega⟩
     ·have aB:k=n:=by have:=HM.o;omega
      have av:wr.cell? ⟨ga,k,none⟩=some (.int .i64 101):=f k _ (by
       have hl:((ids.map fun i:Nat=>(i:Int)).map encZ).length=k:=by rw[List.length_map,List.length_map,←Hy.o.2.1,aB]
       rw[List.getElem?_append_right (by omega),hl,Nat.sub_self];rfl)
      have N:=Hw (by omega);rw[List.drop_eq_nil_of_le (by rw[←Hy.o.2.1];omega)] at N;rw[hKv] at N;have hU:Wk=V:=Option.some.inj N;have aY:SW.cTick Wk=some W':=by rw[hU];exact ap.o.2
      obtain⟨ax,L,ba,bd,aW,bp⟩:=hOk (by have h:=E.lane.lim;rw[List.length_map] at h;exact h) aY;have l:=zH (hGn wr E);have Q:=zH E;have Hg:=zH Z;have Hj:=zH Ha;have aP:=zH (hSk ax);have HL:=zH (And.intro ba (And.intro bd aW));have bG:=zH bp;have bM:=hP7;clear X E Z Ha Hw ab f N ax ba bd aW bp hU aY aB;go_wp2_with fail;refine l.o.mono ?_;rintro e wx ⟨rfl,rfl⟩;clear av l;go_wp2_with fail;obtain⟨_,_,c2,c3⟩:=Q.o.c;have Hm:wr.drew.cell? ⟨b,2,none⟩=some (.pointer (some ⟨p.lb,0,none⟩))∧wr.drew.cell? ⟨b,3,none⟩=some (.int .i64 Wk.now):=⟨c2,c3⟩;clear c2 c3;refine wp_region_held_drew (S:=(fun V=>V.cell? ⟨b,2,none⟩=some (.pointer (some ⟨p.lb,0,none⟩))∧V.cell? ⟨b,3,none⟩=some (.int .i64 Wk.now))) (by kernel_rfl) Hm (fun s=>?_);change wpAnyH _ _ _ _ _ 14 (Array.replicate 14 false) _ _;clear Hm;have I:=zH (Q.o.keep (Below.drew (Below.refl wr.heap.size wr)));have Hh:=zH (Hg.o.trans (ChgW.below (o':=ok) (Below.drew (Below.refl wr.heap.size wr)) (fun _ _=>rfl)));have Hk:=zH (Hj.o.fix (P:=fun _=>True) (Fix.same (o:=ok) (Below.drew (Below.refl wr.heap.size wr))) trivial);clear Q Hg Hj;generalize wr.drew=wd at s I Hh Hk ⊢;refine zK 0 72 rfl rfl ?_;try dsimp only;try simp only[zA,zC,zD]
      refine zK 1 73 rfl rfl ?_;try dsimp only;try simp only[zA,zC,zD]
      refine zK 2 74 rfl rfl ?_;try dsimp only;try simp only[zA,zC,zD]
      (refine zT 3 75 rfl rfl (v:=?v75_C) (.inl ⟨by rfl,?y75_C⟩) ?_;case y75_C=>(intro w d;(try dsimp only at d);obtain⟨s2,s3⟩:=d;go_simp;try with_reducible rfl));try dsimp only;try simp only[zA,zC,zD]
      refine zK 4 76 rfl rfl ?_;try dsimp only;try simp only[zA,zC,zD]
      refine zK 5 77 rfl rfl ?_;try dsimp only;try simp only[zA,zC,zD]
      refine zK 6 78 rfl rfl ?_;try dsimp only;try simp only[zA,zC,zD]
      refine zK 7 79 rfl rfl ?_;try dsimp only;try simp only[zA,zC,zD]
      (refine zT 8 80 rfl rfl (v:=?v80_C) (.inl ⟨by rfl,?y80_C⟩) ?_;case y80_C=>(intro w d;(try dsimp only at d);obtain⟨s2,s3⟩:=d;go_simp;try with_reducible rfl));try dsimp only;try simp only[zA,zC,zD]
      refine zK 9 81 rfl rfl ?_;try dsimp only;try simp only[zA,zC,zD]
      refine zK 10 82 rfl rfl ?_;try dsimp only;try simp only[zA,zC,zD]
      refine zK 11 83 rfl rfl ?_;try dsimp only;try simp only[zA,zC,zD]
      refine wpAnyH_ready (rs:=[12]) (by kernel_rfl) (by simp) ?_;refine AllReadyH.cons rfl (fun K R=>?_) AllReadyH.nil;rw[if_pos (by rfl)];go_simp;go_invoke;go_simp;obtain⟨z,hz⟩:=I.o.cli;have Hu:=hU6 HR.o aP.o.2.2 aP.o.1 Wk.now I.o.now wd hz;refine Hu.mono ?_;rintro e w6 ⟨A,mm,c6,xs,o6,rfl,ae,H,G,aw,u⟩;rw[bG.o rho] at ae G;have D:WorldAt w6 o6 rho b p Wk:=I.o.cli_set u aw;have U:=D.c;have C:=Hk.o.fix (P:=(· < 16)) (ChgW.of_r u (by omega)).fix (by decide);refine R.out _ _ ⟨U.2.2.1,U.2.2.2⟩ (fun _=>?_);try dsimp only
      clear R K;have Hr:=hGz (i:=tg 5 0) H G ae.symm (by decide);have Ht:=hCw p.lb p.bb p.mb (tg 5 0) (by decide) o6 (Wk.lane.map (pkW rho)) (L.map (pkF rho 101)) A mm c6 (by rw[List.length_map,ae,List.length_map];exact HL.o.1) (fun x a=>by
       obtain⟨y,hy,rfl⟩:=List.mem_map.1 a;exact hLo HR.o (HL.o.2.1 y hy) _ _) w6 D.lane Hr
      clear ae;refine wpAnyH_ready (rs:=[13]) (by kernel_rfl) (by simp) ?_;refine AllReadyH.cons rfl (fun K R=>?_) AllReadyH.nil;rw[if_pos (by rfl)];go_simp;go_at_call 58;refine Ht.mono ?_;rintro e w7 ⟨rfl,o7,T,B⟩;have Hq:Wk.lane.map (pkW rho)++L.map (pkF rho 101)=(Wk.lane++L.map fun x:Nat×SMsg=>(101,x.1,x.2)).map (pkW rho):=by
       rw[List.map_append,List.map_map];rfl
      rw[Hq] at T;have O:=D.lane_set B T;rw[←HL.o.2.2] at O;have M:=O.c;have bg:W'.now=Wk.now:=by rw[HL.o.2.2]
      rw[bg] at M;refine R.out _ _ ⟨M.2.2.1,M.2.2.2⟩ (fun _=>?_);try dsimp only
      clear R K;refine wpAnyH_done (by kernel_rfl) ?_ _;have an:=zH (show ∃ ok Wk,WorldAt w7 ok rho b p Wk∧ChgW o ok w w7∧Row w7 ok 7 3 1 (.slice (some ⟨ga,0,none⟩) m c) m ((ids.map fun i:Nat=>(i:Int)).map encZ++[.int .i64 101])∧(k+1≤n→SW.tickR (ids.drop (k+1)) Wk=some V)∧(k+1=m→Wk=W') from
       ⟨o7,W',O,(Hh.o.trans (ChgW.of_r u (by omega))).trans (ChgW.of_chg B (by decide)),C.fix (P:=(· < 16)) (ChgW.of_chg B (by decide)).fix (by decide),fun h=>absurd h (by have:=HM.o;omega),fun _=>rfl⟩)
      clear O M bg T B Hq Ht Hr H G aw u D U s hz Hu C;go_wp2_with fail;exact⟨⟨k+1,by omega,by go_num,an⟩,by simp only[intOf];omega⟩
    ·have q1:¬ (k:Int)<(m:Int):=by omega
     have hU:=ab (by omega);subst hU;have HF:=zH (And.intro E Z);clear X E Z Ha Hw ab f ap;go_wp2_with fail;go_ret;exact⟨rfl,ok,HF.o.1,HF.o.2⟩
theorem hFm {f:SWorld→Option SWorld} {n k:Nat} {W W':SWorld} (b:k<n) (h:SW.times f (n - k) W=some W'):∃ V,f W=some V∧SW.times f (n - (k+1)) V=some W':=by
 obtain⟨m,a⟩:∃ m,n - k=m+1:=⟨n - k - 1,by omega⟩;rw[a] at h;rw[show n - (k+1)=m by omega];unfold SW.times at h;split at h
 ·cases h
 ·exact⟨_,‹_›,h⟩
theorem hFn {f:SWorld→Option SWorld} {n k:Nat} {W W':SWorld} (a:n≤k) (h:SW.times f (n - k) W=some W'):W=W':=by
 rw[show n - k=0 by omega,SW.times] at h;exact Option.some.inj h
theorem hPi {o:Tags} {rho:Nat→Rq} {b:Nat} {p:WB} {W W':SWorld} (N:ROk rho) (Q:SW.flush W=some W') (w:World) (h:WorldAt w o rho b p W) :
  Calls Tryz.prog 31 #[.pointer (some ⟨b,0,none⟩),.int .i64 8] w fun e w'=>e=.returned (.int .i64 0)∧∃ o',WorldAt w' o' rho b p W'∧ChgW o o' w w':=by
 have J:=zH (show SW.times SW.round (8 - 0) W=some W' from Q);have R:=zH N;have I:=zH h;clear h Q N;go_enter Tryz.func31,Tryz.ntmps31;go_wp2_with fail;go_loopw [12] (fun j wr=>∃ k:Nat,k≤8∧j=.int .i64 k∧zI (∃ ok Wk,WorldAt wr ok rho b p Wk∧ChgW o ok w wr∧SW.times SW.round (8 - k) Wk=some W')) (fun j _=>8 - (intOf j).toNat)
 case atStart=>exact⟨0,by omega,rfl,zH ⟨o,W,I.o,ChgW.refl _ _,J.o⟩⟩
 case round=>
  obtain⟨k,T,rfl,a⟩:=hrel;obtain⟨ok,Wk,d,g,q⟩:=a.o;by_cases hk8:k<8
  ·have q1:(k:Int)<8:=by omega
   obtain⟨V,P,G⟩:=hFm hk8 q;obtain⟨n,K⟩:=zN (Wk.lane.length);have S:n≤4096:=by have h:=d.lane.lim;rw[List.length_map] at h;omega
   have y:=hVf p.lb p.bb p.mb (tg 5 0) ok (Wk.lane.map (pkW rho)) wr d.lane;rw[List.length_map,←K] at y;have s:=zH y;have H:=zH (show SW.times SW.take (n - 0) Wk=some V by rw[K];exact P);have M:=zH G;have v:=zH d;have r:=zH g;obtain⟨_,_,c2,_⟩:=d.c;clear a d g q P G y K J I;go_wp2_with fail;refine s.o.mono ?_;rintro e wx ⟨rfl,rfl⟩;clear c2;go_wp2_with fail;go_loopw [19] (fun i wi=>∃ t:Nat,t≤n∧i=.int .i64 t∧zI (∃ oi Wi,WorldAt wi oi rho b p Wi∧ChgW o oi w wi∧SW.times SW.take (n - t) Wi=some V)) (fun i _=>n - (intOf i).toNat)
   case atStart=>exact⟨0,by omega,rfl,zH ⟨ok,Wk,v.o,r.o,H.o⟩⟩
   case round=>
    obtain⟨t,X,rfl,a⟩:=hrel;obtain⟨oi,Wi,l,f,m⟩:=a.o;by_cases htn:t<n
    ·have q2:(t:Int)<(n:Int):=by omega
     have q3:(t:Int)<5000:=by omega
     obtain⟨U,O,F⟩:=hFm htn m;have B:=zH (hRk R.o O wr l);have z:=zH f;have C:=zH F;clear a l f m O F s H v r;go_wp2_with fail;refine B.o.mono ?_;rintro e w2 ⟨rfl,o2,E,D⟩;have u:=zH (show ∃ oi Wi,WorldAt w2 oi rho b p Wi∧ChgW o oi w w2∧SW.times SW.take (n - (t+1)) Wi=some V from⟨o2,U,E,z.o.trans D,C.o⟩);clear E D B z C;go_wp2_with fail;exact⟨⟨t+1,by omega,by go_num,u⟩,by simp only[intOf];omega⟩
    ·have q2:¬ (t:Int)<(n:Int):=by omega
     have x:=hFn (by omega) m;subst x;have u:=zH (show ∃ ok Wk,WorldAt wr ok rho b p Wk∧ChgW o ok w wr∧SW.times SW.round (8 - (k+1)) Wk=some W' from⟨oi,Wi,l,f,M.o⟩);clear a l f m s H v r;go_wp2_with fail;exact⟨⟨k+1,by omega,by go_num,u⟩,by simp only[intOf];omega⟩
  ·have q1:¬ (k:Int)<8:=by omega
   have x:=hFn (by omega) q;subst x;have L:=zH (And.intro d g);clear a d g q J I;go_wp2_with fail;go_ret;exact⟨rfl,ok,L.o.1,L.o.2⟩
end Go.Proofs.YtlibpcllceepkaaGreat
