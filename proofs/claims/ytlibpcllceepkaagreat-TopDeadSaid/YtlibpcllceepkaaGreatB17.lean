/- Joined texts of the claim. No condition. -/
import Derived.Test.YtlibpcllceepkaaGreatB16
import Derived.Test.YtlibpcllceepkaaGreatB11
namespace Go.Proofs.YtlibpcllceepkaaGreat
open Go.RowKit
set_option maxRecDepth 100000
set_option linter.unusedVariables false
set_option linter.unusedSimpArgs false
set_option maxHeartbeats 16000000
theorem hNt (l:List Nat) (k:Nat) (t:ByteArray):(sgl (l++[k]) t).flatMap encS=(sgl l t).flatMap encS++[.int .i64 k,.string t]:=by
 simp[sgl,encS]
theorem hF8:(Tryz.prog.info? 114).map (fun i=>(i.zero,i.size,i.bytes))=some (some (.agg #[.int .i64 0,.string ⟨#[]⟩]),2,24):=by kernel_rfl
theorem MemD.new {w:World} {base:Nat} {A:Option Addr} {c:Nat} (h:MemN w base A c):MemN w base A c:=h
theorem Row.other {w w':World} {o:Tags} {i:Nat} {T:TypeId} {k:Nat} {v:Value} {n:Nat} {xs:List Value} (h:Row w o i T k v n xs) {g:Nat} (f:w.grownBy w' (some g)) {cs:Array Value} {B:TypeId} {fr:Nat×Nat} (d:w.heap[g]?=some (.cells cs B fr)) (c:B≠T):Row w' o i T k v n xs:=by
 refine⟨World.ownsRow.kept h.1 f ?_,h.2⟩;cases hub:v.ownBlock with
 |none=>exact .inl rfl
 |some b=>
  refine .inr (fun e=>?_);rcases h.1.2 with⟨rfl,_⟩ | ⟨g',cap,cur,rfl,_,a,_⟩
  ·cases hub
  ·cases hub;cases e;rw[d] at a;injection a with a;injection a with _ h2 _;exact c h2
theorem Row.alloc {w:World} {o:Tags} {i:Nat} {T:TypeId} {k:Nat} {v:Value} {n:Nat} {xs:List Value} (h:Row w o i T k v n xs) (x:Obj):Row (w.alloc x) o i T k v n xs:=h.fix (P:=fun _=>True) (Fix.same ((Below.refl _ _).alloc (Nat.le_refl _) x)) trivial
theorem hUu {l:List Nat} {k:Nat} (h:k∉l):among l (k+1)=among l k:=if_neg h
theorem hRt {l:List Nat} {k:Nat} (h:k∈l):among l (k+1)=among l k++[k]:=if_pos h
theorem AppOut.chgb {w:World} {o:Tags} {i:Nat} {T:TypeId} {k:Nat} {v v':Value} {w':World} {n m:Nat} {xs ys:List Value} (h:AppOut w o i T k v v' w' n xs) (c:Row w o i T k v m ys) {B:Nat} (b:B≤w.heap.size) (hi:∀ x,x<B→o x≠i):Below B w w':=
 ⟨h.chg.os,h.chg.tape,h.chg.output,h.chg.size,fun x a=>h.chg.block x (by omega) (hi x a)⟩
structure SetSt (base ob:Nat) (w0 w:World) (oL:Tags) (T S C:ByteArray) (e:Nat) (ms:List Nat) (SA:Option Addr) (sc:Nat) (MA:Option Addr) (mc:Nat) (LA:Option Addr) (lc:Nat):Prop where
 row:w.heap[ob]?=some (.cells (setC T e ms.length SA sc MA mc LA lc) 122 (0,0))
 s1:Row w oL 1 114 2 (.slice SA ms.length sc) ms.length ((sgl ms S).flatMap encS)
 s2:Row w oL 2 114 2 (.slice LA ms.length lc) ms.length ((sgl ms C).flatMap encS)
 mem:ms≠[]→MemN w (base+1) MA mc
 old:∀ x,x<base→oL x=0
 bel:Below base w0 w
 sz:base≤w.heap.size
 obl:base<ob
 res:w.heap[base]?=some (.cells #[.string ⟨#[]⟩,.slice none 0 0,.int .i64 0,.slice none 0 0,.slice none 0 0] 122 (0,0))
theorem SetSt.below {base ob:Nat} {w0 w w':World} {oL:Tags} {T S C:ByteArray} {e:Nat} {ms:List Nat} {SA:Option Addr} {sc:Nat} {MA:Option Addr} {mc:Nat} {LA:Option Addr} {lc:Nat} (h:SetSt base ob w0 w oL T S C e ms SA sc MA mc LA lc) (a:Below w.heap.size w w'):SetSt base ob w0 w' oL T S C e ms SA sc MA mc LA lc:=
 ⟨(a.block _ (zL h.row)).trans h.row,h.s1.fix (P:=fun _=>True) (Fix.same a) trivial,h.s2.fix (P:=fun _=>True) (Fix.same a) trivial,fun b=>(h.mem b).keep a,h.old,h.bel.trans (a.mono h.sz),Nat.le_trans h.sz a.size,h.obl,(a.block _ (zL h.res)).trans h.res⟩
theorem MemN.app {w w':World} {base:Nat} {A:Option Addr} {c:Nat} (h:MemN w base A c) {o:Tags} {i:Nat} {T:TypeId} {k:Nat} {v v':Value} {n:Nat} {xs:List Value} (e:AppOut w o i T k v v' w' n xs) (p:∀ ad,A=some ad→o ad.block≠i):MemN w' base A c:=by
 obtain⟨⟨f,g,b,off,a,d,j⟩,l⟩:=h;refine⟨⟨f,g,b,off,a,Nat.lt_of_lt_of_le d e.chg.size,fun k m=>?_⟩,l⟩;have:=j k m;unfold World.cell? at this ⊢;rw[e.chg.block b d (p _ a)];exact this
theorem hPd (b vm cm i:Nat) (o:Tags) (e:Nat) (he:e≤59) (T:ByteArray) (cQ:T.size≤60000) (vs:List Nat) (hv:3≤vs.length) (bw:∃ k,k<4∧k∈vs) (w:World) (h:TalAt w o i b vm cm e T vs) :
  Calls Tryz.prog 284 #[.pointer (some ⟨b,0,none⟩)] w fun r w'=>(∃ SA sc MA mc LA lc,r=.returned (.tuple #[.agg (setC T e (among vs 4).length SA sc MA mc LA lc),.bool true]) ∧
   w'.ownsRow w.heap.size 114 2 (.slice SA (among vs 4).length sc) (among vs 4).length ((sgl (among vs 4) (stateT (4*(e+1)) T)).flatMap encS) ∧
   w'.ownsRow w.heap.size 114 2 (.slice LA (among vs 4).length lc) (among vs 4).length ((sgl (among vs 4) (confT (e+1))).flatMap encS)∧MemN w' w.heap.size MA mc)∧Below w.heap.size w w':=by
 obtain⟨i0,bp,bx,bz,bA⟩:=info_parts hF8;have bg:=zH bp;have bh:=zH bx;have bi:=zH bz;have bj:=zH bA;clear bp bx bz bA;obtain⟨A,c,k0,k1,k2,k3,aQ⟩:=hHi h;have Y:=h.lt;obtain⟨al,aL,ai,aM⟩:=h.vt;have bP:=zH h.ct;have HQ:=fun w=>zH (quorum4 w);have az:=zH (And.intro aL (And.intro ai aM));have bd:=zH (show vm<w.heap.size∧cm<w.heap.size from⟨ai.lt,h.ct.lt⟩);have HK:=zH (And.intro k0 (And.intro k1 (And.intro k2 k3)));obtain⟨B2,off2,rfl,cf,bl⟩:=aQ.2.2;have cK:c≤9223372036854775807:=aQ.2.1;have bO:=zH bl;have aI:zI (∀ a,voteTV e T a=.agg #[.string (stateT (4*(e+1)) T),.string (confT (e+1)),.string T,.slice a.1 4 a.2]):=zH (fun _=>rfl);have aH:zI (∀ n,countL e T n=if n=0 then [] else [(.agg #[.string (stateT (4*(e+1)) T),.string (confT (e+1))],.int .i64 n)]):=zH (fun _=>rfl);generalize stateT (4*(e+1)) T=S at aI aH ⊢;generalize confT (e+1)=C at aI aH ⊢;obtain⟨a1,a2,hz,bo⟩:=hAp w (.cells #[.string ⟨#[]⟩,.slice none 0 0,.int .i64 0,.slice none 0 0,.slice none 0 0] 122) (.cells #[.string ⟨#[]⟩,.slice none 0 0,.int .i64 0,.slice none 0 0,.slice none 0 0] 122);have aY:=zH a1;have aZ:=zH a2;have HB:=zH bo;have bY:=zH bw;clear h aL ai aM aQ bl k0 k2 k3 a1 a2 bo bw;go_enter Tryz.func284,Tryz.ntmps284;go_wp2_with fail;clear k1;generalize World.alloc _ _=w0 at HB aY aZ hz ⊢;go_loopw [6,7,8,18] (fun _ _ _ j wr=>∃ k:Nat,k≤4∧j=.int .i64 k∧zI (∃ oL SA sc MA mc LA lc,SetSt w.heap.size (w.heap.size+1) w wr oL T S C e (among vs k) SA sc MA mc LA lc)) (fun _ _ _ j _=>4 - (intOf j).toNat)
 case atStart=>exact⟨0,by omega,rfl,zH ⟨fun _=>0,none,0,none,0,none,0,aZ.o,Row.nil _ _ _ _ _,Row.nil _ _ _ _ _,fun h=>absurd rfl h,fun _ _=>rfl,HB.o,(by omega),(by omega),aY.o⟩⟩
 case round=>
  obtain⟨k,hk,rfl,H⟩:=hrel;obtain⟨oL,SA,sc,MA,mc,LA,lc,H⟩:=H.o;have ar:=zH H;have q0:(0:Int)≤(k:Int):=by omega
  by_cases hk4:k<4
  ·have q1:(k:Int)<4:=by omega
   have J:=H.bel;have aw:=(J.cell (p:=⟨B2,off2+k,none⟩) cf).trans (bO.o k hk4);have d1:=(J.cell (p:=⟨b,1,none⟩) Y).trans HK.o.2.1;have d2:=(J.cell (p:=⟨b,2,none⟩) Y).trans HK.o.2.2.1;have d3:=(J.cell (p:=⟨b,3,none⟩) Y).trans HK.o.2.2.2;have ag:=az.o.2.1.move (J.block _ bd.o.1);have Hq:=bP.o.move (J.block _ bd.o.2);rw[aH.o] at Hq;have aN:b<wr.heap.size:=Nat.lt_of_lt_of_le Y J.size;by_cases Hl:k∈vs
   ·obtain⟨l1,a,l2,hl,ha⟩:=hGk e T k vs al az.o.1 Hl;rw[hl,aI.o] at ag;have Hm:=hAm (w:=wr) true hAh Tryz.underlying231 ag;simp only[if_true] at Hm;have cp:vs.length≠0:=by omega
    rw[if_neg cp] at Hq;have q3:¬ ((vs.length:Nat):Int)<3:=by omega
    have b6:=zH (az.o.2.2 a ha).1;obtain⟨aA,aC⟩:=a;simp only at b6 Hm;have M:=(Below.refl wr.heap.size wr).alloc (Nat.le_refl _) (.cells #[.string S,.string C,.string T,.slice aA 4 aC] 370);have V:=zH (H.below M);have U:=zH (heap_alloc_new wr (.cells #[.string S,.string C,.string T,.slice aA 4 aC] 370));have aE:=zH (Hq.move (M.block _ Hq.lt));have cw:w.heap.size+1<wr.heap.size:=(zL H.row);clear ag Hq hl ha J H ar M;go_wp2_with fail;have d1':=(World.cell?_alloc_old wr (.cells #[.string S,.string C,.string T,.slice aA 4 aC] 370) ⟨b,1,none⟩ (Nat.ne_of_lt aN)).trans d1;have d3':=(World.cell?_alloc_old wr (.cells #[.string S,.string C,.string T,.slice aA 4 aC] 370) ⟨b,3,none⟩ (Nat.ne_of_lt aN)).trans d3;clear Hm aw d1 d2 d3;obtain⟨tb,bv⟩:=zN (wr.heap.size);rw[←bv] at U ⊢;have bK:w.heap.size+1<tb:=by omega
    have cJ:b<tb:=by omega
    clear bv;generalize wr.alloc _=w1 at V U aE d1' d3' ⊢;have x0:=zQ w1 tb 0 (.string S) U.o;have x1:=zQ w1 tb 1 (.string C) U.o;have aP:=fun m=>hAm (w:=w1.drewN m) (l1:=[]) (l2:=[]) false hBl Tryz.underlying232 (show MpK 368 (w1.drewN m) cm _ from aE.o);simp only[Bool.false_eq_true,if_false] at aP;go_quiet ((go_at_call 208;exact Calls.quiet_of_same ((HQ _).o.mono fun _ _ h=>⟨h.1,h.2.symm⟩)))
    have Hk:Below w1.heap.size w1 (w1.drewN nq):=hAc (Below.refl _ _) nq;have Q:=zH (V.o.below Hk);have HJ:=zH ((Hk.block _ (zL U.o)).trans U.o);clear x0 x1 aP d1' d3' V U aE Hk;generalize w1.drewN nq=w2 at Q HJ ⊢;have t2:=zQ w2 tb 2 (.string T) HJ.o;obtain⟨ms,aS⟩:=zN (among vs k);have Hi:=zH (hRt Hl);rw[←aS] at Q Hi;have cM:ms.length≤4:=by rw[aS];have:=hAy vs k;omega
    clear aS Hl;obtain⟨ob,ao⟩:=zN (w.heap.size+1);rw[←ao] at Q cw bK ⊢;have bT:=zH ao;have cG:w.heap.size<ob:=by omega
    clear ao;obtain⟨n,hn⟩:=zN (ms.length);have z:=Q.o;have Z:=z.s1;have Hb:=z.s2;have d:=z.row;rw[←hn] at Z Hb d;obtain⟨X0,hJ⟩:∃ X,X=(if n=0 then(⟨#[]⟩:ByteArray) else T):=⟨_,rfl⟩;obtain⟨X2,hO⟩:∃ X,X=(if n=0 then(0:Int) else(e:Int)+1):=⟨_,rfl⟩;obtain⟨X3,hU⟩:∃ X,X=(if n=0 then 0 else 4):=⟨_,rfl⟩;unfold setC at d;rw[←hJ,←hO,←hU] at d;have HN:=zH hn;have cN:n≤4:=by omega
    clear hJ hO hU hn;have r0:=zQ w2 ob 0 (.string X0) d;have rf:=frozen_of_row w2 ob 0 _ _ d;have F:w2.grownBy (w2.setCell ⟨ob,0,none⟩ (.string T)) (some ob):=hAb (hAa (Below.refl _ _) _) (p:=⟨ob,0,none⟩) (.inl rfl) _;have q:=heap_setCell_same w2 ob 0 _ _ (.string T) d;have aJ:=zH (And.intro F q);clear F q;go_wp2_with fail;clear r0 rf t2;obtain⟨F,q⟩:=aJ.o;generalize w2.setCell ⟨ob,0,none⟩ (.string T)=w3 at aJ F q ⊢;have q:w3.heap[ob]?=some (.cells #[.string T,.slice SA n sc,.int .i64 X2,.slice MA X3 mc,.slice LA n lc] 122 (0,0)):=q;have Ha:=Z.other F d (by decide);have Hc:=Hb.other F d (by decide);have I:=(F.block tb (zL HJ.o) (fun e=>by have:=Option.some.inj e;omega)).trans HJ.o;have D:=(F.block w.heap.size (zL z.res) (fun e=>by have:=Option.some.inj e;omega)).trans z.res;have u:=z.bel.trans (hAj F z.sz (by omega));have ap:w.heap.size≤w3.heap.size:=u.size;have Hw:=(zL q);have Hy:=(zL I);have H3:=zH (And.intro Ha (And.intro Hc (And.intro I (And.intro D u))));have s0:=(u.cell (p:=⟨b,0,none⟩) Y).trans HK.o.1;have s3:=zQ w3 tb 3 (.slice aA 4 aC) I;have ci:w3.drew.cell? ⟨b,0,none⟩=some (.int .i64 e)∧w3.drew.cell? ⟨tb,3,none⟩=some (.slice aA 4 aC):=⟨s0,s3⟩;have aG:=zH (show w3.cell? ⟨b,0,none⟩=some (.int .i64 e)∧w3.cell? ⟨tb,3,none⟩=some (.slice aA 4 aC) from⟨s0,s3⟩);have bH:b<w3.heap.size:=Nat.lt_of_lt_of_le Y ap;have b7:=zH (clone4 aA aC w3.drew ((b6.o.keep u).keep ⟨rfl,rfl,rfl,Nat.le_refl _,fun _ _=>rfl⟩));have HO:=zH z.old;clear z Z Hb d F aJ Ha Hc I D u s0 s3 Q HJ;have bI:b≠ob:=by omega
    have Hz:tb≠ob:=by omega
    have cL:IntKind.i64.wrap ((e:Int)+1)=(e:Int)+1:=by rw[IntKind.wrap_i64];omega
    go_region_held (fun W=>W.cell? ⟨b,0,none⟩=some (.int .i64 e)∧W.cell? ⟨tb,3,none⟩=some (.slice aA 4 aC)) (first | assumption | go_keep) (first
     |(go_simp;go_at_call 43;refine b7.o.mono ?_;rintro r w4 ⟨A2,C2,rfl,bq,Hj⟩;have l:Below w3.heap.size w3 w4:=⟨Hj.os,Hj.tape,Hj.output,Hj.size,Hj.block⟩;have aK:w4.cell? ⟨b,0,none⟩=some (.int .i64 e)∧w4.cell? ⟨tb,3,none⟩=some (.slice aA 4 aC):=⟨(l.cell (p:=⟨b,0,none⟩) bH).trans aG.o.1,(l.cell (p:=⟨tb,3,none⟩) Hy).trans aG.o.2⟩;have E:=(l.block ob Hw).trans q;have e2:=zQ w4 ob 2 (.int .i64 X2) E;have e3:=zQ w4 ob 3 (.slice MA X3 mc) E;have ef:=fun k=>frozen_of_row w4 ob k _ _ E;have G:w4.grownBy ((w4.setCell ⟨ob,2,none⟩ (.int .i64 ((e:Int)+1))).setCell ⟨ob,3,none⟩ (.slice A2 4 C2)) (some ob):=hAb (hAb (hAa (Below.refl _ _) _) (p:=⟨ob,2,none⟩) (.inl rfl) _) (p:=⟨ob,3,none⟩) (.inl rfl) _;have cj:((w4.setCell ⟨ob,2,none⟩ (.int .i64 ((e:Int)+1))).setCell ⟨ob,3,none⟩ (.slice A2 4 C2)).cell? ⟨b,0,none⟩=some (.int .i64 e)∧((w4.setCell ⟨ob,2,none⟩ (.int .i64 ((e:Int)+1))).setCell ⟨ob,3,none⟩ (.slice A2 4 C2)).cell? ⟨tb,3,none⟩=some (.slice aA 4 aC):=⟨hAo G aK.1 bI,hAo G aK.2 Hz⟩))
    all_goals
     obtain⟨Ha,Hc,I,D,u⟩:=H3.o;have L:((w4.setCell ⟨ob,2,none⟩ (.int .i64 ((e:Int)+1))).setCell ⟨ob,3,none⟩ (.slice A2 4 C2)).heap[ob]?=some (.cells #[.string T,.slice SA n sc,.int .i64 ((e:Int)+1),.slice A2 4 C2,.slice LA n lc] 122 (0,0)):=heap_setCell_same _ ob 3 _ _ (.slice A2 4 C2) (heap_setCell_same w4 ob 2 _ _ (.int .i64 ((e:Int)+1)) E);have hT:Fix (fun _=>True) oL (oL.ext w3.heap.size 0) w3 w4:=Fix.below l (fun x hx=>Tags.ext_old _ _ _ _ hx);have Hx:=(Ha.fix hT trivial).other G E (by decide);have Hf:=(Hc.fix hT trivial).other G E (by decide);have am:MemN w4 w3.heap.size A2 C2:=bq;have Hp:=am.grown G Hw;have Hr:∀ ad,A2=some ad→(oL.ext w3.heap.size 0) ad.block=0:=fun ad ea=>Tags.ext_new _ _ _ _ (am.2 ad ea);have Hg:=(G.block tb (Nat.lt_of_lt_of_le Hy l.size) (fun e=>Hz (Option.some.inj e))).trans ((l.block tb Hy).trans I);have K:=(G.block w.heap.size (Nat.lt_of_lt_of_le (zL D) l.size) (fun e=>by have:=Option.some.inj e;omega)).trans ((l.block w.heap.size (zL D)).trans D);have B:=u.trans ((l.mono ap).trans (hAj G (Nat.le_trans ap l.size) (by omega)));have O:∀ x,x<w.heap.size→(oL.ext w3.heap.size 0) x=0:=fun x hx=>(Tags.ext_old _ _ _ _ (by omega)).trans (HO.o x hx);have bL:w3.heap.size≤((w4.setCell ⟨ob,2,none⟩ (.int .i64 ((e:Int)+1))).setCell ⟨ob,3,none⟩ (.slice A2 4 C2)).heap.size:=Nat.le_trans l.size G.size;generalize oL.ext w3.heap.size 0=oM at Hx Hf Hr O;clear Ha Hc I D u hT bq am Hj l aK cj e2 e3 ef G E q H3 aG ci b7;generalize (w4.setCell ⟨ob,2,none⟩ (.int .i64 ((e:Int)+1))).setCell ⟨ob,3,none⟩ (.slice A2 4 C2)=w5 at L Hx Hf Hp Hg K B bL ⊢;have cF:=(zL L);have cy:=(zL Hg);have p1:=zQ w5 ob 1 (.slice SA n sc) L;have p2:=zQ w5 tb 0 (.string S) Hg;have ax:=Hx.alloc (.cells #[.int .i64 k,.string S] 114);have bU:=zH L;have bW:=zH Hg;have hI:=zH ax;have H5:=zH (And.intro Hf (And.intro Hp (And.intro Hr (And.intro K (And.intro B O)))));clear Hx Hf Hp Hr K B O L Hg ax;go_wp2_with (at_builtin;first
      |(refine hA9 rfl (.tmp 66) (.tmp 72) 44 rfl oM 1 114 i0 _ 2 24 Tryz.underlying44 bg.o bh.o bi.o bj.o rfl (by decide) _ _ _ (by rfl) hI.o ⟨w5.heap.size,0,none⟩ 1 1 [_,_] (by rfl) (by rfl) (World.news_of_block (cs:=#[_,_]) (t:=114) (fr:=(0,0)) (heap_alloc_new w5 _)) (by simp[Value.oneCell']) (by unfold maxLen;omega) (by omega) ?_;intro v2 w7 s;obtain⟨VA,VC,rfl⟩:=hAk s.row.1;have ae:=s.keep hI.o (hAr w5 _ _ _ bU.o) (by decide);have aV:=s.keep hI.o (hAr w5 _ _ _ bW.o) (by decide);have HA:=zH s;have a0:=zQ w7 ob 1 (.slice SA n sc) ae;have af:=frozen_of_row w7 ob 1 _ _ ae;have R:w7.grownBy (w7.setCell ⟨ob,1,none⟩ (.slice VA (n+1) VC)) (some ob):=hAb (hAa (Below.refl _ _) _) (p:=⟨ob,1,none⟩) (.inl rfl) _;have aO:=heap_setCell_same w7 ob 1 _ _ (.slice VA (n+1) VC) ae;have bu:=(R.block tb (zL aV) (fun e=>Hz (Option.some.inj e))).trans aV;have a4:=zQ _ ob 4 (.slice LA n lc) aO;have a5:=zQ _ tb 1 (.string C) bu;have aB:=zH R;have aD:=zH ae;have bR:=zH aO;clear s ae aV R aO bu p1 p2)
      |(go_must (refine hA9 rfl (.tmp 77) (.tmp 83) 44 rfl (oM.ext (w5.alloc (.cells #[.int .i64 k,.string S] 114)).heap.size 1) 2 114 i0 _ 2 24 Tryz.underlying44 bg.o bh.o bi.o bj.o rfl (by decide) _ _ _ (by rfl) (((((H5.o.1.alloc (.cells #[.int .i64 k,.string S] 114)).fix (HA.o.chg.fix (P:=(· = 2)) (by decide)) rfl).other aB.o aD.o (by decide)).alloc (.cells #[.int .i64 k,.string C] 114))) ⟨w7.heap.size,0,none⟩ 1 1 [_,_] (by rfl) (by rfl) (World.news_of_block (cs:=#[_,_]) (t:=114) (fr:=(0,0)) (hAn (w7.setCell ⟨ob,1,none⟩ (.slice VA (n+1) VC)) _ _ (by simp))) (by simp[Value.oneCell']) (by unfold maxLen;omega) (by omega) ?_);go_must (intro v3 w10 f;obtain⟨VB,VD,rfl⟩:=hAk f.row.1;have aU:=((((H5.o.1.alloc (.cells #[.int .i64 k,.string S] 114)).fix (HA.o.chg.fix (P:=(· = 2)) (by decide)) rfl).other aB.o aD.o (by decide)).alloc (.cells #[.int .i64 k,.string C] 114));have Hu:=f.keep aU (hAr _ _ _ _ bR.o) (by decide);have b4:=zQ w10 ob 4 (.slice LA n lc) Hu;have bf:=frozen_of_row w10 ob 4 _ _ Hu;have ba:=zH aU;have bD:=zH f;have ah:=zH Hu;clear f aU Hu a0 af a4 a5)))
     obtain⟨Hf,Hp,Hr,K,B,O⟩:=H5.o;have s:=HA.o;have f:=bD.o;have R:=aB.o;have ab:w10.grownBy (w10.setCell ⟨ob,4,none⟩ (.slice VB (n+1) VD)) (some ob):=hAb (hAa (Below.refl _ _) _) (p:=⟨ob,4,none⟩) (.inl rfl) _;have ay:=heap_setCell_same w10 ob 4 _ _ (.slice VB (n+1) VD) ah.o;have cx:w5.heap.size≤(w5.alloc (.cells #[.int .i64 k,.string S] 114)).heap.size:=by simp
     have cP:w7.heap.size≤((w7.setCell ⟨ob,1,none⟩ (.slice VA (n+1) VC)).alloc (.cells #[.int .i64 k,.string C] 114)).heap.size:=by simp
     have cO:=s.chg.size;have cI:=B.size;have F1:=((((s.row.other R aD.o (by decide)).alloc (.cells #[.int .i64 k,.string C] 114)).fix (f.chg.fix (P:=(· = 1)) (by decide)) rfl).other ab ah.o (by decide));have F2:=f.row.other ab ah.o (by decide);have bG:=(Below.refl w5.heap.size w5).alloc (Nat.le_refl _) (.cells #[.int .i64 k,.string S] 114);have bJ:=Hp.lt;have M7:=(Hp.keep bG).app s (fun ad ea=>by rw[Hr ad ea];decide);have M8:=M7.grown R Hw;have M10:=(M8.keep ((Below.refl _ _).alloc (Nat.le_refl _) (.cells #[.int .i64 k,.string C] 114))).app f (fun ad ea=>by rw[Tags.ext_old _ _ _ _ (Nat.lt_of_lt_of_le (bJ ad ea) cx),Hr ad ea];decide);have MF:=(M10.grown ab Hw).lower (show w.heap.size+1≤w3.heap.size by omega);have cu:∀ x,x<w.heap.size→oM x≠1:=fun x hx=>by rw[O x hx];decide
     have br:∀ x,x<w.heap.size→(oM.ext (w5.alloc (.cells #[.int .i64 k,.string S] 114)).heap.size 1) x=0:=fun x hx=>by rw[Tags.ext_old _ _ _ _ (by omega),O x hx]
     have b1:=B.alloc B.size (.cells #[.int .i64 k,.string S] 114);have b2:=b1.trans (s.chgb hI.o b1.size cu);have b3:=b2.trans (hAj R b2.size (by omega));have b4':=b3.alloc b3.size (.cells #[.int .i64 k,.string C] 114);have b5:=b4'.trans (f.chgb ba.o b4'.size (fun x hx=>by rw[br x hx];decide));have bF:=b5.trans (hAj ab b5.size (by omega));have r7:=s.keep hI.o (hAr w5 _ _ _ K) (by decide);have r8:=(R.block _ (zL r7) (fun e=>by have:=Option.some.inj e;omega)).trans r7;have r10:=f.keep ba.o (hAr _ (.cells #[.int .i64 k,.string C] 114) _ _ r8) (by decide);have rF:=(ab.block _ (zL r10) (fun e=>by have:=Option.some.inj e;omega)).trans r10;have bt:∀ x,x<w.heap.size→((oM.ext (w5.alloc (.cells #[.int .i64 k,.string S] 114)).heap.size 1).ext ((w7.setCell ⟨ob,1,none⟩ (.slice VA (n+1) VC)).alloc (.cells #[.int .i64 k,.string C] 114)).heap.size 2) x=0:=fun x hx=>by rw[Tags.ext_old _ _ _ _ (by omega),br x hx]
     have aj:(among vs (k+1)).length=n+1:=by rw[Hi.o,List.length_append,←HN.o];rfl
     have hF:SetSt w.heap.size ob w (w10.setCell ⟨ob,4,none⟩ (.slice VB (n+1) VD)) ((oM.ext (w5.alloc (.cells #[.int .i64 k,.string S] 114)).heap.size 1).ext ((w7.setCell ⟨ob,1,none⟩ (.slice VA (n+1) VC)).alloc (.cells #[.int .i64 k,.string C] 114)).heap.size 2) T S C e (among vs (k+1)) VA VC A2 C2 VB VD:=by
      refine⟨?_,?_,?_,fun _=>MF,bt,bF,bF.size,by omega,rF⟩
      ·rw[aj];exact ay
      ·rw[aj,Hi.o,hNt];exact F1
      ·rw[aj,Hi.o,hNt];exact F2
     have aT:=bT.o;have HF:=zH (aT ▸ hF);clear hF ay F1 F2 MF bF rF bt;subst aT
     go_roundw
     case rel=>exact⟨k+1,by omega,by go_num,zH ⟨_,VA,VC,A2,C2,VB,VD,HF.o⟩⟩
     case measure=>simp[intOf];omega
   ·have Hm:=hAu (w:=wr) true hAh Tryz.underlying231 (hFr wr) ag (hCv k (by omega)) (hFo e T k vs al Hl);simp only[if_true] at Hm;have M:=(Below.refl wr.heap.size wr).alloc (Nat.le_refl _) (.cells #[.string ⟨#[]⟩,.string ⟨#[]⟩,.string ⟨#[]⟩,.slice none 0 0] 370);have V:=zH (H.below M);clear ag Hq H ar M J;go_wp2_with fail;clear Hm aw d1 d2 d3;generalize wr.alloc _=w1 at V ⊢;go_quiet (fail)
    have Hk:Below w1.heap.size w1 (w1.drewN nq):=hAc (Below.refl _ _) nq;have Q:=zH (V.o.below Hk);have Hi:=zH (hUu Hl);clear V Hk;generalize w1.drewN nq=w2 at Q ⊢;go_wp2_with fail;exact⟨⟨k+1,by omega,by go_num,zH ⟨oL,SA,sc,MA,mc,LA,lc,by rw[Hi.o];exact Q.o⟩⟩,by simp[intOf];omega⟩
  ·obtain rfl:k=4:=by omega
   clear hk4;have z:=ar.o;have au:0<(among vs 4).length:=by
    obtain⟨k,hk,Hl⟩:=bY.o;have:k∈among vs 4:=by
     obtain rfl | rfl | rfl | rfl:k=0∨k=1∨k=2∨k=3:=by omega
     all_goals
      unfold among among among among among
      repeat' split
      all_goals simp_all
    exact List.length_pos_of_mem this
   have d:=z.row;have aR:=z.mem (fun e=>by rw[e] at au;simp at au);have Z:=z.s1;have Hb:=z.s2;obtain⟨n,hn⟩:=zN ((among vs 4).length);rw[←hn] at Z Hb d au;obtain⟨X0,hJ⟩:∃ X,X=(if n=0 then(⟨#[]⟩:ByteArray) else T):=⟨_,rfl⟩;obtain⟨X2,hO⟩:∃ X,X=(if n=0 then(0:Int) else(e:Int)+1):=⟨_,rfl⟩;obtain⟨X3,hU⟩:∃ X,X=(if n=0 then 0 else 4):=⟨_,rfl⟩;have aq:zI (setC T e n SA sc MA mc LA lc=#[.string X0,.slice SA n sc,.int .i64 X2,.slice MA X3 mc,.slice LA n lc]):=zH (by rw[hJ,hO,hU];rfl);rw[aq.o] at d;have HN:=zH hn;have hq:(0:Int)<(n:Int):=by omega
   clear hJ hO hU hn au;have y:=z.res;have x0:=zQ wr (w.heap.size+1) 0 (.string X0) d;have x1:=zQ wr (w.heap.size+1) 1 (.slice SA n sc) d;have x2:=zQ wr (w.heap.size+1) 2 (.int .i64 X2) d;have x3:=zQ wr (w.heap.size+1) 3 (.slice MA X3 mc) d;have x4:=zQ wr (w.heap.size+1) 4 (.slice LA n lc) d;have y0:=(zR wr w.heap.size 0 _ _ _ y).trans (show _=some (Value.string ⟨#[]⟩) from rfl);have y1:=(zR wr w.heap.size 1 _ _ _ y).trans (show _=some (Value.slice none 0 0) from rfl);have y2:=(zR wr w.heap.size 2 _ _ _ y).trans (show _=some (Value.int .i64 0) from rfl);have y3:=(zR wr w.heap.size 3 _ _ _ y).trans (show _=some (Value.slice none 0 0) from rfl);have y4:=(zR wr w.heap.size 4 _ _ _ y).trans (show _=some (Value.slice none 0 0) from rfl);have yf:=fun k=>frozen_of_row wr w.heap.size k _ _ y;obtain⟨t1,t2⟩:=hNo wr w.heap.size _ _ _ _ _ _ (.string X0) (.slice SA n sc) (.int .i64 X2) (.slice MA X3 mc) (.slice LA n lc) y;obtain⟨WF,av⟩:=zN ((((((wr.setCell ⟨w.heap.size,0,none⟩ (.string X0)).setCell ⟨w.heap.size,1,none⟩ (.slice SA n sc)).setCell ⟨w.heap.size,2,none⟩ (.int .i64 X2)).setCell ⟨w.heap.size,3,none⟩ (.slice MA X3 mc)).setCell ⟨w.heap.size,4,none⟩ (.slice LA n lc)));have bZ:=zH av;rw[←av] at t1 t2;have aa:Below WF.heap.size WF WF.drew:=⟨rfl,rfl,rfl,Nat.le_refl _,fun _ _=>rfl⟩;have bV:zI (WF.drew.heap[w.heap.size]?=_):=zH t1;have Ht:=z.bel.trans (hAj t2 z.sz (Nat.le_refl _));have bX:=zH (Ht.trans (aa.mono Ht.size));have G1:=((Z.other t2 y (by decide)).fix (P:=fun _=>True) (Fix.same aa) trivial);have G2:=((Hb.other t2 y (by decide)).fix (P:=fun _=>True) (Fix.same aa) trivial);have ak:∀ {v:Value} {t:Nat} {W:World} {xs:List Value} {nn:Nat},t≠0→Row W oL t 114 2 v nn xs→W.ownsRow w.heap.size 114 2 v nn xs:=fun {v t W xs nn} ht h=>by
    obtain⟨⟨q1,q2⟩,q3⟩:=h;refine⟨q1,?_⟩;rcases q2 with q2 | ⟨g,cap,cur,rfl,_,q2⟩
    ·exact .inl q2
    ·refine .inr ⟨g,cap,cur,rfl,?_,q2⟩;have h1:=q3 g rfl;by_cases hl:g<w.heap.size
     ·rw[z.old g hl] at h1;exact absurd h1.symm ht
     ·omega
   have N:w.heap.size+1≠w.heap.size:=by omega
   have ck:wr.drew.cell? ⟨w.heap.size+1,0,none⟩=some (.string X0)∧wr.drew.cell? ⟨w.heap.size+1,1,none⟩=some (.slice SA n sc)∧wr.drew.cell? ⟨w.heap.size+1,2,none⟩=some (.int .i64 X2)∧wr.drew.cell? ⟨w.heap.size+1,3,none⟩=some (.slice MA X3 mc)∧wr.drew.cell? ⟨w.heap.size+1,4,none⟩=some (.slice LA n lc):=⟨x0,x1,x2,x3,x4⟩;have f0:=hAo t2 x0 N;have f1:=hAo t2 x1 N;have f2:=hAo t2 x2 N;have f3:=hAo t2 x3 N;have f4:=hAo t2 x4 N;have bm:WF.drew.cell? ⟨w.heap.size+1,0,none⟩=some (.string X0)∧WF.drew.cell? ⟨w.heap.size+1,1,none⟩=some (.slice SA n sc)∧WF.drew.cell? ⟨w.heap.size+1,2,none⟩=some (.int .i64 X2)∧WF.drew.cell? ⟨w.heap.size+1,3,none⟩=some (.slice MA X3 mc)∧WF.drew.cell? ⟨w.heap.size+1,4,none⟩=some (.slice LA n lc):=⟨f0,f1,f2,f3,f4⟩;have HG:=zH (And.intro (ak (by decide) G1) (ak (by decide) G2));have bS:zI (MemN WF.drew w.heap.size MA mc):=zH (((aR.grown t2 (Nat.lt_succ_self _)).keep aa).lower (Nat.le_succ _));rw[av] at bm;clear av Ht N f0 f1 f2 f3 f4;clear Z Hb d aR y t1 t2 G1 G2 ak z ar Y H aa;go_wp2_with fail
   go_region_held (fun W=>W.cell? ⟨w.heap.size+1,0,none⟩=some (.string X0)∧W.cell? ⟨w.heap.size+1,1,none⟩=some (.slice SA n sc)∧W.cell? ⟨w.heap.size+1,2,none⟩=some (.int .i64 X2)∧W.cell? ⟨w.heap.size+1,3,none⟩=some (.slice MA X3 mc)∧W.cell? ⟨w.heap.size+1,4,none⟩=some (.slice LA n lc)) (first | with_reducible exact ck | with_reducible exact bm | (trace_state;fail)) (fail)
   all_goals
    rw[←bZ.o];go_wp2_with fail;refine bodyPost_ret (hEg rfl _ _ w.heap.size _ rfl (by rfl) bV.o) rfl ⟨⟨SA,sc,MA,mc,LA,lc,?_,?_,?_,bS.o⟩,bX.o⟩
    ·rw[←HN.o,aq.o];show Ending.returned (.tuple #[.agg _,.bool (decide (0<n))])=_;rw[decide_eq_true (by omega)]
    ·rw[←HN.o];exact HG.o.1
    ·rw[←HN.o];exact HG.o.2
structure BookAt (w:World) (o:Tags) (i b mb:Nat):Prop where
 blk:Blk w o i b 171 #[.map (some mb)]
 mp:∃ l,MpK 114 w mb l∧∀ p∈l,∃ z:Int,p.2=.int .i64 z
 tag:o mb=i
theorem BookAt.fix {P:Nat→Prop} {o o':Tags} {w w':World} {i b mb:Nat} (h:BookAt w o i b mb) (f:Fix P o o' w w') (hi:P i):BookAt w' o' i b mb:=by
 obtain⟨l,a,d⟩:=h.mp;have c:P (o mb):=by rw[h.tag];exact hi
 exact⟨h.blk.fix f hi,⟨l,a.fix f c,d⟩,by rw[(f.block mb a.lt c).1];exact h.tag⟩
theorem hU0 (w:World):Calls Tryz.prog 44 #[] w fun r w'=>∃ b mb,r=.returned (.pointer (some ⟨b,0,none⟩))∧w.heap.size≤b∧w.heap.size≤mb∧w'.heap[b]?=some (.cells #[.map (some mb)] 171 (0,0))∧MpK 114 w' mb []∧Below w.heap.size w w':=by
 have g:=@run_makeMap Tryz.prog;obtain⟨a1,a2,f,a⟩:=hAp w (.map #[] 0) (.cells #[.map (some w.heap.size)] 171);have c:=zH a1;have d:=zH a2;have e:=zH a;clear a1 a2 a f;go_enter Tryz.func44,Tryz.ntmps44;go_wp2_with fail;go_ret;exact⟨_,_,rfl,Nat.le_succ _,Nat.le_refl _,d.o,MpK.empty c.o,e.o⟩
theorem hZw (s:St):encS s=[.int .i64 s.1,.string s.2]:=rfl
theorem hUz (mb:Nat) (x:Int) (t:ByteArray) (L:List KV) {lx:Lit} (i:zI (keyOf Tryz.prog 114 (.agg #[.int .i64 x,.string t])=some lx)) (w1:World) (h:MpK 114 w1 mb L) (d:∀ p∈L,∃ z:Int,p.2=.int .i64 z) :
  ∃ z:Int,(∀ W:World,W.heap[mb]?=w1.heap[mb]?→(Instr.lookup 169 (.map (some mb)) (.agg #[.int .i64 x,.string t]) false).run Tryz.prog W=.ok (.int .i64 z) W) ∧
     ∃ w2 born,(Instr.mapEntry 169 (.map (some mb)) (.agg #[.int .i64 x,.string t])).run Tryz.prog w1.drew=.ok (.tuple #[.int .i64 z,.int .i64 ((born:Nat):Int)]) w2∧w1.grownBy w2 (some mb) ∧
      (Instr.lookup 169 (.map (some mb)) (.agg #[.int .i64 x,.string t]) false).run Tryz.prog w2=.ok (.int .i64 z) w2 ∧
      ∀ v,∃ w3 L3,(Instr.entryStore 169 (.map (some mb)) (.int .i64 born) (.int .i64 v)).run Tryz.prog w2=.ok () w3∧w2.grownBy w3 (some mb)∧MpK 114 w3 mb L3∧∀ p∈L3,∃ z:Int,p.2=.int .i64 z:=by
 have j:MpK 114 w1.drew mb L:=h;have c:Tryz.prog.underlying 169=some (.map 114 3):=Tryz.underlying169;by_cases hin:∃ v,(Value.agg #[.int .i64 x,.string t],v)∈L
 ·obtain⟨v,n⟩:=hin;obtain⟨l1,l2,rfl⟩:=List.append_of_mem n;obtain⟨z,q⟩:=d _ n;simp only at q;subst q;obtain⟨w2,born,l,f,b⟩:=hFw hC9 c j;have g:w1.grownBy w2 (some mb):=⟨b.os,b.tape,b.output,b.size,b.block⟩;refine⟨z,fun W m=>by simpa using hAm (w:=W) false hC9 c (h.move m),w2,born,l,g,by simpa using hAm (w:=w2) false hC9 c f.mp,fun v=>?_⟩;obtain⟨w3,g1,g2,g3⟩:=hCd (t:=169) f (.int .i64 v);refine⟨w3,_,g1,g3,g2,fun p a=>?_⟩;rcases List.mem_append.1 a with a | a
  ·exact d p (by simp[a])
  ·rcases List.mem_cons.1 a with rfl | a
   ·exact⟨v,rfl⟩
   ·exact d p (by simp[a])
 ·have k:∀ p∈L,p.1≠.agg #[.int .i64 x,.string t]:=fun p a e=>hin ⟨p.2,by rw[←e];exact a⟩;obtain⟨w2,born,l,f,b⟩:=hFv hC9 c (hFq _) j i.o k;have g:w1.grownBy w2 (some mb):=⟨b.os,b.tape,b.output,b.size,b.block⟩;refine⟨0,fun W m=>by simpa using hAu (w:=W) false hC9 c (hFq _) (h.move m) i.o k,w2,born,l,g,by simpa using hAm (w:=w2) false hC9 c f.mp,fun v=>?_⟩;obtain⟨w3,g1,g2,g3⟩:=hCd (t:=169) f (.int .i64 v);refine⟨w3,_,g1,g3,g2,fun p a=>?_⟩;rcases List.mem_append.1 a with a | a
  ·exact d p a
  ·rw[List.mem_singleton.1 a];exact⟨v,rfl⟩
theorem hR1 (b mb i:Nat) (Hm:i≠0) (o:Tags) (A:Option Addr) (n c:Nat) (HJ:n≤1000) (l:List St) (hl:∀ s∈l,-1000≤s.1∧s.1≤1000∧s.2.size≤maxLen) (w:World) (h:BookAt w o i b mb) (H:SlD encS w o A n c l) :
  Calls Tryz.prog 81 #[.pointer (some ⟨b,0,none⟩),.slice A n c] w fun r w'=>r=.returned (.tuple #[])∧BookAt w' o i b mb∧w.grownBy w' (some mb):=by
 have hc:c≤9223372036854775807:=H.2.2.1;have Q:l.length=n:=H.1;have hI:n≤c:=H.2.1;have HB:=zH h;have HS:=zH H;have HL:=zH hl;have Hg:=zH Q;clear h H hl Q;go_enter Tryz.func81,Tryz.ntmps81;go_wp2_with fail;clear hc;go_loopw [5,10] (fun _ j wr=>∃ k:Nat,k≤n∧j=.int .i64 k∧zI (BookAt wr o i b mb)∧zI (w.grownBy wr (some mb))) (fun _ j _=>n - (intOf j).toNat)
 case atStart=>exact⟨0,by omega,rfl,HB,zH (hAa (Below.refl _ _) _)⟩
 case round=>
  obtain⟨k,hk,rfl,E,B⟩:=hrel;have q0:(0:Int)≤(k:Int):=by omega
  by_cases hkn:k<n
  ·have q1:(k:Int)<(n:Int):=by omega
   have S:=HS.o.fix (Fix.grown (P:=(· = 0)) (o:=o) B.o (fun k hk _=>by cases hk;rw[HB.o.tag];exact Hm)) rfl;obtain⟨B2,off2,hA,Hh,Hi,f⟩:=S.at 2 hBf (0,ByteArray.empty) (by omega);subst hA;have G:l.getD k (0,ByteArray.empty)∈l:=by
    rw[List.getD_eq_getElem?_getD,List.getElem?_eq_getElem (by rw[Hg.o];exact hkn)];exact List.getElem_mem _
   obtain⟨z1,z2,z3⟩:=HL.o _ G;obtain⟨⟨x,t⟩,v⟩:∃ s,s=l.getD k (0,ByteArray.empty):=⟨_,rfl⟩;rw[←v] at z1 z2 z3;simp only at z1 z2 z3;have e0:wr.cell? ⟨B2,off2+k*2,none⟩=some (.int .i64 x):=f k 0 _ hkn (by omega) (by rw[←v];rfl);have e1:wr.cell? ⟨B2,off2+k*2+1,none⟩=some (.string t):=f k 1 _ hkn (by omega) (by rw[←v];rfl);obtain⟨kl,M⟩:=hYf x t (WalkArith.wf_i64 (by omega)) z3;have Hf:=zH M;have D:=(Below.refl wr.heap.size wr).alloc (Nat.le_refl _) (.cells #[.int .i64 x,.string t] 114);have a:=zH (E.o.fix (P:=fun _=>True) (Fix.same D) trivial);have I:=zH (B.o.trans (hAa D _));have p:=zH (heap_alloc_new wr (.cells #[.int .i64 x,.string t] 114));have Hz:=zH v;clear S f G z1 z2 z3 M D E B v Hh Hi;go_wp2_with fail;clear e0 e1;obtain⟨sb,R⟩:=zN (wr.heap.size);rw[←R] at p ⊢;clear R;generalize wr.alloc _=w1 at a I p ⊢;obtain⟨L,C,U⟩:=a.o.mp;have y:=a.o.blk.1;have F:b≠mb:=fun e=>by
    obtain⟨es,cl,m,_⟩:=C;rw[←e,y] at m;cases m
   have u:sb≠mb:=fun e=>by
    obtain⟨es,cl,m,_⟩:=C;rw[←e,p.o] at m;cases m
   have s0:=zQ w1 b 0 (.map (some mb)) y;have s1:=zQ w1 sb 0 (.int .i64 x) p.o;have s2:=zQ w1 sb 1 (.string t) p.o;have d:=zH (show w1.cell? ⟨b,0,none⟩=some (.map (some mb))∧w1.cell? ⟨sb,0,none⟩=some (.int .i64 x)∧w1.cell? ⟨sb,1,none⟩=some (.string t) from⟨s0,s1,s2⟩);clear s0 s1 s2 y;have key:=hUz mb x t L Hf w1 C U;obtain⟨z,N,w2,born,X,q,Z,T⟩:=key;obtain⟨w3,L3,Y,K,O,V⟩:=T (IntKind.i64.wrap (z+1));have Hr:=N w1.drew rfl;have g:=q.trans K;have Hj:w1.drew.cell? ⟨b,0,none⟩=some (.map (some mb))∧w1.drew.cell? ⟨sb,0,none⟩=some (.int .i64 x)∧w1.drew.cell? ⟨sb,1,none⟩=some (.string t):=d.o;have Hk:w2.cell? ⟨b,0,none⟩=some (.map (some mb))∧w2.cell? ⟨sb,0,none⟩=some (.int .i64 x)∧w2.cell? ⟨sb,1,none⟩=some (.string t):=⟨hAo q d.o.1 F,hAo q d.o.2.1 u,hAo q d.o.2.2 u⟩;have Hl:w3.cell? ⟨b,0,none⟩=some (.map (some mb))∧w3.cell? ⟨sb,0,none⟩=some (.int .i64 x)∧w3.cell? ⟨sb,1,none⟩=some (.string t):=⟨hAo g d.o.1 F,hAo g d.o.2.1 u,hAo g d.o.2.2 u⟩;have HG:=zH g;have J:=zH (And.intro O V);clear N q K T g O V C U F u
   go_region_held (fun W=>W.cell? ⟨b,0,none⟩=some (.map (some mb))∧W.cell? ⟨sb,0,none⟩=some (.int .i64 x)∧W.cell? ⟨sb,1,none⟩=some (.string t)) (assumption) (fail)
   all_goals
    have HF:zI (BookAt w3 o i b mb):=zH ⟨⟨(HG.o.block b a.o.blk.lt (fun e=>by
     obtain⟨l,m,_⟩:=a.o.mp;obtain⟨es,cl,m,_⟩:=m;have hr:=a.o.blk.1;rw[Option.some.inj e,m] at hr;cases hr)).trans a.o.blk.1,a.o.blk.2⟩,⟨L3,J.o.1,J.o.2⟩,a.o.tag⟩
    have Hb:=zH (I.o.trans HG.o);clear Hj Hk Hl X Y Hr Z;go_wp2_with fail;exact⟨⟨k+1,by omega,by go_num,HF,Hb⟩,by simp[intOf];omega⟩
  ·obtain rfl:k=n:=by omega
   clear hkn;go_wp2_with fail;go_end0;exact⟨rfl,E.o,B.o⟩
theorem hJu (w:World) (ty:TypeId) (A:Option Addr) (n c:Nat) (h:n≤c):(Builtin.append_ #[44,44] ty #[.slice A n c,.slice none 0 0]).run Tryz.prog w=.ok (.slice A n c) w:=by
 obtain⟨i0,b,e,d,f⟩:=info_parts hF8;cases A with
 |none=>simp[Builtin.append_,run_underlying Tryz.underlying44,sizeOf,typeInfo,b,d,Builtin.lenOf,h,Builtin.firstCells,Result.andThen]
 |some a=>simp[Builtin.append_,run_underlying Tryz.underlying44,sizeOf,typeInfo,b,d,Builtin.lenOf,h,Builtin.firstCells,Result.andThen,storeCells]
def KeepS (w w':World) (ob:Nat):Prop:=∀ X cs T fr,w.heap[X]?=some (.cells cs T fr)→T≠114→X≠ob→w'.heap[X]?=some (.cells cs T fr)
theorem hZp (ob base:Nat) (VA:Option Addr) (vn vc:Nat) (xs:List Value) (A:Option Addr) (n c:Nat) (l:List St) (o:Tags) (hn:n≤1000) (Y:vn≤1000) (D:base≤ob) (w:World) (q:base≤w.heap.size) (d:w.heap[ob]?=some (.cells #[.slice VA vn vc] 44 (0,0))) (i:Own1 w base 114 2 (.slice VA vn vc) vn xs) (x:SlD encS w o A n c l) :
  Calls Tryz.prog 97 #[.slice A n c,.pointer (some ⟨ob,0,none⟩)] w fun r w'=>r=.returned (.tuple #[])∧(∃ VA' vc',w'.heap[ob]?=some (.cells #[.slice VA' (vn+n) vc'] 44 (0,0))∧Own1 w' base 114 2 (.slice VA' (vn+n) vc') (vn+n) (xs++l.flatMap encS))∧Below base w w'∧KeepS w w' ob:=by
 obtain⟨i0,I,J,K,L⟩:=info_parts hF8;have P:=zH I;have Q:=zH J;have R:=zH K;have S:=zH L;clear I J K L;have c0:=zQ w ob 0 (.slice VA vn vc) d;have f0:=frozen_of_row w ob 0 _ _ d;have h:=x.1;have N:=zH d;have B:=zH i;have O:=zH x;cases A with
 |none=>
  obtain⟨rfl,rfl⟩:=x.2.2.2.1 rfl;have hl:l=[]:=List.length_eq_zero_iff.1 h;subst hl;have Z:vn≤vc:=by
   rcases i.1.2 with⟨h1,h2⟩ | ⟨g,cap,cur,Y,_,_,h3,_⟩
   ·omega
   ·injection Y with _ _ e;omega
  have U:=fun ty=>hJu w ty VA vn vc Z;have v:w.grownBy (w.setCell ⟨ob,0,none⟩ (.slice VA vn vc)) (some ob):=hAb (hAa (Below.refl _ _) _) (p:=⟨ob,0,none⟩) (.inl rfl) _;have z:=zH (heap_setCell_same w ob 0 _ _ (.slice VA vn vc) d);have E:=zH v;have H:=zH (i.grown v d (by decide));clear d i x v h;clear U B O N;cases VA with
  |none=>
   go_enter Tryz.func97,Tryz.ntmps97;go_wp2_with fail;go_end0;exact⟨rfl,⟨none,vc,z.o,by simpa using H.o⟩,hAj E.o q D,fun X cs T fr m _ t=>(E.o.block X (zL m) (fun e=>t (Option.some.inj e))).trans m⟩
  |some a=>
   go_enter Tryz.func97,Tryz.ntmps97;go_wp2_with fail;go_end0;exact⟨rfl,⟨some a,vc,z.o,by simpa using H.o⟩,hAj E.o q D,fun X cs T fr m _ t=>(E.o.block X (zL m) (fun e=>t (Option.some.inj e))).trans m⟩
 |some ad=>
  obtain⟨b,off,rfl,hb,_,f⟩:=x.2.2.2.2 ad rfl;have y:zI (∀ j u,(l.flatMap encS)[j]?=some u→w.cell? ((⟨b,off,none⟩:Addr).add j)=some u):=zH (fun j u hj=>by
   rw[hAl];exact f j u hj)
  have W:zI ((l.flatMap encS).length=n*2):=zH (by
   rw[←h];clear f y O x h;induction l with
   |nil=>rfl
   |cons a l ih=>rw[List.flatMap_cons,List.length_append,ih,List.length_cons,Nat.succ_mul,hBf];omega)
  have M:zI (∀ u∈l.flatMap encS,u.oneCell'=true):=zH (fun u G=>by
   obtain⟨s,_,G⟩:=List.mem_flatMap.1 G;simp only[encS,List.mem_cons,List.not_mem_nil,or_false] at G;rcases G with rfl | rfl<;>rfl)
  clear d i x f h;go_enter Tryz.func97,Tryz.ntmps97;go_wp2_with (at_builtin;go_must (refine hA9 rfl (.tmp 3) (.tmp 4) 44 rfl (fun b=>if b<base then 0 else 1) 1 114 i0 _ 2 24 Tryz.underlying44 P.o Q.o R.o S.o rfl (by decide) _ _ _ (by rfl) B.o ⟨b,off,none⟩ n c (l.flatMap encS) (by rfl) W.o y.o M.o (by unfold maxLen;omega) (by omega) ?_);go_must (intro v2 w2 k;obtain⟨VA2,VC2,rfl⟩:=hAk k.row.1;have F:=k.keep B.o N.o (by decide);have t0:=zQ w2 ob 0 (.slice VA vn vc) F;have tf:=frozen_of_row w2 ob 0 _ _ F;have C:=zH k;have z:=zH F;clear k F));have v:w2.grownBy (w2.setCell ⟨ob,0,none⟩ (.slice VA2 (vn+n) VC2)) (some ob):=hAb (hAa (Below.refl _ _) _) (p:=⟨ob,0,none⟩) (.inl rfl) _;have V:=C.o.below B.o q;go_end0;exact⟨rfl,⟨VA2,VC2,heap_setCell_same w2 ob 0 _ _ _ z.o,(C.o.own1 q).grown v z.o (by decide)⟩,V.trans (hAj v (Nat.le_trans q C.o.chg.size) D),fun X cs T fr m hT t=>(v.block X (Nat.lt_of_lt_of_le (zL m) C.o.chg.size) (fun e=>t (Option.some.inj e))).trans (C.o.keep B.o m hT)⟩
end Go.Proofs.YtlibpcllceepkaaGreat
