/- Joined texts of the claim. No condition. -/
import Derived.Test.YtlibpcllceepkaaGreatB32
import Derived.Test.YtlibpcllceepkaaGreatB26
namespace Go.Proofs.YtlibpcllceepkaaGreat
open Go.RowKit
set_option maxRecDepth 100000
set_option linter.unusedVariables false
set_option linter.unusedSimpArgs false
set_option maxHeartbeats 16000000
def chVal (e v f:Nat):Value:=.agg (encCh (f,v,chT e v f)).toArray
theorem hCg (e:Nat):∀ (l:List (Nat×Nat)) (i:Nat),SRep.chAt l i=none→∀ p∈chL e l,p.1≠Value.int .i64 i
 |[],i,_,p,hp=>by simp[chL] at hp
 |q::l,i,h,p,hp=>by
  have a:¬ q.1=i:=fun e=>by simp[SRep.chAt,e] at h
  have b:SRep.chAt l i=none:=by simpa[SRep.chAt,a] using h
  simp only[chL,List.map_cons,List.mem_cons] at hp;rcases hp with rfl | hp
  ·intro hc;injection hc with _ hc;exact a (by exact_mod_cast hc)
  ·exact hCg e l i b p hp
theorem hF2 (e:Nat):∀ (l:List (Nat×Nat)) (i u:Nat),SRep.chAt l i=some u→∃ l1 l2,chL e l=l1++(Value.int .i64 i,chVal e u i)::l2
 |[],i,u,h=>by simp[SRep.chAt] at h
 |q::l,i,u,h=>by
  by_cases hq:q.1=i
  ·simp only[SRep.chAt,hq,if_true,Option.some.injEq] at h;refine⟨[],chL e l,?_⟩;simp[chL,chVal,←h,←hq]
  ·obtain⟨l1,l2,a⟩:=hF2 e l i u (by simpa[SRep.chAt,hq] using h);refine⟨(Value.int .i64 q.1,chVal e q.2 q.1)::l1,l2,?_⟩;rw[List.cons_append,←a];rfl
theorem hDw (r:SRep) (v:Nat):∀ k,∀ f∈r.changed v k,f<k
 |0,f,h=>by simp[SRep.changed] at h
 |k+1,f,h=>by
  unfold SRep.changed at h;split at h
  ·rcases List.mem_append.1 h with h | h
   ·exact Nat.lt_succ_of_lt (hDw r v k f h)
   ·rw[List.mem_singleton.1 h];omega
  ·exact Nat.lt_succ_of_lt (hDw r v k f h)
theorem hE8 (r:SRep) (v:Nat):∀ k,(r.changed v k).Pairwise (· < ·)
 |0=>by simp[SRep.changed]
 |k+1=>by
  unfold SRep.changed;split
  ·rw[List.pairwise_append];refine⟨hE8 r v k,by simp,fun a c b d=>?_⟩;rw[List.mem_singleton.1 d];exact hDw r v k a c
  ·exact hE8 r v k
theorem hG9 (r:SRep) (v:Nat):∀ k,(r.changed v k).length≤k
 |0=>Nat.le_refl _
 |k+1=>by
  have:=hG9 r v k;unfold SRep.changed;split
  ·simp;omega
  ·omega
theorem hE6:∀ (l:List Nat),(∀ x∈l,x<4)→l.Pairwise (· < ·)→upB l=true
 |[],_,_=>rfl
 |[x],h,_=>by simp[upB,h x (by simp)]
 |x::y::l,h,hp=>by
  rw[List.pairwise_cons] at hp;simp only[upB,Bool.and_eq_true,decide_eq_true_eq];exact⟨hp.1 y (by simp),hE6 (y::l) (fun z a=>h z (List.mem_cons_of_mem _ a)) hp.2⟩
theorem hXf {l:List Nat} (a:l.Pairwise (· < ·)) (i:Nat) (hi:i+1<l.length):l.getD i 0<l.getD (i+1) 0:=by
 rw[List.getD_eq_getElem?_getD,List.getElem?_eq_getElem (by omega),List.getD_eq_getElem?_getD,List.getElem?_eq_getElem hi];exact List.pairwise_iff_getElem.1 a i (i+1) (by omega) hi (by omega)
theorem hMd {r r':SRep} (h:r.leadIn=some r'):(r.active=true∨r.log.v % 4≠r.id)∧r'=r ∨
  r.active=false∧r.log.v % 4=r.id∧(r.changed r.log.v 4).length<3∧r'=r ∨
  r.active=false∧r.log.v % 4=r.id∧(r.changed r.log.v 4).length=3∧r.log.v≠0∧(r.say ⟨7,r.log.e,r.log.v,0,r.changed r.log.v 4⟩).enter=some r':=by
 unfold SRep.leadIn at h;split at h
 ·rename_i hc;injection h with h;refine .inl ⟨?_,h.symm⟩;simpa using hc
 ·rename_i hc;have a:r.active=false∧r.log.v % 4=r.id:=by simpa using hc
  split at h
  ·rename_i b;injection h with h;exact .inr (.inl ⟨a.1,a.2,b,h.symm⟩)
  ·rename_i b;split at h
   ·cases h
   ·rename_i c;simp only[Bool.or_eq_true,decide_eq_true_eq,beq_iff_eq,not_or,Nat.not_lt] at c;exact .inr (.inr ⟨a.1,a.2,by omega,c.2,h⟩)
theorem hXj:(Tryz.prog.info? 208).map (fun i=>(i.zero,i.size,i.bytes))=some (some (.agg #[.int .i64 0,.int .i64 0,.slice none 0 0,.int .i64 0,.string ⟨#[]⟩]),5,64):=by kernel_rfl
theorem hP4 (w:World):(zeroValue 208).run Tryz.prog w=.ok (.agg #[.int .i64 0,.int .i64 0,.slice none 0 0,.int .i64 0,.string ⟨#[]⟩]) w:=by kernel_rfl
theorem hLa {o:Tags} {rho:Nat→Rq} {b:Nat} {z:RB} {r:SRep} {be m:Nat} (hc:r.active=true∨r.log.v % 4≠r.id) (w:World) (h:RepF w o rho b z r be m) :
  Calls Tryz.prog 239 #[.pointer (some ⟨b,0,none⟩)] w fun e w'=>e=.returned (.tuple #[])∧Below w.heap.size w w':=by
 have u0:=fun y:Bel w.heap.size w=>y.cell h.lt h.c0;have u1:=fun y:Bel w.heap.size w=>y.cell h.lt h.c1;have u5:=fun y:Bel w.heap.size w=>y.cell h.tlt h.t5;have x0:=h.c0;have y0:=h.t0;have f:=zH (hBc z.lb (tg r.id 3) o z.ms rho r.log w h.log);have d:=fun y:Bel w.heap.size w=>zH (hCn r.log.v (by have:=h.num.v;omega) y.w (h.keep y.h));obtain⟨v4,c⟩:=zN (((r.log.v % 4:Nat):Int));rw[←c] at d;have a:r.active=false→(v4 != (r.id:Int))=true:=fun g=>by
  rcases hc with hc | hc
  ·rw[g] at hc;cases hc
  ·rw[c,bne_iff_ne];omega
 clear c hc h;cases hact:r.active
 ·have i:=a hact;rw[hact] at u5;clear a;go_enter Tryz.func239,Tryz.ntmps239;go_wp2_with fail;refine f.o.mono ?_;rintro e wx ⟨rfl,rfl⟩;go_wp2_with fail;refine hAg w.heap.size w (by kernel_rfl) (by kernel_rfl) (Below.refl _ _) ?_;repeat (go_big_quiet_step ((go_at_call 245;exact hAq (Nat.le_refl _) (d _).o)))
  refine wpQuiet_nil ?_;rintro _ ⟨y,rfl⟩;go_wp2_with fail;exact bodyPost_ret (results_none rfl _ _ _) rfl ⟨rfl,y.h⟩
 ·rw[hact] at u5;clear a;go_enter Tryz.func239,Tryz.ntmps239;go_wp2_with fail;refine f.o.mono ?_;rintro e wx ⟨rfl,rfl⟩;go_wp2_with fail;refine hAg w.heap.size w (by kernel_rfl) (by kernel_rfl) (Below.refl _ _) ?_;repeat (go_big_quiet_step (fail))
  refine wpQuiet_nil ?_;rintro _ ⟨y,rfl⟩;go_wp2_with fail;exact bodyPost_ret (results_none rfl _ _ _) rfl ⟨rfl,y.h⟩
theorem hI6 {o:Tags} {rho:Nat→Rq} {b:Nat} {z:RB} {r r':SRep} {m:Nat} (hr:ROk rho) (hx:r.leadIn=some r') (w:World) (h:RepF w o rho b z r r.log.e (m+30)) :
  Calls Tryz.prog 239 #[.pointer (some ⟨b,0,none⟩)] w fun e w'=>e=.returned (.tuple #[])∧∃ o' z',RepF w' o' rho b z' r' r'.log.e m∧ChgR (r.id+1) o o' w w':=by
 rcases hMd hx with⟨hc,rfl⟩ | C
 ·refine(hLa hc w h).mono ?_;rintro e w' ⟨rfl,hb⟩;exact⟨rfl,o,z,(h.keep hb).le (by omega),ChgR.below hb (fun _ _=>rfl)⟩
 have Hg:r.active=false:=by rcases C with hc | hc<;>exact hc.1
 have Hl:r.log.v % 4=r.id:=by rcases C with hc | hc<;>exact hc.2.1
 have J:((r.changed r.log.v 4).length<3∧r'=r)∨((r.changed r.log.v 4).length=3∧r.log.v≠0∧(r.say ⟨7,r.log.e,r.log.v,0,r.changed r.log.v 4⟩).enter=some r'):=by
  rcases C with hc | hc
  ·exact .inl hc.2.2
  ·exact .inr hc.2.2
 have aE:=zH J;have bB:=h.num.e;have bC:=h.num.v;have u0:=fun y:Bel w.heap.size w=>y.cell h.lt h.c0;have u1:=fun y:Bel w.heap.size w=>y.cell h.lt h.c1;have u5:=fun y:Bel w.heap.size w=>y.cell h.tlt h.t5;rw[Hg] at u5;have x0:=h.c0;have y0:=h.t0;have hO:=zH (hBc z.lb (tg r.id 3) o z.ms rho r.log w h.log);have Hb:=fun y:Bel w.heap.size w=>zH (hCn r.log.v (by have:=h.num.v;omega) y.w (h.keep y.h));have hq:(((r.log.v % 4:Nat):Int) != (r.id:Int))=false:=by rw[Hl];simp
 obtain⟨v4,an⟩:=zN (((r.log.v % 4:Nat):Int));rw[←an] at Hb hq;have HR:=zH h;clear an C J hx h Hg Hl;go_enter Tryz.func239,Tryz.ntmps239;go_wp2_with fail;refine hO.o.mono ?_;rintro e wx ⟨rfl,rfl⟩;go_wp2_with fail;refine hAg w.heap.size w (by kernel_rfl) (by kernel_rfl) (Below.refl _ _) ?_;repeat (go_big_quiet_step ((go_at_call 245;exact hAq (Nat.le_refl _) (Hb _).o)))
 refine wpQuiet_nil ?_;rintro _ ⟨y,rfl⟩;have B:=zH (HR.o.keep y.h);have S:=zH y.h;clear u0 u1 u5 x0 y0 hO Hb hq;generalize y.w=w1 at B S ⊢;clear y;have aw:=B.o.mem;obtain⟨⟨bu,bv,mb,moff,hM,Hm,O⟩,bl⟩:=aw;have aK:=zH O;have aJ:=zH Hm;have x0:=B.o.c0;have y4:=B.o.t4;rw[hM] at y4;clear hM O Hm bl;go_wp2_with fail;clear x0 y4;obtain⟨V,hV⟩:=zN (r.log.v);obtain⟨L,hL⟩:=zN (r.changed V);have aI:zI (∀ k,L (k+1)=if SRep.chAt r.changes k=some V then L k++[k] else L k):=zH (fun k=>by rw[hL];rfl);have Hy:zI (L 0=[]):=zH (by rw[hL];rfl);have aH:zI (∀ k,(L k).length≤k):=zH (fun k=>by rw[hL];exact hG9 r V k);have Ha:=zH hL;have Y:=zH hV;rw[←hV];clear hL hV;obtain⟨i0,ah,ao,ap,aq⟩:=info_parts hXj;have aU:=zH ah;have aV:=zH ao;have aW:=zH ap;have aX:=zH aq;clear ah ao ap aq;go_loopw [3,44] (fun s3 j wr=>∃ (k:Nat) (A:Option Addr) (c:Nat),k≤4∧s3=.slice A (L k).length c∧j=.int .i64 k∧zI (Own1 wr w1.heap.size 208 5 (.slice A (L k).length c) (L k).length ((L k).flatMap fun f=>encCh (f,V,chT r.log.e V f)))∧zI (Below w1.heap.size w1 wr)) (fun _ j _=>4 - (intOf j).toNat)
 case atStart=>exact⟨0,none,0,by omega,by rw[Hy.o];rfl,rfl,by rw[Hy.o];exact zH (Own1.nil _ _ _ _),zH (Below.refl _ _)⟩
 case round=>
  obtain⟨k,A,c,hk,rfl,rfl,l,a⟩:=hrel;have q4:(0:Int)≤(k:Int):=by omega
  by_cases hk4:k<4
  ·have q3:(k:Int)<4:=by omega
   have hc:=(a.o.cell (p:=⟨mb,moff+k,none⟩) aJ.o).trans (aK.o k hk4);have D:=B.o.keep a.o;have x0:=D.c0;have y2:=D.t2;have P:=D.chg.1;have q:=aI.o k;have bi:=aH.o k;obtain⟨cs,K⟩:=zN (SRep.chAt r.changes k);have U:=hCg r.log.e r.changes k;have W:=hF2 r.log.e r.changes k;rw[←K] at U W q;clear K D;cases cs with
   |none=>
    have N:=hAu (w:=wr) true hAh Tryz.underlying186 (hP4 wr) P (hCv k (by omega)) (U rfl);simp only[if_true] at N;rw[if_neg (by simp)] at q;have d:=zH q;have HA:=zH (a.o.alloc a.o.size (.cells #[.int .i64 0,.int .i64 0,.slice none 0 0,.int .i64 0,.string ⟨#[]⟩] 208));have HO:=zH (l.o.below ((Below.refl wr.heap.size wr).alloc (Nat.le_refl _) (.cells #[.int .i64 0,.int .i64 0,.slice none 0 0,.int .i64 0,.string ⟨#[]⟩] 208)));clear q U W P;go_wp2_with fail;exact⟨⟨k+1,A,c,by omega,by rw[d.o],by go_num,by rw[d.o];exact HO,HA⟩,by simp[intOf];omega⟩
   |some u=>
    obtain⟨l1,l2,am⟩:=W u rfl;rw[am] at P;have N:=hAm (w:=wr) true hAh Tryz.underlying186 P;simp only[if_true,chVal,encCh] at N;clear am P U W;by_cases huv:u=V
    ·subst huv;rw[if_pos rfl] at q;have d:=zH q;generalize hT:chT r.log.e u k=t at N;have aR:=zH hT;obtain⟨n,hn⟩:=zN ((L k).length);rw[←hn] at l bi ⊢;have aL:=zH hn;obtain⟨a1,a2,hz,Hi⟩:=hAp wr (.cells #[.int .i64 k,.int .i64 u,.slice none 0 0,.int .i64 k,.string t] 208) (.cells #[.int .i64 k,.int .i64 u,.slice none 0 0,.int .i64 k,.string t] 208);have Hz:=zH (l.o.below Hi);have Z:=zH (zB a.o Hi);have aM:zI (∀ j v,(encCh (k,u,t))[j]?=some v→((wr.alloc (.cells #[.int .i64 k,.int .i64 u,.slice none 0 0,.int .i64 k,.string t] 208)).alloc (.cells #[.int .i64 k,.int .i64 u,.slice none 0 0,.int .i64 k,.string t] 208)).cell? ((⟨wr.heap.size+1,0,none⟩:Addr).add j)=some v):=zH (fun j v hv=>by
      rw[hAl,zR _ _ _ _ _ _ a2];simpa[encCh] using hv)
     have aN:zI (∀ v∈encCh (k,u,t),v.oneCell'=true):=zH (fun v hv=>by
      simp only[encCh,List.mem_cons,List.not_mem_nil,or_false] at hv;rcases hv with rfl | rfl | rfl | rfl | rfl<;>rfl)
     have F:=heap_alloc_new wr (.cells #[.int .i64 k,.int .i64 u,.slice none 0 0,.int .i64 k,.string t] 208);have v0:=(zR _ wr.heap.size 0 _ _ _ F).trans (show _=some (Value.int .i64 k) from rfl);have v1:=(zR _ wr.heap.size 1 _ _ _ F).trans (show _=some (Value.int .i64 u) from rfl);have v2:=(zR _ wr.heap.size 2 _ _ _ F).trans (show _=some (Value.slice none 0 0) from rfl);have v3:=(zR _ wr.heap.size 3 _ _ _ F).trans (show _=some (Value.int .i64 k) from rfl);have v4:=(zR _ wr.heap.size 4 _ _ _ F).trans (show _=some (Value.string t) from rfl);clear l a q hT hn a1 a2 hz Hi F;go_wp2_with (at_builtin;go_must (refine hA9 rfl (.tmp 67) (.tmp 69) 45 rfl (fun b=>if b<w1.heap.size then 0 else 1) 1 208 i0 _ 5 64 Tryz.underlying45 aU.o aV.o aW.o aX.o rfl (by decide) _ _ _ (by rfl) Hz.o ⟨wr.heap.size+1,0,none⟩ 1 1 (encCh (k,u,t)) (by rfl) (by rfl) aM.o aN.o (by unfold maxLen;omega) (by omega) ?_);go_must (intro v2 w3 R;obtain⟨VA2,VC2,rfl⟩:=hAk R.row.1;have HU:=zH R;clear R));have ba:=HU.o.below Hz.o Z.o.size;have ai:(L (k+1)).length=n+1:=by rw[d.o,List.length_append,aL.o];rfl
     have bd:(L (k+1)).flatMap (fun f=>encCh (f,u,chT r.log.e u f))=(L k).flatMap (fun f=>encCh (f,u,chT r.log.e u f))++encCh (k,u,t):=by
      rw[d.o,List.flatMap_append,←aR.o];simp
     exact⟨⟨k+1,VA2,VC2,by omega,by rw[ai],by go_num,by rw[ai,bd];exact zH (HU.o.own1 Z.o.size),zH (Z.o.trans ba)⟩,by simp[intOf];omega⟩
    ·rw[if_neg (fun e=>huv (Option.some.inj e))] at q;have bm:¬ (u:Int)=(V:Int):=by omega
     have bw:((u:Int) == (V:Int))=false:=beq_eq_false_iff_ne.2 bm;have d:=zH q;generalize chT r.log.e u k=t at N;have HA:=zH (a.o.alloc a.o.size (.cells #[.int .i64 k,.int .i64 u,.slice none 0 0,.int .i64 k,.string t] 208));have HO:=zH (l.o.below ((Below.refl wr.heap.size wr).alloc (Nat.le_refl _) (.cells #[.int .i64 k,.int .i64 u,.slice none 0 0,.int .i64 k,.string t] 208)));have F:=heap_alloc_new wr (.cells #[.int .i64 k,.int .i64 u,.slice none 0 0,.int .i64 k,.string t] 208);have v1:=(zR _ wr.heap.size 1 _ _ _ F).trans (show _=some (Value.int .i64 u) from rfl);clear q F huv;go_wp2_with fail;exact⟨⟨k+1,A,c,by omega,by rw[d.o],by go_num,by rw[d.o];exact HO,HA⟩,by simp[intOf];omega⟩
  ·obtain rfl:k=4:=by omega
   have Hf:L 4=r.changed r.log.v 4:=by rw[Ha.o,Y.o]
   have K:=aE.o;rw[←Hf] at K;have bA:=zH Hf;have T:=zH (hPf wr (B.o.keep a.o));have x0:=(B.o.keep a.o).c0;have aa:=S.o.trans (a.o.mono S.o.size);have az:=zH aa;clear Hf aa;rcases K with⟨bj,rfl⟩ | ⟨I,X,ag⟩
   ·have q1:((L 4).length:Int)<3:=by omega
    clear bj l hk4 hk;go_wp2_with fail;refine T.o.mono ?_;rintro e wx ⟨rfl,rfl⟩;go_wp2_with fail;exact bodyPost_ret (results_none rfl _ _ _) rfl ⟨rfl,o,z,(B.o.keep a.o).le (by omega),ChgR.below az.o (fun _ _=>rfl)⟩
   ·have aG:=zH ag;have s:SlD encCh wr (o.ext w1.heap.size 0) A 3 c (chsL r.log.e V (L 4)):=by
     have h:=l.o.row;rw[I] at h;refine SlD.of_own (e:=208) (sz:=5) (base:=w1.heap.size) ?_ (by simp[chsL,I]) _ (fun x hx _=>Tags.ext_new _ _ _ _ hx);rw[show(chsL r.log.e V (L 4)).flatMap encCh=(L 4).flatMap fun f=>encCh (f,V,chT r.log.e V f) by simp[chsL,List.flatMap_map]];exact h
    have D:=zH (B.o.keepT a.o (Tags.ext_old o w1.heap.size 0));have Hx:=zH ((ChgR.below (k:=r.id+1) (o:=o) S.o (fun _ _=>rfl)).trans (ChgR.below (k:=r.id+1) a.o (Tags.ext_old o w1.heap.size 0)));have G:∀ f∈L 4,f<4:=by rw[Ha.o];exact hDw r V 4
    have H:(L 4).Pairwise (· < ·):=by rw[Ha.o];exact hE8 r V 4
    generalize o.ext w1.heap.size 0=o2 at s D Hx;obtain⟨gA,gO,hA,bg⟩:∃ g off,A=some ⟨g,off,none⟩∧3≤c:=by
     obtain⟨g,off,h1,_⟩:=s.at 5 hCh (0,0,ByteArray.empty) (by omega);exact⟨g,off,h1,s.2.1⟩
    subst hA;have ae:=s.2.2.1;have aj:(⟨7,r.log.e,r.log.v,0,L 4⟩:SMsg).ok=true:=by
     have bp:=hE6 (L 4) G H;simp[SMsg.ok,I,bp];omega
    have hU:((⟨7,r.log.e,r.log.v,0,L 4⟩:SMsg).fm rho).At wr o2 ⟨none,0,none,0,some ⟨gA,gO,none⟩,c,none,0⟩:=by
     refine⟨⟨rfl,rfl⟩,SlD.nil _ _ _,?_,⟨rfl,rfl⟩⟩;show SlD encCh wr o2 (some ⟨gA,gO,none⟩) ((L 4).map fun f=>(f,r.log.v,chT r.log.e r.log.v f)).length c _;rw[List.length_map,I,←Y.o];exact s
    have Hq:=hE0 (be:=r.log.e) (m:=m+25) ⟨7,r.log.e,r.log.v,0,L 4⟩ aj rfl ⟨none,0,none,0,some ⟨gA,gO,none⟩,c,none,0⟩ #[.int .i64 7,.int .i64 0,.int .i64 r.log.v,.int .i64 0,.int .i64 0,.int .i64 0,.int .i64 0,.string ⟨#[]⟩,.float .f64 0,.int .i64 0,.int .i64 0,.float .f64 0,.string ⟨#[]⟩,.slice none 0 0,.slice none 0 0,.slice (some ⟨gA,gO,none⟩) 3 c,.slice none 0 0] (by
     show _=(#[.int .i64 7,.int .i64 0,.int .i64 r.log.v,.int .i64 0,.int .i64 0,.int .i64 0,.int .i64 0,.string ⟨#[]⟩,.float .f64 0,.int .i64 0,.int .i64 0,.float .f64 0,.string ⟨#[]⟩,.slice none 0 0,.slice none 0 0,.slice (some ⟨gA,gO,none⟩) ((L 4).map fun f=>(f,r.log.v,chT r.log.e r.log.v f)).length c,.slice none 0 0]:Array Value);rw[List.length_map,I]) wr D.o hU
    rw[←Y.o] at Hq;have hJ:=zH Hq;have aQ:=zH s;have Hu:=zH (And.intro G H);have H3:=zH I;have aT:=zH X;rw[I];have q1:(3:Int)≤(c:Int):=by omega
    have q2:(c:Int)≤9223372036854775807:=by unfold maxLen at ae;omega
    clear Hq hU aj s G H I X ag l hk4 hk bg ae;go_wp2_with fail;refine T.o.mono ?_;rintro e wx ⟨rfl,rfl⟩;go_wp2_with fail;refine T.o.mono ?_;rintro e wx ⟨rfl,rfl⟩;go_wp2_with fail;refine hJ.o.mono ?_;rintro e w5 ⟨rfl,o5,z5,E,Hj⟩;have b6:=Y.o;have X:=aT.o;have Hp:=aQ.o.fix (hA7 Hj) rfl;have x0:=E.c0;have y3:=E.t3;have y4:=E.t4;have HJ:=zH (hLx r.log.e V (by omega) (by omega) (by omega) z5.M z5.mc (L 4) H3.o Hu.o.1 (fun i hi=>hXf Hu.o.2 i (by rw[H3.o];exact hi)) (some ⟨gA,gO,none⟩) c o5 w5 E.mem.1 Hp);have hI:=zH E;have Hw:=zH (Hx.o.trans Hj);have y3:w5.cell? ⟨z5.tb,3,none⟩=some (.int .i64 r.log.e):=y3;clear E Hj Hp hJ b6 X T;go_wp2_with fail;refine HJ.o.mono ?_;rintro e w6 ⟨⟨Q,qc,rfl⟩,Hh⟩;have aO:=zH (show RepF w6 o5 rho b z5 (r.say ⟨7,r.log.e,r.log.v,0,L 4⟩) (r.say ⟨7,r.log.e,r.log.v,0,L 4⟩).log.e (m+25) from by have h:=hI.o.keep Hh;rw[Y.o] at h;exact h);have aB:=zH (Hw.o.trans (ChgR.below (k:=r.id+1) (o':=o5) Hh (fun _ _=>rfl)));have Hk:=hKg (m:=m) hr aG.o Q qc w6 aO.o;rw[show(((r.say ⟨7,r.log.e,r.log.v,0,L 4⟩).log.v:Nat):Int)=(V:Int) from by rw[Y.o];rfl] at Hk;have aF:=zH Hk;clear Hk Hh x0 y3 y4 HJ hI Hw;go_wp2_with fail;refine aF.o.mono ?_;rintro e w7 ⟨rfl,o7,z7,ak,ab⟩;have aP:=zH ak;have aD:=zH (aB.o.trans ab);clear ak ab;go_wp2_with fail;go_end0;exact⟨rfl,o7,z7,aP.o,aD.o⟩
end Go.Proofs.YtlibpcllceepkaaGreat
namespace Go.Proofs.YtlibpcllceepkaaGreat
open Go.RowKit
open Go.Sort
set_option maxRecDepth 100000
set_option linter.unusedVariables false
set_option linter.unusedSimpArgs false
set_option maxHeartbeats 16000000
theorem hQa (w:World) (n:Nat) (os:Array Obj):Below w.heap.size w (Sort.grow (Sort.ahead w n) os):=by
 refine⟨rfl,rfl,rfl,?_,fun b a=>?_⟩
 ·rw[Sort.size_grow];exact Nat.le_add_right _ _
 ·exact Sort.heap_grow_old (Sort.ahead w n) os a
theorem hWj (g c m:Nat) (v:Int) (w:World) (b:g<w.heap.size) (a:Sort.Holds (Value.int .i64) w g 0 (List.replicate m v).toArray) (f:m≤100) :
  Calls Tryz.prog 78 #[.slice (some ⟨g,0,none⟩) m c] w fun e w'=>e=.returned (.tuple #[])∧Below w.heap.size w w':=by
 have h:=AnyM.slices_Sort_int Tryz.sort78 g 0 c (List.replicate m v) w a b (by rw[List.length_replicate];omega);rw[List.length_replicate] at h;have d:(List.replicate m v).mergeSort (fun x y=>decide (x≤y))=List.replicate m v:=List.perm_replicate.1 (List.mergeSort_perm _ _);refine Calls.mono h ?_;rintro e w' ⟨rfl,n,os,rfl⟩;rw[d,Sort.putRow_self (Value.int .i64) (Sort.ahead w n) g 0 _ a];exact⟨rfl,hQa w n os⟩
theorem hUg (A:Option Addr) (c:Nat) (w:World) :
  Calls Tryz.prog 78 #[.slice A 0 c] w fun e w'=>e=.returned (.tuple #[])∧Below w.heap.size w w':=
 (AnyM.slices_Sort_int_none Tryz.sort78 A c w).mono fun e w' h=>⟨h.1,h.2 ▸ Below.refl _ _⟩
theorem hPp (e v:Nat):∀ (l:List (Nat×Nat)),(∀ p∈l,p.2=v)→∀ p∈chL e l,∃ f:Nat,p.2=chVal e v f
 |[],_,p,hp=>by simp[chL] at hp
 |q::l,h,p,hp=>by
  simp only[chL,List.map_cons,List.mem_cons] at hp;rcases hp with rfl | hp
  ·refine⟨q.1,?_⟩;have:=h q (by simp);simp[chVal,this]
  ·exact hPp e v l (fun x a=>h x (List.mem_cons_of_mem _ a)) p hp
theorem own_holds {w:World} {base g m c:Nat} {v:Int} (h:Own1 w base 3 1 (.slice (some ⟨g,0,none⟩) m c) m (List.replicate m (.int .i64 v))):Sort.Holds (Value.int .i64) w g 0 (List.replicate m v).toArray:=by
 intro j e;have a:j<m:=by simpa using e
 rcases h.1.2 with⟨b,_⟩ | ⟨g',cap,cur,f,k,d,n,l,i,o⟩
 ·cases b
 ·cases f;have:=World.ownsRow.cells h.1 (g:=g) rfl j (.int .i64 v) (by rw[List.getElem?_replicate,if_pos a]);rw[hAl] at this;refine⟨?_,frozen_of_row w g _ _ _ d⟩;simpa[a] using this
theorem hZo {w w1:World} {R:Nat} {o:Obj} (c:w1=w∨w1=w.drew):w.grownBy (ChangeMaps.setBlock w1 R o) (some R):=by
 rcases c with rfl | rfl;all_goals
  refine⟨rfl,rfl,rfl,by simp[ChangeMaps.setBlock],fun b d a=>?_⟩;have:R≠b:=fun e=>a (by rw[e]);first
   |(simp[ChangeMaps.setBlock,Array.getElem?_setIfInBounds,this];done)
   |(simp[ChangeMaps.setBlock,Array.getElem?_setIfInBounds,this];rfl)
theorem hPb {w w1:World} {R:Nat} {o:Obj} (a:w1=w∨w1=w.drew) (b:R<w.heap.size):(ChangeMaps.setBlock w1 R o).heap[R]?=some o:=by
 rcases a with rfl | rfl;all_goals simp[ChangeMaps.setBlock,b]
theorem Own1.off {w w':World} {base:Nat} {T:TypeId} {k:Nat} {v:Value} {n:Nat} {xs:List Value} (h:Own1 w base T k v n xs) {g:Nat} (b:w.grownBy w' (some g)) (a:v.ownBlock≠some g):Own1 w' base T k v n xs:=
 ⟨World.ownsRow.kept h.1 b (by
  cases hv:v.ownBlock with
  |none=>exact .inl rfl
  |some x=>exact .inr (fun e=>a (by rw[hv,e]))),h.2⟩
theorem hV7 {o:Tags} {rho:Nat→Rq} {b:Nat} {z:RB} {r:SRep} {be m:Nat} (hc:∀ p∈r.changes,p.2=r.log.v) (w:World) (h:RepF w o rho b z r be m) :
  Calls Tryz.prog 255 #[.pointer (some ⟨b,0,none⟩)] w fun e w'=>(∃ x:Nat,e=.returned (.int .i64 x)∧x≤r.log.v)∧Below w.heap.size w w':=by
 have aq:=h.chg.1;have ay:r.changes.length≤4:=by
  have:=hDi h.num.chn (fun x hx=>by
   obtain⟨p,hp,rfl⟩:=List.mem_map.1 hx;exact h.num.chs p hp)
  simpa using this
 obtain⟨es,clock,d,u,ap,au,l⟩:=aq;have T:∀ x∈es.toList,∃ f:Nat,x.val=chVal r.log.e r.log.v f:=fun x hx=>by
  have hm:(x.key,x.val)∈chL r.log.e r.changes:=by rw[←u];exact List.mem_map.2 ⟨x,hx,rfl⟩
  exact hPp r.log.e r.log.v r.changes hc _ hm
 have aM:es.size≤4:=by
  have i:=congrArg List.length u;simp[chL] at i;omega
 have N:=zH T;have HJ:=zH d;have Hg:=zH l;have Hp:=fun W (hW:W.heap[z.mb]?=some (.map es clock))=>run_range_map (P:=Tryz.prog) W 186 3 208 z.mb es clock Tryz.underlying186 hW;have av:=Hp w d;have ab:=fun w=>zH (weak4 w);have x0:=h.c0;have y2:=h.t2;have HR:=zH h;obtain⟨V,hV⟩:=zN (r.log.v);rw[←hV] at N ⊢;have Hm:=(zL d);clear hc u ap au l T h d hV Hp;obtain⟨i0,Hk,Hq,Hr,Ht⟩:=info_parts hFe;have ae:=zH Hk;have ag:=zH Hq;have ah:=zH Hr;have ai:=zH Ht;clear Hk Hq Hr Ht;go_enter Tryz.func255,Tryz.ntmps255;go_upto_region 3 with fail;have Y:=zH ((Below.refl w.heap.size w).alloc (Nat.le_refl _) (.mapIter (some z.mb) clock #[] clock));have Z:=zH (heap_alloc_new w (.mapIter (some z.mb) clock #[] clock));clear av x0 y2;generalize w.alloc _=w0 at Y Z ⊢;go_loopw [3] (fun s3 wr=>∃ (seen:Array Nat) (n:Nat) (A:Option Addr) (c:Nat),s3=.slice A n c∧n+(leftOf es seen).size≤4∧zI (wr.heap[w.heap.size]?=some (.mapIter (some z.mb) clock seen clock))∧zI (Own1 wr w.heap.size 3 1 (.slice A n c) n (List.replicate n (.int .i64 V)))∧zI (Below w.heap.size w wr)) (fun _ wr=>(leftOf es (wr.iterSeen w.heap.size)).size)
 case atStart=>
  refine⟨#[],0,none,0,rfl,?_,Z,zH (Own1.nil _ _ _ _),Y⟩;have h:(leftOf es #[]).size≤es.size:=Array.size_filter_le ..;omega
 case round=>
  obtain⟨seen,n,A,c,rfl,aH,B,a,l⟩:=hrel;have d:=(l.o.block _ Hm).trans HJ.o;have az:=zH d;rcases run_next_at (P:=Tryz.prog) wr 0 w.heap.size z.mb clock clock seen es clock B.o d Hg.o.1 (Nat.le_refl _) with⟨h0,q⟩ | ⟨e,he,w1,U,q⟩
  ·have Hf:zI (Calls Tryz.prog 78 #[.slice A n c] wr fun e w'=>e=.returned (.tuple #[])∧Below wr.heap.size wr w'):=zH (by
    rcases a.o.1.2 with⟨i,X⟩ | ⟨g,cap,cur,i,hb,E,hn,hm,an,ht⟩
    ·cases i;exact hUg none 0 wr
    ·have ho:=a.o;cases i;exact hWj g c n V wr (zL E) (own_holds ho) (by omega))
   have L:zI (2≤n→∃ g,A=some ⟨g,0,none⟩∧g<wr.heap.size∧n≤c∧wr.cell? ⟨g,n - 2,none⟩=some (.int .i64 V)):=zH (fun X=>by
    rcases a.o.1.2 with⟨i,aK⟩ | ⟨g,cap,cur,i,hb,E,hn,hm,an,ht⟩
    ·injection i with _ i _;omega
    ·have ho:=a.o;cases i;have h:=World.ownsRow.cells ho.1 (g:=g) rfl (n - 2) (.int .i64 V) (by rw[List.getElem?_replicate,if_pos (by omega)]);rw[hAl,Nat.zero_add] at h;exact⟨g,rfl,(zL E),hn,h⟩)
   clear d a;go_wp2_with fail;refine Hf.o.mono ?_;rintro e w2 ⟨rfl,O⟩;have H:=zH (zB l.o O);have M:=HR.o.keep H.o;have x0:=M.c0;have y4:=M.t4;have K:=zH O;clear O M q Hf;go_wp2_with fail;refine(ab _).o.mono ?_;rintro e wx ⟨rfl,rfl⟩;by_cases X:2≤n
   ·obtain⟨g,rfl,E,aL,Hj⟩:=L.o X;obtain⟨k,rfl⟩:∃ k,n=k+2:=⟨n - 2,by omega⟩;have aF:=(K.o.cell (p:=⟨g,k,none⟩) E).trans Hj;have q1:¬ ((k+2:Nat):Int)<2:=by omega
    have q2:(0:Int)≤(k:Int):=by omega
    clear L Hj X K;go_wp2_with fail;go_ret;exact⟨⟨V,rfl,Nat.le_refl _⟩,H.o⟩
   ·have q1:(n:Int)<2:=by omega
    clear L K;go_wp2_with fail;exact bodyPost_ret (results_tmp rfl _ _ _) rfl ⟨⟨0,rfl,Nat.zero_le _⟩,H.o⟩
  ·have S:(Value.slice A n c).ownBlock≠some w.heap.size:=fun C=>by
    rcases a.o.1.2 with⟨i,_⟩ | ⟨g,cap,cur,i,_,E,_⟩
    ·rw[i] at C;cases C
    ·rw[i] at C;have ax:g=w.heap.size:=Option.some.inj C;have hi:=B.o;rw[←ax,E] at hi;cases hi
   have Hh:=(zL B.o);have y:wr.grownBy (ChangeMaps.setBlock w1 w.heap.size (.mapIter (some z.mb) clock (seen.push e.born) clock)) (some w.heap.size):=hZo U;have s:=hPb (o:=.mapIter (some z.mb) clock (seen.push e.born) clock) U Hh;obtain⟨W2,Hi⟩:∃ W,W=ChangeMaps.setBlock w1 w.heap.size (.mapIter (some z.mb) clock (seen.push e.born) clock):=⟨_,rfl⟩;rw[←Hi] at q y s;have R:=(y.block _ (Nat.lt_of_lt_of_le Hm l.o.size) (fun e=>by have:=Option.some.inj e;omega)).trans d;obtain⟨Q,_⟩:=mem_left he;have D:=run_entry_at (P:=Tryz.prog) W2 w.heap.size z.mb clock seen es clock e s R Q Hg.o.2.1;obtain⟨f,hf⟩:=N.o e Q;rw[hf] at D q;unfold chVal encCh at D q;generalize chT r.log.e V f=t at D q;have aa:=zH (left_shrinks es seen e he);have Hb:=a.o.off y S;have J:=l.o.trans (hAj y l.o.size (Nat.le_refl _));have hJ:=zH S;have hI:=zH B.o;obtain⟨a1,a2,hz,G⟩:=hAp W2 (.cells #[.int .i64 f,.int .i64 V,.slice none 0 0,.int .i64 f,.string t] 208) (.cells #[.int .i64 V] 3);have hC:=heap_alloc_new W2 (.cells #[.int .i64 f,.int .i64 V,.slice none 0 0,.int .i64 f,.string t] 208);have v1:=(zR _ W2.heap.size 1 _ _ _ hC).trans (show _=some (Value.int .i64 V) from rfl);have Hc:=zH (Hb.below G);have I:=zH (J.trans (G.mono J.size));have Ha:=zH ((G.block _ (zL s)).trans s);have hO:zI (∀ j v,([Value.int .i64 V])[j]?=some v→((W2.alloc (.cells #[.int .i64 f,.int .i64 V,.slice none 0 0,.int .i64 f,.string t] 208)).alloc (.cells #[.int .i64 V] 3)).cell? ((⟨W2.heap.size+1,0,none⟩:Addr).add j)=some v):=zH (fun j v C=>by
    rw[hAl,zR _ _ _ _ _ _ a2];simpa using C)
   have hU:zI (∀ v∈[Value.int .i64 V],v.oneCell'=true):=zH (fun v C=>by
    rw[List.mem_singleton.1 C];rfl)
   clear d a l B S Hh y s R Q hf he Hb J a1 a2 hz G hC Hi U;go_wp2_with (at_builtin;go_must (refine hA9 rfl (.tmp 19) (.tmp 22) 29 rfl (fun b=>if b<w.heap.size then 0 else 1) 1 3 i0 _ 1 8 Tryz.underlying29 ae.o ag.o ah.o ai.o rfl (by decide) _ _ _ (by rfl) Hc.o ⟨W2.heap.size+1,0,none⟩ 1 1 [Value.int .i64 V] (by rfl) (by rfl) hO.o hU.o (by unfold maxLen;omega) (by omega) ?_);go_must (intro v2 w3 F;obtain⟨VA2,VC2,rfl⟩:=hAk F.row.1;have HU:=zH F;clear F));have am:=HU.o.below Hc.o I.o.size;have Hl:=(HU.o.grown.block _ (zL Ha.o) (fun e=>hJ.o e.symm)).trans Ha.o;have aw:=aa.o;refine⟨⟨seen.push e.born,n+1,VA2,VC2,rfl,by omega,zH Hl,?_,zH (I.o.trans am)⟩,?_⟩
   ·rw[List.replicate_succ'];exact zH (HU.o.own1 I.o.size)
   ·have i1:w3.iterSeen w.heap.size=seen.push e.born:=by unfold World.iterSeen;rw[Hl]
    have i2:wr.iterSeen w.heap.size=seen:=by unfold World.iterSeen;rw[hI.o]
    rw[i1,i2];exact aw
end Go.Proofs.YtlibpcllceepkaaGreat
