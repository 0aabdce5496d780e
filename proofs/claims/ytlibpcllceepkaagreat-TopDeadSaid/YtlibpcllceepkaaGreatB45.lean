/- Joined texts of the claim. No condition. -/
import Derived.Test.YtlibpcllceepkaaGreatB36
import Derived.Test.YtlibpcllceepkaaGreatB37
import Derived.Test.YtlibpcllceepkaaGreatB38
import Derived.Test.YtlibpcllceepkaaGreatB39
import Derived.Test.YtlibpcllceepkaaGreatB40
import Derived.Test.YtlibpcllceepkaaGreatB43
import Derived.Test.YtlibpcllceepkaaGreatB44
import Derived.Test.YtlibpcllceepkaaGreatB42
import Derived.Test.YtlibpcllceepkaaGreatB14
import Derived.Test.YtlibpcllceepkaaGreatB27
namespace Go.Proofs.YtlibpcllceepkaaGreat
open Go.RowKit
set_option maxRecDepth 100000
set_option linter.unusedVariables false
set_option linter.unusedSimpArgs false
set_option maxHeartbeats 16000000
theorem hOp (k n:Nat) (h:deedF k=some n):Enters Tryz.prog n:=by
 unfold deedF at h;split at h
 ·injection h with h;subst h;exact enters_of Tryz.func219 (by kernel_rfl) rfl
 ·injection h with h;subst h;exact enters_of Tryz.func220 (by kernel_rfl) rfl
 ·injection h with h;subst h;exact enters_of Tryz.func221 (by kernel_rfl) rfl
 ·injection h with h;subst h;exact enters_of Tryz.func222 (by kernel_rfl) rfl
 ·injection h with h;subst h;exact enters_of Tryz.func223 (by kernel_rfl) rfl
 ·injection h with h;subst h;exact enters_of Tryz.func224 (by kernel_rfl) rfl
 ·injection h with h;subst h;exact enters_of Tryz.func225 (by kernel_rfl) rfl
 ·injection h with h;subst h;exact enters_of Tryz.func226 (by kernel_rfl) rfl
 ·cases h
theorem hO0 (r:SRep) (f:Nat) (x:SMsg):(r.onFetch f x).log=r.log:=by
 unfold SRep.onFetch;split
 ·rfl
 ·split<;>rfl
theorem hMq {f:Nat} (h:upB [f]=true):f<4:=by simpa[upB] using h
theorem hSu {r r':SRep} {f:Nat} {x:SMsg} (c:x.ok=true) (b:r.hear f x=some r'):∃ n,deedF x.kind=some n:=by
 have a:=hD4 c;unfold SRep.hear at b;rcases a with a | a | a | a | a | a | a | a | a | a<;>rw[a] at b ⊢<;>first | exact⟨_,rfl⟩ | (exact absurd (show none=some r' from b) (by simp))
theorem hV5 {o:Tags} {rho:Nat→Rq} {b:Nat} {z:RB} {r r':SRep} {f:Nat} (j:ROk rho) {x:SMsg} (k:x.ok=true) (q:r.chain=r.settled) (a:r.hear f x=some r') {n:Nat} (c:deedF x.kind=some n) (zz:Sls) (w:World) (h:RepF w o rho b z r r.log.e 935) (l:(x.fm rho).At w o zz) :
  Calls Tryz.prog n #[.pointer (some ⟨b,0,none⟩),.int .i64 f,.agg ((x.fm rho).cells zz)] w fun e w'=>e=.returned (.tuple #[])∧∃ o' z',RepF w' o' rho b z' r' r'.log.e 900∧ChgR (r.id+1) o o' w w':=by
 have g:=hD4 k;have i:=k;unfold SMsg.ok at i;unfold SRep.hear at a;rcases g with g | g | g | g | g | g | g | g | g | g<;>rw[g] at a c i
 ·injection c with c;subst c;replace a:(if f=101 then r.onRequest x.n else none)=some r':=a;have d:(x.e == 0 && x.v == 0 && decide (1≤x.n) && decide (x.n≤8) && x.bys.isEmpty)=true:=i;simp only[Bool.and_eq_true,decide_eq_true_eq,beq_iff_eq,List.isEmpty_iff] at d;by_cases hc:f=101
  ·rw[if_pos hc] at a;subst hc;exact hLe j g (by omega) a zz w (h.le (by omega)) l
  ·rw[if_neg hc] at a;cases a
 ·injection c with c;subst c;have p:r.onPropose f x=some r':=a;exact hLd j g p zz w (h.le (by omega)) l
 ·injection c with c;subst c;replace a:(if x.bys=[f] then r.onPrepare f x else none)=some r':=a;have d:(decide (x.e≤1) && decide (x.v≤15) && decide (4*x.e+1≤x.n) && decide (x.n<4*x.e+5) && x.bys.length == 1 && upB x.bys)=true:=i;simp only[Bool.and_eq_true,decide_eq_true_eq,beq_iff_eq,List.isEmpty_iff] at d;by_cases hc:x.bys=[f]
  ·rw[if_pos hc] at a;have m:=hMq (by have:=d.2;rw[hc] at this;exact this);exact hLc j m g a hc zz w (h.le (by omega)) l
  ·rw[if_neg hc] at a;cases a
 ·injection c with c;subst c;replace a:(if f<4 then r.onCommit f x else none)=some r':=a;by_cases hc:f<4
  ·rw[if_pos hc] at a;exact hNe j hc g a zz w (h.le (by omega))
  ·rw[if_neg hc] at a;cases a
 ·injection c with c;subst c;replace a:(if x.bys=[f] then r.onVote f x else none)=some r':=a;have d:(decide (x.e≤1) && x.v == 0 && x.n == 4*(x.e+1) && x.bys.length == 1 && upB x.bys)=true:=i;simp only[Bool.and_eq_true,decide_eq_true_eq,beq_iff_eq,List.isEmpty_iff] at d;by_cases hc:x.bys=[f]
  ·rw[if_pos hc] at a;have m:=hMq (by have:=d.2;rw[hc] at this;exact this);exact hQ3 j m g (by omega) hc a zz w (h.le (by omega)) l
  ·rw[if_neg hc] at a;cases a
 ·injection c with c;subst c;replace a:(if x.bys=[f] then r.onChange f x else none)=some r':=a;have d:(decide (x.e≤1) && decide (1≤x.v) && decide (x.v≤15) && x.n == 0 && x.bys.length == 1 && upB x.bys)=true:=i;simp only[Bool.and_eq_true,decide_eq_true_eq,beq_iff_eq,List.isEmpty_iff] at d;by_cases hc:x.bys=[f]
  ·rw[if_pos hc] at a;have m:=hMq (by have:=d.2;rw[hc] at this;exact this);exact hNd j m g k hc a zz w (h.le (by omega)) l
  ·rw[if_neg hc] at a;cases a
 ·injection c with c;subst c;have p:r.onNewView f x=some r':=a;exact hLb j g k p zz w (h.le (by omega)) l
 ·exact absurd (show none=some r' from a) (by simp)
 ·injection c with c;subst c;replace a:(if f<4∨f=101 then some (r.onFetch f x) else none)=some r':=a;by_cases hc:f<4∨f=101
  ·rw[if_pos hc] at a;injection a with a;subst a;rw[show(r.onFetch f x).log.e=r.log.e by rw[hO0]];exact hO4 q g zz w (h.le (by omega))
  ·rw[if_neg hc] at a;cases a
 ·exact absurd (show none=some r' from a) (by simp)
theorem hL7 {r r':SRep} {now f:Nat} {x:SMsg} (h:r.handle now f x=some r'):f≠r.id∧r.ok=true∧x.ok=true∧now≤5000∧({ r with now:=now }:SRep).hear f x=some r':=by
 unfold SRep.handle at h;split at h
 ·cases h
 ·rename_i hc;simp only[Bool.or_eq_true,decide_eq_true_eq,Bool.not_eq_true',not_or,Bool.not_eq_false,decide_eq_false_iff_not,Decidable.not_not] at hc;obtain⟨⟨⟨a,b⟩,c⟩,d⟩:=hc;exact⟨a,b,c,d,h⟩
theorem hZg {r:SRep} (h:r.ok=true):r.chain=r.settled:=by
 unfold SRep.ok at h;simp only[Bool.and_eq_true,decide_eq_true_eq,beq_iff_eq,List.isEmpty_iff,List.all_eq_true] at h;obtain⟨⟨⟨⟨⟨⟨⟨⟨⟨⟨⟨⟨⟨⟨⟨⟨⟨⟨⟨⟨n,o⟩,p⟩,q⟩,s⟩,t⟩,u⟩,v⟩,w⟩,b⟩,c⟩,d⟩,e⟩,f⟩,g⟩,i⟩,a⟩,j⟩,k⟩,l⟩,m⟩:=h;exact a
theorem hZe (n:Nat) (W:World):(binOp .neq 325 (fnV n) .nilFunc).run Tryz.prog W=.ok (.bool true) W:=by
 rfl
theorem hQz {o:Tags} {rho:Nat→Rq} {b:Nat} {z:RB} {r r':SRep} {now f:Nat} (hr:ROk rho) {x:SMsg} (hx:r.handle now f x=some r') (Hp:r'.id=r.id) (zz:Sls) (w:World) (h:RepF w o rho b z r r.log.e 0) (X:(x.fm rho).At w o zz) :
  Calls Tryz.prog 209 #[.pointer (some ⟨b,0,none⟩),.int .i64 now,.int .i64 f,.agg ((x.fm rho).cells zz)] w fun e w'=>∃ v xs o' z',e=.returned v∧Row w' o' (tg r.id 11) 92 19 v r'.o.length xs∧Lst (PkV w' o') (r'.o.map (pkF rho r.id)) xs∧RepF w' o' rho b z' { r' with o:=[] } r'.log.e 0∧ChgR (r.id+1) o o' w w':=by
 obtain⟨hf,U,a,T,d⟩:=hL7 hx;have V:=hZg U;have h1:=h.fresh U (Nat.le_refl 935);obtain⟨n,Y⟩:=hSu a d;have eg:=hOp _ n Y;unfold Enters at eg;have c:=zH ((Below.refl w.heap.size w).alloc (Nat.le_refl _) (.cells ((x.fm rho).cells zz) 48));have B:=zH (heap_alloc_new w (.cells ((x.fm rho).cells zz) 48));have C:=zH (h1.keepT c.o (Tags.ext_old o w.heap.size 7));have F:=Tags.ext_old o w.heap.size 7;have l:=zH (ChgR.below (k:=r.id+1) c.o F);have G:=zH (X.fix (P:=fun _=>True) (Fix.below c.o F) trivial);have Q:=h.lt;have i:=zH (hKa hr a _ zz _ G.o);have J:=zH (fun(w:World) (o:Tags) (h:RepF w o rho b z { r with now:=now } r.log.e 935) (X:(x.fm rho).At w o zz)=>hV5 (z:=z) (r:={ r with now:=now }) hr a V d Y zz w h X);have Hg:=fun w=>zH (hYz x.kind n Y w);have ag:=hZe n;obtain⟨M,hM⟩:=zN (((x.fm rho).cells zz).toList);have N:M.length=17:=by rw[hM];rfl
 have O:(x.fm rho).cells zz=M.toArray:=by rw[hM]
 have Hq:M.toArray[0]?=some (.int .i64 x.kind):=by
  rw[←O,show x.kind=(x.fm rho).kind from((FM.small rho a).2.2.2.1).symm];rfl
 rw[O] at c B C G l i J ⊢;generalize o.ext w.heap.size 7=o1 at C G l i F;have ae:(((f:Int) == (r.id:Int)):Bool)=false:=by
  rw[Bool.eq_false_iff];simp only[ne_eq,beq_iff_eq];omega
 have x84:=C.o.c84;have x1:=C.o.c1;have hU:=zH Hq;have Hi:zI ((Tryz.prog.info? 48).map (·.size)=some M.length):=zH (by rw[N];kernel_rfl);have E:=zH (show(w.alloc (.cells M.toArray 48)).rangeAt w.heap.size 0 M from fun j v D=>by
  rw[zR _ _ _ _ _ _ B.o,Nat.zero_add];simpa using D)
 have hO:=zH Hp;have Hw:=zH T;have aj:=zH h1.num;have ao:=zH Q;clear h X hx hf U a T d V h1 Y F hM N O Hq Hp;go_enter Tryz.func209,Tryz.ntmps209;go_wp2_with (refine wpList_load_mid rfl 48 (.tmp 7) rfl w.heap.size 0 (by rfl) M _ E.o Tryz.underlying48 rfl Hi.o ?_);obtain⟨g,hg⟩:=zN (w.heap.size);rw[←hg] at B E Q;rw[←hg];generalize w.alloc _=w1 at c B C G l i E x84 x1 ⊢;refine i.o.mono ?_;rintro e w2 ⟨⟨s,rfl⟩,u⟩;have q:=C.o.keep u;have Hb:=l.o.trans (ChgR.below (k:=r.id+1) (o':=o1) u (fun _ _=>rfl));have Hj:=(u.block g (zL B.o)).trans B.o;have Z:=G.o.fix (P:=fun _=>True) (Fix.same (o:=o1) u) trivial;have f87:=q.fz 87;have x87:=q.c87;obtain⟨Hr,R⟩:=q.set 87 (.int .i64 now) (z':=z) (r':={ r with now:=now }) rfl rfl { q.num with now:=Hw.o } (fun p hp=>by rcases p with _|_|_|_|_|_|_|_|_|_|_|_|_|_|p<;>first | exact absurd (by decide) hp | rfl);have Hk:=setOld (k:=87) (v:=.int .i64 now) Hj (show g≠b by omega);have K:=zH Hr;have I:=zH (Hb.trans R);have m:=zH Hk;have H:=zH (Z.fix (R.fix (P:=(· = 0)) (fun t ht=>by omega)) rfl);clear x84 x1 q Hb Hj Z Hr R Hk u C l B G i E c Q ae hg;go_upto_region 7 with fail;generalize World.setCell _ _ _=w3 at K I m H ⊢;have k0:=(zR _ g 0 _ _ _ m.o).trans hU.o;clear x87 f87;go_wp2_with fail;refine(Hg _).o.mono ?_;rintro e w4 ⟨rfl,y⟩;have Hh:=zH (K.o.keep y);have Hc:=zH (I.o.trans (ChgR.below (k:=r.id+1) (o':=o1) y (fun _ _=>rfl)));have Hl:=(y.block g (zL m.o)).trans m.o;have Ha:=zH (H.o.fix (P:=fun _=>True) (Fix.same (o:=o1) y) trivial);have L:=zH (show w4.rangeAt g 0 M from fun j v D=>by
  rw[zR _ _ _ _ _ _ Hl,Nat.zero_add];simpa using D)
 have Hf:=zH (J.o w4 o1 Hh.o Ha.o);unfold fnV at ag ⊢;clear k0 y Hl K I m H J Hg;go_wp2_with (refine wpList_load_mid rfl 48 (.tmp 7) rfl g 0 (by rfl) M _ L.o Tryz.underlying48 rfl Hi.o ?_);refine Hf.o.mono ?_;rintro e w5 ⟨rfl,o5,z5,Ht,Hm⟩;have HJ:=zH (hI5 w5 Ht);have hI:=zH (Hc.o.trans Hm);clear Ht Hm Hf Hh Hc Ha L;go_wp2_with fail;refine HJ.o.mono ?_;rintro e w6 ⟨v,xs,rfl,D,W,Hu,S⟩;rw[hO.o] at D W S;have HV:=zH D;have ab:=zH W;have aa:=zH Hu;have hJ:=zH (hI.o.trans S);clear D W Hu S;go_wp2_with fail;go_ret;exact⟨v,xs,o5,_,rfl,HV.o,ab.o,aa.o.le (by omega),hJ.o⟩
theorem hX6 {o:Tags} {rho:Nat→Rq} {b:Nat} {z:RB} {r:SRep} {be m:Nat} (w:World) (h:RepF w o rho b z r be m) :
  Calls Tryz.prog 215 #[.pointer (some ⟨z.tm,0,none⟩),.int .i64 r.now] w fun e w'=>e=.returned (.bool r.due)∧Below w.heap.size w w':=by
 have a:=h.tim.1;have c:=h.num.now;unfold SRep.due;cases hr:r.running
 ·rw[hr] at a;exact hY4 z.tm r.fails r.tend r.now w a
 ·rw[hr] at a;exact hXc z.tm r.fails r.tend r.now (by omega) _ rfl w a
theorem hHm:∀ (l:List SMsg) (r:SRep) (x:SMsg),r.tellAll (l++[x])=(r.tellAll l).tell x
 |[],r,x=>rfl
 |y::l,r,x=>by
  show(r.tell y).tellAll (l++[x])=((r.tell y).tellAll l).tell x;exact hHm l (r.tell y) x
theorem hCo:∀ (l:List SMsg) (r:SRep),∃ X,r.tellAll l={ r with o:=X }
 |[],r=>⟨r.o,rfl⟩
 |y::l,r=>by
  obtain⟨X,h⟩:=hCo l (r.tell y);exact⟨X,h⟩
theorem hOr {r r':SRep} (h:r.gives=some r'):r.due=true∧r.giveUp (r.log.v+1)=some r'∨r.due=false∧r'=r:=by
 unfold SRep.gives at h;split at h
 ·rename_i a;exact .inl ⟨a,h⟩
 ·rename_i a;injection h with h;exact .inr ⟨by simpa using a,h.symm⟩
theorem hV4 {o:Tags} {rho:Nat→Rq} {b:Nat} {z:RB} {r r2:SRep} {now:Nat} (hr:ROk rho) (hx:({ r with now:=now }:SRep).gives=some r2) (Hp:r2.id=r.id) (Ht:r2.now=now) (aI:now≤5000) (w:World) (h:RepF w o rho b z r r.log.e 935) :
  Calls Tryz.prog 210 #[.pointer (some ⟨b,0,none⟩),.int .i64 now] w fun e w'=>∃ v xs o' z',e=.returned v∧Row w' o' (tg r.id 11) 92 19 v r2.again.o.length xs∧Lst (PkV w' o') (r2.again.o.map (pkF rho r.id)) xs∧RepF w' o' rho b z' { r2.again with o:=[] } r2.log.e 400∧ChgR (r.id+1) o o' w w':=by
 have U:=hOr hx;have bi:=h.num.e;have x84:=h.c84;have f87:=h.fz 87;have x87:=h.c87;obtain⟨d,ae⟩:=h.set 87 (.int .i64 now) (z':=z) (r':={ r with now:=now }) rfl rfl { h.num with now:=aI } (fun p hp=>by rcases p with _|_|_|_|_|_|_|_|_|_|_|_|_|_|p<;>first | exact absurd (by decide) hp | rfl);have Hh:=zH d;have Hf:=zH ae;have hJ:=zH U;have ax:=zH Hp;have az:=zH Ht;clear h hx U d ae Hp Ht;go_enter Tryz.func210,Tryz.ntmps210;go_upto_region 4 with fail;generalize World.setCell _ _ _=w1 at Hh Hf ⊢;clear x84 f87 x87;obtain⟨r1,d⟩:=zN ({ r with now:=now }:SRep);have aN:=zH (show r1.id=r.id from by rw[d]);have aQ:=zH (show r1.now=now from by rw[d]);have M:=zH (show r1.due=true∧r1.giveUp (r1.log.v+1)=some r2∨r1.due=false∧r2=r1 from by rw[d];exact hJ.o);have N:=zH (show RepF w1 o rho b z r1 r1.log.e 935 from by rw[d];exact Hh.o);clear Hh hJ d;have hU:=zH (hDe w1 N.o);go_wp2_with fail;refine hU.o.mono ?_;rintro e w2 ⟨rfl,Hj⟩;have l:=zH (N.o.keep Hj);have E:=zH (Hf.o.trans (ChgR.below (k:=r.id+1) (o':=o) Hj (fun _ _=>rfl)));have x4:=l.o.c4;have Hl:=hX6 w2 l.o;rw[aQ.o] at Hl;have hO:=zH Hl;clear Hj hU N Hf Hl;go_wp2_with fail;refine hO.o.mono ?_;rintro e w3 ⟨rfl,Hk⟩;have y:=zH (l.o.keep Hk);have F:=zH (E.o.trans (ChgR.below (k:=r.id+1) (o':=o) Hk (fun _ _=>rfl)));clear Hk l E hO x4;obtain⟨dn,aj⟩:=zN (r1.due);rw[←aj] at M ⊢;have Q:=zH M.o;clear aj M;go_upto_if 28 with fail;go_cut [] from 7 (fun wx=>zI (∃ o2 z2,RepF wx o2 rho b z2 r2 r2.log.e 900∧ChgR (r.id+1) o o2 w wx))
 case first=>
  rcases Q.o with⟨rfl,q⟩ | ⟨rfl,rfl⟩
  ·have HG:=zH q;have Hy:=(hF7 q).2.2.1;have x0:=y.o.c0;have y0:=y.o.t0;have Hz:=hBc z.lb (tg r1.id 3) o z.ms rho r1.log w3 y.o.log;rw[Hy] at Hz;have aW:=zH (show Calls Tryz.prog 217 #[.pointer (some ⟨z.lb,0,none⟩)] w3 fun e w'=>e=.returned (.int .i64 0)∧w3=w' from Hz);rw[Hy] at q;have ak:=hQ1 (m:=900) hr q w3 y.o;have aM:=zH (show Calls Tryz.prog 216 #[.pointer (some ⟨b,0,none⟩),.int .i64 1] w3 fun e w'=>e=.returned (.tuple #[])∧∃ o' z',RepF w' o' rho b z' r2 r2.log.e 900∧ChgR (r1.id+1) o o' w3 w' from ak);clear Hz ak Hy q Q;go_wp2_with fail;refine aW.o.mono ?_;rintro e wx ⟨rfl,rfl⟩;go_wp2_with fail;refine aM.o.mono ?_;rintro e w4 ⟨rfl,o4,z4,ap,ai⟩;have i:=zH (show ∃ o2 z2,RepF w4 o2 rho b z2 r2 r2.log.e 900∧ChgR (r.id+1) o o2 w w4 from⟨o4,z4,ap,F.o.trans (by have h:=ai;rw[aN.o] at h;exact h)⟩);clear ap ai;go_wp2_with fail;go_meet
   case rel=>exact i
  ·have i:=zH (show ∃ o2 z2,RepF w3 o2 rho b z2 r2 r2.log.e 900∧ChgR (r.id+1) o o2 w w3 from⟨o,z,y.o.le (by omega),F.o⟩);clear Q;go_wp2_with fail;go_meet
   case rel=>exact i
 case rest=>
  obtain⟨o2,z2,J,ag⟩:=hcut.o;have l:=zH J;have E:=zH ag;obtain⟨n,hn⟩:=zN (r2.says.length);have b6:=J.num.says;have ab:=J.c77;rw[←hn] at b6 ab;obtain⟨xs0,Y,_⟩:=J.says';have aL:zI (n≠0→∃ g,z2.S=some ⟨g,0,none⟩):=zH (fun bj=>by
   rcases Y.1.2 with⟨t,_⟩ | ⟨g,cap,cur,a,_⟩
   ·injection t with q1 q2 q3;omega
   ·injection a with q1 q2 q3;exact⟨g,q1⟩)
  have HN:=zH hn;have Hg:=zH (show r2.id=r.id from ax.o);clear hcut J ag y F Q hn Y;have D:zI (r2.again=if now % 4=0 then(r2.tellAll r2.says).tell ⟨9,r2.log.e,0,0,[]⟩ else r2):=zH (by unfold SRep.again;rw[az.o]);go_upto_if 42 with fail;go_cut [] from 7 (fun wx=>zI (∃ o3 z3,RepF wx o3 rho b z3 r2.again r2.log.e 400∧ChgR (r.id+1) o o3 w wx))
  case first=>
   by_cases hz:now % 4=0
   ·have L:(((now:Int) % 4 == 0):Bool)=true:=by simp only[beq_iff_eq];omega
    rw[L];rw[if_pos hz] at D;have q0:(n:Int)≤100:=by omega
    clear hz L;go_wp2_with fail;go_loopw [48] (fun j wr=>∃ k:Nat,k≤n∧j=.int .i64 k∧zI (∃ ok zk,RepF wr ok rho b zk (r2.tellAll (r2.says.take k)) r2.log.e (900 - 4*k)∧ChgR (r.id+1) o ok w wr∧zk.S=z2.S∧zk.sc=z2.sc)) (fun j _=>n - (intOf j).toNat)
    case atStart=>exact⟨0,by omega,rfl,zH ⟨o2,z2,l.o,E.o,rfl,rfl⟩⟩
    case round=>
     obtain⟨k,hk,rfl,Hw⟩:=hrel;obtain⟨ok,zk,B,V,Ha,Hb⟩:=Hw.o;by_cases hkn:k<n
     ·have q1:(k:Int)<(n:Int):=by omega
      have q2:(k:Int)<5000:=by omega
      obtain⟨g,q⟩:=aL.o (by omega);obtain⟨X,s⟩:=hCo (r2.says.take k) r2;have an:k<r2.says.length:=by rw[←HN.o];exact hkn
      obtain⟨xs,Hu,Hq⟩:=B.says';have W:Row wr ok (tg r2.id 9) 48 17 (.slice (some ⟨g,0,none⟩) n z2.sc) n xs:=by
       have h:=Hu;rw[s,Ha,Hb,q] at h;rw[HN.o];exact h
      have Hr:Lst (MsgV wr ok) (r2.says.map (SMsg.fm rho)) xs:=by rw[s] at Hq;exact Hq
      obtain⟨u,⟨zz,O,T⟩,Hm⟩:=Lst.get 17 (fun _ _ h=>MsgV.len h) Hr k (by rw[List.length_map];exact an);rw[List.getElem_map] at O T;obtain⟨x,hx⟩:=zN (r2.says[k]);rw[←hx] at O T;have K:wr.rangeAt g (k*17) u:=fun j v t=>by
       have hj:j<17:=by have h:=(List.getElem?_eq_some_iff.1 t).1;rw[O] at h;exact h
       have h:=World.ownsRow.cells W.1 (g:=g) rfl (k*17+j) v (by rw[Hm j hj];exact t);unfold Addr.add at h;rw[Nat.zero_add] at h;split at h
       ·rename_i e0;rw[e0];exact h
       ·exact h
      have Z:u.length=17:=by rw[O];rfl
      have au:∀ v∈u,v.oneCell'=true:=by rw[O];exact FM.one _ zz
      have R:=(Below.refl wr.heap.size wr).alloc (Nat.le_refl _) (.cells u.toArray 48);have aU:=zH K;have aB:=zH (all_oneCell_toArray au);have aa:zI ((Tryz.prog.info? 48).map (·.size)=some u.length):=zH (by rw[Z];kernel_rfl);have aD:zI ((Tryz.prog.info? 48).map (·.size)=some u.toArray.size):=zH (by rw[List.size_toArray,Z];kernel_rfl);have aV:zI (u.toArray.size=17):=zH (by simpa using Z);have aS:zI ((wr.alloc (.cells u.toArray 48)).rangeAt wr.heap.size 0 u):=zH (fun j v t=>by
       rw[zR _ _ (0+j) _ _ _ (heap_alloc_new wr (.cells u.toArray 48)),Nat.zero_add];simpa using t)
      have H:=zH ((B.keep R).le (show(900 - 4*(k+1))+4≤900 - 4*k by omega));have G:=zH (V.trans (ChgR.below (k:=r.id+1) (o':=ok) R (fun _ _=>rfl)));have hI:=zH (T.fix (P:=fun _=>True) (Fix.same (o:=ok) R) trivial);have HU:=zH O;have aP:=zH an;have HX:=zH s;have aY:=zH hx;have HZ:=zH (And.intro Ha Hb);have aK:=zH q;rw[q] at ab;rw[q];clear Hw B V Ha Hb q s Hu Hq W Hr O T Hm K Z au R hx;go_wp2_with (first
       |refine wpList_load_mid rfl 48 (.tmp 50) rfl g (k*17) (by rfl) u _ aU.o Tryz.underlying48 rfl aa.o ?_
       |(refine wpList_store_row rfl 48 (.tmp 6) (.tmp 51) rfl wr.heap.size u.toArray (by rfl) (by rfl) 48 _ (heap_alloc_new wr _) aD.o (by rw[aV.o];rfl) aB.o ?_;rw[World.setRow_alloc_new])
       |refine wpList_load_mid rfl 48 (.tmp 6) rfl wr.heap.size 0 (by rfl) u _ aS.o Tryz.underlying48 rfl aa.o ?_)
      have Hx:=hKk x zz _ H.o hI.o;have av:u.toArray=(x.fm rho).cells zz:=by rw[HU.o]
      rw[←av] at Hx;have I:=zH Hx;clear Hx;refine I.o.mono ?_;rintro e w5 ⟨rfl,o5,z5,f,c,_,_,aq,ar⟩;have aR:=zH (show ∃ ok' zk',RepF w5 ok' rho b zk' (r2.tellAll (r2.says.take (k+1))) r2.log.e (900 - 4*(k+1))∧ChgR (r.id+1) o ok' w w5∧zk'.S=z2.S∧zk'.sc=z2.sc from⟨o5,z5,by
       rw[List.take_succ_eq_append_getElem aP.o,hHm,←aY.o];exact f,G.o.trans (by have h:=c;rw[HX.o] at h;have h':ChgR (r2.id+1) ok o5 _ w5:=h;rw[Hg.o] at h';exact h'),aq.trans HZ.o.1,ar.trans HZ.o.2⟩)
      clear f c aq ar av I hI H G;go_wp2_with fail;exact⟨⟨k+1,by omega,rfl,by rw[←aK.o];exact aR⟩,by simp only[intOf];omega⟩
     ·have q1:¬ (k:Int)<(n:Int):=by omega
      have aG:k=n:=by omega
      have aF:=HN.o ▸ aG;obtain⟨X,s⟩:=hCo r2.says r2;rw[aF,List.take_length] at B;have HX:=zH s;have C:RepF wr ok rho b zk (r2.tellAll r2.says) r2.log.e 404:=B.le (by omega);have H:=zH (show RepF wr ok rho b zk (r2.tellAll r2.says) r2.log.e (400+4) from C);have x0:=C.c0;have y3:=C.t3;rw[s] at y3;have G:=zH V;have I:=zH (hWa (m:=400) (be:=r2.log.e) (⟨9,r2.log.e,0,0,[]⟩:SMsg) ⟨none,0,none,0,none,0,none,0⟩ _ H.o ⟨⟨rfl,rfl⟩,SlD.nil _ _ _,SlD.nil _ _ _,⟨rfl,rfl⟩⟩);clear Hw B C V Ha Hb s;go_wp2_with fail;refine I.o.mono ?_;rintro e w5 ⟨rfl,o5,z5,f,c⟩;have i:=zH (show ∃ o3 z3,RepF w5 o3 rho b z3 r2.again r2.log.e 400∧ChgR (r.id+1) o o3 w w5 from⟨o5,z5,by rw[D.o];exact f,G.o.trans (by have h:=c;rw[HX.o] at h;have h':ChgR (r2.id+1) ok o5 _ w5:=h;rw[Hg.o] at h';exact h')⟩);clear f c I H G;go_wp2_with fail;go_meet
      case rel=>exact i
   ·have L:(((now:Int) % 4 == 0):Bool)=false:=by rw[Bool.eq_false_iff];simp only[ne_eq,beq_iff_eq];omega
    rw[L];rw[if_neg hz] at D;have i:=zH (show ∃ o3 z3,RepF wc o3 rho b z3 r2.again r2.log.e 400∧ChgR (r.id+1) o o3 w wc from⟨o2,z2,by rw[D.o];exact l.o.le (by omega),E.o⟩);clear hz L;go_wp2_with fail;go_meet
    case rel=>exact i
  case rest=>
   obtain⟨o3,z3,ao,ah⟩:=hcut.o;have am:r2.again.id=r.id:=by
    rw[←Hg.o];rw[D.o];split
    ·obtain⟨X,s⟩:=hCo r2.says r2;rw[s];rfl
    ·rfl
   have aw:=zH (hI5 _ ao);have F:=zH ah;have aO:=zH am;clear ao ah hcut am;go_wp2_with fail;refine aw.o.mono ?_;rintro e w5 ⟨v,xs,rfl,t,HJ,f,c⟩;rw[aO.o] at t HJ c;have HV:=zH t;have aX:=zH HJ;have aT:=zH f;have aJ:=zH (F.o.trans c);clear t HJ f c;go_wp2_with fail;go_ret;exact⟨v,xs,o3,_,rfl,HV.o,aX.o,aT.o,aJ.o⟩
theorem hD1 {w w':World} (o:Tags) (i b kb:Nat) (rho:Nat→Rq) (A1:Option Addr) (c1:Nat) (A2:Option Addr) (c2:Nat) (g:w'.heap[b]?=some (.cells (ledX 0 (.slice A1 4 c1) (.slice A2 4 c2) 0 kb) 168 (0,0))) (h:w'.heap[kb]?=some (.map #[] 0))
  (c:Mem w' A1 c1) (d:Mem w' A2 c2) (e:∀ ad,A1=some ad→ad.block≠kb∧ad.block≠b∧w.heap.size≤ad.block) (f:∀ ad,A2=some ad→ad.block≠kb∧ad.block≠b∧w.heap.size≤ad.block) (l2:w.heap.size≤kb) (l3:w.heap.size≤b) (a:Below w.heap.size w w') :
  ∃ b' kb' o',Ending.returned (.tuple #[.pointer (some ⟨b,0,none⟩),.int .i64 0])=.returned (.tuple #[.pointer (some ⟨b',0,none⟩),.int .i64 0])∧LedAt w' o' i b' kb' rho 0 0∧(∀ x,x<w.heap.size→o' x=o x)∧w.heap.size≤b'∧Below w.heap.size w w':=by
 refine⟨b,kb,fun x=>if x<w.heap.size then o x else if x=b∨x=kb then i else 0,rfl,⟨⟨A1,c1,A2,c2,⟨g,?_⟩,⟨c,fun ad ea=>?_⟩,⟨d,fun ad ea=>?_⟩⟩,⟨[],MpK.empty h,List.Perm.refl _⟩,?_⟩,fun x j=>if_pos j,l3,a⟩
 ·show(if b<w.heap.size then _ else _)=i;rw[if_neg (by omega),if_pos (.inl rfl)]
 ·obtain⟨g1,g2,g3⟩:=e ad ea;show(if ad.block<w.heap.size then _ else _)=0;rw[if_neg (by omega),if_neg (by omega)]
 ·obtain⟨g1,g2,g3⟩:=f ad ea;show(if ad.block<w.heap.size then _ else _)=0;rw[if_neg (by omega),if_neg (by omega)]
 ·show(if kb<w.heap.size then _ else _)=i;rw[if_neg (by omega),if_pos (.inr rfl)]
theorem hXo (i:Nat) (o:Tags) (rho:Nat→Rq) (A:Option Addr) (c:Nat) (w:World) (I:Mem w A c) :
  Calls Tryz.prog 47 #[.agg #[.int .i64 0,.slice A 4 c]] w fun r w'=>∃ b kb o',r=.returned (.tuple #[.pointer (some ⟨b,0,none⟩),.int .i64 0])∧LedAt w' o' i b kb rho 0 0∧(∀ x,x<w.heap.size→o' x=o x)∧w.heap.size≤b∧Below w.heap.size w w':=by
 have R:=@run_makeMap Tryz.prog;have y:Below w.heap.size w (w.alloc (.cells #[.int .i64 0,.slice A 4 c] 31)):=(Below.refl _ _).alloc (Nat.le_refl _) _;have F:=zH y;have u:=zH (heap_alloc_new w (.cells #[.int .i64 0,.slice A 4 c] 31));have C:w.heap.size<(w.alloc (.cells #[.int .i64 0,.slice A 4 c] 31)).heap.size:=by simp
 have B:=zH (I.keep y);have M:=fun w h=>zH (right4 0 (by omega) A c w h);have D:=fun w h=>zH (clone4 A c w h);have G:=fun w h=>zH (clone4 A c w h);clear y I;go_enter Tryz.func47,Tryz.ntmps47;go_wp2_with fail;generalize w.alloc _=w0 at F u B C ⊢;have l0:=zR w0 w.heap.size 0 _ _ _ u.o;have l1:=zR w0 w.heap.size 1 _ _ _ u.o;simp at l0 l1;go_wp2_with fail;refine(M w0 B.o).o.mono ?_;rintro r w1 ⟨rfl,z⟩;have l:=zH (zB F.o z);have v:=(z.block _ C).trans u.o;have E:=zH (B.o.keep z);have L:w.heap.size<w1.heap.size:=Nat.lt_of_lt_of_le C z.size;clear l0 l1 F u B C z;have l0:=zR w1 w.heap.size 0 _ _ _ v;have l1:=zR w1 w.heap.size 1 _ _ _ v;simp at l0 l1;clear v;have Q:=fun(W:World) (h:Below w1.heap.size w1 W)=>(h.cell (p:=⟨w.heap.size,1,none⟩) L).trans l1;go_wp2_with fail;clear l0 l1;have N:Below w1.heap.size w1 w1.drew:=⟨rfl,rfl,rfl,Nat.le_refl _,fun _ _=>rfl⟩
 go_region_held (fun W=>Below w1.heap.size w1 W) (first | assumption | exact Below.alloc (by assumption) (Below.size (by assumption)) _ | exact Below.trans (by assumption) (Below.mono (by assumption) (Below.size (by assumption)))) (first
  |(go_simp;go_at_call 43;refine(D _ (Mem.keep E.o (by assumption))).o.mono ?_;rintro r w2 ⟨A2,C2,rfl,j,t⟩;clear D;have H:Below w1.heap.size w1 w2:=Below.trans (by assumption) (Below.mono t (Below.size (by assumption))))
  |(go_simp;go_at_call 43;refine(G _ (Mem.keep E.o (by assumption))).o.mono ?_;rintro r w3 ⟨A3,C3,rfl,k,a⟩;have q:Below w1.heap.size w1 w3:=Below.trans (by assumption) (Below.mono a (Below.size (by assumption)))))
 all_goals
  have f:=j.lt;have d:=j.2;have g:=k.lt;have e:=k.2;have J:=t.size;have K:=a.size;have s:=l.o.size;have O:=H.size;have P:=q.size;simp at d e J K;go_wp2_with fail;go_ret2;first
   |(exact hD1 (w':=((w3.alloc (.map #[] 0)).alloc (.cells (ledX 0 (.slice A2 4 C2) (.slice A3 4 C3) 0 w3.heap.size) 168))) o i (w3.heap.size+1) w3.heap.size rho A2 C2 A3 C3 (hAn (w3.alloc (.map #[] 0)) (.cells (ledX 0 (.slice A2 4 C2) (.slice A3 4 C3) 0 w3.heap.size) 168) _ (by simp)) (hAr (w3.alloc (.map #[] 0)) (.cells (ledX 0 (.slice A2 4 C2) (.slice A3 4 C3) 0 w3.heap.size) 168) _ _ (hAn w3 (.map #[] 0) _ rfl)) ((j.1.keep (a)).keep (((Below.refl w3.heap.size w3).alloc (Nat.le_refl _) (.map #[] 0)).alloc (by simp) (.cells (ledX 0 (.slice A2 4 C2) (.slice A3 4 C3) 0 w3.heap.size) 168))) (k.1.keep (((Below.refl w3.heap.size w3).alloc (Nat.le_refl _) (.map #[] 0)).alloc (by simp) (.cells (ledX 0 (.slice A2 4 C2) (.slice A3 4 C3) 0 w3.heap.size) 168))) (fun ad ea=>by have m:=d ad ea;have n:=f ad ea;refine⟨?_,?_,?_⟩<;>omega) (fun ad ea=>by have m:=e ad ea;have n:=g ad ea;refine⟨?_,?_,?_⟩<;>omega) (by omega) (by omega) (l.o.trans ((q.mono s).trans ((((Below.refl w3.heap.size w3).alloc (Nat.le_refl _) (.map #[] 0)).alloc (by simp) (.cells (ledX 0 (.slice A2 4 C2) (.slice A3 4 C3) 0 w3.heap.size) 168)).mono (by omega)))))
   |(exact hD1 (w':=((w3.alloc (.map #[] 0)).alloc (.cells (ledX 0 (.slice A3 4 C3) (.slice A2 4 C2) 0 w3.heap.size) 168))) o i (w3.heap.size+1) w3.heap.size rho A3 C3 A2 C2 (hAn (w3.alloc (.map #[] 0)) (.cells (ledX 0 (.slice A3 4 C3) (.slice A2 4 C2) 0 w3.heap.size) 168) _ (by simp)) (hAr (w3.alloc (.map #[] 0)) (.cells (ledX 0 (.slice A3 4 C3) (.slice A2 4 C2) 0 w3.heap.size) 168) _ _ (hAn w3 (.map #[] 0) _ rfl)) (k.1.keep (((Below.refl w3.heap.size w3).alloc (Nat.le_refl _) (.map #[] 0)).alloc (by simp) (.cells (ledX 0 (.slice A3 4 C3) (.slice A2 4 C2) 0 w3.heap.size) 168))) ((j.1.keep (a)).keep (((Below.refl w3.heap.size w3).alloc (Nat.le_refl _) (.map #[] 0)).alloc (by simp) (.cells (ledX 0 (.slice A3 4 C3) (.slice A2 4 C2) 0 w3.heap.size) 168))) (fun ad ea=>by have m:=e ad ea;have n:=g ad ea;refine⟨?_,?_,?_⟩<;>omega) (fun ad ea=>by have m:=d ad ea;have n:=f ad ea;refine⟨?_,?_,?_⟩<;>omega) (by omega) (by omega) (l.o.trans ((q.mono s).trans ((((Below.refl w3.heap.size w3).alloc (Nat.le_refl _) (.map #[] 0)).alloc (by simp) (.cells (ledX 0 (.slice A3 4 C3) (.slice A2 4 C2) 0 w3.heap.size) 168)).mono (by omega)))))
   |(exact hD1 (w':=(w3.alloc (.cells (ledX 0 (.slice A2 4 C2) (.slice A3 4 C3) 0 w2.heap.size) 168))) o i w3.heap.size w2.heap.size rho A2 C2 A3 C3 (hAn w3 (.cells (ledX 0 (.slice A2 4 C2) (.slice A3 4 C3) 0 w2.heap.size) 168) _ rfl) (hAr w3 (.cells (ledX 0 (.slice A2 4 C2) (.slice A3 4 C3) 0 w2.heap.size) 168) _ _ ((a.block w2.heap.size (by simp)).trans (hAn w2 (.map #[] 0) _ rfl))) ((j.1.keep (((Below.refl w2.heap.size w2).alloc (Nat.le_refl _) (.map #[] 0)).trans (a.mono (by simp)))).keep ((Below.refl w3.heap.size w3).alloc (Nat.le_refl _) (.cells (ledX 0 (.slice A2 4 C2) (.slice A3 4 C3) 0 w2.heap.size) 168))) (k.1.keep ((Below.refl w3.heap.size w3).alloc (Nat.le_refl _) (.cells (ledX 0 (.slice A2 4 C2) (.slice A3 4 C3) 0 w2.heap.size) 168))) (fun ad ea=>by have m:=d ad ea;have n:=f ad ea;refine⟨?_,?_,?_⟩<;>omega) (fun ad ea=>by have m:=e ad ea;have n:=g ad ea;refine⟨?_,?_,?_⟩<;>omega) (by omega) (by omega) (l.o.trans ((q.mono s).trans (((Below.refl w3.heap.size w3).alloc (Nat.le_refl _) (.cells (ledX 0 (.slice A2 4 C2) (.slice A3 4 C3) 0 w2.heap.size) 168)).mono (by omega)))))
   |(exact hD1 (w':=(w3.alloc (.cells (ledX 0 (.slice A3 4 C3) (.slice A2 4 C2) 0 w2.heap.size) 168))) o i w3.heap.size w2.heap.size rho A3 C3 A2 C2 (hAn w3 (.cells (ledX 0 (.slice A3 4 C3) (.slice A2 4 C2) 0 w2.heap.size) 168) _ rfl) (hAr w3 (.cells (ledX 0 (.slice A3 4 C3) (.slice A2 4 C2) 0 w2.heap.size) 168) _ _ ((a.block w2.heap.size (by simp)).trans (hAn w2 (.map #[] 0) _ rfl))) (k.1.keep ((Below.refl w3.heap.size w3).alloc (Nat.le_refl _) (.cells (ledX 0 (.slice A3 4 C3) (.slice A2 4 C2) 0 w2.heap.size) 168))) ((j.1.keep (((Below.refl w2.heap.size w2).alloc (Nat.le_refl _) (.map #[] 0)).trans (a.mono (by simp)))).keep ((Below.refl w3.heap.size w3).alloc (Nat.le_refl _) (.cells (ledX 0 (.slice A3 4 C3) (.slice A2 4 C2) 0 w2.heap.size) 168))) (fun ad ea=>by have m:=e ad ea;have n:=g ad ea;refine⟨?_,?_,?_⟩<;>omega) (fun ad ea=>by have m:=d ad ea;have n:=f ad ea;refine⟨?_,?_,?_⟩<;>omega) (by omega) (by omega) (l.o.trans ((q.mono s).trans (((Below.refl w3.heap.size w3).alloc (Nat.le_refl _) (.cells (ledX 0 (.slice A3 4 C3) (.slice A2 4 C2) 0 w2.heap.size) 168)).mono (by omega)))))
   |(exact hD1 (w':=(w3.alloc (.cells (ledX 0 (.slice A2 4 C2) (.slice A3 4 C3) 0 w1.heap.size) 168))) o i w3.heap.size w1.heap.size rho A2 C2 A3 C3 (hAn w3 (.cells (ledX 0 (.slice A2 4 C2) (.slice A3 4 C3) 0 w1.heap.size) 168) _ rfl) (hAr w3 (.cells (ledX 0 (.slice A2 4 C2) (.slice A3 4 C3) 0 w1.heap.size) 168) _ _ ((a.block w1.heap.size (by omega)).trans ((t.block w1.heap.size (by simp)).trans (hAn w1 (.map #[] 0) _ rfl)))) ((j.1.keep (a)).keep ((Below.refl w3.heap.size w3).alloc (Nat.le_refl _) (.cells (ledX 0 (.slice A2 4 C2) (.slice A3 4 C3) 0 w1.heap.size) 168))) (k.1.keep ((Below.refl w3.heap.size w3).alloc (Nat.le_refl _) (.cells (ledX 0 (.slice A2 4 C2) (.slice A3 4 C3) 0 w1.heap.size) 168))) (fun ad ea=>by have m:=d ad ea;have n:=f ad ea;refine⟨?_,?_,?_⟩<;>omega) (fun ad ea=>by have m:=e ad ea;have n:=g ad ea;refine⟨?_,?_,?_⟩<;>omega) (by omega) (by omega) (l.o.trans ((q.mono s).trans (((Below.refl w3.heap.size w3).alloc (Nat.le_refl _) (.cells (ledX 0 (.slice A2 4 C2) (.slice A3 4 C3) 0 w1.heap.size) 168)).mono (by omega)))))
   |(exact hD1 (w':=(w3.alloc (.cells (ledX 0 (.slice A3 4 C3) (.slice A2 4 C2) 0 w1.heap.size) 168))) o i w3.heap.size w1.heap.size rho A3 C3 A2 C2 (hAn w3 (.cells (ledX 0 (.slice A3 4 C3) (.slice A2 4 C2) 0 w1.heap.size) 168) _ rfl) (hAr w3 (.cells (ledX 0 (.slice A3 4 C3) (.slice A2 4 C2) 0 w1.heap.size) 168) _ _ ((a.block w1.heap.size (by omega)).trans ((t.block w1.heap.size (by simp)).trans (hAn w1 (.map #[] 0) _ rfl)))) (k.1.keep ((Below.refl w3.heap.size w3).alloc (Nat.le_refl _) (.cells (ledX 0 (.slice A3 4 C3) (.slice A2 4 C2) 0 w1.heap.size) 168))) ((j.1.keep (a)).keep ((Below.refl w3.heap.size w3).alloc (Nat.le_refl _) (.cells (ledX 0 (.slice A3 4 C3) (.slice A2 4 C2) 0 w1.heap.size) 168))) (fun ad ea=>by have m:=e ad ea;have n:=g ad ea;refine⟨?_,?_,?_⟩<;>omega) (fun ad ea=>by have m:=d ad ea;have n:=f ad ea;refine⟨?_,?_,?_⟩<;>omega) (by omega) (by omega) (l.o.trans ((q.mono s).trans (((Below.refl w3.heap.size w3).alloc (Nat.le_refl _) (.cells (ledX 0 (.slice A3 4 C3) (.slice A2 4 C2) 0 w1.heap.size) 168)).mono (by omega)))))
theorem hZ5 (id:Nat):(SRep.new id).renew 0=SRep.new id:=rfl
theorem hXw (id:Nat) (a:id<4):Num (SRep.new id) 900:=
 ⟨a,Nat.zero_le _,Nat.zero_le _,Nat.zero_le _,by simp[SRep.new],by simp[SRep.new],by simp[SRep.new],by simp[SRep.new],Nat.le_refl _,show 1≤9 by omega,Nat.zero_le _,Nat.zero_le _,Nat.zero_le _,show 0+900≤1000 by omega,show 0+900≤3000 by omega,show 0+900≤1000 by omega,by simp[SRep.new],show 64≤64 by omega,Nat.zero_le _⟩
theorem hX7 {rho:Nat→Rq} (id:Nat) (W:id<4) (o:Tags) (A:Option Addr) (c:Nat) (w:World) (hm:Mem w A c) (s:∀ x,x<w.heap.size→o x / 16≠id+1) :
  Calls Tryz.prog 22 #[.int .i64 id,.agg #[.int .i64 0,.slice A 4 c]] w fun e w'=>∃ b z o',e=.returned (.tuple #[.pointer (some ⟨b,0,none⟩),.int .i64 0])∧RepF w' o' rho b z (SRep.new id) 0 0∧(∀ x,x<w.heap.size→o' x=o x)∧w.heap.size≤b∧Below w.heap.size w w':=by
 have E:=(Below.refl w.heap.size w).alloc (Nat.le_refl _) (.cells #[.int .i64 0,.slice A 4 c] 31);have l:=zH E;have i:=zH (heap_alloc_new w (.cells #[.int .i64 0,.slice A 4 c] 31));have I:=zH (hm.keep E);have q0:(0:Int)≤(id:Int):=by omega
 have q1:(id:Int)<16:=by omega
 have Hg:=zH s;have Hh:=zH W;have D:=zH (hUp (tg id 7) A c o _ I.o);have c0:=(zR _ w.heap.size 0 _ _ _ i.o).trans (show _=some (Value.int .i64 0) from rfl);have c1:=(zR _ w.heap.size 1 _ _ _ i.o).trans (show _=some (Value.slice A 4 c) from rfl);clear E hm s W;go_enter Tryz.func22,Tryz.ntmps22;go_wp2_with fail;obtain⟨g,hg⟩:=zN (w.heap.size);rw[←hg] at i c0 c1 ⊢;have HG:=zH hg;clear hg;generalize w.alloc _=w1 at l i I D c0 c1 ⊢;refine D.o.mono ?_;rintro e w2 ⟨T,o2,rfl,Hb,q,Hq,Y⟩;have v:=zH (zB l.o q);have O:zI (∀ x,x<w.heap.size→o2 x=o x):=zH (fun x a=>Y x (Nat.lt_of_lt_of_le a l.o.size));have S:=zH Hb;have N:=zH (I.o.keep q);have B:=zH ((q.block g (zL i.o)).trans i.o);have M:=zH (hXo (tg id 6) o2 rho A c w2 N.o);clear c0 c1 Hb q Hq Y D I l i;have c0:=zQ _ g 0 (.int .i64 0) B.o;have c1:=zQ _ g 1 (.slice A 4 c) B.o;go_wp2_with fail;refine M.o.mono ?_;rintro e w3 ⟨bk,kb,o3,rfl,X,H,Hc,F⟩;have L:=zH (zB v.o F);have Hk:zI (∀ x,x<w.heap.size→o3 x=o x):=zH (fun x a=>(H x (Nat.lt_of_lt_of_le a v.o.size)).trans (O.o x a));have Hm:=zH (S.o.fix (P:=fun _=>True) (Fix.below F H) trivial trivial);have Hi:=zH X;clear c0 c1 X H Hc F M N B v O S;go_wp2_with fail;refine(hZq _).mono ?_;rintro e w4 ⟨rfl,rfl⟩;obtain⟨n,f⟩:=zN (w3.heap.size);have Hu:=zH f;rw[←f];go_wp2_with fail;rw[show w3.heap.size=n from f.symm];obtain⟨a1,a2,a3,a4⟩:=hAp w3 (.cells #[.int .i64 0,.bool false,.int .i64 0] 178) (.cells (((((Tryz.zeroCells125.setIfInBounds 1 (.int .i64 id)).setIfInBounds 2 (.pointer (some ⟨bk,0,none⟩))).setIfInBounds 3 (.pointer (some ⟨T,0,none⟩))).setIfInBounds 4 (.pointer (some ⟨n,0,none⟩))).setIfInBounds 83 (.int .i64 64)) 125);rw[←f] at a1 a2 a3 a4;have J:=zH a1;have K:=zH a2;have u:=zH a4;have C:zI (w.heap.size≤n):=zH (by rw[f];exact L.o.size);generalize World.alloc _ _=w5 at J K u ⊢;have U:Below w.heap.size w w5:=L.o.trans (u.o.mono C.o);have t:∀ x,x<n→((o3.ext n (tg id 8)).ext (n+1) (tg id 1)) x=o3 x:=fun x a=>(Tags.ext_old _ _ _ _ (by omega)).trans (Tags.ext_old _ _ _ _ a);have on8:((o3.ext n (tg id 8)).ext (n+1) (tg id 1)) n=tg id 8:=(Tags.ext_old _ _ _ _ (by omega)).trans (Tags.ext_new _ _ _ _ (Nat.le_refl _));have on1:((o3.ext n (tg id 8)).ext (n+1) (tg id 1)) (n+1)=tg id 1:=Tags.ext_new _ _ _ _ (Nat.le_refl _);generalize (o3.ext n (tg id 8)).ext (n+1) (tg id 1)=o5 at t on8 on1;have G:Below w3.heap.size w3 w5:=by rw[←f];exact u.o
 have j:∀ x,x<w3.heap.size→o5 x=o3 x:=by rw[←f];exact t
 have Hj:=zH (Hi.o.fix (P:=fun _=>True) (Fix.below G j) trivial trivial);have Hp:=zH (Hm.o.fix (P:=fun _=>True) (Fix.below G j) trivial trivial);have Ha:=hKh (rho:=rho) (b:=n+1) (z:=⟨0,0,fun _=>0,0,0,0,0,none,0,bk,kb,T,n,none,0,none,0,none,0,none,0,none,0,none,0⟩) (r:=SRep.new id) (be:=0) (m:=900) (by omega) (hXw id Hh.o) (.pointer none) (.slice none 0 0) w5 (o:=o5) ⟨K.o.trans (by kernel_rfl),on1⟩ (fun p k=>by
  rcases p with _ | _ | _ | _ | _ | _ | _ | _ | _ | _ | _ | _ | _ | p
  ·trivial
  ·exact absurd (by decide) k
  ·exact absurd (by decide) k
  ·exact absurd (by decide) k
  ·exact absurd (by decide) k
  ·exact absurd (by decide) k
  ·exact Hj.o
  ·exact Hp.o
  ·exact⟨J.o,on8⟩
  ·exact absurd (by decide) k
  ·exact⟨[],Row.nil _ _ _ _ _⟩
  ·exact⟨[],Row.nil _ _ _ _ _,rfl⟩
  ·exact⟨fun _=>⟨rfl,rfl,rfl,rfl,rfl,rfl⟩,fun bys h=>by cases h⟩
  ·rcases p with _ | p
   ·exact absurd (by decide) k
   ·trivial)
 have R:=zH Ha;have y:=zH U;have Q:zI (∀ x,x<w.heap.size→o5 x=o x):=zH (fun x a=>(t x (Nat.lt_of_lt_of_le a C.o)).trans (Hk.o x a));clear Ha U t on8 on1 G j a1 a2 a3 a4 f;refine R.o.mono ?_;rintro e w6 ⟨rfl,o6,z6,Z,V,_⟩;have Hl:=zH Z;have d:=zH V;clear Z V R;go_wp2_with fail;go_ret2;refine⟨n+1,z6,o6,rfl,Hl.o.le (by omega),fun x a=>?_,by have:=C.o;omega,?_⟩
 ·have Ht:=Nat.lt_of_lt_of_le a y.o.size;exact(d.o.tags x Ht).trans (Q.o x a)
 ·refine y.o.trans ⟨d.o.os,d.o.tape,d.o.output,d.o.size,fun x a=>d.o.block x (Nat.lt_of_lt_of_le a y.o.size) ?_⟩;rw[Q.o x a];exact Hg.o x a
structure ChgW (o o':Tags) (w w':World):Prop where
 os:w'.os=w.os
 tape:w'.tape=w.tape
 output:w'.output=w.output
 size:w.heap.size≤w'.heap.size
 tags:∀ b,b<w.heap.size→o' b=o b
 block:∀ b,b<w.heap.size→o b<16→w'.heap[b]?=w.heap[b]?
theorem ChgW.refl (o:Tags) (w:World):ChgW o o w w:=⟨rfl,rfl,rfl,Nat.le_refl _,fun _ _=>rfl,fun _ _ _=>rfl⟩
theorem ChgW.trans {o o1 o2:Tags} {w w1 w2:World} (h:ChgW o o1 w w1) (k:ChgW o1 o2 w1 w2):ChgW o o2 w w2:=
 ⟨k.os.trans h.os,k.tape.trans h.tape,k.output.trans h.output,Nat.le_trans h.size k.size,fun b a=>(k.tags b (Nat.lt_of_lt_of_le a h.size)).trans (h.tags b a),fun b a c=>(k.block b (Nat.lt_of_lt_of_le a h.size) (by rw[h.tags b a];exact c)).trans (h.block b a c)⟩
theorem ChgW.of_r {k:Nat} {o o':Tags} {w w':World} (h:ChgR k o o' w w') (c:k≠0):ChgW o o' w w':=
 ⟨h.os,h.tape,h.output,h.size,h.tags,fun b a d=>h.block b a (by omega)⟩
theorem ChgW.of_chg {i:Nat} {o o':Tags} {w w':World} (h:Chg i o o' w w') (hi:16≤i):ChgW o o' w w':=
 ⟨h.os,h.tape,h.output,h.size,h.tags,fun b a c=>h.block b a (by omega)⟩
theorem ChgW.below {o o':Tags} {w w':World} (h:Below w.heap.size w w') (c:∀ b,b<w.heap.size→o' b=o b):ChgW o o' w w':=
 ⟨h.os,h.tape,h.output,h.size,c,fun b a _=>h.block b a⟩
theorem ChgW.fix {o o':Tags} {w w':World} (h:ChgW o o' w w'):Fix (· < 16) o o' w w':=⟨h.size,fun b a c=>⟨h.tags b a,h.block b a c⟩⟩
theorem RepF.fix16 {P:Nat→Prop} {o o':Tags} {w w':World} {rho:Nat→Rq} {b:Nat} {z:RB} {r:SRep} {be m:Nat} (h:RepF w o rho b z r be m) (f:Fix P o o' w w') (a:P 0) (c:∀ p,p<16→P (tg r.id p)):RepF w' o' rho b z r be m:=
 ⟨h.num,fun p=>by
  by_cases hp:p<16
  ·exact RepP.fix f a p (c p hp) (h.part p)
  ·obtain⟨q,rfl⟩:∃ q,p=q+14:=⟨p - 14,by omega⟩;trivial⟩
theorem CliAt.fix16 {P:Nat→Prop} {o o':Tags} {w w':World} {rho:Nat→Rq} {b:Nat} {z:CB} {c:SCli} (h:CliAt w o rho b z c) (f:Fix P o o' w w') (i:P 0) (a:∀ p,p<16→P (tg 4 p)):CliAt w' o' rho b z c:=by
 obtain⟨xs,l,e⟩:=h.acc;refine⟨h.blk.fix f (a 1 (by omega)),h.ch.fix f (a 3 (by omega)) i,fun g=>?_,⟨xs,l.fix f (a 6 (by omega)),e⟩,h.res.fix f (a 8 (by omega))⟩;obtain⟨mb,j,k,d⟩:=h.came g;obtain⟨k1,k2⟩:=k.fixT f (by rw[d];exact a 5 (by omega));exact⟨mb,j,k1,k2.trans d⟩
structure WB where
 rm:Nat
 cm:Nat
 lb:Nat
 bb:Nat
 mb:Nat
 cb:Nat
 rb:Nat→Nat
def repL (p:WB) (l:List SRep):List KV:=l.map fun r=>(.int .i64 r.id,.pointer (some ⟨p.rb r.id,0,none⟩))
noncomputable def pkW (rho:Nat→Rq) (x:Nat×Nat×SMsg):PkT:=(x.1,x.2.1,x.2.2.fm rho)
structure WorldAt (w:World) (o:Tags) (rho:Nat→Rq) (b:Nat) (p:WB) (W:SWorld):Prop where
 blk:Blk w o (tg 6 1) b 80 #[.map (some p.rm),.map (some p.cm),.pointer (some ⟨p.lb,0,none⟩),.int .i64 W.now]
 rmap:MpK 3 w p.rm (repL p W.reps)∧o p.rm=tg 6 3
 cmap:MpK 3 w p.cm [(.int .i64 1,.pointer (some ⟨p.cb,0,none⟩))]∧o p.cm=tg 6 4
 lane:LaneAt w o (tg 5 0) p.lb p.bb p.mb (W.lane.map (pkW rho))
 reps:∀ r∈W.reps,∃ z,RepF w o rho (p.rb r.id) z r r.log.e 0
 cli:∃ z,CliAt w o rho p.cb z W.cli
 ids:(W.reps.map (·.id)).Nodup
 now:W.now≤5000
theorem WorldAt.lt {w:World} {o:Tags} {rho:Nat→Rq} {b:Nat} {p:WB} {W:SWorld} (h:WorldAt w o rho b p W):b<w.heap.size:=h.blk.lt
theorem WorldAt.keepT {o o':Tags} {w w':World} {rho:Nat→Rq} {b:Nat} {p:WB} {W:SWorld} (h:WorldAt w o rho b p W) (a:Below w.heap.size w w') (d:∀ x,x<w.heap.size→o' x=o x):WorldAt w' o' rho b p W:=by
 have f:Fix (fun _=>True) o o' w w':=Fix.below a d;obtain⟨z,hc⟩:=h.cli;obtain⟨r1,r2⟩:=h.rmap.1.fixT f trivial;obtain⟨c1,c2⟩:=h.cmap.1.fixT f trivial;exact⟨h.blk.fix f trivial,⟨r1,r2.trans h.rmap.2⟩,⟨c1,c2.trans h.cmap.2⟩,h.lane.fix f trivial trivial,fun r c=>by
  obtain⟨z,e⟩:=h.reps r c;exact⟨z,e.fix16 f trivial (fun _ _=>trivial)⟩,⟨z,hc.fix16 f trivial (fun _ _=>trivial)⟩,h.ids,h.now⟩
theorem WorldAt.keep {o:Tags} {w w':World} {rho:Nat→Rq} {b:Nat} {p:WB} {W:SWorld} (h:WorldAt w o rho b p W) (a:Below w.heap.size w w'):WorldAt w' o rho b p W:=h.keepT a fun _ _=>rfl
theorem WorldAt.lane_set {o o':Tags} {w w':World} {rho:Nat→Rq} {b:Nat} {p:WB} {W:SWorld} (h:WorldAt w o rho b p W) (c:Chg (tg 5 0) o o' w w') {l:List (Nat×Nat×SMsg)} (d:LaneAt w' o' (tg 5 0) p.lb p.bb p.mb (l.map (pkW rho))):WorldAt w' o' rho b p { W with lane:=l }:=by
 have f:Fix (fun t=>t≠tg 5 0) o o' w w':=c.fix (by simp);obtain⟨z,hc⟩:=h.cli;obtain⟨r1,r2⟩:=h.rmap.1.fixT f (by rw[h.rmap.2];decide);obtain⟨c1,c2⟩:=h.cmap.1.fixT f (by rw[h.cmap.2];decide);exact⟨h.blk.fix f (by decide),⟨r1,r2.trans h.rmap.2⟩,⟨c1,c2.trans h.cmap.2⟩,d,fun r g=>by
  obtain⟨z,a⟩:=h.reps r g;exact⟨z,a.fix16 f (by decide) (fun q e=>by have:=a.num.id;unfold tg;omega)⟩,⟨z,hc.fix16 f (by decide) (fun q e=>by unfold tg;omega)⟩,h.ids,h.now⟩
theorem WorldAt.cli_set {o o':Tags} {w w':World} {rho:Nat→Rq} {b:Nat} {p:WB} {W:SWorld} (h:WorldAt w o rho b p W) (c:ChgR 5 o o' w w') {z:CB} {c':SCli} (d:CliAt w' o' rho p.cb z c'):WorldAt w' o' rho b p { W with cli:=c' }:=by
 have f:Fix (fun t=>t / 16≠5) o o' w w':=c.fix (fun t g=>g);obtain⟨r1,r2⟩:=h.rmap.1.fixT f (by rw[h.rmap.2];decide);obtain⟨c1,c2⟩:=h.cmap.1.fixT f (by rw[h.cmap.2];decide);exact⟨h.blk.fix f (by decide),⟨r1,r2.trans h.rmap.2⟩,⟨c1,c2.trans h.cmap.2⟩,h.lane.fix f (by decide) (by decide),fun r e=>by
  obtain⟨z,a⟩:=h.reps r e;exact⟨z,a.fix16 f (by decide) (fun q i=>by have:=a.num.id;unfold tg;omega)⟩,⟨z,d⟩,h.ids,h.now⟩
theorem hDy (l:List SRep) (r:SRep):(SW.setRep l r).map (·.id)=l.map (·.id):=by
 induction l with
 |nil=>rfl
 |cons x l ih=>
  unfold SW.setRep;split
  ·rename_i h;simp[h]
  ·simp[ih]
theorem hQ9 {l:List SRep} {r x:SRep} (h:x∈SW.setRep l r) (b:(l.map (·.id)).Nodup):x=r∨x∈l∧x.id≠r.id:=by
 induction l with
 |nil=>cases h
 |cons y l ih=>
  rw[List.map_cons,List.nodup_cons] at b;unfold SW.setRep at h;split at h
  ·rename_i a;rcases List.mem_cons.1 h with h | h
   ·exact .inl h
   ·refine .inr ⟨List.mem_cons_of_mem _ h,fun e=>b.1 ?_⟩;rw[a,←e];exact List.mem_map_of_mem h
  ·rename_i a;rcases List.mem_cons.1 h with h | h
   ·rw[h];exact .inr ⟨by simp,a⟩
   ·rcases ih h b.2 with h | h
    ·exact .inl h
    ·exact .inr ⟨List.mem_cons_of_mem _ h.1,h.2⟩
theorem hFa {l:List SRep} {i:Nat} {r:SRep} (h:SW.find l i=some r):r∈l∧r.id=i:=by
 induction l with
 |nil=>cases h
 |cons y l ih=>
  unfold SW.find at h;split at h
  ·rename_i c;injection h with h;subst h;exact⟨by simp,c⟩
  ·obtain⟨a,b⟩:=ih h;exact⟨List.mem_cons_of_mem _ a,b⟩
theorem hSo {l:List SRep} {i:Nat} (h:SW.find l i=none):∀ r∈l,r.id≠i:=by
 induction l with
 |nil=>intro r a;cases a
 |cons y l ih=>
  unfold SW.find at h;split at h
  ·cases h
  ·rename_i b;intro r a;rcases List.mem_cons.1 a with rfl | a
   ·exact b
   ·exact ih h r a
theorem WorldAt.rep_set {o o':Tags} {w w':World} {rho:Nat→Rq} {b:Nat} {p:WB} {W:SWorld} (h:WorldAt w o rho b p W) {r:SRep} (c:ChgR (r.id+1) o o' w w') (s:r.id<4) {z:RB} (g:RepF w' o' rho (p.rb r.id) z r r.log.e 0):WorldAt w' o' rho b p { W with reps:=SW.setRep W.reps r }:=by
 have f:Fix (fun t=>t / 16≠r.id+1) o o' w w':=c.fix (fun t k=>k);obtain⟨z2,hc⟩:=h.cli;obtain⟨r1,r2⟩:=h.rmap.1.fixT f (by rw[h.rmap.2];unfold tg;omega);obtain⟨c1,c2⟩:=h.cmap.1.fixT f (by rw[h.cmap.2];unfold tg;omega);have a:repL p (SW.setRep W.reps r)=repL p W.reps:=by
  have e:∀ l:List SRep,repL p l=(l.map (·.id)).map fun i=>(.int .i64 i,.pointer (some ⟨p.rb i,0,none⟩)):=fun l=>by unfold repL;rw[List.map_map];rfl
  rw[e,e,hDy]
 refine⟨h.blk.fix f (by unfold tg;omega),⟨by show MpK _ _ _ (repL p (SW.setRep W.reps r));rw[a];exact r1,r2.trans h.rmap.2⟩,⟨c1,c2.trans h.cmap.2⟩,h.lane.fix f (by unfold tg;omega) (by omega),fun x m=>?_,⟨z2,hc.fix16 f (by omega) (fun q j=>by unfold tg;omega)⟩,by show((SW.setRep W.reps r).map (·.id)).Nodup;rw[hDy];exact h.ids,h.now⟩;rcases hQ9 m h.ids with rfl | ⟨d,u⟩
 ·exact⟨z,g⟩
 ·obtain⟨z3,n⟩:=h.reps x d;exact⟨z3,n.fix16 f (by omega) (fun q j=>by unfold tg;omega)⟩
theorem hP5 (w:World):(zeroValue 71).run Tryz.prog w=.ok (.pointer none) w:=by kernel_rfl
theorem hYn (w:World):(zeroValue 53).run Tryz.prog w=.ok (.pointer none) w:=by kernel_rfl
theorem hEa (x:Int) (h : -1000≤x∧x≤1000):keyOf Tryz.prog 3 (.int .i64 x)=some (.int .i64 x):=Maps.keyOf_int_mk Tryz.underlying3 (WalkArith.wf_i64 (by omega))
theorem hI4 {p:WB} {l:List SRep} {r:SRep} (h:r∈l):∃ l1 l2,repL p l=l1++(.int .i64 r.id,.pointer (some ⟨p.rb r.id,0,none⟩))::l2:=by
 obtain⟨l1,l2,rfl⟩:=List.append_of_mem h;exact⟨repL p l1,repL p l2,by unfold repL;rw[List.map_append];rfl⟩
theorem hJr {p:WB} {l:List SRep} {x:Int} (h:∀ r∈l,(r.id:Int)≠x):∀ q∈repL p l,q.1≠.int .i64 x:=by
 intro q b a;obtain⟨r,c,rfl⟩:=List.mem_map.1 b;injection a with _ a;exact h r c a
theorem WorldAt.c {w:World} {o:Tags} {rho:Nat→Rq} {b:Nat} {p:WB} {W:SWorld} (h:WorldAt w o rho b p W) :
  w.cell? ⟨b,0,none⟩=some (.map (some p.rm))∧w.cell? ⟨b,1,none⟩=some (.map (some p.cm))∧w.cell? ⟨b,2,none⟩=some (.pointer (some ⟨p.lb,0,none⟩))∧w.cell? ⟨b,3,none⟩=some (.int .i64 W.now):=
 ⟨zR w b 0 _ _ _ h.blk.1,zR w b 1 _ _ _ h.blk.1,zR w b 2 _ _ _ h.blk.1,zR w b 3 _ _ _ h.blk.1⟩
theorem hGo {o:Tags} {rho:Nat→Rq} {b:Nat} {p:WB} {W:SWorld} {r:SRep} (g:r∈W.reps) (w:World) (h:WorldAt w o rho b p W) :
  Calls Tryz.prog 57 #[.pointer (some ⟨b,0,none⟩),.int .i64 r.id] w fun e w'=>e=.returned (.tuple #[.iface 71 (.pointer (some ⟨p.rb r.id,0,none⟩)),.bool true])∧w=w':=by
 obtain⟨c0,c1,c2,c3⟩:=h.c;obtain⟨l1,l2,d⟩:=hI4 (p:=p) g;have a:=h.rmap.1;rw[d] at a;have f:=hAm (w:=w) false hAh Tryz.underlying75 a;simp only[Bool.false_eq_true,if_false] at f;clear h a d c1 c2 c3;go_enter Tryz.func57,Tryz.ntmps57;go_wp2_with fail;go_ret2;exact⟨rfl,rfl⟩
theorem hGn {o:Tags} {rho:Nat→Rq} {b:Nat} {p:WB} {W:SWorld} (w:World) (h:WorldAt w o rho b p W) :
  Calls Tryz.prog 57 #[.pointer (some ⟨b,0,none⟩),.int .i64 101] w fun e w'=>e=.returned (.tuple #[.iface 53 (.pointer (some ⟨p.cb,0,none⟩)),.bool true])∧w=w':=by
 obtain⟨c0,c1,c2,c3⟩:=h.c;have a:∀ r∈W.reps,(r.id:Int)≠101:=fun r g=>by
  obtain⟨z,i⟩:=h.reps r g;have:=i.num.id;omega
 have f:=hAu (w:=w) false hAh Tryz.underlying75 (hP5 w) h.rmap.1 (hEa 101 (by omega)) (hJr a);have d:=hAm (w:=w) (l1:=[]) (l2:=[]) false hAh Tryz.underlying76 h.cmap.1;simp only[Bool.false_eq_true,if_false] at f d;clear h a c2 c3;go_enter Tryz.func57,Tryz.ntmps57;go_wp2_with fail;go_ret2;exact⟨rfl,rfl⟩
theorem hHp {o:Tags} {rho:Nat→Rq} {b:Nat} {p:WB} {W:SWorld} (x:Int) (d : -1≤x∧x<4) (i:∀ r∈W.reps,(r.id:Int)≠x) (w:World) (h:WorldAt w o rho b p W) :
  Calls Tryz.prog 57 #[.pointer (some ⟨b,0,none⟩),.int .i64 x] w fun e w'=>e=.returned (.tuple #[.nilIface,.bool false])∧w=w':=by
 obtain⟨c0,c1,c2,c3⟩:=h.c;have g:=hAu (w:=w) false hAh Tryz.underlying75 (hP5 w) h.rmap.1 (hEa x (by omega)) (hJr i);have f:=hAu (w:=w) (x:=.int .i64 (x - 100)) false hAh Tryz.underlying76 (hYn w) h.cmap.1 (hEa (x - 100) (by omega)) (by
  intro q j a;rw[List.mem_singleton.1 j] at a;injection a with _ a;omega)
 simp only[Bool.false_eq_true,if_false] at g f;have q0 : -1≤x:=d.1;have q1:x<4:=d.2;clear h i c2 c3 d;go_enter Tryz.func57,Tryz.ntmps57;go_wp2_with fail;go_ret2;exact⟨rfl,rfl⟩
theorem hGm {o:Tags} {rho:Nat→Rq} {b:Nat} {p:WB} {W:SWorld} (w:World) (h:WorldAt w o rho b p W) :
  Calls Tryz.prog 10 #[.pointer (some ⟨b,0,none⟩),.int .i64 1] w fun e w'=>e=.returned (.pointer (some ⟨p.cb,0,none⟩))∧w=w':=by
 obtain⟨c0,c1,c2,c3⟩:=h.c;have a:=hAm (w:=w) (l1:=[]) (l2:=[]) false hAh Tryz.underlying76 h.cmap.1;simp only[Bool.false_eq_true,if_false] at a;clear h c0 c2 c3;go_enter Tryz.func10,Tryz.ntmps10;go_wp2_with fail;go_ret;exact⟨rfl,rfl⟩
theorem hLk {o:Tags} {rho:Nat→Rq} {b:Nat} {p:WB} {W:SWorld} {r:SRep} (g:r∈W.reps) (w:World) (h:WorldAt w o rho b p W) :
  Calls Tryz.prog 17 #[.pointer (some ⟨b,0,none⟩),.int .i64 r.id] w fun e w'=>e=.returned (.pointer (some ⟨p.rb r.id,0,none⟩))∧w=w':=by
 obtain⟨c0,c1,c2,c3⟩:=h.c;obtain⟨l1,l2,d⟩:=hI4 (p:=p) g;have a:=h.rmap.1;rw[d] at a;have f:=hAm (w:=w) false hAh Tryz.underlying75 a;simp only[Bool.false_eq_true,if_false] at f;clear h a d c1 c2 c3;go_enter Tryz.func17,Tryz.ntmps17;go_wp2_with fail;go_ret;exact⟨rfl,rfl⟩
theorem hV3 {o:Tags} {rho:Nat→Rq} {b:Nat} {z:RB} {r:SRep} {be m:Nat} (w:World) (h:RepF w o rho b z r be m) :
  Calls Tryz.prog 18 #[.pointer (some ⟨b,0,none⟩)] w fun e w'=>e=.returned (.int .i64 r.d)∧w=w':=by
 have x2:=h.c2;have a:=zH (hBu z.bk z.kb (tg r.id 6) o rho be r.d w (h.part 6));clear h;go_enter Tryz.func18,Tryz.ntmps18;go_wp2_with fail;refine a.o.mono ?_;rintro e w' ⟨rfl,rfl⟩;go_wp2_with fail;go_ret;exact⟨rfl,rfl⟩
end Go.Proofs.YtlibpcllceepkaaGreat
