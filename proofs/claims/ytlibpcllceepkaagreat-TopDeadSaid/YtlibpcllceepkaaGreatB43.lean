/- Joined texts of the claim. No condition. -/
import Derived.Test.YtlibpcllceepkaaGreatB20
import Derived.Test.YtlibpcllceepkaaGreatB41
import Derived.Test.YtlibpcllceepkaaGreatB42
import Derived.Test.YtlibpcllceepkaaGreatB33
import Derived.Test.YtlibpcllceepkaaGreatB04
import Derived.Test.YtlibpcllceepkaaGreatB12
namespace Go.Proofs.YtlibpcllceepkaaGreat
open Go.RowKit
set_option maxRecDepth 100000
set_option linter.unusedVariables false
set_option linter.unusedSimpArgs false
set_option maxHeartbeats 16000000
theorem hDj {P:Program} {C:World→Prop} {K:Act→Prop} {op:Oper} {a:Act} (ty:TypeId) (x:Operand) (g:op.op=.load ty x) (b o:Nat) (j:a.eval x=.pointer (some ⟨b,o,none⟩)) (cs:List Value) (d:TypeDesc) (c:∀ w,C w→w.rangeAt b o cs) (h:P.underlying ty=some d) (e:d.isRow=true) (hi:(P.info? ty).map (·.size)=some cs.length) (f:K (a.put op.dst (.agg cs.toArray))):op.quiet P a C K:=
 ⟨.agg cs.toArray,fun w i=>by
  unfold Oper.quietAt execOp;simp only[g,j,Instr.loadAt,Instr.sureAddr,Sem.run_bind,Sem.run_pure,Result.andThen_ok,run_loadVar_mid w b o ty cs d (c w i) h e hi];exact⟨rfl,rfl⟩,f⟩
theorem hUa {w:World} {g:Nat} {ML:List Value} {T:TypeId} (h:w.heap[g]?=some (.cells ML.toArray T (0,0))):w.rangeAt g 0 ML:=fun j v a=>by
 rw[zR _ _ _ _ _ _ h,Nat.zero_add];simpa using a
theorem hFz {w:World} {g:Nat} {ML:List Value} {T:TypeId} (h:w.heap[g]?=some (.cells ML.toArray T (0,0))):∀ w',(∃ y:Bel w.heap.size w,w'=y.w)→w'.rangeAt g 0 ML:=by
 rintro _ ⟨y,rfl⟩;exact hUa ((y.h.block g (zL h)).trans h)
theorem hJk {r r':SRep} {f:Nat} {x:SMsg} (h:r.onChange f x=some r'):r.ahead x=false∧r'=r∨r.ahead x=true∧((∃ u,SRep.chAt r.changes f=some u∧x.v≤u∧r'=r)∨(SRep.chAt r.changes f=none∧x.v=r.log.v∧(∀ p∈r.changes,p.2=r.log.v)∧({ r with changes:=r.changes++[(f,x.v)] }:SRep).leadIn=some r')):=by
 unfold SRep.onChange at h;split at h
 ·rename_i a;injection h with h;exact .inl ⟨by simpa using a,h.symm⟩
 ·rename_i a;refine .inr ⟨by simpa using a,?_⟩;split at h
  ·rename_i u c;split at h
   ·rename_i d;injection h with h;exact .inl ⟨u,c,d,h.symm⟩
   ·cases h
  ·rename_i b;split at h
   ·cases h
   ·rename_i hc;simp only[SRep.calmCh,ne_eq,not_or,Decidable.not_not,Bool.not_eq_true',Bool.not_eq_false,List.all_eq_true,beq_iff_eq] at hc;exact .inr ⟨b,hc.1,hc.2,h⟩
theorem hQ0 {o:Tags} {w w':World} {rho:Nat→Rq} {b:Nat} {z:RB} {r:SRep} {be m f u:Nat} (h:RepF w o rho b z r be m) (n:f<4) (t:SRep.chAt r.changes f=none) (g:MpK 3 w' z.mb (chL r.log.e r.changes++[(.int .i64 f,chVal r.log.e u f)])) (q:w.grownBy w' (some z.mb)) :
  RepF w' o rho b z { r with changes:=r.changes++[(f,u)] } be m∧ChgR (r.id+1) o o w w':=by
 have hc:Chg (tg r.id 5) o o w w':=Chg.grown q (fun k s _=>by cases s;exact h.chg.2);have j:f∉r.changes.map Prod.fst:=fun g=>by
  obtain⟨p,d,l⟩:=List.mem_map.1 g;exact hCg r.log.e r.changes f t _ (List.mem_map.2 ⟨p,d,rfl⟩) (by rw[←l])
 refine⟨h.upd1 5 hc { h.num with
  chs:=fun p d=>by
   rcases List.mem_append.1 d with d | d
   ·exact h.num.chs p d
   ·rw[List.mem_singleton.1 d];exact n
  chn:=by
   show(List.map Prod.fst (r.changes++[(f,u)])).Nodup;rw[List.map_append,List.nodup_append];exact⟨h.num.chn,by simp,fun a i c hc=>by
    rw[List.map_cons,List.map_nil,List.mem_singleton] at hc;rw[hc];intro e;rw[e] at i;exact j i⟩ } (fun p d=>by rcases p with _|_|_|_|_|_|_|_|_|_|_|_|_|_|p<;>first | exact absurd (by decide) d | rfl) ⟨?_,h.chg.2⟩,hc.r (by decide)⟩
 show MpK _ _ _ (chL r.log.e (r.changes++[(f,u)]));rw[show chL r.log.e (r.changes++[(f,u)])=chL r.log.e r.changes++[(.int .i64 f,chVal r.log.e u f)] from by simp[chL,chVal]];exact g
theorem hQl (a b c d e:Value) (w:World):(Instr.field 208 (.agg #[a,b,c,d,e]) 1).run Tryz.prog w=.ok b w:=by kernel_rfl
theorem hNd {o:Tags} {rho:Nat→Rq} {b:Nat} {z:RB} {r r':SRep} {m f:Nat} (hr:ROk rho) (hf:f<4) {x:SMsg} (hk:x.kind=6) (H:x.ok=true) (hb:x.bys=[f]) (hx:r.onChange f x=some r') (zz:Sls) (w:World) (h:RepF w o rho b z r r.log.e (m+30)) (ha:(x.fm rho).At w o zz) :
  Calls Tryz.prog 224 #[.pointer (some ⟨b,0,none⟩),.int .i64 f,.agg ((x.fm rho).cells zz)] w fun e w'=>e=.returned (.tuple #[])∧∃ o' z',RepF w' o' rho b z' r' r'.log.e m∧ChgR (r.id+1) o o' w w':=by
 have D:=hJk hx;obtain⟨kd,xe,xv,n,xb⟩:=x;obtain⟨A1,c1,A2,c2,A3,c3,A4,c4⟩:=zz;dsimp only at hk hb;subst hk;subst hb;have hI:xe≤1∧1≤xv∧xv≤15:=by
  simp only[SMsg.ok,Bool.and_eq_true,decide_eq_true_eq,beq_iff_eq] at H;exact⟨H.1.1.1.1.1,H.1.1.1.1.2,H.1.1.1.2⟩
 obtain⟨aE,aw,aa⟩:=hI;have Hx:SlD encCh w o A3 1 c3 [(f,xv,chT xe xv f)]:=ha.chs;obtain⟨sb,so,rfl,C,_,a⟩:=Hx.at 5 hCh (0,0,ByteArray.empty) (by omega);obtain⟨t,ht⟩:=zN (chT xe xv f);have s0:=a 0 0 _ (by omega) (by omega) rfl;have s1:=a 0 1 _ (by omega) (by omega) rfl;have s2:=a 0 2 _ (by omega) (by omega) rfl;have s3:=a 0 3 _ (by omega) (by omega) rfl;have s4:=a 0 4 _ (by omega) (by omega) rfl;show Calls _ _ #[.pointer (some ⟨b,0,none⟩),.int .i64 f,.agg #[.int .i64 6,.int .i64 xe,.int .i64 xv,.int .i64 0,.int .i64 0,.int .i64 0,.int .i64 0,.string ⟨#[]⟩,.float .f64 0,.int .i64 0,.int .i64 0,.float .f64 0,.string ⟨#[]⟩,.slice A1 0 c1,.slice A2 0 c2,.slice (some ⟨sb,so,none⟩) 1 c3,.slice A4 0 c4]] w _;have s:=(Below.refl w.heap.size w).alloc (Nat.le_refl _) (.cells #[.int .i64 6,.int .i64 xe,.int .i64 xv,.int .i64 0,.int .i64 0,.int .i64 0,.int .i64 0,.string ⟨#[]⟩,.float .f64 0,.int .i64 0,.int .i64 0,.float .f64 0,.string ⟨#[]⟩,.slice A1 0 c1,.slice A2 0 c2,.slice (some ⟨sb,so,none⟩) 1 c3,.slice A4 0 c4] 48);have hN:=heap_alloc_new w (.cells #[.int .i64 6,.int .i64 xe,.int .i64 xv,.int .i64 0,.int .i64 0,.int .i64 0,.int .i64 0,.string ⟨#[]⟩,.float .f64 0,.int .i64 0,.int .i64 0,.float .f64 0,.string ⟨#[]⟩,.slice A1 0 c1,.slice A2 0 c2,.slice (some ⟨sb,so,none⟩) 1 c3,.slice A4 0 c4] 48);have v0:(w.alloc (.cells #[.int .i64 6,.int .i64 xe,.int .i64 xv,.int .i64 0,.int .i64 0,.int .i64 0,.int .i64 0,.string ⟨#[]⟩,.float .f64 0,.int .i64 0,.int .i64 0,.float .f64 0,.string ⟨#[]⟩,.slice A1 0 c1,.slice A2 0 c2,.slice (some ⟨sb,so,none⟩) 1 c3,.slice A4 0 c4] 48)).cell? ⟨sb,so,none⟩=some (.int .i64 f):=(s.cell (p:=⟨sb,so+(0*5+0),none⟩) C).trans s0;have v1:(w.alloc (.cells #[.int .i64 6,.int .i64 xe,.int .i64 xv,.int .i64 0,.int .i64 0,.int .i64 0,.int .i64 0,.string ⟨#[]⟩,.float .f64 0,.int .i64 0,.int .i64 0,.float .f64 0,.string ⟨#[]⟩,.slice A1 0 c1,.slice A2 0 c2,.slice (some ⟨sb,so,none⟩) 1 c3,.slice A4 0 c4] 48)).cell? ⟨sb,so+1,none⟩=some (.int .i64 xv):=(s.cell (p:=⟨sb,so+(0*5+1),none⟩) C).trans s1;have v2:(w.alloc (.cells #[.int .i64 6,.int .i64 xe,.int .i64 xv,.int .i64 0,.int .i64 0,.int .i64 0,.int .i64 0,.string ⟨#[]⟩,.float .f64 0,.int .i64 0,.int .i64 0,.float .f64 0,.string ⟨#[]⟩,.slice A1 0 c1,.slice A2 0 c2,.slice (some ⟨sb,so,none⟩) 1 c3,.slice A4 0 c4] 48)).cell? ⟨sb,so+2,none⟩=some (.slice none 0 0):=(s.cell (p:=⟨sb,so+(0*5+2),none⟩) C).trans s2;have v3:(w.alloc (.cells #[.int .i64 6,.int .i64 xe,.int .i64 xv,.int .i64 0,.int .i64 0,.int .i64 0,.int .i64 0,.string ⟨#[]⟩,.float .f64 0,.int .i64 0,.int .i64 0,.float .f64 0,.string ⟨#[]⟩,.slice A1 0 c1,.slice A2 0 c2,.slice (some ⟨sb,so,none⟩) 1 c3,.slice A4 0 c4] 48)).cell? ⟨sb,so+3,none⟩=some (.int .i64 f):=(s.cell (p:=⟨sb,so+(0*5+3),none⟩) C).trans s3;have v4:(w.alloc (.cells #[.int .i64 6,.int .i64 xe,.int .i64 xv,.int .i64 0,.int .i64 0,.int .i64 0,.int .i64 0,.string ⟨#[]⟩,.float .f64 0,.int .i64 0,.int .i64 0,.float .f64 0,.string ⟨#[]⟩,.slice A1 0 c1,.slice A2 0 c2,.slice (some ⟨sb,so,none⟩) 1 c3,.slice A4 0 c4] 48)).cell? ⟨sb,so+4,none⟩=some (.string t):=by rw[ht];exact(s.cell (p:=⟨sb,so+(0*5+4),none⟩) C).trans s4
 have z15:=(zR _ w.heap.size 15 _ _ _ hN).trans (show _=some (Value.slice (some ⟨sb,so,none⟩) 1 c3) from rfl);have J:=(Below.refl (w.alloc (.cells #[.int .i64 6,.int .i64 xe,.int .i64 xv,.int .i64 0,.int .i64 0,.int .i64 0,.int .i64 0,.string ⟨#[]⟩,.float .f64 0,.int .i64 0,.int .i64 0,.float .f64 0,.string ⟨#[]⟩,.slice A1 0 c1,.slice A2 0 c2,.slice (some ⟨sb,so,none⟩) 1 c3,.slice A4 0 c4] 48)).heap.size (w.alloc (.cells #[.int .i64 6,.int .i64 xe,.int .i64 xv,.int .i64 0,.int .i64 0,.int .i64 0,.int .i64 0,.string ⟨#[]⟩,.float .f64 0,.int .i64 0,.int .i64 0,.float .f64 0,.string ⟨#[]⟩,.slice A1 0 c1,.slice A2 0 c2,.slice (some ⟨sb,so,none⟩) 1 c3,.slice A4 0 c4] 48))).alloc (Nat.le_refl _) (.cells #[.int .i64 f,.int .i64 xv,.slice none 0 0,.int .i64 f,.string t] 208);have c:=heap_alloc_new (w.alloc (.cells #[.int .i64 6,.int .i64 xe,.int .i64 xv,.int .i64 0,.int .i64 0,.int .i64 0,.int .i64 0,.string ⟨#[]⟩,.float .f64 0,.int .i64 0,.int .i64 0,.float .f64 0,.string ⟨#[]⟩,.slice A1 0 c1,.slice A2 0 c2,.slice (some ⟨sb,so,none⟩) 1 c3,.slice A4 0 c4] 48)) (.cells #[.int .i64 f,.int .i64 xv,.slice none 0 0,.int .i64 f,.string t] 208);have U:=s.trans (J.mono s.size);have F:=(J.block _ (zL hN)).trans hN;have d:=zH (h.keepT U (Tags.ext_old o w.heap.size 7));have O:=zH (ChgR.below (k:=r.id+1) U (Tags.ext_old o w.heap.size 7));generalize o.ext w.heap.size 7=o1 at d O;rw[show(w.alloc (.cells #[.int .i64 6,.int .i64 xe,.int .i64 xv,.int .i64 0,.int .i64 0,.int .i64 0,.int .i64 0,.string ⟨#[]⟩,.float .f64 0,.int .i64 0,.int .i64 0,.float .f64 0,.string ⟨#[]⟩,.slice A1 0 c1,.slice A2 0 c2,.slice (some ⟨sb,so,none⟩) 1 c3,.slice A4 0 c4] 48)).heap.size=w.heap.size+1 by simp] at c;obtain⟨w2,Z⟩:=zN ((w.alloc (.cells #[.int .i64 6,.int .i64 xe,.int .i64 xv,.int .i64 0,.int .i64 0,.int .i64 0,.int .i64 0,.string ⟨#[]⟩,.float .f64 0,.int .i64 0,.int .i64 0,.float .f64 0,.string ⟨#[]⟩,.slice A1 0 c1,.slice A2 0 c2,.slice (some ⟨sb,so,none⟩) 1 c3,.slice A4 0 c4] 48)).alloc (.cells #[.int .i64 f,.int .i64 xv,.slice none 0 0,.int .i64 f,.string t] 208));rw[←Z] at d O F c;have Hj:=zH Z;obtain⟨g,hg⟩:=zN (w.heap.size);rw[←hg] at F c;have HG:=zH hg;have Hf:=zH c;have gl:=(zL F);have gc:=(zL c);have HT:=zH ht;clear a s0 s1 s2 s3 s4 s hN J U h Hx ha hx H C ht Z hg;go_enter Tryz.func224,Tryz.ntmps224;go_wp2_with fail;rw[←HG.o,←Hj.o];clear HG Hj v0 v1 v2 v3 v4 z15;generalize Value.agg #[.int .i64 6,.int .i64 xe,.int .i64 xv,.int .i64 0,.int .i64 0,.int .i64 0,.int .i64 0,.string ⟨#[]⟩,.float .f64 0,.int .i64 0,.int .i64 0,.float .f64 0,.string ⟨#[]⟩,.slice A1 0 c1,.slice A2 0 c2,.slice (some ⟨sb,so,none⟩) 1 c3,.slice A4 0 c4]=mv;obtain⟨ML,Hm,Hk,Hl,T⟩:∃ ML:List Value,w2.heap[g]?=some (.cells ML.toArray 48 (0,0))∧ML.toArray[1]?=some (.int .i64 xe)∧ML.toArray[2]?=some (.int .i64 xv)∧ML.length=17:=⟨_,F,rfl,rfl,rfl⟩;have P:=zH Hm;have S:=zH (show(Tryz.prog.info? 48).map (·.size)=some ML.length from by rw[T];kernel_rfl);have j:=fun y:Bel w2.heap.size w2=>zH (hKf ML.toArray ⟨6,xe,xv,n,[f]⟩ Hk Hl y.w (d.o.keep y.h));clear Hm Hk Hl T;have k0:=fun y:Bel w2.heap.size w2=>y.cell gc (zQ _ (g+1) 0 (.int .i64 f) c);have k1:=fun y:Bel w2.heap.size w2=>y.cell gc (zQ _ (g+1) 1 (.int .i64 xv) c);have k2:=fun y:Bel w2.heap.size w2=>y.cell gc (zQ _ (g+1) 2 (.slice none 0 0) c);have k3:=fun y:Bel w2.heap.size w2=>y.cell gc (zQ _ (g+1) 3 (.int .i64 f) c);have k4:=fun y:Bel w2.heap.size w2=>y.cell gc (zQ _ (g+1) 4 (.string t) c);clear F c;rcases D with⟨l,rfl⟩ | ⟨l,D⟩
 ·rw[l] at j;clear l;refine hAg w2.heap.size w2 (by kernel_rfl) (by kernel_rfl) (Below.refl _ _) ?_
  (go_big_quiet_step (fail))
  go_big_quiet_want;refine hDj 48 (.tmp 5) rfl g 0 (by rfl) ML _ (hFz P.o) Tryz.underlying48 rfl S.o ?_;dsimp only[Act.put];simp only[zA,zC,zD];go_big_quiet_on;repeat (go_big_quiet_step ((go_at_call 253;exact hAq (Nat.le_refl _) (j _).o)))
  refine wpQuiet_nil ?_;rintro _ ⟨y,rfl⟩;have i:=zH (d.o.keep y.h);have B:=zH (O.o.trans (ChgR.below (k:=r'.id+1) (o':=o1) y.h (fun _ _=>rfl)));clear k0 k1 k2 k3 k4 j;go_wp2_with fail;exact bodyPost_ret (results_none rfl _ _ _) rfl ⟨rfl,o1,z,i.o.le (by omega),B.o⟩
 ·rw[l] at j;have ay:xe=r.log.e:=by
   unfold SRep.ahead at l;simp only[Bool.and_eq_true,beq_iff_eq] at l;exact l.1
  subst ay;clear l;have x0:=fun y:Bel w2.heap.size w2=>y.cell d.o.lt d.o.c0;have y2:=fun y:Bel w2.heap.size w2=>y.cell d.o.tlt d.o.t2;have y3:=fun y:Bel w2.heap.size w2=>y.cell d.o.tlt d.o.t3;have y4:=fun y:Bel w2.heap.size w2=>y.cell d.o.tlt d.o.t4;have E:=fun y:Bel w2.heap.size w2=>zH (hJ1 r.log.e f xv (by omega) hf aw aa z.M z.mc y.w (d.o.keep y.h).mem.1);rw[←HT.o] at E;have aF:=hQl;have aB:((0:Int) != 0)=false:=rfl;have aD:decide ((0:Int)=0)=true:=rfl;rcases D with⟨u,hu,Y,rfl⟩ | ⟨hn,N,L,Ht⟩
  ·obtain⟨l1,l2,Hy⟩:=hF2 r'.log.e r'.changes f u hu;have G:=fun y:Bel w2.heap.size w2=>hAm (w:=y.w) (l1:=l1) (l2:=l2) false hAh Tryz.underlying186 (show MpK 3 y.w z.mb _ by rw[←Hy];exact(d.o.keep y.h).chg.1);simp only[Bool.false_eq_true,if_false,chVal,encCh] at G;replace Y:xv≤u:=Y;have q1:decide ((xv:Int)≤(u:Int))=true:=by rw[decide_eq_true_eq];omega
   have q2:(xv:Int)≤(u:Int):=by omega
   clear Hy hu Y;refine hAg w2.heap.size w2 (by kernel_rfl) (by kernel_rfl) (Below.refl _ _) ?_
   (go_big_quiet_step (fail))
   go_big_quiet_want;refine hDj 48 (.tmp 5) rfl g 0 (by rfl) ML _ (hFz P.o) Tryz.underlying48 rfl S.o ?_;dsimp only[Act.put];simp only[zA,zC,zD];go_big_quiet_on;repeat (go_big_quiet_step ((first | (go_at_call 253;exact hAq (Nat.le_refl _) (j _).o) | (go_at_call 254;exact hAq (Nat.le_refl _) (E _).o))))
   refine wpQuiet_nil ?_;rintro _ ⟨y,rfl⟩;have i:=zH (d.o.keep y.h);have B:=zH (O.o.trans (ChgR.below (k:=r'.id+1) (o':=o1) y.h (fun _ _=>rfl)));clear k0 k1 k2 k3 k4 j E G x0 y2 y3 y4;go_wp2_with fail;exact bodyPost_ret (results_none rfl _ _ _) rfl ⟨rfl,o1,⟨z,i.o.le (by omega)⟩,B.o⟩
  ·replace N:xv=r.log.v:=N;have G:=fun y:Bel w2.heap.size w2=>hAu (w:=y.w) false hAh Tryz.underlying186 (hP4 y.w) (d.o.keep y.h).chg.1 (hCv f (by omega)) (hCg r.log.e r.changes f hn);simp only[Bool.false_eq_true,if_false] at G;have q1:decide ((xv:Int)≤0)=false:=by rw[decide_eq_false_iff_not];omega
   have Hh:=zH hn;have an:=zH N;have Ha:=zH L;have aj:=zH Ht;clear hn N L Ht;refine hAg w2.heap.size w2 (by kernel_rfl) (by kernel_rfl) (Below.refl _ _) ?_
   (go_big_quiet_step (fail))
   go_big_quiet_want;refine hDj 48 (.tmp 5) rfl g 0 (by rfl) ML _ (hFz P.o) Tryz.underlying48 rfl S.o ?_;dsimp only[Act.put];simp only[zA,zC,zD];go_big_quiet_on;repeat (go_big_quiet_step ((first | (go_at_call 253;exact hAq (Nat.le_refl _) (j _).o) | (go_at_call 254;exact hAq (Nat.le_refl _) (E _).o))))
   refine wpQuiet_nil ?_;rintro _ ⟨y,rfl⟩;have i:=zH (d.o.keep y.h);have B:=zH (O.o.trans (ChgR.below (k:=r.id+1) (o':=o1) y.h (fun _ _=>rfl)));have I:=zH ((y.h.block (g+1) gc).trans Hf.o);clear k0 k1 k2 k3 k4 j E G x0 y2 y3 y4 gl gc d O Hf q1;generalize y.w=w3 at i B I ⊢;clear y;go_wp2_with fail;have c:=I.o;have gc:=(zL c);have k0:=fun y:Bel w3.heap.size w3=>y.cell gc (zQ _ (g+1) 0 (.int .i64 f) c);have k1:=fun y:Bel w3.heap.size w3=>y.cell gc (zQ _ (g+1) 1 (.int .i64 xv) c);have k2:=fun y:Bel w3.heap.size w3=>y.cell gc (zQ _ (g+1) 2 (.slice none 0 0) c);have k3:=fun y:Bel w3.heap.size w3=>y.cell gc (zQ _ (g+1) 3 (.int .i64 f) c);have k4:=fun y:Bel w3.heap.size w3=>y.cell gc (zQ _ (g+1) 4 (.string t) c);have x0:=fun y:Bel w3.heap.size w3=>y.cell i.o.lt i.o.c0;have y2:=fun y:Bel w3.heap.size w3=>y.cell i.o.tlt i.o.t2;clear c;refine hAi 9 w3.heap.size w3 (by kernel_rfl) (by kernel_rfl) (Below.refl _ _) ?_;simp only[List.take_succ_cons,List.take_zero,List.drop_succ_cons,List.drop_zero];repeat (go_big_quiet_step (fail))
   refine wpQuiet_nil ?_;rintro⟨wy,hy⟩;show wpList _ _ _ _ _ wy;have R:=zH (i.o.keep hy);have Hg:=zH (B.o.trans (ChgR.below (k:=r.id+1) (o':=o1) hy (fun _ _=>rfl)));clear k0 k1 k2 k3 k4 x0 y2 hy gc i B I;obtain⟨w4,hJ,W,Hr⟩:=hAs hAh Tryz.underlying186 R.o.chg.1 (hCv f (by omega)) (.agg #[.int .i64 f,.int .i64 xv,.slice none 0 0,.int .i64 f,.string t]) (hCg r.log.e r.changes f Hh.o);obtain⟨Hu,Hp⟩:=hQ0 (u:=xv) R.o hf Hh.o (by rw[chVal,←HT.o];exact W) Hr;have Q:=zH Hu;have Hc:=zH (Hg.o.trans Hp);clear W Hr Hu Hp R Hg;go_upto_region 4 with fail;clear hJ;have Hi:=zH (hV7 (fun p X=>by
    rcases List.mem_append.1 X with X | X
    ·exact Ha.o p X
    ·rw[List.mem_singleton.1 X];exact an.o) w4 Q.o)
   go_wp2_with fail;refine Hi.o.mono ?_;rintro e w5 ⟨⟨q,rfl,hq⟩,V⟩;have K:=zH (Q.o.keep V);have ae:=zH (Hc.o.trans (ChgR.below (k:=r.id+1) (o':=o1) V (fun _ _=>rfl)));have x0:=K.o.c0;have y0:=K.o.t0;replace hq:q≤r.log.v:=hq;have q2:¬ (q:Int) > (r.log.v:Int):=by omega
   have ao:=zH (hBc z.lb (tg r.id 3) o1 z.ms rho r.log w5 K.o.log);have ai:=zH (hI6 (m:=m) hr aj.o w5 K.o);clear V Hi Q Hc hq;go_wp2_with fail;refine ao.o.mono ?_;rintro e wx ⟨rfl,rfl⟩;go_wp2_with fail;refine ai.o.mono ?_;rintro e w6 ⟨rfl,o6,z6,Hw,Hq⟩;have ak:=zH Hw;have ag:=zH (ae.o.trans Hq);clear Hw Hq;go_wp2_with fail;go_end0;exact⟨rfl,o6,z6,ak.o,ag.o⟩
theorem hJ6:(Tryz.prog.info? 120).map (fun i=>(i.zero,i.size,i.bytes))=some (some (.agg #[.int .i64 0,.slice none 0 0,.slice none 0 0]),3,56):=by kernel_rfl
theorem mkLink (w:World):(Instr.makeSlice 46 (.int .i64 0) (.int .i64 1)).run Tryz.prog w=.ok (.slice (some ⟨w.heap.size,0,none⟩) 0 1) (w.alloc (.cells #[.int .i64 0,.slice none 0 0,.slice none 0 0] 120)):=by
 obtain⟨i0,a,b,c,d⟩:=info_parts hJ6;have:=run_make (P:=Tryz.prog) w 46 120 i0 _ Tryz.underlying46 a b .i64 .i64 0 1 (by omega) (by omega) (by rw[d];omega) (by omega);rw[this,c,show madeCells (Value.agg #[.int .i64 0,.slice none 0 0,.slice none 0 0]).cells (Int.toNat 1*3)=#[.int .i64 0,.slice none 0 0,.slice none 0 0] from by kernel_rfl];rfl
theorem hTk {w w':World} {A:Option Addr} {c G:Nat} (h:Mem w A c) (f:w.grownBy w' (some G)) (g:∀ ad,A=some ad→ad.block≠G):Mem w' A c:=by
 obtain⟨i,j,b,off,a,d,l⟩:=h;have m:b≠G:=g _ a;refine⟨i,j,b,off,a,Nat.lt_of_lt_of_le d f.size,fun k n=>?_⟩;have:=l k n;unfold World.cell? at this ⊢;rw[f.block b d (fun e=>m (Option.some.inj e))];exact this
theorem hW6 (T i:Nat) (o:Tags) (b0:List Nat) (w:World) (h:TrAt w o i T [b0]) :
  Calls Tryz.prog 258 #[.pointer (some ⟨T,0,none⟩)] w fun e w'=>(∃ LA lc,e=.returned (.slice LA 1 lc)∧∀ o':Tags,(∀ x,x<w.heap.size→o' x=o x)→(∀ x,w.heap.size≤x→o' x=0)→LinkD w' o' LA lc b0)∧Below w.heap.size w w':=by
 obtain⟨⟨CA,CC,SA,SC,cs,ss,U,Hh,Hi,C,Hu,Q⟩⟩:=h;obtain⟨x0,x1,rfl⟩:∃ a b,cs=[a,b]:=by
  match cs,Hh with
  |[a,b],_=>exact⟨a,b,rfl⟩
 obtain⟨s0,rfl⟩:∃ a,ss=[a]:=by
  have:=SigsOk.len Hu
  match ss,this with
  |[a],_=>exact⟨a,rfl⟩
 have Hp:=Hi x1 (by simp);obtain⟨⟨O,D⟩,_⟩:=Hu;have c0:=zQ w T 0 (.slice CA 2 CC) U.1;have c1:=zQ w T 1 (.slice SA 1 SC) U.1;obtain⟨ga,ai,Hj,a2,a3⟩:∃ ga,CA=some ⟨ga,0,none⟩∧ga<w.heap.size∧w.cell? ⟨ga,2,none⟩=some (.int .i64 1)∧w.cell? ⟨ga,3,none⟩=some (.slice x1.1 4 x1.2):=by
  rcases C.1.2 with⟨m,_⟩ | ⟨g,cap,cur,k,_,s,_⟩
  ·cases m
  ·cases k;have k2:=World.ownsRow.cells C.1 (g:=g) rfl 2 _ rfl;have k3:=World.ownsRow.cells C.1 (g:=g) rfl 3 _ rfl;rw[hAl,Nat.zero_add] at k2 k3;exact⟨g,rfl,(zL s),k2,k3⟩
 obtain⟨gs,aj,an,e0⟩:∃ gs,SA=some ⟨gs,0,none⟩∧gs<w.heap.size∧w.cell? ⟨gs,0,none⟩=some (.slice s0.1 s0.2.1 s0.2.2):=by
  rcases Q.1.2 with⟨m,_⟩ | ⟨g,cap,cur,k,_,s,_⟩
  ·cases m
  ·cases k;have k0:=World.ownsRow.cells Q.1 (g:=g) rfl 0 _ rfl;rw[hAl,Nat.zero_add] at k0;exact⟨g,rfl,(zL s),k0⟩
 subst ai;subst aj;obtain⟨B,n,d⟩:=s0;obtain⟨A,c⟩:=x1;have aw:3≤n∧n≤4:=by have m:=O.1;have h2:=D.three;have h3:=D.four;simp[sgl] at m;omega
 have Hg:=U.lt;have u:=zH (And.intro c0 (And.intro c1 (And.intro a2 (And.intro a3 e0))));have Hq:=mkLink w;have M:=(Below.refl w.heap.size w).alloc (Nat.le_refl _) (.cells #[.int .i64 0,.slice none 0 0,.slice none 0 0] 120);have H:=zH (heap_alloc_new w (.cells #[.int .i64 0,.slice none 0 0,.slice none 0 0] 120));have f:=zH M;have HM:=zH Hp.1;have Hb:=zH O;have HQ:=zH D;obtain⟨i0,Hl,Hw,Hx,Hy⟩:=info_parts hJ6;have hU:=zH Hl;have aa:=zH Hw;have ab:=zH Hx;have ae:=zH Hy;have d1:=(M.cell (p:=⟨T,1,none⟩) Hg).trans c1;clear Hh Hi C Q Hp O D U a2 a3 e0 c0 M Hl Hw Hx Hy;go_enter Tryz.func258,Tryz.ntmps258;go_wp2_with fail;obtain⟨w1,R⟩:=zN (w.alloc (.cells #[.int .i64 0,.slice none 0 0,.slice none 0 0] 120));rw[←R] at H f d1 Hq ⊢;clear d1 c1 Hq;obtain⟨G,S⟩:=zN (w.heap.size);have F:=zH (show G<w1.heap.size by rw[R,S];simp);have HJ:=zH S;rw[←S] at H ⊢;clear R S;go_loopw [3,19] (fun s3 j wr=>(j=.int .i64 0∧s3=.slice (some ⟨G,0,none⟩) 0 1∧w1=wr)∨(j=.int .i64 1∧∃ LA lc,s3=.slice LA 1 lc∧zI (Below w.heap.size w wr∧∀ o':Tags,(∀ x,x<w.heap.size→o' x=o x)→(∀ x,w.heap.size≤x→o' x=0)→LinkD wr o' LA lc b0))) (fun _ j _=>1 - (intOf j).toNat)
 case atStart=>exact .inl ⟨rfl,rfl,rfl⟩
 case round=>
  rcases hrel with⟨rfl,rfl,rfl⟩ | ⟨rfl,LA,lc,rfl,Hm⟩
  ·have e0:=(f.o.cell (p:=⟨gs,0,none⟩) an).trans u.o.2.2.2.2;have c0:=(f.o.cell (p:=⟨T,0,none⟩) Hg).trans u.o.1;have a2:=(f.o.cell (p:=⟨ga,2,none⟩) Hj).trans u.o.2.2.1;have a3:=(f.o.cell (p:=⟨ga,3,none⟩) Hj).trans u.o.2.2.2.1;have Ha:=zH (hLn 1 A c w1 (HM.o.keep f.o));go_wp2_with fail;refine Ha.o.mono ?_;rintro e w2 ⟨A',c',rfl,Hr,y⟩;have J:=zB f.o y;have W:=zH (hIn B n d (sgl b0 (confT (0+1))) o w2 (by omega) (by omega) (Hb.o.fix (P:=fun _=>True) (Fix.same (o:=o) J) trivial));have X:=zH (Nat.lt_of_lt_of_le F.o y.size);have hI:=zH Hr;have V:=zH J;have Y:=zH ((y.block G F.o).trans H.o);clear Hr y J e0 c0 a2 a3 Ha;go_wp2_with fail;refine W.o.mono ?_;rintro e w3 ⟨A2,c2,rfl,Ht,z⟩;have K:=zB V.o z;have L:=(z.block G (zL Y.o)).trans Y.o;have l:=(Below.refl w3.heap.size w3).alloc (Nat.le_refl _) (.cells #[.int .i64 1,.slice A' 4 c',.slice A2 n c2] 120);have Hf:=heap_alloc_new w3 (.cells #[.int .i64 1,.slice A' 4 c',.slice A2 n c2] 120);have E:=zH (K.trans (l.mono K.size));have Hc:=(l.block G (zL L)).trans L;have r:=zH ((hI.o.keep z).keep l);have I:=zH (World.ownsRow.kept Ht (hAa l none) (by
    cases (Value.slice A2 n c2).ownBlock with
    |none=>exact .inl rfl
    |some x=>exact .inr (by simp)))
   have Z:zI (Own1 (w3.alloc (.cells #[.int .i64 1,.slice A' 4 c',.slice A2 n c2] 120)) w.heap.size 120 3 (.slice (some ⟨G,0,none⟩) 0 1) 0 []):=zH ⟨⟨rfl,.inr ⟨G,1,_,rfl,Nat.zero_le _,Hc,by omega,by unfold maxLen;simp,rfl,rfl⟩⟩,fun g s=>by
    cases s;show(if G<w.heap.size then 0 else 1)=1;rw[HJ.o,if_neg (Nat.lt_irrefl _)]⟩
   have hJ:zI (∀ j v,([Value.int .i64 1,.slice A' 4 c',.slice A2 n c2])[j]?=some v→(w3.alloc (.cells #[.int .i64 1,.slice A' 4 c',.slice A2 n c2] 120)).cell? ((⟨w3.heap.size,0,none⟩:Addr).add j)=some v):=zH (fun j v k=>by
    rw[hAl,Nat.zero_add,zR _ _ _ _ _ _ Hf];simpa using k)
   have hO:zI (∀ v∈[Value.int .i64 1,.slice A' 4 c',.slice A2 n c2],v.oneCell'=true):=zH (fun v k=>by
    simp only[List.mem_cons,List.not_mem_nil,or_false] at k;rcases k with rfl | rfl | rfl<;>rfl)
   clear Ht z K L l Hf Hc W;go_wp2_with (at_builtin;go_must (refine hA9 rfl (.tmp 24) (.tmp 37) 46 rfl (fun b=>if b<w.heap.size then 0 else 1) 1 120 i0 _ 3 56 Tryz.underlying46 hU.o aa.o ab.o ae.o rfl (by decide) _ _ _ (by rfl) Z.o ⟨w3.heap.size,0,none⟩ 1 1 [Value.int .i64 1,.slice A' 4 c',.slice A2 n c2] (by rfl) (by rfl) hJ.o hO.o (by unfold maxLen;omega) (by omega) ?_);go_must (intro v2 w5 t;obtain⟨VA2,VC2,rfl⟩:=hAk t.row.1;have HU:=zH t;clear t));have ak:=HU.o.below Z.o E.o.size;have Hk:=HU.o.grown;have ao:=hTk r.o.1 (show World.grownBy _ _ (some G) from Hk) (fun ad e=>by
    have:=r.o.2 ad e;have:=F.o;omega)
   have ap:=World.ownsRow.kept I.o (show World.grownBy _ _ (some G) from Hk) (by
    cases k:(Value.slice A2 n c2).ownBlock with
    |none=>exact .inl rfl
    |some x=>exact .inr (fun e=>by
      have m:=(World.ownsRow.lt I.o x k).1;have h2:=X.o;have h3:=Option.some.inj e;omega))
   have q:=(HU.o.own1 E.o.size).row;refine⟨.inr ⟨rfl,VA2,VC2,rfl,zH ⟨E.o.trans ak,fun o' ax N=>?_⟩⟩,by simp[intOf]⟩;rcases q.2 with⟨m,_⟩ | ⟨g,cap,cur,k,am,s,hn,hm,_⟩
   ·cases m
   ·cases k;have k0:=World.ownsRow.cells q (g:=g) rfl 0 _ rfl;have k1:=World.ownsRow.cells q (g:=g) rfl 1 _ rfl;have k2:=World.ownsRow.cells q (g:=g) rfl 2 _ rfl;rw[hAl] at k0 k1 k2;refine⟨hn,hm,g,0,A',c',A2,n,c2,rfl,(zL s),N g am,k0,by rw[←k1],by rw[←k2],⟨ao,fun ad e=>N _ ?_⟩,?_,HQ.o⟩
    ·have:=r.o.2 ad e;have:=f.o.size;omega
    ·exact SlD.of_own ap (by have m:=Hb.o.1;exact m) o' (fun x hx _=>N x (by have:=f.o.size;have h2:=X.o;have h3:=V.o.size;omega))
  ·go_wp2_with fail;go_ret;exact⟨⟨LA,lc,rfl,Hm.o.2⟩,Hm.o.1⟩
end Go.Proofs.YtlibpcllceepkaaGreat
