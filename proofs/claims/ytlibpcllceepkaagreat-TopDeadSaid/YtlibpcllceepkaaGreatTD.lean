/- Joined texts of the claim. No condition. -/
import Derived.Test.YtlibpcllceepkaaGreatB50
import Derived.Test.YtlibpcllceepkaaGreatRows
import Derived.ProofKit
import Derived.OpenShut
import Derived.ShutString
import Derived.ChangeOld
import Derived.ChangeArms
import Derived.Deep.Slices
import Derived.Deep.Fields
import Derived.Deep.RegionHeld3
namespace Go.Proofs.YtlibpcllceepkaaGreat
open Go.ChangeMaps (open_string shut_string)
open Go.ChangeShapes Go.WideShapes Go.ChangeAt Go.RowKit
set_option maxRecDepth 100000
set_option linter.unusedVariables false
set_option linter.unusedSimpArgs false
set_option maxHeartbeats 16000000
theorem own:ownKnob Tryz.prog.godebug=none:=by kernel_rfl
theorem laidOut:laidOutB Tryz.prog=true:=by kernel_rfl
theorem asks_list {P:Nat→AskT→Prop}:∀ n:Nat,(∀ i,i<n→∃ q,P i q)→∃ l:List AskT,l.length=n∧∀ i q,l[i]?=some q→P i q
 |0,_=>⟨[],rfl,fun i q h=>by cases h⟩
 |n+1,h=>by
  obtain⟨l,b,d⟩:=asks_list n (fun i hi=>h i (by omega));obtain⟨q,e⟩:=h n (by omega);refine⟨l++[q],by simp[b],fun i x a=>?_⟩;rcases Nat.lt_or_ge i n with hi | hi
  ·rw[List.getElem?_append_left (by omega)] at a;exact d i x a
  ·rw[List.getElem?_append_right (by omega),b] at a;obtain⟨j,c⟩:∃ j,i - n=j:=⟨_,rfl⟩;rw[c] at a;cases j with
   |zero=>
    obtain rfl:i=n:=by omega
    obtain rfl:q=x:=by simpa using a
    exact e
   |succ j=>simp at a
theorem asks_of_cells {H:Type} {enc:TypeId×Value→H} {w:World} {held:Bool} {fuel:Nat} {A:Option Addr} {n c:Nat} {x:DataW H×List MemPlace}
  (h:DataW.trod enc Tryz.prog w 0 (fun _=>true) held fuel 22 [.slice A n c]=some x):∃ l,Asks w A n c l:=by
 rcases Go.Deep.open_slice Tryz.underlying22 h with⟨g,_⟩ | ⟨a,len,cap,m,k,D,Pl,g,I,E,F,v,J,hi⟩
 ·injection g with hv _;injection hv with h1 h2 h3;subst h1;subst h2;subst h3;exact⟨[],rfl,Nat.le_refl _,Nat.zero_le _,fun _=>⟨rfl,rfl⟩,(fun _ h=>by cases h),fun _ h=>by cases h⟩
 ·injection g with hv _;injection hv with h1 h2 h3;subst h1;subst h2;subst h3;have u:m=c:=by rw[v];exact if_pos rfl
  subst u;have ce:Tryz.prog.cellsOf 39=6:=by kernel_rfl
  have k9:Tryz.prog.cellsOf 3=1:=by kernel_rfl
  have k8:Tryz.prog.cellsOf 9=1:=by kernel_rfl
  have k7:Tryz.prog.cellsOf 37=1:=by kernel_rfl
  have each:∀ i,i<n→∃ q:AskT,(w.cell? (a.add (i*6))=some (.int .i64 q.cl)∧w.cell? (a.add (i*6+1))=some (.int .i64 q.st)∧w.cell? (a.add (i*6+2))=some (.int .i64 q.kd)∧w.cell? (a.add (i*6+3))=some (.string q.key)∧w.cell? (a.add (i*6+4))=some (.int .u64 (q.bits:Int))∧w.cell? (a.add (i*6+5))=some (.int .i64 q.id))∧q.key.size≤maxLen∧q.bits<18446744073709551616:=by
   intro i G;obtain⟨cs,g1,g2⟩:=hi i (by omega);rw[ce] at g1;obtain⟨_,r,d⟩:=World.cells?_some g1;obtain⟨xs,f,_,_,_,z,e⟩:=DataW.trod_struct Tryz.underlying39 g2
   match xs,z,cs,r with
   |[y0,y1,y2,y3,y4,y5],_,[v0,v1,v2,v3,v4,v5],_=>
    have f0:=e 0 _ rfl;have f1:=e 1 _ rfl;have f2:=e 2 _ rfl;have f3:=e 3 _ rfl;have f4:=e 4 _ rfl;have f5:=e 5 _ rfl;simp[k9,k8,k7] at f0 f1 f2 f3 f4 f5;obtain⟨z0,e0,_⟩:=DataW.trod_int Tryz.underlying3 f0;obtain⟨z1,e1,_⟩:=DataW.trod_int Tryz.underlying3 f1;obtain⟨z2,e2,_⟩:=DataW.trod_int Tryz.underlying3 f2;obtain⟨s3,e3,_,s3z⟩:=DataW.trod_string Tryz.underlying9 f3;obtain⟨z4,e4,_,w4⟩:=DataW.trod_int Tryz.underlying37 f4;obtain⟨z5,e5,_⟩:=DataW.trod_int Tryz.underlying3 f5;simp at e0 e1 e2 e3 e4 e5;subst e0;subst e1;subst e2;subst e3;subst e4;subst e5;have B:0≤z4∧z4≤18446744073709551615:=by
     simp only[Lit.wf,IntKind.min,IntKind.max,IntKind.signed,IntKind.bits,Bool.and_eq_true,decide_eq_true_eq] at w4;exact⟨by simpa using w4.1,by simpa using w4.2⟩
    have c0:=d 0 (by omega);have c1:=d 1 (by omega);have c2:=d 2 (by omega);have c3:=d 3 (by omega);have c4:=d 4 (by omega);have c5:=d 5 (by omega);rw[Go.Deep.add_add] at c0 c1 c2 c3 c4 c5;refine⟨⟨z0,z1,z2,s3,z4.toNat,z5⟩,⟨by simpa using c0,by simpa using c1,by simpa using c2,by simpa using c3,?_,by simpa using c5⟩,s3z,show z4.toNat<18446744073709551616 by omega⟩;show _=some (Value.int .u64 ((z4.toNat:Nat):Int));rw[Int.toNat_of_nonneg B.1];simpa using c4
  obtain⟨l,t,j⟩:=asks_list n each;refine⟨l,t,E,F,(fun h=>by cases h),fun q o=>?_,fun ad C=>?_⟩
  ·obtain⟨i,hi⟩:=List.getElem?_of_mem o;exact(j i q hi).2
  ·cases C;by_cases h0:0<n
   ·obtain⟨q0,y⟩:∃ q,l[0]?=some q:=⟨_,List.getElem?_eq_getElem (by omega)⟩;have k0:=(j 0 q0 y).1.1;obtain⟨b,off,spot⟩:=a;have p:spot=none:=by simpa[Addr.add] using World.cell?_spot k0
    subst p;refine⟨b,off,fun _=>⟨rfl,?_⟩,fun i q o=>?_⟩
    ·have:=block_lt_of_cell k0;simpa[Addr.add] using this
    ·obtain⟨⟨y0,y1,y2,y3,y4,y5⟩,_⟩:=j i q o;rw[hAl] at y0 y1 y2 y3 y4 y5;exact⟨y0,by rw[Nat.add_assoc];exact y1,by rw[Nat.add_assoc];exact y2,by rw[Nat.add_assoc];exact y3,by rw[Nat.add_assoc];exact y4,by rw[Nat.add_assoc];exact y5⟩
   ·have s:l=[]:=List.eq_nil_of_length_eq_zero (by omega);subst s;exact⟨0,0,fun h=>absurd h h0,fun i q o=>by cases o⟩
namespace TopDead
set_option maxRecDepth 100000 in
theorem lifted (os:Os) (started:os.Started) (H:Type) (enc:TypeId×Value→H) :
  ReturnsInHanded {} Tryz.checked os 3 .any (Rows.topDeadSpec.pre6 enc Tryz.prog Tryz.f3 Rows.topDeadRow.domain false) (Rows.topDeadSpec.post enc Tryz.prog Tryz.f3 false true false false):=by
 refine returnsInHanded_of_change (C:=Tryz.checked) own started (by kernel_rfl) Tryz.func3
  (ChangeSpec.witness6 (enc:=enc) (C:=Tryz.checked) false ⟨#[],#[.int .i64 0,.slice none 0 0],[]⟩ 8 (by kernel_rfl) (by kernel_rfl) (by kernel_rfl) (by kernel_rfl)) ?_
 intro W base args ds gs before b i r _;have a:∀ (j:Nat) t v,Tryz.f3.params[j]?=some t→args[j]?=some v→Value.okWide Tryz.prog W .any base t v:=b;have k:=i;obtain⟨p,q,c,o,rfl,z,B⟩:=i;have g:DataW.TrodAll enc Tryz.prog W 0 (fun _=>true) true Tryz.f3.params.toList args.toList ds p:=c;rw[Tryz.params3] at g a;obtain⟨v0,vs0,d0,ds0,p0,q0,l,rfl,rfl,n,r0⟩:=trodAll_cons g;obtain⟨v1,vs1,d1,ds1,p1,q1,rfl,rfl,rfl,d,r1⟩:=trodAll_cons r0;obtain⟨rfl,rfl,rfl⟩:=trodAll_nil r1;obtain rfl:args=#[v0,v1]:=by cases args;simp_all
 obtain⟨rfl,rfl⟩:=trodVars_none o;obtain⟨a0,rfl,rfl,rfl,w0⟩:=open_int Tryz.underlying3 (a 0 3 v0 rfl rfl) n;obtain⟨A1,len1,cap1,rfl⟩:=okWide_slice Tryz.underlying22 (a 1 22 v1 rfl rfl);have k1:=d;have lt1:∀ x∈p1,x.block<W.heap.size:=by obtain⟨m,y⟩:=k1;exact DataW.trod_lt m _ _ _ y
 obtain⟨z1,w1⟩:∃ ss,Asks W A1 len1 cap1 ss:=by
  obtain⟨fuel,u⟩:=d;have w:DataW.trod enc Tryz.prog W 0 (fun _=>true) true fuel 22 [.slice A1 len1 cap1]=some (d1,p1):=by simpa[Value.cells] using u
  exact asks_of_cells w
 clear c b;refine(hWp a0 A1 len1 cap1 z1 W w1).mono fun e W' ⟨s,bel⟩=>?_;subst s;exact⟨_,rfl,_,_,_,[],_,[],k,trodAll_mk1 (shut_bool Tryz.underlying4 _),(trodAll_cons_mk (shut_int Tryz.underlying3 w0) (trodAll_cons_mk (Below.trod laidOut (by kernel_rfl) (of_decide_eq_true (by kernel_rfl)) k1 bel lt1) trodAll_mk0)),rfl,bel.frame _,fun h=>by cases h⟩
theorem over:Rows.topDeadRow.holds Tryz.pinned (OpenSpec.ofChange Rows.topDeadSpec):=
 OpenClaim.holds_of_wide 3 Tryz.f3 rfl rfl rfl rfl rfl rfl rfl ⟨rfl,rfl,rfl,rfl,rfl⟩ rfl rfl rfl rfl rfl (by kernel_rfl) Tryz.func3 (by kernel_rfl)
  (of_decide_eq_true (by kernel_rfl)) (by unfold Func.isWrapper;first | (rw[if_pos (by decide +kernel)];kernel_rfl) | (rw[if_neg (by decide +kernel)];exact⟨rfl,rfl⟩))
  (fun os started H enc _=>lifted os started H enc)
end TopDead
theorem TopDead_holds:Rows.TopDeadSaid:=TopDead.over
#print axioms TopDead_holds
end Go.Proofs.YtlibpcllceepkaaGreat
