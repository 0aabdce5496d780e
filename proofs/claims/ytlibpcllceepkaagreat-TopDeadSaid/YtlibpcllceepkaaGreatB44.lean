/- Joined texts of the claim. No condition. -/
import Derived.Test.YtlibpcllceepkaaGreatB43
import Derived.Test.YtlibpcllceepkaaGreatB33
namespace Go.Proofs.YtlibpcllceepkaaGreat
open Go.RowKit
set_option maxRecDepth 100000
set_option linter.unusedVariables false
set_option linter.unusedSimpArgs false
set_option maxHeartbeats 16000000
theorem hO4 {o:Tags} {rho:Nat→Rq} {b:Nat} {z:RB} {r:SRep} {be m f:Nat} (d:r.chain=r.settled) {x:SMsg} (Y:x.kind=9) (zz:Sls) (w:World) (h:RepF w o rho b z r be (m+1)) :
  Calls Tryz.prog 226 #[.pointer (some ⟨b,0,none⟩),.int .i64 f,.agg ((x.fm rho).cells zz)] w fun e w'=>e=.returned (.tuple #[])∧∃ o' z',RepF w' o' rho b z' (r.onFetch f x) be m∧ChgR (r.id+1) o o' w w':=by
 obtain⟨kd,xe,xv,n,xb⟩:=x;obtain⟨A1,c1,A2,c2,A3,c3,A4,c4⟩:=zz;dsimp only at Y;subst Y;show Calls _ _ #[.pointer (some ⟨b,0,none⟩),.int .i64 f,.agg #[.int .i64 9,.int .i64 xe,.int .i64 0,.int .i64 0,.int .i64 0,.int .i64 0,.int .i64 0,.string ⟨#[]⟩,.float .f64 0,.int .i64 0,.int .i64 0,.float .f64 0,.string ⟨#[]⟩,.slice A1 0 c1,.slice A2 0 c2,.slice A3 0 c3,.slice A4 0 c4]] w _;have j:=(Below.refl w.heap.size w).alloc (Nat.le_refl _) (.cells #[.int .i64 9,.int .i64 xe,.int .i64 0,.int .i64 0,.int .i64 0,.int .i64 0,.int .i64 0,.string ⟨#[]⟩,.float .f64 0,.int .i64 0,.int .i64 0,.float .f64 0,.string ⟨#[]⟩,.slice A1 0 c1,.slice A2 0 c2,.slice A3 0 c3,.slice A4 0 c4] 48);have C:=heap_alloc_new w (.cells #[.int .i64 9,.int .i64 xe,.int .i64 0,.int .i64 0,.int .i64 0,.int .i64 0,.int .i64 0,.string ⟨#[]⟩,.float .f64 0,.int .i64 0,.int .i64 0,.float .f64 0,.string ⟨#[]⟩,.slice A1 0 c1,.slice A2 0 c2,.slice A3 0 c3,.slice A4 0 c4] 48);have z1:=(zR _ w.heap.size 1 _ _ _ C).trans (show _=some (Value.int .i64 xe) from rfl);have g:=zH (h.keepT j (Tags.ext_old o w.heap.size 7));have t:=zH (ChgR.below (k:=r.id+1) j (Tags.ext_old o w.heap.size 7));generalize o.ext w.heap.size 7=o1 at g t;have x80:=g.o.c80;have a:SetAt _ o1 rho z.SA z.sac z.MA z.mac z.LA z.lac r.settled:=g.o.part 12;have H:=zH d;have i:=zH a;cases hs:r.settled with
 |none=>
  rw[hs] at x80;have c:r.onFetch f ⟨9,xe,xv,n,xb⟩=r:=by unfold SRep.onFetch;rw[hs]
  rw[c];replace x80:_=some (Value.int .i64 0):=x80;have q1:¬ (0:Int) > (xe:Int):=by omega
  clear c h j C hs d a i H;go_enter Tryz.func226,Tryz.ntmps226;go_wp2_with fail;go_end0;exact⟨rfl,o1,⟨z,g.o.le (by omega)⟩,t.o⟩
 |some bys=>
  obtain⟨y,p,F,_⟩:=a.yes bys hs;rw[hs] at x80;replace x80:=x80.trans (show some (Value.int .i64 (if bys.length=0 then(0:Int) else((0:Nat):Int)+1))=some (Value.int .i64 1) from by rw[if_neg (by omega)];rfl);by_cases hxe:xe<1
  ·have c:r.onFetch f ⟨9,xe,xv,n,xb⟩=r.send f ⟨10,1,0,4,bys⟩:=by
    unfold SRep.onFetch;rw[hs];exact if_pos hxe
   rw[c];unfold SRep.send;have q1:(1:Int) > (xe:Int):=by omega
   have q2:(xe:Int)<1:=by omega
   have q3:xe<1:=hxe;have q4:xe=0:=by omega
   clear q4;obtain⟨T,I⟩:=zN (ledT rho 1 4);obtain⟨w1,B⟩:=zN (w.alloc (.cells #[.int .i64 9,.int .i64 xe,.int .i64 0,.int .i64 0,.int .i64 0,.int .i64 0,.int .i64 0,.string ⟨#[]⟩,.float .f64 0,.int .i64 0,.int .i64 0,.float .f64 0,.string ⟨#[]⟩,.slice A1 0 c1,.slice A2 0 c2,.slice A3 0 c3,.slice A4 0 c4] 48));rw[←B] at g t i p x80 z1;have D:¬ bys.length=0:=by omega
   have U:=zH (fun(W:World) (q:Below w1.heap.size w1 W)=>(show W.cell? ⟨b,3,none⟩=some (.pointer (some ⟨z.ch,0,none⟩))∧W.cell? ⟨b,78,none⟩=some (.string T)∧W.cell? ⟨b,79,none⟩=some (.slice z.SA bys.length z.sac) from by
    have h:=g.o.keep q;have V:=h.cell 78 (v:=.string (if (r.settled.getD []).length=0 then⟨#[]⟩ else ledT rho 1 4)) rfl;have X:=h.cell 79 (v:=.slice z.SA (r.settled.getD []).length z.sac) rfl;rw[hs] at V X;refine⟨h.c3,V.trans ?_,X⟩;show some (Value.string (if bys.length=0 then⟨#[]⟩ else ledT rho 1 4))=_;rw[if_neg D,I]))
   have L:=zH (fun(W:World) (q:Below w1.heap.size w1 W)=>hW6 z.ch (tg r.id 7) o1 bys W (by
    have h:=(g.o.keep q).chain;rw[d,hs] at h;exact h))
   have S:=zH (fun(W:World) (LA:Option Addr) (lc:Nat) (q:Below w1.heap.size w1 W) (hl:LinkD W (o1.ext w1.heap.size 0) LA lc bys)=>(show Calls Tryz.prog 240 #[.pointer (some ⟨b,0,none⟩),.int .i64 f,.agg #[.int .i64 10,.int .i64 1,.int .i64 0,.int .i64 4,.int .i64 0,.int .i64 0,.int .i64 0,.string ⟨#[]⟩,.float .f64 0,.int .i64 0,.int .i64 0,.float .f64 0,.string T,.slice none 0 0,.slice z.SA bys.length z.sac,.slice none 0 0,.slice LA 1 lc]] W fun e w'=>e=.returned (.tuple #[])∧∃ o' z',RepF w' o' rho b z' { r with o:=r.o++[(f,⟨10,1,0,4,bys⟩)] } be m∧ChgR (r.id+1) (o1.ext w1.heap.size 0) o' W w' from by
    have Ha:=p.fix (P:=fun _=>True) (Fix.below q (Tags.ext_old o1 w1.heap.size 0)) trivial;have h:=hNf (be:=be) (m:=m) f ⟨10,1,0,4,bys⟩ ⟨none,0,z.SA,z.sac,none,0,LA,lc⟩ W (g.o.keepT q (Tags.ext_old o1 w1.heap.size 0)) ⟨⟨rfl,rfl⟩,by
     show SlD _ _ _ _ (sgl bys (stateT 4 (ledT rho 1 4))).length _ _;rw[show(sgl bys (stateT 4 (ledT rho 1 4))).length=bys.length by simp[sgl]];exact Ha,SlD.nil _ _ _,hl⟩
    have e:((⟨10,1,0,4,bys⟩:SMsg).fm rho).cells ⟨none,0,z.SA,z.sac,none,0,LA,lc⟩=#[.int .i64 10,.int .i64 1,.int .i64 0,.int .i64 4,.int .i64 0,.int .i64 0,.int .i64 0,.string ⟨#[]⟩,.float .f64 0,.int .i64 0,.int .i64 0,.float .f64 0,.string T,.slice none 0 0,.slice z.SA bys.length z.sac,.slice none 0 0,.slice LA 1 lc]:=by
     show((#[.int .i64 10,.int .i64 1,.int .i64 0,.int .i64 4,.int .i64 0,.int .i64 0,.int .i64 0,.string ⟨#[]⟩,.float .f64 0,.int .i64 0,.int .i64 0,.float .f64 0,.string (ledT rho 1 4),.slice none 0 0,.slice z.SA (sgl bys (stateT 4 (ledT rho 1 4))).length z.sac,.slice none 0 0,.slice LA 1 lc]):Array Value)=_;rw[show(sgl bys (stateT 4 (ledT rho 1 4))).length=bys.length by simp[sgl],I]
    rw[e] at h;exact h))
   have N:=zH (fun x (J:x<w1.heap.size)=>Tags.ext_old o1 w1.heap.size 0 x J);have Q:=zH (fun x (J:w1.heap.size≤x)=>Tags.ext_new o1 w1.heap.size 0 x J);have u:=zH B;clear c h j C hs d a i H p F hxe I D y B;go_enter Tryz.func226,Tryz.ntmps226;rw[u.o] at z1 x80;go_upto_region 3 with fail;rw[←u.o];clear z1 x80;have l:Below w1.heap.size w1 w1.drew:=Below.drew (Below.refl _ _);have M:=zH l;have hc:=zH (L.o _ l);obtain⟨a3,a8,a9⟩:=U.o _ l;clear l u;go_region_law (first
    |(go_simp;go_at_call 258;refine hc.o.mono ?_;rintro e w3 ⟨⟨LA,lc,rfl,Z⟩,y⟩;have s:=zH (zB M.o y);have O:=zH (Z _ N.o Q.o);obtain⟨b3,b8,b9⟩:=U.o _ s.o)
    |(go_simp;go_at_call 240;refine(S.o _ _ _ s.o O.o).mono ?_;rintro e w4 ⟨rfl,o4,z4,G,E⟩))
   all_goals
    have R:=zH G;have K:=zH ((t.o.trans (ChgR.below (k:=r.id+1) s.o N.o)).trans E);clear G E;go_wp2_with fail;go_end0;exact⟨rfl,o4,z4,R.o,K.o⟩
  ·have c:r.onFetch f ⟨9,xe,xv,n,xb⟩=r:=by
    unfold SRep.onFetch;rw[hs];dsimp only;rw[if_neg hxe]
   rw[c];have q1:¬ (1:Int) > (xe:Int):=by omega
   have q2:¬ (xe:Int)<1:=by omega
   have q3:¬ xe<1:=hxe;have q4:¬ xe=0:=by omega
   have q5:¬ (xe:Int)=0:=by omega
   clear c h j C hs d a i H p F hxe;go_enter Tryz.func226,Tryz.ntmps226;go_wp2_with fail;go_end0;exact⟨rfl,o1,⟨z,g.o.le (by omega)⟩,t.o⟩
end Go.Proofs.YtlibpcllceepkaaGreat
