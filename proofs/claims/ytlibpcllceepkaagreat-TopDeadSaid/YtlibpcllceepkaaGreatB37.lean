/- Joined texts of the claim. No condition. -/
import Derived.Test.YtlibpcllceepkaaGreatB23
import Derived.Test.YtlibpcllceepkaaGreatB07
import Derived.Test.YtlibpcllceepkaaGreatB36
import Derived.Test.YtlibpcllceepkaaGreatB32
namespace Go.Proofs.YtlibpcllceepkaaGreat
open Go.RowKit
set_option maxRecDepth 100000
set_option linter.unusedVariables false
set_option linter.unusedSimpArgs false
set_option maxHeartbeats 16000000
theorem hSh {o:Tags} {rho:Nat→Rq} {b:Nat} {z:CB} {c:SCli} (hr:ROk rho) (C:c.open_=true) (r:1≤c.stamp) (N:c.stamp≤8) (w:World) (h:CliAt w o rho b z c) :
  Calls Tryz.prog 84 #[.pointer (some ⟨b,0,none⟩)] w fun e w'=>∃ A cc xs o',e=.returned (.slice A 4 cc)∧Row w' o' 7 92 19 (.slice A 4 cc) 4 xs∧Lst (PkV w' o') (toFour rho ⟨1,0,0,c.stamp,[]⟩) xs∧(∀ x,x<w.heap.size→o' x=o x)∧(∀ g,(Value.slice A 4 cc).ownBlock=some g→w.heap.size≤g)∧Below w.heap.size w w':=by
 have hq:=(hr c.stamp r N).1;have q:=fun w=>zH (hDk (rho c.stamp) hq w);obtain⟨k3,k4,k5,k6,k7,k8⟩:=h.req C r;have P:=zH h;have F:=zH (And.intro C r);obtain⟨t,V⟩:=zN ((rho c.stamp).t);rw[←V] at q;have HT:=zH V;unfold Rq.v at q;clear h hq C r N hr V;go_enter Tryz.func84,Tryz.ntmps84;go_wp2_with fail;refine(q _).o.mono ?_;rintro e w1 ⟨rfl,I⟩;have p:=zH I;have HX:zI (∀ W,Below w1.heap.size w1 W→W.cell? ⟨b,3,none⟩=some (.int .i64 1)∧W.cell? ⟨b,4,none⟩=some (.int .i64 ((rho c.stamp).st:Int))∧W.cell? ⟨b,5,none⟩=some (.int .i64 ((rho c.stamp).kind:Int))∧W.cell? ⟨b,6,none⟩=some (.string (rho c.stamp).key)∧W.cell? ⟨b,7,none⟩=some (.float .f64 (rho c.stamp).real)∧W.cell? ⟨b,8,none⟩=some (.int .i64 0)):=
  zH (fun W T=>(P.o.keep (zB p.o T)).req F.o.1 F.o.2)
 have Z:=fun(W:World) (T:Below w1.heap.size w1 W)=>zH (hHs W (P.o.keep (zB p.o T)));clear k3 k4 k5 k6 k7 k8 I q;go_wp2_with fail;have G:Below w1.heap.size w1 w1.drew:=Below.drew (Below.refl _ _);refine wp_region_held_drew (S:=(fun W=>Below w1.heap.size w1 W)) (by kernel_rfl) G (fun a=>?_);change wpAnyH _ _ _ _ _ 13 (Array.replicate 13 false) _ _;clear G;generalize w1.drew=w2 at a ⊢;refine zK 0 13 rfl rfl ?_;try dsimp only;try simp only[zA,zC,zD]
 refine zK 1 14 rfl rfl ?_;try dsimp only;try simp only[zA,zC,zD]
 refine zK 2 15 rfl rfl ?_;try dsimp only;try simp only[zA,zC,zD]
 refine zK 3 16 rfl rfl ?_;try dsimp only;try simp only[zA,zC,zD]
 (refine zT 4 17 rfl rfl (v:=?v17_5) (.inl ⟨by rfl,?y17_5⟩) ?_;case y17_5=>(intro w u;(try dsimp only at u);obtain⟨k3,k4,k5,k6,k7,k8⟩:=HX.o w u;clear u;go_simp;try with_reducible rfl));try dsimp only;try simp only[zA,zC,zD]
 refine zK 5 18 rfl rfl ?_;try dsimp only;try simp only[zA,zC,zD]
 refine zK 7 20 rfl rfl ?_;try dsimp only;try simp only[zA,zC,zD]
 refine wpAnyH_ready (rs:=[6]) (by kernel_rfl) (by simp) ?_;refine AllReadyH.cons rfl (fun K m=>?_) AllReadyH.nil;rw[if_pos (by rfl)];go_simp;go_at_call 111;refine(Z _ a).o.mono ?_;rintro e wd ⟨rfl,rfl⟩;refine m.out _ _ a (fun _=>?_);try dsimp only
 clear m K;refine zK 8 21 rfl rfl ?_;try dsimp only;try simp only[zA,zC,zD]
 refine wpAnyH_ready (rs:=[9]) (by kernel_rfl) (by simp) ?_;refine AllReadyH.cons rfl (fun K m=>?_) AllReadyH.nil;go_simp;have d:=heap_alloc_new w2 (.cells #[.int .i64 101,.string t] 114);have i:Below w1.heap.size w1 (w2.alloc (.cells #[.int .i64 101,.string t] 114)):=a.alloc (Below.size a) _;refine m.out _ _ i (fun _=>?_);try dsimp only
 clear m K;obtain⟨gs,j⟩:=zN (w2.heap.size);have L:w1.heap.size≤gs:=by rw[j];exact Below.size a
 rw[←j] at d ⊢;clear j;change wpAnyH _ _ _ _ _ _ _ _ (w2.alloc (.cells #[.int .i64 101,.string t] 114));clear a;generalize w2.alloc _=wa at d i ⊢;refine zK 10 23 rfl rfl ?_;try dsimp only;try simp only[zA,zC,zD]
 refine wpAnyH_ready (rs:=[11]) (by kernel_rfl) (by simp) ?_;refine AllReadyH.cons rfl (fun K m=>?_) AllReadyH.nil;rw[if_pos (by rfl)];go_simp;go_at_call 110;have f:Below w.heap.size w wa:=zB p.o i;have j:=(zL d);have M:((o.ext w.heap.size 0).ext wa.heap.size 7) gs=0:=(Tags.ext_old _ _ _ _ j).trans (Tags.ext_new o w.heap.size 0 gs (Nat.le_trans p.o.size L));have D:∀ x,x<w.heap.size→((o.ext w.heap.size 0).ext wa.heap.size 7) x=o x:=fun x hx=>(Tags.ext_old _ _ _ _ (Nat.lt_of_lt_of_le hx f.size)).trans (Tags.ext_old _ _ _ _ hx);have J:=P.o.keepT f D;have s:=SlD.of_rowW (enc:=encS) (l:=[(101,t)]) d rfl (by unfold maxLen;simp) M;rw[HT.o] at s;have H:((⟨1,0,0,c.stamp,[]⟩:SMsg).fm rho).At wa ((o.ext w.heap.size 0).ext wa.heap.size 7) ⟨none,0,some ⟨gs,0,none⟩,1,none,0,none,0⟩:=⟨⟨rfl,rfl⟩,s,SlD.nil _ _ _,⟨rfl,rfl⟩⟩;have O:=hE9 ⟨1,0,0,c.stamp,[]⟩ _ wa J H;have E:Calls Tryz.prog 110 #[.pointer (some ⟨b,0,none⟩),.agg #[.int .i64 1,.int .i64 0,.int .i64 0,.int .i64 0,.int .i64 1,.int .i64 ((rho c.stamp).st:Int),.int .i64 ((rho c.stamp).kind:Int),.string (rho c.stamp).key,.float .f64 (rho c.stamp).real,.int .i64 0,.int .i64 0,.float .f64 0,.string ⟨#[]⟩,.slice none 0 0,.slice (some ⟨gs,0,none⟩) 1 1,.slice none 0 0,.slice none 0 0]] wa _:=O
 with_reducible refine E.mono ?_
 rintro e w5 ⟨A,cc,xs,rfl,k,B,y⟩;have n:Below w1.heap.size w1 w5:=i.trans (y.mono i.size);refine m.out _ _ n (fun _=>?_);try dsimp only
 clear m K;have R:=zH (show Row w5 ((o.ext w.heap.size 0).ext wa.heap.size 7) 7 92 19 (.slice A 4 cc) 4 xs from⟨hCi k,fun g U=>Tags.ext_new _ _ _ _ (World.ownsRow.lt k g U).1⟩);have Hb:=zH D;have Ha:zI (∀ g,(Value.slice A 4 cc).ownBlock=some g→w.heap.size≤g):=zH (fun g U=>(World.ownsRow.lt (hGa k f.size) g U).1);have Q:=zH B;have Y:=zH n;have X:=zH (f.trans (y.mono f.size));clear k B y n O E H s J M f d i L j D;have a:Below w1.heap.size w1 w5:=Y.o;refine zK 12 2 rfl rfl ?_;try dsimp only;try simp only[zA,zC,zD]
 refine wpAnyH_done (by kernel_rfl) ?_ _;clear a;go_wp2_with fail;go_ret;exact⟨A,cc,xs,_,rfl,R.o,Q.o,Hb.o,Ha.o,X.o⟩
theorem hSn (c:SCli):(chainL c.chain).length=SW.ep c:=by
 unfold SW.ep;cases c.chain<;>rfl
noncomputable def tickPs (rho:Nat→Rq) (c:SCli) (now:Nat):List PkT:=if now % 4=0 then(if c.open_ then toFour rho ⟨1,0,0,c.stamp,[]⟩ else [])++toFour rho ⟨9,SW.ep c,0,0,[]⟩ else []
theorem hU6 {o:Tags} {rho:Nat→Rq} {b:Nat} {z:CB} {c:SCli} (hr:ROk rho) (L:c.open_=true→1≤c.stamp) (Hm:c.stamp≤8) (now:Nat) (hU:now≤5000) (w:World) (h:CliAt w o rho b z c) :
  Calls Tryz.prog 195 #[.pointer (some ⟨b,0,none⟩),.int .i64 now] w fun e w'=>∃ A n cc xs o',e=.returned (.slice A n cc)∧n=(tickPs rho c now).length∧Row w' o' 7 92 19 (.slice A n cc) n xs∧Lst (PkV w' o') (tickPs rho c now) xs∧CliAt w' o' rho b z c∧ChgR 5 o o' w w':=by
 obtain⟨i0,Hj,Hy,Hz,HJ⟩:=info_parts hD0;have Hr:=zH Hj;have Ht:=zH Hy;have Hu:=zH Hz;have Hw:=zH HJ;clear Hj Hy Hz HJ;by_cases hz:now % 4=0
 ·have hO:(((now:Int) % 4 == 0):Bool)=true:=by simp only[beq_iff_eq];omega
  by_cases ho:c.open_=true
  ·have l:tickPs rho c now=toFour rho ⟨1,0,0,c.stamp,[]⟩++toFour rho ⟨9,SW.ep c,0,0,[]⟩:=by unfold tickPs;rw[if_pos hz,if_pos ho]
   have t:=hCm L w h;rw[ho] at t;have I:=zH t;have Hq:=zH (hSh hr ho (L ho) Hm w h);have O:=zH h;have Hc:=zH l;clear h hz l t ho L Hm hr;go_enter Tryz.func195,Tryz.ntmps195;go_wp2_with fail;refine I.o.mono ?_;rintro e wx ⟨rfl,rfl⟩;go_wp2_with fail;refine Hq.o.mono ?_;rintro e w2 ⟨A2,c2,xs2,o2,rfl,Y,X,Hp,Hl,Hh⟩;have Q:=zH Hl;have Z:=zH Hh;have Hg:=zH Hp;have B:=zH Y;have v:=zH X;have r:=zH (O.o.keepT Hh Hp);have l:=Hc.o;clear Y X Hp Hl Hh I Hq;have x1:w2.cell? ⟨b,1,none⟩=some (.pointer (some ⟨z.ch,0,none⟩)):=r.o.cell 1 rfl;have F:=zH (show Calls Tryz.prog 143 #[.pointer (some ⟨z.ch,0,none⟩)] w2 fun e w'=>e=.returned (.int .i64 ((SW.ep c:Nat):Int))∧w2=w' from by
    have h:=hId z.ch _ (tg 4 3) o2 w2 r.o.ch;rw[hSn] at h;exact h)
   have H:=zH (show Calls Tryz.prog 110 #[.pointer (some ⟨b,0,none⟩),.agg #[.int .i64 9,.int .i64 ((SW.ep c:Nat):Int),.int .i64 0,.int .i64 0,.int .i64 0,.int .i64 0,.int .i64 0,.string ⟨#[]⟩,.float .f64 0,.int .i64 0,.int .i64 0,.float .f64 0,.string ⟨#[]⟩,.slice none 0 0,.slice none 0 0,.slice none 0 0,.slice none 0 0]] w2 _ from hE9 ⟨9,SW.ep c,0,0,[]⟩ ⟨none,0,none,0,none,0,none,0⟩ w2 r.o ⟨⟨rfl,rfl⟩,SlD.nil _ _ _,SlD.nil _ _ _,⟨rfl,rfl⟩⟩);go_wp2_with fail;refine F.o.mono ?_;rintro e wx ⟨rfl,rfl⟩;go_wp2_with fail;refine H.o.mono ?_;rintro e w3 ⟨A3,c3,x3,rfl,k,i,m⟩;obtain⟨g3,rfl,Hi,U,V,S,f⟩:=hCj k (by omega);have M:=k.1;have p:=Lst.one' i;have C:=zH (B.o.fix (P:=fun _=>True) (Fix.same (o:=o2) m) trivial);have y:=zH (v.o.imp (R:=PkV w3 o2) (fun a u s=>s.fix (P:=fun _=>True) (Fix.same (o:=o2) m) trivial));have Ha:=zH i;have q:=zH (zB Z.o m);have N:=zH (fun(j:Nat) (u:Value) (hj:x3[j]?=some u)=>(show w3.cell? ((⟨g3,0,none⟩:Addr).add j)=some u by
    have h:=f j u hj;unfold Addr.add;split
    ·rename_i e0;rw[e0] at h;exact h
    ·rw[Nat.zero_add];exact h))
   have J:=zH (And.intro M p);clear x1 F H k i m Hi U V S f M p;go_wp2_with (refine hA9 rfl (.tmp 17) (.tmp 25) 123 rfl o2 7 92 i0 _ 19 232 Tryz.underlying123 Hr.o Ht.o Hu.o Hw.o rfl (by decide) _ 4 xs2 (by rfl) C.o ⟨g3,0,none⟩ 4 c3 x3 (by rfl) J.o.1 N.o J.o.2 (by unfold maxLen;omega) (by omega) ?_;rintro v' w4 d);obtain⟨VA,VC,rfl⟩:=hAk d.row.1;have T:=d.chg.fix (P:=(· = 0)) (by decide);have K:=Lst.app (y.o.imp (R:=PkV w4 (o2.ext w3.heap.size 7)) (fun a u s=>s.fix T rfl)) (Ha.o.imp (R:=PkV w4 (o2.ext w3.heap.size 7)) (fun a u s=>s.fix T rfl));have Hb:=zH K;have Hf:=zH d.row;have E:=zH (q.o.trans (show Below w.heap.size w3 w4 from⟨d.grown.os,d.grown.tape,d.grown.output,d.grown.size,fun x D=>d.grown.block x (Nat.lt_of_lt_of_le D q.o.size) (fun e=>by have:=Q.o x e.symm;omega)⟩));have G:=zH (show ∀ x,x<w.heap.size→(o2.ext w3.heap.size 7) x=o x from fun x D=>(Tags.ext_old _ _ _ _ (Nat.lt_of_lt_of_le D q.o.size)).trans (Hg.o x D));clear d T K;go_wp2_with fail;go_ret;rw[l];exact⟨VA,4+4,VC,xs2++x3,_,rfl,rfl,Hf.o,Hb.o,O.o.keepT E.o G.o,ChgR.below E.o G.o⟩
  ·have Hx:c.open_=false:=by simpa using ho
   have l:tickPs rho c now=[]++toFour rho ⟨9,SW.ep c,0,0,[]⟩:=by unfold tickPs;rw[if_pos hz,if_neg ho]
   have t:=hCm L w h;rw[Hx] at t;have I:=zH t;have O:=zH h;have Hc:=zH l;clear h hz l t ho Hx L Hm hr;go_enter Tryz.func195,Tryz.ntmps195;go_wp2_with fail;refine I.o.mono ?_;rintro e w2 ⟨rfl,rfl⟩;obtain⟨o2,Hk⟩:=zN (o);obtain⟨xs2,W⟩:=zN ([]:List Value);have B:zI (Row w o2 7 92 19 (.slice none 0 0) 0 xs2):=zH (by rw[W];exact Row.nil _ _ _ _ _);have v:zI (Lst (PkV w o2) [] xs2):=zH (by rw[W];rfl);have r:zI (CliAt w o2 rho b z c):=zH (by rw[Hk];exact O.o);have Q:zI (∀ g,(Value.slice none 0 0).ownBlock=some g→w.heap.size≤g):=zH (fun g h=>by cases h);have Z:zI (Below w.heap.size w w):=zH (Below.refl _ _);have Hg:zI (∀ x,x<w.heap.size→o2 x=o x):=zH (fun x _=>by rw[Hk]);have l:=Hc.o;clear Hk W I;have x1:w.cell? ⟨b,1,none⟩=some (.pointer (some ⟨z.ch,0,none⟩)):=r.o.cell 1 rfl;have F:=zH (show Calls Tryz.prog 143 #[.pointer (some ⟨z.ch,0,none⟩)] w fun e w'=>e=.returned (.int .i64 ((SW.ep c:Nat):Int))∧w=w' from by
    have h:=hId z.ch _ (tg 4 3) o2 w r.o.ch;rw[hSn] at h;exact h)
   have H:=zH (show Calls Tryz.prog 110 #[.pointer (some ⟨b,0,none⟩),.agg #[.int .i64 9,.int .i64 ((SW.ep c:Nat):Int),.int .i64 0,.int .i64 0,.int .i64 0,.int .i64 0,.int .i64 0,.string ⟨#[]⟩,.float .f64 0,.int .i64 0,.int .i64 0,.float .f64 0,.string ⟨#[]⟩,.slice none 0 0,.slice none 0 0,.slice none 0 0,.slice none 0 0]] w _ from hE9 ⟨9,SW.ep c,0,0,[]⟩ ⟨none,0,none,0,none,0,none,0⟩ w r.o ⟨⟨rfl,rfl⟩,SlD.nil _ _ _,SlD.nil _ _ _,⟨rfl,rfl⟩⟩);go_wp2_with fail;refine F.o.mono ?_;rintro e wx ⟨rfl,rfl⟩;go_wp2_with fail;refine H.o.mono ?_;rintro e w3 ⟨A3,c3,x3,rfl,k,i,m⟩;obtain⟨g3,rfl,Hi,U,V,S,f⟩:=hCj k (by omega);have M:=k.1;have p:=Lst.one' i;have C:=zH (B.o.fix (P:=fun _=>True) (Fix.same (o:=o2) m) trivial);have y:=zH (v.o.imp (R:=PkV w3 o2) (fun a u s=>s.fix (P:=fun _=>True) (Fix.same (o:=o2) m) trivial));have Ha:=zH i;have q:=zH (zB Z.o m);have N:=zH (fun(j:Nat) (u:Value) (hj:x3[j]?=some u)=>(show w3.cell? ((⟨g3,0,none⟩:Addr).add j)=some u by
    have h:=f j u hj;unfold Addr.add;split
    ·rename_i e0;rw[e0] at h;exact h
    ·rw[Nat.zero_add];exact h))
   have J:=zH (And.intro M p);clear x1 F H k i m Hi U V S f M p;go_wp2_with (refine hA9 rfl (.tmp 17) (.tmp 25) 123 rfl o2 7 92 i0 _ 19 232 Tryz.underlying123 Hr.o Ht.o Hu.o Hw.o rfl (by decide) _ 0 xs2 (by rfl) C.o ⟨g3,0,none⟩ 4 c3 x3 (by rfl) J.o.1 N.o J.o.2 (by unfold maxLen;omega) (by omega) ?_;rintro v' w4 d);obtain⟨VA,VC,rfl⟩:=hAk d.row.1;have T:=d.chg.fix (P:=(· = 0)) (by decide);have K:=Lst.app (y.o.imp (R:=PkV w4 (o2.ext w3.heap.size 7)) (fun a u s=>s.fix T rfl)) (Ha.o.imp (R:=PkV w4 (o2.ext w3.heap.size 7)) (fun a u s=>s.fix T rfl));have Hb:=zH K;have Hf:=zH d.row;have E:=zH (q.o.trans (show Below w.heap.size w3 w4 from⟨d.grown.os,d.grown.tape,d.grown.output,d.grown.size,fun x D=>d.grown.block x (Nat.lt_of_lt_of_le D q.o.size) (fun e=>by have:=Q.o x e.symm;omega)⟩));have G:=zH (show ∀ x,x<w.heap.size→(o2.ext w3.heap.size 7) x=o x from fun x D=>(Tags.ext_old _ _ _ _ (Nat.lt_of_lt_of_le D q.o.size)).trans (Hg.o x D));clear d T K;go_wp2_with fail;go_ret;rw[l];exact⟨VA,0+4,VC,xs2++x3,_,rfl,rfl,Hf.o,Hb.o,O.o.keepT E.o G.o,ChgR.below E.o G.o⟩
 ·have l:tickPs rho c now=[]:=by unfold tickPs;rw[if_neg hz]
  rw[l];have hO:(((now:Int) % 4 == 0):Bool)=false:=by rw[Bool.eq_false_iff];simp only[ne_eq,beq_iff_eq];omega
  have O:=zH h;clear h hz l;go_enter Tryz.func195,Tryz.ntmps195;go_wp2_with fail;go_ret;exact⟨none,0,0,[],o,rfl,rfl,Row.nil _ _ _ _ _,rfl,O.o,ChgR.refl _ _ _⟩
theorem hK3 (A:Option Addr) (n d:Nat) (xs:List Value) (o:Tags) (i:Nat) (w:World) (Z:n≤1000) (h:Row w o i 95 7 (.slice A n d) n xs) (I:∀ u∈xs,u.oneCell'=true):Calls Tryz.prog 32 #[.slice A n d] w fun e w'=>∃ A' c,e=.returned (.slice A' n c)∧w'.ownsRow w.heap.size 95 7 (.slice A' n c) n xs∧Below w.heap.size w w':=by
 obtain⟨i0,r,t,v,x⟩:=info_parts hFd;have E:=zH r;have F:=zH t;have G:=zH v;have H:=zH x;clear r t v x;have b:=h.1;obtain⟨⟨q,U⟩,m⟩:=h;rcases U with⟨Q,W⟩ | ⟨g,cap,cur,V,_,K,Y,X,J,M⟩
 ·cases Q;have L:xs=[]:=List.length_eq_zero_iff.1 (by omega);subst L;have qT:=fun(w:World)=>Lib.run_eql_slice_nil (P:=Tryz.prog) w 52 95 none 0 0 0 0 Tryz.underlying52;clear b m q;go_enter Tryz.func32,Tryz.ntmps32;go_wp2_with fail;go_ret;exact⟨none,0,rfl,World.ownsRow_nil _ _ _ _,Below.refl _ _⟩
 ·injection V with e1 _ e3;subst e1;subst e3;have R:g<w.heap.size:=(zL K);have B:=zH q;have N:=zH I;have f:Below w.heap.size w (w.alloc (.cells #[] 95)):=(Below.refl _ _).alloc (Nat.le_refl _) _;have O:zI (∀ j u,xs[j]?=some u→(w.alloc (.cells #[] 95)).cell? ((⟨g,0,none⟩:Addr).add j)=some u):=zH (fun j u S=>by
   have:=World.ownsRow.cells b (g:=g) rfl j u S;rw[hAl,Nat.zero_add] at this ⊢;exact(f.cell (p:=⟨g,j,none⟩) R).trans this)
  have y:(w.alloc (.cells #[] 95)).ownsRow w.heap.size 95 7 (.slice (some ⟨w.heap.size,0,none⟩) 0 0) 0 []:=⟨rfl,.inr ⟨w.heap.size,0,#[],rfl,Nat.le_refl _,heap_alloc_new w _,Nat.le_refl _,Nat.zero_le _,rfl,rfl⟩⟩;have z:=zH f;have s:=f.size;clear f M J K b m q I;have qT:=fun(w:World)=>Lib.run_eql_slice_nil (P:=Tryz.prog) w 52 95 (some ⟨g,0,none⟩) n d 0 0 Tryz.underlying52;go_enter Tryz.func32,Tryz.ntmps32;go_wp2_with (at_builtin;go_must (refine wpList_append_own _ rfl (.tmp 5) (.tmp 6) 52 rfl w.heap.size 95 i0 _ 7 64 Tryz.underlying52 E.o F.o G.o H.o (by rfl) (by decide) _ _ _ (by rfl) y ⟨g,0,none⟩ n d xs (by rfl) B.o O.o N.o (by unfold maxLen;omega) (by omega) s ?_);go_must (intro v2 w2 a l _);obtain⟨VA2,VC2,rfl⟩:=hAk a;have D:=zH a;have C:=zH l;clear a l);go_ret;refine⟨VA2,VC2,?_,?_,z.o.grown C.o s (fun k T=>by cases T;exact Nat.le_refl _)⟩
  ·simp
  ·have:=D.o;simpa using this
theorem hK4 (A:Option Addr) (n d:Nat) (xs:List Value) (o:Tags) (i:Nat) (w:World) (Z:n≤1000) (h:Row w o i 43 2 (.slice A n d) n xs) (I:∀ u∈xs,u.oneCell'=true):Calls Tryz.prog 40 #[.slice A n d] w fun e w'=>∃ A' c,e=.returned (.slice A' n c)∧w'.ownsRow w.heap.size 43 2 (.slice A' n c) n xs∧Below w.heap.size w w':=by
 obtain⟨i0,r,t,v,x⟩:=info_parts hHd;have E:=zH r;have F:=zH t;have G:=zH v;have H:=zH x;clear r t v x;have b:=h.1;obtain⟨⟨q,U⟩,m⟩:=h;rcases U with⟨Q,W⟩ | ⟨g,cap,cur,V,_,K,Y,X,J,M⟩
 ·cases Q;have L:xs=[]:=List.length_eq_zero_iff.1 (by omega);subst L;have qT:=fun(w:World)=>Lib.run_eql_slice_nil (P:=Tryz.prog) w 69 43 none 0 0 0 0 Tryz.underlying69;clear b m q;go_enter Tryz.func40,Tryz.ntmps40;go_wp2_with fail;go_ret;exact⟨none,0,rfl,World.ownsRow_nil _ _ _ _,Below.refl _ _⟩
 ·injection V with e1 _ e3;subst e1;subst e3;have R:g<w.heap.size:=(zL K);have B:=zH q;have N:=zH I;have f:Below w.heap.size w (w.alloc (.cells #[] 43)):=(Below.refl _ _).alloc (Nat.le_refl _) _;have O:zI (∀ j u,xs[j]?=some u→(w.alloc (.cells #[] 43)).cell? ((⟨g,0,none⟩:Addr).add j)=some u):=zH (fun j u S=>by
   have:=World.ownsRow.cells b (g:=g) rfl j u S;rw[hAl,Nat.zero_add] at this ⊢;exact(f.cell (p:=⟨g,j,none⟩) R).trans this)
  have y:(w.alloc (.cells #[] 43)).ownsRow w.heap.size 43 2 (.slice (some ⟨w.heap.size,0,none⟩) 0 0) 0 []:=⟨rfl,.inr ⟨w.heap.size,0,#[],rfl,Nat.le_refl _,heap_alloc_new w _,Nat.le_refl _,Nat.zero_le _,rfl,rfl⟩⟩;have z:=zH f;have s:=f.size;clear f M J K b m q I;have qT:=fun(w:World)=>Lib.run_eql_slice_nil (P:=Tryz.prog) w 69 43 (some ⟨g,0,none⟩) n d 0 0 Tryz.underlying69;go_enter Tryz.func40,Tryz.ntmps40;go_wp2_with (at_builtin;go_must (refine wpList_append_own _ rfl (.tmp 5) (.tmp 6) 69 rfl w.heap.size 43 i0 _ 2 16 Tryz.underlying69 E.o F.o G.o H.o (by rfl) (by decide) _ _ _ (by rfl) y ⟨g,0,none⟩ n d xs (by rfl) B.o O.o N.o (by unfold maxLen;omega) (by omega) s ?_);go_must (intro v2 w2 a l _);obtain⟨VA2,VC2,rfl⟩:=hAk a;have D:=zH a;have C:=zH l;clear a l);go_ret;refine⟨VA2,VC2,?_,?_,z.o.grown C.o s (fun k T=>by cases T;exact Nat.le_refl _)⟩
  ·simp
  ·have:=D.o;simpa using this
theorem hNj (rho:Nat→Rq):∀ n,∀ u∈resL rho n,u.oneCell'=true
 |0,u,h=>by cases h
 |n+1,u,h=>by
  rcases List.mem_append.1 h with h | h
  ·exact hNj rho n u h
  ·simp at h;rcases h with rfl | rfl<;>rfl
theorem hLz {o:Tags} {rho:Nat→Rq} {b:Nat} {z:CB} {c:SCli} (j:c.acc≤100) (w:World) (h:CliAt w o rho b z c) :
  Calls Tryz.prog 11 #[.pointer (some ⟨b,0,none⟩)] w fun e w'=>(∃ A cc,e=.returned (.slice A c.acc cc))∧Below w.heap.size w w':=by
 obtain⟨xs,g,d⟩:=h.acc;have a:=zH (hK3 z.A c.acc z.ac xs o (tg 4 6) w (by omega) g d);have x10:w.cell? ⟨b,10,none⟩=some (.slice z.A c.acc z.ac):=h.cell 10 rfl;clear h g d j;go_enter Tryz.func11,Tryz.ntmps11;go_wp2_with fail;refine a.o.mono ?_;rintro e w' ⟨A,cc,rfl,_,f⟩;have i:=zH f;clear f x10;go_wp2_with fail;go_ret;exact⟨⟨A,cc,rfl⟩,i.o⟩
theorem hOn {o:Tags} {rho:Nat→Rq} {b:Nat} {z:CB} {c:SCli} (i:c.acc≤100) (w:World) (h:CliAt w o rho b z c) :
  Calls Tryz.prog 16 #[.pointer (some ⟨b,0,none⟩)] w fun e w'=>(∃ A cc,e=.returned (.slice A c.acc cc)∧w'.ownsRow w.heap.size 43 2 (.slice A c.acc cc) c.acc (resL rho c.acc))∧Below w.heap.size w w':=by
 have f:=zH (hK4 z.R c.acc z.rc (resL rho c.acc) o (tg 4 8) w (by omega) h.res (hNj rho _));have x11:w.cell? ⟨b,11,none⟩=some (.slice z.R c.acc z.rc):=h.cell 11 rfl;clear h i;go_enter Tryz.func16,Tryz.ntmps16;go_wp2_with fail;refine f.o.mono ?_;rintro e w' ⟨A,cc,rfl,a,g⟩;have d:=zH (And.intro a g);clear a g x11;go_wp2_with fail;go_ret;exact⟨⟨A,cc,rfl,d.o.1⟩,d.o.2⟩
def cli0:SCli:=⟨none,0,false,[],0⟩
theorem hW8 {rho:Nat→Rq} (o:Tags) (A:Option Addr) (c:Nat) (w:World) (s:Mem w A c) :
  Calls Tryz.prog 23 #[.int .i64 1,.agg #[.int .i64 0,.slice A 4 c]] w fun e w'=>∃ b z o',e=.returned (.tuple #[.pointer (some ⟨b,0,none⟩),.int .i64 0])∧CliAt w' o' rho b z cli0∧(∀ x,x<w.heap.size→o' x=o x)∧w.heap.size≤b∧Below w.heap.size w w':=by
 have g:=(Below.refl w.heap.size w).alloc (Nat.le_refl _) (.cells #[.int .i64 0,.slice A 4 c] 31);have a:=zH g;have i:=zH (heap_alloc_new w (.cells #[.int .i64 0,.slice A 4 c] 31));have f:=zH (hUp (tg 4 3) A c o _ (s.keep g));have c0:=(zR _ w.heap.size 0 _ _ _ i.o).trans (show _=some (Value.int .i64 0) from rfl);have c1:=(zR _ w.heap.size 1 _ _ _ i.o).trans (show _=some (Value.slice A 4 c) from rfl);clear g s;go_enter Tryz.func23,Tryz.ntmps23;go_wp2_with fail;generalize w.alloc _=w1 at a i f c0 c1 ⊢;refine f.o.mono ?_;rintro e w2 ⟨T,o2,rfl,m,k,r,l⟩;have d:=zH (zB a.o k);have p:zI (∀ x,x<w.heap.size→o2 x=o x):=zH (fun x j=>l x (Nat.lt_of_lt_of_le j a.o.size));have q:=zH m;clear c0 c1 m k r l f a i;go_wp2_with fail;go_ret2;have n:=(Below.refl w2.heap.size w2).alloc (Nat.le_refl _) (.cells (cliC rho ⟨T,none,none,0,none,0⟩ cli0) 99);have t:=heap_alloc_new w2 (.cells (cliC rho ⟨T,none,none,0,none,0⟩ cli0) 99);have u:=Tags.ext_old o2 w2.heap.size (tg 4 1);refine⟨w2.heap.size,⟨T,none,none,0,none,0⟩,o2.ext w2.heap.size (tg 4 1),rfl,?_,fun x j=>(u x (Nat.lt_of_lt_of_le j d.o.size)).trans (p.o x j),d.o.size,?_⟩
 ·have hc:CliAt (w2.alloc (.cells (cliC rho ⟨T,none,none,0,none,0⟩ cli0) 99)) (o2.ext w2.heap.size (tg 4 1)) rho w2.heap.size ⟨T,none,none,0,none,0⟩ cli0:=
   ⟨⟨t,Tags.ext_new _ _ _ _ (Nat.le_refl _)⟩,q.o.fix (P:=fun _=>True) (Fix.below n u) trivial trivial,(fun h=>by cases h),⟨[],Row.nil _ _ _ _ _,by simp⟩,Row.nil _ _ _ _ _⟩
  have e3:wrq rho 0=zeroRq:=if_pos rfl;unfold cliC at hc;rw[show SCli.cop cli0=0 from rfl,e3] at hc;exact hc
 ·exact d.o.trans (((Below.refl w2.heap.size w2).alloc (Nat.le_refl _) _).mono d.o.size)
abbrev fnV (n:Nat):Value:=.func (.func n) #[] #[]
def deedL:List KV:=[(.int .i64 1,fnV 219),(.int .i64 2,fnV 220),(.int .i64 3,fnV 221),(.int .i64 4,fnV 222),(.int .i64 5,fnV 223),(.int .i64 6,fnV 224),(.int .i64 7,fnV 225),(.int .i64 9,fnV 226),(.int .i64 10,fnV 227)]
def deedF:Nat→Option Nat
 |1=>some 219
 |2=>some 220
 |3=>some 221
 |4=>some 222
 |5=>some 223
 |6=>some 224
 |7=>some 225
 |9=>some 226
 |_=>none
theorem hXa (k n:Nat) (h:deedF k=some n):∃ l1 l2,deedL=l1++(Value.int .i64 k,fnV n)::l2:=by
 unfold deedF at h;split at h
 ·injection h with h;subst h;exact⟨deedL.take 0,deedL.drop 1,rfl⟩
 ·injection h with h;subst h;exact⟨deedL.take 1,deedL.drop 2,rfl⟩
 ·injection h with h;subst h;exact⟨deedL.take 2,deedL.drop 3,rfl⟩
 ·injection h with h;subst h;exact⟨deedL.take 3,deedL.drop 4,rfl⟩
 ·injection h with h;subst h;exact⟨deedL.take 4,deedL.drop 5,rfl⟩
 ·injection h with h;subst h;exact⟨deedL.take 5,deedL.drop 6,rfl⟩
 ·injection h with h;subst h;exact⟨deedL.take 6,deedL.drop 7,rfl⟩
 ·injection h with h;subst h;exact⟨deedL.take 7,deedL.drop 8,rfl⟩
 ·cases h
theorem hBt (f:Nat) (h:f<1000):keyOf Tryz.prog 3 (.int .i64 f)=some (.int .i64 f):=hCv f (by omega)
theorem hYz (k n:Nat) (d:deedF k=some n) (w:World):Calls Tryz.prog 212 #[.int .i64 k] w fun e w'=>e=.returned (fnV n)∧Below w.heap.size w w':=by
 obtain⟨l1,l2,f⟩:=hXa k n d;have h:=@run_makeMap Tryz.prog;have a:=(Below.refl w.heap.size w).alloc (Nat.le_refl _) (.map #[] 0);have m0:=MpK.empty (k:=3) (heap_alloc_new w (.map #[] 0));obtain⟨w1,p1,m1,g1⟩:=hAs hAh Tryz.underlying328 m0 (show keyOf Tryz.prog 3 (.int .i64 1)=some (.int .i64 1) from hBt 1 (by omega)) (fnV 219) (by simp);obtain⟨w2,p2,m2,g2⟩:=hAs hAh Tryz.underlying328  m1 (show keyOf Tryz.prog 3 (.int .i64 2)=some (.int .i64 2) from hBt 2 (by omega)) (fnV 220) (by simp);obtain⟨w3,p3,m3,g3⟩:=hAs hAh Tryz.underlying328  m2 (show keyOf Tryz.prog 3 (.int .i64 3)=some (.int .i64 3) from hBt 3 (by omega)) (fnV 221) (by simp);obtain⟨w4,p4,m4,g4⟩:=hAs hAh Tryz.underlying328  m3 (show keyOf Tryz.prog 3 (.int .i64 4)=some (.int .i64 4) from hBt 4 (by omega)) (fnV 222) (by simp);obtain⟨w5,p5,m5,g5⟩:=hAs hAh Tryz.underlying328  m4 (show keyOf Tryz.prog 3 (.int .i64 5)=some (.int .i64 5) from hBt 5 (by omega)) (fnV 223) (by simp);obtain⟨w6,p6,m6,g6⟩:=hAs hAh Tryz.underlying328  m5 (show keyOf Tryz.prog 3 (.int .i64 6)=some (.int .i64 6) from hBt 6 (by omega)) (fnV 224) (by simp);obtain⟨w7,p7,m7,g7⟩:=hAs hAh Tryz.underlying328  m6 (show keyOf Tryz.prog 3 (.int .i64 7)=some (.int .i64 7) from hBt 7 (by omega)) (fnV 225) (by simp);obtain⟨w8,p8,m8,g8⟩:=hAs hAh Tryz.underlying328  m7 (show keyOf Tryz.prog 3 (.int .i64 9)=some (.int .i64 9) from hBt 9 (by omega)) (fnV 226) (by simp);obtain⟨w9,p9,m9,g9⟩:=hAs hAh Tryz.underlying328  m8 (show keyOf Tryz.prog 3 (.int .i64 10)=some (.int .i64 10) from hBt 10 (by omega)) (fnV 227) (by simp);have g:=hAm (w:=w9) (l1:=l1) (l2:=l2) false hAh Tryz.underlying328 (show MpK 3 w9 w.heap.size _ by rw[←f];exact m9);simp only[Bool.false_eq_true,if_false] at g;have c:=zH (hAj (g1.trans (g2.trans (g3.trans (g4.trans (g5.trans (g6.trans (g7.trans (g8.trans g9)))))))) (by simp) (Nat.le_refl w.heap.size));have b:=zH a;clear a m0 m1 m2 m3 m4 m5 m6 m7 m8 m9 g1 g2 g3 g4 g5 g6 g7 g8 g9 f d;go_enter Tryz.func212,Tryz.ntmps212;go_wp2_with fail;go_ret;exact⟨rfl,b.o.trans c.o⟩
theorem hI5 {o:Tags} {rho:Nat→Rq} {b:Nat} {z:RB} {r:SRep} {be m:Nat} (w:World) (h:RepF w o rho b z r be m) :
  Calls Tryz.prog 213 #[.pointer (some ⟨b,0,none⟩)] w fun e w'=>∃ v xs,e=.returned v∧Row w' o (tg r.id 11) 92 19 v r.o.length xs∧Lst (PkV w' o) (r.o.map (pkF rho r.id)) xs∧RepF w' o rho b { z with O:=none,oc:=0 } { r with o:=[] } be m∧ChgR (r.id+1) o o w w':=by
 have x86:=h.c86;have x84:=h.c84;have f86:=h.fz 86;obtain⟨xs,c,k⟩:∃ xs,Row w o (tg r.id 11) 92 19 (.slice z.O r.o.length z.oc) r.o.length xs∧Lst (PkV w o) (r.o.map (pkF rho r.id)) xs:=h.part 11;obtain⟨j,q,d⟩:=h.blk.set 86 (.slice none 0 0);have f:Fix (fun t=>t≠tg r.id 1) o o w (w.setCell ⟨b,86,none⟩ (.slice none 0 0)):=d.fix (by simp);have i:=zH (c.fix f (by unfold tg;omega));have g:=zH (hGx k f (by unfold tg;omega));have n:=zH (h.upd (z':={ z with O:=none,oc:=0 }) (r':={ r with o:=[] }) (be':=be) (m':=m) [1,11] (d.fix (P:=fun t=>∀ p∈[1,11],t≠tg r.id p) (by simp)) { h.num with o:=by have:=h.num.o;show 0+m≤3000;omega } (fun p a=>by rcases p with _|_|_|_|_|_|_|_|_|_|_|_|_|_|p<;>first | exact absurd (by decide) a | rfl) (fun p a=>by
  rcases List.mem_cons.1 a with rfl | a
  ·show Blk _ _ (tg r.id 1) _ _ _;exact j
  ·rw[List.mem_singleton.1 a];exact⟨[],Row.nil _ _ _ _ _,rfl⟩))
 have l:=zH (Chg.r d (by decide):ChgR (r.id+1) o o w _);have x84':=(World.cell?_setCell_other w ⟨b,86,none⟩ ⟨b,84,none⟩ (.slice none 0 0) (by simp)).trans x84;clear h c k j q d f;go_enter Tryz.func213,Tryz.ntmps213;go_wp2_with fail;go_ret;exact⟨_,xs,rfl,i.o,g.o,n.o,l.o⟩
end Go.Proofs.YtlibpcllceepkaaGreat
