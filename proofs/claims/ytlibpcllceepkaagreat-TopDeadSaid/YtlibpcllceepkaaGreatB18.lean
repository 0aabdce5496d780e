/- Joined texts of the claim. No condition. -/
import Derived.Test.YtlibpcllceepkaaGreatB17
import Derived.Lib.SliceRun
import Derived.Laws.IdiomCopy
import Derived.Great.BuildSlice
namespace Go.Proofs.YtlibpcllceepkaaGreat
open Go.RowKit
set_option maxRecDepth 100000
set_option linter.unusedVariables false
set_option linter.unusedSimpArgs false
set_option maxHeartbeats 16000000
def linkS (x:Option (List Nat)):List St:=match x with
 |none=>[]
 |some bys=>sgl bys (confT 1)
def FM.terms (m:FM):List St:=m.sigs++(m.chs.map fun x=>((x.1:Int),x.2.2))++linkS m.links
def TkAt (w:World) (ob base:Nat) (l:List St):Prop:=∃ VA vc,w.heap[ob]?=some (.cells #[.slice VA l.length vc] 44 (0,0))∧Own1 w base 114 2 (.slice VA l.length vc) l.length (l.flatMap encS)
theorem TkAt.below {w w':World} {ob base:Nat} {l:List St} (h:TkAt w ob base l) (b:Below w.heap.size w w'):TkAt w' ob base l:=by
 obtain⟨VA,vc,a,c⟩:=h;exact⟨VA,vc,(b.block _ (zL a)).trans a,c.below b⟩
theorem hNy (ob base:Nat) (xs l:List St) (A:Option Addr) (n c:Nat) (o:Tags) (h:n≤1000) (j:xs.length≤1000) (d:base≤ob) (w:World) (a:base≤w.heap.size) (i:TkAt w ob base xs) (e:SlD encS w o A n c l) :
  Calls Tryz.prog 97 #[.slice A n c,.pointer (some ⟨ob,0,none⟩)] w fun r w'=>r=.returned (.tuple #[])∧TkAt w' ob base (xs++l)∧Below base w w'∧KeepS w w' ob:=by
 obtain⟨VA,vc,f,g⟩:=i;refine(hZp ob base VA xs.length vc _ A n c l o h j d w a f g e).mono ?_;rintro r w' ⟨rfl,⟨VA',vc',g1,g2⟩,g3⟩;have b:(xs++l).length=xs.length+n:=by rw[List.length_append,e.1]
 exact⟨rfl,⟨VA',vc',by rw[b];exact g1,by rw[b,List.flatMap_append];exact g2⟩,g3⟩
theorem hYi (m:FM) (z:Sls) (o:Tags) (hU:m.sigs.length≤16) (hJ:m.chs.length≤10) (hO:(linkS m.links).length≤16) (w:World) (h:m.At w o z) :
  Calls Tryz.prog 62 #[.agg (m.cells z)] w fun r w'=>(∃ A c,r=.returned (.slice A m.terms.length c)∧w'.ownsRow w.heap.size 114 2 (.slice A m.terms.length c) m.terms.length (m.terms.flatMap encS))∧Below w.heap.size w w':=by
 obtain⟨zA1,zc1,zA2,zc2,zA3,zc3,zA4,zc4⟩:=z;have HT:zI (m.terms=m.sigs++(m.chs.map fun x=>((x.1:Int),x.2.2))++linkS m.links):=zH rfl;generalize m.terms=T at HT ⊢;obtain⟨a1,a2,hz,e⟩:=hAp w (.cells (m.cells ⟨zA1,zc1,zA2,zc2,zA3,zc3,zA4,zc4⟩) 48) (.cells #[.slice none 0 0] 44);have C:SlD encS w o zA2 m.sigs.length zc2 m.sigs:=h.sigs;have H:SlD encCh w o zA3 m.chs.length zc3 m.chs:=h.chs;have Z:(match m.links with | none=>zA4=none∧zc4=0 | some bys=>LinkD w o zA4 zc4 bys):=h.links;have k14:∀ W:World,W.heap[w.heap.size]?=some (.cells (m.cells ⟨zA1,zc1,zA2,zc2,zA3,zc3,zA4,zc4⟩) 48 (0,0))→W.cell? ⟨w.heap.size,14,none⟩=some (.slice zA2 m.sigs.length zc2):=fun W X=>(zR W w.heap.size 14 _ _ _ X).trans rfl;have k15:∀ W:World,W.heap[w.heap.size]?=some (.cells (m.cells ⟨zA1,zc1,zA2,zc2,zA3,zc3,zA4,zc4⟩) 48 (0,0))→W.cell? ⟨w.heap.size,15,none⟩=some (.slice zA3 m.chs.length zc3):=fun W X=>(zR W w.heap.size 15 _ _ _ X).trans rfl;have k16:∀ W:World,W.heap[w.heap.size]?=some (.cells (m.cells ⟨zA1,zc1,zA2,zc2,zA3,zc3,zA4,zc4⟩) 48 (0,0))→W.cell? ⟨w.heap.size,16,none⟩=some (.slice zA4 (if m.links.isSome then 1 else 0) zc4):=fun W X=>(zR W w.heap.size 16 _ _ _ X).trans rfl;have N:=zH k14;have O:=zH k15;have Q:=zH k16;have U:=zH (show TkAt _ (w.heap.size+1) w.heap.size [] from⟨none,0,a2,Own1.nil _ _ _ _⟩);have Y:w.heap.size≤w.heap.size+1:=by omega
 have HM:=zH a1;have HB:=zH e;have HF:zI (Fix (fun _=>True) o o w ((w.alloc (.cells (m.cells ⟨zA1,zc1,zA2,zc2,zA3,zc3,zA4,zc4⟩) 48)).alloc (.cells #[.slice none 0 0] 44))):=zH (Fix.same e);obtain⟨n2,Ha⟩:∃ n,n=m.sigs.length:=⟨_,rfl⟩;obtain⟨n3,Hb⟩:∃ n,n=m.chs.length:=⟨_,rfl⟩;obtain⟨n4,Hc⟩:∃ n,n=(if m.links.isSome then 1 else 0):=⟨_,rfl⟩;rw[←Ha] at C N hU;rw[←Hb] at H O hJ;rw[←Hc] at Q;have au:=N.o _ HM.o;have aL:zc2≤9223372036854775807:=C.2.2.1;have aM:zc3≤9223372036854775807:=H.2.2.1;have aN:zc4≤9223372036854775807:=by
  revert Z
  cases m.links with
  |none=>exact fun h=>by rw[h.2];omega
  |some bys=>exact fun h=>h.2.1
 have aK:=zH C;have ah:=zH H;have aj:=zH Z;have R:=zH Hc;have Hj:=zH Ha;have F:=zH Hb;have Hm:=zH (hNy (w.heap.size+1) w.heap.size [] m.sigs zA2 n2 zc2 o (by omega) (by simp) Y _ (by omega) U.o (C.fix HF.o trivial));have az:zA2=none∨∃ a,zA2=some a:=by cases zA2<;>simp
 clear h C H Z a1 a2 e k14 k15 k16 Ha Hb Hc;go_enter Tryz.func62,Tryz.ntmps62;go_wp2_with fail;clear au;refine Hm.o.mono ?_;rintro r w1 ⟨rfl,Hw,Hq,Ht⟩;have Hh:=zH (Ht _ _ _ _ HM.o (by decide) (by omega));have ap:=zH (show TkAt w1 (w.heap.size+1) w.heap.size m.sigs from Hw);have ab:=zH (HB.o.trans Hq);clear Hm Ht Hq Hw HM HB HF U az;have av:=O.o _ Hh.o;go_wp2_with fail;clear av;go_loopw [6,8,19] (fun _ _ j wr=>∃ k:Nat,k≤n3∧j=.int .i64 k∧zI (TkAt wr (w.heap.size+1) w.heap.size (m.sigs++((m.chs.take k).map fun x=>((x.1:Int),x.2.2))))∧zI (wr.heap[w.heap.size]?=some (.cells (m.cells ⟨zA1,zc1,zA2,zc2,zA3,zc3,zA4,zc4⟩) 48 (0,0)))∧zI (Below w.heap.size w wr)) (fun _ _ j _=>n3 - (intOf j).toNat)
 case atStart=>exact⟨0,by omega,rfl,zH (by simpa using ap.o),Hh,ab⟩
 case round=>
  obtain⟨k,hk,rfl,g,J,G⟩:=hrel;have q0:(0:Int)≤(k:Int):=by omega
  by_cases hk3:k<n3
  ·have q1:(k:Int)<(n3:Int):=by omega
   have q2:(k:Int)<100:=by omega
   have Hr:=ah.o.fix (P:=fun _=>True) (Fix.same (o:=o) G.o) trivial;obtain⟨B2,off2,hA,aB,_,d⟩:=Hr.at 5 hCh (0,0,ByteArray.empty) (by omega);obtain⟨⟨f,v,t⟩,l⟩:∃ x,x=m.chs.getD k (0,0,ByteArray.empty):=⟨_,rfl⟩;have e0:wr.cell? ⟨B2,off2+k*5,none⟩=some (.int .i64 f):=d k 0 _ hk3 (by omega) (by rw[←l];rfl);have e1:wr.cell? ⟨B2,off2+k*5+1,none⟩=some (.int .i64 v):=d k 1 _ hk3 (by omega) (by rw[←l];rfl);have e2:wr.cell? ⟨B2,off2+k*5+2,none⟩=some (.slice none 0 0):=d k 2 _ hk3 (by omega) (by rw[←l];rfl);have e3:wr.cell? ⟨B2,off2+k*5+3,none⟩=some (.int .i64 f):=d k 3 _ hk3 (by omega) (by rw[←l];rfl);have e4:wr.cell? ⟨B2,off2+k*5+4,none⟩=some (.string t):=d k 4 _ hk3 (by omega) (by rw[←l];rfl);have HX:=zH l;clear Hr d l;subst hA;obtain⟨a1,a2,aF,e⟩:=hAp wr (.cells #[.int .i64 f,.int .i64 v,.slice none 0 0,.int .i64 f,.string t] 208) (.cells #[.int .i64 f,.string t] 114);have Hl:=zH a2;have ae:=zH e;have Hp:=zH (g.o.below e);have Hi:=zH ((e.block _ (zL J.o)).trans J.o);have M:=zH (zB G.o e);clear a1 a2 e g J G;have ws:=zH (show wr.heap.size<(wr.alloc (.cells #[.int .i64 f,.int .i64 v,.slice none 0 0,.int .i64 f,.string t] 208)).heap.size by simp);have ag:=zH (heap_alloc_new wr (.cells #[.int .i64 f,.int .i64 v,.slice none 0 0,.int .i64 f,.string t] 208));have Hk:=zH (show SlD encS ((wr.alloc (.cells #[.int .i64 f,.int .i64 v,.slice none 0 0,.int .i64 f,.string t] 208)).alloc (.cells #[.int .i64 f,.string t] 114)) (fun _=>0) (some ⟨wr.heap.size+1,0,none⟩) 1 1 [((f:Int),t)] from⟨rfl,Nat.le_refl _,by decide,(fun h=>by cases h),fun ad ea=>by
    cases ea;refine⟨wr.heap.size+1,0,rfl,aF,rfl,fun j u hj=>?_⟩;rw[Nat.zero_add];exact(zR _ _ j _ _ _ Hl.o).trans (by simpa[encS] using hj)⟩)
   have p:=zH (hNy (w.heap.size+1) w.heap.size (m.sigs++((m.chs.take k).map fun x=>((x.1:Int),x.2.2))) [((f:Int),t)] (some ⟨wr.heap.size+1,0,none⟩) 1 1 (fun _=>0) (by omega) (by rw[List.length_append,List.length_map,List.length_take,←Hj.o,←F.o];omega) Y _ (Nat.le_trans M.o.size (Nat.le_refl _)) Hp.o Hk.o);go_wp2_with fail;go_loopw [8,26] (fun _ j wi=>j=.int .i64 0∧wi=wr.alloc (.cells #[.int .i64 f,.int .i64 v,.slice none 0 0,.int .i64 f,.string t] 208)) (fun _ _ _=>0)
   case atStart=>exact⟨rfl,rfl⟩
   case round=>
    obtain⟨rfl,rfl⟩:=hrel;clear e0 e1 e2 e3 e4;go_wp2_with fail;refine p.o.mono ?_;rintro r w2 ⟨rfl,D,s,I⟩;have am:=zH (I _ _ _ _ Hi.o (by decide) (by omega));have S:=zH D;have L:=zH (M.o.trans s);have Hz:zI (m.sigs++((m.chs.take (k+1)).map fun x=>((x.1:Int),x.2.2))=m.sigs++((m.chs.take k).map fun x=>((x.1:Int),x.2.2))++[((f:Int),t)]):=zH (by
     have Hu:k<m.chs.length:=by rw[←F.o];exact hk3
     rw[List.take_succ_eq_append_getElem Hu,List.map_append,←List.append_assoc];have l:=HX.o;rw[List.getD_eq_getElem?_getD,List.getElem?_eq_getElem Hu] at l;rw[show m.chs[k]=(f,v,t) from l.symm];rfl)
    clear D s I p Hk ag Hi Hp M Hl ae;go_wp2_with fail;exact⟨⟨k+1,by omega,by go_num,by rw[Hz.o];exact S,am,L⟩,by simp[intOf];omega⟩
  ·obtain rfl:k=n3:=by omega
   clear hk3;have aw:=Q.o _ J.o;have aq:=zH (show TkAt wr (w.heap.size+1) w.heap.size (m.sigs++(m.chs.map fun x=>((x.1:Int),x.2.2))) by
    have:=g.o
    rwa [F.o,List.take_length] at this)
   clear g;go_wp2_with fail;clear aw;go_loopw [10,44] (fun _ j wi=>∃ i:Nat,i≤n4∧j=.int .i64 i∧zI (TkAt wi (w.heap.size+1) w.heap.size (m.sigs++(m.chs.map fun x=>((x.1:Int),x.2.2))++(if i=0 then [] else linkS m.links)))∧zI (Below w.heap.size w wi)) (fun _ j _=>n4 - (intOf j).toNat)
   case atStart=>exact⟨0,by omega,rfl,zH (by simpa using aq.o),G⟩
   case round=>
    obtain⟨i,hi,rfl,g,y⟩:=hrel;have q0:(0:Int)≤(i:Int):=by omega
    have aI:n4≤1:=by rw[R.o];split<;>omega
    by_cases hi4:i<n4
    ·obtain rfl:i=0:=by omega
     have K:m.links.isSome=true:=by
      have h:=R.o;by_cases hs:m.links.isSome=true
      ·exact hs
      ·rw[if_neg hs] at h;omega
     obtain⟨bys,E⟩:=Option.isSome_iff_exists.1 K;have hL:=aj.o;rw[E] at hL;have V:linkS m.links=sgl bys (confT 1):=by rw[E];rfl
     have q1:(0:Int)<(n4:Int):=by omega
     have aD:=hL.fix (P:=fun _=>True) (Fix.same (o:=o) y.o) trivial;obtain⟨l1,l2,B2,off2,A,c,B,nn,dd,hA,aB,_,e0,e1,e2,aE,Hf,hq⟩:=aD;subst hA;have q:=(Below.refl wr.heap.size wr).alloc (Nat.le_refl _) (.cells #[.int .i64 1,.slice A 4 c,.slice B nn dd] 120);have aO:nn≤16:=by rw[←Hf.1,←V];exact hO
     have p:=zH (hNy (w.heap.size+1) w.heap.size (m.sigs++(m.chs.map fun x=>((x.1:Int),x.2.2))++[]) (sgl bys (confT 1)) B nn dd o (by omega) (by rw[List.append_nil,List.length_append,List.length_map,←Hj.o,←F.o];omega) Y _ (Nat.le_trans y.o.size q.size) (g.o.below q) (Hf.fix (P:=fun _=>True) (Fix.same (o:=o) q) trivial));have Hg:=zH (zB y.o q);have ak:=zH V;have x1:(1:Int)≤(zc4:Int):=by omega
     clear hL aE Hf hq q E K y g V;go_wp2_with fail;refine p.o.mono ?_;rintro r w2 ⟨rfl,D,s,I⟩;have S:=zH (show TkAt w2 (w.heap.size+1) w.heap.size (m.sigs++(m.chs.map fun x=>((x.1:Int),x.2.2))++(if 0+1=0 then [] else linkS m.links)) by
      rw[if_neg (by omega),ak.o];simpa using D)
     have L:=zH (Hg.o.trans s);clear D s I p Hg e0 e1 e2;go_wp2_with fail;exact⟨⟨0+1,by omega,by go_num,S,L⟩,by simp[intOf];omega⟩
    ·obtain rfl:i=n4:=by omega
     have Hx:=zH (show TkAt wr (w.heap.size+1) w.heap.size T by
      rw[HT.o];have h:=g.o;have h4:=R.o;by_cases h0:i=0
      ·rw[if_pos h0] at h;have:m.links=none:=by
        cases hm:m.links with
        |none=>rfl
        |some b=>rw[hm] at h4;simp at h4;omega
       rw[this];simpa[linkS] using h
      ·rw[if_neg h0] at h;exact h)
     obtain⟨VA,vc,h1,h2⟩:=Hx.o;have c0:=zQ wr (w.heap.size+1) 0 (.slice VA T.length vc) h1;have an:=zH h2.row;clear h1 h2 hi4 g;go_wp2_with fail;go_ret;exact⟨⟨VA,vc,rfl,an.o⟩,y.o⟩
def zeroPk:List Value:=[.int .i64 0,.int .i64 0,.int .i64 0,.int .i64 0,.int .i64 0,.int .i64 0,.int .i64 0,.int .i64 0,.int .i64 0,.string ⟨#[]⟩,.float .f64 0,.int .i64 0,.int .i64 0,.float .f64 0,.string ⟨#[]⟩,.slice none 0 0,.slice none 0 0,.slice none 0 0,.slice none 0 0]
theorem hYo (w:World):(zeroValue 92).run Tryz.prog w=.ok (.agg zeroPk.toArray) w:=by kernel_rfl
theorem hD0:(Tryz.prog.info? 92).map (fun i=>(i.zero,i.size,i.bytes))=some (some (.agg zeroPk.toArray),19,232):=by kernel_rfl
theorem hAx:∀ (vs:List Value) (o:Nat) (w:World) (b:Nat) (cs:Array Value) (T:TypeId),w.heap[b]?=some (.cells cs T (0,0))→∃ cs':Array Value,(w.setCells b o vs).heap[b]?=some (.cells cs' T (0,0))∧cs'.size=cs.size∧w.grownBy (w.setCells b o vs) (some b)
 |[],o,w,b,cs,T,h=>⟨cs,h,rfl,hAa (Below.refl _ _) _⟩
 |v::vs,o,w,b,cs,T,h=>by
  have a:=heap_setCell_same w b o _ _ v h;obtain⟨cs',k1,k2,k3⟩:=hAx vs (o+1) (w.setCell ⟨b,o,none⟩ v) b _ T a;have c:w.grownBy (w.setCell ⟨b,o,none⟩ v) (some b):=hAb (hAa (Below.refl _ _) _) (p:=⟨b,o,none⟩) (.inl rfl) _;exact⟨cs',k1,by rw[k2];simp,c.trans k3⟩
theorem hDv (w:World) (t e ty:TypeId) (zs:List Value) (k:Tryz.prog.underlying t=some (.slice e)) (l:(zeroValue e).run Tryz.prog w=.ok (.agg zs.toArray) w) (d:∀ z∈zs,z.oneCell'=true) (b o c:Nat)
  (hc:∀ j,j<zs.length→(w.cell? ⟨b,o+j,none⟩).isSome=true) (h:∀ j,j<zs.length→w.frozen? ⟨b,o+j,none⟩=false) :
  (Builtin.clear_ #[t] ty #[.slice (some ⟨b,o,none⟩) 1 c]).run Tryz.prog w=.ok (.tuple #[]) (w.setCells b o zs):=by
 have g:(Builtin.zeroCells (Value.agg zs.toArray).cells 1).toList=zs:=by
  simp[Builtin.zeroCells,Value.cells];apply List.ext_getElem
  ·simp
  ·intro i d f;simp[Nat.mod_eq_of_lt f,List.getElem?_eq_getElem f]
 have a:=run_storeCells_cells (P:=Tryz.prog) b o zs 0 w (by simpa using hc) (by simpa using h) d;simp only[Nat.add_zero] at a;simp[Builtin.clear_,run_underlying k,l,g,a]
theorem hZv (o:Tags) (i:Nat) (A:Option Addr) (n c:Nat) (xs:List Value) (Z:1≤n) (w:World) (h:Row w o i 92 19 (.slice A n c) n xs) (M:∀ u∈xs,u.oneCell'=true) :
  Calls Tryz.prog 76 #[.slice A n c,.int .i64 0,.int .i64 1] w fun r w'=>r=.returned (.slice A (n - 1) c)∧Row w' o i 92 19 (.slice A (n - 1) c) (n - 1) (xs.drop 19)∧Chg i o o w w'∧∀ g off sp,A=some ⟨g,off,sp⟩→w.grownBy w' (some g):=by
 obtain⟨i0,I,Hc,O,Hf⟩:=info_parts hD0;have x:=h;obtain⟨⟨N,hr⟩,y⟩:=h;rcases hr with⟨_,T⟩ | ⟨g,cap,cur,hv,_,B,K,F,G,Hb⟩
 ·omega
 injection hv with e1 _ e3;subst e1;subst e3;have v:o g=i:=y g rfl;have m:∀ k u,xs[k]?=some u→w.cell? ⟨g,k,none⟩=some u:=fun k u d=>by
  have:=World.ownsRow.cells x.1 (g:=g) rfl k u d;rw[hAl,Nat.zero_add] at this;exact this
 have H:∀ k,w.frozen? ⟨g,k,none⟩=false:=fun k=>frozen_of_row w g k _ _ B;obtain⟨news,a⟩:=zN (xs.drop 19);have f:news.length=(n - 1)*19:=by rw[a,List.length_drop,N,Nat.sub_mul,Nat.one_mul]
 obtain⟨SA,X,Q⟩:∃ SA:Addr,(if c=1 then some (⟨g,0,none⟩:Addr) else some ⟨g,19,none⟩)=some SA∧zI (∀ t u,news[t]?=some u→w.drew.cell? (SA.add t)=some u):=by
  by_cases h:c=1
  ·refine⟨⟨g,0,none⟩,by simp[h],zH (fun t u b=>?_)⟩;have T:news.length=0:=by rw[f];have:n=1:=(by omega);rw[this]
   rw[List.length_eq_zero_iff.1 T] at b;simp at b
  ·refine⟨⟨g,19,none⟩,by simp[h],zH (fun t u b=>?_)⟩;rw[a,List.getElem?_drop] at b;rw[hAl];exact m _ u b
 have L:w.heap[g]?=some (.cells cur 92 (0,0)):=B;have z:cur.size=c*19:=G;have p:∀ k,k<c*19→(w.cell? ⟨g,k,none⟩).isSome=true:=fun k d=>by
  rw[zR w g k _ _ _ B,Array.getElem?_eq_getElem (by omega)];rfl
 have s1:=zH f;have s2:zI (∀ u∈news,u.oneCell'=true):=zH (fun u b=>M u (by rw[a] at b;exact List.mem_of_mem_drop b));have s3:zI (∀ t,t<news.length→(w.drew.cell? ⟨g,0+0*19+t,none⟩).isSome=true∧w.drew.frozen? ⟨g,0+0*19+t,none⟩=false):=zH (fun t D=>⟨by
  rw[show 0+0*19+t=t by omega];exact p t (by rw[f] at D;have:(n - 1)*19≤c*19:=Nat.mul_le_mul_right _ (by omega);omega),H _⟩)
 obtain⟨cs1,r1,r2,r3⟩:=hAx news (0+0*19) w.drew g cur _ L;obtain⟨W1,l⟩:=zN (w.drew.setCells g (0+0*19) news);rw[←l] at r1 r3;have q:∀ t u,news[t]?=some u→W1.cell? ⟨g,t,none⟩=some u:=fun t u b=>by
  obtain⟨D,Ha⟩:=List.getElem?_eq_some_iff.1 b;have:=World.cell?_setCells_in g news (0+0*19) w.drew (fun j P=>(s3.o j P).1) t D;rw[←l,show 0+0*19+t=t by omega,Ha] at this;exact this
 have E:∀ k,k<c*19→(W1.cell? ⟨g,k,none⟩).isSome=true:=fun k d=>by
  rw[zR W1 g k _ _ _ r1,Array.getElem?_eq_getElem (by omega)];rfl
 have C:(n - 1)*19+19≤c*19:=by
  have:n*19≤c*19:=Nat.mul_le_mul_right _ K;have:n*19=(n - 1)*19+19:=by omega
  omega
 have Y:=hDv W1 123 92 0 zeroPk Tryz.underlying123 (hYo W1) (by decide) g ((n - 1)*19) (c - (n - 1)) (fun j P=>E _ (by have:zeroPk.length=19:=rfl;omega)) (fun j P=>frozen_of_row W1 g _ _ _ r1);obtain⟨cs2,t1,t2,t3⟩:=hAx zeroPk ((n - 1)*19) W1 g cs1 _ r1;have s:∀ t u,news[t]?=some u→(W1.setCells g ((n - 1)*19) zeroPk).cell? ⟨g,t,none⟩=some u:=fun t u b=>by
  have D:=(List.getElem?_eq_some_iff.1 b).1;rw[World.cell?_setCells_out g zeroPk _ W1 ⟨g,t,none⟩ (fun _ _=>.inl (by simp only;omega))];exact q t u b
 have V:zI (Row (W1.setCells g ((n - 1)*19) zeroPk) o i 92 19 (.slice (some ⟨g,0,none⟩) (n - 1) c) (n - 1) news):=zH (by
  refine⟨⟨f,.inr ⟨g,c,cs2,rfl,Nat.zero_le _,t1,by omega,F,by omega,?_⟩⟩,fun k d=>by cases d;exact v⟩;apply List.ext_getElem?;intro k;by_cases d:k<(n - 1)*19
  ·have J:k<news.length:=by omega
   have e:=s k news[k] (List.getElem?_eq_getElem J);rw[zR _ g k _ _ _ t1] at e;rw[List.getElem?_take_of_lt d,Array.getElem?_toList,e,List.getElem?_eq_getElem J]
  ·rw[List.getElem?_eq_none (by rw[List.length_take];omega),List.getElem?_eq_none (by omega)])
 have W:zI (w.grownBy (W1.setCells g ((n - 1)*19) zeroPk) (some g)):=zH (by
  have r3':w.grownBy W1 (some g):=⟨r3.os,r3.tape,r3.output,r3.size,r3.block⟩;exact r3'.trans t3)
 have U:zI (Chg i o o w (W1.setCells g ((n - 1)*19) zeroPk)):=zH (by
  have r3':w.grownBy W1 (some g):=⟨r3.os,r3.tape,r3.output,r3.size,r3.block⟩;exact Chg.grown (r3'.trans t3) (fun k d _=>by cases d;exact v))
 rw[show(Value.slice (some ⟨g,(n - 1)*19,none⟩) 1 (c - (n - 1)))=.slice (some ⟨g,(n - 1)*19,none⟩) (n - (n - 1)) (c - (n - 1)) by rw[show n - (n - 1)=1 by omega]] at Y;have HN:=zH a;have HW:=zH l;have R:=zH I;have S:=zH O;have q1:(1:Int)≤(n:Int):=by omega
 have q2:(n:Int)≤(c:Int):=by omega
 have q3:n≤c:=K;have q4:1≤n:=Z;have q5:(c:Int)≤9223372036854775807:=by unfold maxLen at F;omega
 clear a l t1 t2 t3 r1 r2 r3 q s E C p L z m H v x N y B G Hb f M I Hc O Hf;go_enter Tryz.func76,Tryz.ntmps76;go_wp2_with fail;go_region_law (refine step_append_room rfl (.tmp 22) (.tmp 25) 123 rfl 92 i0 19 Tryz.underlying123 R.o S.o g 0 0 c (by simp[Act.eval,Act.put]) SA (n - 1) (c - 1) news (by simp[Act.eval,Act.put,X]) s1.o Q.o s2.o (by omega) s3.o ?_;rw[←HW.o])
 all_goals
  go_wp2_with fail;go_ret;exact⟨rfl,by rw[←HN.o];exact V.o,U.o,fun _ _ _ e=>by cases e;exact W.o⟩
abbrev PkT:=Nat×Nat×FM
def PkV (w:World) (o:Tags) (p:PkT) (cs:List Value):Prop:=∃ z,cs=.int .i64 p.1::.int .i64 p.2.1::(p.2.2.cells z).toList∧p.2.2.At w o z
theorem PkV.fix {P:Nat→Prop} {o o':Tags} {w w':World} {p:PkT} {cs:List Value} (h:PkV w o p cs) (f:Fix P o o' w w') (a:P 0):PkV w' o' p cs:=by
 obtain⟨z,e,h⟩:=h;exact⟨z,e,h.fix f a⟩
theorem PkV.len {w:World} {o:Tags} (p:PkT) (cs:List Value) (h:PkV w o p cs):cs.length=19:=by
 obtain⟨z,rfl,_⟩:=h;rfl
theorem PkV.one {w:World} {o:Tags} {p:PkT} {cs:List Value} (h:PkV w o p cs):∀ u∈cs,u.oneCell'=true:=by
 obtain⟨z,rfl,_⟩:=h;simp[FM.cells,Value.oneCell']
theorem Lst.one' {w:World} {o:Tags}:∀ {l:List PkT} {xs:List Value},Lst (PkV w o) l xs→∀ u∈xs,u.oneCell'=true
 |[],xs,h,u,hu=>by cases h;simp at hu
 |p::l,xs,⟨h,t,e,h1,h2⟩,u,hu=>by
  rw[e] at hu;rcases List.mem_append.1 hu with hu | hu
  ·exact h1.one u hu
  ·exact Lst.one' h2 u hu
structure LaneAt (w:World) (o:Tags) (i b bb mb:Nat) (l:List PkT):Prop where
 blk:∃ BA bn bc A c xs,Blk w o i b 131 #[.slice BA bn bc,.slice A l.length c,.pointer (some ⟨bb,0,none⟩)]∧Row w o i 92 19 (.slice A l.length c) l.length xs∧Lst (PkV w o) l xs
 book:BookAt w o i bb mb
 lim:l.length≤4096
theorem LaneAt.lt {w:World} {o:Tags} {i b bb mb:Nat} {l:List PkT} (h:LaneAt w o i b bb mb l):b<w.heap.size:=by
 obtain⟨_,_,_,_,_,_,a,_⟩:=h.blk;exact a.lt
theorem LaneAt.fix {P:Nat→Prop} {o o':Tags} {w w':World} {i b bb mb:Nat} {l:List PkT} (h:LaneAt w o i b bb mb l) (f:Fix P o o' w w') (hi:P i) (d:P 0):LaneAt w' o' i b bb mb l:=by
 obtain⟨BA,bn,bc,A,c,xs,e,g,j⟩:=h.blk;exact⟨⟨BA,bn,bc,A,c,xs,e.fix f hi,g.fix f hi,j.imp fun a u k=>k.fix f d⟩,h.book.fix f hi,h.lim⟩
theorem hVf (b bb mb i:Nat) (o:Tags) (l:List PkT) (w:World) (h:LaneAt w o i b bb mb l):Calls Tryz.prog 52 #[.pointer (some ⟨b,0,none⟩)] w fun r w'=>r=.returned (.int .i64 l.length)∧w=w':=by
 obtain⟨BA,bn,bc,A,c,xs,a,_⟩:=h.blk;have c1:=zQ w b 1 (.slice A l.length c) a.1;clear h a;go_enter Tryz.func52,Tryz.ntmps52;go_wp2_with fail;go_ret;exact⟨rfl,rfl⟩
theorem hSy (b bb mb i:Nat) (o:Tags) (l:List PkT) (d:l.length<4096) (w:World) (h:LaneAt w o i b bb mb l):Calls Tryz.prog 63 #[.pointer (some ⟨b,0,none⟩)] w fun r w'=>r=.returned (.bool false)∧w=w':=by
 obtain⟨BA,bn,bc,A,c,xs,a,_⟩:=h.blk;have c1:=zQ w b 1 (.slice A l.length c) a.1;have q:¬ (4096:Int)≤(l.length:Int):=by omega
 clear h a;generalize l.length=n at c1 q d;go_enter Tryz.func63,Tryz.ntmps63;go_wp2_with fail;go_ret;refine⟨?_,rfl⟩;first
  |rfl
  |(show Ending.returned (.bool (decide ((4096:Int)≤(n:Int))))=_;rw[decide_eq_false q])
  |(show Ending.returned (.bool (decide (4096≤n)))=_;rw[decide_eq_false (by omega)])
theorem hXm (b bb mb i:Nat) (o:Tags) (l:List PkT) (e:0<l.length) (w:World) (h:LaneAt w o i b bb mb l):Calls Tryz.prog 75 #[.pointer (some ⟨b,0,none⟩),.int .i64 0] w fun r w'=>r=.returned (.tuple #[.int .i64 0,.bool true])∧w=w':=by
 obtain⟨BA,bn,bc,A,c,xs,d,_⟩:=h.blk;have c1:=zQ w b 1 (.slice A l.length c) d.1;have a:=h.lim;clear h d;generalize l.length=n at c1 e a;have q0:¬ (n:Int)=0:=by omega
 have q1:(n:Int)≤4096:=by omega
 have q2:(0:Int)≤(n:Int):=by omega
 have q3:Int.tmod 0 (n:Int)=0:=Int.zero_tmod _;have q4:Int.tmod (n:Int) (n:Int)=0:=Int.tmod_self;go_enter Tryz.func75,Tryz.ntmps75;go_wp2_with fail;go_ret2;refine⟨?_,rfl⟩;rfl
theorem hI9 {fn:Func} {p q:Tmp} (h:fn.results=#[.cell p 92,.tmp q]) (tmps:Array Value) (w:World) (g:Nat) (cs:Array Value) (e:cs.size=19)
  (d:tmps.getD p undef=.pointer (some ⟨g,0,none⟩)) (b:w.heap[g]?=some (.cells cs 92 (0,0))) :
  (results fn tmps).run Tryz.prog w=.ok (.tuple #[.agg cs,tmps.getD q undef]) w:=by
 have a:tmps[p]?.getD undef=.pointer (some ⟨g,0,none⟩):=by simpa using d
 have c:=run_loadVar_row (P:=Tryz.prog) w g 92 92 cs (0,0) _ b Tryz.underlying92 rfl (by rw[e];kernel_rfl);simp[results,h,a,asAddr,c]
theorem hTa {w:World} {o:Tags} {i:Nat} {A:Option Addr} {c:Nat} {p:PkT} {l:List PkT} {xs:List Value} (h:Row w o i 92 19 (.slice A (p::l).length c) (p::l).length xs) (n:Lst (PkV w o) (p::l) xs) :
  ∃ g z,A=some ⟨g,0,none⟩∧p.2.2.At w o z∧(p::l).length≤c∧c≤9223372036854775807∧g<w.heap.size∧o g=i∧w.rangeAt g 0 (.int .i64 p.1::.int .i64 p.2.1::(p.2.2.cells z).toList)∧Lst (PkV w o) l (xs.drop 19):=by
 obtain⟨g,b,_,m,f,e,a⟩:=hCj h.1 (by simp);obtain⟨u,t,rfl,⟨z,rfl,d⟩,q⟩:=n;refine⟨g,z,b,d,f,e,m,h.2 g (by rw[b];rfl),fun j v k=>?_,?_⟩
 ·rw[Nat.zero_add];exact a j v (by rw[List.getElem?_append_left (List.getElem?_eq_some_iff.1 k).1];exact k)
 ·rw[List.drop_left' (by rfl)];exact q
theorem hGw (C:Array Value) (h:C.size=19):(Tryz.prog.info? 92).map (·.size)=some C.size:=by
 rw[h]
 kernel_rfl
theorem hEb (L:List Value) (h:L.length=19):(Tryz.prog.info? 92).map (·.size)=some L.length:=by
 rw[h]
 kernel_rfl
theorem hTb (b bb mb i:Nat) (ap:i≠0) (o:Tags) (p:PkT) (l:List PkT) (w:World) (h:LaneAt w o i b bb mb (p::l)) :
  Calls Tryz.prog 50 #[.pointer (some ⟨b,0,none⟩),.int .i64 0] w fun r w'=>∃ z,r=.returned (.tuple #[.agg (#[.int .i64 p.1,.int .i64 p.2.1]++p.2.2.cells z),.bool true])∧p.2.2.At w' o z∧LaneAt w' o i b bb mb l∧Chg i o o w w':=by
 have Hh:=fun w h=>zH (hXm b bb mb i o (p::l) (by simp) w h);have HL:=zH h;have ai:=zH h.book;obtain⟨BA,bn,bc,A,c,xs,d,f,h3⟩:=h.blk;obtain⟨g,z,rfl,Ha,aq,aE,hg,au,D,T⟩:=hTa f h3;have ae:=h.lim;have aD:=d.lt;have HZ:=zH Ha;obtain⟨n,hn⟩:=zN ((p::l).length);rw[←hn] at d f aq ae;have Hl:=zH f;have Hi:=zH d.1;have Hz:n=l.length+1:=by rw[hn];simp
 obtain⟨L,Y⟩:=zN (.int .i64 p.1::.int .i64 p.2.1::(p.2.2.cells z).toList:List Value);have Z:L.length=19:=by rw[Y];rfl
 have Hw:∀ u∈L,u.oneCell'=true:=PkV.one (w:=w) (o:=o) (p:=p) ⟨z,Y,Ha⟩;rw[←Y] at D;have Hf:zI (#[.int .i64 p.1,.int .i64 p.2.1]++p.2.2.cells z=L.toArray):=zH (by rw[Y];rfl);have Ht:L.toArray.size=19:=by simpa using Z
 have Hr:L.toArray.all (·.oneCell')=true:=by rw[Array.all_eq_true_iff_forall_mem];intro x hx;exact Hw x (by simpa using hx)
 have F:=(Below.refl w.heap.size w).alloc (Nat.le_refl _) (.cells #[.int .i64 0,.int .i64 0,.int .i64 0,.int .i64 0,.int .i64 0,.int .i64 0,.int .i64 0,.int .i64 0,.int .i64 0,.string ⟨#[]⟩,.float .f64 0,.int .i64 0,.int .i64 0,.float .f64 0,.string ⟨#[]⟩,.slice none 0 0,.slice none 0 0,.slice none 0 0,.slice none 0 0] 92);have V:=zH (heap_alloc_new w (.cells #[.int .i64 0,.int .i64 0,.int .i64 0,.int .i64 0,.int .i64 0,.int .i64 0,.int .i64 0,.int .i64 0,.int .i64 0,.string ⟨#[]⟩,.float .f64 0,.int .i64 0,.int .i64 0,.float .f64 0,.string ⟨#[]⟩,.slice none 0 0,.slice none 0 0,.slice none 0 0,.slice none 0 0] 92));have HB:=zH F;have Hy:=d.fix (P:=fun _=>True) (Fix.same (o:=o) F) trivial;have hI:=f.fix (P:=fun _=>True) (Fix.same (o:=o) F) trivial;have Hj:=zH (Hh _ (HL.o.fix (P:=fun _=>True) (Fix.same (o:=o) F) trivial trivial)).o;have HX:=zH T;have am:=zH (Lst.one' h3);have W:=zH Hz;have q0:(0:Int)<(n:Int):=by omega
 have q1:(n:Int)≤4096:=by omega
 have q2:(n:Int)≤(c:Int):=by omega
 have ar:1≤n:=by omega
 have t:=zH (And.intro Z (And.intro Ht Hr));have hO:w.heap.size<(w.alloc (.cells #[.int .i64 0,.int .i64 0,.int .i64 0,.int .i64 0,.int .i64 0,.int .i64 0,.int .i64 0,.int .i64 0,.int .i64 0,.string ⟨#[]⟩,.float .f64 0,.int .i64 0,.int .i64 0,.float .f64 0,.string ⟨#[]⟩,.slice none 0 0,.slice none 0 0,.slice none 0 0,.slice none 0 0] 92)).heap.size:=by simp
 have Hq:=zH (show(w.alloc (.cells #[.int .i64 0,.int .i64 0,.int .i64 0,.int .i64 0,.int .i64 0,.int .i64 0,.int .i64 0,.int .i64 0,.int .i64 0,.string ⟨#[]⟩,.float .f64 0,.int .i64 0,.int .i64 0,.float .f64 0,.string ⟨#[]⟩,.slice none 0 0,.slice none 0 0,.slice none 0 0,.slice none 0 0] 92)).rangeAt g 0 L from fun j v hv=>by
  have h:=D j v hv;rw[Nat.zero_add] at h ⊢;exact(F.cell (p:=⟨g,j,none⟩) hg).trans h)
 have H1:=zH Hy;have Hm:=zH hI;clear h d f h3 F Hy hI D T Ha hn Hz Y Z Hw Ht Hr Hh HL;go_enter Tryz.func50,Tryz.ntmps50;go_wp2_with fail;generalize w.alloc _=w1 at V HB Hj Hq H1 Hm hO ⊢;refine Hj.o.mono ?_;rintro r wx ⟨rfl,rfl⟩;have c1:=zQ w1 b 1 (.slice (some ⟨g,0,none⟩) n c) H1.o.1;have B:=(Below.refl w1.heap.size w1).alloc (Nat.le_refl _) (.cells L.toArray 92);have E:=zH (zB HB.o B);have U:=zH (H1.o.fix (P:=fun _=>True) (Fix.same (o:=o) B) trivial);have Hp:=zH (Hm.o.fix (P:=fun _=>True) (Fix.same (o:=o) B) trivial);have N:=zH ((B.block _ hO).trans V.o);have Hk:=zH (heap_alloc_new w1 (.cells L.toArray 92));have aj:=zH (hZv o i (some ⟨g,0,none⟩) n c xs ar (w1.alloc (.cells L.toArray 92)) Hp.o am.o);have c1':=zQ _ b 1 (.slice (some ⟨g,0,none⟩) n c) U.o.1;clear B;go_wp2_with (first
  |refine wpList_load_mid (by rfl) 92 (.tmp 23) (by rfl) g 0 (by rfl) L _ Hq.o Tryz.underlying92 rfl (hEb L t.o.1) ?_
  |(refine wpList_store_row (by rfl) 92 (.tmp 8) (.tmp 24) (by rfl) w1.heap.size L.toArray (by rfl) (by rfl) 92 _ (heap_alloc_new w1 _) (hGw L.toArray t.o.2.1) (by rw[t.o.2.1];rfl) t.o.2.2 ?_;rw[World.setRow_alloc_new]))
 clear c1 c1';refine aj.o.mono ?_;rintro r w3 ⟨rfl,hJ,_,m⟩;have m:=m g 0 none rfl;have ah:=(zL Hk.o);have ab:=U.o.lt;have an:b≠g:=fun e=>by
  have d:=hEy Hp.o.1 ⟨g,0,none⟩ rfl;obtain⟨cs,d,_⟩:=d;have f:=U.o.1;rw[e] at f;simp only at d;rw[f] at d;injection d with d;injection d with _ d _;exact absurd d (by decide)
 have J:w3.heap[b]?=_:=(m.block b ab (fun e=>an (Option.some.inj e))).trans U.o.1;have az:w.heap.size≤w1.heap.size:=HB.o.size;have aF:g<w.heap.size:=hg;have Hb:=(m.block w1.heap.size ah (fun e=>by have h:w1.heap.size=g:=Option.some.inj e;omega)).trans Hk.o;have I:=(m.block w.heap.size (zL N.o) (fun e=>by have h:w.heap.size=g:=Option.some.inj e;omega)).trans N.o;have c1:=zQ w3 b 1 (.slice (some ⟨g,0,none⟩) n c) J;have f1:=frozen_of_row w3 b 1 _ _ J;have q:w3.grownBy (w3.setCell ⟨b,1,none⟩ (.slice (some ⟨g,0,none⟩) (n - 1) c)) (some b):=hAb (hAa (Below.refl _ _) _) (p:=⟨b,1,none⟩) (.inl rfl) _;have K:=heap_setCell_same w3 b 1 _ _ (.slice (some ⟨g,0,none⟩) (n - 1) c) J;have R:=(q.block w1.heap.size (zL Hb) (fun e=>by have:=Option.some.inj e;omega)).trans Hb;have y:=(q.block w.heap.size (zL I) (fun e=>by have:=Option.some.inj e;omega)).trans I;have s:=hJ.other q J (by decide);have M:=zH (And.intro m (And.intro q (And.intro K (And.intro R (And.intro y s)))));clear hJ J Hb I K R y s q m;go_wp2_with (first
  |refine wpList_load_mid (by rfl) 92 (.tmp 8) (by rfl) w1.heap.size 0 (by rfl) L _ (show World.rangeAt (w3.setCell ⟨b,1,none⟩ (.slice (some ⟨g,0,none⟩) (n - 1) c)) w1.heap.size 0 L from by have h:=hEc M.o.2.2.2.1;exact h) Tryz.underlying92 rfl (hEb L t.o.1) ?_
  |refine wpList_store_row (by rfl) 92 (.tmp 4) (.tmp 36) (by rfl) w.heap.size L.toArray (by rfl) (by rfl) 92 _ M.o.2.2.2.2.1 (hGw L.toArray t.o.2.1) (by rw[t.o.2.1];rfl) t.o.2.2 ?_)
 obtain⟨m,q,K,R,y,s⟩:=M.o;generalize w3.setCell ⟨b,1,none⟩ (.slice (some ⟨g,0,none⟩) (n - 1) c)=w4 at q K R y s ⊢;have S:=setRow_heap w4 w.heap.size _ L.toArray _ _ y;have Q:=fun k (h:k≠w.heap.size)=>setRow_other w4 w.heap.size k L.toArray h;have G:w4.grownBy (w4.setRow w.heap.size L.toArray) (some w.heap.size):=⟨rfl,rfl,rfl,by simp,fun k _ h=>Q k (fun e=>h (by rw[e]))⟩;generalize w4.setRow w.heap.size L.toArray=w5 at S Q G ⊢;have aG:w.heap.size≤w1.heap.size:=HB.o.size;have H:∀ X,X<w.heap.size→X≠g→X≠b→w5.heap[X]?=w.heap[X]?:=fun X hX d f=>by
  have Hx:=Nat.lt_of_lt_of_le hX E.o.size;rw[Q X (by omega),q.block X (Nat.lt_of_lt_of_le Hx m.size) (fun e=>f (Option.some.inj e)),m.block X Hx (fun e=>d (Option.some.inj e)),E.o.block X hX]
 have O:Chg i o o w w5:=by
  refine⟨G.os.trans (q.os.trans (m.os.trans E.o.os)),G.tape.trans (q.tape.trans (m.tape.trans E.o.tape)),G.output.trans (q.output.trans (m.output.trans E.o.output)),Nat.le_trans E.o.size (Nat.le_trans m.size (Nat.le_trans q.size G.size)),fun _ _=>rfl,fun X hX HJ=>?_⟩;exact H X hX (fun e=>HJ (by rw[e];exact au)) (fun e=>HJ (by rw[e];exact U.o.2))
 have Hu:=O.fix (P:=(· = 0)) ap;refine bodyPost_ret (hI9 rfl _ _ w.heap.size _ t.o.2.1 (by rfl) S) rfl ⟨z,by rw[Hf.o];rfl,HZ.o.fix Hu rfl,⟨⟨BA,bn,bc,some ⟨g,0,none⟩,c,xs.drop 19,⟨?_,U.o.2⟩,?_,HX.o.imp fun a u hu=>hu.fix Hu rfl⟩,?_,?_⟩,O⟩
 ·rw[Q b (by omega),show l.length=n - 1 by have:=W.o;omega];exact K
 ·rw[show l.length=n - 1 by have:=W.o;omega];exact⟨World.ownsRow.kept s.1 G (.inr (fun e=>by have h:g=w.heap.size:=Option.some.inj e;omega)),s.2⟩
 ·have C:=ai.o;refine⟨⟨(H bb C.blk.lt ?_ ?_).trans C.blk.1,C.blk.2⟩,?_,C.tag⟩
  ·exact fun e=>by
    obtain⟨cs,d,_⟩:=hEy Hl.o.1 ⟨g,0,none⟩ rfl;have f:=C.blk.1;rw[e] at f;simp only at d;rw[f] at d;injection d with d;injection d with _ d _;exact absurd d (by decide)
  ·exact fun e=>by
    have f:=C.blk.1;rw[e,Hi.o] at f;injection f with f;injection f with _ f _;exact absurd f (by decide)
  ·obtain⟨lm,m1,m2⟩:=C.mp;refine⟨lm,m1.move (H mb m1.lt ?_ ?_),m2⟩
   ·exact fun e=>by
     obtain⟨cs,d,_⟩:=hEy Hl.o.1 ⟨g,0,none⟩ rfl;obtain⟨es,cl,f,_⟩:=m1;rw[e] at f;simp only at d;rw[f] at d;cases d
   ·exact fun e=>by
     obtain⟨es,cl,f,_⟩:=m1;rw[e,Hi.o] at f;cases f
 ·have:=W.o;omega
theorem takeH {P:Program} {ops:Array Oper} {Q:Exit→Act→World→Prop} {md:Region.Mode} {S:World→Prop} (i d:Nat) {oi:Oper} {v:Value} {fuel:Nat} {listed:Array Bool} {a:Act} {w:World} (hi:ops[i]?=some oi) (f:oi.dst=some d)
  (k:Region.noSelect ops=true) (g:Region.free md ops listed i=true) (j:(Region.ready md ops listed).contains i=true)
  (b:∀ c a w,Q (.panic c) (a.put oi.dst v) w→Q (.panic c) a w) (l:YieldsIf P ops S oi v a) (e:S w)
  (h:wpAnyH P md ops Q S fuel (listed.setIfInBounds i true) { a with tmps:=a.tmps.setIfInBounds d v } w):wpAnyH P md ops Q S (fuel+1) listed a w:=
 wpAnyH_take hi k g j b l e (by rw[f];exact h)
theorem zA {α:Type} (xs:List α) (i:Nat) (a:α):xs.toArray.setIfInBounds i a=(xs.set i a).toArray:=by simp
theorem zC {α:Type} (l:List α) (a b:α):(a::l).set 0 b=b::l:=rfl
theorem zD {α:Type} (l:List α) (a b:α) (n:Nat):(a::l).set (n+1) b=a::l.set n b:=rfl
theorem zT {P:Program} {ops:Array Oper} {Q:Exit→Act→World→Prop} {md:Region.Mode} {S:World→Prop} (i d:Nat) {oi:Oper} {v:Value} {fuel:Nat} {listed:Array Bool} {a:Act} {w:World} (hi:ops[i]?=some oi) (f:oi.dst=some d) (l:YieldsIf P ops S oi v a)
  (h:wpAnyH P md ops Q S fuel (listed.setIfInBounds i true) { a with tmps:=a.tmps.setIfInBounds d v } w) (k:Region.noSelect ops=true:=by kernel_rfl) (g:Region.free md ops listed i=true:=by kernel_rfl) (j:(Region.ready md ops listed).contains i=true:=by kernel_rfl)
  (b:∀ c a w,Q (.panic c) (a.put oi.dst v) w→Q (.panic c) a w:=by exact fun _ _ _ h=>h) (e:S w:=by assumption):wpAnyH P md ops Q S (fuel+1) listed a w:=takeH i d hi f k g j b l e h
theorem zK {P:Program} {ops:Array Oper} {Q:Exit→Act→World→Prop} {md:Region.Mode} {S:World→Prop} (i d:Nat) {oi:Oper} {v:Value} {fuel:Nat} {listed:Array Bool} {a:Act} {w:World} (hi:ops[i]?=some oi) (g:oi.dst=some d)
  (h:wpAnyH P md ops Q S fuel (listed.setIfInBounds i true) { a with tmps:=a.tmps.setIfInBounds d v } w) (m:YieldsIf P ops S oi v a:=by refine Or.inl ⟨by rfl,?_⟩;intro w b;clear b;go_simp;try with_reducible rfl) (l:Region.noSelect ops=true:=by kernel_rfl) (j:Region.free md ops listed i=true:=by kernel_rfl) (k:(Region.ready md ops listed).contains i=true:=by kernel_rfl)
  (e:∀ c a w,Q (.panic c) (a.put oi.dst v) w→Q (.panic c) a w:=by exact fun _ _ _ h=>h) (f:S w:=by assumption):wpAnyH P md ops Q S (fuel+1) listed a w:=takeH i d hi g l j k e m f h
theorem Region.wanted_plain {o:Oper} (h:o.guard=none) (l:Nat→Option Bool):Region.wanted o l=true:=by simp[Region.wanted,h]
theorem hDx {P:Program} {w:World} (t e:TypeId) (u:Array Value) (ie:TypeInfo) (z:Value) (k:Nat) (g:P.underlying t=some (.slice e)) (c:P.info? e=some ie) (i:ie.zero=some z)
  (a:ie.size=k) (d:u.size=k) (l:z.cells.size=k) (b:0<k) (j:k≤2 ^ 24) :
  (Instr.buildSlice t 1 #[(0,.agg u)]).run P w=.ok (.slice (some ⟨w.heap.size,0,none⟩) 1 1) (w.alloc (.cells u e)):=by
 refine run_buildSlice w t e 1 _ u ie z g c i (by rw[a];omega) (by rw[a];omega) ?_;have h:=Great.fill_whole b [Value.agg u] ((Array.range (1*ie.size)).map (z.cells[· % z.cells.size]!)) (fun v f=>by simp at f;subst f;exact d) (by simp[a]);rw[a] at h ⊢;simpa[Value.cells] using h
theorem hHg {P:Program} {W:World} {t e:TypeId} {ad:Addr} {v:Value} (b:P.underlying t=some (.slice e)) (h:W.cell? ad=some v):(Instr.loadAt t (.pointer (some ad))).run P W=.ok v W:=by
 have a:(isAgg t).run P W=.ok false W:=by
  unfold isAgg;rw[Sem.run_bind,run_underlying b W];rfl
 simp[Instr.loadAt,Instr.sureAddr,loadVar,Sem.run_bind,a,h]
theorem hLi {P:Program} {W:World} {t B:TypeId} {cs:Array Value} {v:Value} (b f:Nat) (h:W.heap[b]?=some (.cells cs B (0,0))) (d:∃ A n c,v=.slice A n c) (e:(cs[f]?).isSome=true) (hi:(P.info? t).map (·.size)=some 1) :
  (Instr.storeAt t (.pointer (some ⟨b,f,none⟩)) v).run P W=.ok () (W.setCell ⟨b,f,none⟩ v):=by
 obtain⟨A,n,c,rfl⟩:=d;have:=run_storeAt_mid (P:=P) W b f t #[.slice A n c] (fun j a=>by
  have a:j=0:=by simp at a;exact a
  subst a;exact⟨by rw[zR W b _ _ _ _ h];exact e,frozen_of_row W b _ _ _ h⟩) (by simpa using hi) (by simp[Value.oneCell'])
 simpa[Instr.storeAt,Instr.sureAddr,storeVar,World.setCells,Value.cells] using this
theorem hEs {P:Program} {ops:Array Oper} {Q:Exit→Act→World→Prop} {md:Region.Mode} {S:World→Prop} {fuel:Nat} {listed:Array Bool} {a:Act} {w:World}
  (i4 i6 i7 d4 d6 d7:Nat) {o4 o6 o7:Oper} (J:ops[i4]?=some o4) (L:ops[i6]?=some o6) (U:ops[i7]?=some o7)
  (r0:Region.ready md ops listed=[i4,i6]) (rA:Region.ready md ops (listed.setIfInBounds i4 true)=[i6]) (rB:Region.ready md ops (listed.setIfInBounds i6 true)=[i4])
  (r2:Region.ready md ops ((listed.setIfInBounds i4 true).setIfInBounds i6 true)=[i7]) (n46:i4≠i6) (m46:d4≠d6)
  (g4:o4.guard=none) (g6:o6.guard=none) (g7:o7.guard=none) (e4:o4.dst=some d4) (e6:o6.dst=some d6) (e7:o7.dst=some d7)
  (t e:TypeId) (x4 x6:Operand) (p4:o4.op=.load t x4) (p6:o6.op=.buildSlice t 1 #[(0,x6)]) (p7:o7.op=.call { callee:=.builtin .append,args:=#[.tmp d4,.tmp d6],argTypes:=#[t,t] })
  (o:Tags) (nd:Nat) (ie:TypeInfo) (z:Value) (k bytes:Nat) (q:P.underlying t=some (.slice e)) (m:P.info? e=some ie) (I:ie.zero=some z) (H:ie.size=k) (O:ie.bytes=bytes) (s:z.cells.size=k) (d:0<k) (D:k≤2 ^ 24)
  (b f:Nat) (B:TypeId) (cs:Array Value) (E:w.heap[b]?=some (.cells cs B (0,0))) (A:Option Addr) (n c:Nat) (xs:List Value) (R:cs[f]?=some (.slice A n c)) (G:Row w o nd e k (.slice A n c) n xs) (X:B≠e)
  (u:Array Value) (r:u.size=k) (T:∀ v∈u.toList,v.oneCell'=true)
  (v4:∀ a':Act,a'.tmps=a.tmps.setIfInBounds d6 (.slice (some ⟨w.heap.size,0,none⟩) 1 1)∨a'=a→a'.eval x4=.pointer (some ⟨b,f,none⟩)) (v6:∀ a':Act,a'.tmps=a.tmps.setIfInBounds d4 (.slice A n c)∨a'=a→a'.eval x6=.agg u)
  (z4:d4<a.tmps.size) (z6:d6<a.tmps.size)
  (M:n+1≤maxLen) (l:(n+1)*bytes≤140737488355328)
  (V:S w) (j:S (w.alloc (.cells u e))) (N:∀ v' W,AppOut (w.alloc (.cells u e)) o nd e k (.slice A n c) v' W (n+1) (xs++u.toList)→S W)
  (h:∀ v' W,AppOut (w.alloc (.cells u e)) o nd e k (.slice A n c) v' W (n+1) (xs++u.toList)→S W →
   wpAnyH P md ops Q S fuel (((listed.setIfInBounds i4 true).setIfInBounds i6 true).setIfInBounds i7 true) { a with tmps:=((a.tmps.setIfInBounds d4 (.slice A n c)).setIfInBounds d6 (.slice (some ⟨w.heap.size,0,none⟩) 1 1)).setIfInBounds d7 v' } W) :
  wpAnyH P md ops Q S (fuel+3) listed a w:=by
 have F:=(Below.refl w.heap.size w).alloc (Nat.le_refl _) (.cells u e);have x:=F.block b (zL E);have y:=G.alloc (.cells u e);have tail:wpAnyH P md ops Q S (fuel+1) ((listed.setIfInBounds i4 true).setIfInBounds i6 true) { a with tmps:=(a.tmps.setIfInBounds d4 (.slice A n c)).setIfInBounds d6 (.slice (some ⟨w.heap.size,0,none⟩) 1 1) } (w.alloc (.cells u e)):=by
  refine wpAnyH_ready (rs:=[i7]) r2 (by simp) (AllReadyH.cons U (fun K g=>?_) AllReadyH.nil);refine hBq g7 (.tmp d4) (.tmp d6) t p7 o nd e ie z k bytes q m I H O s d (.slice A n c) n xs ?_ y ⟨w.heap.size,0,none⟩ 1 1 u.toList ?_ (by simp[r]) (World.news_of_block (cs:=u) (t:=e) (fr:=(0,0)) (heap_alloc_new w _)) T M l ?_
  ·simp[Act.eval,Array.getD_eq_getD_getElem?,Array.getElem?_setIfInBounds,m46,Ne.symm m46,z4]
  ·simp[Act.eval,Array.getD_eq_getD_getElem?,Array.getElem?_setIfInBounds,z6]
  intro v' W p;have C:=N v' W p;refine g.out _ _ C (fun _=>?_);rw[e7];exact h v' W p C
 have c0:w.cell? ⟨b,f,none⟩=some (.slice A n c):=(zR w b f _ _ _ E).trans R;have cA:(w.alloc (.cells u e)).cell? ⟨b,f,none⟩=some (.slice A n c):=(zR _ b f _ _ _ (x.trans E)).trans R;refine wpAnyH_ready (rs:=[i4,i6]) r0 (by simp) (AllReadyH.cons J (fun K g=>?_) (AllReadyH.cons L (fun K g=>?_) AllReadyH.nil))
 ·rw[if_pos (Region.wanted_plain g4 _)];unfold Oper.wp execOp;simp only[p4,v4 a (.inr rfl),Sem.run_bind,hHg q c0,Result.andThen_ok,Sem.run_pure,Oper.upon_value];rw[e4];refine g.out _ _ V (fun _=>?_);refine wpAnyH_ready (rs:=[i6]) rA (by simp) (AllReadyH.cons L (fun K2 i=>?_) AllReadyH.nil);rw[if_pos (Region.wanted_plain g6 _)];unfold Oper.wp execOp;simp only[p6,Act.put,List.map_toArray,List.map_cons,List.map_nil,v6 { a with tmps:=a.tmps.setIfInBounds d4 (.slice A n c) } (.inl rfl),Sem.run_bind,hDx t e u ie z k q m I H r s d D,Result.andThen_ok,Sem.run_pure,Oper.upon_value];rw[e6];refine i.out _ _ j (fun _=>?_);exact tail
 ·rw[if_pos (Region.wanted_plain g6 _)];unfold Oper.wp execOp;simp only[p6,List.map_toArray,List.map_cons,List.map_nil,v6 a (.inr rfl),Sem.run_bind,hDx t e u ie z k q m I H r s d D,Result.andThen_ok,Sem.run_pure,Oper.upon_value];rw[e6];refine g.out _ _ j (fun _=>?_);refine wpAnyH_ready (rs:=[i4]) rB (by simp) (AllReadyH.cons J (fun K2 i=>?_) AllReadyH.nil);rw[if_pos (Region.wanted_plain g4 _)];unfold Oper.wp execOp;simp only[p4,Act.put,v4 { a with tmps:=a.tmps.setIfInBounds d6 (.slice (some ⟨w.heap.size,0,none⟩) 1 1) } (.inl rfl),Sem.run_bind,hHg q cA,Result.andThen_ok,Sem.run_pure,Oper.upon_value];rw[e4];refine i.out _ _ j (fun _=>?_);rw[Array.setIfInBounds_comm _ _ (Ne.symm n46)];have:(a.tmps.setIfInBounds d6 (.slice (some ⟨w.heap.size,0,none⟩) 1 1)).setIfInBounds d4 (.slice A n c)=(a.tmps.setIfInBounds d4 (.slice A n c)).setIfInBounds d6 (.slice (some ⟨w.heap.size,0,none⟩) 1 1):=Array.setIfInBounds_comm _ _ (Ne.symm m46);simp only[Act.put,this];exact tail
theorem hCl {P:Program} {ops:Array Oper} {Q:Exit→Act→World→Prop} {md:Region.Mode} {S:World→Prop} {fuel:Nat} {listed:Array Bool} {a:Act} {w:World}
  (i9:Nat) {o9:Oper} (e:ops[i9]?=some o9) (r3:Region.ready md ops listed=[i9]) (r4:Region.ready md ops (listed.setIfInBounds i9 true)=[]) (g9:o9.guard=none) (e9:o9.dst=none)
  (t9:TypeId) (x9 y9:Operand) (p9:o9.op=.store t9 x9 y9) (b f:Nat) {B:TypeId} {cs:Array Value} (i:w.heap[b]?=some (.cells cs B (0,0))) (j:(cs[f]?).isSome=true) {A:Option Addr} {n c:Nat} (s9:(P.info? t9).map (·.size)=some 1)
  (v9:a.eval x9=.pointer (some ⟨b,f,none⟩)) (y9':a.eval y9=.slice A n c) (g:S (w.setCell ⟨b,f,none⟩ (.slice A n c))) (h:Q .normal a (w.setCell ⟨b,f,none⟩ (.slice A n c))):wpAnyH P md ops Q S (fuel+1) listed a w:=by
 refine wpAnyH_ready (rs:=[i9]) r3 (by simp) (AllReadyH.cons e (fun K2 d=>?_) AllReadyH.nil);rw[if_pos (Region.wanted_plain g9 _)];unfold Oper.wp execOp;simp only[p9,v9,y9',Sem.run_bind,hLi b f i ⟨A,n,c,rfl⟩ j s9,Result.andThen_ok,Sem.run_pure,Oper.upon_skip];rw[e9];exact d.out _ _ g (fun _=>wpAnyH_done r4 h _)
structure PkS (w:World) (o:Tags) (i:Nat) (A:Option Addr) (n c:Nat) (ps:List PkT):Prop where
 len:ps.length=n
 nc:n≤c
 cm:c≤9223372036854775807
 ex:∃ xs,Lst (PkV w o) ps xs∧(0<n→∃ b off,A=some ⟨b,off,none⟩∧b<w.heap.size∧o b≠i∧∀ (j:Nat) (u:Value),xs[j]?=some u→w.cell? ⟨b,off+j,none⟩=some u)
structure PkOk (p:PkT):Prop where
 s16:p.2.2.sigs.length≤16
 c10:p.2.2.chs.length≤10
 l16:(linkS p.2.2.links).length≤16
 ts:∀ s∈p.2.2.terms,-1000≤s.1∧s.1≤1000∧s.2.size≤maxLen
theorem PkOk.t100 {p:PkT} (h:PkOk p):p.2.2.terms.length≤100:=by
 unfold FM.terms;rw[List.length_append,List.length_append,List.length_map];have:=h.s16;have:=h.c10;have:=h.l16;omega
theorem hQw {w:World} {base:Nat} {e:TypeId} {sz n c:Nat} {A:Option Addr} {xs:List Value} (h:w.ownsRow base e sz (.slice A n c) n xs) {ad:Addr} (b:A=some ad):(Value.slice (some ad) n c).ownBlock=some ad.block:=by
 subst b;rcases h.2 with⟨a,_⟩ | ⟨g,cap,cur,d,_⟩
 ·cases a
 ·injection d with e1 _ _;cases e1;rfl
theorem hMw {W:World} {tb:Nat} {u:List Value} {f t:Value} {M:Array Value} (h:W.heap[tb]?=some (.cells u.toArray 92 (0,0))) (a:u=f::t::M.toList):W.rangeAt tb 2 M.toList:=fun j v b=>by
 rw[zR W tb (2+j) _ _ _ h,a,Nat.add_comm];simpa using b
theorem hZj {W:World} {tb:Nat} {u:List Value} (h:W.heap[tb]?=some (.cells u.toArray 92 (0,0))):W.rangeAt tb 0 u:=fun j v a=>by
 rw[zR W tb (0+j) _ _ _ h,Nat.zero_add];simpa using a
theorem hBp (L:List Value) (h:L.length=17):(Tryz.prog.info? 48).map (·.size)=some L.length:=by
 rw[h]
 kernel_rfl
theorem hCw (b bb mb i:Nat) (Y:i≠0) (o:Tags) (l ps:List PkT) (A:Option Addr) (n c:Nat) (bW:l.length+n≤4096) (b6:∀ p∈ps,PkOk p) (w:World) (h:LaneAt w o i b bb mb l) (hp:PkS w o i A n c ps) :
  Calls Tryz.prog 58 #[.pointer (some ⟨b,0,none⟩),.slice A n c] w fun r w'=>r=.returned (.tuple #[])∧∃ o',LaneAt w' o' i b bb mb (l++ps)∧Chg i o o' w w':=by
 obtain⟨i0,ap,bd,bg,bh⟩:=info_parts hD0;have bI:=zH ap;have bJ:=zH bd;have bK:=zH bg;have bL:=zH bh;clear ap bd bg bh;have cf:=hp.nc;have bZ:=hp.cm;obtain⟨xs,ba,V⟩:=hp.ex;have HL:=zH h;have Hh:=zH hp.len;have bH:=zH ba;have bv:=zH V;have bA:=zH b6;have q5:(c:Int)≤9223372036854775807:=by omega
 have q6:(n:Int)≤(c:Int):=by omega
 clear h hp ba V b6;go_enter Tryz.func58,Tryz.ntmps58;go_wp2_with fail;go_loopw [5,10] (fun _ j wr=>∃ k:Nat,k≤n∧j=.int .i64 k∧zI (∃ ok,LaneAt wr ok i b bb mb (l++ps.take k)∧Chg i o ok w wr)) (fun _ j _=>n - (intOf j).toNat)
 case atStart=>exact⟨0,by omega,rfl,zH ⟨o,by simpa using HL.o,Chg.refl _ _ _⟩⟩
 case round=>
  obtain⟨k,hk,rfl,b7⟩:=hrel;obtain⟨ok,Z,L⟩:=b7.o;have q0:(0:Int)≤(k:Int):=by omega
  by_cases hkn:k<n
  ·have q1:(k:Int)<(n:Int):=by omega
   have q2:(k:Int)<5000:=by omega
   obtain⟨PB,off,rfl,bM,bN,aP⟩:=bv.o (by omega);have aq:k<ps.length:=by rw[Hh.o];exact hkn
   obtain⟨u,⟨z,T,U⟩,ao⟩:=Lst.get 19 PkV.len bH.o k aq;obtain⟨p,Hy⟩:=zN (ps[k]);rw[←Hy] at T U;have ag:=bA.o p (by rw[Hy];exact List.getElem_mem _);have aG:u.length=19:=by rw[T];rfl
   have aF:∀ v∈u,v.oneCell'=true:=PkV.one (w:=w) (o:=o) (p:=p) ⟨z,T,U⟩;have bR:=zH U;have HU:=zH T;have Hc:wr.rangeAt PB (off+k*19) u:=fun j v hv=>by
    have hj:j<19:=by have:=(List.getElem?_eq_some_iff.1 hv).1;omega
    have h1:=aP (k*19+j) v (by rw[ao j hj];exact hv);have h2:=L.block PB bM bN;rw[←Nat.add_assoc] at h1;unfold World.cell? at h1 ⊢;rw[h2];exact h1
   have bC:=zH Hc;have aM:=zH aG;have bl:=zH (all_oneCell_toArray aF);have aH:=zH aF;have bB:=zH Hy;have C:=zH ag;have bi:=zH (U.fix (L.fix (P:=(· = 0)) Y) rfl);have bD:=zH (And.intro Z L);have hO:zI (u.toArray.size=19):=zH (by simpa using aG);obtain⟨o1,Hx⟩:=zN (ok.ext wr.heap.size 0);have ai:=(Below.refl wr.heap.size wr).alloc (Nat.le_refl _) (.cells u.toArray 92);have hF:Fix (fun _=>True) ok o1 wr (wr.alloc (.cells u.toArray 92)):=Fix.below ai (fun x hx=>by rw[Hx];exact Tags.ext_old _ _ _ _ hx);have y:=zH (Z.fix hF trivial trivial);have Hg:=zH (bi.o.fix hF trivial);have aK:zI (Chg i o o1 w (wr.alloc (.cells u.toArray 92))):=zH (L.trans (Chg.below ai (fun x hx=>by rw[Hx];exact Tags.ext_old _ _ _ _ hx)));have hI:zI (∀ x,wr.heap.size≤x→o1 x=0):=zH (fun x hx=>by rw[Hx];exact Tags.ext_new _ _ _ _ hx);have G:=zH (heap_alloc_new wr (.cells u.toArray 92));clear b7 Z L aP T U ao Hy ag aG aF Hc Hx ai hF;go_wp2_with (first
    |refine wpList_load_mid (by rfl) 92 (.tmp 12) (by rfl) PB (off+k*19) (by rfl) u _ bC.o Tryz.underlying92 rfl (hEb u aM.o) ?_
    |(refine wpList_store_row (by rfl) 92 (.tmp 5) (.tmp 13) (by rfl) wr.heap.size u.toArray (by rfl) (by rfl) 92 _ (heap_alloc_new wr _) (hGw u.toArray hO.o) (by rw[hO.o];rfl) bl.o ?_;rw[World.setRow_alloc_new]))
   obtain⟨tb,az⟩:=zN (wr.heap.size);rw[←az] at G hI ⊢;have cg:w.heap.size≤tb:=by rw[az];exact bD.o.2.size
   clear az;generalize wr.alloc _=w1 at y Hg aK G ⊢;obtain⟨BA,bn,bc,A',c',ys,h1,h2,h3⟩:=y.o.blk;have s2:=zQ w1 b 2 (.pointer (some ⟨bb,0,none⟩)) h1.1;have aU:Below w1.heap.size w1 w1.drew:=⟨rfl,rfl,rfl,Nat.le_refl _,fun _ _=>rfl⟩;have bE:=zH (hYi p.2.2 z o1 C.o.s16 C.o.c10 C.o.l16 w1.drew (Hg.o.fix (P:=fun _=>True) (Fix.same (o:=o1) aU) trivial));have bo:=h1.lt;have Q:=(zL G.o);have HJ:=zH y.o.book;have Hp:b≠mb:=fun e=>by
    obtain⟨lm,⟨es,cl,m1,_⟩,_⟩:=y.o.book.mp;have h2:=h1.1;rw[e,m1] at h2;cases h2
   have aE:tb≠mb:=fun e=>by
    obtain⟨lm,⟨es,cl,m1,_⟩,_⟩:=y.o.book.mp;have h2:=G.o;rw[e,m1] at h2;cases h2
   have bz:zI (∀ W:World,(W.cell? ⟨b,2,none⟩=some (.pointer (some ⟨bb,0,none⟩))∧W.heap[tb]?=some (.cells u.toArray 92 (0,0)))→W.rangeAt tb 2 (p.2.2.cells z).toList):=zH (fun W hW=>hMw hW.2 HU.o);have hJ:zI (w1.drew.cell? ⟨b,2,none⟩=some (.pointer (some ⟨bb,0,none⟩))∧w1.drew.heap[tb]?=some (.cells u.toArray 92 (0,0))):=zH ⟨s2,G.o⟩;clear s2 aU h1 h2 h3;refine wp_region_held_drew (S:=(fun W=>W.cell? ⟨b,2,none⟩=some (.pointer (some ⟨bb,0,none⟩))∧W.heap[tb]?=some (.cells u.toArray 92 (0,0)))) (by kernel_rfl) hJ.o (fun f=>?_);change wpAnyH _ _ _ _ _ 8 (Array.replicate 8 false) _ _;try simp only[Act.put]
   (refine zT 0 14 rfl rfl (v:=?v14) (.inl ⟨by rfl,?y14⟩) ?_;case y14=>(intro w d;(try dsimp only at d);go_simp;try with_reducible rfl));(try dsimp only);simp only[zA,zC,zD]
   (refine zT 1 15 rfl rfl (v:=?v15) (.inl ⟨by rfl,?y15⟩) ?_;case y15=>(intro w d;(try dsimp only at d);go_simp;try with_reducible rfl));(try dsimp only);simp only[zA,zC,zD]
   (refine zT 2 16 rfl rfl (v:=?v16) (.inl ⟨by rfl,?y16⟩) ?_;case y16=>(intro w d;(try dsimp only at d);go_simp;try with_reducible rfl));(try dsimp only);simp only[zA,zC,zD]
   (refine zT 3 17 rfl rfl (v:=?v17) (.inl ⟨by rfl,?y17⟩) ?_;case y17=>(intro w d;(try dsimp only at d);go_simp;try with_reducible rfl));(try dsimp only);simp only[zA,zC,zD]
   (refine zT 4 18 rfl rfl (v:=?v18) (.inl ⟨by rfl,?y18⟩) ?_;case y18=>(intro w d;(try dsimp only at d);go_simp;try with_reducible rfl));(try dsimp only);simp only[zA,zC,zD]
   (refine zT 5 19 rfl rfl (yieldsIf_load_mid (by rfl) 48 (.tmp 18) (by rfl) tb 2 (by rfl) (p.2.2.cells z).toList _ bz.o Tryz.underlying48 rfl (hBp _ rfl)) ?_);(try dsimp only);simp only[zA,zC,zD];refine wpAnyH_ready (rs:=[6]) (by kernel_rfl) (by simp) ?_;refine AllReadyH.cons rfl (fun K hK=>?_) AllReadyH.nil;go_simp;go_at_call 62;refine bE.o.mono ?_;rintro r w2 ⟨⟨A2,C2,rfl,aw⟩,I⟩;have s:Below w1.heap.size w1 w2:=⟨I.os,I.tape,I.output,I.size,I.block⟩;have ah:w2.cell? ⟨b,2,none⟩=some (.pointer (some ⟨bb,0,none⟩))∧w2.heap[tb]?=some (.cells u.toArray 92 (0,0)):=⟨(s.cell (p:=⟨b,2,none⟩) bo).trans hJ.o.1,(s.block tb Q).trans hJ.o.2⟩;have aL:=zH ah;refine hK.out _ _ ah (fun f=>?_);try dsimp only
   clear hK K;refine wpAnyH_ready (rs:=[7]) (by kernel_rfl) (by simp) ?_;refine AllReadyH.cons rfl (fun K hK=>?_) AllReadyH.nil;go_simp;go_at_call 81;refine(hR1 bb mb i Y o1 A2 p.2.2.terms.length C2 (by have:=C.o.t100;omega) p.2.2.terms C.o.ts w2 (HJ.o.fix (P:=fun _=>True) (Fix.same (o:=o1) s) trivial) (SlD.of_own aw rfl o1 (fun x hx _=>hI.o x (by have:w1.drew.heap.size=w1.heap.size:=rfl;omega)))).mono ?_;rintro r w3 ⟨rfl,q,F⟩;have aR:w3.cell? ⟨b,2,none⟩=some (.pointer (some ⟨bb,0,none⟩))∧w3.heap[tb]?=some (.cells u.toArray 92 (0,0)):=⟨hAo F aL.o.1 Hp,(F.block tb (Nat.lt_of_lt_of_le Q s.size) (fun e=>aE (Option.some.inj e))).trans aL.o.2⟩;refine hK.out _ _ aR (fun f=>?_);try dsimp only
   clear hK K;refine wpAnyH_done (by kernel_rfl) ?_ _
   (try clear f);(try clear f);(try clear f)
   obtain⟨BA,bn,bc,A',c',ys,h1,h2,h3⟩:=y.o.blk;have Ht:Fix (fun _=>True) o1 o1 w1 w2:=Fix.same s;have an:=HJ.o.fix Ht trivial;have bP:o1 mb=i:=HJ.o.tag;have Hl:=h1.fix Ht trivial;have B:=(F.block b Hl.lt (fun e=>Hp (Option.some.inj e))).trans Hl.1;have Ha:=h2.fix Ht trivial;have aW:∀ ad,A'=some ad→ad.block≠mb:=fun ad ea e=>by
    obtain⟨cs,h,_⟩:=hEy Ha.1 ad ea;obtain⟨lm,⟨es,cl,m1,_⟩,_⟩:=an.mp;rw[e,m1] at h;cases h
   have Hb:Row w3 o1 i 92 19 (.slice A' (l++ps.take k).length c') (l++ps.take k).length ys:=⟨World.ownsRow.kept Ha.1 F (by
    cases hA:A' with
    |none=>exact .inl rfl
    |some ad=>
     have h:=hQw Ha.1 hA;exact .inr (fun e=>aW ad hA (by rw[h] at e;exact Option.some.inj e))),Ha.2⟩
   have aa:Chg i o1 o1 w1 w3:=(Chg.below s (fun _ _=>rfl)).trans (Chg.grown F (fun k hk _=>by cases hk;exact bP));have ab:=aa.fix (P:=(· = 0)) Y;have H:=h3.imp (R:=PkV w3 o1) (fun a u T=>T.fix ab rfl);have E:=Hg.o.fix ab rfl;have O:=(F.block tb (Nat.lt_of_lt_of_le Q s.size) (fun e=>aE (Option.some.inj e))).trans ((s.block tb Q).trans G.o);have ar:LaneAt w3 o1 i b bb mb (l++ps.take k):=⟨⟨BA,bn,bc,A',c',ys,⟨B,h1.2⟩,Hb,H⟩,q,y.o.lim⟩;obtain⟨m,hm⟩:=zN ((l++ps.take k).length);have aX:m=l.length+k:=by rw[hm,List.length_append,List.length_take];omega
   have bx:=zH (hSy b bb mb i o1 (l++ps.take k) (by rw[←hm];omega) w3 ar);rw[←hm] at B Hb;have HM:=zH hm;have bX:=zH aX;have c9:m<4096:=by omega
   clear aX;have Hz:=zH (show Blk w3 o1 i b 131 #[.slice BA bn bc,.slice A' m c',.pointer (some ⟨bb,0,none⟩)] from⟨B,h1.2⟩);have bY:=zH Hb;have br:=zH (And.intro H (And.intro E q));have bt:=zH (aK.o.trans aa);have c1:=zQ w3 b 1 (.slice A' m c') B;have bp:=Hz.o.lt;have aD:=(zL O);have bq:b≠tb:=fun e=>by
    have h:=B;rw[e,O] at h;injection h with h;injection h with _ h _;exact absurd h (by decide)
   have Hr:=zH (show Row w3.drew o1 i 92 19 (.slice A' m c') m ys from Hb);have aJ:=zH (show Blk w3.drew o1 i b 131 #[.slice BA bn bc,.slice A' m c',.pointer (some ⟨bb,0,none⟩)] from Hz.o);have M:=zH (show w3.drew.heap[tb]?=some (.cells u.toArray 92 (0,0)) from O);clear ah aR h1 h2 h3 Ht an Hl B Ha aW Hb aa ab H E O ar hm q aw I s F;go_wp2_with fail;refine bx.o.mono ?_;rintro r wx ⟨rfl,rfl⟩;go_wp2_with fail;refine wp_region_held_drew (S:=(fun W=>W.heap[tb]?=some (.cells u.toArray 92 (0,0)))) (by kernel_rfl) M.o (fun f=>?_);change wpAnyH _ _ _ _ _ 11 (Array.replicate 11 false) _ _
   (refine zT 0 25 rfl rfl (v:=?v0) (.inl ⟨by rfl,?y0⟩) ?_;case y0=>(intro w d;(try dsimp only at d);go_simp;try with_reducible rfl));(try dsimp only);simp only[zA,zC,zD]
   (refine zT 1 26 rfl rfl (v:=?v1) (.inl ⟨by rfl,?y1⟩) ?_;case y1=>(intro w d;(try dsimp only at d);go_simp;try with_reducible rfl));(try dsimp only);simp only[zA,zC,zD]
   (refine zT 2 27 rfl rfl (v:=?v2) (.inl ⟨by rfl,?y2⟩) ?_;case y2=>(intro w d;(try dsimp only at d);go_simp;try with_reducible rfl));(try dsimp only);simp only[zA,zC,zD]
   (refine zT 3 28 rfl rfl (v:=?v3) (.inl ⟨by rfl,?y3⟩) ?_;case y3=>(intro w d;(try dsimp only at d);go_simp;try with_reducible rfl));(try dsimp only);simp only[zA,zC,zD]
   (refine zT 5 30 rfl rfl (yieldsIf_load_mid (by rfl) 92 (.tmp 5) (by rfl) tb 0 (by rfl) u _ (fun W hW=>hZj hW) Tryz.underlying92 rfl (hEb u aM.o)) ?_);(try dsimp only);simp only[zA,zC,zD];refine hEs 4 6 7 29 31 32 rfl rfl rfl (by kernel_rfl) (by kernel_rfl) (by kernel_rfl) (by kernel_rfl) (by decide) (by decide) rfl rfl rfl rfl rfl rfl 123 92 (.tmp 28) (.tmp 30) rfl rfl rfl o1 i i0 _ 19 232 Tryz.underlying123 bI.o bJ.o bK.o bL.o rfl (by decide) (by decide) b 1 131 _ aJ.o.1 A' m c' ys rfl Hr.o (by decide) u.toArray hO.o aH.o ?h1 ?h2 (by simp) (by simp) (by unfold maxLen;omega) (by omega) M.o ?h3 ?h4 ?h5;case h1=>
    rintro a' (h | rfl)
    ·simp[Act.eval,h]
    ·rfl
   case h2=>
    rintro a' (h | rfl)
    ·simp[Act.eval,h]
    ·rfl
   case h3=>exact(heap_alloc_old _ _ aD).trans M.o
   case h4=>
    intro v' W t;have bQ:(Value.slice A' m c').ownBlock≠some tb:=fun e=>by
     have h1:=Hr.o.2 tb e;rw[hI.o tb (Nat.le_refl _)] at h1;exact Y h1.symm
    have aT:(w3.drew.alloc (.cells u.toArray 92)).heap[tb]?=some (.cells u.toArray 92 (0,0)):=(heap_alloc_old _ _ aD).trans M.o;have h1:W.heap[tb]?=some (.cells u.toArray 92 (0,0)):=(t.grown.block tb (zL aT) (fun e=>bQ e.symm)).trans aT;exact h1
   case h5=>
    intro v2 w5 t f;simp only[zA,zC,zD];obtain⟨VA2,VC2,rfl⟩:=hAk t.row.1;have J:=t.blk (Hr.o.alloc _).1 (aJ.o.fix (P:=fun _=>True) (Fix.same (o:=o1) ((Below.refl w3.drew.heap.size w3.drew).alloc (Nat.le_refl _) (.cells u.toArray 92))) trivial) (by decide);have t0:=zQ w5 b 1 (.slice A' m c') J.1;have tf:=frozen_of_row w5 b 1 _ _ J.1;obtain⟨H,E,q⟩:=br.o;have D:Below w3.heap.size w3 (w3.drew.alloc (.cells u.toArray 92)):=(Below.drew (Below.refl w3.heap.size w3)).alloc (Nat.le_refl _) (.cells u.toArray 92);have Hk:Row (w3.drew.alloc (.cells u.toArray 92)) o1 i 92 19 (.slice A' m c') m ys:=Hr.o.alloc _;have hU:(w3.drew.alloc (.cells u.toArray 92)).heap[b]?=some (.cells #[.slice BA bn bc,.slice A' m c',.pointer (some ⟨bb,0,none⟩)] 131 (0,0)):=(D.block b bp).trans Hz.o.1;obtain⟨aS,X,aV⟩:=J.set 1 (.slice VA2 (m+1) VC2);have aQ:=t.row.other X J.1 (by decide);have aN:Chg i o1 o1 w3 (w3.drew.alloc (.cells u.toArray 92)):=Chg.below D (fun _ _=>rfl);have Hi:=(aN.trans t.chg).trans aV;have hF:=Hi.fix (P:=(· = 0)) Y;have N:=q.fix (P:=fun _=>True) (Fix.same (o:=o1) D) trivial;have Hm:=t.keep Hk N.blk.1 (by decide);have aj:bb≠b:=fun e=>by
     have h:=N.blk.1;rw[e,hU] at h;injection h with h;injection h with _ h _;exact absurd h (by decide)
    have am:=(zL Hm);have ak:=(X.block bb am (fun e=>aj (Option.some.inj e))).trans Hm;obtain⟨lm,Hw,aZ⟩:=N.mp;have aY:(Value.slice A' m c').ownBlock≠some mb:=fun e=>by
     obtain⟨es,cl,m1,_⟩:=Hw;rcases Hk.1.2 with⟨h1,_⟩ | ⟨g,cap,cur,hv,_,hg,_⟩
     ·rw[h1] at e;cases e
     ·rw[hv] at e;cases e;rw[hg] at m1;cases m1
    have Hq:=Hw.move (t.grown.block mb Hw.lt (fun e=>aY e.symm));have av:=Hq.move (X.block mb Hq.lt (fun e=>Hp (Option.some.inj e).symm));have ay:∀ x,x<w3.heap.size→(o1.ext (w3.drew.alloc (.cells u.toArray 92)).heap.size i) x=o1 x:=fun x hx=>Tags.ext_old _ _ _ _ (Nat.lt_of_lt_of_le hx D.size);have bj:=zH (show BookAt (w5.setCell ⟨b,1,none⟩ (.slice VA2 (m+1) VC2)) (o1.ext (w3.drew.alloc (.cells u.toArray 92)).heap.size i) i bb mb from⟨⟨ak,(ay bb q.blk.lt).trans q.blk.2⟩,⟨lm,av,aZ⟩,(ay mb (by obtain⟨_,h,_⟩:=q.mp;exact h.lt)).trans q.tag⟩);have aO:PkV (w5.setCell ⟨b,1,none⟩ (.slice VA2 (m+1) VC2)) (o1.ext (w3.drew.alloc (.cells u.toArray 92)).heap.size i) p u:=⟨z,HU.o,E.fix hF rfl⟩;have aq:k<ps.length:=by rw[Hh.o];exact hkn
    have aB:l++ps.take (k+1)=(l++ps.take k)++[p]:=by
     rw[List.take_succ_eq_append_getElem aq,List.append_assoc,bB.o]
    have Hu:(l++ps.take (k+1)).length=m+1:=by rw[aB,List.length_append,←HM.o];rfl
    have bw:=zH (show LaneAt (w5.setCell ⟨b,1,none⟩ (.slice VA2 (m+1) VC2)) (o1.ext (w3.drew.alloc (.cells u.toArray 92)).heap.size i) i b bb mb (l++ps.take (k+1)) from⟨⟨BA,bn,bc,VA2,VC2,ys++u,by rw[Hu];exact aS,by rw[Hu];exact aQ,by
     rw[aB];exact Lst.app (H.imp fun a u T=>T.fix hF rfl) (Lst.one aO)⟩,bj.o,by rw[Hu];omega⟩)
    have bu:=zH (bt.o.trans Hi)
    (refine zT 8 33 rfl rfl (v:=?v33) (.inl ⟨by rfl,?y33⟩) ?_;case y33=>(intro w d;(try dsimp only at d);go_simp;try with_reducible rfl));(try dsimp only);simp only[zA,zC,zD]
    (refine zT 9 34 rfl rfl (v:=?v34) (.inl ⟨by rfl,?y34⟩) ?_;case y34=>(intro w d;(try dsimp only at d);go_simp;try with_reducible rfl));(try dsimp only);simp only[zA,zC,zD];refine hCl 10 rfl (by kernel_rfl) (by kernel_rfl) rfl rfl 123 (.tmp 34) (.tmp 32) rfl b 1 J.1 rfl (by kernel_rfl) rfl rfl ((X.block tb (zL f) (fun e=>bq (Option.some.inj e).symm)).trans f) ?_;clear f Hk hU H E q D aS X aV aQ aN Hi hF N Hm aj am ak Hw aZ aY Hq av ay aO aB Hu t J t0 tf;go_wp2_with fail;exact⟨⟨k+1,by omega,by go_num,zH ⟨_,bw.o,bu.o⟩⟩,by simp[intOf];omega⟩
  ·obtain rfl:k=n:=by omega
   clear hkn;go_wp2_with fail;go_end0;refine⟨rfl,ok,?_,L⟩;rw[←Hh.o,List.take_length] at Z;exact Z
end Go.Proofs.YtlibpcllceepkaaGreat
