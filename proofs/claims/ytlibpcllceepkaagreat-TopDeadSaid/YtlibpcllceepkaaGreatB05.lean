/- Joined texts of the claim. No condition. -/
import Derived.Test.YtlibpcllceepkaaGreatB04
namespace Go.Proofs.YtlibpcllceepkaaGreat
set_option linter.unusedVariables false
set_option linter.unusedSimpArgs false
set_option maxHeartbeats 16000000
namespace SW
def tell4 (m:SMsg):List (Nat×SMsg):=[(0,m),(1,m),(2,m),(3,m)]
def ep (c:SCli):Nat:=if c.chain.isSome then 1 else 0
def push (w:SWorld) (f:Nat) (l:List (Nat×SMsg)):Option SWorld:=
 if decide (w.lane.length+l.length≤4096) && l.all (fun p=>p.2.ok && decide (p.1≤101)) then some { w with lane:=w.lane++l.map fun p=>(f,p.1,p.2) } else none
def alike (c:List (Nat×Nat)) (e:Nat):Nat→Nat
 |0=>0
 |k+1=>if (e,k)∈c then alike c e k+1 else alike c e k
def cok (c:SCli):Bool:=
 decide (c.stamp≤8) && decide (c.acc≤c.stamp) && (!c.open_ || c.acc+1 == c.stamp) && c.came.all (fun p=>decide (p.1≤1) && decide (p.2<4)) && decide (c.came.length≤8) && decide c.came.Nodup &&
 (match c.chain with | none=>true | some l=>decide (3≤l.length) && decide (l.length≤4) && upB l)
def known (c:SCli) (e:Nat):Bool:=e == 0 || e == 1 && c.chain.isSome
def cReply (c:SCli) (f:Nat) (m:SMsg):Option SCli:=
 if !known c m.e then none else
 if !c.open_ then some c else
 if !(m.n == c.stamp) || decide ((m.e,f)∈c.came) then none else
 some (if 2≤alike (c.came++[(m.e,f)]) m.e 4 then { c with came:=c.came++[(m.e,f)],acc:=c.acc+1,open_:=false } else { c with came:=c.came++[(m.e,f)] })
def cHandle (c:SCli) (f:Nat) (m:SMsg):Option SCli:=
 if !cok c || !m.ok || !decide (f<4) then none else
 match m.kind with
 |8=>cReply c f m
 |10=>some { c with chain:=some (match c.chain with | none=>m.bys | some l=>l) }
 |_=>none
def setRep:List SRep→SRep→List SRep
 |[],_=>[]
 |x::l,r=>if x.id=r.id then r::l else x::setRep l r
def find:List SRep→Nat→Option SRep
 |[],_=>none
 |x::l,i=>if x.id=i then some x else find l i
def give (w:SWorld) (f to:Nat) (m:SMsg):Option SWorld:=
 if to=101 then(cHandle w.cli f m).map (fun c=>{ w with cli:=c }) else
 if !decide (to<4) then none else
 match find w.reps to with
 |none=>some w
 |some r=>match r.handle w.now f m with
  |none=>none
  |some r'=>if r'.id=r.id then push { w with reps:=setRep w.reps { r' with o:=[] } } to r'.o else none
def take (w:SWorld):Option SWorld:=
 match w.lane with
 |[]=>none
 |(f,to,m)::rest=>give { w with lane:=rest } f to m
def times (f:SWorld→Option SWorld):Nat→SWorld→Option SWorld
 |0,w=>some w
 |n+1,w=>match f w with | none=>none | some w=>times f n w
def round (w:SWorld):Option SWorld:=times take w.lane.length w
def flush (w:SWorld):Option SWorld:=times round 8 w
def tickR:List Nat→SWorld→Option SWorld
 |[],w=>some w
 |i::l,w=>match find w.reps i with
  |none=>none
  |some r=>match r.tick w.now with
   |none=>none
   |some r'=>if r'.id=r.id then(match push { w with reps:=setRep w.reps { r' with o:=[] } } i r'.o with
    |none=>none
    |some w=>tickR l w) else none
def cOut (c:SCli):List (Nat×SMsg):=(if c.open_ then tell4 ⟨1,0,0,c.stamp,[]⟩ else [])++tell4 ⟨9,ep c,0,0,[]⟩
def cTick (w:SWorld):Option SWorld:=if !cok w.cli then none else if w.now % 4=0 then push w 101 (cOut w.cli) else some w
def tick (w:SWorld):Option SWorld:=
 if !decide (w.now≤4000) then none else
 match tickR (w.reps.map (·.id)) { w with now:=w.now+1 } with
 |none=>none
 |some w=>cTick w
def ask (w:SWorld):Option SWorld:=
 if w.cli.open_ || !cok w.cli || !decide (w.cli.stamp<8) || !(w.cli.acc == w.cli.stamp) then none else
 push { w with cli:={ w.cli with stamp:=w.cli.stamp+1,open_:=true,came:=[] } } 101 (tell4 ⟨1,0,0,w.cli.stamp+1,[]⟩)
def tickF (w:SWorld):Option SWorld:=match SW.tick w with | none=>none | some w=>SW.flush w
def settle (w:SWorld):Option SWorld:=match SW.flush w with | none=>none | some w=>times tickF 24 w
def one (w:SWorld):Option SWorld:=match SW.ask w with
 |none=>none
 |some w=>match SW.settle w with
  |none=>none
  |some w=>if w.cli.acc=w.cli.stamp && !w.cli.open_ then some w else none
def init (ids:List Nat):SWorld:=⟨ids.map SRep.new,⟨none,0,false,[],0⟩,[],0⟩
def run (ids:List Nat) (k:Nat):Option SWorld:=times one k (init ids)
def idsB (dead:Nat):List Nat:=SRep.others dead 4
end SW
def SWorld.lived (w:SWorld):Bool:=w.cli.acc == 1 && (match SW.find w.reps 2 with | none=>false | some r=>r.d == 1)
def livesB:Bool:=match SW.ask (SW.init [0,1,2,3]) with
 |none=>false
 |some w=>match SW.flush w with
  |none=>false
  |some w=>w.lived
theorem lives_runs:livesB=true:=by decide +kernel
theorem dead_runs0:(SW.run (SW.idsB 0) 6).isSome=true:=by decide +kernel
theorem dead_runs1:(SW.run (SW.idsB 1) 6).isSome=true:=by decide +kernel
theorem dead_runs2:(SW.run (SW.idsB 2) 6).isSome=true:=by decide +kernel
theorem dead_runs3:(SW.run (SW.idsB 3) 6).isSome=true:=by decide +kernel
theorem dead_runs (d:Nat) (a:d<4):∃ w,SW.run (SW.idsB d) 6=some w:=by
 refine Option.isSome_iff_exists.1 ?_;obtain rfl | rfl | rfl | rfl:d=0∨d=1∨d=2∨d=3:=by omega
 ·exact dead_runs0
 ·exact dead_runs1
 ·exact dead_runs2
 ·exact dead_runs3
end Go.Proofs.YtlibpcllceepkaaGreat
