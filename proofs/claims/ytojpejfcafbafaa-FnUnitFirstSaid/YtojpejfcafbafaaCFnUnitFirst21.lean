/- A part of the claim FnUnitFirst. -/
import Derived.Calls
import Derived.Orders
import Derived.Below
import Derived.Laws.AppendOwn
import Derived.Laws.MakeOwn
import Derived.Laws.OwnMore
import Derived.Deep.OwnRows
import Derived.Deep.AppendLies
import Derived.Maps.AppendAt
import Derived.Laws.Tables
import Derived.Great.BuildSlice
import Derived.Lib.AppendStr
import Derived.KernelRfl
import Derived.Test.YtojpejfcafbafaaCFnUnitFirst0
import Derived.Test.YtojpejfcafbafaaCFnUnitFirst1
import Derived.Test.YtojpejfcafbafaaCFnUnitFirst2
import Derived.Test.YtojpejfcafbafaaCFnUnitFirst3
import Derived.Test.YtojpejfcafbafaaCFnUnitFirst4
import Derived.Test.YtojpejfcafbafaaCFnUnitFirst5
import Derived.Test.YtojpejfcafbafaaCFnUnitFirst6
import Derived.Test.YtojpejfcafbafaaCFnUnitFirst7
import Derived.Test.YtojpejfcafbafaaCFnUnitFirst8
import Derived.Test.YtojpejfcafbafaaCFnUnitFirst9
import Derived.Test.YtojpejfcafbafaaCFnUnitFirst10
import Derived.Test.YtojpejfcafbafaaCFnUnitFirst11
import Derived.Test.YtojpejfcafbafaaCFnUnitFirst12
import Derived.Test.YtojpejfcafbafaaCFnUnitFirst13
import Derived.Test.YtojpejfcafbafaaCFnUnitFirst14
import Derived.Test.YtojpejfcafbafaaCFnUnitFirst15
import Derived.Test.YtojpejfcafbafaaCFnUnitFirst16
import Derived.Test.YtojpejfcafbafaaCFnUnitFirst17
import Derived.Test.YtojpejfcafbafaaCFnUnitFirst18
import Derived.Test.YtojpejfcafbafaaCFnUnitFirst19
import Derived.Test.YtojpejfcafbafaaCFnUnitFirst20
section
namespace Go.Proofs.Ytojpejfcafbafaa.V
open Go Go.RowKit
set_option linter.unusedVariables false
inductive T where
  |s (v:Value)
  |sl (e sz n:Nat) (f:Nat→List T)
  |mp (es:Array MapEntry) (n:Nat)
inductive C where
  |t (x:T)
  |nil
  |own (k sz n:Nat)
  |ptr (k i o:Nat)
  |tp (e:Nat) (row:List T)
  |dead
inductive V where
  |c (x:C)
  |agg (xs:List C)
  |tup (xs:List V)
  |dead
instance:Inhabited T:=⟨.s undef⟩
instance:Inhabited C:=⟨.dead⟩
instance:Inhabited V:=⟨.dead⟩
inductive Blk where
  |row (e sz n:Nat) (f:Nat→List T)
  |box (t:Nat) (cs:List C)
def wX:Value→Bool
  | .bool _| .int .. | .string _=>true
  |_=>false
def iX:Value→Bool
  | .bool _| .int .. | .string _| .nilIface=>true
  | .iface _ (.agg cs)=>cs.toList.all wX
  | .iface _ v=>wX v
  | .func (.func _) _ _=>true
  |_=>false
def kD:Value→Bool
  | .agg _| .tuple _=>false
  |_=>true
theorem LD {v:Value} (h:iX v=true):kD v=true:=by cases v<;>simp_all [iX,kD]
def xc (e n c:Nat):Prop:=0<n∨(e≠5∧0<c)
def GR (e sz c:Nat) (b:Addr) (cells:Array Value) (fr:Nat×Nat):Prop:=e=5∨(fr=(0,0)∧b.spot=none∧b.off+c * sz≤cells.size)
def ownTys:List Nat:= [3,41,67,69,73,35]
abbrev Fs (e' e:Nat):Prop:=e' ≠e∧(e' =5→e∈ownTys)
def OM (e e' :Nat):Prop:=e' =e∨(e=5∧e' ∉ownTys)
def xw (w:World) (g:Nat) (cells:Array Value) (e:Nat) (fr:Nat×Nat):Prop:= ∃e',w.heap[g]? =some (.cells cells e' fr)∧OM e e'
theorem xw.of {w:World} {g:Nat} {cells:Array Value} {e:Nat} {fr:Nat×Nat} (h:w.heap[g]? =some (.cells cells e fr)):xw w g cells e fr:=⟨e,h, .inl rfl⟩
theorem xw.move {w w' :World} {g:Nat} {cells:Array Value} {e:Nat} {fr:Nat×Nat} (h:xw w g cells e fr) (hw:w'.heap[g]? =w.heap[g]?):xw w' g cells e fr:=h.imp fun _ h=>⟨hw.trans h.1,h.2⟩
theorem xw.eq {w:World} {g:Nat} {cells:Array Value} {e:Nat} {fr:Nat×Nat} (h:xw w g cells e fr) (he:e≠5):w.heap[g]? =some (.cells cells e fr):=by
  obtain⟨e',h1,h2|h2⟩:=h
  ·rw[h1,h2]
  ·exact absurd h2.1 he
theorem xw.ne {w:World} {g:Nat} {cells c:Array Value} {e' e:Nat} {fr f:Nat×Nat} (h:xw w g cells e' fr) (hn:Fs e' e) (h3:w.heap[g]? =some (.cells c e f)):False:=by
  obtain⟨e2,h1,h2⟩:=h
  rw[h1]at h3
  injection h3 with h3
  injection h3 with _ h3 _
  subst h3
  rcases h2 with h2|h2
  ·exact hn.1 h2.symm
  ·exact h2.2 (hn.2 h2.1)
theorem Cg {e:Nat} (h:e∈ownTys):e≠5:=by
  rintro rfl;revert h;decide
inductive RepT (w:World) (A:Nat→Prop):Value→T→Prop
  |s (v:Value):iX v=true→RepT w A v (.s v)
  |sl_ (ad:Option Addr) (n c e sz:Nat) (f:Nat→List T) (g:Nat→Nat→Value) (h0:n≤c) (h1:n≤maxLen) (hs:xc e n c→ad.isSome=true)
      (hl: ∀j,j<n→(f j).length=sz)
      (hc: ∀(j o:Nat) (y:T),j<n→(f j)[o]? =some y→∃b,ad=some b∧w.cell? (b.add (j * sz+o))=some (g j o))
      (hr: ∀(j o:Nat) (y:T),j<n→(f j)[o]? =some y→RepT w A (g j o) y)
      (hb: ∀b,ad=some b→xc e n c→A b.block∧∃cells fr,xw w b.block cells e fr∧GR e sz c b cells fr):
      RepT w A (.slice ad n c) (.sl e sz n f)
  |mp (g:Nat) (es:Array MapEntry) (n:Nat) (h:w.heap[g]? =some (.map es n)) (hA:A g):RepT w A (.map (some g)) (.mp es n)
theorem RepT.sl {w:World} {A:Nat→Prop} (ad:Option Addr) (n c e sz:Nat) (f:Nat→List T) (h0:n≤c) (h1:n≤maxLen) (hs:xc e n c→ad.isSome=true)
    (hl: ∀j,j<n→(f j).length=sz)
    (hc: ∀(j o:Nat) (y:T),j<n→(f j)[o]? =some y→∃b x,ad=some b∧w.cell? (b.add (j * sz+o))=some x∧RepT w A x y)
    (hb: ∀b,ad=some b→xc e n c→A b.block∧∃cells fr,xw w b.block cells e fr∧GR e sz c b cells fr):
    RepT w A (.slice ad n c) (.sl e sz n f):=by
  have key: ∀(j o:Nat) (y:T),j<n→(f j)[o]? =some y→∃b,ad=some b∧w.cell? (b.add (j * sz+o))=some (((ad.map fun b=>w.cell? (b.add (j * sz+o))).join).getD undef)∧RepT w A (((ad.map fun b=>w.cell? (b.add (j * sz+o))).join).getD undef) y:=by
    intro j o y hj hy
    obtain⟨b,x,rfl,e2,e3⟩:=hc j o y hj hy
    exact⟨b,rfl,by simp[e2],by simpa[e2] using e3⟩
  exact .sl_ ad n c e sz f _ h0 h1 hs hl (fun j o y hj hy=>let ⟨b,h1,h2,_⟩:=key j o y hj hy;⟨b,h1,h2⟩)
    (fun j o y hj hy=>let ⟨_,_,_,h3⟩:=key j o y hj hy;h3) hb
theorem RepT.sl_inv {w:World} {A:Nat→Prop} {v:Value} {e sz n:Nat} {f:Nat→List T} (h:RepT w A v (.sl e sz n f)):
    ∃ ad c,v= .slice ad n c∧n≤c∧n≤maxLen∧(xc e n c→ad.isSome=true)∧(∀j,j<n→(f j).length=sz)∧
      (∀(j o:Nat) (y:T),j<n→(f j)[o]? =some y→∃b x,ad=some b∧w.cell? (b.add (j * sz+o))=some x∧RepT w A x y)∧
      (∀b,ad=some b→xc e n c→A b.block∧∃cells fr,xw w b.block cells e fr∧GR e sz c b cells fr):=by
  cases h with
  | sl_ ad _ c _ _ _ g h0 h1 hs hl hc hr hb=>
    exact⟨ad,c,rfl,h0,h1,hs,hl,fun j o y hj hy=>let ⟨b,e1,e2⟩:=hc j o y hj hy;⟨b,_,e1,e2,hr j o y hj hy⟩,hb⟩
theorem I1 (b:Addr) (n:Nat):(b.add n).off=b.off+n:=by unfold Addr.add;split<;>simp_all
theorem LF (b:Addr) (n:Nat) (h:b.spot=none):(b.add n).spot=none:=by unfold Addr.add;split<;>simp_all
theorem wR (b:Addr) (n:Nat):(b.add n).block=b.block:=by unfold Addr.add;split<;>rfl
theorem RepT.one {w:World} {A:Nat→Prop} {v:Value} {x:T} (h:RepT w A v x):kD v=true:=by
  cases h with
  |s _ h=>exact LD h
  |sl_=>rfl
  |mp=>rfl
theorem RepT.move {w w' :World} {A A' :Nat→Prop} (hA: ∀b,A b→A' b) (hw: ∀b,A b→w'.heap[b]? =w.heap[b]?) {v:Value} {x:T}
    (h:RepT w A v x):RepT w' A' v x:=by
  induction h with
  |s v h=>exact .s v h
  | sl_ ad n c e sz f g h0 h1 hs hl hc hr hb ih=>
    refine .sl_ ad n c e sz f g h0 h1 hs hl (fun j o y hj hy=> ?_) ih (fun b hb' hn=> ?_)
    · obtain⟨b,e1,e2⟩:=hc j o y hj hy
      refine⟨b,e1, ?_⟩
      rw[World.cell?_of_block (w:=w) (by rw[wR];exact hw _ (hb b e1 (.inl (by omega))).1)]
      exact e2
    · obtain⟨h1,cells,fr,h2,h3⟩:=hb b hb' hn
      exact⟨hA _ h1,cells,fr,h2.move (hw _ h1),h3⟩
  |mp g es n h hg=>exact .mp g es n ((hw g hg).trans h) (hA g hg)
inductive NoTy (e:Nat):T→Prop
  |s (v:Value):NoTy e (.s v)
  |sl (e' sz n:Nat) (f:Nat→List T) (h:Fs e' e) (hc: ∀(j o:Nat) (y:T),j<n→(f j)[o]? =some y→NoTy e y):NoTy e (.sl e' sz n f)
  |mp (es:Array MapEntry) (n:Nat):NoTy e (.mp es n)
abbrev Bs:=List (Nat×Option Blk)
def Bs.get:Bs→Nat→Option (Option Blk)
  | [],_=>none
  |(k',y)::r,k=>if k' =k then some y else Bs.get r k
def Bs.set:Bs→Nat→Option Blk→Bs
  | [],k,x=> [(k,x)]
  |(k',y)::r,k,x=>if k' =k then(k,x)::r else(k',y)::Bs.set r k x
theorem Bs.get_set (B:Bs) (k q:Nat) (x:Option Blk):(B.set k x).get q=if k=q then some x else B.get q:=by
  induction B with
  |nil=>simp[Bs.set,Bs.get]
  | cons p r ih=>
    obtain⟨k',y⟩:=p
    by_cases h:k' =k
    · subst h
      by_cases hq:k' =q<;>simp[Bs.set,Bs.get,hq]
    · by_cases hq:k' =q
      · subst hq
        simp[Bs.set,Bs.get,h,Ne.symm h]
      ·simp[Bs.set,Bs.get,h,hq,ih]
def Bs.live (B:Bs) (k:Nat):Option Blk:=(B.get k).join
theorem Bs.live_set (B:Bs) (k q:Nat) (x:Option Blk):(B.set k x).live q=if k=q then x else B.live q:=by
  unfold Bs.live
  rw[Bs.get_set]
  split<;>simp
theorem Bs.live_get {B:Bs} {k:Nat} {x:Blk} (h:B.live k=some x):B.get k=some (some x):=by
  unfold Bs.live at h
  cases hg:B.get k with
  |none=>simp[hg]at h
  |some y=>simp[hg]at h;rw[h]
def fM:Value→Option Nat
  | .slice (some a) _ _=>some a.block
  | .pointer (some a)=>some a.block
  |_=>none
structure Env where
  w:World
  A:Nat→Prop
  ρ:Nat→Value
  B:Bs
def fO (E:Env) (v:Value):C→Prop
  | .t x=>RepT E.w E.A v x
  | .nil=>v= .slice none 0 0
  | .own k sz n=>(E.B.get k).isSome=true∧∃ad c,v= .slice ad n c∧n≤c∧n≤maxLen∧(0<n→ad.isSome=true)∧
      (∀t cs,E.B.live k≠some (.box t cs))∧∀e s N f,E.B.live k=some (.row e s N f)→s=sz∧n≤N∧E.ρ k= .slice ad N c
  | .ptr k i o=>(E.B.get k).isSome=true∧∃ad,v= .pointer (some ad)∧
      (∀t cs,E.B.live k=some (.box t cs)→i=0∧∃g,E.ρ k= .pointer (some ⟨g,0,none⟩)∧ad=⟨g,o,none⟩)∧
      (∀e s N f,E.B.live k=some (.row e s N f)→i<N∧∃g c,E.ρ k= .slice (some ⟨g,0,none⟩) N c∧ad=⟨g,i * s+o,none⟩)
  | .tp e row=> ∃ad,v= .pointer (some ad)∧(E.A ad.block∧∃cells fr,xw E.w ad.block cells e fr∧(e=5∨fr=(0,0)))∧∀(o:Nat) (y:T),row[o]? =some y→∃x,E.w.cell? (ad.add o)=some x∧RepT E.w E.A x y
  | .dead=>kD v=true
def vL (E:Env) (v:Value):V→Prop
  | .c x=>fO E v x
  | .agg xs=> ∃vs:Array Value,v= .agg vs∧vs.size=xs.length∧∀(i:Nat) (x:Value) (y:C),vs[i]? =some x→xs[i]? =some y→fO E x y
  | .tup _=>False
  | .dead=>True
def mg (E:Env) (v:Value):V→Prop
  | .tup xs=> ∃vs:Array Value,v= .tuple vs∧vs.size=xs.length∧∀(i:Nat) (x:Value) (y:V),vs[i]? =some x→xs[i]? =some y→vL E x y
  |x=>vL E v x
def At (E:Env) (k:Nat):Blk→Prop
  | .row e sz n f=> ∃inner,E.w.ownsRow 0 e sz (E.ρ k) n inner∧(∀j,j<n→(f j).length=sz)∧
      ∀(j o:Nat) (y:T),j<n→(f j)[o]? =some y→∃x,inner[j * sz+o]? =some x∧RepT E.w E.A x y
  | .box t cs=> ∃g cur,E.ρ k= .pointer (some ⟨g,0,none⟩)∧E.w.heap[g]? =some (.cells cur t (0,0))∧cur.size=cs.length∧
      ∀(i:Nat) (x:Value) (y:C),cur[i]? =some x→cs[i]? =some y→fO E x y
structure St where
  tmps:List V
  B:Bs
structure Ctx where
  w0:World
  G:Nat→Prop
  ins:Bs
  ρ0:Nat→Value
  wild:Nat→Prop
def Ctx.par (c:Ctx) (b:Nat):Prop:= ∃k x,c.ins.live k=some x∧fM (c.ρ0 k)=some b
def sameShape:Blk→Blk→Prop
  | .row e s n _, .row e' s' n' _=>e=e' ∧s=s' ∧n=n'
  | .box t _, .box t' _=>t=t'
  |_,_=>False
theorem sameShape.trans {a b c:Blk} (h:sameShape a b) (h' :sameShape b c):sameShape a c:=by
  cases a<;>cases b<;>cases c<;>simp_all [sameShape]
structure Keeps (par:Nat→Prop) (w0 w:World):Prop where
  os:w.os=w0.os
  tape:w.tape=w0.tape
  output:w.output=w0.output
  size:w0.heap.size≤w.heap.size
  block: ∀b,b<w0.heap.size→¬par b→w.heap[b]? =w0.heap[b]?
def free (c:Ctx) (w:World) (ρ:Nat→Value) (B:Bs) (b:Nat):Prop:=
  (c.G b∨c.w0.heap.size≤b)∧b<w.heap.size∧∀k x,B.live k=some x→fM (ρ k)≠some b
def env (c:Ctx) (w:World) (ρ:Nat→Value) (B:Bs):Env:=⟨w,free c w ρ B,ρ,B⟩
def Ctx.may (c:Ctx) (b:Nat):Prop:=c.par b∨c.wild b
def sG (e:Nat):Nat:=1000000000+e
structure Mem (c:Ctx) (B:Bs) (w:World) (ρ:Nat→Value):Prop where
  keeps:Keeps c.may c.w0 w
  at_: ∀k x,B.live k=some x→At (env c w ρ B) k x
  own: ∀k x g,B.live k=some x→fM (ρ k)=some g→c.par g∨c.w0.heap.size≤g
  inj: ∀k k' x x' g,B.live k=some x→B.live k' =some x' →fM (ρ k)=some g→fM (ρ k')=some g→k=k'
  kin: ∀k x,c.ins.live k=some x→(B.get k).isSome=true
  fix: ∀k x b',c.ins.live k=some x→B.live k=some b' →sameShape x b' ∧ρ k=c.ρ0 k
  wld: ∀e,(c.ins.get (sG e)).isSome=true→∀b cells fr,c.G b→c.w0.heap[b]? =some (.cells cells e fr)→c.wild b
structure Le (E E' :Env):Prop where
  A: ∀b,E.A b→E'.A b
  w: ∀b,E.A b→E'.w.heap[b]? =E.w.heap[b]?
  B: ∀k,(E.B.get k).isSome=true→(E'.B.get k).isSome=true
  row: ∀k e s N f',(E.B.get k).isSome=true→E'.B.live k=some (.row e s N f')→(∃f,E.B.live k=some (.row e s N f))∧E'.ρ k=E.ρ k
  box: ∀k t cs',(E.B.get k).isSome=true→E'.B.live k=some (.box t cs')→(∃cs,E.B.live k=some (.box t cs))∧E'.ρ k=E.ρ k
theorem RepT.le {E E' :Env} (h:Le E E') {v:Value} {x:T} (hx:RepT E.w E.A v x):RepT E'.w E'.A v x:=hx.move h.A h.w
theorem fO.le {E E' :Env} (h:Le E E') {v:Value} {x:C} (hx:fO E v x):fO E' v x:=by
  cases x with
  |t x=>exact RepT.le h hx
  |nil=>exact hx
  | own k sz n=>
    obtain⟨h1,ad,c,h2,h3,h4,h5,h7,h6⟩:=hx
    refine⟨h.B _ h1,ad,c,h2,h3,h4,h5,fun t cs hl=> ?_,fun e s N f hl=> ?_⟩
    · obtain⟨⟨c0,hc⟩,_⟩:=h.box k t cs h1 hl
      exact h7 t c0 hc
    obtain⟨⟨f0,hf⟩,hr⟩:=h.row k e s N f h1 hl
    obtain⟨a,b,e2⟩:=h6 e s N f0 hf
    exact⟨a,b,hr.trans e2⟩
  | ptr k i o=>
    obtain⟨h1,ad,h2,h3,h4⟩:=hx
    refine⟨h.B _ h1,ad,h2,fun t cs hl=> ?_,fun e s N f hl=> ?_⟩
    · obtain⟨⟨c0,hc⟩,hr⟩:=h.box k t cs h1 hl
      obtain⟨a,g,e1,e2⟩:=h3 t c0 hc
      exact⟨a,g,hr.trans e1,e2⟩
    · obtain⟨⟨f0,hf⟩,hr⟩:=h.row k e s N f h1 hl
      obtain⟨a,g,c,e1,e2⟩:=h4 e s N f0 hf
      exact⟨a,g,c,hr.trans e1,e2⟩
  | tp e row=>
    obtain⟨ad,e1,⟨ha,cells,fr,hc,hf⟩,e2⟩:=hx
    refine⟨ad,e1,⟨h.A _ ha,cells,fr,hc.move (h.w _ ha),hf⟩,fun o y hy=> ?_⟩
    obtain⟨x,hx,hr⟩:=e2 o y hy
    exact⟨x,by rw[World.cell?_of_block (w:=E.w) (by rw[wR];exact h.w _ ha)];exact hx,RepT.le h hr⟩
  |dead=>exact hx
theorem vL.le {E E' :Env} (h:Le E E') {v:Value} {x:V} (hx:vL E v x):vL E' v x:=by
  cases x with
  |c x=>exact fO.le h hx
  | agg xs=>
    obtain⟨vs,e1,e2,e3⟩:=hx
    exact⟨vs,e1,e2,fun i x y h1 h2=>fO.le h (e3 i x y h1 h2)⟩
  |tup _=>exact hx
  |dead=>trivial
theorem mg.le {E E' :Env} (h:Le E E') {v:Value} {x:V} (hx:mg E v x):mg E' v x:=by
  cases x with
  | tup xs=>
    obtain⟨vs,e1,e2,e3⟩:=hx
    exact⟨vs,e1,e2,fun i x y h1 h2=>vL.le h (e3 i x y h1 h2)⟩
  |c x=>exact vL.le h (x:= .c x) hx
  |agg xs=>exact vL.le h (x:= .agg xs) hx
  |dead=>trivial
theorem fO.one {E:Env} {v:Value} {x:C} (h:fO E v x):kD v=true:=by
  cases x with
  |t x=>exact RepT.one h
  |nil=>have h:v=_:=h;subst h;rfl
  |own=>obtain⟨_,ad,c,rfl,_⟩:=h;rfl
  |ptr=>obtain⟨_,ad,rfl,_⟩:=h;rfl
  |tp=>obtain⟨ad,rfl,_⟩:=h;rfl
  |dead=>exact h
def uU (P:Program) (t:Nat):Option Nat:=match P.underlying t with|some (.slice e)=>if(P.info? e).isSome then some e else none|_=>none
def sj (P:Program) (t:Nat):Bool:=match P.underlying t with|some (.struct _)|some (.array _ _)=>true|_=>false
def zB (P:Program) (t:Nat):Option IntKind:=match P.underlying t with|some (.int k)=>some k|_=>none
def fieldsOf (P:Program) (s:Nat):List (Nat×Nat):=match P.underlying s with|some (.struct fs)=>fs.toList.map fun f=>(f.offset,P.cellsOf f.type)|_=> []
def fu:Value→C
  | .slice none 0 0=> .nil
  |v=>if iX v then .t (.s v)else .dead
def eZ (v:Value):V:=if kD v then .c (fu v)else match v with| .agg cs=>if cs.toList.all kD then .agg (cs.toList.map fu)else .dead|_=> .dead
def zeroOf (P:Program) (t:Nat):List C:=match (P.info? t).bind (·.zero)with|some v=>if v.cells.toList.all kD then v.cells.toList.map fu else[]|none=> []
def evl (ts:List V):Operand→V
  | .tmp t=>ts.getD t .dead
  | .const v=>eZ v
  | .func f=> .c (.t (.s (.func (.func f) #[] #[])))
  | .global _=> .dead
abbrev V.s (v:Value):V:= .c (.t (.s v))
def d9:V→Option (List C)
  | .c x=>some [x]
  | .agg xs=>some xs
  |_=>none
def splice {α:Type} (xs:List α) (o:Nat) (ys:List α):List α:=xs.take o++ys++xs.drop (o+ys.length)
def iA (P:Program) (t:Nat) (cs:List C):Option (Prop×V):=
  if sj P t=true then(if cs.length=P.cellsOf t then some (True, .agg cs)else none)else if(P.underlying t).isSome then(match cs with| [x]=>some (True, .c x)|_=>none)else none
def iD (places:List (Nat×Nat)):List C→List (Nat×V)→Option (List C)
  |cells, []=>some cells
  | cells,(i,v)::r=>match places[i]?,d9 v with
    |some (o,m),some ys=>if ys.length=m∧o+m≤cells.length then iD places (splice cells o ys) r else none
    |_,_=>none
def structOf (P:Program) (t:Nat):Bool:=match P.underlying t with|some (.struct fs)=>fs.toList.all fun f=>(P.info? f.type).isSome|_=>false
def lT (op:BinOp) (k:IntKind) (a b:Int):Option (Prop×V):=
  match op with
  | .add=>some (True, .s (.int k (k.wrap (a+b))))
  | .sub=>some (True, .s (.int k (k.wrap (a - b))))
  | .mul=>some (True, .s (.int k (k.wrap (a * b))))
  | .quo=>some (b≠0, .s (.int k (k.wrap (a.tdiv b))))
  | .rem=>some (b≠0, .s (.int k (a.tmod b)))
  | .xor=>some (True, .s (.int k (k.wrap ((BitVec.ofInt k.bits a ^^^ BitVec.ofInt k.bits b).toNat))))
  | .eql=>some (True, .s (.bool (a==b)))
  | .neq=>some (True, .s (.bool (a !=b)))
  | .lss=>some (True, .s (.bool (a<b)))
  | .leq=>some (True, .s (.bool (a≤b)))
  | .gtr=>some (True, .s (.bool (a>b)))
  | .geq=>some (True, .s (.bool (a≥b)))
  |_=>none
def lL (xs:List V) (f:Int→Int→Int):Option (Prop×V):=
  match xs with
  | [.c (.t (.s (.int k a))), .c (.t (.s (.int _ b)))]=>some (True, .s (.int k (f a b)))
  |_=>none
def vK:List C→Option (List Value)
  | []=>some []
  | .t (.s v)::l=>match vK l with|some r=>some (v::r)|none=>none
  |_::_=>none
def xx (P:Program) (t:Nat):Bool:=match P.underlying t with|some (.interface _)|none=>false|_=>true
def xP (P:Program) (t:Nat):Bool:=((P.info? t).bind (·.zero)).isSome
def yz:Value→V
  | .agg cs=> .agg (cs.toList.map fun x=> .t (.s x))
  |v=> .s v
def yN:List Value→List Value→Bool
  | [], []=>true
  | .int _ a::xs, .int _ b::ys=>a==b && yN xs ys
  | .bool a::xs, .bool b::ys=>a==b && yN xs ys
  |_,_=>false
def ifB:Value→Value→Bool
  | .nilIface, .nilIface=>true
  | .iface a (.agg xs), .iface b (.agg ys)=>a==b && yN xs.toList ys.toList
  |_,_=>false
def Ju (P:Program) (t:Nat) (x y:Operand) (v u:Value):Prop:=
  (∀w,(do eqGuard .eql t x y v u;binOp .eql t v u:Sem Value).run P w= .ok (.bool (ifB v u)) w)∧∀w,(do eqGuard .neq t x y v u;binOp .neq t v u:Sem Value).run P w= .ok (.bool (!ifB v u)) w
def DY (P:Program) (op:BinOp) (t:Nat) (x y:Operand) (v u:Value):Option (Prop×V):=
  match op with
  | .eql=>some (Ju P t x y v u, .s (.bool (ifB v u)))
  | .neq=>some (Ju P t x y v u, .s (.bool (!ifB v u)))
  |_=>none
def zV (P:Program) (t:Nat):V:=match (P.info? t).bind (·.zero)with|some v=>eZ v|none=> .dead
def LG (P:Program) (t:Nat):V:=match P.underlying t with|some (.map _ e)=>zV P e|_=> .dead
def C9 (z:V) (es:Array MapEntry) (i:Int):V:=
  match es.toList.find? fun e=>match e.key with| .int _ j=>i==j|_=>false with
  |some e=> .tup [yz e.val, .s (.bool true)]
  |none=> .tup [z, .s (.bool false)]
def asT (P:Program) (t:Nat) (ok:Bool) (v:Value):Option (Prop×V):=
  match v with
  | .nilIface=>if ok then some (True, .tup [zV P t, .s (.bool false)])else none
  | .iface u v=>if u=t then some (True,if ok then .tup [yz v, .s (.bool true)]else yz v)else if ok then some (True, .tup [zV P t, .s (.bool false)])else none
  |_=>none
def mkI (t:Nat):V→Option (Prop×V)
  | .agg cs=>match vK cs with|some vs=>if vs.all wX then some (True, .s (.iface t (.agg vs.toArray)))else none|none=>none
  | .c (.t (.s v))=>if wX v then some (True, .s (.iface t v))else none
  |_=>none
def Ch (P:Program) (t:Nat):Bool:=match P.built t []with|some zs=>zs.size==0|none=>false
def su (P:Program) (t f:Nat):Option Nat:=
  match P.underlying t with
  |some (.struct fs)=>(match fs[f]? with|some fd=>if sj P fd.type=false∧(P.underlying fd.type).isSome=true then some fd.offset else none|none=>none)
  |_=>none
def dz (P:Program) (o:Op) (ev:Operand→V) (bl:Nat→Option Blk):Option (Prop×V):=
  match o with
  | .move x| .assign x=>some (True,ev x)
  | .pick c a b=>match ev c with| .c (.t (.s (.bool t)))=>some (True,if t then ev a else ev b)|_=>none
  | .load t a=>match ev a with
    | .c (.ptr k i o)=>match bl k with
      |some (.box _ cs)=>iA P t ((cs.drop o).take (P.cellsOf t))
      |some (.row _ _ _ f)=>iA P t ((((f i).drop o).take (P.cellsOf t)).map .t)
      |none=>none
    | .c (.tp _ row)=>iA P t ((row.take (P.cellsOf t)).map .t)
    |_=>none
  | .nilCheck x=>match ev x with
    | .c (.ptr k i o)=>some (True,ev x)
    | .c (.tp _ _)=>some (True,ev x)
    |_=>none
  | .fieldAddr s x f=>match (fieldsOf P s)[f]?,ev x with
    |some (d,m), .c (.ptr k i o)=>if m=0 then none else some (True, .c (.ptr k i (o+d)))
    |some (d,m), .c (.tp e row)=>if m=0 then none else some (True, .c (.tp e (row.drop d)))
    |_,_=>none
  | .build t ps=>if structOf P t∧zeroOf P t≠ []then(match iD (fieldsOf P t) (zeroOf P t) (ps.toList.map fun(i,x)=>(i,ev x))with|some cs=>some (True, .agg cs)|none=>none)else if ps.toList.isEmpty && Ch P t then some (True, .agg [])else none
  | .indexAddr t x ix=>match uU P t,ev x,ev ix with
    |some e, .c (.own k sz n), .c (.t (.s (.int _ i)))=>if P.cellsOf e=sz then some (0≤i∧i<n, .c (.ptr k i.toNat 0))else none
    |some e, .c (.t (.sl e' sz n f)), .c (.t (.s (.int _ i)))=>if P.cellsOf e=sz then some (0≤i∧i<n, .c (.tp e' (f i.toNat)))else none
    |_,_,_=>none
  | .slice t x lo hi none=>match uU P t,ev x,lo,hi with
    |some e, .c (.own k sz n),none,some h=>match ev h with| .c (.t (.s (.int _ h)))=>some (0≤h∧h≤n, .c (.own k sz h.toNat))|_=>none
    |some e, .c (.t (.sl e' sz n f)),none,some h=>match ev h with| .c (.t (.s (.int _ h)))=>some (0≤h∧h≤n, .c (.t (.sl e' sz h.toNat f)))|_=>none
    | some e, .c (.t (.sl e' sz n f)),some l,none=>match ev l with
      | .c (.t (.s (.int _ l)))=>if P.cellsOf e=sz then some (0≤l∧l≤n, .c (.t (.sl e' sz (n - l.toNat) (fun j=>f (l.toNat+j)))))else none
      |_=>none
    |_,_,_,_=>none
  | .binOp op t x y _=>match ev x,ev y with
    | .c (.t (.s (.int k a))), .c (.t (.s (.int k' b)))=>if k=k' then lT op k a b else none
    | .c (.t (.s (.bool a))), .c (.t (.s (.bool b)))=>match op,P.underlying t with| .eql,some .bool=>some (True, .s (.bool (a==b)))| .neq,some .bool=>some (True, .s (.bool (a !=b)))|_,_=>none
    | .c (.t (.s v)), .c (.t (.s u))=>DY P op t x y v u
    |_,_=>none
  | .makeInterface t x=>if xx P t then mkI t (ev x)else none
  | .typeAssert x _ t ok=>if xx P t && xP P t then(match ev x with| .c (.t (.s v))=>asT P t ok v|_=>none)else none
  | .lookup t x ix true=>match ev x,ev ix with
    | .c (.t (.mp es n)), .c (.t (.s (.int k i)))=>some (∀w g,w.heap[g]? =some (.map es n)→∃v,(Instr.lookup t (.map (some g)) (.int k i) true).run P w= .ok v w∧∀E,mg E v (C9 (LG P t) es i),C9 (LG P t) es i)
    |_,_=>none
  | .field t x f=>match su P t f,ev x with
    |some o, .agg cs=>(match cs[o]? with|some c=>some (True, .c c)|none=>none)
    |_,_=>none
  | .unOp op _ x=>match op,ev x with
    | .not, .c (.t (.s (.bool b)))=>some (True, .s (.bool !b))
    | .neg, .c (.t (.s (.int k n)))=>some (True, .s (.int k (k.wrap (0 - n))))
    |_,_=>none
  | .convert src dst x=>match zB P src,zB P dst,ev x with
    |some _,some k, .c (.t (.s (.int _ n)))=>some (True, .s (.int k (k.wrap n)))
    |_,_,_=>none
  | .extract t ix=>match ev t with
    | .tup xs=>match xs[ix]? with|some x=>some (True,x)|none=>none
    |_=>none
  | .call c=>match c.callee,c.args.toList with
    | .builtin .len, [x]=>match (c.argTypes[0]?).bind (uU P),ev x with
      |some _, .c (.own k sz n)=>some (True, .s (.int .i64 n))
      |some _, .c (.t (.sl _ _ n _))=>some (True, .s (.int .i64 n))
      |some _, .c .nil=>some (True, .s (.int .i64 0))
      |_,_=>none
    | .builtin .max,xs=>lL (xs.map ev) (fun x y=>if y>x then y else x)
    | .builtin .min,xs=>lL (xs.map ev) (fun x y=>if y<x then y else x)
    |_,_=>none
  |_=>none
theorem zC (E:Env) (v:Value) (h:kD v=true):fO E v (fu v):=by
  unfold fu
  split
  ·rfl
  · split
    ·rename_i h1;exact RepT.s _ h1
    ·exact h
theorem Ci (E:Env) (v:Value):mg E v (eZ v):=by
  unfold eZ
  split
  ·rename_i h;exact zC E v h
  · split
    · rename_i cs _
      split
      · rename_i h
        refine⟨cs,rfl,by simp,fun i x y h1 h2=> ?_⟩
        have hx:x∈cs:=Array.mem_of_getElem? h1
        simp only[List.getElem?_map,Array.getElem?_toList,h1,Option.map_some,Option.some.injEq]at h2
        subst h2
        exact zC E x (List.all_eq_true.1 h x (by simpa using hx))
      ·trivial
    ·trivial
theorem lZ {E:Env} {ts:List V} {a:Act} (ht: ∀i x,ts[i]? =some x→mg E (a.tmps.getD i undef) x) (x:Operand):mg E (a.eval x) (evl ts x):=by
  cases x with
  | tmp t=>
    simp only[Act.eval,evl,List.getD_eq_getElem?_getD]
    cases h:ts[t]? with
    |none=>trivial
    |some x=>exact ht t x h
  |const v=>exact Ci E v
  |global g=>trivial
  |func f=>exact RepT.s _ rfl
section
variable {P:Program} {w:World}
theorem Gx {t:Nat} {d:TypeDesc} (h:P.underlying t=some d): ∃i,P.info? t=some i:=by
  unfold Program.underlying at h
  cases hi:P.info? t with
  |none=>simp[hi]at h
  |some i=>exact⟨i,rfl⟩
theorem rY {t:Nat} {d:TypeDesc} (h:P.underlying t=some d):(underlying t).run P w= .ok d w:=by
  simp[underlying,h,go_sem]
theorem yA {t:Nat} {i:TypeInfo} (h:P.info? t=some i):(sizeOf t).run P w= .ok (P.cellsOf t) w:=by
  simp[sizeOf,typeInfo,h,Program.cellsOf,go_sem]
theorem Cj {t:Nat} {d:TypeDesc} (h:P.underlying t=some d):(isAgg t).run P w= .ok (sj P t) w:=by
  unfold isAgg sj
  rw[Sem.run_bind,rY h,h]
  simp only[Result.andThen_ok]
  cases d<;>rfl
theorem Fu {t:Nat} {ad:Addr} {vs:List Value} (ha:sj P t=true) (hl:vs.length=P.cellsOf t)
    (h: ∀(j:Nat) (v:Value),vs[j]? =some v→w.cell? (ad.add j)=some v):(Instr.loadAt t (.pointer (some ad))).run P w= .ok (.agg vs.toArray) w:=by
  cases hu:P.underlying t with
  |none=>simp[sj,hu]at ha
  | some d=>
    obtain⟨i,hi⟩:=Gx hu
    simp only[Instr.loadAt,Instr.sureAddr,loadVar,Sem.run_bind,Sem.run_pure,Result.andThen_ok,Cj hu,ha,if_true,yA hi,←hl,run_loadCells_list w ad vs h]
theorem Fv {t:Nat} {ad:Addr} {v:Value} (ha:sj P t=false) (hs:(P.underlying t).isSome=true)
    (h:w.cell? ad=some v):(Instr.loadAt t (.pointer (some ad))).run P w= .ok v w:=by
  cases hu:P.underlying t with
  |none=>simp[hu]at hs
  | some d=>
    simp only[Instr.loadAt,Instr.sureAddr,loadVar,Sem.run_bind,Sem.run_pure,Result.andThen_ok,Cj hu,ha,Bool.false_eq_true,if_false]
    simp[go_sem,h]
end
theorem FZ {R:Value→C→Prop}: ∀(ys:List C) (p:Nat→Value→Prop),(∀(j:Nat) (y:C),ys[j]? =some y→∃x,p j x∧R x y)→
    ∃vs:List Value,vs.length=ys.length∧(∀(j:Nat) (v:Value),vs[j]? =some v→p j v)∧∀(j:Nat) (v:Value) (y:C),vs[j]? =some v→ys[j]? =some y→R v y
  | [],_,_=>⟨[],rfl,by simp,by simp⟩
  | y ::ys,p,h=>by
    obtain⟨x,hx,hr⟩:=h 0 y rfl
    obtain⟨vs,h1,h2,h3⟩:=FZ ys (fun j v=>p (j+1) v) (fun j y hy=>h (j+1) y (by simpa using hy))
    refine⟨x::vs,by simp[h1],fun j v hv=> ?_,fun j v y' hv hy=> ?_⟩
    · cases j with
      |zero=>simp at hv;subst hv;exact hx
      |succ j=>exact h2 j v (by simpa using hv)
    · cases j with
      |zero=>simp at hv hy;subst hv;subst hy;exact hr
      |succ j=>exact h3 j v y' (by simpa using hv) (by simpa using hy)
def cont:Blk→Nat→List C
  | .box _ cs,_=>cs
  | .row _ _ _ f,i=>(f i).map .t
theorem zz (g o j:Nat):(⟨g,o,none⟩:Addr).add j=⟨g,o+j,none⟩:=by unfold Addr.add;split<;>simp_all
theorem F3 {E:Env} {v:Value} {k i o:Nat} {b:Blk} (hv:fO E v (.ptr k i o)) (hl:E.B.live k=some b) (hB:At E k b):
    ∃ad,v= .pointer (some ad)∧∀(j:Nat) (y:C),((cont b i).drop o)[j]? =some y→∃x,E.w.cell? (ad.add j)=some x∧fO E x y:=by
  obtain⟨_,ad,rfl,h1,h2⟩:=hv
  cases b with
  | box t cs=>
    obtain⟨_,g,e1,e2⟩:=h1 t cs hl
    obtain⟨g',cur,e3,e4,e5,e6⟩:=hB
    have:g=g' :=by rw[e1]at e3;injection e3 with e3;injection e3 with e3;injection e3
    subst this
    subst e2
    refine⟨_,rfl,fun j y hy=> ?_⟩
    simp only[cont,List.getElem?_drop]at hy
    have hlt:o+j<cur.size:=by
      rcases Nat.lt_or_ge (o+j) cs.length with h|h
      ·omega
      ·simp[List.getElem?_eq_none h]at hy
    refine⟨cur[o+j], ?_,e6 (o+j) _ y (by simp) hy⟩
    rw[zz];simp[World.cell?,e4]
  | row e s N f=>
    obtain⟨hi,g,c,e1,e2⟩:=h2 e s N f hl
    obtain⟨inner,ho,hlen,hc⟩:=hB
    subst e2
    refine⟨_,rfl,fun j y hy=> ?_⟩
    simp only[cont,List.getElem?_drop,List.getElem?_map,Option.map_eq_some_iff]at hy
    obtain⟨y',hy',rfl⟩:=hy
    obtain⟨x,hx,hr⟩:=hc i (o+j) y' hi hy'
    refine⟨x, ?_,hr⟩
    have:=ho.cells (g:=g) (by rw[e1];rfl) _ x hx
    rw[zz]at this⊢
    simpa[Nat.add_assoc] using this
theorem AL {P:Program} {E:Env} {t:Nat} {cs:List C} {p:Prop} {v:V} {ad:Addr} (h:iA P t cs=some (p,v))
    (hc: ∀(j:Nat) (y:C),cs[j]? =some y→∃x,E.w.cell? (ad.add j)=some x∧fO E x y):
    ∃v',(Instr.loadAt t (.pointer (some ad))).run P E.w= .ok v' E.w∧mg E v' v:=by
  unfold iA at h
  split at h
  · rename_i ha
    split at h
    · rename_i hl
      simp only[Option.some.injEq,Prod.mk.injEq]at h
      obtain⟨_,rfl⟩:=h
      obtain⟨vs,h1,h2,h3⟩:=FZ cs (fun j x=>E.w.cell? (ad.add j)=some x) hc
      exact⟨_,Fu ha (h1.trans hl) h2,⟨vs.toArray,rfl,by simpa using h1,fun i x y hx hy=>h3 i x y (by simpa using hx) hy⟩⟩
    ·simp at h
  · rename_i ha
    split at h
    · rename_i hs
      split at h
      · rename_i x
        simp only[Option.some.injEq,Prod.mk.injEq]at h
        obtain⟨_,rfl⟩:=h
        obtain⟨u,hu,hr⟩:=hc 0 x rfl
        exact⟨u,Fv (by simpa using ha) hs (by simpa[Addr.add] using hu),hr⟩
      ·simp at h
    ·simp at h
theorem Bu {E:Env} {ad:Addr} {cs:List C} (m:Nat) (hc: ∀(j:Nat) (y:C),cs[j]? =some y→∃x,E.w.cell? (ad.add j)=some x∧fO E x y):
    ∀(j:Nat) (y:C),(cs.take m)[j]? =some y→∃x,E.w.cell? (ad.add j)=some x∧fO E x y:=fun j y hy=>by
  rw[List.getElem?_take]at hy
  split at hy
  ·exact hc j y hy
  ·simp at hy
theorem LH {E:Env} {v:Value} {e9:Nat} {row:List T} (hv:fO E v (.tp e9 row)):
    ∃ad,v= .pointer (some ad)∧∀(j:Nat) (y:C),(row.map C.t)[j]? =some y→∃x,E.w.cell? (ad.add j)=some x∧fO E x y:=by
  obtain⟨ad,e1,_,e2⟩:=hv
  refine⟨ad,e1,fun j y hy=> ?_⟩
  simp only[List.getElem?_map,Option.map_eq_some_iff]at hy
  obtain⟨y',hy',rfl⟩:=hy
  obtain⟨x,h1,h2⟩:=e2 j y' hy'
  exact⟨x,h1,h2⟩
theorem kW {P:Program} {w w' :World} {s:Sem Value} {v:Value} (h:s.run P w= .ok v w'):
    (do pure (.value (←s)):Sem Next).run P w= .ok (.value v) w' :=by simp[go_sem,h]
theorem Du {P:Program} {w:World} {s d m:Nat} {f:Nat} {ad:Addr} (h:(fieldsOf P s)[f]? =some (d,m)) (hm:m≠0):
    (Instr.fieldAt s (.pointer (some ad)) f).run P w= .ok (.pointer (some (ad.add d))) w:=by
  unfold fieldsOf at h
  cases hu:P.underlying s with
  |none=>simp[hu]at h
  | some u=>
    rw[hu]at h
    cases u<;>simp at h
    case struct fs=>
      obtain⟨fl,hf,rfl,rfl⟩:=h
      have hi: ∃i,P.info? fl.type=some i:=by
        cases h2:P.info? fl.type with
        |none=>simp[Program.cellsOf,h2]at hm
        |some i=>exact⟨i,rfl⟩
      obtain⟨i,hi⟩:=hi
      simp only[Instr.fieldAt,Sem.run_bind,rY hu,Result.andThen_ok,hf,Instr.sureAddr,Sem.run_pure,fieldPlace,yA hi,hm,if_false]
theorem add_add (a:Addr) (m n:Nat):(a.add m).add n=a.add (m+n):=by
  unfold Addr.add
  by_cases hm:m=0
  ·subst hm;simp
  · by_cases hn:n=0
    ·subst hn;simp[hm]
    ·simp[hm,hn,Nat.add_assoc]
theorem Kz {E:Env} {v:Value} {k i o d:Nat} (hv:fO E v (.ptr k i o)):
    ∃ad,v= .pointer (some ad)∧fO E (.pointer (some (ad.add d))) (.ptr k i (o+d)):=by
  obtain⟨h0,ad,rfl,h1,h2⟩:=hv
  refine⟨ad,rfl,h0,_,rfl,fun t cs hl=> ?_,fun e s N f hl=> ?_⟩
  · obtain⟨a,g,e1,rfl⟩:=h1 t cs hl
    exact⟨a,g,e1,zz _ _ _⟩
  · obtain⟨a,g,c,e1,rfl⟩:=h2 e s N f hl
    exact⟨a,g,c,e1,by rw[zz,Nat.add_assoc]⟩
theorem LJ {E:Env} {v:Value} {e9:Nat} {row:List T} {d:Nat} (hv:fO E v (.tp e9 row)):
    ∃ad,v= .pointer (some ad)∧fO E (.pointer (some (ad.add d))) (.tp e9 (row.drop d)):=by
  obtain⟨ad,rfl,hb,h⟩:=hv
  refine⟨ad,rfl,_,rfl,by rw[wR];exact hb,fun o y hy=> ?_⟩
  rw[List.getElem?_drop]at hy
  obtain⟨x,h1,h3⟩:=h _ y hy
  exact⟨x,by rw[add_add];exact h1,h3⟩
theorem xe {P:Program} {t e:Nat} (h:uU P t=some e):P.underlying t=some (.slice e)∧∃i,P.info? e=some i:=by
  unfold uU at h
  cases hu:P.underlying t with
  |none=>simp[hu]at h
  | some u=>
    rw[hu]at h
    cases u<;>simp at h
    obtain⟨h1,rfl⟩:=h
    exact⟨rfl,Option.isSome_iff_exists.1 h1⟩
theorem run_indexAt {P:Program} {w:World} {t e n c:Nat} {a:Addr} {k:IntKind} {i:Int} (h:uU P t=some e) (h0:0≤i) (h1:i<n):
    (Instr.indexAt t (.slice (some a) n c) (.int k i)).run P w= .ok (.pointer (some (a.add (i.toNat * P.cellsOf e)))) w:=by
  obtain⟨hu,inf,hi⟩:=xe h
  simp[Instr.indexAt,asIntOf,Sem.run_bind,rY hu,h0,h1,yA hi,go_sem]
theorem KA {E:Env} {v:Value} {k sz n:Nat} {i:Int} (hB: ∀k b,E.B.live k=some b→At E k b) (hv:fO E v (.own k sz n)) (h0:0≤i) (h1:i<n):
    ∃a c,v= .slice (some a) n c∧fO E (.pointer (some (a.add (i.toNat * sz)))) (.ptr k i.toNat 0):=by
  obtain⟨h2,ad,c,rfl,h3,h4,h5,h7,h6⟩:=hv
  obtain⟨a,rfl⟩:=Option.isSome_iff_exists.1 (h5 (by omega))
  refine⟨a,c,rfl,h2,_,rfl,fun t cs hl=> ?_,fun e s N f hl=> ?_⟩
  ·exact absurd hl (h7 t cs)
  · obtain⟨rfl,hN,hr⟩:=h6 e s N f hl
    obtain⟨inner,ho,_⟩:=hB k _ hl
    rw[hr]at ho
    obtain⟨g,cap,e1,_⟩:=ho.form (by omega)
    injection e1 with e1 _ _
    injection e1 with e1
    subst e1
    exact⟨by omega,g,c,hr,by rw[zz];simp⟩
theorem LK {E:Env} {v:Value} {e sz n:Nat} {f:Nat→List T} {i:Int} (hv:fO E v (.t (.sl e sz n f))) (h0:0≤i) (h1:i<n):
    ∃a c,v= .slice (some a) n c∧fO E (.pointer (some (a.add (i.toNat * sz)))) (.tp e (f i.toNat)):=by
  obtain⟨ad,c,rfl,h2,h3,hs,h4,h5,h6⟩:=RepT.sl_inv hv
  have hi:i.toNat<n:=by omega
  obtain⟨a,rfl⟩:=Option.isSome_iff_exists.1 (hs (.inl (by omega)))
  refine⟨a,c,rfl,_,rfl,by rw[wR];obtain⟨q1,q2,q3,q4,q5⟩:=h6 a rfl (.inl (by omega));exact⟨q1,q2,q3,q4,q5.imp id (·.1)⟩,fun o y hy=> ?_⟩
  obtain⟨b,x,hb,hx,hr⟩:=h5 i.toNat o y hi hy
  injection hb with hb
  subst hb
  exact⟨x,by rw[add_add];exact hx,hr⟩
theorem GQ {E:Env} {v:Value} {k sz n m:Nat} (hv:fO E v (.own k sz n)) (hm:m≤n): ∃ad c,v= .slice ad n c∧n≤c∧fO E (.slice ad m c) (.own k sz m):=by
  obtain⟨h2,ad,c,rfl,h3,h4,h5,h7,h6⟩:=hv
  refine⟨ad,c,rfl,h3,h2,ad,c,rfl,by omega,by omega,fun h=>h5 (by omega),h7,fun e s N f hl=> ?_⟩
  obtain⟨a,b,d⟩:=h6 e s N f hl
  exact⟨a,by omega,d⟩
theorem MX {E:Env} {v:Value} {e sz n m:Nat} {f:Nat→List T} (hv:fO E v (.t (.sl e sz n f))) (hm:m≤n): ∃ad c,v= .slice ad n c∧n≤c∧fO E (.slice ad m c) (.t (.sl e sz m f)):=by
  obtain⟨ad,c,rfl,h2,h3,hs,h4,h5,h6⟩:=RepT.sl_inv hv
  exact⟨ad,c,rfl,h2, .sl ad m c e sz f (by omega) (by omega) (fun h=>hs (h.imp (by omega) id)) (fun j hj=>h4 j (by omega)) (fun j o y hj hy=>h5 j o y (by omega) hy) (fun b hb hn=>h6 b hb (hn.imp (by omega) id))⟩
theorem MZ {E:Env} {v:Value} {e sz n l:Nat} {f:Nat→List T} (hv:fO E v (.t (.sl e sz n f))) (hl:l≤n): ∃ad c,v= .slice ad n c∧n≤c∧
    fO E (.slice (if c=l then ad else ad.map (·.add (l * sz))) (n - l) (c - l)) (.t (.sl e sz (n - l) (fun j=>f (l+j)))):=by
  obtain⟨ad,c,rfl,h2,h3,hs,h4,h5,h6⟩:=RepT.sl_inv hv
  refine⟨ad,c,rfl,h2, ?_⟩
  by_cases hcl:c=l
  · have:n - l=0:=by omega
    have h9:c - l=0:=by omega
    rw[this,h9]
    exact .sl _ 0 _ e sz _ (by omega) (by simp) (by simp[xc]) (by simp) (by simp) (by simp[xc])
  · rw[if_neg hcl]
    refine .sl _ (n - l) _ e sz _ (by omega) (by omega) (fun h=>by simpa using hs (h.imp (by omega) (And.imp id (by omega)))) (fun j hj=>h4 _ (by omega)) (fun j o y hj hy=> ?_) (fun b hb hn=> ?_)
    · obtain⟨b,x,rfl,hx,hr⟩:=h5 (l+j) o y (by omega) hy
      exact⟨b.add (l * sz),x,rfl,by rw[add_add];rw[←hx];congr 2;rw[Nat.add_mul];omega,hr⟩
    · simp only[Option.map_eq_some_iff]at hb
      obtain⟨b',rfl,rfl⟩:=hb
      rw[wR]
      obtain⟨q1,q2,q3,q4,q5⟩:=h6 b' rfl (hn.imp (by omega) (And.imp id (by omega)))
      refine⟨q1,q2,q3,q4,q5.imp id fun⟨q6,q8,q7⟩=>⟨q6,LF _ _ q8, ?_⟩⟩
      rw[I1]
      have:(c - l) * sz+l * sz=c * sz:=by rw[←Nat.add_mul];congr 1;omega
      omega
theorem AO {P:Program} {w:World} {t e n c:Nat} {ad:Option Addr} (h:uU P t=some e) (hn:n≤c) (lo hi' :Option Value) (l m:Nat)
    (hlo:lo=none∧l=0∨∃k:IntKind,lo=some (.int k l)) (hhi:hi' =none∧m=n∨∃k:IntKind,hi' =some (.int k m)) (hlm:l≤m) (hm:m≤c):
    (Instr.sliceAt t (.slice ad n c) lo hi' none).run P w= .ok (.slice (if c=l then ad else ad.map (·.add (l * P.cellsOf e))) (m - l) (c - l)) w:=by
  obtain⟨hu,inf,hi⟩:=xe h
  have b1: ∀(k:IntKind) (y x:Nat) (code:BoundsCode),x≤y→(Instr.sliceBound (.int k x) y code).run P w= .ok x w:=by
    intro k y x code hx
    simp[Instr.sliceBound,asIntOf,go_sem];omega
  simp only[Instr.sliceAt,Instr.slice,Instr.sliceBounds,Sem.run_bind,rY hu,Result.andThen_ok,yA hi,Sem.run_pure]
  rcases hlo with⟨rfl,rfl⟩|⟨k1,rfl⟩<;>rcases hhi with⟨rfl,rfl⟩|⟨k2,rfl⟩<;>
    simp[Sem.run_bind,Sem.run_pure,b1 _ _ _ _ hlm,b1 _ _ _ _ hm,Result.andThen_ok]
theorem Ep {ad:Option Addr} {c s:Nat}:(if c=0 then ad else ad.map (·.add (0 * s)))=ad:=by
  split
  ·rfl
  ·cases ad<;>simp[Addr.add]
end Go.Proofs.Ytojpejfcafbafaa.V
end
section
namespace Go.Proofs.Ytojpejfcafbafaa.V
open Go Go.RowKit
set_option linter.unusedVariables false
set_option linter.unusedSimpArgs false
theorem Jv {P:Program} {E:Env} {op:BinOp} {k:IntKind} {a b:Int} {p:Prop} {v:V} {t:TypeId} {x y:Operand} (h:lT op k a b=some (p,v)) (hp:p):
    ∃v',(do eqGuard op t x y (.int k a) (.int k b);binOp op t (.int k a) (.int k b):Sem Value).run P E.w= .ok v' E.w∧mg E v' v:=by
  cases op<;>simp only[lT,Option.some.injEq,Prod.mk.injEq,reduceCtorEq,false_and]at h<;>obtain⟨rfl,rfl⟩:=h
  case quo=>exact⟨_,by simp[eqGuard,binOp,Op.intDiv,hp,go_sem],RepT.s _ rfl⟩
  case rem=>exact⟨_,by simp[eqGuard,binOp,Op.intDiv,hp,go_sem],RepT.s _ rfl⟩
  all_goals exact⟨_,by simp[eqGuard,binOp,Op.intArith,Op.intCmp,Op.intBits,go_sem],RepT.s _ rfl⟩
theorem mh {E:Env} {v u:Value} (h:mg E v (.c (.t (.s u)))):v=u:=by
  have h:RepT E.w E.A v (.s u):=h
  cases h;rfl
theorem F4 {P:Program} {w:World} {t:TypeId} {x y:Operand} {a b:Bool} (hu:P.underlying t=some .bool):
    (do eqGuard .eql t x y (.bool a) (.bool b);binOp .eql t (.bool a) (.bool b):Sem Value).run P w= .ok (.bool (a==b)) w∧
    (do eqGuard .neq t x y (.bool a) (.bool b);binOp .neq t (.bool a) (.bool b):Sem Value).run P w= .ok (.bool (a !=b)) w:=by
  have e:(Op.equal t (.bool a) (.bool b)).run P w= .ok (a==b) w:=by
    rw[show Op.equal t (.bool a) (.bool b)=Op.equalIn (9999+1) t (.bool a) (.bool b) from rfl,Op.equalIn,Sem.run_bind,rY hu]
    rfl
  constructor<;>simp[eqGuard,binOp,e,go_sem,bne]
theorem GU (ys:List Value): ∀(o i:Nat) (cs:Array Value),o+i+ys.length≤cs.size→
    ((ys.zipIdx i).foldl (fun cs (c,j)=>cs.setIfInBounds (o+j) c) cs).toList=splice cs.toList (o+i) ys:=by
  induction ys with
  |nil=>intro o i cs h;simp[splice]
  | cons y ys ih=>
    intro o i cs h
    simp only[List.zipIdx_cons,List.foldl_cons]
    rw[ih o (i+1) _ (by simp at h⊢;omega)]
    simp only[splice,Array.toList_setIfInBounds,List.length_cons]
    have hi:o+i<cs.toList.length:=by simp at h⊢;omega
    rw[show o+(i+1)=o+i+1 by omega,List.take_set,List.drop_set,List.take_succ_eq_append_getElem (by simpa using hi)]
    have hl:(List.take (o+i) cs.toList).length=o+i:=by simp at hi⊢;omega
    rw[List.set_append_right _ _ (by omega),hl,if_pos (by omega),show o+i+1+ys.length=o+i+(ys.length+1) by omega]
    simp
def tJ (E:Env) (vs:List Value) (xs:List C):Prop:=vs.length=xs.length∧∀(i:Nat) (x:Value) (y:C),vs[i]? =some x→xs[i]? =some y→fO E x y
theorem tJ.nil (E:Env):tJ E [] []:=⟨rfl,by simp⟩
theorem tJ.take {E:Env} {vs:List Value} {xs:List C} (h:tJ E vs xs) (n:Nat):tJ E (vs.take n) (xs.take n):=
  ⟨by simp[h.1],fun i x y h1 h2=>by
    rw[List.getElem?_take]at h1 h2
    split at h1<;>simp_all
    exact h.2 i x y h1 h2⟩
theorem tJ.drop {E:Env} {vs:List Value} {xs:List C} (h:tJ E vs xs) (n:Nat):tJ E (vs.drop n) (xs.drop n):=
  ⟨by simp[h.1],fun i x y h1 h2=>by
    rw[List.getElem?_drop]at h1 h2
    exact h.2 _ x y h1 h2⟩
theorem tJ.append {E:Env} {vs us:List Value} {xs ys:List C} (h:tJ E vs xs) (h' :tJ E us ys):tJ E (vs++us) (xs++ys):=
  ⟨by simp[h.1,h'.1],fun i x y h1 h2=>by
    rw[List.getElem?_append]at h1 h2
    rw[h.1]at h1
    split at h1
    ·rename_i hlt;rw[if_pos hlt]at h2;exact h.2 i x y h1 h2
    ·rename_i hlt;rw[if_neg hlt]at h2;exact h'.2 _ x y h1 h2⟩
theorem tJ.splice {E:Env} {vs us:List Value} {xs ys:List C} (h:tJ E vs xs) (h' :tJ E us ys) (o:Nat):tJ E (splice vs o us) (splice xs o ys):=by
  unfold V.splice
  rw[h'.1]
  exact((h.take o).append h').append (h.drop _)
theorem wo {E:Env} {v:Value} {x:V} {ys:List C} (h:mg E v x) (hc:d9 x=some ys):tJ E v.cells.toList ys:=by
  cases x with
  | c x=>
    simp only[d9,Option.some.injEq]at hc
    subst hc
    have h:fO E v x:=h
    have h1:=h.one
    have:v.cells= #[v]:=by cases v<;>simp_all [Value.cells,kD]
    rw[this]
    exact⟨rfl,fun i x' y h1 h2=>by
      cases i with
      |zero=>simp at h1 h2;subst h1;subst h2;exact h
      |succ i=>simp at h1⟩
  | agg xs=>
    simp only[d9,Option.some.injEq]at hc
    subst hc
    obtain⟨vs,rfl,h1,h2⟩:=h
    exact⟨by simpa[Value.cells] using h1,fun i x y hx hy=>h2 i x y (by simpa[Value.cells] using hx) hy⟩
  |tup _=>simp[d9]at hc
  |dead=>simp[d9]at hc
theorem Dv {E:Env} {places:Array (Nat×Nat)}: ∀(ps:List (Nat×V)) (us:List (Nat×Value)) (cs:List C) (zs:Array Value) (rs:List C),
    tJ E zs.toList cs→us.length=ps.length→(∀(i:Nat) (p:Nat×V) (u:Nat×Value),ps[i]? =some p→us[i]? =some u→u.1=p.1∧mg E u.2 p.2)→
    iD places.toList cs ps=some rs→∃zs',Instr.fill (places[·]?) zs us=some zs' ∧tJ E zs'.toList rs
  | [],us,cs,zs,rs,hz,hl,hp,h=>by
    simp only[iD,Option.some.injEq]at h
    subst h
    have:us= []:=by simpa using hl
    subst this
    exact⟨zs,rfl,hz⟩
  | (i, v)::ps,us,cs,zs,rs,hz,hl,hp,h=>by
    cases us with
    |nil=>simp at hl
    | cons u us=>
      obtain⟨e1,hr⟩:=hp 0 (i,v) u rfl rfl
      simp only at e1 hr
      simp only[iD]at h
      split at h
      · rename_i o m ys hpl hcv
        split at h
        · rename_i hc
          have hcs:=wo hr hcv
          have hsz:u.2.cells.size=m:=by have:=hcs.1;simp at this;omega
          have hzl:zs.size=cs.length:=by simpa using hz.1
          have hpl' :places[u.1]? =some (o,m):=by rw[e1];simpa using hpl
          refine Exists.imp (fun zs' hz' =>hz') (?_: ∃zs',Instr.fill (places[·]?) zs (u::us)=some zs' ∧tJ E zs'.toList rs)
          have hstep:=GU u.2.cells.toList o 0 zs (by simp;omega)
          obtain⟨zs',h1,h2⟩:=Dv ps us (splice cs o ys) ((u.2.cells.toList.zipIdx 0).foldl (fun cs (c,j)=>cs.setIfInBounds (o+j) c) zs) rs
            (by rw[hstep];exact hz.splice hcs o) (by simpa using hl) (fun i p u' h1 h2=>hp (i+1) p u' (by simpa using h1) (by simpa using h2)) h
          refine⟨zs', ?_,h2⟩
          obtain⟨u1,u2⟩:=u
          simp only at hpl' hsz h1⊢
          simp only[Instr.fill,hpl']
          rw[if_neg (by simp;omega)]
          rw[←h1]
          congr 1
          rw[←Array.foldl_toList]
          simp
        ·simp at h
      ·simp at h
theorem Dw {P:Program}: ∀(fs:List Field),(fs.all fun f=>(P.info? f.type).isSome)=true→
    fs.mapM (fun f=>(P.info? f.type).map fun i=>(f.offset,i.size))=some (fs.map fun f=>(f.offset,P.cellsOf f.type))
  | [],_=>by simp
  | f::fs,h=>by
    simp only[List.all_cons,Bool.and_eq_true]at h
    obtain⟨i,hi⟩:=Option.isSome_iff_exists.1 h.1
    simp[List.mapM_cons,hi,Dw fs h.2,Program.cellsOf]
theorem wC {P:Program} {E:Env} {t:Nat} (h:zeroOf P t≠ []): ∃i z,P.info? t=some i∧i.zero=some z∧tJ E z.cells.toList (zeroOf P t):=by
  unfold zeroOf at h⊢
  cases hi:P.info? t with
  |none=>simp[hi]at h
  | some i=>
    cases hz:i.zero with
    |none=>simp[hi,hz]at h
    | some z=>
      simp only[hi,hz,Option.bind_some]at h⊢
      split at h
      · rename_i hall
        rw[if_pos hall]
        refine⟨i,z,rfl,hz,by simp,fun j x y h1 h2=> ?_⟩
        have hx:x∈z.cells.toList:=List.mem_of_getElem? h1
        simp only[List.getElem?_map,h1,Option.map_some,Option.some.injEq]at h2
        subst h2
        exact zC E x (List.all_eq_true.1 hall x hx)
      ·simp at h
theorem IK {P:Program} {E:Env} {t:Nat} {ps:Array (Nat×V)} {us:Array (Nat×Value)} {cs:List C} (hs:structOf P t=true) (hz:zeroOf P t≠ [])
    (hl:us.size=ps.size) (hp: ∀(i:Nat) (p:Nat×V) (u:Nat×Value),ps[i]? =some p→us[i]? =some u→u.1=p.1∧mg E u.2 p.2)
    (h:iD (fieldsOf P t) (zeroOf P t) ps.toList=some cs): ∃vs,(Instr.build t us).run P E.w= .ok (.agg vs) E.w∧tJ E vs.toList cs:=by
  obtain⟨i,z,hi,hzz,hrz⟩:=wC (E:=E) hz
  unfold structOf at hs
  cases hu:P.underlying t with
  |none=>simp[hu]at hs
  | some d=>
    rw[hu]at hs
    cases d<;>simp only[Bool.false_eq_true]at hs
    case struct fs=>
      have hf:(fieldsOf P t)=fs.toList.map fun f=>(f.offset,P.cellsOf f.type):=by simp[fieldsOf,hu]
      obtain⟨zs,h1,h2⟩:=Dv (E:=E) (places:=(fs.toList.map fun f=>(f.offset,P.cellsOf f.type)).toArray) ps.toList us.toList _ z.cells cs hrz (by simpa using hl)
        (fun i p u h1 h2=>hp i p u (by simpa using h1) (by simpa using h2)) (by rw[←hf];exact h)
      refine⟨zs,run_build E.w t us zs ?_,h2⟩
      unfold Program.built
      simp only[hi,hu,hzz,Dw _ hs]
      exact h1
theorem F5 {P:Program} {t:Nat} (h:xx P t=true): ∃d,P.underlying t=some d∧∀ms,d≠ .interface ms:=by
  unfold xx at h
  cases hu:P.underlying t with
  |none=>simp[hu]at h
  |some d=>refine⟨d,rfl,fun ms e=> ?_⟩;subst e;simp[hu]at h
theorem LM (E:Env) (v:Value):vL E v (eZ v):=by
  have h:=Ci E v
  cases hx:eZ v with
  | tup xs=>
    exfalso
    unfold eZ at hx
    split at hx
    ·cases hx
    · split at hx
      ·split at hx<;>cases hx
      ·cases hx
  |c x=>rw[hx]at h;exact h
  |agg xs=>rw[hx]at h;exact h
  |dead=>trivial
theorem LP {P:Program} {t:Nat} {w:World} (h:xP P t=true): ∃z,(zeroValue t).run P w= .ok z w∧∀E,vL E z (zV P t):=by
  unfold xP at h
  cases hi:P.info? t with
  |none=>simp[hi]at h
  | some i=>
    cases hz:i.zero with
    |none=>simp[hi,hz]at h
    |some z=>exact⟨z,by simp[zeroValue,typeInfo,hi,hz,go_sem],fun E=>by unfold zV;rw[hi];simp only[Option.bind_some,hz];exact LM E z⟩
theorem LQ {E:Env} {v u:Value} (h:fO E v (.t (.s u))):iX u=true:=by
  have h:RepT E.w E.A v (.s u):=h
  cases h;assumption
theorem Er {E:Env}: ∀(cs:List C) (vs us:List Value),vK cs=some vs→us.length=cs.length→(∀(i:Nat) (x:Value) (y:C),us[i]? =some x→cs[i]? =some y→fO E x y)→us=vs
  | [],vs,us,h,hl,_=>by simp only[vK,Option.some.injEq]at h;subst h;simpa using hl
  | .t (.s v)::cs,vs,us,h,hl,hr=>by
    simp only[vK]at h
    split at h<;>simp only[Option.some.injEq,reduceCtorEq]at h
    rename_i r hr'
    subst h
    cases us with
    |nil=>simp at hl
    | cons u us=>
      have e:u=v:=by
        have h9:RepT E.w E.A u (.s v):=hr 0 u _ rfl rfl
        cases h9;rfl
      subst e
      rw[Er cs r us hr' (by simpa using hl) (fun i x y h1 h2=>hr (i+1) x y (by simpa using h1) (by simpa using h2))]
  | .t (.sl ..)::_,_,_,h,_,_=>by simp[vK]at h
  | .t (.mp ..)::_,_,_,h,_,_=>by simp[vK]at h
  | .nil::_,_,_,h,_,_=>by simp[vK]at h
  | .own .. ::_,_,_,h,_,_=>by simp[vK]at h
  | .ptr .. ::_,_,_,h,_,_=>by simp[vK]at h
  | .tp .. ::_,_,_,h,_,_=>by simp[vK]at h
  | .dead::_,_,_,h,_,_=>by simp[vK]at h
theorem IL {E:Env} {v:Value} {cs:List C} {vs:List Value} (h:mg E v (.agg cs)) (hs:vK cs=some vs):v= .agg vs.toArray:=by
  obtain⟨us,rfl,h1,h2⟩:=h
  have:=Er cs vs us.toList hs (by simpa using h1) (fun i x y hx hy=>h2 i x y (by simpa using hx) hy)
  rw[←this]
theorem LU {v:Value} (h:wX v=true):iX v=true:=by cases v<;>simp_all [iX,wX]
theorem Jw {E:Env} {t:Nat} {v:Value} (h:iX (.iface t v)=true):vL E v (yz v):=by
  cases v with
  | agg cs=>
    refine⟨cs,rfl,by simp,fun i x y h1 h2=> ?_⟩
    simp only[List.getElem?_map,Array.getElem?_toList,h1,Option.map_some,Option.some.injEq]at h2
    subst h2
    refine RepT.s _ (LU ?_)
    have h:cs.toList.all wX=true:=h
    have hx:x∈cs:=Array.mem_of_getElem? h1
    exact List.all_eq_true.1 h x (by simpa using hx)
  |bool b=>exact RepT.s _ rfl
  |int k n=>exact RepT.s _ rfl
  |string s=>exact RepT.s _ rfl
  |_=>simp[iX,wX]at h
theorem NG {E:Env} {v:Value} {es:Array MapEntry} {n:Nat} (h:fO E v (.t (.mp es n))): ∃g,v= .map (some g)∧E.w.heap[g]? =some (.map es n)∧E.A g:=by
  have h:RepT E.w E.A v (.mp es n):=h
  cases h with
  |mp g _ _ h hA=>exact⟨g,rfl,h,hA⟩
theorem KC {P:Program} {w:World} {t f o:Nat} {vs:Array Value} {u:Value} (h:su P t f=some o) (hu:vs[o]? =some u):(Instr.field t (.agg vs) f).run P w= .ok u w:=by
  unfold su at h
  cases hd:P.underlying t with
  |none=>simp[hd]at h
  | some d=>
    rw[hd]at h
    cases d<;>simp only[reduceCtorEq]at h
    case struct fs=>
      split at h
      · rename_i fd hf
        split at h<;>simp only[Option.some.injEq,reduceCtorEq]at h
        rename_i hc
        subst h
        obtain⟨d2,hd2⟩:=Option.isSome_iff_exists.1 hc.2
        simp only[Instr.field,Sem.run_bind,rY hd,Result.andThen_ok,hf,asAgg,Sem.run_pure,part,Cj hd2,hc.1,Bool.false_eq_true,if_false,hu]
      ·simp at h
theorem Es {P:Program} {E:Env} {o:Oper} {ts:List V} {a:Act} {p:Prop} {v:V} (hB: ∀k b,E.B.live k=some b→At E k b)
    (ht: ∀i x,ts[i]? =some x→mg E (a.tmps.getD i undef) x) (h:dz P o.op (evl ts) E.B.live=some (p,v)) (hp:p):
    ∃v',(execOp a.eval o).run P E.w= .ok (.value v') E.w∧mg E v' v:=by
  have ev:=fun x=>lZ ht x
  have evC: ∀ {x y},evl ts x= .c y→fO E (a.eval x) y:=fun{x y} hx=>by have:=ev x;rw[hx]at this;exact this
  cases hop:o.op with
  |move x=>simp only[hop,dz,Option.some.injEq,Prod.mk.injEq]at h;obtain⟨_,rfl⟩:=h;exact⟨_,by simp[execOp,hop],ev x⟩
  |assign x=>simp only[hop,dz,Option.some.injEq,Prod.mk.injEq]at h;obtain⟨_,rfl⟩:=h;exact⟨_,by simp[execOp,hop],ev x⟩
  | pick c x y=>
    simp only[hop,dz]at h
    split at h<;>simp only[Option.some.injEq,Prod.mk.injEq,reduceCtorEq]at h
    rename_i t hc
    obtain⟨_,rfl⟩:=h
    have hb:=mh (E:=E) (evC hc)
    refine⟨if t=true then a.eval x else a.eval y,by simp only[execOp,hop,hb];cases t<;>simp[asBool,go_sem], ?_⟩
    cases t<;>simp<;>exact ev _
  | load t x=>
    simp only[hop,dz]at h
    have e1: ∀v' ,(Instr.loadAt t (a.eval x)).run P E.w= .ok v' E.w→(execOp a.eval o).run P E.w= .ok (.value v') E.w:=fun v' hv=>by simp only[execOp,hop];exact kW hv
    split at h
    · rename_i k i o' hx
      have hv:fO E (a.eval x) (.ptr k i o'):=evC hx
      split at h
      · rename_i t' cs hl
        obtain⟨ad,e2,hc⟩:=F3 hv hl (hB _ _ hl)
        obtain⟨v',h1,h2⟩:=AL h (Bu _ (by simpa[cont] using hc))
        exact⟨v',e1 v' (e2▸h1),h2⟩
      · rename_i e s N f hl
        obtain⟨ad,e2,hc⟩:=F3 hv hl (hB _ _ hl)
        simp only[cont]at hc
        obtain⟨v',h1,h2⟩:=AL (cs:=(((f i).drop o').take (P.cellsOf t)).map .t) h (by rw[List.map_take,List.map_drop];exact Bu _ hc)
        exact⟨v',e1 v' (e2▸h1),h2⟩
      ·simp at h
    · rename_i e9 row hx
      have hv:fO E (a.eval x) (.tp e9 row):=evC hx
      obtain⟨ad,e2,hc⟩:=LH hv
      obtain⟨v',h1,h2⟩:=AL (cs:=(row.take (P.cellsOf t)).map .t) h (by rw[List.map_take];exact Bu _ hc)
      exact⟨v',e1 v' (e2▸h1),h2⟩
    ·simp at h
  | nilCheck x=>
    simp only[hop,dz]at h
    split at h<;>simp only[Option.some.injEq,Prod.mk.injEq,reduceCtorEq]at h
    · rename_i k i o' hx
      obtain⟨_,rfl⟩:=h
      have hv:fO E (a.eval x) (.ptr k i o'):=evC hx
      obtain⟨_,ad,e1,_⟩:=hv
      exact⟨a.eval x,by simp only[execOp,hop,e1];rfl,ev x⟩
    · rename_i e9 row hx
      obtain⟨_,rfl⟩:=h
      have hv:fO E (a.eval x) (.tp e9 row):=evC hx
      obtain⟨ad,e1,_⟩:=hv
      exact⟨a.eval x,by simp only[execOp,hop,e1];rfl,ev x⟩
  | fieldAddr s x f=>
    simp only[hop,dz]at h
    have e1: ∀v' ,(Instr.fieldAt s (a.eval x) f).run P E.w= .ok v' E.w→(execOp a.eval o).run P E.w= .ok (.value v') E.w:=fun v' hv=>by simp only[execOp,hop];exact kW hv
    split at h
    · rename_i d m k i o' hf hx
      split at h<;>simp only[Option.some.injEq,Prod.mk.injEq,reduceCtorEq]at h
      rename_i hm
      obtain⟨_,rfl⟩:=h
      obtain⟨ad,e2,h2⟩:=Kz (d:=d) (show fO E (a.eval x) (.ptr k i o') from evC hx)
      exact⟨_,e1 _ (by rw[e2];exact Du hf hm),h2⟩
    · rename_i d m e9 row hf hx
      split at h<;>simp only[Option.some.injEq,Prod.mk.injEq,reduceCtorEq]at h
      rename_i hm
      obtain⟨_,rfl⟩:=h
      obtain⟨ad,e2,h2⟩:=LJ (d:=d) (show fO E (a.eval x) (.tp e9 row) from evC hx)
      exact⟨_,e1 _ (by rw[e2];exact Du hf hm),h2⟩
    ·simp at h
  | build t ps=>
    simp only[hop,dz]at h
    split at h
    · rename_i hs
      split at h<;>simp only[Option.some.injEq,Prod.mk.injEq,reduceCtorEq]at h
      rename_i cs hf
      obtain⟨_,rfl⟩:=h
      obtain⟨vs,h1,h2⟩:=IK (E:=E) (ps:=ps.map fun(i,x)=>(i,evl ts x)) (us:=ps.map fun(i,x)=>(i,a.eval x)) hs.1 hs.2 (by simp)
        (fun i p u h1 h2=>by
          simp only[Array.getElem?_map,Option.map_eq_some_iff]at h1 h2
          obtain⟨q,hq,rfl⟩:=h1
          obtain⟨q',hq',rfl⟩:=h2
          rw[hq]at hq'
          injection hq' with hq'
          subst hq'
          exact⟨rfl,ev _⟩) (by simpa using hf)
      exact⟨.agg vs,by simp only[execOp,hop];exact kW h1,⟨vs,rfl,by simpa using h2.1,fun i x y hx hy=>h2.2 i x y (by simpa using hx) hy⟩⟩
    · split at h<;>simp only[Option.some.injEq,Prod.mk.injEq,reduceCtorEq]at h
      rename_i he
      obtain⟨_,rfl⟩:=h
      simp only[Bool.and_eq_true,List.isEmpty_iff]at he
      have hps:ps= #[]:=by rw[←Array.toArray_toList (xs:=ps),he.1]
      have he2:=he.2
      unfold Ch at he2
      cases hb:P.built t []with
      |none=>simp[hb]at he2
      | some zs=>
        rw[hb]at he2
        have hz:zs= #[]:=Array.size_eq_zero_iff.1 (by simpa using he2)
        subst hz
        exact⟨.agg #[],by simp only[execOp,hop,hps];exact kW (run_build E.w t _ _ (by simpa using hb)),⟨#[],rfl,rfl,fun i x y hx=>by simp at hx⟩⟩
  | indexAddr t x ix=>
    simp only[hop,dz]at h
    have e1: ∀v' ,(Instr.indexAt t (a.eval x) (a.eval ix)).run P E.w= .ok v' E.w→(execOp a.eval o).run P E.w= .ok (.value v') E.w:=fun v' hv=>by simp only[execOp,hop];exact kW hv
    split at h
    · rename_i e k sz n k' i he hx hi
      split at h<;>simp only[Option.some.injEq,Prod.mk.injEq,reduceCtorEq]at h
      rename_i hs
      obtain⟨rfl,rfl⟩:=h
      obtain⟨ad,c,e2,h2⟩:=KA hB (evC hx) hp.1 hp.2
      have e3:=mh (E:=E) (evC hi)
      exact⟨_,e1 _ (by rw[e2,e3];exact run_indexAt he hp.1 hp.2),by rw[hs];exact h2⟩
    · rename_i e e' sz n f k' i he hx hi
      split at h<;>simp only[Option.some.injEq,Prod.mk.injEq,reduceCtorEq]at h
      rename_i hs
      obtain⟨rfl,rfl⟩:=h
      obtain⟨ad,c,e2,h2⟩:=LK (evC hx) hp.1 hp.2
      have e3:=mh (E:=E) (evC hi)
      exact⟨_,e1 _ (by rw[e2,e3];exact run_indexAt he hp.1 hp.2),by rw[hs];exact h2⟩
    ·simp at h
  | slice t x lo hi mx=>
    cases mx with
    |some _=>simp[hop,dz]at h
    | none=>
      simp only[hop,dz]at h
      have e1: ∀v' ,(Instr.sliceAt t (a.eval x) (lo.map a.eval) (hi.map a.eval) none).run P E.w= .ok v' E.w→(execOp a.eval o).run P E.w= .ok (.value v') E.w:=fun v' hv=>by simp only[execOp,hop];exact kW hv
      have nn: ∀i:Int,0≤i→∃m:Nat,i=m:=fun i hi=>⟨i.toNat,by omega⟩
      split at h
      · rename_i e k sz n hh he hx
        split at h<;>simp only[Option.some.injEq,Prod.mk.injEq,reduceCtorEq]at h
        rename_i k' i hi
        obtain⟨rfl,rfl⟩:=h
        obtain⟨h0,h1⟩:=hp
        obtain⟨m,rfl⟩:=nn i h0
        have hm:m≤n:=by omega
        obtain⟨ad,c,e2,e4,h2⟩:=GQ (evC hx) hm
        have e3:=mh (E:=E) (evC hi)
        refine⟨_,e1 _ (by rw[e2];simp only[Option.map_some,Option.map_none,e3];exact AO he e4 none _ 0 m (.inl ⟨rfl,rfl⟩) (.inr ⟨_,rfl⟩) (Nat.zero_le _) (by omega)), ?_⟩
        simp only[Ep,Nat.sub_zero,Int.toNat_natCast]
        exact h2
      · rename_i e e' sz n f hh he hx
        split at h<;>simp only[Option.some.injEq,Prod.mk.injEq,reduceCtorEq]at h
        rename_i k' i hi
        obtain⟨rfl,rfl⟩:=h
        obtain⟨h0,h1⟩:=hp
        obtain⟨m,rfl⟩:=nn i h0
        have hm:m≤n:=by omega
        obtain⟨ad,c,e2,e4,h2⟩:=MX (evC hx) hm
        have e3:=mh (E:=E) (evC hi)
        refine⟨_,e1 _ (by rw[e2];simp only[Option.map_some,Option.map_none,e3];exact AO he e4 none _ 0 m (.inl ⟨rfl,rfl⟩) (.inr ⟨_,rfl⟩) (Nat.zero_le _) (by omega)), ?_⟩
        simp only[Ep,Nat.sub_zero,Int.toNat_natCast]
        exact h2
      · rename_i e e' sz n f l he hx
        split at h
        · rename_i k' i hi
          split at h<;>simp only[Option.some.injEq,Prod.mk.injEq,reduceCtorEq]at h
          rename_i hs
          obtain⟨rfl,rfl⟩:=h
          obtain⟨h0,h1⟩:=hp
          obtain⟨m,rfl⟩:=nn i h0
          have hm:m≤n:=by omega
          obtain⟨ad,c,e2,e4,h2⟩:=MZ (evC hx) hm
          have e3:=mh (E:=E) (evC hi)
          refine⟨_,e1 _ (by rw[e2];simp only[Option.map_some,Option.map_none,e3];exact AO he e4 _ none m n (.inr ⟨_,rfl⟩) (.inl ⟨rfl,rfl⟩) hm e4), ?_⟩
          rw[hs]
          simp only[Int.toNat_natCast]
          exact h2
        ·simp at h
      ·simp at h
  | binOp op t x y yt=>
    simp only[hop,dz]at h
    split at h
    · rename_i k i k' j hx hy
      by_cases hk:k=k'
      case neg=>rw[if_neg hk]at h;cases h
      rw[if_pos hk]at h
      subst hk
      have e1:=mh (E:=E) (evC hx)
      have e2:=mh (E:=E) (evC hy)
      obtain⟨v',h1,h2⟩:=Jv (P:=P) (E:=E) (t:=t) (x:=x) (y:=y) h hp
      exact⟨v',by simp only[execOp,hop,e1,e2];exact kW h1,h2⟩
    · rename_i i j hx hy
      have e1:=mh (E:=E) (evC hx)
      have e2:=mh (E:=E) (evC hy)
      split at h<;>simp only[Option.some.injEq,Prod.mk.injEq,reduceCtorEq]at h
      · rename_i hu
        obtain⟨_,rfl⟩:=h
        exact⟨.bool (i==j),by simp only[execOp,hop,e1,e2];exact kW (F4 hu).1,RepT.s _ rfl⟩
      · rename_i hu
        obtain⟨_,rfl⟩:=h
        exact⟨.bool (i !=j),by simp only[execOp,hop,e1,e2];exact kW (F4 hu).2,RepT.s _ rfl⟩
    · rename_i v1 u1 _ _ hx hy
      have e1:=mh (E:=E) (evC hx)
      have e2:=mh (E:=E) (evC hy)
      unfold DY at h
      split at h<;>simp only[Option.some.injEq,Prod.mk.injEq,reduceCtorEq]at h
      · obtain⟨rfl,rfl⟩:=h
        exact⟨_,by simp only[execOp,hop,e1,e2];exact kW (hp.1 _),RepT.s _ rfl⟩
      · obtain⟨rfl,rfl⟩:=h
        exact⟨_,by simp only[execOp,hop,e1,e2];exact kW (hp.2 _),RepT.s _ rfl⟩
    ·simp at h
  | makeInterface t x=>
    simp only[hop,dz]at h
    split at h
    case isFalse=>simp at h
    rename_i hpt
    obtain⟨d,hd,hni⟩:=F5 hpt
    have run: ∀u,a.eval x=u→(execOp a.eval o).run P E.w= .ok (.value (.iface t u)) E.w:=fun u hu=>by
      simp only[execOp,hop,hu]
      refine kW ?_
      simp only[Instr.makeInterface,Sem.run_bind,rY hd,Result.andThen_ok]
      cases d<;>first|rfl|exact absurd rfl (hni _)
    unfold mkI at h
    split at h
    · rename_i cs hx
      split at h
      · rename_i vs hvs
        split at h<;>simp only[Option.some.injEq,Prod.mk.injEq,reduceCtorEq]at h
        rename_i hall
        obtain⟨_,rfl⟩:=h
        have hr:=ev x
        rw[hx]at hr
        have e1:=IL hr hvs
        exact⟨_,run _ e1,RepT.s _ (by simpa[iX] using hall)⟩
      ·simp at h
    · rename_i v1 hx
      split at h<;>simp only[Option.some.injEq,Prod.mk.injEq,reduceCtorEq]at h
      rename_i hs
      obtain⟨_,rfl⟩:=h
      have e1:=mh (E:=E) (evC hx)
      exact⟨_,run _ e1,RepT.s _ (by cases v1<;>simp_all [iX,wX])⟩
    ·simp at h
  | typeAssert x xt t ok=>
    simp only[hop,dz]at h
    split at h
    case isFalse=>simp at h
    rename_i hpt
    simp only[Bool.and_eq_true]at hpt
    obtain⟨d,hd,hni⟩:=F5 hpt.1
    obtain⟨z,hz,hzA⟩:=LP (w:=E.w) hpt.2
    have e1: ∀v',(Instr.typeAssert (a.eval x) xt t ok).run P E.w= .ok v' E.w→(execOp a.eval o).run P E.w= .ok (.value v') E.w:=fun v' hv=>by simp only[execOp,hop];exact kW hv
    split at h
    case h_2=>simp at h
    rename_i v1 hx
    have e2:=mh (E:=E) (evC hx)
    have hsc:iX v1=true:=LQ (evC hx)
    have fails: ∀u,(u= .nilIface∨∃t' v',u= .iface t' v' ∧t' ≠t)→ok=true→(Instr.typeAssert u xt t ok).run P E.w= .ok (.tuple #[z, .bool false]) E.w:=fun u hu hok=>by
      subst hok
      simp only[Instr.typeAssert,Sem.run_bind,rY hd,Result.andThen_ok]
      rcases hu with rfl|⟨t',v',rfl,hne⟩
      ·cases d<;>first|exact absurd rfl (hni _)|simp only[if_true,Sem.run_bind,hz,Result.andThen_ok,Sem.run_pure]
      ·cases d<;>first|exact absurd rfl (hni _)|simp only[if_neg hne,if_true,Sem.run_bind,hz,Result.andThen_ok,Sem.run_pure]
    have repF:mg E (.tuple #[z, .bool false]) (.tup [zV P t, .s (.bool false)]):=⟨_,rfl,rfl,fun i x' y h1 h2=>by
      rcases i with _|_|i<;>simp at h1 h2
      ·subst h1;subst h2;exact hzA E
      ·subst h1;subst h2;exact RepT.s _ rfl⟩
    unfold asT at h
    split at h
    · split at h<;>simp only[Option.some.injEq,Prod.mk.injEq,reduceCtorEq]at h
      rename_i hok
      obtain⟨_,rfl⟩:=h
      exact⟨_,e1 _ (by rw[e2];exact fails _ (.inl rfl) hok),repF⟩
    · rename_i u1 w1
      split at h
      · rename_i hu
        simp only[Option.some.injEq,Prod.mk.injEq]at h
        obtain⟨_,rfl⟩:=h
        subst hu
        have rv:vL E w1 (yz w1):=Jw hsc
        cases hok:ok with
        | true=>
          refine⟨.tuple #[w1, .bool true],e1 _ ?_,⟨_,rfl,rfl,fun i x' y h1 h2=> ?_⟩⟩
          · rw[e2,hok]
            simp only[Instr.typeAssert,Sem.run_bind,rY hd,Result.andThen_ok]
            cases d<;>first|exact absurd rfl (hni _)|simp only[if_true,Sem.run_pure]
          · rcases i with _|_|i<;>simp at h1 h2
            ·subst h1;subst h2;exact rv
            ·subst h1;subst h2;exact RepT.s _ rfl
        | false=>
          refine⟨w1,e1 _ ?_, ?_⟩
          · rw[e2,hok]
            simp only[Instr.typeAssert,Sem.run_bind,rY hd,Result.andThen_ok]
            cases d<;>first|exact absurd rfl (hni _)|simp only[if_true,Bool.false_eq_true,if_false,Sem.run_pure]
          · simp only[Bool.false_eq_true,if_false]
            cases w1<;>exact rv
      · rename_i hne
        split at h<;>simp only[Option.some.injEq,Prod.mk.injEq,reduceCtorEq]at h
        rename_i hok
        obtain⟨_,rfl⟩:=h
        exact⟨_,e1 _ (by rw[e2];exact fails _ (.inr ⟨_,_,rfl,hne⟩) hok),repF⟩
    ·simp at h
  | lookup t x ix ok=>
    cases ok with
    |false=>simp[hop,dz]at h
    | true=>
      simp only[hop,dz]at h
      split at h<;>simp only[Option.some.injEq,Prod.mk.injEq,reduceCtorEq]at h
      rename_i es n k i hx hi
      obtain⟨rfl,rfl⟩:=h
      have e2:=mh (E:=E) (evC hi)
      obtain⟨g,e1,hg,_⟩:=NG (evC hx)
      obtain⟨v',h1,h2⟩:=hp E.w g hg
      exact⟨v',by simp only[execOp,hop,e1,e2];exact kW h1,h2 E⟩
  | field t x f=>
    simp only[hop,dz]at h
    split at h
    · rename_i o' cs hf hx
      split at h<;>simp only[Option.some.injEq,Prod.mk.injEq,reduceCtorEq]at h
      rename_i c hc
      obtain⟨_,rfl⟩:=h
      have hr:=ev x
      rw[hx]at hr
      obtain⟨vs,e2,hl,hcc⟩:=hr
      obtain⟨u,hu⟩: ∃u,vs[o']? =some u:=by
        have:o' <cs.length:=by
          rcases Nat.lt_or_ge o' cs.length with h|h
          ·exact h
          ·simp[List.getElem?_eq_none h]at hc
        exact⟨vs[o'],by simp⟩
      exact⟨u,by simp only[execOp,hop,e2];exact kW (KC hf hu),hcc o' u c hu hc⟩
    ·simp at h
  | unOp op t x=>
    simp only[hop,dz]at h
    split at h<;>simp only[Option.some.injEq,Prod.mk.injEq,reduceCtorEq]at h
    · rename_i b hx
      obtain⟨_,rfl⟩:=h
      have e1:=mh (E:=E) (evC hx)
      exact⟨_,by simp only[execOp,hop,e1];exact kW (by simp[Op.unary]),RepT.s _ rfl⟩
    · rename_i k n hx
      obtain⟨_,rfl⟩:=h
      have e1:=mh (E:=E) (evC hx)
      exact⟨_,by simp only[execOp,hop,e1];exact kW (by simp[Op.unary,Op.intArith]),RepT.s _ rfl⟩
  | convert src dst x=>
    simp only[hop,dz]at h
    split at h<;>simp only[Option.some.injEq,Prod.mk.injEq,reduceCtorEq]at h
    rename_i ks kd k n hs hd hx
    obtain⟨_,rfl⟩:=h
    have e1:=mh (E:=E) (evC hx)
    have hu1:P.underlying src=some (.int ks):=by
      unfold zB at hs
      split at hs<;>simp_all
    have hu2:P.underlying dst=some (.int kd):=by
      unfold zB at hd
      split at hd<;>simp_all
    exact⟨_,by simp only[execOp,hop,e1];exact kW (by simp only[convert,Sem.run_bind,rY hu1,rY hu2,Result.andThen_ok,Conv.intToInt];rfl),RepT.s _ rfl⟩
  | extract t ix=>
    simp only[hop,dz]at h
    split at h
    · rename_i xs hx
      split at h<;>simp only[Option.some.injEq,Prod.mk.injEq,reduceCtorEq]at h
      rename_i y hy
      obtain⟨_,rfl⟩:=h
      have hr:=ev t
      rw[hx]at hr
      obtain⟨vs,e2,hl,hc⟩:=hr
      obtain⟨u,hu⟩: ∃u,vs[ix]? =some u:=by
        have:ix<xs.length:=by
          rcases Nat.lt_or_ge ix xs.length with h|h
          ·exact h
          ·simp[List.getElem?_eq_none h]at hy
        exact⟨vs[ix],by simp⟩
      refine⟨u,by simp only[execOp,hop,e2];exact kW (by simp only[Instr.extract,hu];rfl), ?_⟩
      have:=hc ix u y hu hy
      cases y with
      |tup _=>exact absurd this (by simp[vL])
      |c y=>exact this
      |agg y=>exact this
      |dead=>trivial
    ·simp at h
  | call c=>
    simp only[hop,dz]at h
    have bi: ∀b v',c.callee= .builtin b→(builtin b c.argTypes o.type (c.args.map fun| .const _=>true|_=>false) (c.args.map a.eval)).run P E.w= .ok (.value v') E.w→(execOp a.eval o).run P E.w= .ok (.value v') E.w:=fun b v' hb hv=>by
      simp only[execOp,hop,resolve,hb,Sem.run_bind,Sem.run_pure,Result.andThen_ok,invoke]
      exact hv
    have mm: ∀f,lL (c.args.toList.map (evl ts)) f=some (p,v)→∃k k' i j,(c.args.map a.eval).toList= [.int k i, .int k' j]∧v= .s (.int k (f i j)):=fun f hf=>by
      unfold lL at hf
      split at hf
      · rename_i k i k' j hxs
        simp only[Option.some.injEq,Prod.mk.injEq]at hf
        generalize hl:c.args.toList=l at hxs
        rcases l with _|⟨x,_|⟨y,_|⟨z,l⟩⟩⟩<;>simp only[List.map_cons,List.map_nil,List.cons.injEq,and_true,reduceCtorEq,and_false,false_and]at hxs
        have e1:=mh (E:=E) (evC hxs.1)
        have e2:=mh (E:=E) (evC hxs.2)
        exact⟨k,k',i,j,by simp[hl,e1,e2],hf.2.symm⟩
      ·simp at hf
    split at h
    · rename_i x hcal hargs
      have hargs' :c.args= #[x]:=by rw[←Array.toArray_toList (xs:=c.args),hargs]
      have len: ∀e A n cp,(c.argTypes[0]?).bind (uU P)=some e→a.eval x= .slice A n cp→(execOp a.eval o).run P E.w= .ok (.value (.int .i64 n)) E.w:=fun e A n cp he hx=>by
        refine bi _ _ hcal ?_
        cases h0:c.argTypes[0]? with
        |none=>simp[h0]at he
        | some t0=>
          rw[h0,Option.bind_some]at he
          obtain⟨hu,_⟩:=xe he
          simp only[builtin]
          refine kW ?_
          simp only[Builtin.len_,hargs',h0,hx,Sem.run_bind,rY hu,Result.andThen_ok]
          simp[goInt,rY hu,hx]
      split at h<;>simp only[Option.some.injEq,Prod.mk.injEq,reduceCtorEq]at h
      · rename_i e k sz n he hx
        obtain⟨_,rfl⟩:=h
        obtain⟨_,ad,cp,e2,_⟩:=(evC hx:fO E (a.eval x) (.own k sz n))
        exact⟨_,len e ad n cp he e2,RepT.s _ rfl⟩
      · rename_i e e' sz n f he hx
        obtain⟨_,rfl⟩:=h
        obtain⟨ad,cp,e2,_⟩:=RepT.sl_inv (evC hx:fO E (a.eval x) (.t (.sl e' sz n f)))
        exact⟨_,len e ad n cp he e2,RepT.s _ rfl⟩
      · rename_i e he hx
        obtain⟨_,rfl⟩:=h
        have e2:a.eval x= .slice none 0 0:=evC hx
        exact⟨_,len e none 0 0 he e2,RepT.s _ rfl⟩
    · rename_i hcal
      obtain⟨k,k',i,j,e1,rfl⟩:=mm _ h
      refine⟨.int k (if j>i then j else i),bi _ _ hcal ?_,RepT.s _ rfl⟩
      simp only[builtin,Builtin.max_,e1,List.foldlM_cons,List.foldlM_nil,Builtin.max2]
      simp
    · rename_i hcal
      obtain⟨k,k',i,j,e1,rfl⟩:=mm _ h
      refine⟨.int k (if j<i then j else i),bi _ _ hcal ?_,RepT.s _ rfl⟩
      simp only[builtin,Builtin.min_,e1,List.foldlM_cons,List.foldlM_nil,Builtin.min2]
      simp
    ·simp at h
  |_=>simp[hop,dz]at h
theorem own_blk {w:World} {base e sz n:Nat} {v:Value} {xs:List Value} (h:w.ownsRow base e sz v n xs):v.ownBlock=fM v:=by
  rcases h.2 with⟨rfl,_⟩|⟨g,cap,cur,rfl,_⟩<;>rfl
theorem DZ {w w' :World} {base e sz n:Nat} {v:Value} {xs:List Value} (h:w.ownsRow base e sz v n xs) (hb: ∀g,fM v=some g→w'.heap[g]? =w.heap[g]?):
    w'.ownsRow base e sz v n xs:=by
  obtain⟨h1,h2⟩:=h
  refine⟨h1, ?_⟩
  rcases h2 with h2|⟨g,cap,cur,rfl,hg,hh,r⟩
  ·exact .inl h2
  ·exact .inr ⟨g,cap,cur,rfl,hg,(hb g rfl).trans hh,r⟩
theorem At.le {E E' :Env} (h:Le E E') {k:Nat} {b:Blk} (ha:At E k b) (hr:E'.ρ k=E.ρ k) (hb: ∀g,fM (E.ρ k)=some g→E'.w.heap[g]? =E.w.heap[g]?):At E' k b:=by
  cases b with
  | row e sz n f=>
    obtain⟨inner,h1,h2,h3⟩:=ha
    refine⟨inner,by rw[hr];exact DZ h1 hb,h2,fun j o y hj hy=> ?_⟩
    obtain⟨x,h4,h5⟩:=h3 j o y hj hy
    exact⟨x,h4,RepT.le h h5⟩
  | box t cs=>
    obtain⟨g,cur,h1,h2,h3,h4⟩:=ha
    exact⟨g,cur,hr.trans h1,(hb g (by rw[h1];rfl)).trans h2,h3,fun i x y hx hy=>fO.le h (h4 i x y hx hy)⟩
def upd (ρ:Nat→Value) (k:Nat) (v:Value):Nat→Value:=fun q=>if q=k then v else ρ q
theorem upd_same (ρ:Nat→Value) (k:Nat) (v:Value):upd ρ k v k=v:=by simp[upd]
theorem upd_ne (ρ:Nat→Value) {k q:Nat} (v:Value) (h:q≠k):upd ρ k v q=ρ q:=by simp[upd,h]
structure Grown (w w' :World):Prop where
  os:w'.os=w.os
  tape:w'.tape=w.tape
  output:w'.output=w.output
  size:w.heap.size≤w'.heap.size
  block: ∀k,k<w.heap.size→w'.heap[k]? =w.heap[k]?
theorem Grown.keeps {par:Nat→Prop} {w0 w w' :World} (h:Keeps par w0 w) (g:Grown w w'):Keeps par w0 w' :=
  ⟨g.os.trans h.os,g.tape.trans h.tape,g.output.trans h.output,Nat.le_trans h.size g.size,fun b hb hp=>(g.block b (Nat.lt_of_lt_of_le hb h.size)).trans (h.block b hb hp)⟩
theorem Grown.alloc (w:World) (o:Obj):Grown w (w.alloc o):=⟨rfl,rfl,rfl,by simp,fun k hk=>Below.heap_alloc w o k hk⟩
theorem vP {B:Bs} {k q:Nat} {x:Option Blk} (h:(B.get q).isSome=true):((B.set k x).get q).isSome=true:=by
  rw[Bs.get_set];split
  ·rfl
  ·exact h
section
variable {c:Ctx} {B:Bs} {w w' :World} {ρ:Nat→Value}
theorem vw (hm:Mem c B w ρ) {k:Nat} {x:Blk} {g:Nat} (hl:B.live k=some x) (hg:fM (ρ k)=some g):g<w.heap.size:=by
  have h:=hm.at_ k x hl
  cases x with
  | row e sz n f=>
    obtain⟨inner,h1,_⟩:=h
    exact(h1.lt g (by rw[own_blk h1];exact hg)).2
  | box t cs=>
    obtain⟨g',cur,h1,h2,_⟩:=h
    simp only[env]at h1
    rw[h1]at hg
    injection hg with hg
    subst hg
    exact(Array.getElem?_eq_some_iff.1 h2).1
theorem Mem.grow (hm:Mem c B w ρ) (hg:Grown w w') (k:Nat) (b:Blk) (v:Value) (hk:B.get k=none) (hv: ∀g,fM v=some g→w.heap.size≤g)
    (hat:Le (env c w ρ B) (env c w' (upd ρ k v) (B.set k (some b)))→At (env c w' (upd ρ k v) (B.set k (some b))) k b):
    Mem c (B.set k (some b)) w' (upd ρ k v)∧Le (env c w ρ B) (env c w' (upd ρ k v) (B.set k (some b))):=by
  have ne: ∀q,(B.get q).isSome=true→q≠k:=fun q hq e=>by subst e;simp[hk]at hq
  have live: ∀q x,q≠k→((B.set k (some b)).live q=some x↔B.live q=some x):=fun q x hq=>by rw[Bs.live_set,if_neg (Ne.symm hq)]
  have some_: ∀ {q x},B.live q=some x→(B.get q).isSome=true:=fun{q x} h=>by rw[Bs.live_get h];rfl
  have le:Le (env c w ρ B) (env c w' (upd ρ k v) (B.set k (some b))):=by
    refine⟨fun b' hb' => ?_,fun b' hb' =>hg.block b' hb'.2.1,fun q hq=>vP hq,fun q e s N f hq hl=> ?_,fun q t cs hq hl=> ?_⟩
    · obtain⟨h1,h2,h3⟩:=hb'
      refine⟨h1,Nat.lt_of_lt_of_le h2 hg.size,fun q x hl=> ?_⟩
      by_cases hq:q=k
      · subst hq
        rw[upd_same]
        intro e
        have:=hv _ e
        omega
      · rw[upd_ne _ _ hq]
        exact h3 q x ((live q x hq).1 hl)
    ·exact⟨⟨f,(live q _ (ne q hq)).1 hl⟩,upd_ne _ _ (ne q hq)⟩
    ·exact⟨⟨cs,(live q _ (ne q hq)).1 hl⟩,upd_ne _ _ (ne q hq)⟩
  have insk: ∀q x,c.ins.live q=some x→q≠k:=fun q x h=>ne q (hm.kin q x h)
  refine⟨⟨Grown.keeps hm.keeps hg,fun q x hl=> ?_,fun q x g hl hb=> ?_,fun q q' x x' g hl hl' hb hb' => ?_,fun q x h=>vP (hm.kin q x h),
    fun q x b' h hl=>by rw[upd_ne _ _ (insk q x h)];exact hm.fix q x b' h ((live q _ (insk q x h)).1 hl),hm.wld⟩,le⟩
  · by_cases hq:q=k
    · subst hq
      rw[Bs.live_set,if_pos rfl]at hl
      injection hl with hl
      subst hl
      exact hat le
    · have hl' :=(live q x hq).1 hl
      exact(hm.at_ q x hl').le le (upd_ne _ _ hq) (fun g hgb=>hg.block g (vw hm hl' hgb))
  · by_cases hq:q=k
    · subst hq
      rw[upd_same]at hb
      exact .inr (Nat.le_trans hm.keeps.size (hv g hb))
    · rw[upd_ne _ _ hq]at hb
      exact hm.own q x g ((live q x hq).1 hl) hb
  · by_cases hq:q=k<;>by_cases hq' :q' =k
    ·rw[hq,hq']
    · subst hq
      rw[upd_same]at hb
      rw[upd_ne _ _ hq']at hb'
      have h1:=hv g hb
      have h2:=vw hm ((live q' x' hq').1 hl') hb'
      omega
    · subst hq'
      rw[upd_same]at hb'
      rw[upd_ne _ _ hq]at hb
      have h1:=hv g hb'
      have h2:=vw hm ((live q x hq).1 hl) hb
      omega
    · rw[upd_ne _ _ hq]at hb
      rw[upd_ne _ _ hq']at hb'
      exact hm.inj q q' x x' g ((live q x hq).1 hl) ((live q' x' hq').1 hl') hb hb'
theorem Mem.write (hm:Mem c B w ρ) (k g:Nat) (b b' :Blk) (hl:B.live k=some b) (hs:sameShape b b') (hg:fM (ρ k)=some g)
    (hos:w'.os=w.os∧w'.tape=w.tape∧w'.output=w.output) (hsz:w'.heap.size=w.heap.size) (hblk: ∀q,q≠g→w'.heap[q]? =w.heap[q]?)
    (hat:Le (env c w ρ B) (env c w' ρ (B.set k (some b')))→At (env c w' ρ (B.set k (some b'))) k b'):
    Mem c (B.set k (some b')) w' ρ∧Le (env c w ρ B) (env c w' ρ (B.set k (some b'))):=by
  have live: ∀q x,q≠k→((B.set k (some b')).live q=some x↔B.live q=some x):=fun q x hq=>by rw[Bs.live_set,if_neg (Ne.symm hq)]
  have lk:(B.set k (some b')).live k=some b' :=by rw[Bs.live_set,if_pos rfl]
  have old: ∀q x,(B.set k (some b')).live q=some x→∃x0,B.live q=some x0:=fun q x h=>by
    by_cases hq:q=k
    ·subst hq;exact⟨b,hl⟩
    ·exact⟨x,(live q x hq).1 h⟩
  have le:Le (env c w ρ B) (env c w' ρ (B.set k (some b'))):=by
    refine⟨fun q hq=>⟨hq.1,by rw[hsz];exact hq.2.1,fun q' x h=>let ⟨x0,h0⟩:=old q' x h;hq.2.2 q' x0 h0⟩,fun q hq=>hblk q (fun e=> ?_),fun q hq=>vP hq,fun q e s N f hq h=> ?_,fun q t cs hq h=> ?_⟩
    ·subst e;exact hq.2.2 k b hl hg
    · refine⟨?_,rfl⟩
      by_cases hqk:q=k
      · subst hqk
        simp only[env]at h
        rw[lk]at h
        injection h with h
        subst h
        cases b with
        |row e0 s0 n0 f0=>obtain⟨rfl,rfl,rfl⟩:=hs;exact⟨f0,hl⟩
        |box=>exact hs.elim
      ·exact⟨f,(live q _ hqk).1 h⟩
    · refine⟨?_,rfl⟩
      by_cases hqk:q=k
      · subst hqk
        simp only[env]at h
        rw[lk]at h
        injection h with h
        subst h
        cases b with
        |row=>exact hs.elim
        |box t0 cs0=>have hs:t0=t:=hs;subst hs;exact⟨cs0,hl⟩
      ·exact⟨cs,(live q _ hqk).1 h⟩
  refine⟨⟨?_,fun q x h=> ?_,fun q x g' h hb=>let ⟨x0,h0⟩:=old q x h;hm.own q x0 g' h0 hb,
    fun q q' x x' g' h h' hb hb' =>let ⟨x0,h0⟩:=old q x h;let ⟨x1,h1⟩:=old q' x' h';hm.inj q q' x0 x1 g' h0 h1 hb hb',fun q x h=>vP (hm.kin q x h),fun q x b'' h hl' => ?_,hm.wld⟩,le⟩
  · have hk:=hm.keeps
    refine⟨hos.1.trans hk.os,hos.2.1.trans hk.tape,hos.2.2.trans hk.output,by rw[hsz];exact hk.size,fun q hq hp=> ?_⟩
    rw[hblk q ?_]
    ·exact hk.block q hq hp
    · rintro rfl
      rcases hm.own k b q hl hg with h|h
      ·exact hp (.inl h)
      ·omega
  · by_cases hq:q=k
    · subst hq
      rw[lk]at h
      injection h with h
      subst h
      exact hat le
    · have h' :=(live q x hq).1 h
      refine(hm.at_ q x h').le le rfl (fun g' hg' =>hblk g' ?_)
      rintro rfl
      exact hq (hm.inj q k x b g' h' hl hg' hg)
  · by_cases hq:q=k
    · subst hq
      rw[lk]at hl'
      injection hl' with hl'
      subst hl'
      obtain⟨h1,h2⟩:=hm.fix q x b h hl
      exact⟨h1.trans hs,h2⟩
    ·exact hm.fix q x b'' h ((live q _ hq).1 hl')
end
def rz (P:Program) (t:Nat):List (Option Nat):=
  match P.underlying t with
  |some (.struct fs)=>fs.toList.flatMap fun f=>if P.cellsOf f.type=1 then[uU P f.type]else List.replicate (P.cellsOf f.type) none
  |_=> [uU P t]
def toT (P:Program) (z:Nat→List T) (ty:Option Nat):C→Option T
  | .t x=>some x
  | .nil=>match ty with|some e=>some (.sl e (P.cellsOf e) 0 (fun _=>z e))|none=>none
  |_=>none
def fP (P:Program) (z:Nat→List T):List (Option Nat)→List C→Option (List T)
  |ty::tys,c::cs=>match toT P z ty c,fP P z tys cs with|some x,some xs=>some (x::xs)|_,_=>none
  | [], []=>some []
  |_,_=>none
def zT (P:Program):Nat→Nat→List T
  |0,_=> []
  |n+1,t=>(fP P (zT P n) (rz P t) (zeroOf P t)).getD []
def lC (P:Program) (t:Nat) (cs:List C):Option (List T):=fP P (zT P 3) (rz P t) cs
def fE (z:List T) (rows:List (List T)):Nat→List T:=fun j=>rows.getD j z
def iE (f:Nat→List T) (i:Nat) (r:List T):Nat→List T:=fun j=>if j=i then r else f j
def uk (n:Nat) (f g:Nat→List T):Nat→List T:=fun j=>if j<n then f j else g (j - n)
def iF (m:Nat):List C→List (Nat×V)→Option (List C)
  |cells, []=>some cells
  | cells,(i,v)::r=>match d9 v with
    |some ys=>if ys.length=m∧i * m+m≤cells.length then iF m (splice cells (i * m) ys) r else none
    |_=>none
def chunks (P:Program) (e m:Nat):Nat→List C→Option (List (List T))
  |0,_=>some []
  |n+1,cs=>match lC P e (cs.take m),chunks P e m n (cs.drop m)with|some r,some rs=>some (r::rs)|_,_=>none
def rowsOf (P:Program) (e sz:Nat) (bl:Nat→Option Blk):V→Option (Nat×(Nat→List T))
  | .c (.own k s m)=>match bl k with|some (.row e' s' N f)=>if s=sz∧s' =sz then some (m,f)else none|_=>none
  | .c (.t (.sl e' s m f))=>if s=sz then some (m,f)else none
  |_=>none
abbrev Eff:=Prop×V×List (Nat×Option Blk)×Option Blk
def iw (P : Program) (o:Op) (ev:Operand→V) (bl:Nat→Option Blk) (d:Nat):Option Eff:=
  match o with
  | .alloc e=>if zeroOf P e≠ []then some (True, .c (.ptr d 0 0), [],some (.box e (zeroOf P e)))else none
  | .box e x=>match d9 (ev x)with|some cs=>some (True, .c (.ptr d 0 0), [],some (.box e cs))|none=>none
  | .buildSlice t len ps=>match uU P t with
    |some e=>if zeroOf P e≠ []∧(zeroOf P e).length=P.cellsOf e∧0<P.cellsOf e∧len * P.cellsOf e≤16777216 then
        (match iF (P.cellsOf e) (List.replicate len (zeroOf P e)).flatten (ps.toList.map fun(i,x)=>(i,ev x))with
        | some cs=>match chunks P e (P.cellsOf e) len cs with
          |some rows=>some (True, .c (.own d (P.cellsOf e) len), [],some (.row e (P.cellsOf e) len (fE (zT P 3 e) rows)))
          |none=>none
        |none=>none)else none
    |none=>none
  | .makeSlice t l c=>match uU P t,ev l,ev c with
    |some e, .c (.t (.s (.int _ l))), .c (.t (.s (.int _ c)))=>if zeroOf P e≠ []∧(zeroOf P e).length=P.cellsOf e∧0<P.cellsOf e∧(lC P e (zeroOf P e)).isSome∧l=c then
        some (0≤l∧l * P.bytesOf e≤140737488355328∧l≤140737488355328, .c (.own d (P.cellsOf e) l.toNat), [],some (.row e (P.cellsOf e) l.toNat (fun _=>zT P 4 e)))else none
    |_,_,_=>none
  | .store t a v=>match ev a,d9 (ev v)with
    | .c (.ptr k i o),some ys=>if ys.length=P.cellsOf t∧(P.info? t).isSome then(match bl k with
      |some (.box t' cs)=>if o+ys.length≤cs.length then some (True, .dead, [(k,some (.box t' (splice cs o ys)))],none)else none
      | some (.row e sz n f)=>match lC P t ys with
        |some ts=>if o+ys.length≤sz then some (True, .dead, [(k,some (.row e sz n (iE f i (splice (f i) o ts))))],none)else none
        |none=>none
      |none=>none)else none
    |_,_=>none
  | .call c =>match c.callee,c.args.toList,c.argTypes.toList with
    | .builtin .append, [s,x], [t,t']=>if t=t' then(match uU P t with
      | some e=>if zeroOf P e≠ []∧0<P.cellsOf e∧0<P.bytesOf e∧(zeroOf P e).length=P.cellsOf e then(match rowsOf P e (P.cellsOf e) bl (ev x)with
        | some (m,g)=>match ev s with
          | .c .nil=>some (m≤maxLen∧m * P.bytesOf e≤140737488355328, .c (.own d (P.cellsOf e) m), [],some (.row e (P.cellsOf e) m (uk 0 (fun _=> []) g)))
          | .c (.own k s n)=>(match bl k with
            |some (.row e' s' N f)=>if e' =e∧s=P.cellsOf e∧s' =P.cellsOf e then
                some (n+m≤maxLen∧(n+m) * P.bytesOf e≤140737488355328, .c (.own d (P.cellsOf e) (n+m)), [(k,none)],some (.row e (P.cellsOf e) (n+m) (uk n f g)))else none
            |_=>none)
          |_=>none
        |none=>none)else none
      |none=>none)else none
    |_,_,_=>none
  |_=>none
def Jy (B:Bs) (d:Nat) (ups:List (Nat×Option Blk)) (nw:Option Blk):Bs:=
  match nw with
  |some b=>(ups.foldl (fun B u=>B.set u.1 u.2) B).set d (some b)
  |none=>ups.foldl (fun B u=>B.set u.1 u.2) B
theorem KE {P:Program} {E:Env} {z:Nat→List T} {ty:Option Nat} {v:Value} {x:C} {y:T} (h:fO E v x) (ht:toT P z ty x=some y):RepT E.w E.A v y:=by
  cases x with
  |t x=>simp only[toT,Option.some.injEq]at ht;subst ht;exact h
  | nil=>
    simp only[toT]at ht
    split at ht<;>simp only[Option.some.injEq,reduceCtorEq]at ht
    subst ht
    have h:v= .slice none 0 0:=h
    subst h
    exact .sl none 0 0 _ _ _ (by omega) (by simp) (by simp[xc]) (by simp) (by simp) (by simp)
  |_=>simp[toT]at ht
theorem yJ {P:Program} {E:Env} {z:Nat→List T}: ∀(tys:List (Option Nat)) (cs:List C) (vs:List Value) (ts:List T),tJ E vs cs→fP P z tys cs=some ts→
    ts.length=vs.length∧∀(i:Nat) (x:Value) (y:T),vs[i]? =some x→ts[i]? =some y→RepT E.w E.A x y
  | ty::tys,c::cs,vs,ts,hr,h=>by
    simp only[fP]at h
    split at h<;>simp only[Option.some.injEq,reduceCtorEq]at h
    rename_i x xs h1 h2
    subst h
    cases vs with
    |nil=>have:=hr.1;simp at this
    | cons v vs=>
      obtain⟨i1,i2⟩:=yJ tys cs vs xs ⟨by have:=hr.1;simpa using this,fun i x y h1 h2=>hr.2 (i+1) x y (by simpa using h1) (by simpa using h2)⟩ h2
      refine⟨by simp[i1],fun i x' y hx hy=> ?_⟩
      cases i with
      |zero=>simp at hx hy;subst hx;subst hy;exact KE (hr.2 0 v c rfl rfl) h1
      |succ i=>exact i2 i x' y (by simpa using hx) (by simpa using hy)
  | [], [],vs,ts,hr,h=>by
    simp only[fP,Option.some.injEq]at h
    subst h
    have:vs= []:=by have:=hr.1;simpa using this
    subst this
    simp
  | [],_::_,_,_,_,h=>by simp[fP]at h
  |_::_, [],_,_,_,h=>by simp[fP]at h
end Go.Proofs.Ytojpejfcafbafaa.V
end
