/- A part of the claim FnExactMachOk. -/
import Derived.Deep.Slices
import Derived.Lib.SmallJoins
import Derived.DataReads
import Derived.WideShapes
import Derived.Test.YteinbmkgenhocaaGreatCFnExactMachOk37
section
namespace Go.Proofs.YteinbmkgenhocaaGreat.Open
open Go Go.RowKit Go.ChangeShapes Go.WideShapes Go.Deep Go.Proofs.YteinbmkgenhocaaGreatW.PrintWords
set_option linter.unusedVariables false
set_option linter.unusedSectionVars false
theorem uP {α:Type} {n:Nat} {p:Nat→α→Prop} (h: ∀i,i<n→∃x,p i x): ∃xs:List α,xs.length=n∧∀i y,xs[i]? =some y→p i y:=by
  induction n with
  |zero=>exact⟨[],rfl,fun i y hy=>by simp at hy⟩
  | succ q ih=>
    obtain⟨xs,hl,hxs⟩:=ih (fun i hi=>h i (by omega))
    obtain⟨z,hz⟩:=h q (by omega)
    refine⟨xs++ [z],by simp[hl],fun i y hy=> ?_⟩
    by_cases hi:i<xs.length
    · rw[List.getElem?_append_left hi]at hy
      exact hxs i y hy
    · rw[List.getElem?_append_right (by omega)]at hy
      have hi2:i=xs.length:=by
        have:=(List.getElem?_eq_some_iff.1 hy).1
        simp at this
        omega
      subst hi2
      simp at hy
      subst hy
      rw[hl]
      exact hz
section
variable {H:Type} {enc:TypeId×Value→H} {P:Program} {w:World} {base:Nat} {spare:Nat→Bool} {held:Bool}
def iG {H:Type} (enc:TypeId×Value→H) (P:Program) (w:World) (base:Nat) (spare:Nat→Bool) (held:Bool) {α:Type} (t:TypeId) (d:Kd α) (wf:α→Prop):Prop:=
  ∀(fuel:Nat) (cs:List Value) (x:DataW H×List MemPlace),DataW.trod enc P w base spare held fuel t cs=some x→∃a,d.K w a cs∧wf a
theorem d9 {k:IntKind} {t:TypeId} (hu:P.underlying t=some (.int k)):iG enc P w base spare held t (Kd.int k) (fun n=>(Lit.int k n).wf=true):=by
  intro fuel cs x h
  obtain⟨n,rfl,_,hw⟩:=DataW.trod_int hu h
  exact⟨n,rfl,hw⟩
theorem mH {t:TypeId} (hu:P.underlying t=some .bool):iG enc P w base spare held t Kd.bool (fun _=>True):=by
  intro fuel cs x h
  obtain⟨b,rfl,_⟩:=DataW.trod_bool hu h
  exact⟨b,rfl,trivial⟩
theorem r9 {base n:Nat} {a:Addr} {cs:List Value} (h:w.cells? base a n=some cs):cs.length=n∧∀i u,cs[i]? =some u→w.cell? (a.add i)=some u:=by
  obtain⟨hb,hl,hc⟩:=World.cells?_some h
  refine⟨hl,fun i u hu=> ?_⟩
  have hi:i<cs.length:=(List.getElem?_eq_some_iff.1 hu).1
  rw[hc i (by omega),hu]
theorem fq {α:Type} {d:Kd α} {wf:α→Prop} {t e:TypeId} (hu:P.underlying t=some (.slice e)) (hc:P.cellsOf e=d.sz) (ho:iG enc P w base spare held e d wf):
    iG enc P w base spare held t (Kd.slice e d) (fun xs=>xs.length≤9223372036854775807∧∀x∈xs,wf x):=by
  intro fuel cs x h
  rcases open_slice hu h with⟨rfl,_⟩|⟨a,len,cap,m,n,D,Pl,rfl,_,hlc,hcm,hm,_,hel⟩
  ·exact⟨[],⟨none,0,rfl,Nat.le_refl 0,rfl,Nat.zero_le _,fun hp=>absurd hp (Nat.lt_irrefl 0)⟩,Nat.zero_le _,fun x hx=>by cases hx⟩
  · have hlm:len≤m:=by rw[hm];split<;>omega
    obtain⟨xs,hxl,hxs⟩:=uP (p:=fun i y=> ∃c,w.cells? base (a.add (i * P.cellsOf e)) (P.cellsOf e)=some c∧d.K w y c∧wf y) (fun i hi=>by
      obtain⟨cs',h1,h2⟩:=hel i (by omega)
      obtain⟨y,hy,hw⟩:=ho n cs' _ h2
      exact⟨y,cs',h1,hy,hw⟩: ∀i,i<len→_)
    have hmax:len≤9223372036854775807:=by unfold maxLen at hcm;omega
    subst hxl
    refine⟨xs,⟨some a,cap,rfl,hlc,rfl,hmax,fun _=>⟨a,rfl,fun j p hj=> ?_⟩⟩,hmax,fun y hy=> ?_⟩
    · obtain⟨c,h1,h2,_⟩:=hxs j p hj
      rw[hc]at h1
      obtain⟨h3,h4⟩:=r9 h1
      exact⟨c,h3,h2,fun i u hu=>by rw[←Go.Deep.add_add];exact h4 i u hu⟩
    · obtain⟨i,hi⟩:=List.getElem?_of_mem hy
      obtain⟨_,_,_,h3⟩:=hxs i y hi
      exact h3
def mI {H:Type} (enc:TypeId×Value→H) (P:Program) (w:World) (base:Nat) (spare:Nat→Bool) (held:Bool) {β:Type} (fs:List Field) (off:Nat) (d:Kd β) (wf:β→Prop):Prop:=
  ∀(fuel:Nat) (cs:List Value),cs.length=off+d.sz→(∀f∈fs,∃y,DataW.trod enc P w base spare held fuel f.type ((cs.drop f.offset).take (P.cellsOf f.type))=some y)→∃b,d.K w b (cs.drop off)∧wf b
theorem gU {α:Type} {d:Kd α} {wf:α→Prop} {f:Field} {off:Nat} (ho:f.offset=off) (hc:P.cellsOf f.type=d.sz) (h:iG enc P w base spare held f.type d wf):mI enc P w base spare held [f] off d wf:=by
  intro fuel cs hl hf
  obtain⟨y,hy⟩:=hf f (by simp)
  rw[ho,hc,List.take_of_length_le (by simp;omega)]at hy
  exact h fuel _ _ hy
theorem dx {α β:Type} {d:Kd α} {d2:Kd β} {wf:α→Prop} {wf2:β→Prop} {f:Field} {fs:List Field} {off c:Nat} (ho:f.offset=off) (hc:P.cellsOf f.type=d.sz) (h2:c=off+d.sz)
    (h:iG enc P w base spare held f.type d wf) (hr:mI enc P w base spare held fs c d2 wf2):mI enc P w base spare held (f::fs) off (Kd.pair d d2) (fun p=>wf p.1∧wf2 p.2):=by
  intro fuel cs hl hf
  have hl' :cs.length=off+(d.sz+d2.sz):=hl
  obtain⟨y,hy⟩:=hf f (by simp)
  rw[ho,hc]at hy
  obtain⟨a,ha,hwa⟩:=h fuel _ _ hy
  obtain⟨b,hb,hwb⟩:=hr fuel cs (by omega) (fun g hg=>hf g (by simp[hg]))
  refine⟨(a,b),⟨_,_, ?_,ha,hb⟩,hwa,hwb⟩
  rw[h2,←List.drop_drop]
  exact(List.take_append_drop d.sz (cs.drop off)).symm
theorem gp {α β:Type} {d:Kd β} {wf:β→Prop} {t:TypeId} {fs:Array Field} (hu:P.underlying t=some (.struct fs)) (hc:P.cellsOf t=d.sz) (h:mI enc P w base spare held fs.toList 0 d wf) (f:α→β) (g:β→α) (hfg: ∀b,f (g b)=b):
    iG enc P w base spare held t (Kd.iso d f) (fun a=>wf (f a)):=by
  intro fuel cs x hx
  obtain⟨xs,n,_,_,hl,hxl,hfs⟩:=DataW.trod_struct hu hx
  obtain⟨b,hb,hwb⟩:=h n cs (by omega) (fun q hq=>by
    obtain⟨i,hi⟩:=List.getElem?_of_mem hq
    rw[Array.getElem?_toList]at hi
    have hlt:i<xs.length:=by rw[hxl];exact(Array.getElem?_eq_some_iff.1 hi).1
    rw[hfs i q hi,List.getElem?_eq_getElem hlt]
    exact⟨_,rfl⟩)
  exact⟨g b,by show d.K w (f (g b)) cs;rw[hfg];exact hb,by show wf (f (g b));rw[hfg];exact hwb⟩
theorem nS {α:Type} {d:Kd α} {wf:α→Prop} {t:TypeId} {v:Value} {x:DataW H} {ps:List MemPlace} (h:DataW.Trod enc P w base spare held t v x ps) (ho:iG enc P w base spare held t d wf): ∃a,d.K w a v.cells.toList∧wf a:=by
  obtain⟨fuel,hf⟩:=h
  exact ho fuel _ _ hf
end
end Go.Proofs.YteinbmkgenhocaaGreat.Open
end
section
namespace Go.Proofs.YteinbmkgenhocaaGreat.P
open Go.RowKit Go.Proofs.YteinbmkgenhocaaGreatW.PrintWords Go.Proofs.YteinbmkgenhocaaGreat.Open
structure S25 where
  f0:(List S116)
  f1:(List S122)
def k25:Kd S25:=Kd.iso (Kd.pair (Kd.slice 116 kI) (Kd.slice 122 kL)) (fun x:S25=>(x.f0,x.f1))
theorem tY {w:World} {x:S25} {cs:List Value} (h:k25.K w x cs): ∃A0 c0 A1 c1,cs= [.slice A0 x.f0.length c0, .slice A1 x.f1.length c1]∧x.f0.length≤c0∧kI.C w A0 x.f0.length x.f0∧x.f1.length≤c1∧kL.C w A1 x.f1.length x.f1:=by
  obtain⟨_,_,rfl,⟨A0,c0,rfl,l0,g0⟩,⟨A1,c1,rfl,l1,g1⟩⟩:=h
  exact⟨A0,c0,A1,c1,rfl,l0,g0,l1,g1⟩
structure S49 where
  f0:(List S143)
  f1:(List S146)
  f2:(List Int)
  f3:Int
  f4:Int
  f5:S47
def k49:Kd S49:=Kd.iso (Kd.pair (Kd.slice 143 kM) (Kd.pair (Kd.slice 146 kN) (Kd.pair (Kd.slice 3 (Kd.int .i64)) (Kd.pair (Kd.int .i64) (Kd.pair (Kd.int .i64) k47))))) (fun x:S49=>(x.f0,x.f1,x.f2,x.f3,x.f4,x.f5))
theorem tZ {w:World} {x:S49} {cs:List Value} (h:k49.K w x cs): ∃A0 c0 A1 c1 A2 c2,cs= [.slice A0 x.f0.length c0, .slice A1 x.f1.length c1, .slice A2 x.f2.length c2, .int .i64 x.f3, .int .i64 x.f4, .bool x.f5.f0, .int .i64 x.f5.f1]∧x.f0.length≤c0∧kM.C w A0 x.f0.length x.f0∧x.f1.length≤c1∧kN.C w A1 x.f1.length x.f1∧x.f2.length≤c2∧(Kd.int .i64).C w A2 x.f2.length x.f2:=by
  obtain⟨_,_,rfl,⟨A0,c0,rfl,l0,g0⟩,⟨_,_,rfl,⟨A1,c1,rfl,l1,g1⟩,⟨_,_,rfl,⟨A2,c2,rfl,l2,g2⟩,⟨_,_,rfl,rfl,⟨_,_,rfl,rfl,s5⟩⟩⟩⟩⟩:=h
  obtain rfl:=oV s5
  exact⟨A0,c0,A1,c1,A2,c2,rfl,l0,g0,l1,g1,l2,g2⟩
def o7 (x:S116):Prop:=((Lit.int .i64 x.f0).wf=true)∧((x.f1.length≤9223372036854775807∧∀y∈x.f1,(Lit.int .i64 y).wf=true))
theorem uf (H:Type) (enc:TypeId×Value→H) (w:World) (base:Nat) (spare:Nat→Bool) (held:Bool):iG enc Tryz.prog w base spare held 116 kI o7:=
  gp Tryz.underlying116 (by kernel_rfl) (dx rfl (by kernel_rfl) rfl (d9 Tryz.underlying3) (gU rfl (by kernel_rfl) (fq Tryz.underlying29 (by kernel_rfl) (d9 Tryz.underlying3)))) (fun x:S116=>(x.f0,x.f1)) (fun p=>⟨p.1,p.2⟩) (fun _=>rfl)
def si (x:S217):Prop:=((Lit.int .i64 x.f0).wf=true)∧((Lit.int .i64 x.f1).wf=true)∧((Lit.int .i64 x.f2).wf=true)
theorem ug (H:Type) (enc:TypeId×Value→H) (w:World) (base:Nat) (spare:Nat→Bool) (held:Bool):iG enc Tryz.prog w base spare held 217 kJ si:=
  gp Tryz.underlying217 (by kernel_rfl) (dx rfl (by kernel_rfl) rfl (d9 Tryz.underlying3) (dx rfl (by kernel_rfl) rfl (d9 Tryz.underlying3) (gU rfl (by kernel_rfl) (d9 Tryz.underlying3)))) (fun x:S217=>(x.f0,(x.f1,x.f2))) (fun p=>⟨p.1,p.2.1,p.2.2⟩) (fun _=>rfl)
def qL (x:S55):Prop:=(True)∧((x.f1.length≤9223372036854775807∧∀y∈x.f1,(Lit.int .i64 y).wf=true))∧((x.f2.length≤9223372036854775807∧∀y∈x.f2,(Lit.int .i64 y).wf=true))
theorem uQ (H:Type) (enc:TypeId×Value→H) (w:World) (base:Nat) (spare:Nat→Bool) (held:Bool):iG enc Tryz.prog w base spare held 55 k55 qL:=
  gp Tryz.underlying55 (by kernel_rfl) (dx rfl (by kernel_rfl) rfl (mH Tryz.underlying4) (dx rfl (by kernel_rfl) rfl (fq Tryz.underlying29 (by kernel_rfl) (d9 Tryz.underlying3)) (gU rfl (by kernel_rfl) (fq Tryz.underlying29 (by kernel_rfl) (d9 Tryz.underlying3))))) (fun x:S55=>(x.f0,(x.f1,x.f2))) (fun p=>⟨p.1,p.2.1,p.2.2⟩) (fun _=>rfl)
def sj (x:S219):Prop:=((Lit.int .i64 x.f0).wf=true)∧((Lit.int .i64 x.f1).wf=true)∧((Lit.int .i64 x.f2).wf=true)∧((Lit.int .i64 x.f3).wf=true)
theorem uh (H:Type) (enc:TypeId×Value→H) (w:World) (base:Nat) (spare:Nat→Bool) (held:Bool):iG enc Tryz.prog w base spare held 219 kK sj:=
  gp Tryz.underlying219 (by kernel_rfl) (dx rfl (by kernel_rfl) rfl (d9 Tryz.underlying3) (dx rfl (by kernel_rfl) rfl (d9 Tryz.underlying3) (dx rfl (by kernel_rfl) rfl (d9 Tryz.underlying3) (gU rfl (by kernel_rfl) (d9 Tryz.underlying3))))) (fun x:S219=>(x.f0,(x.f1,(x.f2,x.f3)))) (fun p=>⟨p.1,p.2.1,p.2.2.1,p.2.2.2⟩) (fun _=>rfl)
def lH (x:S122):Prop:=((Lit.int .i64 x.f0).wf=true)∧((Lit.int .i64 x.f1).wf=true)∧((x.f2.length≤9223372036854775807∧∀y∈x.f2,(Lit.int .i64 y).wf=true))∧((Lit.int .i64 x.f3).wf=true)∧((Lit.int .i64 x.f4).wf=true)∧((x.f5.length≤9223372036854775807∧∀y∈x.f5,si y))∧((x.f6.length≤9223372036854775807∧∀y∈x.f6,qL y))∧((x.f7.length≤9223372036854775807∧∀y∈x.f7,sj y))
theorem ui (H:Type) (enc:TypeId×Value→H) (w:World) (base:Nat) (spare:Nat→Bool) (held:Bool):iG enc Tryz.prog w base spare held 122 kL lH:=
  gp Tryz.underlying122 (by kernel_rfl) (dx rfl (by kernel_rfl) rfl (d9 Tryz.underlying3) (dx rfl (by kernel_rfl) rfl (d9 Tryz.underlying3) (dx rfl (by kernel_rfl) rfl (fq Tryz.underlying29 (by kernel_rfl) (d9 Tryz.underlying3)) (dx rfl (by kernel_rfl) rfl (d9 Tryz.underlying3) (dx rfl (by kernel_rfl) rfl (d9 Tryz.underlying3) (dx rfl (by kernel_rfl) rfl (fq Tryz.underlying118 (by kernel_rfl) (ug H enc w base spare held)) (dx rfl (by kernel_rfl) rfl (fq Tryz.underlying119 (by kernel_rfl) (uQ H enc w base spare held)) (gU rfl (by kernel_rfl) (fq Tryz.underlying120 (by kernel_rfl) (uh H enc w base spare held)))))))))) (fun x:S122=>(x.f0,(x.f1,(x.f2,(x.f3,(x.f4,(x.f5,(x.f6,x.f7)))))))) (fun p=>⟨p.1,p.2.1,p.2.2.1,p.2.2.2.1,p.2.2.2.2.1,p.2.2.2.2.2.1,p.2.2.2.2.2.2.1,p.2.2.2.2.2.2.2⟩) (fun _=>rfl)
def oC (x:S25):Prop:=((x.f0.length≤9223372036854775807∧∀y∈x.f0,o7 y))∧((x.f1.length≤9223372036854775807∧∀y∈x.f1,lH y))
theorem uR (H:Type) (enc:TypeId×Value→H) (w:World) (base:Nat) (spare:Nat→Bool) (held:Bool):iG enc Tryz.prog w base spare held 25 k25 oC:=
  gp Tryz.underlying25 (by kernel_rfl) (dx rfl (by kernel_rfl) rfl (fq Tryz.underlying22 (by kernel_rfl) (uf H enc w base spare held)) (gU rfl (by kernel_rfl) (fq Tryz.underlying23 (by kernel_rfl) (ui H enc w base spare held)))) (fun x:S25=>(x.f0,x.f1)) (fun p=>⟨p.1,p.2⟩) (fun _=>rfl)
def mJ (x:S47):Prop:=(True)∧((Lit.int .i64 x.f1).wf=true)
theorem lV (H:Type) (enc:TypeId×Value→H) (w:World) (base:Nat) (spare:Nat→Bool) (held:Bool):iG enc Tryz.prog w base spare held 47 k47 mJ:=
  gp Tryz.underlying47 (by kernel_rfl) (dx rfl (by kernel_rfl) rfl (mH Tryz.underlying4) (gU rfl (by kernel_rfl) (d9 Tryz.underlying3))) (fun x:S47=>(x.f0,x.f1)) (fun p=>⟨p.1,p.2⟩) (fun _=>rfl)
def o8 (x:S143):Prop:=((Lit.int .i64 x.f0).wf=true)∧((x.f1.length≤9223372036854775807∧∀y∈x.f1,mJ y))
theorem uj (H:Type) (enc:TypeId×Value→H) (w:World) (base:Nat) (spare:Nat→Bool) (held:Bool):iG enc Tryz.prog w base spare held 143 kM o8:=
  gp Tryz.underlying143 (by kernel_rfl) (dx rfl (by kernel_rfl) rfl (d9 Tryz.underlying3) (gU rfl (by kernel_rfl) (fq Tryz.underlying141 (by kernel_rfl) (lV H enc w base spare held)))) (fun x:S143=>(x.f0,x.f1)) (fun p=>⟨p.1,p.2⟩) (fun _=>rfl)
def o9 (x:S146):Prop:=((Lit.int .i64 x.f0).wf=true)∧((Lit.int .i64 x.f1).wf=true)∧((x.f2.length≤9223372036854775807∧∀y∈x.f2,mJ y))∧((x.f3.length≤9223372036854775807∧∀y∈x.f3,mJ y))
theorem uk (H:Type) (enc:TypeId×Value→H) (w:World) (base:Nat) (spare:Nat→Bool) (held:Bool):iG enc Tryz.prog w base spare held 146 kN o9:=
  gp Tryz.underlying146 (by kernel_rfl) (dx rfl (by kernel_rfl) rfl (d9 Tryz.underlying3) (dx rfl (by kernel_rfl) rfl (d9 Tryz.underlying3) (dx rfl (by kernel_rfl) rfl (fq Tryz.underlying141 (by kernel_rfl) (lV H enc w base spare held)) (gU rfl (by kernel_rfl) (fq Tryz.underlying141 (by kernel_rfl) (lV H enc w base spare held)))))) (fun x:S146=>(x.f0,(x.f1,(x.f2,x.f3)))) (fun p=>⟨p.1,p.2.1,p.2.2.1,p.2.2.2⟩) (fun _=>rfl)
def qM (x:S49):Prop:=((x.f0.length≤9223372036854775807∧∀y∈x.f0,o8 y))∧((x.f1.length≤9223372036854775807∧∀y∈x.f1,o9 y))∧((x.f2.length≤9223372036854775807∧∀y∈x.f2,(Lit.int .i64 y).wf=true))∧((Lit.int .i64 x.f3).wf=true)∧((Lit.int .i64 x.f4).wf=true)∧(mJ x.f5)
theorem uS (H:Type) (enc:TypeId×Value→H) (w:World) (base:Nat) (spare:Nat→Bool) (held:Bool):iG enc Tryz.prog w base spare held 49 k49 qM:=
  gp Tryz.underlying49 (by kernel_rfl) (dx rfl (by kernel_rfl) rfl (fq Tryz.underlying45 (by kernel_rfl) (uj H enc w base spare held)) (dx rfl (by kernel_rfl) rfl (fq Tryz.underlying46 (by kernel_rfl) (uk H enc w base spare held)) (dx rfl (by kernel_rfl) rfl (fq Tryz.underlying29 (by kernel_rfl) (d9 Tryz.underlying3)) (dx rfl (by kernel_rfl) rfl (d9 Tryz.underlying3) (dx rfl (by kernel_rfl) rfl (d9 Tryz.underlying3) (gU rfl (by kernel_rfl) (lV H enc w base spare held))))))) (fun x:S49=>(x.f0,(x.f1,(x.f2,(x.f3,(x.f4,x.f5)))))) (fun p=>⟨p.1,p.2.1,p.2.2.1,p.2.2.2.1,p.2.2.2.2.1,p.2.2.2.2.2⟩) (fun _=>rfl)
end Go.Proofs.YteinbmkgenhocaaGreat.P
end
section
namespace Go.Proofs.YteinbmkgenhocaaGreat.P
open Go.RowKit Go.Proofs.YteinbmkgenhocaaGreatW.PrintWords
def laws_FnExactMachOk.Pure:Prop:= ∀(x0:S25) (x1:S49),(oC x0)→(qM x1)→∃k,laws_FnExactMachOk.f k x0.f0 x0.f1 x1.f0 x1.f1 x1.f2 x1.f3 x1.f4 x1.f5.f0 x1.f5.f1=some true
end Go.Proofs.YteinbmkgenhocaaGreat.P
end
section
namespace Go.Proofs.YteinbmkgenhocaaGreat.Kit
open Go Go.RowKit Go.Proofs.YteinbmkgenhocaaGreatW.PrintWords
set_option linter.unusedVariables false
def Evp {α:Type} (g:Nat→Option α) (P:α→Prop):Prop:= ∃r,Ev g r∧P r
theorem Evp.pure {α:Type} {P:α→Prop} (r:α) (h:P r):Evp (fun _=>some r) P:=⟨r,Ev.now r,h⟩
theorem Evp.bind {α β:Type} {g:Nat→Option α} {f:Nat→α→Option β} {P:α→Prop} {Q:β→Prop} (h:Evp g P) (k: ∀a,P a→Evp (fun n=>f n a) Q):Evp (fun n=>(g n).bind (f n)) Q:=by
  obtain⟨a,ha,hp⟩:=h
  obtain⟨r,hr,hq⟩:=k a hp
  exact⟨r,Ev.bind ha hr,hq⟩
theorem Evp.step {α:Type} {g f:Nat→Option α} {P:α→Prop} (h: ∀k,g (k+1)=f k) (k:Evp f P):Evp g P:=by
  obtain⟨r,hr,hp⟩:=k
  exact⟨r,Ev.step h hr,hp⟩
theorem Evp.congr {α:Type} {g f:Nat→Option α} {P:α→Prop} (h: ∀k,g k=f k) (k:Evp f P):Evp g P:=by
  obtain⟨r,hr,hp⟩:=k
  exact⟨r,Ev.congr h hr,hp⟩
theorem Evp.mono {α:Type} {g:Nat→Option α} {P Q:α→Prop} (h:Evp g P) (hpq: ∀r,P r→Q r):Evp g Q:=by
  obtain⟨r,hr,hp⟩:=h
  exact⟨r,hr,hpq r hp⟩
theorem Evp.yes {α:Type} {c:Prop} [Decidable c] {f g:Nat→Option α} {P:α→Prop} (hc:c) (h:Evp f P):Evp (fun n=>if c then f n else g n) P:=by
  simp only[if_pos hc];exact h
theorem Evp.no {α:Type} {c:Prop} [Decidable c] {f g:Nat→Option α} {P:α→Prop} (hc: ¬c) (h:Evp g P):Evp (fun n=>if c then f n else g n) P:=by
  simp only[if_neg hc];exact h
theorem Evp.ite {α:Type} {c:Prop} [Decidable c] {f g:Nat→Option α} {P:α→Prop} (h:c→Evp f P) (k: ¬c→Evp g P):Evp (fun n=>if c then f n else g n) P:=by
  by_cases hc:c
  ·exact Evp.yes hc (h hc)
  ·exact Evp.no hc (k hc)
theorem Ev.of_evp {α:Type} {g:Nat→Option α} {r:α} (h:Evp g (fun x=>x=r)):Ev g r:=by
  obtain⟨x,hx,rfl⟩:=h
  exact hx
theorem Evp.const {α:Type} {o:Option α} {r:α} {P:α→Prop} (h:o=some r) (hp:P r):Evp (fun _=>o) P:=⟨r,⟨0,fun _ _=>h⟩,hp⟩
theorem Evp.rounds {α:Type} {g:Nat→Option α} {r:α} (h:Evp g (fun x=>x=r)): ∃k,g k=some r:=(Ev.of_evp h).rounds
theorem Evp.for_ {ρ:Type} {n:Nat} {g:Nat→Nat→Option ρ} {R:Nat→ρ→Prop} (hend:Evp (g n) (R n)) (hstep: ∀i,i<n→Evp (g (i+1)) (R (i+1))→Evp (g i) (R i)): ∀i,i≤n→Evp (g i) (R i):=by
  have key: ∀d i,i+d=n→Evp (g i) (R i):=by
    intro d
    induction d with
    | zero => intro i hi;have:i=n:=by omega
              subst this;exact hend
    |succ d ih=>intro i hi;exact hstep i (by omega) (ih (i+1) (by omega))
  intro i hi
  exact key (n - i) i (by omega)
theorem Evp.fors {σ ρ:Type} {n:Nat} {g:Nat→σ→Nat→Option ρ} {I:Nat→σ→Prop} {R:Nat→σ→ρ→Prop} (hend: ∀s,I n s→Evp (g n s) (R n s))
    (hstep: ∀i,i<n→(∀s,I (i+1) s→Evp (g (i+1) s) (R (i+1) s))→∀s,I i s→Evp (g i s) (R i s)): ∀i,i≤n→∀s,I i s→Evp (g i s) (R i s):=by
  have key: ∀d i,i+d=n→∀s,I i s→Evp (g i s) (R i s):=by
    intro d
    induction d with
    | zero => intro i hi;have:i=n:=by omega
              subst this;exact hend
    |succ d ih=>intro i hi;exact hstep i (by omega) (ih (i+1) (by omega))
  intro i hi
  exact key (n - i) i (by omega)
theorem drop_at {α:Type} {xs:List α} {i:Nat} (h:i<xs.length):xs.drop i=xs[i]::xs.drop (i+1):=List.drop_eq_getElem_cons h
theorem getD_at {α:Type} {xs:List α} {i:Nat} (h:i<xs.length) (d:α):xs.getD i d=xs[i]:=by
  rw[List.getD_eq_getElem?_getD,List.getElem?_eq_getElem h];rfl
theorem eF {i n:Nat} (h:i<n) (hn:n≤9223372036854775807):wrap64 ((i:Int)+1)=((i+1:Nat):Int):=by unfold wrap64;omega
theorem w64 {n:Int} (h0: -9223372036854775808≤n) (h1:n≤9223372036854775807):wrap64 n=n:=by unfold wrap64;omega
end Go.Proofs.YteinbmkgenhocaaGreat.Kit
end
section
namespace Go.Proofs.YteinbmkgenhocaaGreat.Kit
open Go Go.RowKit Go.Proofs.YteinbmkgenhocaaGreatW.PrintWords Go.Proofs.YteinbmkgenhocaaGreat.P
set_option linter.unusedVariables false
abbrev Cls:=S126
def sup (cs:List Cls) (i:Nat):Int:=(cs.getD i jC).f0
def eT (cs:List Cls) (i:Nat):List Int:=(cs.getD i jC).f1
def fI (n:Nat) (t:Int):Prop:=t=1∨t=3∨t=4∨(8≤t∧t<8+(n:Int))
structure ClsOk (cs:List Cls):Prop where
  lo:2≤cs.length
  hi:cs.length≤5
  root:sup cs 0= -1∧eT cs 0= []
  fail:sup cs 1=0∧eT cs 1= [1]
  up: ∀i,2≤i→i<cs.length→0≤sup cs i∧sup cs i<(i:Int)∧(eT cs i).length≤2
  fld: ∀i,i<cs.length→∀t∈eT cs i,fI cs.length t
inductive Up (cs:List Cls):Nat→Nat→Prop
  |refl (a:Nat):Up cs a a
  |step {a b:Nat} (p:Nat) (hp:sup cs a=(p:Int)) (h:Up cs p b):Up cs a b
theorem ClsOk.sup_pos {cs:List Cls} (h:ClsOk cs) {i:Nat} (h1:1≤i) (h2:i<cs.length):0≤sup cs i∧sup cs i<(i:Int):=by
  rcases Nat.lt_or_ge i 2 with h3|h3
  · have:i=1:=by omega
    subst this
    rw[h.fail.1]
    decide
  · have:=h.up i h3 h2
    exact⟨this.1,this.2.1⟩
theorem ClsOk.sup_nat {cs:List Cls} (h:ClsOk cs) {i:Nat} (h1:1≤i) (h2:i<cs.length): ∃p:Nat,sup cs i=(p:Int)∧p<i:=by
  obtain⟨h3,h4⟩:=h.sup_pos h1 h2
  exact⟨(sup cs i).toNat,by omega,by omega⟩
theorem ClsOk.len2 {cs:List Cls} (h:ClsOk cs) {i:Nat} (h2:i<cs.length):(eT cs i).length≤2:=by
  rcases Nat.lt_or_ge i 2 with h3|h3
  · rcases Nat.lt_or_ge i 1 with h4|h4
    · have:i=0:=by omega
      subst this
      rw[h.root.2];decide
    · have:i=1:=by omega
      subst this
      rw[h.fail.2];decide
  ·exact(h.up i h3 h2).2.2
theorem Up.le {cs:List Cls} (h:ClsOk cs) {a b:Nat} (hu:Up cs a b) (ha:a<cs.length):b≤a:=by
  induction hu with
  |refl a=>exact Nat.le_refl _
  | @step a b p hp _ ih=>
    rcases Nat.eq_zero_or_pos a with h0|h0
    · subst h0
      have:=h.root.1
      omega
    · have:=h.sup_pos h0 ha
      have:=ih (by omega)
      omega
theorem Up.inv {cs:List Cls} {a b:Nat} (hu:Up cs a b):a=b∨∃p:Nat,sup cs a=(p:Int)∧Up cs p b:=by
  cases hu with
  |refl=>exact .inl rfl
  |step p hp h=>exact .inr ⟨p,hp,h⟩
theorem Up.trans {cs:List Cls} {a b c:Nat} (h1:Up cs a b) (h2:Up cs b c):Up cs a c:=by
  induction h1 with
  |refl=>exact h2
  |step p hp _ ih=>exact .step p hp (ih h2)
theorem Up.root {cs:List Cls} (h:ClsOk cs): ∀ {a:Nat},a<cs.length→Up cs a 0:=by
  intro a
  induction a using Nat.strongRecOn with
  | _ a ih=>
    intro ha
    rcases Nat.eq_zero_or_pos a with h0|h0
    ·subst h0;exact .refl 0
    · obtain⟨p,hp,hlt⟩:=h.sup_nat h0 ha
      exact .step p hp (ih p hlt (by omega))
inductive Flds (cs:List Cls):Nat→List Int→Prop
  |root:Flds cs 0 []
  |step {c:Nat} {l:List Int} (p:Nat) (hc:c≠0) (hp:sup cs c=(p:Int)) (h:Flds cs p l):Flds cs c (l++eT cs c)
theorem Flds.fn {cs:List Cls} {c:Nat} {l l' :List Int} (h:Flds cs c l) (h' :Flds cs c l'):l=l' :=by
  induction h generalizing l' with
  | root=>
    cases h' with
    |root=>rfl
    |step p hc _ _=>exact absurd rfl hc
  | step p hc hp _ ih=>
    cases h' with
    |root=>exact absurd rfl hc
    | step q _ hq hl=>
      have:p=q:=by omega
      subst this
      rw[ih hl]
theorem lW {cs:List Cls} (i:Nat):(aD cs (i:Int)).f0=sup cs i:=rfl
theorem ky {cs:List Cls} (i:Nat):(aD cs (i:Int)).f1=eT cs i:=rfl
theorem mK {xs:List Int} {i:Nat} (h:i<xs.length):rd xs (i:Int)=xs[i]:=getD_at h _
def gq (cs:List Cls):Prop:=cs.length≤1048576∧∀i,i<cs.length→(eT cs i).length≤1048576∧(∀t∈eT cs i, -9223372036854775808≤t∧t≤9223372036854775807)
theorem uT {p:Prop} {a b:Bool} (ha:a=true↔p) (hb:b=true↔p):a=b:=by
  rw[Bool.eq_iff_iff,ha,hb]
theorem vJ {a b:Bool} {p:Prop} (ha:a=true↔p) (hb:b=true↔p): ¬((b !=a)=true):=by
  rw[uT hb ha];simp
theorem gV (a lo hi:Int):az.f a lo hi=some (decide (lo≤a∧a≤hi)):=by
  unfold az.f
  by_cases h:lo≤a<;>simp[h]
theorem nT {n:Nat} {t:Int} (hn:n≤1000000000) (h0: -9223372036854775808≤t) (h1:t≤9223372036854775807):
    dP.f (n:Int) t=some (if(0≤t∧t≤4)∨(8≤t∧t<8+(n:Int))then t else -1):=by
  unfold dP.f
  rw[if_pos ⟨by omega,by omega,h0,h1⟩]
  repeat' split
  all_goals first|omega|(congr 1;omega)|rfl
theorem kz {n:Nat} {t:Int} (hn:n≤1000000000) (h0: -9223372036854775808≤t) (h1:t≤9223372036854775807):
    ∃b,eO.f (n:Int) t=some b∧(b=true↔fI n t):=by
  unfold eO.f
  rw[nT hn h0 h1,Option.bind_some]
  refine⟨_,rfl, ?_⟩
  rw[decide_eq_true_iff]
  unfold fI
  split<;>omega
theorem lc {cs:List Cls} {t:Int} (hn:cs.length≤1000000000): ∃b,dm.f cs t=some b∧(b=true↔fI cs.length t):=by
  unfold dm.f fI
  rw[gV,w64 (n:=8+(cs.length:Int)) (by omega) (by omega),w64 (by omega) (by omega)]
  by_cases h1:t=1
  ·exact⟨true,by rw[if_pos h1],by simp[h1]⟩
  rw[if_neg h1]
  by_cases h2:t=3
  ·exact⟨true,by rw[if_pos h2],by simp[h2]⟩
  rw[if_neg h2]
  by_cases h3:t=4
  ·exact⟨true,by rw[if_pos h3],by simp[h3]⟩
  rw[if_neg h3]
  refine⟨_,rfl, ?_⟩
  simp only[h1,h2,h3,false_or,decide_eq_true_iff]
  omega
theorem jb (cs:List Cls) (a:Int): ∃b,dK.f cs a=some b∧(b=true↔0≤a∧a<(cs.length:Int)):=by
  unfold dK.f
  by_cases h:a≥0
  ·rw[if_pos h];exact⟨_,rfl,by rw[decide_eq_true_iff];omega⟩
  ·rw[if_neg h];exact⟨_,rfl,by simp;omega⟩
def Shp (cs:List Cls) (c:Nat):Prop:=(if c=0 then sup cs 0= -1∧(eT cs 0).length=0 else if c=1 then sup cs 1=0∧eT cs 1= [1]else 0≤sup cs c∧sup cs c<(c:Int)∧(eT cs c).length≤2)
theorem pg {cs:List Cls}:Shp cs 0↔sup cs 0= -1∧(eT cs 0).length=0:=by unfold Shp;rw[if_pos rfl]
theorem qN {cs:List Cls}:Shp cs 1↔sup cs 1=0∧eT cs 1= [1]:=by unfold Shp;rw[if_neg (by decide),if_pos rfl]
theorem ny {cs:List Cls} {c:Nat} (h:2≤c):Shp cs c↔0≤sup cs c∧sup cs c<(c:Int)∧(eT cs c).length≤2:=by unfold Shp;rw[if_neg (by omega),if_neg (by omega)]
def At (cs:List Cls) (c:Nat):Prop:=(∀t∈eT cs c,fI cs.length t)∧Shp cs c
theorem nU {cs:List Cls}:ClsOk cs↔2≤cs.length∧cs.length≤5∧∀c,c<cs.length→At cs c:=by
  constructor
  · intro h
    refine⟨h.lo,h.hi,fun c hc=>⟨h.fld c hc, ?_⟩⟩
    rcases Nat.lt_or_ge c 2 with h2|h2
    · rcases Nat.lt_or_ge c 1 with h1|h1
      · have:c=0:=by omega
        subst this
        exact pg.2 ⟨h.root.1,by rw[h.root.2];rfl⟩
      · have:c=1:=by omega
        subst this
        exact qN.2 h.fail
    ·exact(ny h2).2 (h.up c h2 hc)
  · intro ⟨h1,h2,h3⟩
    have a0:=pg.1 (h3 0 (by omega)).2
    have a1:=qN.1 (h3 1 (by omega)).2
    exact⟨h1,h2,⟨a0.1,List.eq_nil_of_length_eq_zero a0.2⟩,a1,fun i hi hl=>(ny hi).1 (h3 i hl).2,fun i hi=>(h3 i hi).1⟩
theorem qx {cs:List Cls} (hs:gq cs) {c:Nat} (hc:c<cs.length):Evp (fun k=>dZ.f k cs (c:Int)) (fun r=>r=true↔At cs c):=by
  unfold dZ.f
  refine Evp.yes (by omega) (Evp.yes (by omega) ?_)
  rw[lW,ky]
  have hl:=(hs.2 c hc).1
  have hl0:=hs.1
  have key: ∀i,i≤(eT cs c).length→Evp (fun k=>dZ.l0 k cs (c:Int) (i:Int) (sup cs c) (eT cs c)) (fun r=>r=true↔(∀t∈(eT cs c).drop i,fI cs.length t)∧Shp cs c):=by
    refine Evp.for_ ?_ (fun i hi ih=> ?_)
    · refine Evp.step (f:=fun k=>_) (fun k=>by rw[dZ.l0,gV]) (Evp.no (by omega) ?_)
      rw[List.drop_length]
      simp only[List.not_mem_nil,false_implies,implies_true,true_and]
      refine Evp.ite (fun h0=> ?_) (fun h0=> ?_)
      · have:c=0:=by omega
        subst this
        rw[pg]
        refine Evp.ite (fun h=>Evp.pure _ ?_) (fun h=>Evp.pure _ (by simp[h]))
        rw[beq_iff_eq]
        constructor
        ·intro h2;exact⟨h,by omega⟩
        ·intro h2;omega
      · refine Evp.ite (fun h1=> ?_) (fun h1=> ?_)
        · have:c=1:=by omega
          subst this
          rw[qN]
          refine Evp.ite (fun h=> ?_) (fun h=>Evp.pure _ (by simp[h]))
          refine Evp.ite (fun h2=> ?_) (fun h2=>Evp.pure _ ?_)
          · refine Evp.yes (by omega) (Evp.pure _ ?_)
            obtain⟨x,hx⟩:=List.length_eq_one_iff.1 (by omega:(eT cs 1).length=1)
            rw[hx,show rd [x] 0=x from rfl,beq_iff_eq]
            simp[h]
          · constructor
            ·intro h3;cases h3
            ·intro h3;rw[h3.2]at h2;exact absurd rfl h2
        · rw[ny (by omega)]
          refine Evp.congr (f:=fun k=>if 0≤sup cs c∧sup cs c≤(c:Int) - 1 then some (decide (((eT cs c).length:Int)≤2))else some false) (fun k=>by rw[w64 (n:=(c:Int) - 1) (by omega) (by omega),Option.bind_some];simp only[decide_eq_true_iff]) ?_
          refine Evp.ite (fun h=>Evp.pure _ ?_) (fun h=>Evp.pure _ ?_)
          · simp only[decide_eq_true_iff]
            omega
          · constructor
            ·intro h3;cases h3
            ·intro h3;omega
    · obtain⟨b,hb,hb2⟩:=lc (cs:=cs) (t:=(eT cs c)[i]) (by omega)
      refine Evp.step (f:=fun k=>_) (fun k=>by rw[dZ.l0,mK hi,hb,Option.bind_some]) (Evp.yes (by omega) (Evp.yes (by omega) ?_))
      rw[eF hi (by omega),drop_at hi]
      refine Evp.ite (fun h=>ih.mono fun r hr=> ?_) (fun h=>Evp.pure _ ?_)
      · rw[hr,List.forall_mem_cons]
        exact⟨fun h2=>⟨⟨hb2.1 h,h2.1⟩,h2.2⟩,fun h2=>⟨h2.1.2,h2.2⟩⟩
      · rw[List.forall_mem_cons]
        exact⟨fun h2=>(by cases h2),fun h2=>absurd (hb2.2 h2.1.1) h⟩
  exact key 0 (Nat.zero_le _)
theorem jJ {cs:List Cls} (hs:gq cs):Evp (fun k=>bJ.f k cs) (fun r=>r=true↔ClsOk cs):=by
  have hl0:=hs.1
  unfold bJ.f
  rw[gV]
  simp only[Option.bind_some]
  refine Evp.ite (fun h=> ?_) (fun h=>Evp.pure _ ?_)
  · simp only [decide_eq_true_iff]at h
    have key: ∀i,i≤cs.length→Evp (fun k=>bJ.l0 k cs (i:Int)) (fun r=>r=true↔∀c,i≤c→c<cs.length→At cs c):=by
      refine Evp.for_ ?_ (fun i hi ih=> ?_)
      · refine Evp.step (f:=fun k=>_) (fun k=>by rw[bJ.l0]) (Evp.no (by omega) (Evp.pure _ ?_))
        simp only[true_iff]
        intro c h1 h2;omega
      · refine Evp.step (f:=fun k=>_) (fun k=>by rw[bJ.l0]) (Evp.yes (by omega) ?_)
        refine Evp.bind (qx hs hi) fun b hb=> ?_
        rw[eF hi (by omega)]
        refine Evp.ite (fun h1=>ih.mono fun r hr=> ?_) (fun h1=>Evp.pure _ ?_)
        · rw[hr]
          constructor
          · intro h2 c h3 h4
            rcases Nat.lt_or_ge i c with h5|h5
            ·exact h2 c h5 h4
            · have:c=i:=by omega
              subst this
              exact hb.1 h1
          ·intro h2 c h3 h4;exact h2 c (by omega) h4
        · constructor
          ·intro h2;cases h2
          ·intro h2;exact absurd (hb.2 (h2 i (Nat.le_refl _) hi)) h1
    refine(key 0 (Nat.zero_le _)).mono fun r hr=> ?_
    rw[hr,nU]
    constructor
    ·intro h2;exact⟨by omega,by omega,fun c hc=>h2 c (Nat.zero_le _) hc⟩
    ·intro h2 c _ hc;exact h2.2.2 c hc
  · simp only[decide_eq_true_iff]at h
    constructor
    ·intro h2;cases h2
    ·intro h2;have:=h2.lo;have:=h2.hi;omega
theorem mM {cs:List Cls} (hs:gq cs):Evp (fun k=>aK.f k cs) (fun r=>r=true↔ClsOk cs):=by
  have hl0:=hs.1
  have no: ∀ {p:Prop},¬p→((false=true)↔p):=fun h=>⟨fun h2=>(by cases h2),fun h2=>absurd h2 h⟩
  have jno: ¬(2≤cs.length∧cs.length≤5)→Evp (fun k=>aK.j0 k cs true) (fun r=>r=true↔ClsOk cs):=fun h=>
    Evp.step (f:=fun k=>_) (fun k=>by rw[aK.j0]) (Evp.yes rfl (Evp.pure _ (no fun h2=>h ⟨h2.lo,h2.hi⟩)))
  unfold aK.f
  refine Evp.ite (fun h=>jno (by omega)) (fun h=> ?_)
  by_cases h5: ¬cs.length≤5
  ·rw[decide_eq_true (by omega)];exact jno (by omega)
  rw[decide_eq_false (by omega)]
  have h2:2≤cs.length:=by omega
  have loop : (sup cs 0= -1∧eT cs 0= [])→(sup cs 1=0∧eT cs 1= [1])→∀i,i≤cs.length→Evp (fun k=>aK.l0 k cs cs (cs.length:Int) (i:Int)) (fun r=>r=true↔∀c,i≤c→c<cs.length→At cs c):=by
    intro hr hf
    refine Evp.for_ ?_ (fun i hi ih=> ?_)
    · refine Evp.step (f:=fun k=>_) (fun k=>by rw[aK.l0]) (Evp.no (by omega) (Evp.pure _ ?_))
      simp only[true_iff]
      intro c h1 h2;omega
    · have ih2:At cs i→∀r:Bool,(r=true↔∀c,i+1≤c→c<cs.length→At cs c)→(r=true↔∀c,i≤c→c<cs.length→At cs c):=by
        intro ha r hr
        rw[hr]
        constructor
        · intro h2 c h3 h4
          rcases Nat.lt_or_ge i c with h5|h5
          ·exact h2 c h5 h4
          · have:c=i:=by omega
            subst this
            exact ha
        ·intro h2 c h3 h4;exact h2 c (by omega) h4
      have hno: ¬At cs i→((false=true)↔∀c,i≤c→c<cs.length→At cs c):=fun h=>no fun h2=>h (h2 i (Nat.le_refl _) hi)
      have hl:=(hs.2 i hi).1
      have hb:=(hs.2 i hi).2
      have fl :Shp cs i→
          ∀j,j≤(eT cs i).length→(∀t∈(eT cs i).take j,fI cs.length t)→Evp (fun k=>aK.l1 k cs cs (cs.length:Int) (i:Int) (eT cs i) ((eT cs i).length:Int) (j:Int)) (fun r=>r=true↔∀c,i≤c→c<cs.length→At cs c):=by
        intro hc
        have key: ∀j,j≤(eT cs i).length→∀_:Unit,(∀t∈(eT cs i).take j,fI cs.length t)→Evp (fun k=>aK.l1 k cs cs (cs.length:Int) (i:Int) (eT cs i) ((eT cs i).length:Int) (j:Int)) (fun r=>r=true↔∀c,i≤c→c<cs.length→At cs c):=by
          refine Evp.fors (g:=fun j (_:Unit) k=>aK.l1 k cs cs (cs.length:Int) (i:Int) (eT cs i) ((eT cs i).length:Int) (j:Int)) (I:=fun j _=> ∀t∈(eT cs i).take j,fI cs.length t) (R:=fun _ _ r=>r=true↔∀c,i≤c→c<cs.length→At cs c) (fun _ hI=> ?_) (fun j hj ihj _ hI=> ?_)
          · refine Evp.step (f:=fun k=>_) (fun k=>by rw[aK.l1]) (Evp.no (by omega) ?_)
            rw[eF hi (by omega)]
            refine ih.mono (ih2 ⟨?_,hc⟩)
            simpa using hI
          · obtain⟨b,hb1,hb2⟩:=kz (n:=cs.length) (t:=(eT cs i)[j]) (by omega) (hb _ (List.getElem_mem hj)).1 (hb _ (List.getElem_mem hj)).2
            refine Evp.step (f:=fun k=>_) (fun k=>by rw[aK.l1,mK hj,hb1,Option.bind_some]) (Evp.yes (by omega) (Evp.yes (by omega) (Evp.yes (by omega) ?_)))
            rw[eF hj (by omega)]
            refine Evp.ite (fun h=>ihj () ?_) (fun h=>Evp.pure _ (hno ?_))
            · rw[List.take_succ_eq_append_getElem hj]
              intro t ht
              rcases List.mem_append.1 ht with ht|ht
              ·exact hI t ht
              ·rw[List.mem_singleton.1 ht];exact hb2.1 h
            ·intro ha;exact h (hb2.2 (ha.1 _ (List.getElem_mem hj)))
        exact fun j hj=>key j hj ()
      have j4 : ∀b:Bool,(b=true↔2≤i∧¬(0≤sup cs i∧sup cs i<(i:Int)))→Evp (fun k=>aK.j4 k cs cs (cs.length:Int) (i:Int) b (sup cs i) (eT cs i)) (fun r=>r=true↔∀c,i≤c→c<cs.length→At cs c):=by
        intro b hb4
        refine Evp.step (f:=fun k=>_) (fun k=>by rw[aK.j4]) ?_
        refine Evp.ite (fun h=>Evp.pure _ (hno ?_)) (fun h=> ?_)
        · intro ha
          have h6:=hb4.1 h
          have:=(ny h6.1).1 ha.2
          omega
        · have h6: ¬(2≤i∧¬(0≤sup cs i∧sup cs i<(i:Int))):=fun h7=>h (hb4.2 h7)
          refine Evp.ite (fun h7=>Evp.pure _ (hno ?_)) (fun h7=>fl ?_ 0 (Nat.zero_le _) (by simp))
          · intro ha
            rcases Nat.lt_or_ge i 2 with h8|h8
            · rcases Nat.lt_or_ge i 1 with h9|h9
              · have:i=0:=by omega
                subst this
                have:=(pg.1 ha.2).2
                omega
              · have:i=1:=by omega
                subst this
                rw[hf.2]at h7;exact absurd h7 (by decide)
            · have:=(ny h8).1 ha.2
              omega
          · rcases Nat.lt_or_ge i 2 with h8|h8
            · rcases Nat.lt_or_ge i 1 with h9|h9
              · have:i=0:=by omega
                subst this
                exact pg.2 ⟨hr.1,by rw[hr.2];rfl⟩
              · have:i=1:=by omega
                subst this
                exact qN.2 hf
            ·exact(ny h8).2 (by omega)
      refine Evp.step (f:=fun k=>_) (fun k=>by rw[aK.l0,lW,ky]) (Evp.yes (by omega) (Evp.yes (by omega) (Evp.yes (by omega) ?_)))
      refine Evp.ite (fun h=>Evp.ite (fun h8=>j4 _ ?_) (fun h8=>j4 _ ?_)) (fun h=>j4 _ ?_)
      ·simp;omega
      ·rw[decide_eq_true_iff];omega
      ·simp;omega
  have done:(sup cs 0= -1∧eT cs 0= [])→(sup cs 1=0∧eT cs 1= [1])→Evp (fun k=>aK.l0 k cs cs (cs.length:Int) 0) (fun r=>r=true↔ClsOk cs):=by
    intro hr hf
    refine(loop hr hf 0 (Nat.zero_le _)).mono fun r hr2=> ?_
    rw[hr2,nU]
    constructor
    ·intro h3;exact⟨by omega,by omega,fun c hc=>h3 c (Nat.zero_le _) hc⟩
    ·intro h3 c _ hc;exact h3.2.2 c hc
  have j2:(sup cs 0= -1∧eT cs 0= [])→∀b:Bool,(b=false↔(sup cs 1=0∧eT cs 1= [1]))→Evp (fun k=>aK.j2 k cs b) (fun r=>r=true↔ClsOk cs):=by
    intro hr b hb
    refine Evp.step (f:=fun k=>_) (fun k=>by rw[aK.j2]) ?_
    refine Evp.ite (fun h=>Evp.pure _ (no fun h3=> ?_)) (fun h=>done hr (hb.1 (by simpa using h)))
    have:=hb.2 h3.fail
    rw[h]at this;cases this
  have j1: ∀b:Bool,(b=false↔(sup cs 0= -1∧eT cs 0= []))→Evp (fun k=>aK.j1 k cs b) (fun r=>r=true↔ClsOk cs):=by
    intro b hb
    refine Evp.step (f:=fun k=>_) (fun k=>by rw[aK.j1,show(1:Int)=((1:Nat):Int) from rfl,lW,ky]) ?_
    refine Evp.ite (fun h=>Evp.pure _ (no fun h3=> ?_)) (fun h=> ?_)
    · have:=hb.2 h3.root
      rw[h]at this;cases this
    · have hr:=hb.1 (by simpa using h)
      refine Evp.yes (by omega) (Evp.ite (fun h1=>Evp.ite (fun h3=>Evp.yes (by omega) (j2 hr _ ?_)) (fun h3=>j2 hr _ ?_)) (fun h1=>j2 hr _ ?_))
      · obtain⟨x,hx⟩:=List.length_eq_one_iff.1 (by omega:(eT cs 1).length=1)
        rw[hx,show rd [x] 0=x from rfl]
        simp[h1]
      · constructor
        ·intro h4;cases h4
        ·intro h4;rw[h4.2]at h3;exact absurd rfl h3
      · constructor
        ·intro h4;cases h4
        ·intro h4;exact absurd h4.1 h1
  refine Evp.step (f:=fun k=>_) (fun k=>by rw[aK.j0,show(0:Int)=((0:Nat):Int) from rfl,lW,ky]) (Evp.no (by decide) (Evp.yes (by omega) ?_))
  refine Evp.ite (fun h1=>j1 _ ?_) (fun h1=>j1 _ ?_)
  · constructor
    · intro h3
      have:(eT cs 0).length=0:=by simpa using h3
      exact⟨h1,List.eq_nil_of_length_eq_zero this⟩
    ·intro h3;rw[h3.2];rfl
  · constructor
    ·intro h3;cases h3
    ·intro h3;exact absurd h3.1 h1
theorem dQ {p:Prop} (h: ¬p):(false=true)↔p:=⟨fun h2=>(by cases h2),fun h2=>absurd h2 h⟩
theorem gW {p:Prop} (h:p):(true=true)↔p:=⟨fun _=>h,fun _=>rfl⟩
theorem Up.via {cs:List Cls} {a b p:Nat} (hp:sup cs a=(p:Int)) (hne:a≠b):Up cs a b↔Up cs p b:=by
  constructor
  · intro h
    rcases h.inv with rfl|⟨q,hq,h2⟩
    ·exact absurd rfl hne
    · have:p=q:=by omega
      subst this
      exact h2
  ·intro h;exact .step p hp h
theorem qa {cs:List Cls} (h:ClsOk cs) (b:Nat): ∀a:Nat,a<cs.length→Evp (fun k=>eX.f k cs (a:Int) (b:Int)) (fun r=>r=true↔Up cs a b):=by
  intro a
  induction a using Nat.strongRecOn with
  | _ a ih=>
    intro ha
    unfold eX.f at ih⊢
    refine Evp.step (f:=fun k=>_) (fun k=>by rw[eX.l0,lW]) (Evp.ite (fun hab=> ?_) (fun hab=>Evp.pure _ ?_))
    · obtain⟨p,hp,hlt⟩:=h.sup_nat (by omega:1≤a) ha
      refine Evp.yes (by omega) (Evp.yes (by omega) ?_)
      rw[hp]
      exact(ih p hlt (by omega)).mono fun r hr=>hr.trans (Up.via hp (by omega)).symm
    · rw[beq_iff_eq]
      constructor
      · intro h2
        have:a=b:=by omega
        subst this;exact .refl _
      · intro h2
        have:=h2.le h ha
        omega
theorem qb {cs:List Cls} (h:ClsOk cs) (b:Nat): ∀a:Nat,a<cs.length→Evp (fun k=>dL.f k cs (a:Int) (b:Int)) (fun r=>r=true↔Up cs a b):=by
  intro a
  induction a using Nat.strongRecOn with
  | _ a ih=>
    intro ha
    unfold dL.f at ih⊢
    refine Evp.step (f:=fun k=>_) (fun k=>by rw[dL.l0,lW]) (Evp.yes (by omega) (Evp.ite (fun hab=>Evp.pure _ ?_) (fun hab=> ?_)))
    · have:a=b:=by omega
      subst this
      exact gW (.refl _)
    · refine Evp.yes (by omega) (Evp.yes (by omega) ?_)
      rcases Nat.eq_zero_or_pos a with h0|h0
      · subst h0
        rw[h.root.1]
        refine Evp.step (f:=fun k=>_) (fun k=>by rw[dL.l0]) (Evp.no (by omega) (Evp.pure _ (dQ ?_)))
        intro h2
        have:=h2.le h ha
        omega
      · obtain⟨p,hp,hlt⟩:=h.sup_nat h0 ha
        rw[hp]
        exact(ih p hlt (by omega)).mono fun r hr=>hr.trans (Up.via hp (by omega)).symm
def iK (n:Nat) (t:Int):Prop:=t=0∨t=2∨fI n t
theorem ma {n:Nat} {t:Int}:iK n t↔(0≤t∧t≤4)∨(8≤t∧t<8+(n:Int)):=by
  unfold iK fI
  omega
theorem nV {n:Nat} {t:Int} (hn:n≤1000000000) (h0: -9223372036854775808≤t) (h1:t≤9223372036854775807):
    ∃r,dP.f (n:Int) t=some r∧(iK n t∧r=t∨¬iK n t∧r= -1):=by
  refine⟨_,nT hn h0 h1, ?_⟩
  rw[ma]
  by_cases h:(0≤t∧t≤4)∨(8≤t∧t<8+(n:Int))
  ·rw[if_pos h];exact .inl ⟨h,rfl⟩
  ·rw[if_neg h];exact .inr ⟨h,rfl⟩
theorem lY {cs:List Cls} (hs:gq cs) (t:Int):Evp (fun k=>fU.f k cs t) (fun r=>r=true↔ClsOk cs∧iK cs.length t):=by
  have hl0:=hs.1
  unfold fU.f
  refine Evp.bind (jJ hs) fun b hb=>Evp.ite (fun h=> ?_) (fun h=>Evp.pure _ (dQ fun h2=>h (hb.2 h2.1)))
  refine Evp.ite (fun h0=>Evp.pure _ (gW ⟨hb.1 h, .inl h0⟩)) (fun h0=>Evp.ite (fun h2=>Evp.pure _ (gW ⟨hb.1 h, .inr (.inl h2)⟩)) (fun h2=> ?_))
  obtain⟨c,hc,hc2⟩:=lc (cs:=cs) (t:=t) (by omega)
  simp only[hc,Option.bind_some]
  refine Evp.pure _ (hc2.trans ⟨fun h3=>⟨hb.1 h, .inr (.inr h3)⟩,fun h3=> ?_⟩)
  rcases h3.2 with h4|h4|h4
  ·exact absurd h4 h0
  ·exact absurd h4 h2
  ·exact h4
theorem fK {Q:Nat→Prop} {Z:Prop} {i n:Nat} {r:Bool} (hq:Q i) (hr:r=true↔(∀j,i+1≤j→j<n→Q j)∧Z):r=true↔(∀j,i≤j→j<n→Q j)∧Z:=by
  rw[hr]
  constructor
  · intro ⟨h2,hz⟩
    refine⟨fun c h3 h4=> ?_,hz⟩
    rcases Nat.lt_or_ge i c with h5|h5
    ·exact h2 c h5 h4
    · have:c=i:=by omega
      subst this
      exact hq
  ·intro ⟨h2,hz⟩;exact⟨fun c h3 h4=>h2 c (by omega) h4,hz⟩
theorem dX {Q:Nat→Prop} {Z:Prop} {i n:Nat} (hi:i<n) (hq: ¬Q i):(false=true)↔(∀j,i≤j→j<n→Q j)∧Z:=dQ fun h=>hq (h.1 i (Nat.le_refl _) hi)
theorem fJ {Q:Nat→Prop} {Z:Prop} {n:Nat} {r:Bool} (h:r=true↔Z):r=true↔(∀j,n≤j→j<n→Q j)∧Z:=h.trans ⟨fun hz=>⟨fun j h1 h2=>absurd h2 (by omega),hz⟩,fun h=>h.2⟩
theorem j6 {α:Type} {xs:List α} {d:α} {Q:α→Prop}:(∀j,0≤j→j<xs.length→Q (xs.getD j d))↔∀x∈xs,Q x:=by
  constructor
  · intro h x hx
    obtain⟨i,hi,rfl⟩:=List.mem_iff_getElem.1 hx
    have:=h i (Nat.zero_le _) hi
    rwa [getD_at hi]at this
  · intro h j _ hj
    rw[getD_at hj]
    exact h _ (List.getElem_mem hj)
def I64 (l:List Int):Prop:= ∀t∈l, -9223372036854775808≤t∧t≤9223372036854775807
theorem I64.at {l:List Int} (h:I64 l) {i:Nat} (hi:i<l.length): -9223372036854775808≤l.getD i 0∧l.getD i 0≤9223372036854775807:=by
  rw[getD_at hi];exact h _ (List.getElem_mem hi)
theorem rdN {xs:List Int} (i:Nat):rd xs (i:Int)=xs.getD i 0:=rfl
def jg (cs:List Cls) (n:Int) (b:Bool) (l m:List Int):Prop:=
  (b=true∧(l.length:Int)=n∧m.length≤4∧(∀t∈l,iK cs.length t)∧(∀t∈m,iK cs.length t∧t≠0))∨(b=false∧l.length=0∧m.length=0)
theorem oG {cs:List Cls} (hs:gq cs) (n:Int) (b:Bool) {l m:List Int} (hl:l.length≤1048576) (hm:m.length≤1048576):
    Evp (fun k=>bF.f k cs n b l m) (fun r=>r=true↔ClsOk cs∧jg cs n b l m):=by
  unfold bF.f
  refine Evp.bind (jJ hs) fun c hc=>Evp.ite (fun h=> ?_) (fun h=>Evp.pure _ (dQ fun h2=>h (hc.2 h2.1)))
  have hok:=hc.1 h
  refine Evp.ite (fun hb=> ?_) (fun hb=>Evp.ite (fun h1=>Evp.pure _ ?_) (fun h1=>Evp.pure _ (dQ ?_)))
  · have jt : ¬jg cs n b l m→Evp (fun k=>bF.j0 k cs true b l m) (fun r=>r=true↔ClsOk cs∧jg cs n b l m):=fun h=>
      Evp.step (f:=fun k=>_) (fun k=>by rw[bF.j0]) (Evp.yes rfl (Evp.pure _ (dQ fun h2=>h h2.2)))
    refine Evp.ite (fun h1=> ?_) (fun h1=>jt ?_)
    · by_cases h4:m.length≤4
      · rw[decide_eq_false (by omega)]
        refine Evp.step (f:=fun k=>_) (fun k=>by rw[bF.j0]) (Evp.no (by decide) ?_)
        have k1: ∀i,i≤m.length→Evp (fun k=>bF.l1 k cs (i:Int) b l m) (fun r=>r=true↔(∀j,i≤j→j<m.length→iK cs.length (m.getD j 0)∧m.getD j 0≠0)∧True):=by
          refine Evp.for_ ?_ (fun i hi ih=> ?_)
          ·refine Evp.step (f:=fun k=>_) (fun k=>by rw[bF.l1]) (Evp.no (by omega) (Evp.pure _ (fJ (gW trivial))))
          · refine Evp.step (f:=fun k=>_) (fun k=>by rw[bF.l1,rdN]) (Evp.yes (by omega) (Evp.yes (by omega) ?_))
            refine Evp.bind (lY hs _) fun d hd=>Evp.ite (fun h5=>Evp.ite (fun h6=>Evp.pure _ (dX hi fun h7=>h7.2 h6)) (fun h6=> ?_)) (fun h5=>Evp.pure _ (dX hi fun h7=>h5 (hd.2 ⟨hok,h7.1⟩)))
            rw[eF hi (by omega)]
            exact ih.mono fun r hr=>fK (Q:=fun j=>iK cs.length (m.getD j 0)∧m.getD j 0≠0) ⟨(hd.1 h5).2,h6⟩ hr
        have k0: ∀i,i≤l.length→Evp (fun k=>bF.l0 k cs (i:Int) b l m) (fun r=>r=true↔(∀j,i≤j→j<l.length→iK cs.length (l.getD j 0))∧((∀j,0≤j→j<m.length→iK cs.length (m.getD j 0)∧m.getD j 0≠0)∧True)):=by
          refine Evp.for_ ?_ (fun i hi ih=> ?_)
          · refine Evp.step (f:=fun k=>_) (fun k=>by rw[bF.l0]) (Evp.no (by omega) ?_)
            exact(k1 0 (Nat.zero_le _)).mono fun r hr=>fJ hr
          · refine Evp.step (f:=fun k=>_) (fun k=>by rw[bF.l0,rdN]) (Evp.yes (by omega) (Evp.yes (by omega) ?_))
            refine Evp.bind (lY hs _) fun d hd=>Evp.ite (fun h5=> ?_) (fun h5=>Evp.pure _ (dX hi fun h7=>h5 (hd.2 ⟨hok,h7⟩)))
            rw[eF hi (by omega)]
            exact ih.mono fun r hr=>fK (Q:=fun j=>iK cs.length (l.getD j 0)) (hd.1 h5).2 hr
        refine(k0 0 (Nat.zero_le _)).mono fun r hr=>hr.trans ?_
        rw[j6 (Q:=fun t=>iK cs.length t),j6 (Q:=fun t=>iK cs.length t∧t≠0)]
        unfold jg
        rw[hb]
        constructor
        ·intro h5;exact⟨hok, .inl ⟨rfl,h1,h4,h5.1,h5.2.1⟩⟩
        · intro h5
          rcases h5.2 with h6|h6
          ·exact⟨h6.2.2.2.1,h6.2.2.2.2,trivial⟩
          ·cases h6.1
      · rw[decide_eq_true (by omega)]
        refine jt ?_
        unfold jg
        rw[hb]
        intro h5
        rcases h5 with h5|h5
        ·exact h4 h5.2.2.1
        ·cases h5.1
    · unfold jg
      rw[hb]
      intro h5
      rcases h5 with h5|h5
      ·exact h1 h5.2.1
      ·cases h5.1
  · have hb' :b=false:=by simpa using hb
    rw[beq_iff_eq]
    unfold jg
    rw[hb']
    constructor
    ·intro h2;exact⟨hok, .inr ⟨rfl,by omega,by omega⟩⟩
    · intro h2
      rcases h2.2 with h3|h3
      ·cases h3.1
      ·omega
  · have hb' :b=false:=by simpa using hb
    unfold jg
    rw[hb']
    intro h2
    rcases h2.2 with h3|h3
    ·cases h3.1
    ·omega
theorem ol {cs:List Cls} (hs:gq cs) (n:Int) (b:Bool) {l m:List Int} (hl:l.length≤1048576) (hm:m.length≤1048576) (il:I64 l) (im:I64 m):
    Evp (fun k=>bG.f k cs n b l m) (fun r=>r=true↔jg cs n b l m):=by
  have hl0:=hs.1
  unfold bG.f
  refine Evp.ite (fun hb=> ?_) (fun hb=>Evp.ite (fun h1=>Evp.pure _ ?_) (fun h1=>Evp.pure _ (dQ ?_)))
  · have jt : ¬jg cs n b l m→Evp (fun k=>bG.j0 k cs true b l m) (fun r=>r=true↔jg cs n b l m):=fun h=>
      Evp.step (f:=fun k=>_) (fun k=>by rw[bG.j0]) (Evp.yes rfl (Evp.pure _ (dQ h)))
    refine Evp.ite (fun h1=> ?_) (fun h1=>jt ?_)
    · by_cases h4:m.length≤4
      · rw[decide_eq_false (by omega)]
        refine Evp.step (f:=fun k=>_) (fun k=>by rw[bG.j0]) (Evp.no (by decide) ?_)
        have k1: ∀i,i≤m.length→Evp (fun k=>bG.l1 k cs m (m.length:Int) (i:Int)) (fun r=>r=true↔(∀j,i≤j→j<m.length→iK cs.length (m.getD j 0)∧m.getD j 0≠0)∧True):=by
          refine Evp.for_ ?_ (fun i hi ih=> ?_)
          ·refine Evp.step (f:=fun k=>_) (fun k=>by rw[bG.l1]) (Evp.no (by omega) (Evp.pure _ (fJ (gW trivial))))
          · obtain⟨q,hq,hq2⟩:=nV (n:=cs.length) (t:=m.getD i 0) (by omega) (im.at hi).1 (im.at hi).2
            refine Evp.step (f:=fun k=>_) (fun k=>by rw[bG.l1,rdN,hq,Option.bind_some]) (Evp.yes (by omega) (Evp.yes (by omega) (Evp.yes (by omega) ?_)))
            refine Evp.ite (fun h6=>Evp.pure _ (dX hi fun h7=>h7.2 h6)) (fun h6=> ?_)
            rcases hq2 with⟨h7,rfl⟩|⟨h7,rfl⟩
            · refine Evp.no (by have:=ma.1 h7;omega) ?_
              rw[eF hi (by omega)]
              exact ih.mono fun r hr=>fK (Q:=fun j=>iK cs.length (m.getD j 0)∧m.getD j 0≠0) ⟨h7,h6⟩ hr
            ·exact Evp.yes rfl (Evp.pure _ (dX hi fun h8=>h7 h8.1))
        have k0: ∀i,i≤l.length→Evp (fun k=>bG.l0 k cs l (l.length:Int) (i:Int) b l m) (fun r=>r=true↔(∀j,i≤j→j<l.length→iK cs.length (l.getD j 0))∧((∀j,0≤j→j<m.length→iK cs.length (m.getD j 0)∧m.getD j 0≠0)∧True)):=by
          refine Evp.for_ ?_ (fun i hi ih=> ?_)
          · refine Evp.step (f:=fun k=>_) (fun k=>by rw[bG.l0]) (Evp.no (by omega) ?_)
            exact(k1 0 (Nat.zero_le _)).mono fun r hr=>fJ hr
          · obtain⟨q,hq,hq2⟩:=nV (n:=cs.length) (t:=l.getD i 0) (by omega) (il.at hi).1 (il.at hi).2
            refine Evp.step (f:=fun k=>_) (fun k=>by rw[bG.l0,rdN,hq,Option.bind_some]) (Evp.yes (by omega) (Evp.yes (by omega) (Evp.yes (by omega) ?_)))
            rcases hq2 with⟨h7,rfl⟩|⟨h7,rfl⟩
            · refine Evp.no (by have:=ma.1 h7;omega) ?_
              rw[eF hi (by omega)]
              exact ih.mono fun r hr=>fK (Q:=fun j=>iK cs.length (l.getD j 0)) h7 hr
            ·exact Evp.yes rfl (Evp.pure _ (dX hi h7))
        refine(k0 0 (Nat.zero_le _)).mono fun r hr=>hr.trans ?_
        rw[j6 (Q:=fun t=>iK cs.length t),j6 (Q:=fun t=>iK cs.length t∧t≠0)]
        unfold jg
        rw[hb]
        constructor
        ·intro h5;exact .inl ⟨rfl,h1,h4,h5.1,h5.2.1⟩
        · intro h5
          rcases h5 with h6|h6
          ·exact⟨h6.2.2.2.1,h6.2.2.2.2,trivial⟩
          ·cases h6.1
      · rw[decide_eq_true (by omega)]
        refine jt ?_
        unfold jg
        rw[hb]
        intro h5
        rcases h5 with h5|h5
        ·exact h4 h5.2.2.1
        ·cases h5.1
    · unfold jg
      rw[hb]
      intro h5
      rcases h5 with h5|h5
      ·exact h1 h5.2.1
      ·cases h5.1
  · have hb' :b=false:=by simpa using hb
    rw[beq_iff_eq]
    unfold jg
    rw[hb']
    constructor
    ·intro h2;exact .inr ⟨rfl,by omega,by omega⟩
    · intro h2
      rcases h2 with h3|h3
      ·cases h3.1
      ·omega
  · have hb' :b=false:=by simpa using hb
    unfold jg
    rw[hb']
    intro h2
    rcases h2 with h3|h3
    ·cases h3.1
    ·omega
abbrev Mth:=S104
abbrev Ins:=S113
abbrev jF:=S57
abbrev Cth:=S181
theorem rdX {xs:List Ins} (i:Nat):aQ xs (i:Int)=xs.getD i iU:=rfl
theorem rdS {xs:List jF} (i:Nat):bi xs (i:Int)=xs.getD i z57:=rfl
theorem rdK {xs:List Cth} (i:Nat):aG xs (i:Int)=xs.getD i ig:=rfl
def jG (a0:Int):Int:=if 0≤a0 then 1 else 0
theorem qo {a0:Int} (h:a0<0):jG a0=0:=if_neg (by omega)
theorem pz {a0:Int} (h:0≤a0):jG a0=1:=if_pos h
def oD (n:Nat) (a0 a1:Int):Prop:=(a0= -1∧a1=0)∨(1≤a0∧a0<(n:Int)∧0≤a1∧a1<3)
def qO (n:Nat) (a0:Int) (l2:List Int) (a3 a4:Int):Prop:=l2.length≤2∧fI n a3∧(∀t∈l2,fI n t)∧a4≤3∧jG a0+(l2.length:Int)≤a4
def kC (n:Nat) (a0 a1:Int) (l2:List Int) (a3 a4:Int):Prop:=oD n a0 a1∧qO n a0 l2 a3 a4
theorem ul {a0 a1:Int} {l2:List Int} {a3 a4:Int} {l5:List Ins} {l6:List jF} {l7:List Cth} (hl:l2.length≤1048576): ∃g,jm.f a0 a1 l2 a3 a4 l5 l6 l7=some g∧(g.length:Int)=jG a0+(l2.length:Int):=by
  unfold jm.f
  by_cases h:a0≥0
  · rw[if_pos h,if_pos (by simp)]
    simp only[Option.bind_some]
    rw[if_pos (by simp;omega),pz h]
    exact⟨_,rfl,by simp;omega⟩
  · rw[if_neg h,if_pos (by simp;omega),qo (by omega)]
    exact⟨_,rfl,by simp⟩
theorem qY {cs:List Cls} (hs:gq cs) (ms:List Mth) {a0 a1:Int} {l2:List Int} {a3 a4:Int} (l5:List Ins) (l6:List jF) (l7:List Cth) (h0: -9223372036854775808≤a3) (h1:a3≤9223372036854775807) (hl:l2.length≤1048576) (il:I64 l2):
    Evp (fun k=>bn.f k cs ms a0 a1 l2 a3 a4 l5 l6 l7) (fun r=>r=true↔kC cs.length a0 a1 l2 a3 a4):=by
  have hs0:=hs.1
  have jt: ∀P:Prop,¬P→Evp (fun k=>bn.j1 k true cs ms a0 a1 l2 a3 a4 l5 l6 l7) (fun r=>r=true↔P):=fun P h=>
    Evp.step (f:=fun k=>_) (fun k=>by rw[bn.j1]) (Evp.yes rfl (Evp.pure _ (dQ h)))
  have j0 :Evp (fun k=>bn.j0 k cs ms a0 a1 l2 a3 a4 l5 l6 l7) (fun r=>r=true↔qO cs.length a0 l2 a3 a4):=by
    refine Evp.step (f:=fun k=>_) (fun k=>by rw[bn.j0]) (Evp.ite (fun h2=>jt _ fun h3=> ?_) (fun h2=> ?_))
    ·have:=h3.1;omega
    obtain⟨b,hb,hb2⟩:=kz (n:=cs.length) (by omega) h0 h1
    simp only[hb,Option.bind_some]
    cases b with
    |false=>exact jt _ fun h3=>by have:=hb2.2 h3.2.1;cases this
    | true=>
      have h3:=hb2.1 rfl
      refine Evp.step (f:=fun k=>_) (fun k=>by rw[bn.j1]) (Evp.no (by decide) ?_)
      obtain⟨g,hg,hg2⟩:=ul (a0:=a0) (a1:=a1) (a3:=a3) (a4:=a4) (l5:=l5) (l6:=l6) (l7:=l7) hl
      have k0: ∀i,i≤l2.length→Evp (fun k=>bn.l0 k l2 (l2.length:Int) (i:Int) cs ms a0 a1 l2 a3 a4 l5 l6 l7) (fun r=>r=true↔(∀j,i≤j→j<l2.length→fI cs.length (l2.getD j 0))∧(a4≤3∧jG a0+(l2.length:Int)≤a4)):=by
        refine Evp.for_ ?_ (fun i hi ih=> ?_)
        · refine Evp.step (f:=fun k=>_) (fun k=>by rw[bn.l0]) (Evp.no (by omega) (Evp.ite (fun h4=> ?_) (fun h4=>Evp.pure _ (fJ (dQ fun h5=>h4 h5.1)))))
          simp only[hg,Option.bind_some]
          refine Evp.pure _ (fJ ?_)
          rw[decide_eq_true_iff,ge_iff_le,hg2]
          exact⟨fun h5=>⟨h4,h5⟩,fun h5=>h5.2⟩
        · refine Evp.step (f:=fun k=>_) (fun k=>by rw[bn.l0,rdN]) (Evp.yes (by omega) (Evp.yes (by omega) (Evp.yes (by omega) ?_)))
          obtain⟨c,hc,hc2⟩:=kz (n:=cs.length) (by omega) (il.at hi).1 (il.at hi).2
          simp only[hc,Option.bind_some]
          refine Evp.ite (fun h5=> ?_) (fun h5=>Evp.pure _ (dX hi fun h7=>h5 (hc2.2 h7)))
          rw[eF hi (by omega)]
          exact ih.mono fun r hr=>fK (Q:=fun j=>fI cs.length (l2.getD j 0)) (hc2.1 h5) hr
      refine(k0 0 (Nat.zero_le _)).mono fun r hr=>hr.trans ?_
      rw[j6 (Q:=fun t=>fI cs.length t)]
      unfold qO
      exact⟨fun h5=>⟨by omega,h3,h5.1,h5.2.1,h5.2.2⟩,fun h5=>⟨h5.2.2.1,h5.2.2.2.1,h5.2.2.2.2⟩⟩
  have fin:oD cs.length a0 a1→Evp (fun k=>bn.j0 k cs ms a0 a1 l2 a3 a4 l5 l6 l7) (fun r=>r=true↔kC cs.length a0 a1 l2 a3 a4):=fun ha=>j0.mono fun r hr=>hr.trans ⟨fun h=>⟨ha,h⟩,fun h=>h.2⟩
  have no: ¬oD cs.length a0 a1→Evp (fun k=>some false) (fun r=>r=true↔kC cs.length a0 a1 l2 a3 a4):=fun ha=>Evp.pure _ (dQ fun h=>ha h.1)
  unfold bn.f
  refine Evp.ite (fun h2=>Evp.ite (fun h3=>fin (.inl ⟨h2,h3⟩)) (fun h3=>no ?_)) (fun h2=>Evp.ite (fun h3=>no ?_) (fun h3=> ?_))
  ·rintro(h4|h4)<;>omega
  ·rintro(h4|h4)<;>omega
  obtain⟨x,hx,hx2⟩:=jb cs a0
  simp only[hx,Option.bind_some]
  refine Evp.ite (fun h4=>Evp.ite (fun h5=>no ?_) (fun h5=>Evp.ite (fun h6=>no ?_) (fun h6=>fin (.inr ?_)))) (fun h4=>no ?_)
  ·rintro(h7|h7)<;>omega
  ·rintro(h7|h7)<;>omega
  ·have:=hx2.1 h4;omega
  · rintro(h7|h7)
    ·omega
    ·exact h4 (hx2.2 (by omega))
theorem qZ {cs:List Cls} (hs:gq cs) (ms:List Mth) {a0 a1:Int} {l2:List Int} {a3 a4:Int} (l5:List Ins) (l6:List jF) (l7:List Cth) (hl:l2.length≤1048576):
    Evp (fun k=>bC.f k cs ms a0 a1 l2 a3 a4 l5 l6 l7) (fun r=>r=true↔kC cs.length a0 a1 l2 a3 a4):=by
  have hs0:=hs.1
  have jt: ∀P:Prop,¬P→Evp (fun k=>bC.j1 k true cs ms a0 a1 l2 a3 a4 l5 l6 l7) (fun r=>r=true↔P):=fun P h=>
    Evp.step (f:=fun k=>_) (fun k=>by rw[bC.j1]) (Evp.yes rfl (Evp.pure _ (dQ h)))
  have key:Evp (fun k=>bC.j0 k (jG a0) cs ms a0 a1 l2 a3 a4 l5 l6 l7) (fun r=>r=true↔kC cs.length a0 a1 l2 a3 a4):=by
    have hself:0≤jG a0∧jG a0≤1:=by unfold jG;split<;>omega
    have noA:(¬(1≤a0∧a0<(cs.length:Int)∨a0= -1))→¬kC cs.length a0 a1 l2 a3 a4:=fun h h2=>by
      rcases h2.1 with h3|h3<;>omega
    refine Evp.step (f:=fun k=>_) (fun k=>by rw[bC.j0]) (Evp.ite (fun h2=>jt _ (noA (by omega))) (fun h2=> ?_))
    rw[gV,w64 (n:=(cs.length:Int) - 1) (by omega) (by omega)]
    simp only[Option.bind_some,decide_eq_true_iff]
    refine Evp.ite (fun h3=> ?_) (fun h3=>jt _ (noA (by omega)))
    refine Evp.ite (fun h4=>jt _ fun h5=> ?_) (fun h4=> ?_)
    ·have:=h5.2.1;omega
    obtain⟨b,hb,hb2⟩:=lc (cs:=cs) (t:=a3) (by omega)
    simp only[hb,Option.bind_some]
    refine Evp.ite (fun h5=> ?_) (fun h5=>jt _ fun h6=>h5 (hb2.2 h6.2.2.1))
    rw[gV,w64 (by omega) (by omega)]
    simp only[Option.bind_some]
    by_cases h6:jG a0+(l2.length:Int)≤a4∧a4≤3
    · rw[decide_eq_true h6]
      refine Evp.step (f:=fun k=>_) (fun k=>by rw[bC.j1]) (Evp.no (by decide) ?_)
      have k0: ∀i,i≤l2.length→Evp (fun k=>bC.l0 k (i:Int) cs ms a0 a1 l2 a3 a4 l5 l6 l7) (fun r=>r=true↔(∀j,i≤j→j<l2.length→fI cs.length (l2.getD j 0))∧oD cs.length a0 a1):=by
        refine Evp.for_ ?_ (fun i hi ih=> ?_)
        · refine Evp.step (f:=fun k=>_) (fun k=>by rw[bC.l0]) (Evp.no (by omega) ?_)
          rw[gV]
          simp only[Option.bind_some,decide_eq_true_iff]
          refine Evp.ite (fun h7=>Evp.ite (fun h8=>Evp.pure _ (fJ (gW (.inr ?_)))) (fun h8=>Evp.no (by omega) (Evp.pure _ (fJ (dQ ?_))))) (fun h7=>Evp.yes (by omega) (Evp.pure _ (fJ ?_)))
          ·omega
          ·rintro(h9|h9)<;>omega
          · rw[beq_iff_eq]
            exact⟨fun h9=> .inl ⟨by omega,h9⟩,fun h9=>by rcases h9 with h10|h10<;>omega⟩
        · refine Evp.step (f:=fun k=>_) (fun k=>by rw[bC.l0,rdN]) (Evp.yes (by omega) (Evp.yes (by omega) ?_))
          obtain⟨c,hc,hc2⟩:=lc (cs:=cs) (t:=l2.getD i 0) (by omega)
          simp only[hc,Option.bind_some]
          refine Evp.ite (fun h5=> ?_) (fun h5=>Evp.pure _ (dX hi fun h7=>h5 (hc2.2 h7)))
          rw[eF hi (by omega)]
          exact ih.mono fun r hr=>fK (Q:=fun j=>fI cs.length (l2.getD j 0)) (hc2.1 h5) hr
      refine(k0 0 (Nat.zero_le _)).mono fun r hr=>hr.trans ?_
      rw[j6 (Q:=fun t=>fI cs.length t)]
      exact⟨fun h7=>⟨h7.2,by omega,hb2.1 h5,h7.1,h6.2,h6.1⟩,fun h7=>⟨h7.2.2.2.1,h7.1⟩⟩
    · rw[decide_eq_false h6]
      exact jt _ fun h7=>h6 ⟨h7.2.2.2.2.2,h7.2.2.2.2.1⟩
  unfold bC.f
  refine Evp.ite (fun h=> ?_) (fun h=> ?_)
  · have:=key
    rw[pz h]at this
    exact this
  · have:=key
    rw[qo (by omega)]at this
    exact this
theorem nH {cs:List Cls} (h:ClsOk cs): ∀a:Nat,a<cs.length→Evp (fun k=>bN.f k cs (a:Int)) (fun r=>Flds cs a r∧r.length≤2 * a):=by
  have hhi:=h.hi
  intro a
  induction a using Nat.strongRecOn with
  | _ a ih=>
    intro ha
    refine Evp.step (f:=fun k=>_) (fun k=>by rw[bN.f]) (Evp.ite (fun h0=>Evp.pure _ ?_) (fun h0=> ?_))
    · have:a=0:=by omega
      subst this
      exact⟨.root,Nat.le_refl _⟩
    · obtain⟨p,hp,hlt⟩:=h.sup_nat (i:=a) (by omega) ha
      have e:(aD cs (a:Int)).f0=(p:Int):=hp
      have hl2:=h.len2 ha
      refine Evp.yes (by omega) (Evp.yes (by omega) ?_)
      rw[e,ky]
      refine Evp.bind (ih p hlt (by omega)) fun l hl=>Evp.yes (by have:=hl.2;omega) (Evp.pure _ ⟨.step p (by omega) hp hl.1, ?_⟩)
      have:=hl.2
      rw[List.length_append];omega
theorem nI {cs:List Cls} (h:ClsOk cs): ∀a:Nat,a<cs.length→Evp (fun k=>dA.f k cs (a:Int)) (fun r=>Flds cs a r∧r.length≤2 * a):=by
  have hhi:=h.hi
  intro a
  induction a using Nat.strongRecOn with
  | _ a ih=>
    intro ha
    refine Evp.step (f:=fun k=>_) (fun k=>by rw[dA.f]) (Evp.ite (fun h0=>Evp.pure _ ?_) (fun h0=> ?_))
    · have:a=0:=by omega
      subst this
      exact⟨.root,Nat.le_refl _⟩
    · obtain⟨p,hp,hlt⟩:=h.sup_nat (i:=a) (by omega) ha
      have e:(aD cs (a:Int)).f0=(p:Int):=hp
      have hl2:=h.len2 ha
      refine Evp.yes (by omega) (Evp.yes (by omega) ?_)
      rw[e,ky]
      refine Evp.bind (ih p hlt (by omega)) fun l hl=>Evp.yes (by have:=hl.2;omega) (Evp.pure _ ⟨.step p (by omega) hp hl.1, ?_⟩)
      have:=hl.2
      rw[List.length_append];omega
end Go.Proofs.YteinbmkgenhocaaGreat.Kit
end
section
namespace Go.Proofs.YteinbmkgenhocaaGreat.Kit
open Go Go.RowKit Go.Proofs.YteinbmkgenhocaaGreatW.PrintWords Go.Proofs.YteinbmkgenhocaaGreat.P
set_option linter.unusedVariables false
set_option linter.unusedSimpArgs false
def gN (cs:List Cls) (ms:List Mth) (a4:Int) (nc:Nat) (xa what n:Int):Prop:=
  if what=1 then -128≤n∧n≤127 else if what=2 then 0≤n∧n<a4 else if what=3 then 1≤n∧n≤4 else if what=4 then 0≤n∧n<(nc:Int)else if what=5 then 0≤n∧n<(cs.length:Int)else if what=6 then n=0∨n=1 else
  if what=7 then 0≤n∧n<(ms.length:Int)∧(ms.getD n.toNat jM).f0= -1 else if what=8 then 0≤n∧∃l,Flds cs xa.toNat l∧n<(l.length:Int)else if what=9 then 0≤n∧n<3 else n=0
def iW (cs:List Cls) (ms:List Mth) (a4:Int) (nc:Nat) (x:Ins):Prop:= ∃p q,fo x.f0 gz=some (p,q)∧gN cs ms a4 nc x.f1 p x.f1∧gN cs ms a4 nc x.f1 q x.f2
theorem kS {A B:Prop} [Decidable A] [Decidable B]:Evp (fun _=>if A then some (decide B)else some false) (fun r=>r=true↔A∧B):=by
  refine Evp.ite (fun h=>Evp.pure _ ?_) (fun h=>Evp.pure _ (dQ fun h2=>h h2.1))
  rw[decide_eq_true_iff]
  exact⟨fun h2=>⟨h,h2⟩,fun h2=>h2.2⟩
theorem lm {cs:List Cls} (hok:ClsOk cs) (ms:List Mth) {a0 a1:Int} {l2:List Int} {a3 a4:Int} (l5:List Ins) (l6:List jF) (l7:List Cth) {x0 xa x2 what n:Int} (h8:what=8→0≤xa∧xa<(cs.length:Int)):
    Evp (fun k=>eP.f k cs ms a0 a1 l2 a3 a4 l5 l6 l7 x0 xa x2 what n) (fun r=>r=true↔gN cs ms a4 l5.length xa what n):=by
  unfold eP.f gN
  by_cases h1:what=1
  · simp only[if_pos h1]
    unfold dU.f
    exact Evp.bind kS fun r hr=>Evp.pure _ hr
  simp only[if_neg h1]
  by_cases h2:what=2
  ·simp only[if_pos h2];exact kS
  simp only[if_neg h2]
  by_cases h3:what=3
  ·simp only[if_pos h3];exact kS
  simp only[if_neg h3]
  by_cases h4:what=4
  ·simp only[if_pos h4];exact kS
  simp only[if_neg h4]
  by_cases h5:what=5
  · simp only[if_pos h5]
    obtain⟨x,hx,hx2⟩:=jb cs n
    simp only[hx,Option.bind_some]
    exact Evp.pure _ hx2
  simp only[if_neg h5]
  by_cases h6:what=6
  · simp only[if_pos h6]
    refine Evp.ite (fun h=>Evp.pure _ (gW (.inl h))) (fun h=>Evp.pure _ ?_)
    rw[beq_iff_eq]
    exact⟨fun h2=> .inr h2,fun h2=>h2.resolve_left h⟩
  simp only[if_neg h6]
  by_cases h7:what=7
  · simp only[if_pos h7]
    refine Evp.ite (fun h=>Evp.ite (fun h' =>Evp.yes h (Evp.pure _ ?_)) (fun h' =>Evp.pure _ (dQ fun h2=>h' h2.2.1))) (fun h=>Evp.pure _ (dQ fun h2=>h h2.1))
    rw[beq_iff_eq]
    exact⟨fun h2=>⟨h,h',h2⟩,fun h2=>h2.2.2⟩
  simp only[if_neg h7]
  by_cases h8' :what=8
  · simp only[if_pos h8']
    obtain⟨hx0,hx1⟩:=h8 h8'
    refine Evp.ite (fun h=> ?_) (fun h=>Evp.pure _ (dQ fun h2=>h h2.1))
    have:=nH hok xa.toNat (by omega)
    rw[show((xa.toNat:Nat):Int)=xa by omega]at this
    refine Evp.bind this fun l hl=>Evp.pure _ ?_
    rw[decide_eq_true_iff]
    exact⟨fun h2=>⟨h,l,hl.1,h2⟩,fun h2=>by obtain⟨_,l',hl',h3⟩:=h2;rw[hl.1.fn hl'];exact h3⟩
  simp only[if_neg h8']
  by_cases h9:what=9
  ·simp only[if_pos h9];exact kS
  simp only[if_neg h9]
  exact Evp.pure _ (by rw[beq_iff_eq])
theorem lI {n:Int}: ∀ {l:List (Int×Int×Int)} {r:Int×Int},fo n l=some r→∃e∈l,e.2=r
  | [],_,h=>by cases h
  | e ::l,r,h=>by
    unfold fo at h
    split at h
    ·exact⟨e,List.mem_cons_self,Option.some.inj h⟩
    · obtain⟨x,hx,hr⟩:=lI h
      exact⟨x,List.mem_cons_of_mem _ hx,hr⟩
theorem vK {n p q:Int} (h:fo n gz=some (p,q)):p≠8∧(q=8→p=5):=by
  obtain⟨e,he,hr⟩:=lI h
  have key: ∀e∈gz,e.2.1≠8∧(e.2.2=8→e.2.1=5):=by decide
  have:=key e he
  rw[hr]at this
  exact this
def kH (cs:List Cls) (a4:Int) (s:jF):Prop:=jg cs a4 s.f0 s.f1 s.f2
structure SmallS (s:jF):Prop where
  l1:s.f1.length≤1048576
  l2:s.f2.length≤1048576
  i1:I64 s.f1
  i2:I64 s.f2
def pE (cs:List Cls) (ms:List Mth) (a4:Int) (l5:List Ins) (l6:List jF):Prop:=(1≤l5.length∧l5.length≤12∧l6.length=l5.length)∧(∀j,0≤j→j<l5.length→iW cs ms a4 l5.length (l5.getD j iU))∧(∀j,0≤j→j<l6.length→kH cs a4 (l6.getD j z57))
theorem q8 {cs:List Cls} (hs:gq cs) (hok:ClsOk cs) (ms:List Mth) {a0 a1:Int} {l2:List Int} {a3 a4:Int} (l5:List Ins) (l6:List jF) (l7:List Cth) (b:Int) (h6: ∀j,j<l6.length→SmallS (l6.getD j z57)) (a:l5.length≤1048576) (e:l6.length≤1048576):
    Evp (fun k=>bD.f k cs ms a0 a1 l2 a3 a4 l5 l6 l7 b) (fun r=>r=true↔pE cs ms a4 l5 l6):=by
  have jt: ¬(1≤l5.length∧l5.length≤12∧l6.length=l5.length)→Evp (fun k=>bD.j0 k true cs ms a0 a1 l2 a3 a4 l5 l6 l7) (fun r=>r=true↔pE cs ms a4 l5 l6):=fun h=>
    Evp.step (f:=fun k=>_) (fun k=>by rw[bD.j0]) (Evp.yes rfl (Evp.pure _ (dQ fun h2=>h h2.1)))
  unfold bD.f
  refine Evp.ite (fun h1=>jt (by omega)) (fun h1=>Evp.ite (fun h2=>jt (by omega)) (fun h2=> ?_))
  by_cases he:l6.length=l5.length
  · rw [show ((l6.length:Int) !=(l5.length:Int))=false by simp;omega]
    refine Evp.step (f:=fun k=>_) (fun k=>by rw[bD.j0]) (Evp.no (by decide) ?_)
    have k1: ∀i,i≤l6.length→Evp (fun k=>bD.l1 k l6 (l6.length:Int) (i:Int) cs ms a0 a1 l2 a3 a4 l5 l6 l7) (fun r=>r=true↔(∀j,i≤j→j<l6.length→kH cs a4 (l6.getD j z57))∧True):=by
      refine Evp.for_ ?_ (fun i hi ih=> ?_)
      ·exact Evp.step (f:=fun k=>_) (fun k=>by rw[bD.l1]) (Evp.no (by omega) (Evp.pure _ (fJ (gW trivial))))
      · have hss:=h6 i hi
        refine Evp.step (f:=fun k=>_) (fun k=>by rw[bD.l1,rdS]) (Evp.yes (by omega) (Evp.yes (by omega) (Evp.yes (by omega) ?_)))
        refine Evp.bind (ol hs a4 _ hss.l1 hss.l2 hss.i1 hss.i2) fun c hc=>Evp.ite (fun h5=> ?_) (fun h5=>Evp.pure _ (dX hi fun h7=>h5 (hc.2 h7)))
        rw[eF hi (by omega)]
        exact ih.mono fun r hr=>fK (Q:=fun j=>kH cs a4 (l6.getD j z57)) (hc.1 h5) hr
    have k0 : ∀i,i≤l5.length→Evp (fun k=>bD.l0 k l5 (l5.length:Int) (i:Int) cs ms a0 a1 l2 a3 a4 l5 l6 l7) (fun r=>r=true↔(∀j,i≤j→j<l5.length→iW cs ms a4 l5.length (l5.getD j iU))∧((∀j,0≤j→j<l6.length→kH cs a4 (l6.getD j z57))∧True)):=by
      refine Evp.for_ ?_ (fun i hi ih=> ?_)
      · refine Evp.step (f:=fun k=>_) (fun k=>by rw[bD.l0]) (Evp.no (by omega) ?_)
        exact(k1 0 (Nat.zero_le _)).mono fun r hr=>fJ hr
      · refine Evp.step (f:=fun k=>_) (fun k=>by rw[bD.l0,rdX]) (Evp.yes (by omega) (Evp.yes (by omega) (Evp.yes (by omega) ?_)))
        unfold jP.f
        simp only[Option.bind_some]
        cases hw:fo (l5.getD i iU).f0 gz with
        | none=>
          refine Evp.no (by decide) (Evp.pure _ (dX hi fun h7=> ?_))
          obtain⟨p,q,h8,_⟩:=h7
          rw[hw]at h8;cases h8
        | some pq=>
          obtain⟨p,q⟩:=pq
          have h8:=vK hw
          dsimp only
          refine Evp.yes rfl (Evp.bind (lm hok ms l5 l6 l7 (fun h=>absurd h h8.1)) fun c hc=>Evp.ite (fun h9=> ?_) (fun h9=>Evp.pure _ (dX hi fun h7=> ?_)))
          · refine Evp.bind (lm hok ms l5 l6 l7 (fun h=> ?_)) fun d hd=>Evp.ite (fun h10=> ?_) (fun h10=>Evp.pure _ (dX hi fun h7=> ?_))
            · have:=hc.1 h9
              rw[h8.2 h]at this
              unfold gN at this
              simpa using this
            · rw[eF hi (by omega)]
              exact ih.mono fun r hr=>fK (Q:=fun j=>iW cs ms a4 l5.length (l5.getD j iU)) ⟨p,q,hw,hc.1 h9,hd.1 h10⟩ hr
            · obtain⟨p',q',h11,_,h12⟩:=h7
              rw[hw]at h11
              cases h11
              exact h10 (hd.2 h12)
          · obtain⟨p',q',h11,h12,_⟩:=h7
            rw[hw]at h11
            cases h11
            exact h9 (hc.2 h12)
    refine(k0 0 (Nat.zero_le _)).mono fun r hr=>hr.trans ?_
    exact⟨fun h=>⟨⟨by omega,by omega,he⟩,h.1,h.2.1⟩,fun h=>⟨h.2.1,h.2.2,trivial⟩⟩
  · rw[show((l6.length:Int) !=(l5.length:Int))=true by simp;omega]
    exact jt (by omega)
section
variable {cs:List Cls} {ms:List Mth} {a4:Int} {nc:Nat} {xa n:Int}
theorem op0:gN cs ms a4 nc xa 0 n↔n=0:=by simp[gN]
theorem op1:gN cs ms a4 nc xa 1 n↔ -128≤n∧n≤127:=by simp[gN]
theorem op2:gN cs ms a4 nc xa 2 n↔0≤n∧n<a4:=by simp[gN]
theorem op3:gN cs ms a4 nc xa 3 n↔1≤n∧n≤4:=by simp[gN]
theorem op4:gN cs ms a4 nc xa 4 n↔0≤n∧n<(nc:Int):=by simp[gN]
theorem op5:gN cs ms a4 nc xa 5 n↔0≤n∧n<(cs.length:Int):=by simp[gN]
theorem op6:gN cs ms a4 nc xa 6 n↔n=0∨n=1:=by simp[gN]
theorem op7:gN cs ms a4 nc xa 7 n↔0≤n∧n<(ms.length:Int)∧(ms.getD n.toNat jM).f0= -1:=by simp[gN]
theorem op8:gN cs ms a4 nc xa 8 n↔0≤n∧∃l,Flds cs xa.toNat l∧n<(l.length:Int):=by simp[gN]
theorem op9:gN cs ms a4 nc xa 9 n↔0≤n∧n<3:=by simp[gN]
end
theorem pF {A:Prop} [Decidable A] {n:Int}:Evp (fun _=>if decide A=true then some (n==0)else some false) (fun r=>r=true↔A∧n=0):=by
  refine Evp.ite (fun h=>Evp.pure _ ?_) (fun h=>Evp.pure _ (dQ fun h2=>h (decide_eq_true h2.1)))
  rw[beq_iff_eq]
  exact⟨fun h2=>⟨of_decide_eq_true h,h2⟩,fun h2=>h2.2⟩
theorem su {n:Int} (h:n<1∨24<n):fo n gz=none:=by
  unfold gz
  repeat(unfold fo;rw[if_neg (by dsimp only;omega)])
  rfl
theorem fQ {cs:List Cls} {ms:List Mth} {a4:Int} {nc:Nat} {x:Ins} {n p q:Int} {r:Bool} (hn:x.f0=n) (hw:fo n gz=some (p,q)) (h:r=true↔gN cs ms a4 nc x.f1 p x.f1∧gN cs ms a4 nc x.f1 q x.f2):r=true↔iW cs ms a4 nc x:=by
  rw[h]
  constructor
  ·intro h2;exact⟨p,q,by rw[hn];exact hw,h2⟩
  · rintro⟨p',q',hw',h2⟩
    rw[hn,hw]at hw'
    cases hw'
    exact h2
theorem sU {cs:List Cls} (hs:gq cs) (hok:ClsOk cs) (ms:List Mth) (hm:ms.length≤1048576) {a0 a1:Int} {l2:List Int} {a3 a4:Int} (b:0≤a4) (c:a4≤3) (l5:List Ins) (d:l5.length≤1048576) (l6:List jF) (l7:List Cth) (x:Ins):
    Evp (fun k=>aN.f k cs ms a0 a1 l2 a3 a4 l5 l6 l7 x.f0 x.f1 x.f2) (fun r=>r=true↔iW cs ms a4 l5.length x):=by
  have hlo:=hok.lo
  have hhi:=hok.hi
  unfold aN.f
  rw[gV,w64 (n:=(cs.length:Int) - 1) (by omega) (by omega)]
  simp only[Option.bind_some]
  have h7:decide (0≤x.f1∧x.f1≤(cs.length:Int) - 1)=true↔0≤x.f1∧x.f1<(cs.length:Int):=by rw[decide_eq_true_iff];omega
  generalize decide (0≤x.f1∧x.f1≤(cs.length:Int) - 1)=x7 at h7
  have J0: ∀n:Int,x.f0=n→fo n gz=some (0,0)→Evp (fun k=>aN.j0 k x7 x.f0 (x.f0==n) cs ms a0 a1 l2 a3 a4 l5 l6 l7 x.f0 x.f1 x.f2) (fun r=>r=true↔iW cs ms a4 l5.length x):=by
    intro n hn hw
    rw[show(x.f0==n)=true by simpa using hn]
    refine Evp.step (f:=fun k=>_) (fun k=>by rw[aN.j0]) (Evp.yes rfl (Evp.ite (fun h=>Evp.pure _ (fQ hn hw ?_)) (fun h=>Evp.pure _ (fQ hn hw ?_))))
    ·rw[op0,op0,beq_iff_eq];exact⟨fun h2=>⟨h,h2⟩,fun h2=>h2.2⟩
    ·rw[op0,op0];exact dQ fun h2=>h h2.1
  have J1: ∀n:Int,x.f0=n→fo n gz=some (2,0)→Evp (fun k=>aN.j1 k x7 x.f0 (x.f0==n) cs ms a0 a1 l2 a3 a4 l5 l6 l7 x.f0 x.f1 x.f2) (fun r=>r=true↔iW cs ms a4 l5.length x):=by
    intro n hn hw
    rw[show(x.f0==n)=true by simpa using hn]
    refine Evp.step (f:=fun k=>_) (fun k=>by rw[aN.j1]) (Evp.yes rfl ?_)
    rw[gV,w64 (n:=a4 - 1) (by omega) (by omega)]
    simp only[Option.bind_some]
    refine pF.mono fun r hr=>fQ hn hw (hr.trans ?_)
    rw[op2,op0];omega
  have J2: ∀n:Int,x.f0=n→fo n gz=some (4,0)→Evp (fun k=>aN.j2 k x7 x.f0 (x.f0==n) cs ms a0 a1 l2 a3 a4 l5 l6 l7 x.f0 x.f1 x.f2) (fun r=>r=true↔iW cs ms a4 l5.length x):=by
    intro n hn hw
    rw[show(x.f0==n)=true by simpa using hn]
    refine Evp.step (f:=fun k=>_) (fun k=>by rw[aN.j2]) (Evp.yes rfl ?_)
    rw[gV,w64 (n:=(l5.length:Int) - 1) (by omega) (by omega)]
    simp only[Option.bind_some]
    refine pF.mono fun r hr=>fQ hn hw (hr.trans ?_)
    rw[op4,op0];omega
  have J3: ∀n:Int,x.f0=n→fo n gz=some (5,0)→Evp (fun k=>aN.j3 k x7 x.f0 (x.f0==n) cs ms x.f0 x.f1 x.f2) (fun r=>r=true↔iW cs ms a4 l5.length x):=by
    intro n hn hw
    rw[show(x.f0==n)=true by simpa using hn]
    refine Evp.step (f:=fun k=>_) (fun k=>by rw[aN.j3]) (Evp.yes rfl (Evp.ite (fun h=>Evp.pure _ (fQ hn hw ?_)) (fun h=>Evp.pure _ (fQ hn hw ?_))))
    ·rw[op5,op0,beq_iff_eq];exact⟨fun h2=>⟨h7.1 h,h2⟩,fun h2=>h2.2⟩
    ·rw[op5,op0];exact dQ fun h2=>h (h7.2 h2.1)
  have J4: ∀n:Int,x.f0=n→fo n gz=some (6,0)→Evp (fun k=>aN.j4 k x7 x.f0 (x.f0==n) cs ms x.f0 x.f1 x.f2) (fun r=>r=true↔iW cs ms a4 l5.length x):=by
    intro n hn hw
    rw[show(x.f0==n)=true by simpa using hn]
    refine Evp.step (f:=fun k=>_) (fun k=>by rw[aN.j4]) (Evp.yes rfl ?_)
    rw[gV]
    simp only[Option.bind_some]
    refine pF.mono fun r hr=>fQ hn hw (hr.trans ?_)
    rw[op6,op0];omega
  have J5: ∀n:Int,x.f0=n→fo n gz=some (5,8)→Evp (fun k=>aN.j5 k x7 x.f0 (x.f0==n) cs ms x.f0 x.f1 x.f2) (fun r=>r=true↔iW cs ms a4 l5.length x):=by
    intro n hn hw
    rw[show(x.f0==n)=true by simpa using hn]
    refine Evp.step (f:=fun k=>_) (fun k=>by rw[aN.j5]) (Evp.yes rfl (Evp.ite (fun h=> ?_) (fun h=>Evp.pure _ (fQ hn hw ?_))))
    · obtain⟨hx0,hx1⟩:=h7.1 h
      have:=nI hok x.f1.toNat (by omega)
      rw[show((x.f1.toNat:Nat):Int)=x.f1 by omega]at this
      refine Evp.bind this fun l hl=> ?_
      have a:=hl.2
      rw[gV,w64 (n:=(l.length:Int) - 1) (by omega) (by omega)]
      simp only[Option.bind_some]
      refine Evp.pure _ (fQ hn hw ?_)
      rw[op5,op8,decide_eq_true_iff]
      constructor
      ·intro h2;exact⟨⟨hx0,hx1⟩,h2.1,l,hl.1,by omega⟩
      · rintro⟨_,h2,l',hl',h3⟩
        rw[←hl.1.fn hl']at h3
        exact⟨h2,by omega⟩
    ·rw[op5];exact dQ fun h2=>h (h7.2 h2.1)
  by_cases e1:x.f0=1
  · simp only[if_pos e1]
    unfold eZ.f
    rw[gV]
    simp only[Option.bind_some]
    refine pF.mono fun r hr=>fQ e1 rfl (hr.trans ?_)
    rw[op1,op0]
  simp only[if_neg e1]
  by_cases e2:x.f0=2
  ·simp only[if_pos e2];exact J0 2 e2 rfl
  simp only[if_neg e2]
  by_cases e5:x.f0=5
  ·simp only[if_pos e5];exact J0 5 e5 rfl
  simp only[if_neg e5]
  by_cases e6:x.f0=6
  ·simp only[if_pos e6];exact J0 6 e6 rfl
  simp only[if_neg e6]
  by_cases e14:x.f0=14
  ·simp only[if_pos e14];exact J0 14 e14 rfl
  simp only[if_neg e14]
  by_cases e22:x.f0=22
  ·simp only[if_pos e22];exact J0 22 e22 rfl
  simp only[if_neg e22]
  by_cases e23:x.f0=23
  ·simp only[if_pos e23];exact J0 23 e23 rfl
  simp only[if_neg e23]
  by_cases e24:x.f0=24
  ·exact J0 24 e24 rfl
  rw[show(x.f0==24)=false by simpa using e24]
  refine Evp.step (f:=fun k=>_) (fun k=>by rw[aN.j0]) (Evp.no (by decide) ?_)
  by_cases e3:x.f0=3
  ·simp only[if_pos e3];exact J1 3 e3 rfl
  simp only[if_neg e3]
  by_cases e4:x.f0=4
  ·exact J1 4 e4 rfl
  rw[show(x.f0==4)=false by simpa using e4]
  refine Evp.step (f:=fun k=>_) (fun k=>by rw[aN.j1]) (Evp.no (by decide) ?_)
  by_cases e7:x.f0=7
  · simp only[if_pos e7]
    rw[gV]
    simp only[Option.bind_some]
    refine pF.mono fun r hr=>fQ e7 rfl (hr.trans ?_)
    rw[op3,op0]
  simp only[if_neg e7]
  by_cases e8:x.f0=8
  ·simp only[if_pos e8];exact J2 8 e8 rfl
  simp only[if_neg e8]
  by_cases e9:x.f0=9
  ·simp only[if_pos e9];exact J2 9 e9 rfl
  simp only[if_neg e9]
  by_cases e10:x.f0=10
  ·simp only[if_pos e10];exact J2 10 e10 rfl
  simp only[if_neg e10]
  by_cases e11:x.f0=11
  ·exact J2 11 e11 rfl
  rw[show(x.f0==11)=false by simpa using e11]
  refine Evp.step (f:=fun k=>_) (fun k=>by rw[aN.j2]) (Evp.no (by decide) ?_)
  by_cases e12:x.f0=12
  ·simp only[if_pos e12];exact J3 12 e12 rfl
  simp only[if_neg e12]
  by_cases e19:x.f0=19
  ·exact J3 19 e19 rfl
  rw[show(x.f0==19)=false by simpa using e19]
  refine Evp.step (f:=fun k=>_) (fun k=>by rw[aN.j3]) (Evp.no (by decide) ?_)
  by_cases e13:x.f0=13
  ·simp only[if_pos e13];exact J4 13 e13 rfl
  simp only[if_neg e13]
  by_cases e15:x.f0=15
  ·simp only[if_pos e15];exact J4 15 e15 rfl
  simp only[if_neg e15]
  by_cases e16:x.f0=16
  ·exact J4 16 e16 rfl
  rw[show(x.f0==16)=false by simpa using e16]
  refine Evp.step (f:=fun k=>_) (fun k=>by rw[aN.j4]) (Evp.no (by decide) ?_)
  by_cases e17:x.f0=17
  ·simp only[if_pos e17];exact J5 17 e17 rfl
  simp only[if_neg e17]
  by_cases e18:x.f0=18
  ·exact J5 18 e18 rfl
  rw[show(x.f0==18)=false by simpa using e18]
  refine Evp.step (f:=fun k=>_) (fun k=>by rw[aN.j5]) (Evp.no (by decide) ?_)
  by_cases e20:x.f0=20
  · simp only[if_pos e20]
    rw[gV,w64 (n:=(ms.length:Int) - 1) (by omega) (by omega)]
    simp only[Option.bind_some]
    refine Evp.ite (fun h=> ?_) (fun h=>Evp.pure _ (fQ e20 rfl ?_))
    · have h' :=of_decide_eq_true h
      refine Evp.ite (fun h2=>Evp.yes h'.1 (Evp.yes (by omega) (Evp.pure _ (fQ e20 rfl ?_)))) (fun h2=>Evp.pure _ (fQ e20 rfl ?_))
      · rw[op7,op0,beq_iff_eq]
        exact⟨fun h3=>⟨⟨h'.1,by omega,h3⟩,h2⟩,fun h3=>h3.1.2.2⟩
      ·rw[op0];exact dQ fun h3=>h2 h3.2
    ·rw[op7];exact dQ fun h3=>h (decide_eq_true (by omega))
  simp only[if_neg e20]
  by_cases e21:x.f0=21
  · simp only[if_pos e21]
    refine Evp.ite (fun h=> ?_) (fun h=>Evp.pure _ (fQ e21 rfl ?_))
    · rw[gV]
      simp only[Option.bind_some]
      refine Evp.pure _ (fQ e21 rfl ?_)
      rw[op5,op9,decide_eq_true_iff]
      have:=h7.1 h
      omega
    ·rw[op5];exact dQ fun h2=>h (h7.2 h2.1)
  simp only[if_neg e21]
  refine Evp.pure _ (dQ ?_)
  rintro⟨p,q,hw,_⟩
  rw[su (by omega)]at hw
  cases hw
end Go.Proofs.YteinbmkgenhocaaGreat.Kit
end
