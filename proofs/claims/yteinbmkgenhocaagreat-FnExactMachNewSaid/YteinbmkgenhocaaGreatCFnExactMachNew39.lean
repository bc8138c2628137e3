/- FnExactMachNew: for all units (of at most 2^20 values together) the program's MachNew answers as the reference does, leaves its argument, keeps nothing of it, and its answer owns its memory. -/
import Derived.Test.YteinbmkgenhocaaGreatRows
import Derived.ProofKit
import Derived.OpenShut
import Derived.ShutString
import Derived.ChangeOld
import Derived.SizedLaws
import Derived.Test.YteinbmkgenhocaaGreatCFnExactMachNew38
section
namespace Go.Proofs.YteinbmkgenhocaaGreat.Kit
open Go Go.RowKit Go.Proofs.YteinbmkgenhocaaGreatW.PrintWords Go.Proofs.YteinbmkgenhocaaGreat.P
set_option linter.unusedVariables false
abbrev qA:=S116
def cvC (c:qA):Cls:=⟨c.f0,c.f1⟩
theorem rdL {xs:List qA} {i:Nat} (h:i<xs.length):eY xs (i:Int)=xs[i]:=getD_at h _
theorem o7 {n:Int} (h:(Lit.int .i64 n).wf=true): -9223372036854775808≤n∧n≤9223372036854775807:=by
  simp[Lit.wf,IntKind.min,IntKind.max,IntKind.bits,IntKind.signed]at h
  omega
theorem lZ {l:List Int} {a:Int} (h0:0≤a) (h1:a≤1048576) (hl:l.length≤9223372036854775807): ∃t,dn.f l a=some t∧(0≤t→(l.length:Int)+t=a):=by
  unfold dn.f
  rw[w64 (by omega) (by omega)]
  by_cases h:a - (l.length:Int)<0
  ·rw[if_pos h];exact⟨_,rfl,by omega⟩
  ·rw[if_neg h];exact⟨_,rfl,by omega⟩
theorem vD {l:List qA} (hl:l.length≤9223372036854775807) (hw: ∀y∈l,o6 y):
    Evp (fun k=>dw.f k l 1048576) (fun t=>0≤t→t≤1048576∧fU (l.map cvC)):=by
  unfold dw.f
  rw[w64 (by omega) (by omega)]
  refine Evp.ite (fun _=>Evp.pure _ (by omega)) (fun h=> ?_)
  have key: ∀i,i≤l.length→∀s:Int,(0≤s∧s≤1048576)→Evp (fun k=>dw.l0 k l s (i:Int)) (fun t=>0≤t→t≤s∧∀o∈l.drop i,o.f1.length≤1048576):=by
    refine Evp.fors (g:=fun i s k=>dw.l0 k l s (i:Int)) (I:=fun _ s=>0≤s∧s≤1048576) (R:=fun i s t=>0≤t→t≤s∧∀o∈l.drop i,o.f1.length≤1048576) (fun s hs=> ?_) (fun i hil ih s hs=> ?_)
    ·refine Evp.step (f:=fun k=>_) (fun k=>by rw[dw.l0]) (Evp.no (by omega) (Evp.pure _ (fun _=>⟨by omega,by simp⟩)))
    · have a:=(hw _ (List.getElem_mem hil)).2.1
      obtain⟨t,ht,ht2⟩:=lZ (l:=l[i].f1) hs.1 hs.2 a
      refine Evp.step (f:=fun k=>_) (fun k=>by rw[dw.l0,rdL hil,iq.f,ht,Option.bind_some]) (Evp.yes (by omega) (Evp.yes (by omega) ?_))
      by_cases h3:t<0
      · simp only[if_pos h3,Option.bind_some]
        exact Evp.pure _ (by omega)
      · simp only[if_neg h3,Option.bind_some]
        rw[eU hil (by omega)]
        refine(ih t (by omega)).mono fun r hr h0=> ?_
        obtain⟨h4,h5⟩:=hr h0
        refine⟨by omega, ?_⟩
        rw[drop_at hil]
        intro o ho
        rcases List.mem_cons.1 ho with rfl|ho
        ·omega
        ·exact h5 o ho
  refine(key 0 (Nat.zero_le _) _ (by omega)).mono fun t ht h0=> ?_
  obtain⟨h2,h3⟩:=ht h0
  refine⟨by omega,by rw[List.length_map];omega,fun i hi=> ?_⟩
  rw[List.length_map]at hi
  have e:dZ (l.map cvC) i=l[i].f1:=by unfold dZ;rw[getD_at (by simpa using hi)];simp[cvC]
  rw[e]
  exact⟨h3 _ (by simp),fun t ht=>o7 ((hw _ (List.getElem_mem hi)).2.2 t ht)⟩
theorem mK {α β:Type} (l:List α) (f:α→β) (z:β) {i:Nat} (hi:i<l.length):((l.take i).map f++List.replicate (l.length - i) z).set i (f l[i])=(l.take (i+1)).map f++List.replicate (l.length - (i+1)) z:=by
  rw[List.take_succ_eq_append_getElem hi,List.map_append,List.append_assoc]
  rw[List.set_append_right _ _ (by simp;omega)]
  congr 1
  rw[show l.length - i=(l.length - (i+1))+1 by omega,List.replicate_succ]
  simp[Nat.min_eq_left (Nat.le_of_lt hi)]
theorem l8 {l:List Int} (hl:l.length≤1048576):Evp (fun k=>bS.f k l) (fun r=>r=l):=by
  unfold bS.f
  refine Evp.yes (by omega) (Evp.yes (by omega) ?_)
  have key: ∀i,i≤l.length→∀s:List Int,s=(l.take i).map id++List.replicate (l.length - i) 0→Evp (fun k=>bS.l0 k l s (i:Int)) (fun r=>r=l):=by
    refine Evp.fors (g:=fun i s k=>bS.l0 k l s (i:Int)) (I:=fun i s=>s=(l.take i).map id++List.replicate (l.length - i) 0) (R:=fun _ _ r=>r=l) (fun s hs=> ?_) (fun i hi ih s hs=> ?_)
    · subst hs
      refine Evp.step (f:=fun k=>_) (fun k=>by rw[bS.l0]) (Evp.no (by omega) (Evp.pure _ (by simp)))
    · have hsl:s.length=l.length:=by rw[hs];simp;omega
      refine Evp.step (f:=fun k=>_) (fun k=>by rw[bS.l0,qp hi]) (Evp.yes (by omega) (Evp.yes (by omega) (Evp.yes (by omega) ?_)))
      rw[eU hi (by omega)]
      refine ih _ ?_
      rw[hs]
      exact mK l id 0 hi
  exact key 0 (Nat.zero_le _) _ (by simp)
theorem vE {l:List qA} (hl:fU (l.map cvC)):Evp (fun k=>dm.f k l) (fun r=>r=l.map cvC):=by
  have hl1:=hl.1
  rw[List.length_map]at hl1
  unfold dm.f
  refine Evp.yes (by omega) (Evp.yes (by omega) ?_)
  have key: ∀i,i≤l.length→∀s:List Cls,s=(l.take i).map cvC++List.replicate (l.length - i) iI→Evp (fun k=>dm.l0 k l s (i:Int)) (fun r=>r=l.map cvC):=by
    refine Evp.fors (g:=fun i s k=>dm.l0 k l s (i:Int)) (I:=fun i s=>s=(l.take i).map cvC++List.replicate (l.length - i) iI) (R:=fun _ _ r=>r=l.map cvC) (fun s hs=> ?_) (fun i hi ih s hs=> ?_)
    · subst hs
      refine Evp.step (f:=fun k=>_) (fun k=>by rw[dm.l0]) (Evp.no (by omega) (Evp.pure _ (by simp)))
    · have hsl:s.length=l.length:=by rw[hs];simp;omega
      refine Evp.step (f:=fun k=>_) (fun k=>by rw[dm.l0,rdL hi]) (Evp.yes (by omega) (Evp.yes (by omega) ?_))
      refine Evp.bind (P:=fun r=>r=(l[i].f0,l[i].f1)) ?_ (fun a ha=> ?_)
      · unfold iT.f
        have e:dZ (l.map cvC) i=l[i].f1:=by unfold dZ;rw[getD_at (by simpa using hi)];simp[cvC]
        have:=(hl.2 i (by simpa using hi)).1
        rw[e]at this
        exact Evp.bind (l8 this) (fun a ha=>Evp.pure _ (by rw[ha]))
      · subst ha
        refine Evp.yes (by omega) ?_
        rw[eU hi (by omega)]
        refine ih _ ?_
        rw[hs]
        exact mK l cvC iI hi
  exact key 0 (Nat.zero_le _) _ (by simp)
theorem kN {l:List Int} (hl:l.length≤1048576):Evp (fun k=>bq.f k l l) (fun r=>r=true):=by
  unfold bq.f
  refine Evp.yes rfl ?_
  refine Evp.for_ (n:=l.length) (g:=fun i k=>bq.l0 k l l (i:Int)) (R:=fun _ r=>r=true) ?_ (fun i hi ih=> ?_) 0 (Nat.zero_le _)
  ·refine Evp.step (f:=fun k=>_) (fun k=>by rw[bq.l0]) (Evp.no (by omega) (Evp.pure _ rfl))
  · refine Evp.step (f:=fun k=>_) (fun k=>by rw[bq.l0]) (Evp.yes (by omega) (Evp.yes (by omega) (Evp.yes (by omega) (Evp.yes rfl ?_))))
    rw[eU hi (by omega)]
    exact ih
theorem vF {l:List Cls} (hl:fU l):Evp (fun k=>bL.f k l l) (fun r=>r=true):=by
  have hl1:=hl.1
  unfold bL.f
  refine Evp.yes rfl ?_
  refine Evp.for_ (n:=l.length) (g:=fun i k=>bL.l0 k l l (i:Int)) (R:=fun _ r=>r=true) ?_ (fun i h ih=> ?_) 0 (Nat.zero_le _)
  ·refine Evp.step (f:=fun k=>_) (fun k=>by rw[bL.l0]) (Evp.no (by omega) (Evp.pure _ rfl))
  · refine Evp.step (f:=fun k=>_) (fun k=>by rw[bL.l0]) (Evp.yes (by omega) (Evp.yes (by omega) (Evp.yes (by omega) ?_)))
    refine Evp.bind (P:=fun r=>r=true) ?_ (fun a ha=> ?_)
    · unfold iA.f
      rw[jZ]
      exact Evp.yes rfl (Evp.bind (kN (hl.2 i h).1) (fun a ha=>Evp.yes ha (Evp.pure _ rfl)))
    · refine Evp.yes ha ?_
      rw[eU h (by omega)]
      exact ih
theorem tK {x0:Bool} {l1 l2:List Int} {a:Int} (h0:0≤a) (h1:a≤1048576) (hl1:l1.length≤9223372036854775807) (hl2:l2.length≤9223372036854775807):
    ∃t,gT.f x0 l1 l2 a=some t∧(0≤t→t≤a∧l1.length≤1048576∧l2.length≤1048576):=by
  unfold gT.f
  obtain⟨t,ht,ht2⟩:=lZ (l:=l1) h0 h1 hl1
  rw[ht,Option.bind_some]
  by_cases h:t<0
  ·rw[if_pos h];exact⟨_,rfl,by omega⟩
  · rw[if_neg h]
    obtain⟨q,hq,hq2⟩:=lZ (l:=l2) (a:=t) (by omega) (by omega) hl2
    rw[hq,Option.bind_some]
    by_cases h' :q<0
    ·rw[if_pos h'];exact⟨_,rfl,by omega⟩
    ·rw[if_neg h'];exact⟨_,rfl,by omega⟩
theorem tL {x0:Bool} {l1 l2:List Int} (hl1:l1.length≤1048576) (hl2:l2.length≤1048576):Evp (fun k=>iw.f k x0 l1 l2) (fun r=>r=(x0,l1,l2)):=by
  unfold iw.f
  exact Evp.bind (l8 hl1) fun a ha=>Evp.bind (l8 hl2) fun b hb=>Evp.pure _ (by rw[ha,hb])
theorem tO {x0:Bool} {l1 l2:List Int} (hl1:l1.length≤1048576) (hl2:l2.length≤1048576):Evp (fun k=>gU.f k x0 l1 l2 x0 l1 l2) (fun r=>r=true):=by
  unfold gU.f
  exact Evp.no (by simp) (Evp.bind (kN hl1) fun a ha=>Evp.yes ha (Evp.bind (kN hl2) fun b hb=>Evp.yes hb (Evp.pure _ rfl)))
end Go.Proofs.YteinbmkgenhocaaGreat.Kit
end
section
namespace Go.Proofs.YteinbmkgenhocaaGreat.Kit
open Go Go.RowKit Go.Proofs.YteinbmkgenhocaaGreatW.PrintWords Go.Proofs.YteinbmkgenhocaaGreat.P
set_option linter.unusedVariables false
set_option linter.unusedSimpArgs false
abbrev lN:=S122
abbrev tQ:=S217
abbrev o8:=S55
abbrev tT:=S219
def cvX (x:tQ):Ins:=⟨x.f0,x.f1,x.f2⟩
def cvS (x:o8):jC:=⟨x.f0,x.f1,x.f2⟩
def cvK (x:tT):Cth:=⟨x.f0,x.f1,x.f2,x.f3⟩
def cvM (x:lN):Mth:=⟨x.f0,x.f1,x.f2,x.f3,x.f4,x.f5.map cvX,x.f6.map cvS,x.f7.map cvK⟩
theorem vZ {xs:List tQ} {i:Nat} (h:i<xs.length):gQ xs (i:Int)=xs[i]:=getD_at h _
theorem vG {xs:List o8} {i:Nat} (h:i<xs.length):dS xs (i:Int)=xs[i]:=getD_at h _
theorem wh {xs:List tT} {i:Nat} (h:i<xs.length):fI xs (i:Int)=xs[i]:=getD_at h _
theorem vH {xs:List lN} {i:Nat} (h:i<xs.length):aV xs (i:Int)=xs[i]:=getD_at h _
theorem ll {α β:Type} (l:List α) (f:α→β) (z:β) {g:Nat→List β→Nat→Option (List β)} (hend: ∀s:List β,s.length=l.length→Evp (g l.length s) (fun r=>r=s))
    (hstep: ∀(i:Nat) (hi:i<l.length) (s:List β),s.length=l.length→Evp (g (i+1) (s.set i (f l[i]))) (fun r=>r=l.map f)→Evp (g i s) (fun r=>r=l.map f)):Evp (g 0 (List.replicate l.length z)) (fun r=>r=l.map f):=by
  have key: ∀i,i≤l.length→∀s:List β,s=(l.take i).map f++List.replicate (l.length - i) z→Evp (g i s) (fun r=>r=l.map f):=by
    refine Evp.fors (g:=g) (I:=fun i s=>s=(l.take i).map f++List.replicate (l.length - i) z) (R:=fun _ _ r=>r=l.map f) (fun s hs=> ?_) (fun i hi ih s hs=> ?_)
    · have hs2:s=l.map f:=by rw[hs];simp
      exact(hend s (by rw[hs2];simp)).mono fun r hr=>by rw[hr,hs2]
    · have hsl:s.length=l.length:=by rw[hs];simp;omega
      refine hstep i hi s hsl (ih _ ?_)
      rw[hs]
      exact mK l f z hi
  exact key 0 (Nat.zero_le _) _ (by simp)
theorem vI {l:List tQ} (hl:l.length≤1048576):Evp (fun k=>dK.f k l) (fun r=>r=l.map cvX):=by
  unfold dK.f
  refine Evp.yes (by omega) (Evp.yes (by omega) ?_)
  rw[Int.toNat_natCast]
  refine ll l cvX ig (g:=fun i s k=>dK.l0 k l s (i:Int)) (fun s hs=> ?_) (fun i hi s hs ih=> ?_)
  ·exact Evp.step (f:=fun k=>_) (fun k=>by rw[dK.l0]) (Evp.no (by omega) (Evp.pure _ rfl))
  · refine Evp.step (f:=fun k=>_) (fun k=>by rw[dK.l0,vZ hi,jm.f,Option.bind_some]) (Evp.yes (by omega) (Evp.yes (by omega) (Evp.yes (by omega) ?_)))
    rw[eU hi (by omega)]
    exact ih
theorem qB {l:List tT} (hl:l.length≤1048576):Evp (fun k=>dz.f k l) (fun r=>r=l.map cvK):=by
  unfold dz.f
  refine Evp.yes (by omega) (Evp.yes (by omega) ?_)
  rw[Int.toNat_natCast]
  refine ll l cvK gm (g:=fun i s k=>dz.l0 k l s (i:Int)) (fun s hs=> ?_) (fun i hi s hs ih=> ?_)
  ·exact Evp.step (f:=fun k=>_) (fun k=>by rw[dz.l0]) (Evp.no (by omega) (Evp.pure _ rfl))
  · refine Evp.step (f:=fun k=>_) (fun k=>by rw[dz.l0,wh hi,iU.f,Option.bind_some]) (Evp.yes (by omega) (Evp.yes (by omega) (Evp.yes (by omega) ?_)))
    rw[eU hi (by omega)]
    exact ih
def SzS (s:o8):Prop:=s.f1.length≤1048576∧s.f2.length≤1048576
def SzM (m:lN):Prop:=m.f2.length≤1048576∧m.f5.length≤1048576∧m.f6.length≤1048576∧m.f7.length≤1048576∧∀s∈m.f6,SzS s
theorem rQ {l:List o8} (hl:l.length≤1048576) (hs: ∀s∈l,SzS s):Evp (fun k=>dx.f k l) (fun r=>r=l.map cvS):=by
  unfold dx.f
  refine Evp.yes (by omega) (Evp.yes (by omega) ?_)
  rw[Int.toNat_natCast]
  refine ll l cvS z57 (g:=fun i s k=>dx.l0 k l s (i:Int)) (fun s hs=> ?_) (fun i hi s hs' ih=> ?_)
  ·exact Evp.step (f:=fun k=>_) (fun k=>by rw[dx.l0]) (Evp.no (by omega) (Evp.pure _ rfl))
  · have hsz:=hs _ (List.getElem_mem hi)
    refine Evp.step (f:=fun k=>_) (fun k=>by rw[dx.l0,vG hi]) (Evp.yes (by omega) (Evp.yes (by omega) (Evp.bind (tL hsz.1 hsz.2) fun b hb=>Evp.yes (by omega) ?_)))
    subst hb
    rw[eU hi (by omega)]
    exact ih
theorem rR {m:lN} (h:SzM m):Evp (fun k=>gY.f k m.f0 m.f1 m.f2 m.f3 m.f4 m.f5 m.f6 m.f7) (fun r=>r=(m.f0,m.f1,m.f2,m.f3,m.f4,m.f5.map cvX,m.f6.map cvS,m.f7.map cvK)):=by
  unfold gY.f
  refine Evp.bind (l8 h.1) fun a ha=>Evp.bind (vI h.2.1) fun b hb=>Evp.bind (rQ h.2.2.1 h.2.2.2.2) fun c hc=>Evp.bind (qB h.2.2.2.1) fun d hd=>Evp.pure _ (by rw[ha,hb,hc,hd])
theorem qC {l:List lN} (hl:l.length≤1048576) (hm: ∀m∈l,SzM m):Evp (fun k=>cZ.f k l) (fun r=>r=l.map cvM):=by
  unfold cZ.f
  refine Evp.yes (by omega) (Evp.yes (by omega) ?_)
  rw[Int.toNat_natCast]
  refine ll l cvM iQ (g:=fun i s k=>cZ.l0 k l s (i:Int)) (fun s hs=> ?_) (fun i hi s hs' ih=> ?_)
  ·exact Evp.step (f:=fun k=>_) (fun k=>by rw[cZ.l0]) (Evp.no (by omega) (Evp.pure _ rfl))
  · refine Evp.step (f:=fun k=>_) (fun k=>by rw[cZ.l0,vH hi]) (Evp.yes (by omega) (Evp.yes (by omega) (Evp.bind (rR (hm _ (List.getElem_mem hi))) fun b hb=>Evp.yes (by omega) ?_)))
    subst hb
    rw[eU hi (by omega)]
    exact ih
theorem ko {n:Nat} {g:Nat→Nat→Option Bool} (hend:Evp (g n) (fun r=>r=true)) (hstep: ∀i,i<n→Evp (g (i+1)) (fun r=>r=true)→Evp (g i) (fun r=>r=true)):Evp (g 0) (fun r=>r=true):=
  Evp.for_ (g:=g) (R:=fun _ r=>r=true) hend hstep 0 (Nat.zero_le _)
theorem vJ {l:List Ins} (hl:l.length≤1048576):Evp (fun k=>bQ.f k l l) (fun r=>r=true):=by
  unfold bQ.f
  refine Evp.yes rfl (ko (n:=l.length) (g:=fun i k=>bQ.l0 k l l (i:Int)) ?_ (fun i hi ih=> ?_))
  ·exact Evp.step (f:=fun k=>_) (fun k=>by rw[bQ.l0]) (Evp.no (by omega) (Evp.pure _ rfl))
  · refine Evp.step (f:=fun k=>_) (fun k=>by rw[bQ.l0]) (Evp.yes (by omega) (Evp.yes (by omega) (Evp.yes (by omega) ?_)))
    refine Evp.bind (P:=fun r=>r=true) ?_ (fun a ha=>Evp.yes ha ?_)
    · unfold jd.f
      exact Evp.yes rfl (Evp.yes rfl (Evp.yes rfl (Evp.pure _ rfl)))
    · rw[eU hi (by omega)]
      exact ih
theorem qD {l:List Cth} (hl:l.length≤1048576):Evp (fun k=>bN.f k l l) (fun r=>r=true):=by
  unfold bN.f
  refine Evp.yes rfl (ko (n:=l.length) (g:=fun i k=>bN.l0 k l l (i:Int)) ?_ (fun i hi ih=> ?_))
  ·exact Evp.step (f:=fun k=>_) (fun k=>by rw[bN.l0]) (Evp.no (by omega) (Evp.pure _ rfl))
  · refine Evp.step (f:=fun k=>_) (fun k=>by rw[bN.l0]) (Evp.yes (by omega) (Evp.yes (by omega) (Evp.yes (by omega) ?_)))
    refine Evp.bind (P:=fun r=>r=true) ?_ (fun a ha=>Evp.yes ha ?_)
    · unfold iB.f
      exact Evp.yes rfl (Evp.yes rfl (Evp.yes rfl (Evp.yes rfl (Evp.pure _ rfl))))
    · rw[eU hi (by omega)]
      exact ih
theorem rT {l:List jC} (hl:l.length≤1048576) (hs: ∀j,j<l.length→SmallS (l.getD j z57)):Evp (fun k=>bM.f k l l) (fun r=>r=true):=by
  unfold bM.f
  refine Evp.yes rfl (ko (n:=l.length) (g:=fun i k=>bM.l0 k l l (i:Int)) ?_ (fun i hi ih=> ?_))
  ·exact Evp.step (f:=fun k=>_) (fun k=>by rw[bM.l0]) (Evp.no (by omega) (Evp.pure _ rfl))
  · have h:=hs i hi
    refine Evp.step (f:=fun k=>_) (fun k=>by rw[bM.l0,rdS]) (Evp.yes (by omega) (Evp.yes (by omega) (Evp.yes (by omega) (Evp.bind (tO h.l1 h.l2) fun b hb=>Evp.yes hb ?_))))
    rw[eU hi (by omega)]
    exact ih
theorem rU {m:Mth} (h:SmallM m):Evp (fun k=>gN.f k m.f0 m.f1 m.f2 m.f3 m.f4 m.f5 m.f6 m.f7 m.f0 m.f1 m.f2 m.f3 m.f4 m.f5 m.f6 m.f7) (fun r=>r=true):=by
  unfold gN.f
  refine Evp.yes rfl (Evp.yes rfl (Evp.bind (kN h.l2) fun a ha=>Evp.yes ha (Evp.yes rfl (Evp.yes rfl (Evp.bind (vJ h.l5) fun b hb=>Evp.yes hb (Evp.bind (rT h.l6 h.s6) fun c hc=>Evp.yes hc (Evp.bind (qD h.l7) fun d hd=>Evp.yes hd (Evp.pure _ rfl))))))))
theorem qE {l:List Mth} (hl:l.length≤1048576) (hs: ∀j,j<l.length→SmallM (mth l j)):Evp (fun k=>bI.f k l l) (fun r=>r=true):=by
  unfold bI.f
  refine Evp.yes rfl (ko (n:=l.length) (g:=fun i k=>bI.l0 k l l (i:Int)) ?_ (fun i hi ih=> ?_))
  ·exact Evp.step (f:=fun k=>_) (fun k=>by rw[bI.l0]) (Evp.no (by omega) (Evp.pure _ rfl))
  · refine Evp.step (f:=fun k=>_) (fun k=>by rw[bI.l0,mJ]) (Evp.yes (by omega) (Evp.yes (by omega) (Evp.yes (by omega) (Evp.bind (rU (hs i hi)) fun b hb=>Evp.yes hb ?_))))
    rw[eU hi (by omega)]
    exact ih
theorem uH {cs:List Cls} {ms:List Mth} (h:SmallU cs ms):Evp (fun k=>ib.f k cs ms cs ms) (fun r=>r=true):=by
  unfold ib.f
  exact Evp.bind (vF h.c) fun a ha=>Evp.yes ha (Evp.bind (qE h.m h.e) fun b hb=>Evp.yes hb (Evp.pure _ rfl))
theorem pV {α:Type} {l:List α} {Q:α→Prop} {g:Nat→Int→Nat→Option Int} (hend: ∀s,0≤s→Evp (g l.length s) (fun t=>t=s))
    (hstep: ∀(i:Nat) (hi:i<l.length) (s:Int),0≤s→s≤1048576→(∀t,0≤t→t≤s→Q l[i]→Evp (g (i+1) t) (fun r=>0≤r→r≤t∧∀o∈l.drop (i+1),Q o))→Evp (g i s) (fun r=>0≤r→r≤s∧∀o∈l.drop i,Q o)):
    ∀s,0≤s→s≤1048576→Evp (g 0 s) (fun r=>0≤r→r≤s∧∀o∈l,Q o):=by
  have key: ∀i,i≤l.length→∀s:Int,(0≤s∧s≤1048576)→Evp (g i s) (fun r=>0≤r→r≤s∧∀o∈l.drop i,Q o):=by
    refine Evp.fors (g:=g) (I:=fun _ s=>0≤s∧s≤1048576) (R:=fun i s r=>0≤r→r≤s∧∀o∈l.drop i,Q o) (fun s hs=> ?_) (fun i hi ih s hs=> ?_)
    ·exact(hend s hs.1).mono fun r hr h0=>⟨by omega,by simp⟩
    ·exact hstep i hi s hs.1 hs.2 fun t h0 h1 _=>ih t ⟨h0,by omega⟩
  intro s h0 h1
  exact key 0 (Nat.zero_le _) s ⟨h0,h1⟩
theorem nP {α:Type} {l:List α} {Q:α→Prop} {i:Nat} (hi:i<l.length) (h:Q l[i]) (h2: ∀o∈l.drop (i+1),Q o): ∀o∈l.drop i,Q o:=by
  rw[drop_at hi]
  intro o ho
  rcases List.mem_cons.1 ho with rfl|ho
  ·exact h
  ·exact h2 o ho
theorem rV {l:List o8} {a:Int} (h0:0≤a) (h1:a≤1048576) (hl:l.length≤9223372036854775807) (hw: ∀y∈l,qz y):
    Evp (fun k=>dC.f k l a) (fun t=>0≤t→t≤a∧l.length≤1048576∧∀s∈l,SzS s):=by
  unfold dC.f
  rw[w64 (by omega) (by omega)]
  refine Evp.ite (fun _=>Evp.pure _ (by omega)) (fun h=> ?_)
  refine(pV (l:=l) (Q:=SzS) (g:=fun i s k=>dC.l0 k l s (i:Int)) (fun s hs=> ?_) (fun i hi s hs0 hs1 ih=> ?_) _ (by omega) (by omega)).mono fun t ht h2=>⟨by have:=(ht h2).1;omega,by omega,(ht h2).2⟩
  ·exact Evp.step (f:=fun k=>_) (fun k=>by rw[dC.l0]) (Evp.no (by omega) (Evp.pure _ rfl))
  · have hwi:=hw _ (List.getElem_mem hi)
    obtain⟨t,ht,ht2⟩:=tK (x0:=l[i].f0) hs0 hs1 hwi.2.1.1 hwi.2.2.1
    refine Evp.step (f:=fun k=>_) (fun k=>by rw[dC.l0,vG hi,ht,Option.bind_some]) (Evp.yes (by omega) (Evp.yes (by omega) (Evp.ite (fun _=>Evp.pure _ (by omega)) (fun h3=> ?_))))
    obtain⟨h4,h5,h6⟩:=ht2 (by omega)
    rw[eU hi (by omega)]
    exact(ih t (by omega) h4 ⟨h5,h6⟩).mono fun r hr hr0=>⟨by have:=(hr hr0).1;omega,nP hi ⟨h5,h6⟩ (hr hr0).2⟩
theorem rW {m:lN} {a:Int} (h0:0≤a) (h1:a≤1048576) (hw:lM m):Evp (fun k=>gL.f k m.f0 m.f1 m.f2 m.f3 m.f4 m.f5 m.f6 m.f7 a) (fun t=>0≤t→t≤a∧SzM m):=by
  obtain⟨_,_,⟨w2,_⟩,_,_,⟨w5,_⟩,⟨w6,w6'⟩,⟨w7,_⟩⟩:=hw
  unfold gL.f
  obtain⟨t,ht,ht2⟩:=lZ (l:=m.f2) h0 h1 w2
  rw[ht]
  simp only[Option.bind_some]
  refine Evp.ite (fun _=>Evp.pure _ (by omega)) (fun h=> ?_)
  have ht3:=ht2 (by omega)
  unfold gq.f
  rw[w64 (by omega) (by omega)]
  by_cases h2:t - (m.f5.length:Int)<0
  · simp only[if_pos h2,Option.bind_some]
    exact Evp.yes (by decide) (Evp.pure _ (by omega))
  simp only[if_neg h2,Option.bind_some]
  refine Evp.bind (rV (by omega) (by omega) w6 w6') fun u hu=>Evp.ite (fun _=>Evp.pure _ (by omega)) (fun h3=> ?_)
  have hu2:=hu (by omega)
  unfold gK.f
  rw[w64 (by omega) (by omega)]
  by_cases h4:u - (m.f7.length:Int)<0
  · simp only[if_pos h4,Option.bind_some]
    exact Evp.yes (by decide) (Evp.pure _ (by omega))
  simp only[if_neg h4,Option.bind_some]
  exact Evp.pure _ fun _=>⟨by omega,by omega,by omega,hu2.2.1,by omega,hu2.2.2⟩
theorem qF {l:List lN} {a:Int} (h0:0≤a) (h1:a≤1048576) (hl:l.length≤9223372036854775807) (hw: ∀y∈l,lM y):
    Evp (fun k=>dA.f k l a) (fun t=>0≤t→t≤a∧l.length≤1048576∧∀m∈l,SzM m):=by
  unfold dA.f
  rw[w64 (by omega) (by omega)]
  refine Evp.ite (fun _=>Evp.pure _ (by omega)) (fun h=> ?_)
  refine(pV (l:=l) (Q:=SzM) (g:=fun i s k=>dA.l0 k l s (i:Int)) (fun s hs=> ?_) (fun i hi s hs0 hs1 ih=> ?_) _ (by omega) (by omega)).mono fun t ht h2=>⟨by have:=(ht h2).1;omega,by omega,(ht h2).2⟩
  ·exact Evp.step (f:=fun k=>_) (fun k=>by rw[dA.l0]) (Evp.no (by omega) (Evp.pure _ rfl))
  · refine Evp.step (f:=fun k=>_) (fun k=>by rw[dA.l0,vH hi]) (Evp.yes (by omega) (Evp.yes (by omega) (Evp.bind (rW hs0 hs1 (hw _ (List.getElem_mem hi))) fun t ht=>Evp.ite (fun _=>Evp.pure _ (by omega)) (fun h3=> ?_))))
    obtain⟨h4,h5⟩:=ht (by omega)
    rw[eU hi (by omega)]
    exact(ih t (by omega) h4 h5).mono fun r hr hr0=>⟨by have:=(hr hr0).1;omega,nP hi h5 (hr hr0).2⟩
def cvU (x:S25):List Cls×List Mth:=(x.f0.map cvC,x.f1.map cvM)
theorem rX {m:lN} (h:SzM m) (hw:lM m):SmallM (cvM m):=by
  obtain⟨_,_,⟨w2,w2'⟩,w3,_,_,⟨_,w6'⟩,_⟩:=hw
  refine⟨o7 w3,h.1,fun t ht=>o7 (w2' t ht),by show(m.f5.map cvX).length≤_;rw[List.length_map];exact h.2.1,by show(m.f6.map cvS).length≤_;rw[List.length_map];exact h.2.2.1,by show(m.f7.map cvK).length≤_;rw[List.length_map];exact h.2.2.2.1,fun j hj=> ?_⟩
  have hj' :j<m.f6.length:=by have:j<(m.f6.map cvS).length:=hj;rwa [List.length_map]at this
  have e:(cvM m).f6.getD j z57=cvS m.f6[j]:=by
    show(m.f6.map cvS).getD j _=_
    rw[getD_at (by rw[List.length_map];exact hj')];simp
  rw[e]
  have hs:=h.2.2.2.2 _ (List.getElem_mem hj')
  have hws:=w6' _ (List.getElem_mem hj')
  exact⟨hs.1,hs.2,fun t ht=>o7 (hws.2.1.2 t ht),fun t ht=>o7 (hws.2.2.2 t ht)⟩
theorem uI {x:S25} (hw:nZ x):Evp (fun k=>gZ.f k x.f0 x.f1 1048576) (fun t=>0≤t→fU (x.f0.map cvC)∧x.f1.length≤1048576∧∀m∈x.f1,SzM m):=by
  obtain⟨⟨w0,w0'⟩,⟨w1,w1'⟩⟩:=hw
  unfold gZ.f
  refine Evp.bind (vD w0 w0') fun t ht=>Evp.ite (fun _=>Evp.pure _ (by omega)) (fun h=> ?_)
  have ht2:=ht (by omega)
  refine Evp.bind (qF (by omega) ht2.1 w1 w1') fun u hu=>Evp.ite (fun _=>Evp.pure _ (by omega)) (fun h2=>Evp.pure _ fun h3=> ?_)
  have hu2:=hu h3
  exact⟨ht2.2,hu2.2.1,hu2.2.2⟩
theorem uJ {x:S25} (h:fU (x.f0.map cvC)∧x.f1.length≤1048576∧∀m∈x.f1,SzM m):Evp (fun k=>gu.f k x.f0 x.f1) (fun r=>r=cvU x):=by
  unfold gu.f
  exact Evp.bind (vE h.1) fun a ha=>Evp.bind (qC h.2.1 h.2.2) fun b hb=>Evp.pure _ (by rw[ha,hb];rfl)
theorem rY {x:S25} (hw:nZ x) (h:fU (x.f0.map cvC)∧x.f1.length≤1048576∧∀m∈x.f1,SzM m):SmallU (cvU x).1 (cvU x).2:=by
  obtain⟨_,⟨w1,w1'⟩⟩:=hw
  refine⟨h.1,by show(x.f1.map cvM).length≤_;rw[List.length_map];exact h.2.1,fun i hi=> ?_⟩
  have hi' :i<x.f1.length:=by have:i<(x.f1.map cvM).length:=hi;rwa [List.length_map]at this
  have e:mth (cvU x).2 i=cvM x.f1[i]:=by
    show(x.f1.map cvM).getD i _=_
    rw[getD_at (by rw[List.length_map];exact hi')];simp
  rw[e]
  exact rX (h.2.2 _ (List.getElem_mem hi')) (w1' _ (List.getElem_mem hi'))
end Go.Proofs.YteinbmkgenhocaaGreat.Kit
end
section
namespace Go.Proofs.YteinbmkgenhocaaGreat.P
open Go.RowKit Go.Proofs.YteinbmkgenhocaaGreatW.PrintWords Go.Proofs.YteinbmkgenhocaaGreatW.PrintLast Go.Proofs.YteinbmkgenhocaaGreatW.PrintMore
attribute [local go_sem] ak au az aA ai aj av ax
set_option linter.unusedVariables false
set_option linter.unusedSimpArgs false
end Go.Proofs.YteinbmkgenhocaaGreat.P
end
section
namespace Go.Proofs.YteinbmkgenhocaaGreat.Kit
open Go Go.RowKit Go.Proofs.YteinbmkgenhocaaGreatW.PrintWords Go.Proofs.YteinbmkgenhocaaGreat.P
set_option linter.unusedVariables false
set_option linter.unusedSimpArgs false
abbrev wm:=S143
abbrev wo:=S146
abbrev wu:=S31
abbrev lQ:=S91
abbrev Frm:=S70
theorem rdO {xs:List lQ} {i:Nat} (h:i<xs.length):dh xs (i:Int)=xs[i]:=getD_at h _
theorem rdF {xs:List Frm} {i:Nat} (h:i<xs.length):bn xs (i:Int)=xs[i]:=getD_at h _
def SzO (o:wm):Prop:=o.f1.length≤1048576
def SzF (f:wo):Prop:=f.f2.length≤1048576∧f.f3.length≤1048576
theorem rZ {a:Bool} {n:Int}:fM.f a n a n=some true:=by
  unfold fM.f
  rw[if_neg (by simp),if_pos rfl]
theorem nC {l:List wu} (hl:l.length≤1048576):Evp (fun k=>bH.f k l l) (fun r=>r=true):=by
  unfold bH.f
  refine Evp.yes rfl (ko (n:=l.length) (g:=fun i k=>bH.l0 k l l (i:Int)) ?_ (fun i hi ih=> ?_))
  ·exact Evp.step (f:=fun k=>_) (fun k=>by rw[bH.l0]) (Evp.no (by omega) (Evp.pure _ rfl))
  · refine Evp.step (f:=fun k=>_) (fun k=>by rw[bH.l0,rZ,Option.bind_some]) (Evp.yes (by omega) (Evp.yes (by omega) (Evp.yes (by omega) (Evp.yes rfl ?_))))
    rw[eU hi (by omega)]
    exact ih
theorem uK {l:List lQ} (hl:l.length≤1048576) (ho: ∀o∈l,o.f1.length≤1048576):Evp (fun k=>bO.f k l l) (fun r=>r=true):=by
  unfold bO.f
  refine Evp.yes rfl (ko (n:=l.length) (g:=fun i k=>bO.l0 k l l (i:Int)) ?_ (fun i hi ih=> ?_))
  ·exact Evp.step (f:=fun k=>_) (fun k=>by rw[bO.l0]) (Evp.no (by omega) (Evp.pure _ rfl))
  · refine Evp.step (f:=fun k=>_) (fun k=>by rw[bO.l0,rdO hi]) (Evp.yes (by omega) (Evp.yes (by omega) (Evp.yes (by omega) ?_)))
    refine Evp.bind (P:=fun r=>r=true) ?_ (fun a ha=>Evp.yes ha ?_)
    · unfold jc.f
      exact Evp.yes rfl (Evp.bind (nC (ho _ (List.getElem_mem hi))) fun a ha=>Evp.yes ha (Evp.pure _ rfl))
    · rw[eU hi (by omega)]
      exact ih
theorem r9 {l:List Frm} (hl:l.length≤1048576) (ho: ∀o∈l,o.f2.length≤1048576∧o.f3.length≤1048576):Evp (fun k=>bF.f k l l) (fun r=>r=true):=by
  unfold bF.f
  refine Evp.yes rfl (ko (n:=l.length) (g:=fun i k=>bF.l0 k l l (i:Int)) ?_ (fun i hi ih=> ?_))
  ·exact Evp.step (f:=fun k=>_) (fun k=>by rw[bF.l0]) (Evp.no (by omega) (Evp.pure _ rfl))
  · have hz:=ho _ (List.getElem_mem hi)
    refine Evp.step (f:=fun k=>_) (fun k=>by rw[bF.l0,rdF hi]) (Evp.yes (by omega) (Evp.yes (by omega) (Evp.yes (by omega) ?_)))
    refine Evp.bind (P:=fun r=>r=true) ?_ (fun a ha=>Evp.yes ha ?_)
    · unfold iy.f
      exact Evp.yes rfl (Evp.yes rfl (Evp.bind (nC hz.1) fun a ha=>Evp.yes ha (Evp.bind (nC hz.2) fun b hb=>Evp.yes hb (Evp.pure _ rfl))))
    · rw[eU hi (by omega)]
      exact ih
structure SzMach (x:S49):Prop where
  o:x.f0.length≤1048576
  o2: ∀s∈x.f0,SzO s
  f:x.f1.length≤1048576
  f2: ∀s∈x.f1,SzF s
  s:x.f2.length≤1048576
structure SmallMach (objs:List lQ) (frs:List Frm) (said:List Int):Prop where
  o:objs.length≤1048576
  o2: ∀o∈objs,o.f1.length≤1048576
  f:frs.length≤1048576
  f2: ∀f∈frs,f.f2.length≤1048576∧f.f3.length≤1048576
  s:said.length≤1048576
theorem uL {objs:List lQ} {frs:List Frm} {said:List Int} {st en:Int} {rf:Bool} {n:Int} (h:SmallMach objs frs said):Evp (fun k=>gy.f k objs frs said st en rf n objs frs said st en rf n) (fun r=>r=true):=by
  unfold gy.f
  refine Evp.bind (uK h.o h.o2) fun a ha=>Evp.yes ha (Evp.bind (r9 h.f h.f2) fun b hb=>Evp.yes hb (Evp.bind (kN h.s) fun c hc=>Evp.yes hc (Evp.yes rfl (Evp.yes rfl ?_))))
  rw[rZ]
  simp only[Option.bind_some]
  exact Evp.yes trivial (Evp.pure _ rfl)
end Go.Proofs.YteinbmkgenhocaaGreat.Kit
end
section
namespace Go.Proofs.YteinbmkgenhocaaGreat.Kit
open Go Go.RowKit Go.Proofs.YteinbmkgenhocaaGreatW.PrintWords Go.Proofs.YteinbmkgenhocaaGreat.P
set_option linter.unusedVariables false
theorem kP {α:Type} (f:α→Nat) (d:α) (B:Nat) (l:List α) (h: ∀i,i<l.length→f (l.getD i d)≤B):jk f l≤l.length * B:=by
  induction l with
  |nil=>exact Nat.zero_le _
  | cons x l ih=>
    have h0:=h 0 (by simp)
    have h1:=ih (fun i hi=>h (i+1) (by simpa using hi))
    simp only[jk,List.length_cons,Nat.add_mul,Nat.one_mul]
    have:f ((x::l).getD 0 d)=f x:=rfl
    omega
theorem cnt1 (l:List Int):jk (fun _=>1) l=l.length:=by
  induction l with
  |nil=>rfl
  |cons x l ih=>simp only[jk,List.length_cons];omega
theorem pG {cs:List Cls} {ms:List Mth} (hu:SmallU cs ms): ∃r,iL.f cs ms 1=some r∧0≤r:=by
  have hc:=hu.c.1
  have hm:=hu.m
  have b1:iY cs≤cs.length * 1048577:=kP _ iI _ _ (fun i hi=>by
    have:=(hu.c.2 i hi).1
    show 1+jJ _≤_
    unfold jJ
    rw[cnt1]
    unfold dZ at this
    omega)
  have b2:jy ms≤ms.length * 2200000000000:=kP _ iQ _ _ (fun i hi=>by
    have h:=hu.e i hi
    have h2:=h.l2
    have h5:=h.l5
    have h6:=h.l6
    have h7:=h.l7
    have s5:lI (mth ms i).f5≤(mth ms i).f5.length * 3:=kP _ ig _ _ (fun _ _=>Nat.le_refl _)
    have s7:lJ (mth ms i).f7≤(mth ms i).f7.length * 4:=kP _ gm _ _ (fun _ _=>Nat.le_refl _)
    have s6:iZ (mth ms i).f6≤(mth ms i).f6.length * 2097153:=kP _ z57 _ _ (fun j hj=>by
      have hs:=h.s6 j hj
      have e1:=hs.l1
      have e2:=hs.l2
      show 1+jJ _+jJ _≤_
      unfold jJ
      rw[cnt1,cnt1]
      omega)
    show 1+1+jJ (mth ms i).f2+1+1+lI (mth ms i).f5+iZ (mth ms i).f6+lJ (mth ms i).f7≤_
    unfold jJ
    rw[cnt1]
    omega)
  refine⟨_,rfl, ?_⟩
  rw[uX 1 _ (by omega) (by omega)]
  omega
end Go.Proofs.YteinbmkgenhocaaGreat.Kit
end
section
namespace Go.Proofs.YteinbmkgenhocaaGreat.P
open Go Go.RowKit Go.Proofs.YteinbmkgenhocaaGreatW.PrintWords
def laws_FnExactMachNew.Pure:Prop:= ∀(x0:S25),(nZ x0)→∃k,laws_FnExactMachNew.f k x0.f0 x0.f1=some true
end Go.Proofs.YteinbmkgenhocaaGreat.P
namespace Go.Proofs.YteinbmkgenhocaaGreat.Kit
open Go Go.RowKit Go.Proofs.YteinbmkgenhocaaGreatW.PrintWords Go.Proofs.YteinbmkgenhocaaGreat.P
set_option linter.unusedVariables false
set_option linter.unusedSimpArgs false
theorem l9 {α:Type} {g:Nat→Option α} {r:α} (h: ∀k,g (k+30)=some r):Evp g (fun x=>x=r):=⟨r,⟨30,fun k hk=>by obtain⟨j,rfl⟩:=Nat.exists_eq_add_of_le' hk;exact h j⟩,rfl⟩
abbrev MT:Type:=List lQ×List Frm×List Int×Int×Int×Bool×Int
def FA:List lQ:=(df.f 30).getD []
def frm (n:Nat):Frm:=⟨0,0,List.replicate n z31, []⟩
def NW (n:Nat):MT:=(FA, [frm n], [],0,0,false,0)
def N0:MT:=([], [], [],0,0,false,0)
theorem tV (k:Nat):df.f (k+30)=some FA:=by kernel_rfl
section
variable {cs:List Cls} {ms:List Mth} {n:Nat}
theorem uM (h:0<ms.length) (hn:n≤3) (hf:(aa ms 0).f4=(n:Int)):Evp (fun k=>bu.f k cs ms 0 []) (fun r=>r=(0,0,List.replicate n z31, [])):=by
  have key: ∀d i:Nat,i+d=n→Evp (fun k=>bu.l0 k 0 cs ms 0 0 (List.replicate i z31) []) (fun r=>r=(0,0,List.replicate n z31, [])):=by
    intro d
    induction d with
    | zero=>
      intro i hi
      have hi' :i=n:=by omega
      subst hi'
      exact Evp.step (f:=fun k=>_) (fun k=>by rw[bu.l0]) (Evp.yes (Int.le_refl 0) (Evp.yes (by omega) (Evp.no (by rw[List.length_replicate,hf];omega) (Evp.pure _ rfl))))
    | succ d ih=>
      intro i hi
      refine Evp.step (f:=fun k=>_) (fun k=>by rw[bu.l0]) (Evp.yes (Int.le_refl 0) (Evp.yes (by omega) (Evp.yes (by rw[List.length_replicate,hf];omega) ?_)))
      refine Evp.congr (f:=fun k=>if(List.replicate i z31).length<8796093022208 then bu.l0 k 0 cs ms 0 0 (List.replicate (i+1) z31) []else none) (fun k=> ?_) (Evp.yes (by rw[List.length_replicate];omega) (ih (i+1) (by omega)))
      rw[List.replicate_succ']
      rfl
  exact key n 0 (by omega)
theorem vK (h:0<ms.length) (hn:n≤3) (hf:(aa ms 0).f4=(n:Int)) (k:Nat):dX.f (k+30) cs ms=some (NW n):=by
  have e:dX.f (k+30) cs ms=(if 0<(ms.length:Int)then(if 0≤((aa ms 0).f4)then(if((aa ms 0).f4:Int).toNat≤17592186044416 then some (FA, [(⟨0,0,List.replicate ((aa ms 0).f4:Int).toNat z31, []⟩:Frm)], [],0,0,false,0)else none)else none)else none):=by kernel_rfl
  rw[e,hf,if_pos (by omega),if_pos (by omega),if_pos (by omega)]
  rfl
end
def RM (n:Nat):Int×List lQ×List Frm:=(fG.f 30 FA [frm n] [] 1).getD (0, [], [])
theorem uN {n:Nat} (hn:n≤3):(∀k,fG.f (k+30) FA [frm n] [] 1=some (RM n))∧(∀k,gP.f (k+30) (RM n).2.1 (RM n).2.2 [] 0 0 false 0 1=some (RM n).1)∧0≤(RM n).1:=by
  have a:n=0∨n=1∨n=2∨n=3:=by omega
  rcases a with rfl|rfl|rfl|rfl
  ·exact⟨fun k=>by kernel_rfl,fun k=>by kernel_rfl,of_decide_eq_true (by kernel_rfl)⟩
  ·exact⟨fun k=>by kernel_rfl,fun k=>by kernel_rfl,of_decide_eq_true (by kernel_rfl)⟩
  ·exact⟨fun k=>by kernel_rfl,fun k=>by kernel_rfl,of_decide_eq_true (by kernel_rfl)⟩
  ·exact⟨fun k=>by kernel_rfl,fun k=>by kernel_rfl,of_decide_eq_true (by kernel_rfl)⟩
def uh (g:MT):Prop:=g=N0∨∃n,n≤3∧g=NW n
theorem si {g:MT} (h:uh g):SmallMach g.1 g.2.1 g.2.2.1∧∃m:Int×List lQ×List Frm,Evp (fun k=>fG.f k g.1 g.2.1 g.2.2.1 1) (fun r=>r=m)∧Evp (fun k=>gP.f k m.2.1 m.2.2 g.2.2.1 g.2.2.2.1 g.2.2.2.2.1 g.2.2.2.2.2.1 g.2.2.2.2.2.2 1) (fun r=>r=m.1)∧0≤m.1:=by
  rcases h with rfl|⟨n,hn,rfl⟩
  ·exact⟨⟨Nat.zero_le _,(fun o ho=>by cases ho),Nat.zero_le _,(fun o ho=>by cases ho),Nat.zero_le _⟩,(1, [], []),l9 (fun k=>by kernel_rfl),l9 (fun k=>by kernel_rfl),by decide⟩
  · obtain⟨h1,h2,h3⟩:=uN hn
    refine⟨⟨(show FA.length≤1048576 by decide+kernel),(show∀o∈FA,o.f1.length≤1048576 by decide+kernel),(show 1≤1048576 by decide),fun o ho=> ?_,Nat.zero_le _⟩,RM n,l9 h1,l9 h2,h3⟩
    obtain rfl:=List.mem_singleton.1 ho
    exact⟨by show(List.replicate n _).length≤_;rw[List.length_replicate];omega,Nat.zero_le _⟩
theorem vO {c:List Cls} {m:List Mth} {x:Mth} (h:gH c m x):0≤x.f4∧x.f4≤3:=by
  have h4:=h.1
  refine⟨?_,h4.2.2.2.2.1⟩
  have:=h4.2.2.2.2.2
  unfold jl at this
  split at this<;>omega
theorem tZ {cs:List Cls} {ms:List Mth} (hu:SmallU cs ms): ∃g:MT,Evp (fun k=>dW.f k cs ms) (fun r=>r=g)∧Evp (fun k=>gD.f k cs ms) (fun r=>r=g)∧uh g:=by
  by_cases h:iE cs ms
  · have hl:=h.2.1.1
    have h4:=vO (h.2.2.2.1 0 (Nat.le_refl _) hl)
    have hf:(aa ms 0).f4=((aa ms 0).f4.toNat:Int):=by
      have:(aa ms 0).f4=(mth ms 0).f4:=rfl
      omega
    have hn:(aa ms 0).f4.toNat≤3:=by
      have:(aa ms 0).f4=(mth ms 0).f4:=rfl
      omega
    refine⟨NW _, ?_, ?_, .inr ⟨_,hn,rfl⟩⟩
    · unfold dW.f
      refine Evp.bind (mh hu) fun b hb=>Evp.yes (hb.2 h) (Evp.bind (l9 tV) fun f hf' =>Evp.bind (uM hl hn hf) fun q hq=> ?_)
      subst hf' hq
      exact Evp.pure _ rfl
    · unfold gD.f
      refine Evp.bind (mg hu) fun b hb=>Evp.yes (hb.2 h) (Evp.bind (l9 (vK hl hn hf)) fun q hq=> ?_)
      subst hq
      exact Evp.pure _ rfl
  · refine⟨N0, ?_, ?_, .inl rfl⟩
    · unfold dW.f
      exact Evp.bind (mh hu) fun b hb=>Evp.no (fun e=>h (hb.1 e)) (Evp.pure _ rfl)
    · unfold gD.f
      exact Evp.bind (mg hu) fun b hb=>Evp.no (fun e=>h (hb.1 e)) (Evp.pure _ rfl)
theorem vP {p:Nat→Prop} [∀k,Decidable (p k)] {f:Nat→Option Bool} {P:Bool→Prop} (hp: ∃K,∀k,K≤k→p k) (h:Evp f P):Evp (fun k=>if p k then f k else none) P:=by
  obtain⟨K,hK⟩:=hp
  obtain⟨r,⟨K2,h2⟩,hr⟩:=h
  refine⟨r,⟨max K K2,fun k hk=> ?_⟩,hr⟩
  show(if p k then f k else none)=some r
  rw[if_pos (hK k (by omega))]
  exact h2 k (by omega)
end Go.Proofs.YteinbmkgenhocaaGreat.Kit
end
section
namespace Go.Proofs.YteinbmkgenhocaaGreat.Pure
open Go Go.RowKit Go.Proofs.YteinbmkgenhocaaGreatW.PrintWords Go.Proofs.YteinbmkgenhocaaGreat.P Go.Proofs.YteinbmkgenhocaaGreat.Kit
theorem FnExactMachNew:laws_FnExactMachNew.Pure:=by
  intro x hw
  refine Evp.rounds ?_
  unfold laws_FnExactMachNew.f
  refine Evp.bind (uI hw) fun t ht=>Evp.ite (fun _=>Evp.pure _ rfl) (fun h=> ?_)
  have hc:=ht (by omega)
  have hu:=rY hw hc
  refine Evp.bind (uJ hc) fun a ha=> ?_
  subst ha
  obtain⟨g,hs,hi,hn⟩:=tZ hu
  refine Evp.bind hs fun u hu1=>Evp.bind hi fun v hv1=> ?_
  subst hu1 hv1
  obtain⟨hsm,m,hm,hq,h0⟩:=si hn
  unfold laws_FnExactMachNew.h
  obtain⟨b1,⟨K1,h1⟩,rfl⟩:=uL (st:=v.2.2.2.1) (en:=v.2.2.2.2.1) (rf:=v.2.2.2.2.2.1) (n:=v.2.2.2.2.2.2) hsm
  obtain⟨b2,⟨K2,h2⟩,rfl⟩:=uH hu
  refine vP ⟨max K1 K2,fun k hk=>⟨h1 k (by omega),h2 k (by omega)⟩⟩ ?_
  obtain⟨r,hr,hr0⟩:=pG hu
  simp only[hr,Option.bind_some]
  refine Evp.no (by omega) (Evp.bind hm fun m1 hm1=> ?_)
  subst hm1
  refine Evp.bind hq fun q hq1=> ?_
  subst hq1
  exact Evp.no (by omega) (Evp.pure _ rfl)
end Go.Proofs.YteinbmkgenhocaaGreat.Pure
end
section
namespace Go.Proofs.YteinbmkgenhocaaGreat.fnExactMachNew
open Go Go.ChangeShapes Go.WideShapes Go.ChangeAt Go.RowKit Go.Proofs.YteinbmkgenhocaaGreatW.PrintWords Go.Proofs.YteinbmkgenhocaaGreat.P Go.Proofs.YteinbmkgenhocaaGreat.Open
set_option linter.unusedVariables false
theorem own:ownKnob Tryz.prog.godebug=none:=by kernel_rfl
theorem laidOut:laidOutB Tryz.prog=true:=by kernel_rfl
set_option maxRecDepth 100000 in
theorem lifted (os:Os) (started:os.Started) (H:Type) (enc:TypeId×Value→H):
    ReturnsInHanded {} Tryz.checked os 3 .any (Rows.fnExactMachNewSpec.pre6 enc Tryz.prog Tryz.f3 Rows.fnExactMachNewRow.domain false) (Rows.fnExactMachNewSpec.post enc Tryz.prog Tryz.f3 false true false false):=by
  refine returnsInHanded_of_change_sized (C:=Tryz.checked) own started (by kernel_rfl) Tryz.func3
    (ChangeSpec.witness6 (enc:=enc) (C:=Tryz.checked) false ⟨#[],#[.agg #[.slice none 0 0, .slice none 0 0]], []⟩ 8 (by kernel_rfl) (by kernel_rfl) (by kernel_rfl) (by kernel_rfl)) ?_
  intro W base args ds gs before hval0 hW hcnd hsz0 _
  have hval: ∀(j:Nat) t v,Tryz.f3.params[j]? =some t→args[j]? =some v→Value.okWide Tryz.prog W .any base t v:=hval0
  have hW' :=hW
  obtain⟨p,q,g,hV,rfl,hfz,hnd⟩:=hW
  have hA:DataW.TrodAll enc Tryz.prog W 0 (fun _=>true) true Tryz.f3.params.toList args.toList ds p:=g
  rw[Tryz.params3]at hA hval
  obtain⟨v0,u,d0,ds0,p0,q0,hargs,rfl,rfl,h0,r0⟩:=trodAll_cons hA
  obtain⟨rfl,rfl,rfl⟩:=trodAll_nil r0
  obtain rfl:args= #[v0]:=by cases args;simp_all
  obtain⟨rfl,rfl⟩:=trodVars_none hV
  have k0:=h0
  have r: ∀x∈p0,x.block<W.heap.size:=by obtain⟨m,hm⟩:=k0;exact DataW.trod_lt m _ _ _ hm
  obtain⟨x0,g0,s⟩:=rM (v:=v0) h0 (uG H enc W 0 (fun _=>true) true)
  obtain⟨cs0,rfl,z0⟩:=okWide_struct Tryz.underlying25 (hval 0 25 v0 rfl rfl)
  obtain⟨i,l,n,o,e0,a,b,c,d⟩:=tu g0
  obtain rfl:cs0= #[.slice i x0.f0.length l, .slice n x0.f1.length o]:=by cases cs0;simpa[Value.cells] using e0
  clear g hval0 hsz0
  obtain⟨k,h⟩:=Pure.FnExactMachNew x0 s
  refine(laws_FnExactMachNew.calls k _ _ x0.f0 _ _ x0.f1 true W b a d c h rfl).mono fun e W' ⟨he,bel⟩=> ?_
  subst he
  exact⟨_,rfl,_,_,_, [],_, [],hW',trodAll_mk1 (shut_bool Tryz.underlying4 _),(trodAll_cons_mk (Below.trod laidOut (by kernel_rfl) (of_decide_eq_true (by kernel_rfl)) k0 bel r) trodAll_mk0),rfl,bel.frame _,fun h=>by cases h⟩
theorem over:Rows.fnExactMachNewRow.holds Tryz.pinned (OpenSpec.ofChange Rows.fnExactMachNewSpec):=
  OpenClaim.holds_of_wide 3 Tryz.f3 rfl rfl rfl rfl rfl rfl rfl ⟨rfl,rfl,rfl,rfl,rfl⟩ rfl rfl rfl rfl rfl (by kernel_rfl) Tryz.func3 (by show joinedFacts Tryz.prog _ _ _ _=true;unfold joinedFacts;rw[Go.Proofs.YteinbmkgenhocaaGreat.enter,Go.Proofs.YteinbmkgenhocaaGreat.make,Go.Proofs.YteinbmkgenhocaaGreat.lifts];kernel_rfl)
    (of_decide_eq_true (by kernel_rfl)) (by unfold Func.isWrapper;first|(rw[if_pos (by decide+kernel)];kernel_rfl)|(rw[if_neg (by decide+kernel)];exact⟨rfl,rfl⟩))
    (fun os started H enc _=>lifted os started H enc)
theorem proved:Rows.FnExactMachNewSaid:=over
end Go.Proofs.YteinbmkgenhocaaGreat.fnExactMachNew
namespace Go.Proofs.YteinbmkgenhocaaGreat
theorem fnExactMachNew_holds:Rows.FnExactMachNewSaid:=fnExactMachNew.proved
end Go.Proofs.YteinbmkgenhocaaGreat
end
