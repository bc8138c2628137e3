/- A part of the claim FnExactShapeStart: texts of this session and texts that its program printed out of the translation, joined. -/
import Derived.MapKept
import Derived.Test.YteinbmkgenhocaaCFnExactShapeStart21
section
namespace Go.Proofs.Yteinbmkgenhocaa.P
open Go.RowKit Go.Proofs.YteinbmkgenhocaaW.PrintWords Go.Proofs.YteinbmkgenhocaaW.PrintLast Go.Proofs.YteinbmkgenhocaaW.PrintMore
attribute [local go_sem] ak au aA aC ai aj av ax
set_option linter.unusedVariables false
set_option linter.unusedSimpArgs false
def dA.l0:Nat→List (S112)→List (S97)→Int→Option ((List (S97)))
  |0,_,_,_=>none
  |k+1,x0,x3,x4=>if x4<(x0.length:Int)then(if 0≤x4 then((iL.f ((gq x0 x4).f0) ((gq x0 x4).f1) ((gq x0 x4).f2)).bind fun a=>(if x4<(x3.length:Int)then(dA.l0 k x0 (x3.set (x4:Int).toNat (⟨a.1,a.2.1,a.2.2⟩:S97)) (wrap64 (x4+1)))else(none)))else(none))else(some x3)
def dA.f (k:Nat) (l0:List (S112)):Option ((List (S97))):=if 0≤(l0.length:Int)then(if((l0.length:Int):Int).toNat≤11728124029610 then(dA.l0 k l0 (List.replicate ((l0.length:Int):Int).toNat z97) 0)else(none))else(none)
def gN.f (k:Nat) (a:Bool) (b:List Int) (c:List Int):Option (Bool×List Int×List Int):=(bM.f k b).bind fun d=>((bM.f k c).bind fun e=>(some (a,d,e)))
def cu.l0:Nat→List (S108)→List (S29)→Int→Option ((List (S29)))
  |0,_,_,_=>none
  |k+1,x0,x3,x4=>if x4<(x0.length:Int)then(if 0≤x4 then((gN.f k ((dn x0 x4).f0) ((dn x0 x4).f1) ((dn x0 x4).f2)).bind fun a=>(if x4<(x3.length:Int)then(cu.l0 k x0 (x3.set (x4:Int).toNat (⟨a.1,a.2.1,a.2.2⟩:S29)) (wrap64 (x4+1)))else(none)))else(none))else(some x3)
def cu.f (k:Nat) (l0:List (S108)):Option ((List (S29))):=if 0≤(l0.length:Int)then(if((l0.length:Int):Int).toNat≤5026338869833 then(cu.l0 k l0 (List.replicate ((l0.length:Int):Int).toNat z29) 0)else(none))else(none)
def iw.f (a:Int) (b:Int) (c:Int) (d:Int):Option (Int×Int×Int×Int):=some (a,b,c,d)
def cB.l0:Nat→List (S115)→List (S102)→Int→Option ((List (S102)))
  |0,_,_,_=>none
  |k+1,x0,x3,x4=>if x4<(x0.length:Int)then(if 0≤x4 then((iw.f ((eQ x0 x4).f0) ((eQ x0 x4).f1) ((eQ x0 x4).f2) ((eQ x0 x4).f3)).bind fun a=>(if x4<(x3.length:Int)then(cB.l0 k x0 (x3.set (x4:Int).toNat (⟨a.1,a.2.1,a.2.2.1,a.2.2.2⟩:S102)) (wrap64 (x4+1)))else(none)))else(none))else(some x3)
def cB.f (k:Nat) (l0:List (S115)):Option ((List (S102))):=if 0≤(l0.length:Int)then(if((l0.length:Int):Int).toNat≤8796093022208 then(cB.l0 k l0 (List.replicate ((l0.length:Int):Int).toNat fB) 0)else(none))else(none)
def gG.f (k:Nat) (a:Int) (b:Int) (c:List Int) (d:Int) (e:Int) (g:List (S112)) (h:List (S108)) (i:List (S115)):Option (Int×Int×List Int×Int×Int×(List (S97))×(List (S29))×(List (S102))):=(bM.f k c).bind fun j=>((dA.f k g).bind fun l=>((cu.f k h).bind fun m=>((cB.f k i).bind fun n=>(some (a,b,j,d,e,l,m,n)))))
def bS.l0:Nat→List (S68)→List (S50)→Int→Option ((List (S50)))
  |0,_,_,_=>none
  |k+1,x0,x3,x4=>if x4<(x0.length:Int)then(if 0≤x4 then((gG.f k ((aX x0 x4).f0) ((aX x0 x4).f1) ((aX x0 x4).f2) ((aX x0 x4).f3) ((aX x0 x4).f4) ((aX x0 x4).f5) ((aX x0 x4).f6) ((aX x0 x4).f7)).bind fun a=>(if x4<(x3.length:Int)then(bS.l0 k x0 (x3.set (x4:Int).toNat (⟨a.1,a.2.1,a.2.2.1,a.2.2.2.1,a.2.2.2.2.1,a.2.2.2.2.2.1,a.2.2.2.2.2.2.1,a.2.2.2.2.2.2.2⟩:S50)) (wrap64 (x4+1)))else(none)))else(none))else(some x3)
def bS.f (k:Nat) (l0:List (S68)):Option ((List (S50))):=if 0≤(l0.length:Int)then(if((l0.length:Int):Int).toNat≤2199023255552 then(bS.l0 k l0 (List.replicate ((l0.length:Int):Int).toNat z50) 0)else(none))else(none)
def di.f (k:Nat) (a:List (S62)) (b:List (S68)):Option ((List (S71))×(List (S50))):=(bW.f k a).bind fun c=>((bS.f k b).bind fun d=>(some (c,d)))
end Go.Proofs.Yteinbmkgenhocaa.P
end
section
namespace Go.Proofs.Yteinbmkgenhocaa.P
open Go Go.RowKit Go.Proofs.YteinbmkgenhocaaW.PrintWords
def gY (r:Int):Value:=
  if r= -1 then .nilIface else if r=0 then .iface 129 (.agg #[])else if r=1 then .iface 120 (.agg #[])else if r=2 then .iface 130 (.agg #[])
  else if r=3 then .iface 122 (.agg #[.bool false])else if r=4 then .iface 122 (.agg #[.bool true])else .iface 124 (.agg #[.int .i64 (r - 8)])
def dm.f (c t:Int):Option Int:=
  if 0≤c∧c≤1000000000∧ -9223372036854775808≤t∧t≤9223372036854775807 then
    (if t=0 then some 0 else if t=1 then some 1 else if t=2 then some 2 else if t=3 then some 3 else if t=4 then some 4 else if 8≤t∧t<8+c then some t else some (-1))else none
def dK.f (c t:Int):Option Bool:=(dm.f c t).bind fun r=>some (decide (r=1∨r=3∨r=4∨8≤r))
end Go.Proofs.Yteinbmkgenhocaa.P
end
section
namespace Go.Proofs.Yteinbmkgenhocaa.P
open Go.RowKit Go.Proofs.YteinbmkgenhocaaW.PrintWords Go.Proofs.YteinbmkgenhocaaW.PrintLast Go.Proofs.YteinbmkgenhocaaW.PrintMore
attribute [local go_sem] ak au aA aC ai aj av ax
set_option linter.unusedVariables false
set_option linter.unusedSimpArgs false
mutual
def aG.j0:Nat→List (S71)→Bool→Option (Bool)
  |0,_,_=>none
  |k+1,x0,a=>if a=true then(some false)else(if 0<(x0.length:Int)then(if((aD x0 0).f0)=(-1)then(aG.j1 k x0 ((((aD x0 0).f1).length:Int) !=0))else(aG.j1 k x0 true))else(none))
def aG.j1:Nat→List (S71)→Bool→Option (Bool)
  |0,_,_=>none
  |k+1,x0,x28=>if x28=true then(some false)else(if 1<(x0.length:Int)then(if((aD x0 1).f0)=0 then(if(((aD x0 1).f1).length:Int)=1 then(if 0<(((aD x0 1).f1).length:Int)then(aG.j2 k x0 ((rd ((aD x0 1).f1) 0) !=1))else(none))else(aG.j2 k x0 true))else(aG.j2 k x0 true))else(none))
def aG.j2:Nat→List (S71)→Bool→Option (Bool)
  |0,_,_=>none
  |k+1,x0,a=>if a=true then(some false)else(aG.l0 k x0 x0 (x0.length:Int) 0)
def aG.l0:Nat→List (S71)→List (S71)→Int→Int→Option (Bool)
  |0,_,_,_,_=>none
  |k+1,x0,b,c,a=>if a<c then(if 0≤a then(if a<(b.length:Int)then(if a>1 then(if((aD b a).f0)<0 then(aG.j4 k x0 b c a true ((aD b a).f0) ((aD b a).f1))else(aG.j4 k x0 b c a (decide (((aD b a).f0)≥a)) ((aD b a).f0) ((aD b a).f1)))else(aG.j4 k x0 b c a false ((aD b a).f0) ((aD b a).f1)))else(none))else(none))else(some true)
def aG.j4:Nat→List (S71)→List (S71)→Int→Int→Bool→Int→List Int→Option (Bool)
  |0,_,_,_,_,_,_,_=>none
  |k+1,x0,c,d,e,g,b,a=>if g=true then(some false)else(if(a.length:Int)>2 then(some false)else(aG.l1 k x0 c d e a (a.length:Int) 0))
def aG.l1:Nat→List (S71)→List (S71)→Int→Int→List Int→Int→Int→Option (Bool)
  |0,_,_,_,_,_,_,_=>none
  |k+1,x0,c,d,e,b,g,a=>if a<g then(if 0≤a then(if a<(b.length:Int)then((dK.f (x0.length:Int) (rd b a)).bind fun h=>(if h=true then(aG.l1 k x0 c d e b g (wrap64 (a+1)))else(some false)))else(none))else(none))else(aG.l0 k x0 c d (wrap64 (e+1)))
end
def aG.f (k:Nat) (l0:List (S71)):Option (Bool):=if(l0.length:Int)<2 then(aG.j0 k l0 true)else(aG.j0 k l0 (decide ((l0.length:Int)>5)))
def fF.f (b:Int) (d:Int) (a:List Int) (e:Int) (g:Int) (h:List (S97)) (i:List (S29)) (j:List (S102)):Option (List Int):=if b≥0 then(if([]:List Int).length<17592186044416 then((some (([]:List Int)++ [wrap64 (8+b)]:List Int)).bind fun c=>(if c.length+a.length<17592186044416 then(some (c++a))else(none)))else(none))else(if([]:List Int).length+a.length<17592186044416 then(some (([]:List Int)++a))else(none))
def dG.f (l0:List (S71)) (a1:Int):Option (Bool):=if a1≥0 then(some (decide (a1<(l0.length:Int))))else(some false)
mutual
def aU.j0:Nat→List (S71)→List (S50)→Int→Int→List Int→Int→Int→List (S97)→List (S29)→List (S102)→Option (Bool)
  |0,_,_,_,_,_,_,_,_,_,_=>none
  |k+1,a,d,e,g,b,c,h,i,j,l=>if(b.length:Int)>2 then(aU.j1 k true a d e g b c h i j l)else((dK.f (a.length:Int) c).bind fun m=>(aU.j1 k (!m) a d e g b c h i j l))
def aU.j1:Nat→Bool→List (S71)→List (S50)→Int→Int→List Int→Int→Int→List (S97)→List (S29)→List (S102)→Option (Bool)
  |0,_,_,_,_,_,_,_,_,_,_,_=>none
  |k+1,m,b,c,d,e,a,g,h,i,j,l=>if m=true then(some false)else(aU.l0 k a (a.length:Int) 0 b c d e a g h i j l)
def aU.l0:Nat→List Int→Int→Int→List (S71)→List (S50)→Int→Int→List Int→Int→Int→List (S97)→List (S29)→List (S102)→Option (Bool)
  |0,_,_,_,_,_,_,_,_,_,_,_,_,_=>none
  |k+1,n,o,l,b,m,c,d,e,g,a,h,i,j=>if l<o then(if 0≤l then(if l<(n.length:Int)then((dK.f (b.length:Int) (rd n l)).bind fun p=>(if p=true then(aU.l0 k n o (wrap64 (l+1)) b m c d e g a h i j)else(some false)))else(none))else(none))else(if a≤3 then((fF.f c d e g a h i j).bind fun q=>(some (decide (a≥(q.length:Int)))))else(some false))
end
def aU.f (k:Nat) (c:List (S71)) (d:List (S50)) (a:Int) (b:Int) (e:List Int) (g:Int) (h:Int) (i:List (S97)) (j:List (S29)) (l:List (S102)):Option (Bool):=if a=(-1)then(if b=0 then(aU.j0 k c d a b e g h i j l)else(some false))else(if a=0 then(some false)else((dG.f c a).bind fun m=>(if m=true then(if b<0 then(some false)else(if b≥3 then(some false)else(aU.j0 k c d a b e g h i j l)))else(some false))))
def ic.f (a0:Int):Option (Bool):=if a0≥(-128)then(some (decide (a0≤127)))else(some false)
def bK.f:Nat→List (S71)→Int→Option (List Int)
  |0,_,_=>none
  |k+1,l0,a1=>if a1=0 then(some ([]:List Int))else(if 0≤a1 then(if a1<(l0.length:Int)then((bK.f k l0 ((aD l0 a1).f0)).bind fun a=>(if a.length+((aD l0 a1).f1).length<17592186044416 then(some (a++((aD l0 a1).f1)))else(none)))else(none))else(none))
def dL.f (k:Nat) (a:List (S71)) (b:List (S50)) (j:Int) (l:Int) (m:List Int) (n:Int) (c:Int) (d:List (S97)) (o:List (S29)) (p:List (S102)) (q:Int) (e:Int) (r:Int) (a3:Int) (a4:Int):Option (Bool):=if a3=1 then((ic.f a4).bind fun g=>(some g))else(if a3=2 then(if a4≥0 then(some (decide (a4<c)))else(some false))else(if a3=3 then(if a4≥1 then(some (decide (a4≤4)))else(some false))else(if a3=4 then(if a4≥0 then(some (decide (a4<(d.length:Int))))else(some false))else(if a3=5 then((dG.f a a4).bind fun h=>(some h))else(if a3=6 then(if a4=0 then(some true)else(some (a4==1)))else(if a3=7 then(if a4≥0 then(if a4<(b.length:Int)then(if 0≤a4 then(some (((aa b a4).f0)==(-1)))else(none))else(some false))else(some false))else(if a3=8 then(if a4≥0 then((bK.f k a e).bind fun i=>(some (decide (a4<(i.length:Int)))))else(some false))else(if a3=9 then(if a4≥0 then(some (decide (a4<3)))else(some false))else(some (a4==0))))))))))
mutual
def bu.j0:Nat→List (S71)→Bool→Bool→List Int→List Int→Option (Bool)
  |0,_,_,_,_,_=>none
  |k+1,x0,x34,b,a,c=>if x34=true then(some false)else(bu.l0 k x0 a (a.length:Int) 0 b a c)
def bu.l0:Nat→List (S71)→List Int→Int→Int→Bool→List Int→List Int→Option (Bool)
  |0,_,_,_,_,_,_,_=>none
  |k+1,x0,d,e,x38,b,c,a=>if x38<e then(if 0≤x38 then(if x38<(d.length:Int)then((dm.f (x0.length:Int) (rd d x38)).bind fun g=>(if g=(-1)then(some false)else(bu.l0 k x0 d e (wrap64 (x38+1)) b c a)))else(none))else(none))else(bu.l1 k x0 a (a.length:Int) 0)
def bu.l1:Nat→List (S71)→List Int→Int→Int→Option (Bool)
  |0,_,_,_,_=>none
  |k+1,x0,b,c,a=>if a<c then(if 0≤a then(if a<(b.length:Int)then(if(rd b a)=0 then(some false)else((dm.f (x0.length:Int) (rd b a)).bind fun d=>(if d=(-1)then(some false)else(bu.l1 k x0 b c (wrap64 (a+1))))))else(none))else(none))else(some true)
end
def bu.f (k:Nat) (l0:List (S71)) (a1:Int) (c:Bool) (a:List Int) (b:List Int):Option (Bool):=if c=true then(if(a.length:Int)=a1 then(bu.j0 k l0 (decide ((b.length:Int)>4)) c a b)else(bu.j0 k l0 true c a b))else(if(a.length:Int)=0 then(some ((b.length:Int)==0))else(some false))
end Go.Proofs.Yteinbmkgenhocaa.P
end
section
namespace Go.Proofs.Yteinbmkgenhocaa.P
open Go Go.RowKit Go.Proofs.YteinbmkgenhocaaW.PrintWords Go.Proofs.YteinbmkgenhocaaW.PrintLast Go.Proofs.YteinbmkgenhocaaW.PrintMore
set_option linter.unusedVariables false
set_option linter.unusedSimpArgs false
def eU:List (Int×Int×Int):= [(1,1,0),(2,0,0),(3,2,0),(4,2,0),(5,0,0),(6,0,0),(7,3,0),(8,4,0),(9,4,0),(10,4,0),(11,4,0),(12,5,0),(13,6,0),(14,0,0),(15,6,0),(16,6,0),(17,5,8),(18,5,8),(19,5,0),(20,7,0),(21,5,9),(22,0,0),(23,0,0),(24,0,0)]
def dP (n:Int):List (Int×Int×Int)→Option (Int×Int)
  | []=>none
  |e::l=>if n=e.1 then some e.2 else dP n l
def iV.f (n:Int):Option (Int×Int×Bool):=some (match dP n eU with|some p=>(p.1,p.2,true)|none=>(0,0,false))
def jM (e:Int×Int×Int) (i:Nat):MapEntry:= {key:= .int .i64 e.1,val:= .agg #[.int .i64 e.2.1, .int .i64 e.2.2],born:=i}
def gF:List (Int×Int×Int)→Nat→List MapEntry
  | [],_=> []
  |e::l,i=>jM e i::gF l (i+1)
def ig (m:Nat):Obj:= .map (gF (eU.take m) 0).toArray m
def iN:Obj:=ig 24
theorem dB {w:World} {g:Nat} {o:Obj} (h:w.heap[g]? =some o) {p:Addr} (hp:g≠p.block) (u:Value):(w.setCell p u).heap[g]? =some o:=(Below.heap_setCell w p u g hp).trans h
theorem jm (n:Int): ∀(l:List (Int×Int×Int)) (i m:Nat),∃j,Instr.findNow (.int .i64) (.int .i64 n) (gF l i) m=some (match dP n l with|some p=>some (j, .agg #[.int .i64 p.1, .int .i64 p.2])|none=>none)
  | [],_,_=>⟨0,rfl⟩
  | e ::l,i,m=>by
    by_cases h:n=e.1
    · refine⟨m, ?_⟩
      subst h
      simp[gF,jM,dP,Instr.findNow,Instr.sameNow]
    · obtain⟨j,hj⟩:=jm n l (i+1) (m+1)
      refine⟨j, ?_⟩
      have hb:(n==e.1)=false:=by simpa using h
      simp only[gF,jM,dP,Instr.findNow,Instr.sameNow,if_true,hb,if_neg h]
      exact hj
section
variable {ops:Array Oper} {rest:List Oper} {o:Oper} {a:Act} {Q:Exit→Act→World→Prop} {W:World}
theorem jd {gM:Nat} {n t1 t2:Int} {t3:Bool} {x i:Operand} (hgd:o.guard=none) (hop:o.op= .lookup 75 x i true) (hx:a.eval x= .map (some gM)) (hi:a.eval i= .int .i64 n) (hm:W.heap[gM]? =some iN) (hf:iV.f n=some (t1,t2,t3))
    (h:wpList Try.prog ops Q rest (a.put o.dst (.tuple #[.agg #[.int .i64 t1, .int .i64 t2], .bool t3])) W):wpList Try.prog ops Q (o::rest) a W:=by
  refine Kd.event_run hgd ?_ h
  have hE:iN= .map (gF eU 0).toArray 24:=rfl
  rw[hE]at hm
  obtain⟨j,hj⟩:=jm n eU 0 0
  have hz:(zeroValue 94).run Try.prog W= .ok (.agg #[.int .i64 0, .int .i64 0]) W:=by kernel_rfl
  have hk:MapKept.IsKey (.int .i64) (.int .i64 n):=by simp[MapKept.IsKey]
  have hu:=Try.underlying75
  have hu3:=Try.underlying3
  have hl:(Instr.lookup 75 (.map (some gM)) (.int .i64 n) true).run Try.prog W= .ok (.tuple #[.agg #[.int .i64 t1, .int .i64 t2], .bool t3]) W:=by
    unfold iV.f at hf
    simp only[Instr.lookup,Sem.run_bind,run_underlying hu,Result.andThen,MapKept.run_getObj_map hm,Sem.run_pure]
    rw[MapKept.run_checkKey hu3 hk]
    simp only[Result.andThen,Sem.run_bind]
    rw[MapKept.run_findKey hu3 hj]
    cases hw:dP n eU with
    | some p=>
      rw[hw]at hf
      simp only[Option.some.injEq,Prod.mk.injEq]at hf
      obtain⟨rfl,rfl,rfl⟩:=hf
      rfl
    | none=>
      rw[hw]at hf
      simp only[Option.some.injEq,Prod.mk.injEq]at hf
      obtain⟨rfl,rfl,rfl⟩:=hf
      simp only[Result.andThen,Sem.run_bind,hz,Sem.run_pure]
      rfl
  unfold execOp
  rw[hop]
  dsimp only
  rw[hx,hi]
  simp only[Sem.run_bind,hl,Result.andThen]
  rfl
end
end Go.Proofs.Yteinbmkgenhocaa.P
end
section
namespace Go.Proofs.Yteinbmkgenhocaa.P
open Go.RowKit Go.Proofs.YteinbmkgenhocaaW.PrintWords Go.Proofs.YteinbmkgenhocaaW.PrintLast Go.Proofs.YteinbmkgenhocaaW.PrintMore
attribute [local go_sem] ak au aA aC ai aj av ax
set_option linter.unusedVariables false
set_option linter.unusedSimpArgs false
mutual
def bi.j0:Nat→Bool→List (S71)→List (S50)→Int→Int→List Int→Int→Int→List (S97)→List (S29)→List (S102)→Option (Bool)
  |0,_,_,_,_,_,_,_,_,_,_,_=>none
  |k+1,x31,b,c,d,e,g,h,i,a,j,l=>if x31=true then(some false)else(bi.l0 k a (a.length:Int) 0 b c d e g h i a j l)
def bi.l0:Nat→List (S97)→Int→Int→List (S71)→List (S50)→Int→Int→List Int→Int→Int→List (S97)→List (S29)→List (S102)→Option (Bool)
  |0,_,_,_,_,_,_,_,_,_,_,_,_,_=>none
  |k+1,c,x34,b,d,e,g,h,i,j,l,m,a,n=>if b<x34 then(if 0≤b then(if b<(c.length:Int)then((iV.f ((aM c b).f0)).bind fun o=>(if o.2.2=true then((dL.f k d e g h i j l m a n ((aM c b).f0) ((aM c b).f1) ((aM c b).f2) o.1 ((aM c b).f1)).bind fun p=>(if p=true then((dL.f k d e g h i j l m a n ((aM c b).f0) ((aM c b).f1) ((aM c b).f2) o.2.1 ((aM c b).f2)).bind fun q=>(if q=true then(bi.l0 k c x34 (wrap64 (b+1)) d e g h i j l m a n)else(some false)))else(some false)))else(some false)))else(none))else(none))else(bi.l1 k a (a.length:Int) 0 d e g h i j l m a n)
def bi.l1:Nat→List (S29)→Int→Int→List (S71)→List (S50)→Int→Int→List Int→Int→Int→List (S97)→List (S29)→List (S102)→Option (Bool)
  |0,_,_,_,_,_,_,_,_,_,_,_,_,_=>none
  |k+1,d,o,a,b,e,g,h,i,j,c,l,m,n=>if a<o then(if 0≤a then(if a<(d.length:Int)then((bu.f k b c ((aQ d a).f0) ((aQ d a).f1) ((aQ d a).f2)).bind fun p=>(if p=true then(bi.l1 k d o (wrap64 (a+1)) b e g h i j c l m n)else(some false)))else(none))else(none))else(some true)
end
def bi.f (k:Nat) (c:List (S71)) (d:List (S50)) (e:Int) (g:Int) (h:List Int) (i:Int) (j:Int) (a:List (S97)) (b:List (S29)) (l:List (S102)) (a2:Int):Option (Bool):=if(a.length:Int)<1 then(bi.j0 k true c d e g h i j a b l)else(if(a.length:Int)>12 then(bi.j0 k true c d e g h i j a b l)else(bi.j0 k ((b.length:Int) !=(a.length:Int)) c d e g h i j a b l))
def cO.l0:Nat→List (S71)→Int→Int→Option (Bool)
  |0,_,_,_=>none
  |k+1,x0,x2,x7=>if x7≥0 then(if x7=x2 then(some true)else(if 0≤x7 then(if x7<(x0.length:Int)then(cO.l0 k x0 x2 ((aD x0 x7).f0))else(none))else(none)))else(some false)
def cO.f (k:Nat) (l0:List (S71)) (a1:Int) (a2:Int):Option (Bool):=cO.l0 k l0 a2 a1
mutual
def aV.l0:Nat→List (S102)→Int→Int→List (S71)→List (S50)→Int→Int→List Int→Int→Int→List (S97)→List (S29)→List (S102)→Option (Bool)
  |0,_,_,_,_,_,_,_,_,_,_,_,_,_=>none
  |k+1,b,o,a,d,e,g,h,i,j,l,c,m,n=>if a<o then(if 0≤a then(if a<(b.length:Int)then(if((az b a).f0)<0 then(aV.j1 k b o a true d e g h i j l c m n ((az b a).f0) ((az b a).f1) ((az b a).f2) ((az b a).f3))else(if((az b a).f0)≥(c.length:Int)then(aV.j1 k b o a true d e g h i j l c m n ((az b a).f0) ((az b a).f1) ((az b a).f2) ((az b a).f3))else(if((az b a).f2)<0 then(aV.j1 k b o a true d e g h i j l c m n ((az b a).f0) ((az b a).f1) ((az b a).f2) ((az b a).f3))else(aV.j1 k b o a (decide (((az b a).f2)≥(c.length:Int))) d e g h i j l c m n ((az b a).f0) ((az b a).f1) ((az b a).f2) ((az b a).f3)))))else(none))else(none))else(some true)
def aV.j1:Nat→List (S102)→Int→Int→Bool→List (S71)→List (S50)→Int→Int→List Int→Int→Int→List (S97)→List (S29)→List (S102)→Int→Int→Int→Int→Option (Bool)
  |0,_,_,_,_,_,_,_,_,_,_,_,_,_,_,_,_,_,_=>none
  |k+1,q,r,s,x41,d,e,g,h,i,j,l,b,m,n,c,a,o,p=>if x41=true then(some false)else(if a≤c then(aV.j2 k q r s true d e g h i j l b m n c a o p)else(aV.j2 k q r s (decide (a>(b.length:Int))) d e g h i j l b m n c a o p))
def aV.j2:Nat→List (S102)→Int→Int→Bool→List (S71)→List (S50)→Int→Int→List Int→Int→Int→List (S97)→List (S29)→List (S102)→Int→Int→Int→Int→Option (Bool)
  |0,_,_,_,_,_,_,_,_,_,_,_,_,_,_,_,_,_,_=>none
  |k+1,s,t,u,x54,a,c,d,e,g,h,i,j,l,m,p,q,r,b=>if x54=true then(some false)else((dG.f a b).bind fun n=>(if n=true then((cO.f k a b 1).bind fun o=>(if o=true then(aV.l0 k s t (wrap64 (u+1)) a c d e g h i j l m)else(some false)))else(some false)))
end
def aV.f (k:Nat) (b:List (S71)) (c:List (S50)) (d:Int) (e:Int) (g:List Int) (h:Int) (i:Int) (j:List (S97)) (l:List (S29)) (a:List (S102)):Option (Bool):=if(a.length:Int)>2 then(some false)else(aV.l0 k a (a.length:Int) 0 b c d e g h i j l a)
def slices_Equal_int_int.l0:Nat→List Int→List Int→Int→Int→Option (Bool)
  |0,_,_,_,_=>none
  |k+1,x0,x1,b,a=>if a<b then(if 0≤a then(if a<(x0.length:Int)then(if a<(x1.length:Int)then(if(rd x0 a)=(rd x1 a)then(slices_Equal_int_int.l0 k x0 x1 b (wrap64 (a+1)))else(some false))else(none))else(none))else(none))else(some true)
def slices_Equal_int_int.f (k:Nat) (l0:List Int) (l1:List Int):Option (Bool):=if(l0.length:Int)=(l1.length:Int)then(slices_Equal_int_int.l0 k l0 l1 (l0.length:Int) 0)else(some false)
mutual
def bA.l0:Nat→List (S50)→Int→Int→List (S71)→List (S50)→Option (Bool)
  |0,_,_,_,_,_=>none
  |k+1,x8,x9,a,c,b=>if a<x9 then(if 0≤a then(if a<(x8.length:Int)then(bA.l1 k a x8 x9 a b (b.length:Int) 0 c b ((aa x8 a).f0) ((aa x8 a).f1) ((aa x8 a).f2) ((aa x8 a).f3) ((aa x8 a).f4) ((aa x8 a).f5) ((aa x8 a).f6) ((aa x8 a).f7))else(none))else(none))else(some true)
def bA.l1:Nat→Int→List (S50)→Int→Int→List (S50)→Int→Int→List (S71)→List (S50)→Int→Int→List Int→Int→Int→List (S97)→List (S29)→List (S102)→Option (Bool)
  |0,_,_,_,_,_,_,_,_,_,_,_,_,_,_,_,_,_=>none
  |k+1,x3,x8,x9,o,b,p,a,c,d,e,g,h,i,j,l,m,n=>if a<p then(if 0≤a then(if a<(b.length:Int)then(if x3=a then(bA.j2 k x3 x8 x9 o b p a true c d e g h i j l m n ((aa b a).f0) ((aa b a).f1) ((aa b a).f2) ((aa b a).f3) ((aa b a).f4) ((aa b a).f5) ((aa b a).f6) ((aa b a).f7))else(if e<0 then(bA.j2 k x3 x8 x9 o b p a true c d e g h i j l m n ((aa b a).f0) ((aa b a).f1) ((aa b a).f2) ((aa b a).f3) ((aa b a).f4) ((aa b a).f5) ((aa b a).f6) ((aa b a).f7))else(if((aa b a).f0)<0 then(bA.j2 k x3 x8 x9 o b p a true c d e g h i j l m n ((aa b a).f0) ((aa b a).f1) ((aa b a).f2) ((aa b a).f3) ((aa b a).f4) ((aa b a).f5) ((aa b a).f6) ((aa b a).f7))else(bA.j2 k x3 x8 x9 o b p a (g !=((aa b a).f1)) c d e g h i j l m n ((aa b a).f0) ((aa b a).f1) ((aa b a).f2) ((aa b a).f3) ((aa b a).f4) ((aa b a).f5) ((aa b a).f6) ((aa b a).f7)))))else(none))else(none))else(bA.l0 k x8 x9 (wrap64 (o+1)) c d)
def bA.j2:Nat→Int→List (S50)→Int→Int→List (S50)→Int→Int→Bool→List (S71)→List (S50)→Int→Int→List Int→Int→Int→List (S97)→List (S29)→List (S102)→Int→Int→List Int→Int→Int→List (S97)→List (S29)→List (S102)→Option (Bool)
  |0,_,_,_,_,_,_,_,_,_,_,_,_,_,_,_,_,_,_,_,_,_,_,_,_,_,_=>none
  |k+1,x3,x8,x9,p,q,r,s,A,b,e,a,g,c,d,h,i,j,l,m,v,n,o,w,x,y,z=>if A=true then(bA.l1 k x3 x8 x9 p q r (wrap64 (s+1)) b e a g c d h i j l)else(if a=m then(some false)else((cO.f k b a m).bind fun t=>(if t=true then(if d=o then((slices_Equal_int_int.f k c n).bind fun u=>(if u=true then(bA.l1 k x3 x8 x9 p q r (wrap64 (s+1)) b e a g c d h i j l)else(some false)))else(some false))else(bA.l1 k x3 x8 x9 p q r (wrap64 (s+1)) b e a g c d h i j l))))
end
def bA.f (k:Nat) (b:List (S71)) (a:List (S50)):Option (Bool):=bA.l0 k a (a.length:Int) 0 b a
mutual
def bg.j0:Nat→Bool→List (S71)→List (S50)→Option (Bool)
  |0,_,_,_=>none
  |k+1,c,b,a=>if c=true then(some false)else(if 0<(a.length:Int)then(if((aa a 0).f0)=(-1)then(if(((aa a 0).f2).length:Int)=0 then(bg.j1 k (((aa a 0).f3) !=1) b a)else(bg.j1 k true b a))else(bg.j1 k true b a))else(none))
def bg.j1:Nat→Bool→List (S71)→List (S50)→Option (Bool)
  |0,_,_,_=>none
  |k+1,x40,b,a=>if x40=true then(some false)else(bg.l0 k a (a.length:Int) 0 b a)
def bg.l0:Nat→List (S50)→Int→Int→List (S71)→List (S50)→Option (Bool)
  |0,_,_,_,_,_=>none
  |k+1,x43,d,a,b,c=>if a<d then(if 0≤a then(if a<(x43.length:Int)then((aU.f k b c ((aa x43 a).f0) ((aa x43 a).f1) ((aa x43 a).f2) ((aa x43 a).f3) ((aa x43 a).f4) ((aa x43 a).f5) ((aa x43 a).f6) ((aa x43 a).f7)).bind fun e=>(if e=true then((bi.f k b c ((aa x43 a).f0) ((aa x43 a).f1) ((aa x43 a).f2) ((aa x43 a).f3) ((aa x43 a).f4) ((aa x43 a).f5) ((aa x43 a).f6) ((aa x43 a).f7) 0).bind fun g=>(if g=true then((aV.f k b c ((aa x43 a).f0) ((aa x43 a).f1) ((aa x43 a).f2) ((aa x43 a).f3) ((aa x43 a).f4) ((aa x43 a).f5) ((aa x43 a).f6) ((aa x43 a).f7)).bind fun h=>(if h=true then(bg.l0 k x43 d (wrap64 (a+1)) b c)else(some false)))else(some false)))else(some false)))else(none))else(none))else((bA.f k b c).bind fun i=>(some i))
end
def bg.f (k:Nat) (b:List (S71)) (a:List (S50)):Option (Bool):=(aG.f k b).bind fun c=>(if c=true then(if(a.length:Int)<1 then(bg.j0 k true b a)else(bg.j0 k (decide ((a.length:Int)>4)) b a))else(bg.j0 k true b a))
def fT.f (b:List (S71)) (a:List (S50)) (a1:Int):Option (Bool):=if a1≥0 then(some (decide (a1<(a.length:Int))))else(some false)
end Go.Proofs.Yteinbmkgenhocaa.P
end
section
namespace Go.Proofs.Yteinbmkgenhocaa.P
open Go Go.RowKit Go.Proofs.YteinbmkgenhocaaW.PrintWords Go.Proofs.YteinbmkgenhocaaW.PrintLast Go.Proofs.YteinbmkgenhocaaW.PrintMore
set_option linter.unusedVariables false
def iG (xs ys:List Int):List Int:=ys.take xs.length++xs.drop ys.length
def eH.f (b:Int) (c:Int) (d:List Int) (e:Int) (a:Int) (g:List (S97)) (h:List (S29)) (i:List (S102)):Option (Bool×List Int×List Int):=if 0≤a then(if a.toNat≤35184372088832 then((fF.f b c d e a g h i).bind fun y=>some (true,iG (List.replicate a.toNat 0) y, []))else none)else none
end Go.Proofs.Yteinbmkgenhocaa.P
end
section
namespace Go.Proofs.Yteinbmkgenhocaa.P
open Go.RowKit Go.Proofs.YteinbmkgenhocaaW.PrintWords Go.Proofs.YteinbmkgenhocaaW.PrintLast Go.Proofs.YteinbmkgenhocaaW.PrintMore
attribute [local go_sem] ak au aA aC ai aj av ax
set_option linter.unusedVariables false
set_option linter.unusedSimpArgs false
def dC.f (k:Nat) (c:List (S71)) (a:List (S50)) (a1:Int):Option (Bool×List Int×List Int):=(bg.f k c a).bind fun d=>(if d=true then((fT.f c a a1).bind fun e=>(if e=true then(if 0≤a1 then(if a1<(a.length:Int)then((eH.f ((aa a a1).f0) ((aa a a1).f1) ((aa a a1).f2) ((aa a a1).f3) ((aa a a1).f4) ((aa a a1).f5) ((aa a a1).f6) ((aa a a1).f7)).bind fun b=>(some (b.1,b.2.1,b.2.2)))else(none))else(none))else(some (false,([]:List Int),([]:List Int)))))else(some (false,([]:List Int),([]:List Int))))
def bB.l0:Nat→List Int→List Int→Int→Option (Bool)
  |0,_,_,_=>none
  |k+1,x0,x1,x5=>if x5<(x0.length:Int)then(if 0≤x5 then(if x5<(x1.length:Int)then(if(rd x0 x5)=(rd x1 x5)then(bB.l0 k x0 x1 (wrap64 (x5+1)))else(some false))else(none))else(none))else(some true)
def bB.f (k:Nat) (l0:List Int) (l1:List Int):Option (Bool):=if(l0.length:Int)=(l1.length:Int)then(bB.l0 k l0 l1 0)else(some false)
def bL.f (k:Nat) (a:Bool) (b:List Int) (c:List Int) (d:Bool) (e:List Int) (g:List Int):Option (Bool):=if(a !=d)=true then(some false)else((bB.f k b e).bind fun h=>(if h=true then((bB.f k c g).bind fun i=>(if i=true then(some true)else(some false)))else(some false)))
def gP.f (k:Nat) (a:Int) (b:List Int) (c:Int) (d:List Int):Option (Bool):=if a=c then((bB.f k b d).bind fun e=>(if e=true then(some true)else(some false)))else(some false)
def bC.l0:Nat→List (S71)→List (S71)→Int→Option (Bool)
  |0,_,_,_=>none
  |k+1,x0,x1,x5=>if x5<(x0.length:Int)then(if 0≤x5 then(if x5<(x1.length:Int)then((gP.f k ((aD x0 x5).f0) ((aD x0 x5).f1) ((aD x1 x5).f0) ((aD x1 x5).f1)).bind fun a=>(if a=true then(bC.l0 k x0 x1 (wrap64 (x5+1)))else(some false)))else(none))else(none))else(some true)
def bC.f (k:Nat) (l0:List (S71)) (l1:List (S71)):Option (Bool):=if(l0.length:Int)=(l1.length:Int)then(bC.l0 k l0 l1 0)else(some false)
def iF.f (a:Int) (b:Int) (c:Int) (d:Int) (e:Int) (g:Int):Option (Bool):=if a=d then(if b=e then(if c=g then(some true)else(some false))else(some false))else(some false)
def bI.l0:Nat→List (S97)→List (S97)→Int→Option (Bool)
  |0,_,_,_=>none
  |k+1,x0,x1,x5=>if x5<(x0.length:Int)then(if 0≤x5 then(if x5<(x1.length:Int)then((iF.f ((aM x0 x5).f0) ((aM x0 x5).f1) ((aM x0 x5).f2) ((aM x1 x5).f0) ((aM x1 x5).f1) ((aM x1 x5).f2)).bind fun a=>(if a=true then(bI.l0 k x0 x1 (wrap64 (x5+1)))else(some false)))else(none))else(none))else(some true)
def bI.f (k:Nat) (l0:List (S97)) (l1:List (S97)):Option (Bool):=if(l0.length:Int)=(l1.length:Int)then(bI.l0 k l0 l1 0)else(some false)
def bD.l0:Nat→List (S29)→List (S29)→Int→Option (Bool)
  |0,_,_,_=>none
  |k+1,x0,x1,x5=>if x5<(x0.length:Int)then(if 0≤x5 then(if x5<(x1.length:Int)then((bL.f k ((aQ x0 x5).f0) ((aQ x0 x5).f1) ((aQ x0 x5).f2) ((aQ x1 x5).f0) ((aQ x1 x5).f1) ((aQ x1 x5).f2)).bind fun a=>(if a=true then(bD.l0 k x0 x1 (wrap64 (x5+1)))else(some false)))else(none))else(none))else(some true)
def bD.f (k:Nat) (l0:List (S29)) (l1:List (S29)):Option (Bool):=if(l0.length:Int)=(l1.length:Int)then(bD.l0 k l0 l1 0)else(some false)
def gQ.f (a:Int) (b:Int) (c:Int) (d:Int) (e:Int) (g:Int) (h:Int) (i:Int):Option (Bool):=if a=e then(if b=g then(if c=h then(if d=i then(some true)else(some false))else(some false))else(some false))else(some false)
def bE.l0:Nat→List (S102)→List (S102)→Int→Option (Bool)
  |0,_,_,_=>none
  |k+1,x0,x1,x5=>if x5<(x0.length:Int)then(if 0≤x5 then(if x5<(x1.length:Int)then((gQ.f ((az x0 x5).f0) ((az x0 x5).f1) ((az x0 x5).f2) ((az x0 x5).f3) ((az x1 x5).f0) ((az x1 x5).f1) ((az x1 x5).f2) ((az x1 x5).f3)).bind fun a=>(if a=true then(bE.l0 k x0 x1 (wrap64 (x5+1)))else(some false)))else(none))else(none))else(some true)
def bE.f (k:Nat) (l0:List (S102)) (l1:List (S102)):Option (Bool):=if(l0.length:Int)=(l1.length:Int)then(bE.l0 k l0 l1 0)else(some false)
def fU.f (k:Nat) (a:Int) (b:Int) (c:List Int) (d:Int) (e:Int) (g:List (S97)) (h:List (S29)) (i:List (S102)) (j:Int) (l:Int) (m:List Int) (n:Int) (o:Int) (p:List (S97)) (q:List (S29)) (r:List (S102)):Option (Bool):=if a=j then(if b=l then((bB.f k c m).bind fun s=>(if s=true then(if d=n then(if e=o then((bI.f k g p).bind fun t=>(if t=true then((bD.f k h q).bind fun u=>(if u=true then((bE.f k i r).bind fun v=>(if v=true then(some true)else(some false)))else(some false)))else(some false)))else(some false))else(some false))else(some false)))else(some false))else(some false)
def bz.l0:Nat→List (S50)→List (S50)→Int→Option (Bool)
  |0,_,_,_=>none
  |k+1,x0,x1,x5=>if x5<(x0.length:Int)then(if 0≤x5 then(if x5<(x1.length:Int)then((fU.f k ((aa x0 x5).f0) ((aa x0 x5).f1) ((aa x0 x5).f2) ((aa x0 x5).f3) ((aa x0 x5).f4) ((aa x0 x5).f5) ((aa x0 x5).f6) ((aa x0 x5).f7) ((aa x1 x5).f0) ((aa x1 x5).f1) ((aa x1 x5).f2) ((aa x1 x5).f3) ((aa x1 x5).f4) ((aa x1 x5).f5) ((aa x1 x5).f6) ((aa x1 x5).f7)).bind fun a=>(if a=true then(bz.l0 k x0 x1 (wrap64 (x5+1)))else(some false)))else(none))else(none))else(some true)
def bz.f (k:Nat) (l0:List (S50)) (l1:List (S50)):Option (Bool):=if(l0.length:Int)=(l1.length:Int)then(bz.l0 k l0 l1 0)else(some false)
def eu.f (k:Nat) (a:List (S71)) (b:List (S50)) (c:List (S71)) (d:List (S50)):Option (Bool):=(bC.f k a c).bind fun e=>(if e=true then((bz.f k b d).bind fun g=>(if g=true then(some true)else(some false)))else(some false))
end Go.Proofs.Yteinbmkgenhocaa.P
end
section
namespace Go.Proofs.Yteinbmkgenhocaa.P
open Go Go.RowKit Go.Proofs.YteinbmkgenhocaaW.PrintWords Go.Proofs.YteinbmkgenhocaaW.PrintLast Go.Proofs.YteinbmkgenhocaaW.PrintMore
set_option linter.unusedVariables false
set_option linter.unusedSimpArgs false
def adv:Int→Nat→Int
  |a,0=>a
  |a,n+1=>adv (wrap64 (a+1)) n
theorem iT (a:Int): ∀n m,adv a (n+m)=adv (adv a n) m:=by
  intro n;induction n generalizing a with
  |zero=>intro m;simp[adv]
  |succ n ih=>intro m;rw[Nat.add_right_comm];exact ih _ m
theorem jf (a:Int):wrap64 (a+1)=adv a 1:=rfl
theorem su (a:Int) (n:Nat) (h:a+n<9223372036854775808) (h0: -9223372036854775808≤a):adv a n=a+n:=by
  induction n generalizing a with
  |zero=>simp[adv]
  | succ n ih=>
    have e:wrap64 (a+1)=a+1:=by unfold wrap64;omega
    rw[adv,e,ih (a+1) (by omega) (by omega)];omega
def iI {α:Type} (f:α→Nat):List α→Nat
  | []=>0
  |x::l=>f x+iI f l
theorem kE {α:Type} (f:α→Nat) (l:List α) (d:α) (i:Nat) (h:i<l.length):iI f (l.drop i)=f (l.getD i d)+iI f (l.drop (i+1)):=by
  rw[List.drop_eq_getElem_cons h,List.getD_eq_getElem?_getD,List.getElem?_eq_getElem h];rfl
def oG (xs:List S71) (i:Nat):S71:=xs.getD i z71
def jN (xs:List S29) (i:Nat):S29:=xs.getD i z29
def eX (xs:List S50) (i:Nat):S50:=xs.getD i z50
def iU:List Int→Nat:=iI (fun _=>1)
def iB:List S71→Nat:=iI (fun x=>1+iU x.f1)
def kF:List S97→Nat:=iI (fun _=>3)
def kG:List S102→Nat:=iI (fun _=>4)
def iC:List S29→Nat:=iI (fun x=>1+iU x.f1+iU x.f2)
def iO:List S50→Nat:=iI (fun x=>1+1+iU x.f2+1+1+kF x.f5+iC x.f6+kG x.f7)
def dV.f (a:List S71) (b:List S50) (a1:Int):Option Int:=some (adv a1 (iB a+iO b))
def jO (v v' :Value):Prop:=v' =v∨(∃a b,v= .int .i64 a∧v' = .int .i64 b)∨(∃a b,v= .bool a∧v' = .bool b)
theorem jO.trans {v v' v2:Value} (h:jO v v') (k:jO v' v2):jO v v2:=by
  rcases h with rfl|⟨a,b,rfl,rfl⟩|⟨a,b,rfl,rfl⟩
  ·exact k
  · rcases k with rfl|⟨c,d,_,rfl⟩|⟨c,d,e,rfl⟩
    ·exact .inr (.inl ⟨_,_,rfl,rfl⟩)
    ·exact .inr (.inl ⟨_,_,rfl,rfl⟩)
    ·cases e
  · rcases k with rfl|⟨c,d,e,rfl⟩|⟨c,d,_,rfl⟩
    ·exact .inr (.inr ⟨_,_,rfl,rfl⟩)
    ·cases e
    ·exact .inr (.inr ⟨_,_,rfl,rfl⟩)
structure Sc (P:Nat→Prop) (w w' :World):Prop where
  os:w'.os=w.os
  tape:w'.tape=w.tape
  output:w'.output=w.output
  size:w.heap.size≤w'.heap.size
  block: ∀(k:Nat),k<w.heap.size→¬P k→w'.heap[k]? =w.heap[k]?
  cells: ∀(k:Nat) (cs:Array Value) (t:TypeId),w.heap[k]? =some (.cells cs t (0,0))→∃cs' :Array Value,w'.heap[k]? =some (.cells cs' t (0,0))∧∀(i:Nat) v,cs[i]? =some v→∃v',cs'[i]? =some v' ∧jO v v'
section
variable {P:Nat→Prop} {w w' w2:World}
theorem Sc.refl (P:Nat→Prop) (w:World):Sc P w w:=⟨rfl,rfl,rfl,Nat.le_refl _,fun _ _ _=>rfl,fun _ cs _ h=>⟨cs,h,fun _ v hv=>⟨v,hv, .inl rfl⟩⟩⟩
theorem Sc.trans (h:Sc P w w') (k:Sc P w' w2):Sc P w w2:=by
  refine⟨k.os.trans h.os,k.tape.trans h.tape,k.output.trans h.output,Nat.le_trans h.size k.size,fun i hi hn=>(k.block i (Nat.lt_of_lt_of_le hi h.size) hn).trans (h.block i hi hn),fun i cs t hc=> ?_⟩
  obtain⟨cs1,h1,e1⟩:=h.cells i cs t hc
  obtain⟨cs2,h2,e2⟩:=k.cells i cs1 t h1
  refine⟨cs2,h2,fun j v hv=> ?_⟩
  obtain⟨v1,hv1,s1⟩:=e1 j v hv
  obtain⟨v2,hv2,s2⟩:=e2 j v1 hv1
  exact⟨v2,hv2,s1.trans s2⟩
theorem Sc.kept (h:Sc P w w'):Kept w w' P:=⟨h.size,h.block⟩
theorem Sc.below {w0:World} {base:Nat} (h:Sc P w w') (hb:Below base w0 w) (hp: ∀k,P k→base≤k) (hs:base≤w.heap.size):Below base w0 w' :=
  Below.trans hb ⟨h.os,h.tape,h.output,h.size,fun k hk=>h.block k (Nat.lt_of_lt_of_le hk hs) (fun hp' =>by have:=hp k hp';omega)⟩
theorem Sc.drewN (h:Sc P w w') (n:Nat):Sc P w (w'.drewN n):=⟨h.os,h.tape,h.output,h.size,h.block,h.cells⟩
theorem Sc.set {g j t:Nat} {cs:Array Value} (hh:w.heap[g]? =some (.cells cs t (0,0))) {v u:Value} (hc:w.cell? ⟨g,j,none⟩=some v) (hs:jO v u) (hP:P g):Sc P w (w.setCell ⟨g,j,none⟩ u):=by
  refine⟨rfl,rfl,rfl,by simp[World.setCell],fun k hk hn=> ?_,fun k cs2 t2 h2=> ?_⟩
  ·exact Below.heap_setCell w ⟨g,j,none⟩ u k (fun e=>hn (by rw[e];exact hP))
  · by_cases hk:k=g
    · subst hk
      rw[hh]at h2;cases h2
      refine⟨_,bH hh j u rfl,fun i v2 hv2=> ?_⟩
      by_cases hi:i=j
      · subst hi
        have hv:cs[i]? =some v:=(ae hh i).symm.trans hc
        have hlt:=(Array.getElem?_eq_some_iff.1 hv).1
        rw[hv]at hv2;cases hv2
        exact⟨u,by rw[Array.getElem?_setIfInBounds_self_of_lt hlt],hs⟩
      ·exact⟨v2,by rw[Array.getElem?_setIfInBounds_ne (fun e=>hi e.symm)];exact hv2, .inl rfl⟩
    ·exact⟨cs2,(Below.heap_setCell w ⟨g,j,none⟩ u k hk).trans h2,fun i v2 hv2=>⟨v2,hv2, .inl rfl⟩⟩
theorem Sc.of_below (h:Below w.heap.size w w'):Sc P w w' :=⟨h.os,h.tape,h.output,h.size,fun k hk _=>h.block k hk,fun k cs t hc=>⟨cs,(h.block k (fu hc)).trans hc,fun _ v hv=>⟨v,hv, .inl rfl⟩⟩⟩
def dM (t sz:Nat) (E:Nat→World→Nat→Nat→Prop) (P:Nat→Prop) (w:World) (v:Value) (n:Nat):Prop:=
  ∃A cap,v= .slice A n cap∧n≤9223372036854775807∧(n=0∨∃g,A=some ⟨g,0,none⟩∧P g∧(∃cs,w.heap[g]? =some (.cells cs t (0,0)))∧∀i,i<n→E i w g (i * sz))
def jA (E:Nat→World→Nat→Nat→Prop) (P:Nat→Prop):Prop:= ∀i w w' g o,Sc P w w' →(∃cs t,w.heap[g]? =some (.cells cs t (0,0)))→E i w g o→E i w' g o
theorem dM.stays {t sz:Nat} {E:Nat→World→Nat→Nat→Prop} (hE:jA E P) {v:Value} {n:Nat} (h:dM t sz E P w v n) (hs:Sc P w w'):dM t sz E P w' v n:=by
  obtain⟨A,cap,rfl,hn,h0|⟨g,rfl,hP,⟨cs,hc⟩,he⟩⟩:=h
  ·exact⟨A,cap,rfl,hn, .inl h0⟩
  · obtain⟨cs',h',_⟩:=hs.cells g cs t hc
    exact⟨_,cap,rfl,hn, .inr ⟨g,rfl,hP,⟨cs',h'⟩,fun i hi=>hE i w w' g _ hs ⟨cs,t,hc⟩ (he i hi)⟩⟩
theorem dM.at {t sz:Nat} {E:Nat→World→Nat→Nat→Prop} (hE:jA E P) {g n cap:Nat} (h:dM t sz E P w (.slice (some ⟨g,0,none⟩) n cap) n) (hs:Sc P w w') {i:Int} (h0:0≤i) (h1:i<n):
    (∃cs,w'.heap[g]? =some (.cells cs t (0,0)))∧E i.toNat w' g (i.toNat * sz):=by
  obtain⟨A,cap',e,hn,h0|⟨g',rfl,hP,hc,he⟩⟩:=dM.stays hE h hs
  ·omega
  ·cases e;exact⟨hc,he _ (by omega)⟩
def isI (w:World) (g o:Nat):Prop:= ∃a,w.cell? ⟨g,o,none⟩=some (.int .i64 a)
def isB (w:World) (g o:Nat):Prop:= ∃a,w.cell? ⟨g,o,none⟩=some (.bool a)
def isR (R:Value→Prop) (w:World) (g o:Nat):Prop:= ∃A n c,w.cell? ⟨g,o,none⟩=some (.slice A n c)∧R (.slice A n c)
theorem cellOf {g o:Nat} {v:Value} (hb: ∃cs t,w.heap[g]? =some (.cells cs t (0,0))) (hs:Sc P w w') (h:w.cell? ⟨g,o,none⟩=some v): ∃v',w'.cell? ⟨g,o,none⟩=some v' ∧jO v v' :=by
  obtain⟨cs,t,hc⟩:=hb
  obtain⟨cs',h',he⟩:=hs.cells g cs t hc
  obtain⟨v',hv,hk⟩:=he o v ((ae hc o).symm.trans h)
  exact⟨v',(ae h' o).trans hv,hk⟩
theorem Sc.slice {g o n c:Nat} {A:Option Addr} (hb: ∃cs t,w.heap[g]? =some (.cells cs t (0,0))) (hs:Sc P w w') (h:w.cell? ⟨g,o,none⟩=some (.slice A n c)):w'.cell? ⟨g,o,none⟩=some (.slice A n c):=by
  obtain⟨v',hv,rfl|⟨_,_,e,_⟩|⟨_,_,e,_⟩⟩:=cellOf hb hs h
  ·exact hv
  ·cases e
  ·cases e
theorem isI.stays {g o:Nat} (h:isI w g o) (hs:Sc P w w') (hb: ∃cs t,w.heap[g]? =some (.cells cs t (0,0))):isI w' g o:=by
  obtain⟨a,h⟩:=h
  obtain⟨v',hv,rfl|⟨_,b,_,rfl⟩|⟨_,_,e,_⟩⟩:=cellOf hb hs h
  ·exact⟨a,hv⟩
  ·exact⟨b,hv⟩
  ·cases e
theorem isB.stays {g o:Nat} (h:isB w g o) (hs:Sc P w w') (hb: ∃cs t,w.heap[g]? =some (.cells cs t (0,0))):isB w' g o:=by
  obtain⟨a,h⟩:=h
  obtain⟨v',hv,rfl|⟨_,_,e,_⟩|⟨_,b,_,rfl⟩⟩:=cellOf hb hs h
  ·exact⟨a,hv⟩
  ·cases e
  ·exact⟨b,hv⟩
theorem isR.stays {R R' :Value→Prop} {g o:Nat} (h:isR R w g o) (hs:Sc P w w') (hb: ∃cs t,w.heap[g]? =some (.cells cs t (0,0))) (hR: ∀v,R v→R' v):isR R' w' g o:=by
  obtain⟨A,n,c,h,hr⟩:=h
  obtain⟨v',hv,rfl|⟨_,_,e,_⟩|⟨_,_,e,_⟩⟩:=cellOf hb hs h
  ·exact⟨A,n,c,hv,hR _ hr⟩
  ·cases e
  ·cases e
def sw (P:Nat→Prop):Nat→World→Nat→Nat→Prop:=fun _ w g o=>isI w g o
def jF (P:Nat→Prop) (w:World) (n:Nat) (v:Value):Prop:=dM 3 1 (sw P) P w v n
theorem oH (P:Nat→Prop):jA (sw P) P:=fun _ _ _ _ _ hs hb h=>h.stays hs hb
theorem jF.stays {n:Nat} {v:Value} (h:jF P w n v) (hs:Sc P w w'):jF P w' n v:=dM.stays (oH P) h hs
def sD (P:Nat→Prop):Nat→World→Nat→Nat→Prop:=fun _ w g o=>isI w g o∧isI w g (o+1)∧isI w g (o+2)
def kZ (P:Nat→Prop) (w:World) (n:Nat) (v:Value):Prop:=dM 97 3 (sD P) P w v n
theorem lC (P:Nat→Prop):jA (sD P) P:=fun _ _ _ _ _ hs hb h=>⟨h.1.stays hs hb,h.2.1.stays hs hb,h.2.2.stays hs hb⟩
theorem kZ.stays {n:Nat} {v:Value} (h:kZ P w n v) (hs:Sc P w w'):kZ P w' n v:=dM.stays (lC P) h hs
def sF (P:Nat→Prop):Nat→World→Nat→Nat→Prop:=fun _ w g o=>isI w g o∧isI w g (o+1)∧isI w g (o+2)∧isI w g (o+3)
def lc (P:Nat→Prop) (w:World) (n:Nat) (v:Value):Prop:=dM 102 4 (sF P) P w v n
theorem kM (P:Nat→Prop):jA (sF P) P:=fun _ _ _ _ _ hs hb h=>⟨h.1.stays hs hb,h.2.1.stays hs hb,h.2.2.1.stays hs hb,h.2.2.2.stays hs hb⟩
theorem lc.stays {n:Nat} {v:Value} (h:lc P w n v) (hs:Sc P w w'):lc P w' n v:=dM.stays (kM P) h hs
def sG (P:Nat→Prop) (xs:List S71):Nat→World→Nat→Nat→Prop:=fun i w g o=>isI w g o∧isR (jF P w (oG xs i).f1.length) w g (o+1)
def qH (P:Nat→Prop) (w:World) (xs:List S71) (v:Value):Prop:=dM 71 2 (sG P xs) P w v xs.length
theorem mE (P:Nat→Prop) (xs:List S71):jA (sG P xs) P:=fun _ _ _ _ _ hs hb h=>⟨h.1.stays hs hb,h.2.stays hs hb (fun _ h=>h.stays hs)⟩
def sH (P:Nat→Prop) (xs:List S29):Nat→World→Nat→Nat→Prop:=fun i w g o=>isB w g o∧isR (jF P w (jN xs i).f1.length) w g (o+1)∧isR (jF P w (jN xs i).f2.length) w g (o+2)
def lg (P:Nat→Prop) (w:World) (xs:List S29) (v:Value):Prop:=dM 29 3 (sH P xs) P w v xs.length
theorem lD (P:Nat→Prop) (xs:List S29):jA (sH P xs) P:=fun _ _ _ _ _ hs hb h=>⟨h.1.stays hs hb,h.2.1.stays hs hb (fun _ h=>h.stays hs),h.2.2.stays hs hb (fun _ h=>h.stays hs)⟩
theorem lg.stays {xs:List S29} {v:Value} (h:lg P w xs v) (hs:Sc P w w'):lg P w' xs v:=dM.stays (lD P xs) h hs
def sI (P:Nat→Prop) (xs:List S50):Nat→World→Nat→Nat→Prop:=fun i w g o=>isI w g o∧isI w g (o+1)∧isR (jF P w (eX xs i).f2.length) w g (o+2)∧isI w g (o+3)∧isI w g (o+4)∧isR (kZ P w (eX xs i).f5.length) w g (o+5)∧isR (lg P w (eX xs i).f6) w g (o+6)∧isR (lc P w (eX xs i).f7.length) w g (o+7)
def qI (P:Nat→Prop) (w:World) (xs:List S50) (v:Value):Prop:=dM 50 8 (sI P xs) P w v xs.length
theorem iP (P:Nat→Prop) (xs:List S50):jA (sI P xs) P:=fun _ _ _ _ _ hs hb ⟨h0,h1,h2,h3,h4,h5,h6,h7⟩=>⟨h0.stays hs hb,h1.stays hs hb,h2.stays hs hb (fun _ h=>h.stays hs),h3.stays hs hb,h4.stays hs hb,h5.stays hs hb (fun _ h=>h.stays hs),h6.stays hs hb (fun _ h=>h.stays hs),h7.stays hs hb (fun _ h=>h.stays hs)⟩
end
end Go.Proofs.Yteinbmkgenhocaa.P
end
section
namespace Go.Proofs.Yteinbmkgenhocaa.P
open Go.RowKit Go.Proofs.YteinbmkgenhocaaW.PrintWords Go.Proofs.YteinbmkgenhocaaW.PrintLast Go.Proofs.YteinbmkgenhocaaW.PrintMore
attribute [local go_sem] ak au aA aC ai aj av ax
set_option linter.unusedVariables false
set_option linter.unusedSimpArgs false
def laws_FnExactShapeStart.j0:Nat→Int→Bool→List (S62)→List (S68)→Bool→List Int→List Int→Bool→List Int→List Int→Option (Bool)
  |0,_,_,_,_,_,_,_,_,_,_=>none
  |k+1,x1,q,e,g,h,i,j,b,l,m=>if q=true then(some false)else((gp.f k b l m 1).bind fun a=>((dJ.f k b a.2.1 a.2.2 1).bind fun n=>(if n<0 then(some false)else(if n=a.1 then((di.f k e g).bind fun d=>((dC.f k d.1 d.2 x1).bind fun c=>((bL.f k c.1 c.2.1 c.2.2 h i j).bind fun p=>(if p=true then((dJ.f k b a.2.1 a.2.2 1).bind fun o=>(if o<0 then(some false)else(if o=a.1 then(some true)else(some false))))else(some false)))))else(some false)))))
def laws_FnExactShapeStart.f (k:Nat) (d:List (S62)) (e:List (S68)) (a1:Int):Option (Bool):=(gm.f k d e 1048576).bind fun i=>(if i<0 then(some true)else((di.f k d e).bind fun g=>((eG.f k g.1 g.2 a1).bind fun a=>((di.f k d e).bind fun c=>((dC.f k c.1 c.2 a1).bind fun b=>((bL.f k b.1 b.2.1 b.2.2 a.1 a.2.1 a.2.2).bind fun j=>(if j=true then((di.f k d e).bind fun h=>((eu.f k c.1 c.2 h.1 h.2).bind fun l=>(if l=true then((dV.f c.1 c.2 1).bind fun m=>(if m<0 then(laws_FnExactShapeStart.j0 k a1 true d e a.1 a.2.1 a.2.2 b.1 b.2.1 b.2.2)else((bL.f k b.1 b.2.1 b.2.2 a.1 a.2.1 a.2.2).bind fun n=>(laws_FnExactShapeStart.j0 k a1 (!n) d e a.1 a.2.1 a.2.2 b.1 b.2.1 b.2.2))))else(some false))))else(some false))))))))
set_option maxHeartbeats 8000000 in
set_option maxRecDepth 100000 in
theorem bR.calls (k:Nat) (i:Nat→Prop) (d:Value) (l0:List Int) (a1:Int) (r1:Int) (r2:List Int) (w0 w:World) (hB:Below w0.heap.size w0 w) (ho0:Kd.R (Kd.int .i64) 3 w w0.heap.size i d l0) (h:bR.f k l0 a1=some (r1,r2)):
  Calls Try.prog 28 #[d, .int .i64 a1] w fun e w' =>e= .returned (.int .i64 r1)∧Kd.R (Kd.int .i64) 3 w' w0.heap.size (fun k_=>(i k_∨w.heap.size≤k_)) d r2∧Below w0.heap.size w0 w' ∧Kept w w' (fun k_=>i k_):=by
 have z:=Aside0.mk (show Kd.R (Kd.int .i64) 3 w w0.heap.size (fun k_=>(i k_∨w.heap.size≤k_)) d l0 from Kd.R_mono ho0 (fun k_ hk=>(.inl hk)))
 have HK:=Aside0.mk (Kept.refl w (fun k_=>i k_))
 have HW0:=Aside0.mk hB.size
 have HB:=Aside0.mk hB
 clear hB
 have H:(bR.l0 k l0 a1 0)=some (r1,r2):=h
 clear h
 have H' :=Aside0.mk H
 clear H
 go_enter Try.func28,Try.ntmps28
 go_wp2
 go_loopg [1,5] k (fun kq v1 v5 w' => ∃(c:List Int) (g:Int) (a:Int),v1= .int .i64 g∧v5= .int .i64 a∧Aside0 (bR.l0 kq c g a=some (r1,r2))∧Aside0 (kq≤k)∧Aside0 (Kd.R (Kd.int .i64) 3 w' w0.heap.size (fun k_=>(i k_∨w.heap.size≤k_)) d c)∧Aside0 (Kept w w' (fun k_=>i k_))∧Aside0 (Below w0.heap.size w0 w'))
 case atStart=>exact⟨(l0),(a1),(0),(by first|rfl|(simp;done)|(simp[*];done)),(by first|rfl|(simp;done)|(simp[*];done)),H',⟨Nat.le_refl _⟩,⟨by(with_reducible repeat(first|apply Kd.R_alloc|apply Kd.R_drewN|apply Kd.R_drew));exact z.out⟩,⟨by repeat(first|(with_reducible first|exact HK.out|apply Kept.alloc|apply Kept.drewN|apply Kept.drew)|exact HK.out)⟩,⟨bl⟩⟩
 case round=>
  clear H'
  obtain⟨c,g,a,rfl,rfl,HA,r,b,HK,HB⟩:=hrel
  cases gk with
  |zero=>exact absurd HA.out (by simp[bR.l0])
  | succ k1=>
   have H:=HA.out
   clear HA
   simp only[bR.l0]at H
   by_cases c3:a<(c.length:Int)
   ·rw[if_pos c3]at H
    have y:decide (a<(c.length:Int))=true:=decide_eq_true c3
    clear c3
    by_cases c4:0≤a
    ·rw[if_pos c4]at H
     have L:decide (0≤a)=true:=decide_eq_true c4
     clear c4
     obtain⟨m,j⟩: ∃y_:List Int,y_=(c.set (a:Int).toNat g):=⟨_,rfl⟩
     replace H:(bR.l0 k1 m (wrap64 (g+1)) (wrap64 (a+1)))=some (r1,r2):=by first|(rw[j];with_reducible exact H)|(have n:=(Option.bind_some _ _).symm.trans H;rw[j];with_reducible exact n)|(have n:=(Option.bind_some _ _).symm.trans H;with_reducible exact n)|with_reducible exact H|(rw[j];exact H)|exact H
     have q:=Aside0.mk j
     clear j
     have H' :=Aside0.mk H
     clear H
     obtain⟨M,A,B⟩:=Kd.R_slice b.out
     subst B
     have p5:0≤(a:Int):=od
     have q5:(a:Int)<((c.length:Int):Int):=od
     obtain⟨l,O,s,u,D,P,x⟩:=Kd.R_form b.out (by omega)
     (first|cases s|(injection s with ea_ en_ ec_;(first|subst ea_|(injection ea_ with ea_;subst ea_));subst ec_;clear en_))
     have E:=Aside0.mk u
     have T:=Aside0.mk x
     clear u D x
     have I:=Aside0.mk (show(i l∨w.heap.size≤l) from(b.out.1 _ rfl))
     obtain⟨J,K⟩:=Kd.R_celln 0 b.out (a:Int) p5 q5
     replace p5:=eq_true p5
     replace q5:=eq_true q5
     have o:=Kd.R_putg b.out (a:Int) g
     go_wp2_with (first|((with_reducible refine dE (t:=3) (p:=15) rfl ?_);refine dw (t:=3) (p:=15) (v:= ?vo_w8) (w1:=(wr.setCell ⟨l,(a:Int).toNat,none⟩ (.int .i64 g))) ?hg ?ho ?hn ?hr ?_;(case ho=>rfl);(case hg=>rfl);(case hn=>rfl);(case hr=>first|(go_simp;done)|(go_simp;rfl));intro w8 hw;have hg:wr.grownBy w8 (some l):=(by rw[hw];exact o.2);have hp_:Kd.R (Kd.int .i64) 3 w8 w0.heap.size (fun k_=>(i k_∨w.heap.size≤k_)) (.slice (some ⟨l,0,none⟩) c.length A) m:=(by rw[hw,q.out];exact o.1);clear o;replace HK:=Aside0.mk (Kept.of_grown (S:=(fun k_=>i k_)) hg (by repeat(first|(with_reducible first|exact HK.out|apply Kept.alloc|apply Kept.drewN|apply Kept.drew)|exact HK.out)) (fun k_ e_=>(b.out.1 k_ e_)));replace b:=Aside0.mk (hp_);replace HB:=Aside0.mk ((by rw[hw];exact bn (HB.out) E.out:Below w0.heap.size w0 w8));clear hg hw hp_))
     go_roundg k1
     case measure=>have:=r.out;omega
     case rel=>exact⟨(m),(wrap64 (g+1)),(wrap64 (a+1)),(by first|rfl|(simp;done)|(simp[*];done)),(by first|rfl|(simp;done)|(simp[*];done)),H',⟨by have:=r.out;omega⟩,⟨by(with_reducible repeat(first|apply Kd.R_alloc|apply Kd.R_drewN|apply Kd.R_drew));exact b.out⟩,⟨by repeat(first|(with_reducible first|exact HK.out|apply Kept.alloc|apply Kept.drewN|apply Kept.drew)|exact HK.out)⟩,⟨bl⟩⟩
    ·rw[if_neg c4]at H
     exact absurd H (by simp)
   ·rw[if_neg c3]at H
    have y:decide (a<(c.length:Int))=false:=decide_eq_false c3
    clear c3
    simp only[Option.some.injEq,Prod.mk.injEq]at H
    obtain⟨rfl,rfl⟩:=H
    obtain⟨U,W,G⟩:=Kd.R_slice b.out
    subst G
    go_wp2
    go_ret
    exact⟨by first|rfl|(simp[aY,aZ]<;>rfl)|(simp[*,aY,aZ]<;>rfl),by(with_reducible repeat(first|apply Kd.R_alloc|apply Kd.R_drewN|apply Kd.R_drew));exact b.out,bl,by repeat(first|(with_reducible first|exact HK.out|apply Kept.alloc|apply Kept.drewN|apply Kept.drew)|exact HK.out)⟩
set_option maxHeartbeats 8000000 in
set_option maxRecDepth 100000 in
theorem gp.calls (k:Nat) (x:Bool) (a:Nat→Prop) (l:Value) (j:List Int) (b:Nat→Prop) (m:Value) (g:List Int) (a1:Int) (r1:Int) (r2:List Int) (r3:List Int) (w0 w:World) (hB:Below w0.heap.size w0 w) (z:Kd.R (Kd.int .i64) 3 w w0.heap.size a l j) (q: ∀k_,a k_→¬b k_) (A:Kd.R (Kd.int .i64) 3 w w0.heap.size b m g) (r: ∀k_,b k_→¬a k_) (h:gp.f k x j g a1=some (r1,r2,r3)):
  Calls Try.prog 11 #[.agg #[.bool x,l,m], .int .i64 a1] w fun e w' =>e= .returned (.int .i64 r1)∧Kd.R (Kd.int .i64) 3 w' w0.heap.size (fun k_=>((a k_∨b k_)∨w.heap.size≤k_)) l r2∧Kd.R (Kd.int .i64) 3 w' w0.heap.size (fun k_=>((a k_∨b k_)∨w.heap.size≤k_)) m r3∧Below w0.heap.size w0 w' ∧Kept w w' (fun k_=>a k_∨b k_):=by
 have O:=Try.underlying29
 have c:=Aside0.mk (show Kd.R (Kd.int .i64) 3 w w0.heap.size (fun k_=>((a k_∨b k_)∨w.heap.size≤k_)∧some k_≠(m:Value).ownBlock) l j from Kd.R_mono z (fun k_ hk=>⟨(.inl (.inl hk)),fun e_=>q k_ hk (A.1 k_ e_.symm)⟩))
 have d:=Aside0.mk (show Kd.R (Kd.int .i64) 3 w w0.heap.size (fun k_=>((a k_∨b k_)∨w.heap.size≤k_)∧some k_≠(l:Value).ownBlock) m g from Kd.R_mono A (fun k_ hk=>⟨(.inl (.inr hk)),fun e_=>r k_ hk (z.1 k_ e_.symm)⟩))
 have HK:=Aside0.mk (Kept.refl w (fun k_=>a k_∨b k_))
 have HW0:=Aside0.mk hB.size
 have HB:=Aside0.mk hB
 clear hB
 have H:((bR.f k j a1).bind fun B=>((bR.f k g B.1).bind fun n=>(some (n.1,B.2,n.2))))=some (r1,r2,r3):=h
 clear h
 replace H:=Option.bind_eq_some_iff.mp H
 obtain⟨⟨o,y⟩,J,H⟩:=H
 replace H:((bR.f k g o).bind fun n=>(some (n.1,y,n.2)))=some (r1,r2,r3):=H
 have A3:=Aside0.mk J
 clear J
 replace H:=Option.bind_eq_some_iff.mp H
 obtain⟨⟨G,I⟩,K,H⟩:=H
 replace H:(some (G,y,I))=some (r1,r2,r3):=H
 have A4:=Aside0.mk K
 clear K
 simp only[Option.some.injEq,Prod.mk.injEq]at H
 obtain⟨rfl,rfl,rfl⟩:=H
 obtain⟨s,t,L⟩:=Kd.R_slice c.out
 subst L
 obtain⟨u,v,M⟩:=Kd.R_slice d.out
 subst M
 go_enter Try.func11,Try.ntmps11
 go_wp2_with (first|((with_reducible refine gd 2 rfl ?_);refine bx 2 #[.bool x, .slice s j.length t, .slice u g.length v] 29 ?_;intro D hg w7 hbox hb;have i:=Aside0.mk hbox;have p:=Aside0.mk ((by rw[hg];exact(by first|exact HK.out.1|exact(show Kept w _ (fun k_=>a k_∨b k_) from by repeat(first|(with_reducible first|exact HK.out|apply Kept.alloc|apply Kept.drewN|apply Kept.drew)|exact HK.out)).1):w.heap.size≤D));have E:=Aside0.mk ((by rw[hg];exact(aK bl):w0.heap.size≤D));replace c:=Aside0.mk (Kd.R_below (by(with_reducible repeat(first|apply Kd.R_alloc|apply Kd.R_drewN|apply Kd.R_drew));exact c.out) hb);replace d:=Aside0.mk (Kd.R_below (by(with_reducible repeat(first|apply Kd.R_alloc|apply Kd.R_drewN|apply Kd.R_drew));exact d.out) hb);replace HK:=Aside0.mk (Kept.below (S:=(fun k_=>a k_∨b k_)) (by repeat(first|(with_reducible first|exact HK.out|apply Kept.alloc|apply Kept.drewN|apply Kept.drew)|exact HK.out)) hb);replace HB:=hs HB hb;clear hb hbox hg;obtain⟨_,_,_,_,_,_⟩:=cf3 i)|((with_reducible refine gc 28 rfl ?_);refine gl (some 8) Try.func28 #[.slice s j.length t, .int .i64 a1] rfl ?_;(with_reducible refine(bR.calls k (fun k_=>some k_=(.slice s j.length t:Value).ownBlock) (.slice s j.length t) j a1 o y w0 _ ?s1 ?s2 A3.out).mono ?_);(case s1=>repeat(first|(with_reducible first|exact HB.out|apply bJ|apply bG|apply aW|refine bn ?_ E.out)|exact HB.out));(case s2=>exact Kd.R_tight rfl c.out);rintro e w9 ⟨rfl,hy0,hb,hkp⟩;refine⟨_,rfl, ?_⟩;replace d:=Aside0.mk (Kd.R_mono (ok' :=fun k_=>((a k_∨b k_)∨w.heap.size≤k_)∧some k_≠(.slice s j.length t:Value).ownBlock) (Kd.R_keptB (d.out) hkp (fun k_ hk_ hs_=>(hk_.2) hs_)) (fun k_ hk_=>⟨hk_.1.1,hk_.1.2⟩));replace i:=Aside0.mk (gX (by(with_reducible repeat(first|refine ah ?_ _|refine af ?_|refine ag ?_ _));exact i.out) hkp (fun hs_=>(fun e_=>(Kd.R_ne c.out i.out (by decide)) e_) hs_));replace HK:=Aside0.mk (Kept.then_ (S:=(fun k_=>a k_∨b k_)) (by repeat(first|(with_reducible first|exact HK.out|apply Kept.alloc|apply Kept.drewN|apply Kept.drew|refine Kept.setCell ?_ (.inr p.out) _)|exact HK.out)) hkp (fun k_ hs_=>(fun e_=>(c.out.1 k_ e_.symm).1) hs_));replace c:=Aside0.mk (Kd.R_reok rfl hy0 (fun k_ e_=>c.out.1 k_ e_));replace HB:=Aside0.mk (hb);(try clear hb);(try clear hkp);(try clear hy0);obtain⟨_,_,_,_,_,_⟩:=cf3 i)|((with_reducible refine gc 28 rfl ?_);refine gl (some 12) Try.func28 #[.slice u g.length v, .int .i64 o] rfl ?_;(with_reducible refine(bR.calls k (fun k_=>some k_=(.slice u g.length v:Value).ownBlock) (.slice u g.length v) g o G I w0 _ ?s1 ?s2 A4.out).mono ?_);(case s1=>repeat(first|(with_reducible first|exact HB.out|apply bJ|apply bG|apply aW|refine bn ?_ E.out)|exact HB.out));(case s2=>exact Kd.R_tight rfl d.out);rintro e P ⟨rfl,hy0,hb,hkp⟩;refine⟨_,rfl, ?_⟩;replace c:=Aside0.mk (Kd.R_mono (ok' :=fun k_=>((a k_∨b k_)∨w.heap.size≤k_)∧some k_≠(.slice u g.length v:Value).ownBlock) (Kd.R_keptB (c.out) hkp (fun k_ hk_ hs_=>(hk_.2) hs_)) (fun k_ hk_=>⟨hk_.1.1,hk_.1.2⟩));replace i:=Aside0.mk (gX (by(with_reducible repeat(first|refine ah ?_ _|refine af ?_|refine ag ?_ _));exact i.out) hkp (fun hs_=>(fun e_=>(Kd.R_ne d.out i.out (by decide)) e_) hs_));replace HK:=Aside0.mk (Kept.then_ (S:=(fun k_=>a k_∨b k_)) (by repeat(first|(with_reducible first|exact HK.out|apply Kept.alloc|apply Kept.drewN|apply Kept.drew|refine Kept.setCell ?_ (.inr p.out) _)|exact HK.out)) hkp (fun k_ hs_=>(fun e_=>(d.out.1 k_ e_.symm).1) hs_));replace d:=Aside0.mk (Kd.R_reok rfl hy0 (fun k_ e_=>d.out.1 k_ e_));replace HB:=Aside0.mk (hb);(try clear hb);(try clear hkp);(try clear hy0)))
 go_ret
 exact⟨by first|rfl|(simp[aY,aZ]<;>rfl)|(simp[*,aY,aZ]<;>rfl),by(with_reducible repeat(first|apply Kd.R_alloc|apply Kd.R_drewN|apply Kd.R_drew));exact Kd.R_mono c.out (fun _ hk=>hk.1),by(with_reducible repeat(first|apply Kd.R_alloc|apply Kd.R_drewN|apply Kd.R_drew));exact Kd.R_mono d.out (fun _ hk=>hk.1),bl,by repeat(first|(with_reducible first|exact HK.out|apply Kept.alloc|apply Kept.drewN|apply Kept.drew|refine Kept.setCell ?_ (.inr p.out) _)|exact HK.out)⟩
set_option maxHeartbeats 8000000 in
set_option maxRecDepth 100000 in
theorem bO.calls (k:Nat) (A0:Option Addr) (c0:Nat) (l0:List Int) (a1:Int) (r:Int) (w:World) (hr0:Kd.C (Kd.int .i64) w A0 l0.length l0) (hc0:l0.length≤c0) (h:bO.f k l0 a1=some r):
  Calls Try.prog 29 #[.slice A0 l0.length c0, .int .i64 a1] w fun e w' =>e= .returned (.int .i64 r)∧Drawn0 w w' :=by
 have l:=Aside0.mk hr0
 have s:=Aside0.mk hc0
 clear hr0 hc0
 have H:(bO.l0 k l0 a1 0)=some r:=h
 clear h
 have H' :=Aside0.mk H
 clear H
 go_enter Try.func29,Try.ntmps29
 go_wp2
 go_loopg [1,5] k (fun kq v1 v5 w' => ∃(d:Int) (a:Int),v1= .int .i64 d∧v5= .int .i64 a∧Aside0 (bO.l0 kq l0 d a=some r)∧Aside0 (kq≤k)∧Drawn0 w w')
 case atStart=>exact⟨(a1),(0),(by first|rfl|(simp;done)|(simp[*];done)),(by first|rfl|(simp;done)|(simp[*];done)),H',⟨Nat.le_refl _⟩,by repeat(first|exact Drawn0.refl _|apply Drawn0.step)⟩
 case round=>
  clear H'
  obtain⟨d,a,rfl,rfl,HA,m,⟨m1,rfl⟩⟩:=hrel
  cases gk with
  |zero=>exact absurd HA.out (by simp[bO.l0])
  | succ k1=>
   have H:=HA.out
   clear HA
   simp only[bO.l0]at H
   by_cases c3:a<(l0.length:Int)
   ·rw[if_pos c3]at H
    have n:decide (a<(l0.length:Int))=true:=decide_eq_true c3
    clear c3
    by_cases c4:0≤a
    ·rw[if_pos c4]at H
     have q:decide (0≤a)=true:=decide_eq_true c4
     clear c4
     by_cases c5:(rd l0 a)=d
     ·rw[if_pos c5]at H
      have o:=beq_iff_eq.mpr c5
      have p:=bne_eq_false_iff_eq.mpr c5
      clear c5
      have H' :=Aside0.mk H
      clear H
      have b:0≤(a:Int):=od
      have c:a<(l0.length:Int):=od
      obtain⟨j,g,i⟩:=Kd.at_int l.out a b c
      cases g
      replace b:=eq_true b
      replace c:=eq_true c
      go_wp2
      go_roundg k1
      case measure=>have:=m.out;omega
      case rel=>exact⟨(wrap64 (d+1)),(wrap64 (a+1)),(by first|rfl|(simp;done)|(simp[*];done)),(by first|rfl|(simp;done)|(simp[*];done)),H',⟨by have:=m.out;omega⟩,by repeat(first|exact Drawn0.refl _|apply Drawn0.step)⟩
     ·rw[if_neg c5]at H
      have o:=beq_eq_false_iff_ne.mpr c5
      have p:=bne_iff_ne.mpr c5
      obtain rfl:=Option.some.inj H;clear H
      have b:0≤(a:Int):=od
      have c:a<(l0.length:Int):=od
      obtain⟨j,g,i⟩:=Kd.at_int l.out a b c
      cases g
      replace b:=eq_true b
      replace c:=eq_true c
      go_wp2
      go_ret
      exact⟨by first|rfl|(simp;done)|(simp[*];done),by repeat(first|exact Drawn0.refl _|apply Drawn0.step)⟩
    ·rw[if_neg c4]at H
     exact absurd H (by simp)
   ·rw[if_neg c3]at H
    have n:decide (a<(l0.length:Int))=false:=decide_eq_false c3
    clear c3
    obtain rfl:=Option.some.inj H;clear H
    go_wp2
    go_ret
    exact⟨by first|rfl|(simp;done)|(simp[*];done),by repeat(first|exact Drawn0.refl _|apply Drawn0.step)⟩
set_option maxHeartbeats 8000000 in
set_option maxRecDepth 100000 in
theorem dJ.calls (k:Nat) (v:Bool) (g:Option Addr) (i:Nat) (b:List Int) (j:Option Addr) (l:Nat) (c:List Int) (a1:Int) (r:Int) (w:World) (o:Kd.C (Kd.int .i64) w g b.length b) (p:b.length≤i) (q:Kd.C (Kd.int .i64) w j c.length c) (s:c.length≤l) (h:dJ.f k v b c a1=some r):
  Calls Try.prog 12 #[.agg #[.bool v, .slice g b.length i, .slice j c.length l], .int .i64 a1] w fun e w' =>e= .returned (.int .i64 r)∧Below w.heap.size w w' :=by
 have z:=Try.underlying29
 have m:=Aside0.mk o
 have n:=Aside0.mk p
 clear o p
 have t:=Aside0.mk q
 have u:=Aside0.mk s
 clear q s
 have HB:=Aside0.mk (Below.refl w.heap.size w)
 have H:((bO.f k b a1).bind fun a=>(if a<0 then(some (-1))else((bO.f k c a).bind fun d=>(if d<0 then(some (-1))else(some d)))))=some r:=h
 clear h
 obtain⟨a,A3,H⟩:=ob H
 by_cases c4:a<0
 ·rw[if_pos c4]at H
  have x:decide (a<0)=true:=decide_eq_true c4
  clear c4
  obtain rfl:=Option.some.inj H;clear H
  go_enter Try.func12,Try.ntmps12
  go_wp2_with (first|((with_reducible refine gc 29 rfl ?_);refine gl (some 8) Try.func29 #[.slice g b.length i, .int .i64 a1] rfl ?_;(with_reducible refine(bO.calls k _ _ b a1 a _ ?s1 ?s2 A3.out).mono ?_);(case s1=>exact cb m.out);(case s2=>exact n.out);rintro e w' ⟨rfl,⟨nd,rfl⟩⟩;refine⟨_,rfl, ?_⟩))
  go_ret
  exact fin
 ·rw[if_neg c4]at H
  have x:decide (a<0)=false:=decide_eq_false c4
  clear c4
  obtain⟨d,A7,H⟩:=ob H
  by_cases c8:d<0
  ·rw[if_pos c8]at H
   have y:decide (d<0)=true:=decide_eq_true c8
   clear c8
   obtain rfl:=Option.some.inj H;clear H
   go_enter Try.func12,Try.ntmps12
   go_wp2_with (first|((with_reducible refine gc 29 rfl ?_);refine gl (some 8) Try.func29 #[.slice g b.length i, .int .i64 a1] rfl ?_;(with_reducible refine(bO.calls k _ _ b a1 a _ ?s1 ?s2 A3.out).mono ?_);(case s1=>exact cb m.out);(case s2=>exact n.out);rintro e w' ⟨rfl,⟨nd,rfl⟩⟩;refine⟨_,rfl, ?_⟩)|((with_reducible refine gc 29 rfl ?_);refine gl (some 14) Try.func29 #[.slice j c.length l, .int .i64 a] rfl ?_;(with_reducible refine(bO.calls k _ _ c a d _ ?s1 ?s2 A7.out).mono ?_);(case s1=>exact cb t.out);(case s2=>exact u.out);rintro e w' ⟨rfl,⟨nd,rfl⟩⟩;refine⟨_,rfl, ?_⟩))
   go_ret
   exact fin
  ·rw[if_neg c8]at H
   have y:decide (d<0)=false:=decide_eq_false c8
   clear c8
   obtain rfl:=Option.some.inj H;clear H
   go_enter Try.func12,Try.ntmps12
   go_wp2_with (first|((with_reducible refine gc 29 rfl ?_);refine gl (some 8) Try.func29 #[.slice g b.length i, .int .i64 a1] rfl ?_;(with_reducible refine(bO.calls k _ _ b a1 a _ ?s1 ?s2 A3.out).mono ?_);(case s1=>exact cb m.out);(case s2=>exact n.out);rintro e w' ⟨rfl,⟨nd,rfl⟩⟩;refine⟨_,rfl, ?_⟩)|((with_reducible refine gc 29 rfl ?_);refine gl (some 14) Try.func29 #[.slice j c.length l, .int .i64 a] rfl ?_;(with_reducible refine(bO.calls k _ _ c a d _ ?s1 ?s2 A7.out).mono ?_);(case s1=>exact cb t.out);(case s2=>exact u.out);rintro e w' ⟨rfl,⟨nd,rfl⟩⟩;refine⟨_,rfl, ?_⟩))
   go_ret
   exact fin
set_option maxHeartbeats 8000000 in
set_option maxRecDepth 100000 in
theorem bY.calls (A0:Option Addr) (c0:Nat) (l0:List Int) (a1:Int) (r:Int) (w:World) (hr0:Kd.C (Kd.int .i64) w A0 l0.length l0) (hc0:l0.length≤c0) (h:bY.f l0 a1=some r):
  Calls Try.prog 49 #[.slice A0 l0.length c0, .int .i64 a1] w fun e w' =>e= .returned (.int .i64 r)∧Drawn0 w w' :=by
 have b:=Aside0.mk hr0
 have c:=Aside0.mk hc0
 clear hr0 hc0
 have H:(if(wrap64 (a1 - (l0.length:Int)))<0 then(some (-1))else(some (wrap64 (a1 - (l0.length:Int)))))=some r:=h
 clear h
 by_cases c3:(wrap64 (a1 - (l0.length:Int)))<0
 ·rw[if_pos c3]at H
  have a:decide ((wrap64 (a1 - (l0.length:Int)))<0)=true:=decide_eq_true c3
  clear c3
  obtain rfl:=Option.some.inj H;clear H
  go_enter Try.func49,Try.ntmps49
  go_wp2
  go_ret
  exact⟨by first|rfl|(simp;done)|(simp[*];done),by repeat(first|exact Drawn0.refl _|apply Drawn0.step)⟩
 ·rw[if_neg c3]at H
  have a:decide ((wrap64 (a1 - (l0.length:Int)))<0)=false:=decide_eq_false c3
  clear c3
  obtain rfl:=Option.some.inj H;clear H
  go_enter Try.func49,Try.ntmps49
  go_wp2
  go_ret
  exact⟨by first|rfl|(simp;done)|(simp[*];done),by repeat(first|exact Drawn0.refl _|apply Drawn0.step)⟩
set_option maxHeartbeats 8000000 in
set_option maxRecDepth 100000 in
theorem gL.calls (l:Int) (c:Option Addr) (d:Nat) (a:List Int) (a1:Int) (r:Int) (w:World) (g:Kd.C (Kd.int .i64) w c a.length a) (i:a.length≤d) (h:gL.f l a a1=some r):
  Calls Try.prog 30 #[.agg #[.int .i64 l, .slice c a.length d], .int .i64 a1] w fun e w' =>e= .returned (.int .i64 r)∧Below w.heap.size w w' :=by
 have n:=Try.underlying62
 have j:=Aside0.mk g
 have k:=Aside0.mk i
 clear g i
 have HB:=Aside0.mk (Below.refl w.heap.size w)
 have H:((bY.f a a1).bind fun b=>(if b<0 then(some (-1))else(some b)))=some r:=h
 clear h
 obtain⟨b,A3,H⟩:=ob H
 by_cases c4:b<0
 ·rw[if_pos c4]at H
  have m:decide (b<0)=true:=decide_eq_true c4
  clear c4
  obtain rfl:=Option.some.inj H;clear H
  go_enter Try.func30,Try.ntmps30
  go_wp2_with (first|((with_reducible refine gc 49 rfl ?_);refine gl (some 8) Try.func49 #[.slice c a.length d, .int .i64 a1] rfl ?_;(with_reducible refine(bY.calls _ _ a a1 b _ ?s1 ?s2 A3.out).mono ?_);(case s1=>exact cb j.out);(case s2=>exact k.out);rintro e w' ⟨rfl,⟨nd,rfl⟩⟩;refine⟨_,rfl, ?_⟩))
  go_ret
  exact fin
 ·rw[if_neg c4]at H
  have m:decide (b<0)=false:=decide_eq_false c4
  clear c4
  obtain rfl:=Option.some.inj H;clear H
  go_enter Try.func30,Try.ntmps30
  go_wp2_with (first|((with_reducible refine gc 49 rfl ?_);refine gl (some 8) Try.func49 #[.slice c a.length d, .int .i64 a1] rfl ?_;(with_reducible refine(bY.calls _ _ a a1 b _ ?s1 ?s2 A3.out).mono ?_);(case s1=>exact cb j.out);(case s2=>exact k.out);rintro e w' ⟨rfl,⟨nd,rfl⟩⟩;refine⟨_,rfl, ?_⟩))
  go_ret
  exact fin
end Go.Proofs.Yteinbmkgenhocaa.P
end
