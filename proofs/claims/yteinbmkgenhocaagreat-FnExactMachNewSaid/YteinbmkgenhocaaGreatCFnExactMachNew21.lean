/- A part of the claim FnExactMachNew. -/
import Derived.Test.YteinbmkgenhocaaGreatProg
import Derived.Below
import Derived.Deep.Draws
import Derived.Deep.AppendLies
import Derived.Maps.AppendAt
import Derived.OwnWalk
import Derived.Laws.BytesArg
import Derived.Laws.MakeOwn
import Derived.Laws.OwnMore
import Derived.Deep.OwnRows
import Derived.Tactics
import Derived.Lib.ConvBytes
import Derived.Laws.Slices
import Derived.WalkKit
import Derived.KernelRfl
import Derived.RowKit3
import Derived.Deep.LoopGhost
import Derived.Deep.QuietTactic
import Derived.BigQuiet
import Derived.WideLaws
import Derived.Deep.DeepCutAuto
import Derived.Deep.CutBlock
import Derived.Deep.RegionHeld3
import Derived.Laws.Rows
import Derived.Lib.AppendStr
import Derived.ArgAppend
import Derived.Laws.IdiomCopy
import Derived.OrdersHeld
import Derived.Laws.BitsLemmas
import Derived.RowKit
import Derived.Test.YteinbmkgenhocaaGreatCFnExactMachNew0
import Derived.Test.YteinbmkgenhocaaGreatCFnExactMachNew1
import Derived.Test.YteinbmkgenhocaaGreatCFnExactMachNew2
import Derived.Test.YteinbmkgenhocaaGreatCFnExactMachNew3
import Derived.Test.YteinbmkgenhocaaGreatCFnExactMachNew4
import Derived.Test.YteinbmkgenhocaaGreatCFnExactMachNew5
import Derived.Test.YteinbmkgenhocaaGreatCFnExactMachNew6
import Derived.Test.YteinbmkgenhocaaGreatCFnExactMachNew7
import Derived.Test.YteinbmkgenhocaaGreatCFnExactMachNew8
import Derived.Test.YteinbmkgenhocaaGreatCFnExactMachNew9
import Derived.Test.YteinbmkgenhocaaGreatCFnExactMachNew10
import Derived.Test.YteinbmkgenhocaaGreatCFnExactMachNew11
import Derived.Test.YteinbmkgenhocaaGreatCFnExactMachNew12
import Derived.Test.YteinbmkgenhocaaGreatCFnExactMachNew13
import Derived.Test.YteinbmkgenhocaaGreatCFnExactMachNew14
import Derived.Test.YteinbmkgenhocaaGreatCFnExactMachNew15
import Derived.Test.YteinbmkgenhocaaGreatCFnExactMachNew16
import Derived.Test.YteinbmkgenhocaaGreatCFnExactMachNew17
import Derived.Test.YteinbmkgenhocaaGreatCFnExactMachNew18
import Derived.Test.YteinbmkgenhocaaGreatCFnExactMachNew19
import Derived.Test.YteinbmkgenhocaaGreatCFnExactMachNew20
section
namespace Go.Proofs.YteinbmkgenhocaaGreat.P
open Go.RowKit Go.Proofs.YteinbmkgenhocaaGreatW.PrintWords Go.Proofs.YteinbmkgenhocaaGreatW.PrintLast Go.Proofs.YteinbmkgenhocaaGreatW.PrintMore
attribute [local go_sem] ak au az aA ai aj av ax
set_option linter.unusedVariables false
set_option linter.unusedSimpArgs false
def uS:Option Int→Value
  |none=> .nilIface
  |some c=> .iface 0 (.int .i64 c)
theorem bz:uS none= .nilIface:=rfl
theorem bA (c:Int):uS (some c)= .iface 0 (.int .i64 c):=rfl
theorem info3:(Tryz.prog.info? 3).map (fun i=>(i.zero,i.size,i.bytes))=some (some (.int .i64 0),1,8):=by kernel_rfl
theorem oI:(Tryz.prog.info? 31).map (fun i=>(i.zero,i.size,i.bytes))=some (some (.agg #[(.bool false),(.int .i64 0)]),2,16):=by kernel_rfl
theorem uT:(Tryz.prog.info? 57).map (fun i=>(i.zero,i.size,i.bytes))=some (some (.agg #[(.bool false),(.slice none 0 0),(.slice none 0 0)]),3,56):=by kernel_rfl
theorem qR:(Tryz.prog.info? 91).map (fun i=>(i.zero,i.size,i.bytes))=some (some (.agg #[(.int .i64 0),(.slice none 0 0)]),2,32):=by kernel_rfl
theorem uo:(Tryz.prog.info? 104).map (fun i=>(i.zero,i.size,i.bytes))=some (some (.agg #[(.int .i64 0),(.int .i64 0),(.slice none 0 0),(.int .i64 0),(.int .i64 0),(.slice none 0 0),(.slice none 0 0),(.slice none 0 0)]),8,128):=by kernel_rfl
theorem uq:(Tryz.prog.info? 113).map (fun i=>(i.zero,i.size,i.bytes))=some (some (.agg #[(.int .i64 0),(.int .i64 0),(.int .i64 0)]),3,24):=by kernel_rfl
theorem ut:(Tryz.prog.info? 126).map (fun i=>(i.zero,i.size,i.bytes))=some (some (.agg #[(.int .i64 0),(.slice none 0 0)]),2,32):=by kernel_rfl
theorem uu:(Tryz.prog.info? 181).map (fun i=>(i.zero,i.size,i.bytes))=some (some (.agg #[(.int .i64 0),(.int .i64 0),(.int .i64 0),(.int .i64 0)]),4,32):=by kernel_rfl
structure S116 where
  f0:Int
  f1:(List Int)
def z116:S116:=⟨(0:Int),([]:List Int)⟩
def kE:Kd S116:=Kd.iso (Kd.pair (Kd.int .i64) (Kd.slice 3 (Kd.int .i64))) (fun x:S116=>(x.f0,x.f1))
theorem qU {w:World} {x:S116} {cs:List Value} (h:kE.K w x cs): ∃A1 c1,cs= [.int .i64 x.f0, .slice A1 x.f1.length c1]∧x.f1.length≤c1∧(Kd.int .i64).C w A1 x.f1.length x.f1:=by
  obtain⟨_,_,rfl,rfl,⟨A1,c1,rfl,l1,g1⟩⟩:=h
  exact⟨A1,c1,rfl,l1,g1⟩
def eY (xs:List S116) (i:Int):S116:=xs.getD i.toNat z116
theorem nk {w:World} {A:Option Addr} {n:Nat} {xs:List S116} (h:Kd.C kE w A n xs) (i:Int) (h0:0≤i) (h1:i<n): ∃ad A1 c1,A=some ad∧w.cell? (ad.add (i.toNat * 2))=some (.int .i64 (eY xs i).f0)∧w.cell? ⟨(ad.add (i.toNat * 2)).block,(ad.add (i.toNat * 2)).off+1,none⟩=some (.slice A1 (eY xs i).f1.length c1)∧(eY xs i).f1.length≤c1∧(Kd.int .i64).C w A1 (eY xs i).f1.length (eY xs i).f1:=by
  obtain⟨ad,c,e,_,hK,hc0⟩:=Kd.C_get h z116 i h0 h1
  have hc: ∀j u,c[j]? =some u→w.cell? (ad.add (i.toNat * 2+j))=some u:=hc0
  obtain⟨A1,c1,rfl,l1,g1⟩:=qU hK
  exact⟨ad,A1,c1,e,hc 0 _ rfl,by rw[←bW _ _ 1 (by omega)];exact hc 1 _ rfl,l1,g1⟩
structure S217 where
  f0:Int
  f1:Int
  f2:Int
def uU:S217:=⟨(0:Int),(0:Int),(0:Int)⟩
def kF:Kd S217:=Kd.iso (Kd.pair (Kd.int .i64) (Kd.pair (Kd.int .i64) (Kd.int .i64))) (fun x:S217=>(x.f0,x.f1,x.f2))
theorem qV {w:World} {x:S217} {cs:List Value} (h:kF.K w x cs):cs= [.int .i64 x.f0, .int .i64 x.f1, .int .i64 x.f2]:=by
  obtain⟨_,_,rfl,rfl,⟨_,_,rfl,rfl,rfl⟩⟩:=h
  exact rfl
def gQ (xs:List S217) (i:Int):S217:=xs.getD i.toNat uU
theorem uw {w:World} {A:Option Addr} {n:Nat} {xs:List S217} (h:Kd.C kF w A n xs) (i:Int) (h0:0≤i) (h1:i<n): ∃ad,A=some ad∧w.cell? (ad.add (i.toNat * 3))=some (.int .i64 (gQ xs i).f0)∧w.cell? ⟨(ad.add (i.toNat * 3)).block,(ad.add (i.toNat * 3)).off+1,none⟩=some (.int .i64 (gQ xs i).f1)∧w.cell? ⟨(ad.add (i.toNat * 3)).block,(ad.add (i.toNat * 3)).off+2,none⟩=some (.int .i64 (gQ xs i).f2):=by
  obtain⟨ad,c,e,_,hK,hc0⟩:=Kd.C_get h uU i h0 h1
  have hc: ∀j u,c[j]? =some u→w.cell? (ad.add (i.toNat * 3+j))=some u:=hc0
  obtain rfl:=qV hK
  exact⟨ad,e,hc 0 _ rfl,by rw[←bW _ _ 1 (by omega)];exact hc 1 _ rfl,by rw[←bW _ _ 2 (by omega)];exact hc 2 _ rfl⟩
structure S55 where
  f0:Bool
  f1:(List Int)
  f2:(List Int)
def z55:S55:=⟨false,([]:List Int),([]:List Int)⟩
def k55:Kd S55:=Kd.iso (Kd.pair Kd.bool (Kd.pair (Kd.slice 3 (Kd.int .i64)) (Kd.slice 3 (Kd.int .i64)))) (fun x:S55=>(x.f0,x.f1,x.f2))
theorem sF {w:World} {x:S55} {cs:List Value} (h:k55.K w x cs): ∃A1 c1 A2 c2,cs= [.bool x.f0, .slice A1 x.f1.length c1, .slice A2 x.f2.length c2]∧x.f1.length≤c1∧(Kd.int .i64).C w A1 x.f1.length x.f1∧x.f2.length≤c2∧(Kd.int .i64).C w A2 x.f2.length x.f2:=by
  obtain⟨_,_,rfl,rfl,⟨_,_,rfl,⟨A1,c1,rfl,l1,g1⟩,⟨A2,c2,rfl,l2,g2⟩⟩⟩:=h
  exact⟨A1,c1,A2,c2,rfl,l1,g1,l2,g2⟩
def dS (xs:List S55) (i:Int):S55:=xs.getD i.toNat z55
theorem oJ {w:World} {A:Option Addr} {n:Nat} {xs:List S55} (h:Kd.C k55 w A n xs) (i:Int) (h0:0≤i) (h1:i<n): ∃ad A1 c1 A2 c2,A=some ad∧w.cell? (ad.add (i.toNat * 3))=some (.bool (dS xs i).f0)∧w.cell? ⟨(ad.add (i.toNat * 3)).block,(ad.add (i.toNat * 3)).off+1,none⟩=some (.slice A1 (dS xs i).f1.length c1)∧w.cell? ⟨(ad.add (i.toNat * 3)).block,(ad.add (i.toNat * 3)).off+2,none⟩=some (.slice A2 (dS xs i).f2.length c2)∧(dS xs i).f1.length≤c1∧(Kd.int .i64).C w A1 (dS xs i).f1.length (dS xs i).f1∧(dS xs i).f2.length≤c2∧(Kd.int .i64).C w A2 (dS xs i).f2.length (dS xs i).f2:=by
  obtain⟨ad,c,e,_,hK,hc0⟩:=Kd.C_get h z55 i h0 h1
  have hc: ∀j u,c[j]? =some u→w.cell? (ad.add (i.toNat * 3+j))=some u:=hc0
  obtain⟨A1,c1,A2,c2,rfl,l1,g1,l2,g2⟩:=sF hK
  exact⟨ad,A1,c1,A2,c2,e,hc 0 _ rfl,by rw[←bW _ _ 1 (by omega)];exact hc 1 _ rfl,by rw[←bW _ _ 2 (by omega)];exact hc 2 _ rfl,l1,g1,l2,g2⟩
structure S219 where
  f0:Int
  f1:Int
  f2:Int
  f3:Int
def uV:S219:=⟨(0:Int),(0:Int),(0:Int),(0:Int)⟩
def kG:Kd S219:=Kd.iso (Kd.pair (Kd.int .i64) (Kd.pair (Kd.int .i64) (Kd.pair (Kd.int .i64) (Kd.int .i64)))) (fun x:S219=>(x.f0,x.f1,x.f2,x.f3))
theorem qW {w:World} {x:S219} {cs:List Value} (h:kG.K w x cs):cs= [.int .i64 x.f0, .int .i64 x.f1, .int .i64 x.f2, .int .i64 x.f3]:=by
  obtain⟨_,_,rfl,rfl,⟨_,_,rfl,rfl,⟨_,_,rfl,rfl,rfl⟩⟩⟩:=h
  exact rfl
def fI (xs:List S219) (i:Int):S219:=xs.getD i.toNat uV
theorem uy {w:World} {A:Option Addr} {n:Nat} {xs:List S219} (h:Kd.C kG w A n xs) (i:Int) (h0:0≤i) (h1:i<n): ∃ad,A=some ad∧w.cell? (ad.add (i.toNat * 4))=some (.int .i64 (fI xs i).f0)∧w.cell? ⟨(ad.add (i.toNat * 4)).block,(ad.add (i.toNat * 4)).off+1,none⟩=some (.int .i64 (fI xs i).f1)∧w.cell? ⟨(ad.add (i.toNat * 4)).block,(ad.add (i.toNat * 4)).off+2,none⟩=some (.int .i64 (fI xs i).f2)∧w.cell? ⟨(ad.add (i.toNat * 4)).block,(ad.add (i.toNat * 4)).off+3,none⟩=some (.int .i64 (fI xs i).f3):=by
  obtain⟨ad,c,e,_,hK,hc0⟩:=Kd.C_get h uV i h0 h1
  have hc: ∀j u,c[j]? =some u→w.cell? (ad.add (i.toNat * 4+j))=some u:=hc0
  obtain rfl:=qW hK
  exact⟨ad,e,hc 0 _ rfl,by rw[←bW _ _ 1 (by omega)];exact hc 1 _ rfl,by rw[←bW _ _ 2 (by omega)];exact hc 2 _ rfl,by rw[←bW _ _ 3 (by omega)];exact hc 3 _ rfl⟩
structure S122 where
  f0:Int
  f1:Int
  f2:(List Int)
  f3:Int
  f4:Int
  f5:(List S217)
  f6:(List S55)
  f7:(List S219)
def uW:S122:=⟨(0:Int),(0:Int),([]:List Int),(0:Int),(0:Int),([]:List S217),([]:List S55),([]:List S219)⟩
def kH:Kd S122:=Kd.iso (Kd.pair (Kd.int .i64) (Kd.pair (Kd.int .i64) (Kd.pair (Kd.slice 3 (Kd.int .i64)) (Kd.pair (Kd.int .i64) (Kd.pair (Kd.int .i64) (Kd.pair (Kd.slice 217 kF) (Kd.pair (Kd.slice 55 k55) (Kd.slice 219 kG)))))))) (fun x:S122=>(x.f0,x.f1,x.f2,x.f3,x.f4,x.f5,x.f6,x.f7))
theorem qX {w:World} {x:S122} {cs:List Value} (h:kH.K w x cs): ∃A2 c2 A5 c5 A6 c6 A7 c7,cs= [.int .i64 x.f0, .int .i64 x.f1, .slice A2 x.f2.length c2, .int .i64 x.f3, .int .i64 x.f4, .slice A5 x.f5.length c5, .slice A6 x.f6.length c6, .slice A7 x.f7.length c7]∧x.f2.length≤c2∧(Kd.int .i64).C w A2 x.f2.length x.f2∧x.f5.length≤c5∧kF.C w A5 x.f5.length x.f5∧x.f6.length≤c6∧k55.C w A6 x.f6.length x.f6∧x.f7.length≤c7∧kG.C w A7 x.f7.length x.f7:=by
  obtain⟨_,_,rfl,rfl,⟨_,_,rfl,rfl,⟨_,_,rfl,⟨A2,c2,rfl,l2,g2⟩,⟨_,_,rfl,rfl,⟨_,_,rfl,rfl,⟨_,_,rfl,⟨A5,c5,rfl,l5,g5⟩,⟨_,_,rfl,⟨A6,c6,rfl,l6,g6⟩,⟨A7,c7,rfl,l7,g7⟩⟩⟩⟩⟩⟩⟩⟩:=h
  exact⟨A2,c2,A5,c5,A6,c6,A7,c7,rfl,l2,g2,l5,g5,l6,g6,l7,g7⟩
def aV (xs:List S122) (i:Int):S122:=xs.getD i.toNat uW
theorem nu {w:World} {A:Option Addr} {n:Nat} {xs:List S122} (h:Kd.C kH w A n xs) (i:Int) (h0:0≤i) (h1:i<n): ∃ad A2 c2 A5 c5 A6 c6 A7 c7,A=some ad∧w.cell? (ad.add (i.toNat * 8))=some (.int .i64 (aV xs i).f0)∧w.cell? ⟨(ad.add (i.toNat * 8)).block,(ad.add (i.toNat * 8)).off+1,none⟩=some (.int .i64 (aV xs i).f1)∧w.cell? ⟨(ad.add (i.toNat * 8)).block,(ad.add (i.toNat * 8)).off+2,none⟩=some (.slice A2 (aV xs i).f2.length c2)∧w.cell? ⟨(ad.add (i.toNat * 8)).block,(ad.add (i.toNat * 8)).off+3,none⟩=some (.int .i64 (aV xs i).f3)∧w.cell? ⟨(ad.add (i.toNat * 8)).block,(ad.add (i.toNat * 8)).off+4,none⟩=some (.int .i64 (aV xs i).f4)∧w.cell? ⟨(ad.add (i.toNat * 8)).block,(ad.add (i.toNat * 8)).off+5,none⟩=some (.slice A5 (aV xs i).f5.length c5)∧w.cell? ⟨(ad.add (i.toNat * 8)).block,(ad.add (i.toNat * 8)).off+6,none⟩=some (.slice A6 (aV xs i).f6.length c6)∧w.cell? ⟨(ad.add (i.toNat * 8)).block,(ad.add (i.toNat * 8)).off+7,none⟩=some (.slice A7 (aV xs i).f7.length c7)∧(aV xs i).f2.length≤c2∧(Kd.int .i64).C w A2 (aV xs i).f2.length (aV xs i).f2∧(aV xs i).f5.length≤c5∧kF.C w A5 (aV xs i).f5.length (aV xs i).f5∧(aV xs i).f6.length≤c6∧k55.C w A6 (aV xs i).f6.length (aV xs i).f6∧(aV xs i).f7.length≤c7∧kG.C w A7 (aV xs i).f7.length (aV xs i).f7:=by
  obtain⟨ad,c,e,_,hK,hc0⟩:=Kd.C_get h uW i h0 h1
  have hc: ∀j u,c[j]? =some u→w.cell? (ad.add (i.toNat * 8+j))=some u:=hc0
  obtain⟨A2,c2,A5,c5,A6,c6,A7,c7,rfl,l2,g2,l5,g5,l6,g6,l7,g7⟩:=qX hK
  exact⟨ad,A2,c2,A5,c5,A6,c6,A7,c7,e,hc 0 _ rfl,by rw[←bW _ _ 1 (by omega)];exact hc 1 _ rfl,by rw[←bW _ _ 2 (by omega)];exact hc 2 _ rfl,by rw[←bW _ _ 3 (by omega)];exact hc 3 _ rfl,by rw[←bW _ _ 4 (by omega)];exact hc 4 _ rfl,by rw[←bW _ _ 5 (by omega)];exact hc 5 _ rfl,by rw[←bW _ _ 6 (by omega)];exact hc 6 _ rfl,by rw[←bW _ _ 7 (by omega)];exact hc 7 _ rfl,l2,g2,l5,g5,l6,g6,l7,g7⟩
structure S126 where
  f0:Int
  f1:(List Int)
def iI:S126:=⟨(0:Int),([]:List Int)⟩
def eB:Kd S126:=Kd.iso (Kd.pair (Kd.int .i64) (Kd.slice 3 (Kd.int .i64))) (fun x:S126=>(x.f0,x.f1))
theorem qY {w:World} {x:S126} {cs:List Value} (h:eB.K w x cs): ∃A1 c1,cs= [.int .i64 x.f0, .slice A1 x.f1.length c1]∧x.f1.length≤c1∧(Kd.int .i64).C w A1 x.f1.length x.f1:=by
  obtain⟨_,_,rfl,rfl,⟨A1,c1,rfl,l1,g1⟩⟩:=h
  exact⟨A1,c1,rfl,l1,g1⟩
theorem kS {w:World} {base:Nat} {ok:Nat→Prop} {x:S126} {cs:List Value} (h:eB.M w base ok x cs): ∃v1,cs= [.int .i64 x.f0,v1]∧(Kd.int .i64).R 3 w base ok v1 x.f1:=by
  obtain⟨_,_,rfl,rfl,⟨v1,rfl,g1⟩⟩:=h
  exact⟨v1,rfl,g1⟩
theorem oK (w:World) (base:Nat) (ok:Nat→Prop) (x:S126) {v1:Value} (g1:(Kd.int .i64).R 3 w base ok v1 x.f1):eB.M w base ok x [.int .i64 x.f0,v1]:=⟨[.int .i64 x.f0], [v1],rfl,rfl,⟨v1,rfl,g1⟩⟩
def aD (xs:List S126) (i:Int):S126:=xs.getD i.toNat iI
theorem fP {w:World} {A:Option Addr} {n:Nat} {xs:List S126} (h:Kd.C eB w A n xs) (i:Int) (h0:0≤i) (h1:i<n): ∃ad A1 c1,A=some ad∧w.cell? (ad.add (i.toNat * 2))=some (.int .i64 (aD xs i).f0)∧w.cell? ⟨(ad.add (i.toNat * 2)).block,(ad.add (i.toNat * 2)).off+1,none⟩=some (.slice A1 (aD xs i).f1.length c1)∧(aD xs i).f1.length≤c1∧(Kd.int .i64).C w A1 (aD xs i).f1.length (aD xs i).f1:=by
  obtain⟨ad,c,e,_,hK,hc0⟩:=Kd.C_get h iI i h0 h1
  have hc: ∀j u,c[j]? =some u→w.cell? (ad.add (i.toNat * 2+j))=some u:=hc0
  obtain⟨A1,c1,rfl,l1,g1⟩:=qY hK
  exact⟨ad,A1,c1,e,hc 0 _ rfl,by rw[←bW _ _ 1 (by omega)];exact hc 1 _ rfl,l1,g1⟩
structure S113 where
  f0:Int
  f1:Int
  f2:Int
def ig:S113:=⟨(0:Int),(0:Int),(0:Int)⟩
def fq:Kd S113:=Kd.iso (Kd.pair (Kd.int .i64) (Kd.pair (Kd.int .i64) (Kd.int .i64))) (fun x:S113=>(x.f0,x.f1,x.f2))
theorem qZ {w:World} {x:S113} {cs:List Value} (h:fq.K w x cs):cs= [.int .i64 x.f0, .int .i64 x.f1, .int .i64 x.f2]:=by
  obtain⟨_,_,rfl,rfl,⟨_,_,rfl,rfl,rfl⟩⟩:=h
  exact rfl
theorem kT {w:World} {base:Nat} {ok:Nat→Prop} {x:S113} {cs:List Value} (h:fq.M w base ok x cs):cs= [.int .i64 x.f0, .int .i64 x.f1, .int .i64 x.f2]:=by
  obtain⟨_,_,rfl,rfl,⟨_,_,rfl,rfl,rfl⟩⟩:=h
  exact rfl
theorem oL (w:World) (base:Nat) (ok:Nat→Prop) (x:S113):fq.M w base ok x [.int .i64 x.f0, .int .i64 x.f1, .int .i64 x.f2]:=⟨[.int .i64 x.f0], [.int .i64 x.f1, .int .i64 x.f2],rfl,rfl,⟨[.int .i64 x.f1], [.int .i64 x.f2],rfl,rfl,rfl⟩⟩
def aQ (xs:List S113) (i:Int):S113:=xs.getD i.toNat ig
theorem iD {w:World} {A:Option Addr} {n:Nat} {xs:List S113} (h:Kd.C fq w A n xs) (i:Int) (h0:0≤i) (h1:i<n): ∃ad,A=some ad∧w.cell? (ad.add (i.toNat * 3))=some (.int .i64 (aQ xs i).f0)∧w.cell? ⟨(ad.add (i.toNat * 3)).block,(ad.add (i.toNat * 3)).off+1,none⟩=some (.int .i64 (aQ xs i).f1)∧w.cell? ⟨(ad.add (i.toNat * 3)).block,(ad.add (i.toNat * 3)).off+2,none⟩=some (.int .i64 (aQ xs i).f2):=by
  obtain⟨ad,c,e,_,hK,hc0⟩:=Kd.C_get h ig i h0 h1
  have hc: ∀j u,c[j]? =some u→w.cell? (ad.add (i.toNat * 3+j))=some u:=hc0
  obtain rfl:=qZ hK
  exact⟨ad,e,hc 0 _ rfl,by rw[←bW _ _ 1 (by omega)];exact hc 1 _ rfl,by rw[←bW _ _ 2 (by omega)];exact hc 2 _ rfl⟩
structure S57 where
  f0:Bool
  f1:(List Int)
  f2:(List Int)
def z57:S57:=⟨false,([]:List Int),([]:List Int)⟩
def k57:Kd S57:=Kd.iso (Kd.pair Kd.bool (Kd.pair (Kd.slice 3 (Kd.int .i64)) (Kd.slice 3 (Kd.int .i64)))) (fun x:S57=>(x.f0,x.f1,x.f2))
theorem sG {w:World} {x:S57} {cs:List Value} (h:k57.K w x cs): ∃A1 c1 A2 c2,cs= [.bool x.f0, .slice A1 x.f1.length c1, .slice A2 x.f2.length c2]∧x.f1.length≤c1∧(Kd.int .i64).C w A1 x.f1.length x.f1∧x.f2.length≤c2∧(Kd.int .i64).C w A2 x.f2.length x.f2:=by
  obtain⟨_,_,rfl,rfl,⟨_,_,rfl,⟨A1,c1,rfl,l1,g1⟩,⟨A2,c2,rfl,l2,g2⟩⟩⟩:=h
  exact⟨A1,c1,A2,c2,rfl,l1,g1,l2,g2⟩
theorem lD {w:World} {base:Nat} {ok:Nat→Prop} {x:S57} {cs:List Value} (h:k57.M w base ok x cs): ∃v1 v2,cs= [.bool x.f0,v1,v2]∧(Kd.int .i64).R 3 w base ok v1 x.f1∧(Kd.int .i64).R 3 w base ok v2 x.f2:=by
  obtain⟨_,_,rfl,rfl,⟨_,_,rfl,⟨v1,rfl,g1⟩,⟨v2,rfl,g2⟩⟩⟩:=h
  exact⟨v1,v2,rfl,g1,g2⟩
theorem pQ (w:World) (base:Nat) (ok:Nat→Prop) (x:S57) {v1:Value} (g1:(Kd.int .i64).R 3 w base ok v1 x.f1) {v2:Value} (g2:(Kd.int .i64).R 3 w base ok v2 x.f2):k57.M w base ok x [.bool x.f0,v1,v2]:=⟨[.bool x.f0], [v1,v2],rfl,rfl,⟨[v1], [v2],rfl,⟨v1,rfl,g1⟩,⟨v2,rfl,g2⟩⟩⟩
def aX (xs:List S57) (i:Int):S57:=xs.getD i.toNat z57
theorem jO {w:World} {A:Option Addr} {n:Nat} {xs:List S57} (h:Kd.C k57 w A n xs) (i:Int) (h0:0≤i) (h1:i<n): ∃ad A1 c1 A2 c2,A=some ad∧w.cell? (ad.add (i.toNat * 3))=some (.bool (aX xs i).f0)∧w.cell? ⟨(ad.add (i.toNat * 3)).block,(ad.add (i.toNat * 3)).off+1,none⟩=some (.slice A1 (aX xs i).f1.length c1)∧w.cell? ⟨(ad.add (i.toNat * 3)).block,(ad.add (i.toNat * 3)).off+2,none⟩=some (.slice A2 (aX xs i).f2.length c2)∧(aX xs i).f1.length≤c1∧(Kd.int .i64).C w A1 (aX xs i).f1.length (aX xs i).f1∧(aX xs i).f2.length≤c2∧(Kd.int .i64).C w A2 (aX xs i).f2.length (aX xs i).f2:=by
  obtain⟨ad,c,e,_,hK,hc0⟩:=Kd.C_get h z57 i h0 h1
  have hc: ∀j u,c[j]? =some u→w.cell? (ad.add (i.toNat * 3+j))=some u:=hc0
  obtain⟨A1,c1,A2,c2,rfl,l1,g1,l2,g2⟩:=sG hK
  exact⟨ad,A1,c1,A2,c2,e,hc 0 _ rfl,by rw[←bW _ _ 1 (by omega)];exact hc 1 _ rfl,by rw[←bW _ _ 2 (by omega)];exact hc 2 _ rfl,l1,g1,l2,g2⟩
structure S181 where
  f0:Int
  f1:Int
  f2:Int
  f3:Int
def gm:S181:=⟨(0:Int),(0:Int),(0:Int),(0:Int)⟩
def eZ:Kd S181:=Kd.iso (Kd.pair (Kd.int .i64) (Kd.pair (Kd.int .i64) (Kd.pair (Kd.int .i64) (Kd.int .i64)))) (fun x:S181=>(x.f0,x.f1,x.f2,x.f3))
theorem q8 {w:World} {x:S181} {cs:List Value} (h:eZ.K w x cs):cs= [.int .i64 x.f0, .int .i64 x.f1, .int .i64 x.f2, .int .i64 x.f3]:=by
  obtain⟨_,_,rfl,rfl,⟨_,_,rfl,rfl,⟨_,_,rfl,rfl,rfl⟩⟩⟩:=h
  exact rfl
theorem kU {w:World} {base:Nat} {ok:Nat→Prop} {x:S181} {cs:List Value} (h:eZ.M w base ok x cs):cs= [.int .i64 x.f0, .int .i64 x.f1, .int .i64 x.f2, .int .i64 x.f3]:=by
  obtain⟨_,_,rfl,rfl,⟨_,_,rfl,rfl,⟨_,_,rfl,rfl,rfl⟩⟩⟩:=h
  exact rfl
theorem oM (w:World) (base:Nat) (ok:Nat→Prop) (x:S181):eZ.M w base ok x [.int .i64 x.f0, .int .i64 x.f1, .int .i64 x.f2, .int .i64 x.f3]:=⟨[.int .i64 x.f0], [.int .i64 x.f1, .int .i64 x.f2, .int .i64 x.f3],rfl,rfl,⟨[.int .i64 x.f1], [.int .i64 x.f2, .int .i64 x.f3],rfl,rfl,⟨[.int .i64 x.f2], [.int .i64 x.f3],rfl,rfl,rfl⟩⟩⟩
def aH (xs:List S181) (i:Int):S181:=xs.getD i.toNat gm
theorem jH {w:World} {A:Option Addr} {n:Nat} {xs:List S181} (h:Kd.C eZ w A n xs) (i:Int) (h0:0≤i) (h1:i<n): ∃ad,A=some ad∧w.cell? (ad.add (i.toNat * 4))=some (.int .i64 (aH xs i).f0)∧w.cell? ⟨(ad.add (i.toNat * 4)).block,(ad.add (i.toNat * 4)).off+1,none⟩=some (.int .i64 (aH xs i).f1)∧w.cell? ⟨(ad.add (i.toNat * 4)).block,(ad.add (i.toNat * 4)).off+2,none⟩=some (.int .i64 (aH xs i).f2)∧w.cell? ⟨(ad.add (i.toNat * 4)).block,(ad.add (i.toNat * 4)).off+3,none⟩=some (.int .i64 (aH xs i).f3):=by
  obtain⟨ad,c,e,_,hK,hc0⟩:=Kd.C_get h gm i h0 h1
  have hc: ∀j u,c[j]? =some u→w.cell? (ad.add (i.toNat * 4+j))=some u:=hc0
  obtain rfl:=q8 hK
  exact⟨ad,e,hc 0 _ rfl,by rw[←bW _ _ 1 (by omega)];exact hc 1 _ rfl,by rw[←bW _ _ 2 (by omega)];exact hc 2 _ rfl,by rw[←bW _ _ 3 (by omega)];exact hc 3 _ rfl⟩
structure S104 where
  f0:Int
  f1:Int
  f2:(List Int)
  f3:Int
  f4:Int
  f5:(List S113)
  f6:(List S57)
  f7:(List S181)
def iQ:S104:=⟨(0:Int),(0:Int),([]:List Int),(0:Int),(0:Int),([]:List S113),([]:List S57),([]:List S181)⟩
def dV:Kd S104:=Kd.iso (Kd.pair (Kd.int .i64) (Kd.pair (Kd.int .i64) (Kd.pair (Kd.slice 3 (Kd.int .i64)) (Kd.pair (Kd.int .i64) (Kd.pair (Kd.int .i64) (Kd.pair (Kd.slice 113 fq) (Kd.pair (Kd.slice 57 k57) (Kd.slice 181 eZ)))))))) (fun x:S104=>(x.f0,x.f1,x.f2,x.f3,x.f4,x.f5,x.f6,x.f7))
theorem rq {w:World} {x:S104} {cs:List Value} (h:dV.K w x cs): ∃A2 c2 A5 c5 A6 c6 A7 c7,cs= [.int .i64 x.f0, .int .i64 x.f1, .slice A2 x.f2.length c2, .int .i64 x.f3, .int .i64 x.f4, .slice A5 x.f5.length c5, .slice A6 x.f6.length c6, .slice A7 x.f7.length c7]∧x.f2.length≤c2∧(Kd.int .i64).C w A2 x.f2.length x.f2∧x.f5.length≤c5∧fq.C w A5 x.f5.length x.f5∧x.f6.length≤c6∧k57.C w A6 x.f6.length x.f6∧x.f7.length≤c7∧eZ.C w A7 x.f7.length x.f7:=by
  obtain⟨_,_,rfl,rfl,⟨_,_,rfl,rfl,⟨_,_,rfl,⟨A2,c2,rfl,l2,g2⟩,⟨_,_,rfl,rfl,⟨_,_,rfl,rfl,⟨_,_,rfl,⟨A5,c5,rfl,l5,g5⟩,⟨_,_,rfl,⟨A6,c6,rfl,l6,g6⟩,⟨A7,c7,rfl,l7,g7⟩⟩⟩⟩⟩⟩⟩⟩:=h
  exact⟨A2,c2,A5,c5,A6,c6,A7,c7,rfl,l2,g2,l5,g5,l6,g6,l7,g7⟩
theorem kV {w:World} {base:Nat} {ok:Nat→Prop} {x:S104} {cs:List Value} (h:dV.M w base ok x cs): ∃v2 v5 v6 v7,cs= [.int .i64 x.f0, .int .i64 x.f1,v2, .int .i64 x.f3, .int .i64 x.f4,v5,v6,v7]∧(Kd.int .i64).R 3 w base ok v2 x.f2∧fq.R 113 w base ok v5 x.f5∧k57.R 57 w base ok v6 x.f6∧eZ.R 181 w base ok v7 x.f7:=by
  obtain⟨_,_,rfl,rfl,⟨_,_,rfl,rfl,⟨_,_,rfl,⟨v2,rfl,g2⟩,⟨_,_,rfl,rfl,⟨_,_,rfl,rfl,⟨_,_,rfl,⟨v5,rfl,g5⟩,⟨_,_,rfl,⟨v6,rfl,g6⟩,⟨v7,rfl,g7⟩⟩⟩⟩⟩⟩⟩⟩:=h
  exact⟨v2,v5,v6,v7,rfl,g2,g5,g6,g7⟩
theorem oN (w:World) (base:Nat) (ok:Nat→Prop) (x:S104) {v2:Value} (g2:(Kd.int .i64).R 3 w base ok v2 x.f2) {v5:Value} (g5:fq.R 113 w base ok v5 x.f5) {v6:Value} (g6:k57.R 57 w base ok v6 x.f6) {v7:Value} (g7:eZ.R 181 w base ok v7 x.f7):dV.M w base ok x [.int .i64 x.f0, .int .i64 x.f1,v2, .int .i64 x.f3, .int .i64 x.f4,v5,v6,v7]:=⟨[.int .i64 x.f0], [.int .i64 x.f1,v2, .int .i64 x.f3, .int .i64 x.f4,v5,v6,v7],rfl,rfl,⟨[.int .i64 x.f1], [v2, .int .i64 x.f3, .int .i64 x.f4,v5,v6,v7],rfl,rfl,⟨[v2], [.int .i64 x.f3, .int .i64 x.f4,v5,v6,v7],rfl,⟨v2,rfl,g2⟩,⟨[.int .i64 x.f3], [.int .i64 x.f4,v5,v6,v7],rfl,rfl,⟨[.int .i64 x.f4], [v5,v6,v7],rfl,rfl,⟨[v5], [v6,v7],rfl,⟨v5,rfl,g5⟩,⟨[v6], [v7],rfl,⟨v6,rfl,g6⟩,⟨v7,rfl,g7⟩⟩⟩⟩⟩⟩⟩⟩
def aa (xs:List S104) (i:Int):S104:=xs.getD i.toNat iQ
theorem di {w:World} {A:Option Addr} {n:Nat} {xs:List S104} (h:Kd.C dV w A n xs) (i:Int) (h0:0≤i) (h1:i<n): ∃ad A2 c2 A5 c5 A6 c6 A7 c7,A=some ad∧w.cell? (ad.add (i.toNat * 8))=some (.int .i64 (aa xs i).f0)∧w.cell? ⟨(ad.add (i.toNat * 8)).block,(ad.add (i.toNat * 8)).off+1,none⟩=some (.int .i64 (aa xs i).f1)∧w.cell? ⟨(ad.add (i.toNat * 8)).block,(ad.add (i.toNat * 8)).off+2,none⟩=some (.slice A2 (aa xs i).f2.length c2)∧w.cell? ⟨(ad.add (i.toNat * 8)).block,(ad.add (i.toNat * 8)).off+3,none⟩=some (.int .i64 (aa xs i).f3)∧w.cell? ⟨(ad.add (i.toNat * 8)).block,(ad.add (i.toNat * 8)).off+4,none⟩=some (.int .i64 (aa xs i).f4)∧w.cell? ⟨(ad.add (i.toNat * 8)).block,(ad.add (i.toNat * 8)).off+5,none⟩=some (.slice A5 (aa xs i).f5.length c5)∧w.cell? ⟨(ad.add (i.toNat * 8)).block,(ad.add (i.toNat * 8)).off+6,none⟩=some (.slice A6 (aa xs i).f6.length c6)∧w.cell? ⟨(ad.add (i.toNat * 8)).block,(ad.add (i.toNat * 8)).off+7,none⟩=some (.slice A7 (aa xs i).f7.length c7)∧(aa xs i).f2.length≤c2∧(Kd.int .i64).C w A2 (aa xs i).f2.length (aa xs i).f2∧(aa xs i).f5.length≤c5∧fq.C w A5 (aa xs i).f5.length (aa xs i).f5∧(aa xs i).f6.length≤c6∧k57.C w A6 (aa xs i).f6.length (aa xs i).f6∧(aa xs i).f7.length≤c7∧eZ.C w A7 (aa xs i).f7.length (aa xs i).f7:=by
  obtain⟨ad,c,e,_,hK,hc0⟩:=Kd.C_get h iQ i h0 h1
  have hc: ∀j u,c[j]? =some u→w.cell? (ad.add (i.toNat * 8+j))=some u:=hc0
  obtain⟨A2,c2,A5,c5,A6,c6,A7,c7,rfl,l2,g2,l5,g5,l6,g6,l7,g7⟩:=rq hK
  exact⟨ad,A2,c2,A5,c5,A6,c6,A7,c7,e,hc 0 _ rfl,by rw[←bW _ _ 1 (by omega)];exact hc 1 _ rfl,by rw[←bW _ _ 2 (by omega)];exact hc 2 _ rfl,by rw[←bW _ _ 3 (by omega)];exact hc 3 _ rfl,by rw[←bW _ _ 4 (by omega)];exact hc 4 _ rfl,by rw[←bW _ _ 5 (by omega)];exact hc 5 _ rfl,by rw[←bW _ _ 6 (by omega)];exact hc 6 _ rfl,by rw[←bW _ _ 7 (by omega)];exact hc 7 _ rfl,l2,g2,l5,g5,l6,g6,l7,g7⟩
structure S31 where
  f0:Bool
  f1:Int
def z31:S31:=⟨false,(0:Int)⟩
def k31:Kd S31:=Kd.iso (Kd.pair Kd.bool (Kd.int .i64)) (fun x:S31=>(x.f0,x.f1))
theorem sH {w:World} {x:S31} {cs:List Value} (h:k31.K w x cs):cs= [.bool x.f0, .int .i64 x.f1]:=by
  obtain⟨_,_,rfl,rfl,rfl⟩:=h
  exact rfl
theorem ky {w:World} {base:Nat} {ok:Nat→Prop} {x:S31} {cs:List Value} (h:k31.M w base ok x cs):cs= [.bool x.f0, .int .i64 x.f1]:=by
  obtain⟨_,_,rfl,rfl,rfl⟩:=h
  exact rfl
theorem jT (w:World) (base:Nat) (ok:Nat→Prop) (x:S31):k31.M w base ok x [.bool x.f0, .int .i64 x.f1]:=⟨[.bool x.f0], [.int .i64 x.f1],rfl,rfl,rfl⟩
def bU (xs:List S31) (i:Int):S31:=xs.getD i.toNat z31
theorem jv {w:World} {A:Option Addr} {n:Nat} {xs:List S31} (h:Kd.C k31 w A n xs) (i:Int) (h0:0≤i) (h1:i<n): ∃ad,A=some ad∧w.cell? (ad.add (i.toNat * 2))=some (.bool (bU xs i).f0)∧w.cell? ⟨(ad.add (i.toNat * 2)).block,(ad.add (i.toNat * 2)).off+1,none⟩=some (.int .i64 (bU xs i).f1):=by
  obtain⟨ad,c,e,_,hK,hc0⟩:=Kd.C_get h z31 i h0 h1
  have hc: ∀j u,c[j]? =some u→w.cell? (ad.add (i.toNat * 2+j))=some u:=hc0
  obtain rfl:=sH hK
  exact⟨ad,e,hc 0 _ rfl,by rw[←bW _ _ 1 (by omega)];exact hc 1 _ rfl⟩
structure S91 where
  f0:Int
  f1:(List S31)
def z91:S91:=⟨(0:Int),([]:List S31)⟩
def k91:Kd S91:=Kd.iso (Kd.pair (Kd.int .i64) (Kd.slice 31 k31)) (fun x:S91=>(x.f0,x.f1))
theorem sI {w:World} {x:S91} {cs:List Value} (h:k91.K w x cs): ∃A1 c1,cs= [.int .i64 x.f0, .slice A1 x.f1.length c1]∧x.f1.length≤c1∧k31.C w A1 x.f1.length x.f1:=by
  obtain⟨_,_,rfl,rfl,⟨A1,c1,rfl,l1,g1⟩⟩:=h
  exact⟨A1,c1,rfl,l1,g1⟩
theorem nI {w:World} {base:Nat} {ok:Nat→Prop} {x:S91} {cs:List Value} (h:k91.M w base ok x cs): ∃v1,cs= [.int .i64 x.f0,v1]∧k31.R 31 w base ok v1 x.f1:=by
  obtain⟨_,_,rfl,rfl,⟨v1,rfl,g1⟩⟩:=h
  exact⟨v1,rfl,g1⟩
theorem lV (w:World) (base:Nat) (ok:Nat→Prop) (x:S91) {v1:Value} (g1:k31.R 31 w base ok v1 x.f1):k91.M w base ok x [.int .i64 x.f0,v1]:=⟨[.int .i64 x.f0], [v1],rfl,rfl,⟨v1,rfl,g1⟩⟩
def dh (xs:List S91) (i:Int):S91:=xs.getD i.toNat z91
theorem jw {w:World} {A:Option Addr} {n:Nat} {xs:List S91} (h:Kd.C k91 w A n xs) (i:Int) (h0:0≤i) (h1:i<n): ∃ad A1 c1,A=some ad∧w.cell? (ad.add (i.toNat * 2))=some (.int .i64 (dh xs i).f0)∧w.cell? ⟨(ad.add (i.toNat * 2)).block,(ad.add (i.toNat * 2)).off+1,none⟩=some (.slice A1 (dh xs i).f1.length c1)∧(dh xs i).f1.length≤c1∧k31.C w A1 (dh xs i).f1.length (dh xs i).f1:=by
  obtain⟨ad,c,e,_,hK,hc0⟩:=Kd.C_get h z91 i h0 h1
  have hc: ∀j u,c[j]? =some u→w.cell? (ad.add (i.toNat * 2+j))=some u:=hc0
  obtain⟨A1,c1,rfl,l1,g1⟩:=sI hK
  exact⟨ad,A1,c1,e,hc 0 _ rfl,by rw[←bW _ _ 1 (by omega)];exact hc 1 _ rfl,l1,g1⟩
structure S70 where
  f0:Int
  f1:Int
  f2:(List S31)
  f3:(List S31)
def z70:S70:=⟨(0:Int),(0:Int),([]:List S31),([]:List S31)⟩
def k70:Kd S70:=Kd.iso (Kd.pair (Kd.int .i64) (Kd.pair (Kd.int .i64) (Kd.pair (Kd.slice 31 k31) (Kd.slice 31 k31)))) (fun x:S70=>(x.f0,x.f1,x.f2,x.f3))
theorem sJ {w:World} {x:S70} {cs:List Value} (h:k70.K w x cs): ∃A2 c2 A3 c3,cs= [.int .i64 x.f0, .int .i64 x.f1, .slice A2 x.f2.length c2, .slice A3 x.f3.length c3]∧x.f2.length≤c2∧k31.C w A2 x.f2.length x.f2∧x.f3.length≤c3∧k31.C w A3 x.f3.length x.f3:=by
  obtain⟨_,_,rfl,rfl,⟨_,_,rfl,rfl,⟨_,_,rfl,⟨A2,c2,rfl,l2,g2⟩,⟨A3,c3,rfl,l3,g3⟩⟩⟩⟩:=h
  exact⟨A2,c2,A3,c3,rfl,l2,g2,l3,g3⟩
theorem ru {w:World} {base:Nat} {ok:Nat→Prop} {x:S70} {cs:List Value} (h:k70.M w base ok x cs): ∃v2 v3,cs= [.int .i64 x.f0, .int .i64 x.f1,v2,v3]∧k31.R 31 w base ok v2 x.f2∧k31.R 31 w base ok v3 x.f3:=by
  obtain⟨_,_,rfl,rfl,⟨_,_,rfl,rfl,⟨_,_,rfl,⟨v2,rfl,g2⟩,⟨v3,rfl,g3⟩⟩⟩⟩:=h
  exact⟨v2,v3,rfl,g2,g3⟩
theorem ry (w:World) (x:S70) {A2:Option Addr} {c2:Nat} (l2:x.f2.length≤c2) (g2:k31.C w A2 x.f2.length x.f2) {A3:Option Addr} {c3:Nat} (l3:x.f3.length≤c3) (g3:k31.C w A3 x.f3.length x.f3):k70.K w x [.int .i64 x.f0, .int .i64 x.f1, .slice A2 x.f2.length c2, .slice A3 x.f3.length c3]:=⟨[.int .i64 x.f0], [.int .i64 x.f1, .slice A2 x.f2.length c2, .slice A3 x.f3.length c3],rfl,rfl,⟨[.int .i64 x.f1], [.slice A2 x.f2.length c2, .slice A3 x.f3.length c3],rfl,rfl,⟨[.slice A2 x.f2.length c2], [.slice A3 x.f3.length c3],rfl,⟨A2,c2,rfl,l2,g2⟩,⟨A3,c3,rfl,l3,g3⟩⟩⟩⟩
theorem ny (w:World) (base:Nat) (ok:Nat→Prop) (x:S70) {v2:Value} (g2:k31.R 31 w base ok v2 x.f2) {v3:Value} (g3:k31.R 31 w base ok v3 x.f3):k70.M w base ok x [.int .i64 x.f0, .int .i64 x.f1,v2,v3]:=⟨[.int .i64 x.f0], [.int .i64 x.f1,v2,v3],rfl,rfl,⟨[.int .i64 x.f1], [v2,v3],rfl,rfl,⟨[v2], [v3],rfl,⟨v2,rfl,g2⟩,⟨v3,rfl,g3⟩⟩⟩⟩
theorem uz (W:World) (ok:Nat→Prop) (x:S70) {A2:Option Addr} {c2:Nat} (l2:x.f2.length≤c2) (g2:Kd.F k31 W ok A2 x.f2.length x.f2) {A3:Option Addr} {c3:Nat} (l3:x.f3.length≤c3) (g3:Kd.F k31 W ok A3 x.f3.length x.f3):Kd.FK k70 W ok x [.int .i64 x.f0, .int .i64 x.f1, .slice A2 x.f2.length c2, .slice A3 x.f3.length c3]:=fun W2 hW=>ry W2 x l2 (g2 W2 hW) l3 (g3 W2 hW)
def bn (xs:List S70) (i:Int):S70:=xs.getD i.toNat z70
theorem fT {w:World} {A:Option Addr} {n:Nat} {xs:List S70} (h:Kd.C k70 w A n xs) (i:Int) (h0:0≤i) (h1:i<n): ∃ad A2 c2 A3 c3,A=some ad∧w.cell? (ad.add (i.toNat * 4))=some (.int .i64 (bn xs i).f0)∧w.cell? ⟨(ad.add (i.toNat * 4)).block,(ad.add (i.toNat * 4)).off+1,none⟩=some (.int .i64 (bn xs i).f1)∧w.cell? ⟨(ad.add (i.toNat * 4)).block,(ad.add (i.toNat * 4)).off+2,none⟩=some (.slice A2 (bn xs i).f2.length c2)∧w.cell? ⟨(ad.add (i.toNat * 4)).block,(ad.add (i.toNat * 4)).off+3,none⟩=some (.slice A3 (bn xs i).f3.length c3)∧(bn xs i).f2.length≤c2∧k31.C w A2 (bn xs i).f2.length (bn xs i).f2∧(bn xs i).f3.length≤c3∧k31.C w A3 (bn xs i).f3.length (bn xs i).f3:=by
  obtain⟨ad,c,e,_,hK,hc0⟩:=Kd.C_get h z70 i h0 h1
  have hc: ∀j u,c[j]? =some u→w.cell? (ad.add (i.toNat * 4+j))=some u:=hc0
  obtain⟨A2,c2,A3,c3,rfl,l2,g2,l3,g3⟩:=sJ hK
  exact⟨ad,A2,c2,A3,c3,e,hc 0 _ rfl,by rw[←bW _ _ 1 (by omega)];exact hc 1 _ rfl,by rw[←bW _ _ 2 (by omega)];exact hc 2 _ rfl,by rw[←bW _ _ 3 (by omega)];exact hc 3 _ rfl,l2,g2,l3,g3⟩
structure S38 where
  f0:(List S126)
  f1:(List S104)
structure S47 where
  f0:Bool
  f1:Int
structure S143 where
  f0:Int
  f1:(List S47)
structure S146 where
  f0:Int
  f1:Int
  f2:(List S47)
  f3:(List S47)
structure S33 where
  f0:(List S91)
  f1:(List S70)
  f2:(List Int)
  f3:Int
  f4:Int
  f5:S31
end Go.Proofs.YteinbmkgenhocaaGreat.P
end
section
namespace Go.Proofs.YteinbmkgenhocaaGreat
open Go Go.Proofs.YteinbmkgenhocaaGreat.P
set_option maxRecDepth 100000
theorem sK {P:Program} {L:List Char} {W:List (List Char)} {c:List Char} {rest:List (List Char)} (h1:P.initOrder.toList=L) (h2:wordsSigns L=W) (h3:behindMainWord W=c::rest) (h4:stripLifts liftWords (c::rest)=([],c::rest)) (h5:c= "cut".toList) (h6:P.laysLater=false) (h7:P.bearsReflect=false) (h8:P.doorFits []=true):P.mayEnter=true:=by
  unfold Program.mayEnter
  rw[h1,h2,h3]
  simp only[h4,h6,h7,h8,List.head?_cons]
  simp[h5]
theorem uA {P:Program} {L:List Char} {W:List (List Char)} {c:List Char} {rest:List (List Char)} (h1:P.initOrder.toList=L) (h2:wordsSigns L=W) (h3:behindMainWord W=c::rest) (h5:c= "cut".toList):P.make=some .cut:=by
  unfold Program.make
  rw[h1,h2,h3]
  simp[h5]
theorem sM {P:Program} {L:List Char} {W:List (List Char)} {c:List Char} {rest:List (List Char)} (h1:P.initOrder.toList=L) (h2:wordsSigns L=W) (h3:behindMainWord W=c::rest) (h4:stripLifts liftWords (c::rest)=([],c::rest)) (h5:c= "cut".toList):P.liftsFinal=false:=by
  unfold Program.liftsFinal Program.headLifts
  rw[h1,h2,h3]
  simp only[h4,List.head?_cons]
  simp[h5]
def jP:List Char:= [Char.ofNat 104,Char.ofNat 97,Char.ofNat 114,Char.ofNat 110,Char.ofNat 101,Char.ofNat 115,Char.ofNat 115,Char.ofNat 32,Char.ofNat 101,Char.ofNat 54,Char.ofNat 48,Char.ofNat 52,Char.ofNat 102,Char.ofNat 57,Char.ofNat 55,Char.ofNat 51,Char.ofNat 54,Char.ofNat 101,Char.ofNat 97,Char.ofNat 100,Char.ofNat 51,Char.ofNat 98,Char.ofNat 52,Char.ofNat 99,Char.ofNat 57,Char.ofNat 97,Char.ofNat 56,Char.ofNat 52,Char.ofNat 99,Char.ofNat 51,Char.ofNat 99,Char.ofNat 50,Char.ofNat 55,Char.ofNat 54,Char.ofNat 98,Char.ofNat 98,Char.ofNat 53,Char.ofNat 51,Char.ofNat 56,Char.ofNat 54,Char.ofNat 98,Char.ofNat 54,Char.ofNat 50,Char.ofNat 55,Char.ofNat 52,Char.ofNat 102,Char.ofNat 51,Char.ofNat 99,Char.ofNat 48,Char.ofNat 102,Char.ofNat 51,Char.ofNat 97,Char.ofNat 49,Char.ofNat 51,Char.ofNat 54,Char.ofNat 51,Char.ofNat 57,Char.ofNat 48,Char.ofNat 51,Char.ofNat 54,Char.ofNat 51,Char.ofNat 54,Char.ofNat 55,Char.ofNat 48,Char.ofNat 101,Char.ofNat 97,Char.ofNat 102,Char.ofNat 101,Char.ofNat 53,Char.ofNat 50,Char.ofNat 50,Char.ofNat 49,Char.ofNat 32,Char.ofNat 99,Char.ofNat 117,Char.ofNat 116,Char.ofNat 32,Char.ofNat 97,Char.ofNat 116,Char.ofNat 32,Char.ofNat 108,Char.ofNat 111,Char.ofNat 111,Char.ofNat 112,Char.ofNat 46,Char.ofNat 101,Char.ofNat 120,Char.ofNat 97,Char.ofNat 109,Char.ofNat 112,Char.ofNat 108,Char.ofNat 101,Char.ofNat 47,Char.ofNat 101,Char.ofNat 110,Char.ofNat 116,Char.ofNat 97,Char.ofNat 105,Char.ofNat 108,Char.ofNat 47,Char.ofNat 108,Char.ofNat 97,Char.ofNat 119,Char.ofNat 115,Char.ofNat 46,Char.ofNat 70,Char.ofNat 110,Char.ofNat 69,Char.ofNat 120,Char.ofNat 97,Char.ofNat 99,Char.ofNat 116,Char.ofNat 77,Char.ofNat 97,Char.ofNat 99,Char.ofNat 104,Char.ofNat 78,Char.ofNat 101,Char.ofNat 119,Char.ofNat 32,Char.ofNat 108,Char.ofNat 111,Char.ofNat 111,Char.ofNat 112,Char.ofNat 46,Char.ofNat 101,Char.ofNat 120,Char.ofNat 97,Char.ofNat 109,Char.ofNat 112,Char.ofNat 108,Char.ofNat 101,Char.ofNat 47,Char.ofNat 101,Char.ofNat 110,Char.ofNat 116,Char.ofNat 97,Char.ofNat 105,Char.ofNat 108,Char.ofNat 47,Char.ofNat 108,Char.ofNat 97,Char.ofNat 119,Char.ofNat 115,Char.ofNat 46,Char.ofNat 70,Char.ofNat 110,Char.ofNat 69,Char.ofNat 120,Char.ofNat 97,Char.ofNat 99,Char.ofNat 116,Char.ofNat 77,Char.ofNat 97,Char.ofNat 99,Char.ofNat 104,Char.ofNat 79,Char.ofNat 107,Char.ofNat 32,Char.ofNat 108,Char.ofNat 111,Char.ofNat 111,Char.ofNat 112,Char.ofNat 46,Char.ofNat 101,Char.ofNat 120,Char.ofNat 97,Char.ofNat 109,Char.ofNat 112,Char.ofNat 108,Char.ofNat 101,Char.ofNat 47,Char.ofNat 101,Char.ofNat 110,Char.ofNat 116,Char.ofNat 97,Char.ofNat 105,Char.ofNat 108,Char.ofNat 47,Char.ofNat 108,Char.ofNat 97,Char.ofNat 119,Char.ofNat 115,Char.ofNat 46,Char.ofNat 70,Char.ofNat 110,Char.ofNat 69,Char.ofNat 120,Char.ofNat 97,Char.ofNat 99,Char.ofNat 116,Char.ofNat 80,Char.ofNat 97,Char.ofNat 115,Char.ofNat 115,Char.ofNat 83,Char.ofNat 116,Char.ofNat 101,Char.ofNat 112]
def lF:List (List Char):= [[Char.ofNat 104,Char.ofNat 97,Char.ofNat 114,Char.ofNat 110,Char.ofNat 101,Char.ofNat 115,Char.ofNat 115], [Char.ofNat 101,Char.ofNat 54,Char.ofNat 48,Char.ofNat 52,Char.ofNat 102,Char.ofNat 57,Char.ofNat 55,Char.ofNat 51,Char.ofNat 54,Char.ofNat 101,Char.ofNat 97,Char.ofNat 100,Char.ofNat 51,Char.ofNat 98,Char.ofNat 52,Char.ofNat 99,Char.ofNat 57,Char.ofNat 97,Char.ofNat 56,Char.ofNat 52,Char.ofNat 99,Char.ofNat 51,Char.ofNat 99,Char.ofNat 50,Char.ofNat 55,Char.ofNat 54,Char.ofNat 98,Char.ofNat 98,Char.ofNat 53,Char.ofNat 51,Char.ofNat 56,Char.ofNat 54,Char.ofNat 98,Char.ofNat 54,Char.ofNat 50,Char.ofNat 55,Char.ofNat 52,Char.ofNat 102,Char.ofNat 51,Char.ofNat 99,Char.ofNat 48,Char.ofNat 102,Char.ofNat 51,Char.ofNat 97,Char.ofNat 49,Char.ofNat 51,Char.ofNat 54,Char.ofNat 51,Char.ofNat 57,Char.ofNat 48,Char.ofNat 51,Char.ofNat 54,Char.ofNat 51,Char.ofNat 54,Char.ofNat 55,Char.ofNat 48,Char.ofNat 101,Char.ofNat 97,Char.ofNat 102,Char.ofNat 101,Char.ofNat 53,Char.ofNat 50,Char.ofNat 50,Char.ofNat 49], [Char.ofNat 99,Char.ofNat 117,Char.ofNat 116], [Char.ofNat 97,Char.ofNat 116], [Char.ofNat 108,Char.ofNat 111,Char.ofNat 111,Char.ofNat 112,Char.ofNat 46,Char.ofNat 101,Char.ofNat 120,Char.ofNat 97,Char.ofNat 109,Char.ofNat 112,Char.ofNat 108,Char.ofNat 101,Char.ofNat 47,Char.ofNat 101,Char.ofNat 110,Char.ofNat 116,Char.ofNat 97,Char.ofNat 105,Char.ofNat 108,Char.ofNat 47,Char.ofNat 108,Char.ofNat 97,Char.ofNat 119,Char.ofNat 115,Char.ofNat 46,Char.ofNat 70,Char.ofNat 110,Char.ofNat 69,Char.ofNat 120,Char.ofNat 97,Char.ofNat 99,Char.ofNat 116,Char.ofNat 77,Char.ofNat 97,Char.ofNat 99,Char.ofNat 104,Char.ofNat 78,Char.ofNat 101,Char.ofNat 119], [Char.ofNat 108,Char.ofNat 111,Char.ofNat 111,Char.ofNat 112,Char.ofNat 46,Char.ofNat 101,Char.ofNat 120,Char.ofNat 97,Char.ofNat 109,Char.ofNat 112,Char.ofNat 108,Char.ofNat 101,Char.ofNat 47,Char.ofNat 101,Char.ofNat 110,Char.ofNat 116,Char.ofNat 97,Char.ofNat 105,Char.ofNat 108,Char.ofNat 47,Char.ofNat 108,Char.ofNat 97,Char.ofNat 119,Char.ofNat 115,Char.ofNat 46,Char.ofNat 70,Char.ofNat 110,Char.ofNat 69,Char.ofNat 120,Char.ofNat 97,Char.ofNat 99,Char.ofNat 116,Char.ofNat 77,Char.ofNat 97,Char.ofNat 99,Char.ofNat 104,Char.ofNat 79,Char.ofNat 107], [Char.ofNat 108,Char.ofNat 111,Char.ofNat 111,Char.ofNat 112,Char.ofNat 46,Char.ofNat 101,Char.ofNat 120,Char.ofNat 97,Char.ofNat 109,Char.ofNat 112,Char.ofNat 108,Char.ofNat 101,Char.ofNat 47,Char.ofNat 101,Char.ofNat 110,Char.ofNat 116,Char.ofNat 97,Char.ofNat 105,Char.ofNat 108,Char.ofNat 47,Char.ofNat 108,Char.ofNat 97,Char.ofNat 119,Char.ofNat 115,Char.ofNat 46,Char.ofNat 70,Char.ofNat 110,Char.ofNat 69,Char.ofNat 120,Char.ofNat 97,Char.ofNat 99,Char.ofNat 116,Char.ofNat 80,Char.ofNat 97,Char.ofNat 115,Char.ofNat 115,Char.ofNat 83,Char.ofNat 116,Char.ofNat 101,Char.ofNat 112]]
theorem nz:Tryz.prog.initOrder.toList=jP:=by
  have h:Tryz.prog.initOrder=String.ofList jP:=by kernel_rfl
  rw[h,String.toList_ofList]
def lG:List (List Char):= [[Char.ofNat 97,Char.ofNat 116], [Char.ofNat 108,Char.ofNat 111,Char.ofNat 111,Char.ofNat 112,Char.ofNat 46,Char.ofNat 101,Char.ofNat 120,Char.ofNat 97,Char.ofNat 109,Char.ofNat 112,Char.ofNat 108,Char.ofNat 101,Char.ofNat 47,Char.ofNat 101,Char.ofNat 110,Char.ofNat 116,Char.ofNat 97,Char.ofNat 105,Char.ofNat 108,Char.ofNat 47,Char.ofNat 108,Char.ofNat 97,Char.ofNat 119,Char.ofNat 115,Char.ofNat 46,Char.ofNat 70,Char.ofNat 110,Char.ofNat 69,Char.ofNat 120,Char.ofNat 97,Char.ofNat 99,Char.ofNat 116,Char.ofNat 77,Char.ofNat 97,Char.ofNat 99,Char.ofNat 104,Char.ofNat 78,Char.ofNat 101,Char.ofNat 119], [Char.ofNat 108,Char.ofNat 111,Char.ofNat 111,Char.ofNat 112,Char.ofNat 46,Char.ofNat 101,Char.ofNat 120,Char.ofNat 97,Char.ofNat 109,Char.ofNat 112,Char.ofNat 108,Char.ofNat 101,Char.ofNat 47,Char.ofNat 101,Char.ofNat 110,Char.ofNat 116,Char.ofNat 97,Char.ofNat 105,Char.ofNat 108,Char.ofNat 47,Char.ofNat 108,Char.ofNat 97,Char.ofNat 119,Char.ofNat 115,Char.ofNat 46,Char.ofNat 70,Char.ofNat 110,Char.ofNat 69,Char.ofNat 120,Char.ofNat 97,Char.ofNat 99,Char.ofNat 116,Char.ofNat 77,Char.ofNat 97,Char.ofNat 99,Char.ofNat 104,Char.ofNat 79,Char.ofNat 107], [Char.ofNat 108,Char.ofNat 111,Char.ofNat 111,Char.ofNat 112,Char.ofNat 46,Char.ofNat 101,Char.ofNat 120,Char.ofNat 97,Char.ofNat 109,Char.ofNat 112,Char.ofNat 108,Char.ofNat 101,Char.ofNat 47,Char.ofNat 101,Char.ofNat 110,Char.ofNat 116,Char.ofNat 97,Char.ofNat 105,Char.ofNat 108,Char.ofNat 47,Char.ofNat 108,Char.ofNat 97,Char.ofNat 119,Char.ofNat 115,Char.ofNat 46,Char.ofNat 70,Char.ofNat 110,Char.ofNat 69,Char.ofNat 120,Char.ofNat 97,Char.ofNat 99,Char.ofNat 116,Char.ofNat 80,Char.ofNat 97,Char.ofNat 115,Char.ofNat 115,Char.ofNat 83,Char.ofNat 116,Char.ofNat 101,Char.ofNat 112]]
theorem enter:Tryz.prog.mayEnter=true:=sK (L:=jP) (W:=lF) nz (by kernel_rfl) (c:= [Char.ofNat 99,Char.ofNat 117,Char.ofNat 116]) (rest:=lG) (by kernel_rfl) (by kernel_rfl) (by kernel_rfl) (by kernel_rfl) (by kernel_rfl) (by kernel_rfl)
theorem make:Tryz.prog.make=some .cut:=uA (L:=jP) (W:=lF) nz (by kernel_rfl) (c:= [Char.ofNat 99,Char.ofNat 117,Char.ofNat 116]) (rest:=lG) (by kernel_rfl) (by kernel_rfl)
theorem lifts:Tryz.prog.liftsFinal=false:=sM (L:=jP) (W:=lF) nz (by kernel_rfl) (c:= [Char.ofNat 99,Char.ofNat 117,Char.ofNat 116]) (rest:=lG) (by kernel_rfl) (by kernel_rfl) (by kernel_rfl)
end Go.Proofs.YteinbmkgenhocaaGreat
end
section
namespace Go.Proofs.YteinbmkgenhocaaGreat.P
open Go.RowKit Go.Proofs.YteinbmkgenhocaaGreatW.PrintWords Go.Proofs.YteinbmkgenhocaaGreatW.PrintLast Go.Proofs.YteinbmkgenhocaaGreatW.PrintMore
attribute [local go_sem] ak au az aA ai aj av ax
set_option linter.unusedVariables false
set_option linter.unusedSimpArgs false
def dG.l0:Nat→List (S31)→Int→Int→Option (Int×(List (S31)))
  |0,_,_,_=>none
  |k+1,x0,x1,x5=>if x5<(x0.length:Int)then(if 0≤x5 then((some (x0.set (x5:Int).toNat (⟨((Int.tmod x1 3)==0),(bU x0 x5).f1⟩:S31):List (S31))).bind fun a=>(dG.l0 k (a.set (x5:Int).toNat (⟨(bU a x5).f0,wrap64 (x1+1)⟩:S31)) (wrap64 ((wrap64 (x1+1))+1)) (wrap64 (x5+1))))else(none))else(some (x1,x0))
def dG.f (k:Nat) (l0:List (S31)) (a1:Int):Option (Int×(List (S31))):=dG.l0 k l0 a1 0
end Go.Proofs.YteinbmkgenhocaaGreat.P
end
section
namespace Go.Proofs.YteinbmkgenhocaaGreat.P
open Go Go.RowKit Go.Proofs.YteinbmkgenhocaaGreatW.PrintWords Go.Proofs.YteinbmkgenhocaaGreatW.PrintLast Go.Proofs.YteinbmkgenhocaaGreatW.PrintMore
set_option linter.unusedVariables false
def eT.l0:Nat→List (S91)→Int→Int→Option (Int×List (S91))
  |0,_,_,_=>none
  |k+1,xs,a,i=>if i<(xs.length:Int)then(if 0≤i then((dG.f k ((dh xs i).f1) (wrap64 (a+1))).bind fun p=>(eT.l0 k ((xs.set (i:Int).toNat (⟨a,(dh xs i).f1⟩:S91)).set (i:Int).toNat (⟨a,p.2⟩:S91)) p.1 (wrap64 (i+1))))else(none))else(some (a,xs))
def eT.f (k:Nat) (l0:List (S91)) (a1:Int):Option (Int×List (S91)):=eT.l0 k l0 a1 0
end Go.Proofs.YteinbmkgenhocaaGreat.P
end
section
namespace Go.Proofs.YteinbmkgenhocaaGreat.P
open Go Go.RowKit Go.Proofs.YteinbmkgenhocaaGreatW.PrintWords Go.Proofs.YteinbmkgenhocaaGreatW.PrintLast Go.Proofs.YteinbmkgenhocaaGreatW.PrintMore
set_option linter.unusedVariables false
set_option linter.unusedSimpArgs false
def eD.f (k:Nat) (l0:List S70) (a:Int):Option (Int×List S70):=
  match l0 with
  | []=>some (a, [])
  | [x]=>if x.f3= []then(dG.f k x.f2 (wrap64 (wrap64 (a+1)+1))).bind fun p=>some (p.1, [(⟨a,wrap64 (a+1),p.2, []⟩:S70)])else none
  |_=>none
def fG.f (k:Nat) (l0:List S91) (l1:List S70) (l2:List Int) (a:Int):Option (Int×List S91×List S70):=
  if l2= []then(eT.f k l0 a).bind fun p=>((eD.f k l1 p.1).bind fun q=>some (q.1,p.2,q.2))else none
def adv:Int→Nat→Int
  |a,0=>a
  |a,n+1=>adv (wrap64 (a+1)) n
theorem jI (a:Int): ∀n m,adv a (n+m)=adv (adv a n) m:=by
  intro n;induction n generalizing a with
  |zero=>intro m;simp[adv]
  |succ n ih=>intro m;rw[Nat.add_right_comm];exact ih _ m
theorem jU (a:Int):wrap64 (a+1)=adv a 1:=rfl
theorem uX (a:Int) (n:Nat) (h:a+n<9223372036854775808) (h0: -9223372036854775808≤a):adv a n=a+n:=by
  induction n generalizing a with
  |zero=>simp[adv]
  | succ n ih=>
    have e:wrap64 (a+1)=a+1:=by unfold wrap64;omega
    rw[adv,e,ih (a+1) (by omega) (by omega)];omega
def jk {α:Type} (f:α→Nat):List α→Nat
  | []=>0
  |x::l=>f x+jk f l
theorem lH {α:Type} (f:α→Nat) (l:List α) (d:α) (i:Nat) (h:i<l.length):jk f (l.drop i)=f (l.getD i d)+jk f (l.drop (i+1)):=by
  rw[List.drop_eq_getElem_cons h,List.getD_eq_getElem?_getD,List.getElem?_eq_getElem h];rfl
def qj (xs:List S126) (i:Nat):S126:=xs.getD i iI
def kW (xs:List S57) (i:Nat):S57:=xs.getD i z57
def fK (xs:List S104) (i:Nat):S104:=xs.getD i iQ
def jJ:List Int→Nat:=jk (fun _=>1)
def iY:List S126→Nat:=jk (fun x=>1+jJ x.f1)
def lI:List S113→Nat:=jk (fun _=>3)
def lJ:List S181→Nat:=jk (fun _=>4)
def iZ:List S57→Nat:=jk (fun x=>1+jJ x.f1+jJ x.f2)
def jy:List S104→Nat:=jk (fun x=>1+1+jJ x.f2+1+1+lI x.f5+iZ x.f6+lJ x.f7)
def iL.f (a:List S126) (b:List S104) (a1:Int):Option Int:=some (adv a1 (iY a+jy b))
def kX (v v' :Value):Prop:=v' =v∨(∃a b,v= .int .i64 a∧v' = .int .i64 b)∨(∃a b,v= .bool a∧v' = .bool b)
theorem kX.trans {v v' v2:Value} (h:kX v v') (k:kX v' v2):kX v v2:=by
  rcases h with rfl|⟨a,b,rfl,rfl⟩|⟨a,b,rfl,rfl⟩
  ·exact k
  · rcases k with rfl|⟨c,d,_,rfl⟩|⟨c,d,e,rfl⟩
    ·exact .inr (.inl ⟨_,_,rfl,rfl⟩)
    ·exact .inr (.inl ⟨_,_,rfl,rfl⟩)
    ·cases e
  · rcases k with rfl|⟨c,d,e,rfl⟩|⟨c,d,_,rfl⟩
    ·exact .inr (.inr ⟨_,_,rfl,rfl⟩)
    ·cases e
    ·exact .inr (.inr ⟨_,_,rfl,rfl⟩)
structure Sc (P:Nat→Prop) (w w' :World):Prop where
  os:w'.os=w.os
  tape:w'.tape=w.tape
  output:w'.output=w.output
  size:w.heap.size≤w'.heap.size
  block: ∀(k:Nat),k<w.heap.size→¬P k→w'.heap[k]? =w.heap[k]?
  cells: ∀(k:Nat) (cs:Array Value) (t:TypeId),w.heap[k]? =some (.cells cs t (0,0))→∃cs' :Array Value,w'.heap[k]? =some (.cells cs' t (0,0))∧∀(i:Nat) v,cs[i]? =some v→∃v',cs'[i]? =some v' ∧kX v v'
section
variable {P:Nat→Prop} {w w' w2:World}
theorem Sc.refl (P:Nat→Prop) (w:World):Sc P w w:=⟨rfl,rfl,rfl,Nat.le_refl _,fun _ _ _=>rfl,fun _ cs _ h=>⟨cs,h,fun _ v hv=>⟨v,hv, .inl rfl⟩⟩⟩
theorem Sc.trans (h:Sc P w w') (k:Sc P w' w2):Sc P w w2:=by
  refine⟨k.os.trans h.os,k.tape.trans h.tape,k.output.trans h.output,Nat.le_trans h.size k.size,fun i hi hn=>(k.block i (Nat.lt_of_lt_of_le hi h.size) hn).trans (h.block i hi hn),fun i cs t hc=> ?_⟩
  obtain⟨cs1,h1,e1⟩:=h.cells i cs t hc
  obtain⟨cs2,h2,e2⟩:=k.cells i cs1 t h1
  refine⟨cs2,h2,fun j v hv=> ?_⟩
  obtain⟨v1,hv1,s1⟩:=e1 j v hv
  obtain⟨v2,hv2,s2⟩:=e2 j v1 hv1
  exact⟨v2,hv2,s1.trans s2⟩
theorem Sc.kept (h:Sc P w w'):Kept w w' P:=⟨h.size,h.block⟩
theorem Sc.below {w0:World} {base:Nat} (h:Sc P w w') (hb:Below base w0 w) (hp: ∀k,P k→base≤k) (hs:base≤w.heap.size):Below base w0 w' :=
  Below.trans hb ⟨h.os,h.tape,h.output,h.size,fun k hk=>h.block k (Nat.lt_of_lt_of_le hk hs) (fun hp' =>by have:=hp k hp';omega)⟩
theorem Sc.drewN (h:Sc P w w') (n:Nat):Sc P w (w'.drewN n):=⟨h.os,h.tape,h.output,h.size,h.block,h.cells⟩
theorem Sc.set {g j t:Nat} {cs:Array Value} (hh:w.heap[g]? =some (.cells cs t (0,0))) {v u:Value} (hc:w.cell? ⟨g,j,none⟩=some v) (hs:kX v u) (hP:P g):Sc P w (w.setCell ⟨g,j,none⟩ u):=by
  refine⟨rfl,rfl,rfl,by simp[World.setCell],fun k hk hn=> ?_,fun k cs2 t2 h2=> ?_⟩
  ·exact Below.heap_setCell w ⟨g,j,none⟩ u k (fun e=>hn (by rw[e];exact hP))
  · by_cases hk:k=g
    · subst hk
      rw[hh]at h2;cases h2
      refine⟨_,bg hh j u rfl,fun i v2 hv2=> ?_⟩
      by_cases hi:i=j
      · subst hi
        have hv:cs[i]? =some v:=(ae hh i).symm.trans hc
        have hlt:=(Array.getElem?_eq_some_iff.1 hv).1
        rw[hv]at hv2;cases hv2
        exact⟨u,by rw[Array.getElem?_setIfInBounds_self_of_lt hlt],hs⟩
      ·exact⟨v2,by rw[Array.getElem?_setIfInBounds_ne (fun e=>hi e.symm)];exact hv2, .inl rfl⟩
    ·exact⟨cs2,(Below.heap_setCell w ⟨g,j,none⟩ u k hk).trans h2,fun i v2 hv2=>⟨v2,hv2, .inl rfl⟩⟩
theorem Sc.of_below (h:Below w.heap.size w w'):Sc P w w' :=⟨h.os,h.tape,h.output,h.size,fun k hk _=>h.block k hk,fun k cs t hc=>⟨cs,(h.block k (fF hc)).trans hc,fun _ v hv=>⟨v,hv, .inl rfl⟩⟩⟩
def eF (t sz:Nat) (E:Nat→World→Nat→Nat→Prop) (P:Nat→Prop) (w:World) (v:Value) (n:Nat):Prop:=
  ∃A cap,v= .slice A n cap∧n≤9223372036854775807∧(n=0∨∃g,A=some ⟨g,0,none⟩∧P g∧(∃cs,w.heap[g]? =some (.cells cs t (0,0)))∧∀i,i<n→E i w g (i * sz))
def kz (E:Nat→World→Nat→Nat→Prop) (P:Nat→Prop):Prop:= ∀i w w' g o,Sc P w w' →(∃cs t,w.heap[g]? =some (.cells cs t (0,0)))→E i w g o→E i w' g o
theorem eF.stays {t sz:Nat} {E:Nat→World→Nat→Nat→Prop} (hE:kz E P) {v:Value} {n:Nat} (h:eF t sz E P w v n) (hs:Sc P w w'):eF t sz E P w' v n:=by
  obtain⟨A,cap,rfl,hn,h0|⟨g,rfl,hP,⟨cs,hc⟩,he⟩⟩:=h
  ·exact⟨A,cap,rfl,hn, .inl h0⟩
  · obtain⟨cs',h',_⟩:=hs.cells g cs t hc
    exact⟨_,cap,rfl,hn, .inr ⟨g,rfl,hP,⟨cs',h'⟩,fun i hi=>hE i w w' g _ hs ⟨cs,t,hc⟩ (he i hi)⟩⟩
theorem eF.at {t sz:Nat} {E:Nat→World→Nat→Nat→Prop} (hE:kz E P) {g n cap:Nat} (h:eF t sz E P w (.slice (some ⟨g,0,none⟩) n cap) n) (hs:Sc P w w') {i:Int} (h0:0≤i) (h1:i<n):
    (∃cs,w'.heap[g]? =some (.cells cs t (0,0)))∧E i.toNat w' g (i.toNat * sz):=by
  obtain⟨A,cap',e,hn,h0|⟨g',rfl,hP,hc,he⟩⟩:=eF.stays hE h hs
  ·omega
  ·cases e;exact⟨hc,he _ (by omega)⟩
def isI (w:World) (g o:Nat):Prop:= ∃a,w.cell? ⟨g,o,none⟩=some (.int .i64 a)
def isB (w:World) (g o:Nat):Prop:= ∃a,w.cell? ⟨g,o,none⟩=some (.bool a)
def isR (R:Value→Prop) (w:World) (g o:Nat):Prop:= ∃A n c,w.cell? ⟨g,o,none⟩=some (.slice A n c)∧R (.slice A n c)
theorem cellOf {g o:Nat} {v:Value} (hb: ∃cs t,w.heap[g]? =some (.cells cs t (0,0))) (hs:Sc P w w') (h:w.cell? ⟨g,o,none⟩=some v): ∃v',w'.cell? ⟨g,o,none⟩=some v' ∧kX v v' :=by
  obtain⟨cs,t,hc⟩:=hb
  obtain⟨cs',h',he⟩:=hs.cells g cs t hc
  obtain⟨v',hv,hk⟩:=he o v ((ae hc o).symm.trans h)
  exact⟨v',(ae h' o).trans hv,hk⟩
theorem Sc.slice {g o n c:Nat} {A:Option Addr} (hb: ∃cs t,w.heap[g]? =some (.cells cs t (0,0))) (hs:Sc P w w') (h:w.cell? ⟨g,o,none⟩=some (.slice A n c)):w'.cell? ⟨g,o,none⟩=some (.slice A n c):=by
  obtain⟨v',hv,rfl|⟨_,_,e,_⟩|⟨_,_,e,_⟩⟩:=cellOf hb hs h
  ·exact hv
  ·cases e
  ·cases e
theorem isI.stays {g o:Nat} (h:isI w g o) (hs:Sc P w w') (hb: ∃cs t,w.heap[g]? =some (.cells cs t (0,0))):isI w' g o:=by
  obtain⟨a,h⟩:=h
  obtain⟨v',hv,rfl|⟨_,b,_,rfl⟩|⟨_,_,e,_⟩⟩:=cellOf hb hs h
  ·exact⟨a,hv⟩
  ·exact⟨b,hv⟩
  ·cases e
theorem isB.stays {g o:Nat} (h:isB w g o) (hs:Sc P w w') (hb: ∃cs t,w.heap[g]? =some (.cells cs t (0,0))):isB w' g o:=by
  obtain⟨a,h⟩:=h
  obtain⟨v',hv,rfl|⟨_,_,e,_⟩|⟨_,b,_,rfl⟩⟩:=cellOf hb hs h
  ·exact⟨a,hv⟩
  ·cases e
  ·exact⟨b,hv⟩
theorem isR.stays {R R' :Value→Prop} {g o:Nat} (h:isR R w g o) (hs:Sc P w w') (hb: ∃cs t,w.heap[g]? =some (.cells cs t (0,0))) (hR: ∀v,R v→R' v):isR R' w' g o:=by
  obtain⟨A,n,c,h,hr⟩:=h
  obtain⟨v',hv,rfl|⟨_,_,e,_⟩|⟨_,_,e,_⟩⟩:=cellOf hb hs h
  ·exact⟨A,n,c,hv,hR _ hr⟩
  ·cases e
  ·cases e
def uY (P:Nat→Prop):Nat→World→Nat→Nat→Prop:=fun _ w g o=>isI w g o
def kI (P:Nat→Prop) (w:World) (n:Nat) (v:Value):Prop:=eF 3 1 (uY P) P w v n
theorem ql (P:Nat→Prop):kz (uY P) P:=fun _ _ _ _ _ hs hb h=>h.stays hs hb
theorem kI.stays {n:Nat} {v:Value} (h:kI P w n v) (hs:Sc P w w'):kI P w' n v:=eF.stays (ql P) h hs
def uZ (P:Nat→Prop):Nat→World→Nat→Nat→Prop:=fun _ w g o=>isI w g o∧isI w g (o+1)∧isI w g (o+2)
def mE (P:Nat→Prop) (w:World) (n:Nat) (v:Value):Prop:=eF 113 3 (uZ P) P w v n
theorem mQ (P:Nat→Prop):kz (uZ P) P:=fun _ _ _ _ _ hs hb h=>⟨h.1.stays hs hb,h.2.1.stays hs hb,h.2.2.stays hs hb⟩
theorem mE.stays {n:Nat} {v:Value} (h:mE P w n v) (hs:Sc P w w'):mE P w' n v:=eF.stays (mQ P) h hs
def u7 (P:Nat→Prop):Nat→World→Nat→Nat→Prop:=fun _ w g o=>isI w g o∧isI w g (o+1)∧isI w g (o+2)∧isI w g (o+3)
def mF (P:Nat→Prop) (w:World) (n:Nat) (v:Value):Prop:=eF 181 4 (u7 P) P w v n
theorem lW (P:Nat→Prop):kz (u7 P) P:=fun _ _ _ _ _ hs hb h=>⟨h.1.stays hs hb,h.2.1.stays hs hb,h.2.2.1.stays hs hb,h.2.2.2.stays hs hb⟩
theorem mF.stays {n:Nat} {v:Value} (h:mF P w n v) (hs:Sc P w w'):mF P w' n v:=eF.stays (lW P) h hs
def vk (P:Nat→Prop) (xs:List S126):Nat→World→Nat→Nat→Prop:=fun i w g o=>isI w g o∧isR (kI P w (qj xs i).f1.length) w g (o+1)
def sN (P:Nat→Prop) (w:World) (xs:List S126) (v:Value):Prop:=eF 126 2 (vk P xs) P w v xs.length
theorem nW (P:Nat→Prop) (xs:List S126):kz (vk P xs) P:=fun _ _ _ _ _ hs hb h=>⟨h.1.stays hs hb,h.2.stays hs hb (fun _ h=>h.stays hs)⟩
def vo (P:Nat→Prop) (xs:List S57):Nat→World→Nat→Nat→Prop:=fun i w g o=>isB w g o∧isR (kI P w (kW xs i).f1.length) w g (o+1)∧isR (kI P w (kW xs i).f2.length) w g (o+2)
def mG (P:Nat→Prop) (w:World) (xs:List S57) (v:Value):Prop:=eF 57 3 (vo P xs) P w v xs.length
theorem mR (P:Nat→Prop) (xs:List S57):kz (vo P xs) P:=fun _ _ _ _ _ hs hb h=>⟨h.1.stays hs hb,h.2.1.stays hs hb (fun _ h=>h.stays hs),h.2.2.stays hs hb (fun _ h=>h.stays hs)⟩
theorem mG.stays {xs:List S57} {v:Value} (h:mG P w xs v) (hs:Sc P w w'):mG P w' xs v:=eF.stays (mR P xs) h hs
def vv (P:Nat→Prop) (xs:List S104):Nat→World→Nat→Nat→Prop:=fun i w g o=>isI w g o∧isI w g (o+1)∧isR (kI P w (fK xs i).f2.length) w g (o+2)∧isI w g (o+3)∧isI w g (o+4)∧isR (mE P w (fK xs i).f5.length) w g (o+5)∧isR (mG P w (fK xs i).f6) w g (o+6)∧isR (mF P w (fK xs i).f7.length) w g (o+7)
def sO (P:Nat→Prop) (w:World) (xs:List S104) (v:Value):Prop:=eF 104 8 (vv P xs) P w v xs.length
theorem jA (P:Nat→Prop) (xs:List S104):kz (vv P xs) P:=fun _ _ _ _ _ hs hb ⟨h0,h1,h2,h3,h4,h5,h6,h7⟩=>⟨h0.stays hs hb,h1.stays hs hb,h2.stays hs hb (fun _ h=>h.stays hs),h3.stays hs hb,h4.stays hs hb,h5.stays hs hb (fun _ h=>h.stays hs),h6.stays hs hb (fun _ h=>h.stays hs),h7.stays hs hb (fun _ h=>h.stays hs)⟩
end
end Go.Proofs.YteinbmkgenhocaaGreat.P
end
section
namespace Go.Proofs.YteinbmkgenhocaaGreat.P
open Go.RowKit Go.Proofs.YteinbmkgenhocaaGreatW.PrintWords Go.Proofs.YteinbmkgenhocaaGreatW.PrintLast Go.Proofs.YteinbmkgenhocaaGreatW.PrintMore
attribute [local go_sem] ak au az aA ai aj av ax
set_option linter.unusedVariables false
set_option linter.unusedSimpArgs false
def dn.f (l0:List Int) (a1:Int):Option (Int):=if(wrap64 (a1 - (l0.length:Int)))<0 then(some (-1))else(some (wrap64 (a1 - (l0.length:Int))))
def iq.f (c:Int) (b:List Int) (a1:Int):Option (Int):=(dn.f b a1).bind fun a=>(if a<0 then(some (-1))else(some a))
def dw.l0:Nat→List (S116)→Int→Int→Option (Int)
  |0,_,_,_=>none
  |k+1,x0,x1,x5=>if x5<(x0.length:Int)then(if 0≤x5 then((iq.f ((eY x0 x5).f0) ((eY x0 x5).f1) x1).bind fun a=>(if a<0 then(some (-1))else(dw.l0 k x0 a (wrap64 (x5+1)))))else(none))else(some x1)
def dw.f (k:Nat) (l0:List (S116)) (a1:Int):Option (Int):=if(wrap64 (a1 - (l0.length:Int)))<0 then(some (-1))else(dw.l0 k l0 (wrap64 (a1 - (l0.length:Int))) 0)
def gq.f (l0:List (S217)) (a1:Int):Option (Int):=if(wrap64 (a1 - (l0.length:Int)))<0 then(some (-1))else(some (wrap64 (a1 - (l0.length:Int))))
def gT.f (d:Bool) (b:List Int) (c:List Int) (a1:Int):Option (Int):=(dn.f b a1).bind fun a=>(if a<0 then(some (-1))else((dn.f c a).bind fun t107=>(if t107<0 then(some (-1))else(some t107))))
def dC.l0:Nat→List (S55)→Int→Int→Option (Int)
  |0,_,_,_=>none
  |k+1,x0,x1,x5=>if x5<(x0.length:Int)then(if 0≤x5 then((gT.f ((dS x0 x5).f0) ((dS x0 x5).f1) ((dS x0 x5).f2) x1).bind fun t109=>(if t109<0 then(some (-1))else(dC.l0 k x0 t109 (wrap64 (x5+1)))))else(none))else(some x1)
def dC.f (k:Nat) (l0:List (S55)) (a1:Int):Option (Int):=if(wrap64 (a1 - (l0.length:Int)))<0 then(some (-1))else(dC.l0 k l0 (wrap64 (a1 - (l0.length:Int))) 0)
def gK.f (l0:List (S219)) (a1:Int):Option (Int):=if(wrap64 (a1 - (l0.length:Int)))<0 then(some (-1))else(some (wrap64 (a1 - (l0.length:Int))))
def gL.f (k:Nat) (l:Int) (m:Int) (e:List Int) (n:Int) (o:Int) (g:List (S217)) (i:List (S55)) (j:List (S219)) (a1:Int):Option (Int):=(dn.f e a1).bind fun a=>(if a<0 then(some (-1))else((gq.f g a).bind fun b=>(if b<0 then(some (-1))else((dC.f k i b).bind fun c=>(if c<0 then(some (-1))else((gK.f j c).bind fun d=>(if d<0 then(some (-1))else(some d))))))))
def dA.l0:Nat→List (S122)→Int→Int→Option (Int)
  |0,_,_,_=>none
  |k+1,x0,x1,x5=>if x5<(x0.length:Int)then(if 0≤x5 then((gL.f k ((aV x0 x5).f0) ((aV x0 x5).f1) ((aV x0 x5).f2) ((aV x0 x5).f3) ((aV x0 x5).f4) ((aV x0 x5).f5) ((aV x0 x5).f6) ((aV x0 x5).f7) x1).bind fun t116=>(if t116<0 then(some (-1))else(dA.l0 k x0 t116 (wrap64 (x5+1)))))else(none))else(some x1)
def dA.f (k:Nat) (l0:List (S122)) (a1:Int):Option (Int):=if(wrap64 (a1 - (l0.length:Int)))<0 then(some (-1))else(dA.l0 k l0 (wrap64 (a1 - (l0.length:Int))) 0)
def gZ.f (k:Nat) (b:List (S116)) (c:List (S122)) (a1:Int):Option (Int):=(dw.f k b a1).bind fun a=>(if a<0 then(some (-1))else((dA.f k c a).bind fun t119=>(if t119<0 then(some (-1))else(some t119))))
def bS.l0:Nat→List Int→List Int→Int→Option (List Int)
  |0,_,_,_=>none
  |k+1,x0,x3,x4=>if x4<(x0.length:Int)then(if 0≤x4 then(if x4<(x3.length:Int)then(bS.l0 k x0 (x3.set (x4:Int).toNat (rd x0 x4)) (wrap64 (x4+1)))else(none))else(none))else(some x3)
def bS.f (k:Nat) (l0:List Int):Option (List Int):=if 0≤(l0.length:Int)then(if((l0.length:Int):Int).toNat≤35184372088832 then(bS.l0 k l0 (List.replicate ((l0.length:Int):Int).toNat 0) 0)else(none))else(none)
def iT.f (k:Nat) (a:Int) (b:List Int):Option (Int×List Int):=(bS.f k b).bind fun c=>(some (a,c))
def dm.l0:Nat→List (S116)→List (S126)→Int→Option ((List (S126)))
  |0,_,_,_=>none
  |k+1,x0,x3,x4=>if x4<(x0.length:Int)then(if 0≤x4 then((iT.f k ((eY x0 x4).f0) ((eY x0 x4).f1)).bind fun a=>(if x4<(x3.length:Int)then(dm.l0 k x0 (x3.set (x4:Int).toNat (⟨a.1,a.2⟩:S126)) (wrap64 (x4+1)))else(none)))else(none))else(some x3)
def dm.f (k:Nat) (l0:List (S116)):Option ((List (S126))):=if 0≤(l0.length:Int)then(if((l0.length:Int):Int).toNat≤8796093022208 then(dm.l0 k l0 (List.replicate ((l0.length:Int):Int).toNat iI) 0)else(none))else(none)
def jm.f (a:Int) (b:Int) (c:Int):Option (Int×Int×Int):=some (a,b,c)
def dK.l0:Nat→List (S217)→List (S113)→Int→Option ((List (S113)))
  |0,_,_,_=>none
  |k+1,x0,x3,x4=>if x4<(x0.length:Int)then(if 0≤x4 then((jm.f ((gQ x0 x4).f0) ((gQ x0 x4).f1) ((gQ x0 x4).f2)).bind fun a=>(if x4<(x3.length:Int)then(dK.l0 k x0 (x3.set (x4:Int).toNat (⟨a.1,a.2.1,a.2.2⟩:S113)) (wrap64 (x4+1)))else(none)))else(none))else(some x3)
def dK.f (k:Nat) (l0:List (S217)):Option ((List (S113))):=if 0≤(l0.length:Int)then(if((l0.length:Int):Int).toNat≤11728124029610 then(dK.l0 k l0 (List.replicate ((l0.length:Int):Int).toNat ig) 0)else(none))else(none)
def iw.f (k:Nat) (a:Bool) (b:List Int) (c:List Int):Option (Bool×List Int×List Int):=(bS.f k b).bind fun d=>((bS.f k c).bind fun e=>(some (a,d,e)))
def dx.l0:Nat→List (S55)→List (S57)→Int→Option ((List (S57)))
  |0,_,_,_=>none
  |k+1,x0,x3,x4=>if x4<(x0.length:Int)then(if 0≤x4 then((iw.f k ((dS x0 x4).f0) ((dS x0 x4).f1) ((dS x0 x4).f2)).bind fun a=>(if x4<(x3.length:Int)then(dx.l0 k x0 (x3.set (x4:Int).toNat (⟨a.1,a.2.1,a.2.2⟩:S57)) (wrap64 (x4+1)))else(none)))else(none))else(some x3)
def dx.f (k:Nat) (l0:List (S55)):Option ((List (S57))):=if 0≤(l0.length:Int)then(if((l0.length:Int):Int).toNat≤5026338869833 then(dx.l0 k l0 (List.replicate ((l0.length:Int):Int).toNat z57) 0)else(none))else(none)
def iU.f (a:Int) (b:Int) (c:Int) (d:Int):Option (Int×Int×Int×Int):=some (a,b,c,d)
def dz.l0:Nat→List (S219)→List (S181)→Int→Option ((List (S181)))
  |0,_,_,_=>none
  |k+1,x0,x3,x4=>if x4<(x0.length:Int)then(if 0≤x4 then((iU.f ((fI x0 x4).f0) ((fI x0 x4).f1) ((fI x0 x4).f2) ((fI x0 x4).f3)).bind fun a=>(if x4<(x3.length:Int)then(dz.l0 k x0 (x3.set (x4:Int).toNat (⟨a.1,a.2.1,a.2.2.1,a.2.2.2⟩:S181)) (wrap64 (x4+1)))else(none)))else(none))else(some x3)
def dz.f (k:Nat) (l0:List (S219)):Option ((List (S181))):=if 0≤(l0.length:Int)then(if((l0.length:Int):Int).toNat≤8796093022208 then(dz.l0 k l0 (List.replicate ((l0.length:Int):Int).toNat gm) 0)else(none))else(none)
def gY.f (k:Nat) (a:Int) (b:Int) (c:List Int) (d:Int) (e:Int) (g:List (S217)) (i:List (S55)) (j:List (S219)):Option (Int×Int×List Int×Int×Int×(List (S113))×(List (S57))×(List (S181))):=(bS.f k c).bind fun l=>((dK.f k g).bind fun m=>((dx.f k i).bind fun n=>((dz.f k j).bind fun o=>(some (a,b,l,d,e,m,n,o)))))
def cZ.l0:Nat→List (S122)→List (S104)→Int→Option ((List (S104)))
  |0,_,_,_=>none
  |k+1,x0,x3,x4=>if x4<(x0.length:Int)then(if 0≤x4 then((gY.f k ((aV x0 x4).f0) ((aV x0 x4).f1) ((aV x0 x4).f2) ((aV x0 x4).f3) ((aV x0 x4).f4) ((aV x0 x4).f5) ((aV x0 x4).f6) ((aV x0 x4).f7)).bind fun a=>(if x4<(x3.length:Int)then(cZ.l0 k x0 (x3.set (x4:Int).toNat (⟨a.1,a.2.1,a.2.2.1,a.2.2.2.1,a.2.2.2.2.1,a.2.2.2.2.2.1,a.2.2.2.2.2.2.1,a.2.2.2.2.2.2.2⟩:S104)) (wrap64 (x4+1)))else(none)))else(none))else(some x3)
def cZ.f (k:Nat) (l0:List (S122)):Option ((List (S104))):=if 0≤(l0.length:Int)then(if((l0.length:Int):Int).toNat≤2199023255552 then(cZ.l0 k l0 (List.replicate ((l0.length:Int):Int).toNat iQ) 0)else(none))else(none)
def gu.f (k:Nat) (a:List (S116)) (b:List (S122)):Option ((List (S126))×(List (S104))):=(dm.f k a).bind fun c=>((cZ.f k b).bind fun d=>(some (c,d)))
def fM.f (a:Bool) (b:Int) (c:Bool) (d:Int):Option (Bool):=if(a !=c)=true then(some false)else(if b=d then(some true)else(some false))
def bH.l0:Nat→List (S31)→List (S31)→Int→Option (Bool)
  |0,_,_,_=>none
  |k+1,x0,x1,x5=>if x5<(x0.length:Int)then(if 0≤x5 then(if x5<(x1.length:Int)then((fM.f ((bU x0 x5).f0) ((bU x0 x5).f1) ((bU x1 x5).f0) ((bU x1 x5).f1)).bind fun a=>(if a=true then(bH.l0 k x0 x1 (wrap64 (x5+1)))else(some false)))else(none))else(none))else(some true)
def bH.f (k:Nat) (l0:List (S31)) (l1:List (S31)):Option (Bool):=if(l0.length:Int)=(l1.length:Int)then(bH.l0 k l0 l1 0)else(some false)
def jc.f (k:Nat) (a:Int) (b:List (S31)) (c:Int) (d:List (S31)):Option (Bool):=if a=c then((bH.f k b d).bind fun e=>(if e=true then(some true)else(some false)))else(some false)
def bO.l0:Nat→List (S91)→List (S91)→Int→Option (Bool)
  |0,_,_,_=>none
  |k+1,x0,x1,x5=>if x5<(x0.length:Int)then(if 0≤x5 then(if x5<(x1.length:Int)then((jc.f k ((dh x0 x5).f0) ((dh x0 x5).f1) ((dh x1 x5).f0) ((dh x1 x5).f1)).bind fun a=>(if a=true then(bO.l0 k x0 x1 (wrap64 (x5+1)))else(some false)))else(none))else(none))else(some true)
def bO.f (k:Nat) (l0:List (S91)) (l1:List (S91)):Option (Bool):=if(l0.length:Int)=(l1.length:Int)then(bO.l0 k l0 l1 0)else(some false)
def iy.f (k:Nat) (a:Int) (b:Int) (c:List (S31)) (d:List (S31)) (e:Int) (g:Int) (i:List (S31)) (j:List (S31)):Option (Bool):=if a=e then(if b=g then((bH.f k c i).bind fun l=>(if l=true then((bH.f k d j).bind fun m=>(if m=true then(some true)else(some false)))else(some false)))else(some false))else(some false)
def bF.l0:Nat→List (S70)→List (S70)→Int→Option (Bool)
  |0,_,_,_=>none
  |k+1,x0,x1,x5=>if x5<(x0.length:Int)then(if 0≤x5 then(if x5<(x1.length:Int)then((iy.f k ((bn x0 x5).f0) ((bn x0 x5).f1) ((bn x0 x5).f2) ((bn x0 x5).f3) ((bn x1 x5).f0) ((bn x1 x5).f1) ((bn x1 x5).f2) ((bn x1 x5).f3)).bind fun a=>(if a=true then(bF.l0 k x0 x1 (wrap64 (x5+1)))else(some false)))else(none))else(none))else(some true)
def bF.f (k:Nat) (l0:List (S70)) (l1:List (S70)):Option (Bool):=if(l0.length:Int)=(l1.length:Int)then(bF.l0 k l0 l1 0)else(some false)
def bq.l0:Nat→List Int→List Int→Int→Option (Bool)
  |0,_,_,_=>none
  |k+1,x0,x1,x5=>if x5<(x0.length:Int)then(if 0≤x5 then(if x5<(x1.length:Int)then(if(rd x0 x5)=(rd x1 x5)then(bq.l0 k x0 x1 (wrap64 (x5+1)))else(some false))else(none))else(none))else(some true)
def bq.f (k:Nat) (l0:List Int) (l1:List Int):Option (Bool):=if(l0.length:Int)=(l1.length:Int)then(bq.l0 k l0 l1 0)else(some false)
def gy.f (k:Nat) (a:List (S91)) (b:List (S70)) (c:List Int) (d:Int) (e:Int) (g:Bool) (i:Int) (j:List (S91)) (l:List (S70)) (m:List Int) (n:Int) (o:Int) (p:Bool) (q:Int):Option (Bool):=(bO.f k a j).bind fun r=>(if r=true then((bF.f k b l).bind fun s=>(if s=true then((bq.f k c m).bind fun t=>(if t=true then(if d=n then(if e=o then((fM.f g i p q).bind fun u=>(if u=true then(some true)else(some false)))else(some false))else(some false))else(some false)))else(some false)))else(some false))
def iA.f (k:Nat) (a:Int) (b:List Int) (c:Int) (d:List Int):Option (Bool):=if a=c then((bq.f k b d).bind fun e=>(if e=true then(some true)else(some false)))else(some false)
def bL.l0:Nat→List (S126)→List (S126)→Int→Option (Bool)
  |0,_,_,_=>none
  |k+1,x0,x1,x5=>if x5<(x0.length:Int)then(if 0≤x5 then(if x5<(x1.length:Int)then((iA.f k ((aD x0 x5).f0) ((aD x0 x5).f1) ((aD x1 x5).f0) ((aD x1 x5).f1)).bind fun a=>(if a=true then(bL.l0 k x0 x1 (wrap64 (x5+1)))else(some false)))else(none))else(none))else(some true)
def bL.f (k:Nat) (l0:List (S126)) (l1:List (S126)):Option (Bool):=if(l0.length:Int)=(l1.length:Int)then(bL.l0 k l0 l1 0)else(some false)
def jd.f (a:Int) (b:Int) (c:Int) (d:Int) (e:Int) (g:Int):Option (Bool):=if a=d then(if b=e then(if c=g then(some true)else(some false))else(some false))else(some false)
def bQ.l0:Nat→List (S113)→List (S113)→Int→Option (Bool)
  |0,_,_,_=>none
  |k+1,x0,x1,x5=>if x5<(x0.length:Int)then(if 0≤x5 then(if x5<(x1.length:Int)then((jd.f ((aQ x0 x5).f0) ((aQ x0 x5).f1) ((aQ x0 x5).f2) ((aQ x1 x5).f0) ((aQ x1 x5).f1) ((aQ x1 x5).f2)).bind fun a=>(if a=true then(bQ.l0 k x0 x1 (wrap64 (x5+1)))else(some false)))else(none))else(none))else(some true)
def bQ.f (k:Nat) (l0:List (S113)) (l1:List (S113)):Option (Bool):=if(l0.length:Int)=(l1.length:Int)then(bQ.l0 k l0 l1 0)else(some false)
def gU.f (k:Nat) (a:Bool) (b:List Int) (c:List Int) (d:Bool) (e:List Int) (g:List Int):Option (Bool):=if(a !=d)=true then(some false)else((bq.f k b e).bind fun i=>(if i=true then((bq.f k c g).bind fun j=>(if j=true then(some true)else(some false)))else(some false)))
def bM.l0:Nat→List (S57)→List (S57)→Int→Option (Bool)
  |0,_,_,_=>none
  |k+1,x0,x1,x5=>if x5<(x0.length:Int)then(if 0≤x5 then(if x5<(x1.length:Int)then((gU.f k ((aX x0 x5).f0) ((aX x0 x5).f1) ((aX x0 x5).f2) ((aX x1 x5).f0) ((aX x1 x5).f1) ((aX x1 x5).f2)).bind fun a=>(if a=true then(bM.l0 k x0 x1 (wrap64 (x5+1)))else(some false)))else(none))else(none))else(some true)
def bM.f (k:Nat) (l0:List (S57)) (l1:List (S57)):Option (Bool):=if(l0.length:Int)=(l1.length:Int)then(bM.l0 k l0 l1 0)else(some false)
def iB.f (a:Int) (b:Int) (c:Int) (d:Int) (e:Int) (g:Int) (i:Int) (j:Int):Option (Bool):=if a=e then(if b=g then(if c=i then(if d=j then(some true)else(some false))else(some false))else(some false))else(some false)
def bN.l0:Nat→List (S181)→List (S181)→Int→Option (Bool)
  |0,_,_,_=>none
  |k+1,x0,x1,x5=>if x5<(x0.length:Int)then(if 0≤x5 then(if x5<(x1.length:Int)then((iB.f ((aH x0 x5).f0) ((aH x0 x5).f1) ((aH x0 x5).f2) ((aH x0 x5).f3) ((aH x1 x5).f0) ((aH x1 x5).f1) ((aH x1 x5).f2) ((aH x1 x5).f3)).bind fun a=>(if a=true then(bN.l0 k x0 x1 (wrap64 (x5+1)))else(some false)))else(none))else(none))else(some true)
def bN.f (k:Nat) (l0:List (S181)) (l1:List (S181)):Option (Bool):=if(l0.length:Int)=(l1.length:Int)then(bN.l0 k l0 l1 0)else(some false)
def gN.f (k:Nat) (a:Int) (b:Int) (c:List Int) (d:Int) (e:Int) (g:List (S113)) (i:List (S57)) (j:List (S181)) (l:Int) (m:Int) (n:List Int) (o:Int) (p:Int) (q:List (S113)) (r:List (S57)) (s:List (S181)):Option (Bool):=if a=l then(if b=m then((bq.f k c n).bind fun t=>(if t=true then(if d=o then(if e=p then((bQ.f k g q).bind fun u=>(if u=true then((bM.f k i r).bind fun v=>(if v=true then((bN.f k j s).bind fun w=>(if w=true then(some true)else(some false)))else(some false)))else(some false)))else(some false))else(some false))else(some false)))else(some false))else(some false)
def bI.l0:Nat→List (S104)→List (S104)→Int→Option (Bool)
  |0,_,_,_=>none
  |k+1,x0,x1,x5=>if x5<(x0.length:Int)then(if 0≤x5 then(if x5<(x1.length:Int)then((gN.f k ((aa x0 x5).f0) ((aa x0 x5).f1) ((aa x0 x5).f2) ((aa x0 x5).f3) ((aa x0 x5).f4) ((aa x0 x5).f5) ((aa x0 x5).f6) ((aa x0 x5).f7) ((aa x1 x5).f0) ((aa x1 x5).f1) ((aa x1 x5).f2) ((aa x1 x5).f3) ((aa x1 x5).f4) ((aa x1 x5).f5) ((aa x1 x5).f6) ((aa x1 x5).f7)).bind fun a=>(if a=true then(bI.l0 k x0 x1 (wrap64 (x5+1)))else(some false)))else(none))else(none))else(some true)
def bI.f (k:Nat) (l0:List (S104)) (l1:List (S104)):Option (Bool):=if(l0.length:Int)=(l1.length:Int)then(bI.l0 k l0 l1 0)else(some false)
def ib.f (k:Nat) (a:List (S126)) (b:List (S104)) (c:List (S126)) (d:List (S104)):Option (Bool):=(bL.f k a c).bind fun e=>(if e=true then((bI.f k b d).bind fun g=>(if g=true then(some true)else(some false)))else(some false))
def dD.l0:Nat→List (S31)→Int→Int→Option (Int)
  |0,_,_,_=>none
  |k+1,x0,x1,x5=>if x5<(x0.length:Int)then(if 0≤x5 then(if(((bU x0 x5).f0) !=((Int.tmod x1 3)==0))=true then(some (-1))else(if((bU x0 x5).f1)=(wrap64 (x1+1))then(dD.l0 k x0 (wrap64 ((wrap64 (x1+1))+1)) (wrap64 (x5+1)))else(some (-1))))else(none))else(some x1)
def dD.f (k:Nat) (l0:List (S31)) (a1:Int):Option (Int):=dD.l0 k l0 a1 0
def dU.l0:Nat→List (S91)→Int→Int→Option (Int)
  |0,_,_,_=>none
  |k+1,x0,x1,x5=>if x5<(x0.length:Int)then(if 0≤x5 then(if((dh x0 x5).f0)=x1 then((dD.f k ((dh x0 x5).f1) (wrap64 (x1+1))).bind fun a=>(if a<0 then(some (-1))else(dU.l0 k x0 a (wrap64 (x5+1)))))else(some (-1)))else(none))else(some x1)
def dU.f (k:Nat) (l0:List (S91)) (a1:Int):Option (Int):=dU.l0 k l0 a1 0
end Go.Proofs.YteinbmkgenhocaaGreat.P
end
