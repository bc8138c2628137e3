/- A part of the claim FnExactMachOk. -/
import Derived.Test.YteinbmkgenhocaaGreatProg
import Derived.Below
import Derived.Deep.Draws
import Derived.Deep.AppendLies
import Derived.Maps.AppendAt
import Derived.OwnWalk
import Derived.Laws.BytesArg
import Derived.Laws.MakeOwn
import Derived.Laws.OwnMore
import Derived.Deep.OwnRows
import Derived.Tactics
import Derived.Lib.ConvBytes
import Derived.Laws.Slices
import Derived.WalkKit
import Derived.KernelRfl
import Derived.RowKit3
import Derived.Deep.LoopGhost
import Derived.Deep.QuietTactic
import Derived.BigQuiet
import Derived.WideLaws
import Derived.Deep.DeepCutAuto
import Derived.Deep.CutBlock
import Derived.Deep.RegionHeld3
import Derived.Laws.Rows
import Derived.Lib.AppendStr
import Derived.ArgAppend
import Derived.Laws.IdiomCopy
import Derived.OrdersHeld
import Derived.Laws.BitsLemmas
import Derived.RowKit
import Derived.Test.YteinbmkgenhocaaGreatCFnExactMachOk0
import Derived.Test.YteinbmkgenhocaaGreatCFnExactMachOk1
import Derived.Test.YteinbmkgenhocaaGreatCFnExactMachOk2
import Derived.Test.YteinbmkgenhocaaGreatCFnExactMachOk3
import Derived.Test.YteinbmkgenhocaaGreatCFnExactMachOk4
import Derived.Test.YteinbmkgenhocaaGreatCFnExactMachOk5
import Derived.Test.YteinbmkgenhocaaGreatCFnExactMachOk6
import Derived.Test.YteinbmkgenhocaaGreatCFnExactMachOk7
import Derived.Test.YteinbmkgenhocaaGreatCFnExactMachOk8
import Derived.Test.YteinbmkgenhocaaGreatCFnExactMachOk9
import Derived.Test.YteinbmkgenhocaaGreatCFnExactMachOk10
import Derived.Test.YteinbmkgenhocaaGreatCFnExactMachOk11
import Derived.Test.YteinbmkgenhocaaGreatCFnExactMachOk12
import Derived.Test.YteinbmkgenhocaaGreatCFnExactMachOk13
import Derived.Test.YteinbmkgenhocaaGreatCFnExactMachOk14
import Derived.Test.YteinbmkgenhocaaGreatCFnExactMachOk15
import Derived.Test.YteinbmkgenhocaaGreatCFnExactMachOk16
import Derived.Test.YteinbmkgenhocaaGreatCFnExactMachOk17
import Derived.Test.YteinbmkgenhocaaGreatCFnExactMachOk18
import Derived.Test.YteinbmkgenhocaaGreatCFnExactMachOk19
import Derived.Test.YteinbmkgenhocaaGreatCFnExactMachOk20
section
namespace Go.Proofs.YteinbmkgenhocaaGreat.P
open Go.RowKit Go.Proofs.YteinbmkgenhocaaGreatW.PrintWords Go.Proofs.YteinbmkgenhocaaGreatW.PrintLast Go.Proofs.YteinbmkgenhocaaGreatW.PrintMore
attribute [local go_sem] ah ai av ax af ag aj ak
set_option linter.unusedVariables false
set_option linter.unusedSimpArgs false
def vw:Option Int→Value
  |none=> .nilIface
  |some c=> .iface 0 (.int .i64 c)
theorem aW:vw none= .nilIface:=rfl
theorem aX (c:Int):vw (some c)= .iface 0 (.int .i64 c):=rfl
theorem info3:(Tryz.prog.info? 3).map (fun i=>(i.zero,i.size,i.bytes))=some (some (.int .i64 0),1,8):=by kernel_rfl
theorem vz:(Tryz.prog.info? 31).map (fun i=>(i.zero,i.size,i.bytes))=some (some (.agg #[(.bool false),(.int .i64 0)]),2,16):=by kernel_rfl
theorem vB:(Tryz.prog.info? 57).map (fun i=>(i.zero,i.size,i.bytes))=some (some (.agg #[(.bool false),(.slice none 0 0),(.slice none 0 0)]),3,56):=by kernel_rfl
theorem vC:(Tryz.prog.info? 70).map (fun i=>(i.zero,i.size,i.bytes))=some (some (.agg #[(.int .i64 0),(.int .i64 0),(.slice none 0 0),(.slice none 0 0)]),4,64):=by kernel_rfl
theorem vD:(Tryz.prog.info? 91).map (fun i=>(i.zero,i.size,i.bytes))=some (some (.agg #[(.int .i64 0),(.slice none 0 0)]),2,32):=by kernel_rfl
theorem uG:(Tryz.prog.info? 104).map (fun i=>(i.zero,i.size,i.bytes))=some (some (.agg #[(.int .i64 0),(.int .i64 0),(.slice none 0 0),(.int .i64 0),(.int .i64 0),(.slice none 0 0),(.slice none 0 0),(.slice none 0 0)]),8,128):=by kernel_rfl
theorem uH:(Tryz.prog.info? 113).map (fun i=>(i.zero,i.size,i.bytes))=some (some (.agg #[(.int .i64 0),(.int .i64 0),(.int .i64 0)]),3,24):=by kernel_rfl
theorem uI:(Tryz.prog.info? 126).map (fun i=>(i.zero,i.size,i.bytes))=some (some (.agg #[(.int .i64 0),(.slice none 0 0)]),2,32):=by kernel_rfl
theorem uJ:(Tryz.prog.info? 181).map (fun i=>(i.zero,i.size,i.bytes))=some (some (.agg #[(.int .i64 0),(.int .i64 0),(.int .i64 0),(.int .i64 0)]),4,32):=by kernel_rfl
structure S116 where
  f0:Int
  f1:(List Int)
def z116:S116:=⟨(0:Int),([]:List Int)⟩
def kI:Kd S116:=Kd.iso (Kd.pair (Kd.int .i64) (Kd.slice 3 (Kd.int .i64))) (fun x:S116=>(x.f0,x.f1))
theorem rD {w:World} {x:S116} {cs:List Value} (h:kI.K w x cs): ∃A1 c1,cs= [.int .i64 x.f0, .slice A1 x.f1.length c1]∧x.f1.length≤c1∧(Kd.int .i64).C w A1 x.f1.length x.f1:=by
  obtain⟨_,_,rfl,rfl,⟨A1,c1,rfl,l1,g1⟩⟩:=h
  exact⟨A1,c1,rfl,l1,g1⟩
def fA (xs:List S116) (i:Int):S116:=xs.getD i.toNat z116
theorem mX {w:World} {A:Option Addr} {n:Nat} {xs:List S116} (h:Kd.C kI w A n xs) (i:Int) (h0:0≤i) (h1:i<n): ∃ad A1 c1,A=some ad∧w.cell? (ad.add (i.toNat * 2))=some (.int .i64 (fA xs i).f0)∧w.cell? ⟨(ad.add (i.toNat * 2)).block,(ad.add (i.toNat * 2)).off+1,none⟩=some (.slice A1 (fA xs i).f1.length c1)∧(fA xs i).f1.length≤c1∧(Kd.int .i64).C w A1 (fA xs i).f1.length (fA xs i).f1:=by
  obtain⟨ad,c,e,_,hK,hc0⟩:=Kd.C_get h z116 i h0 h1
  have hc: ∀j u,c[j]? =some u→w.cell? (ad.add (i.toNat * 2+j))=some u:=hc0
  obtain⟨A1,c1,rfl,l1,g1⟩:=rD hK
  exact⟨ad,A1,c1,e,hc 0 _ rfl,by rw[←bW _ _ 1 (by omega)];exact hc 1 _ rfl,l1,g1⟩
structure S217 where
  f0:Int
  f1:Int
  f2:Int
def vE:S217:=⟨(0:Int),(0:Int),(0:Int)⟩
def kJ:Kd S217:=Kd.iso (Kd.pair (Kd.int .i64) (Kd.pair (Kd.int .i64) (Kd.int .i64))) (fun x:S217=>(x.f0,x.f1,x.f2))
theorem rE {w:World} {x:S217} {cs:List Value} (h:kJ.K w x cs):cs= [.int .i64 x.f0, .int .i64 x.f1, .int .i64 x.f2]:=by
  obtain⟨_,_,rfl,rfl,⟨_,_,rfl,rfl,rfl⟩⟩:=h
  exact rfl
def iA (xs:List S217) (i:Int):S217:=xs.getD i.toNat vE
theorem uK {w:World} {A:Option Addr} {n:Nat} {xs:List S217} (h:Kd.C kJ w A n xs) (i:Int) (h0:0≤i) (h1:i<n): ∃ad,A=some ad∧w.cell? (ad.add (i.toNat * 3))=some (.int .i64 (iA xs i).f0)∧w.cell? ⟨(ad.add (i.toNat * 3)).block,(ad.add (i.toNat * 3)).off+1,none⟩=some (.int .i64 (iA xs i).f1)∧w.cell? ⟨(ad.add (i.toNat * 3)).block,(ad.add (i.toNat * 3)).off+2,none⟩=some (.int .i64 (iA xs i).f2):=by
  obtain⟨ad,c,e,_,hK,hc0⟩:=Kd.C_get h vE i h0 h1
  have hc: ∀j u,c[j]? =some u→w.cell? (ad.add (i.toNat * 3+j))=some u:=hc0
  obtain rfl:=rE hK
  exact⟨ad,e,hc 0 _ rfl,by rw[←bW _ _ 1 (by omega)];exact hc 1 _ rfl,by rw[←bW _ _ 2 (by omega)];exact hc 2 _ rfl⟩
structure S55 where
  f0:Bool
  f1:(List Int)
  f2:(List Int)
def z55:S55:=⟨false,([]:List Int),([]:List Int)⟩
def k55:Kd S55:=Kd.iso (Kd.pair Kd.bool (Kd.pair (Kd.slice 3 (Kd.int .i64)) (Kd.slice 3 (Kd.int .i64)))) (fun x:S55=>(x.f0,x.f1,x.f2))
theorem tK {w:World} {x:S55} {cs:List Value} (h:k55.K w x cs): ∃A1 c1 A2 c2,cs= [.bool x.f0, .slice A1 x.f1.length c1, .slice A2 x.f2.length c2]∧x.f1.length≤c1∧(Kd.int .i64).C w A1 x.f1.length x.f1∧x.f2.length≤c2∧(Kd.int .i64).C w A2 x.f2.length x.f2:=by
  obtain⟨_,_,rfl,rfl,⟨_,_,rfl,⟨A1,c1,rfl,l1,g1⟩,⟨A2,c2,rfl,l2,g2⟩⟩⟩:=h
  exact⟨A1,c1,A2,c2,rfl,l1,g1,l2,g2⟩
def ek (xs:List S55) (i:Int):S55:=xs.getD i.toNat z55
theorem oN {w:World} {A:Option Addr} {n:Nat} {xs:List S55} (h:Kd.C k55 w A n xs) (i:Int) (h0:0≤i) (h1:i<n): ∃ad A1 c1 A2 c2,A=some ad∧w.cell? (ad.add (i.toNat * 3))=some (.bool (ek xs i).f0)∧w.cell? ⟨(ad.add (i.toNat * 3)).block,(ad.add (i.toNat * 3)).off+1,none⟩=some (.slice A1 (ek xs i).f1.length c1)∧w.cell? ⟨(ad.add (i.toNat * 3)).block,(ad.add (i.toNat * 3)).off+2,none⟩=some (.slice A2 (ek xs i).f2.length c2)∧(ek xs i).f1.length≤c1∧(Kd.int .i64).C w A1 (ek xs i).f1.length (ek xs i).f1∧(ek xs i).f2.length≤c2∧(Kd.int .i64).C w A2 (ek xs i).f2.length (ek xs i).f2:=by
  obtain⟨ad,c,e,_,hK,hc0⟩:=Kd.C_get h z55 i h0 h1
  have hc: ∀j u,c[j]? =some u→w.cell? (ad.add (i.toNat * 3+j))=some u:=hc0
  obtain⟨A1,c1,A2,c2,rfl,l1,g1,l2,g2⟩:=tK hK
  exact⟨ad,A1,c1,A2,c2,e,hc 0 _ rfl,by rw[←bW _ _ 1 (by omega)];exact hc 1 _ rfl,by rw[←bW _ _ 2 (by omega)];exact hc 2 _ rfl,l1,g1,l2,g2⟩
structure S219 where
  f0:Int
  f1:Int
  f2:Int
  f3:Int
def vF:S219:=⟨(0:Int),(0:Int),(0:Int),(0:Int)⟩
def kK:Kd S219:=Kd.iso (Kd.pair (Kd.int .i64) (Kd.pair (Kd.int .i64) (Kd.pair (Kd.int .i64) (Kd.int .i64)))) (fun x:S219=>(x.f0,x.f1,x.f2,x.f3))
theorem rF {w:World} {x:S219} {cs:List Value} (h:kK.K w x cs):cs= [.int .i64 x.f0, .int .i64 x.f1, .int .i64 x.f2, .int .i64 x.f3]:=by
  obtain⟨_,_,rfl,rfl,⟨_,_,rfl,rfl,⟨_,_,rfl,rfl,rfl⟩⟩⟩:=h
  exact rfl
def gy (xs:List S219) (i:Int):S219:=xs.getD i.toNat vF
theorem uL {w:World} {A:Option Addr} {n:Nat} {xs:List S219} (h:Kd.C kK w A n xs) (i:Int) (h0:0≤i) (h1:i<n): ∃ad,A=some ad∧w.cell? (ad.add (i.toNat * 4))=some (.int .i64 (gy xs i).f0)∧w.cell? ⟨(ad.add (i.toNat * 4)).block,(ad.add (i.toNat * 4)).off+1,none⟩=some (.int .i64 (gy xs i).f1)∧w.cell? ⟨(ad.add (i.toNat * 4)).block,(ad.add (i.toNat * 4)).off+2,none⟩=some (.int .i64 (gy xs i).f2)∧w.cell? ⟨(ad.add (i.toNat * 4)).block,(ad.add (i.toNat * 4)).off+3,none⟩=some (.int .i64 (gy xs i).f3):=by
  obtain⟨ad,c,e,_,hK,hc0⟩:=Kd.C_get h vF i h0 h1
  have hc: ∀j u,c[j]? =some u→w.cell? (ad.add (i.toNat * 4+j))=some u:=hc0
  obtain rfl:=rF hK
  exact⟨ad,e,hc 0 _ rfl,by rw[←bW _ _ 1 (by omega)];exact hc 1 _ rfl,by rw[←bW _ _ 2 (by omega)];exact hc 2 _ rfl,by rw[←bW _ _ 3 (by omega)];exact hc 3 _ rfl⟩
structure S122 where
  f0:Int
  f1:Int
  f2:(List Int)
  f3:Int
  f4:Int
  f5:(List S217)
  f6:(List S55)
  f7:(List S219)
def vG:S122:=⟨(0:Int),(0:Int),([]:List Int),(0:Int),(0:Int),([]:List S217),([]:List S55),([]:List S219)⟩
def kL:Kd S122:=Kd.iso (Kd.pair (Kd.int .i64) (Kd.pair (Kd.int .i64) (Kd.pair (Kd.slice 3 (Kd.int .i64)) (Kd.pair (Kd.int .i64) (Kd.pair (Kd.int .i64) (Kd.pair (Kd.slice 217 kJ) (Kd.pair (Kd.slice 55 k55) (Kd.slice 219 kK)))))))) (fun x:S122=>(x.f0,x.f1,x.f2,x.f3,x.f4,x.f5,x.f6,x.f7))
theorem rG {w:World} {x:S122} {cs:List Value} (h:kL.K w x cs): ∃A2 c2 A5 c5 A6 c6 A7 c7,cs= [.int .i64 x.f0, .int .i64 x.f1, .slice A2 x.f2.length c2, .int .i64 x.f3, .int .i64 x.f4, .slice A5 x.f5.length c5, .slice A6 x.f6.length c6, .slice A7 x.f7.length c7]∧x.f2.length≤c2∧(Kd.int .i64).C w A2 x.f2.length x.f2∧x.f5.length≤c5∧kJ.C w A5 x.f5.length x.f5∧x.f6.length≤c6∧k55.C w A6 x.f6.length x.f6∧x.f7.length≤c7∧kK.C w A7 x.f7.length x.f7:=by
  obtain⟨_,_,rfl,rfl,⟨_,_,rfl,rfl,⟨_,_,rfl,⟨A2,c2,rfl,l2,g2⟩,⟨_,_,rfl,rfl,⟨_,_,rfl,rfl,⟨_,_,rfl,⟨A5,c5,rfl,l5,g5⟩,⟨_,_,rfl,⟨A6,c6,rfl,l6,g6⟩,⟨A7,c7,rfl,l7,g7⟩⟩⟩⟩⟩⟩⟩⟩:=h
  exact⟨A2,c2,A5,c5,A6,c6,A7,c7,rfl,l2,g2,l5,g5,l6,g6,l7,g7⟩
def bf (xs:List S122) (i:Int):S122:=xs.getD i.toNat vG
theorem mY {w:World} {A:Option Addr} {n:Nat} {xs:List S122} (h:Kd.C kL w A n xs) (i:Int) (h0:0≤i) (h1:i<n): ∃ad A2 c2 A5 c5 A6 c6 A7 c7,A=some ad∧w.cell? (ad.add (i.toNat * 8))=some (.int .i64 (bf xs i).f0)∧w.cell? ⟨(ad.add (i.toNat * 8)).block,(ad.add (i.toNat * 8)).off+1,none⟩=some (.int .i64 (bf xs i).f1)∧w.cell? ⟨(ad.add (i.toNat * 8)).block,(ad.add (i.toNat * 8)).off+2,none⟩=some (.slice A2 (bf xs i).f2.length c2)∧w.cell? ⟨(ad.add (i.toNat * 8)).block,(ad.add (i.toNat * 8)).off+3,none⟩=some (.int .i64 (bf xs i).f3)∧w.cell? ⟨(ad.add (i.toNat * 8)).block,(ad.add (i.toNat * 8)).off+4,none⟩=some (.int .i64 (bf xs i).f4)∧w.cell? ⟨(ad.add (i.toNat * 8)).block,(ad.add (i.toNat * 8)).off+5,none⟩=some (.slice A5 (bf xs i).f5.length c5)∧w.cell? ⟨(ad.add (i.toNat * 8)).block,(ad.add (i.toNat * 8)).off+6,none⟩=some (.slice A6 (bf xs i).f6.length c6)∧w.cell? ⟨(ad.add (i.toNat * 8)).block,(ad.add (i.toNat * 8)).off+7,none⟩=some (.slice A7 (bf xs i).f7.length c7)∧(bf xs i).f2.length≤c2∧(Kd.int .i64).C w A2 (bf xs i).f2.length (bf xs i).f2∧(bf xs i).f5.length≤c5∧kJ.C w A5 (bf xs i).f5.length (bf xs i).f5∧(bf xs i).f6.length≤c6∧k55.C w A6 (bf xs i).f6.length (bf xs i).f6∧(bf xs i).f7.length≤c7∧kK.C w A7 (bf xs i).f7.length (bf xs i).f7:=by
  obtain⟨ad,c,e,_,hK,hc0⟩:=Kd.C_get h vG i h0 h1
  have hc: ∀j u,c[j]? =some u→w.cell? (ad.add (i.toNat * 8+j))=some u:=hc0
  obtain⟨A2,c2,A5,c5,A6,c6,A7,c7,rfl,l2,g2,l5,g5,l6,g6,l7,g7⟩:=rG hK
  exact⟨ad,A2,c2,A5,c5,A6,c6,A7,c7,e,hc 0 _ rfl,by rw[←bW _ _ 1 (by omega)];exact hc 1 _ rfl,by rw[←bW _ _ 2 (by omega)];exact hc 2 _ rfl,by rw[←bW _ _ 3 (by omega)];exact hc 3 _ rfl,by rw[←bW _ _ 4 (by omega)];exact hc 4 _ rfl,by rw[←bW _ _ 5 (by omega)];exact hc 5 _ rfl,by rw[←bW _ _ 6 (by omega)];exact hc 6 _ rfl,by rw[←bW _ _ 7 (by omega)];exact hc 7 _ rfl,l2,g2,l5,g5,l6,g6,l7,g7⟩
structure S126 where
  f0:Int
  f1:(List Int)
def jC:S126:=⟨(0:Int),([]:List Int)⟩
def eB:Kd S126:=Kd.iso (Kd.pair (Kd.int .i64) (Kd.slice 3 (Kd.int .i64))) (fun x:S126=>(x.f0,x.f1))
theorem rH {w:World} {x:S126} {cs:List Value} (h:eB.K w x cs): ∃A1 c1,cs= [.int .i64 x.f0, .slice A1 x.f1.length c1]∧x.f1.length≤c1∧(Kd.int .i64).C w A1 x.f1.length x.f1:=by
  obtain⟨_,_,rfl,rfl,⟨A1,c1,rfl,l1,g1⟩⟩:=h
  exact⟨A1,c1,rfl,l1,g1⟩
theorem mD {w:World} {base:Nat} {ok:Nat→Prop} {x:S126} {cs:List Value} (h:eB.M w base ok x cs): ∃v1,cs= [.int .i64 x.f0,v1]∧(Kd.int .i64).R 3 w base ok v1 x.f1:=by
  obtain⟨_,_,rfl,rfl,⟨v1,rfl,g1⟩⟩:=h
  exact⟨v1,rfl,g1⟩
theorem oO (w:World) (base:Nat) (ok:Nat→Prop) (x:S126) {v1:Value} (g1:(Kd.int .i64).R 3 w base ok v1 x.f1):eB.M w base ok x [.int .i64 x.f0,v1]:=⟨[.int .i64 x.f0], [v1],rfl,rfl,⟨v1,rfl,g1⟩⟩
def aD (xs:List S126) (i:Int):S126:=xs.getD i.toNat jC
theorem gI {w:World} {A:Option Addr} {n:Nat} {xs:List S126} (h:Kd.C eB w A n xs) (i:Int) (h0:0≤i) (h1:i<n): ∃ad A1 c1,A=some ad∧w.cell? (ad.add (i.toNat * 2))=some (.int .i64 (aD xs i).f0)∧w.cell? ⟨(ad.add (i.toNat * 2)).block,(ad.add (i.toNat * 2)).off+1,none⟩=some (.slice A1 (aD xs i).f1.length c1)∧(aD xs i).f1.length≤c1∧(Kd.int .i64).C w A1 (aD xs i).f1.length (aD xs i).f1:=by
  obtain⟨ad,c,e,_,hK,hc0⟩:=Kd.C_get h jC i h0 h1
  have hc: ∀j u,c[j]? =some u→w.cell? (ad.add (i.toNat * 2+j))=some u:=hc0
  obtain⟨A1,c1,rfl,l1,g1⟩:=rH hK
  exact⟨ad,A1,c1,e,hc 0 _ rfl,by rw[←bW _ _ 1 (by omega)];exact hc 1 _ rfl,l1,g1⟩
structure S113 where
  f0:Int
  f1:Int
  f2:Int
def iU:S113:=⟨(0:Int),(0:Int),(0:Int)⟩
def fG:Kd S113:=Kd.iso (Kd.pair (Kd.int .i64) (Kd.pair (Kd.int .i64) (Kd.int .i64))) (fun x:S113=>(x.f0,x.f1,x.f2))
theorem rJ {w:World} {x:S113} {cs:List Value} (h:fG.K w x cs):cs= [.int .i64 x.f0, .int .i64 x.f1, .int .i64 x.f2]:=by
  obtain⟨_,_,rfl,rfl,⟨_,_,rfl,rfl,rfl⟩⟩:=h
  exact rfl
theorem mE {w:World} {base:Nat} {ok:Nat→Prop} {x:S113} {cs:List Value} (h:fG.M w base ok x cs):cs= [.int .i64 x.f0, .int .i64 x.f1, .int .i64 x.f2]:=by
  obtain⟨_,_,rfl,rfl,⟨_,_,rfl,rfl,rfl⟩⟩:=h
  exact rfl
theorem oP (w:World) (base:Nat) (ok:Nat→Prop) (x:S113):fG.M w base ok x [.int .i64 x.f0, .int .i64 x.f1, .int .i64 x.f2]:=⟨[.int .i64 x.f0], [.int .i64 x.f1, .int .i64 x.f2],rfl,rfl,⟨[.int .i64 x.f1], [.int .i64 x.f2],rfl,rfl,rfl⟩⟩
def aQ (xs:List S113) (i:Int):S113:=xs.getD i.toNat iU
theorem iR {w:World} {A:Option Addr} {n:Nat} {xs:List S113} (h:Kd.C fG w A n xs) (i:Int) (h0:0≤i) (h1:i<n): ∃ad,A=some ad∧w.cell? (ad.add (i.toNat * 3))=some (.int .i64 (aQ xs i).f0)∧w.cell? ⟨(ad.add (i.toNat * 3)).block,(ad.add (i.toNat * 3)).off+1,none⟩=some (.int .i64 (aQ xs i).f1)∧w.cell? ⟨(ad.add (i.toNat * 3)).block,(ad.add (i.toNat * 3)).off+2,none⟩=some (.int .i64 (aQ xs i).f2):=by
  obtain⟨ad,c,e,_,hK,hc0⟩:=Kd.C_get h iU i h0 h1
  have hc: ∀j u,c[j]? =some u→w.cell? (ad.add (i.toNat * 3+j))=some u:=hc0
  obtain rfl:=rJ hK
  exact⟨ad,e,hc 0 _ rfl,by rw[←bW _ _ 1 (by omega)];exact hc 1 _ rfl,by rw[←bW _ _ 2 (by omega)];exact hc 2 _ rfl⟩
structure S57 where
  f0:Bool
  f1:(List Int)
  f2:(List Int)
def z57:S57:=⟨false,([]:List Int),([]:List Int)⟩
def k57:Kd S57:=Kd.iso (Kd.pair Kd.bool (Kd.pair (Kd.slice 3 (Kd.int .i64)) (Kd.slice 3 (Kd.int .i64)))) (fun x:S57=>(x.f0,x.f1,x.f2))
theorem tL {w:World} {x:S57} {cs:List Value} (h:k57.K w x cs): ∃A1 c1 A2 c2,cs= [.bool x.f0, .slice A1 x.f1.length c1, .slice A2 x.f2.length c2]∧x.f1.length≤c1∧(Kd.int .i64).C w A1 x.f1.length x.f1∧x.f2.length≤c2∧(Kd.int .i64).C w A2 x.f2.length x.f2:=by
  obtain⟨_,_,rfl,rfl,⟨_,_,rfl,⟨A1,c1,rfl,l1,g1⟩,⟨A2,c2,rfl,l2,g2⟩⟩⟩:=h
  exact⟨A1,c1,A2,c2,rfl,l1,g1,l2,g2⟩
theorem nL {w:World} {base:Nat} {ok:Nat→Prop} {x:S57} {cs:List Value} (h:k57.M w base ok x cs): ∃v1 v2,cs= [.bool x.f0,v1,v2]∧(Kd.int .i64).R 3 w base ok v1 x.f1∧(Kd.int .i64).R 3 w base ok v2 x.f2:=by
  obtain⟨_,_,rfl,rfl,⟨_,_,rfl,⟨v1,rfl,g1⟩,⟨v2,rfl,g2⟩⟩⟩:=h
  exact⟨v1,v2,rfl,g1,g2⟩
theorem qg (w:World) (base:Nat) (ok:Nat→Prop) (x:S57) {v1:Value} (g1:(Kd.int .i64).R 3 w base ok v1 x.f1) {v2:Value} (g2:(Kd.int .i64).R 3 w base ok v2 x.f2):k57.M w base ok x [.bool x.f0,v1,v2]:=⟨[.bool x.f0], [v1,v2],rfl,rfl,⟨[v1], [v2],rfl,⟨v1,rfl,g1⟩,⟨v2,rfl,g2⟩⟩⟩
def bi (xs:List S57) (i:Int):S57:=xs.getD i.toNat z57
theorem jT {w:World} {A:Option Addr} {n:Nat} {xs:List S57} (h:Kd.C k57 w A n xs) (i:Int) (h0:0≤i) (h1:i<n): ∃ad A1 c1 A2 c2,A=some ad∧w.cell? (ad.add (i.toNat * 3))=some (.bool (bi xs i).f0)∧w.cell? ⟨(ad.add (i.toNat * 3)).block,(ad.add (i.toNat * 3)).off+1,none⟩=some (.slice A1 (bi xs i).f1.length c1)∧w.cell? ⟨(ad.add (i.toNat * 3)).block,(ad.add (i.toNat * 3)).off+2,none⟩=some (.slice A2 (bi xs i).f2.length c2)∧(bi xs i).f1.length≤c1∧(Kd.int .i64).C w A1 (bi xs i).f1.length (bi xs i).f1∧(bi xs i).f2.length≤c2∧(Kd.int .i64).C w A2 (bi xs i).f2.length (bi xs i).f2:=by
  obtain⟨ad,c,e,_,hK,hc0⟩:=Kd.C_get h z57 i h0 h1
  have hc: ∀j u,c[j]? =some u→w.cell? (ad.add (i.toNat * 3+j))=some u:=hc0
  obtain⟨A1,c1,A2,c2,rfl,l1,g1,l2,g2⟩:=tL hK
  exact⟨ad,A1,c1,A2,c2,e,hc 0 _ rfl,by rw[←bW _ _ 1 (by omega)];exact hc 1 _ rfl,by rw[←bW _ _ 2 (by omega)];exact hc 2 _ rfl,l1,g1,l2,g2⟩
structure S181 where
  f0:Int
  f1:Int
  f2:Int
  f3:Int
def ig:S181:=⟨(0:Int),(0:Int),(0:Int),(0:Int)⟩
def fD:Kd S181:=Kd.iso (Kd.pair (Kd.int .i64) (Kd.pair (Kd.int .i64) (Kd.pair (Kd.int .i64) (Kd.int .i64)))) (fun x:S181=>(x.f0,x.f1,x.f2,x.f3))
theorem rM {w:World} {x:S181} {cs:List Value} (h:fD.K w x cs):cs= [.int .i64 x.f0, .int .i64 x.f1, .int .i64 x.f2, .int .i64 x.f3]:=by
  obtain⟨_,_,rfl,rfl,⟨_,_,rfl,rfl,⟨_,_,rfl,rfl,rfl⟩⟩⟩:=h
  exact rfl
theorem mF {w:World} {base:Nat} {ok:Nat→Prop} {x:S181} {cs:List Value} (h:fD.M w base ok x cs):cs= [.int .i64 x.f0, .int .i64 x.f1, .int .i64 x.f2, .int .i64 x.f3]:=by
  obtain⟨_,_,rfl,rfl,⟨_,_,rfl,rfl,⟨_,_,rfl,rfl,rfl⟩⟩⟩:=h
  exact rfl
theorem oQ (w:World) (base:Nat) (ok:Nat→Prop) (x:S181):fD.M w base ok x [.int .i64 x.f0, .int .i64 x.f1, .int .i64 x.f2, .int .i64 x.f3]:=⟨[.int .i64 x.f0], [.int .i64 x.f1, .int .i64 x.f2, .int .i64 x.f3],rfl,rfl,⟨[.int .i64 x.f1], [.int .i64 x.f2, .int .i64 x.f3],rfl,rfl,⟨[.int .i64 x.f2], [.int .i64 x.f3],rfl,rfl,rfl⟩⟩⟩
def aG (xs:List S181) (i:Int):S181:=xs.getD i.toNat ig
theorem jL {w:World} {A:Option Addr} {n:Nat} {xs:List S181} (h:Kd.C fD w A n xs) (i:Int) (h0:0≤i) (h1:i<n): ∃ad,A=some ad∧w.cell? (ad.add (i.toNat * 4))=some (.int .i64 (aG xs i).f0)∧w.cell? ⟨(ad.add (i.toNat * 4)).block,(ad.add (i.toNat * 4)).off+1,none⟩=some (.int .i64 (aG xs i).f1)∧w.cell? ⟨(ad.add (i.toNat * 4)).block,(ad.add (i.toNat * 4)).off+2,none⟩=some (.int .i64 (aG xs i).f2)∧w.cell? ⟨(ad.add (i.toNat * 4)).block,(ad.add (i.toNat * 4)).off+3,none⟩=some (.int .i64 (aG xs i).f3):=by
  obtain⟨ad,c,e,_,hK,hc0⟩:=Kd.C_get h ig i h0 h1
  have hc: ∀j u,c[j]? =some u→w.cell? (ad.add (i.toNat * 4+j))=some u:=hc0
  obtain rfl:=rM hK
  exact⟨ad,e,hc 0 _ rfl,by rw[←bW _ _ 1 (by omega)];exact hc 1 _ rfl,by rw[←bW _ _ 2 (by omega)];exact hc 2 _ rfl,by rw[←bW _ _ 3 (by omega)];exact hc 3 _ rfl⟩
structure S104 where
  f0:Int
  f1:Int
  f2:(List Int)
  f3:Int
  f4:Int
  f5:(List S113)
  f6:(List S57)
  f7:(List S181)
def jM:S104:=⟨(0:Int),(0:Int),([]:List Int),(0:Int),(0:Int),([]:List S113),([]:List S57),([]:List S181)⟩
def eD:Kd S104:=Kd.iso (Kd.pair (Kd.int .i64) (Kd.pair (Kd.int .i64) (Kd.pair (Kd.slice 3 (Kd.int .i64)) (Kd.pair (Kd.int .i64) (Kd.pair (Kd.int .i64) (Kd.pair (Kd.slice 113 fG) (Kd.pair (Kd.slice 57 k57) (Kd.slice 181 fD)))))))) (fun x:S104=>(x.f0,x.f1,x.f2,x.f3,x.f4,x.f5,x.f6,x.f7))
theorem rO {w:World} {x:S104} {cs:List Value} (h:eD.K w x cs): ∃A2 c2 A5 c5 A6 c6 A7 c7,cs= [.int .i64 x.f0, .int .i64 x.f1, .slice A2 x.f2.length c2, .int .i64 x.f3, .int .i64 x.f4, .slice A5 x.f5.length c5, .slice A6 x.f6.length c6, .slice A7 x.f7.length c7]∧x.f2.length≤c2∧(Kd.int .i64).C w A2 x.f2.length x.f2∧x.f5.length≤c5∧fG.C w A5 x.f5.length x.f5∧x.f6.length≤c6∧k57.C w A6 x.f6.length x.f6∧x.f7.length≤c7∧fD.C w A7 x.f7.length x.f7:=by
  obtain⟨_,_,rfl,rfl,⟨_,_,rfl,rfl,⟨_,_,rfl,⟨A2,c2,rfl,l2,g2⟩,⟨_,_,rfl,rfl,⟨_,_,rfl,rfl,⟨_,_,rfl,⟨A5,c5,rfl,l5,g5⟩,⟨_,_,rfl,⟨A6,c6,rfl,l6,g6⟩,⟨A7,c7,rfl,l7,g7⟩⟩⟩⟩⟩⟩⟩⟩:=h
  exact⟨A2,c2,A5,c5,A6,c6,A7,c7,rfl,l2,g2,l5,g5,l6,g6,l7,g7⟩
theorem mG {w:World} {base:Nat} {ok:Nat→Prop} {x:S104} {cs:List Value} (h:eD.M w base ok x cs): ∃v2 v5 v6 v7,cs= [.int .i64 x.f0, .int .i64 x.f1,v2, .int .i64 x.f3, .int .i64 x.f4,v5,v6,v7]∧(Kd.int .i64).R 3 w base ok v2 x.f2∧fG.R 113 w base ok v5 x.f5∧k57.R 57 w base ok v6 x.f6∧fD.R 181 w base ok v7 x.f7:=by
  obtain⟨_,_,rfl,rfl,⟨_,_,rfl,rfl,⟨_,_,rfl,⟨v2,rfl,g2⟩,⟨_,_,rfl,rfl,⟨_,_,rfl,rfl,⟨_,_,rfl,⟨v5,rfl,g5⟩,⟨_,_,rfl,⟨v6,rfl,g6⟩,⟨v7,rfl,g7⟩⟩⟩⟩⟩⟩⟩⟩:=h
  exact⟨v2,v5,v6,v7,rfl,g2,g5,g6,g7⟩
theorem oU (w:World) (base:Nat) (ok:Nat→Prop) (x:S104) {v2:Value} (g2:(Kd.int .i64).R 3 w base ok v2 x.f2) {v5:Value} (g5:fG.R 113 w base ok v5 x.f5) {v6:Value} (g6:k57.R 57 w base ok v6 x.f6) {v7:Value} (g7:fD.R 181 w base ok v7 x.f7):eD.M w base ok x [.int .i64 x.f0, .int .i64 x.f1,v2, .int .i64 x.f3, .int .i64 x.f4,v5,v6,v7]:=⟨[.int .i64 x.f0], [.int .i64 x.f1,v2, .int .i64 x.f3, .int .i64 x.f4,v5,v6,v7],rfl,rfl,⟨[.int .i64 x.f1], [v2, .int .i64 x.f3, .int .i64 x.f4,v5,v6,v7],rfl,rfl,⟨[v2], [.int .i64 x.f3, .int .i64 x.f4,v5,v6,v7],rfl,⟨v2,rfl,g2⟩,⟨[.int .i64 x.f3], [.int .i64 x.f4,v5,v6,v7],rfl,rfl,⟨[.int .i64 x.f4], [v5,v6,v7],rfl,rfl,⟨[v5], [v6,v7],rfl,⟨v5,rfl,g5⟩,⟨[v6], [v7],rfl,⟨v6,rfl,g6⟩,⟨v7,rfl,g7⟩⟩⟩⟩⟩⟩⟩⟩
def aa (xs:List S104) (i:Int):S104:=xs.getD i.toNat jM
theorem cu {w:World} {A:Option Addr} {n:Nat} {xs:List S104} (h:Kd.C eD w A n xs) (i:Int) (h0:0≤i) (h1:i<n): ∃ad A2 c2 A5 c5 A6 c6 A7 c7,A=some ad∧w.cell? (ad.add (i.toNat * 8))=some (.int .i64 (aa xs i).f0)∧w.cell? ⟨(ad.add (i.toNat * 8)).block,(ad.add (i.toNat * 8)).off+1,none⟩=some (.int .i64 (aa xs i).f1)∧w.cell? ⟨(ad.add (i.toNat * 8)).block,(ad.add (i.toNat * 8)).off+2,none⟩=some (.slice A2 (aa xs i).f2.length c2)∧w.cell? ⟨(ad.add (i.toNat * 8)).block,(ad.add (i.toNat * 8)).off+3,none⟩=some (.int .i64 (aa xs i).f3)∧w.cell? ⟨(ad.add (i.toNat * 8)).block,(ad.add (i.toNat * 8)).off+4,none⟩=some (.int .i64 (aa xs i).f4)∧w.cell? ⟨(ad.add (i.toNat * 8)).block,(ad.add (i.toNat * 8)).off+5,none⟩=some (.slice A5 (aa xs i).f5.length c5)∧w.cell? ⟨(ad.add (i.toNat * 8)).block,(ad.add (i.toNat * 8)).off+6,none⟩=some (.slice A6 (aa xs i).f6.length c6)∧w.cell? ⟨(ad.add (i.toNat * 8)).block,(ad.add (i.toNat * 8)).off+7,none⟩=some (.slice A7 (aa xs i).f7.length c7)∧(aa xs i).f2.length≤c2∧(Kd.int .i64).C w A2 (aa xs i).f2.length (aa xs i).f2∧(aa xs i).f5.length≤c5∧fG.C w A5 (aa xs i).f5.length (aa xs i).f5∧(aa xs i).f6.length≤c6∧k57.C w A6 (aa xs i).f6.length (aa xs i).f6∧(aa xs i).f7.length≤c7∧fD.C w A7 (aa xs i).f7.length (aa xs i).f7:=by
  obtain⟨ad,c,e,_,hK,hc0⟩:=Kd.C_get h jM i h0 h1
  have hc: ∀j u,c[j]? =some u→w.cell? (ad.add (i.toNat * 8+j))=some u:=hc0
  obtain⟨A2,c2,A5,c5,A6,c6,A7,c7,rfl,l2,g2,l5,g5,l6,g6,l7,g7⟩:=rO hK
  exact⟨ad,A2,c2,A5,c5,A6,c6,A7,c7,e,hc 0 _ rfl,by rw[←bW _ _ 1 (by omega)];exact hc 1 _ rfl,by rw[←bW _ _ 2 (by omega)];exact hc 2 _ rfl,by rw[←bW _ _ 3 (by omega)];exact hc 3 _ rfl,by rw[←bW _ _ 4 (by omega)];exact hc 4 _ rfl,by rw[←bW _ _ 5 (by omega)];exact hc 5 _ rfl,by rw[←bW _ _ 6 (by omega)];exact hc 6 _ rfl,by rw[←bW _ _ 7 (by omega)];exact hc 7 _ rfl,l2,g2,l5,g5,l6,g6,l7,g7⟩
structure S31 where
  f0:Bool
  f1:Int
def z31:S31:=⟨false,(0:Int)⟩
def k31:Kd S31:=Kd.iso (Kd.pair Kd.bool (Kd.int .i64)) (fun x:S31=>(x.f0,x.f1))
theorem tO {w:World} {x:S31} {cs:List Value} (h:k31.K w x cs):cs= [.bool x.f0, .int .i64 x.f1]:=by
  obtain⟨_,_,rfl,rfl,rfl⟩:=h
  exact rfl
theorem nM {w:World} {base:Nat} {ok:Nat→Prop} {x:S31} {cs:List Value} (h:k31.M w base ok x cs):cs= [.bool x.f0, .int .i64 x.f1]:=by
  obtain⟨_,_,rfl,rfl,rfl⟩:=h
  exact rfl
theorem qh (w:World) (base:Nat) (ok:Nat→Prop) (x:S31):k31.M w base ok x [.bool x.f0, .int .i64 x.f1]:=⟨[.bool x.f0], [.int .i64 x.f1],rfl,rfl,rfl⟩
def di (xs:List S31) (i:Int):S31:=xs.getD i.toNat z31
theorem ku {w:World} {A:Option Addr} {n:Nat} {xs:List S31} (h:Kd.C k31 w A n xs) (i:Int) (h0:0≤i) (h1:i<n): ∃ad,A=some ad∧w.cell? (ad.add (i.toNat * 2))=some (.bool (di xs i).f0)∧w.cell? ⟨(ad.add (i.toNat * 2)).block,(ad.add (i.toNat * 2)).off+1,none⟩=some (.int .i64 (di xs i).f1):=by
  obtain⟨ad,c,e,_,hK,hc0⟩:=Kd.C_get h z31 i h0 h1
  have hc: ∀j u,c[j]? =some u→w.cell? (ad.add (i.toNat * 2+j))=some u:=hc0
  obtain rfl:=tO hK
  exact⟨ad,e,hc 0 _ rfl,by rw[←bW _ _ 1 (by omega)];exact hc 1 _ rfl⟩
structure S91 where
  f0:Int
  f1:(List S31)
def z91:S91:=⟨(0:Int),([]:List S31)⟩
def k91:Kd S91:=Kd.iso (Kd.pair (Kd.int .i64) (Kd.slice 31 k31)) (fun x:S91=>(x.f0,x.f1))
theorem tQ {w:World} {x:S91} {cs:List Value} (h:k91.K w x cs): ∃A1 c1,cs= [.int .i64 x.f0, .slice A1 x.f1.length c1]∧x.f1.length≤c1∧k31.C w A1 x.f1.length x.f1:=by
  obtain⟨_,_,rfl,rfl,⟨A1,c1,rfl,l1,g1⟩⟩:=h
  exact⟨A1,c1,rfl,l1,g1⟩
theorem nN {w:World} {base:Nat} {ok:Nat→Prop} {x:S91} {cs:List Value} (h:k91.M w base ok x cs): ∃v1,cs= [.int .i64 x.f0,v1]∧k31.R 31 w base ok v1 x.f1:=by
  obtain⟨_,_,rfl,rfl,⟨v1,rfl,g1⟩⟩:=h
  exact⟨v1,rfl,g1⟩
theorem qi (w:World) (base:Nat) (ok:Nat→Prop) (x:S91) {v1:Value} (g1:k31.R 31 w base ok v1 x.f1):k91.M w base ok x [.int .i64 x.f0,v1]:=⟨[.int .i64 x.f0], [v1],rfl,rfl,⟨v1,rfl,g1⟩⟩
def bz (xs:List S91) (i:Int):S91:=xs.getD i.toNat z91
theorem iX {w:World} {A:Option Addr} {n:Nat} {xs:List S91} (h:Kd.C k91 w A n xs) (i:Int) (h0:0≤i) (h1:i<n): ∃ad A1 c1,A=some ad∧w.cell? (ad.add (i.toNat * 2))=some (.int .i64 (bz xs i).f0)∧w.cell? ⟨(ad.add (i.toNat * 2)).block,(ad.add (i.toNat * 2)).off+1,none⟩=some (.slice A1 (bz xs i).f1.length c1)∧(bz xs i).f1.length≤c1∧k31.C w A1 (bz xs i).f1.length (bz xs i).f1:=by
  obtain⟨ad,c,e,_,hK,hc0⟩:=Kd.C_get h z91 i h0 h1
  have hc: ∀j u,c[j]? =some u→w.cell? (ad.add (i.toNat * 2+j))=some u:=hc0
  obtain⟨A1,c1,rfl,l1,g1⟩:=tQ hK
  exact⟨ad,A1,c1,e,hc 0 _ rfl,by rw[←bW _ _ 1 (by omega)];exact hc 1 _ rfl,l1,g1⟩
structure S70 where
  f0:Int
  f1:Int
  f2:(List S31)
  f3:(List S31)
def z70:S70:=⟨(0:Int),(0:Int),([]:List S31),([]:List S31)⟩
def k70:Kd S70:=Kd.iso (Kd.pair (Kd.int .i64) (Kd.pair (Kd.int .i64) (Kd.pair (Kd.slice 31 k31) (Kd.slice 31 k31)))) (fun x:S70=>(x.f0,x.f1,x.f2,x.f3))
theorem tT {w:World} {x:S70} {cs:List Value} (h:k70.K w x cs): ∃A2 c2 A3 c3,cs= [.int .i64 x.f0, .int .i64 x.f1, .slice A2 x.f2.length c2, .slice A3 x.f3.length c3]∧x.f2.length≤c2∧k31.C w A2 x.f2.length x.f2∧x.f3.length≤c3∧k31.C w A3 x.f3.length x.f3:=by
  obtain⟨_,_,rfl,rfl,⟨_,_,rfl,rfl,⟨_,_,rfl,⟨A2,c2,rfl,l2,g2⟩,⟨A3,c3,rfl,l3,g3⟩⟩⟩⟩:=h
  exact⟨A2,c2,A3,c3,rfl,l2,g2,l3,g3⟩
theorem nO {w:World} {base:Nat} {ok:Nat→Prop} {x:S70} {cs:List Value} (h:k70.M w base ok x cs): ∃v2 v3,cs= [.int .i64 x.f0, .int .i64 x.f1,v2,v3]∧k31.R 31 w base ok v2 x.f2∧k31.R 31 w base ok v3 x.f3:=by
  obtain⟨_,_,rfl,rfl,⟨_,_,rfl,rfl,⟨_,_,rfl,⟨v2,rfl,g2⟩,⟨v3,rfl,g3⟩⟩⟩⟩:=h
  exact⟨v2,v3,rfl,g2,g3⟩
theorem qj (w:World) (base:Nat) (ok:Nat→Prop) (x:S70) {v2:Value} (g2:k31.R 31 w base ok v2 x.f2) {v3:Value} (g3:k31.R 31 w base ok v3 x.f3):k70.M w base ok x [.int .i64 x.f0, .int .i64 x.f1,v2,v3]:=⟨[.int .i64 x.f0], [.int .i64 x.f1,v2,v3],rfl,rfl,⟨[.int .i64 x.f1], [v2,v3],rfl,rfl,⟨[v2], [v3],rfl,⟨v2,rfl,g2⟩,⟨v3,rfl,g3⟩⟩⟩⟩
def aY (xs:List S70) (i:Int):S70:=xs.getD i.toNat z70
theorem kv {w:World} {A:Option Addr} {n:Nat} {xs:List S70} (h:Kd.C k70 w A n xs) (i:Int) (h0:0≤i) (h1:i<n): ∃ad A2 c2 A3 c3,A=some ad∧w.cell? (ad.add (i.toNat * 4))=some (.int .i64 (aY xs i).f0)∧w.cell? ⟨(ad.add (i.toNat * 4)).block,(ad.add (i.toNat * 4)).off+1,none⟩=some (.int .i64 (aY xs i).f1)∧w.cell? ⟨(ad.add (i.toNat * 4)).block,(ad.add (i.toNat * 4)).off+2,none⟩=some (.slice A2 (aY xs i).f2.length c2)∧w.cell? ⟨(ad.add (i.toNat * 4)).block,(ad.add (i.toNat * 4)).off+3,none⟩=some (.slice A3 (aY xs i).f3.length c3)∧(aY xs i).f2.length≤c2∧k31.C w A2 (aY xs i).f2.length (aY xs i).f2∧(aY xs i).f3.length≤c3∧k31.C w A3 (aY xs i).f3.length (aY xs i).f3:=by
  obtain⟨ad,c,e,_,hK,hc0⟩:=Kd.C_get h z70 i h0 h1
  have hc: ∀j u,c[j]? =some u→w.cell? (ad.add (i.toNat * 4+j))=some u:=hc0
  obtain⟨A2,c2,A3,c3,rfl,l2,g2,l3,g3⟩:=tT hK
  exact⟨ad,A2,c2,A3,c3,e,hc 0 _ rfl,by rw[←bW _ _ 1 (by omega)];exact hc 1 _ rfl,by rw[←bW _ _ 2 (by omega)];exact hc 2 _ rfl,by rw[←bW _ _ 3 (by omega)];exact hc 3 _ rfl,l2,g2,l3,g3⟩
structure S38 where
  f0:(List S126)
  f1:(List S104)
structure S47 where
  f0:Bool
  f1:Int
def z47:S47:=⟨false,(0:Int)⟩
def k47:Kd S47:=Kd.iso (Kd.pair Kd.bool (Kd.int .i64)) (fun x:S47=>(x.f0,x.f1))
theorem oV {w:World} {x:S47} {cs:List Value} (h:k47.K w x cs):cs= [.bool x.f0, .int .i64 x.f1]:=by
  obtain⟨_,_,rfl,rfl,rfl⟩:=h
  exact rfl
def jD (xs:List S47) (i:Int):S47:=xs.getD i.toNat z47
theorem vH {w:World} {A:Option Addr} {n:Nat} {xs:List S47} (h:Kd.C k47 w A n xs) (i:Int) (h0:0≤i) (h1:i<n): ∃ad,A=some ad∧w.cell? (ad.add (i.toNat * 2))=some (.bool (jD xs i).f0)∧w.cell? ⟨(ad.add (i.toNat * 2)).block,(ad.add (i.toNat * 2)).off+1,none⟩=some (.int .i64 (jD xs i).f1):=by
  obtain⟨ad,c,e,_,hK,hc0⟩:=Kd.C_get h z47 i h0 h1
  have hc: ∀j u,c[j]? =some u→w.cell? (ad.add (i.toNat * 2+j))=some u:=hc0
  obtain rfl:=oV hK
  exact⟨ad,e,hc 0 _ rfl,by rw[←bW _ _ 1 (by omega)];exact hc 1 _ rfl⟩
structure S143 where
  f0:Int
  f1:(List S47)
def z143:S143:=⟨(0:Int),([]:List S47)⟩
def kM:Kd S143:=Kd.iso (Kd.pair (Kd.int .i64) (Kd.slice 47 k47)) (fun x:S143=>(x.f0,x.f1))
theorem rP {w:World} {x:S143} {cs:List Value} (h:kM.K w x cs): ∃A1 c1,cs= [.int .i64 x.f0, .slice A1 x.f1.length c1]∧x.f1.length≤c1∧k47.C w A1 x.f1.length x.f1:=by
  obtain⟨_,_,rfl,rfl,⟨A1,c1,rfl,l1,g1⟩⟩:=h
  exact⟨A1,c1,rfl,l1,g1⟩
def fB (xs:List S143) (i:Int):S143:=xs.getD i.toNat z143
theorem mZ {w:World} {A:Option Addr} {n:Nat} {xs:List S143} (h:Kd.C kM w A n xs) (i:Int) (h0:0≤i) (h1:i<n): ∃ad A1 c1,A=some ad∧w.cell? (ad.add (i.toNat * 2))=some (.int .i64 (fB xs i).f0)∧w.cell? ⟨(ad.add (i.toNat * 2)).block,(ad.add (i.toNat * 2)).off+1,none⟩=some (.slice A1 (fB xs i).f1.length c1)∧(fB xs i).f1.length≤c1∧k47.C w A1 (fB xs i).f1.length (fB xs i).f1:=by
  obtain⟨ad,c,e,_,hK,hc0⟩:=Kd.C_get h z143 i h0 h1
  have hc: ∀j u,c[j]? =some u→w.cell? (ad.add (i.toNat * 2+j))=some u:=hc0
  obtain⟨A1,c1,rfl,l1,g1⟩:=rP hK
  exact⟨ad,A1,c1,e,hc 0 _ rfl,by rw[←bW _ _ 1 (by omega)];exact hc 1 _ rfl,l1,g1⟩
structure S146 where
  f0:Int
  f1:Int
  f2:(List S47)
  f3:(List S47)
def z146:S146:=⟨(0:Int),(0:Int),([]:List S47),([]:List S47)⟩
def kN:Kd S146:=Kd.iso (Kd.pair (Kd.int .i64) (Kd.pair (Kd.int .i64) (Kd.pair (Kd.slice 47 k47) (Kd.slice 47 k47)))) (fun x:S146=>(x.f0,x.f1,x.f2,x.f3))
theorem rQ {w:World} {x:S146} {cs:List Value} (h:kN.K w x cs): ∃A2 c2 A3 c3,cs= [.int .i64 x.f0, .int .i64 x.f1, .slice A2 x.f2.length c2, .slice A3 x.f3.length c3]∧x.f2.length≤c2∧k47.C w A2 x.f2.length x.f2∧x.f3.length≤c3∧k47.C w A3 x.f3.length x.f3:=by
  obtain⟨_,_,rfl,rfl,⟨_,_,rfl,rfl,⟨_,_,rfl,⟨A2,c2,rfl,l2,g2⟩,⟨A3,c3,rfl,l3,g3⟩⟩⟩⟩:=h
  exact⟨A2,c2,A3,c3,rfl,l2,g2,l3,g3⟩
def dh (xs:List S146) (i:Int):S146:=xs.getD i.toNat z146
theorem ni {w:World} {A:Option Addr} {n:Nat} {xs:List S146} (h:Kd.C kN w A n xs) (i:Int) (h0:0≤i) (h1:i<n): ∃ad A2 c2 A3 c3,A=some ad∧w.cell? (ad.add (i.toNat * 4))=some (.int .i64 (dh xs i).f0)∧w.cell? ⟨(ad.add (i.toNat * 4)).block,(ad.add (i.toNat * 4)).off+1,none⟩=some (.int .i64 (dh xs i).f1)∧w.cell? ⟨(ad.add (i.toNat * 4)).block,(ad.add (i.toNat * 4)).off+2,none⟩=some (.slice A2 (dh xs i).f2.length c2)∧w.cell? ⟨(ad.add (i.toNat * 4)).block,(ad.add (i.toNat * 4)).off+3,none⟩=some (.slice A3 (dh xs i).f3.length c3)∧(dh xs i).f2.length≤c2∧k47.C w A2 (dh xs i).f2.length (dh xs i).f2∧(dh xs i).f3.length≤c3∧k47.C w A3 (dh xs i).f3.length (dh xs i).f3:=by
  obtain⟨ad,c,e,_,hK,hc0⟩:=Kd.C_get h z146 i h0 h1
  have hc: ∀j u,c[j]? =some u→w.cell? (ad.add (i.toNat * 4+j))=some u:=hc0
  obtain⟨A2,c2,A3,c3,rfl,l2,g2,l3,g3⟩:=rQ hK
  exact⟨ad,A2,c2,A3,c3,e,hc 0 _ rfl,by rw[←bW _ _ 1 (by omega)];exact hc 1 _ rfl,by rw[←bW _ _ 2 (by omega)];exact hc 2 _ rfl,by rw[←bW _ _ 3 (by omega)];exact hc 3 _ rfl,l2,g2,l3,g3⟩
structure S33 where
  f0:(List S91)
  f1:(List S70)
  f2:(List Int)
  f3:Int
  f4:Int
  f5:S31
end Go.Proofs.YteinbmkgenhocaaGreat.P
end
section
namespace Go.Proofs.YteinbmkgenhocaaGreat
open Go Go.Proofs.YteinbmkgenhocaaGreat.P
set_option maxRecDepth 100000
theorem tV {P:Program} {L:List Char} {W:List (List Char)} {c:List Char} {rest:List (List Char)} (h1:P.initOrder.toList=L) (h2:wordsSigns L=W) (h3:behindMainWord W=c::rest) (h4:stripLifts liftWords (c::rest)=([],c::rest)) (h5:c= "cut".toList) (h6:P.laysLater=false) (h7:P.bearsReflect=false) (h8:P.doorFits []=true):P.mayEnter=true:=by
  unfold Program.mayEnter
  rw[h1,h2,h3]
  simp only[h4,h6,h7,h8,List.head?_cons]
  simp[h5]
theorem uM {P:Program} {L:List Char} {W:List (List Char)} {c:List Char} {rest:List (List Char)} (h1:P.initOrder.toList=L) (h2:wordsSigns L=W) (h3:behindMainWord W=c::rest) (h5:c= "cut".toList):P.make=some .cut:=by
  unfold Program.make
  rw[h1,h2,h3]
  simp[h5]
theorem tX {P:Program} {L:List Char} {W:List (List Char)} {c:List Char} {rest:List (List Char)} (h1:P.initOrder.toList=L) (h2:wordsSigns L=W) (h3:behindMainWord W=c::rest) (h4:stripLifts liftWords (c::rest)=([],c::rest)) (h5:c= "cut".toList):P.liftsFinal=false:=by
  unfold Program.liftsFinal Program.headLifts
  rw[h1,h2,h3]
  simp only[h4,List.head?_cons]
  simp[h5]
def jU:List Char:= [Char.ofNat 104,Char.ofNat 97,Char.ofNat 114,Char.ofNat 110,Char.ofNat 101,Char.ofNat 115,Char.ofNat 115,Char.ofNat 32,Char.ofNat 101,Char.ofNat 54,Char.ofNat 48,Char.ofNat 52,Char.ofNat 102,Char.ofNat 57,Char.ofNat 55,Char.ofNat 51,Char.ofNat 54,Char.ofNat 101,Char.ofNat 97,Char.ofNat 100,Char.ofNat 51,Char.ofNat 98,Char.ofNat 52,Char.ofNat 99,Char.ofNat 57,Char.ofNat 97,Char.ofNat 56,Char.ofNat 52,Char.ofNat 99,Char.ofNat 51,Char.ofNat 99,Char.ofNat 50,Char.ofNat 55,Char.ofNat 54,Char.ofNat 98,Char.ofNat 98,Char.ofNat 53,Char.ofNat 51,Char.ofNat 56,Char.ofNat 54,Char.ofNat 98,Char.ofNat 54,Char.ofNat 50,Char.ofNat 55,Char.ofNat 52,Char.ofNat 102,Char.ofNat 51,Char.ofNat 99,Char.ofNat 48,Char.ofNat 102,Char.ofNat 51,Char.ofNat 97,Char.ofNat 49,Char.ofNat 51,Char.ofNat 54,Char.ofNat 51,Char.ofNat 57,Char.ofNat 48,Char.ofNat 51,Char.ofNat 54,Char.ofNat 51,Char.ofNat 54,Char.ofNat 55,Char.ofNat 48,Char.ofNat 101,Char.ofNat 97,Char.ofNat 102,Char.ofNat 101,Char.ofNat 53,Char.ofNat 50,Char.ofNat 50,Char.ofNat 49,Char.ofNat 32,Char.ofNat 99,Char.ofNat 117,Char.ofNat 116,Char.ofNat 32,Char.ofNat 97,Char.ofNat 116,Char.ofNat 32,Char.ofNat 108,Char.ofNat 111,Char.ofNat 111,Char.ofNat 112,Char.ofNat 46,Char.ofNat 101,Char.ofNat 120,Char.ofNat 97,Char.ofNat 109,Char.ofNat 112,Char.ofNat 108,Char.ofNat 101,Char.ofNat 47,Char.ofNat 101,Char.ofNat 110,Char.ofNat 116,Char.ofNat 97,Char.ofNat 105,Char.ofNat 108,Char.ofNat 47,Char.ofNat 108,Char.ofNat 97,Char.ofNat 119,Char.ofNat 115,Char.ofNat 46,Char.ofNat 70,Char.ofNat 110,Char.ofNat 69,Char.ofNat 120,Char.ofNat 97,Char.ofNat 99,Char.ofNat 116,Char.ofNat 77,Char.ofNat 97,Char.ofNat 99,Char.ofNat 104,Char.ofNat 78,Char.ofNat 101,Char.ofNat 119,Char.ofNat 32,Char.ofNat 108,Char.ofNat 111,Char.ofNat 111,Char.ofNat 112,Char.ofNat 46,Char.ofNat 101,Char.ofNat 120,Char.ofNat 97,Char.ofNat 109,Char.ofNat 112,Char.ofNat 108,Char.ofNat 101,Char.ofNat 47,Char.ofNat 101,Char.ofNat 110,Char.ofNat 116,Char.ofNat 97,Char.ofNat 105,Char.ofNat 108,Char.ofNat 47,Char.ofNat 108,Char.ofNat 97,Char.ofNat 119,Char.ofNat 115,Char.ofNat 46,Char.ofNat 70,Char.ofNat 110,Char.ofNat 69,Char.ofNat 120,Char.ofNat 97,Char.ofNat 99,Char.ofNat 116,Char.ofNat 77,Char.ofNat 97,Char.ofNat 99,Char.ofNat 104,Char.ofNat 79,Char.ofNat 107,Char.ofNat 32,Char.ofNat 108,Char.ofNat 111,Char.ofNat 111,Char.ofNat 112,Char.ofNat 46,Char.ofNat 101,Char.ofNat 120,Char.ofNat 97,Char.ofNat 109,Char.ofNat 112,Char.ofNat 108,Char.ofNat 101,Char.ofNat 47,Char.ofNat 101,Char.ofNat 110,Char.ofNat 116,Char.ofNat 97,Char.ofNat 105,Char.ofNat 108,Char.ofNat 47,Char.ofNat 108,Char.ofNat 97,Char.ofNat 119,Char.ofNat 115,Char.ofNat 46,Char.ofNat 70,Char.ofNat 110,Char.ofNat 69,Char.ofNat 120,Char.ofNat 97,Char.ofNat 99,Char.ofNat 116,Char.ofNat 80,Char.ofNat 97,Char.ofNat 115,Char.ofNat 115,Char.ofNat 83,Char.ofNat 116,Char.ofNat 101,Char.ofNat 112]
def lC:List (List Char):= [[Char.ofNat 104,Char.ofNat 97,Char.ofNat 114,Char.ofNat 110,Char.ofNat 101,Char.ofNat 115,Char.ofNat 115], [Char.ofNat 101,Char.ofNat 54,Char.ofNat 48,Char.ofNat 52,Char.ofNat 102,Char.ofNat 57,Char.ofNat 55,Char.ofNat 51,Char.ofNat 54,Char.ofNat 101,Char.ofNat 97,Char.ofNat 100,Char.ofNat 51,Char.ofNat 98,Char.ofNat 52,Char.ofNat 99,Char.ofNat 57,Char.ofNat 97,Char.ofNat 56,Char.ofNat 52,Char.ofNat 99,Char.ofNat 51,Char.ofNat 99,Char.ofNat 50,Char.ofNat 55,Char.ofNat 54,Char.ofNat 98,Char.ofNat 98,Char.ofNat 53,Char.ofNat 51,Char.ofNat 56,Char.ofNat 54,Char.ofNat 98,Char.ofNat 54,Char.ofNat 50,Char.ofNat 55,Char.ofNat 52,Char.ofNat 102,Char.ofNat 51,Char.ofNat 99,Char.ofNat 48,Char.ofNat 102,Char.ofNat 51,Char.ofNat 97,Char.ofNat 49,Char.ofNat 51,Char.ofNat 54,Char.ofNat 51,Char.ofNat 57,Char.ofNat 48,Char.ofNat 51,Char.ofNat 54,Char.ofNat 51,Char.ofNat 54,Char.ofNat 55,Char.ofNat 48,Char.ofNat 101,Char.ofNat 97,Char.ofNat 102,Char.ofNat 101,Char.ofNat 53,Char.ofNat 50,Char.ofNat 50,Char.ofNat 49], [Char.ofNat 99,Char.ofNat 117,Char.ofNat 116], [Char.ofNat 97,Char.ofNat 116], [Char.ofNat 108,Char.ofNat 111,Char.ofNat 111,Char.ofNat 112,Char.ofNat 46,Char.ofNat 101,Char.ofNat 120,Char.ofNat 97,Char.ofNat 109,Char.ofNat 112,Char.ofNat 108,Char.ofNat 101,Char.ofNat 47,Char.ofNat 101,Char.ofNat 110,Char.ofNat 116,Char.ofNat 97,Char.ofNat 105,Char.ofNat 108,Char.ofNat 47,Char.ofNat 108,Char.ofNat 97,Char.ofNat 119,Char.ofNat 115,Char.ofNat 46,Char.ofNat 70,Char.ofNat 110,Char.ofNat 69,Char.ofNat 120,Char.ofNat 97,Char.ofNat 99,Char.ofNat 116,Char.ofNat 77,Char.ofNat 97,Char.ofNat 99,Char.ofNat 104,Char.ofNat 78,Char.ofNat 101,Char.ofNat 119], [Char.ofNat 108,Char.ofNat 111,Char.ofNat 111,Char.ofNat 112,Char.ofNat 46,Char.ofNat 101,Char.ofNat 120,Char.ofNat 97,Char.ofNat 109,Char.ofNat 112,Char.ofNat 108,Char.ofNat 101,Char.ofNat 47,Char.ofNat 101,Char.ofNat 110,Char.ofNat 116,Char.ofNat 97,Char.ofNat 105,Char.ofNat 108,Char.ofNat 47,Char.ofNat 108,Char.ofNat 97,Char.ofNat 119,Char.ofNat 115,Char.ofNat 46,Char.ofNat 70,Char.ofNat 110,Char.ofNat 69,Char.ofNat 120,Char.ofNat 97,Char.ofNat 99,Char.ofNat 116,Char.ofNat 77,Char.ofNat 97,Char.ofNat 99,Char.ofNat 104,Char.ofNat 79,Char.ofNat 107], [Char.ofNat 108,Char.ofNat 111,Char.ofNat 111,Char.ofNat 112,Char.ofNat 46,Char.ofNat 101,Char.ofNat 120,Char.ofNat 97,Char.ofNat 109,Char.ofNat 112,Char.ofNat 108,Char.ofNat 101,Char.ofNat 47,Char.ofNat 101,Char.ofNat 110,Char.ofNat 116,Char.ofNat 97,Char.ofNat 105,Char.ofNat 108,Char.ofNat 47,Char.ofNat 108,Char.ofNat 97,Char.ofNat 119,Char.ofNat 115,Char.ofNat 46,Char.ofNat 70,Char.ofNat 110,Char.ofNat 69,Char.ofNat 120,Char.ofNat 97,Char.ofNat 99,Char.ofNat 116,Char.ofNat 80,Char.ofNat 97,Char.ofNat 115,Char.ofNat 115,Char.ofNat 83,Char.ofNat 116,Char.ofNat 101,Char.ofNat 112]]
theorem nk:Tryz.prog.initOrder.toList=jU:=by
  have h:Tryz.prog.initOrder=String.ofList jU:=by kernel_rfl
  rw[h,String.toList_ofList]
def lD:List (List Char):= [[Char.ofNat 97,Char.ofNat 116], [Char.ofNat 108,Char.ofNat 111,Char.ofNat 111,Char.ofNat 112,Char.ofNat 46,Char.ofNat 101,Char.ofNat 120,Char.ofNat 97,Char.ofNat 109,Char.ofNat 112,Char.ofNat 108,Char.ofNat 101,Char.ofNat 47,Char.ofNat 101,Char.ofNat 110,Char.ofNat 116,Char.ofNat 97,Char.ofNat 105,Char.ofNat 108,Char.ofNat 47,Char.ofNat 108,Char.ofNat 97,Char.ofNat 119,Char.ofNat 115,Char.ofNat 46,Char.ofNat 70,Char.ofNat 110,Char.ofNat 69,Char.ofNat 120,Char.ofNat 97,Char.ofNat 99,Char.ofNat 116,Char.ofNat 77,Char.ofNat 97,Char.ofNat 99,Char.ofNat 104,Char.ofNat 78,Char.ofNat 101,Char.ofNat 119], [Char.ofNat 108,Char.ofNat 111,Char.ofNat 111,Char.ofNat 112,Char.ofNat 46,Char.ofNat 101,Char.ofNat 120,Char.ofNat 97,Char.ofNat 109,Char.ofNat 112,Char.ofNat 108,Char.ofNat 101,Char.ofNat 47,Char.ofNat 101,Char.ofNat 110,Char.ofNat 116,Char.ofNat 97,Char.ofNat 105,Char.ofNat 108,Char.ofNat 47,Char.ofNat 108,Char.ofNat 97,Char.ofNat 119,Char.ofNat 115,Char.ofNat 46,Char.ofNat 70,Char.ofNat 110,Char.ofNat 69,Char.ofNat 120,Char.ofNat 97,Char.ofNat 99,Char.ofNat 116,Char.ofNat 77,Char.ofNat 97,Char.ofNat 99,Char.ofNat 104,Char.ofNat 79,Char.ofNat 107], [Char.ofNat 108,Char.ofNat 111,Char.ofNat 111,Char.ofNat 112,Char.ofNat 46,Char.ofNat 101,Char.ofNat 120,Char.ofNat 97,Char.ofNat 109,Char.ofNat 112,Char.ofNat 108,Char.ofNat 101,Char.ofNat 47,Char.ofNat 101,Char.ofNat 110,Char.ofNat 116,Char.ofNat 97,Char.ofNat 105,Char.ofNat 108,Char.ofNat 47,Char.ofNat 108,Char.ofNat 97,Char.ofNat 119,Char.ofNat 115,Char.ofNat 46,Char.ofNat 70,Char.ofNat 110,Char.ofNat 69,Char.ofNat 120,Char.ofNat 97,Char.ofNat 99,Char.ofNat 116,Char.ofNat 80,Char.ofNat 97,Char.ofNat 115,Char.ofNat 115,Char.ofNat 83,Char.ofNat 116,Char.ofNat 101,Char.ofNat 112]]
theorem enter:Tryz.prog.mayEnter=true:=tV (L:=jU) (W:=lC) nk (by kernel_rfl) (c:= [Char.ofNat 99,Char.ofNat 117,Char.ofNat 116]) (rest:=lD) (by kernel_rfl) (by kernel_rfl) (by kernel_rfl) (by kernel_rfl) (by kernel_rfl) (by kernel_rfl)
theorem make:Tryz.prog.make=some .cut:=uM (L:=jU) (W:=lC) nk (by kernel_rfl) (c:= [Char.ofNat 99,Char.ofNat 117,Char.ofNat 116]) (rest:=lD) (by kernel_rfl) (by kernel_rfl)
theorem lifts:Tryz.prog.liftsFinal=false:=tX (L:=jU) (W:=lC) nk (by kernel_rfl) (c:= [Char.ofNat 99,Char.ofNat 117,Char.ofNat 116]) (rest:=lD) (by kernel_rfl) (by kernel_rfl) (by kernel_rfl)
end Go.Proofs.YteinbmkgenhocaaGreat
end
section
namespace Go.Proofs.YteinbmkgenhocaaGreat.P
set_option linter.unusedVariables false
open Go Go.RowKit Go.Proofs.YteinbmkgenhocaaGreatW.PrintWords Go.Proofs.YteinbmkgenhocaaGreatW.PrintLast Go.Proofs.YteinbmkgenhocaaGreatW.PrintMore
theorem bl {w W:World} (h:Below w.heap.size w W:=by repeat(first|(with_reducible first|exact Aside0.out (by assumption)|apply aV|apply aI|apply ay|refine aZ ?_ (Aside0.out (by assumption)))|exact Aside0.out (by assumption))):Below w.heap.size w W:=h
theorem cz {w:World} {g:Nat} {t:TypeId} {cs:Array Value} (h:w.heap[g]? =some (.cells cs t (0,0))) (i:Nat) {v:Value} (e:cs.toList[i]? =some v):w.cell? ⟨g,i,none⟩=some v:=(ae h i).trans (by rw[←Array.getElem?_toList];exact e)
theorem oW {w:World} {g:Nat} (h:g<w.heap.size) (o:Obj):g<(w.alloc o).heap.size:=Nat.lt_of_lt_of_le h (aM (aV (Below.refl _ _) o))
theorem oZ {w:World} {g:Nat} (h:g<w.heap.size) (n:Nat):g<(w.drewN n).heap.size:=h
theorem ql {w:World} {g:Nat} (h:g<w.heap.size):g<w.drew.heap.size:=h
theorem rR {w:World} {g:Nat} (h:g<w.heap.size) (p:Addr) (u:Value):g<(w.setCell p u).heap.size:=by simpa[World.setCell] using h
section
variable {w W W0 w1:World} {g g' :Nat} {o:Obj}
theorem kk (_:Aside0 (W0.heap[g]? =some o)) (h:W.heap[g]? =some o:=by(with_reducible repeat(first|refine aC ?_ _|refine au ?_|refine aA ?_ _));exact Aside0.out (by assumption)):Aside0 (W.heap[g]? =some o):=⟨h⟩
theorem kf (h:W.heap[g]? =some o:=by(repeat(first|(with_reducible first|refine aC ?_ _|refine au ?_|refine aA ?_ _)|refine fH ?_ (Aside0.out (by assumption)) _|apply dC));exact Aside0.out (by assumption);all_goals rfl):Aside0 (W.heap[g]? =some o):=⟨h⟩
theorem kb (_:Aside0 (W0.heap[g]? =some o)) (hb:Below W.heap.size W w1) (h:W.heap[g]? =some o:=by(with_reducible repeat(first|refine aC ?_ _|refine au ?_|refine aA ?_ _));exact Aside0.out (by assumption)):Aside0 (w1.heap[g]? =some o):=⟨eY h hb⟩
theorem kq (_:Aside0 (W0.heap[g]? =some o)) (hb:Below W.heap.size W w1) (h:W.heap[g]? =some o:=by(repeat(first|(with_reducible first|refine aC ?_ _|refine au ?_|refine aA ?_ _)|refine fH ?_ (Aside0.out (by assumption)) _));exact Aside0.out (by assumption)):Aside0 (w1.heap[g]? =some o):=⟨eY h hb⟩
theorem kp (g:Nat) (cs:Array Value) (t:TypeId) (hb:Below W.heap.size W w1) (h:W.heap[g]? =some (.cells cs t (0,0)):=by(repeat(first|(with_reducible first|refine aC ?_ _|refine au ?_|refine aA ?_ _)|refine fH ?_ (Aside0.out (by assumption)) _|apply dC));exact Aside0.out (by assumption);all_goals rfl):Aside0 (w1.heap[g]? =some (.cells cs t (0,0))):=⟨eY h hb⟩
theorem hs (_:Aside0 (Below w.heap.size w W0)) (hb:Below W.heap.size W w1) (h:Below w.heap.size w W:=by repeat(first|(with_reducible first|exact Aside0.out (by assumption)|apply aV|apply aI|apply ay|refine aZ ?_ (Aside0.out (by assumption)))|exact Aside0.out (by assumption))):Aside0 (Below w.heap.size w w1):=⟨fC h hb⟩
theorem hz (_:Aside0 (Below w.heap.size w W0)) (hg:g=W.heap.size) (h:Below w.heap.size w W:=by repeat(first|(with_reducible first|exact Aside0.out (by assumption)|apply aV|apply aI|apply ay|refine aZ ?_ (Aside0.out (by assumption)))|exact Aside0.out (by assumption))):Aside0 (w.heap.size≤g):=⟨by rw[hg];exact aM h⟩
theorem nl (_:Aside0 (W0.heap[g]? =some o)) (hg:g' =W.heap.size) (h:g<W.heap.size:=by(with_reducible repeat(first|refine oZ ?_ _|refine ql ?_|refine oW ?_ _|refine rR ?_ _ _));exact iJ (Aside0.out (by assumption))):Aside0 (g≠g'):=⟨by rw[hg];exact Nat.ne_of_lt h⟩
theorem ng (_:Aside0 (W0.heap[g]? =some o)) (hg:g' =W.heap.size) (h:g<W.heap.size:=by(with_reducible repeat(first|refine oZ ?_ _|refine ql ?_|refine oW ?_ _|refine rR ?_ _ _));exact iJ (Aside0.out (by assumption))):Aside0 (g' ≠g):=⟨by rw[hg];exact Nat.ne_of_gt h⟩
theorem hc {a:Addr} {v:Value} (HB:Aside0 (Below w.heap.size w W)) (h:w.cell? a=some v):W.cell? a=some v:=(HB.out.cell (World.block_lt_of_cell? w _ h)).trans h
theorem fin {p:Prop} (h:p:=by first|rfl|(simp[aW,aX]<;>rfl)|(simp[*,aW,aX]<;>rfl)) (hb:Below w.heap.size w W:=by repeat(first|(with_reducible first|exact Aside0.out (by assumption)|apply aV|apply aI|apply ay|refine aZ ?_ (Aside0.out (by assumption)))|exact Aside0.out (by assumption))):p∧Below w.heap.size w W:=⟨h,hb⟩
theorem cb {α:Type} {d:Kd α} {A:Option Addr} {n:Nat} {xs:List α} (c:d.C w A n xs) (h:Below w.heap.size w W:=by repeat(first|(with_reducible first|exact Aside0.out (by assumption)|apply aV|apply aI|apply ay|refine aZ ?_ (Aside0.out (by assumption)))|exact Aside0.out (by assumption))):d.C W A n xs:=Kd.C_below c h
end
section
variable {P:Program} {ops:Array Oper} {rest:List Oper} {o:Oper} {a:Act} {Q:Exit→Act→World→Prop} {W:World}
theorem gd (N:Tmp) (_hN:o.dst=some N) (h:wpList P ops Q (o::rest) a W):wpList P ops Q (o::rest) a W:=h
theorem gc (f:FuncId) {ar:Array Operand} {ts:Array TypeId} (_ho:o.op= .call {callee:= .value (.func f),args:=ar,argTypes:=ts}) (h:wpList P ops Q (o::rest) a W):wpList P ops Q (o::rest) a W:=h
theorem bx (N:Tmp) (cs:Array Value) (t:TypeId)
    (h: ∀g,g=W.heap.size→∀w1,w1.heap[g]? =some (.cells cs t (0,0))→Below W.heap.size W w1→wpList P ops Q rest (a.put o.dst (.pointer (some ⟨g,0,none⟩))) w1)
    (hd:o.dst=some N:=by rfl) (hgd:o.guard=none:=by rfl)
    (hrun:(execOp a.eval o).run P W= .ok (.value (.pointer (some ⟨W.heap.size,0,none⟩))) (W.alloc (.cells cs t (0,0))):=by first|(go_simp;done)|(go_simp;rfl)):wpList P ops Q (o::rest) a W:=fT hgd hd hrun h
theorem gl {f:FuncId} {fn:Func} {ar:Array Operand} {ts:Array TypeId} (N:Option Tmp) (hf:P.funcs[f]? =some fn) (args:Array Value) (hop:o.op= .call {callee:= .value (.func f),args:=ar,argTypes:=ts})
    (h:Calls P f args W fun e w' => ∃v,e= .returned v∧wpList P ops Q rest (a.put N v) w') (hd:o.dst=N:=by rfl) (hg:o.guard=none:=by rfl) (hname:(fn.name== "runtime.NumGoroutine")=false:=by kernel_rfl) (hb:fn.body.isSome=true:=by rfl)
    (hargs:ar.map a.eval=args:=by(try simp only[List.map_toArray,List.map_cons,List.map_nil]);first|done|rfl|(simp only[List.length_drop,List.length_take];rfl)):wpList P ops Q (o::rest) a W:=fO N hd hg hf hname hb args hop hargs h
end
section
variable {P:Program} {md:Region.Mode} {ops:Array Oper} {Q:Exit→Act→World→Prop} {S:World→Prop} {ds:List Nat} {T:Bool×List (List Nat×List Nat)} {B:List Nat} {oi:Oper} {v:Value} {fuel:Nat} {l:Array Bool} {a a' :Act} {w:World}
theorem pu (i N:Nat) (l' :Array Bool) (hT:Aside0 (eU md ops=T)) (hi:ops[i]? =some oi) (hN:oi.dst=some N) (h:bV P md ops Q S ds fuel l' a' w) (hc:mW T l.toList l'.toList i=true:=by kernel_rfl) (hy:Yields P ops oi v a:=by(refine Or.inl ⟨by rfl, ?_⟩;intro w';go_simp;with_reducible rfl)) (ha:a.put (some N) v=a' :=by(simp only[Act.put,List.setIfInBounds_toArray,List.set_cons_zero,List.set_cons_succ,bq,bu];rfl)) (hQ: ∀c a w,Q (.panic c) (a.put oi.dst v) w→Q (.panic c) a w:=by exact fun _ _ _ h=>h):bV P md ops Q S ds (fuel+1) l a w:=fw l' hi hN (fe hT.out hc) hQ hy ha h
theorem pv (i N:Nat) (l' :Array Bool) (hT:Aside0 (eU md ops=T)) (hi:ops[i]? =some oi) (hN:oi.dst=some N) (h:bV P md ops Q S ds fuel l' a' w) (hc:mW T l.toList l'.toList i=true:=by kernel_rfl) (hy:Yields P ops oi undef a:=by exact Or.inr ⟨by rfl,rfl⟩) (ha:a.put (some N) undef=a' :=by(simp only[Act.put,List.setIfInBounds_toArray,List.set_cons_zero,List.set_cons_succ,bq,bu];rfl)) (hQ: ∀c a w,Q (.panic c) (a.put oi.dst undef) w→Q (.panic c) a w:=by exact fun _ _ _ h=>h):bV P md ops Q S ds (fuel+1) l a w:=fw l' hi hN (fe hT.out hc) hQ hy ha h
theorem ta (i N:Nat) (l' :Array Bool) (hT:Aside0 (eU md ops=T)) (hW:Aside0 (eQ T.2 B=true)) (hS:S w) (hi:ops[i]? =some oi) (hN:oi.dst=some N) (h:bV P md ops Q S ds fuel l' a' w) (hc:oz T B ds l.toList l'.toList i=true:=by kernel_rfl) (hy:YieldsIf P ops S oi v a:=by(refine Or.inl ⟨by rfl, ?_⟩;intro w' hs;(repeat(have hs1:=hs.1;replace hs:=hs.2));go_simp;with_reducible rfl)) (ha:a.put (some N) v=a' :=by(simp only[Act.put,List.setIfInBounds_toArray,List.set_cons_zero,List.set_cons_succ,bq,bu];rfl)) (hQ: ∀c a w,Q (.panic c) (a.put oi.dst v) w→Q (.panic c) a w:=by exact fun _ _ _ h=>h):bV P md ops Q S ds (fuel+1) l a w:=take_ l' hi hN (jK hT.out hW.out hc) hQ hy hS ha h
theorem no (N:Nat) (h:bV P md ops Q S ds fuel l a' w) (ha:a.put (some N) v=a' :=by(simp only[Act.put,List.setIfInBounds_toArray,List.set_cons_zero,List.set_cons_succ,bq,bu];rfl)):bV P md ops Q S ds fuel l (a.put (some N) v) w:=ow ha h
theorem gs {K:Act→World→Prop} {N:Option Tmp} {f:FuncId} {fn:Func} {ar:Array Operand} {ts:Array TypeId} (hf:P.funcs[f]? =some fn) (args:Array Value) (hN:oi.dst=N) (hop:oi.op= .call {callee:= .value (.func f),args:=ar,argTypes:=ts})
    (h:Calls P f args w fun e w' => ∃v,e= .returned v∧K (a.put N v) w') (hname:(fn.name== "runtime.NumGoroutine")=false:=by kernel_rfl) (hb:fn.body.isSome=true:=by rfl) (hw:Region.wanted oi (yielded ops a.tmps)=true:=by rfl)
    (hargs:ar.map a.eval=args:=by(try simp only[List.map_toArray,List.map_cons,List.map_nil]);first|done|rfl|(simp only[List.length_drop,List.length_take];rfl)):if Region.wanted oi (yielded ops a.tmps)=true then Oper.wp P oi a w K Q else K (a.put N undef) w:=qG hf hname hb args hw hN hop hargs h
end
section
variable {α β:Type} {A B x:α}
theorem it {h:Decidable (true=true)} (H: @ite α (true=true) h A B=x):A=x:=(if_pos rfl).symm.trans H
theorem ie {h:Decidable (false=true)} (H: @ite α (false=true) h A B=x):B=x:=(if_neg (by simp)).symm.trans H
theorem ob {o:Option α} {f:α→Option β} {r:β} (H:o.bind f=some r): ∃a,Aside0 (o=some a)∧f a=some r:=(Option.bind_eq_some_iff.mp H).imp fun _ h=>⟨⟨h.1⟩,h.2⟩
end
theorem od {p:Prop} [Decidable p] (h:decide p=true:=by first|(with_reducible assumption)|assumption):p:=of_decide_eq_true h
theorem hc2 {w W:World} {a0 a1:Addr} {v0 v1:Value} (HB:Aside0 (Below w.heap.size w W)) (h0:w.cell? a0=some v0) (h1:w.cell? a1=some v1):W.cell? a0=some v0∧W.cell? a1=some v1:=⟨hc HB h0,hc HB h1⟩
theorem hc3 {w W:World} {a0 a1 a2:Addr} {v0 v1 v2:Value} (HB:Aside0 (Below w.heap.size w W)) (h0:w.cell? a0=some v0) (h1:w.cell? a1=some v1) (h2:w.cell? a2=some v2):W.cell? a0=some v0∧W.cell? a1=some v1∧W.cell? a2=some v2:=⟨hc HB h0,hc HB h1,hc HB h2⟩
theorem hc4 {w W:World} {a0 a1 a2 a3:Addr} {v0 v1 v2 v3:Value} (HB:Aside0 (Below w.heap.size w W)) (h0:w.cell? a0=some v0) (h1:w.cell? a1=some v1) (h2:w.cell? a2=some v2) (h3:w.cell? a3=some v3):W.cell? a0=some v0∧W.cell? a1=some v1∧W.cell? a2=some v2∧W.cell? a3=some v3:=⟨hc HB h0,hc HB h1,hc HB h2,hc HB h3⟩
theorem fw8 {W:World} {a0 a1 a2 a3 a4 a5 a6 a7:Addr} {v0 v1 v2 v3 v4 v5 v6 v7:Value} (p:Addr) (u:Value) (h0:W.cell? a0=some v0) (h1:W.cell? a1=some v1) (h2:W.cell? a2=some v2) (h3:W.cell? a3=some v3) (h4:W.cell? a4=some v4) (h5:W.cell? a5=some v5) (h6:W.cell? a6=some v6) (h7:W.cell? a7=some v7) (e0:a0.block≠p.block:=by first|(rw[add_block];assumption)|(show(Addr.add _ _).block≠_;rw[add_block];assumption)|assumption) (e1:a1.block≠p.block:=by first|(rw[add_block];assumption)|(show(Addr.add _ _).block≠_;rw[add_block];assumption)|assumption) (e2:a2.block≠p.block:=by first|(rw[add_block];assumption)|(show(Addr.add _ _).block≠_;rw[add_block];assumption)|assumption) (e3:a3.block≠p.block:=by first|(rw[add_block];assumption)|(show(Addr.add _ _).block≠_;rw[add_block];assumption)|assumption) (e4:a4.block≠p.block:=by first|(rw[add_block];assumption)|(show(Addr.add _ _).block≠_;rw[add_block];assumption)|assumption) (e5:a5.block≠p.block:=by first|(rw[add_block];assumption)|(show(Addr.add _ _).block≠_;rw[add_block];assumption)|assumption) (e6:a6.block≠p.block:=by first|(rw[add_block];assumption)|(show(Addr.add _ _).block≠_;rw[add_block];assumption)|assumption) (e7:a7.block≠p.block:=by first|(rw[add_block];assumption)|(show(Addr.add _ _).block≠_;rw[add_block];assumption)|assumption):(W.setCell p u).cell? a0=some v0∧(W.setCell p u).cell? a1=some v1∧(W.setCell p u).cell? a2=some v2∧(W.setCell p u).cell? a3=some v3∧(W.setCell p u).cell? a4=some v4∧(W.setCell p u).cell? a5=some v5∧(W.setCell p u).cell? a6=some v6∧(W.setCell p u).cell? a7=some v7:=⟨(cell_far e0 u).trans h0,(cell_far e1 u).trans h1,(cell_far e2 u).trans h2,(cell_far e3 u).trans h3,(cell_far e4 u).trans h4,(cell_far e5 u).trans h5,(cell_far e6 u).trans h6,(cell_far e7 u).trans h7⟩
theorem hc8 {w W:World} {a0 a1 a2 a3 a4 a5 a6 a7:Addr} {v0 v1 v2 v3 v4 v5 v6 v7:Value} (HB:Aside0 (Below w.heap.size w W)) (h0:w.cell? a0=some v0) (h1:w.cell? a1=some v1) (h2:w.cell? a2=some v2) (h3:w.cell? a3=some v3) (h4:w.cell? a4=some v4) (h5:w.cell? a5=some v5) (h6:w.cell? a6=some v6) (h7:w.cell? a7=some v7):W.cell? a0=some v0∧W.cell? a1=some v1∧W.cell? a2=some v2∧W.cell? a3=some v3∧W.cell? a4=some v4∧W.cell? a5=some v5∧W.cell? a6=some v6∧W.cell? a7=some v7:=⟨hc HB h0,hc HB h1,hc HB h2,hc HB h3,hc HB h4,hc HB h5,hc HB h6,hc HB h7⟩
theorem cf2 {w:World} {g:Nat} {t:TypeId} {v0 v1:Value} (h:Aside0 (w.heap[g]? =some (.cells #[v0,v1] t (0,0)))):w.cell? ⟨g,0,none⟩=some v0∧w.cell? ⟨g,1,none⟩=some v1∧w.frozen? ⟨g,0,none⟩=false∧w.frozen? ⟨g,1,none⟩=false:=⟨cz h.out 0 rfl,cz h.out 1 rfl,aH h.out 0,aH h.out 1⟩
theorem cf3 {w:World} {g:Nat} {t:TypeId} {v0 v1 v2:Value} (h:Aside0 (w.heap[g]? =some (.cells #[v0,v1,v2] t (0,0)))):w.cell? ⟨g,0,none⟩=some v0∧w.cell? ⟨g,1,none⟩=some v1∧w.cell? ⟨g,2,none⟩=some v2∧w.frozen? ⟨g,0,none⟩=false∧w.frozen? ⟨g,1,none⟩=false∧w.frozen? ⟨g,2,none⟩=false:=⟨cz h.out 0 rfl,cz h.out 1 rfl,cz h.out 2 rfl,aH h.out 0,aH h.out 1,aH h.out 2⟩
theorem cf4 {w:World} {g:Nat} {t:TypeId} {v0 v1 v2 v3:Value} (h:Aside0 (w.heap[g]? =some (.cells #[v0,v1,v2,v3] t (0,0)))):w.cell? ⟨g,0,none⟩=some v0∧w.cell? ⟨g,1,none⟩=some v1∧w.cell? ⟨g,2,none⟩=some v2∧w.cell? ⟨g,3,none⟩=some v3∧w.frozen? ⟨g,0,none⟩=false∧w.frozen? ⟨g,1,none⟩=false∧w.frozen? ⟨g,2,none⟩=false∧w.frozen? ⟨g,3,none⟩=false:=⟨cz h.out 0 rfl,cz h.out 1 rfl,cz h.out 2 rfl,cz h.out 3 rfl,aH h.out 0,aH h.out 1,aH h.out 2,aH h.out 3⟩
theorem cf7 {w:World} {g:Nat} {t:TypeId} {v0 v1 v2 v3 v4 v5 v6:Value} (h:Aside0 (w.heap[g]? =some (.cells #[v0,v1,v2,v3,v4,v5,v6] t (0,0)))):w.cell? ⟨g,0,none⟩=some v0∧w.cell? ⟨g,1,none⟩=some v1∧w.cell? ⟨g,2,none⟩=some v2∧w.cell? ⟨g,3,none⟩=some v3∧w.cell? ⟨g,4,none⟩=some v4∧w.cell? ⟨g,5,none⟩=some v5∧w.cell? ⟨g,6,none⟩=some v6∧w.frozen? ⟨g,0,none⟩=false∧w.frozen? ⟨g,1,none⟩=false∧w.frozen? ⟨g,2,none⟩=false∧w.frozen? ⟨g,3,none⟩=false∧w.frozen? ⟨g,4,none⟩=false∧w.frozen? ⟨g,5,none⟩=false∧w.frozen? ⟨g,6,none⟩=false:=⟨cz h.out 0 rfl,cz h.out 1 rfl,cz h.out 2 rfl,cz h.out 3 rfl,cz h.out 4 rfl,cz h.out 5 rfl,cz h.out 6 rfl,aH h.out 0,aH h.out 1,aH h.out 2,aH h.out 3,aH h.out 4,aH h.out 5,aH h.out 6⟩
theorem cf8 {w:World} {g:Nat} {t:TypeId} {v0 v1 v2 v3 v4 v5 v6 v7:Value} (h:Aside0 (w.heap[g]? =some (.cells #[v0,v1,v2,v3,v4,v5,v6,v7] t (0,0)))):w.cell? ⟨g,0,none⟩=some v0∧w.cell? ⟨g,1,none⟩=some v1∧w.cell? ⟨g,2,none⟩=some v2∧w.cell? ⟨g,3,none⟩=some v3∧w.cell? ⟨g,4,none⟩=some v4∧w.cell? ⟨g,5,none⟩=some v5∧w.cell? ⟨g,6,none⟩=some v6∧w.cell? ⟨g,7,none⟩=some v7∧w.frozen? ⟨g,0,none⟩=false∧w.frozen? ⟨g,1,none⟩=false∧w.frozen? ⟨g,2,none⟩=false∧w.frozen? ⟨g,3,none⟩=false∧w.frozen? ⟨g,4,none⟩=false∧w.frozen? ⟨g,5,none⟩=false∧w.frozen? ⟨g,6,none⟩=false∧w.frozen? ⟨g,7,none⟩=false:=⟨cz h.out 0 rfl,cz h.out 1 rfl,cz h.out 2 rfl,cz h.out 3 rfl,cz h.out 4 rfl,cz h.out 5 rfl,cz h.out 6 rfl,cz h.out 7 rfl,aH h.out 0,aH h.out 1,aH h.out 2,aH h.out 3,aH h.out 4,aH h.out 5,aH h.out 6,aH h.out 7⟩
end Go.Proofs.YteinbmkgenhocaaGreat.P
end
section
namespace Go.Proofs.YteinbmkgenhocaaGreat.P
open Go.RowKit Go.Proofs.YteinbmkgenhocaaGreatW.PrintWords Go.Proofs.YteinbmkgenhocaaGreatW.PrintLast Go.Proofs.YteinbmkgenhocaaGreatW.PrintMore
attribute [local go_sem] ah ai av ax af ag aj ak
set_option linter.unusedVariables false
set_option linter.unusedSimpArgs false
def gF.f (a:Bool) (b:Int) (c:Bool) (d:Int):Option (Bool):=if(a !=c)=true then(some false)else(if b=d then(some true)else(some false))
def bK.l0:Nat→List (S31)→List (S31)→Int→Option (Bool)
  |0,_,_,_=>none
  |k+1,x0,x1,x5=>if x5<(x0.length:Int)then(if 0≤x5 then(if x5<(x1.length:Int)then((gF.f ((di x0 x5).f0) ((di x0 x5).f1) ((di x1 x5).f0) ((di x1 x5).f1)).bind fun a=>(if a=true then(bK.l0 k x0 x1 (wrap64 (x5+1)))else(some false)))else(none))else(none))else(some true)
def bK.f (k:Nat) (l0:List (S31)) (l1:List (S31)):Option (Bool):=if(l0.length:Int)=(l1.length:Int)then(bK.l0 k l0 l1 0)else(some false)
def ji.f (k:Nat) (a:Int) (b:List (S31)) (c:Int) (d:List (S31)):Option (Bool):=if a=c then((bK.f k b d).bind fun e=>(if e=true then(some true)else(some false)))else(some false)
def bT.l0:Nat→List (S91)→List (S91)→Int→Option (Bool)
  |0,_,_,_=>none
  |k+1,x0,x1,x5=>if x5<(x0.length:Int)then(if 0≤x5 then(if x5<(x1.length:Int)then((ji.f k ((bz x0 x5).f0) ((bz x0 x5).f1) ((bz x1 x5).f0) ((bz x1 x5).f1)).bind fun a=>(if a=true then(bT.l0 k x0 x1 (wrap64 (x5+1)))else(some false)))else(none))else(none))else(some true)
def bT.f (k:Nat) (l0:List (S91)) (l1:List (S91)):Option (Bool):=if(l0.length:Int)=(l1.length:Int)then(bT.l0 k l0 l1 0)else(some false)
def iL.f (k:Nat) (a:Int) (b:Int) (c:List (S31)) (d:List (S31)) (e:Int) (g:Int) (h:List (S31)) (i:List (S31)):Option (Bool):=if a=e then(if b=g then((bK.f k c h).bind fun j=>(if j=true then((bK.f k d i).bind fun l=>(if l=true then(some true)else(some false)))else(some false)))else(some false))else(some false)
def bH.l0:Nat→List (S70)→List (S70)→Int→Option (Bool)
  |0,_,_,_=>none
  |k+1,x0,x1,x5=>if x5<(x0.length:Int)then(if 0≤x5 then(if x5<(x1.length:Int)then((iL.f k ((aY x0 x5).f0) ((aY x0 x5).f1) ((aY x0 x5).f2) ((aY x0 x5).f3) ((aY x1 x5).f0) ((aY x1 x5).f1) ((aY x1 x5).f2) ((aY x1 x5).f3)).bind fun a=>(if a=true then(bH.l0 k x0 x1 (wrap64 (x5+1)))else(some false)))else(none))else(none))else(some true)
def bH.f (k:Nat) (l0:List (S70)) (l1:List (S70)):Option (Bool):=if(l0.length:Int)=(l1.length:Int)then(bH.l0 k l0 l1 0)else(some false)
def bA.l0:Nat→List Int→List Int→Int→Option (Bool)
  |0,_,_,_=>none
  |k+1,x0,x1,x5=>if x5<(x0.length:Int)then(if 0≤x5 then(if x5<(x1.length:Int)then(if(rd x0 x5)=(rd x1 x5)then(bA.l0 k x0 x1 (wrap64 (x5+1)))else(some false))else(none))else(none))else(some true)
def bA.f (k:Nat) (l0:List Int) (l1:List Int):Option (Bool):=if(l0.length:Int)=(l1.length:Int)then(bA.l0 k l0 l1 0)else(some false)
def fE.f (k:Nat) (a:List (S91)) (b:List (S70)) (c:List Int) (d:Int) (e:Int) (g:Bool) (h:Int) (i:List (S91)) (j:List (S70)) (l:List Int) (m:Int) (n:Int) (o:Bool) (p:Int):Option (Bool):=(bT.f k a i).bind fun q=>(if q=true then((bH.f k b j).bind fun r=>(if r=true then((bA.f k c l).bind fun s=>(if s=true then(if d=m then(if e=n then((gF.f g h o p).bind fun t=>(if t=true then(some true)else(some false)))else(some false))else(some false))else(some false)))else(some false)))else(some false))
def iM.f (k:Nat) (a:Int) (b:List Int) (c:Int) (d:List Int):Option (Bool):=if a=c then((bA.f k b d).bind fun e=>(if e=true then(some true)else(some false)))else(some false)
def bQ.l0:Nat→List (S126)→List (S126)→Int→Option (Bool)
  |0,_,_,_=>none
  |k+1,x0,x1,x5=>if x5<(x0.length:Int)then(if 0≤x5 then(if x5<(x1.length:Int)then((iM.f k ((aD x0 x5).f0) ((aD x0 x5).f1) ((aD x1 x5).f0) ((aD x1 x5).f1)).bind fun a=>(if a=true then(bQ.l0 k x0 x1 (wrap64 (x5+1)))else(some false)))else(none))else(none))else(some true)
def bQ.f (k:Nat) (l0:List (S126)) (l1:List (S126)):Option (Bool):=if(l0.length:Int)=(l1.length:Int)then(bQ.l0 k l0 l1 0)else(some false)
def jk.f (a:Int) (b:Int) (c:Int) (d:Int) (e:Int) (g:Int):Option (Bool):=if a=d then(if b=e then(if c=g then(some true)else(some false))else(some false))else(some false)
def bZ.l0:Nat→List (S113)→List (S113)→Int→Option (Bool)
  |0,_,_,_=>none
  |k+1,x0,x1,x5=>if x5<(x0.length:Int)then(if 0≤x5 then(if x5<(x1.length:Int)then((jk.f ((aQ x0 x5).f0) ((aQ x0 x5).f1) ((aQ x0 x5).f2) ((aQ x1 x5).f0) ((aQ x1 x5).f1) ((aQ x1 x5).f2)).bind fun a=>(if a=true then(bZ.l0 k x0 x1 (wrap64 (x5+1)))else(some false)))else(none))else(none))else(some true)
def bZ.f (k:Nat) (l0:List (S113)) (l1:List (S113)):Option (Bool):=if(l0.length:Int)=(l1.length:Int)then(bZ.l0 k l0 l1 0)else(some false)
def iB.f (k:Nat) (a:Bool) (b:List Int) (c:List Int) (d:Bool) (e:List Int) (g:List Int):Option (Bool):=if(a !=d)=true then(some false)else((bA.f k b e).bind fun h=>(if h=true then((bA.f k c g).bind fun i=>(if i=true then(some true)else(some false)))else(some false)))
def bR.l0:Nat→List (S57)→List (S57)→Int→Option (Bool)
  |0,_,_,_=>none
  |k+1,x0,x1,x5=>if x5<(x0.length:Int)then(if 0≤x5 then(if x5<(x1.length:Int)then((iB.f k ((bi x0 x5).f0) ((bi x0 x5).f1) ((bi x0 x5).f2) ((bi x1 x5).f0) ((bi x1 x5).f1) ((bi x1 x5).f2)).bind fun a=>(if a=true then(bR.l0 k x0 x1 (wrap64 (x5+1)))else(some false)))else(none))else(none))else(some true)
def bR.f (k:Nat) (l0:List (S57)) (l1:List (S57)):Option (Bool):=if(l0.length:Int)=(l1.length:Int)then(bR.l0 k l0 l1 0)else(some false)
def iN.f (a:Int) (b:Int) (c:Int) (d:Int) (e:Int) (g:Int) (h:Int) (i:Int):Option (Bool):=if a=e then(if b=g then(if c=h then(if d=i then(some true)else(some false))else(some false))else(some false))else(some false)
def bS.l0:Nat→List (S181)→List (S181)→Int→Option (Bool)
  |0,_,_,_=>none
  |k+1,x0,x1,x5=>if x5<(x0.length:Int)then(if 0≤x5 then(if x5<(x1.length:Int)then((iN.f ((aG x0 x5).f0) ((aG x0 x5).f1) ((aG x0 x5).f2) ((aG x0 x5).f3) ((aG x1 x5).f0) ((aG x1 x5).f1) ((aG x1 x5).f2) ((aG x1 x5).f3)).bind fun a=>(if a=true then(bS.l0 k x0 x1 (wrap64 (x5+1)))else(some false)))else(none))else(none))else(some true)
def bS.f (k:Nat) (l0:List (S181)) (l1:List (S181)):Option (Bool):=if(l0.length:Int)=(l1.length:Int)then(bS.l0 k l0 l1 0)else(some false)
def gY.f (k:Nat) (a:Int) (b:Int) (c:List Int) (d:Int) (e:Int) (g:List (S113)) (h:List (S57)) (i:List (S181)) (j:Int) (l:Int) (m:List Int) (n:Int) (o:Int) (p:List (S113)) (q:List (S57)) (r:List (S181)):Option (Bool):=if a=j then(if b=l then((bA.f k c m).bind fun s=>(if s=true then(if d=n then(if e=o then((bZ.f k g p).bind fun t=>(if t=true then((bR.f k h q).bind fun u=>(if u=true then((bS.f k i r).bind fun v=>(if v=true then(some true)else(some false)))else(some false)))else(some false)))else(some false))else(some false))else(some false)))else(some false))else(some false)
def bL.l0:Nat→List (S104)→List (S104)→Int→Option (Bool)
  |0,_,_,_=>none
  |k+1,x0,x1,x5=>if x5<(x0.length:Int)then(if 0≤x5 then(if x5<(x1.length:Int)then((gY.f k ((aa x0 x5).f0) ((aa x0 x5).f1) ((aa x0 x5).f2) ((aa x0 x5).f3) ((aa x0 x5).f4) ((aa x0 x5).f5) ((aa x0 x5).f6) ((aa x0 x5).f7) ((aa x1 x5).f0) ((aa x1 x5).f1) ((aa x1 x5).f2) ((aa x1 x5).f3) ((aa x1 x5).f4) ((aa x1 x5).f5) ((aa x1 x5).f6) ((aa x1 x5).f7)).bind fun a=>(if a=true then(bL.l0 k x0 x1 (wrap64 (x5+1)))else(some false)))else(none))else(none))else(some true)
def bL.f (k:Nat) (l0:List (S104)) (l1:List (S104)):Option (Bool):=if(l0.length:Int)=(l1.length:Int)then(bL.l0 k l0 l1 0)else(some false)
def fM.f (k:Nat) (a:List (S126)) (b:List (S104)) (c:List (S126)) (d:List (S104)):Option (Bool):=(bQ.f k a c).bind fun e=>(if e=true then((bL.f k b d).bind fun g=>(if g=true then(some true)else(some false)))else(some false))
def eG.f (l0:List (S47)) (a1:Int):Option (Int):=if(wrap64 (a1 - (l0.length:Int)))<0 then(some (-1))else(some (wrap64 (a1 - (l0.length:Int))))
def jl.f (c:Int) (b:List (S47)) (a1:Int):Option (Int):=(eG.f b a1).bind fun a=>(if a<0 then(some (-1))else(some a))
def dR.l0:Nat→List (S143)→Int→Int→Option (Int)
  |0,_,_,_=>none
  |k+1,x0,x1,x5=>if x5<(x0.length:Int)then(if 0≤x5 then((jl.f ((fB x0 x5).f0) ((fB x0 x5).f1) x1).bind fun a=>(if a<0 then(some (-1))else(dR.l0 k x0 a (wrap64 (x5+1)))))else(none))else(some x1)
def dR.f (k:Nat) (l0:List (S143)) (a1:Int):Option (Int):=if(wrap64 (a1 - (l0.length:Int)))<0 then(some (-1))else(dR.l0 k l0 (wrap64 (a1 - (l0.length:Int))) 0)
def iO.f (e:Int) (g:Int) (c:List (S47)) (d:List (S47)) (a1:Int):Option (Int):=(eG.f c a1).bind fun a=>(if a<0 then(some (-1))else((eG.f d a).bind fun b=>(if b<0 then(some (-1))else(some b))))
def dM.l0:Nat→List (S146)→Int→Int→Option (Int)
  |0,_,_,_=>none
  |k+1,x0,x1,x5=>if x5<(x0.length:Int)then(if 0≤x5 then((iO.f ((dh x0 x5).f0) ((dh x0 x5).f1) ((dh x0 x5).f2) ((dh x0 x5).f3) x1).bind fun a=>(if a<0 then(some (-1))else(dM.l0 k x0 a (wrap64 (x5+1)))))else(none))else(some x1)
def dM.f (k:Nat) (l0:List (S146)) (a1:Int):Option (Int):=if(wrap64 (a1 - (l0.length:Int)))<0 then(some (-1))else(dM.l0 k l0 (wrap64 (a1 - (l0.length:Int))) 0)
def cZ.f (l0:List Int) (a1:Int):Option (Int):=if(wrap64 (a1 - (l0.length:Int)))<0 then(some (-1))else(some (wrap64 (a1 - (l0.length:Int))))
def iy.f (k:Nat) (d:List (S143)) (e:List (S146)) (g:List Int) (h:Int) (i:Int) (j:Bool) (l:Int) (a1:Int):Option (Int):=(dR.f k d a1).bind fun a=>(if a<0 then(some (-1))else((dM.f k e a).bind fun b=>(if b<0 then(some (-1))else((cZ.f g b).bind fun c=>(if c<0 then(some (-1))else(some c))))))
def az.f (a0:Int) (a1:Int) (a2:Int):Option (Bool):=if a0≥a1 then(some (decide (a0≤a2)))else(some false)
def dm.f (l0:List (S126)) (a1:Int):Option (Bool):=if a1=1 then(some true)else(if a1=3 then(some true)else(if a1=4 then(some true)else((az.f a1 8 (wrap64 ((wrap64 (8+(l0.length:Int))) - 1))).bind fun a=>(some a))))
def dZ.l0:Nat→List (S126)→Int→Int→Int→List Int→Option (Bool)
  |0,_,_,_,_,_=>none
  |k+1,x0,x1,x6,b,a=>if x6<(a.length:Int)then(if 0≤x6 then((dm.f x0 (rd a x6)).bind fun t124=>(if t124=true then(dZ.l0 k x0 x1 (wrap64 (x6+1)) b a)else(some false)))else(none))else(if x1=0 then(if b=(-1)then(some ((a.length:Int)==0))else(some false))else(if x1=1 then(if b=0 then(if(a.length:Int)=1 then(if 0<(a.length:Int)then(some ((rd a 0)==1))else(none))else(some false))else(some false))else((az.f b 0 (wrap64 (x1 - 1))).bind fun c=>(if c=true then(some (decide ((a.length:Int)≤2)))else(some false)))))
def dZ.f (k:Nat) (l0:List (S126)) (a1:Int):Option (Bool):=if 0≤a1 then(if a1<(l0.length:Int)then(dZ.l0 k l0 a1 0 ((aD l0 a1).f0) ((aD l0 a1).f1))else(none))else(none)
def bJ.l0:Nat→List (S126)→Int→Option (Bool)
  |0,_,_=>none
  |k+1,x0,x3=>if x3<(x0.length:Int)then((dZ.f k x0 x3).bind fun a=>(if a=true then(bJ.l0 k x0 (wrap64 (x3+1)))else(some false)))else(some true)
def bJ.f (k:Nat) (l0:List (S126)):Option (Bool):=(az.f (l0.length:Int) 2 5).bind fun t127=>(if t127=true then(bJ.l0 k l0 0)else(some false))
mutual
def bC.j0:Nat→Int→List (S126)→List (S104)→Int→Int→List Int→Int→Int→List (S113)→List (S57)→List (S181)→Option (Bool)
  |0,_,_,_,_,_,_,_,_,_,_,_=>none
  |k+1,x5,a,g,b,h,c,d,e,i,j,l=>if b=0 then(bC.j1 k true a g b h c d e i j l)else((az.f b (-1) (wrap64 ((a.length:Int) - 1))).bind fun m=>(if m=true then(if(c.length:Int)>2 then(bC.j1 k true a g b h c d e i j l)else((dm.f a d).bind fun t141=>(if t141=true then((az.f e (wrap64 (x5+(c.length:Int))) 3).bind fun n=>(bC.j1 k (!n) a g b h c d e i j l))else(bC.j1 k true a g b h c d e i j l))))else(bC.j1 k true a g b h c d e i j l)))
def bC.j1:Nat→Bool→List (S126)→List (S104)→Int→Int→List Int→Int→Int→List (S113)→List (S57)→List (S181)→Option (Bool)
  |0,_,_,_,_,_,_,_,_,_,_,_=>none
  |k+1,m,a,b,c,d,e,g,h,i,j,l=>if m=true then(some false)else(bC.l0 k 0 a b c d e g h i j l)
def bC.l0:Nat→Int→List (S126)→List (S104)→Int→Int→List Int→Int→Int→List (S113)→List (S57)→List (S181)→Option (Bool)
  |0,_,_,_,_,_,_,_,_,_,_,_=>none
  |k+1,x6,d,e,a,b,c,g,h,i,j,l=>if x6<(c.length:Int)then(if 0≤x6 then((dm.f d (rd c x6)).bind fun m=>(if m=true then(bC.l0 k (wrap64 (x6+1)) d e a b c g h i j l)else(some false)))else(none))else(if a≥0 then((az.f b 0 2).bind fun t145=>(if t145=true then(some true)else(if a<0 then(some (b==0))else(some false))))else(if a<0 then(some (b==0))else(some false)))
end
def bC.f (k:Nat) (b:List (S126)) (c:List (S104)) (a:Int) (d:Int) (e:List Int) (g:Int) (h:Int) (i:List (S113)) (j:List (S57)) (l:List (S181)):Option (Bool):=if a≥0 then(bC.j0 k 1 b c a d e g h i j l)else(bC.j0 k 0 b c a d e g h i j l)
def eZ.f (a0:Int):Option (Bool):=(az.f a0 (-128) 127).bind fun t146=>(some t146)
def dA.f:Nat→List (S126)→Int→Option (List Int)
  |0,_,_=>none
  |k+1,l0,a1=>if a1=0 then(some (([]:List Int)))else(if 0≤a1 then(if a1<(l0.length:Int)then((dA.f k l0 ((aD l0 a1).f0)).bind fun a=>(if a.length+((aD l0 a1).f1).length<17592186044416 then(some (a++((aD l0 a1).f1)))else(none)))else(none))else(none))
end Go.Proofs.YteinbmkgenhocaaGreat.P
end
