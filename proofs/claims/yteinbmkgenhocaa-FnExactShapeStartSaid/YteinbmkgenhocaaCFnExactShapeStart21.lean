/- A part of the claim FnExactShapeStart: texts of this session and texts that its program printed out of the translation, joined. -/
import Derived.Test.YteinbmkgenhocaaProg
import Derived.Below
import Derived.Deep.Draws
import Derived.Deep.AppendLies
import Derived.Maps.AppendAt
import Derived.OwnWalk
import Derived.Laws.BytesArg
import Derived.Laws.MakeOwn
import Derived.Laws.OwnMore
import Derived.Deep.OwnRows
import Derived.Tactics
import Derived.Lib.ConvBytes
import Derived.Laws.Slices
import Derived.WalkKit
import Derived.KernelRfl
import Derived.RowKit3
import Derived.Deep.LoopGhost
import Derived.Deep.QuietTactic
import Derived.BigQuiet
import Derived.WideLaws
import Derived.Deep.DeepCutAuto
import Derived.Deep.CutBlock
import Derived.Deep.RegionHeld3
import Derived.Laws.Rows
import Derived.Lib.AppendStr
import Derived.ArgAppend
import Derived.Laws.IdiomCopy
import Derived.OrdersHeld
import Derived.Laws.BitsLemmas
import Derived.RowKit
import Derived.Test.YteinbmkgenhocaaCFnExactShapeStart0
import Derived.Test.YteinbmkgenhocaaCFnExactShapeStart1
import Derived.Test.YteinbmkgenhocaaCFnExactShapeStart2
import Derived.Test.YteinbmkgenhocaaCFnExactShapeStart3
import Derived.Test.YteinbmkgenhocaaCFnExactShapeStart4
import Derived.Test.YteinbmkgenhocaaCFnExactShapeStart5
import Derived.Test.YteinbmkgenhocaaCFnExactShapeStart6
import Derived.Test.YteinbmkgenhocaaCFnExactShapeStart7
import Derived.Test.YteinbmkgenhocaaCFnExactShapeStart8
import Derived.Test.YteinbmkgenhocaaCFnExactShapeStart9
import Derived.Test.YteinbmkgenhocaaCFnExactShapeStart10
import Derived.Test.YteinbmkgenhocaaCFnExactShapeStart11
import Derived.Test.YteinbmkgenhocaaCFnExactShapeStart12
import Derived.Test.YteinbmkgenhocaaCFnExactShapeStart13
import Derived.Test.YteinbmkgenhocaaCFnExactShapeStart14
import Derived.Test.YteinbmkgenhocaaCFnExactShapeStart15
import Derived.Test.YteinbmkgenhocaaCFnExactShapeStart16
import Derived.Test.YteinbmkgenhocaaCFnExactShapeStart17
import Derived.Test.YteinbmkgenhocaaCFnExactShapeStart18
import Derived.Test.YteinbmkgenhocaaCFnExactShapeStart19
import Derived.Test.YteinbmkgenhocaaCFnExactShapeStart20
section
namespace Go.Proofs.Yteinbmkgenhocaa.P
open Go.RowKit Go.Proofs.YteinbmkgenhocaaW.PrintWords Go.Proofs.YteinbmkgenhocaaW.PrintLast Go.Proofs.YteinbmkgenhocaaW.PrintMore
attribute [local go_sem] ak au aA aC ai aj av ax
set_option linter.unusedVariables false
set_option linter.unusedSimpArgs false
def rV:Option Int→Value
  |none=> .nilIface
  |some c=> .iface 0 (.int .i64 c)
theorem aY:rV none= .nilIface:=rfl
theorem aZ (c:Int):rV (some c)= .iface 0 (.int .i64 c):=rfl
theorem info3:(Try.prog.info? 3).map (fun i=>(i.zero,i.size,i.bytes))=some (some (.int .i64 0),1,8):=by kernel_rfl
theorem rW:(Try.prog.info? 29).map (fun i=>(i.zero,i.size,i.bytes))=some (some (.agg #[(.bool false),(.slice none 0 0),(.slice none 0 0)]),3,56):=by kernel_rfl
theorem rX:(Try.prog.info? 50).map (fun i=>(i.zero,i.size,i.bytes))=some (some (.agg #[(.int .i64 0),(.int .i64 0),(.slice none 0 0),(.int .i64 0),(.int .i64 0),(.slice none 0 0),(.slice none 0 0),(.slice none 0 0)]),8,128):=by kernel_rfl
theorem rY:(Try.prog.info? 71).map (fun i=>(i.zero,i.size,i.bytes))=some (some (.agg #[(.int .i64 0),(.slice none 0 0)]),2,32):=by kernel_rfl
theorem rZ:(Try.prog.info? 97).map (fun i=>(i.zero,i.size,i.bytes))=some (some (.agg #[(.int .i64 0),(.int .i64 0),(.int .i64 0)]),3,24):=by kernel_rfl
theorem rA:(Try.prog.info? 102).map (fun i=>(i.zero,i.size,i.bytes))=some (some (.agg #[(.int .i64 0),(.int .i64 0),(.int .i64 0),(.int .i64 0)]),4,32):=by kernel_rfl
structure S62 where
  f0:Int
  f1:(List Int)
def z62:S62:=⟨(0:Int),([]:List Int)⟩
def k62:Kd S62:=Kd.iso (Kd.pair (Kd.int .i64) (Kd.slice 3 (Kd.int .i64))) (fun x:S62=>(x.f0,x.f1))
theorem qz {w:World} {x:S62} {cs:List Value} (h:k62.K w x cs): ∃A1 c1,cs= [.int .i64 x.f0, .slice A1 x.f1.length c1]∧x.f1.length≤c1∧(Kd.int .i64).C w A1 x.f1.length x.f1:=by
  obtain⟨_,_,rfl,rfl,⟨A1,c1,rfl,l1,g1⟩⟩:=h
  exact⟨A1,c1,rfl,l1,g1⟩
def eB (xs:List S62) (i:Int):S62:=xs.getD i.toNat z62
theorem mQ {w:World} {A:Option Addr} {n:Nat} {xs:List S62} (h:Kd.C k62 w A n xs) (i:Int) (h0:0≤i) (h1:i<n): ∃ad A1 c1,A=some ad∧w.cell? (ad.add (i.toNat * 2))=some (.int .i64 (eB xs i).f0)∧w.cell? ⟨(ad.add (i.toNat * 2)).block,(ad.add (i.toNat * 2)).off+1,none⟩=some (.slice A1 (eB xs i).f1.length c1)∧(eB xs i).f1.length≤c1∧(Kd.int .i64).C w A1 (eB xs i).f1.length (eB xs i).f1:=by
  obtain⟨ad,c,e,_,hK,hc0⟩:=Kd.C_get h z62 i h0 h1
  have hc: ∀j u,c[j]? =some u→w.cell? (ad.add (i.toNat * 2+j))=some u:=hc0
  obtain⟨A1,c1,rfl,l1,g1⟩:=qz hK
  exact⟨ad,A1,c1,e,hc 0 _ rfl,by rw[←bX _ _ 1 (by omega)];exact hc 1 _ rfl,l1,g1⟩
structure S112 where
  f0:Int
  f1:Int
  f2:Int
def r9:S112:=⟨(0:Int),(0:Int),(0:Int)⟩
def jC:Kd S112:=Kd.iso (Kd.pair (Kd.int .i64) (Kd.pair (Kd.int .i64) (Kd.int .i64))) (fun x:S112=>(x.f0,x.f1,x.f2))
theorem pI {w:World} {x:S112} {cs:List Value} (h:jC.K w x cs):cs= [.int .i64 x.f0, .int .i64 x.f1, .int .i64 x.f2]:=by
  obtain⟨_,_,rfl,rfl,⟨_,_,rfl,rfl,rfl⟩⟩:=h
  exact rfl
def gq (xs:List S112) (i:Int):S112:=xs.getD i.toNat r9
theorem rC {w:World} {A:Option Addr} {n:Nat} {xs:List S112} (h:Kd.C jC w A n xs) (i:Int) (h0:0≤i) (h1:i<n): ∃ad,A=some ad∧w.cell? (ad.add (i.toNat * 3))=some (.int .i64 (gq xs i).f0)∧w.cell? ⟨(ad.add (i.toNat * 3)).block,(ad.add (i.toNat * 3)).off+1,none⟩=some (.int .i64 (gq xs i).f1)∧w.cell? ⟨(ad.add (i.toNat * 3)).block,(ad.add (i.toNat * 3)).off+2,none⟩=some (.int .i64 (gq xs i).f2):=by
  obtain⟨ad,c,e,_,hK,hc0⟩:=Kd.C_get h r9 i h0 h1
  have hc: ∀j u,c[j]? =some u→w.cell? (ad.add (i.toNat * 3+j))=some u:=hc0
  obtain rfl:=pI hK
  exact⟨ad,e,hc 0 _ rfl,by rw[←bX _ _ 1 (by omega)];exact hc 1 _ rfl,by rw[←bX _ _ 2 (by omega)];exact hc 2 _ rfl⟩
structure S108 where
  f0:Bool
  f1:(List Int)
  f2:(List Int)
def si:S108:=⟨false,([]:List Int),([]:List Int)⟩
def jD:Kd S108:=Kd.iso (Kd.pair Kd.bool (Kd.pair (Kd.slice 3 (Kd.int .i64)) (Kd.slice 3 (Kd.int .i64)))) (fun x:S108=>(x.f0,x.f1,x.f2))
theorem pJ {w:World} {x:S108} {cs:List Value} (h:jD.K w x cs): ∃A1 c1 A2 c2,cs= [.bool x.f0, .slice A1 x.f1.length c1, .slice A2 x.f2.length c2]∧x.f1.length≤c1∧(Kd.int .i64).C w A1 x.f1.length x.f1∧x.f2.length≤c2∧(Kd.int .i64).C w A2 x.f2.length x.f2:=by
  obtain⟨_,_,rfl,rfl,⟨_,_,rfl,⟨A1,c1,rfl,l1,g1⟩,⟨A2,c2,rfl,l2,g2⟩⟩⟩:=h
  exact⟨A1,c1,A2,c2,rfl,l1,g1,l2,g2⟩
def dn (xs:List S108) (i:Int):S108:=xs.getD i.toNat si
theorem lS {w:World} {A:Option Addr} {n:Nat} {xs:List S108} (h:Kd.C jD w A n xs) (i:Int) (h0:0≤i) (h1:i<n): ∃ad A1 c1 A2 c2,A=some ad∧w.cell? (ad.add (i.toNat * 3))=some (.bool (dn xs i).f0)∧w.cell? ⟨(ad.add (i.toNat * 3)).block,(ad.add (i.toNat * 3)).off+1,none⟩=some (.slice A1 (dn xs i).f1.length c1)∧w.cell? ⟨(ad.add (i.toNat * 3)).block,(ad.add (i.toNat * 3)).off+2,none⟩=some (.slice A2 (dn xs i).f2.length c2)∧(dn xs i).f1.length≤c1∧(Kd.int .i64).C w A1 (dn xs i).f1.length (dn xs i).f1∧(dn xs i).f2.length≤c2∧(Kd.int .i64).C w A2 (dn xs i).f2.length (dn xs i).f2:=by
  obtain⟨ad,c,e,_,hK,hc0⟩:=Kd.C_get h si i h0 h1
  have hc: ∀j u,c[j]? =some u→w.cell? (ad.add (i.toNat * 3+j))=some u:=hc0
  obtain⟨A1,c1,A2,c2,rfl,l1,g1,l2,g2⟩:=pJ hK
  exact⟨ad,A1,c1,A2,c2,e,hc 0 _ rfl,by rw[←bX _ _ 1 (by omega)];exact hc 1 _ rfl,by rw[←bX _ _ 2 (by omega)];exact hc 2 _ rfl,l1,g1,l2,g2⟩
structure S115 where
  f0:Int
  f1:Int
  f2:Int
  f3:Int
def sj:S115:=⟨(0:Int),(0:Int),(0:Int),(0:Int)⟩
def jE:Kd S115:=Kd.iso (Kd.pair (Kd.int .i64) (Kd.pair (Kd.int .i64) (Kd.pair (Kd.int .i64) (Kd.int .i64)))) (fun x:S115=>(x.f0,x.f1,x.f2,x.f3))
theorem pK {w:World} {x:S115} {cs:List Value} (h:jE.K w x cs):cs= [.int .i64 x.f0, .int .i64 x.f1, .int .i64 x.f2, .int .i64 x.f3]:=by
  obtain⟨_,_,rfl,rfl,⟨_,_,rfl,rfl,⟨_,_,rfl,rfl,rfl⟩⟩⟩:=h
  exact rfl
def eQ (xs:List S115) (i:Int):S115:=xs.getD i.toNat sj
theorem rD {w:World} {A:Option Addr} {n:Nat} {xs:List S115} (h:Kd.C jE w A n xs) (i:Int) (h0:0≤i) (h1:i<n): ∃ad,A=some ad∧w.cell? (ad.add (i.toNat * 4))=some (.int .i64 (eQ xs i).f0)∧w.cell? ⟨(ad.add (i.toNat * 4)).block,(ad.add (i.toNat * 4)).off+1,none⟩=some (.int .i64 (eQ xs i).f1)∧w.cell? ⟨(ad.add (i.toNat * 4)).block,(ad.add (i.toNat * 4)).off+2,none⟩=some (.int .i64 (eQ xs i).f2)∧w.cell? ⟨(ad.add (i.toNat * 4)).block,(ad.add (i.toNat * 4)).off+3,none⟩=some (.int .i64 (eQ xs i).f3):=by
  obtain⟨ad,c,e,_,hK,hc0⟩:=Kd.C_get h sj i h0 h1
  have hc: ∀j u,c[j]? =some u→w.cell? (ad.add (i.toNat * 4+j))=some u:=hc0
  obtain rfl:=pK hK
  exact⟨ad,e,hc 0 _ rfl,by rw[←bX _ _ 1 (by omega)];exact hc 1 _ rfl,by rw[←bX _ _ 2 (by omega)];exact hc 2 _ rfl,by rw[←bX _ _ 3 (by omega)];exact hc 3 _ rfl⟩
structure S68 where
  f0:Int
  f1:Int
  f2:(List Int)
  f3:Int
  f4:Int
  f5:(List S112)
  f6:(List S108)
  f7:(List S115)
def z68:S68:=⟨(0:Int),(0:Int),([]:List Int),(0:Int),(0:Int),([]:List S112),([]:List S108),([]:List S115)⟩
def k68:Kd S68:=Kd.iso (Kd.pair (Kd.int .i64) (Kd.pair (Kd.int .i64) (Kd.pair (Kd.slice 3 (Kd.int .i64)) (Kd.pair (Kd.int .i64) (Kd.pair (Kd.int .i64) (Kd.pair (Kd.slice 112 jC) (Kd.pair (Kd.slice 108 jD) (Kd.slice 115 jE)))))))) (fun x:S68=>(x.f0,x.f1,x.f2,x.f3,x.f4,x.f5,x.f6,x.f7))
theorem qA {w:World} {x:S68} {cs:List Value} (h:k68.K w x cs): ∃A2 c2 A5 c5 A6 c6 A7 c7,cs= [.int .i64 x.f0, .int .i64 x.f1, .slice A2 x.f2.length c2, .int .i64 x.f3, .int .i64 x.f4, .slice A5 x.f5.length c5, .slice A6 x.f6.length c6, .slice A7 x.f7.length c7]∧x.f2.length≤c2∧(Kd.int .i64).C w A2 x.f2.length x.f2∧x.f5.length≤c5∧jC.C w A5 x.f5.length x.f5∧x.f6.length≤c6∧jD.C w A6 x.f6.length x.f6∧x.f7.length≤c7∧jE.C w A7 x.f7.length x.f7:=by
  obtain⟨_,_,rfl,rfl,⟨_,_,rfl,rfl,⟨_,_,rfl,⟨A2,c2,rfl,l2,g2⟩,⟨_,_,rfl,rfl,⟨_,_,rfl,rfl,⟨_,_,rfl,⟨A5,c5,rfl,l5,g5⟩,⟨_,_,rfl,⟨A6,c6,rfl,l6,g6⟩,⟨A7,c7,rfl,l7,g7⟩⟩⟩⟩⟩⟩⟩⟩:=h
  exact⟨A2,c2,A5,c5,A6,c6,A7,c7,rfl,l2,g2,l5,g5,l6,g6,l7,g7⟩
def aX (xs:List S68) (i:Int):S68:=xs.getD i.toNat z68
theorem mR {w:World} {A:Option Addr} {n:Nat} {xs:List S68} (h:Kd.C k68 w A n xs) (i:Int) (h0:0≤i) (h1:i<n): ∃ad A2 c2 A5 c5 A6 c6 A7 c7,A=some ad∧w.cell? (ad.add (i.toNat * 8))=some (.int .i64 (aX xs i).f0)∧w.cell? ⟨(ad.add (i.toNat * 8)).block,(ad.add (i.toNat * 8)).off+1,none⟩=some (.int .i64 (aX xs i).f1)∧w.cell? ⟨(ad.add (i.toNat * 8)).block,(ad.add (i.toNat * 8)).off+2,none⟩=some (.slice A2 (aX xs i).f2.length c2)∧w.cell? ⟨(ad.add (i.toNat * 8)).block,(ad.add (i.toNat * 8)).off+3,none⟩=some (.int .i64 (aX xs i).f3)∧w.cell? ⟨(ad.add (i.toNat * 8)).block,(ad.add (i.toNat * 8)).off+4,none⟩=some (.int .i64 (aX xs i).f4)∧w.cell? ⟨(ad.add (i.toNat * 8)).block,(ad.add (i.toNat * 8)).off+5,none⟩=some (.slice A5 (aX xs i).f5.length c5)∧w.cell? ⟨(ad.add (i.toNat * 8)).block,(ad.add (i.toNat * 8)).off+6,none⟩=some (.slice A6 (aX xs i).f6.length c6)∧w.cell? ⟨(ad.add (i.toNat * 8)).block,(ad.add (i.toNat * 8)).off+7,none⟩=some (.slice A7 (aX xs i).f7.length c7)∧(aX xs i).f2.length≤c2∧(Kd.int .i64).C w A2 (aX xs i).f2.length (aX xs i).f2∧(aX xs i).f5.length≤c5∧jC.C w A5 (aX xs i).f5.length (aX xs i).f5∧(aX xs i).f6.length≤c6∧jD.C w A6 (aX xs i).f6.length (aX xs i).f6∧(aX xs i).f7.length≤c7∧jE.C w A7 (aX xs i).f7.length (aX xs i).f7:=by
  obtain⟨ad,c,e,_,hK,hc0⟩:=Kd.C_get h z68 i h0 h1
  have hc: ∀j u,c[j]? =some u→w.cell? (ad.add (i.toNat * 8+j))=some u:=hc0
  obtain⟨A2,c2,A5,c5,A6,c6,A7,c7,rfl,l2,g2,l5,g5,l6,g6,l7,g7⟩:=qA hK
  exact⟨ad,A2,c2,A5,c5,A6,c6,A7,c7,e,hc 0 _ rfl,by rw[←bX _ _ 1 (by omega)];exact hc 1 _ rfl,by rw[←bX _ _ 2 (by omega)];exact hc 2 _ rfl,by rw[←bX _ _ 3 (by omega)];exact hc 3 _ rfl,by rw[←bX _ _ 4 (by omega)];exact hc 4 _ rfl,by rw[←bX _ _ 5 (by omega)];exact hc 5 _ rfl,by rw[←bX _ _ 6 (by omega)];exact hc 6 _ rfl,by rw[←bX _ _ 7 (by omega)];exact hc 7 _ rfl,l2,g2,l5,g5,l6,g6,l7,g7⟩
structure S71 where
  f0:Int
  f1:(List Int)
def z71:S71:=⟨(0:Int),([]:List Int)⟩
def k71:Kd S71:=Kd.iso (Kd.pair (Kd.int .i64) (Kd.slice 3 (Kd.int .i64))) (fun x:S71=>(x.f0,x.f1))
theorem qB {w:World} {x:S71} {cs:List Value} (h:k71.K w x cs): ∃A1 c1,cs= [.int .i64 x.f0, .slice A1 x.f1.length c1]∧x.f1.length≤c1∧(Kd.int .i64).C w A1 x.f1.length x.f1:=by
  obtain⟨_,_,rfl,rfl,⟨A1,c1,rfl,l1,g1⟩⟩:=h
  exact⟨A1,c1,rfl,l1,g1⟩
theorem kv {w:World} {base:Nat} {ok:Nat→Prop} {x:S71} {cs:List Value} (h:k71.M w base ok x cs): ∃v1,cs= [.int .i64 x.f0,v1]∧(Kd.int .i64).R 3 w base ok v1 x.f1:=by
  obtain⟨_,_,rfl,rfl,⟨v1,rfl,g1⟩⟩:=h
  exact⟨v1,rfl,g1⟩
theorem nR (w:World) (base:Nat) (ok:Nat→Prop) (x:S71) {v1:Value} (g1:(Kd.int .i64).R 3 w base ok v1 x.f1):k71.M w base ok x [.int .i64 x.f0,v1]:=⟨[.int .i64 x.f0], [v1],rfl,rfl,⟨v1,rfl,g1⟩⟩
def aD (xs:List S71) (i:Int):S71:=xs.getD i.toNat z71
theorem fV {w:World} {A:Option Addr} {n:Nat} {xs:List S71} (h:Kd.C k71 w A n xs) (i:Int) (h0:0≤i) (h1:i<n): ∃ad A1 c1,A=some ad∧w.cell? (ad.add (i.toNat * 2))=some (.int .i64 (aD xs i).f0)∧w.cell? ⟨(ad.add (i.toNat * 2)).block,(ad.add (i.toNat * 2)).off+1,none⟩=some (.slice A1 (aD xs i).f1.length c1)∧(aD xs i).f1.length≤c1∧(Kd.int .i64).C w A1 (aD xs i).f1.length (aD xs i).f1:=by
  obtain⟨ad,c,e,_,hK,hc0⟩:=Kd.C_get h z71 i h0 h1
  have hc: ∀j u,c[j]? =some u→w.cell? (ad.add (i.toNat * 2+j))=some u:=hc0
  obtain⟨A1,c1,rfl,l1,g1⟩:=qB hK
  exact⟨ad,A1,c1,e,hc 0 _ rfl,by rw[←bX _ _ 1 (by omega)];exact hc 1 _ rfl,l1,g1⟩
structure S97 where
  f0:Int
  f1:Int
  f2:Int
def z97:S97:=⟨(0:Int),(0:Int),(0:Int)⟩
def k97:Kd S97:=Kd.iso (Kd.pair (Kd.int .i64) (Kd.pair (Kd.int .i64) (Kd.int .i64))) (fun x:S97=>(x.f0,x.f1,x.f2))
theorem qC {w:World} {x:S97} {cs:List Value} (h:k97.K w x cs):cs= [.int .i64 x.f0, .int .i64 x.f1, .int .i64 x.f2]:=by
  obtain⟨_,_,rfl,rfl,⟨_,_,rfl,rfl,rfl⟩⟩:=h
  exact rfl
theorem kw {w:World} {base:Nat} {ok:Nat→Prop} {x:S97} {cs:List Value} (h:k97.M w base ok x cs):cs= [.int .i64 x.f0, .int .i64 x.f1, .int .i64 x.f2]:=by
  obtain⟨_,_,rfl,rfl,⟨_,_,rfl,rfl,rfl⟩⟩:=h
  exact rfl
theorem nS (w:World) (base:Nat) (ok:Nat→Prop) (x:S97):k97.M w base ok x [.int .i64 x.f0, .int .i64 x.f1, .int .i64 x.f2]:=⟨[.int .i64 x.f0], [.int .i64 x.f1, .int .i64 x.f2],rfl,rfl,⟨[.int .i64 x.f1], [.int .i64 x.f2],rfl,rfl,rfl⟩⟩
def aM (xs:List S97) (i:Int):S97:=xs.getD i.toNat z97
theorem iA {w:World} {A:Option Addr} {n:Nat} {xs:List S97} (h:Kd.C k97 w A n xs) (i:Int) (h0:0≤i) (h1:i<n): ∃ad,A=some ad∧w.cell? (ad.add (i.toNat * 3))=some (.int .i64 (aM xs i).f0)∧w.cell? ⟨(ad.add (i.toNat * 3)).block,(ad.add (i.toNat * 3)).off+1,none⟩=some (.int .i64 (aM xs i).f1)∧w.cell? ⟨(ad.add (i.toNat * 3)).block,(ad.add (i.toNat * 3)).off+2,none⟩=some (.int .i64 (aM xs i).f2):=by
  obtain⟨ad,c,e,_,hK,hc0⟩:=Kd.C_get h z97 i h0 h1
  have hc: ∀j u,c[j]? =some u→w.cell? (ad.add (i.toNat * 3+j))=some u:=hc0
  obtain rfl:=qC hK
  exact⟨ad,e,hc 0 _ rfl,by rw[←bX _ _ 1 (by omega)];exact hc 1 _ rfl,by rw[←bX _ _ 2 (by omega)];exact hc 2 _ rfl⟩
structure S29 where
  f0:Bool
  f1:(List Int)
  f2:(List Int)
def z29:S29:=⟨false,([]:List Int),([]:List Int)⟩
def k29:Kd S29:=Kd.iso (Kd.pair Kd.bool (Kd.pair (Kd.slice 3 (Kd.int .i64)) (Kd.slice 3 (Kd.int .i64)))) (fun x:S29=>(x.f0,x.f1,x.f2))
theorem qD {w:World} {x:S29} {cs:List Value} (h:k29.K w x cs): ∃A1 c1 A2 c2,cs= [.bool x.f0, .slice A1 x.f1.length c1, .slice A2 x.f2.length c2]∧x.f1.length≤c1∧(Kd.int .i64).C w A1 x.f1.length x.f1∧x.f2.length≤c2∧(Kd.int .i64).C w A2 x.f2.length x.f2:=by
  obtain⟨_,_,rfl,rfl,⟨_,_,rfl,⟨A1,c1,rfl,l1,g1⟩,⟨A2,c2,rfl,l2,g2⟩⟩⟩:=h
  exact⟨A1,c1,A2,c2,rfl,l1,g1,l2,g2⟩
theorem ky {w:World} {base:Nat} {ok:Nat→Prop} {x:S29} {cs:List Value} (h:k29.M w base ok x cs): ∃v1 v2,cs= [.bool x.f0,v1,v2]∧(Kd.int .i64).R 3 w base ok v1 x.f1∧(Kd.int .i64).R 3 w base ok v2 x.f2:=by
  obtain⟨_,_,rfl,rfl,⟨_,_,rfl,⟨v1,rfl,g1⟩,⟨v2,rfl,g2⟩⟩⟩:=h
  exact⟨v1,v2,rfl,g1,g2⟩
theorem nT (w:World) (base:Nat) (ok:Nat→Prop) (x:S29) {v1:Value} (g1:(Kd.int .i64).R 3 w base ok v1 x.f1) {v2:Value} (g2:(Kd.int .i64).R 3 w base ok v2 x.f2):k29.M w base ok x [.bool x.f0,v1,v2]:=⟨[.bool x.f0], [v1,v2],rfl,rfl,⟨[v1], [v2],rfl,⟨v1,rfl,g1⟩,⟨v2,rfl,g2⟩⟩⟩
def aQ (xs:List S29) (i:Int):S29:=xs.getD i.toNat z29
theorem iZ {w:World} {A:Option Addr} {n:Nat} {xs:List S29} (h:Kd.C k29 w A n xs) (i:Int) (h0:0≤i) (h1:i<n): ∃ad A1 c1 A2 c2,A=some ad∧w.cell? (ad.add (i.toNat * 3))=some (.bool (aQ xs i).f0)∧w.cell? ⟨(ad.add (i.toNat * 3)).block,(ad.add (i.toNat * 3)).off+1,none⟩=some (.slice A1 (aQ xs i).f1.length c1)∧w.cell? ⟨(ad.add (i.toNat * 3)).block,(ad.add (i.toNat * 3)).off+2,none⟩=some (.slice A2 (aQ xs i).f2.length c2)∧(aQ xs i).f1.length≤c1∧(Kd.int .i64).C w A1 (aQ xs i).f1.length (aQ xs i).f1∧(aQ xs i).f2.length≤c2∧(Kd.int .i64).C w A2 (aQ xs i).f2.length (aQ xs i).f2:=by
  obtain⟨ad,c,e,_,hK,hc0⟩:=Kd.C_get h z29 i h0 h1
  have hc: ∀j u,c[j]? =some u→w.cell? (ad.add (i.toNat * 3+j))=some u:=hc0
  obtain⟨A1,c1,A2,c2,rfl,l1,g1,l2,g2⟩:=qD hK
  exact⟨ad,A1,c1,A2,c2,e,hc 0 _ rfl,by rw[←bX _ _ 1 (by omega)];exact hc 1 _ rfl,by rw[←bX _ _ 2 (by omega)];exact hc 2 _ rfl,l1,g1,l2,g2⟩
structure S102 where
  f0:Int
  f1:Int
  f2:Int
  f3:Int
def fB:S102:=⟨(0:Int),(0:Int),(0:Int),(0:Int)⟩
def dQ:Kd S102:=Kd.iso (Kd.pair (Kd.int .i64) (Kd.pair (Kd.int .i64) (Kd.pair (Kd.int .i64) (Kd.int .i64)))) (fun x:S102=>(x.f0,x.f1,x.f2,x.f3))
theorem pM {w:World} {x:S102} {cs:List Value} (h:dQ.K w x cs):cs= [.int .i64 x.f0, .int .i64 x.f1, .int .i64 x.f2, .int .i64 x.f3]:=by
  obtain⟨_,_,rfl,rfl,⟨_,_,rfl,rfl,⟨_,_,rfl,rfl,rfl⟩⟩⟩:=h
  exact rfl
theorem jL {w:World} {base:Nat} {ok:Nat→Prop} {x:S102} {cs:List Value} (h:dQ.M w base ok x cs):cs= [.int .i64 x.f0, .int .i64 x.f1, .int .i64 x.f2, .int .i64 x.f3]:=by
  obtain⟨_,_,rfl,rfl,⟨_,_,rfl,rfl,⟨_,_,rfl,rfl,rfl⟩⟩⟩:=h
  exact rfl
theorem mU (w:World) (base:Nat) (ok:Nat→Prop) (x:S102):dQ.M w base ok x [.int .i64 x.f0, .int .i64 x.f1, .int .i64 x.f2, .int .i64 x.f3]:=⟨[.int .i64 x.f0], [.int .i64 x.f1, .int .i64 x.f2, .int .i64 x.f3],rfl,rfl,⟨[.int .i64 x.f1], [.int .i64 x.f2, .int .i64 x.f3],rfl,rfl,⟨[.int .i64 x.f2], [.int .i64 x.f3],rfl,rfl,rfl⟩⟩⟩
def az (xs:List S102) (i:Int):S102:=xs.getD i.toNat fB
theorem iR {w:World} {A:Option Addr} {n:Nat} {xs:List S102} (h:Kd.C dQ w A n xs) (i:Int) (h0:0≤i) (h1:i<n): ∃ad,A=some ad∧w.cell? (ad.add (i.toNat * 4))=some (.int .i64 (az xs i).f0)∧w.cell? ⟨(ad.add (i.toNat * 4)).block,(ad.add (i.toNat * 4)).off+1,none⟩=some (.int .i64 (az xs i).f1)∧w.cell? ⟨(ad.add (i.toNat * 4)).block,(ad.add (i.toNat * 4)).off+2,none⟩=some (.int .i64 (az xs i).f2)∧w.cell? ⟨(ad.add (i.toNat * 4)).block,(ad.add (i.toNat * 4)).off+3,none⟩=some (.int .i64 (az xs i).f3):=by
  obtain⟨ad,c,e,_,hK,hc0⟩:=Kd.C_get h fB i h0 h1
  have hc: ∀j u,c[j]? =some u→w.cell? (ad.add (i.toNat * 4+j))=some u:=hc0
  obtain rfl:=pM hK
  exact⟨ad,e,hc 0 _ rfl,by rw[←bX _ _ 1 (by omega)];exact hc 1 _ rfl,by rw[←bX _ _ 2 (by omega)];exact hc 2 _ rfl,by rw[←bX _ _ 3 (by omega)];exact hc 3 _ rfl⟩
structure S50 where
  f0:Int
  f1:Int
  f2:(List Int)
  f3:Int
  f4:Int
  f5:(List S97)
  f6:(List S29)
  f7:(List S102)
def z50:S50:=⟨(0:Int),(0:Int),([]:List Int),(0:Int),(0:Int),([]:List S97),([]:List S29),([]:List S102)⟩
def k50:Kd S50:=Kd.iso (Kd.pair (Kd.int .i64) (Kd.pair (Kd.int .i64) (Kd.pair (Kd.slice 3 (Kd.int .i64)) (Kd.pair (Kd.int .i64) (Kd.pair (Kd.int .i64) (Kd.pair (Kd.slice 97 k97) (Kd.pair (Kd.slice 29 k29) (Kd.slice 102 dQ)))))))) (fun x:S50=>(x.f0,x.f1,x.f2,x.f3,x.f4,x.f5,x.f6,x.f7))
theorem qE {w:World} {x:S50} {cs:List Value} (h:k50.K w x cs): ∃A2 c2 A5 c5 A6 c6 A7 c7,cs= [.int .i64 x.f0, .int .i64 x.f1, .slice A2 x.f2.length c2, .int .i64 x.f3, .int .i64 x.f4, .slice A5 x.f5.length c5, .slice A6 x.f6.length c6, .slice A7 x.f7.length c7]∧x.f2.length≤c2∧(Kd.int .i64).C w A2 x.f2.length x.f2∧x.f5.length≤c5∧k97.C w A5 x.f5.length x.f5∧x.f6.length≤c6∧k29.C w A6 x.f6.length x.f6∧x.f7.length≤c7∧dQ.C w A7 x.f7.length x.f7:=by
  obtain⟨_,_,rfl,rfl,⟨_,_,rfl,rfl,⟨_,_,rfl,⟨A2,c2,rfl,l2,g2⟩,⟨_,_,rfl,rfl,⟨_,_,rfl,rfl,⟨_,_,rfl,⟨A5,c5,rfl,l5,g5⟩,⟨_,_,rfl,⟨A6,c6,rfl,l6,g6⟩,⟨A7,c7,rfl,l7,g7⟩⟩⟩⟩⟩⟩⟩⟩:=h
  exact⟨A2,c2,A5,c5,A6,c6,A7,c7,rfl,l2,g2,l5,g5,l6,g6,l7,g7⟩
theorem kz {w:World} {base:Nat} {ok:Nat→Prop} {x:S50} {cs:List Value} (h:k50.M w base ok x cs): ∃v2 v5 v6 v7,cs= [.int .i64 x.f0, .int .i64 x.f1,v2, .int .i64 x.f3, .int .i64 x.f4,v5,v6,v7]∧(Kd.int .i64).R 3 w base ok v2 x.f2∧k97.R 97 w base ok v5 x.f5∧k29.R 29 w base ok v6 x.f6∧dQ.R 102 w base ok v7 x.f7:=by
  obtain⟨_,_,rfl,rfl,⟨_,_,rfl,rfl,⟨_,_,rfl,⟨v2,rfl,g2⟩,⟨_,_,rfl,rfl,⟨_,_,rfl,rfl,⟨_,_,rfl,⟨v5,rfl,g5⟩,⟨_,_,rfl,⟨v6,rfl,g6⟩,⟨v7,rfl,g7⟩⟩⟩⟩⟩⟩⟩⟩:=h
  exact⟨v2,v5,v6,v7,rfl,g2,g5,g6,g7⟩
theorem nU (w:World) (base:Nat) (ok:Nat→Prop) (x:S50) {v2:Value} (g2:(Kd.int .i64).R 3 w base ok v2 x.f2) {v5:Value} (g5:k97.R 97 w base ok v5 x.f5) {v6:Value} (g6:k29.R 29 w base ok v6 x.f6) {v7:Value} (g7:dQ.R 102 w base ok v7 x.f7):k50.M w base ok x [.int .i64 x.f0, .int .i64 x.f1,v2, .int .i64 x.f3, .int .i64 x.f4,v5,v6,v7]:=⟨[.int .i64 x.f0], [.int .i64 x.f1,v2, .int .i64 x.f3, .int .i64 x.f4,v5,v6,v7],rfl,rfl,⟨[.int .i64 x.f1], [v2, .int .i64 x.f3, .int .i64 x.f4,v5,v6,v7],rfl,rfl,⟨[v2], [.int .i64 x.f3, .int .i64 x.f4,v5,v6,v7],rfl,⟨v2,rfl,g2⟩,⟨[.int .i64 x.f3], [.int .i64 x.f4,v5,v6,v7],rfl,rfl,⟨[.int .i64 x.f4], [v5,v6,v7],rfl,rfl,⟨[v5], [v6,v7],rfl,⟨v5,rfl,g5⟩,⟨[v6], [v7],rfl,⟨v6,rfl,g6⟩,⟨v7,rfl,g7⟩⟩⟩⟩⟩⟩⟩⟩
def aa (xs:List S50) (i:Int):S50:=xs.getD i.toNat z50
theorem dx {w:World} {A:Option Addr} {n:Nat} {xs:List S50} (h:Kd.C k50 w A n xs) (i:Int) (h0:0≤i) (h1:i<n): ∃ad A2 c2 A5 c5 A6 c6 A7 c7,A=some ad∧w.cell? (ad.add (i.toNat * 8))=some (.int .i64 (aa xs i).f0)∧w.cell? ⟨(ad.add (i.toNat * 8)).block,(ad.add (i.toNat * 8)).off+1,none⟩=some (.int .i64 (aa xs i).f1)∧w.cell? ⟨(ad.add (i.toNat * 8)).block,(ad.add (i.toNat * 8)).off+2,none⟩=some (.slice A2 (aa xs i).f2.length c2)∧w.cell? ⟨(ad.add (i.toNat * 8)).block,(ad.add (i.toNat * 8)).off+3,none⟩=some (.int .i64 (aa xs i).f3)∧w.cell? ⟨(ad.add (i.toNat * 8)).block,(ad.add (i.toNat * 8)).off+4,none⟩=some (.int .i64 (aa xs i).f4)∧w.cell? ⟨(ad.add (i.toNat * 8)).block,(ad.add (i.toNat * 8)).off+5,none⟩=some (.slice A5 (aa xs i).f5.length c5)∧w.cell? ⟨(ad.add (i.toNat * 8)).block,(ad.add (i.toNat * 8)).off+6,none⟩=some (.slice A6 (aa xs i).f6.length c6)∧w.cell? ⟨(ad.add (i.toNat * 8)).block,(ad.add (i.toNat * 8)).off+7,none⟩=some (.slice A7 (aa xs i).f7.length c7)∧(aa xs i).f2.length≤c2∧(Kd.int .i64).C w A2 (aa xs i).f2.length (aa xs i).f2∧(aa xs i).f5.length≤c5∧k97.C w A5 (aa xs i).f5.length (aa xs i).f5∧(aa xs i).f6.length≤c6∧k29.C w A6 (aa xs i).f6.length (aa xs i).f6∧(aa xs i).f7.length≤c7∧dQ.C w A7 (aa xs i).f7.length (aa xs i).f7:=by
  obtain⟨ad,c,e,_,hK,hc0⟩:=Kd.C_get h z50 i h0 h1
  have hc: ∀j u,c[j]? =some u→w.cell? (ad.add (i.toNat * 8+j))=some u:=hc0
  obtain⟨A2,c2,A5,c5,A6,c6,A7,c7,rfl,l2,g2,l5,g5,l6,g6,l7,g7⟩:=qE hK
  exact⟨ad,A2,c2,A5,c5,A6,c6,A7,c7,e,hc 0 _ rfl,by rw[←bX _ _ 1 (by omega)];exact hc 1 _ rfl,by rw[←bX _ _ 2 (by omega)];exact hc 2 _ rfl,by rw[←bX _ _ 3 (by omega)];exact hc 3 _ rfl,by rw[←bX _ _ 4 (by omega)];exact hc 4 _ rfl,by rw[←bX _ _ 5 (by omega)];exact hc 5 _ rfl,by rw[←bX _ _ 6 (by omega)];exact hc 6 _ rfl,by rw[←bX _ _ 7 (by omega)];exact hc 7 _ rfl,l2,g2,l5,g5,l6,g6,l7,g7⟩
structure S34 where
  f0:(List S71)
  f1:(List S50)
end Go.Proofs.Yteinbmkgenhocaa.P
end
section
namespace Go.Proofs.Yteinbmkgenhocaa
open Go Go.Proofs.Yteinbmkgenhocaa.P
set_option maxRecDepth 100000
theorem qF {P:Program} {L:List Char} {W:List (List Char)} {c:List Char} {rest:List (List Char)} (h1:P.initOrder.toList=L) (h2:wordsSigns L=W) (h3:behindMainWord W=c::rest) (h4:stripLifts liftWords (c::rest)=([],c::rest)) (h5:c= "cut".toList) (h6:P.laysLater=false) (h7:P.bearsReflect=false) (h8:P.doorFits []=true):P.mayEnter=true:=by
  unfold Program.mayEnter
  rw[h1,h2,h3]
  simp only[h4,h6,h7,h8,List.head?_cons]
  simp[h5]
theorem rE {P:Program} {L:List Char} {W:List (List Char)} {c:List Char} {rest:List (List Char)} (h1:P.initOrder.toList=L) (h2:wordsSigns L=W) (h3:behindMainWord W=c::rest) (h5:c= "cut".toList):P.make=some .cut:=by
  unfold Program.make
  rw[h1,h2,h3]
  simp[h5]
theorem qG {P:Program} {L:List Char} {W:List (List Char)} {c:List Char} {rest:List (List Char)} (h1:P.initOrder.toList=L) (h2:wordsSigns L=W) (h3:behindMainWord W=c::rest) (h4:stripLifts liftWords (c::rest)=([],c::rest)) (h5:c= "cut".toList):P.liftsFinal=false:=by
  unfold Program.liftsFinal Program.headLifts
  rw[h1,h2,h3]
  simp only[h4,List.head?_cons]
  simp[h5]
def ja:List Char:= [Char.ofNat 104,Char.ofNat 97,Char.ofNat 114,Char.ofNat 110,Char.ofNat 101,Char.ofNat 115,Char.ofNat 115,Char.ofNat 32,Char.ofNat 57,Char.ofNat 52,Char.ofNat 56,Char.ofNat 49,Char.ofNat 48,Char.ofNat 50,Char.ofNat 54,Char.ofNat 51,Char.ofNat 102,Char.ofNat 102,Char.ofNat 98,Char.ofNat 49,Char.ofNat 97,Char.ofNat 97,Char.ofNat 50,Char.ofNat 102,Char.ofNat 101,Char.ofNat 100,Char.ofNat 49,Char.ofNat 53,Char.ofNat 55,Char.ofNat 101,Char.ofNat 49,Char.ofNat 57,Char.ofNat 48,Char.ofNat 100,Char.ofNat 50,Char.ofNat 101,Char.ofNat 102,Char.ofNat 97,Char.ofNat 53,Char.ofNat 98,Char.ofNat 99,Char.ofNat 57,Char.ofNat 97,Char.ofNat 51,Char.ofNat 53,Char.ofNat 53,Char.ofNat 52,Char.ofNat 97,Char.ofNat 53,Char.ofNat 102,Char.ofNat 102,Char.ofNat 99,Char.ofNat 49,Char.ofNat 102,Char.ofNat 99,Char.ofNat 55,Char.ofNat 98,Char.ofNat 51,Char.ofNat 102,Char.ofNat 97,Char.ofNat 52,Char.ofNat 53,Char.ofNat 99,Char.ofNat 102,Char.ofNat 57,Char.ofNat 97,Char.ofNat 55,Char.ofNat 52,Char.ofNat 57,Char.ofNat 97,Char.ofNat 100,Char.ofNat 56,Char.ofNat 32,Char.ofNat 99,Char.ofNat 117,Char.ofNat 116,Char.ofNat 32,Char.ofNat 97,Char.ofNat 116,Char.ofNat 32,Char.ofNat 108,Char.ofNat 111,Char.ofNat 111,Char.ofNat 112,Char.ofNat 46,Char.ofNat 101,Char.ofNat 120,Char.ofNat 97,Char.ofNat 109,Char.ofNat 112,Char.ofNat 108,Char.ofNat 101,Char.ofNat 47,Char.ofNat 101,Char.ofNat 110,Char.ofNat 116,Char.ofNat 97,Char.ofNat 105,Char.ofNat 108,Char.ofNat 47,Char.ofNat 108,Char.ofNat 97,Char.ofNat 119,Char.ofNat 115,Char.ofNat 46,Char.ofNat 70,Char.ofNat 110,Char.ofNat 69,Char.ofNat 120,Char.ofNat 97,Char.ofNat 99,Char.ofNat 116,Char.ofNat 83,Char.ofNat 104,Char.ofNat 97,Char.ofNat 112,Char.ofNat 101,Char.ofNat 83,Char.ofNat 116,Char.ofNat 97,Char.ofNat 114,Char.ofNat 116]
def kC:List (List Char):= [[Char.ofNat 104,Char.ofNat 97,Char.ofNat 114,Char.ofNat 110,Char.ofNat 101,Char.ofNat 115,Char.ofNat 115], [Char.ofNat 57,Char.ofNat 52,Char.ofNat 56,Char.ofNat 49,Char.ofNat 48,Char.ofNat 50,Char.ofNat 54,Char.ofNat 51,Char.ofNat 102,Char.ofNat 102,Char.ofNat 98,Char.ofNat 49,Char.ofNat 97,Char.ofNat 97,Char.ofNat 50,Char.ofNat 102,Char.ofNat 101,Char.ofNat 100,Char.ofNat 49,Char.ofNat 53,Char.ofNat 55,Char.ofNat 101,Char.ofNat 49,Char.ofNat 57,Char.ofNat 48,Char.ofNat 100,Char.ofNat 50,Char.ofNat 101,Char.ofNat 102,Char.ofNat 97,Char.ofNat 53,Char.ofNat 98,Char.ofNat 99,Char.ofNat 57,Char.ofNat 97,Char.ofNat 51,Char.ofNat 53,Char.ofNat 53,Char.ofNat 52,Char.ofNat 97,Char.ofNat 53,Char.ofNat 102,Char.ofNat 102,Char.ofNat 99,Char.ofNat 49,Char.ofNat 102,Char.ofNat 99,Char.ofNat 55,Char.ofNat 98,Char.ofNat 51,Char.ofNat 102,Char.ofNat 97,Char.ofNat 52,Char.ofNat 53,Char.ofNat 99,Char.ofNat 102,Char.ofNat 57,Char.ofNat 97,Char.ofNat 55,Char.ofNat 52,Char.ofNat 57,Char.ofNat 97,Char.ofNat 100,Char.ofNat 56], [Char.ofNat 99,Char.ofNat 117,Char.ofNat 116], [Char.ofNat 97,Char.ofNat 116], [Char.ofNat 108,Char.ofNat 111,Char.ofNat 111,Char.ofNat 112,Char.ofNat 46,Char.ofNat 101,Char.ofNat 120,Char.ofNat 97,Char.ofNat 109,Char.ofNat 112,Char.ofNat 108,Char.ofNat 101,Char.ofNat 47,Char.ofNat 101,Char.ofNat 110,Char.ofNat 116,Char.ofNat 97,Char.ofNat 105,Char.ofNat 108,Char.ofNat 47,Char.ofNat 108,Char.ofNat 97,Char.ofNat 119,Char.ofNat 115,Char.ofNat 46,Char.ofNat 70,Char.ofNat 110,Char.ofNat 69,Char.ofNat 120,Char.ofNat 97,Char.ofNat 99,Char.ofNat 116,Char.ofNat 83,Char.ofNat 104,Char.ofNat 97,Char.ofNat 112,Char.ofNat 101,Char.ofNat 83,Char.ofNat 116,Char.ofNat 97,Char.ofNat 114,Char.ofNat 116]]
theorem lT:Try.prog.initOrder.toList=ja:=by
  have h:Try.prog.initOrder=String.ofList ja:=by kernel_rfl
  rw[h,String.toList_ofList]
def kD:List (List Char):= [[Char.ofNat 97,Char.ofNat 116], [Char.ofNat 108,Char.ofNat 111,Char.ofNat 111,Char.ofNat 112,Char.ofNat 46,Char.ofNat 101,Char.ofNat 120,Char.ofNat 97,Char.ofNat 109,Char.ofNat 112,Char.ofNat 108,Char.ofNat 101,Char.ofNat 47,Char.ofNat 101,Char.ofNat 110,Char.ofNat 116,Char.ofNat 97,Char.ofNat 105,Char.ofNat 108,Char.ofNat 47,Char.ofNat 108,Char.ofNat 97,Char.ofNat 119,Char.ofNat 115,Char.ofNat 46,Char.ofNat 70,Char.ofNat 110,Char.ofNat 69,Char.ofNat 120,Char.ofNat 97,Char.ofNat 99,Char.ofNat 116,Char.ofNat 83,Char.ofNat 104,Char.ofNat 97,Char.ofNat 112,Char.ofNat 101,Char.ofNat 83,Char.ofNat 116,Char.ofNat 97,Char.ofNat 114,Char.ofNat 116]]
theorem enter:Try.prog.mayEnter=true:=qF (L:=ja) (W:=kC) lT (by kernel_rfl) (c:= [Char.ofNat 99,Char.ofNat 117,Char.ofNat 116]) (rest:=kD) (by kernel_rfl) (by kernel_rfl) (by kernel_rfl) (by kernel_rfl) (by kernel_rfl) (by kernel_rfl)
theorem make:Try.prog.make=some .cut:=rE (L:=ja) (W:=kC) lT (by kernel_rfl) (c:= [Char.ofNat 99,Char.ofNat 117,Char.ofNat 116]) (rest:=kD) (by kernel_rfl) (by kernel_rfl)
theorem lifts:Try.prog.liftsFinal=false:=qG (L:=ja) (W:=kC) lT (by kernel_rfl) (c:= [Char.ofNat 99,Char.ofNat 117,Char.ofNat 116]) (rest:=kD) (by kernel_rfl) (by kernel_rfl) (by kernel_rfl)
end Go.Proofs.Yteinbmkgenhocaa
end
section
namespace Go.Proofs.Yteinbmkgenhocaa.P
set_option linter.unusedVariables false
open Go Go.RowKit Go.Proofs.YteinbmkgenhocaaW.PrintWords Go.Proofs.YteinbmkgenhocaaW.PrintLast Go.Proofs.YteinbmkgenhocaaW.PrintMore
theorem bl {w W:World} (h:Below w.heap.size w W:=by repeat(first|(with_reducible first|exact Aside0.out (by assumption)|apply bJ|apply bG|apply aW|refine bn ?_ (Aside0.out (by assumption)))|exact Aside0.out (by assumption))):Below w.heap.size w W:=h
theorem cz {w:World} {g:Nat} {t:TypeId} {cs:Array Value} (h:w.heap[g]? =some (.cells cs t (0,0))) (i:Nat) {v:Value} (e:cs.toList[i]? =some v):w.cell? ⟨g,i,none⟩=some v:=(ae h i).trans (by rw[←Array.getElem?_toList];exact e)
theorem mV {w:World} {g:Nat} (h:g<w.heap.size) (o:Obj):g<(w.alloc o).heap.size:=Nat.lt_of_lt_of_le h (aK (bJ (Below.refl _ _) o))
theorem mW {w:World} {g:Nat} (h:g<w.heap.size) (n:Nat):g<(w.drewN n).heap.size:=h
theorem nV {w:World} {g:Nat} (h:g<w.heap.size):g<w.drew.heap.size:=h
theorem pO {w:World} {g:Nat} (h:g<w.heap.size) (p:Addr) (u:Value):g<(w.setCell p u).heap.size:=by simpa[World.setCell] using h
section
variable {w W W0 w1:World} {g g' :Nat} {o:Obj}
theorem kk (_:Aside0 (W0.heap[g]? =some o)) (h:W.heap[g]? =some o:=by(with_reducible repeat(first|refine ah ?_ _|refine af ?_|refine ag ?_ _));exact Aside0.out (by assumption)):Aside0 (W.heap[g]? =some o):=⟨h⟩
theorem kf (h:W.heap[g]? =some o:=by(repeat(first|(with_reducible first|refine ah ?_ _|refine af ?_|refine ag ?_ _)|refine fJ ?_ (Aside0.out (by assumption)) _|apply bH));exact Aside0.out (by assumption);all_goals rfl):Aside0 (W.heap[g]? =some o):=⟨h⟩
theorem kb (_:Aside0 (W0.heap[g]? =some o)) (hb:Below W.heap.size W w1) (h:W.heap[g]? =some o:=by(with_reducible repeat(first|refine ah ?_ _|refine af ?_|refine ag ?_ _));exact Aside0.out (by assumption)):Aside0 (w1.heap[g]? =some o):=⟨d9 h hb⟩
theorem kq (_:Aside0 (W0.heap[g]? =some o)) (hb:Below W.heap.size W w1) (h:W.heap[g]? =some o:=by(repeat(first|(with_reducible first|refine ah ?_ _|refine af ?_|refine ag ?_ _)|refine fJ ?_ (Aside0.out (by assumption)) _));exact Aside0.out (by assumption)):Aside0 (w1.heap[g]? =some o):=⟨d9 h hb⟩
theorem kp (g:Nat) (cs:Array Value) (t:TypeId) (hb:Below W.heap.size W w1) (h:W.heap[g]? =some (.cells cs t (0,0)):=by(repeat(first|(with_reducible first|refine ah ?_ _|refine af ?_|refine ag ?_ _)|refine fJ ?_ (Aside0.out (by assumption)) _|apply bH));exact Aside0.out (by assumption);all_goals rfl):Aside0 (w1.heap[g]? =some (.cells cs t (0,0))):=⟨d9 h hb⟩
theorem hs (_:Aside0 (Below w.heap.size w W0)) (hb:Below W.heap.size W w1) (h:Below w.heap.size w W:=by repeat(first|(with_reducible first|exact Aside0.out (by assumption)|apply bJ|apply bG|apply aW|refine bn ?_ (Aside0.out (by assumption)))|exact Aside0.out (by assumption))):Aside0 (Below w.heap.size w w1):=⟨gH h hb⟩
theorem hz (_:Aside0 (Below w.heap.size w W0)) (hg:g=W.heap.size) (h:Below w.heap.size w W:=by repeat(first|(with_reducible first|exact Aside0.out (by assumption)|apply bJ|apply bG|apply aW|refine bn ?_ (Aside0.out (by assumption)))|exact Aside0.out (by assumption))):Aside0 (w.heap.size≤g):=⟨by rw[hg];exact aK h⟩
theorem nl (_:Aside0 (W0.heap[g]? =some o)) (hg:g' =W.heap.size) (h:g<W.heap.size:=by(with_reducible repeat(first|refine mW ?_ _|refine nV ?_|refine mV ?_ _|refine pO ?_ _ _));exact fu (Aside0.out (by assumption))):Aside0 (g≠g'):=⟨by rw[hg];exact Nat.ne_of_lt h⟩
theorem ng (_:Aside0 (W0.heap[g]? =some o)) (hg:g' =W.heap.size) (h:g<W.heap.size:=by(with_reducible repeat(first|refine mW ?_ _|refine nV ?_|refine mV ?_ _|refine pO ?_ _ _));exact fu (Aside0.out (by assumption))):Aside0 (g' ≠g):=⟨by rw[hg];exact Nat.ne_of_gt h⟩
theorem hc {a:Addr} {v:Value} (HB:Aside0 (Below w.heap.size w W)) (h:w.cell? a=some v):W.cell? a=some v:=(HB.out.cell (World.block_lt_of_cell? w _ h)).trans h
theorem fin {p:Prop} (h:p:=by first|rfl|(simp[aY,aZ]<;>rfl)|(simp[*,aY,aZ]<;>rfl)) (hb:Below w.heap.size w W:=by repeat(first|(with_reducible first|exact Aside0.out (by assumption)|apply bJ|apply bG|apply aW|refine bn ?_ (Aside0.out (by assumption)))|exact Aside0.out (by assumption))):p∧Below w.heap.size w W:=⟨h,hb⟩
theorem cb {α:Type} {d:Kd α} {A:Option Addr} {n:Nat} {xs:List α} (c:d.C w A n xs) (h:Below w.heap.size w W:=by repeat(first|(with_reducible first|exact Aside0.out (by assumption)|apply bJ|apply bG|apply aW|refine bn ?_ (Aside0.out (by assumption)))|exact Aside0.out (by assumption))):d.C W A n xs:=Kd.C_below c h
end
section
variable {P:Program} {ops:Array Oper} {rest:List Oper} {o:Oper} {a:Act} {Q:Exit→Act→World→Prop} {W:World}
theorem gd (N:Tmp) (_hN:o.dst=some N) (h:wpList P ops Q (o::rest) a W):wpList P ops Q (o::rest) a W:=h
theorem gc (f:FuncId) {ar:Array Operand} {ts:Array TypeId} (_ho:o.op= .call {callee:= .value (.func f),args:=ar,argTypes:=ts}) (h:wpList P ops Q (o::rest) a W):wpList P ops Q (o::rest) a W:=h
theorem bx (N:Tmp) (cs:Array Value) (t:TypeId)
    (h: ∀g,g=W.heap.size→∀w1,w1.heap[g]? =some (.cells cs t (0,0))→Below W.heap.size W w1→wpList P ops Q rest (a.put o.dst (.pointer (some ⟨g,0,none⟩))) w1)
    (hd:o.dst=some N:=by rfl) (hgd:o.guard=none:=by rfl)
    (hrun:(execOp a.eval o).run P W= .ok (.value (.pointer (some ⟨W.heap.size,0,none⟩))) (W.alloc (.cells cs t (0,0))):=by first|(go_simp;done)|(go_simp;rfl)):wpList P ops Q (o::rest) a W:=iy hgd hd hrun h
theorem gl {f:FuncId} {fn:Func} {ar:Array Operand} {ts:Array TypeId} (N:Option Tmp) (hf:P.funcs[f]? =some fn) (args:Array Value) (hop:o.op= .call {callee:= .value (.func f),args:=ar,argTypes:=ts})
    (h:Calls P f args W fun e w' => ∃v,e= .returned v∧wpList P ops Q rest (a.put N v) w') (hd:o.dst=N:=by rfl) (hg:o.guard=none:=by rfl) (hname:(fn.name== "runtime.NumGoroutine")=false:=by kernel_rfl) (hb:fn.body.isSome=true:=by rfl)
    (hargs:ar.map a.eval=args:=by(try simp only[List.map_toArray,List.map_cons,List.map_nil]);first|done|rfl|(simp only[List.length_drop,List.length_take];rfl)):wpList P ops Q (o::rest) a W:=gT N hd hg hf hname hb args hop hargs h
end
section
variable {P:Program} {md:Region.Mode} {ops:Array Oper} {Q:Exit→Act→World→Prop} {S:World→Prop} {ds:List Nat} {T:Bool×List (List Nat×List Nat)} {B:List Nat} {oi:Oper} {v:Value} {fuel:Nat} {l:Array Bool} {a a' :Act} {w:World}
theorem pu (i N:Nat) (l' :Array Bool) (hT:Aside0 (ed md ops=T)) (hi:ops[i]? =some oi) (hN:oi.dst=some N) (h:bN P md ops Q S ds fuel l' a' w) (hc:oC T l.toList l'.toList i=true:=by kernel_rfl) (hy:Yields P ops oi v a:=by(refine Or.inl ⟨by rfl, ?_⟩;intro w';go_simp;with_reducible rfl)) (ha:a.put (some N) v=a' :=by(simp only[Act.put,List.setIfInBounds_toArray,List.set_cons_zero,List.set_cons_succ,bT,bU];rfl)) (hQ: ∀c a w,Q (.panic c) (a.put oi.dst v) w→Q (.panic c) a w:=by exact fun _ _ _ h=>h):bN P md ops Q S ds (fuel+1) l a w:=ow l' hi hN (pG hT.out hc) hQ hy ha h
theorem pv (i N:Nat) (l' :Array Bool) (hT:Aside0 (ed md ops=T)) (hi:ops[i]? =some oi) (hN:oi.dst=some N) (h:bN P md ops Q S ds fuel l' a' w) (hc:oC T l.toList l'.toList i=true:=by kernel_rfl) (hy:Yields P ops oi undef a:=by exact Or.inr ⟨by rfl,rfl⟩) (ha:a.put (some N) undef=a' :=by(simp only[Act.put,List.setIfInBounds_toArray,List.set_cons_zero,List.set_cons_succ,bT,bU];rfl)) (hQ: ∀c a w,Q (.panic c) (a.put oi.dst undef) w→Q (.panic c) a w:=by exact fun _ _ _ h=>h):bN P md ops Q S ds (fuel+1) l a w:=ow l' hi hN (pG hT.out hc) hQ hy ha h
theorem ta (i N:Nat) (l' :Array Bool) (hT:Aside0 (ed md ops=T)) (hW:Aside0 (eP T.2 B=true)) (hS:S w) (hi:ops[i]? =some oi) (hN:oi.dst=some N) (h:bN P md ops Q S ds fuel l' a' w) (hc:oF T B ds l.toList l'.toList i=true:=by kernel_rfl) (hy:YieldsIf P ops S oi v a:=by(refine Or.inl ⟨by rfl, ?_⟩;intro w' hs;(repeat(have hs1:=hs.1;replace hs:=hs.2));go_simp;with_reducible rfl)) (ha:a.put (some N) v=a' :=by(simp only[Act.put,List.setIfInBounds_toArray,List.set_cons_zero,List.set_cons_succ,bT,bU];rfl)) (hQ: ∀c a w,Q (.panic c) (a.put oi.dst v) w→Q (.panic c) a w:=by exact fun _ _ _ h=>h):bN P md ops Q S ds (fuel+1) l a w:=take_ l' hi hN (qy hT.out hW.out hc) hQ hy hS ha h
theorem no (N:Nat) (h:bN P md ops Q S ds fuel l a' w) (ha:a.put (some N) v=a' :=by(simp only[Act.put,List.setIfInBounds_toArray,List.set_cons_zero,List.set_cons_succ,bT,bU];rfl)):bN P md ops Q S ds fuel l (a.put (some N) v) w:=sV ha h
theorem gs {K:Act→World→Prop} {N:Option Tmp} {f:FuncId} {fn:Func} {ar:Array Operand} {ts:Array TypeId} (hf:P.funcs[f]? =some fn) (args:Array Value) (hN:oi.dst=N) (hop:oi.op= .call {callee:= .value (.func f),args:=ar,argTypes:=ts})
    (h:Calls P f args w fun e w' => ∃v,e= .returned v∧K (a.put N v) w') (hname:(fn.name== "runtime.NumGoroutine")=false:=by kernel_rfl) (hb:fn.body.isSome=true:=by rfl) (hw:Region.wanted oi (yielded ops a.tmps)=true:=by rfl)
    (hargs:ar.map a.eval=args:=by(try simp only[List.map_toArray,List.map_cons,List.map_nil]);first|done|rfl|(simp only[List.length_drop,List.length_take];rfl)):if Region.wanted oi (yielded ops a.tmps)=true then Oper.wp P oi a w K Q else K (a.put N undef) w:=sW hf hname hb args hw hN hop hargs h
end
section
variable {α β:Type} {A B x:α}
theorem it {h:Decidable (true=true)} (H: @ite α (true=true) h A B=x):A=x:=(if_pos rfl).symm.trans H
theorem ie {h:Decidable (false=true)} (H: @ite α (false=true) h A B=x):B=x:=(if_neg (by simp)).symm.trans H
theorem ob {o:Option α} {f:α→Option β} {r:β} (H:o.bind f=some r): ∃a,Aside0 (o=some a)∧f a=some r:=(Option.bind_eq_some_iff.mp H).imp fun _ h=>⟨⟨h.1⟩,h.2⟩
end
theorem od {p:Prop} [Decidable p] (h:decide p=true:=by first|(with_reducible assumption)|assumption):p:=of_decide_eq_true h
theorem hc2 {w W:World} {a0 a1:Addr} {v0 v1:Value} (HB:Aside0 (Below w.heap.size w W)) (h0:w.cell? a0=some v0) (h1:w.cell? a1=some v1):W.cell? a0=some v0∧W.cell? a1=some v1:=⟨hc HB h0,hc HB h1⟩
theorem hc3 {w W:World} {a0 a1 a2:Addr} {v0 v1 v2:Value} (HB:Aside0 (Below w.heap.size w W)) (h0:w.cell? a0=some v0) (h1:w.cell? a1=some v1) (h2:w.cell? a2=some v2):W.cell? a0=some v0∧W.cell? a1=some v1∧W.cell? a2=some v2:=⟨hc HB h0,hc HB h1,hc HB h2⟩
theorem hc4 {w W:World} {a0 a1 a2 a3:Addr} {v0 v1 v2 v3:Value} (HB:Aside0 (Below w.heap.size w W)) (h0:w.cell? a0=some v0) (h1:w.cell? a1=some v1) (h2:w.cell? a2=some v2) (h3:w.cell? a3=some v3):W.cell? a0=some v0∧W.cell? a1=some v1∧W.cell? a2=some v2∧W.cell? a3=some v3:=⟨hc HB h0,hc HB h1,hc HB h2,hc HB h3⟩
theorem hc6 {w W:World} {a0 a1 a2 a3 a4 a5:Addr} {v0 v1 v2 v3 v4 v5:Value} (HB:Aside0 (Below w.heap.size w W)) (h0:w.cell? a0=some v0) (h1:w.cell? a1=some v1) (h2:w.cell? a2=some v2) (h3:w.cell? a3=some v3) (h4:w.cell? a4=some v4) (h5:w.cell? a5=some v5):W.cell? a0=some v0∧W.cell? a1=some v1∧W.cell? a2=some v2∧W.cell? a3=some v3∧W.cell? a4=some v4∧W.cell? a5=some v5:=⟨hc HB h0,hc HB h1,hc HB h2,hc HB h3,hc HB h4,hc HB h5⟩
theorem fw8 {W:World} {a0 a1 a2 a3 a4 a5 a6 a7:Addr} {v0 v1 v2 v3 v4 v5 v6 v7:Value} (p:Addr) (u:Value) (h0:W.cell? a0=some v0) (h1:W.cell? a1=some v1) (h2:W.cell? a2=some v2) (h3:W.cell? a3=some v3) (h4:W.cell? a4=some v4) (h5:W.cell? a5=some v5) (h6:W.cell? a6=some v6) (h7:W.cell? a7=some v7) (e0:a0.block≠p.block:=by first|(rw[add_block];assumption)|(show(Addr.add _ _).block≠_;rw[add_block];assumption)|assumption) (e1:a1.block≠p.block:=by first|(rw[add_block];assumption)|(show(Addr.add _ _).block≠_;rw[add_block];assumption)|assumption) (e2:a2.block≠p.block:=by first|(rw[add_block];assumption)|(show(Addr.add _ _).block≠_;rw[add_block];assumption)|assumption) (e3:a3.block≠p.block:=by first|(rw[add_block];assumption)|(show(Addr.add _ _).block≠_;rw[add_block];assumption)|assumption) (e4:a4.block≠p.block:=by first|(rw[add_block];assumption)|(show(Addr.add _ _).block≠_;rw[add_block];assumption)|assumption) (e5:a5.block≠p.block:=by first|(rw[add_block];assumption)|(show(Addr.add _ _).block≠_;rw[add_block];assumption)|assumption) (e6:a6.block≠p.block:=by first|(rw[add_block];assumption)|(show(Addr.add _ _).block≠_;rw[add_block];assumption)|assumption) (e7:a7.block≠p.block:=by first|(rw[add_block];assumption)|(show(Addr.add _ _).block≠_;rw[add_block];assumption)|assumption):(W.setCell p u).cell? a0=some v0∧(W.setCell p u).cell? a1=some v1∧(W.setCell p u).cell? a2=some v2∧(W.setCell p u).cell? a3=some v3∧(W.setCell p u).cell? a4=some v4∧(W.setCell p u).cell? a5=some v5∧(W.setCell p u).cell? a6=some v6∧(W.setCell p u).cell? a7=some v7:=⟨(cell_far e0 u).trans h0,(cell_far e1 u).trans h1,(cell_far e2 u).trans h2,(cell_far e3 u).trans h3,(cell_far e4 u).trans h4,(cell_far e5 u).trans h5,(cell_far e6 u).trans h6,(cell_far e7 u).trans h7⟩
theorem hc8 {w W:World} {a0 a1 a2 a3 a4 a5 a6 a7:Addr} {v0 v1 v2 v3 v4 v5 v6 v7:Value} (HB:Aside0 (Below w.heap.size w W)) (h0:w.cell? a0=some v0) (h1:w.cell? a1=some v1) (h2:w.cell? a2=some v2) (h3:w.cell? a3=some v3) (h4:w.cell? a4=some v4) (h5:w.cell? a5=some v5) (h6:w.cell? a6=some v6) (h7:w.cell? a7=some v7):W.cell? a0=some v0∧W.cell? a1=some v1∧W.cell? a2=some v2∧W.cell? a3=some v3∧W.cell? a4=some v4∧W.cell? a5=some v5∧W.cell? a6=some v6∧W.cell? a7=some v7:=⟨hc HB h0,hc HB h1,hc HB h2,hc HB h3,hc HB h4,hc HB h5,hc HB h6,hc HB h7⟩
theorem cf2 {w:World} {g:Nat} {t:TypeId} {v0 v1:Value} (h:Aside0 (w.heap[g]? =some (.cells #[v0,v1] t (0,0)))):w.cell? ⟨g,0,none⟩=some v0∧w.cell? ⟨g,1,none⟩=some v1∧w.frozen? ⟨g,0,none⟩=false∧w.frozen? ⟨g,1,none⟩=false:=⟨cz h.out 0 rfl,cz h.out 1 rfl,ay h.out 0,ay h.out 1⟩
theorem cf3 {w:World} {g:Nat} {t:TypeId} {v0 v1 v2:Value} (h:Aside0 (w.heap[g]? =some (.cells #[v0,v1,v2] t (0,0)))):w.cell? ⟨g,0,none⟩=some v0∧w.cell? ⟨g,1,none⟩=some v1∧w.cell? ⟨g,2,none⟩=some v2∧w.frozen? ⟨g,0,none⟩=false∧w.frozen? ⟨g,1,none⟩=false∧w.frozen? ⟨g,2,none⟩=false:=⟨cz h.out 0 rfl,cz h.out 1 rfl,cz h.out 2 rfl,ay h.out 0,ay h.out 1,ay h.out 2⟩
theorem cf4 {w:World} {g:Nat} {t:TypeId} {v0 v1 v2 v3:Value} (h:Aside0 (w.heap[g]? =some (.cells #[v0,v1,v2,v3] t (0,0)))):w.cell? ⟨g,0,none⟩=some v0∧w.cell? ⟨g,1,none⟩=some v1∧w.cell? ⟨g,2,none⟩=some v2∧w.cell? ⟨g,3,none⟩=some v3∧w.frozen? ⟨g,0,none⟩=false∧w.frozen? ⟨g,1,none⟩=false∧w.frozen? ⟨g,2,none⟩=false∧w.frozen? ⟨g,3,none⟩=false:=⟨cz h.out 0 rfl,cz h.out 1 rfl,cz h.out 2 rfl,cz h.out 3 rfl,ay h.out 0,ay h.out 1,ay h.out 2,ay h.out 3⟩
theorem cf8 {w:World} {g:Nat} {t:TypeId} {v0 v1 v2 v3 v4 v5 v6 v7:Value} (h:Aside0 (w.heap[g]? =some (.cells #[v0,v1,v2,v3,v4,v5,v6,v7] t (0,0)))):w.cell? ⟨g,0,none⟩=some v0∧w.cell? ⟨g,1,none⟩=some v1∧w.cell? ⟨g,2,none⟩=some v2∧w.cell? ⟨g,3,none⟩=some v3∧w.cell? ⟨g,4,none⟩=some v4∧w.cell? ⟨g,5,none⟩=some v5∧w.cell? ⟨g,6,none⟩=some v6∧w.cell? ⟨g,7,none⟩=some v7∧w.frozen? ⟨g,0,none⟩=false∧w.frozen? ⟨g,1,none⟩=false∧w.frozen? ⟨g,2,none⟩=false∧w.frozen? ⟨g,3,none⟩=false∧w.frozen? ⟨g,4,none⟩=false∧w.frozen? ⟨g,5,none⟩=false∧w.frozen? ⟨g,6,none⟩=false∧w.frozen? ⟨g,7,none⟩=false:=⟨cz h.out 0 rfl,cz h.out 1 rfl,cz h.out 2 rfl,cz h.out 3 rfl,cz h.out 4 rfl,cz h.out 5 rfl,cz h.out 6 rfl,cz h.out 7 rfl,ay h.out 0,ay h.out 1,ay h.out 2,ay h.out 3,ay h.out 4,ay h.out 5,ay h.out 6,ay h.out 7⟩
end Go.Proofs.Yteinbmkgenhocaa.P
end
section
namespace Go.Proofs.Yteinbmkgenhocaa.P
open Go.RowKit Go.Proofs.YteinbmkgenhocaaW.PrintWords Go.Proofs.YteinbmkgenhocaaW.PrintLast Go.Proofs.YteinbmkgenhocaaW.PrintMore
attribute [local go_sem] ak au aA aC ai aj av ax
set_option linter.unusedVariables false
set_option linter.unusedSimpArgs false
def bR.l0:Nat→List Int→Int→Int→Option (Int×List Int)
  |0,_,_,_=>none
  |k+1,x0,x1,x5=>if x5<(x0.length:Int)then(if 0≤x5 then(bR.l0 k (x0.set (x5:Int).toNat x1) (wrap64 (x1+1)) (wrap64 (x5+1)))else(none))else(some (x1,x0))
def bR.f (k:Nat) (l0:List Int) (a1:Int):Option (Int×List Int):=bR.l0 k l0 a1 0
def gp.f (k:Nat) (e:Bool) (c:List Int) (d:List Int) (a1:Int):Option (Int×List Int×List Int):=(bR.f k c a1).bind fun a=>((bR.f k d a.1).bind fun b=>(some (b.1,a.2,b.2)))
def bO.l0:Nat→List Int→Int→Int→Option (Int)
  |0,_,_,_=>none
  |k+1,x0,x1,x5=>if x5<(x0.length:Int)then(if 0≤x5 then(if(rd x0 x5)=x1 then(bO.l0 k x0 (wrap64 (x1+1)) (wrap64 (x5+1)))else(some (-1)))else(none))else(some x1)
def bO.f (k:Nat) (l0:List Int) (a1:Int):Option (Int):=bO.l0 k l0 a1 0
def dJ.f (k:Nat) (e:Bool) (c:List Int) (d:List Int) (a1:Int):Option (Int):=(bO.f k c a1).bind fun a=>(if a<0 then(some (-1))else((bO.f k d a).bind fun b=>(if b<0 then(some (-1))else(some b))))
def bY.f (l0:List Int) (a1:Int):Option (Int):=if(wrap64 (a1 - (l0.length:Int)))<0 then(some (-1))else(some (wrap64 (a1 - (l0.length:Int))))
def gL.f (c:Int) (b:List Int) (a1:Int):Option (Int):=(bY.f b a1).bind fun a=>(if a<0 then(some (-1))else(some a))
def bZ.l0:Nat→List (S62)→Int→Int→Option (Int)
  |0,_,_,_=>none
  |k+1,x0,x1,x5=>if x5<(x0.length:Int)then(if 0≤x5 then((gL.f ((eB x0 x5).f0) ((eB x0 x5).f1) x1).bind fun a=>(if a<0 then(some (-1))else(bZ.l0 k x0 a (wrap64 (x5+1)))))else(none))else(some x1)
def bZ.f (k:Nat) (l0:List (S62)) (a1:Int):Option (Int):=if(wrap64 (a1 - (l0.length:Int)))<0 then(some (-1))else(bZ.l0 k l0 (wrap64 (a1 - (l0.length:Int))) 0)
def fE.f (l0:List (S112)) (a1:Int):Option (Int):=if(wrap64 (a1 - (l0.length:Int)))<0 then(some (-1))else(some (wrap64 (a1 - (l0.length:Int))))
def gu.f (d:Bool) (b:List Int) (c:List Int) (a1:Int):Option (Int):=(bY.f b a1).bind fun a=>(if a<0 then(some (-1))else((bY.f c a).bind fun t107=>(if t107<0 then(some (-1))else(some t107))))
def cZ.l0:Nat→List (S108)→Int→Int→Option (Int)
  |0,_,_,_=>none
  |k+1,x0,x1,x5=>if x5<(x0.length:Int)then(if 0≤x5 then((gu.f ((dn x0 x5).f0) ((dn x0 x5).f1) ((dn x0 x5).f2) x1).bind fun t109=>(if t109<0 then(some (-1))else(cZ.l0 k x0 t109 (wrap64 (x5+1)))))else(none))else(some x1)
def cZ.f (k:Nat) (l0:List (S108)) (a1:Int):Option (Int):=if(wrap64 (a1 - (l0.length:Int)))<0 then(some (-1))else(cZ.l0 k l0 (wrap64 (a1 - (l0.length:Int))) 0)
def fO.f (l0:List (S115)) (a1:Int):Option (Int):=if(wrap64 (a1 - (l0.length:Int)))<0 then(some (-1))else(some (wrap64 (a1 - (l0.length:Int))))
def fP.f (k:Nat) (j:Int) (l:Int) (e:List Int) (m:Int) (n:Int) (g:List (S112)) (h:List (S108)) (i:List (S115)) (a1:Int):Option (Int):=(bY.f e a1).bind fun a=>(if a<0 then(some (-1))else((fE.f g a).bind fun b=>(if b<0 then(some (-1))else((cZ.f k h b).bind fun c=>(if c<0 then(some (-1))else((fO.f i c).bind fun d=>(if d<0 then(some (-1))else(some d))))))))
def cK.l0:Nat→List (S68)→Int→Int→Option (Int)
  |0,_,_,_=>none
  |k+1,x0,x1,x5=>if x5<(x0.length:Int)then(if 0≤x5 then((fP.f k ((aX x0 x5).f0) ((aX x0 x5).f1) ((aX x0 x5).f2) ((aX x0 x5).f3) ((aX x0 x5).f4) ((aX x0 x5).f5) ((aX x0 x5).f6) ((aX x0 x5).f7) x1).bind fun t116=>(if t116<0 then(some (-1))else(cK.l0 k x0 t116 (wrap64 (x5+1)))))else(none))else(some x1)
def cK.f (k:Nat) (l0:List (S68)) (a1:Int):Option (Int):=if(wrap64 (a1 - (l0.length:Int)))<0 then(some (-1))else(cK.l0 k l0 (wrap64 (a1 - (l0.length:Int))) 0)
def gm.f (k:Nat) (b:List (S62)) (c:List (S68)) (a1:Int):Option (Int):=(bZ.f k b a1).bind fun a=>(if a<0 then(some (-1))else((cK.f k c a).bind fun t119=>(if t119<0 then(some (-1))else(some t119))))
def aH.f (a0:Int) (a1:Int) (a2:Int):Option (Bool):=if a0≥a1 then(some (decide (a0≤a2)))else(some false)
def bQ.f (l0:List (S71)) (a1:Int):Option (Bool):=if a1=1 then(some true)else(if a1=3 then(some true)else(if a1=4 then(some true)else((aH.f a1 8 (wrap64 ((wrap64 (8+(l0.length:Int))) - 1))).bind fun a=>(some a))))
def dF.l0:Nat→List (S71)→Int→Int→Int→List Int→Option (Bool)
  |0,_,_,_,_,_=>none
  |k+1,x0,x1,x6,b,a=>if x6<(a.length:Int)then(if 0≤x6 then((bQ.f x0 (rd a x6)).bind fun t124=>(if t124=true then(dF.l0 k x0 x1 (wrap64 (x6+1)) b a)else(some false)))else(none))else(if x1=0 then(if b=(-1)then(some ((a.length:Int)==0))else(some false))else(if x1=1 then(if b=0 then(if(a.length:Int)=1 then(if 0<(a.length:Int)then(some ((rd a 0)==1))else(none))else(some false))else(some false))else((aH.f b 0 (wrap64 (x1 - 1))).bind fun c=>(if c=true then(some (decide ((a.length:Int)≤2)))else(some false)))))
def dF.f (k:Nat) (l0:List (S71)) (a1:Int):Option (Bool):=if 0≤a1 then(if a1<(l0.length:Int)then(dF.l0 k l0 a1 0 ((aD l0 a1).f0) ((aD l0 a1).f1))else(none))else(none)
def bv.l0:Nat→List (S71)→Int→Option (Bool)
  |0,_,_=>none
  |k+1,x0,x3=>if x3<(x0.length:Int)then((dF.f k x0 x3).bind fun a=>(if a=true then(bv.l0 k x0 (wrap64 (x3+1)))else(some false)))else(some true)
def bv.f (k:Nat) (l0:List (S71)):Option (Bool):=(aH.f (l0.length:Int) 2 5).bind fun t127=>(if t127=true then(bv.l0 k l0 0)else(some false))
mutual
def bf.j0:Nat→Int→List (S71)→List (S50)→Int→Int→List Int→Int→Int→List (S97)→List (S29)→List (S102)→Option (Bool)
  |0,_,_,_,_,_,_,_,_,_,_,_=>none
  |k+1,x5,a,g,b,h,c,d,e,i,j,l=>if b=0 then(bf.j1 k true a g b h c d e i j l)else((aH.f b (-1) (wrap64 ((a.length:Int) - 1))).bind fun t131=>(if t131=true then(if(c.length:Int)>2 then(bf.j1 k true a g b h c d e i j l)else((bQ.f a d).bind fun m=>(if m=true then((aH.f e (wrap64 (x5+(c.length:Int))) 3).bind fun n=>(bf.j1 k (!n) a g b h c d e i j l))else(bf.j1 k true a g b h c d e i j l))))else(bf.j1 k true a g b h c d e i j l)))
def bf.j1:Nat→Bool→List (S71)→List (S50)→Int→Int→List Int→Int→Int→List (S97)→List (S29)→List (S102)→Option (Bool)
  |0,_,_,_,_,_,_,_,_,_,_,_=>none
  |k+1,m,a,b,c,d,e,g,h,i,j,l=>if m=true then(some false)else(bf.l0 k 0 a b c d e g h i j l)
def bf.l0:Nat→Int→List (S71)→List (S50)→Int→Int→List Int→Int→Int→List (S97)→List (S29)→List (S102)→Option (Bool)
  |0,_,_,_,_,_,_,_,_,_,_,_=>none
  |k+1,x6,d,e,a,b,c,g,h,i,j,l=>if x6<(c.length:Int)then(if 0≤x6 then((bQ.f d (rd c x6)).bind fun m=>(if m=true then(bf.l0 k (wrap64 (x6+1)) d e a b c g h i j l)else(some false)))else(none))else(if a≥0 then((aH.f b 0 2).bind fun n=>(if n=true then(some true)else(if a<0 then(some (b==0))else(some false))))else(if a<0 then(some (b==0))else(some false)))
end
def bf.f (k:Nat) (b:List (S71)) (c:List (S50)) (a:Int) (d:Int) (e:List Int) (g:Int) (h:Int) (i:List (S97)) (j:List (S29)) (l:List (S102)):Option (Bool):=if a≥0 then(bf.j0 k 1 b c a d e g h i j l)else(bf.j0 k 0 b c a d e g h i j l)
def gJ.f (a0:Int):Option (Bool):=(aH.f a0 (-128) 127).bind fun a=>(some a)
def df.f:Nat→List (S71)→Int→Option (List Int)
  |0,_,_=>none
  |k+1,l0,a1=>if a1=0 then(some (([]:List Int)))else(if 0≤a1 then(if a1<(l0.length:Int)then((df.f k l0 ((aD l0 a1).f0)).bind fun a=>(if a.length+((aD l0 a1).f1).length<17592186044416 then(some (a++((aD l0 a1).f1)))else(none)))else(none))else(none))
mutual
def aI.j0:Nat→Bool→Int→Bool→List (S71)→List (S50)→Int→Int→List Int→Int→Int→List (S97)→List (S29)→List (S102)→Int→Int→Int→Option (Bool)
  |0,_,_,_,_,_,_,_,_,_,_,_,_,_,_,_,_=>none
  |k+1,x7,p,x27,c,d,e,g,h,i,j,l,m,n,o,a,b=>if x27=true then(if a=0 then(some (b==0))else(some false))else(if p=3 then(aI.j1 k x7 p (p==3) c d e g h i j l m n o a b)else(aI.j1 k x7 p (p==4) c d e g h i j l m n o a b))
def aI.j1:Nat→Bool→Int→Bool→List (S71)→List (S50)→Int→Int→List Int→Int→Int→List (S97)→List (S29)→List (S102)→Int→Int→Int→Option (Bool)
  |0,_,_,_,_,_,_,_,_,_,_,_,_,_,_,_,_=>none
  |k+1,x7,d,x43,e,g,h,i,j,l,c,m,n,o,p,a,b=>if x43=true then((aH.f a 0 (wrap64 (c - 1))).bind fun t154=>(if t154=true then(some (b==0))else(some false)))else(if d=7 then((aH.f a 1 4).bind fun q=>(if q=true then(some (b==0))else(some false)))else(if d=8 then(aI.j2 k x7 d (d==8) e g h i j l c m n o p a b)else(if d=9 then(aI.j2 k x7 d (d==9) e g h i j l c m n o p a b)else(if d=10 then(aI.j2 k x7 d (d==10) e g h i j l c m n o p a b)else(aI.j2 k x7 d (d==11) e g h i j l c m n o p a b)))))
def aI.j2:Nat→Bool→Int→Bool→List (S71)→List (S50)→Int→Int→List Int→Int→Int→List (S97)→List (S29)→List (S102)→Int→Int→Int→Option (Bool)
  |0,_,_,_,_,_,_,_,_,_,_,_,_,_,_,_,_=>none
  |k+1,x7,g,q,c,d,i,j,l,m,n,h,o,p,e,a,b=>if q=true then((aH.f a 0 (wrap64 ((h.length:Int) - 1))).bind fun t156=>(if t156=true then(some (b==0))else(some false)))else(if g=12 then(aI.j3 k x7 g (g==12) c d e a b)else(aI.j3 k x7 g (g==19) c d e a b))
def aI.j3:Nat→Bool→Int→Bool→List (S71)→List (S50)→Int→Int→Int→Option (Bool)
  |0,_,_,_,_,_,_,_,_=>none
  |k+1,x7,g,x84,b,c,d,e,a=>if x84=true then(if x7=true then(some (a==0))else(some false))else(if g=13 then(aI.j4 k x7 g (g==13) b c d e a)else(if g=15 then(aI.j4 k x7 g (g==15) b c d e a)else(aI.j4 k x7 g (g==16) b c d e a)))
def aI.j4:Nat→Bool→Int→Bool→List (S71)→List (S50)→Int→Int→Int→Option (Bool)
  |0,_,_,_,_,_,_,_,_=>none
  |k+1,x7,g,x93,c,d,e,a,b=>if x93=true then((aH.f a 0 1).bind fun t157=>(if t157=true then(some (b==0))else(some false)))else(if g=17 then(aI.j5 k x7 g (g==17) c d e a b)else(aI.j5 k x7 g (g==18) c d e a b))
def aI.j5:Nat→Bool→Int→Bool→List (S71)→List (S50)→Int→Int→Int→Option (Bool)
  |0,_,_,_,_,_,_,_,_=>none
  |k+1,x7,e,x105,d,b,i,a,c=>if x105=true then(if x7=true then((df.f k d a).bind fun g=>((aH.f c 0 (wrap64 ((g.length:Int) - 1))).bind fun h=>(some h)))else(some false))else(if e=20 then((aH.f a 0 (wrap64 ((b.length:Int) - 1))).bind fun t162=>(if t162=true then(if c=0 then(if 0≤a then(if a<(b.length:Int)then(some (((aa b a).f0)==(-1)))else(none))else(none))else(some false))else(some false)))else(if e=21 then(if x7=true then((aH.f c 0 2).bind fun t164=>(some t164))else(some false))else(some false)))
end
def aI.f (k:Nat) (c:List (S71)) (e:List (S50)) (g:Int) (h:Int) (i:List Int) (j:Int) (l:Int) (m:List (S97)) (n:List (S29)) (o:List (S102)) (a:Int) (b:Int) (d:Int):Option (Bool):=(aH.f b 0 (wrap64 ((c.length:Int) - 1))).bind fun t152=>(if a=1 then((gJ.f b).bind fun p=>(if p=true then(some (d==0))else(some false)))else(if a=2 then(aI.j0 k t152 a (a==2) c e g h i j l m n o a b d)else(if a=5 then(aI.j0 k t152 a (a==5) c e g h i j l m n o a b d)else(if a=6 then(aI.j0 k t152 a (a==6) c e g h i j l m n o a b d)else(if a=14 then(aI.j0 k t152 a (a==14) c e g h i j l m n o a b d)else(if a=22 then(aI.j0 k t152 a (a==22) c e g h i j l m n o a b d)else(if a=23 then(aI.j0 k t152 a (a==23) c e g h i j l m n o a b d)else(aI.j0 k t152 a (a==24) c e g h i j l m n o a b d))))))))
def eO.f (k:Nat) (l0:List (S71)) (a1:Int):Option (Bool):=(bv.f k l0).bind fun a=>(if a=true then(if a1=0 then(some true)else(if a1=2 then(some true)else((bQ.f l0 a1).bind fun b=>(some b))))else(some false))
mutual
def bq.j0:Nat→List (S71)→Bool→Bool→List Int→List Int→Option (Bool)
  |0,_,_,_,_,_=>none
  |k+1,x0,d,a,b,c=>if d=true then(some false)else(bq.l0 k x0 0 a b c)
def bq.l0:Nat→List (S71)→Int→Bool→List Int→List Int→Option (Bool)
  |0,_,_,_,_,_=>none
  |k+1,x0,x7,b,a,c=>if x7<(a.length:Int)then(if 0≤x7 then((eO.f k x0 (rd a x7)).bind fun d=>(if d=true then(bq.l0 k x0 (wrap64 (x7+1)) b a c)else(some false)))else(none))else(bq.l1 k x0 0 b a c)
def bq.l1:Nat→List (S71)→Int→Bool→List Int→List Int→Option (Bool)
  |0,_,_,_,_,_=>none
  |k+1,x0,x8,b,c,a=>if x8<(a.length:Int)then(if 0≤x8 then((eO.f k x0 (rd a x8)).bind fun d=>(if d=true then(if(rd a x8)=0 then(some false)else(bq.l1 k x0 (wrap64 (x8+1)) b c a))else(some false)))else(none))else(some true)
end
def bq.f (k:Nat) (l0:List (S71)) (a1:Int) (c:Bool) (a:List Int) (b:List Int):Option (Bool):=(bv.f k l0).bind fun t168=>(if t168=true then(if c=true then(if(a.length:Int)=a1 then(bq.j0 k l0 (decide ((b.length:Int)>4)) c a b)else(bq.j0 k l0 true c a b))else(if(a.length:Int)=0 then(some ((b.length:Int)==0))else(some false)))else(some false))
def dN.l0:Nat→List (S71)→Int→Int→Option (Bool)
  |0,_,_,_=>none
  |k+1,x0,x1,x2=>if x1>x2 then(if 0≤x1 then(if x1<(x0.length:Int)then(dN.l0 k x0 ((aD x0 x1).f0) x2)else(none))else(none))else(some (x1==x2))
def dN.f (k:Nat) (l0:List (S71)) (a1:Int) (a2:Int):Option (Bool):=dN.l0 k l0 a1 a2
def gy.f (k:Nat) (b:List (S71)) (m:List (S50)) (n:Int) (o:Int) (p:List Int) (q:Int) (r:Int) (a:List (S97)) (s:List (S29)) (t:List (S102)) (c:Int) (e:Int) (g:Int) (d:Int):Option (Bool):=(aH.f c 0 (wrap64 ((a.length:Int) - 1))).bind fun h=>(if h=true then((aH.f e (wrap64 (c+1)) (a.length:Int)).bind fun i=>(if i=true then((aH.f g 0 (wrap64 ((a.length:Int) - 1))).bind fun j=>(if j=true then((aH.f d 0 (wrap64 ((b.length:Int) - 1))).bind fun l=>(if l=true then((dN.f k b d 1).bind fun t182=>(some t182))else(some false)))else(some false)))else(some false)))else(some false))
mutual
def aJ.j0:Nat→Bool→List (S71)→List (S50)→Int→Int→List Int→Int→Int→List (S97)→List (S29)→List (S102)→Option (Bool)
  |0,_,_,_,_,_,_,_,_,_,_,_=>none
  |k+1,x32,a,b,c,d,e,g,h,i,j,l=>if x32=true then(some false)else(aJ.l0 k 0 a b c d e g h i j l)
def aJ.l0:Nat→Int→List (S71)→List (S50)→Int→Int→List Int→Int→Int→List (S97)→List (S29)→List (S102)→Option (Bool)
  |0,_,_,_,_,_,_,_,_,_,_,_=>none
  |k+1,x5,c,e,g,h,i,j,d,a,b,l=>if x5<(a.length:Int)then(if 0≤x5 then((aI.f k c e g h i j d a b l ((aM a x5).f0) ((aM a x5).f1) ((aM a x5).f2)).bind fun m=>(if m=true then(if x5<(b.length:Int)then((bq.f k c d ((aQ b x5).f0) ((aQ b x5).f1) ((aQ b x5).f2)).bind fun n=>(if n=true then(aJ.l0 k (wrap64 (x5+1)) c e g h i j d a b l)else(some false)))else(none))else(some false)))else(none))else(aJ.l1 k 0 c e g h i j d a b l)
def aJ.l1:Nat→Int→List (S71)→List (S50)→Int→Int→List Int→Int→Int→List (S97)→List (S29)→List (S102)→Option (Bool)
  |0,_,_,_,_,_,_,_,_,_,_,_=>none
  |k+1,x6,b,c,d,e,g,h,i,j,l,a=>if x6<(a.length:Int)then(if 0≤x6 then((gy.f k b c d e g h i j l a ((az a x6).f0) ((az a x6).f1) ((az a x6).f2) ((az a x6).f3)).bind fun m=>(if m=true then(aJ.l1 k (wrap64 (x6+1)) b c d e g h i j l a)else(some false)))else(none))else(some true)
end
def aJ.f (k:Nat) (d:List (S71)) (e:List (S50)) (g:Int) (h:Int) (i:List Int) (j:Int) (l:Int) (a:List (S97)) (b:List (S29)) (c:List (S102)):Option (Bool):=(bf.f k d e g h i j l a b c).bind fun m=>(if m=true then((aH.f (a.length:Int) 1 12).bind fun n=>(if n=true then(if(b.length:Int)=(a.length:Int)then(aJ.j0 k (decide ((c.length:Int)>2)) d e g h i j l a b c)else(aJ.j0 k true d e g h i j l a b c))else(aJ.j0 k true d e g h i j l a b c)))else(aJ.j0 k true d e g h i j l a b c))
mutual
def bP.j0:Nat→Bool→Int→Int→List Int→Int→Int→List (S97)→List (S29)→List (S102)→Int→Int→List Int→Int→Int→List (S97)→List (S29)→List (S102)→Option (Bool)
  |0,_,_,_,_,_,_,_,_,_,_,_,_,_,_,_,_,_=>none
  |k+1,s,a,b,c,d,e,g,h,i,j,l,m,n,o,p,q,r=>if s=true then(some false)else(bP.l0 k 0 a b c d e g h i j l m n o p q r)
def bP.l0:Nat→Int→Int→Int→List Int→Int→Int→List (S97)→List (S29)→List (S102)→Int→Int→List Int→Int→Int→List (S97)→List (S29)→List (S102)→Option (Bool)
  |0,_,_,_,_,_,_,_,_,_,_,_,_,_,_,_,_,_=>none
  |k+1,x5,c,d,a,e,g,h,i,j,l,m,b,n,o,p,q,r=>if x5<(a.length:Int)then(if 0≤x5 then(if x5<(b.length:Int)then(if(rd a x5)=(rd b x5)then(bP.l0 k (wrap64 (x5+1)) c d a e g h i j l m b n o p q r)else(some false))else(none))else(none))else(some true)
end
def bP.f (k:Nat) (e:Int) (g:Int) (a:List Int) (b:Int) (h:Int) (i:List (S97)) (j:List (S29)) (l:List (S102)) (m:Int) (n:Int) (c:List Int) (d:Int) (o:Int) (p:List (S97)) (q:List (S29)) (r:List (S102)):Option (Bool):=if b=d then(bP.j0 k ((a.length:Int) !=(c.length:Int)) e g a b h i j l m n c d o p q r)else(bP.j0 k true e g a b h i j l m n c d o p q r)
mutual
def bF.l0:Nat→Int→List (S71)→List (S50)→Option (Bool)
  |0,_,_,_=>none
  |k+1,x3,b,a=>if x3<(a.length:Int)then(bF.l1 k x3 0 b a)else(some true)
def bF.l1:Nat→Int→Int→List (S71)→List (S50)→Option (Bool)
  |0,_,_,_,_=>none
  |k+1,x3,x4,b,a=>if x4<(a.length:Int)then(if 0≤x3 then(if x3<(a.length:Int)then(if 0≤x4 then(if x3=x4 then(bF.l1 k x3 (wrap64 (x4+1)) b a)else(if((aa a x3).f0)≥0 then(if((aa a x4).f0)≥0 then(if((aa a x3).f1)=((aa a x4).f1)then((dN.f k b ((aa a x3).f0) ((aa a x4).f0)).bind fun c=>(if c=true then(if((aa a x3).f0)=((aa a x4).f0)then(some false)else((bP.f k ((aa a x3).f0) ((aa a x3).f1) ((aa a x3).f2) ((aa a x3).f3) ((aa a x3).f4) ((aa a x3).f5) ((aa a x3).f6) ((aa a x3).f7) ((aa a x4).f0) ((aa a x4).f1) ((aa a x4).f2) ((aa a x4).f3) ((aa a x4).f4) ((aa a x4).f5) ((aa a x4).f6) ((aa a x4).f7)).bind fun t203=>(if t203=true then(bF.l1 k x3 (wrap64 (x4+1)) b a)else(some false))))else(bF.l1 k x3 (wrap64 (x4+1)) b a)))else(bF.l1 k x3 (wrap64 (x4+1)) b a))else(bF.l1 k x3 (wrap64 (x4+1)) b a))else(bF.l1 k x3 (wrap64 (x4+1)) b a)))else(none))else(none))else(none))else(bF.l0 k (wrap64 (x3+1)) b a)
end
def bF.f (k:Nat) (a:List (S71)) (b:List (S50)):Option (Bool):=bF.l0 k 0 a b
mutual
def aT.j0:Nat→Bool→List (S71)→List (S50)→Option (Bool)
  |0,_,_,_=>none
  |k+1,c,b,a=>if c=true then(some false)else(if 0<(a.length:Int)then(if((aa a 0).f0)=(-1)then(if(((aa a 0).f2).length:Int)>0 then(aT.j1 k true b a)else(aT.j1 k (((aa a 0).f3) !=1) b a))else(aT.j1 k true b a))else(none))
def aT.j1:Nat→Bool→List (S71)→List (S50)→Option (Bool)
  |0,_,_,_=>none
  |k+1,c,a,b=>if c=true then(some false)else(aT.l0 k 0 a b)
def aT.l0:Nat→Int→List (S71)→List (S50)→Option (Bool)
  |0,_,_,_=>none
  |k+1,x3,b,a=>if x3<(a.length:Int)then(if 0≤x3 then((aJ.f k b a ((aa a x3).f0) ((aa a x3).f1) ((aa a x3).f2) ((aa a x3).f3) ((aa a x3).f4) ((aa a x3).f5) ((aa a x3).f6) ((aa a x3).f7)).bind fun c=>(if c=true then(aT.l0 k (wrap64 (x3+1)) b a)else(some false)))else(none))else((bF.f k b a).bind fun t212=>(some t212))
end
def aT.f (k:Nat) (a:List (S71)) (b:List (S50)):Option (Bool):=(bv.f k a).bind fun c=>(if c=true then((aH.f (b.length:Int) 1 4).bind fun t206=>(aT.j0 k (!t206) a b))else(aT.j0 k true a b))
def gW.f (k:Nat) (b:List (S71)) (a:List (S50)) (a1:Int):Option (Bool):=(aT.f k b a).bind fun c=>(if c=true then((aH.f a1 0 (wrap64 ((a.length:Int) - 1))).bind fun d=>(some d))else(some false))
def gz.f:Option (Bool×List Int×List Int):=some (false,(([]:List Int)),(([]:List Int)))
def fQ.f (c:Int) (e:Int) (a:List Int) (g:Int) (h:Int) (i:List (S97)) (j:List (S29)) (k:List (S102)):Option (List Int):=(some (([]:List Int):List Int)).bind fun b=>(if c≥0 then(if b.length<17592186044416 then((some (b++ [wrap64 (8+c)]:List Int)).bind fun d=>(if d.length+a.length<17592186044416 then(some (d++a))else(none)))else(none))else(if b.length+a.length<17592186044416 then(some (b++a))else(none)))
def dh.l0:Nat→Int→Int→List Int→Int→Int→List (S97)→List (S29)→List (S102)→Bool→List Int→List Int→Option (Bool×List Int×List Int)
  |0,_,_,_,_,_,_,_,_,_,_,_=>none
  |k+1,e,g,h,i,b,j,l,m,c,a,d=>if(a.length:Int)<b then(if a.length<17592186044416 then(dh.l0 k e g h i b j l m c (a++ [0]) d)else(none))else(some (c,a,d))
def dh.f (k:Nat) (a:Int) (b:Int) (c:List Int) (d:Int) (e:Int) (g:List (S97)) (h:List (S29)) (i:List (S102)):Option (Bool×List Int×List Int):=(fQ.f a b c d e g h i).bind fun j=>(dh.l0 k a b c d e g h i true j (([]:List Int)))
def eG.f (k:Nat) (d:List (S71)) (a:List (S50)) (a1:Int):Option (Bool×List Int×List Int):=(gW.f k d a a1).bind fun e=>(if e=true then(if 0≤a1 then(if a1<(a.length:Int)then((dh.f k ((aa a a1).f0) ((aa a a1).f1) ((aa a a1).f2) ((aa a a1).f3) ((aa a a1).f4) ((aa a a1).f5) ((aa a a1).f6) ((aa a a1).f7)).bind fun b=>(some (b.1,b.2.1,b.2.2)))else(none))else(none))else((gz.f).bind fun c=>(some (c.1,c.2.1,c.2.2))))
def bM.l0:Nat→List Int→List Int→Int→Option (List Int)
  |0,_,_,_=>none
  |k+1,x0,x3,x4=>if x4<(x0.length:Int)then(if 0≤x4 then(if x4<(x3.length:Int)then(bM.l0 k x0 (x3.set (x4:Int).toNat (rd x0 x4)) (wrap64 (x4+1)))else(none))else(none))else(some x3)
def bM.f (k:Nat) (l0:List Int):Option (List Int):=if 0≤(l0.length:Int)then(if((l0.length:Int):Int).toNat≤35184372088832 then(bM.l0 k l0 (List.replicate ((l0.length:Int):Int).toNat 0) 0)else(none))else(none)
def iq.f (k:Nat) (a:Int) (b:List Int):Option (Int×List Int):=(bM.f k b).bind fun c=>(some (a,c))
def bW.l0:Nat→List (S62)→List (S71)→Int→Option ((List (S71)))
  |0,_,_,_=>none
  |k+1,x0,x3,x4=>if x4<(x0.length:Int)then(if 0≤x4 then((iq.f k ((eB x0 x4).f0) ((eB x0 x4).f1)).bind fun a=>(if x4<(x3.length:Int)then(bW.l0 k x0 (x3.set (x4:Int).toNat (⟨a.1,a.2⟩:S71)) (wrap64 (x4+1)))else(none)))else(none))else(some x3)
def bW.f (k:Nat) (l0:List (S62)):Option ((List (S71))):=if 0≤(l0.length:Int)then(if((l0.length:Int):Int).toNat≤8796093022208 then(bW.l0 k l0 (List.replicate ((l0.length:Int):Int).toNat z71) 0)else(none))else(none)
def iL.f (a:Int) (b:Int) (c:Int):Option (Int×Int×Int):=some (a,b,c)
end Go.Proofs.Yteinbmkgenhocaa.P
end
