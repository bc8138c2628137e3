/- A part of the claim FnUnitFirst. -/
import Derived.Test.YtojpejfcafbafaaRows
import Derived.ProofKit
import Derived.ShutString
import Derived.Test.YtojpejfcafbafaaCFnUnitFirst37
section
namespace Go.Proofs.Ytojpejfcafbafaa
open Go Go.Proofs.Ytojpejfcafbafaa.P
set_option maxRecDepth 100000
theorem MH {P:Program} {L:List Char} {W:List (List Char)} {c:List Char} {rest:List (List Char)} (h1:P.initOrder.toList=L) (h2:wordsSigns L=W) (h3:behindMainWord W=c::rest) (h4:stripLifts liftWords (c::rest)=([],c::rest)) (h5:c= "cut".toList) (h6:P.laysLater=false) (h7:P.bearsReflect=false) (h8:P.doorFits []=true):P.mayEnter=true:=by
  unfold Program.mayEnter
  rw[h1,h2,h3]
  simp only[h4,h6,h7,h8,List.head?_cons]
  simp[h5]
theorem NA {P:Program} {L:List Char} {W:List (List Char)} {c:List Char} {rest:List (List Char)} (h1:P.initOrder.toList=L) (h2:wordsSigns L=W) (h3:behindMainWord W=c::rest) (h5:c= "cut".toList):P.make=some .cut:=by
  unfold Program.make
  rw[h1,h2,h3]
  simp[h5]
theorem MI {P:Program} {L:List Char} {W:List (List Char)} {c:List Char} {rest:List (List Char)} (h1:P.initOrder.toList=L) (h2:wordsSigns L=W) (h3:behindMainWord W=c::rest) (h4:stripLifts liftWords (c::rest)=([],c::rest)) (h5:c= "cut".toList):P.liftsFinal=false:=by
  unfold Program.liftsFinal Program.headLifts
  rw[h1,h2,h3]
  simp only[h4,List.head?_cons]
  simp[h5]
def yX:List Char:= [Char.ofNat 104,Char.ofNat 97,Char.ofNat 114,Char.ofNat 110,Char.ofNat 101,Char.ofNat 115,Char.ofNat 115,Char.ofNat 32,Char.ofNat 100,Char.ofNat 97,Char.ofNat 98,Char.ofNat 102,Char.ofNat 99,Char.ofNat 97,Char.ofNat 53,Char.ofNat 97,Char.ofNat 97,Char.ofNat 57,Char.ofNat 52,Char.ofNat 50,Char.ofNat 56,Char.ofNat 55,Char.ofNat 54,Char.ofNat 51,Char.ofNat 101,Char.ofNat 55,Char.ofNat 100,Char.ofNat 51,Char.ofNat 98,Char.ofNat 101,Char.ofNat 53,Char.ofNat 98,Char.ofNat 56,Char.ofNat 101,Char.ofNat 100,Char.ofNat 102,Char.ofNat 55,Char.ofNat 97,Char.ofNat 98,Char.ofNat 51,Char.ofNat 53,Char.ofNat 51,Char.ofNat 51,Char.ofNat 98,Char.ofNat 100,Char.ofNat 51,Char.ofNat 54,Char.ofNat 102,Char.ofNat 101,Char.ofNat 54,Char.ofNat 53,Char.ofNat 51,Char.ofNat 49,Char.ofNat 102,Char.ofNat 102,Char.ofNat 50,Char.ofNat 49,Char.ofNat 50,Char.ofNat 97,Char.ofNat 99,Char.ofNat 102,Char.ofNat 97,Char.ofNat 99,Char.ofNat 49,Char.ofNat 51,Char.ofNat 50,Char.ofNat 56,Char.ofNat 101,Char.ofNat 54,Char.ofNat 57,Char.ofNat 57,Char.ofNat 56,Char.ofNat 32,Char.ofNat 99,Char.ofNat 117,Char.ofNat 116,Char.ofNat 32,Char.ofNat 97,Char.ofNat 116,Char.ofNat 32,Char.ofNat 108,Char.ofNat 111,Char.ofNat 111,Char.ofNat 112,Char.ofNat 46,Char.ofNat 101,Char.ofNat 120,Char.ofNat 97,Char.ofNat 109,Char.ofNat 112,Char.ofNat 108,Char.ofNat 101,Char.ofNat 47,Char.ofNat 101,Char.ofNat 110,Char.ofNat 116,Char.ofNat 97,Char.ofNat 105,Char.ofNat 108,Char.ofNat 47,Char.ofNat 108,Char.ofNat 97,Char.ofNat 119,Char.ofNat 115,Char.ofNat 46,Char.ofNat 70,Char.ofNat 110,Char.ofNat 85,Char.ofNat 110,Char.ofNat 105,Char.ofNat 116,Char.ofNat 66,Char.ofNat 97,Char.ofNat 114,Char.ofNat 101,Char.ofNat 32,Char.ofNat 108,Char.ofNat 111,Char.ofNat 111,Char.ofNat 112,Char.ofNat 46,Char.ofNat 101,Char.ofNat 120,Char.ofNat 97,Char.ofNat 109,Char.ofNat 112,Char.ofNat 108,Char.ofNat 101,Char.ofNat 47,Char.ofNat 101,Char.ofNat 110,Char.ofNat 116,Char.ofNat 97,Char.ofNat 105,Char.ofNat 108,Char.ofNat 47,Char.ofNat 108,Char.ofNat 97,Char.ofNat 119,Char.ofNat 115,Char.ofNat 46,Char.ofNat 70,Char.ofNat 110,Char.ofNat 85,Char.ofNat 110,Char.ofNat 105,Char.ofNat 116,Char.ofNat 70,Char.ofNat 105,Char.ofNat 114,Char.ofNat 115,Char.ofNat 116,Char.ofNat 32,Char.ofNat 108,Char.ofNat 111,Char.ofNat 111,Char.ofNat 112,Char.ofNat 46,Char.ofNat 101,Char.ofNat 120,Char.ofNat 97,Char.ofNat 109,Char.ofNat 112,Char.ofNat 108,Char.ofNat 101,Char.ofNat 47,Char.ofNat 101,Char.ofNat 110,Char.ofNat 116,Char.ofNat 97,Char.ofNat 105,Char.ofNat 108,Char.ofNat 47,Char.ofNat 108,Char.ofNat 97,Char.ofNat 119,Char.ofNat 115,Char.ofNat 46,Char.ofNat 70,Char.ofNat 110,Char.ofNat 70,Char.ofNat 105,Char.ofNat 110,Char.ofNat 100,Char.ofNat 85,Char.ofNat 112,Char.ofNat 32,Char.ofNat 108,Char.ofNat 111,Char.ofNat 111,Char.ofNat 112,Char.ofNat 46,Char.ofNat 101,Char.ofNat 120,Char.ofNat 97,Char.ofNat 109,Char.ofNat 112,Char.ofNat 108,Char.ofNat 101,Char.ofNat 47,Char.ofNat 101,Char.ofNat 110,Char.ofNat 116,Char.ofNat 97,Char.ofNat 105,Char.ofNat 108,Char.ofNat 47,Char.ofNat 108,Char.ofNat 97,Char.ofNat 119,Char.ofNat 115,Char.ofNat 46,Char.ofNat 70,Char.ofNat 110,Char.ofNat 70,Char.ofNat 105,Char.ofNat 110,Char.ofNat 100,Char.ofNat 66,Char.ofNat 101,Char.ofNat 108,Char.ofNat 111,Char.ofNat 119]
def CX:List (List Char):= [[Char.ofNat 104,Char.ofNat 97,Char.ofNat 114,Char.ofNat 110,Char.ofNat 101,Char.ofNat 115,Char.ofNat 115], [Char.ofNat 100,Char.ofNat 97,Char.ofNat 98,Char.ofNat 102,Char.ofNat 99,Char.ofNat 97,Char.ofNat 53,Char.ofNat 97,Char.ofNat 97,Char.ofNat 57,Char.ofNat 52,Char.ofNat 50,Char.ofNat 56,Char.ofNat 55,Char.ofNat 54,Char.ofNat 51,Char.ofNat 101,Char.ofNat 55,Char.ofNat 100,Char.ofNat 51,Char.ofNat 98,Char.ofNat 101,Char.ofNat 53,Char.ofNat 98,Char.ofNat 56,Char.ofNat 101,Char.ofNat 100,Char.ofNat 102,Char.ofNat 55,Char.ofNat 97,Char.ofNat 98,Char.ofNat 51,Char.ofNat 53,Char.ofNat 51,Char.ofNat 51,Char.ofNat 98,Char.ofNat 100,Char.ofNat 51,Char.ofNat 54,Char.ofNat 102,Char.ofNat 101,Char.ofNat 54,Char.ofNat 53,Char.ofNat 51,Char.ofNat 49,Char.ofNat 102,Char.ofNat 102,Char.ofNat 50,Char.ofNat 49,Char.ofNat 50,Char.ofNat 97,Char.ofNat 99,Char.ofNat 102,Char.ofNat 97,Char.ofNat 99,Char.ofNat 49,Char.ofNat 51,Char.ofNat 50,Char.ofNat 56,Char.ofNat 101,Char.ofNat 54,Char.ofNat 57,Char.ofNat 57,Char.ofNat 56], [Char.ofNat 99,Char.ofNat 117,Char.ofNat 116], [Char.ofNat 97,Char.ofNat 116], [Char.ofNat 108,Char.ofNat 111,Char.ofNat 111,Char.ofNat 112,Char.ofNat 46,Char.ofNat 101,Char.ofNat 120,Char.ofNat 97,Char.ofNat 109,Char.ofNat 112,Char.ofNat 108,Char.ofNat 101,Char.ofNat 47,Char.ofNat 101,Char.ofNat 110,Char.ofNat 116,Char.ofNat 97,Char.ofNat 105,Char.ofNat 108,Char.ofNat 47,Char.ofNat 108,Char.ofNat 97,Char.ofNat 119,Char.ofNat 115,Char.ofNat 46,Char.ofNat 70,Char.ofNat 110,Char.ofNat 85,Char.ofNat 110,Char.ofNat 105,Char.ofNat 116,Char.ofNat 66,Char.ofNat 97,Char.ofNat 114,Char.ofNat 101], [Char.ofNat 108,Char.ofNat 111,Char.ofNat 111,Char.ofNat 112,Char.ofNat 46,Char.ofNat 101,Char.ofNat 120,Char.ofNat 97,Char.ofNat 109,Char.ofNat 112,Char.ofNat 108,Char.ofNat 101,Char.ofNat 47,Char.ofNat 101,Char.ofNat 110,Char.ofNat 116,Char.ofNat 97,Char.ofNat 105,Char.ofNat 108,Char.ofNat 47,Char.ofNat 108,Char.ofNat 97,Char.ofNat 119,Char.ofNat 115,Char.ofNat 46,Char.ofNat 70,Char.ofNat 110,Char.ofNat 85,Char.ofNat 110,Char.ofNat 105,Char.ofNat 116,Char.ofNat 70,Char.ofNat 105,Char.ofNat 114,Char.ofNat 115,Char.ofNat 116], [Char.ofNat 108,Char.ofNat 111,Char.ofNat 111,Char.ofNat 112,Char.ofNat 46,Char.ofNat 101,Char.ofNat 120,Char.ofNat 97,Char.ofNat 109,Char.ofNat 112,Char.ofNat 108,Char.ofNat 101,Char.ofNat 47,Char.ofNat 101,Char.ofNat 110,Char.ofNat 116,Char.ofNat 97,Char.ofNat 105,Char.ofNat 108,Char.ofNat 47,Char.ofNat 108,Char.ofNat 97,Char.ofNat 119,Char.ofNat 115,Char.ofNat 46,Char.ofNat 70,Char.ofNat 110,Char.ofNat 70,Char.ofNat 105,Char.ofNat 110,Char.ofNat 100,Char.ofNat 85,Char.ofNat 112], [Char.ofNat 108,Char.ofNat 111,Char.ofNat 111,Char.ofNat 112,Char.ofNat 46,Char.ofNat 101,Char.ofNat 120,Char.ofNat 97,Char.ofNat 109,Char.ofNat 112,Char.ofNat 108,Char.ofNat 101,Char.ofNat 47,Char.ofNat 101,Char.ofNat 110,Char.ofNat 116,Char.ofNat 97,Char.ofNat 105,Char.ofNat 108,Char.ofNat 47,Char.ofNat 108,Char.ofNat 97,Char.ofNat 119,Char.ofNat 115,Char.ofNat 46,Char.ofNat 70,Char.ofNat 110,Char.ofNat 70,Char.ofNat 105,Char.ofNat 110,Char.ofNat 100,Char.ofNat 66,Char.ofNat 101,Char.ofNat 108,Char.ofNat 111,Char.ofNat 119]]
theorem FX:Try.prog.initOrder.toList=yX:=by
  have h:Try.prog.initOrder=String.ofList yX:=by kernel_rfl
  rw[h,String.toList_ofList]
def CY:List (List Char):= [[Char.ofNat 97,Char.ofNat 116], [Char.ofNat 108,Char.ofNat 111,Char.ofNat 111,Char.ofNat 112,Char.ofNat 46,Char.ofNat 101,Char.ofNat 120,Char.ofNat 97,Char.ofNat 109,Char.ofNat 112,Char.ofNat 108,Char.ofNat 101,Char.ofNat 47,Char.ofNat 101,Char.ofNat 110,Char.ofNat 116,Char.ofNat 97,Char.ofNat 105,Char.ofNat 108,Char.ofNat 47,Char.ofNat 108,Char.ofNat 97,Char.ofNat 119,Char.ofNat 115,Char.ofNat 46,Char.ofNat 70,Char.ofNat 110,Char.ofNat 85,Char.ofNat 110,Char.ofNat 105,Char.ofNat 116,Char.ofNat 66,Char.ofNat 97,Char.ofNat 114,Char.ofNat 101], [Char.ofNat 108,Char.ofNat 111,Char.ofNat 111,Char.ofNat 112,Char.ofNat 46,Char.ofNat 101,Char.ofNat 120,Char.ofNat 97,Char.ofNat 109,Char.ofNat 112,Char.ofNat 108,Char.ofNat 101,Char.ofNat 47,Char.ofNat 101,Char.ofNat 110,Char.ofNat 116,Char.ofNat 97,Char.ofNat 105,Char.ofNat 108,Char.ofNat 47,Char.ofNat 108,Char.ofNat 97,Char.ofNat 119,Char.ofNat 115,Char.ofNat 46,Char.ofNat 70,Char.ofNat 110,Char.ofNat 85,Char.ofNat 110,Char.ofNat 105,Char.ofNat 116,Char.ofNat 70,Char.ofNat 105,Char.ofNat 114,Char.ofNat 115,Char.ofNat 116], [Char.ofNat 108,Char.ofNat 111,Char.ofNat 111,Char.ofNat 112,Char.ofNat 46,Char.ofNat 101,Char.ofNat 120,Char.ofNat 97,Char.ofNat 109,Char.ofNat 112,Char.ofNat 108,Char.ofNat 101,Char.ofNat 47,Char.ofNat 101,Char.ofNat 110,Char.ofNat 116,Char.ofNat 97,Char.ofNat 105,Char.ofNat 108,Char.ofNat 47,Char.ofNat 108,Char.ofNat 97,Char.ofNat 119,Char.ofNat 115,Char.ofNat 46,Char.ofNat 70,Char.ofNat 110,Char.ofNat 70,Char.ofNat 105,Char.ofNat 110,Char.ofNat 100,Char.ofNat 85,Char.ofNat 112], [Char.ofNat 108,Char.ofNat 111,Char.ofNat 111,Char.ofNat 112,Char.ofNat 46,Char.ofNat 101,Char.ofNat 120,Char.ofNat 97,Char.ofNat 109,Char.ofNat 112,Char.ofNat 108,Char.ofNat 101,Char.ofNat 47,Char.ofNat 101,Char.ofNat 110,Char.ofNat 116,Char.ofNat 97,Char.ofNat 105,Char.ofNat 108,Char.ofNat 47,Char.ofNat 108,Char.ofNat 97,Char.ofNat 119,Char.ofNat 115,Char.ofNat 46,Char.ofNat 70,Char.ofNat 110,Char.ofNat 70,Char.ofNat 105,Char.ofNat 110,Char.ofNat 100,Char.ofNat 66,Char.ofNat 101,Char.ofNat 108,Char.ofNat 111,Char.ofNat 119]]
theorem enter:Try.prog.mayEnter=true:=MH (L:=yX) (W:=CX) FX (by kernel_rfl) (c:= [Char.ofNat 99,Char.ofNat 117,Char.ofNat 116]) (rest:=CY) (by kernel_rfl) (by kernel_rfl) (by kernel_rfl) (by kernel_rfl) (by kernel_rfl) (by kernel_rfl)
theorem make:Try.prog.make=some .cut:=NA (L:=yX) (W:=CX) FX (by kernel_rfl) (c:= [Char.ofNat 99,Char.ofNat 117,Char.ofNat 116]) (rest:=CY) (by kernel_rfl) (by kernel_rfl)
theorem lifts:Try.prog.liftsFinal=false:=MI (L:=yX) (W:=CX) FX (by kernel_rfl) (c:= [Char.ofNat 99,Char.ofNat 117,Char.ofNat 116]) (rest:=CY) (by kernel_rfl) (by kernel_rfl) (by kernel_rfl)
end Go.Proofs.Ytojpejfcafbafaa
end
section
namespace Go.Proofs.Ytojpejfcafbafaa.fnUnitFirst
open Go.ChangeShapes Go.WideShapes Go.ChangeAt Go.RowKit
open Go.ChangeMaps (open_string shut_string)
set_option linter.unusedVariables false
theorem own:ownKnob Try.prog.godebug=none:=by kernel_rfl
theorem laidOut:laidOutB Try.prog=true:=by kernel_rfl
theorem ND: ∀x∈V.ownTys,V.canAt Try.prog (fun y=>sameLayout Try.prog Try.prog.depth y 5) Try.prog.depth x=false:=by
  intro x hx
  simp only[V.ownTys,List.mem_cons,List.not_mem_nil,or_false]at hx
  rcases hx with rfl|rfl|rfl|rfl|rfl|rfl<;>kernel_rfl
set_option maxRecDepth 100000 in
theorem lifted (os:Os) (started:os.Started) (H:Type) (enc:TypeId×Value→H):
    ReturnsInHanded {} Try.checked os 4 .any (Rows.fnUnitFirstSpec.pre6 enc Try.prog Try.f4 Rows.fnUnitFirstRow.domain false) (Rows.fnUnitFirstSpec.post enc Try.prog Try.f4 false true false false):=by
  refine returnsInHanded_of_change_sized (C:=Try.checked) own started (by kernel_rfl) Try.func4
    (ChangeSpec.witness6 (enc:=enc) (C:=Try.checked) false ⟨#[],#[.slice none 0 0], []⟩ 8 (by kernel_rfl) (by kernel_rfl) (by kernel_rfl) (by kernel_rfl)) ?_
  intro W base args ds gs before hval0 hW hcnd hsz0 _
  have hval: ∀(j:Nat) t v,Try.f4.params[j]? =some t→args[j]? =some v→Value.okWide Try.prog W .any base t v:=hval0
  have hW' :=hW
  obtain⟨p,q,d,hV,rfl,hfz,hnd⟩:=hW
  have hA:DataW.TrodAll enc Try.prog W 0 (fun _=>true) true Try.f4.params.toList args.toList ds p:=d
  rw[Try.params4]at hA hval
  obtain⟨v0,n,d0,ds0,p0,q0,hargs,rfl,rfl,h0,r0⟩:=trodAll_cons hA
  obtain⟨rfl,rfl,rfl⟩:=trodAll_nil r0
  obtain rfl:args= #[v0]:=by cases args;simp_all
  obtain⟨rfl,rfl⟩:=trodVars_none hV
  have ok0:=hval 0 22 v0 rfl rfl
  obtain⟨a0,a,cap0,rfl⟩:=okWide_slice Try.underlying22 ok0
  have k0:=h0
  have k: ∀x∈p0,x.block<W.heap.size:=by obtain⟨m,hm⟩:=k0;exact DataW.trod_lt m _ _ _ hm
  have g: ∀x,a0=some x→0<a→∃cells e' fr,W.heap[x.block]? =some (.cells cells e' fr)∧e' ∉V.ownTys:=fun x hx _=>by
    subst hx
    exact V.bytes_ty Try.underlying22 Try.underlying5 ok0 ND
  obtain⟨z0,w0⟩: ∃zs,V.BytesAt W a0 a cap0 zs:=by
    obtain⟨fuel,hf⟩:=h0
    rcases open_ints Try.underlying22 Try.underlying5 (by kernel_rfl) hf with⟨hcs,_⟩|⟨x,l,c,zs,hcs,_,hl,hm,hz,_,hcell,hwz⟩
    · simp[Value.cells]at hcs
      obtain⟨rfl,rfl,rfl⟩:=hcs
      exact⟨_,V.bytesAt_of (zs:= []) (.inl ⟨rfl,rfl,rfl,rfl⟩) g⟩
    · simp[Value.cells]at hcs
      obtain⟨rfl,rfl,rfl⟩:=hcs
      exact⟨_,V.bytesAt_of (.inr ⟨_,rfl,hl,hm,by simpa using hz,hcell,hwz⟩) g⟩
  clear d hval0 hsz0
  refine(V.law1 V.first_ct w0).mono fun e W' ⟨he,bel⟩=> ?_
  subst he
  exact⟨_,rfl,_,_,_, [],_, [],hW',trodAll_mk1 (shut_bool Try.underlying4 _),(trodAll_cons_mk (Below.trod laidOut (by kernel_rfl) (of_decide_eq_true (by kernel_rfl)) k0 bel k) trodAll_mk0),rfl,bel.frame _,fun h=>by cases h⟩
theorem over:Rows.fnUnitFirstRow.holds Try.pinned (OpenSpec.ofChange Rows.fnUnitFirstSpec):=
  OpenClaim.holds_of_wide 4 Try.f4 rfl rfl rfl rfl rfl rfl rfl ⟨rfl,rfl,rfl,rfl,rfl⟩ rfl rfl rfl rfl rfl (by kernel_rfl) Try.func4 (by show joinedFacts Try.prog _ _ _ _=true;unfold joinedFacts;rw[Go.Proofs.Ytojpejfcafbafaa.enter,Go.Proofs.Ytojpejfcafbafaa.make,Go.Proofs.Ytojpejfcafbafaa.lifts];kernel_rfl)
    (of_decide_eq_true (by kernel_rfl)) (by unfold Func.isWrapper;first|(rw[if_pos (by decide+kernel)];kernel_rfl)|(rw[if_neg (by decide+kernel)];exact⟨rfl,rfl⟩))
    (fun os started H enc _=>lifted os started H enc)
theorem proved:Rows.FnUnitFirstSaid:=over
#print axioms proved
end Go.Proofs.Ytojpejfcafbafaa.fnUnitFirst
namespace Go.Proofs.Ytojpejfcafbafaa
theorem fnUnitFirst_holds:Rows.FnUnitFirstSaid:=fnUnitFirst.proved
end Go.Proofs.Ytojpejfcafbafaa
end
