/- A part of the claim FnUnitBare. -/
import Derived.OpenShut
import Derived.ChangeOld
import Derived.SizedLaws
import Derived.Test.YtojpejfcafbafaaRows
import Derived.ProofKit
import Derived.ShutString
import Derived.Test.YtojpejfcafbafaaCFnUnitBare37
section
namespace Go.Proofs.Ytojpejfcafbafaa.V
open Go Go.RowKit
set_option linter.unusedVariables false
set_option linter.unusedSimpArgs false
def canAt (p:Program) (fits:TypeId→Bool):Nat→TypeId→Bool
  |0,_=>false
  | d+1,e=>fits e||match p.underlying e with
    |some (.struct fs)=>fs.any fun f=>canAt p fits d f.type
    |some (.array _ e')=>canAt p fits d e'
    |_=>false
theorem CV {p:Program} {fits:TypeId→Bool}: ∀ {d:Nat} {e:TypeId} {count off n:Nat},rowAt p fits d e count off n=true→canAt p fits d e=true
  |0,e,count,off,n,h=>by simp[rowAt]at h
  | d + 1,e,count,off,n,h=>by
    unfold rowAt at h
    simp only at h
    split at h
    ·cases h
    · rw[Bool.or_eq_true]at h
      unfold canAt
      rw[Bool.or_eq_true]
      rcases h with h|h
      · simp only[Bool.and_eq_true]at h
        exact .inl h.2
      · right
        rw[Bool.and_eq_true]at h
        have h:=h.2
        split at h
        · rename_i fs hu
          rw[Bool.and_eq_true]at h
          have h:=h.2
          simp only[hu]
          rw[Array.any_eq_true]at h⊢
          obtain⟨i,hi,h⟩:=h
          rw[Bool.and_eq_true]at h
          exact⟨i,hi,CV h.2⟩
        · rename_i hu
          simp only[hu]
          exact CV h
        ·cases h
theorem bytes_ty {P:Program} {W:World} {base:Nat} {t e:TypeId} (hu:P.underlying t=some (.slice e)) (he:P.underlying e=some (.int .u8)) {a:Addr} {len cap:Nat} (h:Value.okWide P W .any base t (.slice (some a) len cap))
    (hno: ∀x∈ownTys,canAt P (sameLayout P P.depth·e) P.depth x=false): ∃cells e' fr,W.heap[a.block]? =some (.cells cells e' fr)∧e' ∉ownTys:=by
  simp only[Value.okWide,hu,Cell.okWide,Cell.ok]at h
  obtain⟨_,_,_,_,row,cells,hs,hl⟩:=h
  unfold World.shape? at hs
  split at hs
  · rename_i c elem fr hc
    injection hs with hs
    injection hs with hs _
    subst hs
    refine⟨c,elem,fr,hc,fun hm=> ?_⟩
    have h1:=hno _ hm
    have h2: ∀d count off n,liesAt P d elem count off e n=true→rowAt P (sameLayout P P.depth·e) P.depth elem count off n=true:=fun d count off n h=>by
      cases d with
      |zero=>simp[liesAt]at h
      | succ d=>
        simp only[liesAt,he,Bool.or_false]at h
        exact h
    rw[CV (h2 _ _ _ _ hl)]at h1
    cases h1
  ·cases hs
structure BytesAt (w:World) (a:Option Addr) (len cap:Nat) (bs:List Int):Prop where
  eq:bs.length=len
  le:len≤cap∧len≤maxLen
  rng: ∀x∈bs,0≤x∧x<256
  cell: ∀i,i<len→∃x,a=some x∧w.cell? (x.add i)=some (.int .u8 (bs.getD i 0))
  ty: ∀x,a=some x→0<len→∃cells e' fr,w.heap[x.block]? =some (.cells cells e' fr)∧e' ∉ownTys
theorem bytesAt_of {w:World} {a:Option Addr} {len cap:Nat} {zs:List Int} (h:(a=none∧len=0∧cap=0∧zs= [])∨∃x,a=some x∧len≤cap∧cap≤maxLen∧zs.length=cap∧(∀i,i<zs.length→w.cell? (x.add i)=some (.int .u8 (zs.getD i 0)))∧∀n∈zs,(Lit.int .u8 n).wf=true)
    (ty: ∀x,a=some x→0<len→∃cells e' fr,w.heap[x.block]? =some (.cells cells e' fr)∧e' ∉ownTys):BytesAt w a len cap (zs.take len):=by
  rcases h with⟨rfl,rfl,rfl,rfl⟩|⟨x,rfl,h1,h2,h3,h4,h5⟩
  ·exact⟨rfl,⟨by omega,by decide⟩,fun x hx=>(by cases hx),fun i hi=>absurd hi (Nat.not_lt_zero _),ty⟩
  · refine⟨by simp;omega,⟨h1,by omega⟩,fun n hn=> ?_,fun i hi=>⟨x,rfl, ?_⟩,ty⟩
    · have:=h5 n (List.mem_of_mem_take hn)
      simp[Lit.wf,IntKind.min,IntKind.max,IntKind.signed,IntKind.bits]at this
      omega
    · rw[h4 i (by omega)]
      simp[List.getD_eq_getElem?_getD,List.getElem?_take,hi]
theorem BytesAt.rep {w:World} {A:Nat→Prop} {a:Option Addr} {len cap:Nat} {bs:List Int} (h:BytesAt w a len cap bs) (hA: ∀b,b<w.heap.size→A b):RepT w A (.slice a len cap) (.sl 5 1 bs.length (fl 0 eb bs)):=by
  have hl:=h.eq
  subst hl
  refine .sl a _ cap _ 1 _ h.le.1 h.le.2 (fun hu=> ?_) (fun j hj=>rfl) (fun j o y hj hy=> ?_) (fun b hb hu=> ?_)
  · rcases hu with hu|hu
    ·obtain⟨x,rfl,_⟩:=h.cell 0 hu;rfl
    ·exact absurd rfl hu.1
  · obtain⟨x,hx,hc⟩:=h.cell j hj
    have hy: [T.s (.int .u8 (bs.getD j 0))][o]? =some y:=hy
    cases o with
    | zero=>
      injection hy with hy
      subst hy
      exact⟨x,_,hx,by simpa using hc, .s _ rfl⟩
    |succ o=>simp at hy
  · have h0:0<bs.length:=by
      rcases hu with hu|hu
      ·exact hu
      ·exact absurd rfl hu.1
    obtain⟨cells,e',fr,hc,hn⟩:=h.ty b hb h0
    exact⟨hA _ (Array.getElem?_eq_some_iff.1 hc).1,cells,fr,⟨e',hc, .inr ⟨rfl,hn⟩⟩, .inl rfl⟩
theorem OL (w:World):Mem ⟨w,fun b=>b<w.heap.size, [],fun _=>undef,fun _=>False⟩ [] w (fun _=>undef):=
  ⟨⟨rfl,rfl,rfl,Nat.le_refl _,fun _ _ _=>rfl⟩,fun k x h=>by simp[Bs.live,Bs.get]at h,fun k x g h=>by simp[Bs.live,Bs.get]at h,fun k k' x x' g h=>by simp[Bs.live,Bs.get]at h,fun k x h=>by simp[Bs.live,Bs.get]at h,fun k x b' h=>by simp[Bs.live,Bs.get]at h,fun e h=>by simp[Bs.get]at h⟩
theorem MG {w w' :World} {ρ:Nat→Value} (h:Mem ⟨w,fun b=>b<w.heap.size, [],fun _=>undef,fun _=>False⟩ [] w' ρ):Below w.heap.size w w' :=
  ⟨h.keeps.os,h.keeps.tape,h.keeps.output,h.keeps.size,fun k hk=>h.keeps.block k hk (by
    rintro(⟨k,x,h1,_⟩|h)
    ·simp[Bs.live,Bs.get]at h1
    ·exact h)⟩
theorem MH {w:World} {A:Nat→Prop} {v:Value} (h:RepT w A v (.s (.bool true))):v= .bool true:=by cases h;rfl
theorem law1 {P:Program} {g:Nat} (ct: ∀bs:List Int,(∀x∈bs,0≤x∧x<256)→bs.length≤maxLen→iK P g [.c (.t (.sl 5 1 bs.length (fl 0 eb bs)))] (.c (.t (.b true)))) {w:World} {a:Option Addr} {len cap:Nat} {bs:List Int} (h:BytesAt w a len cap bs):
    Calls P g #[.slice a len cap] w fun e w' =>e= .returned (.bool true)∧Below w.heap.size w w' :=by
  refine(ct bs h.rng (by rw[h.eq];exact h.le.2) w _ _ _ #[.slice a len cap] (OL w) rfl fun i x hx=> ?_).mono ?_
  · cases i with
    | zero=>
      injection hx with hx
      subst hx
      exact h.rep fun b hb=>⟨.inl hb,hb,fun k x h=>by simp[Bs.live,Bs.get]at h⟩
    |succ i=>simp at hx
  · rintro e w' ⟨v',res,B',ρ',rfl,⟨rfl,rfl⟩,hm,hv⟩
    exact⟨by rw[MH hv],MG hm⟩
end Go.Proofs.Ytojpejfcafbafaa.V
end
section
namespace Go.Proofs.Ytojpejfcafbafaa
open Go Go.Proofs.Ytojpejfcafbafaa.P
set_option maxRecDepth 100000
theorem MI {P:Program} {L:List Char} {W:List (List Char)} {c:List Char} {rest:List (List Char)} (h1:P.initOrder.toList=L) (h2:wordsSigns L=W) (h3:behindMainWord W=c::rest) (h4:stripLifts liftWords (c::rest)=([],c::rest)) (h5:c= "cut".toList) (h6:P.laysLater=false) (h7:P.bearsReflect=false) (h8:P.doorFits []=true):P.mayEnter=true:=by
  unfold Program.mayEnter
  rw[h1,h2,h3]
  simp only[h4,h6,h7,h8,List.head?_cons]
  simp[h5]
theorem Nw {P:Program} {L:List Char} {W:List (List Char)} {c:List Char} {rest:List (List Char)} (h1:P.initOrder.toList=L) (h2:wordsSigns L=W) (h3:behindMainWord W=c::rest) (h5:c= "cut".toList):P.make=some .cut:=by
  unfold Program.make
  rw[h1,h2,h3]
  simp[h5]
theorem MJ {P:Program} {L:List Char} {W:List (List Char)} {c:List Char} {rest:List (List Char)} (h1:P.initOrder.toList=L) (h2:wordsSigns L=W) (h3:behindMainWord W=c::rest) (h4:stripLifts liftWords (c::rest)=([],c::rest)) (h5:c= "cut".toList):P.liftsFinal=false:=by
  unfold Program.liftsFinal Program.headLifts
  rw[h1,h2,h3]
  simp only[h4,List.head?_cons]
  simp[h5]
def yV:List Char:= [Char.ofNat 104,Char.ofNat 97,Char.ofNat 114,Char.ofNat 110,Char.ofNat 101,Char.ofNat 115,Char.ofNat 115,Char.ofNat 32,Char.ofNat 100,Char.ofNat 97,Char.ofNat 98,Char.ofNat 102,Char.ofNat 99,Char.ofNat 97,Char.ofNat 53,Char.ofNat 97,Char.ofNat 97,Char.ofNat 57,Char.ofNat 52,Char.ofNat 50,Char.ofNat 56,Char.ofNat 55,Char.ofNat 54,Char.ofNat 51,Char.ofNat 101,Char.ofNat 55,Char.ofNat 100,Char.ofNat 51,Char.ofNat 98,Char.ofNat 101,Char.ofNat 53,Char.ofNat 98,Char.ofNat 56,Char.ofNat 101,Char.ofNat 100,Char.ofNat 102,Char.ofNat 55,Char.ofNat 97,Char.ofNat 98,Char.ofNat 51,Char.ofNat 53,Char.ofNat 51,Char.ofNat 51,Char.ofNat 98,Char.ofNat 100,Char.ofNat 51,Char.ofNat 54,Char.ofNat 102,Char.ofNat 101,Char.ofNat 54,Char.ofNat 53,Char.ofNat 51,Char.ofNat 49,Char.ofNat 102,Char.ofNat 102,Char.ofNat 50,Char.ofNat 49,Char.ofNat 50,Char.ofNat 97,Char.ofNat 99,Char.ofNat 102,Char.ofNat 97,Char.ofNat 99,Char.ofNat 49,Char.ofNat 51,Char.ofNat 50,Char.ofNat 56,Char.ofNat 101,Char.ofNat 54,Char.ofNat 57,Char.ofNat 57,Char.ofNat 56,Char.ofNat 32,Char.ofNat 99,Char.ofNat 117,Char.ofNat 116,Char.ofNat 32,Char.ofNat 97,Char.ofNat 116,Char.ofNat 32,Char.ofNat 108,Char.ofNat 111,Char.ofNat 111,Char.ofNat 112,Char.ofNat 46,Char.ofNat 101,Char.ofNat 120,Char.ofNat 97,Char.ofNat 109,Char.ofNat 112,Char.ofNat 108,Char.ofNat 101,Char.ofNat 47,Char.ofNat 101,Char.ofNat 110,Char.ofNat 116,Char.ofNat 97,Char.ofNat 105,Char.ofNat 108,Char.ofNat 47,Char.ofNat 108,Char.ofNat 97,Char.ofNat 119,Char.ofNat 115,Char.ofNat 46,Char.ofNat 70,Char.ofNat 110,Char.ofNat 85,Char.ofNat 110,Char.ofNat 105,Char.ofNat 116,Char.ofNat 66,Char.ofNat 97,Char.ofNat 114,Char.ofNat 101,Char.ofNat 32,Char.ofNat 108,Char.ofNat 111,Char.ofNat 111,Char.ofNat 112,Char.ofNat 46,Char.ofNat 101,Char.ofNat 120,Char.ofNat 97,Char.ofNat 109,Char.ofNat 112,Char.ofNat 108,Char.ofNat 101,Char.ofNat 47,Char.ofNat 101,Char.ofNat 110,Char.ofNat 116,Char.ofNat 97,Char.ofNat 105,Char.ofNat 108,Char.ofNat 47,Char.ofNat 108,Char.ofNat 97,Char.ofNat 119,Char.ofNat 115,Char.ofNat 46,Char.ofNat 70,Char.ofNat 110,Char.ofNat 85,Char.ofNat 110,Char.ofNat 105,Char.ofNat 116,Char.ofNat 70,Char.ofNat 105,Char.ofNat 114,Char.ofNat 115,Char.ofNat 116,Char.ofNat 32,Char.ofNat 108,Char.ofNat 111,Char.ofNat 111,Char.ofNat 112,Char.ofNat 46,Char.ofNat 101,Char.ofNat 120,Char.ofNat 97,Char.ofNat 109,Char.ofNat 112,Char.ofNat 108,Char.ofNat 101,Char.ofNat 47,Char.ofNat 101,Char.ofNat 110,Char.ofNat 116,Char.ofNat 97,Char.ofNat 105,Char.ofNat 108,Char.ofNat 47,Char.ofNat 108,Char.ofNat 97,Char.ofNat 119,Char.ofNat 115,Char.ofNat 46,Char.ofNat 70,Char.ofNat 110,Char.ofNat 70,Char.ofNat 105,Char.ofNat 110,Char.ofNat 100,Char.ofNat 85,Char.ofNat 112,Char.ofNat 32,Char.ofNat 108,Char.ofNat 111,Char.ofNat 111,Char.ofNat 112,Char.ofNat 46,Char.ofNat 101,Char.ofNat 120,Char.ofNat 97,Char.ofNat 109,Char.ofNat 112,Char.ofNat 108,Char.ofNat 101,Char.ofNat 47,Char.ofNat 101,Char.ofNat 110,Char.ofNat 116,Char.ofNat 97,Char.ofNat 105,Char.ofNat 108,Char.ofNat 47,Char.ofNat 108,Char.ofNat 97,Char.ofNat 119,Char.ofNat 115,Char.ofNat 46,Char.ofNat 70,Char.ofNat 110,Char.ofNat 70,Char.ofNat 105,Char.ofNat 110,Char.ofNat 100,Char.ofNat 66,Char.ofNat 101,Char.ofNat 108,Char.ofNat 111,Char.ofNat 119]
def CW:List (List Char):= [[Char.ofNat 104,Char.ofNat 97,Char.ofNat 114,Char.ofNat 110,Char.ofNat 101,Char.ofNat 115,Char.ofNat 115], [Char.ofNat 100,Char.ofNat 97,Char.ofNat 98,Char.ofNat 102,Char.ofNat 99,Char.ofNat 97,Char.ofNat 53,Char.ofNat 97,Char.ofNat 97,Char.ofNat 57,Char.ofNat 52,Char.ofNat 50,Char.ofNat 56,Char.ofNat 55,Char.ofNat 54,Char.ofNat 51,Char.ofNat 101,Char.ofNat 55,Char.ofNat 100,Char.ofNat 51,Char.ofNat 98,Char.ofNat 101,Char.ofNat 53,Char.ofNat 98,Char.ofNat 56,Char.ofNat 101,Char.ofNat 100,Char.ofNat 102,Char.ofNat 55,Char.ofNat 97,Char.ofNat 98,Char.ofNat 51,Char.ofNat 53,Char.ofNat 51,Char.ofNat 51,Char.ofNat 98,Char.ofNat 100,Char.ofNat 51,Char.ofNat 54,Char.ofNat 102,Char.ofNat 101,Char.ofNat 54,Char.ofNat 53,Char.ofNat 51,Char.ofNat 49,Char.ofNat 102,Char.ofNat 102,Char.ofNat 50,Char.ofNat 49,Char.ofNat 50,Char.ofNat 97,Char.ofNat 99,Char.ofNat 102,Char.ofNat 97,Char.ofNat 99,Char.ofNat 49,Char.ofNat 51,Char.ofNat 50,Char.ofNat 56,Char.ofNat 101,Char.ofNat 54,Char.ofNat 57,Char.ofNat 57,Char.ofNat 56], [Char.ofNat 99,Char.ofNat 117,Char.ofNat 116], [Char.ofNat 97,Char.ofNat 116], [Char.ofNat 108,Char.ofNat 111,Char.ofNat 111,Char.ofNat 112,Char.ofNat 46,Char.ofNat 101,Char.ofNat 120,Char.ofNat 97,Char.ofNat 109,Char.ofNat 112,Char.ofNat 108,Char.ofNat 101,Char.ofNat 47,Char.ofNat 101,Char.ofNat 110,Char.ofNat 116,Char.ofNat 97,Char.ofNat 105,Char.ofNat 108,Char.ofNat 47,Char.ofNat 108,Char.ofNat 97,Char.ofNat 119,Char.ofNat 115,Char.ofNat 46,Char.ofNat 70,Char.ofNat 110,Char.ofNat 85,Char.ofNat 110,Char.ofNat 105,Char.ofNat 116,Char.ofNat 66,Char.ofNat 97,Char.ofNat 114,Char.ofNat 101], [Char.ofNat 108,Char.ofNat 111,Char.ofNat 111,Char.ofNat 112,Char.ofNat 46,Char.ofNat 101,Char.ofNat 120,Char.ofNat 97,Char.ofNat 109,Char.ofNat 112,Char.ofNat 108,Char.ofNat 101,Char.ofNat 47,Char.ofNat 101,Char.ofNat 110,Char.ofNat 116,Char.ofNat 97,Char.ofNat 105,Char.ofNat 108,Char.ofNat 47,Char.ofNat 108,Char.ofNat 97,Char.ofNat 119,Char.ofNat 115,Char.ofNat 46,Char.ofNat 70,Char.ofNat 110,Char.ofNat 85,Char.ofNat 110,Char.ofNat 105,Char.ofNat 116,Char.ofNat 70,Char.ofNat 105,Char.ofNat 114,Char.ofNat 115,Char.ofNat 116], [Char.ofNat 108,Char.ofNat 111,Char.ofNat 111,Char.ofNat 112,Char.ofNat 46,Char.ofNat 101,Char.ofNat 120,Char.ofNat 97,Char.ofNat 109,Char.ofNat 112,Char.ofNat 108,Char.ofNat 101,Char.ofNat 47,Char.ofNat 101,Char.ofNat 110,Char.ofNat 116,Char.ofNat 97,Char.ofNat 105,Char.ofNat 108,Char.ofNat 47,Char.ofNat 108,Char.ofNat 97,Char.ofNat 119,Char.ofNat 115,Char.ofNat 46,Char.ofNat 70,Char.ofNat 110,Char.ofNat 70,Char.ofNat 105,Char.ofNat 110,Char.ofNat 100,Char.ofNat 85,Char.ofNat 112], [Char.ofNat 108,Char.ofNat 111,Char.ofNat 111,Char.ofNat 112,Char.ofNat 46,Char.ofNat 101,Char.ofNat 120,Char.ofNat 97,Char.ofNat 109,Char.ofNat 112,Char.ofNat 108,Char.ofNat 101,Char.ofNat 47,Char.ofNat 101,Char.ofNat 110,Char.ofNat 116,Char.ofNat 97,Char.ofNat 105,Char.ofNat 108,Char.ofNat 47,Char.ofNat 108,Char.ofNat 97,Char.ofNat 119,Char.ofNat 115,Char.ofNat 46,Char.ofNat 70,Char.ofNat 110,Char.ofNat 70,Char.ofNat 105,Char.ofNat 110,Char.ofNat 100,Char.ofNat 66,Char.ofNat 101,Char.ofNat 108,Char.ofNat 111,Char.ofNat 119]]
theorem FW:Try.prog.initOrder.toList=yV:=by
  have h:Try.prog.initOrder=String.ofList yV:=by kernel_rfl
  rw[h,String.toList_ofList]
def CX:List (List Char):= [[Char.ofNat 97,Char.ofNat 116], [Char.ofNat 108,Char.ofNat 111,Char.ofNat 111,Char.ofNat 112,Char.ofNat 46,Char.ofNat 101,Char.ofNat 120,Char.ofNat 97,Char.ofNat 109,Char.ofNat 112,Char.ofNat 108,Char.ofNat 101,Char.ofNat 47,Char.ofNat 101,Char.ofNat 110,Char.ofNat 116,Char.ofNat 97,Char.ofNat 105,Char.ofNat 108,Char.ofNat 47,Char.ofNat 108,Char.ofNat 97,Char.ofNat 119,Char.ofNat 115,Char.ofNat 46,Char.ofNat 70,Char.ofNat 110,Char.ofNat 85,Char.ofNat 110,Char.ofNat 105,Char.ofNat 116,Char.ofNat 66,Char.ofNat 97,Char.ofNat 114,Char.ofNat 101], [Char.ofNat 108,Char.ofNat 111,Char.ofNat 111,Char.ofNat 112,Char.ofNat 46,Char.ofNat 101,Char.ofNat 120,Char.ofNat 97,Char.ofNat 109,Char.ofNat 112,Char.ofNat 108,Char.ofNat 101,Char.ofNat 47,Char.ofNat 101,Char.ofNat 110,Char.ofNat 116,Char.ofNat 97,Char.ofNat 105,Char.ofNat 108,Char.ofNat 47,Char.ofNat 108,Char.ofNat 97,Char.ofNat 119,Char.ofNat 115,Char.ofNat 46,Char.ofNat 70,Char.ofNat 110,Char.ofNat 85,Char.ofNat 110,Char.ofNat 105,Char.ofNat 116,Char.ofNat 70,Char.ofNat 105,Char.ofNat 114,Char.ofNat 115,Char.ofNat 116], [Char.ofNat 108,Char.ofNat 111,Char.ofNat 111,Char.ofNat 112,Char.ofNat 46,Char.ofNat 101,Char.ofNat 120,Char.ofNat 97,Char.ofNat 109,Char.ofNat 112,Char.ofNat 108,Char.ofNat 101,Char.ofNat 47,Char.ofNat 101,Char.ofNat 110,Char.ofNat 116,Char.ofNat 97,Char.ofNat 105,Char.ofNat 108,Char.ofNat 47,Char.ofNat 108,Char.ofNat 97,Char.ofNat 119,Char.ofNat 115,Char.ofNat 46,Char.ofNat 70,Char.ofNat 110,Char.ofNat 70,Char.ofNat 105,Char.ofNat 110,Char.ofNat 100,Char.ofNat 85,Char.ofNat 112], [Char.ofNat 108,Char.ofNat 111,Char.ofNat 111,Char.ofNat 112,Char.ofNat 46,Char.ofNat 101,Char.ofNat 120,Char.ofNat 97,Char.ofNat 109,Char.ofNat 112,Char.ofNat 108,Char.ofNat 101,Char.ofNat 47,Char.ofNat 101,Char.ofNat 110,Char.ofNat 116,Char.ofNat 97,Char.ofNat 105,Char.ofNat 108,Char.ofNat 47,Char.ofNat 108,Char.ofNat 97,Char.ofNat 119,Char.ofNat 115,Char.ofNat 46,Char.ofNat 70,Char.ofNat 110,Char.ofNat 70,Char.ofNat 105,Char.ofNat 110,Char.ofNat 100,Char.ofNat 66,Char.ofNat 101,Char.ofNat 108,Char.ofNat 111,Char.ofNat 119]]
theorem enter:Try.prog.mayEnter=true:=MI (L:=yV) (W:=CW) FW (by kernel_rfl) (c:= [Char.ofNat 99,Char.ofNat 117,Char.ofNat 116]) (rest:=CX) (by kernel_rfl) (by kernel_rfl) (by kernel_rfl) (by kernel_rfl) (by kernel_rfl) (by kernel_rfl)
theorem make:Try.prog.make=some .cut:=Nw (L:=yV) (W:=CW) FW (by kernel_rfl) (c:= [Char.ofNat 99,Char.ofNat 117,Char.ofNat 116]) (rest:=CX) (by kernel_rfl) (by kernel_rfl)
theorem lifts:Try.prog.liftsFinal=false:=MJ (L:=yV) (W:=CW) FW (by kernel_rfl) (c:= [Char.ofNat 99,Char.ofNat 117,Char.ofNat 116]) (rest:=CX) (by kernel_rfl) (by kernel_rfl) (by kernel_rfl)
end Go.Proofs.Ytojpejfcafbafaa
end
section
namespace Go.Proofs.Ytojpejfcafbafaa.fnUnitBare
open Go.ChangeShapes Go.WideShapes Go.ChangeAt Go.RowKit
open Go.ChangeMaps (open_string shut_string)
set_option linter.unusedVariables false
theorem own:ownKnob Try.prog.godebug=none:=by kernel_rfl
theorem laidOut:laidOutB Try.prog=true:=by kernel_rfl
theorem Ny: ∀x∈V.ownTys,V.canAt Try.prog (sameLayout Try.prog Try.prog.depth·5) Try.prog.depth x=false:=by
  intro x hx
  simp only[V.ownTys,List.mem_cons,List.not_mem_nil,or_false]at hx
  rcases hx with rfl|rfl|rfl|rfl|rfl|rfl<;>kernel_rfl
set_option maxRecDepth 100000 in
theorem lifted (os:Os) (started:os.Started) (H:Type) (enc:TypeId×Value→H):
    ReturnsInHanded {} Try.checked os 3 .any (Rows.fnUnitBareSpec.pre6 enc Try.prog Try.f3 Rows.fnUnitBareRow.domain false) (Rows.fnUnitBareSpec.post enc Try.prog Try.f3 false true false false):=by
  refine returnsInHanded_of_change_sized (C:=Try.checked) own started (by kernel_rfl) Try.func3
    (ChangeSpec.witness6 (enc:=enc) (C:=Try.checked) false ⟨#[],#[.slice none 0 0], []⟩ 8 (by kernel_rfl) (by kernel_rfl) (by kernel_rfl) (by kernel_rfl)) ?_
  intro W base args ds gs before hval0 hW hcnd hsz0 _
  have hval: ∀(j:Nat) t v,Try.f3.params[j]? =some t→args[j]? =some v→Value.okWide Try.prog W .any base t v:=hval0
  have hW' :=hW
  obtain⟨p,q,d,hV,rfl,hfz,hnd⟩:=hW
  have hA:DataW.TrodAll enc Try.prog W 0 (fun _=>true) true Try.f3.params.toList args.toList ds p:=d
  rw[Try.params3]at hA hval
  obtain⟨v0,n,d0,ds0,p0,q0,hargs,rfl,rfl,h0,r0⟩:=trodAll_cons hA
  obtain⟨rfl,rfl,rfl⟩:=trodAll_nil r0
  obtain rfl:args= #[v0]:=by cases args;simp_all
  obtain⟨rfl,rfl⟩:=trodVars_none hV
  have ok0:=hval 0 22 v0 rfl rfl
  obtain⟨a0,a,cap0,rfl⟩:=okWide_slice Try.underlying22 ok0
  have k0:=h0
  have k: ∀x∈p0,x.block<W.heap.size:=by obtain⟨m,hm⟩:=k0;exact DataW.trod_lt m _ _ _ hm
  have g: ∀x,a0=some x→0<a→∃cells e' fr,W.heap[x.block]? =some (.cells cells e' fr)∧e' ∉V.ownTys:=fun x hx _=>by
    subst hx
    exact V.bytes_ty Try.underlying22 Try.underlying5 ok0 Ny
  obtain⟨z0,w0⟩: ∃zs,V.BytesAt W a0 a cap0 zs:=by
    obtain⟨fuel,hf⟩:=h0
    rcases open_ints Try.underlying22 Try.underlying5 (by kernel_rfl) hf with⟨hcs,_⟩|⟨x,l,c,zs,hcs,_,hl,hm,hz,_,hcell,hwz⟩
    · simp[Value.cells]at hcs
      obtain⟨rfl,rfl,rfl⟩:=hcs
      exact⟨_,V.bytesAt_of (zs:= []) (.inl ⟨rfl,rfl,rfl,rfl⟩) g⟩
    · simp[Value.cells]at hcs
      obtain⟨rfl,rfl,rfl⟩:=hcs
      exact⟨_,V.bytesAt_of (.inr ⟨_,rfl,hl,hm,by simpa using hz,hcell,hwz⟩) g⟩
  clear d hval0 hsz0
  refine(V.law1 V.bare_ct w0).mono fun e W' ⟨he,bel⟩=> ?_
  subst he
  exact⟨_,rfl,_,_,_, [],_, [],hW',trodAll_mk1 (shut_bool Try.underlying4 _),(trodAll_cons_mk (Below.trod laidOut (by kernel_rfl) (of_decide_eq_true (by kernel_rfl)) k0 bel k) trodAll_mk0),rfl,bel.frame _,fun h=>by cases h⟩
theorem over:Rows.fnUnitBareRow.holds Try.pinned (OpenSpec.ofChange Rows.fnUnitBareSpec):=
  OpenClaim.holds_of_wide 3 Try.f3 rfl rfl rfl rfl rfl rfl rfl ⟨rfl,rfl,rfl,rfl,rfl⟩ rfl rfl rfl rfl rfl (by kernel_rfl) Try.func3 (by show joinedFacts Try.prog _ _ _ _=true;unfold joinedFacts;rw[Go.Proofs.Ytojpejfcafbafaa.enter,Go.Proofs.Ytojpejfcafbafaa.make,Go.Proofs.Ytojpejfcafbafaa.lifts];kernel_rfl)
    (of_decide_eq_true (by kernel_rfl)) (by unfold Func.isWrapper;first|(rw[if_pos (by decide+kernel)];kernel_rfl)|(rw[if_neg (by decide+kernel)];exact⟨rfl,rfl⟩))
    (fun os started H enc _=>lifted os started H enc)
theorem proved:Rows.FnUnitBareSaid:=over
#print axioms proved
end Go.Proofs.Ytojpejfcafbafaa.fnUnitBare
namespace Go.Proofs.Ytojpejfcafbafaa
theorem fnUnitBare_holds:Rows.FnUnitBareSaid:=fnUnitBare.proved
end Go.Proofs.Ytojpejfcafbafaa
end
