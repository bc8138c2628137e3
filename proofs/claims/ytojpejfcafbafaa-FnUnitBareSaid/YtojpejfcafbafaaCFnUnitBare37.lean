/- A part of the claim FnUnitBare. -/
import Derived.OpenShut
import Derived.ChangeOld
import Derived.SizedLaws
import Derived.Test.YtojpejfcafbafaaCFnUnitBare36
section
namespace Go.Proofs.Ytojpejfcafbafaa.V
open Go Go.RowKit Go.Proofs.Ytojpejfcafbafaa.P
set_option linter.unusedVariables false
set_option linter.unusedSimpArgs false
def xE:Array MapEntry:=(r9 sN 0).toArray
theorem MC:iP Try.prog 21 [] (.c (.t (.mp xE 24))):=by
  intro w0 G ρ0 wild cargs hm hs hr
  have e:cargs= #[]:=Array.size_eq_zero_iff.1 (by simpa using hs)
  subst e
  refine(Jp.calls w0).mono ?_
  rintro e w' ⟨g,rfl,hg,hmap,hb⟩
  refine⟨_,_, [],ρ0,rfl,⟨rfl,rfl⟩,⟨⟨hb.os,hb.tape,hb.output,hb.size,fun b h _=>hb.block b h⟩,fun k x h=>by simp[Bs.live,Bs.get]at h,fun k x g h=>by simp[Bs.live,Bs.get]at h,fun k k' x x' g h=>by simp[Bs.live,Bs.get]at h,fun k x h=>by simp[Ctx.ins,Bs.live,Bs.get]at h,fun k x b' h=>by simp[Bs.live,Bs.get]at h,fun e he=>by simp[Bs.get]at he⟩, ?_⟩
  exact RepT.mp g xE 24 hmap ⟨.inr (by show w0.heap.size≤g;omega),(Array.getElem?_eq_some_iff.1 hmap).1,fun k x h=>by simp[Bs.live,Bs.get]at h⟩
def Dk (n:Int) (e:MapEntry):Bool:=match e.key with| .int _ j=>n==j|_=>false
theorem BS (n:Int):C8 (V.agg [C.t (T.s (Value.int .i64 0)),C.t (T.s (Value.int .i64 0))]) xE n=match (r9 sN 0).find? (Dk n)with
  |some e=> .tup [yn e.val, .s (.bool true)]
  |none=> .tup [(V.agg [C.t (T.s (Value.int .i64 0)),C.t (T.s (Value.int .i64 0))]), .s (.bool false)]:=rfl
theorem CS (n:Int): ∀(l:List (Int×Int×Int)) (i:Nat),(r9 l i).find? (Dk n)=none∧lS n l=none∨
    ∃e p,(r9 l i).find? (Dk n)=some e∧lS n l=some p∧e.val= .agg #[.int .i64 p.1, .int .i64 p.2]
  | [],_=> .inl ⟨rfl,rfl⟩
  | x ::l,i=>by
    by_cases h:n=x.1
    · refine .inr ⟨yj x i,x.2, ?_, ?_,rfl⟩
      ·simp[r9,yj,Dk,h]
      ·simp[lS,h]
    · have hb:(n==x.1)=false:=by simpa using h
      rcases CS n l (i+1)with⟨h1,h2⟩|⟨e,p,h1,h2,h3⟩
      ·exact .inl ⟨by simp only[r9,List.find?_cons,yj,Dk,hb];exact h1,by simp only[lS,if_neg h];exact h2⟩
      ·exact .inr ⟨e,p,by simp only[r9,List.find?_cons,yj,Dk,hb];exact h1,by simp only[lS,if_neg h];exact h2,h3⟩
theorem Kl {n:Int} {x:Int×Int×Bool} (h:yD.f n=some x):
    (x.2.2=true∧C8 (V.agg [C.t (T.s (Value.int .i64 0)),C.t (T.s (Value.int .i64 0))]) xE n= .tup [.agg [.t (.s (.int .i64 x.1)), .t (.s (.int .i64 x.2.1))], .s (.bool true)])∨(x.2.2=false∧C8 (V.agg [C.t (T.s (Value.int .i64 0)),C.t (T.s (Value.int .i64 0))]) xE n= .tup [(V.agg [C.t (T.s (Value.int .i64 0)),C.t (T.s (Value.int .i64 0))]), .s (.bool false)]):=by
  unfold yD.f at h
  injection h with h
  rcases CS n sN 0 with⟨h1,h2⟩|⟨e,p,h1,h2,h3⟩
  · rw[h2]at h;subst h
    refine .inr ⟨rfl, ?_⟩
    rw[BS,h1]
  · rw[h2]at h;subst h
    refine .inl ⟨rfl, ?_⟩
    rw[BS,h1]
    simp only[h3,yn,List.map_cons,List.map_nil]
theorem Lx (n:Int):(∀w g,w.heap[g]? =some (.map xE 24)→∃v,(Instr.lookup 51 (.map (some g)) (.int .i64 n) true).run Try.prog w= .ok v w∧∀E,lY E v (C8 (V.agg [C.t (T.s (Value.int .i64 0)),C.t (T.s (Value.int .i64 0))]) xE n))=True:=by
  refine eq_true fun w g hm=> ?_
  obtain⟨j,hj⟩:=zM n sN 0 0
  have hz:(zeroValue 77).run Try.prog w= .ok (.agg #[.int .i64 0, .int .i64 0]) w:=by kernel_rfl
  have hk:MapKept.IsKey (.int .i64) (.int .i64 n):=by simp[MapKept.IsKey]
  have hu:=Try.underlying51
  have hu3:=Try.underlying3
  rcases CS n sN 0 with⟨h1,h2⟩|⟨e,p,h1,h2,h3⟩
  · rw[h2]at hj
    refine⟨.tuple #[.agg #[.int .i64 0, .int .i64 0], .bool false], ?_,fun E=> ?_⟩
    · simp only[Instr.lookup,Sem.run_bind,run_underlying hu,Result.andThen,MapKept.run_getObj_map hm,Sem.run_pure]
      rw[MapKept.run_checkKey hu3 hk]
      simp only[Result.andThen,Sem.run_bind]
      rw[show xE.toList=r9 sN 0 from rfl,MapKept.run_findKey hu3 hj]
      simp only[Result.andThen,Sem.run_bind,hz,Sem.run_pure]
      rfl
    · rw[BS,h1]
      refine⟨_,rfl,rfl,fun i x y hx hy=> ?_⟩
      rcases i with _|_|i<;>simp at hx hy
      · subst hx;subst hy
        refine⟨_,rfl,rfl,fun i x y hx hy=> ?_⟩
        rcases i with _|_|i<;>simp at hx hy
        ·subst hx;subst hy;exact RepT.s _ rfl
        ·subst hx;subst hy;exact RepT.s _ rfl
      ·subst hx;subst hy;exact RepT.s _ rfl
  · rw[h2]at hj
    refine⟨.tuple #[.agg #[.int .i64 p.1, .int .i64 p.2], .bool true], ?_,fun E=> ?_⟩
    · simp only[Instr.lookup,Sem.run_bind,run_underlying hu,Result.andThen,MapKept.run_getObj_map hm,Sem.run_pure]
      rw[MapKept.run_checkKey hu3 hk]
      simp only[Result.andThen,Sem.run_bind]
      rw[show xE.toList=r9 sN 0 from rfl,MapKept.run_findKey hu3 hj]
      rfl
    · rw[BS,h1]
      simp only[h3,yn,List.map_cons,List.map_nil]
      refine⟨_,rfl,rfl,fun i x y hx hy=> ?_⟩
      rcases i with _|_|i<;>simp at hx hy
      · subst hx;subst hy
        refine⟨_,rfl,rfl,fun i x y hx hy=> ?_⟩
        rcases i with _|_|i<;>simp at hx hy
        ·subst hx;subst hy;exact RepT.s _ rfl
        ·subst hx;subst hy;exact RepT.s _ rfl
      ·subst hx;subst hy;exact RepT.s _ rfl
end Go.Proofs.Ytojpejfcafbafaa.V
end
section
namespace Go.Proofs.Ytojpejfcafbafaa.V
open Go Go.RowKit Go.Proofs.Ytojpejfcafbafaa.P
set_option linter.unusedVariables false
set_option linter.unusedSimpArgs false
attribute [local simp ↓] eG eH fT fU eO dO gm eP eQ gp gq gu dP dQ dR gF gB gH gG dS bX dX cB dL dU eT eU eX
attribute [local simp] fV fZ dM bS eF dN bT bU bV bW bN bO dV eY dW bY bZ cu cz bP fE lM iG dB ik evl dH fe fA kF ja List.range List.range.loop lZ kY fu fC iC iA Bs.live Bs.get lN WkV WkA WkC lh lH kZ lD cZ iM TEq.refl bg fK qQ aF aG aD aH aI aJ ei d9 splice dE Bs.set kL fD Rn.at gy gz iF iE lL chunks lC fP toT fB iO rowsOf cK iq plR plV plC lG lF lQ lm fJ iV l8
attribute [local simp] List.length_pos_iff qR qU iI iJ iK puts dh
attribute [local simp ←] iw
attribute [local simp] ksL ru ksV rZ ksC ksT ren jd rT rP dx fM dY dC iZ iB iQ iT lU rO closedB iX kV kP kQ kR kT iL kU
attribute [local simp] ag3 un3 sz3 in3 by3 ze3 ct3 zt3 zu3 ag4 un4 sz4 in4 by4 ze4 ct4 zt4 zu4 ag5 un5 sz5 in5 by5 ze5 ct5 zt5 zu5 mi mq mD mE mF mG mH mI mJ io3 mK io5 bo4 mM mO mP mQ mR mU mV mW mX mY mZ ng ni nk nu ny nz nA nC nD nE nG nH nI nJ nK nL nM nN nO nP nQ nR nS nT nU nV nW nX nY nZ oh ol om oo oq ou ow oz oC oD oF oG oH oI oJ oK oL oM oN oO oP oQ oU oV oW oZ o6 o7 o8 je jf jg jh ji jk jl jm jo jq jr jv jw jy jA jB jC jD jE jF o9 pg pu pz pE pF pG pI pJ pK jG jH jI jJ jK jL jM jN jO jP jQ jR jS jT jU jV jW jX jY jZ kg ko kr ku kv kw ky mz gI gJ gK gL gN gP gQ gT gU gV gW gX gY gZ ib ic pO pQ pR pU pV pW pX pY p9 qa qb qc qd qf qg qh qi qj ql qm qo qp qw qx qy qz qA qB qC qD qE qF qG qH qI qJ qK qL qM qN qO qP mix
attribute [local simp] eb eC eI eS eK eM nm
set_option maxRecDepth 20000 in
set_option maxHeartbeats 4000000 in
theorem wQ (l0:List (S41)) (a1:Int) (r:Bool) (h:vB.f l0 a1=some r):iP Try.prog 31 [.c (.t (tC l0)), .i a1] (.b r):=by
  unfold vB.f at h
  try simp only[aF,aG,aD,aH,aI,aJ]at h
  refine bE Try.func31 rfl rfl rfl ?_
  try simp (maxSteps:=2000000)
  repeat' first
    |(with_reducible (first|(replace h:=bB (by assumption) h)|(replace h:=bC (by assumption) h)|(replace h:=aY (by assumption) h)|(replace h:=aZ (by assumption) h)))
    |((with_reducible have hh:=aB h);clear h;rcases hh with⟨hc,h⟩|⟨hc,h⟩<;>have hd:=hc<;>(first|(replace hc:=dn hc)|(replace hc:=dw hc)|skip)<;>(try simp at hd)<;>(try(first|(subst hd)|(replace hd:=bF hd)|(replace hd:=eq_false hd)|(replace hd:=eq_true hd)))<;>(try simp (maxSteps:=2000000) [*, -h]))
    |(with_reducible replace h:=aL h)
    |(refine⟨(by first|exact aP (by assumption) (by decide) (by decide)|exact aN (by assumption) (by decide) (by decide)), ?_⟩;try simp (maxSteps:=2000000) [*, -h])
    |(cases h;done)
    |(cases h;refine aV _ ?_ ⟨rfl,rfl⟩;simp[*]<;>exact az (by omega) (by omega) (by simp))
set_option maxRecDepth 20000 in
set_option maxHeartbeats 4000000 in
theorem Fg (a0:Int) (r:Bool) (h:yE.f a0=some r):iP Try.prog 70 [.i a0] (.b r):=by
  unfold yE.f at h
  try simp only[aF,aG,aD,aH,aI,aJ]at h
  refine bE Try.func70 rfl rfl rfl ?_
  try simp (maxSteps:=2000000)
  repeat' first
    |(with_reducible (first|(replace h:=bB (by assumption) h)|(replace h:=bC (by assumption) h)|(replace h:=aY (by assumption) h)|(replace h:=aZ (by assumption) h)))
    |((with_reducible have hh:=aB h);clear h;rcases hh with⟨hc,h⟩|⟨hc,h⟩<;>have hd:=hc<;>(first|(replace hc:=dn hc)|(replace hc:=dw hc)|skip)<;>(try simp at hd)<;>(try(first|(subst hd)|(replace hd:=bF hd)|(replace hd:=eq_false hd)|(replace hd:=eq_true hd)))<;>(try simp (maxSteps:=2000000) [*, -h]))
    |(with_reducible replace h:=aL h)
    |(refine⟨(by first|exact aP (by assumption) (by decide) (by decide)|exact aN (by assumption) (by decide) (by decide)), ?_⟩;try simp (maxSteps:=2000000) [*, -h])
    |(cases h;done)
    |(cases h;refine aV _ ?_ ⟨rfl,rfl⟩;simp[*]<;>exact az (by omega) (by omega) (by simp))
set_option maxRecDepth 20000 in
set_option maxHeartbeats 4000000 in
theorem Ac (k:Nat) (l0:List (S41)) (a1:Int) (a2:Int) (r:Bool) (h:lW.f k l0 a1 a2=some r):iP Try.prog 34 [.c (.t (tC l0)), .i a1, .i a2] (.b r):=by
  unfold lW.f at h
  try simp only[aF,aG,aD,aH,aI,aJ]at h
  refine bE Try.func34 rfl rfl rfl ?_
  try simp (maxSteps:=2000000)
  repeat' first
    |(with_reducible (first|(replace h:=bB (by assumption) h)|(replace h:=bC (by assumption) h)|(replace h:=aY (by assumption) h)|(replace h:=aZ (by assumption) h)))
    |((with_reducible have hh:=aB h);clear h;rcases hh with⟨hc,h⟩|⟨hc,h⟩<;>have hd:=hc<;>(first|(replace hc:=dn hc)|(replace hc:=dw hc)|skip)<;>(try simp at hd)<;>(try(first|(subst hd)|(replace hd:=bF hd)|(replace hd:=eq_false hd)|(replace hd:=eq_true hd)))<;>(try simp (maxSteps:=2000000) [*, -h]))
    |(with_reducible replace h:=aL h)
    | (refine rQ [true,true,true,false,false,false,false,true,true] (fun(x7:Int)=> [(7, .i x7)]) (fun n (x7:Int)=>lW.l0 n _ _ x7=some _) h (by first|rfl|simp[mkT]) ?_;clear h;intro k x7 hk h
       obtain⟨k,rfl⟩:=aM (f:=fun k=>lW.l0 k _ _ _) (by simp only[lW.l0]) h;simp only[lW.l0]at h;try simp only[aF,aG,aD,aH,aI,aJ]at h;try simp (maxSteps:=2000000))
    |(exact rR (inv:=fun n (x7:Int)=>lW.l0 n _ _ x7=some _) (by omega) h (by first|exact eD [true,true,true,false,false,false,false,true,true] rfl|exact fo [true,true,true,false,false,false,false,true,true] rfl (by constructor<;>simp[idR,mkT])))
    |(refine⟨(by first|exact aP (by assumption) (by decide) (by decide)|exact aN (by assumption) (by decide) (by decide)), ?_⟩;try simp (maxSteps:=2000000) [*, -h])
    |(cases h;done)
    |(cases h;refine aV _ ?_ ⟨rfl,rfl⟩;simp[*]<;>exact az (by omega) (by omega) (by simp))
set_option maxRecDepth 20000 in
set_option maxHeartbeats 4000000 in
theorem zQ (k:Nat) (l0:List Int) (l1:List Int) (r:Bool) (h:slices_Equal_int_int.f k l0 l1=some r):iP Try.prog 48 [.c (.t (.ints l0)), .c (.t (.ints l1))] (.b r):=by
  unfold slices_Equal_int_int.f at h
  try simp only[aF,aG,aD,aH,aI,aJ]at h
  refine bE Try.func48 rfl rfl rfl ?_
  try simp (maxSteps:=2000000)
  repeat' first
    |(show dZ _ _ 6 _ _ _ _;refine aU (by decide) [[], [], [0,1], [2,0,1], [], [], [4,5], [6,4,5], [3,7,2,0,1,6,4,5]] [16,17,18,19,20,21,22,23,24] [0,1,2,3,4,5,6,7,8] (by kernel_rfl) ?_;try simp (maxSteps:=2000000) [*, -h,aj,ah,ae,ai,ak,au,af,Op.operands,Call.operands])
    |(with_reducible (first|(replace h:=bB (by assumption) h)|(replace h:=bC (by assumption) h)|(replace h:=aY (by assumption) h)|(replace h:=aZ (by assumption) h)))
    |((with_reducible have hh:=aB h);clear h;rcases hh with⟨hc,h⟩|⟨hc,h⟩<;>have hd:=hc<;>(first|(replace hc:=dn hc)|(replace hc:=dw hc)|skip)<;>(try simp at hd)<;>(try(first|(subst hd)|(replace hd:=bF hd)|(replace hd:=eq_false hd)|(replace hd:=eq_true hd)))<;>(try simp (maxSteps:=2000000) [*, -h,aj,ah,ae,ai,ak,au,af,Op.operands,Call.operands]))
    |(with_reducible replace h:=aL h)
    | (refine rQ [true,true,false,false,false,false,true,true,true,true,true,true,true,true] (fun(a:Int)=> [(13, .i a)]) (fun n (a:Int)=>slices_Equal_int_int.l0 n _ _ _ a=some _) h (by first|rfl|simp[mkT]) ?_;clear h;intro k a hk h
       obtain⟨k,rfl⟩:=aM (f:=fun k=>slices_Equal_int_int.l0 k _ _ _ _) (by simp only[slices_Equal_int_int.l0]) h;simp only[slices_Equal_int_int.l0]at h;try simp only[aF,aG,aD,aH,aI,aJ]at h;try simp (maxSteps:=2000000))
    |(exact rR (inv:=fun n (a:Int)=>slices_Equal_int_int.l0 n _ _ _ a=some _) (by omega) h (by first|exact eD [true,true,false,false,false,false,true,true,true,true,true,true,true,true] rfl|exact fo [true,true,false,false,false,false,true,true,true,true,true,true,true,true] rfl (by constructor<;>simp[idR,mkT])))
    |(refine⟨(by first|exact aP (by assumption) (by decide) (by decide)|exact aN (by assumption) (by decide) (by decide)), ?_⟩;try simp (maxSteps:=2000000) [*, -h,aj,ah,ae,ai,ak,au,af,Op.operands,Call.operands])
    |(cases h;done)
    |(cases h;refine aV _ ?_ ⟨rfl,rfl⟩;simp[*]<;>exact az (by omega) (by omega) (by simp))
end Go.Proofs.Ytojpejfcafbafaa.V
end
section
namespace Go.Proofs.Ytojpejfcafbafaa.V
open Go Go.RowKit Go.Proofs.Ytojpejfcafbafaa.P
set_option linter.unusedVariables false
set_option linter.unusedSimpArgs false
attribute [local simp ↓] eG eH fT fU eO dO gm eP eQ gp gq gu dP dQ dR gF gB gH gG dS bX dX cB dL dU eT eU eX
attribute [local simp] fV fZ dM bS eF dN bT bU bV bW bN bO dV eY dW bY bZ cu cz bP fE lM iG dB ik evl dH fe fA kF ja List.range List.range.loop lZ kY fu fC iC iA Bs.live Bs.get lN WkV WkA WkC lh lH kZ lD cZ iM TEq.refl bg fK qQ aF aG aD aH aI aJ ei d9 splice dE Bs.set kL fD Rn.at gy gz iF iE lL chunks lC fP toT fB iO rowsOf cK iq plR plV plC lG lF lQ lm fJ iV l8
attribute [local simp] List.length_pos_iff qR qU iI iJ iK puts dh
attribute [local simp ←] iw
attribute [local simp] wR vE mkI asT yn DY ifB yL zO Bf Bg Bh Bi Bj Bl zq E5 E8
attribute [local simp] ksL ru ksV rZ ksC ksT ren jd rT rP dx fM dY dC iZ iB iQ iT lU rO closedB iX kV kP kQ kR kT iL kU
attribute [local simp] ag3 un3 sz3 in3 by3 ze3 ct3 zt3 zu3 ag4 un4 sz4 in4 by4 ze4 ct4 zt4 zu4 ag5 un5 sz5 in5 by5 ze5 ct5 zt5 zu5 mi mq mD mE mF mG mH mI mJ io3 mK io5 bo4 mM mO mP mQ mR mU mV mW mX mY mZ ng ni nk nu ny nz nA nC nD nE nG nH nI nJ nK nL nM nN nO nP nQ nR nS nT nU nV nW nX nY nZ oh ol om oo oq ou ow oz oC oD oF oG oH oI oJ oK oL oM oN oO oP oQ oU oV oW oZ o6 o7 o8 je jf jg jh ji jk jl jm jo jq jr jv jw jy jA jB jC jD jE jF o9 pg pu pz pE pF pG pI pJ pK jG jH jI jJ jK jL jM jN jO jP jQ jR jS jT jU jV jW jX jY jZ kg ko kr ku kv kw ky mz gI gJ gK gL gN gP gQ gT gU gV gW gX gY gZ ib ic pO pQ pR pU pV pW pX pY p9 qa qb qc qd qf qg qh qi qj ql qm qo qp qw qx qy qz qA qB qC qD qE qF qG qH qI qJ qK qL qM qN qO qP mix
attribute [local simp] eb eC eI eS eK eM nm
set_option maxRecDepth 20000 in
set_option maxHeartbeats 4000000 in
theorem Dm (k:Nat) (l0:List (S41)) (r:Bool) (h:aA.f k l0=some r):iP Try.prog 20 [.c (.t (tC l0))] (.b r):=by
  unfold aA.f at h
  try simp only[aF,aG,aD,aH,aI,aJ]at h
  refine bE Try.func20 rfl rfl rfl ?_
  try simp -implicitDefEqProofs (maxSteps:=2000000)
  repeat' first
    |(with_reducible (first|(replace h:=bB (by assumption) h)|(replace h:=bC (by assumption) h)|(replace h:=aY (by assumption) h)|(replace h:=aZ (by assumption) h)))
    |((with_reducible have hh:=aB h);clear h;rcases hh with⟨hc,h⟩|⟨hc,h⟩<;>have hd:=hc<;>(first|(replace hc:=dn hc)|(replace hc:=dw hc)|skip)<;>(try simp at hd)<;>(first|exact absurd hd (of_eq_false (by assumption))|exact absurd (of_eq_true (by assumption)) hd|skip)<;>(try(first|(subst hd)|(replace hd:=bF hd)|(replace hd:=eq_false hd)|(replace hd:=eq_true hd)))<;>(try(first|(have he:=ltT hd)|(have he:=leT hd)))<;>(try simp -implicitDefEqProofs (maxSteps:=2000000) [*, -h]))
    |(with_reducible replace h:=aL h)
    | ((with_reducible have hh:=Option.bind_eq_some_iff.1 h);clear h;obtain⟨x_,hx_,h⟩:=hh;(first|(refine av (zP (h:=hx_)) rfl rfl ?_ ⟨rfl,rfl⟩ ?_;(·simp[*]);clear hx_;try simp -implicitDefEqProofs (maxSteps:=2000000) [*, -h]))
       )
    |(obtain⟨k,rfl⟩:=aM (f:=fun k=>aA.j0 k _ _) (by simp only[aA.j0]) h;simp only[aA.j0]at h;try simp only[aF,aG,aD,aH,aI,aJ,beq_iff_eq,decide_eq_true_eq]at h)
    |(obtain⟨k,rfl⟩:=aM (f:=fun k=>aA.j1 k _ _) (by simp only[aA.j1]) h;simp only[aA.j1]at h;try simp only[aF,aG,aD,aH,aI,aJ,beq_iff_eq,decide_eq_true_eq]at h)
    |(obtain⟨k,rfl⟩:=aM (f:=fun k=>aA.j2 k _ _) (by simp only[aA.j2]) h;simp only[aA.j2]at h;try simp only[aF,aG,aD,aH,aI,aJ,beq_iff_eq,decide_eq_true_eq]at h)
    |(obtain⟨k,rfl⟩:=aM (f:=fun k=>aA.j4 k _ _ _ _ _ _ _) (by simp only[aA.j4]) h;simp only[aA.j4]at h;try simp only[aF,aG,aD,aH,aI,aJ,beq_iff_eq,decide_eq_true_eq]at h)
    | (refine rQ [true,false,false,true,false,false,false,false,true,true,true,true,true,true,true,true,true,true,true,true,true,true,true,true,true,true,true,true,true,true,true,true,true,true,true,true,true,true,true,true,true,true,true,true,true,true,true,true,true,true,true] (fun(a:Int)=> [(50, .i a)]) (fun n (a:Int)=>aA.l0 n _ _ _ a=some _) h (by first|rfl|simp[mkT]) ?_;clear h;intro k a hk h
       obtain⟨k,rfl⟩:=aM (f:=fun k=>aA.l0 k _ _ _ _) (by simp only[aA.l0]) h;simp only[aA.l0]at h;try simp only[aF,aG,aD,aH,aI,aJ,beq_iff_eq,decide_eq_true_eq]at h;try simp -implicitDefEqProofs (maxSteps:=2000000))
    |(exact rR (inv:=fun n (a:Int)=>aA.l0 n _ _ _ a=some _) (by omega) h (by first|exact eD [true,false,false,true,false,false,false,false,true,true,true,true,true,true,true,true,true,true,true,true,true,true,true,true,true,true,true,true,true,true,true,true,true,true,true,true,true,true,true,true,true,true,true,true,true,true,true,true,true,true,true] rfl|exact fo [true,false,false,true,false,false,false,false,true,true,true,true,true,true,true,true,true,true,true,true,true,true,true,true,true,true,true,true,true,true,true,true,true,true,true,true,true,true,true,true,true,true,true,true,true,true,true,true,true,true,true] rfl (by constructor<;>simp[idR,mkT])))
    | (refine rQ [true,false,false,true,true,true,false,false,true,true,true,true,true,true,true,true,true,true,true,true,true,true,true,true,true,true,true,true,true,true,true,true,true,true,true,true,true,true,true,true,true,true,true,true,true,true,true,true,true,true,true,true,true,true,true,true,true,true,true,true,true,true,true,true,true,true,true,true,true,true,true,true,true,true,true,true] (fun(d:Int)=> [(75, .i d)]) (fun n (d:Int)=>aA.l1 n _ _ _ _ _ _ d=some _) h (by first|rfl|simp[mkT]) ?_;clear h;intro k d hk h
       obtain⟨k,rfl⟩:=aM (f:=fun k=>aA.l1 k _ _ _ _ _ _ _) (by simp only[aA.l1]) h;simp only[aA.l1]at h;try simp only[aF,aG,aD,aH,aI,aJ,beq_iff_eq,decide_eq_true_eq]at h;try simp -implicitDefEqProofs (maxSteps:=2000000))
    |(exact rR (inv:=fun n (d:Int)=>aA.l1 n _ _ _ _ _ _ d=some _) (by omega) h (by first|exact eD [true,false,false,true,true,true,false,false,true,true,true,true,true,true,true,true,true,true,true,true,true,true,true,true,true,true,true,true,true,true,true,true,true,true,true,true,true,true,true,true,true,true,true,true,true,true,true,true,true,true,true,true,true,true,true,true,true,true,true,true,true,true,true,true,true,true,true,true,true,true,true,true,true,true,true,true] rfl|exact fo [true,false,false,true,true,true,false,false,true,true,true,true,true,true,true,true,true,true,true,true,true,true,true,true,true,true,true,true,true,true,true,true,true,true,true,true,true,true,true,true,true,true,true,true,true,true,true,true,true,true,true,true,true,true,true,true,true,true,true,true,true,true,true,true,true,true,true,true,true,true,true,true,true,true,true,true] rfl (by constructor<;>simp[idR,mkT])))
    |(refine⟨(by first|exact aP (by assumption) (by decide) (by decide)|exact aN (by assumption) (by decide) (by decide)), ?_⟩;try simp -implicitDefEqProofs (maxSteps:=2000000) [*, -h])
    |(cases h;done)
    |(cases h;refine aV _ ?_ ⟨rfl,rfl⟩;simp[*]<;>exact az (by omega) (by omega) (by simp))
    |(exfalso;clear h;simp_all;done)
set_option maxRecDepth 20000 in
set_option maxHeartbeats 4000000 in
theorem BX (a:Int) (d:Int) (e:List Int) (g:Int) (j:Int) (k:List (S67)) (m:List (S69)) (n:List (S73)) (r:List Int) (h:xV.f a d e g j k m n=some r):iP Try.prog 45 [.agg [.t (.i a), .t (.i d), .t (.ints e), .t (.i g), .t (.i j), .t (tI k), .t (tS m), .t (tK n)]] (.c (.t (.ints r))):=by
  unfold xV.f at h
  try simp only[aF,aG,aD,aH,aI,aJ]at h
  refine bE Try.func45 rfl rfl rfl ?_
  try simp -implicitDefEqProofs (maxSteps:=2000000)
  repeat' first
    |(with_reducible (first|(replace h:=bB (by assumption) h)|(replace h:=bC (by assumption) h)|(replace h:=aY (by assumption) h)|(replace h:=aZ (by assumption) h)))
    |((with_reducible have hh:=aB h);clear h;rcases hh with⟨hc,h⟩|⟨hc,h⟩<;>have hd:=hc<;>(first|(replace hc:=dn hc)|(replace hc:=dw hc)|skip)<;>(try simp at hd)<;>(first|exact absurd hd (of_eq_false (by assumption))|exact absurd (of_eq_true (by assumption)) hd|skip)<;>(try(first|(subst hd)|(replace hd:=bF hd)|(replace hd:=eq_false hd)|(replace hd:=eq_true hd)))<;>(try(first|(have he:=ltT hd)|(have he:=leT hd)))<;>(try simp -implicitDefEqProofs (maxSteps:=2000000) [*, -h]))
    |(with_reducible replace h:=aL h)
    |(refine⟨(by first|exact aP (by assumption) (by decide) (by decide)|exact aN (by assumption) (by decide) (by decide)), ?_⟩;try simp -implicitDefEqProofs (maxSteps:=2000000) [*, -h])
    |(cases h;done)
    |(cases h;refine aV _ ?_ ⟨rfl,rfl⟩;simp[*]<;>exact az (by omega) (by omega) (by simp))
    |(exfalso;clear h;simp_all;done)
set_option maxRecDepth 20000 in
set_option maxHeartbeats 4000000 in
theorem Dn (k:Nat) (c:List (S41)) (d:List (S35)) (e:Int) (g:Int) (j:List Int) (m:Int) (o:Int) (p:List (S67)) (q:List (S69)) (u:List (S73)) (r:Bool) (h:bG.f k c d e g j m o p q u=some r):iP Try.prog 24 [.agg [.t (tC c), .t (tM d)], .agg [.t (.i e), .t (.i g), .t (.ints j), .t (.i m), .t (.i o), .t (tI p), .t (tS q), .t (tK u)]] (.b r):=by
  unfold bG.f at h
  try simp only[aF,aG,aD,aH,aI,aJ]at h
  refine bE Try.func24 rfl rfl rfl ?_
  try simp -implicitDefEqProofs (maxSteps:=2000000)
  repeat' first
    |(with_reducible (first|(replace h:=bB (by assumption) h)|(replace h:=bC (by assumption) h)|(replace h:=aY (by assumption) h)|(replace h:=aZ (by assumption) h)))
    |((with_reducible have hh:=aB h);clear h;rcases hh with⟨hc,h⟩|⟨hc,h⟩<;>have hd:=hc<;>(first|(replace hc:=dn hc)|(replace hc:=dw hc)|skip)<;>(try simp at hd)<;>(first|exact absurd hd (of_eq_false (by assumption))|exact absurd (of_eq_true (by assumption)) hd|skip)<;>(try(first|(subst hd)|(replace hd:=bF hd)|(replace hd:=eq_false hd)|(replace hd:=eq_true hd)))<;>(try(first|(have he:=ltT hd)|(have he:=leT hd)))<;>(try simp -implicitDefEqProofs (maxSteps:=2000000) [*, -h]))
    |(with_reducible replace h:=aL h)
    | ((with_reducible have hh:=Option.bind_eq_some_iff.1 h);clear h;obtain⟨x_,hx_,h⟩:=hh;(first|(refine av (wQ (h:=hx_)) rfl rfl ?_ ⟨rfl,rfl⟩ ?_;(·simp[*]);clear hx_;try simp -implicitDefEqProofs (maxSteps:=2000000) [*, -h])|(refine av (Ac (h:=hx_)) rfl rfl ?_ ⟨rfl,rfl⟩ ?_;(·simp[*]);clear hx_;try simp -implicitDefEqProofs (maxSteps:=2000000) [*, -h]))
       )
    |(obtain⟨k,rfl⟩:=aM (f:=fun k=>bG.j1 k _ _ _ _ _ _ _ _ _ _ _ _ _ _ _ _ _ _) (by simp only[bG.j1]) h;simp only[bG.j1]at h;try simp only[aF,aG,aD,aH,aI,aJ,beq_iff_eq,decide_eq_true_eq]at h)
    |(obtain⟨k,rfl⟩:=aM (f:=fun k=>bG.j2 k _ _ _ _ _ _ _ _ _ _ _ _ _ _ _ _ _ _) (by simp only[bG.j2]) h;simp only[bG.j2]at h;try simp only[aF,aG,aD,aH,aI,aJ,beq_iff_eq,decide_eq_true_eq]at h)
    | (refine rQ [true,true,true,true,false,false,false,true,true,true,true,true,true,true,true] (fun(a:Int)=> [(14, .i a)]) (fun n (a:Int)=>bG.l0 n _ _ a _ _ _ _ _ _ _ _ _ _=some _) h (by first|rfl|simp[mkT]) ?_;clear h;intro k a hk h
       obtain⟨k,rfl⟩:=aM (f:=fun k=>bG.l0 k _ _ _ _ _ _ _ _ _ _ _ _ _) (by simp only[bG.l0]) h;simp only[bG.l0]at h;try simp only[aF,aG,aD,aH,aI,aJ,beq_iff_eq,decide_eq_true_eq]at h;try simp -implicitDefEqProofs (maxSteps:=2000000))
    |(exact rR (inv:=fun n (a:Int)=>bG.l0 n _ _ a _ _ _ _ _ _ _ _ _ _=some _) (by omega) h (by first|exact eD [true,true,true,true,false,false,false,true,true,true,true,true,true,true,true] rfl|exact fo [true,true,true,true,false,false,false,true,true,true,true,true,true,true,true] rfl (by constructor<;>simp[idR,mkT])))
    |(refine⟨(by first|exact aP (by assumption) (by decide) (by decide)|exact aN (by assumption) (by decide) (by decide)), ?_⟩;try simp -implicitDefEqProofs (maxSteps:=2000000) [*, -h])
    |(cases h;done)
    |(cases h;refine aV _ ?_ ⟨rfl,rfl⟩;simp[*]<;>exact az (by omega) (by omega) (by simp))
    |(exfalso;clear h;simp_all;done)
set_option maxRecDepth 20000 in
set_option maxHeartbeats 4000000 in
theorem Gu (k:Nat) (d:List (S41)) (e:List (S35)) (r:Bool) (h:cO.f k d e=some r):iP Try.prog 25 [.agg [.t (tC d), .t (tM e)]] (.b r):=by
  unfold cO.f at h
  try simp only[aF,aG,aD,aH,aI,aJ]at h
  refine bE Try.func25 rfl rfl rfl ?_
  try simp -implicitDefEqProofs (maxSteps:=2000000)
  repeat' first
    |(with_reducible (first|(replace h:=bB (by assumption) h)|(replace h:=bC (by assumption) h)|(replace h:=aY (by assumption) h)|(replace h:=aZ (by assumption) h)))
    |((with_reducible have hh:=aB h);clear h;rcases hh with⟨hc,h⟩|⟨hc,h⟩<;>have hd:=hc<;>(first|(replace hc:=dn hc)|(replace hc:=dw hc)|skip)<;>(try simp at hd)<;>(first|exact absurd hd (of_eq_false (by assumption))|exact absurd (of_eq_true (by assumption)) hd|skip)<;>(try(first|(subst hd)|(replace hd:=bF hd)|(replace hd:=eq_false hd)|(replace hd:=eq_true hd)))<;>(try(first|(have he:=ltT hd)|(have he:=leT hd)))<;>(try simp -implicitDefEqProofs (maxSteps:=2000000) [*, -h]))
    |(with_reducible replace h:=aL h)
    | ((with_reducible have hh:=Option.bind_eq_some_iff.1 h);clear h;obtain⟨x_,hx_,h⟩:=hh;(first|(refine av (Ac (h:=hx_)) rfl rfl ?_ ⟨rfl,rfl⟩ ?_;(·simp[*]);clear hx_;try simp -implicitDefEqProofs (maxSteps:=2000000) [*, -h])|(refine av (zQ (h:=hx_)) rfl rfl ?_ ⟨rfl,rfl⟩ ?_;(·simp[*]);clear hx_;try simp -implicitDefEqProofs (maxSteps:=2000000) [*, -h]))
       )
    |(obtain⟨k,rfl⟩:=aM (f:=fun k=>cO.j2 k _ _ _ _ _ _ _ _ _ _ _ _ _ _ _ _ _ _ _ _ _ _ _ _ _ _) (by simp only[cO.j2]) h;simp only[cO.j2]at h;try simp only[aF,aG,aD,aH,aI,aJ,beq_iff_eq,decide_eq_true_eq]at h)
    | (refine rQ [true,true,false,false,false,false,false,true,true,true,true] (fun(a:Int)=> [(10, .i a)]) (fun n (a:Int)=>cO.l0 n _ _ a _ _=some _) h (by first|rfl|simp[mkT]) ?_;clear h;intro k a hk h
       obtain⟨k,rfl⟩:=aM (f:=fun k=>cO.l0 k _ _ _ _ _) (by simp only[cO.l0]) h;simp only[cO.l0]at h;try simp only[aF,aG,aD,aH,aI,aJ,beq_iff_eq,decide_eq_true_eq]at h;try simp -implicitDefEqProofs (maxSteps:=2000000))
    |(exact rR (inv:=fun n (a:Int)=>cO.l0 n _ _ a _ _=some _) (by omega) h (by first|exact eD [true,true,false,false,false,false,false,true,true,true,true] rfl|exact fo [true,true,false,false,false,false,false,true,true,true,true] rfl (by constructor<;>simp[idR,mkT])))
    | (refine rQ [true,true,false,true,true,false,false,true,true,true,true,true,true,true,true,true,true,true,true] (fun(c:Int)=> [(18, .i c)]) (fun n (c:Int)=>cO.l1 n _ _ _ _ _ _ c _ _ _ _ _ _ _ _ _ _=some _) h (by first|rfl|simp[mkT]) ?_;clear h;intro k c hk h
       obtain⟨k,rfl⟩:=aM (f:=fun k=>cO.l1 k _ _ _ _ _ _ _ _ _ _ _ _ _ _ _ _ _) (by simp only[cO.l1]) h;simp only[cO.l1]at h;try simp only[aF,aG,aD,aH,aI,aJ,beq_iff_eq,decide_eq_true_eq]at h;try simp -implicitDefEqProofs (maxSteps:=2000000))
    |(exact rR (inv:=fun n (c:Int)=>cO.l1 n _ _ _ _ _ _ c _ _ _ _ _ _ _ _ _ _=some _) (by omega) h (by first|exact eD [true,true,false,true,true,false,false,true,true,true,true,true,true,true,true,true,true,true,true] rfl|exact fo [true,true,false,true,true,false,false,true,true,true,true,true,true,true,true,true,true,true,true] rfl (by constructor<;>simp[idR,mkT])))
    |(refine⟨(by first|exact aP (by assumption) (by decide) (by decide)|exact aN (by assumption) (by decide) (by decide)), ?_⟩;try simp -implicitDefEqProofs (maxSteps:=2000000) [*, -h])
    |(cases h;done)
    |(cases h;refine aV _ ?_ ⟨rfl,rfl⟩;simp[*]<;>exact az (by omega) (by omega) (by simp))
    |(exfalso;clear h;simp_all;done)
set_option maxRecDepth 20000 in
set_option maxHeartbeats 4000000 in
theorem Dp (k:Nat) (a:List (S41)) (c:List (S35)) (d:Int) (e:Int) (g:List Int) (j:Int) (m:Int) (n:List (S67)) (o:List (S69)) (p:List (S73)) (q:Int) (u:Int) (v:Int) (a3:Int) (a4:Int) (r:Bool) (h:vw.f k a c d e g j m n o p q u v a3 a4=some r):iP Try.prog 46 [.agg [.t (tC a), .t (tM c)], .agg [.t (.i d), .t (.i e), .t (.ints g), .t (.i j), .t (.i m), .t (tI n), .t (tS o), .t (tK p)], .agg [.t (.i q), .t (.i u), .t (.i v)], .i a3, .i a4] (.b r):=by
  unfold vw.f at h
  try simp only[aF,aG,aD,aH,aI,aJ]at h
  refine bE Try.func46 rfl rfl rfl ?_
  try simp -implicitDefEqProofs (maxSteps:=2000000)
  repeat' first
    |(with_reducible (first|(replace h:=bB (by assumption) h)|(replace h:=bC (by assumption) h)|(replace h:=aY (by assumption) h)|(replace h:=aZ (by assumption) h)))
    |((with_reducible have hh:=aB h);clear h;rcases hh with⟨hc,h⟩|⟨hc,h⟩<;>have hd:=hc<;>(first|(replace hc:=dn hc)|(replace hc:=dw hc)|skip)<;>(try simp at hd)<;>(first|exact absurd hd (of_eq_false (by assumption))|exact absurd (of_eq_true (by assumption)) hd|skip)<;>(try(first|(subst hd)|(replace hd:=bF hd)|(replace hd:=eq_false hd)|(replace hd:=eq_true hd)))<;>(try(first|(have he:=ltT hd)|(have he:=leT hd)))<;>(try simp -implicitDefEqProofs (maxSteps:=2000000) [*, -h]))
    |(with_reducible replace h:=aL h)
    | ((with_reducible have hh:=Option.bind_eq_some_iff.1 h);clear h;obtain⟨x_,hx_,h⟩:=hh;(first|(refine av (Fg (h:=hx_)) rfl rfl ?_ ⟨rfl,rfl⟩ ?_;(·simp[*]);clear hx_;try simp -implicitDefEqProofs (maxSteps:=2000000) [*, -h])|(refine av (wQ (h:=hx_)) rfl rfl ?_ ⟨rfl,rfl⟩ ?_;(·simp[*]);clear hx_;try simp -implicitDefEqProofs (maxSteps:=2000000) [*, -h])|(refine Ao [] [] rfl rfl (E9 _ _ _ _ hx_) ?_ (by simp) rfl (by simp) ?_;(·simp[*]);clear hx_;try simp -implicitDefEqProofs (maxSteps:=2000000) [*, -h]))
       )
    |(refine⟨(by first|exact aP (by assumption) (by decide) (by decide)|exact aN (by assumption) (by decide) (by decide)), ?_⟩;try simp -implicitDefEqProofs (maxSteps:=2000000) [*, -h])
    |(cases h;done)
    |(cases h;refine aV _ ?_ ⟨rfl,rfl⟩;simp[*]<;>exact az (by omega) (by omega) (by simp))
    |(exfalso;clear h;simp_all;done)
set_option maxRecDepth 20000 in
set_option maxHeartbeats 4000000 in
theorem En (k:Nat) (l0:List (S41)) (a1:Int) (d:Bool) (e:List Int) (g:List Int) (r:Bool) (h:bR.f k l0 a1 d e g=some r):iP Try.prog 47 [.c (.t (tC l0)), .i a1, .agg [.t (.b d), .t (.ints e), .t (.ints g)]] (.b r):=by
  unfold bR.f at h
  try simp only[aF,aG,aD,aH,aI,aJ]at h
  refine bE Try.func47 rfl rfl rfl ?_
  try simp -implicitDefEqProofs (maxSteps:=2000000)
  repeat' first
    |(with_reducible (first|(replace h:=bB (by assumption) h)|(replace h:=bC (by assumption) h)|(replace h:=aY (by assumption) h)|(replace h:=aZ (by assumption) h)))
    |((with_reducible have hh:=aB h);clear h;rcases hh with⟨hc,h⟩|⟨hc,h⟩<;>have hd:=hc<;>(first|(replace hc:=dn hc)|(replace hc:=dw hc)|skip)<;>(try simp at hd)<;>(first|exact absurd hd (of_eq_false (by assumption))|exact absurd (of_eq_true (by assumption)) hd|skip)<;>(try(first|(subst hd)|(replace hd:=bF hd)|(replace hd:=eq_false hd)|(replace hd:=eq_true hd)))<;>(try(first|(have he:=ltT hd)|(have he:=leT hd)))<;>(try simp -implicitDefEqProofs (maxSteps:=2000000) [*, -h]))
    |(with_reducible replace h:=aL h)
    | ((with_reducible have hh:=Option.bind_eq_some_iff.1 h);clear h;obtain⟨x_,hx_,h⟩:=hh;(first|(refine av (Gs (h:=hx_)) rfl rfl ?_ ⟨rfl,rfl⟩ ?_;(·simp[*]);try rcases EZ hx_ with rfl|rfl|rfl|rfl|rfl|rfl|j;clear hx_;try simp -implicitDefEqProofs (maxSteps:=2000000) [*, -h]))
       )
    |(obtain⟨k,rfl⟩:=aM (f:=fun k=>bR.j0 k _ _ _ _ _) (by simp only[bR.j0]) h;simp only[bR.j0]at h;try simp only[aF,aG,aD,aH,aI,aJ,beq_iff_eq,decide_eq_true_eq]at h)
    | (refine rQ [true,true,true,false,false,true,false,false,false,false,false,true,true,true,true,true,true,true,true,true,true,true,true,true,true,true,true,true,true,true,true,true,true,true,true,true,true,true,true] (fun(x38:Int)=> [(38, .i x38)]) (fun n (x38:Int)=>bR.l0 n _ _ _ x38 _ _ _=some _) h (by first|rfl|simp[mkT]) ?_;clear h;intro k x38 hk h
       obtain⟨k,rfl⟩:=aM (f:=fun k=>bR.l0 k _ _ _ _ _ _ _) (by simp only[bR.l0]) h;simp only[bR.l0]at h;try simp only[aF,aG,aD,aH,aI,aJ,beq_iff_eq,decide_eq_true_eq]at h;try simp -implicitDefEqProofs (maxSteps:=2000000))
    |(exact rR (inv:=fun n (x38:Int)=>bR.l0 n _ _ _ x38 _ _ _=some _) (by omega) h (by first|exact eD [true,true,true,false,false,true,false,false,false,false,false,true,true,true,true,true,true,true,true,true,true,true,true,true,true,true,true,true,true,true,true,true,true,true,true,true,true,true,true] rfl|exact fo [true,true,true,false,false,true,false,false,false,false,false,true,true,true,true,true,true,true,true,true,true,true,true,true,true,true,true,true,true,true,true,true,true,true,true,true,true,true,true] rfl (by constructor<;>simp[idR,mkT])))
    | (refine rQ [true,true,true,false,false,true,false,false,true,false,false,true,true,true,true,true,true,true,true,true,true,true,true,true,true,true,true,true,true,true,true,true,true,true,true,true,true,true,true,true,true,true,true,true,true,true,true,true,true,true,true,true] (fun(a:Int)=> [(51, .i a)]) (fun n (a:Int)=>bR.l1 n _ _ _ a=some _) h (by first|rfl|simp[mkT]) ?_;clear h;intro k a hk h
       obtain⟨k,rfl⟩:=aM (f:=fun k=>bR.l1 k _ _ _ _) (by simp only[bR.l1]) h;simp only[bR.l1]at h;try simp only[aF,aG,aD,aH,aI,aJ,beq_iff_eq,decide_eq_true_eq]at h;try simp -implicitDefEqProofs (maxSteps:=2000000))
    |(exact rR (inv:=fun n (a:Int)=>bR.l1 n _ _ _ a=some _) (by omega) h (by first|exact eD [true,true,true,false,false,true,false,false,true,false,false,true,true,true,true,true,true,true,true,true,true,true,true,true,true,true,true,true,true,true,true,true,true,true,true,true,true,true,true,true,true,true,true,true,true,true,true,true,true,true,true,true] rfl|exact fo [true,true,true,false,false,true,false,false,true,false,false,true,true,true,true,true,true,true,true,true,true,true,true,true,true,true,true,true,true,true,true,true,true,true,true,true,true,true,true,true,true,true,true,true,true,true,true,true,true,true,true,true] rfl (by constructor<;>simp[idR,mkT])))
    |(refine⟨(by first|exact aP (by assumption) (by decide) (by decide)|exact aN (by assumption) (by decide) (by decide)), ?_⟩;try simp -implicitDefEqProofs (maxSteps:=2000000) [*, -h])
    |(cases h;done)
    |(cases h;refine aV _ ?_ ⟨rfl,rfl⟩;simp[*]<;>exact az (by omega) (by omega) (by simp))
    |(exfalso;clear h;simp_all;done)
end Go.Proofs.Ytojpejfcafbafaa.V
end
section
namespace Go.Proofs.Ytojpejfcafbafaa.V
open Go Go.RowKit Go.Proofs.Ytojpejfcafbafaa.P
set_option linter.unusedVariables false
set_option linter.unusedSimpArgs false
attribute [local simp ↓] eG eH fT fU eO dO gm eP eQ gp gq gu dP dQ dR gF gB gH gG dS bX dX cB dL dU eT eU eX
attribute [local simp] fV fZ dM bS eF dN bT bU bV bW bN bO dV eY dW bY bZ cu cz bP fE lM iG dB ik evl dH fe fA kF ja List.range List.range.loop lZ kY fu fC iC iA Bs.live Bs.get lN WkV WkA WkC lh lH kZ lD cZ iM TEq.refl bg fK qQ aF aG aD aH aI aJ ei d9 splice dE Bs.set kL fD Rn.at gy gz iF iE lL chunks lC fP toT fB iO rowsOf cK iq plR plV plC lG lF lQ lm fJ iV l8
attribute [local simp] List.length_pos_iff qR qU iI iJ iK puts dh
attribute [local simp ←] iw
attribute [local simp] wR vE mkI asT yn DY ifB yL zO Bf Bg Bh Bi Bj Bl zq E5 E8
attribute [local simp] ksL ru ksV rZ ksC ksT ren jd rT rP dx fM dY dC iZ iB iQ iT lU rO closedB iX kV kP kQ kR kT iL kU
attribute [local simp] ag3 un3 sz3 in3 by3 ze3 ct3 zt3 zu3 ag4 un4 sz4 in4 by4 ze4 ct4 zt4 zu4 ag5 un5 sz5 in5 by5 ze5 ct5 zt5 zu5 mi mq mD mE mF mG mH mI mJ io3 mK io5 bo4 mM mO mP mQ mR mU mV mW mX mY mZ ng ni nk nu ny nz nA nC nD nE nG nH nI nJ nK nL nM nN nO nP nQ nR nS nT nU nV nW nX nY nZ oh ol om oo oq ou ow oz oC oD oF oG oH oI oJ oK oL oM oN oO oP oQ oU oV oW oZ o6 o7 o8 je jf jg jh ji jk jl jm jo jq jr jv jw jy jA jB jC jD jE jF o9 pg pu pz pE pF pG pI pJ pK jG jH jI jJ jK jL jM jN jO jP jQ jR jS jT jU jV jW jX jY jZ kg ko kr ku kv kw ky mz gI gJ gK gL gN gP gQ gT gU gV gW gX gY gZ ib ic pO pQ pR pU pV pW pX pY p9 qa qb qc qd qf qg qh qi qj ql qm qo qp qw qx qy qz qA qB qC qD qE qF qG qH qI qJ qK qL qM qN qO qP mix
attribute [local simp] eb eC eI eS eK eM nm Lx
set_option maxRecDepth 20000 in
set_option maxHeartbeats 4000000 in
theorem Fh (k:Nat) (c:List (S41)) (d:List (S35)) (e:Int) (g:Int) (j:List Int) (m:Int) (o:Int) (p:List (S67)) (q:List (S69)) (u:List (S73)) (r:Bool) (h:dK.f k c d e g j m o p q u=some r):iP Try.prog 22 [.agg [.t (tC c), .t (tM d)], .agg [.t (.i e), .t (.i g), .t (.ints j), .t (.i m), .t (.i o), .t (tI p), .t (tS q), .t (tK u)]] (.b r):=by
  unfold dK.f at h
  try simp only[aF,aG,aD,aH,aI,aJ]at h
  refine bE Try.func22 rfl rfl rfl ?_
  try simp -implicitDefEqProofs (maxSteps:=2000000)
  repeat' first
    |(show dZ _ _ 14 _ _ _ _;refine aU (by decide) [[], [0], [1,0], [2,1,0], [3,2,1,0], [4,3,2,1,0], [3,2,1,0], [6,3,2,1,0], [7,3,6,2,1,0], [5,8,3,4,2,1,0,7,6], [3,9,2,1,0,5,8,4,7,6], [10,7,0,1,2,3,4,5,6,8,9]] [61,62,63,64,65,66,67,68,69,70,71,4] [0,1,2,3,4,5,6,7,8,9,10,11] (by kernel_rfl) ?_;try simp -implicitDefEqProofs (maxSteps:=2000000) [*, -h,aj,ah,ae,ai,ak,au,af,Op.operands,Call.operands])
    |(with_reducible (first|(replace h:=bB (by assumption) h)|(replace h:=bC (by assumption) h)|(replace h:=aY (by assumption) h)|(replace h:=aZ (by assumption) h)))
    |((with_reducible have hh:=aB h);clear h;rcases hh with⟨hc,h⟩|⟨hc,h⟩<;>have hd:=hc<;>(first|(replace hc:=dn hc)|(replace hc:=dw hc)|skip)<;>(try simp at hd)<;>(first|exact absurd hd (of_eq_false (by assumption))|exact absurd (of_eq_true (by assumption)) hd|skip)<;>(try(first|(subst hd)|(replace hd:=bF hd)|(replace hd:=eq_false hd)|(replace hd:=eq_true hd)))<;>(try(first|(have he:=ltT hd)|(have he:=leT hd)))<;>(try simp -implicitDefEqProofs (maxSteps:=2000000) [*, -h,aj,ah,ae,ai,ak,au,af,Op.operands,Call.operands]))
    |(with_reducible replace h:=aL h)
    | ((with_reducible have hh:=Option.bind_eq_some_iff.1 h);clear h;obtain⟨x_,hx_,h⟩:=hh;(first|(refine av (zP (h:=hx_)) rfl rfl ?_ ⟨rfl,rfl⟩ ?_;(·simp[*]);clear hx_;try simp -implicitDefEqProofs (maxSteps:=2000000) [*, -h,aj,ah,ae,ai,ak,au,af,Op.operands,Call.operands])|(refine bf (zP (h:=hx_)) rfl rfl ?_ ⟨rfl,rfl⟩ rfl ?_;(·simp[*]);clear hx_;try simp -implicitDefEqProofs (maxSteps:=2000000) [*, -h,aj,ah,ae,ai,ak,au,af,Op.operands,Call.operands])|(refine av (BX (h:=hx_)) rfl rfl ?_ ⟨rfl,rfl⟩ ?_;(·simp[*]);clear hx_;try simp -implicitDefEqProofs (maxSteps:=2000000) [*, -h,aj,ah,ae,ai,ak,au,af,Op.operands,Call.operands])|(refine bf (BX (h:=hx_)) rfl rfl ?_ ⟨rfl,rfl⟩ rfl ?_;(·simp[*]);clear hx_;try simp -implicitDefEqProofs (maxSteps:=2000000) [*, -h,aj,ah,ae,ai,ak,au,af,Op.operands,Call.operands])|(refine av (wQ (h:=hx_)) rfl rfl ?_ ⟨rfl,rfl⟩ ?_;(·simp[*]);clear hx_;try simp -implicitDefEqProofs (maxSteps:=2000000) [*, -h,aj,ah,ae,ai,ak,au,af,Op.operands,Call.operands])|(refine bf (wQ (h:=hx_)) rfl rfl ?_ ⟨rfl,rfl⟩ rfl ?_;(·simp[*]);clear hx_;try simp -implicitDefEqProofs (maxSteps:=2000000) [*, -h,aj,ah,ae,ai,ak,au,af,Op.operands,Call.operands]))
       )
    |(obtain⟨k,rfl⟩:=aM (f:=fun k=>dK.j0 k _ _ _ _ _ _ _ _ _ _) (by simp only[dK.j0]) h;simp only[dK.j0]at h;try simp only[aF,aG,aD,aH,aI,aJ,beq_iff_eq,decide_eq_true_eq]at h)
    |(obtain⟨k,rfl⟩:=aM (f:=fun k=>dK.j1 k _ _ _ _ _ _ _ _ _ _ _) (by simp only[dK.j1]) h;simp only[dK.j1]at h;try simp only[aF,aG,aD,aH,aI,aJ,beq_iff_eq,decide_eq_true_eq]at h)
    | (refine rQ [true,true,true,true,false,false,false,true,true,true,true,true,true,true,true,true,true,true,true,true,true,true,true,true,true,true,true,true,true,true,true,true,true,true,true,true,true,true,true,true,true,true,true,true,true,true,true,true,true,true,true] (fun(a:Int)=> [(50, .i a)]) (fun n (a:Int)=>dK.l0 n _ _ a _ _ _ _ _ _ _ _ _ _=some _) h (by first|rfl|simp[mkT]) ?_;clear h;intro k a hk h
       obtain⟨k,rfl⟩:=aM (f:=fun k=>dK.l0 k _ _ _ _ _ _ _ _ _ _ _ _ _) (by simp only[dK.l0]) h;simp only[dK.l0]at h;try simp only[aF,aG,aD,aH,aI,aJ,beq_iff_eq,decide_eq_true_eq]at h;try simp -implicitDefEqProofs (maxSteps:=2000000))
    |(exact rR (inv:=fun n (a:Int)=>dK.l0 n _ _ a _ _ _ _ _ _ _ _ _ _=some _) (by omega) h (by first|exact eD [true,true,true,true,false,false,false,true,true,true,true,true,true,true,true,true,true,true,true,true,true,true,true,true,true,true,true,true,true,true,true,true,true,true,true,true,true,true,true,true,true,true,true,true,true,true,true,true,true,true,true] rfl|exact fo [true,true,true,true,false,false,false,true,true,true,true,true,true,true,true,true,true,true,true,true,true,true,true,true,true,true,true,true,true,true,true,true,true,true,true,true,true,true,true,true,true,true,true,true,true,true,true,true,true,true,true] rfl (by constructor<;>simp[idR,mkT])))
    |(refine⟨(by first|exact aP (by assumption) (by decide) (by decide)|exact aN (by assumption) (by decide) (by decide)), ?_⟩;try simp -implicitDefEqProofs (maxSteps:=2000000) [*, -h,aj,ah,ae,ai,ak,au,af,Op.operands,Call.operands])
    |(cases h;done)
    |(cases h;refine aV _ ?_ ⟨rfl,rfl⟩;simp[*]<;>exact az (by omega) (by omega) (by simp))
    |(exfalso;clear h;simp_all;done)
set_option maxRecDepth 20000 in
set_option maxHeartbeats 4000000 in
theorem Fj (k:Nat) (e:List (S41)) (g:List (S35)) (j:Int) (m:Int) (o:List Int) (p:Int) (q:Int) (u:List (S67)) (v:List (S69)) (w:List (S73)) (a2:Int) (r:Bool) (h:dz.f k e g j m o p q u v w a2=some r):iP Try.prog 23 [.agg [.t (tC e), .t (tM g)], .agg [.t (.i j), .t (.i m), .t (.ints o), .t (.i p), .t (.i q), .t (tI u), .t (tS v), .t (tK w)], .c (.t (.mp xE 24))] (.b r):=by
  unfold dz.f at h
  try simp only[aF,aG,aD,aH,aI,aJ]at h
  refine bE Try.func23 rfl rfl rfl ?_
  try simp -implicitDefEqProofs (maxSteps:=2000000)
  repeat' first
    |(with_reducible (first|(replace h:=bB (by assumption) h)|(replace h:=bC (by assumption) h)|(replace h:=aY (by assumption) h)|(replace h:=aZ (by assumption) h)))
    |((with_reducible have hh:=aB h);clear h;rcases hh with⟨hc,h⟩|⟨hc,h⟩<;>have hd:=hc<;>(first|(replace hc:=dn hc)|(replace hc:=dw hc)|skip)<;>(try simp at hd)<;>(first|exact absurd hd (of_eq_false (by assumption))|exact absurd (of_eq_true (by assumption)) hd|skip)<;>(try(first|(subst hd)|(replace hd:=bF hd)|(replace hd:=eq_false hd)|(replace hd:=eq_true hd)))<;>(try(first|(have he:=ltT hd)|(have he:=leT hd)))<;>(try simp -implicitDefEqProofs (maxSteps:=2000000) [*, -h]))
    |(with_reducible replace h:=aL h)
    | ((with_reducible have hh:=Option.bind_eq_some_iff.1 h);clear h;obtain⟨x_,hx_,h⟩:=hh;(first|(refine av (Dp (h:=hx_)) rfl rfl ?_ ⟨rfl,rfl⟩ ?_;(·simp[*]);clear hx_;try simp -implicitDefEqProofs (maxSteps:=2000000) [*, -h])|(refine av (En (h:=hx_)) rfl rfl ?_ ⟨rfl,rfl⟩ ?_;(·simp[*]);clear hx_;try simp -implicitDefEqProofs (maxSteps:=2000000) [*, -h]))
       )
    |(obtain⟨k,rfl⟩:=aM (f:=fun k=>dz.j0 k _ _ _ _ _ _ _ _ _ _ _) (by simp only[dz.j0]) h;simp only[dz.j0]at h;try simp only[aF,aG,aD,aH,aI,aJ,beq_iff_eq,decide_eq_true_eq]at h)
    |((with_reducible have hh:=Option.bind_eq_some_iff.1 h);clear h;obtain⟨x_,hx_,h⟩:=hh;rcases Kl hx_ with⟨x,y⟩|⟨x,y⟩<;>clear hx_<;>(try simp -implicitDefEqProofs (maxSteps:=2000000) [*, -h]))
    | (refine rQ [true,true,true,true,true,false,false,false,false,false,false,false,false,true,true,true,true,true,true,true,true,true,true,true,true,true,true,true,true,true,true,true,true,true,true,true] (fun(a:Int)=> [(35, .i a)]) (fun n (a:Int)=>dz.l0 n _ _ a _ _ _ _ _ _ _ _ _ _=some _) h (by first|rfl|simp[mkT]) ?_;clear h;intro k a hk h
       obtain⟨k,rfl⟩:=aM (f:=fun k=>dz.l0 k _ _ _ _ _ _ _ _ _ _ _ _ _) (by simp only[dz.l0]) h;simp only[dz.l0]at h;try simp only[aF,aG,aD,aH,aI,aJ,beq_iff_eq,decide_eq_true_eq]at h;try simp -implicitDefEqProofs (maxSteps:=2000000))
    |(exact rR (inv:=fun n (a:Int)=>dz.l0 n _ _ a _ _ _ _ _ _ _ _ _ _=some _) (by omega) h (by first|exact eD [true,true,true,true,true,false,false,false,false,false,false,false,false,true,true,true,true,true,true,true,true,true,true,true,true,true,true,true,true,true,true,true,true,true,true,true] rfl|exact fo [true,true,true,true,true,false,false,false,false,false,false,false,false,true,true,true,true,true,true,true,true,true,true,true,true,true,true,true,true,true,true,true,true,true,true,true] rfl (by constructor<;>simp[idR,mkT])))
    | (refine rQ [true,true,true,true,true,false,false,false,true,true,true,false,false,true,true,true,true,true,true,true,true,true,true,true,true,true,true,true,true,true,true,true,true,true,true,true,true,true,true,true,true,true,true,true,true,true,true,true,true,true,true,true,true,true,true,true,true,true,true,true,true,true,true,true,true,true,true,true,true,true,true,true,true,true,true] (fun(d:Int)=> [(74, .i d)]) (fun n (d:Int)=>dz.l1 n _ _ d _ _ _ _ _ _ _ _ _ _=some _) h (by first|rfl|simp[mkT]) ?_;clear h;intro k d hk h
       obtain⟨k,rfl⟩:=aM (f:=fun k=>dz.l1 k _ _ _ _ _ _ _ _ _ _ _ _ _) (by simp only[dz.l1]) h;simp only[dz.l1]at h;try simp only[aF,aG,aD,aH,aI,aJ,beq_iff_eq,decide_eq_true_eq]at h;try simp -implicitDefEqProofs (maxSteps:=2000000))
    |(exact rR (inv:=fun n (d:Int)=>dz.l1 n _ _ d _ _ _ _ _ _ _ _ _ _=some _) (by omega) h (by first|exact eD [true,true,true,true,true,false,false,false,true,true,true,false,false,true,true,true,true,true,true,true,true,true,true,true,true,true,true,true,true,true,true,true,true,true,true,true,true,true,true,true,true,true,true,true,true,true,true,true,true,true,true,true,true,true,true,true,true,true,true,true,true,true,true,true,true,true,true,true,true,true,true,true,true,true,true] rfl|exact fo [true,true,true,true,true,false,false,false,true,true,true,false,false,true,true,true,true,true,true,true,true,true,true,true,true,true,true,true,true,true,true,true,true,true,true,true,true,true,true,true,true,true,true,true,true,true,true,true,true,true,true,true,true,true,true,true,true,true,true,true,true,true,true,true,true,true,true,true,true,true,true,true,true,true,true] rfl (by constructor<;>simp[idR,mkT])))
    |(refine⟨(by first|exact aP (by assumption) (by decide) (by decide)|exact aN (by assumption) (by decide) (by decide)), ?_⟩;try simp -implicitDefEqProofs (maxSteps:=2000000) [*, -h])
    |(cases h;done)
    |(cases h;refine aV _ ?_ ⟨rfl,rfl⟩;simp[*]<;>exact az (by omega) (by omega) (by simp))
    |(exfalso;clear h;simp_all;done)
end Go.Proofs.Ytojpejfcafbafaa.V
end
section
namespace Go.Proofs.Ytojpejfcafbafaa.P
open Go.RowKit Go.Proofs.YtojpejfcafbafaaW.PrintWords Go.Proofs.YtojpejfcafbafaaW.PrintLast Go.Proofs.YtojpejfcafbafaaW.PrintMore
attribute [local go_sem] bn bq bL bM aW aX bu bv
set_option linter.unusedVariables false
set_option linter.unusedSimpArgs false
end Go.Proofs.Ytojpejfcafbafaa.P
end
section
namespace Go.Proofs.Ytojpejfcafbafaa.V
open Go Go.RowKit Go.Proofs.Ytojpejfcafbafaa.P
set_option linter.unusedVariables false
set_option linter.unusedSimpArgs false
attribute [local simp ↓] eG eH fT fU eO dO gm eP eQ gp gq gu dP dQ dR gF gB gH gG dS bX dX cB dL dU eT eU eX
attribute [local simp] fV fZ dM bS eF dN bT bU bV bW bN bO dV eY dW bY bZ cu cz bP fE lM iG dB ik evl dH fe fA kF ja List.range List.range.loop lZ kY fu fC iC iA Bs.live Bs.get lN WkV WkA WkC lh lH kZ lD cZ iM TEq.refl bg fK qQ aF aG aD aH aI aJ ei d9 splice dE Bs.set kL fD Rn.at gy gz iF iE lL chunks lC fP toT fB iO rowsOf cK iq plR plV plC lG lF lQ lm fJ iV l8
attribute [local simp] List.length_pos_iff qR qU iI iJ iK puts dh
attribute [local simp ←] iw
attribute [local simp] wR vE mkI asT yn DY ifB yL zO Bf Bg Bh Bi Bj Bl zq E5 E8
attribute [local simp] ksL ru ksV rZ ksC ksT ren jd rT rP dx fM dY dC iZ iB iQ iT lU rO closedB iX kV kP kQ kR kT iL kU
attribute [local simp] ag3 un3 sz3 in3 by3 ze3 ct3 zt3 zu3 ag4 un4 sz4 in4 by4 ze4 ct4 zt4 zu4 ag5 un5 sz5 in5 by5 ze5 ct5 zt5 zu5 mi mq mD mE mF mG mH mI mJ io3 mK io5 bo4 mM mO mP mQ mR mU mV mW mX mY mZ ng ni nk nu ny nz nA nC nD nE nG nH nI nJ nK nL nM nN nO nP nQ nR nS nT nU nV nW nX nY nZ oh ol om oo oq ou ow oz oC oD oF oG oH oI oJ oK oL oM oN oO oP oQ oU oV oW oZ o6 o7 o8 je jf jg jh ji jk jl jm jo jq jr jv jw jy jA jB jC jD jE jF o9 pg pu pz pE pF pG pI pJ pK jG jH jI jJ jK jL jM jN jO jP jQ jR jS jT jU jV jW jX jY jZ kg ko kr ku kv kw ky mz gI gJ gK gL gN gP gQ gT gU gV gW gX gY gZ ib ic pO pQ pR pU pV pW pX pY p9 qa qb qc qd qf qg qh qi qj ql qm qo qp qw qx qy qz qA qB qC qD qE qF qG qH qI qJ qK qL qM qN qO qP mix
attribute [local simp] eb eC eI eS eK eM nm
set_option maxRecDepth 20000 in
set_option maxHeartbeats 4000000 in
theorem AY (k:Nat) (c:List (S41)) (d:List (S35)) (r:Bool) (h:dA.f k c d=some r):iP Try.prog 8 [.agg [.t (tC c), .t (tM d)]] (.b r):=by
  unfold dA.f at h
  try simp only[aF,aG,aD,aH,aI,aJ]at h
  refine bE Try.func8 rfl rfl rfl ?_
  try simp -implicitDefEqProofs (maxSteps:=2000000)
  repeat' first
    |(with_reducible (first|(replace h:=bB (by assumption) h)|(replace h:=bC (by assumption) h)|(replace h:=aY (by assumption) h)|(replace h:=aZ (by assumption) h)))
    |((with_reducible have hh:=aB h);clear h;rcases hh with⟨hc,h⟩|⟨hc,h⟩<;>have hd:=hc<;>(first|(replace hc:=dn hc)|(replace hc:=dw hc)|skip)<;>(try simp at hd)<;>(first|exact absurd hd (of_eq_false (by assumption))|exact absurd (of_eq_true (by assumption)) hd|skip)<;>(try(first|(subst hd)|(replace hd:=bF hd)|(replace hd:=eq_false hd)|(replace hd:=eq_true hd)))<;>(try(first|(have he:=ltT hd)|(have he:=leT hd)))<;>(try simp -implicitDefEqProofs (maxSteps:=2000000) [*, -h]))
    |(with_reducible replace h:=aL h)
    | ((with_reducible have hh:=Option.bind_eq_some_iff.1 h);clear h;obtain⟨x_,hx_,h⟩:=hh;(first|(refine av (Fh (h:=hx_)) rfl rfl ?_ ⟨rfl,rfl⟩ ?_;(·simp[*]);clear hx_;try simp -implicitDefEqProofs (maxSteps:=2000000) [*, -h])|(refine av (Fj (h:=hx_)) rfl rfl ?_ ⟨rfl,rfl⟩ ?_;(·simp[*]);clear hx_;try simp -implicitDefEqProofs (maxSteps:=2000000) [*, -h])|(refine av (Dn (h:=hx_)) rfl rfl ?_ ⟨rfl,rfl⟩ ?_;(·simp[*]);clear hx_;try simp -implicitDefEqProofs (maxSteps:=2000000) [*, -h])|(refine av (Gu (h:=hx_)) rfl rfl ?_ ⟨rfl,rfl⟩ ?_;(·simp[*]);clear hx_;try simp -implicitDefEqProofs (maxSteps:=2000000) [*, -h])|(refine av (Dm (h:=hx_)) rfl rfl ?_ ⟨rfl,rfl⟩ ?_;(·simp[*]);clear hx_;try simp -implicitDefEqProofs (maxSteps:=2000000) [*, -h]))
       )
    |(obtain⟨k,rfl⟩:=aM (f:=fun k=>dA.j0 k _ _ _) (by simp only[dA.j0]) h;simp only[dA.j0]at h;try simp only[aF,aG,aD,aH,aI,aJ,beq_iff_eq,decide_eq_true_eq]at h)
    |(obtain⟨k,rfl⟩:=aM (f:=fun k=>dA.j1 k _ _ _) (by simp only[dA.j1]) h;simp only[dA.j1]at h;try simp only[aF,aG,aD,aH,aI,aJ,beq_iff_eq,decide_eq_true_eq]at h)
    |(refine av MC rfl rfl ?_ ⟨rfl,rfl⟩ ?_;(·simp);try simp -implicitDefEqProofs (maxSteps:=2000000) [*, -h])
    | (refine rQ [true,true,false,true,true,false,false,true,true,true,true,true,true,true,true,true,true,true,true,true,true,true,true,true,true,true,true,true,true,true,true,true,true,true,true,true,true,true,true,true,true,true,true,true,true,true] (fun(a:Int)=> [(45, .i a)]) (fun n (a:Int)=>dA.l0 n _ _ a _ _=some _) h (by first|rfl|simp[mkT]) ?_;clear h;intro k a hk h
       obtain⟨k,rfl⟩:=aM (f:=fun k=>dA.l0 k _ _ _ _ _) (by simp only[dA.l0]) h;simp only[dA.l0]at h;try simp only[aF,aG,aD,aH,aI,aJ,beq_iff_eq,decide_eq_true_eq]at h;try simp -implicitDefEqProofs (maxSteps:=2000000))
    |(exact rR (inv:=fun n (a:Int)=>dA.l0 n _ _ a _ _=some _) (by omega) h (by first|exact eD [true,true,false,true,true,false,false,true,true,true,true,true,true,true,true,true,true,true,true,true,true,true,true,true,true,true,true,true,true,true,true,true,true,true,true,true,true,true,true,true,true,true,true,true,true,true] rfl|exact fo [true,true,false,true,true,false,false,true,true,true,true,true,true,true,true,true,true,true,true,true,true,true,true,true,true,true,true,true,true,true,true,true,true,true,true,true,true,true,true,true,true,true,true,true,true,true] rfl (by constructor<;>simp[idR,mkT])))
    |(refine⟨(by first|exact aP (by assumption) (by decide) (by decide)|exact aN (by assumption) (by decide) (by decide)), ?_⟩;try simp -implicitDefEqProofs (maxSteps:=2000000) [*, -h])
    |(cases h;done)
    |(cases h;refine aV _ ?_ ⟨rfl,rfl⟩;simp[*]<;>exact az (by omega) (by omega) (by simp))
    |(exfalso;clear h;simp_all;done)
end Go.Proofs.Ytojpejfcafbafaa.V
end
section
namespace Go.Proofs.Ytojpejfcafbafaa.Kit
open Go Go.RowKit Go.Proofs.YtojpejfcafbafaaW.PrintWords Go.Proofs.Ytojpejfcafbafaa.P
set_option linter.unusedVariables false
set_option linter.unusedSimpArgs false
theorem CU {ms:List Mth} {i:Nat} (h:i<ms.length):mth ms i=ms[i]:=by
  show ms.getD i _=_
  rw[List.getD_eq_getElem?_getD,List.getElem?_eq_getElem h];rfl
structure Alike (ms ns:List Mth):Prop where
  len:ns.length=ms.length
  f0: ∀i,(mth ns i).f0=(mth ms i).f0
  f1: ∀i,(mth ns i).f1=(mth ms i).f1
  f2: ∀i,(mth ns i).f2=(mth ms i).f2
  f3: ∀i,(mth ns i).f3=(mth ms i).f3
  f4: ∀i,(mth ns i).f4=(mth ms i).f4
  f5: ∀i,(mth ns i).f5=(mth ms i).f5
  f7: ∀i,(mth ns i).f7=(mth ms i).f7
theorem sQ.alike {cs:List Cls} {ms ns:List Mth} (h:Alike ms ns) {a4:Int} {nc:Nat} {xa what n:Int} (ho:sQ cs ms a4 nc xa what n):sQ cs ns a4 nc xa what n:=by
  unfold sQ at ho⊢
  have e: ∀n:Int,(ns.getD n.toNat z35).f0=(ms.getD n.toNat z35).f0:=fun n=>h.f0 n.toNat
  rw[e,h.len];exact ho
theorem Agree.alike {cs:List Cls} {ms ns:List Mth} (h:Alike ms ns) (ha:Agree cs ms):Agree cs ns:=by
  intro i hi hil j hj hjl hne
  have:=ha i hi (by rw[←h.len];exact hil) j hj (by rw[←h.len];exact hjl) hne
  unfold wO at this⊢
  rw[h.f0,h.f0,h.f1,h.f1,h.f2,h.f2,h.f3,h.f3];exact this
theorem UnitOk_.alike {cs:List Cls} {ms ns:List Mth} (h:Alike ms ns) (hu:UnitOk_ cs ms)
    (hs: ∀i,i<ms.length→(mth ns i).f6.length=(mth ms i).f5.length∧∀j,j<(mth ns i).f6.length→yJ cs (mth ms i).f4 ((mth ns i).f6.getD j z69)):UnitOk_ cs ns:=by
  obtain⟨h1,h2,h3,h4,h5⟩:=hu
  refine⟨h1,by rw[h.len];exact h2, ?_,fun i hi hil=> ?_,h5.alike h⟩
  · unfold Jj at h3⊢
    rw[h.f0,h.f2,h.f3];exact h3
  · have hil' :i<ms.length:=by rw[←h.len];exact hil
    obtain⟨a,b,c⟩:=h4 i hi hil'
    obtain⟨g1,g2⟩:=hs i hil'
    unfold uU
    rw[h.f0,h.f1,h.f2,h.f3,h.f4,h.f5,h.f7]
    refine⟨a,⟨⟨b.1.1,b.1.2.1,g1⟩,fun j hj hjl=> ?_,fun j _ hjl=>g2 j hjl⟩,c⟩
    obtain⟨p,q,e1,e2,e3⟩:=b.2.1 j hj hjl
    exact⟨p,q,e1,e2.alike h,e3.alike h⟩
def BU (m:Mth):Mth:= {m with f6:=List.replicate m.f5.length z69}
def bareN (ms:List Mth) (n:Nat):List Mth:=(ms.take n).map BU++ms.drop n
theorem bareN_len (ms:List Mth) (n:Nat):(bareN ms n).length=ms.length:=by simp[bareN];omega
theorem bareN_zero (ms:List Mth):bareN ms 0=ms:=by simp[bareN]
theorem yB {ms:List Mth} {n i:Nat} (h:i<n) (hi:i<ms.length):mth (bareN ms n) i=BU (mth ms i):=by
  rw[CU hi,CU (by rw[bareN_len];exact hi)]
  simp only[bareN]
  rw[List.getElem_append_left (by simp;omega)]
  simp
theorem bareN_ge {ms:List Mth} {n i:Nat} (h:n≤i):mth (bareN ms n) i=mth ms i:=by
  show(bareN ms n).getD i _=ms.getD i _
  simp only[bareN,List.getD_eq_getElem?_getD]
  rcases Nat.lt_or_ge n ms.length with h2|h2
  · rw[List.getElem?_append_right (by simp;omega)]
    simp only[List.length_map,List.length_take,List.getElem?_drop]
    rw[show n+(i - min n ms.length)=i by omega]
  · have e1:ms[i]? =none:=List.getElem?_eq_none (by omega)
    have e2:(List.map BU (List.take n ms)++List.drop n ms)[i]? =none:=List.getElem?_eq_none (by simp;omega)
    rw[e1,e2]
theorem bareN_succ {ms:List Mth} {n:Nat} (h:n<ms.length):(bareN ms n).set n (BU (mth ms n))=bareN ms (n+1):=by
  refine List.ext_getElem (by simp[bareN_len]) fun i h1 h2=> ?_
  have hi:i<ms.length:=by rw[bareN_len]at h2;exact h2
  rw[List.getElem_set]
  split
  · rename_i e;subst e
    rw[←CU h2,yB (by omega) hi]
  · rename_i e
    rw[←CU (ms:=bareN ms n) (by rw[bareN_len];exact hi),←CU h2]
    rcases Nat.lt_or_ge i n with h3|h3
    ·rw[yB h3 hi,yB (by omega) hi]
    ·rw[bareN_ge h3,bareN_ge (by omega)]
theorem Km {ms:List Mth}:Alike ms (bareN ms ms.length):=by
  have e: ∀i,i<ms.length→mth (bareN ms ms.length) i=BU (mth ms i):=fun i hi=>yB hi hi
  have o: ∀i,ms.length≤i→mth (bareN ms ms.length) i=mth ms i:=fun i hi=>bareN_ge hi
  have key: ∀(P:Mth→Prop) (Q:Mth→Mth→Prop),(∀m,Q (BU m) m)→(∀m,Q m m)→∀i,Q (mth (bareN ms ms.length) i) (mth ms i):=fun P Q h1 h2 i=>by
    rcases Nat.lt_or_ge i ms.length with h|h
    ·rw[e i h];exact h1 _
    ·rw[o i h];exact h2 _
  exact⟨bareN_len _ _,key (fun _=>True) (fun a b=>a.f0=b.f0) (fun _=>rfl) fun _=>rfl,key (fun _=>True) (fun a b=>a.f1=b.f1) (fun _=>rfl) fun _=>rfl,key (fun _=>True) (fun a b=>a.f2=b.f2) (fun _=>rfl) fun _=>rfl,
    key (fun _=>True) (fun a b=>a.f3=b.f3) (fun _=>rfl) fun _=>rfl,key (fun _=>True) (fun a b=>a.f4=b.f4) (fun _=>rfl) fun _=>rfl,key (fun _=>True) (fun a b=>a.f5=b.f5) (fun _=>rfl) fun _=>rfl,key (fun _=>True) (fun a b=>a.f7=b.f7) (fun _=>rfl) fun _=>rfl⟩
theorem rep_getD {n j:Nat}:(List.replicate n z69).getD j z69=z69:=by
  rw[List.getD_eq_getElem?_getD,List.getElem?_replicate];split<;>rfl
theorem unitOk_bare {cs:List Cls} {ms:List Mth} (hu:UnitOk_ cs ms):UnitOk_ cs (bareN ms ms.length):=
  hu.alike Km fun i hi=>by
    rw[yB hi hi]
    refine⟨by simp[BU],fun j _=> ?_⟩
    show yJ cs _ ((List.replicate _ z69).getD j z69)
    rw[rep_getD]
    exact .inr ⟨rfl,rfl,rfl⟩
theorem small_bare {cs:List Cls} {ms:List Mth} (hu:SmallU cs ms):SmallU cs (bareN ms ms.length):=by
  refine⟨hu.c,by rw[bareN_len];exact hu.m,fun i hi=> ?_⟩
  rw[bareN_len]at hi
  have h:=hu.e i hi
  rw[yB hi hi]
  refine⟨h.a3,h.l2,h.i2,h.l5,by show(List.replicate _ _).length≤_;simp;exact h.l5,h.l7,fun j hj=> ?_⟩
  show SmallS ((List.replicate _ z69).getD j z69)
  rw[rep_getD]
  exact⟨by decide,by decide,fun t (h:t∈([]:List Int))=>(by cases h),fun t (h:t∈([]:List Int))=>(by cases h)⟩
theorem locals_ge {cs:List Cls} {ms:List Mth} (hu:UnitOk_ cs ms) {i:Nat} (hi:i<ms.length):self_ (mth ms i).f0+((mth ms i).f2.length:Int)≤(mth ms i).f4∧(mth ms i).f2.length≤2∧(1≤(mth ms i).f5.length∧(mth ms i).f5.length≤12):=
  have h:=hu.2.2.2.1 i (Nat.zero_le _) hi
  ⟨h.1.2.2.2.2.2,h.1.2.1,h.2.1.1.1,h.2.1.1.2.1⟩
theorem Agree.one {cs:List Cls} {ms:List Mth} (h:Agree cs ms) {i j:Nat} {c:Nat} {sel:Int} (hi:i<ms.length) (hj:j<ms.length) (h1:Ans ms (c:Int) sel i) (h2:Ans ms (c:Int) sel j):i=j:=by
  rcases Nat.decEq i j with hne|he
  · have:=h i (Nat.zero_le _) hi j (Nat.zero_le _) hj hne
    have e:=this (by rw[h1.1];omega) (by rw[h2.1];omega) (by rw[h1.2,h2.2]) (by rw[h1.1,h2.1];exact .refl _)
    exact absurd (by rw[h1.1,h2.1]) e.1
  ·exact he
theorem FindM.is {cs:List Cls} {ms:List Mth} {sel c r:Int} (h:FindM cs ms sel c r):r<0∨∃i:Nat,r=(i:Int)∧i<ms.length∧(mth ms i).f1=sel∧0≤(mth ms i).f0∧Up cs c.toNat (mth ms i).f0.toNat:=by
  induction h with
  |none h=>exact .inl (by omega)
  | @hit c i hc hi h hn=>exact .inr ⟨i,rfl,hi,h.2,by rw[h.1];exact hc,by rw[h.1];exact .refl _⟩
  | @up c r hn h ih=>
    rcases ih with h1|⟨i,h1,h2,h3,h4,h5⟩
    ·exact .inl h1
    · have hs:0≤sup cs c:=by
        rcases Int.lt_or_le (sup cs c) 0 with h6|h6
        · clear h5
          generalize hd:sup cs c=d at h h6
          cases h with
          |none _=>omega
          |hit hc _ _ _=>omega
          |up _ _=>omega
        ·exact h6
      refine .inr ⟨i,h1,h2,h3,h4, ?_⟩
      rw[Int.toNat_natCast]
      exact .step (sup cs c).toNat (by omega) h5
def OwnAt (ms:List Mth) (c sel:Int) (n:Nat) (own:Int):Prop:=(own= -1∧∀j,j<n→¬Ans ms c sel j)∨∃j:Nat,own=(j:Int)∧j<n∧Ans ms c sel j
theorem OwnAt.zero {ms:List Mth} {c sel:Int}:OwnAt ms c sel 0 (-1):= .inl ⟨rfl,fun j h=>absurd h (Nat.not_lt_zero _)⟩
theorem OwnAt.hit {ms:List Mth} {c sel:Int} {n:Nat} (h:Ans ms c sel n):OwnAt ms c sel (n+1) (n:Int):= .inr ⟨n,rfl,by omega,h⟩
theorem Up.nn {cs:List Cls} {ms:List Mth} {sel:Int} {a b:Nat} (hu:Up cs a b): ∀ {r q:Int},FindM cs ms sel (b:Int) r→0≤r→FindM cs ms sel (a:Int) q→0≤q:=by
  induction hu with
  |refl a=>intro r q h hr hq;rw[hq.fn h];exact hr
  | @step a b p hp hu ih=>
    intro r q h hr hq
    generalize hc:(a:Int)=d at hq
    cases hq with
    |none h2=>omega
    |hit _ _ _ _=>omega
    | @up c r' hn h2=>
      have:a=c:=by omega
      subst this
      rw[hp]at h2
      exact ih h hr h2
end Go.Proofs.Ytojpejfcafbafaa.Kit
end
section
namespace Go.Proofs.Ytojpejfcafbafaa.V
open Go Go.RowKit Go.Proofs.Ytojpejfcafbafaa.P
set_option linter.unusedVariables false
set_option linter.unusedSimpArgs false
attribute [local simp ↓] eG eH fT fU eO dO gm eP eQ gp gq gu dP dQ dR gF gB gH gG dS bX dX cB dL dU eT eU eX
attribute [local simp] fV fZ dM bS eF dN bT bU bV bW bN bO dV eY dW bY bZ cu cz bP fE lM iG dB ik evl dH fe fA kF ja List.range List.range.loop lZ kY fu fC iC iA Bs.live Bs.get lN WkV WkA WkC lh lH kZ lD cZ iM TEq.refl bg fK qQ aF aG aD aH aI aJ ei d9 splice dE Bs.set kL fD Rn.at gy gz iF iE lL chunks lC fP toT fB iO rowsOf cK iq plR plV plC lG lF lQ lm fJ iV l8
attribute [local simp] List.length_pos_iff qR qU iI iJ iK puts dh
attribute [local simp ←] iw
attribute [local simp] wY xy xB xA xz ksL ru ksV rZ ksC ksT ren jd rT rP dx uq ut uu ry rz rA bsC wX bsV vS uD vF vG uE uF uG uH sU sV sW sZ tq sK tu fM dY dC iZ iB iQ iT lU rO closedB iX kV kP kQ kR kT iL kU
attribute [local simp] ag3 un3 sz3 in3 by3 ze3 ct3 zt3 zu3 ag4 un4 sz4 in4 by4 ze4 ct4 zt4 zu4 ag5 un5 sz5 in5 by5 ze5 ct5 zt5 zu5 mi mq mD mE mF mG mH mI mJ io3 mK io5 bo4 mM mO mP mQ mR mU mV mW mX mY mZ ng ni nk nu ny nz nA nC nD nE nG nH nI nJ nK nL nM nN nO nP nQ nR nS nT nU nV nW nX nY nZ oh ol om oo oq ou ow oz oC oD oF oG oH oI oJ oK oL oM oN oO oP oQ oU oV oW oZ o6 o7 o8 je jf jg jh ji jk jl jm jo jq jr jv jw jy jA jB jC jD jE jF o9 pg pu pz pE pF pG pI pJ pK jG jH jI jJ jK jL jM jN jO jP jQ jR jS jT jU jV jW jX jY jZ kg ko kr ku kv kw ky mz gI gJ gK gL gN gP gQ gT gU gV gW gX gY gZ ib ic pO pQ pR pU pV pW pX pY p9 qa qb qc qd qf qg qh qi qj ql qm qo qp qw qx qy qz qA qB qC qD qE qF qG qH qI qJ qK qL qM qN qO qP mix
attribute [local simp] eb eC eI eS eK eM nm rF yg
theorem LA {P:Program} {ins:Bs} {o:Oper} {cl:Call} {K:List V→Bs→Prop} {ts:List V} {B:Bs} (hop:o.op= .call cl) (h:vN P ins cl o.dst ts B K):xZ P ins o K ts B:=by
  rcases h with⟨ks,bs,outs,h1,h2⟩|h
  ·exact fun c a w ρ hc hr N Q hN=>Bu (.call cl ks bs outs hop h1) hr N fun v u a' w' ρ' ho hr' =>hN _ _ a' w' ρ' (h2 v u ho) hr'
  ·exact h o hop rfl
theorem ME {P:Program} {ins:Bs} {o:Oper} {K:List V→Bs→Prop} {ts:List V} {B:Bs} (k:Nat) (hn:ndB (B.map (·.1))=true) (hi:Al k B ins=true) (h:xZ P ins o K (ts.map (lF k B)) (fJ k B B)):xZ P ins o K ts B:=
  yQ (BH k (wm hn) hi) h
theorem MF {P:Program} {ins:Bs} {ops:Array Oper} {pt:List (List Nat)} {ds:List Nat} {K:List V→Bs→Prop} {l3:List Nat} {ts:List V} {B:Bs} (h:yx P ops pt ds K l3 [] ts B):JL P ins ops pt ds K [] l3 ts B:=⟨ts,B,sH.refl,h⟩
theorem Oa {n:Nat}:T.sl 69 3 n (fun _=> [T.s (.bool false),T.sl 3 1 0 fun _=> [T.s (.int .i64 0)],T.sl 3 1 0 fun _=> [T.s (.int .i64 0)]])=tS (List.replicate n z69):=by
  have e:fl z69 eS (List.replicate n z69)=fun _=>eS z69:=funext fun j=>congrArg eS Kit.rep_getD
  show _=T.sl _ 3 (List.replicate n z69).length (fl z69 eS (List.replicate n z69))
  rw[e,List.length_replicate]
  rfl
theorem OB {ms:List S35} {a:Nat} (c:Kit.self_ (gd z35 ms a).f0+((gd z35 ms a).f2.length:Int)≤(gd z35 ms a).f4) (hc:0≤(gd z35 ms a).f0): ¬(gd z35 ms a).f4<((gd z35 ms a).f2.length:Int)+1:=by rw[Kit.self_yes hc]at c;omega
theorem OC {ms:List S35} {a:Nat} (c:Kit.self_ (gd z35 ms a).f0+((gd z35 ms a).f2.length:Int)≤(gd z35 ms a).f4) (hc: ¬0≤(gd z35 ms a).f0): ¬(gd z35 ms a).f4<((gd z35 ms a).f2.length:Int):=by rw[Kit.self_no (by omega)]at c;omega
theorem LB {n:Nat} (hn:n≤1000):wrap64 ((n:Int)+1)=(n:Int)+1:=by unfold wrap64;omega
theorem si {n:Nat} (hn:n≤1000):wrap64 ((n:Int)+1)=((n+1:Nat):Int):=by unfold wrap64;omega
theorem BV {k a n:Nat} (h:k+a=n) (ha:a<n):k - 1<k∧k - 1+(a+1)=n:=by omega
theorem lew {cs:List S41} {ms:List S35} {a:Nat} {l2:List S69} (h:a<ms.length) (hm:ms.length≤20):yF.f cs ms (a:Int) l2=some (cs,ms.set a {gd z35 ms a with f6:=l2}):=by
  unfold yF.f
  have e1:(a:Int)<(ms.length:Int):=by omega
  have e2:ms.length<1099511627776:=by omega
  have e3:(0:Int)≤(a:Int):=by omega
  simp[e1,e2,e3,ay,gd]
  exact h
set_option maxRecDepth 20000 in
set_option maxHeartbeats 4000000 in
theorem bare_ct (bs:List Int) (hb: ∀x∈bs,0≤x∧x<256) (hl:bs.length≤maxLen):iP Try.prog 3 [.c (.t (.sl 5 1 bs.length (fl 0 eb bs)))] (.c (.t (.b true))):=by
  refine bE Try.func3 rfl rfl rfl ?_
  simp -implicitDefEqProofs (maxSteps:=2000000)
  by_cases hbig:1048576<bs.length
  · have hbig' :(1048576:Int)<bs.length:=by omega
    simp -implicitDefEqProofs (maxSteps:=2000000) [hbig']
    exact aV _ (by simp) ⟨rfl,rfl⟩
  have hbig' : ¬(1048576:Int)<bs.length:=by omega
  simp -implicitDefEqProofs (maxSteps:=2000000) [hbig']
  refine Ef [] (Lv Kj bs hb) rfl rfl rfl rfl ?_ ?_ ?_ ?_ ?_ ?_ ?_ ?_
  ·simp
  ·simp
  ·simp
  ·simp
  ·simp
  ·simp
  ·intro a ha;constructor<;>constructor<;>simp
  rintro⟨cs,ms⟩ hu
  have hu:UGen cs ms:=hu
  obtain⟨k,b,hk,⟨k',hk'⟩,hbu⟩:=IV hu
  simp -implicitDefEqProofs (maxSteps:=2000000)
  refine av (AY (h:=hk)) rfl rfl ?_ ⟨rfl,rfl⟩ ?_
  ·simp
  simp -implicitDefEqProofs (maxSteps:=2000000)
  refine av (AX (h:=hk')) rfl rfl ?_ ⟨rfl,rfl⟩ ?_
  ·simp
  simp -implicitDefEqProofs (maxSteps:=2000000)
  cases b
  · simp -implicitDefEqProofs (maxSteps:=2000000)
    refine av (AX (h:=hk')) rfl rfl ?_ ⟨rfl,rfl⟩ ?_
    ·simp
    simp -implicitDefEqProofs (maxSteps:=2000000)
    exact aV _ (by simp) ⟨rfl,rfl⟩
  have hok:Kit.UnitOk_ cs ms:=hbu.1 rfl
  simp -implicitDefEqProofs (maxSteps:=2000000)
  have hm2:=hu.m2
  refine wo [true,false,true,true,true,true,true] (fun(a:Nat)=> [(6, .c (.t (.i a)))]) (fun(a:Nat)=> [(105,some (.box 26 [.t (tC cs), .t (tM (Kit.bareN ms a))]))]) (fun n a=>n+a=ms.length) [] (n:=ms.length) (b0:=0) (by simp) ?_ ?_
  ·constructor<;>simp[mkT,idR,Kit.bareN_zero]
  intro k a hk hi
  refine uQ ?_
  simp -implicitDefEqProofs (maxSteps:=2000000)
  by_cases ha:a<ms.length
  rotate_left
  · have hm:a=ms.length:=by omega
    subst hm
    simp -implicitDefEqProofs (maxSteps:=2000000)
    obtain⟨k2,b,hk2,_,hb2⟩:=CR (Kit.small_bare hu.small)
    have hbt:b=true:=hb2.2 (Kit.unitOk_bare hok)
    subst hbt
    refine av (AY (h:=hk2)) rfl rfl ?_ ⟨rfl,rfl⟩ ?_
    ·simp
    simp -implicitDefEqProofs (maxSteps:=2000000)
    exact aV _ (by simp) ⟨rfl,rfl⟩
  have hl2:(Kit.bareN ms a).length=ms.length:=Kit.bareN_len _ _
  simp -implicitDefEqProofs (maxSteps:=2000000) [ha,hl2]
  refine xL (by decide) [[], [], [], [2], [], [3,4,2], [5,3,4,2], [6,5,3,4,2], [7,6,5,3,4,2], [8,7,6,5,3,4,2], [0,1,9,8,7,6,5,3,4,2], [10,0,1,2,3,4,5,6,7,8,9]] [35,36,37,38,39,40,41,42,43,44,45,0] [0,1,2,3,4,5,6,7,8,9] [] 10 [11] (by kernel_rfl) (by kernel_rfl) (by kernel_rfl) (by kernel_rfl) (by kernel_rfl) rfl rfl ?_
  simp -implicitDefEqProofs (maxSteps:=2000000) [ha,hl2,aj,ah,ae,ai,ak,au,af,Op.operands,Call.operands]
  have h5:=Kit.locals_ge hok ha
  refine⟨⟨by have:=h5.2.2.2;show((Kit.mth ms a).f5.length:Int) * 56≤_;omega,by have:=h5.2.2.2;show((Kit.mth ms a).f5.length:Int)≤_;omega⟩, ?_⟩
  refine ME 144 rfl rfl ?_
  simp -implicitDefEqProofs (maxSteps:=2000000)
  refine LA rfl ?_
  rw[Oa]
  refine av (Ff (h:=lew (cs:=cs) (l2:=List.replicate (gd z35 ms a).f5.length z69) (ms:=Kit.bareN ms a) (by rw[hl2];exact ha) (by rw[hl2];exact hm2))) rfl rfl ?_ ⟨rfl,rfl⟩ ?_
  ·simp
  refine MF ?_
  have e1:(Kit.bareN ms a).set a {gd z35 (Kit.bareN ms a) a with f6:=List.replicate (gd z35 ms a).f5.length z69}=Kit.bareN ms (a+1):=by
    rw[←Kit.bareN_succ ha]
    have:gd z35 (Kit.bareN ms a) a=gd z35 ms a:=Kit.bareN_ge (Nat.le_refl _)
    rw[this];rfl
  rw[e1]
  simp -implicitDefEqProofs (maxSteps:=2000000) [ha,hl2,aj,ah,ae,ai,ak,au,af,Op.operands,Call.operands]
  have d:Kit.self_ (gd z35 ms a).f0+((gd z35 ms a).f2.length:Int)≤(gd z35 ms a).f4:=h5.1
  have w1:=LB (Nat.le_trans (show(gd z35 ms a).f2.length≤2 from h5.2.1) (by decide))
  have w2:=si (Nat.le_trans (Nat.le_of_lt ha) (Nat.le_trans hm2 (by decide)))
  by_cases hc:0≤(gd z35 ms a).f0
  · have h6:=OB d hc
    simp -implicitDefEqProofs (maxSteps:=2000000) [hc,w1,w2,h6]
    refine⟨ha, ?_⟩
    refine iN (inv:=fun n (a:Nat)=>n+a=ms.length) [true,false,true,true,true,true,true] [] (a:=a+1) (j:=k - 1) (BV hi ha).1 (BV hi ha).2 ?_
    constructor<;>simp[mkT,idR]
  · have h6:=OC d hc
    simp -implicitDefEqProofs (maxSteps:=2000000) [hc,w1,w2,h6]
    refine⟨ha, ?_⟩
    refine iN (inv:=fun n (a:Nat)=>n+a=ms.length) [true,false,true,true,true,true,true] [] (a:=a+1) (j:=k - 1) (BV hi ha).1 (BV hi ha).2 ?_
    constructor<;>simp[mkT,idR]
end Go.Proofs.Ytojpejfcafbafaa.V
end
section
namespace Go.Proofs.Ytojpejfcafbafaa.V
open Go Go.RowKit
set_option linter.unusedVariables false
set_option linter.unusedSimpArgs false
def canAt (p:Program) (fits:TypeId→Bool):Nat→TypeId→Bool
  |0,_=>false
  | d+1,e=>fits e||match p.underlying e with
    |some (.struct fs)=>fs.any fun f=>canAt p fits d f.type
    |some (.array _ e')=>canAt p fits d e'
    |_=>false
theorem CV {p:Program} {fits:TypeId→Bool}: ∀ {d:Nat} {e:TypeId} {count off n:Nat},rowAt p fits d e count off n=true→canAt p fits d e=true
  |0,e,count,off,n,h=>by simp[rowAt]at h
  | d + 1,e,count,off,n,h=>by
    unfold rowAt at h
    simp only at h
    split at h
    ·cases h
    · rw[Bool.or_eq_true]at h
      unfold canAt
      rw[Bool.or_eq_true]
      rcases h with h|h
      · simp only[Bool.and_eq_true]at h
        exact .inl h.2
      · right
        rw[Bool.and_eq_true]at h
        have h:=h.2
        split at h
        · rename_i fs hu
          rw[Bool.and_eq_true]at h
          have h:=h.2
          simp only[hu]
          rw[Array.any_eq_true]at h⊢
          obtain⟨i,hi,h⟩:=h
          rw[Bool.and_eq_true]at h
          exact⟨i,hi,CV h.2⟩
        · rename_i hu
          simp only[hu]
          exact CV h
        ·cases h
theorem bytes_ty {P:Program} {W:World} {base:Nat} {t e:TypeId} (hu:P.underlying t=some (.slice e)) (he:P.underlying e=some (.int .u8)) {a:Addr} {len cap:Nat} (h:Value.okWide P W .any base t (.slice (some a) len cap))
    (hno: ∀x∈ownTys,canAt P (fun y=>sameLayout P P.depth y e) P.depth x=false): ∃cells e' fr,W.heap[a.block]? =some (.cells cells e' fr)∧e' ∉ownTys:=by
  simp only[Value.okWide,hu,Cell.okWide,Cell.ok]at h
  obtain⟨_,_,_,_,row,cells,hs,hl⟩:=h
  unfold World.shape? at hs
  split at hs
  · rename_i c elem fr hc
    injection hs with hs
    injection hs with hs _
    subst hs
    refine⟨c,elem,fr,hc,fun hm=> ?_⟩
    have h1:=hno _ hm
    have h2: ∀d count off n,liesAt P d elem count off e n=true→rowAt P (fun y=>sameLayout P P.depth y e) P.depth elem count off n=true:=fun d count off n h=>by
      cases d with
      |zero=>simp[liesAt]at h
      | succ d=>
        simp only[liesAt,he,Bool.or_false]at h
        exact h
    rw[CV (h2 _ _ _ _ hl)]at h1
    cases h1
  ·cases hs
structure BytesAt (w:World) (a:Option Addr) (len cap:Nat) (bs:List Int):Prop where
  eq:bs.length=len
  le:len≤cap∧len≤maxLen
  rng: ∀x∈bs,0≤x∧x<256
  cell: ∀i,i<len→∃x,a=some x∧w.cell? (x.add i)=some (.int .u8 (bs.getD i 0))
  ty: ∀x,a=some x→0<len→∃cells e' fr,w.heap[x.block]? =some (.cells cells e' fr)∧e' ∉ownTys
theorem bytesAt_of {w:World} {a:Option Addr} {len cap:Nat} {zs:List Int} (h:(a=none∧len=0∧cap=0∧zs= [])∨∃x,a=some x∧len≤cap∧cap≤maxLen∧zs.length=cap∧(∀i,i<zs.length→w.cell? (x.add i)=some (.int .u8 (zs.getD i 0)))∧∀n∈zs,(Lit.int .u8 n).wf=true)
    (ty: ∀x,a=some x→0<len→∃cells e' fr,w.heap[x.block]? =some (.cells cells e' fr)∧e' ∉ownTys):BytesAt w a len cap (zs.take len):=by
  rcases h with⟨rfl,rfl,rfl,rfl⟩|⟨x,rfl,h1,h2,h3,h4,h5⟩
  ·exact⟨rfl,⟨by omega,by decide⟩,fun x hx=>(by cases hx),fun i hi=>absurd hi (Nat.not_lt_zero _),ty⟩
  · refine⟨by simp;omega,⟨h1,by omega⟩,fun n hn=> ?_,fun i hi=>⟨x,rfl, ?_⟩,ty⟩
    · have:=h5 n (List.mem_of_mem_take hn)
      simp[Lit.wf,IntKind.min,IntKind.max,IntKind.signed,IntKind.bits]at this
      omega
    · rw[h4 i (by omega)]
      simp[List.getD_eq_getElem?_getD,List.getElem?_take,hi]
theorem BytesAt.rep {w:World} {A:Nat→Prop} {a:Option Addr} {len cap:Nat} {bs:List Int} (h:BytesAt w a len cap bs) (hA: ∀b,b<w.heap.size→A b):RepT w A (.slice a len cap) (.sl 5 1 bs.length (fl 0 eb bs)):=by
  have hl:=h.eq
  subst hl
  refine .sl a _ cap _ 1 _ h.le.1 h.le.2 (fun hu=> ?_) (fun j hj=>rfl) (fun j o y hj hy=> ?_) (fun b hb hu=> ?_)
  · rcases hu with hu|hu
    ·obtain⟨x,rfl,_⟩:=h.cell 0 hu;rfl
    ·exact absurd rfl hu.1
  · obtain⟨x,hx,hc⟩:=h.cell j hj
    have hy: [T.s (.int .u8 (bs.getD j 0))][o]? =some y:=hy
    cases o with
    | zero=>
      injection hy with hy
      subst hy
      exact⟨x,_,hx,by simpa using hc, .s _ rfl⟩
    |succ o=>simp at hy
  · have h0:0<bs.length:=by
      rcases hu with hu|hu
      ·exact hu
      ·exact absurd rfl hu.1
    obtain⟨cells,e',fr,hc,hn⟩:=h.ty b hb h0
    exact⟨hA _ (Array.getElem?_eq_some_iff.1 hc).1,cells,fr,⟨e',hc, .inr ⟨rfl,hn⟩⟩, .inl rfl⟩
theorem OL (w:World):Mem ⟨w,fun b=>b<w.heap.size, [],fun _=>undef,fun _=>False⟩ [] w (fun _=>undef):=
  ⟨⟨rfl,rfl,rfl,Nat.le_refl _,fun _ _ _=>rfl⟩,fun k x h=>by simp[Bs.live,Bs.get]at h,fun k x g h=>by simp[Bs.live,Bs.get]at h,fun k k' x x' g h=>by simp[Bs.live,Bs.get]at h,fun k x h=>by simp[Bs.live,Bs.get]at h,fun k x b' h=>by simp[Bs.live,Bs.get]at h,fun e h=>by simp[Bs.get]at h⟩
theorem MG {w w' :World} {ρ:Nat→Value} (h:Mem ⟨w,fun b=>b<w.heap.size, [],fun _=>undef,fun _=>False⟩ [] w' ρ):Below w.heap.size w w' :=
  ⟨h.keeps.os,h.keeps.tape,h.keeps.output,h.keeps.size,fun k hk=>h.keeps.block k hk (by
    rintro(⟨k,x,h1,_⟩|h)
    ·simp[Bs.live,Bs.get]at h1
    ·exact h)⟩
theorem MH {w:World} {A:Nat→Prop} {v:Value} (h:RepT w A v (.s (.bool true))):v= .bool true:=by cases h;rfl
theorem law1 {P:Program} {g:Nat} (ct: ∀bs:List Int,(∀x∈bs,0≤x∧x<256)→bs.length≤maxLen→iP P g [.c (.t (.sl 5 1 bs.length (fl 0 eb bs)))] (.c (.t (.b true)))) {w:World} {a:Option Addr} {len cap:Nat} {bs:List Int} (h:BytesAt w a len cap bs):
    Calls P g #[.slice a len cap] w fun e w' =>e= .returned (.bool true)∧Below w.heap.size w w' :=by
  refine(ct bs h.rng (by rw[h.eq];exact h.le.2) w _ _ _ #[.slice a len cap] (OL w) rfl fun i x hx=> ?_).mono ?_
  · cases i with
    | zero=>
      injection hx with hx
      subst hx
      exact h.rep fun b hb=>⟨.inl hb,hb,fun k x h=>by simp[Bs.live,Bs.get]at h⟩
    |succ i=>simp at hx
  · rintro e w' ⟨v',res,B',ρ',rfl,⟨rfl,rfl⟩,hm,hv⟩
    exact⟨by rw[MH hv],MG hm⟩
end Go.Proofs.Ytojpejfcafbafaa.V
end
