/- A part of the claim FnUnitFirst. -/
import Derived.OpenShut
import Derived.ChangeOld
import Derived.SizedLaws
import Derived.Test.YtojpejfcafbafaaCFnUnitFirst36
section
namespace Go.Proofs.Ytojpejfcafbafaa.V
open Go Go.RowKit Go.Proofs.Ytojpejfcafbafaa.P
set_option linter.unusedVariables false
set_option linter.unusedSimpArgs false
attribute [local simp ↓] eG eH fQ fT eO dM fZ eP eQ gm gp gq dN dO dP gB gz gG gF dQ bW dV cz dJ dR eT eU eX
attribute [local simp] fU fV dK bR eF dL bS bT bU bV bM bN dS eY dU bX bY bZ cu bO fD lM iL dz iw evl dI eZ fu kD iX List.range List.range.loop lT kX fo fB iC iA Bs.live Bs.get lN WkV WkA WkC lg lH kY lD cZ iM TEq.refl bg fH qQ aF aG aD aH aI aJ ei d9 splice dE Bs.set kU fC Rn.at gu gy iF iD lL chunks lC fP toT fE iE rowsOf cB ik plR plV plC lF lI lQ lh fI iR lU
attribute [local simp] List.length_pos_iff qR qU iG iH iI puts dh
attribute [local simp ←] ig
attribute [local simp] ksL ru ksV rV ksC ksT ren kr rO rH dw fF dW dx iW iB iO iQ lS rG closedB iT kP kG kH kJ kL iJ kN
attribute [local simp] ag3 un3 sz3 in3 by3 ze3 ct3 zt3 zu3 ag4 un4 sz4 in4 by4 ze4 ct4 zt4 zu4 ag5 un5 sz5 in5 by5 ze5 ct5 zt5 zu5 mi mq mD mE mF mG mH mI mJ io3 mK io5 bo4 mM mO mP mQ mR mU mV mW mX mY mZ ng ni nk nu ny nz nA nC nD nE nG nH nI nJ nK nL nM nN nO nP nQ nR nS nT nU nV nW nX nY nZ oh ol om oo oq ou ow oz oC oD oF oG oH oI oJ oK oL oM oN oO oP oQ oU oV oW oZ o6 o7 o8 iZ ja jb jc jd je jf jg jh ji jk jl jm jo jq jr jv jw jy jA o9 pg pu pz pE pF pG pI pJ pK jB jC jD jE jF jG jH jI jJ jK jL jM jN jO jP jQ jR jS jT jU jV jW jX jY jZ kg ko mz gH gI gJ gK gL gN gP gQ gT gU gV gW gX gY gZ ib pO pQ pR pU pV pW pX pY p9 qa qb qc qd qf qg qh qi qj ql qm qo qp qw qx qy qz qA qB qC qD qE qF qG qH qI qJ qK qL qM qN qO qP mix
attribute [local simp] eb eC eI eS eK eM nm
set_option maxRecDepth 20000 in
set_option maxHeartbeats 4000000 in
theorem wW (l0:List (S41)) (a1:Int) (r:Bool) (h:vG.f l0 a1=some r):iU Try.prog 31 [.c (.t (tC l0)), .i a1] (.b r):=by
  unfold vG.f at h
  try simp only[aF,aG,aD,aH,aI,aJ]at h
  refine bF Try.func31 rfl rfl rfl ?_
  try simp (maxSteps:=2000000)
  repeat' first
    |(with_reducible (first|(replace h:=bC (by assumption) h)|(replace h:=bD (by assumption) h)|(replace h:=aY (by assumption) h)|(replace h:=aZ (by assumption) h)))
    |((with_reducible have hh:=aB h);clear h;rcases hh with⟨hc,h⟩|⟨hc,h⟩<;>have hd:=hc<;>(first|(replace hc:=dA hc)|(replace hc:=dB hc)|skip)<;>(try simp at hd)<;>(try(first|(subst hd)|(replace hd:=bG hd)|(replace hd:=eq_false hd)|(replace hd:=eq_true hd)))<;>(try simp (maxSteps:=2000000) [*, -h]))
    |(with_reducible replace h:=aL h)
    |(refine⟨(by first|exact aP (by assumption) (by decide) (by decide)|exact aN (by assumption) (by decide) (by decide)), ?_⟩;try simp (maxSteps:=2000000) [*, -h])
    |(cases h;done)
    |(cases h;refine aV _ ?_ ⟨rfl,rfl⟩;simp[*]<;>exact az (by omega) (by omega) (by simp))
set_option maxRecDepth 20000 in
set_option maxHeartbeats 4000000 in
theorem Fh (a0:Int) (r:Bool) (h:yI.f a0=some r):iU Try.prog 70 [.i a0] (.b r):=by
  unfold yI.f at h
  try simp only[aF,aG,aD,aH,aI,aJ]at h
  refine bF Try.func70 rfl rfl rfl ?_
  try simp (maxSteps:=2000000)
  repeat' first
    |(with_reducible (first|(replace h:=bC (by assumption) h)|(replace h:=bD (by assumption) h)|(replace h:=aY (by assumption) h)|(replace h:=aZ (by assumption) h)))
    |((with_reducible have hh:=aB h);clear h;rcases hh with⟨hc,h⟩|⟨hc,h⟩<;>have hd:=hc<;>(first|(replace hc:=dA hc)|(replace hc:=dB hc)|skip)<;>(try simp at hd)<;>(try(first|(subst hd)|(replace hd:=bG hd)|(replace hd:=eq_false hd)|(replace hd:=eq_true hd)))<;>(try simp (maxSteps:=2000000) [*, -h]))
    |(with_reducible replace h:=aL h)
    |(refine⟨(by first|exact aP (by assumption) (by decide) (by decide)|exact aN (by assumption) (by decide) (by decide)), ?_⟩;try simp (maxSteps:=2000000) [*, -h])
    |(cases h;done)
    |(cases h;refine aV _ ?_ ⟨rfl,rfl⟩;simp[*]<;>exact az (by omega) (by omega) (by simp))
set_option maxRecDepth 20000 in
set_option maxHeartbeats 4000000 in
theorem Af (k:Nat) (l0:List (S41)) (a1:Int) (a2:Int) (r:Bool) (h:l9.f k l0 a1 a2=some r):iU Try.prog 34 [.c (.t (tC l0)), .i a1, .i a2] (.b r):=by
  unfold l9.f at h
  try simp only[aF,aG,aD,aH,aI,aJ]at h
  refine bF Try.func34 rfl rfl rfl ?_
  try simp (maxSteps:=2000000)
  repeat' first
    |(with_reducible (first|(replace h:=bC (by assumption) h)|(replace h:=bD (by assumption) h)|(replace h:=aY (by assumption) h)|(replace h:=aZ (by assumption) h)))
    |((with_reducible have hh:=aB h);clear h;rcases hh with⟨hc,h⟩|⟨hc,h⟩<;>have hd:=hc<;>(first|(replace hc:=dA hc)|(replace hc:=dB hc)|skip)<;>(try simp at hd)<;>(try(first|(subst hd)|(replace hd:=bG hd)|(replace hd:=eq_false hd)|(replace hd:=eq_true hd)))<;>(try simp (maxSteps:=2000000) [*, -h]))
    |(with_reducible replace h:=aL h)
    | (refine rW [true,true,true,false,false,false,false,true,true] (fun(x7:Int)=> [(7, .i x7)]) (fun n (x7:Int)=>l9.l0 n _ _ x7=some _) h (by first|rfl|simp[mkT]) ?_;clear h;intro k x7 hk h
       obtain⟨k,rfl⟩:=aM (f:=fun k=>l9.l0 k _ _ _) (by simp only[l9.l0]) h;simp only[l9.l0]at h;try simp only[aF,aG,aD,aH,aI,aJ]at h;try simp (maxSteps:=2000000))
    |(exact rX (inv:=fun n (x7:Int)=>l9.l0 n _ _ x7=some _) (by omega) h (by first|exact fe [true,true,true,false,false,false,false,true,true] rfl|exact fw [true,true,true,false,false,false,false,true,true] rfl (by constructor<;>simp[idR,mkT])))
    |(refine⟨(by first|exact aP (by assumption) (by decide) (by decide)|exact aN (by assumption) (by decide) (by decide)), ?_⟩;try simp (maxSteps:=2000000) [*, -h])
    |(cases h;done)
    |(cases h;refine aV _ ?_ ⟨rfl,rfl⟩;simp[*]<;>exact az (by omega) (by omega) (by simp))
set_option maxRecDepth 20000 in
set_option maxHeartbeats 4000000 in
theorem zU (k:Nat) (l0:List Int) (l1:List Int) (r:Bool) (h:slices_Equal_int_int.f k l0 l1=some r):iU Try.prog 48 [.c (.t (.ints l0)), .c (.t (.ints l1))] (.b r):=by
  unfold slices_Equal_int_int.f at h
  try simp only[aF,aG,aD,aH,aI,aJ]at h
  refine bF Try.func48 rfl rfl rfl ?_
  try simp (maxSteps:=2000000)
  repeat' first
    |(show ek _ _ 6 _ _ _ _;refine aT (by decide) [[], [], [0,1], [2,0,1], [], [], [4,5], [6,4,5], [3,7,2,0,1,6,4,5]] [16,17,18,19,20,21,22,23,24] [0,1,2,3,4,5,6,7,8] (by kernel_rfl) ?_;try simp (maxSteps:=2000000) [*, -h,aj,ah,ae,ai,ak,au,af,Op.operands,Call.operands])
    |(with_reducible (first|(replace h:=bC (by assumption) h)|(replace h:=bD (by assumption) h)|(replace h:=aY (by assumption) h)|(replace h:=aZ (by assumption) h)))
    |((with_reducible have hh:=aB h);clear h;rcases hh with⟨hc,h⟩|⟨hc,h⟩<;>have hd:=hc<;>(first|(replace hc:=dA hc)|(replace hc:=dB hc)|skip)<;>(try simp at hd)<;>(try(first|(subst hd)|(replace hd:=bG hd)|(replace hd:=eq_false hd)|(replace hd:=eq_true hd)))<;>(try simp (maxSteps:=2000000) [*, -h,aj,ah,ae,ai,ak,au,af,Op.operands,Call.operands]))
    |(with_reducible replace h:=aL h)
    | (refine rW [true,true,false,false,false,false,true,true,true,true,true,true,true,true] (fun(a:Int)=> [(13, .i a)]) (fun n (a:Int)=>slices_Equal_int_int.l0 n _ _ _ a=some _) h (by first|rfl|simp[mkT]) ?_;clear h;intro k a hk h
       obtain⟨k,rfl⟩:=aM (f:=fun k=>slices_Equal_int_int.l0 k _ _ _ _) (by simp only[slices_Equal_int_int.l0]) h;simp only[slices_Equal_int_int.l0]at h;try simp only[aF,aG,aD,aH,aI,aJ]at h;try simp (maxSteps:=2000000))
    |(exact rX (inv:=fun n (a:Int)=>slices_Equal_int_int.l0 n _ _ _ a=some _) (by omega) h (by first|exact fe [true,true,false,false,false,false,true,true,true,true,true,true,true,true] rfl|exact fw [true,true,false,false,false,false,true,true,true,true,true,true,true,true] rfl (by constructor<;>simp[idR,mkT])))
    |(refine⟨(by first|exact aP (by assumption) (by decide) (by decide)|exact aN (by assumption) (by decide) (by decide)), ?_⟩;try simp (maxSteps:=2000000) [*, -h,aj,ah,ae,ai,ak,au,af,Op.operands,Call.operands])
    |(cases h;done)
    |(cases h;refine aV _ ?_ ⟨rfl,rfl⟩;simp[*]<;>exact az (by omega) (by omega) (by simp))
end Go.Proofs.Ytojpejfcafbafaa.V
end
section
namespace Go.Proofs.Ytojpejfcafbafaa.V
open Go Go.RowKit Go.Proofs.Ytojpejfcafbafaa.P
set_option linter.unusedVariables false
set_option linter.unusedSimpArgs false
attribute [local simp ↓] eG eH fQ fT eO dM fZ eP eQ gm gp gq dN dO dP gB gz gG gF dQ bW dV cz dJ dR eT eU eX
attribute [local simp] fU fV dK bR eF dL bS bT bU bV bM bN dS eY dU bX bY bZ cu bO fD lM iL dz iw evl dI eZ fu kD iX List.range List.range.loop lT kX fo fB iC iA Bs.live Bs.get lN WkV WkA WkC lg lH kY lD cZ iM TEq.refl bg fH qQ aF aG aD aH aI aJ ei d9 splice dE Bs.set kU fC Rn.at gu gy iF iD lL chunks lC fP toT fE iE rowsOf cB ik plR plV plC lF lI lQ lh fI iR lU
attribute [local simp] List.length_pos_iff qR qU iG iH iI puts dh
attribute [local simp ←] ig
attribute [local simp] wX vK mkI asT yz DY ifB yN zR Bl Bo Bp Bq Br Bt zu E9 Fa
attribute [local simp] ksL ru ksV rV ksC ksT ren kr rO rH dw fF dW dx iW iB iO iQ lS rG closedB iT kP kG kH kJ kL iJ kN
attribute [local simp] ag3 un3 sz3 in3 by3 ze3 ct3 zt3 zu3 ag4 un4 sz4 in4 by4 ze4 ct4 zt4 zu4 ag5 un5 sz5 in5 by5 ze5 ct5 zt5 zu5 mi mq mD mE mF mG mH mI mJ io3 mK io5 bo4 mM mO mP mQ mR mU mV mW mX mY mZ ng ni nk nu ny nz nA nC nD nE nG nH nI nJ nK nL nM nN nO nP nQ nR nS nT nU nV nW nX nY nZ oh ol om oo oq ou ow oz oC oD oF oG oH oI oJ oK oL oM oN oO oP oQ oU oV oW oZ o6 o7 o8 iZ ja jb jc jd je jf jg jh ji jk jl jm jo jq jr jv jw jy jA o9 pg pu pz pE pF pG pI pJ pK jB jC jD jE jF jG jH jI jJ jK jL jM jN jO jP jQ jR jS jT jU jV jW jX jY jZ kg ko mz gH gI gJ gK gL gN gP gQ gT gU gV gW gX gY gZ ib pO pQ pR pU pV pW pX pY p9 qa qb qc qd qf qg qh qi qj ql qm qo qp qw qx qy qz qA qB qC qD qE qF qG qH qI qJ qK qL qM qN qO qP mix
attribute [local simp] eb eC eI eS eK eM nm
set_option maxRecDepth 20000 in
set_option maxHeartbeats 4000000 in
theorem Dm (k:Nat) (l0:List (S41)) (r:Bool) (h:aA.f k l0=some r):iU Try.prog 20 [.c (.t (tC l0))] (.b r):=by
  unfold aA.f at h
  try simp only[aF,aG,aD,aH,aI,aJ]at h
  refine bF Try.func20 rfl rfl rfl ?_
  try simp -implicitDefEqProofs (maxSteps:=2000000)
  repeat' first
    |(with_reducible (first|(replace h:=bC (by assumption) h)|(replace h:=bD (by assumption) h)|(replace h:=aY (by assumption) h)|(replace h:=aZ (by assumption) h)))
    |((with_reducible have hh:=aB h);clear h;rcases hh with⟨hc,h⟩|⟨hc,h⟩<;>have hd:=hc<;>(first|(replace hc:=dA hc)|(replace hc:=dB hc)|skip)<;>(try simp at hd)<;>(first|exact absurd hd (of_eq_false (by assumption))|exact absurd (of_eq_true (by assumption)) hd|skip)<;>(try(first|(subst hd)|(replace hd:=bG hd)|(replace hd:=eq_false hd)|(replace hd:=eq_true hd)))<;>(try(first|(have he:=ltT hd)|(have he:=leT hd)))<;>(try simp -implicitDefEqProofs (maxSteps:=2000000) [*, -h]))
    |(with_reducible replace h:=aL h)
    | ((with_reducible have hh:=Option.bind_eq_some_iff.1 h);clear h;obtain⟨x_,hx_,h⟩:=hh;(first|(refine av (zS (h:=hx_)) rfl rfl ?_ ⟨rfl,rfl⟩ ?_;(·simp[*]);clear hx_;try simp -implicitDefEqProofs (maxSteps:=2000000) [*, -h]))
       )
    |(obtain⟨k,rfl⟩:=aM (f:=fun k=>aA.j0 k _ _) (by simp only[aA.j0]) h;simp only[aA.j0]at h;try simp only[aF,aG,aD,aH,aI,aJ,beq_iff_eq,decide_eq_true_eq]at h)
    |(obtain⟨k,rfl⟩:=aM (f:=fun k=>aA.j1 k _ _) (by simp only[aA.j1]) h;simp only[aA.j1]at h;try simp only[aF,aG,aD,aH,aI,aJ,beq_iff_eq,decide_eq_true_eq]at h)
    |(obtain⟨k,rfl⟩:=aM (f:=fun k=>aA.j2 k _ _) (by simp only[aA.j2]) h;simp only[aA.j2]at h;try simp only[aF,aG,aD,aH,aI,aJ,beq_iff_eq,decide_eq_true_eq]at h)
    |(obtain⟨k,rfl⟩:=aM (f:=fun k=>aA.j4 k _ _ _ _ _ _ _) (by simp only[aA.j4]) h;simp only[aA.j4]at h;try simp only[aF,aG,aD,aH,aI,aJ,beq_iff_eq,decide_eq_true_eq]at h)
    | (refine rW [true,false,false,true,false,false,false,false,true,true,true,true,true,true,true,true,true,true,true,true,true,true,true,true,true,true,true,true,true,true,true,true,true,true,true,true,true,true,true,true,true,true,true,true,true,true,true,true,true,true,true] (fun(a:Int)=> [(50, .i a)]) (fun n (a:Int)=>aA.l0 n _ _ _ a=some _) h (by first|rfl|simp[mkT]) ?_;clear h;intro k a hk h
       obtain⟨k,rfl⟩:=aM (f:=fun k=>aA.l0 k _ _ _ _) (by simp only[aA.l0]) h;simp only[aA.l0]at h;try simp only[aF,aG,aD,aH,aI,aJ,beq_iff_eq,decide_eq_true_eq]at h;try simp -implicitDefEqProofs (maxSteps:=2000000))
    |(exact rX (inv:=fun n (a:Int)=>aA.l0 n _ _ _ a=some _) (by omega) h (by first|exact fe [true,false,false,true,false,false,false,false,true,true,true,true,true,true,true,true,true,true,true,true,true,true,true,true,true,true,true,true,true,true,true,true,true,true,true,true,true,true,true,true,true,true,true,true,true,true,true,true,true,true,true] rfl|exact fw [true,false,false,true,false,false,false,false,true,true,true,true,true,true,true,true,true,true,true,true,true,true,true,true,true,true,true,true,true,true,true,true,true,true,true,true,true,true,true,true,true,true,true,true,true,true,true,true,true,true,true] rfl (by constructor<;>simp[idR,mkT])))
    | (refine rW [true,false,false,true,true,true,false,false,true,true,true,true,true,true,true,true,true,true,true,true,true,true,true,true,true,true,true,true,true,true,true,true,true,true,true,true,true,true,true,true,true,true,true,true,true,true,true,true,true,true,true,true,true,true,true,true,true,true,true,true,true,true,true,true,true,true,true,true,true,true,true,true,true,true,true,true] (fun(d:Int)=> [(75, .i d)]) (fun n (d:Int)=>aA.l1 n _ _ _ _ _ _ d=some _) h (by first|rfl|simp[mkT]) ?_;clear h;intro k d hk h
       obtain⟨k,rfl⟩:=aM (f:=fun k=>aA.l1 k _ _ _ _ _ _ _) (by simp only[aA.l1]) h;simp only[aA.l1]at h;try simp only[aF,aG,aD,aH,aI,aJ,beq_iff_eq,decide_eq_true_eq]at h;try simp -implicitDefEqProofs (maxSteps:=2000000))
    |(exact rX (inv:=fun n (d:Int)=>aA.l1 n _ _ _ _ _ _ d=some _) (by omega) h (by first|exact fe [true,false,false,true,true,true,false,false,true,true,true,true,true,true,true,true,true,true,true,true,true,true,true,true,true,true,true,true,true,true,true,true,true,true,true,true,true,true,true,true,true,true,true,true,true,true,true,true,true,true,true,true,true,true,true,true,true,true,true,true,true,true,true,true,true,true,true,true,true,true,true,true,true,true,true,true] rfl|exact fw [true,false,false,true,true,true,false,false,true,true,true,true,true,true,true,true,true,true,true,true,true,true,true,true,true,true,true,true,true,true,true,true,true,true,true,true,true,true,true,true,true,true,true,true,true,true,true,true,true,true,true,true,true,true,true,true,true,true,true,true,true,true,true,true,true,true,true,true,true,true,true,true,true,true,true,true] rfl (by constructor<;>simp[idR,mkT])))
    |(refine⟨(by first|exact aP (by assumption) (by decide) (by decide)|exact aN (by assumption) (by decide) (by decide)), ?_⟩;try simp -implicitDefEqProofs (maxSteps:=2000000) [*, -h])
    |(cases h;done)
    |(cases h;refine aV _ ?_ ⟨rfl,rfl⟩;simp[*]<;>exact az (by omega) (by omega) (by simp))
    |(exfalso;clear h;simp_all;done)
set_option maxRecDepth 20000 in
set_option maxHeartbeats 4000000 in
theorem Ca (a:Int) (d:Int) (e:List Int) (g:Int) (j:Int) (k:List (S67)) (m:List (S69)) (n:List (S73)) (r:List Int) (h:yc.f a d e g j k m n=some r):iU Try.prog 45 [.agg [.t (.i a), .t (.i d), .t (.ints e), .t (.i g), .t (.i j), .t (tI k), .t (tS m), .t (tK n)]] (.c (.t (.ints r))):=by
  unfold yc.f at h
  try simp only[aF,aG,aD,aH,aI,aJ]at h
  refine bF Try.func45 rfl rfl rfl ?_
  try simp -implicitDefEqProofs (maxSteps:=2000000)
  repeat' first
    |(with_reducible (first|(replace h:=bC (by assumption) h)|(replace h:=bD (by assumption) h)|(replace h:=aY (by assumption) h)|(replace h:=aZ (by assumption) h)))
    |((with_reducible have hh:=aB h);clear h;rcases hh with⟨hc,h⟩|⟨hc,h⟩<;>have hd:=hc<;>(first|(replace hc:=dA hc)|(replace hc:=dB hc)|skip)<;>(try simp at hd)<;>(first|exact absurd hd (of_eq_false (by assumption))|exact absurd (of_eq_true (by assumption)) hd|skip)<;>(try(first|(subst hd)|(replace hd:=bG hd)|(replace hd:=eq_false hd)|(replace hd:=eq_true hd)))<;>(try(first|(have he:=ltT hd)|(have he:=leT hd)))<;>(try simp -implicitDefEqProofs (maxSteps:=2000000) [*, -h]))
    |(with_reducible replace h:=aL h)
    |(refine⟨(by first|exact aP (by assumption) (by decide) (by decide)|exact aN (by assumption) (by decide) (by decide)), ?_⟩;try simp -implicitDefEqProofs (maxSteps:=2000000) [*, -h])
    |(cases h;done)
    |(cases h;refine aV _ ?_ ⟨rfl,rfl⟩;simp[*]<;>exact az (by omega) (by omega) (by simp))
    |(exfalso;clear h;simp_all;done)
set_option maxRecDepth 20000 in
set_option maxHeartbeats 4000000 in
theorem Dn (k:Nat) (c:List (S41)) (d:List (S35)) (e:Int) (g:Int) (j:List Int) (m:Int) (o:Int) (p:List (S67)) (q:List (S69)) (u:List (S73)) (r:Bool) (h:bH.f k c d e g j m o p q u=some r):iU Try.prog 24 [.agg [.t (tC c), .t (tM d)], .agg [.t (.i e), .t (.i g), .t (.ints j), .t (.i m), .t (.i o), .t (tI p), .t (tS q), .t (tK u)]] (.b r):=by
  unfold bH.f at h
  try simp only[aF,aG,aD,aH,aI,aJ]at h
  refine bF Try.func24 rfl rfl rfl ?_
  try simp -implicitDefEqProofs (maxSteps:=2000000)
  repeat' first
    |(with_reducible (first|(replace h:=bC (by assumption) h)|(replace h:=bD (by assumption) h)|(replace h:=aY (by assumption) h)|(replace h:=aZ (by assumption) h)))
    |((with_reducible have hh:=aB h);clear h;rcases hh with⟨hc,h⟩|⟨hc,h⟩<;>have hd:=hc<;>(first|(replace hc:=dA hc)|(replace hc:=dB hc)|skip)<;>(try simp at hd)<;>(first|exact absurd hd (of_eq_false (by assumption))|exact absurd (of_eq_true (by assumption)) hd|skip)<;>(try(first|(subst hd)|(replace hd:=bG hd)|(replace hd:=eq_false hd)|(replace hd:=eq_true hd)))<;>(try(first|(have he:=ltT hd)|(have he:=leT hd)))<;>(try simp -implicitDefEqProofs (maxSteps:=2000000) [*, -h]))
    |(with_reducible replace h:=aL h)
    | ((with_reducible have hh:=Option.bind_eq_some_iff.1 h);clear h;obtain⟨x_,hx_,h⟩:=hh;(first|(refine av (wW (h:=hx_)) rfl rfl ?_ ⟨rfl,rfl⟩ ?_;(·simp[*]);clear hx_;try simp -implicitDefEqProofs (maxSteps:=2000000) [*, -h])|(refine av (Af (h:=hx_)) rfl rfl ?_ ⟨rfl,rfl⟩ ?_;(·simp[*]);clear hx_;try simp -implicitDefEqProofs (maxSteps:=2000000) [*, -h]))
       )
    |(obtain⟨k,rfl⟩:=aM (f:=fun k=>bH.j1 k _ _ _ _ _ _ _ _ _ _ _ _ _ _ _ _ _ _) (by simp only[bH.j1]) h;simp only[bH.j1]at h;try simp only[aF,aG,aD,aH,aI,aJ,beq_iff_eq,decide_eq_true_eq]at h)
    |(obtain⟨k,rfl⟩:=aM (f:=fun k=>bH.j2 k _ _ _ _ _ _ _ _ _ _ _ _ _ _ _ _ _ _) (by simp only[bH.j2]) h;simp only[bH.j2]at h;try simp only[aF,aG,aD,aH,aI,aJ,beq_iff_eq,decide_eq_true_eq]at h)
    | (refine rW [true,true,true,true,false,false,false,true,true,true,true,true,true,true,true] (fun(a:Int)=> [(14, .i a)]) (fun n (a:Int)=>bH.l0 n _ _ a _ _ _ _ _ _ _ _ _ _=some _) h (by first|rfl|simp[mkT]) ?_;clear h;intro k a hk h
       obtain⟨k,rfl⟩:=aM (f:=fun k=>bH.l0 k _ _ _ _ _ _ _ _ _ _ _ _ _) (by simp only[bH.l0]) h;simp only[bH.l0]at h;try simp only[aF,aG,aD,aH,aI,aJ,beq_iff_eq,decide_eq_true_eq]at h;try simp -implicitDefEqProofs (maxSteps:=2000000))
    |(exact rX (inv:=fun n (a:Int)=>bH.l0 n _ _ a _ _ _ _ _ _ _ _ _ _=some _) (by omega) h (by first|exact fe [true,true,true,true,false,false,false,true,true,true,true,true,true,true,true] rfl|exact fw [true,true,true,true,false,false,false,true,true,true,true,true,true,true,true] rfl (by constructor<;>simp[idR,mkT])))
    |(refine⟨(by first|exact aP (by assumption) (by decide) (by decide)|exact aN (by assumption) (by decide) (by decide)), ?_⟩;try simp -implicitDefEqProofs (maxSteps:=2000000) [*, -h])
    |(cases h;done)
    |(cases h;refine aV _ ?_ ⟨rfl,rfl⟩;simp[*]<;>exact az (by omega) (by omega) (by simp))
    |(exfalso;clear h;simp_all;done)
set_option maxRecDepth 20000 in
set_option maxHeartbeats 4000000 in
theorem Gv (k:Nat) (d:List (S41)) (e:List (S35)) (r:Bool) (h:dn.f k d e=some r):iU Try.prog 25 [.agg [.t (tC d), .t (tM e)]] (.b r):=by
  unfold dn.f at h
  try simp only[aF,aG,aD,aH,aI,aJ]at h
  refine bF Try.func25 rfl rfl rfl ?_
  try simp -implicitDefEqProofs (maxSteps:=2000000)
  repeat' first
    |(with_reducible (first|(replace h:=bC (by assumption) h)|(replace h:=bD (by assumption) h)|(replace h:=aY (by assumption) h)|(replace h:=aZ (by assumption) h)))
    |((with_reducible have hh:=aB h);clear h;rcases hh with⟨hc,h⟩|⟨hc,h⟩<;>have hd:=hc<;>(first|(replace hc:=dA hc)|(replace hc:=dB hc)|skip)<;>(try simp at hd)<;>(first|exact absurd hd (of_eq_false (by assumption))|exact absurd (of_eq_true (by assumption)) hd|skip)<;>(try(first|(subst hd)|(replace hd:=bG hd)|(replace hd:=eq_false hd)|(replace hd:=eq_true hd)))<;>(try(first|(have he:=ltT hd)|(have he:=leT hd)))<;>(try simp -implicitDefEqProofs (maxSteps:=2000000) [*, -h]))
    |(with_reducible replace h:=aL h)
    | ((with_reducible have hh:=Option.bind_eq_some_iff.1 h);clear h;obtain⟨x_,hx_,h⟩:=hh;(first|(refine av (Af (h:=hx_)) rfl rfl ?_ ⟨rfl,rfl⟩ ?_;(·simp[*]);clear hx_;try simp -implicitDefEqProofs (maxSteps:=2000000) [*, -h])|(refine av (zU (h:=hx_)) rfl rfl ?_ ⟨rfl,rfl⟩ ?_;(·simp[*]);clear hx_;try simp -implicitDefEqProofs (maxSteps:=2000000) [*, -h]))
       )
    |(obtain⟨k,rfl⟩:=aM (f:=fun k=>dn.j2 k _ _ _ _ _ _ _ _ _ _ _ _ _ _ _ _ _ _ _ _ _ _ _ _ _ _) (by simp only[dn.j2]) h;simp only[dn.j2]at h;try simp only[aF,aG,aD,aH,aI,aJ,beq_iff_eq,decide_eq_true_eq]at h)
    | (refine rW [true,true,false,false,false,false,false,true,true,true,true] (fun(a:Int)=> [(10, .i a)]) (fun n (a:Int)=>dn.l0 n _ _ a _ _=some _) h (by first|rfl|simp[mkT]) ?_;clear h;intro k a hk h
       obtain⟨k,rfl⟩:=aM (f:=fun k=>dn.l0 k _ _ _ _ _) (by simp only[dn.l0]) h;simp only[dn.l0]at h;try simp only[aF,aG,aD,aH,aI,aJ,beq_iff_eq,decide_eq_true_eq]at h;try simp -implicitDefEqProofs (maxSteps:=2000000))
    |(exact rX (inv:=fun n (a:Int)=>dn.l0 n _ _ a _ _=some _) (by omega) h (by first|exact fe [true,true,false,false,false,false,false,true,true,true,true] rfl|exact fw [true,true,false,false,false,false,false,true,true,true,true] rfl (by constructor<;>simp[idR,mkT])))
    | (refine rW [true,true,false,true,true,false,false,true,true,true,true,true,true,true,true,true,true,true,true] (fun(c:Int)=> [(18, .i c)]) (fun n (c:Int)=>dn.l1 n _ _ _ _ _ _ c _ _ _ _ _ _ _ _ _ _=some _) h (by first|rfl|simp[mkT]) ?_;clear h;intro k c hk h
       obtain⟨k,rfl⟩:=aM (f:=fun k=>dn.l1 k _ _ _ _ _ _ _ _ _ _ _ _ _ _ _ _ _) (by simp only[dn.l1]) h;simp only[dn.l1]at h;try simp only[aF,aG,aD,aH,aI,aJ,beq_iff_eq,decide_eq_true_eq]at h;try simp -implicitDefEqProofs (maxSteps:=2000000))
    |(exact rX (inv:=fun n (c:Int)=>dn.l1 n _ _ _ _ _ _ c _ _ _ _ _ _ _ _ _ _=some _) (by omega) h (by first|exact fe [true,true,false,true,true,false,false,true,true,true,true,true,true,true,true,true,true,true,true] rfl|exact fw [true,true,false,true,true,false,false,true,true,true,true,true,true,true,true,true,true,true,true] rfl (by constructor<;>simp[idR,mkT])))
    |(refine⟨(by first|exact aP (by assumption) (by decide) (by decide)|exact aN (by assumption) (by decide) (by decide)), ?_⟩;try simp -implicitDefEqProofs (maxSteps:=2000000) [*, -h])
    |(cases h;done)
    |(cases h;refine aV _ ?_ ⟨rfl,rfl⟩;simp[*]<;>exact az (by omega) (by omega) (by simp))
    |(exfalso;clear h;simp_all;done)
set_option maxRecDepth 20000 in
set_option maxHeartbeats 4000000 in
theorem Dp (k:Nat) (a:List (S41)) (c:List (S35)) (d:Int) (e:Int) (g:List Int) (j:Int) (m:Int) (n:List (S67)) (o:List (S69)) (p:List (S73)) (q:Int) (u:Int) (v:Int) (a3:Int) (a4:Int) (r:Bool) (h:vE.f k a c d e g j m n o p q u v a3 a4=some r):iU Try.prog 46 [.agg [.t (tC a), .t (tM c)], .agg [.t (.i d), .t (.i e), .t (.ints g), .t (.i j), .t (.i m), .t (tI n), .t (tS o), .t (tK p)], .agg [.t (.i q), .t (.i u), .t (.i v)], .i a3, .i a4] (.b r):=by
  unfold vE.f at h
  try simp only[aF,aG,aD,aH,aI,aJ]at h
  refine bF Try.func46 rfl rfl rfl ?_
  try simp -implicitDefEqProofs (maxSteps:=2000000)
  repeat' first
    |(with_reducible (first|(replace h:=bC (by assumption) h)|(replace h:=bD (by assumption) h)|(replace h:=aY (by assumption) h)|(replace h:=aZ (by assumption) h)))
    |((with_reducible have hh:=aB h);clear h;rcases hh with⟨hc,h⟩|⟨hc,h⟩<;>have hd:=hc<;>(first|(replace hc:=dA hc)|(replace hc:=dB hc)|skip)<;>(try simp at hd)<;>(first|exact absurd hd (of_eq_false (by assumption))|exact absurd (of_eq_true (by assumption)) hd|skip)<;>(try(first|(subst hd)|(replace hd:=bG hd)|(replace hd:=eq_false hd)|(replace hd:=eq_true hd)))<;>(try(first|(have he:=ltT hd)|(have he:=leT hd)))<;>(try simp -implicitDefEqProofs (maxSteps:=2000000) [*, -h]))
    |(with_reducible replace h:=aL h)
    | ((with_reducible have hh:=Option.bind_eq_some_iff.1 h);clear h;obtain⟨x_,hx_,h⟩:=hh;(first|(refine av (Fh (h:=hx_)) rfl rfl ?_ ⟨rfl,rfl⟩ ?_;(·simp[*]);clear hx_;try simp -implicitDefEqProofs (maxSteps:=2000000) [*, -h])|(refine av (wW (h:=hx_)) rfl rfl ?_ ⟨rfl,rfl⟩ ?_;(·simp[*]);clear hx_;try simp -implicitDefEqProofs (maxSteps:=2000000) [*, -h])|(refine Ar [] [] rfl rfl (Fb _ _ _ _ hx_) ?_ (by simp) rfl (by simp) ?_;(·simp[*]);clear hx_;try simp -implicitDefEqProofs (maxSteps:=2000000) [*, -h]))
       )
    |(refine⟨(by first|exact aP (by assumption) (by decide) (by decide)|exact aN (by assumption) (by decide) (by decide)), ?_⟩;try simp -implicitDefEqProofs (maxSteps:=2000000) [*, -h])
    |(cases h;done)
    |(cases h;refine aV _ ?_ ⟨rfl,rfl⟩;simp[*]<;>exact az (by omega) (by omega) (by simp))
    |(exfalso;clear h;simp_all;done)
set_option maxRecDepth 20000 in
set_option maxHeartbeats 4000000 in
theorem Eo (k:Nat) (l0:List (S41)) (a1:Int) (d:Bool) (e:List Int) (g:List Int) (r:Bool) (h:cO.f k l0 a1 d e g=some r):iU Try.prog 47 [.c (.t (tC l0)), .i a1, .agg [.t (.b d), .t (.ints e), .t (.ints g)]] (.b r):=by
  unfold cO.f at h
  try simp only[aF,aG,aD,aH,aI,aJ]at h
  refine bF Try.func47 rfl rfl rfl ?_
  try simp -implicitDefEqProofs (maxSteps:=2000000)
  repeat' first
    |(with_reducible (first|(replace h:=bC (by assumption) h)|(replace h:=bD (by assumption) h)|(replace h:=aY (by assumption) h)|(replace h:=aZ (by assumption) h)))
    |((with_reducible have hh:=aB h);clear h;rcases hh with⟨hc,h⟩|⟨hc,h⟩<;>have hd:=hc<;>(first|(replace hc:=dA hc)|(replace hc:=dB hc)|skip)<;>(try simp at hd)<;>(first|exact absurd hd (of_eq_false (by assumption))|exact absurd (of_eq_true (by assumption)) hd|skip)<;>(try(first|(subst hd)|(replace hd:=bG hd)|(replace hd:=eq_false hd)|(replace hd:=eq_true hd)))<;>(try(first|(have he:=ltT hd)|(have he:=leT hd)))<;>(try simp -implicitDefEqProofs (maxSteps:=2000000) [*, -h]))
    |(with_reducible replace h:=aL h)
    | ((with_reducible have hh:=Option.bind_eq_some_iff.1 h);clear h;obtain⟨x_,hx_,h⟩:=hh;(first|(refine av (Gt (h:=hx_)) rfl rfl ?_ ⟨rfl,rfl⟩ ?_;(·simp[*]);try rcases E8 hx_ with rfl|rfl|rfl|rfl|rfl|rfl|j;clear hx_;try simp -implicitDefEqProofs (maxSteps:=2000000) [*, -h]))
       )
    |(obtain⟨k,rfl⟩:=aM (f:=fun k=>cO.j0 k _ _ _ _ _) (by simp only[cO.j0]) h;simp only[cO.j0]at h;try simp only[aF,aG,aD,aH,aI,aJ,beq_iff_eq,decide_eq_true_eq]at h)
    | (refine rW [true,true,true,false,false,true,false,false,false,false,false,true,true,true,true,true,true,true,true,true,true,true,true,true,true,true,true,true,true,true,true,true,true,true,true,true,true,true,true] (fun(x38:Int)=> [(38, .i x38)]) (fun n (x38:Int)=>cO.l0 n _ _ _ x38 _ _ _=some _) h (by first|rfl|simp[mkT]) ?_;clear h;intro k x38 hk h
       obtain⟨k,rfl⟩:=aM (f:=fun k=>cO.l0 k _ _ _ _ _ _ _) (by simp only[cO.l0]) h;simp only[cO.l0]at h;try simp only[aF,aG,aD,aH,aI,aJ,beq_iff_eq,decide_eq_true_eq]at h;try simp -implicitDefEqProofs (maxSteps:=2000000))
    |(exact rX (inv:=fun n (x38:Int)=>cO.l0 n _ _ _ x38 _ _ _=some _) (by omega) h (by first|exact fe [true,true,true,false,false,true,false,false,false,false,false,true,true,true,true,true,true,true,true,true,true,true,true,true,true,true,true,true,true,true,true,true,true,true,true,true,true,true,true] rfl|exact fw [true,true,true,false,false,true,false,false,false,false,false,true,true,true,true,true,true,true,true,true,true,true,true,true,true,true,true,true,true,true,true,true,true,true,true,true,true,true,true] rfl (by constructor<;>simp[idR,mkT])))
    | (refine rW [true,true,true,false,false,true,false,false,true,false,false,true,true,true,true,true,true,true,true,true,true,true,true,true,true,true,true,true,true,true,true,true,true,true,true,true,true,true,true,true,true,true,true,true,true,true,true,true,true,true,true,true] (fun(a:Int)=> [(51, .i a)]) (fun n (a:Int)=>cO.l1 n _ _ _ a=some _) h (by first|rfl|simp[mkT]) ?_;clear h;intro k a hk h
       obtain⟨k,rfl⟩:=aM (f:=fun k=>cO.l1 k _ _ _ _) (by simp only[cO.l1]) h;simp only[cO.l1]at h;try simp only[aF,aG,aD,aH,aI,aJ,beq_iff_eq,decide_eq_true_eq]at h;try simp -implicitDefEqProofs (maxSteps:=2000000))
    |(exact rX (inv:=fun n (a:Int)=>cO.l1 n _ _ _ a=some _) (by omega) h (by first|exact fe [true,true,true,false,false,true,false,false,true,false,false,true,true,true,true,true,true,true,true,true,true,true,true,true,true,true,true,true,true,true,true,true,true,true,true,true,true,true,true,true,true,true,true,true,true,true,true,true,true,true,true,true] rfl|exact fw [true,true,true,false,false,true,false,false,true,false,false,true,true,true,true,true,true,true,true,true,true,true,true,true,true,true,true,true,true,true,true,true,true,true,true,true,true,true,true,true,true,true,true,true,true,true,true,true,true,true,true,true] rfl (by constructor<;>simp[idR,mkT])))
    |(refine⟨(by first|exact aP (by assumption) (by decide) (by decide)|exact aN (by assumption) (by decide) (by decide)), ?_⟩;try simp -implicitDefEqProofs (maxSteps:=2000000) [*, -h])
    |(cases h;done)
    |(cases h;refine aV _ ?_ ⟨rfl,rfl⟩;simp[*]<;>exact az (by omega) (by omega) (by simp))
    |(exfalso;clear h;simp_all;done)
end Go.Proofs.Ytojpejfcafbafaa.V
end
section
namespace Go.Proofs.Ytojpejfcafbafaa.V
open Go Go.RowKit Go.Proofs.Ytojpejfcafbafaa.P
set_option linter.unusedVariables false
set_option linter.unusedSimpArgs false
attribute [local simp ↓] eG eH fQ fT eO dM fZ eP eQ gm gp gq dN dO dP gB gz gG gF dQ bW dV cz dJ dR eT eU eX
attribute [local simp] fU fV dK bR eF dL bS bT bU bV bM bN dS eY dU bX bY bZ cu bO fD lM iL dz iw evl dI eZ fu kD iX List.range List.range.loop lT kX fo fB iC iA Bs.live Bs.get lN WkV WkA WkC lg lH kY lD cZ iM TEq.refl bg fH qQ aF aG aD aH aI aJ ei d9 splice dE Bs.set kU fC Rn.at gu gy iF iD lL chunks lC fP toT fE iE rowsOf cB ik plR plV plC lF lI lQ lh fI iR lU
attribute [local simp] List.length_pos_iff qR qU iG iH iI puts dh
attribute [local simp ←] ig
attribute [local simp] wX vK mkI asT yz DY ifB yN zR Bl Bo Bp Bq Br Bt zu E9 Fa
attribute [local simp] ksL ru ksV rV ksC ksT ren kr rO rH dw fF dW dx iW iB iO iQ lS rG closedB iT kP kG kH kJ kL iJ kN
attribute [local simp] ag3 un3 sz3 in3 by3 ze3 ct3 zt3 zu3 ag4 un4 sz4 in4 by4 ze4 ct4 zt4 zu4 ag5 un5 sz5 in5 by5 ze5 ct5 zt5 zu5 mi mq mD mE mF mG mH mI mJ io3 mK io5 bo4 mM mO mP mQ mR mU mV mW mX mY mZ ng ni nk nu ny nz nA nC nD nE nG nH nI nJ nK nL nM nN nO nP nQ nR nS nT nU nV nW nX nY nZ oh ol om oo oq ou ow oz oC oD oF oG oH oI oJ oK oL oM oN oO oP oQ oU oV oW oZ o6 o7 o8 iZ ja jb jc jd je jf jg jh ji jk jl jm jo jq jr jv jw jy jA o9 pg pu pz pE pF pG pI pJ pK jB jC jD jE jF jG jH jI jJ jK jL jM jN jO jP jQ jR jS jT jU jV jW jX jY jZ kg ko mz gH gI gJ gK gL gN gP gQ gT gU gV gW gX gY gZ ib pO pQ pR pU pV pW pX pY p9 qa qb qc qd qf qg qh qi qj ql qm qo qp qw qx qy qz qA qB qC qD qE qF qG qH qI qJ qK qL qM qN qO qP mix
attribute [local simp] eb eC eI eS eK eM nm Lx
set_option maxRecDepth 20000 in
set_option maxHeartbeats 4000000 in
theorem Fj (k:Nat) (c:List (S41)) (d:List (S35)) (e:Int) (g:Int) (j:List Int) (m:Int) (o:Int) (p:List (S67)) (q:List (S69)) (u:List (S73)) (r:Bool) (h:dZ.f k c d e g j m o p q u=some r):iU Try.prog 22 [.agg [.t (tC c), .t (tM d)], .agg [.t (.i e), .t (.i g), .t (.ints j), .t (.i m), .t (.i o), .t (tI p), .t (tS q), .t (tK u)]] (.b r):=by
  unfold dZ.f at h
  try simp only[aF,aG,aD,aH,aI,aJ]at h
  refine bF Try.func22 rfl rfl rfl ?_
  try simp -implicitDefEqProofs (maxSteps:=2000000)
  repeat' first
    |(show ek _ _ 14 _ _ _ _;refine aT (by decide) [[], [0], [1,0], [2,1,0], [3,2,1,0], [4,3,2,1,0], [3,2,1,0], [6,3,2,1,0], [7,3,6,2,1,0], [5,8,3,4,2,1,0,7,6], [3,9,2,1,0,5,8,4,7,6], [10,7,0,1,2,3,4,5,6,8,9]] [61,62,63,64,65,66,67,68,69,70,71,4] [0,1,2,3,4,5,6,7,8,9,10,11] (by kernel_rfl) ?_;try simp -implicitDefEqProofs (maxSteps:=2000000) [*, -h,aj,ah,ae,ai,ak,au,af,Op.operands,Call.operands])
    |(with_reducible (first|(replace h:=bC (by assumption) h)|(replace h:=bD (by assumption) h)|(replace h:=aY (by assumption) h)|(replace h:=aZ (by assumption) h)))
    |((with_reducible have hh:=aB h);clear h;rcases hh with⟨hc,h⟩|⟨hc,h⟩<;>have hd:=hc<;>(first|(replace hc:=dA hc)|(replace hc:=dB hc)|skip)<;>(try simp at hd)<;>(first|exact absurd hd (of_eq_false (by assumption))|exact absurd (of_eq_true (by assumption)) hd|skip)<;>(try(first|(subst hd)|(replace hd:=bG hd)|(replace hd:=eq_false hd)|(replace hd:=eq_true hd)))<;>(try(first|(have he:=ltT hd)|(have he:=leT hd)))<;>(try simp -implicitDefEqProofs (maxSteps:=2000000) [*, -h,aj,ah,ae,ai,ak,au,af,Op.operands,Call.operands]))
    |(with_reducible replace h:=aL h)
    | ((with_reducible have hh:=Option.bind_eq_some_iff.1 h);clear h;obtain⟨x_,hx_,h⟩:=hh;(first|(refine av (zS (h:=hx_)) rfl rfl ?_ ⟨rfl,rfl⟩ ?_;(·simp[*]);clear hx_;try simp -implicitDefEqProofs (maxSteps:=2000000) [*, -h,aj,ah,ae,ai,ak,au,af,Op.operands,Call.operands])|(refine bf (zS (h:=hx_)) rfl rfl ?_ ⟨rfl,rfl⟩ rfl ?_;(·simp[*]);clear hx_;try simp -implicitDefEqProofs (maxSteps:=2000000) [*, -h,aj,ah,ae,ai,ak,au,af,Op.operands,Call.operands])|(refine av (Ca (h:=hx_)) rfl rfl ?_ ⟨rfl,rfl⟩ ?_;(·simp[*]);clear hx_;try simp -implicitDefEqProofs (maxSteps:=2000000) [*, -h,aj,ah,ae,ai,ak,au,af,Op.operands,Call.operands])|(refine bf (Ca (h:=hx_)) rfl rfl ?_ ⟨rfl,rfl⟩ rfl ?_;(·simp[*]);clear hx_;try simp -implicitDefEqProofs (maxSteps:=2000000) [*, -h,aj,ah,ae,ai,ak,au,af,Op.operands,Call.operands])|(refine av (wW (h:=hx_)) rfl rfl ?_ ⟨rfl,rfl⟩ ?_;(·simp[*]);clear hx_;try simp -implicitDefEqProofs (maxSteps:=2000000) [*, -h,aj,ah,ae,ai,ak,au,af,Op.operands,Call.operands])|(refine bf (wW (h:=hx_)) rfl rfl ?_ ⟨rfl,rfl⟩ rfl ?_;(·simp[*]);clear hx_;try simp -implicitDefEqProofs (maxSteps:=2000000) [*, -h,aj,ah,ae,ai,ak,au,af,Op.operands,Call.operands]))
       )
    |(obtain⟨k,rfl⟩:=aM (f:=fun k=>dZ.j0 k _ _ _ _ _ _ _ _ _ _) (by simp only[dZ.j0]) h;simp only[dZ.j0]at h;try simp only[aF,aG,aD,aH,aI,aJ,beq_iff_eq,decide_eq_true_eq]at h)
    |(obtain⟨k,rfl⟩:=aM (f:=fun k=>dZ.j1 k _ _ _ _ _ _ _ _ _ _ _) (by simp only[dZ.j1]) h;simp only[dZ.j1]at h;try simp only[aF,aG,aD,aH,aI,aJ,beq_iff_eq,decide_eq_true_eq]at h)
    | (refine rW [true,true,true,true,false,false,false,true,true,true,true,true,true,true,true,true,true,true,true,true,true,true,true,true,true,true,true,true,true,true,true,true,true,true,true,true,true,true,true,true,true,true,true,true,true,true,true,true,true,true,true] (fun(a:Int)=> [(50, .i a)]) (fun n (a:Int)=>dZ.l0 n _ _ a _ _ _ _ _ _ _ _ _ _=some _) h (by first|rfl|simp[mkT]) ?_;clear h;intro k a hk h
       obtain⟨k,rfl⟩:=aM (f:=fun k=>dZ.l0 k _ _ _ _ _ _ _ _ _ _ _ _ _) (by simp only[dZ.l0]) h;simp only[dZ.l0]at h;try simp only[aF,aG,aD,aH,aI,aJ,beq_iff_eq,decide_eq_true_eq]at h;try simp -implicitDefEqProofs (maxSteps:=2000000))
    |(exact rX (inv:=fun n (a:Int)=>dZ.l0 n _ _ a _ _ _ _ _ _ _ _ _ _=some _) (by omega) h (by first|exact fe [true,true,true,true,false,false,false,true,true,true,true,true,true,true,true,true,true,true,true,true,true,true,true,true,true,true,true,true,true,true,true,true,true,true,true,true,true,true,true,true,true,true,true,true,true,true,true,true,true,true,true] rfl|exact fw [true,true,true,true,false,false,false,true,true,true,true,true,true,true,true,true,true,true,true,true,true,true,true,true,true,true,true,true,true,true,true,true,true,true,true,true,true,true,true,true,true,true,true,true,true,true,true,true,true,true,true] rfl (by constructor<;>simp[idR,mkT])))
    |(refine⟨(by first|exact aP (by assumption) (by decide) (by decide)|exact aN (by assumption) (by decide) (by decide)), ?_⟩;try simp -implicitDefEqProofs (maxSteps:=2000000) [*, -h,aj,ah,ae,ai,ak,au,af,Op.operands,Call.operands])
    |(cases h;done)
    |(cases h;refine aV _ ?_ ⟨rfl,rfl⟩;simp[*]<;>exact az (by omega) (by omega) (by simp))
    |(exfalso;clear h;simp_all;done)
set_option maxRecDepth 20000 in
set_option maxHeartbeats 4000000 in
theorem Fp (k:Nat) (e:List (S41)) (g:List (S35)) (j:Int) (m:Int) (o:List Int) (p:Int) (q:Int) (u:List (S67)) (v:List (S69)) (w:List (S73)) (a2:Int) (r:Bool) (h:dC.f k e g j m o p q u v w a2=some r):iU Try.prog 23 [.agg [.t (tC e), .t (tM g)], .agg [.t (.i j), .t (.i m), .t (.ints o), .t (.i p), .t (.i q), .t (tI u), .t (tS v), .t (tK w)], .c (.t (.mp xK 24))] (.b r):=by
  unfold dC.f at h
  try simp only[aF,aG,aD,aH,aI,aJ]at h
  refine bF Try.func23 rfl rfl rfl ?_
  try simp -implicitDefEqProofs (maxSteps:=2000000)
  repeat' first
    |(with_reducible (first|(replace h:=bC (by assumption) h)|(replace h:=bD (by assumption) h)|(replace h:=aY (by assumption) h)|(replace h:=aZ (by assumption) h)))
    |((with_reducible have hh:=aB h);clear h;rcases hh with⟨hc,h⟩|⟨hc,h⟩<;>have hd:=hc<;>(first|(replace hc:=dA hc)|(replace hc:=dB hc)|skip)<;>(try simp at hd)<;>(first|exact absurd hd (of_eq_false (by assumption))|exact absurd (of_eq_true (by assumption)) hd|skip)<;>(try(first|(subst hd)|(replace hd:=bG hd)|(replace hd:=eq_false hd)|(replace hd:=eq_true hd)))<;>(try(first|(have he:=ltT hd)|(have he:=leT hd)))<;>(try simp -implicitDefEqProofs (maxSteps:=2000000) [*, -h]))
    |(with_reducible replace h:=aL h)
    | ((with_reducible have hh:=Option.bind_eq_some_iff.1 h);clear h;obtain⟨x_,hx_,h⟩:=hh;(first|(refine av (Dp (h:=hx_)) rfl rfl ?_ ⟨rfl,rfl⟩ ?_;(·simp[*]);clear hx_;try simp -implicitDefEqProofs (maxSteps:=2000000) [*, -h])|(refine av (Eo (h:=hx_)) rfl rfl ?_ ⟨rfl,rfl⟩ ?_;(·simp[*]);clear hx_;try simp -implicitDefEqProofs (maxSteps:=2000000) [*, -h]))
       )
    |(obtain⟨k,rfl⟩:=aM (f:=fun k=>dC.j0 k _ _ _ _ _ _ _ _ _ _ _) (by simp only[dC.j0]) h;simp only[dC.j0]at h;try simp only[aF,aG,aD,aH,aI,aJ,beq_iff_eq,decide_eq_true_eq]at h)
    |((with_reducible have hh:=Option.bind_eq_some_iff.1 h);clear h;obtain⟨x_,hx_,h⟩:=hh;rcases Kn hx_ with⟨x,y⟩|⟨x,y⟩<;>clear hx_<;>(try simp -implicitDefEqProofs (maxSteps:=2000000) [*, -h]))
    | (refine rW [true,true,true,true,true,false,false,false,false,false,false,false,false,true,true,true,true,true,true,true,true,true,true,true,true,true,true,true,true,true,true,true,true,true,true,true] (fun(a:Int)=> [(35, .i a)]) (fun n (a:Int)=>dC.l0 n _ _ a _ _ _ _ _ _ _ _ _ _=some _) h (by first|rfl|simp[mkT]) ?_;clear h;intro k a hk h
       obtain⟨k,rfl⟩:=aM (f:=fun k=>dC.l0 k _ _ _ _ _ _ _ _ _ _ _ _ _) (by simp only[dC.l0]) h;simp only[dC.l0]at h;try simp only[aF,aG,aD,aH,aI,aJ,beq_iff_eq,decide_eq_true_eq]at h;try simp -implicitDefEqProofs (maxSteps:=2000000))
    |(exact rX (inv:=fun n (a:Int)=>dC.l0 n _ _ a _ _ _ _ _ _ _ _ _ _=some _) (by omega) h (by first|exact fe [true,true,true,true,true,false,false,false,false,false,false,false,false,true,true,true,true,true,true,true,true,true,true,true,true,true,true,true,true,true,true,true,true,true,true,true] rfl|exact fw [true,true,true,true,true,false,false,false,false,false,false,false,false,true,true,true,true,true,true,true,true,true,true,true,true,true,true,true,true,true,true,true,true,true,true,true] rfl (by constructor<;>simp[idR,mkT])))
    | (refine rW [true,true,true,true,true,false,false,false,true,true,true,false,false,true,true,true,true,true,true,true,true,true,true,true,true,true,true,true,true,true,true,true,true,true,true,true,true,true,true,true,true,true,true,true,true,true,true,true,true,true,true,true,true,true,true,true,true,true,true,true,true,true,true,true,true,true,true,true,true,true,true,true,true,true,true] (fun(d:Int)=> [(74, .i d)]) (fun n (d:Int)=>dC.l1 n _ _ d _ _ _ _ _ _ _ _ _ _=some _) h (by first|rfl|simp[mkT]) ?_;clear h;intro k d hk h
       obtain⟨k,rfl⟩:=aM (f:=fun k=>dC.l1 k _ _ _ _ _ _ _ _ _ _ _ _ _) (by simp only[dC.l1]) h;simp only[dC.l1]at h;try simp only[aF,aG,aD,aH,aI,aJ,beq_iff_eq,decide_eq_true_eq]at h;try simp -implicitDefEqProofs (maxSteps:=2000000))
    |(exact rX (inv:=fun n (d:Int)=>dC.l1 n _ _ d _ _ _ _ _ _ _ _ _ _=some _) (by omega) h (by first|exact fe [true,true,true,true,true,false,false,false,true,true,true,false,false,true,true,true,true,true,true,true,true,true,true,true,true,true,true,true,true,true,true,true,true,true,true,true,true,true,true,true,true,true,true,true,true,true,true,true,true,true,true,true,true,true,true,true,true,true,true,true,true,true,true,true,true,true,true,true,true,true,true,true,true,true,true] rfl|exact fw [true,true,true,true,true,false,false,false,true,true,true,false,false,true,true,true,true,true,true,true,true,true,true,true,true,true,true,true,true,true,true,true,true,true,true,true,true,true,true,true,true,true,true,true,true,true,true,true,true,true,true,true,true,true,true,true,true,true,true,true,true,true,true,true,true,true,true,true,true,true,true,true,true,true,true] rfl (by constructor<;>simp[idR,mkT])))
    |(refine⟨(by first|exact aP (by assumption) (by decide) (by decide)|exact aN (by assumption) (by decide) (by decide)), ?_⟩;try simp -implicitDefEqProofs (maxSteps:=2000000) [*, -h])
    |(cases h;done)
    |(cases h;refine aV _ ?_ ⟨rfl,rfl⟩;simp[*]<;>exact az (by omega) (by omega) (by simp))
    |(exfalso;clear h;simp_all;done)
end Go.Proofs.Ytojpejfcafbafaa.V
end
section
namespace Go.Proofs.Ytojpejfcafbafaa.P
open Go.RowKit Go.Proofs.YtojpejfcafbafaaW.PrintWords Go.Proofs.YtojpejfcafbafaaW.PrintLast Go.Proofs.YtojpejfcafbafaaW.PrintMore
attribute [local go_sem] bn bq bP bQ aW aX bu bv
set_option linter.unusedVariables false
set_option linter.unusedSimpArgs false
end Go.Proofs.Ytojpejfcafbafaa.P
end
section
namespace Go.Proofs.Ytojpejfcafbafaa.V
open Go Go.RowKit Go.Proofs.Ytojpejfcafbafaa.P
set_option linter.unusedVariables false
set_option linter.unusedSimpArgs false
attribute [local simp ↓] eG eH fQ fT eO dM fZ eP eQ gm gp gq dN dO dP gB gz gG gF dQ bW dV cz dJ dR eT eU eX
attribute [local simp] fU fV dK bR eF dL bS bT bU bV bM bN dS eY dU bX bY bZ cu bO fD lM iL dz iw evl dI eZ fu kD iX List.range List.range.loop lT kX fo fB iC iA Bs.live Bs.get lN WkV WkA WkC lg lH kY lD cZ iM TEq.refl bg fH qQ aF aG aD aH aI aJ ei d9 splice dE Bs.set kU fC Rn.at gu gy iF iD lL chunks lC fP toT fE iE rowsOf cB ik plR plV plC lF lI lQ lh fI iR lU
attribute [local simp] List.length_pos_iff qR qU iG iH iI puts dh
attribute [local simp ←] ig
attribute [local simp] wX vK mkI asT yz DY ifB yN zR Bl Bo Bp Bq Br Bt zu E9 Fa
attribute [local simp] ksL ru ksV rV ksC ksT ren kr rO rH dw fF dW dx iW iB iO iQ lS rG closedB iT kP kG kH kJ kL iJ kN
attribute [local simp] ag3 un3 sz3 in3 by3 ze3 ct3 zt3 zu3 ag4 un4 sz4 in4 by4 ze4 ct4 zt4 zu4 ag5 un5 sz5 in5 by5 ze5 ct5 zt5 zu5 mi mq mD mE mF mG mH mI mJ io3 mK io5 bo4 mM mO mP mQ mR mU mV mW mX mY mZ ng ni nk nu ny nz nA nC nD nE nG nH nI nJ nK nL nM nN nO nP nQ nR nS nT nU nV nW nX nY nZ oh ol om oo oq ou ow oz oC oD oF oG oH oI oJ oK oL oM oN oO oP oQ oU oV oW oZ o6 o7 o8 iZ ja jb jc jd je jf jg jh ji jk jl jm jo jq jr jv jw jy jA o9 pg pu pz pE pF pG pI pJ pK jB jC jD jE jF jG jH jI jJ jK jL jM jN jO jP jQ jR jS jT jU jV jW jX jY jZ kg ko mz gH gI gJ gK gL gN gP gQ gT gU gV gW gX gY gZ ib pO pQ pR pU pV pW pX pY p9 qa qb qc qd qf qg qh qi qj ql qm qo qp qw qx qy qz qA qB qC qD qE qF qG qH qI qJ qK qL qM qN qO qP mix
attribute [local simp] eb eC eI eS eK eM nm
set_option maxRecDepth 20000 in
set_option maxHeartbeats 4000000 in
theorem xu (k:Nat) (c:List (S41)) (d:List (S35)) (r:Bool) (h:dD.f k c d=some r):iU Try.prog 8 [.agg [.t (tC c), .t (tM d)]] (.b r):=by
  unfold dD.f at h
  try simp only[aF,aG,aD,aH,aI,aJ]at h
  refine bF Try.func8 rfl rfl rfl ?_
  try simp -implicitDefEqProofs (maxSteps:=2000000)
  repeat' first
    |(with_reducible (first|(replace h:=bC (by assumption) h)|(replace h:=bD (by assumption) h)|(replace h:=aY (by assumption) h)|(replace h:=aZ (by assumption) h)))
    |((with_reducible have hh:=aB h);clear h;rcases hh with⟨hc,h⟩|⟨hc,h⟩<;>have hd:=hc<;>(first|(replace hc:=dA hc)|(replace hc:=dB hc)|skip)<;>(try simp at hd)<;>(first|exact absurd hd (of_eq_false (by assumption))|exact absurd (of_eq_true (by assumption)) hd|skip)<;>(try(first|(subst hd)|(replace hd:=bG hd)|(replace hd:=eq_false hd)|(replace hd:=eq_true hd)))<;>(try(first|(have he:=ltT hd)|(have he:=leT hd)))<;>(try simp -implicitDefEqProofs (maxSteps:=2000000) [*, -h]))
    |(with_reducible replace h:=aL h)
    | ((with_reducible have hh:=Option.bind_eq_some_iff.1 h);clear h;obtain⟨x_,hx_,h⟩:=hh;(first|(refine av (Fj (h:=hx_)) rfl rfl ?_ ⟨rfl,rfl⟩ ?_;(·simp[*]);clear hx_;try simp -implicitDefEqProofs (maxSteps:=2000000) [*, -h])|(refine av (Fp (h:=hx_)) rfl rfl ?_ ⟨rfl,rfl⟩ ?_;(·simp[*]);clear hx_;try simp -implicitDefEqProofs (maxSteps:=2000000) [*, -h])|(refine av (Dn (h:=hx_)) rfl rfl ?_ ⟨rfl,rfl⟩ ?_;(·simp[*]);clear hx_;try simp -implicitDefEqProofs (maxSteps:=2000000) [*, -h])|(refine av (Gv (h:=hx_)) rfl rfl ?_ ⟨rfl,rfl⟩ ?_;(·simp[*]);clear hx_;try simp -implicitDefEqProofs (maxSteps:=2000000) [*, -h])|(refine av (Dm (h:=hx_)) rfl rfl ?_ ⟨rfl,rfl⟩ ?_;(·simp[*]);clear hx_;try simp -implicitDefEqProofs (maxSteps:=2000000) [*, -h]))
       )
    |(obtain⟨k,rfl⟩:=aM (f:=fun k=>dD.j0 k _ _ _) (by simp only[dD.j0]) h;simp only[dD.j0]at h;try simp only[aF,aG,aD,aH,aI,aJ,beq_iff_eq,decide_eq_true_eq]at h)
    |(obtain⟨k,rfl⟩:=aM (f:=fun k=>dD.j1 k _ _ _) (by simp only[dD.j1]) h;simp only[dD.j1]at h;try simp only[aF,aG,aD,aH,aI,aJ,beq_iff_eq,decide_eq_true_eq]at h)
    |(refine av MC rfl rfl ?_ ⟨rfl,rfl⟩ ?_;(·simp);try simp -implicitDefEqProofs (maxSteps:=2000000) [*, -h])
    | (refine rW [true,true,false,true,true,false,false,true,true,true,true,true,true,true,true,true,true,true,true,true,true,true,true,true,true,true,true,true,true,true,true,true,true,true,true,true,true,true,true,true,true,true,true,true,true,true] (fun(a:Int)=> [(45, .i a)]) (fun n (a:Int)=>dD.l0 n _ _ a _ _=some _) h (by first|rfl|simp[mkT]) ?_;clear h;intro k a hk h
       obtain⟨k,rfl⟩:=aM (f:=fun k=>dD.l0 k _ _ _ _ _) (by simp only[dD.l0]) h;simp only[dD.l0]at h;try simp only[aF,aG,aD,aH,aI,aJ,beq_iff_eq,decide_eq_true_eq]at h;try simp -implicitDefEqProofs (maxSteps:=2000000))
    |(exact rX (inv:=fun n (a:Int)=>dD.l0 n _ _ a _ _=some _) (by omega) h (by first|exact fe [true,true,false,true,true,false,false,true,true,true,true,true,true,true,true,true,true,true,true,true,true,true,true,true,true,true,true,true,true,true,true,true,true,true,true,true,true,true,true,true,true,true,true,true,true,true] rfl|exact fw [true,true,false,true,true,false,false,true,true,true,true,true,true,true,true,true,true,true,true,true,true,true,true,true,true,true,true,true,true,true,true,true,true,true,true,true,true,true,true,true,true,true,true,true,true,true] rfl (by constructor<;>simp[idR,mkT])))
    |(refine⟨(by first|exact aP (by assumption) (by decide) (by decide)|exact aN (by assumption) (by decide) (by decide)), ?_⟩;try simp -implicitDefEqProofs (maxSteps:=2000000) [*, -h])
    |(cases h;done)
    |(cases h;refine aV _ ?_ ⟨rfl,rfl⟩;simp[*]<;>exact az (by omega) (by omega) (by simp))
    |(exfalso;clear h;simp_all;done)
end Go.Proofs.Ytojpejfcafbafaa.V
end
section
namespace Go.Proofs.Ytojpejfcafbafaa.Kit
open Go Go.RowKit Go.Proofs.YtojpejfcafbafaaW.PrintWords Go.Proofs.Ytojpejfcafbafaa.P
set_option linter.unusedVariables false
set_option linter.unusedSimpArgs false
theorem IC {ms:List Mth} {i:Nat} (h:i<ms.length):mth ms i=ms[i]:=by
  show ms.getD i _=_
  rw[List.getD_eq_getElem?_getD,List.getElem?_eq_getElem h];rfl
structure Alike (ms ns:List Mth):Prop where
  len:ns.length=ms.length
  f0: ∀i,(mth ns i).f0=(mth ms i).f0
  f1: ∀i,(mth ns i).f1=(mth ms i).f1
  f2: ∀i,(mth ns i).f2=(mth ms i).f2
  f3: ∀i,(mth ns i).f3=(mth ms i).f3
  f4: ∀i,(mth ns i).f4=(mth ms i).f4
  f5: ∀i,(mth ns i).f5=(mth ms i).f5
  f7: ∀i,(mth ns i).f7=(mth ms i).f7
theorem small_set {cs:List Cls} {ms:List Mth} (hu:SmallU cs ms) {m:Mth} (hm:SmallM m):SmallU cs (ms.set 0 m):=by
  refine⟨hu.c,by rw[List.length_set];exact hu.m,fun i hi=> ?_⟩
  rw[List.length_set]at hi
  rw[IC (by rw[List.length_set];exact hi),List.getElem_set]
  split
  ·exact hm
  ·rw[←IC hi];exact hu.e i hi
theorem small_nil {cs:List Cls} {ms:List Mth} (hu:SmallU cs ms):SmallU [] ms:=⟨⟨by decide,fun i hi=>absurd hi (Nat.not_lt_zero _)⟩,hu.m,hu.e⟩
theorem not_nil {ms:List Mth}: ¬UnitOk_ [] ms:=fun h=>by have:=h.1.lo;simp at this
theorem not_set {cs:List Cls} {ms:List Mth} {m:Mth} (h0:0<ms.length) (h: ¬(m.f0= -1∧m.f3=1)): ¬UnitOk_ cs (ms.set 0 m):=fun hu=>by
  have h1:=hu.2.2.1
  rw[IC (by rw[List.length_set];exact h0),List.getElem_set_self]at h1
  exact h ⟨h1.1,h1.2.2⟩
theorem Agree.one {cs:List Cls} {ms:List Mth} (h:Agree cs ms) {i j:Nat} {c:Nat} {sel:Int} (hi:i<ms.length) (hj:j<ms.length) (h1:Ans ms (c:Int) sel i) (h2:Ans ms (c:Int) sel j):i=j:=by
  rcases Nat.decEq i j with hne|he
  · have:=h i (Nat.zero_le _) hi j (Nat.zero_le _) hj hne
    have e:=this (by rw[h1.1];omega) (by rw[h2.1];omega) (by rw[h1.2,h2.2]) (by rw[h1.1,h2.1];exact .refl _)
    exact absurd (by rw[h1.1,h2.1]) e.1
  ·exact he
theorem FindM.is {cs:List Cls} {ms:List Mth} {sel c r:Int} (h:FindM cs ms sel c r):r<0∨∃i:Nat,r=(i:Int)∧i<ms.length∧(mth ms i).f1=sel∧0≤(mth ms i).f0∧Up cs c.toNat (mth ms i).f0.toNat:=by
  induction h with
  |none h=>exact .inl (by omega)
  | @hit c i hc hi h hn=>exact .inr ⟨i,rfl,hi,h.2,by rw[h.1];exact hc,by rw[h.1];exact .refl _⟩
  | @up c r hn h ih=>
    rcases ih with h1|⟨i,h1,h2,h3,h4,h5⟩
    ·exact .inl h1
    · have hs:0≤sup cs c:=by
        rcases Int.lt_or_le (sup cs c) 0 with h6|h6
        · clear h5
          generalize hd:sup cs c=d at h h6
          cases h with
          |none _=>omega
          |hit hc _ _ _=>omega
          |up _ _=>omega
        ·exact h6
      refine .inr ⟨i,h1,h2,h3,h4, ?_⟩
      rw[Int.toNat_natCast]
      exact .step (sup cs c).toNat (by omega) h5
def OwnAt (ms:List Mth) (c sel:Int) (n:Nat) (own:Int):Prop:=(own= -1∧∀j,j<n→¬Ans ms c sel j)∨∃j:Nat,own=(j:Int)∧j<n∧Ans ms c sel j
theorem OwnAt.zero {ms:List Mth} {c sel:Int}:OwnAt ms c sel 0 (-1):= .inl ⟨rfl,fun j h=>absurd h (Nat.not_lt_zero _)⟩
theorem OwnAt.hit {ms:List Mth} {c sel:Int} {n:Nat} (h:Ans ms c sel n):OwnAt ms c sel (n+1) (n:Int):= .inr ⟨n,rfl,by omega,h⟩
theorem Up.nn {cs:List Cls} {ms:List Mth} {sel:Int} {a b:Nat} (hu:Up cs a b): ∀ {r q:Int},FindM cs ms sel (b:Int) r→0≤r→FindM cs ms sel (a:Int) q→0≤q:=by
  induction hu with
  |refl a=>intro r q h hr hq;rw[hq.fn h];exact hr
  | @step a b p hp hu ih=>
    intro r q h hr hq
    generalize hc:(a:Int)=d at hq
    cases hq with
    |none h2=>omega
    |hit _ _ _ _=>omega
    | @up c r' hn h2=>
      have:a=c:=by omega
      subst this
      rw[hp]at h2
      exact ih h hr h2
end Go.Proofs.Ytojpejfcafbafaa.Kit
end
section
namespace Go.Proofs.Ytojpejfcafbafaa.V
open Go Go.RowKit Go.Proofs.Ytojpejfcafbafaa.P
set_option linter.unusedVariables false
set_option linter.unusedSimpArgs false
attribute [local simp ↓] eG eH fQ fT eO dM fZ eP eQ gm gp gq dN dO dP gB gz gG gF dQ bW dV cz dJ dR eT eU eX
attribute [local simp] fU fV dK bR eF dL bS bT bU bV bM bN dS eY dU bX bY bZ cu bO fD lM iL dz iw evl dI eZ fu kD iX List.range List.range.loop lT kX fo fB iC iA Bs.live Bs.get lN WkV WkA WkC lg lH kY lD cZ iM TEq.refl bg fH qQ aF aG aD aH aI aJ ei d9 splice dE Bs.set kU fC Rn.at gu gy iF iD lL chunks lC fP toT fE iE rowsOf cB ik plR plV plC lF lI lQ lh fI iR lU
attribute [local simp] List.length_pos_iff qR qU iG iH iI puts dh
attribute [local simp ←] ig
attribute [local simp] wu wL wO wN wM ksL ru ksV rV ksC ksT ren kr rO rH dw tZ uf ug qY qZ rf bsC wF bsV vJ uo uX uY uq ut uu uw sO sP sQ sS sU r9 sV fF dW dx iW iB iO iQ lS rG closedB iT kP kG kH kJ kL iJ kN
attribute [local simp] ag3 un3 sz3 in3 by3 ze3 ct3 zt3 zu3 ag4 un4 sz4 in4 by4 ze4 ct4 zt4 zu4 ag5 un5 sz5 in5 by5 ze5 ct5 zt5 zu5 mi mq mD mE mF mG mH mI mJ io3 mK io5 bo4 mM mO mP mQ mR mU mV mW mX mY mZ ng ni nk nu ny nz nA nC nD nE nG nH nI nJ nK nL nM nN nO nP nQ nR nS nT nU nV nW nX nY nZ oh ol om oo oq ou ow oz oC oD oF oG oH oI oJ oK oL oM oN oO oP oQ oU oV oW oZ o6 o7 o8 iZ ja jb jc jd je jf jg jh ji jk jl jm jo jq jr jv jw jy jA o9 pg pu pz pE pF pG pI pJ pK jB jC jD jE jF jG jH jI jJ jK jL jM jN jO jP jQ jR jS jT jU jV jW jX jY jZ kg ko mz gH gI gJ gK gL gN gP gQ gT gU gV gW gX gY gZ ib pO pQ pR pU pV pW pX pY p9 qa qb qc qd qf qg qh qi qj ql qm qo qp qw qx qy qz qA qB qC qD qE qF qG qH qI qJ qK qL qM qN qO qP mix
attribute [local simp] eb eC eI eS eK eM nm rM xN
theorem sK {n:Nat} (hn:n≤1000):wrap64 ((n:Int)+1)=((n+1:Nat):Int):=by unfold wrap64;omega
theorem lew {cs:List S41} {ms:List S35} {a:Nat} {l2:List S69} (h:a<ms.length) (hm:ms.length≤20):xB.f cs ms (a:Int) l2=some (cs,ms.set a {gd z35 ms a with f6:=l2}):=by
  unfold xB.f
  have e1:(a:Int)<(ms.length:Int):=by omega
  have e2:ms.length<1099511627776:=by omega
  have e3:(0:Int)≤(a:Int):=by omega
  simp[e1,e2,e3,ay,gd]
  exact h
end Go.Proofs.Ytojpejfcafbafaa.V
end
section
namespace Go.Proofs.Ytojpejfcafbafaa.V
open Go Go.RowKit Go.Proofs.Ytojpejfcafbafaa.P
set_option linter.unusedVariables false
set_option linter.unusedSimpArgs false
attribute [local simp ↓] eG eH fQ fT eO dM fZ eP eQ gm gp gq dN dO dP gB gz gG gF dQ bW dV cz dJ dR eT eU eX
attribute [local simp] fU fV dK bR eF dL bS bT bU bV bM bN dS eY dU bX bY bZ cu bO fD lM iL dz iw evl dI eZ fu kD iX List.range List.range.loop lT kX fo fB iC iA Bs.live Bs.get lN WkV WkA WkC lg lH kY lD cZ iM TEq.refl bg fH qQ aF aG aD aH aI aJ ei d9 splice dE Bs.set kU fC Rn.at gu gy iF iD lL chunks lC fP toT fE iE rowsOf cB ik plR plV plC lF lI lQ lh fI iR lU
attribute [local simp] List.length_pos_iff qR qU iG iH iI puts dh
attribute [local simp ←] ig
attribute [local simp] wu wL wO wN wM ksL ru ksV rV ksC ksT ren kr rO rH dw tZ uf ug qY qZ rf bsC wF bsV vJ uo uX uY uq ut uu uw sO sP sQ sS sU r9 sV fF dW dx iW iB iO iQ lS rG closedB iT kP kG kH kJ kL iJ kN
attribute [local simp] ag3 un3 sz3 in3 by3 ze3 ct3 zt3 zu3 ag4 un4 sz4 in4 by4 ze4 ct4 zt4 zu4 ag5 un5 sz5 in5 by5 ze5 ct5 zt5 zu5 mi mq mD mE mF mG mH mI mJ io3 mK io5 bo4 mM mO mP mQ mR mU mV mW mX mY mZ ng ni nk nu ny nz nA nC nD nE nG nH nI nJ nK nL nM nN nO nP nQ nR nS nT nU nV nW nX nY nZ oh ol om oo oq ou ow oz oC oD oF oG oH oI oJ oK oL oM oN oO oP oQ oU oV oW oZ o6 o7 o8 iZ ja jb jc jd je jf jg jh ji jk jl jm jo jq jr jv jw jy jA o9 pg pu pz pE pF pG pI pJ pK jB jC jD jE jF jG jH jI jJ jK jL jM jN jO jP jQ jR jS jT jU jV jW jX jY jZ kg ko mz gH gI gJ gK gL gN gP gQ gT gU gV gW gX gY gZ ib pO pQ pR pU pV pW pX pY p9 qa qb qc qd qf qg qh qi qj ql qm qo qp qw qx qy qz qA qB qC qD qE qF qG qH qI qJ qK qL qM qN qO qP mix
attribute [local simp] eb eC eI eS eK eM nm
set_option maxRecDepth 20000 in
set_option maxHeartbeats 4000000 in
theorem Ag (d:List (S41)) (a:List (S35)) (a1:Int) (l2:List (S69)) (r:(List (S41))×(List (S35))) (h:xB.f d a a1 l2=some r):uL Try.prog 10 [.agg [.t (tC d), .t (tM a)], .i a1, .c (.t (tS l2))] [] (.agg [.t (tC (r.1)), .own 900 8 (r.2).length]) [(900,some (.row 35 8 (r.2).length (fl z35 eM (r.2))))]:=by
  unfold xB.f at h
  try simp only[aF,aG,aD,aH,aI,aJ]at h
  refine bF Try.func10 rfl rfl rfl ?_
  try simp -implicitDefEqProofs (maxSteps:=2000000)
  repeat' first
    |(with_reducible (first|(replace h:=bC (by assumption) h)|(replace h:=bD (by assumption) h)|(replace h:=aY (by assumption) h)|(replace h:=aZ (by assumption) h)))
    |((with_reducible have hh:=aB h);clear h;rcases hh with⟨hc,h⟩|⟨hc,h⟩<;>have hd:=hc<;>(first|(replace hc:=dA hc)|(replace hc:=dB hc)|skip)<;>(try simp at hd)<;>(first|exact absurd hd (of_eq_false (by assumption))|exact absurd (of_eq_true (by assumption)) hd|skip)<;>(try(first|(subst hd)|(replace hd:=bG hd)|(replace hd:=eq_false hd)|(replace hd:=eq_true hd)))<;>(try simp -implicitDefEqProofs (maxSteps:=2000000) [*, -h]))
    |(with_reducible replace h:=aL h)
    |(refine⟨(by first|exact aP (by assumption) (by decide) (by decide)|exact aN (by assumption) (by decide) (by decide)), ?_⟩;try simp -implicitDefEqProofs (maxSteps:=2000000) [*, -h])
    |(cases h;done)
    |(cases h;refine ed _ rfl ?_;constructor<;>simp[*]<;>exact az (by omega) (by omega) (by simp))
    |(exfalso;clear h;simp_all;done)
  cases h
  refine ed _ rfl ?_
  constructor<;>simp
  have e0: ∀f g:Nat→List T,uk 0 f g=g:=fun f g=>by funext j;simp[uk]
  have e1:List.drop 8 (fl z35 eM a a1.toNat)= []:=rfl
  simp only[e0,e1]
  intro j hj
  left
  exact congrFun (wu (of_eq_true (by assumption)) (of_eq_true (by assumption))) j
end Go.Proofs.Ytojpejfcafbafaa.V
end
section
namespace Go.Proofs.Ytojpejfcafbafaa.V
open Go Go.RowKit Go.Proofs.Ytojpejfcafbafaa.P
set_option linter.unusedVariables false
set_option linter.unusedSimpArgs false
attribute [local simp ↓] eG eH fQ fT eO dM fZ eP eQ gm gp gq dN dO dP gB gz gG gF dQ bW dV cz dJ dR eT eU eX
attribute [local simp] fU fV dK bR eF dL bS bT bU bV bM bN dS eY dU bX bY bZ cu bO fD lM iL dz iw evl dI eZ fu kD iX List.range List.range.loop lT kX fo fB iC iA Bs.live Bs.get lN WkV WkA WkC lg lH kY lD cZ iM TEq.refl bg fH qQ aF aG aD aH aI aJ ei d9 splice dE Bs.set kU fC Rn.at gu gy iF iD lL chunks lC fP toT fE iE rowsOf cB ik plR plV plC lF lI lQ lh fI iR lU
attribute [local simp] List.length_pos_iff qR qU iG iH iI puts dh
attribute [local simp ←] ig
attribute [local simp] wu wL wO wN wM ksL ru ksV rV ksC ksT ren kr rO rH dw tZ uf ug qY qZ rf bsC wF bsV vJ uo uX uY uq ut uu uw sO sP sQ sS sU r9 sV fF dW dx iW iB iO iQ lS rG closedB iT kP kG kH kJ kL iJ kN
attribute [local simp] ag3 un3 sz3 in3 by3 ze3 ct3 zt3 zu3 ag4 un4 sz4 in4 by4 ze4 ct4 zt4 zu4 ag5 un5 sz5 in5 by5 ze5 ct5 zt5 zu5 mi mq mD mE mF mG mH mI mJ io3 mK io5 bo4 mM mO mP mQ mR mU mV mW mX mY mZ ng ni nk nu ny nz nA nC nD nE nG nH nI nJ nK nL nM nN nO nP nQ nR nS nT nU nV nW nX nY nZ oh ol om oo oq ou ow oz oC oD oF oG oH oI oJ oK oL oM oN oO oP oQ oU oV oW oZ o6 o7 o8 iZ ja jb jc jd je jf jg jh ji jk jl jm jo jq jr jv jw jy jA o9 pg pu pz pE pF pG pI pJ pK jB jC jD jE jF jG jH jI jJ jK jL jM jN jO jP jQ jR jS jT jU jV jW jX jY jZ kg ko mz gH gI gJ gK gL gN gP gQ gT gU gV gW gX gY gZ ib pO pQ pR pU pV pW pX pY p9 qa qb qc qd qf qg qh qi qj ql qm qo qp qw qx qy qz qA qB qC qD qE qF qG qH qI qJ qK qL qM qN qO qP mix
attribute [local simp] eb eC eI eS eK eM nm rM xN
theorem ME {ms:List S35} (h:0<ms.length):ms.set 0 (gd z35 ms 0)=ms:=by
  cases ms with
  |nil=>simp at h
  |cons m l=>rfl
theorem Od {cs:List S41} {ms:List S35} (h:0<ms.length) (hm:ms.length≤20):xB.f cs ms 0 (gd z35 ms 0).f6=some (cs,ms):=by
  have:=lew (cs:=cs) (l2:=(gd z35 ms 0).f6) h hm
  rw[show({gd z35 ms 0 with f6:=(gd z35 ms 0).f6}:S35)=gd z35 ms 0 from rfl,ME h]at this
  exact this
theorem MU {ms:List S35} {x:S35} {r:List T} (h:0<ms.length) (hr:r=eM x):iE (fl z35 eM ms) 0 r=fl z35 eM (ms.set 0 x):=
  Bd (i:=0) hr (by decide) (by omega)
theorem Oe {ms:List S35} (h:0<ms.length):iE (fl z35 eM ms) 0 [T.s (.int .i64 0),T.i (gd z35 ms 0).f1,T.ints (gd z35 ms 0).f2,T.i (gd z35 ms 0).f3,T.i (gd z35 ms 0).f4,tI (gd z35 ms 0).f5,tS (gd z35 ms 0).f6,tK (gd z35 ms 0).f7]=fl z35 eM (ms.set 0 {gd z35 ms 0 with f0:=0}):=MU h rfl
theorem Og {ms:List S35} (h:0<ms.length):iE (fl z35 eM ms) 0 [T.i (gd z35 ms 0).f0,T.i (gd z35 ms 0).f1,T.ints (gd z35 ms 0).f2,T.s (.int .i64 4),T.i (gd z35 ms 0).f4,tI (gd z35 ms 0).f5,tS (gd z35 ms 0).f6,tK (gd z35 ms 0).f7]=fl z35 eM (ms.set 0 {gd z35 ms 0 with f3:=4}):=MU h rfl
theorem Ny {cs:List S41} {ms:List S35} (hu:Kit.SmallU cs ms) (h:0<ms.length):Kit.SmallU cs (ms.set 0 {gd z35 ms 0 with f0:=0}):=
  have hm:Kit.SmallM (gd z35 ms 0):=hu.e 0 h
  Kit.small_set hu ⟨hm.a3,hm.l2,hm.i2,hm.l5,hm.l6,hm.l7,hm.s6⟩
theorem Nz {cs:List S41} {ms:List S35} (hu:Kit.SmallU cs ms) (h:0<ms.length):Kit.SmallU cs (ms.set 0 {gd z35 ms 0 with f3:=4}):=
  have hm:Kit.SmallM (gd z35 ms 0):=hu.e 0 h
  Kit.small_set hu ⟨(by decide:(-9223372036854775808:Int)≤4∧(4:Int)≤9223372036854775807),hm.l2,hm.i2,hm.l5,hm.l6,hm.l7,hm.s6⟩
theorem OH {cs:List S41} {ms:List S35} (h:0<ms.length): ¬Kit.UnitOk_ cs (ms.set 0 {gd z35 ms 0 with f0:=0}):=Kit.not_set h fun h=>absurd h.1 (show¬(0:Int)= -1 by decide)
theorem OI {cs:List S41} {ms:List S35} (h:0<ms.length): ¬Kit.UnitOk_ cs (ms.set 0 {gd z35 ms 0 with f3:=4}):=Kit.not_set h fun h=>absurd h.2 (show¬(4:Int)=1 by decide)
theorem LA {ms:List S35} {x:S35}:T.sl 35 8 ms.length (fl z35 eM (ms.set 0 x))=tM (ms.set 0 x):=by
  show _=T.sl _ 8 (ms.set 0 x).length _
  rw[List.length_set]
set_option maxRecDepth 20000 in
set_option maxHeartbeats 4000000 in
theorem first_ct (bs:List Int) (hb: ∀x∈bs,0≤x∧x<256) (hl:bs.length≤maxLen):iU Try.prog 4 [.c (.t (.sl 5 1 bs.length (fl 0 eb bs)))] (.c (.t (.b true))):=by
  refine bF Try.func4 rfl rfl rfl ?_
  simp -implicitDefEqProofs (maxSteps:=2000000)
  by_cases hbig:1048576<bs.length
  · have hbig' :(1048576:Int)<bs.length:=by omega
    simp -implicitDefEqProofs (maxSteps:=2000000) [hbig']
    exact aV _ (by simp) ⟨rfl,rfl⟩
  have hbig' : ¬(1048576:Int)<bs.length:=by omega
  simp -implicitDefEqProofs (maxSteps:=2000000) [hbig']
  refine Eg [] (Lv Kl bs hb) rfl rfl rfl rfl ?_ ?_ ?_ ?_ ?_ ?_ ?_ ?_
  ·simp
  ·simp
  ·simp
  ·simp
  ·simp
  ·simp
  ·intro a ha;constructor<;>constructor<;>simp
  rintro⟨cs,ms⟩ hu
  have hu:UGen cs ms:=hu
  obtain⟨k,b,hk,⟨k',hk'⟩,hbu⟩:=IY hu
  simp -implicitDefEqProofs (maxSteps:=2000000)
  refine av (xu (h:=hk)) rfl rfl ?_ ⟨rfl,rfl⟩ ?_
  ·simp
  simp -implicitDefEqProofs (maxSteps:=2000000)
  refine av (A9 (h:=hk')) rfl rfl ?_ ⟨rfl,rfl⟩ ?_
  ·simp
  simp -implicitDefEqProofs (maxSteps:=2000000)
  cases b
  · simp -implicitDefEqProofs (maxSteps:=2000000)
    refine av (A9 (h:=hk')) rfl rfl ?_ ⟨rfl,rfl⟩ ?_
    ·simp
    simp -implicitDefEqProofs (maxSteps:=2000000)
    exact aV _ (by simp) ⟨rfl,rfl⟩
  have hok:Kit.UnitOk_ cs ms:=hbu.1 rfl
  simp -implicitDefEqProofs (maxSteps:=2000000)
  have hm2:=hu.m2
  have hm1:=hu.m1
  have h0:0<ms.length:=hm1
  refine aT (by decide) [[], [], [1], [2,1], [3,2,1], [4,3,2,1], [0,5,4,3,2,1], [], [7,6,0,1,2,3,4,5]] [27,28,29,30,31,32,33,5,0] [0,1,2,3,4,5,7,6,8] (by kernel_rfl) ?_
  simp -implicitDefEqProofs (maxSteps:=2000000) [h0,aj,ah,ae,ai,ak,au,af,Op.operands,Call.operands]
  refine bI (Ag (h:=Od (cs:=cs) h0 hm2)) rfl rfl rfl ?_ ?_ ?_ ?_ ?_
  ·simp
  ·simp
  ·constructor<;>simp
  ·rfl
  simp -implicitDefEqProofs (maxSteps:=2000000) [h0,aj,ah,ae,ai,ak,au,af,Op.operands,Call.operands]
  refine aT (by decide) [[], [], [1], [2,1], [3,2,1], [4,3,2,1], [0,5,4,3,2,1], [], [7,6,0,1,2,3,4,5]] [38,39,40,41,42,43,44,6,0] [0,1,2,3,4,5,7,6,8] (by kernel_rfl) ?_
  simp -implicitDefEqProofs (maxSteps:=2000000) [h0,aj,ah,ae,ai,ak,au,af,Op.operands,Call.operands]
  refine bI (Ag (h:=Od (cs:=cs) h0 hm2)) rfl rfl rfl ?_ ?_ ?_ ?_ ?_
  ·simp
  ·simp
  ·constructor<;>simp
  ·rfl
  simp -implicitDefEqProofs (maxSteps:=2000000) [h0,aj,ah,ae,ai,ak,au,af,Op.operands,Call.operands]
  rw[Oe h0,Og h0]
  obtain⟨kx,bx,hkx,_,hbx⟩:=yw (Ny hu.small h0)
  obtain⟨ky,by_,hky,_,hby⟩:=yw (Nz hu.small h0)
  obtain⟨kz,bz,hkz,_,hbz⟩:=yw (Kit.small_nil hu.small)
  have ex:bx=false:=Bool.eq_false_iff.2 fun h=>OH h0 (hbx.1 h)
  have ey:by_=false:=Bool.eq_false_iff.2 fun h=>OI h0 (hby.1 h)
  have ez:bz=false:=Bool.eq_false_iff.2 fun h=>Kit.not_nil (hbz.1 h)
  subst ex;subst ey;subst ez
  refine CJ 34900 rfl rfl ?_
  simp -implicitDefEqProofs (maxSteps:=2000000) [LA]
  refine av (xu (h:=hkx)) rfl rfl ?_ ⟨rfl,rfl⟩ ?_
  ·simp
  simp -implicitDefEqProofs (maxSteps:=2000000)
  refine CJ 45900 rfl rfl ?_
  simp -implicitDefEqProofs (maxSteps:=2000000) [LA]
  refine av (xu (h:=hky)) rfl rfl ?_ ⟨rfl,rfl⟩ ?_
  ·simp
  simp -implicitDefEqProofs (maxSteps:=2000000)
  refine av (xu (h:=hkz)) rfl rfl ?_ ⟨rfl,rfl⟩ ?_
  ·simp
  simp -implicitDefEqProofs (maxSteps:=2000000)
  exact aV _ (by simp) ⟨rfl,rfl⟩
end Go.Proofs.Ytojpejfcafbafaa.V
end
section
namespace Go.Proofs.Ytojpejfcafbafaa.V
open Go Go.RowKit
set_option linter.unusedVariables false
set_option linter.unusedSimpArgs false
def canAt (p:Program) (fits:TypeId→Bool):Nat→TypeId→Bool
  |0,_=>false
  | d+1,e=>fits e||match p.underlying e with
    |some (.struct fs)=>fs.any fun f=>canAt p fits d f.type
    |some (.array _ e')=>canAt p fits d e'
    |_=>false
theorem CW {p:Program} {fits:TypeId→Bool}: ∀ {d:Nat} {e:TypeId} {count off n:Nat},rowAt p fits d e count off n=true→canAt p fits d e=true
  |0,e,count,off,n,h=>by simp[rowAt]at h
  | d + 1,e,count,off,n,h=>by
    unfold rowAt at h
    simp only at h
    split at h
    ·cases h
    · rw[Bool.or_eq_true]at h
      unfold canAt
      rw[Bool.or_eq_true]
      rcases h with h|h
      · simp only[Bool.and_eq_true]at h
        exact .inl h.2
      · right
        rw[Bool.and_eq_true]at h
        have h:=h.2
        split at h
        · rename_i fs hu
          rw[Bool.and_eq_true]at h
          have h:=h.2
          simp only[hu]
          rw[Array.any_eq_true]at h⊢
          obtain⟨i,hi,h⟩:=h
          rw[Bool.and_eq_true]at h
          exact⟨i,hi,CW h.2⟩
        · rename_i hu
          simp only[hu]
          exact CW h
        ·cases h
theorem bytes_ty {P:Program} {W:World} {base:Nat} {t e:TypeId} (hu:P.underlying t=some (.slice e)) (he:P.underlying e=some (.int .u8)) {a:Addr} {len cap:Nat} (h:Value.okWide P W .any base t (.slice (some a) len cap))
    (hno: ∀x∈ownTys,canAt P (fun y=>sameLayout P P.depth y e) P.depth x=false): ∃cells e' fr,W.heap[a.block]? =some (.cells cells e' fr)∧e' ∉ownTys:=by
  simp only[Value.okWide,hu,Cell.okWide,Cell.ok]at h
  obtain⟨_,_,_,_,row,cells,hs,hl⟩:=h
  unfold World.shape? at hs
  split at hs
  · rename_i c elem fr hc
    injection hs with hs
    injection hs with hs _
    subst hs
    refine⟨c,elem,fr,hc,fun hm=> ?_⟩
    have h1:=hno _ hm
    have h2: ∀d count off n,liesAt P d elem count off e n=true→rowAt P (fun y=>sameLayout P P.depth y e) P.depth elem count off n=true:=fun d count off n h=>by
      cases d with
      |zero=>simp[liesAt]at h
      | succ d=>
        simp only[liesAt,he,Bool.or_false]at h
        exact h
    rw[CW (h2 _ _ _ _ hl)]at h1
    cases h1
  ·cases hs
structure BytesAt (w:World) (a:Option Addr) (len cap:Nat) (bs:List Int):Prop where
  eq:bs.length=len
  le:len≤cap∧len≤maxLen
  rng: ∀x∈bs,0≤x∧x<256
  cell: ∀i,i<len→∃x,a=some x∧w.cell? (x.add i)=some (.int .u8 (bs.getD i 0))
  ty: ∀x,a=some x→0<len→∃cells e' fr,w.heap[x.block]? =some (.cells cells e' fr)∧e' ∉ownTys
theorem bytesAt_of {w:World} {a:Option Addr} {len cap:Nat} {zs:List Int} (h:(a=none∧len=0∧cap=0∧zs= [])∨∃x,a=some x∧len≤cap∧cap≤maxLen∧zs.length=cap∧(∀i,i<zs.length→w.cell? (x.add i)=some (.int .u8 (zs.getD i 0)))∧∀n∈zs,(Lit.int .u8 n).wf=true)
    (ty: ∀x,a=some x→0<len→∃cells e' fr,w.heap[x.block]? =some (.cells cells e' fr)∧e' ∉ownTys):BytesAt w a len cap (zs.take len):=by
  rcases h with⟨rfl,rfl,rfl,rfl⟩|⟨x,rfl,h1,h2,h3,h4,h5⟩
  ·exact⟨rfl,⟨by omega,by decide⟩,fun x hx=>(by cases hx),fun i hi=>absurd hi (Nat.not_lt_zero _),ty⟩
  · refine⟨by simp;omega,⟨h1,by omega⟩,fun n hn=> ?_,fun i hi=>⟨x,rfl, ?_⟩,ty⟩
    · have:=h5 n (List.mem_of_mem_take hn)
      simp[Lit.wf,IntKind.min,IntKind.max,IntKind.signed,IntKind.bits]at this
      omega
    · rw[h4 i (by omega)]
      simp[List.getD_eq_getElem?_getD,List.getElem?_take,hi]
theorem BytesAt.rep {w:World} {A:Nat→Prop} {a:Option Addr} {len cap:Nat} {bs:List Int} (h:BytesAt w a len cap bs) (hA: ∀b,b<w.heap.size→A b):RepT w A (.slice a len cap) (.sl 5 1 bs.length (fl 0 eb bs)):=by
  have hl:=h.eq
  subst hl
  refine .sl a _ cap _ 1 _ h.le.1 h.le.2 (fun hu=> ?_) (fun j hj=>rfl) (fun j o y hj hy=> ?_) (fun b hb hu=> ?_)
  · rcases hu with hu|hu
    ·obtain⟨x,rfl,_⟩:=h.cell 0 hu;rfl
    ·exact absurd rfl hu.1
  · obtain⟨x,hx,hc⟩:=h.cell j hj
    have hy: [T.s (.int .u8 (bs.getD j 0))][o]? =some y:=hy
    cases o with
    | zero=>
      injection hy with hy
      subst hy
      exact⟨x,_,hx,by simpa using hc, .s _ rfl⟩
    |succ o=>simp at hy
  · have h0:0<bs.length:=by
      rcases hu with hu|hu
      ·exact hu
      ·exact absurd rfl hu.1
    obtain⟨cells,e',fr,hc,hn⟩:=h.ty b hb h0
    exact⟨hA _ (Array.getElem?_eq_some_iff.1 hc).1,cells,fr,⟨e',hc, .inr ⟨rfl,hn⟩⟩, .inl rfl⟩
theorem OT (w:World):Mem ⟨w,fun b=>b<w.heap.size, [],fun _=>undef,fun _=>False⟩ [] w (fun _=>undef):=
  ⟨⟨rfl,rfl,rfl,Nat.le_refl _,fun _ _ _=>rfl⟩,fun k x h=>by simp[Bs.live,Bs.get]at h,fun k x g h=>by simp[Bs.live,Bs.get]at h,fun k k' x x' g h=>by simp[Bs.live,Bs.get]at h,fun k x h=>by simp[Bs.live,Bs.get]at h,fun k x b' h=>by simp[Bs.live,Bs.get]at h,fun e h=>by simp[Bs.get]at h⟩
theorem MF {w w' :World} {ρ:Nat→Value} (h:Mem ⟨w,fun b=>b<w.heap.size, [],fun _=>undef,fun _=>False⟩ [] w' ρ):Below w.heap.size w w' :=
  ⟨h.keeps.os,h.keeps.tape,h.keeps.output,h.keeps.size,fun k hk=>h.keeps.block k hk (by
    rintro(⟨k,x,h1,_⟩|h)
    ·simp[Bs.live,Bs.get]at h1
    ·exact h)⟩
theorem MG {w:World} {A:Nat→Prop} {v:Value} (h:RepT w A v (.s (.bool true))):v= .bool true:=by cases h;rfl
theorem law1 {P:Program} {g:Nat} (ct: ∀bs:List Int,(∀x∈bs,0≤x∧x<256)→bs.length≤maxLen→iU P g [.c (.t (.sl 5 1 bs.length (fl 0 eb bs)))] (.c (.t (.b true)))) {w:World} {a:Option Addr} {len cap:Nat} {bs:List Int} (h:BytesAt w a len cap bs):
    Calls P g #[.slice a len cap] w fun e w' =>e= .returned (.bool true)∧Below w.heap.size w w' :=by
  refine(ct bs h.rng (by rw[h.eq];exact h.le.2) w _ _ _ #[.slice a len cap] (OT w) rfl fun i x hx=> ?_).mono ?_
  · cases i with
    | zero=>
      injection hx with hx
      subst hx
      exact h.rep fun b hb=>⟨.inl hb,hb,fun k x h=>by simp[Bs.live,Bs.get]at h⟩
    |succ i=>simp at hx
  · rintro e w' ⟨v',res,B',ρ',rfl,⟨rfl,rfl⟩,hm,hv⟩
    exact⟨by rw[MG hv],MF hm⟩
end Go.Proofs.Ytojpejfcafbafaa.V
end
