/- A part of the claim FnUnitFirst. -/
import Derived.MapKept
import Derived.Test.YtojpejfcafbafaaCFnUnitFirst33
section
namespace Go.Proofs.Ytojpejfcafbafaa.V
open Go Go.RowKit Go.Proofs.Ytojpejfcafbafaa.P
set_option linter.unusedVariables false
set_option linter.unusedSimpArgs false
attribute [local simp ↓] eG eH fQ fT eO dM fZ eP eQ gm gp gq dN dO dP gB gz gG gF dQ bW dV cz dJ dR eT eU eX
attribute [local simp] fU fV dK bR eF dL bS bT bU bV bM bN dS eY dU bX bY bZ cu bO fD lM iL dz iw evl dI eZ fu kD iX List.range List.range.loop lT kX fo fB iC iA Bs.live Bs.get lN WkV WkA WkC lg lH kY lD cZ iM TEq.refl bg fH qQ aF aG aD aH aI aJ ei d9 splice dE Bs.set kU fC Rn.at gu gy iF iD lL chunks lC fP toT fE iE rowsOf cB ik plR plV plC lF lI lQ lh fI iR lU
attribute [local simp] List.length_pos_iff qR qU iG iH iI puts dh
attribute [local simp ←] ig
attribute [local simp] wu wL wO wN wM ksL ru ksV rV ksC ksT ren kr rO rH dw tZ uf ug qY qZ rf bsC wF bsV vJ uo uX uY uq ut uu uw sO sP sQ sS sU r9 sV fF dW dx iW iB iO iQ lS rG closedB iT kP kG kH kJ kL iJ kN
attribute [local simp] ag3 un3 sz3 in3 by3 ze3 ct3 zt3 zu3 ag4 un4 sz4 in4 by4 ze4 ct4 zt4 zu4 ag5 un5 sz5 in5 by5 ze5 ct5 zt5 zu5 mi mq mD mE mF mG mH mI mJ io3 mK io5 bo4 mM mO mP mQ mR mU mV mW mX mY mZ ng ni nk nu ny nz nA nC nD nE nG nH nI nJ nK nL nM nN nO nP nQ nR nS nT nU nV nW nX nY nZ oh ol om oo oq ou ow oz oC oD oF oG oH oI oJ oK oL oM oN oO oP oQ oU oV oW oZ o6 o7 o8 iZ ja jb jc jd je jf jg jh ji jk jl jm jo jq jr jv jw jy jA o9 pg pu pz pE pF pG pI pJ pK jB jC jD jE jF jG jH jI jJ jK jL jM jN jO jP jQ jR jS jT jU jV jW jX jY jZ kg ko mz gH gI gJ gK gL gN gP gQ gT gU gV gW gX gY gZ ib pO pQ pR pU pV pW pX pY p9 qa qb qc qd qf qg qh qi qj ql qm qo qp qw qx qy qz qA qB qC qD qE qF qG qH qI qJ qK qL qM qN qO qP mix
attribute [local simp] eb eC eI eS eK eM nm
set_option maxRecDepth 20000 in
set_option maxHeartbeats 4000000 in
theorem En (k:Nat) (d:List Int) (g:Int) (r:(List (S41))×(List (S35))×Int) (h:kZ.f k d g=some r):uL Try.prog 17 [.c (.ptr 0 0 0)] [(0,some (rdB d g))] (.agg [.t (tC (r.1)), .own 900 8 (r.2.1).length]) [(0,some (rdB d (r.2.2))),(900,some (.row 35 8 (r.2.1).length (fl z35 eM (r.2.1))))]:=by
  unfold kZ.f at h
  try simp only[aF,aG,aD,aH,aI,aJ]at h
  refine bF Try.func17 rfl rfl rfl ?_
  try simp -implicitDefEqProofs (maxSteps:=2000000)
  repeat' first
    |(show ek _ _ 6 _ _ _ _;refine aT (by decide) [[], [], [], [2], [], [3,4,2], [5,3,4,2], [0,1,6,5,3,4,2], [], [8,7,0,1,2,3,4,5,6]] [23,24,25,26,27,28,29,30,5,0] [0,1,2,3,4,5,6,8,7,9] (by kernel_rfl) ?_;try simp -implicitDefEqProofs (maxSteps:=2000000) [*, -h,aj,ah,ae,ai,ak,au,af,Op.operands,Call.operands])
    |(with_reducible (first|(replace h:=bC (by assumption) h)|(replace h:=bD (by assumption) h)|(replace h:=aY (by assumption) h)|(replace h:=aZ (by assumption) h)))
    |((with_reducible have hh:=aB h);clear h;rcases hh with⟨hc,h⟩|⟨hc,h⟩<;>have hd:=hc<;>(first|(replace hc:=dA hc)|(replace hc:=dB hc)|skip)<;>(try simp at hd)<;>(first|exact absurd hd (of_eq_false (by assumption))|exact absurd (of_eq_true (by assumption)) hd|skip)<;>(try(first|(subst hd)|(replace hd:=bG hd)|(replace hd:=eq_false hd)|(replace hd:=eq_true hd)))<;>(try simp -implicitDefEqProofs (maxSteps:=2000000) [*, -h,aj,ah,ae,ai,ak,au,af,Op.operands,Call.operands]))
    |(with_reducible replace h:=aL h)
    | ((with_reducible have hh:=Option.bind_eq_some_iff.1 h);clear h;obtain⟨x_,hx_,h⟩:=hh;(first|(refine aC (rE (h:=hx_)) rfl rfl rfl ?_ ?_ ?_ ?_;(·simp[*]);(·simp[*]);(·constructor<;>simp);clear hx_;try simp -implicitDefEqProofs (maxSteps:=2000000) [*, -h,aj,ah,ae,ai,ak,au,af,Op.operands,Call.operands])|(refine bI (rE (h:=hx_)) rfl rfl rfl ?_ ?_ ?_ ?_ ?_;(·simp[*]);(·simp[*]);(·constructor<;>simp);(·rfl);clear hx_;try simp -implicitDefEqProofs (maxSteps:=2000000) [*, -h,aj,ah,ae,ai,ak,au,af,Op.operands,Call.operands])|(refine av (mf (h:=hx_)) rfl rfl ?_ ⟨rfl,rfl⟩ ?_;(·simp[*]);clear hx_;try simp -implicitDefEqProofs (maxSteps:=2000000) [*, -h,aj,ah,ae,ai,ak,au,af,Op.operands,Call.operands])|(refine bf (mf (h:=hx_)) rfl rfl ?_ ⟨rfl,rfl⟩ rfl ?_;(·simp[*]);clear hx_;try simp -implicitDefEqProofs (maxSteps:=2000000) [*, -h,aj,ah,ae,ai,ak,au,af,Op.operands,Call.operands])|(refine aC (lV (h:=hx_)) rfl rfl rfl ?_ ?_ ?_ ?_;(·simp[*]);(·simp[*]);(·constructor<;>simp);clear hx_;try simp -implicitDefEqProofs (maxSteps:=2000000) [*, -h,aj,ah,ae,ai,ak,au,af,Op.operands,Call.operands])|(refine bI (lV (h:=hx_)) rfl rfl rfl ?_ ?_ ?_ ?_ ?_;(·simp[*]);(·simp[*]);(·constructor<;>simp);(·rfl);clear hx_;try simp -implicitDefEqProofs (maxSteps:=2000000) [*, -h,aj,ah,ae,ai,ak,au,af,Op.operands,Call.operands])|(refine av (iq (h:=hx_)) rfl rfl ?_ ⟨rfl,rfl⟩ ?_;(·simp[*]);clear hx_;try simp -implicitDefEqProofs (maxSteps:=2000000) [*, -h,aj,ah,ae,ai,ak,au,af,Op.operands,Call.operands])|(refine bf (iq (h:=hx_)) rfl rfl ?_ ⟨rfl,rfl⟩ rfl ?_;(·simp[*]);clear hx_;try simp -implicitDefEqProofs (maxSteps:=2000000) [*, -h,aj,ah,ae,ai,ak,au,af,Op.operands,Call.operands])|(refine aC (qV (h:=hx_)) rfl rfl rfl ?_ ?_ ?_ ?_;(·simp[*]);(·simp[*]);(·constructor<;>simp);clear hx_;try simp -implicitDefEqProofs (maxSteps:=2000000) [*, -h,aj,ah,ae,ai,ak,au,af,Op.operands,Call.operands])|(refine bI (qV (h:=hx_)) rfl rfl rfl ?_ ?_ ?_ ?_ ?_;(·simp[*]);(·simp[*]);(·constructor<;>simp);(·rfl);clear hx_;try simp -implicitDefEqProofs (maxSteps:=2000000) [*, -h,aj,ah,ae,ai,ak,au,af,Op.operands,Call.operands])|(refine aC (rF (h:=hx_)) rfl rfl rfl ?_ ?_ ?_ ?_;(·simp[*]);(·simp[*]);(·constructor<;>simp);clear hx_;try simp -implicitDefEqProofs (maxSteps:=2000000) [*, -h,aj,ah,ae,ai,ak,au,af,Op.operands,Call.operands])|(refine bI (rF (h:=hx_)) rfl rfl rfl ?_ ?_ ?_ ?_ ?_;(·simp[*]);(·simp[*]);(·constructor<;>simp);(·rfl);clear hx_;try simp -implicitDefEqProofs (maxSteps:=2000000) [*, -h,aj,ah,ae,ai,ak,au,af,Op.operands,Call.operands]))
       )
    |(refine⟨(by first|exact aP (by assumption) (by decide) (by decide)|exact aN (by assumption) (by decide) (by decide)), ?_⟩;try simp -implicitDefEqProofs (maxSteps:=2000000) [*, -h,aj,ah,ae,ai,ak,au,af,Op.operands,Call.operands])
    |(cases h;done)
    |(cases h;refine ed _ rfl ?_;constructor<;>simp[*]<;>exact az (by omega) (by omega) (by simp))
    |(exfalso;clear h;simp_all;done)
  rename_i cs_
  refine xk [true,false,true,true,true] (fun a=> [(4, .i a.1)]) (fun(a:Int×List S35×Int)=> [(0,some (rdB d a.2.2)),(500,some (.row 35 8 a.2.1.length (fl z35 eM a.2.1))),(103,some (.box 26 [.t (tC cs_.fst), .own 500 8 a.2.1.length])),(15900,none)]) (fun n a=>kZ.l0 n a.1 a.2.1 _ a.2.2 _=some _) [(500,15900)] (b0:=(_,_,_)) h (by constructor<;>simp[idR,mkT]) ?_
  clear h;rintro k ⟨i,ms,p⟩ hk h
  obtain⟨k,rfl⟩:=aM (f:=fun k=>kZ.l0 k _ _ _ _ _) (by simp only[kZ.l0]) h
  simp only[kZ.l0]at h
  try simp only[aF,aG,aD,aH,aI,aJ]at h
  refine uZ ?_
  try simp -implicitDefEqProofs (maxSteps:=2000000)
  repeat' first
      |(show ek _ _ 6 _ _ _ _;refine aT (by decide) [[], [], [], [2], [], [3,4,2], [5,3,4,2], [0,1,6,5,3,4,2], [], [8,7,0,1,2,3,4,5,6]] [23,24,25,26,27,28,29,30,5,0] [0,1,2,3,4,5,6,8,7,9] (by kernel_rfl) ?_;try simp -implicitDefEqProofs (maxSteps:=2000000) [*, -h,aj,ah,ae,ai,ak,au,af,Op.operands,Call.operands])
      |(with_reducible (first|(replace h:=bC (by assumption) h)|(replace h:=bD (by assumption) h)|(replace h:=aY (by assumption) h)|(replace h:=aZ (by assumption) h)))
      |((with_reducible have hh:=aB h);clear h;rcases hh with⟨hc,h⟩|⟨hc,h⟩<;>have hd:=hc<;>(first|(replace hc:=dA hc)|(replace hc:=dB hc)|skip)<;>(try simp at hd)<;>(first|exact absurd hd (of_eq_false (by assumption))|exact absurd (of_eq_true (by assumption)) hd|skip)<;>(try(first|(subst hd)|(replace hd:=bG hd)|(replace hd:=eq_false hd)|(replace hd:=eq_true hd)))<;>(try simp -implicitDefEqProofs (maxSteps:=2000000) [*, -h,aj,ah,ae,ai,ak,au,af,Op.operands,Call.operands]))
      |(with_reducible replace h:=aL h)
      | ((with_reducible have hh:=Option.bind_eq_some_iff.1 h);clear h;obtain⟨x_,hx_,h⟩:=hh;(first|(refine aC (rE (h:=hx_)) rfl rfl rfl ?_ ?_ ?_ ?_;(·simp[*]);(·simp[*]);(·constructor<;>simp);clear hx_;try simp -implicitDefEqProofs (maxSteps:=2000000) [*, -h,aj,ah,ae,ai,ak,au,af,Op.operands,Call.operands])|(refine bI (rE (h:=hx_)) rfl rfl rfl ?_ ?_ ?_ ?_ ?_;(·simp[*]);(·simp[*]);(·constructor<;>simp);(·rfl);clear hx_;try simp -implicitDefEqProofs (maxSteps:=2000000) [*, -h,aj,ah,ae,ai,ak,au,af,Op.operands,Call.operands])|(refine av (mf (h:=hx_)) rfl rfl ?_ ⟨rfl,rfl⟩ ?_;(·simp[*]);clear hx_;try simp -implicitDefEqProofs (maxSteps:=2000000) [*, -h,aj,ah,ae,ai,ak,au,af,Op.operands,Call.operands])|(refine bf (mf (h:=hx_)) rfl rfl ?_ ⟨rfl,rfl⟩ rfl ?_;(·simp[*]);clear hx_;try simp -implicitDefEqProofs (maxSteps:=2000000) [*, -h,aj,ah,ae,ai,ak,au,af,Op.operands,Call.operands])|(refine aC (lV (h:=hx_)) rfl rfl rfl ?_ ?_ ?_ ?_;(·simp[*]);(·simp[*]);(·constructor<;>simp);clear hx_;try simp -implicitDefEqProofs (maxSteps:=2000000) [*, -h,aj,ah,ae,ai,ak,au,af,Op.operands,Call.operands])|(refine bI (lV (h:=hx_)) rfl rfl rfl ?_ ?_ ?_ ?_ ?_;(·simp[*]);(·simp[*]);(·constructor<;>simp);(·rfl);clear hx_;try simp -implicitDefEqProofs (maxSteps:=2000000) [*, -h,aj,ah,ae,ai,ak,au,af,Op.operands,Call.operands])|(refine av (iq (h:=hx_)) rfl rfl ?_ ⟨rfl,rfl⟩ ?_;(·simp[*]);clear hx_;try simp -implicitDefEqProofs (maxSteps:=2000000) [*, -h,aj,ah,ae,ai,ak,au,af,Op.operands,Call.operands])|(refine bf (iq (h:=hx_)) rfl rfl ?_ ⟨rfl,rfl⟩ rfl ?_;(·simp[*]);clear hx_;try simp -implicitDefEqProofs (maxSteps:=2000000) [*, -h,aj,ah,ae,ai,ak,au,af,Op.operands,Call.operands])|(refine aC (qV (h:=hx_)) rfl rfl rfl ?_ ?_ ?_ ?_;(·simp[*]);(·simp[*]);(·constructor<;>simp);clear hx_;try simp -implicitDefEqProofs (maxSteps:=2000000) [*, -h,aj,ah,ae,ai,ak,au,af,Op.operands,Call.operands])|(refine bI (qV (h:=hx_)) rfl rfl rfl ?_ ?_ ?_ ?_ ?_;(·simp[*]);(·simp[*]);(·constructor<;>simp);(·rfl);clear hx_;try simp -implicitDefEqProofs (maxSteps:=2000000) [*, -h,aj,ah,ae,ai,ak,au,af,Op.operands,Call.operands])|(refine aC (rF (h:=hx_)) rfl rfl rfl ?_ ?_ ?_ ?_;(·simp[*]);(·simp[*]);(·constructor<;>simp);clear hx_;try simp -implicitDefEqProofs (maxSteps:=2000000) [*, -h,aj,ah,ae,ai,ak,au,af,Op.operands,Call.operands])|(refine bI (rF (h:=hx_)) rfl rfl rfl ?_ ?_ ?_ ?_ ?_;(·simp[*]);(·simp[*]);(·constructor<;>simp);(·rfl);clear hx_;try simp -implicitDefEqProofs (maxSteps:=2000000) [*, -h,aj,ah,ae,ai,ak,au,af,Op.operands,Call.operands]))
         )
      |(refine⟨(by first|exact aP (by assumption) (by decide) (by decide)|exact aN (by assumption) (by decide) (by decide)), ?_⟩;try simp -implicitDefEqProofs (maxSteps:=2000000) [*, -h,aj,ah,ae,ai,ak,au,af,Op.operands,Call.operands])
      |(cases h;done)
      |(cases h;refine ed _ rfl ?_;constructor<;>simp[*]<;>exact az (by omega) (by omega) (by simp))
      |(exfalso;clear h;simp_all;done)
  have hh:=Option.bind_eq_some_iff.1 h
  clear h;obtain⟨⟨m0,m1,m2,m3,m4,m5,m6,m7,p⟩,hx_,h⟩:=hh
  refine K7 [35] (rE (h:=hx_)) rfl rfl rfl rfl ?_ ?_ ?_ ?_ ?_ ?_
  ·simp
  ·simp
  ·constructor<;>simp
  · constructor
    ·simp[vM]
    ·intro e he;simp at he;subst he;exact MK
    · intro q hq b hb e he
      simp at hq he;subst hq;subst he;cases hb
      exact NS (by decide)
  ·simp[aj,ah,ae,ai,ak,au,af,Op.operands,Call.operands]
  clear hx_
  simp -implicitDefEqProofs (maxSteps:=2000000) [*, -h,aj,ah,ae,ai,ak,au,af,Op.operands,Call.operands]
  have hh:=Option.bind_eq_some_iff.1 h
  clear h;obtain⟨⟨s0,s1⟩,hx_,h⟩:=hh
  refine Ay [35] (mf (h:=hx_)) rfl rfl ?_ ?_ ⟨rfl,rfl⟩ ?_ ?_
  ·simp
  ·simp[vM]
  ·intro e he;simp at he;subst he;exact NT
  clear hx_
  cases s1
  · simp -implicitDefEqProofs (maxSteps:=2000000) [*, -h]
    have h:=bD (by simp) h
    repeat' first
        |(show ek _ _ 6 _ _ _ _;refine aT (by decide) [[], [], [], [2], [], [3,4,2], [5,3,4,2], [0,1,6,5,3,4,2], [], [8,7,0,1,2,3,4,5,6]] [23,24,25,26,27,28,29,30,5,0] [0,1,2,3,4,5,6,8,7,9] (by kernel_rfl) ?_;try simp -implicitDefEqProofs (maxSteps:=2000000) [*, -h,aj,ah,ae,ai,ak,au,af,Op.operands,Call.operands])
        |(with_reducible (first|(replace h:=bC (by assumption) h)|(replace h:=bD (by assumption) h)|(replace h:=aY (by assumption) h)|(replace h:=aZ (by assumption) h)))
        |((with_reducible have hh:=aB h);clear h;rcases hh with⟨hc,h⟩|⟨hc,h⟩<;>have hd:=hc<;>(first|(replace hc:=dA hc)|(replace hc:=dB hc)|skip)<;>(try simp at hd)<;>(first|exact absurd hd (of_eq_false (by assumption))|exact absurd (of_eq_true (by assumption)) hd|skip)<;>(try(first|(subst hd)|(replace hd:=bG hd)|(replace hd:=eq_false hd)|(replace hd:=eq_true hd)))<;>(try simp -implicitDefEqProofs (maxSteps:=2000000) [*, -h,aj,ah,ae,ai,ak,au,af,Op.operands,Call.operands]))
        |(with_reducible replace h:=aL h)
        | ((with_reducible have hh:=Option.bind_eq_some_iff.1 h);clear h;obtain⟨x_,hx_,h⟩:=hh;(first|(refine aC (rE (h:=hx_)) rfl rfl rfl ?_ ?_ ?_ ?_;(·simp[*]);(·simp[*]);(·constructor<;>simp);clear hx_;try simp -implicitDefEqProofs (maxSteps:=2000000) [*, -h,aj,ah,ae,ai,ak,au,af,Op.operands,Call.operands])|(refine bI (rE (h:=hx_)) rfl rfl rfl ?_ ?_ ?_ ?_ ?_;(·simp[*]);(·simp[*]);(·constructor<;>simp);(·rfl);clear hx_;try simp -implicitDefEqProofs (maxSteps:=2000000) [*, -h,aj,ah,ae,ai,ak,au,af,Op.operands,Call.operands])|(refine av (mf (h:=hx_)) rfl rfl ?_ ⟨rfl,rfl⟩ ?_;(·simp[*]);clear hx_;try simp -implicitDefEqProofs (maxSteps:=2000000) [*, -h,aj,ah,ae,ai,ak,au,af,Op.operands,Call.operands])|(refine bf (mf (h:=hx_)) rfl rfl ?_ ⟨rfl,rfl⟩ rfl ?_;(·simp[*]);clear hx_;try simp -implicitDefEqProofs (maxSteps:=2000000) [*, -h,aj,ah,ae,ai,ak,au,af,Op.operands,Call.operands])|(refine aC (lV (h:=hx_)) rfl rfl rfl ?_ ?_ ?_ ?_;(·simp[*]);(·simp[*]);(·constructor<;>simp);clear hx_;try simp -implicitDefEqProofs (maxSteps:=2000000) [*, -h,aj,ah,ae,ai,ak,au,af,Op.operands,Call.operands])|(refine bI (lV (h:=hx_)) rfl rfl rfl ?_ ?_ ?_ ?_ ?_;(·simp[*]);(·simp[*]);(·constructor<;>simp);(·rfl);clear hx_;try simp -implicitDefEqProofs (maxSteps:=2000000) [*, -h,aj,ah,ae,ai,ak,au,af,Op.operands,Call.operands])|(refine av (iq (h:=hx_)) rfl rfl ?_ ⟨rfl,rfl⟩ ?_;(·simp[*]);clear hx_;try simp -implicitDefEqProofs (maxSteps:=2000000) [*, -h,aj,ah,ae,ai,ak,au,af,Op.operands,Call.operands])|(refine bf (iq (h:=hx_)) rfl rfl ?_ ⟨rfl,rfl⟩ rfl ?_;(·simp[*]);clear hx_;try simp -implicitDefEqProofs (maxSteps:=2000000) [*, -h,aj,ah,ae,ai,ak,au,af,Op.operands,Call.operands])|(refine aC (qV (h:=hx_)) rfl rfl rfl ?_ ?_ ?_ ?_;(·simp[*]);(·simp[*]);(·constructor<;>simp);clear hx_;try simp -implicitDefEqProofs (maxSteps:=2000000) [*, -h,aj,ah,ae,ai,ak,au,af,Op.operands,Call.operands])|(refine bI (qV (h:=hx_)) rfl rfl rfl ?_ ?_ ?_ ?_ ?_;(·simp[*]);(·simp[*]);(·constructor<;>simp);(·rfl);clear hx_;try simp -implicitDefEqProofs (maxSteps:=2000000) [*, -h,aj,ah,ae,ai,ak,au,af,Op.operands,Call.operands])|(refine aC (rF (h:=hx_)) rfl rfl rfl ?_ ?_ ?_ ?_;(·simp[*]);(·simp[*]);(·constructor<;>simp);clear hx_;try simp -implicitDefEqProofs (maxSteps:=2000000) [*, -h,aj,ah,ae,ai,ak,au,af,Op.operands,Call.operands])|(refine bI (rF (h:=hx_)) rfl rfl rfl ?_ ?_ ?_ ?_ ?_;(·simp[*]);(·simp[*]);(·constructor<;>simp);(·rfl);clear hx_;try simp -implicitDefEqProofs (maxSteps:=2000000) [*, -h,aj,ah,ae,ai,ak,au,af,Op.operands,Call.operands]))
           )
        |(refine⟨(by first|exact aP (by assumption) (by decide) (by decide)|exact aN (by assumption) (by decide) (by decide)), ?_⟩;try simp -implicitDefEqProofs (maxSteps:=2000000) [*, -h,aj,ah,ae,ai,ak,au,af,Op.operands,Call.operands])
        |(cases h;done)
        |(cases h;refine ed _ rfl ?_;constructor<;>simp[*]<;>exact az (by omega) (by omega) (by simp))
        |(exfalso;clear h;simp_all;done)
    have hh:=Option.bind_eq_some_iff.1 h
    clear h;obtain⟨⟨q0,q1,q2,q3,q4,q5,q6,q7⟩,hx_,h⟩:=hh
    refine Ay [35] (iq (h:=hx_)) rfl rfl ?_ ?_ ⟨rfl,rfl⟩ ?_ ?_
    ·simp
    ·simp[vM]
    ·intro e he;simp at he;subst he;exact MK
    clear hx_
    simp -implicitDefEqProofs (maxSteps:=2000000) [*, -h]
    repeat' first
        |(show ek _ _ 6 _ _ _ _;refine aT (by decide) [[], [], [], [2], [], [3,4,2], [5,3,4,2], [0,1,6,5,3,4,2], [], [8,7,0,1,2,3,4,5,6]] [23,24,25,26,27,28,29,30,5,0] [0,1,2,3,4,5,6,8,7,9] (by kernel_rfl) ?_;try simp -implicitDefEqProofs (maxSteps:=2000000) [*, -h,aj,ah,ae,ai,ak,au,af,Op.operands,Call.operands])
        |(with_reducible (first|(replace h:=bC (by assumption) h)|(replace h:=bD (by assumption) h)|(replace h:=aY (by assumption) h)|(replace h:=aZ (by assumption) h)))
        |((with_reducible have hh:=aB h);clear h;rcases hh with⟨hc,h⟩|⟨hc,h⟩<;>have hd:=hc<;>(first|(replace hc:=dA hc)|(replace hc:=dB hc)|skip)<;>(try simp at hd)<;>(first|exact absurd hd (of_eq_false (by assumption))|exact absurd (of_eq_true (by assumption)) hd|skip)<;>(try(first|(subst hd)|(replace hd:=bG hd)|(replace hd:=eq_false hd)|(replace hd:=eq_true hd)))<;>(try simp -implicitDefEqProofs (maxSteps:=2000000) [*, -h,aj,ah,ae,ai,ak,au,af,Op.operands,Call.operands]))
        |(with_reducible replace h:=aL h)
        | ((with_reducible have hh:=Option.bind_eq_some_iff.1 h);clear h;obtain⟨x_,hx_,h⟩:=hh;(first|(refine aC (rE (h:=hx_)) rfl rfl rfl ?_ ?_ ?_ ?_;(·simp[*]);(·simp[*]);(·constructor<;>simp);clear hx_;try simp -implicitDefEqProofs (maxSteps:=2000000) [*, -h,aj,ah,ae,ai,ak,au,af,Op.operands,Call.operands])|(refine bI (rE (h:=hx_)) rfl rfl rfl ?_ ?_ ?_ ?_ ?_;(·simp[*]);(·simp[*]);(·constructor<;>simp);(·rfl);clear hx_;try simp -implicitDefEqProofs (maxSteps:=2000000) [*, -h,aj,ah,ae,ai,ak,au,af,Op.operands,Call.operands])|(refine av (mf (h:=hx_)) rfl rfl ?_ ⟨rfl,rfl⟩ ?_;(·simp[*]);clear hx_;try simp -implicitDefEqProofs (maxSteps:=2000000) [*, -h,aj,ah,ae,ai,ak,au,af,Op.operands,Call.operands])|(refine bf (mf (h:=hx_)) rfl rfl ?_ ⟨rfl,rfl⟩ rfl ?_;(·simp[*]);clear hx_;try simp -implicitDefEqProofs (maxSteps:=2000000) [*, -h,aj,ah,ae,ai,ak,au,af,Op.operands,Call.operands])|(refine aC (lV (h:=hx_)) rfl rfl rfl ?_ ?_ ?_ ?_;(·simp[*]);(·simp[*]);(·constructor<;>simp);clear hx_;try simp -implicitDefEqProofs (maxSteps:=2000000) [*, -h,aj,ah,ae,ai,ak,au,af,Op.operands,Call.operands])|(refine bI (lV (h:=hx_)) rfl rfl rfl ?_ ?_ ?_ ?_ ?_;(·simp[*]);(·simp[*]);(·constructor<;>simp);(·rfl);clear hx_;try simp -implicitDefEqProofs (maxSteps:=2000000) [*, -h,aj,ah,ae,ai,ak,au,af,Op.operands,Call.operands])|(refine av (iq (h:=hx_)) rfl rfl ?_ ⟨rfl,rfl⟩ ?_;(·simp[*]);clear hx_;try simp -implicitDefEqProofs (maxSteps:=2000000) [*, -h,aj,ah,ae,ai,ak,au,af,Op.operands,Call.operands])|(refine bf (iq (h:=hx_)) rfl rfl ?_ ⟨rfl,rfl⟩ rfl ?_;(·simp[*]);clear hx_;try simp -implicitDefEqProofs (maxSteps:=2000000) [*, -h,aj,ah,ae,ai,ak,au,af,Op.operands,Call.operands])|(refine aC (qV (h:=hx_)) rfl rfl rfl ?_ ?_ ?_ ?_;(·simp[*]);(·simp[*]);(·constructor<;>simp);clear hx_;try simp -implicitDefEqProofs (maxSteps:=2000000) [*, -h,aj,ah,ae,ai,ak,au,af,Op.operands,Call.operands])|(refine bI (qV (h:=hx_)) rfl rfl rfl ?_ ?_ ?_ ?_ ?_;(·simp[*]);(·simp[*]);(·constructor<;>simp);(·rfl);clear hx_;try simp -implicitDefEqProofs (maxSteps:=2000000) [*, -h,aj,ah,ae,ai,ak,au,af,Op.operands,Call.operands])|(refine aC (rF (h:=hx_)) rfl rfl rfl ?_ ?_ ?_ ?_;(·simp[*]);(·simp[*]);(·constructor<;>simp);clear hx_;try simp -implicitDefEqProofs (maxSteps:=2000000) [*, -h,aj,ah,ae,ai,ak,au,af,Op.operands,Call.operands])|(refine bI (rF (h:=hx_)) rfl rfl rfl ?_ ?_ ?_ ?_ ?_;(·simp[*]);(·simp[*]);(·constructor<;>simp);(·rfl);clear hx_;try simp -implicitDefEqProofs (maxSteps:=2000000) [*, -h,aj,ah,ae,ai,ak,au,af,Op.operands,Call.operands]))
           )
        |(refine⟨(by first|exact aP (by assumption) (by decide) (by decide)|exact aN (by assumption) (by decide) (by decide)), ?_⟩;try simp -implicitDefEqProofs (maxSteps:=2000000) [*, -h,aj,ah,ae,ai,ak,au,af,Op.operands,Call.operands])
        |(cases h;done)
        |(cases h;refine ed _ rfl ?_;constructor<;>simp[*]<;>exact az (by omega) (by omega) (by simp))
        |(exfalso;clear h;simp_all;done)
    exact ku [true,false,true,true,true] [] (a:=(_,_,_)) (by omega) h (by constructor<;>simp[idR,mkT])
  · simp -implicitDefEqProofs (maxSteps:=2000000) [*, -h]
    have h:=bC rfl h
    repeat' first
        |(show ek _ _ 6 _ _ _ _;refine aT (by decide) [[], [], [], [2], [], [3,4,2], [5,3,4,2], [0,1,6,5,3,4,2], [], [8,7,0,1,2,3,4,5,6]] [23,24,25,26,27,28,29,30,5,0] [0,1,2,3,4,5,6,8,7,9] (by kernel_rfl) ?_;try simp -implicitDefEqProofs (maxSteps:=2000000) [*, -h,aj,ah,ae,ai,ak,au,af,Op.operands,Call.operands])
        |(with_reducible (first|(replace h:=bC (by assumption) h)|(replace h:=bD (by assumption) h)|(replace h:=aY (by assumption) h)|(replace h:=aZ (by assumption) h)))
        |((with_reducible have hh:=aB h);clear h;rcases hh with⟨hc,h⟩|⟨hc,h⟩<;>have hd:=hc<;>(first|(replace hc:=dA hc)|(replace hc:=dB hc)|skip)<;>(try simp at hd)<;>(first|exact absurd hd (of_eq_false (by assumption))|exact absurd (of_eq_true (by assumption)) hd|skip)<;>(try(first|(subst hd)|(replace hd:=bG hd)|(replace hd:=eq_false hd)|(replace hd:=eq_true hd)))<;>(try simp -implicitDefEqProofs (maxSteps:=2000000) [*, -h,aj,ah,ae,ai,ak,au,af,Op.operands,Call.operands]))
        |(with_reducible replace h:=aL h)
        | ((with_reducible have hh:=Option.bind_eq_some_iff.1 h);clear h;obtain⟨x_,hx_,h⟩:=hh;(first|(refine aC (rE (h:=hx_)) rfl rfl rfl ?_ ?_ ?_ ?_;(·simp[*]);(·simp[*]);(·constructor<;>simp);clear hx_;try simp -implicitDefEqProofs (maxSteps:=2000000) [*, -h,aj,ah,ae,ai,ak,au,af,Op.operands,Call.operands])|(refine bI (rE (h:=hx_)) rfl rfl rfl ?_ ?_ ?_ ?_ ?_;(·simp[*]);(·simp[*]);(·constructor<;>simp);(·rfl);clear hx_;try simp -implicitDefEqProofs (maxSteps:=2000000) [*, -h,aj,ah,ae,ai,ak,au,af,Op.operands,Call.operands])|(refine av (mf (h:=hx_)) rfl rfl ?_ ⟨rfl,rfl⟩ ?_;(·simp[*]);clear hx_;try simp -implicitDefEqProofs (maxSteps:=2000000) [*, -h,aj,ah,ae,ai,ak,au,af,Op.operands,Call.operands])|(refine bf (mf (h:=hx_)) rfl rfl ?_ ⟨rfl,rfl⟩ rfl ?_;(·simp[*]);clear hx_;try simp -implicitDefEqProofs (maxSteps:=2000000) [*, -h,aj,ah,ae,ai,ak,au,af,Op.operands,Call.operands])|(refine aC (lV (h:=hx_)) rfl rfl rfl ?_ ?_ ?_ ?_;(·simp[*]);(·simp[*]);(·constructor<;>simp);clear hx_;try simp -implicitDefEqProofs (maxSteps:=2000000) [*, -h,aj,ah,ae,ai,ak,au,af,Op.operands,Call.operands])|(refine bI (lV (h:=hx_)) rfl rfl rfl ?_ ?_ ?_ ?_ ?_;(·simp[*]);(·simp[*]);(·constructor<;>simp);(·rfl);clear hx_;try simp -implicitDefEqProofs (maxSteps:=2000000) [*, -h,aj,ah,ae,ai,ak,au,af,Op.operands,Call.operands])|(refine av (iq (h:=hx_)) rfl rfl ?_ ⟨rfl,rfl⟩ ?_;(·simp[*]);clear hx_;try simp -implicitDefEqProofs (maxSteps:=2000000) [*, -h,aj,ah,ae,ai,ak,au,af,Op.operands,Call.operands])|(refine bf (iq (h:=hx_)) rfl rfl ?_ ⟨rfl,rfl⟩ rfl ?_;(·simp[*]);clear hx_;try simp -implicitDefEqProofs (maxSteps:=2000000) [*, -h,aj,ah,ae,ai,ak,au,af,Op.operands,Call.operands])|(refine aC (qV (h:=hx_)) rfl rfl rfl ?_ ?_ ?_ ?_;(·simp[*]);(·simp[*]);(·constructor<;>simp);clear hx_;try simp -implicitDefEqProofs (maxSteps:=2000000) [*, -h,aj,ah,ae,ai,ak,au,af,Op.operands,Call.operands])|(refine bI (qV (h:=hx_)) rfl rfl rfl ?_ ?_ ?_ ?_ ?_;(·simp[*]);(·simp[*]);(·constructor<;>simp);(·rfl);clear hx_;try simp -implicitDefEqProofs (maxSteps:=2000000) [*, -h,aj,ah,ae,ai,ak,au,af,Op.operands,Call.operands])|(refine aC (rF (h:=hx_)) rfl rfl rfl ?_ ?_ ?_ ?_;(·simp[*]);(·simp[*]);(·constructor<;>simp);clear hx_;try simp -implicitDefEqProofs (maxSteps:=2000000) [*, -h,aj,ah,ae,ai,ak,au,af,Op.operands,Call.operands])|(refine bI (rF (h:=hx_)) rfl rfl rfl ?_ ?_ ?_ ?_ ?_;(·simp[*]);(·simp[*]);(·constructor<;>simp);(·rfl);clear hx_;try simp -implicitDefEqProofs (maxSteps:=2000000) [*, -h,aj,ah,ae,ai,ak,au,af,Op.operands,Call.operands]))
           )
        |(refine⟨(by first|exact aP (by assumption) (by decide) (by decide)|exact aN (by assumption) (by decide) (by decide)), ?_⟩;try simp -implicitDefEqProofs (maxSteps:=2000000) [*, -h,aj,ah,ae,ai,ak,au,af,Op.operands,Call.operands])
        |(cases h;done)
        |(cases h;refine ed _ rfl ?_;constructor<;>simp[*]<;>exact az (by omega) (by omega) (by simp))
        |(exfalso;clear h;simp_all;done)
    exact ku [true,false,true,true,true] [] (a:=(_,_,_)) (by omega) h (by constructor<;>simp[idR,mkT])
def Gn (bs:List Int):Prop:= ∃k cs ms p,kZ.f k bs 0=some (cs,ms,p)∧0≤p∧p≤1000000∧UIn cs ms
structure UGen (cs:List S41) (ms:List S35):Prop where
  c1:1≤cs.length
  c2:cs.length≤20
  ck: ∀c∈cs,kC 1000 c
  m1:1≤ms.length
  m2:ms.length≤20
  mm: ∀m∈ms,kM 1000 m
theorem UIn.gen {cs:List S41} {ms:List S35} (h:UIn cs ms):UGen cs ms:=⟨h.c1,h.c2,fun c hc=>(h.ck c hc).mono (by decide),h.m1,h.m2,fun m hm=>(h.mm m hm).1.mono (by decide)⟩
theorem Lf {bs:List Int}:okA wes (.c (.t (.sl 5 1 bs.length (fl 0 eb bs)))):=fun e he=>yR ⟨fun h=>by subst h;revert he;decide,fun _=>(by decide: ∀e∈wes,e∈ownTys) e he⟩ fun j x hx=>by
  simp only[fl,eb,List.mem_singleton]at hx;subst hx;exact .s _
theorem Ml {P:Program} {ins:Bs} {o:Oper} {K:List V→Bs→Prop} {ts:List V} {B:Bs} (m:List Bool) (ub:List (Nat×Option Blk)) (hw:Wk ins (idR B) (dh m ts) B (dh m ts) (dE B ub)) (h:zI P ins o K (dh m ts) (dE B ub)):zI P ins o K ts B:=Az (zn m _ rfl hw) h
end Go.Proofs.Ytojpejfcafbafaa.V
end
section
namespace Go.Proofs.Ytojpejfcafbafaa.P
open Go.RowKit Go.Proofs.YtojpejfcafbafaaW.PrintWords Go.Proofs.YtojpejfcafbafaaW.PrintLast Go.Proofs.YtojpejfcafbafaaW.PrintMore
attribute [local go_sem] bn bq bP bQ aW aX bu bv
set_option linter.unusedVariables false
set_option linter.unusedSimpArgs false
def yc.f (c:Int) (e:Int) (a:List Int) (g:Int) (h:Int) (j:List (S67)) (k:List (S69)) (m:List (S73)):Option (List Int):=if c≥0 then(if([]:List Int).length<17592186044416 then((some (([]:List Int)++ [wrap64 (8+c)]:List Int)).bind fun d=>(if d.length+a.length<17592186044416 then(some (d++a))else(none)))else(none))else(if([]:List Int).length+a.length<17592186044416 then(some (([]:List Int)++a))else(none))
mutual
def dZ.j0:Nat→List (S41)→List (S35)→Int→Int→List Int→Int→Int→List (S67)→List (S69)→List (S73)→Option (Bool)
  |0,_,_,_,_,_,_,_,_,_,_=>none
  |k+1,d,o,e,g,a,c,h,j,m,n=>if(a.length:Int)>2 then(dZ.j1 k true d o e g a c h j m n)else((uN.f (d.length:Int) c).bind fun p=>(dZ.j1 k (!p) d o e g a c h j m n))
def dZ.j1:Nat→Bool→List (S41)→List (S35)→Int→Int→List Int→Int→Int→List (S67)→List (S69)→List (S73)→Option (Bool)
  |0,_,_,_,_,_,_,_,_,_,_,_=>none
  |k+1,p,n,o,c,d,a,e,g,h,j,m=>if p=true then(some false)else(dZ.l0 k a (a.length:Int) 0 n o c d a e g h j m)
def dZ.l0:Nat→List Int→Int→Int→List (S41)→List (S35)→Int→Int→List Int→Int→Int→List (S67)→List (S69)→List (S73)→Option (Bool)
  |0,_,_,_,_,_,_,_,_,_,_,_,_,_=>none
  |k+1,q,u,o,n,p,c,d,e,g,a,h,j,m=>if o<u then(if 0≤o then(if o<(q.length:Int)then((uN.f (n.length:Int) (rd q o)).bind fun r=>(if r=true then(dZ.l0 k q u (wrap64 (o+1)) n p c d e g a h j m)else(some false)))else(none))else(none))else(if a≤3 then((yc.f c d e g a h j m).bind fun t=>(some (decide (a≥(t.length:Int)))))else(some false))
end
def dZ.f (k:Nat) (d:List (S41)) (e:List (S35)) (a:Int) (c:Int) (g:List Int) (h:Int) (j:Int) (m:List (S67)) (n:List (S69)) (o:List (S73)):Option (Bool):=if a=(-1)then(if c=0 then(dZ.j0 k d e a c g h j m n o)else(some false))else(if a=0 then(some false)else((vG.f d a).bind fun p=>(if p=true then(if c<0 then(some false)else(if c≥3 then(some false)else(dZ.j0 k d e a c g h j m n o)))else(some false))))
end Go.Proofs.Ytojpejfcafbafaa.P
end
section
namespace Go.Proofs.Ytojpejfcafbafaa.Kit
open Go Go.RowKit Go.Proofs.YtojpejfcafbafaaW.PrintWords Go.Proofs.Ytojpejfcafbafaa.P
set_option linter.unusedVariables false
abbrev Mth:=S35
abbrev Ins:=S67
abbrev kR:=S69
abbrev Cth:=S73
theorem rdX {xs:List Ins} (i:Nat):bB xs (i:Int)=xs.getD i z67:=rfl
theorem rdS {xs:List kR} (i:Nat):kw xs (i:Int)=xs.getD i z69:=rfl
theorem rdK {xs:List Cth} (i:Nat):fJ xs (i:Int)=xs.getD i z73:=rfl
def yn (a0:Int):Int:=if 0≤a0 then 1 else 0
theorem Jm {a0:Int} (h:a0<0):yn a0=0:=if_neg (by omega)
theorem Ij {a0:Int} (h:0≤a0):yn a0=1:=if_pos h
def GI (n:Nat) (a0 a1:Int):Prop:=(a0= -1∧a1=0)∨(1≤a0∧a0<(n:Int)∧0≤a1∧a1<3)
def J8 (n:Nat) (a0:Int) (l2:List Int) (a3 a4:Int):Prop:=l2.length≤2∧rC n a3∧(∀t∈l2,rC n t)∧a4≤3∧yn a0+(l2.length:Int)≤a4
def zO (n:Nat) (a0 a1:Int) (l2:List Int) (a3 a4:Int):Prop:=GI n a0 a1∧J8 n a0 l2 a3 a4
theorem Mm {a0 a1:Int} {l2:List Int} {a3 a4:Int} {l5:List Ins} {l6:List kR} {l7:List Cth} (hl:l2.length≤1048576): ∃g,yc.f a0 a1 l2 a3 a4 l5 l6 l7=some g∧(g.length:Int)=yn a0+(l2.length:Int):=by
  unfold yc.f
  by_cases h:a0≥0
  · rw[if_pos h,if_pos (by simp)]
    simp only[Option.bind_some]
    rw[if_pos (by simp;omega),Ij h]
    exact⟨_,rfl,by simp;omega⟩
  · rw[if_neg h,if_pos (by simp;omega),Jm (by omega)]
    exact⟨_,rfl,by simp⟩
theorem Ko {cs:List Cls} (hs:vU cs) (ms:List Mth) {a0 a1:Int} {l2:List Int} {a3 a4:Int} (l5:List Ins) (l6:List kR) (l7:List Cth) (h0: -9223372036854775808≤a3) (h1:a3≤9223372036854775807) (hl:l2.length≤1048576) (il:I64 l2):
    Evp (fun k=>dZ.f k cs ms a0 a1 l2 a3 a4 l5 l6 l7) (fun r=>r=true↔zO cs.length a0 a1 l2 a3 a4):=by
  have hs0:=hs.1
  have jt: ∀P:Prop,¬P→Evp (fun k=>dZ.j1 k true cs ms a0 a1 l2 a3 a4 l5 l6 l7) (fun r=>r=true↔P):=fun P h=>
    Evp.step (f:=fun k=>_) (fun k=>by rw[dZ.j1]) (Evp.yes rfl (Evp.pure _ (kQ h)))
  have j0 :Evp (fun k=>dZ.j0 k cs ms a0 a1 l2 a3 a4 l5 l6 l7) (fun r=>r=true↔J8 cs.length a0 l2 a3 a4):=by
    refine Evp.step (f:=fun k=>_) (fun k=>by rw[dZ.j0]) (Evp.ite (fun h2=>jt _ fun h3=> ?_) (fun h2=> ?_))
    ·have:=h3.1;omega
    obtain⟨b,hb,hb2⟩:=zN (n:=cs.length) (by omega) h0 h1
    simp only[hb,Option.bind_some]
    cases b with
    |false=>exact jt _ fun h3=>by have:=hb2.2 h3.2.1;cases this
    | true=>
      have h3:=hb2.1 rfl
      refine Evp.step (f:=fun k=>_) (fun k=>by rw[dZ.j1]) (Evp.no (by decide) ?_)
      obtain⟨g,hg,hg2⟩:=Mm (a0:=a0) (a1:=a1) (a3:=a3) (a4:=a4) (l5:=l5) (l6:=l6) (l7:=l7) hl
      have k0: ∀i,i≤l2.length→Evp (fun k=>dZ.l0 k l2 (l2.length:Int) (i:Int) cs ms a0 a1 l2 a3 a4 l5 l6 l7) (fun r=>r=true↔(∀j,i≤j→j<l2.length→rC cs.length (l2.getD j 0))∧(a4≤3∧yn a0+(l2.length:Int)≤a4)):=by
        refine Evp.for_ ?_ (fun i hi ih=> ?_)
        · refine Evp.step (f:=fun k=>_) (fun k=>by rw[dZ.l0]) (Evp.no (by omega) (Evp.ite (fun h4=> ?_) (fun h4=>Evp.pure _ (sZ (kQ fun h5=>h4 h5.1)))))
          simp only[hg,Option.bind_some]
          refine Evp.pure _ (sZ ?_)
          rw[decide_eq_true_iff,ge_iff_le,hg2]
          exact⟨fun h5=>⟨h4,h5⟩,fun h5=>h5.2⟩
        · refine Evp.step (f:=fun k=>_) (fun k=>by rw[dZ.l0,rdN]) (Evp.yes (by omega) (Evp.yes (by omega) (Evp.yes (by omega) ?_)))
          obtain⟨c,hc,hc2⟩:=zN (n:=cs.length) (by omega) (il.at hi).1 (il.at hi).2
          simp only[hc,Option.bind_some]
          refine Evp.ite (fun h5=> ?_) (fun h5=>Evp.pure _ (lG hi fun h7=>h5 (hc2.2 h7)))
          rw[uV hi (by omega)]
          exact ih.mono fun r hr=>tF (Q:=fun j=>rC cs.length (l2.getD j 0)) (hc2.1 h5) hr
      refine(k0 0 (Nat.zero_le _)).mono fun r hr=>hr.trans ?_
      rw[zt (Q:=fun t=>rC cs.length t)]
      unfold J8
      exact⟨fun h5=>⟨by omega,h3,h5.1,h5.2.1,h5.2.2⟩,fun h5=>⟨h5.2.2.1,h5.2.2.2.1,h5.2.2.2.2⟩⟩
  have fin:GI cs.length a0 a1→Evp (fun k=>dZ.j0 k cs ms a0 a1 l2 a3 a4 l5 l6 l7) (fun r=>r=true↔zO cs.length a0 a1 l2 a3 a4):=fun ha=>j0.mono fun r hr=>hr.trans ⟨fun h=>⟨ha,h⟩,fun h=>h.2⟩
  have no: ¬GI cs.length a0 a1→Evp (fun k=>some false) (fun r=>r=true↔zO cs.length a0 a1 l2 a3 a4):=fun ha=>Evp.pure _ (kQ fun h=>ha h.1)
  unfold dZ.f
  refine Evp.ite (fun h2=>Evp.ite (fun h3=>fin (.inl ⟨h2,h3⟩)) (fun h3=>no ?_)) (fun h2=>Evp.ite (fun h3=>no ?_) (fun h3=> ?_))
  ·rintro(h4|h4)<;>omega
  ·rintro(h4|h4)<;>omega
  obtain⟨x,hx,hx2⟩:=xZ cs a0
  simp only[hx,Option.bind_some]
  refine Evp.ite (fun h4=>Evp.ite (fun h5=>no ?_) (fun h5=>Evp.ite (fun h6=>no ?_) (fun h6=>fin (.inr ?_)))) (fun h4=>no ?_)
  ·rintro(h7|h7)<;>omega
  ·rintro(h7|h7)<;>omega
  ·have:=hx2.1 h4;omega
  · rintro(h7|h7)
    ·omega
    ·exact h4 (hx2.2 (by omega))
theorem Kq {cs:List Cls} (hs:vU cs) (ms:List Mth) {a0 a1:Int} {l2:List Int} {a3 a4:Int} (l5:List Ins) (l6:List kR) (l7:List Cth) (hl:l2.length≤1048576):
    Evp (fun k=>dG.f k cs ms a0 a1 l2 a3 a4 l5 l6 l7) (fun r=>r=true↔zO cs.length a0 a1 l2 a3 a4):=by
  have hs0:=hs.1
  have jt: ∀P:Prop,¬P→Evp (fun k=>dG.j1 k true cs ms a0 a1 l2 a3 a4 l5 l6 l7) (fun r=>r=true↔P):=fun P h=>
    Evp.step (f:=fun k=>_) (fun k=>by rw[dG.j1]) (Evp.yes rfl (Evp.pure _ (kQ h)))
  have key:Evp (fun k=>dG.j0 k (yn a0) cs ms a0 a1 l2 a3 a4 l5 l6 l7) (fun r=>r=true↔zO cs.length a0 a1 l2 a3 a4):=by
    have hself:0≤yn a0∧yn a0≤1:=by unfold yn;split<;>omega
    have noA:(¬(1≤a0∧a0<(cs.length:Int)∨a0= -1))→¬zO cs.length a0 a1 l2 a3 a4:=fun h h2=>by
      rcases h2.1 with h3|h3<;>omega
    refine Evp.step (f:=fun k=>_) (fun k=>by rw[dG.j0]) (Evp.ite (fun h2=>jt _ (noA (by omega))) (fun h2=> ?_))
    rw[ui,w64 (n:=(cs.length:Int) - 1) (by omega) (by omega)]
    simp only[Option.bind_some,decide_eq_true_iff]
    refine Evp.ite (fun h3=> ?_) (fun h3=>jt _ (noA (by omega)))
    refine Evp.ite (fun h4=>jt _ fun h5=> ?_) (fun h4=> ?_)
    ·have:=h5.2.1;omega
    obtain⟨b,hb,hb2⟩:=BQ (cs:=cs) (t:=a3) (by omega)
    simp only[hb,Option.bind_some]
    refine Evp.ite (fun h5=> ?_) (fun h5=>jt _ fun h6=>h5 (hb2.2 h6.2.2.1))
    rw[ui,w64 (by omega) (by omega)]
    simp only[Option.bind_some]
    by_cases h6:yn a0+(l2.length:Int)≤a4∧a4≤3
    · rw[decide_eq_true h6]
      refine Evp.step (f:=fun k=>_) (fun k=>by rw[dG.j1]) (Evp.no (by decide) ?_)
      have k0: ∀i,i≤l2.length→Evp (fun k=>dG.l0 k (i:Int) cs ms a0 a1 l2 a3 a4 l5 l6 l7) (fun r=>r=true↔(∀j,i≤j→j<l2.length→rC cs.length (l2.getD j 0))∧GI cs.length a0 a1):=by
        refine Evp.for_ ?_ (fun i hi ih=> ?_)
        · refine Evp.step (f:=fun k=>_) (fun k=>by rw[dG.l0]) (Evp.no (by omega) ?_)
          rw[ui]
          simp only[Option.bind_some,decide_eq_true_iff]
          refine Evp.ite (fun h7=>Evp.ite (fun h8=>Evp.pure _ (sZ (uS (.inr ?_)))) (fun h8=>Evp.no (by omega) (Evp.pure _ (sZ (kQ ?_))))) (fun h7=>Evp.yes (by omega) (Evp.pure _ (sZ ?_)))
          ·omega
          ·rintro(h9|h9)<;>omega
          · rw[beq_iff_eq]
            exact⟨fun h9=> .inl ⟨by omega,h9⟩,fun h9=>by rcases h9 with h10|h10<;>omega⟩
        · refine Evp.step (f:=fun k=>_) (fun k=>by rw[dG.l0,rdN]) (Evp.yes (by omega) (Evp.yes (by omega) ?_))
          obtain⟨c,hc,hc2⟩:=BQ (cs:=cs) (t:=l2.getD i 0) (by omega)
          simp only[hc,Option.bind_some]
          refine Evp.ite (fun h5=> ?_) (fun h5=>Evp.pure _ (lG hi fun h7=>h5 (hc2.2 h7)))
          rw[uV hi (by omega)]
          exact ih.mono fun r hr=>tF (Q:=fun j=>rC cs.length (l2.getD j 0)) (hc2.1 h5) hr
      refine(k0 0 (Nat.zero_le _)).mono fun r hr=>hr.trans ?_
      rw[zt (Q:=fun t=>rC cs.length t)]
      exact⟨fun h7=>⟨h7.2,by omega,hb2.1 h5,h7.1,h6.2,h6.1⟩,fun h7=>⟨h7.2.2.2.1,h7.1⟩⟩
    · rw[decide_eq_false h6]
      exact jt _ fun h7=>h6 ⟨h7.2.2.2.2.2,h7.2.2.2.2.1⟩
  unfold dG.f
  refine Evp.ite (fun h=> ?_) (fun h=> ?_)
  · have:=key
    rw[Ij h]at this
    exact this
  · have:=key
    rw[Jm (by omega)]at this
    exact this
end Go.Proofs.Ytojpejfcafbafaa.Kit
end
section
namespace Go.Proofs.Ytojpejfcafbafaa.P
open Go.RowKit Go.Proofs.YtojpejfcafbafaaW.PrintWords Go.Proofs.YtojpejfcafbafaaW.PrintLast Go.Proofs.YtojpejfcafbafaaW.PrintMore
attribute [local go_sem] bn bq bP bQ aW aX bu bv
set_option linter.unusedVariables false
set_option linter.unusedSimpArgs false
def uj.f:Nat→List (S41)→Int→Option (List Int)
  |0,_,_=>none
  |k+1,l0,a1=>if a1=0 then(some ([]:List Int))else(if 0≤a1 then(if a1<(l0.length:Int)then((uj.f k l0 ((lm l0 a1).f0)).bind fun a=>(if a.length+((lm l0 a1).f1).length<17592186044416 then(some (a++((lm l0 a1).f1)))else(none)))else(none))else(none))
end Go.Proofs.Ytojpejfcafbafaa.P
end
section
namespace Go.Proofs.Ytojpejfcafbafaa.Kit
open Go Go.RowKit Go.Proofs.YtojpejfcafbafaaW.PrintWords Go.Proofs.Ytojpejfcafbafaa.P
set_option linter.unusedVariables false
theorem Kr {cs:List Cls} (h:ClsOk cs): ∀a:Nat,a<cs.length→Evp (fun k=>uj.f k cs (a:Int)) (fun r=>Flds cs a r∧r.length≤2 * a):=by
  have hhi:=h.hi
  intro a
  induction a using Nat.strongRecOn with
  | _ a ih=>
    intro ha
    refine Evp.step (f:=fun k=>_) (fun k=>by rw[uj.f]) (Evp.ite (fun h0=>Evp.pure _ ?_) (fun h0=> ?_))
    · have:a=0:=by omega
      subst this
      exact⟨.root,Nat.le_refl _⟩
    · obtain⟨p,hp,hlt⟩:=h.sup_nat (i:=a) (by omega) ha
      have e:(lm cs (a:Int)).f0=(p:Int):=hp
      have hl2:=h.len2 ha
      refine Evp.yes (by omega) (Evp.yes (by omega) ?_)
      rw[e,Bi]
      refine Evp.bind (ih p hlt (by omega)) fun l hl=>Evp.yes (by have:=hl.2;omega) (Evp.pure _ ⟨.step p (by omega) hp hl.1, ?_⟩)
      have:=hl.2
      rw[List.length_append];omega
theorem Ae {cs:List Cls} (h:ClsOk cs): ∀a:Nat,a<cs.length→Evp (fun k=>rR.f k cs (a:Int)) (fun r=>Flds cs a r∧r.length≤2 * a):=by
  have hhi:=h.hi
  intro a
  induction a using Nat.strongRecOn with
  | _ a ih=>
    intro ha
    refine Evp.step (f:=fun k=>_) (fun k=>by rw[rR.f]) (Evp.ite (fun h0=>Evp.pure _ ?_) (fun h0=> ?_))
    · have:a=0:=by omega
      subst this
      exact⟨.root,Nat.le_refl _⟩
    · obtain⟨p,hp,hlt⟩:=h.sup_nat (i:=a) (by omega) ha
      have e:(lm cs (a:Int)).f0=(p:Int):=hp
      have hl2:=h.len2 ha
      refine Evp.yes (by omega) (Evp.yes (by omega) ?_)
      rw[e,Bi]
      refine Evp.bind (ih p hlt (by omega)) fun l hl=>Evp.yes (by have:=hl.2;omega) (Evp.pure _ ⟨.step p (by omega) hp hl.1, ?_⟩)
      have:=hl.2
      rw[List.length_append];omega
end Go.Proofs.Ytojpejfcafbafaa.Kit
end
section
namespace Go.Proofs.Ytojpejfcafbafaa.P
open Go Go.RowKit Go.Proofs.YtojpejfcafbafaaW.PrintWords Go.Proofs.YtojpejfcafbafaaW.PrintLast Go.Proofs.YtojpejfcafbafaaW.PrintMore
set_option linter.unusedVariables false
set_option linter.unusedSimpArgs false
def tq:List (Int×Int×Int):= [(1,1,0),(2,0,0),(3,2,0),(4,2,0),(5,0,0),(6,0,0),(7,3,0),(8,4,0),(9,4,0),(10,4,0),(11,4,0),(12,5,0),(13,6,0),(14,0,0),(15,6,0),(16,6,0),(17,5,8),(18,5,8),(19,5,0),(20,7,0),(21,5,9),(22,0,0),(23,0,0),(24,0,0)]
def lY (n:Int):List (Int×Int×Int)→Option (Int×Int)
  | []=>none
  |e::l=>if n=e.1 then some e.2 else lY n l
def yH.f (n:Int):Option (Int×Int×Bool):=some (match lY n tq with|some p=>(p.1,p.2,true)|none=>(0,0,false))
def yo (e:Int×Int×Int) (i:Nat):MapEntry:= {key:= .int .i64 e.1,val:= .agg #[.int .i64 e.2.1, .int .i64 e.2.2],born:=i}
def sw:List (Int×Int×Int)→Nat→List MapEntry
  | [],_=> []
  |e::l,i=>yo e i::sw l (i+1)
def wT (m:Nat):Obj:= .map (sw (tq.take m) 0).toArray m
def Ob:Obj:=wT 24
theorem zP (n:Int): ∀(l:List (Int×Int×Int)) (i m:Nat),∃j,Instr.findNow (.int .i64) (.int .i64 n) (sw l i) m=some (match lY n l with|some p=>some (j, .agg #[.int .i64 p.1, .int .i64 p.2])|none=>none)
  | [],_,_=>⟨0,rfl⟩
  | e ::l,i,m=>by
    by_cases h:n=e.1
    · refine⟨m, ?_⟩
      subst h
      simp[sw,yo,lY,Instr.findNow,Instr.sameNow]
    · obtain⟨j,hj⟩:=zP n l (i+1) (m+1)
      refine⟨j, ?_⟩
      have hb:(n==e.1)=false:=by simpa using h
      simp only[sw,yo,lY,Instr.findNow,Instr.sameNow,if_true,hb,if_neg h]
      exact hj
section
variable {ops:Array Oper} {rest:List Oper} {o:Oper} {a:Act} {Q:Exit→Act→World→Prop} {W:World}
end
end Go.Proofs.Ytojpejfcafbafaa.P
end
section
namespace Go.Proofs.Ytojpejfcafbafaa.P
open Go.RowKit Go.Proofs.YtojpejfcafbafaaW.PrintWords Go.Proofs.YtojpejfcafbafaaW.PrintLast Go.Proofs.YtojpejfcafbafaaW.PrintMore
attribute [local go_sem] bn bq bP bQ aW aX bu bv
set_option linter.unusedVariables false
set_option linter.unusedSimpArgs false
def yI.f (a0:Int):Option (Bool):=if a0≥(-128)then(some (decide (a0≤127)))else(some false)
def vE.f (k:Nat) (a:List (S41)) (c:List (S35)) (n:Int) (o:Int) (p:List Int) (q:Int) (h:Int) (j:List (S67)) (r:List (S69)) (t:List (S73)) (u:Int) (m:Int) (v:Int) (a3:Int) (a4:Int):Option (Bool):=if a3=1 then((yI.f a4).bind fun d=>(some d))else(if a3=2 then(if a4≥0 then(some (decide (a4<h)))else(some false))else(if a3=3 then(if a4≥1 then(some (decide (a4≤4)))else(some false))else(if a3=4 then(if a4≥0 then(some (decide (a4<(j.length:Int))))else(some false))else(if a3=5 then((vG.f a a4).bind fun e=>(some e))else(if a3=6 then(if a4=0 then(some true)else(some (a4==1)))else(if a3=7 then(if a4≥0 then(if a4<(c.length:Int)then(if 0≤a4 then(some (((ay c a4).f0)==(-1)))else(none))else(some false))else(some false))else(if a3=8 then(if a4≥0 then((uj.f k a m).bind fun g=>(some (decide (a4<(g.length:Int)))))else(some false))else(if a3=9 then(if a4≥0 then(some (decide (a4<3)))else(some false))else(some (a4==0))))))))))
mutual
def dC.j0:Nat→Bool→List (S41)→List (S35)→Int→Int→List Int→Int→Int→List (S67)→List (S69)→List (S73)→Option (Bool)
  |0,_,_,_,_,_,_,_,_,_,_,_=>none
  |k+1,x31,c,d,e,g,h,j,m,a,n,o=>if x31=true then(some false)else(dC.l0 k a (a.length:Int) 0 c d e g h j m a n o)
def dC.l0:Nat→List (S67)→Int→Int→List (S41)→List (S35)→Int→Int→List Int→Int→Int→List (S67)→List (S69)→List (S73)→Option (Bool)
  |0,_,_,_,_,_,_,_,_,_,_,_,_,_=>none
  |k+1,q,x34,c,d,e,g,h,j,m,n,o,a,p=>if c<x34 then(if 0≤c then(if c<(q.length:Int)then((yH.f ((bB q c).f0)).bind fun r=>(if r.2.2=true then((vE.f k d e g h j m n o a p ((bB q c).f0) ((bB q c).f1) ((bB q c).f2) r.1 ((bB q c).f1)).bind fun t=>(if t=true then((vE.f k d e g h j m n o a p ((bB q c).f0) ((bB q c).f1) ((bB q c).f2) r.2.1 ((bB q c).f2)).bind fun u=>(if u=true then(dC.l0 k q x34 (wrap64 (c+1)) d e g h j m n o a p)else(some false)))else(some false)))else(some false)))else(none))else(none))else(dC.l1 k a (a.length:Int) 0 d e g h j m n o a p)
def dC.l1:Nat→List (S69)→Int→Int→List (S41)→List (S35)→Int→Int→List Int→Int→Int→List (S67)→List (S69)→List (S73)→Option (Bool)
  |0,_,_,_,_,_,_,_,_,_,_,_,_,_=>none
  |k+1,e,t,a,c,g,h,j,m,n,d,o,p,q=>if a<t then(if 0≤a then(if a<(e.length:Int)then((cO.f k c d ((kw e a).f0) ((kw e a).f1) ((kw e a).f2)).bind fun r=>(if r=true then(dC.l1 k e t (wrap64 (a+1)) c g h j m n d o p q)else(some false)))else(none))else(none))else(some true)
end
def dC.f (k:Nat) (d:List (S41)) (e:List (S35)) (g:Int) (h:Int) (j:List Int) (m:Int) (n:Int) (a:List (S67)) (c:List (S69)) (o:List (S73)) (a2:Int):Option (Bool):=if(a.length:Int)<1 then(dC.j0 k true d e g h j m n a c o)else(if(a.length:Int)>12 then(dC.j0 k true d e g h j m n a c o)else(dC.j0 k ((c.length:Int) !=(a.length:Int)) d e g h j m n a c o))
end Go.Proofs.Ytojpejfcafbafaa.P
end
section
namespace Go.Proofs.Ytojpejfcafbafaa.Kit
open Go Go.RowKit Go.Proofs.YtojpejfcafbafaaW.PrintWords Go.Proofs.Ytojpejfcafbafaa.P
set_option linter.unusedVariables false
set_option linter.unusedSimpArgs false
def ul (cs:List Cls) (ms:List Mth) (a4:Int) (nc:Nat) (xa what n:Int):Prop:=
  if what=1 then -128≤n∧n≤127 else if what=2 then 0≤n∧n<a4 else if what=3 then 1≤n∧n≤4 else if what=4 then 0≤n∧n<(nc:Int)else if what=5 then 0≤n∧n<(cs.length:Int)else if what=6 then n=0∨n=1 else
  if what=7 then 0≤n∧n<(ms.length:Int)∧(ms.getD n.toNat z35).f0= -1 else if what=8 then 0≤n∧∃l,Flds cs xa.toNat l∧n<(l.length:Int)else if what=9 then 0≤n∧n<3 else n=0
def vY (cs:List Cls) (ms:List Mth) (a4:Int) (nc:Nat) (x:Ins):Prop:= ∃p q,lY x.f0 tq=some (p,q)∧ul cs ms a4 nc x.f1 p x.f1∧ul cs ms a4 nc x.f1 q x.f2
theorem Bj {A B:Prop} [Decidable A] [Decidable B]:Evp (fun _=>if A then some (decide B)else some false) (fun r=>r=true↔A∧B):=by
  refine Evp.ite (fun h=>Evp.pure _ ?_) (fun h=>Evp.pure _ (kQ fun h2=>h h2.1))
  rw[decide_eq_true_iff]
  exact⟨fun h2=>⟨h,h2⟩,fun h2=>h2.2⟩
theorem Cc {cs:List Cls} (hok:ClsOk cs) (ms:List Mth) {a0 a1:Int} {l2:List Int} {a3 a4:Int} (l5:List Ins) (l6:List kR) (l7:List Cth) {x0 xa x2 what n:Int} (h8:what=8→0≤xa∧xa<(cs.length:Int)):
    Evp (fun k=>vE.f k cs ms a0 a1 l2 a3 a4 l5 l6 l7 x0 xa x2 what n) (fun r=>r=true↔ul cs ms a4 l5.length xa what n):=by
  unfold vE.f ul
  by_cases h1:what=1
  · simp only[if_pos h1]
    unfold yI.f
    exact Evp.bind Bj fun r hr=>Evp.pure _ hr
  simp only[if_neg h1]
  by_cases h2:what=2
  ·simp only[if_pos h2];exact Bj
  simp only[if_neg h2]
  by_cases h3:what=3
  ·simp only[if_pos h3];exact Bj
  simp only[if_neg h3]
  by_cases h4:what=4
  ·simp only[if_pos h4];exact Bj
  simp only[if_neg h4]
  by_cases h5:what=5
  · simp only[if_pos h5]
    obtain⟨x,hx,hx2⟩:=xZ cs n
    simp only[hx,Option.bind_some]
    exact Evp.pure _ hx2
  simp only[if_neg h5]
  by_cases h6:what=6
  · simp only[if_pos h6]
    refine Evp.ite (fun h=>Evp.pure _ (uS (.inl h))) (fun h=>Evp.pure _ ?_)
    rw[beq_iff_eq]
    exact⟨fun h2=> .inr h2,fun h2=>h2.resolve_left h⟩
  simp only[if_neg h6]
  by_cases h7:what=7
  · simp only[if_pos h7]
    refine Evp.ite (fun h=>Evp.ite (fun h' =>Evp.yes h (Evp.pure _ ?_)) (fun h' =>Evp.pure _ (kQ fun h2=>h' h2.2.1))) (fun h=>Evp.pure _ (kQ fun h2=>h h2.1))
    rw[beq_iff_eq]
    exact⟨fun h2=>⟨h,h',h2⟩,fun h2=>h2.2.2⟩
  simp only[if_neg h7]
  by_cases h8' :what=8
  · simp only[if_pos h8']
    obtain⟨hx0,hx1⟩:=h8 h8'
    refine Evp.ite (fun h=> ?_) (fun h=>Evp.pure _ (kQ fun h2=>h h2.1))
    have:=Kr hok xa.toNat (by omega)
    rw[show((xa.toNat:Nat):Int)=xa by omega]at this
    refine Evp.bind this fun l hl=>Evp.pure _ ?_
    rw[decide_eq_true_iff]
    exact⟨fun h2=>⟨h,l,hl.1,h2⟩,fun h2=>by obtain⟨_,l',hl',h3⟩:=h2;rw[hl.1.fn hl'];exact h3⟩
  simp only[if_neg h8']
  by_cases h9:what=9
  ·simp only[if_pos h9];exact Bj
  simp only[if_neg h9]
  exact Evp.pure _ (by rw[beq_iff_eq])
theorem CK {n:Int}: ∀ {l:List (Int×Int×Int)} {r:Int×Int},lY n l=some r→∃e∈l,e.2=r
  | [],_,h=>by cases h
  | e ::l,r,h=>by
    unfold lY at h
    split at h
    ·exact⟨e,List.mem_cons_self,Option.some.inj h⟩
    · obtain⟨x,hx,hr⟩:=CK h
      exact⟨x,List.mem_cons_of_mem _ hx,hr⟩
theorem Oc {n p q:Int} (h:lY n tq=some (p,q)):p≠8∧(q=8→p=5):=by
  obtain⟨e,he,hr⟩:=CK h
  have key: ∀e∈tq,e.2.1≠8∧(e.2.2=8→e.2.1=5):=by decide
  have:=key e he
  rw[hr]at this
  exact this
def AJ (cs:List Cls) (a4:Int) (s:kR):Prop:=xn cs a4 s.f0 s.f1 s.f2
structure SmallS (s:kR):Prop where
  l1:s.f1.length≤1048576
  l2:s.f2.length≤1048576
  i1:I64 s.f1
  i2:I64 s.f2
def Ik (cs:List Cls) (ms:List Mth) (a4:Int) (l5:List Ins) (l6:List kR):Prop:=(1≤l5.length∧l5.length≤12∧l6.length=l5.length)∧(∀j,0≤j→j<l5.length→vY cs ms a4 l5.length (l5.getD j z67))∧(∀j,0≤j→j<l6.length→AJ cs a4 (l6.getD j z69))
theorem Kt {cs:List Cls} (hs:vU cs) (hok:ClsOk cs) (ms:List Mth) {a0 a1:Int} {l2:List Int} {a3 a4:Int} (l5:List Ins) (l6:List kR) (l7:List Cth) (b:Int) (h6: ∀j,j<l6.length→SmallS (l6.getD j z69)) (a:l5.length≤1048576) (e:l6.length≤1048576):
    Evp (fun k=>dC.f k cs ms a0 a1 l2 a3 a4 l5 l6 l7 b) (fun r=>r=true↔Ik cs ms a4 l5 l6):=by
  have jt: ¬(1≤l5.length∧l5.length≤12∧l6.length=l5.length)→Evp (fun k=>dC.j0 k true cs ms a0 a1 l2 a3 a4 l5 l6 l7) (fun r=>r=true↔Ik cs ms a4 l5 l6):=fun h=>
    Evp.step (f:=fun k=>_) (fun k=>by rw[dC.j0]) (Evp.yes rfl (Evp.pure _ (kQ fun h2=>h h2.1)))
  unfold dC.f
  refine Evp.ite (fun h1=>jt (by omega)) (fun h1=>Evp.ite (fun h2=>jt (by omega)) (fun h2=> ?_))
  by_cases he:l6.length=l5.length
  · rw [show ((l6.length:Int) !=(l5.length:Int))=false by simp;omega]
    refine Evp.step (f:=fun k=>_) (fun k=>by rw[dC.j0]) (Evp.no (by decide) ?_)
    have k1: ∀i,i≤l6.length→Evp (fun k=>dC.l1 k l6 (l6.length:Int) (i:Int) cs ms a0 a1 l2 a3 a4 l5 l6 l7) (fun r=>r=true↔(∀j,i≤j→j<l6.length→AJ cs a4 (l6.getD j z69))∧True):=by
      refine Evp.for_ ?_ (fun i hi ih=> ?_)
      ·exact Evp.step (f:=fun k=>_) (fun k=>by rw[dC.l1]) (Evp.no (by omega) (Evp.pure _ (sZ (uS trivial))))
      · have hss:=h6 i hi
        refine Evp.step (f:=fun k=>_) (fun k=>by rw[dC.l1,rdS]) (Evp.yes (by omega) (Evp.yes (by omega) (Evp.yes (by omega) ?_)))
        refine Evp.bind (Gu hs a4 _ hss.l1 hss.l2 hss.i1 hss.i2) fun c hc=>Evp.ite (fun h5=> ?_) (fun h5=>Evp.pure _ (lG hi fun h7=>h5 (hc.2 h7)))
        rw[uV hi (by omega)]
        exact ih.mono fun r hr=>tF (Q:=fun j=>AJ cs a4 (l6.getD j z69)) (hc.1 h5) hr
    have k0 : ∀i,i≤l5.length→Evp (fun k=>dC.l0 k l5 (l5.length:Int) (i:Int) cs ms a0 a1 l2 a3 a4 l5 l6 l7) (fun r=>r=true↔(∀j,i≤j→j<l5.length→vY cs ms a4 l5.length (l5.getD j z67))∧((∀j,0≤j→j<l6.length→AJ cs a4 (l6.getD j z69))∧True)):=by
      refine Evp.for_ ?_ (fun i hi ih=> ?_)
      · refine Evp.step (f:=fun k=>_) (fun k=>by rw[dC.l0]) (Evp.no (by omega) ?_)
        exact(k1 0 (Nat.zero_le _)).mono fun r hr=>sZ hr
      · refine Evp.step (f:=fun k=>_) (fun k=>by rw[dC.l0,rdX]) (Evp.yes (by omega) (Evp.yes (by omega) (Evp.yes (by omega) ?_)))
        unfold yH.f
        simp only[Option.bind_some]
        cases hw:lY (l5.getD i z67).f0 tq with
        | none=>
          refine Evp.no (by decide) (Evp.pure _ (lG hi fun h7=> ?_))
          obtain⟨p,q,h8,_⟩:=h7
          rw[hw]at h8;cases h8
        | some pq=>
          obtain⟨p,q⟩:=pq
          have h8:=Oc hw
          dsimp only
          refine Evp.yes rfl (Evp.bind (Cc hok ms l5 l6 l7 (fun h=>absurd h h8.1)) fun c hc=>Evp.ite (fun h9=> ?_) (fun h9=>Evp.pure _ (lG hi fun h7=> ?_)))
          · refine Evp.bind (Cc hok ms l5 l6 l7 (fun h=> ?_)) fun d hd=>Evp.ite (fun h10=> ?_) (fun h10=>Evp.pure _ (lG hi fun h7=> ?_))
            · have:=hc.1 h9
              rw[h8.2 h]at this
              unfold ul at this
              simpa using this
            · rw[uV hi (by omega)]
              exact ih.mono fun r hr=>tF (Q:=fun j=>vY cs ms a4 l5.length (l5.getD j z67)) ⟨p,q,hw,hc.1 h9,hd.1 h10⟩ hr
            · obtain⟨p',q',h11,_,h12⟩:=h7
              rw[hw]at h11
              cases h11
              exact h10 (hd.2 h12)
          · obtain⟨p',q',h11,h12,_⟩:=h7
            rw[hw]at h11
            cases h11
            exact h9 (hc.2 h12)
    refine(k0 0 (Nat.zero_le _)).mono fun r hr=>hr.trans ?_
    exact⟨fun h=>⟨⟨by omega,by omega,he⟩,h.1,h.2.1⟩,fun h=>⟨h.2.1,h.2.2,trivial⟩⟩
  · rw[show((l6.length:Int) !=(l5.length:Int))=true by simp;omega]
    exact jt (by omega)
section
variable {cs:List Cls} {ms:List Mth} {a4:Int} {nc:Nat} {xa n:Int}
theorem op0:ul cs ms a4 nc xa 0 n↔n=0:=by simp[ul]
theorem op1:ul cs ms a4 nc xa 1 n↔ -128≤n∧n≤127:=by simp[ul]
theorem op2:ul cs ms a4 nc xa 2 n↔0≤n∧n<a4:=by simp[ul]
theorem op3:ul cs ms a4 nc xa 3 n↔1≤n∧n≤4:=by simp[ul]
theorem op4:ul cs ms a4 nc xa 4 n↔0≤n∧n<(nc:Int):=by simp[ul]
theorem op5:ul cs ms a4 nc xa 5 n↔0≤n∧n<(cs.length:Int):=by simp[ul]
theorem op6:ul cs ms a4 nc xa 6 n↔n=0∨n=1:=by simp[ul]
theorem op7:ul cs ms a4 nc xa 7 n↔0≤n∧n<(ms.length:Int)∧(ms.getD n.toNat z35).f0= -1:=by simp[ul]
theorem op8:ul cs ms a4 nc xa 8 n↔0≤n∧∃l,Flds cs xa.toNat l∧n<(l.length:Int):=by simp[ul]
theorem op9:ul cs ms a4 nc xa 9 n↔0≤n∧n<3:=by simp[ul]
end
theorem Il {A:Prop} [Decidable A] {n:Int}:Evp (fun _=>if decide A=true then some (n==0)else some false) (fun r=>r=true↔A∧n=0):=by
  refine Evp.ite (fun h=>Evp.pure _ ?_) (fun h=>Evp.pure _ (kQ fun h2=>h (decide_eq_true h2.1)))
  rw[beq_iff_eq]
  exact⟨fun h2=>⟨of_decide_eq_true h,h2⟩,fun h2=>h2.2⟩
theorem Lg {n:Int} (h:n<1∨24<n):lY n tq=none:=by
  unfold tq
  repeat(unfold lY;rw[if_neg (by dsimp only;omega)])
  rfl
theorem tL {cs:List Cls} {ms:List Mth} {a4:Int} {nc:Nat} {x:Ins} {n p q:Int} {r:Bool} (hn:x.f0=n) (hw:lY n tq=some (p,q)) (h:r=true↔ul cs ms a4 nc x.f1 p x.f1∧ul cs ms a4 nc x.f1 q x.f2):r=true↔vY cs ms a4 nc x:=by
  rw[h]
  constructor
  ·intro h2;exact⟨p,q,by rw[hn];exact hw,h2⟩
  · rintro⟨p',q',hw',h2⟩
    rw[hn,hw]at hw'
    cases hw'
    exact h2
theorem GK {cs:List Cls} (hs:vU cs) (hok:ClsOk cs) (ms:List Mth) (hm:ms.length≤1048576) {a0 a1:Int} {l2:List Int} {a3 a4:Int} (c:0≤a4) (d:a4≤3) (l5:List Ins) (e:l5.length≤1048576) (l6:List kR) (l7:List Cth) (x:Ins):
    Evp (fun k=>aU.f k cs ms a0 a1 l2 a3 a4 l5 l6 l7 x.f0 x.f1 x.f2) (fun r=>r=true↔vY cs ms a4 l5.length x):=by
  have hlo:=hok.lo
  have hhi:=hok.hi
  unfold aU.f
  rw[ui,w64 (n:=(cs.length:Int) - 1) (by omega) (by omega)]
  simp only[Option.bind_some]
  have h7:decide (0≤x.f1∧x.f1≤(cs.length:Int) - 1)=true↔0≤x.f1∧x.f1<(cs.length:Int):=by rw[decide_eq_true_iff];omega
  generalize decide (0≤x.f1∧x.f1≤(cs.length:Int) - 1)=x7 at h7
  have J0: ∀n:Int,x.f0=n→lY n tq=some (0,0)→Evp (fun k=>aU.j0 k x7 x.f0 (x.f0==n) cs ms a0 a1 l2 a3 a4 l5 l6 l7 x.f0 x.f1 x.f2) (fun r=>r=true↔vY cs ms a4 l5.length x):=by
    intro n hn hw
    rw[show(x.f0==n)=true by simpa using hn]
    refine Evp.step (f:=fun k=>_) (fun k=>by rw[aU.j0]) (Evp.yes rfl (Evp.ite (fun h=>Evp.pure _ (tL hn hw ?_)) (fun h=>Evp.pure _ (tL hn hw ?_))))
    ·rw[op0,op0,beq_iff_eq];exact⟨fun h2=>⟨h,h2⟩,fun h2=>h2.2⟩
    ·rw[op0,op0];exact kQ fun h2=>h h2.1
  have J1: ∀n:Int,x.f0=n→lY n tq=some (2,0)→Evp (fun k=>aU.j1 k x7 x.f0 (x.f0==n) cs ms a0 a1 l2 a3 a4 l5 l6 l7 x.f0 x.f1 x.f2) (fun r=>r=true↔vY cs ms a4 l5.length x):=by
    intro n hn hw
    rw[show(x.f0==n)=true by simpa using hn]
    refine Evp.step (f:=fun k=>_) (fun k=>by rw[aU.j1]) (Evp.yes rfl ?_)
    rw[ui,w64 (n:=a4 - 1) (by omega) (by omega)]
    simp only[Option.bind_some]
    refine Il.mono fun r hr=>tL hn hw (hr.trans ?_)
    rw[op2,op0];omega
  have J2: ∀n:Int,x.f0=n→lY n tq=some (4,0)→Evp (fun k=>aU.j2 k x7 x.f0 (x.f0==n) cs ms a0 a1 l2 a3 a4 l5 l6 l7 x.f0 x.f1 x.f2) (fun r=>r=true↔vY cs ms a4 l5.length x):=by
    intro n hn hw
    rw[show(x.f0==n)=true by simpa using hn]
    refine Evp.step (f:=fun k=>_) (fun k=>by rw[aU.j2]) (Evp.yes rfl ?_)
    rw[ui,w64 (n:=(l5.length:Int) - 1) (by omega) (by omega)]
    simp only[Option.bind_some]
    refine Il.mono fun r hr=>tL hn hw (hr.trans ?_)
    rw[op4,op0];omega
  have J3: ∀n:Int,x.f0=n→lY n tq=some (5,0)→Evp (fun k=>aU.j3 k x7 x.f0 (x.f0==n) cs ms x.f0 x.f1 x.f2) (fun r=>r=true↔vY cs ms a4 l5.length x):=by
    intro n hn hw
    rw[show(x.f0==n)=true by simpa using hn]
    refine Evp.step (f:=fun k=>_) (fun k=>by rw[aU.j3]) (Evp.yes rfl (Evp.ite (fun h=>Evp.pure _ (tL hn hw ?_)) (fun h=>Evp.pure _ (tL hn hw ?_))))
    ·rw[op5,op0,beq_iff_eq];exact⟨fun h2=>⟨h7.1 h,h2⟩,fun h2=>h2.2⟩
    ·rw[op5,op0];exact kQ fun h2=>h (h7.2 h2.1)
  have J4: ∀n:Int,x.f0=n→lY n tq=some (6,0)→Evp (fun k=>aU.j4 k x7 x.f0 (x.f0==n) cs ms x.f0 x.f1 x.f2) (fun r=>r=true↔vY cs ms a4 l5.length x):=by
    intro n hn hw
    rw[show(x.f0==n)=true by simpa using hn]
    refine Evp.step (f:=fun k=>_) (fun k=>by rw[aU.j4]) (Evp.yes rfl ?_)
    rw[ui]
    simp only[Option.bind_some]
    refine Il.mono fun r hr=>tL hn hw (hr.trans ?_)
    rw[op6,op0];omega
  have J5: ∀n:Int,x.f0=n→lY n tq=some (5,8)→Evp (fun k=>aU.j5 k x7 x.f0 (x.f0==n) cs ms x.f0 x.f1 x.f2) (fun r=>r=true↔vY cs ms a4 l5.length x):=by
    intro n hn hw
    rw[show(x.f0==n)=true by simpa using hn]
    refine Evp.step (f:=fun k=>_) (fun k=>by rw[aU.j5]) (Evp.yes rfl (Evp.ite (fun h=> ?_) (fun h=>Evp.pure _ (tL hn hw ?_))))
    · obtain⟨hx0,hx1⟩:=h7.1 h
      have:=Ae hok x.f1.toNat (by omega)
      rw[show((x.f1.toNat:Nat):Int)=x.f1 by omega]at this
      refine Evp.bind this fun l hl=> ?_
      have a:=hl.2
      rw[ui,w64 (n:=(l.length:Int) - 1) (by omega) (by omega)]
      simp only[Option.bind_some]
      refine Evp.pure _ (tL hn hw ?_)
      rw[op5,op8,decide_eq_true_iff]
      constructor
      ·intro h2;exact⟨⟨hx0,hx1⟩,h2.1,l,hl.1,by omega⟩
      · rintro⟨_,h2,l',hl',h3⟩
        rw[←hl.1.fn hl']at h3
        exact⟨h2,by omega⟩
    ·rw[op5];exact kQ fun h2=>h (h7.2 h2.1)
  by_cases e1:x.f0=1
  · simp only[if_pos e1]
    unfold yG.f
    rw[ui]
    simp only[Option.bind_some]
    refine Il.mono fun r hr=>tL e1 rfl (hr.trans ?_)
    rw[op1,op0]
  simp only[if_neg e1]
  by_cases e2:x.f0=2
  ·simp only[if_pos e2];exact J0 2 e2 rfl
  simp only[if_neg e2]
  by_cases e5:x.f0=5
  ·simp only[if_pos e5];exact J0 5 e5 rfl
  simp only[if_neg e5]
  by_cases e6:x.f0=6
  ·simp only[if_pos e6];exact J0 6 e6 rfl
  simp only[if_neg e6]
  by_cases e14:x.f0=14
  ·simp only[if_pos e14];exact J0 14 e14 rfl
  simp only[if_neg e14]
  by_cases e22:x.f0=22
  ·simp only[if_pos e22];exact J0 22 e22 rfl
  simp only[if_neg e22]
  by_cases e23:x.f0=23
  ·simp only[if_pos e23];exact J0 23 e23 rfl
  simp only[if_neg e23]
  by_cases e24:x.f0=24
  ·exact J0 24 e24 rfl
  rw[show(x.f0==24)=false by simpa using e24]
  refine Evp.step (f:=fun k=>_) (fun k=>by rw[aU.j0]) (Evp.no (by decide) ?_)
  by_cases e3:x.f0=3
  ·simp only[if_pos e3];exact J1 3 e3 rfl
  simp only[if_neg e3]
  by_cases e4:x.f0=4
  ·exact J1 4 e4 rfl
  rw[show(x.f0==4)=false by simpa using e4]
  refine Evp.step (f:=fun k=>_) (fun k=>by rw[aU.j1]) (Evp.no (by decide) ?_)
  by_cases e7:x.f0=7
  · simp only[if_pos e7]
    rw[ui]
    simp only[Option.bind_some]
    refine Il.mono fun r hr=>tL e7 rfl (hr.trans ?_)
    rw[op3,op0]
  simp only[if_neg e7]
  by_cases e8:x.f0=8
  ·simp only[if_pos e8];exact J2 8 e8 rfl
  simp only[if_neg e8]
  by_cases e9:x.f0=9
  ·simp only[if_pos e9];exact J2 9 e9 rfl
  simp only[if_neg e9]
  by_cases e10:x.f0=10
  ·simp only[if_pos e10];exact J2 10 e10 rfl
  simp only[if_neg e10]
  by_cases e11:x.f0=11
  ·exact J2 11 e11 rfl
  rw[show(x.f0==11)=false by simpa using e11]
  refine Evp.step (f:=fun k=>_) (fun k=>by rw[aU.j2]) (Evp.no (by decide) ?_)
  by_cases e12:x.f0=12
  ·simp only[if_pos e12];exact J3 12 e12 rfl
  simp only[if_neg e12]
  by_cases e19:x.f0=19
  ·exact J3 19 e19 rfl
  rw[show(x.f0==19)=false by simpa using e19]
  refine Evp.step (f:=fun k=>_) (fun k=>by rw[aU.j3]) (Evp.no (by decide) ?_)
  by_cases e13:x.f0=13
  ·simp only[if_pos e13];exact J4 13 e13 rfl
  simp only[if_neg e13]
  by_cases e15:x.f0=15
  ·simp only[if_pos e15];exact J4 15 e15 rfl
  simp only[if_neg e15]
  by_cases e16:x.f0=16
  ·exact J4 16 e16 rfl
  rw[show(x.f0==16)=false by simpa using e16]
  refine Evp.step (f:=fun k=>_) (fun k=>by rw[aU.j4]) (Evp.no (by decide) ?_)
  by_cases e17:x.f0=17
  ·simp only[if_pos e17];exact J5 17 e17 rfl
  simp only[if_neg e17]
  by_cases e18:x.f0=18
  ·exact J5 18 e18 rfl
  rw[show(x.f0==18)=false by simpa using e18]
  refine Evp.step (f:=fun k=>_) (fun k=>by rw[aU.j5]) (Evp.no (by decide) ?_)
  by_cases e20:x.f0=20
  · simp only[if_pos e20]
    rw[ui,w64 (n:=(ms.length:Int) - 1) (by omega) (by omega)]
    simp only[Option.bind_some]
    refine Evp.ite (fun h=> ?_) (fun h=>Evp.pure _ (tL e20 rfl ?_))
    · have h' :=of_decide_eq_true h
      refine Evp.ite (fun h2=>Evp.yes h'.1 (Evp.yes (by omega) (Evp.pure _ (tL e20 rfl ?_)))) (fun h2=>Evp.pure _ (tL e20 rfl ?_))
      · rw[op7,op0,beq_iff_eq]
        exact⟨fun h3=>⟨⟨h'.1,by omega,h3⟩,h2⟩,fun h3=>h3.1.2.2⟩
      ·rw[op0];exact kQ fun h3=>h2 h3.2
    ·rw[op7];exact kQ fun h3=>h (decide_eq_true (by omega))
  simp only[if_neg e20]
  by_cases e21:x.f0=21
  · simp only[if_pos e21]
    refine Evp.ite (fun h=> ?_) (fun h=>Evp.pure _ (tL e21 rfl ?_))
    · rw[ui]
      simp only[Option.bind_some]
      refine Evp.pure _ (tL e21 rfl ?_)
      rw[op5,op9,decide_eq_true_iff]
      have:=h7.1 h
      omega
    ·rw[op5];exact kQ fun h2=>h (h7.2 h2.1)
  simp only[if_neg e21]
  refine Evp.pure _ (kQ ?_)
  rintro⟨p,q,hw,_⟩
  rw[Lg (by omega)]at hw
  cases hw
end Go.Proofs.Ytojpejfcafbafaa.Kit
end
section
namespace Go.Proofs.Ytojpejfcafbafaa.P
open Go.RowKit Go.Proofs.YtojpejfcafbafaaW.PrintWords Go.Proofs.YtojpejfcafbafaaW.PrintLast Go.Proofs.YtojpejfcafbafaaW.PrintMore
attribute [local go_sem] bn bq bP bQ aW aX bu bv
set_option linter.unusedVariables false
set_option linter.unusedSimpArgs false
mutual
def bH.l0:Nat→List (S73)→Int→Int→List (S41)→List (S35)→Int→Int→List Int→Int→Int→List (S67)→List (S69)→List (S73)→Option (Bool)
  |0,_,_,_,_,_,_,_,_,_,_,_,_,_=>none
  |k+1,c,r,a,e,g,h,j,m,n,o,d,p,q=>if a<r then(if 0≤a then(if a<(c.length:Int)then(if((fJ c a).f0)<0 then(bH.j1 k c r a true e g h j m n o d p q ((fJ c a).f0) ((fJ c a).f1) ((fJ c a).f2) ((fJ c a).f3))else(if((fJ c a).f0)≥(d.length:Int)then(bH.j1 k c r a true e g h j m n o d p q ((fJ c a).f0) ((fJ c a).f1) ((fJ c a).f2) ((fJ c a).f3))else(if((fJ c a).f2)<0 then(bH.j1 k c r a true e g h j m n o d p q ((fJ c a).f0) ((fJ c a).f1) ((fJ c a).f2) ((fJ c a).f3))else(bH.j1 k c r a (decide (((fJ c a).f2)≥(d.length:Int))) e g h j m n o d p q ((fJ c a).f0) ((fJ c a).f1) ((fJ c a).f2) ((fJ c a).f3)))))else(none))else(none))else(some true)
def bH.j1:Nat→List (S73)→Int→Int→Bool→List (S41)→List (S35)→Int→Int→List Int→Int→Int→List (S67)→List (S69)→List (S73)→Int→Int→Int→Int→Option (Bool)
  |0,_,_,_,_,_,_,_,_,_,_,_,_,_,_,_,_,_,_=>none
  |k+1,u,v,w,x41,e,g,h,j,m,n,o,c,p,q,d,a,r,t=>if x41=true then(some false)else(if a≤d then(bH.j2 k u v w true e g h j m n o c p q d a r t)else(bH.j2 k u v w (decide (a>(c.length:Int))) e g h j m n o c p q d a r t))
def bH.j2:Nat→List (S73)→Int→Int→Bool→List (S41)→List (S35)→Int→Int→List Int→Int→Int→List (S67)→List (S69)→List (S73)→Int→Int→Int→Int→Option (Bool)
  |0,_,_,_,_,_,_,_,_,_,_,_,_,_,_,_,_,_,_=>none
  |k+1,w,x,y,x54,a,d,e,g,h,j,m,n,o,p,t,u,v,c=>if x54=true then(some false)else((vG.f a c).bind fun q=>(if q=true then((l9.f k a c 1).bind fun r=>(if r=true then(bH.l0 k w x (wrap64 (y+1)) a d e g h j m n o p)else(some false)))else(some false)))
end
def bH.f (k:Nat) (c:List (S41)) (d:List (S35)) (e:Int) (g:Int) (h:List Int) (j:Int) (m:Int) (n:List (S67)) (o:List (S69)) (a:List (S73)):Option (Bool):=if(a.length:Int)>2 then(some false)else(bH.l0 k a (a.length:Int) 0 c d e g h j m n o a)
end Go.Proofs.Ytojpejfcafbafaa.P
end
section
namespace Go.Proofs.Ytojpejfcafbafaa.Kit
open Go Go.RowKit Go.Proofs.YtojpejfcafbafaaW.PrintWords Go.Proofs.Ytojpejfcafbafaa.P
set_option linter.unusedVariables false
set_option linter.unusedSimpArgs false
def uI (cs:List Cls) (nc:Nat) (c:Cth):Prop:=(0≤c.f0∧c.f0<(nc:Int))∧(c.f0<c.f1∧c.f1≤(nc:Int))∧(0≤c.f2∧c.f2<(nc:Int))∧(0≤c.f3∧c.f3<(cs.length:Int))∧Up cs c.f3.toNat 1
def Gp (cs:List Cls) (nc:Nat) (l7:List Cth):Prop:=l7.length≤2∧∀j,0≤j→j<l7.length→uI cs nc (l7.getD j z73)
theorem GL {cs:List Cls} (hok:ClsOk cs) (ms:List Mth) {a0 a1:Int} {l2:List Int} {a3 a4:Int} (l5:List Ins) (l6:List kR) (l7:List Cth):
    Evp (fun k=>bH.f k cs ms a0 a1 l2 a3 a4 l5 l6 l7) (fun r=>r=true↔Gp cs l5.length l7):=by
  unfold bH.f
  refine Evp.ite (fun h=>Evp.pure _ (kQ fun h2=>by have:=h2.1;omega)) (fun h=> ?_)
  have k0: ∀i,i≤l7.length→Evp (fun k=>bH.l0 k l7 (l7.length:Int) (i:Int) cs ms a0 a1 l2 a3 a4 l5 l6 l7) (fun r=>r=true↔(∀j,i≤j→j<l7.length→uI cs l5.length (l7.getD j z73))∧True):=by
    refine Evp.for_ ?_ (fun i hi ih=> ?_)
    ·exact Evp.step (f:=fun k=>_) (fun k=>by rw[bH.l0]) (Evp.no (by omega) (Evp.pure _ (sZ (uS trivial))))
    · generalize hc:l7.getD i z73=c at ih
      have a: ¬uI cs l5.length c→Evp (fun k=>bH.j1 k l7 (l7.length:Int) (i:Int) true cs ms a0 a1 l2 a3 a4 l5 l6 l7 c.f0 c.f1 c.f2 c.f3) (fun r=>r=true↔(∀j,i≤j→j<l7.length→uI cs l5.length (l7.getD j z73))∧True):=fun hn=>
        Evp.step (f:=fun k=>_) (fun k=>by rw[bH.j1]) (Evp.yes rfl (Evp.pure _ (lG (Q:=fun j=>uI cs l5.length (l7.getD j z73)) hi (by rw[hc];exact hn))))
      have d: ¬uI cs l5.length c→Evp (fun k=>bH.j2 k l7 (l7.length:Int) (i:Int) true cs ms a0 a1 l2 a3 a4 l5 l6 l7 c.f0 c.f1 c.f2 c.f3) (fun r=>r=true↔(∀j,i≤j→j<l7.length→uI cs l5.length (l7.getD j z73))∧True):=fun hn=>
        Evp.step (f:=fun k=>_) (fun k=>by rw[bH.j2]) (Evp.yes rfl (Evp.pure _ (lG (Q:=fun j=>uI cs l5.length (l7.getD j z73)) hi (by rw[hc];exact hn))))
      refine Evp.step (f:=fun k=>_) (fun k=>by rw[bH.l0,rdK,hc]) (Evp.yes (by omega) (Evp.yes (by omega) (Evp.yes (by omega) ?_)))
      refine Evp.ite (fun h1=>a fun h9=>by have:=h9.1;omega) (fun h1=>Evp.ite (fun h2=>a fun h9=>by have:=h9.1;omega) (fun h2=>Evp.ite (fun h3=>a fun h9=>by have:=h9.2.2.1;omega) (fun h3=> ?_)))
      by_cases h4:c.f2≥(l5.length:Int)
      · rw[decide_eq_true h4]
        exact a fun h9=>by have:=h9.2.2.1;omega
      rw[decide_eq_false h4]
      refine Evp.step (f:=fun k=>_) (fun k=>by rw[bH.j1]) (Evp.no (by decide) (Evp.ite (fun h5=>d fun h9=>by have:=h9.2.1;omega) (fun h5=> ?_)))
      by_cases h6:c.f1>(l5.length:Int)
      · rw[decide_eq_true h6]
        exact d fun h9=>by have:=h9.2.1;omega
      rw[decide_eq_false h6]
      refine Evp.step (f:=fun k=>_) (fun k=>by rw[bH.j2]) (Evp.no (by decide) ?_)
      obtain⟨x,hx,hx2⟩:=xZ cs c.f3
      simp only[hx,Option.bind_some]
      refine Evp.ite (fun h7=> ?_) (fun h7=>Evp.pure _ (lG (Q:=fun j=>uI cs l5.length (l7.getD j z73)) hi (by rw[hc];exact fun h9=>h7 (hx2.2 h9.2.2.2.1))))
      have h8:=hx2.1 h7
      have hu:=IZ hok 1 c.f3.toNat (by omega)
      rw[show((c.f3.toNat:Nat):Int)=c.f3 by omega]at hu
      refine Evp.bind hu fun u hu=>Evp.ite (fun h9=> ?_) (fun h9=>Evp.pure _ (lG (Q:=fun j=>uI cs l5.length (l7.getD j z73)) hi (by rw[hc];exact fun h10=>h9 (hu.2 h10.2.2.2.2))))
      rw[uV (n:=l7.length) hi (by omega)]
      exact ih.mono fun r hr=>tF (Q:=fun j=>uI cs l5.length (l7.getD j z73)) (by rw[hc];exact⟨by omega,by omega,by omega,h8,hu.1 h9⟩) hr
  exact(k0 0 (Nat.zero_le _)).mono fun r hr=>hr.trans ⟨fun h2=>⟨by omega,h2.1⟩,fun h2=>⟨h2.2,trivial⟩⟩
theorem Jq {cs:List Cls} (hok:ClsOk cs) (ms:List Mth) {a0 a1:Int} {l2:List Int} {a3 a4:Int} (l5:List Ins) (a:l5.length≤1048576) (l6:List kR) (l7:List Cth) (c:Cth):
    Evp (fun k=>wY.f k cs ms a0 a1 l2 a3 a4 l5 l6 l7 c.f0 c.f1 c.f2 c.f3) (fun r=>r=true↔uI cs l5.length c):=by
  have hlo:=hok.lo
  have hhi:=hok.hi
  unfold wY.f
  rw[ui,w64 (n:=(l5.length:Int) - 1) (by omega) (by omega),w64 (n:=(cs.length:Int) - 1) (by omega) (by omega)]
  simp only[Option.bind_some]
  refine Evp.ite (fun h1=> ?_) (fun h1=>Evp.pure _ (kQ fun h9=>h1 (decide_eq_true (by have:=h9.1;omega))))
  have h1' :=of_decide_eq_true h1
  rw[ui,w64 (n:=c.f0+1) (by omega) (by omega)]
  simp only[Option.bind_some]
  refine Evp.ite (fun h2=> ?_) (fun h2=>Evp.pure _ (kQ fun h9=>h2 (decide_eq_true (by have:=h9.2.1;omega))))
  have h2' :=of_decide_eq_true h2
  rw[ui]
  simp only[Option.bind_some]
  refine Evp.ite (fun h3=> ?_) (fun h3=>Evp.pure _ (kQ fun h9=>h3 (decide_eq_true (by have:=h9.2.2.1;omega))))
  have h3' :=of_decide_eq_true h3
  rw[ui]
  simp only[Option.bind_some]
  refine Evp.ite (fun h4=> ?_) (fun h4=>Evp.pure _ (kQ fun h9=>h4 (decide_eq_true (by have:=h9.2.2.2.1;omega))))
  have h4' :=of_decide_eq_true h4
  have hu:=CZ hok 1 c.f3.toNat (by omega)
  rw[show((c.f3.toNat:Nat):Int)=c.f3 by omega]at hu
  exact Evp.bind hu fun u hu=>Evp.pure _ (hu.trans ⟨fun h5=>⟨by omega,by omega,by omega,by omega,h5⟩,fun h5=>h5.2.2.2.2⟩)
def vz (cs:List Cls) (ms:List Mth) (m:Mth):Prop:=zO cs.length m.f0 m.f1 m.f2 m.f3 m.f4∧Ik cs ms m.f4 m.f5 m.f6∧Gp cs m.f5.length m.f7
theorem IE {cs:List Cls} (hs:vU cs) (hok:ClsOk cs) (ms:List Mth) (hm:ms.length≤1048576) (m:Mth) (h2:m.f2.length≤1048576) (h5:m.f5.length≤1048576) (h6:m.f6.length≤1048576) (h7:m.f7.length≤1048576) (a: ∀j,j<m.f6.length→SmallS (m.f6.getD j z69)):
    Evp (fun k=>bJ.f k cs ms m.f0 m.f1 m.f2 m.f3 m.f4 m.f5 m.f6 m.f7) (fun r=>r=true↔vz cs ms m):=by
  obtain⟨a0,a1,l2,a3,a4,l5,l6,l7⟩:=m
  dsimp only at *
  have jt: ¬vz cs ms ⟨a0,a1,l2,a3,a4,l5,l6,l7⟩→Evp (fun k=>bJ.j0 k true cs ms a0 a1 l2 a3 a4 l5 l6 l7) (fun r=>r=true↔vz cs ms ⟨a0,a1,l2,a3,a4,l5,l6,l7⟩):=fun h=>
    Evp.step (f:=fun k=>_) (fun k=>by rw[bJ.j0]) (Evp.yes rfl (Evp.pure _ (kQ h)))
  unfold bJ.f
  refine Evp.bind (Kq hs ms l5 l6 l7 h2) fun b hb=>Evp.ite (fun hh=> ?_) (fun hh=>jt fun h=>hh (hb.2 h.1))
  have hhd:=hb.1 hh
  have e:a4≤3:=hhd.2.2.2.2.1
  have g:0≤a4:=by
    have:=hhd.2.2.2.2.2
    unfold yn at this
    split at this<;>omega
  rw[ui]
  simp only[Option.bind_some]
  refine Evp.ite (fun h1=> ?_) (fun h1=>jt fun h=>h1 (decide_eq_true (by have:=h.2.1.1;dsimp only at this;omega)))
  have h1' :=of_decide_eq_true h1
  refine Evp.ite (fun he=> ?_) (fun he=>jt fun h=>he (by have:=h.2.1.1.2.2;dsimp only at this;omega))
  by_cases h3:(l7.length:Int)>2
  · rw[decide_eq_true h3]
    exact jt fun h=>by have:=h.2.2.1;dsimp only at this;omega
  rw[decide_eq_false h3]
  refine Evp.step (f:=fun k=>_) (fun k=>by rw[bJ.j0]) (Evp.no (by decide) ?_)
  have k1: ∀i,i≤l7.length→Evp (fun k=>bJ.l1 k (i:Int) cs ms a0 a1 l2 a3 a4 l5 l6 l7) (fun r=>r=true↔(∀j,i≤j→j<l7.length→uI cs l5.length (l7.getD j z73))∧True):=by
    refine Evp.for_ ?_ (fun i hi ih=> ?_)
    ·exact Evp.step (f:=fun k=>_) (fun k=>by rw[bJ.l1]) (Evp.no (by omega) (Evp.pure _ (sZ (uS trivial))))
    · refine Evp.step (f:=fun k=>_) (fun k=>by rw[bJ.l1,rdK]) (Evp.yes (by omega) (Evp.yes (by omega) ?_))
      refine Evp.bind (Jq hok ms l5 h5 l6 l7 _) fun c hc=>Evp.ite (fun h8=> ?_) (fun h8=>Evp.pure _ (lG (Q:=fun j=>uI cs l5.length (l7.getD j z73)) hi fun h9=>h8 (hc.2 h9)))
      rw[uV (n:=l7.length) hi (by omega)]
      exact ih.mono fun r hr=>tF (Q:=fun j=>uI cs l5.length (l7.getD j z73)) (hc.1 h8) hr
  have k0: ∀i,i≤l5.length→Evp (fun k=>bJ.l0 k (i:Int) cs ms a0 a1 l2 a3 a4 l5 l6 l7) (fun r=>r=true↔(∀j,i≤j→j<l5.length→vY cs ms a4 l5.length (l5.getD j z67)∧AJ cs a4 (l6.getD j z69))∧((∀j,0≤j→j<l7.length→uI cs l5.length (l7.getD j z73))∧True)):=by
    refine Evp.for_ ?_ (fun i hi ih=> ?_)
    · refine Evp.step (f:=fun k=>_) (fun k=>by rw[bJ.l0]) (Evp.no (by omega) ?_)
      exact(k1 0 (Nat.zero_le _)).mono fun r hr=>sZ hr
    · have hss:=a i (by omega)
      refine Evp.step (f:=fun k=>_) (fun k=>by rw[bJ.l0,rdX,rdS]) (Evp.yes (by omega) (Evp.yes (by omega) ?_))
      refine Evp.bind (GK hs hok ms hm g e l5 h5 l6 l7 _) fun c hc=>Evp.ite (fun h8=> ?_) (fun h8=>Evp.pure _ (lG (Q:=fun j=>vY cs ms a4 l5.length (l5.getD j z67)∧AJ cs a4 (l6.getD j z69)) hi fun h9=>h8 (hc.2 h9.1)))
      refine Evp.yes (by omega) (Evp.bind (GJ hs a4 _ hss.l1 hss.l2) fun d hd=>Evp.ite (fun h9=> ?_) (fun h9=>Evp.pure _ (lG (Q:=fun j=>vY cs ms a4 l5.length (l5.getD j z67)∧AJ cs a4 (l6.getD j z69)) hi fun h10=>h9 (hd.2 ⟨hok,h10.2⟩))))
      rw[uV (n:=l5.length) hi (by omega)]
      exact ih.mono fun r hr=>tF (Q:=fun j=>vY cs ms a4 l5.length (l5.getD j z67)∧AJ cs a4 (l6.getD j z69)) ⟨hc.1 h8,(hd.1 h9).2⟩ hr
  refine(k0 0 (Nat.zero_le _)).mono fun r hr=>hr.trans ?_
  constructor
  · intro h
    refine⟨hhd,⟨⟨by dsimp only;omega,by dsimp only;omega,by dsimp only;omega⟩,fun j hj hj2=>(h.1 j hj hj2).1,fun j hj hj2=>(h.1 j hj (by dsimp only at hj2;omega)).2⟩,⟨by dsimp only;omega,h.2.1⟩⟩
  · intro h
    exact⟨fun j hj hj2=>⟨h.2.1.2.1 j hj hj2,h.2.1.2.2 j hj (by dsimp only;omega)⟩,h.2.2.2,trivial⟩
end Go.Proofs.Ytojpejfcafbafaa.Kit
end
section
namespace Go.Proofs.Ytojpejfcafbafaa.P
open Go.RowKit Go.Proofs.YtojpejfcafbafaaW.PrintWords Go.Proofs.YtojpejfcafbafaaW.PrintLast Go.Proofs.YtojpejfcafbafaaW.PrintMore
attribute [local go_sem] bn bq bP bQ aW aX bu bv
set_option linter.unusedVariables false
set_option linter.unusedSimpArgs false
def slices_Equal_int_int.l0:Nat→List Int→List Int→Int→Int→Option (Bool)
  |0,_,_,_,_=>none
  |k+1,x0,x1,c,a=>if a<c then(if 0≤a then(if a<(x0.length:Int)then(if a<(x1.length:Int)then(if(rd x0 a)=(rd x1 a)then(slices_Equal_int_int.l0 k x0 x1 c (wrap64 (a+1)))else(some false))else(none))else(none))else(none))else(some true)
def slices_Equal_int_int.f (k:Nat) (l0:List Int) (l1:List Int):Option (Bool):=if(l0.length:Int)=(l1.length:Int)then(slices_Equal_int_int.l0 k l0 l1 (l0.length:Int) 0)else(some false)
end Go.Proofs.Ytojpejfcafbafaa.P
end
