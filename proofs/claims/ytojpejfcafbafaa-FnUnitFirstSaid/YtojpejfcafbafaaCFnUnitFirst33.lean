/- A part of the claim FnUnitFirst. -/
import Derived.Test.YtojpejfcafbafaaCFnUnitFirst32
section
namespace Go.Proofs.Ytojpejfcafbafaa.V
open Go Go.RowKit Go.Proofs.Ytojpejfcafbafaa.P
set_option linter.unusedVariables false
set_option linter.unusedSimpArgs false
attribute [local simp ↓] eG eH fQ fT eO dM fZ eP eQ gm gp gq dN dO dP gB gz gG gF dQ bW dV cz dJ dR eT eU eX
attribute [local simp] fU fV dK bR eF dL bS bT bU bV bM bN dS eY dU bX bY bZ cu bO fD lM iL dz iw evl dI eZ fu kD iX List.range List.range.loop lT kX fo fB iC iA Bs.live Bs.get lN WkV WkA WkC lg lH kY lD cZ iM TEq.refl bg fH qQ aF aG aD aH aI aJ ei d9 splice dE Bs.set kU fC Rn.at gu gy iF iD lL chunks lC fP toT fE iE rowsOf cB ik plR plV plC lF lI lQ lh fI iR lU
attribute [local simp] List.length_pos_iff qR qU iG iH iI puts dh
attribute [local simp ←] ig
attribute [local simp] wu wL wO wN wM ksL ru ksV rV ksC ksT ren kr rO rH dw tZ uf ug qY qZ rf bsC wF bsV vJ uo uX uY uq ut uu uw sO sP sQ sS sU r9 sV fF dW dx iW iB iO iQ lS rG closedB iT kP kG kH kJ kL iJ kN
attribute [local simp] ag3 un3 sz3 in3 by3 ze3 ct3 zt3 zu3 ag4 un4 sz4 in4 by4 ze4 ct4 zt4 zu4 ag5 un5 sz5 in5 by5 ze5 ct5 zt5 zu5 mi mq mD mE mF mG mH mI mJ io3 mK io5 bo4 mM mO mP mQ mR mU mV mW mX mY mZ ng ni nk nu ny nz nA nC nD nE nG nH nI nJ nK nL nM nN nO nP nQ nR nS nT nU nV nW nX nY nZ oh ol om oo oq ou ow oz oC oD oF oG oH oI oJ oK oL oM oN oO oP oQ oU oV oW oZ o6 o7 o8 iZ ja jb jc jd je jf jg jh ji jk jl jm jo jq jr jv jw jy jA o9 pg pu pz pE pF pG pI pJ pK jB jC jD jE jF jG jH jI jJ jK jL jM jN jO jP jQ jR jS jT jU jV jW jX jY jZ kg ko mz gH gI gJ gK gL gN gP gQ gT gU gV gW gX gY gZ ib pO pQ pR pU pV pW pX pY p9 qa qb qc qd qf qg qh qi qj ql qm qo qp qw qx qy qz qA qB qC qD qE qF qG qH qI qJ qK qL qM qN qO qP mix
attribute [local simp] eb eC eI eS eK eM nm
set_option maxRecDepth 20000 in
set_option maxHeartbeats 4000000 in
theorem rE (k:Nat) (d:List Int) (w:Int) (x:List (S41)) (y:List (S35)) (e:Int) (g:Int) (j:List Int) (m:Int) (o:Int) (u:List (S67)) (v:List (S69)) (z:List (S73)) (r:Int×Int×List Int×Int×Int×(List (S67))×(List (S69))×(List (S73))×Int) (h:bL.f k d w x y e g j m o u v z=some r):uL Try.prog 37 [.c (.ptr 0 0 0), .agg [.t (tC x), .t (tM y)], .agg [.t (.i e), .t (.i g), .t (.ints j), .t (.i m), .t (.i o), .t (tI u), .t (tS v), .t (tK z)]] [(0,some (rdB d w))] (.agg [.t (.i r.1), .t (.i r.2.1), .t (.ints (r.2.2.1)), .t (.i r.2.2.2.1), .t (.i r.2.2.2.2.1), .t (tI (r.2.2.2.2.2.1)), .t (tS (r.2.2.2.2.2.2.1)), .t (tK (r.2.2.2.2.2.2.2.1))]) [(0,some (rdB d (r.2.2.2.2.2.2.2.2)))]:=by
  unfold bL.f at h
  try simp only[aF,aG,aD,aH,aI,aJ]at h
  refine bF Try.func37 rfl rfl rfl ?_
  try simp -implicitDefEqProofs (maxSteps:=2000000)
  repeat' first
    |(with_reducible (first|(replace h:=bC (by assumption) h)|(replace h:=bD (by assumption) h)|(replace h:=aY (by assumption) h)|(replace h:=aZ (by assumption) h)))
    |((with_reducible have hh:=aB h);clear h;rcases hh with⟨hc,h⟩|⟨hc,h⟩<;>have hd:=hc<;>(first|(replace hc:=dA hc)|(replace hc:=dB hc)|skip)<;>(try simp at hd)<;>(first|exact absurd hd (of_eq_false (by assumption))|exact absurd (of_eq_true (by assumption)) hd|skip)<;>(try(first|(subst hd)|(replace hd:=bG hd)|(replace hd:=eq_false hd)|(replace hd:=eq_true hd)))<;>(try simp -implicitDefEqProofs (maxSteps:=2000000) [*, -h]))
    |(with_reducible replace h:=aL h)
    | ((with_reducible have hh:=Option.bind_eq_some_iff.1 h);clear h;obtain⟨x_,hx_,h⟩:=hh;(first|(refine av (qX (h:=hx_)) rfl rfl ?_ ⟨rfl,rfl⟩ ?_;(·simp[*]);clear hx_;try simp -implicitDefEqProofs (maxSteps:=2000000) [*, -h])|(refine aC (lV (h:=hx_)) rfl rfl rfl ?_ ?_ ?_ ?_;(·simp[*]);(·simp[*]);(·constructor<;>simp);clear hx_;try simp -implicitDefEqProofs (maxSteps:=2000000) [*, -h])|(refine av (iq (h:=hx_)) rfl rfl ?_ ⟨rfl,rfl⟩ ?_;(·simp[*]);clear hx_;try simp -implicitDefEqProofs (maxSteps:=2000000) [*, -h])|(refine aC (aO (h:=hx_)) rfl rfl rfl ?_ ?_ ?_ ?_;(·simp[*]);(·simp[*]);(·constructor<;>simp);clear hx_;try simp -implicitDefEqProofs (maxSteps:=2000000) [*, -h])|(refine aC (vO (h:=hx_)) rfl rfl rfl ?_ ?_ ?_ ?_;(·simp[*]);(·simp[*]);(·constructor<;>simp);clear hx_;try simp -implicitDefEqProofs (maxSteps:=2000000) [*, -h]))
       )
    |(obtain⟨k,rfl⟩:=aM (f:=fun k=>bL.j0 k _ _ _ _ _ _ _ _ _ _ _ _ _ _ _ _ _ _) (by simp only[bL.j0]) h;simp only[bL.j0]at h;try simp only[aF,aG,aD,aH,aI,aJ,beq_iff_eq,decide_eq_true_eq]at h)
    |(refine⟨(by first|exact aP (by assumption) (by decide) (by decide)|exact aN (by assumption) (by decide) (by decide)), ?_⟩;try simp -implicitDefEqProofs (maxSteps:=2000000) [*, -h])
    |(cases h;done)
    |(cases h;refine ed _ rfl ?_;constructor<;>simp[*]<;>exact az (by omega) (by omega) (by simp))
    |(exfalso;clear h;simp_all;done)
  rotate_left
  focus refine xk [true,true,true,true,true,true,true,false,false,true,true,true,true,true] (fun a=> [(9, .c (.own 500 3 a.2.1.length)),(10, .c (.own 501 1 a.2.2.2.1.length)),(11, .i a.2.2.1),(12, .i a.2.2.2.2.2.2),(13, .i a.1)]) (fun(a:Int×List S67×Int×List Int×Int×List S73×Int)=> [(0,some (rdB d a.2.2.2.2.1)),(500,some (.row 67 3 a.2.1.length (fl z67 eI a.2.1))),(501,some (.row 3 1 a.2.2.2.1.length (fl 0 ei a.2.2.2.1))),(105,some (.box 35 [.t (.i e), .t (.i g), .t (.ints j), .t (.i m), .t (.i o), .t (tI u), .t (tS v), .t (tK a.2.2.2.2.2.1)])),(27900,none),(27901,none)]) (fun n a=>bL.l0 n a.1 a.2.1 a.2.2.1 a.2.2.2.1 _ a.2.2.2.2.1 _ _ _ _ _ _ _ _ a.2.2.2.2.2.1 a.2.2.2.2.2.2 _=some _) [(500,27900),(501,27901)] (b0:=(_,_,_,_,_,_,_)) h (by constructor<;>simp[idR,mkT]) ?_
  rotate_left
  focus
    have hh:=Option.bind_eq_some_iff.1 h
    clear h;obtain⟨⟨b0,b1,b2⟩,hb,h⟩:=hh
    refine aC (vO (h:=hb)) rfl rfl rfl ?_ ?_ ?_ ?_
    ·simp[*]
    ·simp[*,wrap64]
    ·constructor<;>simp
    clear hb
    try simp -implicitDefEqProofs (maxSteps:=2000000) [*, -h]
    repeat' first
        |(with_reducible (first|(replace h:=bC (by assumption) h)|(replace h:=bD (by assumption) h)|(replace h:=aY (by assumption) h)|(replace h:=aZ (by assumption) h)))
        |((with_reducible have hh:=aB h);clear h;rcases hh with⟨hc,h⟩|⟨hc,h⟩<;>have hd:=hc<;>(first|(replace hc:=dA hc)|(replace hc:=dB hc)|skip)<;>(try simp at hd)<;>(first|exact absurd hd (of_eq_false (by assumption))|exact absurd (of_eq_true (by assumption)) hd|skip)<;>(try(first|(subst hd)|(replace hd:=bG hd)|(replace hd:=eq_false hd)|(replace hd:=eq_true hd)))<;>(try simp -implicitDefEqProofs (maxSteps:=2000000) [*, -h]))
        |(with_reducible replace h:=aL h)
        | ((with_reducible have hh:=Option.bind_eq_some_iff.1 h);clear h;obtain⟨x_,hx_,h⟩:=hh;(first|(refine av (qX (h:=hx_)) rfl rfl ?_ ⟨rfl,rfl⟩ ?_;(·simp[*]);clear hx_;try simp -implicitDefEqProofs (maxSteps:=2000000) [*, -h])|(refine aC (lV (h:=hx_)) rfl rfl rfl ?_ ?_ ?_ ?_;(·simp[*]);(·simp[*]);(·constructor<;>simp);clear hx_;try simp -implicitDefEqProofs (maxSteps:=2000000) [*, -h])|(refine av (iq (h:=hx_)) rfl rfl ?_ ⟨rfl,rfl⟩ ?_;(·simp[*]);clear hx_;try simp -implicitDefEqProofs (maxSteps:=2000000) [*, -h])|(refine aC (aO (h:=hx_)) rfl rfl rfl ?_ ?_ ?_ ?_;(·simp[*]);(·simp[*]);(·constructor<;>simp);clear hx_;try simp -implicitDefEqProofs (maxSteps:=2000000) [*, -h])|(refine aC (vO (h:=hx_)) rfl rfl rfl ?_ ?_ ?_ ?_;(·simp[*]);(·simp[*]);(·constructor<;>simp);clear hx_;try simp -implicitDefEqProofs (maxSteps:=2000000) [*, -h]))
           )
        |(obtain⟨k,rfl⟩:=aM (f:=fun k=>bL.j0 k _ _ _ _ _ _ _ _ _ _ _ _ _ _ _ _ _ _) (by simp only[bL.j0]) h;simp only[bL.j0]at h;try simp only[aF,aG,aD,aH,aI,aJ,beq_iff_eq,decide_eq_true_eq]at h)
        |(refine⟨(by first|exact aP (by assumption) (by decide) (by decide)|exact aN (by assumption) (by decide) (by decide)), ?_⟩;try simp -implicitDefEqProofs (maxSteps:=2000000) [*, -h])
        |(cases h;done)
        |(cases h;refine ed _ rfl ?_;constructor<;>simp[*]<;>exact az (by omega) (by omega) (by simp))
        |(exfalso;clear h;simp_all;done)
  rotate_left
  focus refine xk [true,true,true,true,true,true,true,false,false,true,true,true,true,true] (fun a=> [(9, .c (.own 500 3 a.2.1.length)),(10, .c (.own 501 1 a.2.2.2.1.length)),(11, .i a.2.2.1),(12, .i a.2.2.2.2.2.2),(13, .i a.1)]) (fun(a:Int×List S67×Int×List Int×Int×List S73×Int)=> [(0,some (rdB d a.2.2.2.2.1)),(500,some (.row 67 3 a.2.1.length (fl z67 eI a.2.1))),(501,some (.row 3 1 a.2.2.2.1.length (fl 0 ei a.2.2.2.1))),(105,some (.box 35 [.t (.i e), .t (.i g), .t (.ints j), .t (.i m), .t (.i o), .t (tI u), .t (tS v), .t (tK a.2.2.2.2.2.1)])),(27900,none),(27901,none)]) (fun n a=>bL.l0 n a.1 a.2.1 a.2.2.1 a.2.2.2.1 _ a.2.2.2.2.1 _ _ _ _ _ _ _ _ a.2.2.2.2.2.1 a.2.2.2.2.2.2 _=some _) [(500,27900),(501,27901)] (b0:=(_,_,_,_,_,_,_)) h (by constructor<;>simp[idR,mkT]) ?_
  rotate_left
  rotate_left
  focus
    rename_i hd hc
    have hd2:b0.length<5864062014804:=hc
    refine⟨⟨by unfold maxLen;omega,by omega⟩, ?_⟩
    have hh:=Option.bind_eq_some_iff.1 h
    clear h;obtain⟨⟨q,p⟩,hb,h⟩:=hh
    refine aC (aO (h:=hb)) rfl rfl rfl ?_ ?_ ?_ ?_
    ·simp[*]
    ·simp[*]
    ·constructor<;>simp
    clear hb
    simp -implicitDefEqProofs (maxSteps:=2000000) [*, -h]
    refine xQ (Ed 153 (xh rfl) rfl) ?_
    simp -implicitDefEqProofs (maxSteps:=2000000)
    refine xk [true,true,true,true,true,true,true,false,false,true,true,true,true,true] (fun a=> [(9, .c (.own 500 3 a.2.1.length)),(10, .c (.own 501 1 a.2.2.2.1.length)),(11, .i a.2.2.1),(12, .i a.2.2.2.2.2.2),(13, .i a.1)]) (fun(a:Int×List S67×Int×List Int×Int×List S73×Int)=> [(0,some (rdB d a.2.2.2.2.1)),(500,some (.row 67 3 a.2.1.length (fl z67 eI a.2.1))),(501,some (.row 3 1 a.2.2.2.1.length (fl 0 ei a.2.2.2.1))),(105,some (.box 35 [.t (.i e), .t (.i g), .t (.ints j), .t (.i m), .t (.i o), .t (tI u), .t (tS v), .t (tK a.2.2.2.2.2.1)])),(143,none),(27901,none)]) (fun n a=>bL.l0 n a.1 a.2.1 a.2.2.1 a.2.2.2.1 _ a.2.2.2.2.1 _ _ _ _ _ _ _ _ a.2.2.2.2.2.1 a.2.2.2.2.2.2 _=some _) [(500,143),(501,27901)] (b0:=(_,_,_,_,_,_,_)) h (by constructor<;>simp[idR,mkT];exact TEq.refl _) ?_
  all_goals
    clear h;rintro k ⟨i,code,n,empty,p,m7,en⟩ hk h
    obtain⟨k,rfl⟩:=aM (f:=fun k=>bL.l0 k _ _ _ _ _ _ _ _ _ _ _ _ _ _ _ _ _) (by simp only[bL.l0]) h
    simp only[bL.l0]at h
    try simp only[aF,aG,aD,aH,aI,aJ]at h
    refine uZ ?_
    try simp -implicitDefEqProofs (maxSteps:=2000000)
    repeat' first
        |(with_reducible (first|(replace h:=bC (by assumption) h)|(replace h:=bD (by assumption) h)|(replace h:=aY (by assumption) h)|(replace h:=aZ (by assumption) h)))
        |((with_reducible have hh:=aB h);clear h;rcases hh with⟨hc,h⟩|⟨hc,h⟩<;>have hd:=hc<;>(first|(replace hc:=dA hc)|(replace hc:=dB hc)|skip)<;>(try simp at hd)<;>(first|exact absurd hd (of_eq_false (by assumption))|exact absurd (of_eq_true (by assumption)) hd|skip)<;>(try(first|(subst hd)|(replace hd:=bG hd)|(replace hd:=eq_false hd)|(replace hd:=eq_true hd)))<;>(try simp -implicitDefEqProofs (maxSteps:=2000000) [*, -h]))
        |(with_reducible replace h:=aL h)
        | ((with_reducible have hh:=Option.bind_eq_some_iff.1 h);clear h;obtain⟨x_,hx_,h⟩:=hh;(first|(refine av (qX (h:=hx_)) rfl rfl ?_ ⟨rfl,rfl⟩ ?_;(·simp[*]);clear hx_;try simp -implicitDefEqProofs (maxSteps:=2000000) [*, -h])|(refine aC (lV (h:=hx_)) rfl rfl rfl ?_ ?_ ?_ ?_;(·simp[*]);(·simp[*]);(·constructor<;>simp);clear hx_;try simp -implicitDefEqProofs (maxSteps:=2000000) [*, -h])|(refine av (iq (h:=hx_)) rfl rfl ?_ ⟨rfl,rfl⟩ ?_;(·simp[*]);clear hx_;try simp -implicitDefEqProofs (maxSteps:=2000000) [*, -h])|(refine aC (aO (h:=hx_)) rfl rfl rfl ?_ ?_ ?_ ?_;(·simp[*]);(·simp[*]);(·constructor<;>simp);clear hx_;try simp -implicitDefEqProofs (maxSteps:=2000000) [*, -h])|(refine aC (vO (h:=hx_)) rfl rfl rfl ?_ ?_ ?_ ?_;(·simp[*]);(·simp[*]);(·constructor<;>simp);clear hx_;try simp -implicitDefEqProofs (maxSteps:=2000000) [*, -h]))
           )
        |(obtain⟨k,rfl⟩:=aM (f:=fun k=>bL.j0 k _ _ _ _ _ _ _ _ _ _ _ _ _ _ _ _ _ _) (by simp only[bL.j0]) h;simp only[bL.j0]at h;try simp only[aF,aG,aD,aH,aI,aJ,beq_iff_eq,decide_eq_true_eq]at h)
        |(refine⟨(by first|exact aP (by assumption) (by decide) (by decide)|exact aN (by assumption) (by decide) (by decide)), ?_⟩;try simp -implicitDefEqProofs (maxSteps:=2000000) [*, -h])
        |(cases h;done)
        |(cases h;refine ed _ rfl ?_;constructor<;>simp[*]<;>exact az (by omega) (by omega) (by simp))
        |(exfalso;clear h;simp_all;done)
    all_goals first
      |(refine ku [true,true,true,true,true,true,true,false,false,true,true,true,true,true] [] (a:=(_,_,_,_,_,_,_)) (by omega) h ?_;(constructor<;>simp[idR,mkT]);done)
      |skip
    have hh:=Option.bind_eq_some_iff.1 h
    clear h;obtain⟨x_,hx_,h⟩:=hh
    refine CJ 209 rfl rfl ?_
    simp -implicitDefEqProofs (maxSteps:=2000000)
    refine av (iq (h:=hx_)) rfl rfl ?_ ⟨rfl,rfl⟩ ?_
    ·simp[*]
    clear hx_;try simp -implicitDefEqProofs (maxSteps:=2000000) [*, -h]
    repeat' first
        |(with_reducible (first|(replace h:=bC (by assumption) h)|(replace h:=bD (by assumption) h)|(replace h:=aY (by assumption) h)|(replace h:=aZ (by assumption) h)))
        |((with_reducible have hh:=aB h);clear h;rcases hh with⟨hc,h⟩|⟨hc,h⟩<;>have hd:=hc<;>(first|(replace hc:=dA hc)|(replace hc:=dB hc)|skip)<;>(try simp at hd)<;>(first|exact absurd hd (of_eq_false (by assumption))|exact absurd (of_eq_true (by assumption)) hd|skip)<;>(try(first|(subst hd)|(replace hd:=bG hd)|(replace hd:=eq_false hd)|(replace hd:=eq_true hd)))<;>(try simp -implicitDefEqProofs (maxSteps:=2000000) [*, -h]))
        |(with_reducible replace h:=aL h)
        | ((with_reducible have hh:=Option.bind_eq_some_iff.1 h);clear h;obtain⟨x_,hx_,h⟩:=hh;(first|(refine av (qX (h:=hx_)) rfl rfl ?_ ⟨rfl,rfl⟩ ?_;(·simp[*]);clear hx_;try simp -implicitDefEqProofs (maxSteps:=2000000) [*, -h])|(refine aC (lV (h:=hx_)) rfl rfl rfl ?_ ?_ ?_ ?_;(·simp[*]);(·simp[*]);(·constructor<;>simp);clear hx_;try simp -implicitDefEqProofs (maxSteps:=2000000) [*, -h])|(refine av (iq (h:=hx_)) rfl rfl ?_ ⟨rfl,rfl⟩ ?_;(·simp[*]);clear hx_;try simp -implicitDefEqProofs (maxSteps:=2000000) [*, -h])|(refine aC (aO (h:=hx_)) rfl rfl rfl ?_ ?_ ?_ ?_;(·simp[*]);(·simp[*]);(·constructor<;>simp);clear hx_;try simp -implicitDefEqProofs (maxSteps:=2000000) [*, -h])|(refine aC (vO (h:=hx_)) rfl rfl rfl ?_ ?_ ?_ ?_;(·simp[*]);(·simp[*]);(·constructor<;>simp);clear hx_;try simp -implicitDefEqProofs (maxSteps:=2000000) [*, -h]))
           )
        |(obtain⟨k,rfl⟩:=aM (f:=fun k=>bL.j0 k _ _ _ _ _ _ _ _ _ _ _ _ _ _ _ _ _ _) (by simp only[bL.j0]) h;simp only[bL.j0]at h;try simp only[aF,aG,aD,aH,aI,aJ,beq_iff_eq,decide_eq_true_eq]at h)
        |(refine⟨(by first|exact aP (by assumption) (by decide) (by decide)|exact aN (by assumption) (by decide) (by decide)), ?_⟩;try simp -implicitDefEqProofs (maxSteps:=2000000) [*, -h])
        |(cases h;done)
        |(cases h;refine ed _ rfl ?_;constructor<;>simp[*]<;>exact az (by omega) (by omega) (by simp))
        |(exfalso;clear h;simp_all;done)
end Go.Proofs.Ytojpejfcafbafaa.V
end
section
namespace Go.Proofs.Ytojpejfcafbafaa.V
open Go Go.RowKit Go.Proofs.Ytojpejfcafbafaa.P
set_option linter.unusedVariables false
set_option linter.unusedSimpArgs false
attribute [local simp ↓] eG eH fQ fT eO dM fZ eP eQ gm gp gq dN dO dP gB gz gG gF dQ bW dV cz dJ dR eT eU eX
attribute [local simp] fU fV dK bR eF dL bS bT bU bV bM bN dS eY dU bX bY bZ cu bO fD lM iL dz iw evl dI eZ fu kD iX List.range List.range.loop lT kX fo fB iC iA Bs.live Bs.get lN WkV WkA WkC lg lH kY lD cZ iM TEq.refl bg fH qQ aF aG aD aH aI aJ ei d9 splice dE Bs.set kU fC Rn.at gu gy iF iD lL chunks lC fP toT fE iE rowsOf cB ik plR plV plC lF lI lQ lh fI iR lU
attribute [local simp] List.length_pos_iff qR qU iG iH iI puts dh
attribute [local simp ←] ig
attribute [local simp] ksL ru ksV rV ksC ksT ren kr rO rH dw bsC wF bsV vJ uo uX uY uq ut uu uw sO sP sQ sS sU r9 sV fF dW dx iW iB iO iQ lS rG closedB iT kP kG kH kJ kL iJ kN
attribute [local simp] ag3 un3 sz3 in3 by3 ze3 ct3 zt3 zu3 ag4 un4 sz4 in4 by4 ze4 ct4 zt4 zu4 ag5 un5 sz5 in5 by5 ze5 ct5 zt5 zu5 mi mq mD mE mF mG mH mI mJ io3 mK io5 bo4 mM mO mP mQ mR mU mV mW mX mY mZ ng ni nk nu ny nz nA nC nD nE nG nH nI nJ nK nL nM nN nO nP nQ nR nS nT nU nV nW nX nY nZ oh ol om oo oq ou ow oz oC oD oF oG oH oI oJ oK oL oM oN oO oP oQ oU oV oW oZ o6 o7 o8 iZ ja jb jc jd je jf jg jh ji jk jl jm jo jq jr jv jw jy jA o9 pg pu pz pE pF pG pI pJ pK jB jC jD jE jF jG jH jI jJ jK jL jM jN jO jP jQ jR jS jT jU jV jW jX jY jZ kg ko mz gH gI gJ gK gL gN gP gQ gT gU gV gW gX gY gZ ib pO pQ pR pU pV pW pX pY p9 qa qb qc qd qf qg qh qi qj ql qm qo qp qw qx qy qz qA qB qC qD qE qF qG qH qI qJ qK qL qM qN qO qP mix
attribute [local simp] eb eC eI eS eK eM nm
set_option maxRecDepth 20000 in
set_option maxHeartbeats 4000000 in
theorem rU (k:Nat) (d:List Int) (e:Int) (a1:Int) (r:Int×Int×List Int×Int×Int×(List (S67))×(List (S69))×(List (S73))×Int) (h:lX.f k d e a1=some r):uL Try.prog 57 [.c (.ptr 0 0 0), .i a1] [(0,some (rdB d e))] (.agg [.t (.i r.1), .t (.i r.2.1), .t (.ints (r.2.2.1)), .t (.i r.2.2.2.1), .t (.i r.2.2.2.2.1), .t (tI (r.2.2.2.2.2.1)), .t (tS (r.2.2.2.2.2.2.1)), .t (tK (r.2.2.2.2.2.2.2.1))]) [(0,some (rdB d (r.2.2.2.2.2.2.2.2)))]:=by
  unfold lX.f at h
  try simp only[aF,aG,aD,aH,aI,aJ]at h
  refine bF Try.func57 rfl rfl rfl ?_
  try simp -implicitDefEqProofs (maxSteps:=2000000)
  repeat' first
    |(show ek _ _ 5 _ _ _ _;refine aT (by decide) [[], [0], [], [], [2,3], [4,2,3], [1,5,4,0,2,3], [0,1,2,3,4,5,6], [7,6,0,1,2,3,4,5]] [17,18,19,20,21,22,23,24,0] [0,1,2,3,4,5,6,7,8] (by kernel_rfl) ?_;try simp -implicitDefEqProofs (maxSteps:=2000000) [*, -h,aj,ah,ae,ai,ak,au,af,Op.operands,Call.operands])
    |(with_reducible (first|(replace h:=bC (by assumption) h)|(replace h:=bD (by assumption) h)|(replace h:=aY (by assumption) h)|(replace h:=aZ (by assumption) h)))
    |((with_reducible have hh:=aB h);clear h;rcases hh with⟨hc,h⟩|⟨hc,h⟩<;>have hd:=hc<;>(first|(replace hc:=dA hc)|(replace hc:=dB hc)|skip)<;>(try simp at hd)<;>(first|exact absurd hd (of_eq_false (by assumption))|exact absurd (of_eq_true (by assumption)) hd|skip)<;>(try(first|(subst hd)|(replace hd:=bG hd)|(replace hd:=eq_false hd)|(replace hd:=eq_true hd)))<;>(try simp -implicitDefEqProofs (maxSteps:=2000000) [*, -h,aj,ah,ae,ai,ak,au,af,Op.operands,Call.operands]))
    |(with_reducible replace h:=aL h)
    | ((with_reducible have hh:=Option.bind_eq_some_iff.1 h);clear h;obtain⟨x_,hx_,h⟩:=hh;(first|(refine aC (lu (h:=hx_)) rfl rfl rfl ?_ ?_ ?_ ?_;(·simp[*]);(·simp[*]);(·constructor<;>simp);clear hx_;try simp -implicitDefEqProofs (maxSteps:=2000000) [*, -h,aj,ah,ae,ai,ak,au,af,Op.operands,Call.operands])|(refine bI (lu (h:=hx_)) rfl rfl rfl ?_ ?_ ?_ ?_ ?_;(·simp[*]);(·simp[*]);(·constructor<;>simp);(·rfl);clear hx_;try simp -implicitDefEqProofs (maxSteps:=2000000) [*, -h,aj,ah,ae,ai,ak,au,af,Op.operands,Call.operands])|(refine aC (aO (h:=hx_)) rfl rfl rfl ?_ ?_ ?_ ?_;(·simp[*]);(·simp[*]);(·constructor<;>simp);clear hx_;try simp -implicitDefEqProofs (maxSteps:=2000000) [*, -h,aj,ah,ae,ai,ak,au,af,Op.operands,Call.operands])|(refine bI (aO (h:=hx_)) rfl rfl rfl ?_ ?_ ?_ ?_ ?_;(·simp[*]);(·simp[*]);(·constructor<;>simp);(·rfl);clear hx_;try simp -implicitDefEqProofs (maxSteps:=2000000) [*, -h,aj,ah,ae,ai,ak,au,af,Op.operands,Call.operands]))
       )
    |(refine⟨(by first|exact aP (by assumption) (by decide) (by decide)|exact aN (by assumption) (by decide) (by decide)), ?_⟩;try simp -implicitDefEqProofs (maxSteps:=2000000) [*, -h,aj,ah,ae,ai,ak,au,af,Op.operands,Call.operands])
    |(cases h;done)
    |(cases h;refine ed _ rfl ?_;constructor<;>simp[*]<;>exact az (by omega) (by omega) (by simp))
    |(exfalso;clear h;simp_all;done)
  rename_i y_
  refine tu [true,true,false,false,true,true,true,true,true,true,true,true,true] (fun a=> [(6, .i a.1)]) (fun(a:Int×List Int×Int)=> [(0,some (rdB d a.2.2)),(500,some (.row 3 1 a.2.1.length (fl 0 ei a.2.1))),(105,some (.box 35 [.t (.i 0), .t (.i 0), .own 500 1 a.2.1.length, .t (.i y_.1), .t (.i 0), .nil, .nil, .nil]))]) (fun n a=>lX.l0 n _ a.1 _ a.2.2 _ _ a.2.1 _ _=some _) [] (b0:=(x_.1, [],x_.2)) h (by constructor<;>simp[idR,mkT]) ?_
  clear h;rintro k ⟨i,fs,p⟩ hk h
  obtain⟨k,rfl⟩:=aM (f:=fun k=>lX.l0 k _ _ _ _ _ _ _ _ _) (by simp only[lX.l0]) h
  simp only[lX.l0]at h
  try simp -implicitDefEqProofs (maxSteps:=2000000)
  repeat' first
      |(show ek _ _ 5 _ _ _ _;refine aT (by decide) [[], [0], [], [], [2,3], [4,2,3], [1,5,4,0,2,3], [0,1,2,3,4,5,6], [7,6,0,1,2,3,4,5]] [17,18,19,20,21,22,23,24,0] [0,1,2,3,4,5,6,7,8] (by kernel_rfl) ?_;try simp -implicitDefEqProofs (maxSteps:=2000000) [*, -h,aj,ah,ae,ai,ak,au,af,Op.operands,Call.operands])
      |(with_reducible (first|(replace h:=bC (by assumption) h)|(replace h:=bD (by assumption) h)|(replace h:=aY (by assumption) h)|(replace h:=aZ (by assumption) h)))
      |((with_reducible have hh:=aB h);clear h;rcases hh with⟨hc,h⟩|⟨hc,h⟩<;>have hd:=hc<;>(first|(replace hc:=dA hc)|(replace hc:=dB hc)|skip)<;>(try simp at hd)<;>(first|exact absurd hd (of_eq_false (by assumption))|exact absurd (of_eq_true (by assumption)) hd|skip)<;>(try(first|(subst hd)|(replace hd:=bG hd)|(replace hd:=eq_false hd)|(replace hd:=eq_true hd)))<;>(try simp -implicitDefEqProofs (maxSteps:=2000000) [*, -h,aj,ah,ae,ai,ak,au,af,Op.operands,Call.operands]))
      |(with_reducible replace h:=aL h)
      | ((with_reducible have hh:=Option.bind_eq_some_iff.1 h);clear h;obtain⟨x_,hx_,h⟩:=hh;(first|(refine aC (lu (h:=hx_)) rfl rfl rfl ?_ ?_ ?_ ?_;(·simp[*]);(·simp[*]);(·constructor<;>simp);clear hx_;try simp -implicitDefEqProofs (maxSteps:=2000000) [*, -h,aj,ah,ae,ai,ak,au,af,Op.operands,Call.operands])|(refine bI (lu (h:=hx_)) rfl rfl rfl ?_ ?_ ?_ ?_ ?_;(·simp[*]);(·simp[*]);(·constructor<;>simp);(·rfl);clear hx_;try simp -implicitDefEqProofs (maxSteps:=2000000) [*, -h,aj,ah,ae,ai,ak,au,af,Op.operands,Call.operands])|(refine aC (aO (h:=hx_)) rfl rfl rfl ?_ ?_ ?_ ?_;(·simp[*]);(·simp[*]);(·constructor<;>simp);clear hx_;try simp -implicitDefEqProofs (maxSteps:=2000000) [*, -h,aj,ah,ae,ai,ak,au,af,Op.operands,Call.operands])|(refine bI (aO (h:=hx_)) rfl rfl rfl ?_ ?_ ?_ ?_ ?_;(·simp[*]);(·simp[*]);(·constructor<;>simp);(·rfl);clear hx_;try simp -implicitDefEqProofs (maxSteps:=2000000) [*, -h,aj,ah,ae,ai,ak,au,af,Op.operands,Call.operands]))
         )
      |(refine⟨(by first|exact aP (by assumption) (by decide) (by decide)|exact aN (by assumption) (by decide) (by decide)), ?_⟩;try simp -implicitDefEqProofs (maxSteps:=2000000) [*, -h,aj,ah,ae,ai,ak,au,af,Op.operands,Call.operands])
      |(cases h;done)
      |(cases h;refine ed _ rfl ?_;constructor<;>simp[*]<;>exact az (by omega) (by omega) (by simp))
      |(exfalso;clear h;simp_all;done)
  exact ku [true,true,false,false,true,true,true,true,true,true,true,true,true] [(500,123)] (a:=(_,_,_)) (by omega) h (by constructor<;>simp[idR,mkT])
set_option maxRecDepth 20000 in
set_option maxHeartbeats 4000000 in
theorem qV (k:Nat) (e:List Int) (g:Int) (r:(List (S41))×Int) (h:dY.f k e g=some r):uL Try.prog 35 [.c (.ptr 0 0 0)] [(0,some (rdB e g))] (.c (.t (tC r.1))) [(0,some (rdB e (r.2)))]:=by
  unfold dY.f at h
  try simp only[aF,aG,aD,aH,aI,aJ]at h
  refine bF Try.func35 rfl rfl rfl ?_
  try simp -implicitDefEqProofs (maxSteps:=2000000)
  repeat' first
    |(show ek _ _ 10 _ _ _ _;refine aT (by decide) [[], [0], [], [], [2,3], [4,2,3], [1,5,4,0,2,3], [0,1,2,3,4,5,6], [7,6,0,1,2,3,4,5]] [30,31,32,33,34,35,36,37,0] [0,1,2,3,4,5,6,7,8] (by kernel_rfl) ?_;try simp -implicitDefEqProofs (maxSteps:=2000000) [*, -h,aj,ah,ae,ai,ak,au,af,Op.operands,Call.operands])
    |(with_reducible (first|(replace h:=bC (by assumption) h)|(replace h:=bD (by assumption) h)|(replace h:=aY (by assumption) h)|(replace h:=aZ (by assumption) h)))
    |((with_reducible have hh:=aB h);clear h;rcases hh with⟨hc,h⟩|⟨hc,h⟩<;>have hd:=hc<;>(first|(replace hc:=dA hc)|(replace hc:=dB hc)|skip)<;>(try simp at hd)<;>(first|exact absurd hd (of_eq_false (by assumption))|exact absurd (of_eq_true (by assumption)) hd|skip)<;>(try(first|(subst hd)|(replace hd:=bG hd)|(replace hd:=eq_false hd)|(replace hd:=eq_true hd)))<;>(try simp -implicitDefEqProofs (maxSteps:=2000000) [*, -h,aj,ah,ae,ai,ak,au,af,Op.operands,Call.operands]))
    |(with_reducible replace h:=aL h)
    | ((with_reducible have hh:=Option.bind_eq_some_iff.1 h);clear h;obtain⟨x_,hx_,h⟩:=hh;(first|(refine aC (aO (h:=hx_)) rfl rfl rfl ?_ ?_ ?_ ?_;(·simp[*]);(·simp[*]);(·constructor<;>simp);clear hx_;try simp -implicitDefEqProofs (maxSteps:=2000000) [*, -h,aj,ah,ae,ai,ak,au,af,Op.operands,Call.operands])|(refine bI (aO (h:=hx_)) rfl rfl rfl ?_ ?_ ?_ ?_ ?_;(·simp[*]);(·simp[*]);(·constructor<;>simp);(·rfl);clear hx_;try simp -implicitDefEqProofs (maxSteps:=2000000) [*, -h,aj,ah,ae,ai,ak,au,af,Op.operands,Call.operands])|(refine aC (lu (h:=hx_)) rfl rfl rfl ?_ ?_ ?_ ?_;(·simp[*]);(·simp[*]);(·constructor<;>simp);clear hx_;try simp -implicitDefEqProofs (maxSteps:=2000000) [*, -h,aj,ah,ae,ai,ak,au,af,Op.operands,Call.operands])|(refine bI (lu (h:=hx_)) rfl rfl rfl ?_ ?_ ?_ ?_ ?_;(·simp[*]);(·simp[*]);(·constructor<;>simp);(·rfl);clear hx_;try simp -implicitDefEqProofs (maxSteps:=2000000) [*, -h,aj,ah,ae,ai,ak,au,af,Op.operands,Call.operands]))
       )
    |(refine⟨(by first|exact aP (by assumption) (by decide) (by decide)|exact aN (by assumption) (by decide) (by decide)), ?_⟩;try simp -implicitDefEqProofs (maxSteps:=2000000) [*, -h,aj,ah,ae,ai,ak,au,af,Op.operands,Call.operands])
    |(cases h;done)
    |(cases h;refine ed _ rfl ?_;constructor<;>simp[*]<;>exact az (by omega) (by omega) (by simp))
    |(exfalso;clear h;simp_all;done)
  refine Ht 112 rfl rfl ?_
  try simp -implicitDefEqProofs (maxSteps:=2000000)
  refine tu [true,false,true,true,true,true,false,false,true,true,true,true,true,true,true] (fun a=> [(4, .c (.own 500 2 a.2.1.length)),(5, .i a.1)]) (fun(a:Int×List S41×Int)=> [(0,some (rdB e a.2.2)),(500,some (.row 41 2 a.2.1.length (fl z41 eC a.2.1))),(114,none)]) (fun n a=>dY.l0 n _ a.2.1 a.1 _ a.2.2=some _) [(500,114)] (b0:=(2, [⟨-1, []⟩,⟨0, [1]⟩],x_.2)) h (by constructor<;>simp[idR,mkT]<;>exact IV (en:=eC) (d:=z41) [⟨-1, []⟩,⟨0, [1]⟩] rfl rfl) ?_
  clear h;rintro k ⟨c,out,p⟩ hk h
  obtain⟨k,rfl⟩:=aM (f:=fun k=>dY.l0 k _ _ _ _ _) (by simp only[dY.l0]) h
  simp only[dY.l0]at h
  try simp -implicitDefEqProofs (maxSteps:=2000000)
  repeat' first
      |(show ek _ _ 10 _ _ _ _;refine aT (by decide) [[], [0], [], [], [2,3], [4,2,3], [1,5,4,0,2,3], [0,1,2,3,4,5,6], [7,6,0,1,2,3,4,5]] [30,31,32,33,34,35,36,37,0] [0,1,2,3,4,5,6,7,8] (by kernel_rfl) ?_;try simp -implicitDefEqProofs (maxSteps:=2000000) [*, -h,aj,ah,ae,ai,ak,au,af,Op.operands,Call.operands])
      |(with_reducible (first|(replace h:=bC (by assumption) h)|(replace h:=bD (by assumption) h)|(replace h:=aY (by assumption) h)|(replace h:=aZ (by assumption) h)))
      |((with_reducible have hh:=aB h);clear h;rcases hh with⟨hc,h⟩|⟨hc,h⟩<;>have hd:=hc<;>(first|(replace hc:=dA hc)|(replace hc:=dB hc)|skip)<;>(try simp at hd)<;>(first|exact absurd hd (of_eq_false (by assumption))|exact absurd (of_eq_true (by assumption)) hd|skip)<;>(try(first|(subst hd)|(replace hd:=bG hd)|(replace hd:=eq_false hd)|(replace hd:=eq_true hd)))<;>(try simp -implicitDefEqProofs (maxSteps:=2000000) [*, -h,aj,ah,ae,ai,ak,au,af,Op.operands,Call.operands]))
      |(with_reducible replace h:=aL h)
      | ((with_reducible have hh:=Option.bind_eq_some_iff.1 h);clear h;obtain⟨x_,hx_,h⟩:=hh;(first|(refine aC (aO (h:=hx_)) rfl rfl rfl ?_ ?_ ?_ ?_;(·simp[*]);(·simp[*]);(·constructor<;>simp);clear hx_;try simp -implicitDefEqProofs (maxSteps:=2000000) [*, -h,aj,ah,ae,ai,ak,au,af,Op.operands,Call.operands])|(refine bI (aO (h:=hx_)) rfl rfl rfl ?_ ?_ ?_ ?_ ?_;(·simp[*]);(·simp[*]);(·constructor<;>simp);(·rfl);clear hx_;try simp -implicitDefEqProofs (maxSteps:=2000000) [*, -h,aj,ah,ae,ai,ak,au,af,Op.operands,Call.operands])|(refine aC (lu (h:=hx_)) rfl rfl rfl ?_ ?_ ?_ ?_;(·simp[*]);(·simp[*]);(·constructor<;>simp);clear hx_;try simp -implicitDefEqProofs (maxSteps:=2000000) [*, -h,aj,ah,ae,ai,ak,au,af,Op.operands,Call.operands])|(refine bI (lu (h:=hx_)) rfl rfl rfl ?_ ?_ ?_ ?_ ?_;(·simp[*]);(·simp[*]);(·constructor<;>simp);(·rfl);clear hx_;try simp -implicitDefEqProofs (maxSteps:=2000000) [*, -h,aj,ah,ae,ai,ak,au,af,Op.operands,Call.operands]))
         )
      |(refine⟨(by first|exact aP (by assumption) (by decide) (by decide)|exact aN (by assumption) (by decide) (by decide)), ?_⟩;try simp -implicitDefEqProofs (maxSteps:=2000000) [*, -h,aj,ah,ae,ai,ak,au,af,Op.operands,Call.operands])
      |(cases h;done)
      |(cases h;refine ed _ rfl ?_;constructor<;>simp[*]<;>exact az (by omega) (by omega) (by simp))
      |(exfalso;clear h;simp_all;done)
  rename_i y_
  refine tu [true,false,true,true,true,true,true,true,true,true,true,true,true,true,true,true,true,true,false,false,true,true,true,true,true,true] (fun a=> [(7, .i a.1)]) (fun(a:Int×List Int×Int)=> [(0,some (rdB e a.2.2)),(501,some (.row 3 1 a.2.1.length (fl 0 ei a.2.1))),(106,some (.box 41 [.t (.i y_.1), .own 501 1 a.2.1.length]))]) (fun n a=>dY.l1 n _ _ _ a.1 _ a.2.2 _ a.2.1=some _) [] (b0:=(x_.1, [],x_.2)) h (by constructor<;>simp[idR,mkT]) ?_
  clear h;rintro k ⟨i,fs,p⟩ hk h
  obtain⟨k,rfl⟩:=aM (f:=fun k=>dY.l1 k _ _ _ _ _ _ _ _) (by simp only[dY.l1]) h
  simp only[dY.l1]at h
  try simp -implicitDefEqProofs (maxSteps:=2000000)
  repeat' first
      |(show ek _ _ 10 _ _ _ _;refine aT (by decide) [[], [0], [], [], [2,3], [4,2,3], [1,5,4,0,2,3], [0,1,2,3,4,5,6], [7,6,0,1,2,3,4,5]] [30,31,32,33,34,35,36,37,0] [0,1,2,3,4,5,6,7,8] (by kernel_rfl) ?_;try simp -implicitDefEqProofs (maxSteps:=2000000) [*, -h,aj,ah,ae,ai,ak,au,af,Op.operands,Call.operands])
      |(with_reducible (first|(replace h:=bC (by assumption) h)|(replace h:=bD (by assumption) h)|(replace h:=aY (by assumption) h)|(replace h:=aZ (by assumption) h)))
      |((with_reducible have hh:=aB h);clear h;rcases hh with⟨hc,h⟩|⟨hc,h⟩<;>have hd:=hc<;>(first|(replace hc:=dA hc)|(replace hc:=dB hc)|skip)<;>(try simp at hd)<;>(first|exact absurd hd (of_eq_false (by assumption))|exact absurd (of_eq_true (by assumption)) hd|skip)<;>(try(first|(subst hd)|(replace hd:=bG hd)|(replace hd:=eq_false hd)|(replace hd:=eq_true hd)))<;>(try simp -implicitDefEqProofs (maxSteps:=2000000) [*, -h,aj,ah,ae,ai,ak,au,af,Op.operands,Call.operands]))
      |(with_reducible replace h:=aL h)
      | ((with_reducible have hh:=Option.bind_eq_some_iff.1 h);clear h;obtain⟨x_,hx_,h⟩:=hh;(first|(refine aC (aO (h:=hx_)) rfl rfl rfl ?_ ?_ ?_ ?_;(·simp[*]);(·simp[*]);(·constructor<;>simp);clear hx_;try simp -implicitDefEqProofs (maxSteps:=2000000) [*, -h,aj,ah,ae,ai,ak,au,af,Op.operands,Call.operands])|(refine bI (aO (h:=hx_)) rfl rfl rfl ?_ ?_ ?_ ?_ ?_;(·simp[*]);(·simp[*]);(·constructor<;>simp);(·rfl);clear hx_;try simp -implicitDefEqProofs (maxSteps:=2000000) [*, -h,aj,ah,ae,ai,ak,au,af,Op.operands,Call.operands])|(refine aC (lu (h:=hx_)) rfl rfl rfl ?_ ?_ ?_ ?_;(·simp[*]);(·simp[*]);(·constructor<;>simp);clear hx_;try simp -implicitDefEqProofs (maxSteps:=2000000) [*, -h,aj,ah,ae,ai,ak,au,af,Op.operands,Call.operands])|(refine bI (lu (h:=hx_)) rfl rfl rfl ?_ ?_ ?_ ?_ ?_;(·simp[*]);(·simp[*]);(·constructor<;>simp);(·rfl);clear hx_;try simp -implicitDefEqProofs (maxSteps:=2000000) [*, -h,aj,ah,ae,ai,ak,au,af,Op.operands,Call.operands]))
         )
      |(refine⟨(by first|exact aP (by assumption) (by decide) (by decide)|exact aN (by assumption) (by decide) (by decide)), ?_⟩;try simp -implicitDefEqProofs (maxSteps:=2000000) [*, -h,aj,ah,ae,ai,ak,au,af,Op.operands,Call.operands])
      |(cases h;done)
      |(cases h;refine ed _ rfl ?_;constructor<;>simp[*]<;>exact az (by omega) (by omega) (by simp))
      |(exfalso;clear h;simp_all;done)
  ·exact ku [true,false,true,true,true,true,true,true,true,true,true,true,true,true,true,true,true,true,false,false,true,true,true,true,true,true] [(501,136)] (a:=(_,_,_)) (by omega) h (by constructor<;>simp[idR,mkT])
  · refine Ht 501 rfl rfl ?_
    try simp -implicitDefEqProofs (maxSteps:=2000000)
    repeat' first
        |(show ek _ _ 10 _ _ _ _;refine aT (by decide) [[], [0], [], [], [2,3], [4,2,3], [1,5,4,0,2,3], [0,1,2,3,4,5,6], [7,6,0,1,2,3,4,5]] [30,31,32,33,34,35,36,37,0] [0,1,2,3,4,5,6,7,8] (by kernel_rfl) ?_;try simp -implicitDefEqProofs (maxSteps:=2000000) [*, -h,aj,ah,ae,ai,ak,au,af,Op.operands,Call.operands])
        |(with_reducible (first|(replace h:=bC (by assumption) h)|(replace h:=bD (by assumption) h)|(replace h:=aY (by assumption) h)|(replace h:=aZ (by assumption) h)))
        |((with_reducible have hh:=aB h);clear h;rcases hh with⟨hc,h⟩|⟨hc,h⟩<;>have hd:=hc<;>(first|(replace hc:=dA hc)|(replace hc:=dB hc)|skip)<;>(try simp at hd)<;>(first|exact absurd hd (of_eq_false (by assumption))|exact absurd (of_eq_true (by assumption)) hd|skip)<;>(try(first|(subst hd)|(replace hd:=bG hd)|(replace hd:=eq_false hd)|(replace hd:=eq_true hd)))<;>(try simp -implicitDefEqProofs (maxSteps:=2000000) [*, -h,aj,ah,ae,ai,ak,au,af,Op.operands,Call.operands]))
        |(with_reducible replace h:=aL h)
        | ((with_reducible have hh:=Option.bind_eq_some_iff.1 h);clear h;obtain⟨x_,hx_,h⟩:=hh;(first|(refine aC (aO (h:=hx_)) rfl rfl rfl ?_ ?_ ?_ ?_;(·simp[*]);(·simp[*]);(·constructor<;>simp);clear hx_;try simp -implicitDefEqProofs (maxSteps:=2000000) [*, -h,aj,ah,ae,ai,ak,au,af,Op.operands,Call.operands])|(refine bI (aO (h:=hx_)) rfl rfl rfl ?_ ?_ ?_ ?_ ?_;(·simp[*]);(·simp[*]);(·constructor<;>simp);(·rfl);clear hx_;try simp -implicitDefEqProofs (maxSteps:=2000000) [*, -h,aj,ah,ae,ai,ak,au,af,Op.operands,Call.operands])|(refine aC (lu (h:=hx_)) rfl rfl rfl ?_ ?_ ?_ ?_;(·simp[*]);(·simp[*]);(·constructor<;>simp);clear hx_;try simp -implicitDefEqProofs (maxSteps:=2000000) [*, -h,aj,ah,ae,ai,ak,au,af,Op.operands,Call.operands])|(refine bI (lu (h:=hx_)) rfl rfl rfl ?_ ?_ ?_ ?_ ?_;(·simp[*]);(·simp[*]);(·constructor<;>simp);(·rfl);clear hx_;try simp -implicitDefEqProofs (maxSteps:=2000000) [*, -h,aj,ah,ae,ai,ak,au,af,Op.operands,Call.operands]))
           )
        |(refine⟨(by first|exact aP (by assumption) (by decide) (by decide)|exact aN (by assumption) (by decide) (by decide)), ?_⟩;try simp -implicitDefEqProofs (maxSteps:=2000000) [*, -h,aj,ah,ae,ai,ak,au,af,Op.operands,Call.operands])
        |(cases h;done)
        |(cases h;refine ed _ rfl ?_;constructor<;>simp[*]<;>exact az (by omega) (by omega) (by simp))
        |(exfalso;clear h;simp_all;done)
    exact ku [true,false,true,true,true,true,false,false,true,true,true,true,true,true,true] [(500,141)] (a:=(_,_,_)) (by omega) h (by constructor<;>simp[idR,mkT])
end Go.Proofs.Ytojpejfcafbafaa.V
end
section
namespace Go.Proofs.Ytojpejfcafbafaa.V
open Go Go.RowKit Go.Proofs.Ytojpejfcafbafaa.P
set_option linter.unusedVariables false
set_option linter.unusedSimpArgs false
attribute [local simp ↓] eG eH fQ fT eO dM fZ eP eQ gm gp gq dN dO dP gB gz gG gF dQ bW dV cz dJ dR eT eU eX
attribute [local simp] fU fV dK bR eF dL bS bT bU bV bM bN dS eY dU bX bY bZ cu bO fD lM iL dz iw evl dI eZ fu kD iX List.range List.range.loop lT kX fo fB iC iA Bs.live Bs.get lN WkV WkA WkC lg lH kY lD cZ iM TEq.refl bg fH qQ aF aG aD aH aI aJ ei d9 splice dE Bs.set kU fC Rn.at gu gy iF iD lL chunks lC fP toT fE iE rowsOf cB ik plR plV plC lF lI lQ lh fI iR lU
attribute [local simp] List.length_pos_iff qR qU iG iH iI puts dh
attribute [local simp ←] ig
attribute [local simp] wu wL wO wN wM ksL ru ksV rV ksC ksT ren kr rO rH dw tZ uf ug qY qZ rf bsC wF bsV vJ uo uX uY uq ut uu uw sO sP sQ sS sU r9 sV fF dW dx iW iB iO iQ lS rG closedB iT kP kG kH kJ kL iJ kN
attribute [local simp] ag3 un3 sz3 in3 by3 ze3 ct3 zt3 zu3 ag4 un4 sz4 in4 by4 ze4 ct4 zt4 zu4 ag5 un5 sz5 in5 by5 ze5 ct5 zt5 zu5 mi mq mD mE mF mG mH mI mJ io3 mK io5 bo4 mM mO mP mQ mR mU mV mW mX mY mZ ng ni nk nu ny nz nA nC nD nE nG nH nI nJ nK nL nM nN nO nP nQ nR nS nT nU nV nW nX nY nZ oh ol om oo oq ou ow oz oC oD oF oG oH oI oJ oK oL oM oN oO oP oQ oU oV oW oZ o6 o7 o8 iZ ja jb jc jd je jf jg jh ji jk jl jm jo jq jr jv jw jy jA o9 pg pu pz pE pF pG pI pJ pK jB jC jD jE jF jG jH jI jJ jK jL jM jN jO jP jQ jR jS jT jU jV jW jX jY jZ kg ko mz gH gI gJ gK gL gN gP gQ gT gU gV gW gX gY gZ ib pO pQ pR pU pV pW pX pY p9 qa qb qc qd qf qg qh qi qj ql qm qo qp qw qx qy qz qA qB qC qD qE qF qG qH qI qJ qK qL qM qN qO qP mix
attribute [local simp] eb eC eI eS eK eM nm
set_option maxRecDepth 20000 in
set_option maxHeartbeats 4000000 in
theorem rF (k:Nat) (d:List Int) (e:Int) (l1:List (S41)) (r:(List (S35))×Int) (h:aQ.f k d e l1=some r):uL Try.prog 36 [.c (.ptr 0 0 0), .c (.t (tC l1))] [(0,some (rdB d e))] (.c (.own 900 8 (r.1).length)) [(0,some (rdB d (r.2))),(900,some (.row 35 8 (r.1).length (fl z35 eM (r.1))))]:=by
  unfold aQ.f at h
  try simp only[aF,aG,aD,aH,aI,aJ]at h
  refine bF Try.func36 rfl rfl rfl ?_
  try simp -implicitDefEqProofs (maxSteps:=2000000)
  repeat' first
    |(show ek _ _ 17 _ _ _ _;refine aT (by decide) [[], [], [1], [2,1], [0,3,2,1], [], [5], [4,6,0,3,2,1,5], [7,4,6,0,3,2,1,5], [0,1,2,3,4,5,6,7,8], [9,8,6,0,1,2,3,4,5,7]] [61,62,63,64,65,66,67,68,69,70,0] [0,1,2,3,4,5,6,7,8,9,10] (by kernel_rfl) ?_;try simp -implicitDefEqProofs (maxSteps:=2000000) [*, -h,aj,ah,ae,ai,ak,au,af,Op.operands,Call.operands])
    |(show ek _ _ 22 _ _ _ _;refine aT (by decide) [[], [0], [1,0], [2,1,0], [3,1,2,0], [4,1,3,2,0], [5,4,1,3,2,0], [5,4,1,3,2,0], [6,7,5,4,1,3,2,0], [8,5,6,7,4,1,3,2,0], [9,5,8,6,7,4,1,3,2,0], [5,4,1,3,2,0], [11,5,4,1,3,2,0], [10,12,5,9,8,6,7,4,1,3,2,0,11], [5,13,1,4,3,2,0,10,12,9,8,6,7,11], [14,5,1,13,4,3,2,0,10,12,9,8,6,7,11], [15,14,5,1,13,4,3,2,0,10,12,9,8,6,7,11], [15,14,5,1,13,4,3,2,0,10,12,9,8,6,7,11], [16,17,15,14,5,1,13,4,3,2,0,10,12,9,8,6,7,11], [18,15,16,17,14,5,1,13,4,3,2,0,10,12,9,8,6,7,11], [19,15,18,16,17,14,5,1,13,4,3,2,0,10,12,9,8,6,7,11], [15,14,5,1,13,4,3,2,0,10,12,9,8,6,7,11], [21,15,14,5,1,13,4,3,2,0,10,12,9,8,6,7,11], [20,22,15,19,18,16,17,14,5,1,13,4,3,2,0,10,12,9,8,6,7,11,21], [15,23,1,14,5,13,4,3,2,0,10,12,9,8,6,7,11,20,22,19,18,16,17,21], [1,24,0,15,23,14,5,13,4,3,2,10,12,9,8,6,7,11,20,22,19,18,16,17,21], [25,15,0,1,2,3,4,5,6,7,8,9,10,11,12,13,14,16,17,18,19,20,21,22,23,24]] [77,78,79,80,81,82,83,84,85,86,87,88,89,90,91,92,93,94,95,96,97,98,99,100,101,102,12] [0,1,2,3,4,5,6,7,8,9,10,11,12,13,14,15,16,17,18,19,20,21,22,23,24,25,26] (by kernel_rfl) ?_;try simp -implicitDefEqProofs (maxSteps:=2000000) [*, -h,aj,ah,ae,ai,ak,au,af,Op.operands,Call.operands])
    |(with_reducible (first|(replace h:=bC (by assumption) h)|(replace h:=bD (by assumption) h)|(replace h:=aY (by assumption) h)|(replace h:=aZ (by assumption) h)))
    |((with_reducible have hh:=aB h);clear h;rcases hh with⟨hc,h⟩|⟨hc,h⟩<;>have hd:=hc<;>(first|(replace hc:=dA hc)|(replace hc:=dB hc)|skip)<;>(try simp at hd)<;>(first|exact absurd hd (of_eq_false (by assumption))|exact absurd (of_eq_true (by assumption)) hd|skip)<;>(try(first|(subst hd)|(replace hd:=bG hd)|(replace hd:=eq_false hd)|(replace hd:=eq_true hd)))<;>(try simp -implicitDefEqProofs (maxSteps:=2000000) [*, -h,aj,ah,ae,ai,ak,au,af,Op.operands,Call.operands]))
    |(with_reducible replace h:=aL h)
    | ((with_reducible have hh:=Option.bind_eq_some_iff.1 h);clear h;obtain⟨x_,hx_,h⟩:=hh;(first|(refine aC (rU (h:=hx_)) rfl rfl rfl ?_ ?_ ?_ ?_;(·simp[*]);(·simp[*]);(·constructor<;>simp);clear hx_;try simp -implicitDefEqProofs (maxSteps:=2000000) [*, -h,aj,ah,ae,ai,ak,au,af,Op.operands,Call.operands])|(refine bI (rU (h:=hx_)) rfl rfl rfl ?_ ?_ ?_ ?_ ?_;(·simp[*]);(·simp[*]);(·constructor<;>simp);(·rfl);clear hx_;try simp -implicitDefEqProofs (maxSteps:=2000000) [*, -h,aj,ah,ae,ai,ak,au,af,Op.operands,Call.operands])|(refine aC (aO (h:=hx_)) rfl rfl rfl ?_ ?_ ?_ ?_;(·simp[*]);(·simp[*]);(·constructor<;>simp);clear hx_;try simp -implicitDefEqProofs (maxSteps:=2000000) [*, -h,aj,ah,ae,ai,ak,au,af,Op.operands,Call.operands])|(refine bI (aO (h:=hx_)) rfl rfl rfl ?_ ?_ ?_ ?_ ?_;(·simp[*]);(·simp[*]);(·constructor<;>simp);(·rfl);clear hx_;try simp -implicitDefEqProofs (maxSteps:=2000000) [*, -h,aj,ah,ae,ai,ak,au,af,Op.operands,Call.operands]))
       )
    |(obtain⟨k,rfl⟩:=aM (f:=fun k=>aQ.j0 k _ _ _ _ _ _ _ _ _ _ _ _ _) (by simp only[aQ.j0]) h;simp only[aQ.j0]at h;try simp only[aF,aG,aD,aH,aI,aJ,beq_iff_eq,decide_eq_true_eq]at h)
    |(obtain⟨k,rfl⟩:=aM (f:=fun k=>aQ.j1 k _ _ _ _ _ _ _ _ _ _ _ _ _ _) (by simp only[aQ.j1]) h;simp only[aQ.j1]at h;try simp only[aF,aG,aD,aH,aI,aJ,beq_iff_eq,decide_eq_true_eq]at h)
    |(refine⟨(by first|exact aP (by assumption) (by decide) (by decide)|exact aN (by assumption) (by decide) (by decide)), ?_⟩;try simp -implicitDefEqProofs (maxSteps:=2000000) [*, -h,aj,ah,ae,ai,ak,au,af,Op.operands,Call.operands])
    |(cases h;done)
    |(cases h;refine ed _ rfl ?_;constructor<;>simp[*]<;>exact az (by omega) (by omega) (by simp))
    |(exfalso;clear h;simp_all;done)
  refine xk [true,true,false,false,true,true,true,true,true,false,false,false,false,false,true,true,true,true,true,true,true,true,true,true,true,true,true,true,true,true,true,true,true] (fun a=> [(7, .c (.own 500 8 a.2.1.length)),(8, .i a.1)]) (fun(a:Int×List S35×Int)=> [(0,some (rdB d a.2.2)),(500,some (.row 35 8 a.2.1.length (fl z35 eM a.2.1))),(130,none)]) (fun n a=>aQ.l0 n a.1 a.2.1 _ a.2.2 _ _=some _) [(500,130)] (b0:=(_,_,_)) h (by constructor<;>simp[idR,mkT]) ?_
  clear h;rintro k ⟨i,out,p⟩ hk h
  obtain⟨k,rfl⟩:=aM (f:=fun k=>aQ.l0 k _ _ _ _ _ _) (by simp only[aQ.l0]) h
  simp only[aQ.l0]at h
  generalize hsg: [_,_,_]=sg at h
  have hsl:sg.length=3:=by rw[←hsg];rfl
  clear hsg
  try simp only[aF,aG,aD,aH,aI,aJ,hsl]at h
  refine xU (uZ ?_)
  rcases aB h with⟨hc,h⟩|⟨hc,h⟩
  · simp -implicitDefEqProofs (maxSteps:=2000000) [*, -h,qY,qZ,rf]
    refine xU (K5 ?_)
    refine xU (uZ ?_)
    simp -implicitDefEqProofs (maxSteps:=2000000) [*, -h,qY,qZ,rf]
    have hh:=Option.bind_eq_some_iff.1 h;clear h;obtain⟨x_,hx_,h⟩:=hh
    refine aC (rU (h:=hx_)) rfl rfl rfl ?_ ?_ ?_ ?_
    ·simp[*]
    ·simp[*]
    ·constructor<;>simp
    clear hx_
    simp -implicitDefEqProofs (maxSteps:=2000000) [*, -h,qY,qZ,rf]
    refine xU (uZ ?_)
    simp -implicitDefEqProofs (maxSteps:=2000000) [*, -h,qY,qZ,rf]
    refine Be [true,true,false,false,true,true,true,true,true,true,false,false,false,false,true,true,true,true,true,true,true,true,true,true,true,true,true,true,true,true,true,true,true] (fun _=> []) (fun(a:Int×Int×Int×List Int×Int×List S67×List S69×List S73)=> [(0,some (rdB d a.1)),(109,some (.box 35 [.t (.i a.2.1), .t (.i a.2.2.1), .t (.ints a.2.2.2.1), .t (.i a.2.2.2.2.1), .dead, .t (tI a.2.2.2.2.2.1), .t (tS a.2.2.2.2.2.2.1), .t (tK a.2.2.2.2.2.2.2)]))]) (fun a=>aQ.j0 k i out d a.1 (l1.length:Int) sg a.2.1 a.2.2.1 a.2.2.2.1 a.2.2.2.2.1 a.2.2.2.2.2.1 a.2.2.2.2.2.2.1 a.2.2.2.2.2.2.2=some r) (uZ ?_) ?_
    · simp -implicitDefEqProofs (maxSteps:=2000000) [*, -h,tZ,uf,ug,qY,qZ,rf]
      repeat' first
          |(show ek _ _ 17 _ _ _ _;refine aT (by decide) [[], [], [1], [2,1], [0,3,2,1], [], [5], [4,6,0,3,2,1,5], [7,4,6,0,3,2,1,5], [0,1,2,3,4,5,6,7,8], [9,8,6,0,1,2,3,4,5,7]] [61,62,63,64,65,66,67,68,69,70,0] [0,1,2,3,4,5,6,7,8,9,10] (by kernel_rfl) ?_;try simp -implicitDefEqProofs (maxSteps:=2000000) [*, -h,aj,ah,ae,ai,ak,au,af,Op.operands,Call.operands])
          |(show ek _ _ 22 _ _ _ _;refine aT (by decide) [[], [0], [1,0], [2,1,0], [3,1,2,0], [4,1,3,2,0], [5,4,1,3,2,0], [5,4,1,3,2,0], [6,7,5,4,1,3,2,0], [8,5,6,7,4,1,3,2,0], [9,5,8,6,7,4,1,3,2,0], [5,4,1,3,2,0], [11,5,4,1,3,2,0], [10,12,5,9,8,6,7,4,1,3,2,0,11], [5,13,1,4,3,2,0,10,12,9,8,6,7,11], [14,5,1,13,4,3,2,0,10,12,9,8,6,7,11], [15,14,5,1,13,4,3,2,0,10,12,9,8,6,7,11], [15,14,5,1,13,4,3,2,0,10,12,9,8,6,7,11], [16,17,15,14,5,1,13,4,3,2,0,10,12,9,8,6,7,11], [18,15,16,17,14,5,1,13,4,3,2,0,10,12,9,8,6,7,11], [19,15,18,16,17,14,5,1,13,4,3,2,0,10,12,9,8,6,7,11], [15,14,5,1,13,4,3,2,0,10,12,9,8,6,7,11], [21,15,14,5,1,13,4,3,2,0,10,12,9,8,6,7,11], [20,22,15,19,18,16,17,14,5,1,13,4,3,2,0,10,12,9,8,6,7,11,21], [15,23,1,14,5,13,4,3,2,0,10,12,9,8,6,7,11,20,22,19,18,16,17,21], [1,24,0,15,23,14,5,13,4,3,2,10,12,9,8,6,7,11,20,22,19,18,16,17,21], [25,15,0,1,2,3,4,5,6,7,8,9,10,11,12,13,14,16,17,18,19,20,21,22,23,24]] [77,78,79,80,81,82,83,84,85,86,87,88,89,90,91,92,93,94,95,96,97,98,99,100,101,102,12] [0,1,2,3,4,5,6,7,8,9,10,11,12,13,14,15,16,17,18,19,20,21,22,23,24,25,26] (by kernel_rfl) ?_;try simp -implicitDefEqProofs (maxSteps:=2000000) [*, -h,aj,ah,ae,ai,ak,au,af,Op.operands,Call.operands])
          |(with_reducible (first|(replace h:=bC (by assumption) h)|(replace h:=bD (by assumption) h)|(replace h:=aY (by assumption) h)|(replace h:=aZ (by assumption) h)))
          |((with_reducible have hh:=aB h);clear h;rcases hh with⟨hc,h⟩|⟨hc,h⟩<;>have hd:=hc<;>(first|(replace hc:=dA hc)|(replace hc:=dB hc)|skip)<;>(try simp at hd)<;>(first|exact absurd hd (of_eq_false (by assumption))|exact absurd (of_eq_true (by assumption)) hd|skip)<;>(try(first|(subst hd)|(replace hd:=bG hd)|(replace hd:=eq_false hd)|(replace hd:=eq_true hd)))<;>(try simp -implicitDefEqProofs (maxSteps:=2000000) [*, -h,aj,ah,ae,ai,ak,au,af,Op.operands,Call.operands]))
          |(with_reducible replace h:=aL h)
          | ((with_reducible have hh:=Option.bind_eq_some_iff.1 h);clear h;obtain⟨x_,hx_,h⟩:=hh;(first|(refine aC (rU (h:=hx_)) rfl rfl rfl ?_ ?_ ?_ ?_;(·simp[*]);(·simp[*]);(·constructor<;>simp);clear hx_;try simp -implicitDefEqProofs (maxSteps:=2000000) [*, -h,aj,ah,ae,ai,ak,au,af,Op.operands,Call.operands])|(refine bI (rU (h:=hx_)) rfl rfl rfl ?_ ?_ ?_ ?_ ?_;(·simp[*]);(·simp[*]);(·constructor<;>simp);(·rfl);clear hx_;try simp -implicitDefEqProofs (maxSteps:=2000000) [*, -h,aj,ah,ae,ai,ak,au,af,Op.operands,Call.operands])|(refine aC (aO (h:=hx_)) rfl rfl rfl ?_ ?_ ?_ ?_;(·simp[*]);(·simp[*]);(·constructor<;>simp);clear hx_;try simp -implicitDefEqProofs (maxSteps:=2000000) [*, -h,aj,ah,ae,ai,ak,au,af,Op.operands,Call.operands])|(refine bI (aO (h:=hx_)) rfl rfl rfl ?_ ?_ ?_ ?_ ?_;(·simp[*]);(·simp[*]);(·constructor<;>simp);(·rfl);clear hx_;try simp -implicitDefEqProofs (maxSteps:=2000000) [*, -h,aj,ah,ae,ai,ak,au,af,Op.operands,Call.operands]))
             )
          |(refine⟨(by first|exact aP (by assumption) (by decide) (by decide)|exact aN (by assumption) (by decide) (by decide)), ?_⟩;try simp -implicitDefEqProofs (maxSteps:=2000000) [*, -h,aj,ah,ae,ai,ak,au,af,Op.operands,Call.operands])
          |(cases h;done)
          |(cases h;refine ed _ rfl ?_;constructor<;>simp[*]<;>exact az (by omega) (by omega) (by simp))
          |(exfalso;clear h;simp_all;done)
      all_goals exact Bf [true,true,false,false,true,true,true,true,true,true,false,false,false,false,true,true,true,true,true,true,true,true,true,true,true,true,true,true,true,true,true,true,true] [] (a:=(_,_,_,_,_,_,_,_)) h (by constructor<;>simp[idR,mkT])
    clear h;rintro⟨p,m0,m1,m2,m3,m5,m6,m7⟩ h
    obtain⟨k,rfl⟩:=aM (f:=fun k=>aQ.j0 k _ _ _ _ _ _ _ _ _ _ _ _ _) (by simp only[aQ.j0]) h
    simp only[aQ.j0]at h
    simp only[puts,dh,List.set,dE,Bs.set]
    refine xU (uZ ?_)
    simp -implicitDefEqProofs (maxSteps:=2000000) [qY,qZ,rf]
    refine Be [true,true,false,false,true,true,true,true,true,true,false,true,false,false,true,true,true,true,true,true,true,true,true,true,true,true,true,true,true,true,true,true,true] (fun s=> [(11, .i s)]) (fun(_:Int)=> []) (fun s=>aQ.j1 k s i out d p (l1.length:Int) sg m0 m1 m2 m3 m5 m6 m7=some r) (uZ ?_) ?_
    · simp -implicitDefEqProofs (maxSteps:=2000000) [*, -h,tZ,uf,ug,qY,qZ,rf]
      repeat' first
          |(show ek _ _ 17 _ _ _ _;refine aT (by decide) [[], [], [1], [2,1], [0,3,2,1], [], [5], [4,6,0,3,2,1,5], [7,4,6,0,3,2,1,5], [0,1,2,3,4,5,6,7,8], [9,8,6,0,1,2,3,4,5,7]] [61,62,63,64,65,66,67,68,69,70,0] [0,1,2,3,4,5,6,7,8,9,10] (by kernel_rfl) ?_;try simp -implicitDefEqProofs (maxSteps:=2000000) [*, -h,aj,ah,ae,ai,ak,au,af,Op.operands,Call.operands])
          |(show ek _ _ 22 _ _ _ _;refine aT (by decide) [[], [0], [1,0], [2,1,0], [3,1,2,0], [4,1,3,2,0], [5,4,1,3,2,0], [5,4,1,3,2,0], [6,7,5,4,1,3,2,0], [8,5,6,7,4,1,3,2,0], [9,5,8,6,7,4,1,3,2,0], [5,4,1,3,2,0], [11,5,4,1,3,2,0], [10,12,5,9,8,6,7,4,1,3,2,0,11], [5,13,1,4,3,2,0,10,12,9,8,6,7,11], [14,5,1,13,4,3,2,0,10,12,9,8,6,7,11], [15,14,5,1,13,4,3,2,0,10,12,9,8,6,7,11], [15,14,5,1,13,4,3,2,0,10,12,9,8,6,7,11], [16,17,15,14,5,1,13,4,3,2,0,10,12,9,8,6,7,11], [18,15,16,17,14,5,1,13,4,3,2,0,10,12,9,8,6,7,11], [19,15,18,16,17,14,5,1,13,4,3,2,0,10,12,9,8,6,7,11], [15,14,5,1,13,4,3,2,0,10,12,9,8,6,7,11], [21,15,14,5,1,13,4,3,2,0,10,12,9,8,6,7,11], [20,22,15,19,18,16,17,14,5,1,13,4,3,2,0,10,12,9,8,6,7,11,21], [15,23,1,14,5,13,4,3,2,0,10,12,9,8,6,7,11,20,22,19,18,16,17,21], [1,24,0,15,23,14,5,13,4,3,2,10,12,9,8,6,7,11,20,22,19,18,16,17,21], [25,15,0,1,2,3,4,5,6,7,8,9,10,11,12,13,14,16,17,18,19,20,21,22,23,24]] [77,78,79,80,81,82,83,84,85,86,87,88,89,90,91,92,93,94,95,96,97,98,99,100,101,102,12] [0,1,2,3,4,5,6,7,8,9,10,11,12,13,14,15,16,17,18,19,20,21,22,23,24,25,26] (by kernel_rfl) ?_;try simp -implicitDefEqProofs (maxSteps:=2000000) [*, -h,aj,ah,ae,ai,ak,au,af,Op.operands,Call.operands])
          |(with_reducible (first|(replace h:=bC (by assumption) h)|(replace h:=bD (by assumption) h)|(replace h:=aY (by assumption) h)|(replace h:=aZ (by assumption) h)))
          |((with_reducible have hh:=aB h);clear h;rcases hh with⟨hc,h⟩|⟨hc,h⟩<;>have hd:=hc<;>(first|(replace hc:=dA hc)|(replace hc:=dB hc)|skip)<;>(try simp at hd)<;>(first|exact absurd hd (of_eq_false (by assumption))|exact absurd (of_eq_true (by assumption)) hd|skip)<;>(try(first|(subst hd)|(replace hd:=bG hd)|(replace hd:=eq_false hd)|(replace hd:=eq_true hd)))<;>(try simp -implicitDefEqProofs (maxSteps:=2000000) [*, -h,aj,ah,ae,ai,ak,au,af,Op.operands,Call.operands]))
          |(with_reducible replace h:=aL h)
          | ((with_reducible have hh:=Option.bind_eq_some_iff.1 h);clear h;obtain⟨x_,hx_,h⟩:=hh;(first|(refine aC (rU (h:=hx_)) rfl rfl rfl ?_ ?_ ?_ ?_;(·simp[*]);(·simp[*]);(·constructor<;>simp);clear hx_;try simp -implicitDefEqProofs (maxSteps:=2000000) [*, -h,aj,ah,ae,ai,ak,au,af,Op.operands,Call.operands])|(refine bI (rU (h:=hx_)) rfl rfl rfl ?_ ?_ ?_ ?_ ?_;(·simp[*]);(·simp[*]);(·constructor<;>simp);(·rfl);clear hx_;try simp -implicitDefEqProofs (maxSteps:=2000000) [*, -h,aj,ah,ae,ai,ak,au,af,Op.operands,Call.operands])|(refine aC (aO (h:=hx_)) rfl rfl rfl ?_ ?_ ?_ ?_;(·simp[*]);(·simp[*]);(·constructor<;>simp);clear hx_;try simp -implicitDefEqProofs (maxSteps:=2000000) [*, -h,aj,ah,ae,ai,ak,au,af,Op.operands,Call.operands])|(refine bI (aO (h:=hx_)) rfl rfl rfl ?_ ?_ ?_ ?_ ?_;(·simp[*]);(·simp[*]);(·constructor<;>simp);(·rfl);clear hx_;try simp -implicitDefEqProofs (maxSteps:=2000000) [*, -h,aj,ah,ae,ai,ak,au,af,Op.operands,Call.operands]))
             )
          |(refine⟨(by first|exact aP (by assumption) (by decide) (by decide)|exact aN (by assumption) (by decide) (by decide)), ?_⟩;try simp -implicitDefEqProofs (maxSteps:=2000000) [*, -h,aj,ah,ae,ai,ak,au,af,Op.operands,Call.operands])
          |(cases h;done)
          |(cases h;refine ed _ rfl ?_;constructor<;>simp[*]<;>exact az (by omega) (by omega) (by simp))
          |(exfalso;clear h;simp_all;done)
      all_goals exact Bf [true,true,false,false,true,true,true,true,true,true,false,true,false,false,true,true,true,true,true,true,true,true,true,true,true,true,true,true,true,true,true,true,true] [] h (by constructor<;>simp[idR,mkT])
    clear h;rintro s h
    obtain⟨k,rfl⟩:=aM (f:=fun k=>aQ.j1 k _ _ _ _ _ _ _ _ _ _ _ _ _ _) (by simp only[aQ.j1]) h
    simp only[aQ.j1]at h
    simp only[puts,dh,List.set,dE,Bs.set]
    refine uZ ?_
    simp -implicitDefEqProofs (maxSteps:=2000000) [tZ,uf,ug,qY,qZ,rf]
    repeat' first
        |(show ek _ _ 17 _ _ _ _;refine aT (by decide) [[], [], [1], [2,1], [0,3,2,1], [], [5], [4,6,0,3,2,1,5], [7,4,6,0,3,2,1,5], [0,1,2,3,4,5,6,7,8], [9,8,6,0,1,2,3,4,5,7]] [61,62,63,64,65,66,67,68,69,70,0] [0,1,2,3,4,5,6,7,8,9,10] (by kernel_rfl) ?_;try simp -implicitDefEqProofs (maxSteps:=2000000) [*, -h,aj,ah,ae,ai,ak,au,af,Op.operands,Call.operands])
        |(show ek _ _ 22 _ _ _ _;refine aT (by decide) [[], [0], [1,0], [2,1,0], [3,1,2,0], [4,1,3,2,0], [5,4,1,3,2,0], [5,4,1,3,2,0], [6,7,5,4,1,3,2,0], [8,5,6,7,4,1,3,2,0], [9,5,8,6,7,4,1,3,2,0], [5,4,1,3,2,0], [11,5,4,1,3,2,0], [10,12,5,9,8,6,7,4,1,3,2,0,11], [5,13,1,4,3,2,0,10,12,9,8,6,7,11], [14,5,1,13,4,3,2,0,10,12,9,8,6,7,11], [15,14,5,1,13,4,3,2,0,10,12,9,8,6,7,11], [15,14,5,1,13,4,3,2,0,10,12,9,8,6,7,11], [16,17,15,14,5,1,13,4,3,2,0,10,12,9,8,6,7,11], [18,15,16,17,14,5,1,13,4,3,2,0,10,12,9,8,6,7,11], [19,15,18,16,17,14,5,1,13,4,3,2,0,10,12,9,8,6,7,11], [15,14,5,1,13,4,3,2,0,10,12,9,8,6,7,11], [21,15,14,5,1,13,4,3,2,0,10,12,9,8,6,7,11], [20,22,15,19,18,16,17,14,5,1,13,4,3,2,0,10,12,9,8,6,7,11,21], [15,23,1,14,5,13,4,3,2,0,10,12,9,8,6,7,11,20,22,19,18,16,17,21], [1,24,0,15,23,14,5,13,4,3,2,10,12,9,8,6,7,11,20,22,19,18,16,17,21], [25,15,0,1,2,3,4,5,6,7,8,9,10,11,12,13,14,16,17,18,19,20,21,22,23,24]] [77,78,79,80,81,82,83,84,85,86,87,88,89,90,91,92,93,94,95,96,97,98,99,100,101,102,12] [0,1,2,3,4,5,6,7,8,9,10,11,12,13,14,15,16,17,18,19,20,21,22,23,24,25,26] (by kernel_rfl) ?_;try simp -implicitDefEqProofs (maxSteps:=2000000) [*, -h,aj,ah,ae,ai,ak,au,af,Op.operands,Call.operands])
        |(with_reducible (first|(replace h:=bC (by assumption) h)|(replace h:=bD (by assumption) h)|(replace h:=aY (by assumption) h)|(replace h:=aZ (by assumption) h)))
        |((with_reducible have hh:=aB h);clear h;rcases hh with⟨hc,h⟩|⟨hc,h⟩<;>have hd:=hc<;>(first|(replace hc:=dA hc)|(replace hc:=dB hc)|skip)<;>(try simp at hd)<;>(first|exact absurd hd (of_eq_false (by assumption))|exact absurd (of_eq_true (by assumption)) hd|skip)<;>(try(first|(subst hd)|(replace hd:=bG hd)|(replace hd:=eq_false hd)|(replace hd:=eq_true hd)))<;>(try simp -implicitDefEqProofs (maxSteps:=2000000) [*, -h,aj,ah,ae,ai,ak,au,af,Op.operands,Call.operands]))
        |(with_reducible replace h:=aL h)
        | ((with_reducible have hh:=Option.bind_eq_some_iff.1 h);clear h;obtain⟨x_,hx_,h⟩:=hh;(first|(refine aC (rU (h:=hx_)) rfl rfl rfl ?_ ?_ ?_ ?_;(·simp[*]);(·simp[*]);(·constructor<;>simp);clear hx_;try simp -implicitDefEqProofs (maxSteps:=2000000) [*, -h,aj,ah,ae,ai,ak,au,af,Op.operands,Call.operands])|(refine bI (rU (h:=hx_)) rfl rfl rfl ?_ ?_ ?_ ?_ ?_;(·simp[*]);(·simp[*]);(·constructor<;>simp);(·rfl);clear hx_;try simp -implicitDefEqProofs (maxSteps:=2000000) [*, -h,aj,ah,ae,ai,ak,au,af,Op.operands,Call.operands])|(refine aC (aO (h:=hx_)) rfl rfl rfl ?_ ?_ ?_ ?_;(·simp[*]);(·simp[*]);(·constructor<;>simp);clear hx_;try simp -implicitDefEqProofs (maxSteps:=2000000) [*, -h,aj,ah,ae,ai,ak,au,af,Op.operands,Call.operands])|(refine bI (aO (h:=hx_)) rfl rfl rfl ?_ ?_ ?_ ?_ ?_;(·simp[*]);(·simp[*]);(·constructor<;>simp);(·rfl);clear hx_;try simp -implicitDefEqProofs (maxSteps:=2000000) [*, -h,aj,ah,ae,ai,ak,au,af,Op.operands,Call.operands]))
           )
        |(refine⟨(by first|exact aP (by assumption) (by decide) (by decide)|exact aN (by assumption) (by decide) (by decide)), ?_⟩;try simp -implicitDefEqProofs (maxSteps:=2000000) [*, -h,aj,ah,ae,ai,ak,au,af,Op.operands,Call.operands])
        |(cases h;done)
        |(cases h;refine ed _ rfl ?_;constructor<;>simp[*]<;>exact az (by omega) (by omega) (by simp))
        |(exfalso;clear h;simp_all;done)
    refine xk [true,true,false,false,true,true,true,true,true,true,true,true,true,true,true,true,true,true,true,true,true,true,true,true,true,true,true,true,true,true,true,true,true,true,true,false,false,true,true,true,true,true,true,true,true,true,true,true,true,true,true,true,true,true,true,true,true,true,true,true,true,true,true,true,true,true,true,true,true,true,true] (fun a=> [(12, .b a.1),(13, .i a.2)]) (fun(_:Bool×Int)=> []) (fun n a=>aQ.l1 n a.1 a.2 i out d _ (l1.length:Int) sg m0 m1 m2 m3 _ m5 m6 m7=some r) [] (b0:=(false,0)) h (by constructor<;>simp[idR,mkT]) ?_
    clear h;rintro k ⟨ag,q⟩ hk h
    obtain⟨k,rfl⟩:=aM (f:=fun k=>aQ.l1 k _ _ _ _ _ _ _ _ _ _ _ _ _ _ _ _) (by simp only[aQ.l1]) h
    simp only[aQ.l1]at h
    try simp only[aF,aG,aD,aH,aI,aJ]at h
    refine uZ ?_
    simp -implicitDefEqProofs (maxSteps:=2000000) [tZ,uf,ug,qY,qZ,rf]
    repeat' first
        |(show ek _ _ 17 _ _ _ _;refine aT (by decide) [[], [], [1], [2,1], [0,3,2,1], [], [5], [4,6,0,3,2,1,5], [7,4,6,0,3,2,1,5], [0,1,2,3,4,5,6,7,8], [9,8,6,0,1,2,3,4,5,7]] [61,62,63,64,65,66,67,68,69,70,0] [0,1,2,3,4,5,6,7,8,9,10] (by kernel_rfl) ?_;try simp -implicitDefEqProofs (maxSteps:=2000000) [*, -h,aj,ah,ae,ai,ak,au,af,Op.operands,Call.operands])
        |(show ek _ _ 22 _ _ _ _;refine aT (by decide) [[], [0], [1,0], [2,1,0], [3,1,2,0], [4,1,3,2,0], [5,4,1,3,2,0], [5,4,1,3,2,0], [6,7,5,4,1,3,2,0], [8,5,6,7,4,1,3,2,0], [9,5,8,6,7,4,1,3,2,0], [5,4,1,3,2,0], [11,5,4,1,3,2,0], [10,12,5,9,8,6,7,4,1,3,2,0,11], [5,13,1,4,3,2,0,10,12,9,8,6,7,11], [14,5,1,13,4,3,2,0,10,12,9,8,6,7,11], [15,14,5,1,13,4,3,2,0,10,12,9,8,6,7,11], [15,14,5,1,13,4,3,2,0,10,12,9,8,6,7,11], [16,17,15,14,5,1,13,4,3,2,0,10,12,9,8,6,7,11], [18,15,16,17,14,5,1,13,4,3,2,0,10,12,9,8,6,7,11], [19,15,18,16,17,14,5,1,13,4,3,2,0,10,12,9,8,6,7,11], [15,14,5,1,13,4,3,2,0,10,12,9,8,6,7,11], [21,15,14,5,1,13,4,3,2,0,10,12,9,8,6,7,11], [20,22,15,19,18,16,17,14,5,1,13,4,3,2,0,10,12,9,8,6,7,11,21], [15,23,1,14,5,13,4,3,2,0,10,12,9,8,6,7,11,20,22,19,18,16,17,21], [1,24,0,15,23,14,5,13,4,3,2,10,12,9,8,6,7,11,20,22,19,18,16,17,21], [25,15,0,1,2,3,4,5,6,7,8,9,10,11,12,13,14,16,17,18,19,20,21,22,23,24]] [77,78,79,80,81,82,83,84,85,86,87,88,89,90,91,92,93,94,95,96,97,98,99,100,101,102,12] [0,1,2,3,4,5,6,7,8,9,10,11,12,13,14,15,16,17,18,19,20,21,22,23,24,25,26] (by kernel_rfl) ?_;try simp -implicitDefEqProofs (maxSteps:=2000000) [*, -h,aj,ah,ae,ai,ak,au,af,Op.operands,Call.operands])
        |(with_reducible (first|(replace h:=bC (by assumption) h)|(replace h:=bD (by assumption) h)|(replace h:=aY (by assumption) h)|(replace h:=aZ (by assumption) h)))
        |((with_reducible have hh:=aB h);clear h;rcases hh with⟨hc,h⟩|⟨hc,h⟩<;>have hd:=hc<;>(first|(replace hc:=dA hc)|(replace hc:=dB hc)|skip)<;>(try simp at hd)<;>(first|exact absurd hd (of_eq_false (by assumption))|exact absurd (of_eq_true (by assumption)) hd|skip)<;>(try(first|(subst hd)|(replace hd:=bG hd)|(replace hd:=eq_false hd)|(replace hd:=eq_true hd)))<;>(try simp -implicitDefEqProofs (maxSteps:=2000000) [*, -h,aj,ah,ae,ai,ak,au,af,Op.operands,Call.operands]))
        |(with_reducible replace h:=aL h)
        | ((with_reducible have hh:=Option.bind_eq_some_iff.1 h);clear h;obtain⟨x_,hx_,h⟩:=hh;(first|(refine aC (rU (h:=hx_)) rfl rfl rfl ?_ ?_ ?_ ?_;(·simp[*]);(·simp[*]);(·constructor<;>simp);clear hx_;try simp -implicitDefEqProofs (maxSteps:=2000000) [*, -h,aj,ah,ae,ai,ak,au,af,Op.operands,Call.operands])|(refine bI (rU (h:=hx_)) rfl rfl rfl ?_ ?_ ?_ ?_ ?_;(·simp[*]);(·simp[*]);(·constructor<;>simp);(·rfl);clear hx_;try simp -implicitDefEqProofs (maxSteps:=2000000) [*, -h,aj,ah,ae,ai,ak,au,af,Op.operands,Call.operands])|(refine aC (aO (h:=hx_)) rfl rfl rfl ?_ ?_ ?_ ?_;(·simp[*]);(·simp[*]);(·constructor<;>simp);clear hx_;try simp -implicitDefEqProofs (maxSteps:=2000000) [*, -h,aj,ah,ae,ai,ak,au,af,Op.operands,Call.operands])|(refine bI (aO (h:=hx_)) rfl rfl rfl ?_ ?_ ?_ ?_ ?_;(·simp[*]);(·simp[*]);(·constructor<;>simp);(·rfl);clear hx_;try simp -implicitDefEqProofs (maxSteps:=2000000) [*, -h,aj,ah,ae,ai,ak,au,af,Op.operands,Call.operands]))
           )
        |(refine⟨(by first|exact aP (by assumption) (by decide) (by decide)|exact aN (by assumption) (by decide) (by decide)), ?_⟩;try simp -implicitDefEqProofs (maxSteps:=2000000) [*, -h,aj,ah,ae,ai,ak,au,af,Op.operands,Call.operands])
        |(cases h;done)
        |(cases h;refine ed _ rfl ?_;constructor<;>simp[*]<;>exact az (by omega) (by omega) (by simp))
        |(exfalso;clear h;simp_all;done)
    all_goals first
      |(refine ku [true,true,false,false,true,true,true,true,true,true,true,true,true,true,true,true,true,true,true,true,true,true,true,true,true,true,true,true,true,true,true,true,true,true,true,false,false,true,true,true,true,true,true,true,true,true,true,true,true,true,true,true,true,true,true,true,true,true,true,true,true,true,true,true,true,true,true,true,true,true,true] [] (a:=(_,_)) (by omega) h ?_;(constructor<;>simp[idR,mkT]);done)
      | (refine uZ ?_
         simp -implicitDefEqProofs (maxSteps:=2000000)
         first
           |(refine ku [true,true,false,false,true,true,true,true,true,false,false,false,false,false,true,true,true,true,true,true,true,true,true,true,true,true,true,true,true,true,true,true,true] [] (a:=(_,_,_)) (by omega) h ?_;(constructor<;>simp[idR,mkT]);done)
           |(refine ku [true,true,false,false,true,true,true,true,true,false,false,false,false,false,true,true,true,true,true,true,true,true,true,true,true,true,true,true,true,true,true,true,true] [(500,208)] (a:=(_,_,_)) (by omega) h ?_;(constructor<;>simp[idR,mkT]);done))
  · simp -implicitDefEqProofs (maxSteps:=2000000) [*, -h,qY,qZ,rf]
    cases h;refine ed _ rfl ?_;constructor<;>simp[*]
end Go.Proofs.Ytojpejfcafbafaa.V
end
section
namespace Go.Proofs.Ytojpejfcafbafaa.V
open Go Go.RowKit Go.Proofs.Ytojpejfcafbafaa.P
set_option linter.unusedVariables false
set_option linter.unusedSimpArgs false
attribute [local simp ↓] eG eH fQ fT eO dM fZ eP eQ gm gp gq dN dO dP gB gz gG gF dQ bW dV cz dJ dR eT eU eX
attribute [local simp] fU fV dK bR eF dL bS bT bU bV bM bN dS eY dU bX bY bZ cu bO fD lM iL dz iw evl dI eZ fu kD iX List.range List.range.loop lT kX fo fB iC iA Bs.live Bs.get lN WkV WkA WkC lg lH kY lD cZ iM TEq.refl bg fH qQ aF aG aD aH aI aJ ei d9 splice dE Bs.set kU fC Rn.at gu gy iF iD lL chunks lC fP toT fE iE rowsOf cB ik plR plV plC lF lI lQ lh fI iR lU
attribute [local simp] List.length_pos_iff qR qU iG iH iI puts dh
attribute [local simp ←] ig
attribute [local simp] ksL ru ksV rV ksC ksT ren kr rO rH dw sO sP sQ sS sU r9 sV fF dW dx iW iB iO iQ lS rG closedB iT kP kG kH kJ kL iJ kN
attribute [local simp] ag3 un3 sz3 in3 by3 ze3 ct3 zt3 zu3 ag4 un4 sz4 in4 by4 ze4 ct4 zt4 zu4 ag5 un5 sz5 in5 by5 ze5 ct5 zt5 zu5 mi mq mD mE mF mG mH mI mJ io3 mK io5 bo4 mM mO mP mQ mR mU mV mW mX mY mZ ng ni nk nu ny nz nA nC nD nE nG nH nI nJ nK nL nM nN nO nP nQ nR nS nT nU nV nW nX nY nZ oh ol om oo oq ou ow oz oC oD oF oG oH oI oJ oK oL oM oN oO oP oQ oU oV oW oZ o6 o7 o8 iZ ja jb jc jd je jf jg jh ji jk jl jm jo jq jr jv jw jy jA o9 pg pu pz pE pF pG pI pJ pK jB jC jD jE jF jG jH jI jJ jK jL jM jN jO jP jQ jR jS jT jU jV jW jX jY jZ kg ko mz gH gI gJ gK gL gN gP gQ gT gU gV gW gX gY gZ ib pO pQ pR pU pV pW pX pY p9 qa qb qc qd qf qg qh qi qj ql qm qo qp qw qx qy qz qA qB qC qD qE qF qG qH qI qJ qK qL qM qN qO qP mix
attribute [local simp] eb eC eI eS eK eM nm
set_option maxRecDepth 20000 in
set_option maxHeartbeats 4000000 in
theorem mf (k:Nat) (d:List (S41)) (e:List (S35)) (g:Int) (j:Int) (m:List Int) (o:Int) (p:Int) (q:List (S67)) (u:List (S69)) (v:List (S73)) (r:List (S69)×Bool) (h:dX.f k d e g j m o p q u v=some r):iU Try.prog 38 [.agg [.t (tC d), .t (tM e)], .agg [.t (.i g), .t (.i j), .t (.ints m), .t (.i o), .t (.i p), .t (tI q), .t (tS u), .t (tK v)]] (.tup [.c (.t (tS (r.1))), .c (.t (.b r.2))]):=by
  unfold dX.f at h
  try simp only[aF,aG,aD,aH,aI,aJ]at h
  refine bF Try.func38 rfl rfl rfl ?_
  try simp -implicitDefEqProofs (maxSteps:=2000000)
  repeat' first
    |(show ek _ _ 8 _ _ _ _;refine aT (by decide) [[], [0], [1,0], [2,1,0], [1,0], [1,0], [5,1,0], [1,0], [6,7,1,5,0], [8,1,6,7,5,0], [3,4,9,1,2,0,8,6,7,5], [10,1,3,4,9,2,0,8,6,7,5], [1,11,0,10,3,4,9,2,8,6,7,5]] [28,29,30,31,32,33,34,35,36,37,38,39,40] [0,1,2,3,4,5,6,7,8,9,10,11,12] (by kernel_rfl) ?_;try simp -implicitDefEqProofs (maxSteps:=2000000) [*, -h,aj,ah,ae,ai,ak,au,af,Op.operands,Call.operands])
    |(with_reducible (first|(replace h:=bC (by assumption) h)|(replace h:=bD (by assumption) h)|(replace h:=aY (by assumption) h)|(replace h:=aZ (by assumption) h)))
    |((with_reducible have hh:=aB h);clear h;rcases hh with⟨hc,h⟩|⟨hc,h⟩<;>have hd:=hc<;>(first|(replace hc:=dA hc)|(replace hc:=dB hc)|skip)<;>(try simp at hd)<;>(try(first|(subst hd)|(replace hd:=bG hd)|(replace hd:=eq_false hd)|(replace hd:=eq_true hd)))<;>(try simp -implicitDefEqProofs (maxSteps:=2000000) [*, -h,aj,ah,ae,ai,ak,au,af,Op.operands,Call.operands]))
    |(with_reducible replace h:=aL h)
    | ((with_reducible have hh:=Option.bind_eq_some_iff.1 h);clear h;obtain⟨x_,hx_,h⟩:=hh;(first|(refine av (uK (h:=hx_)) rfl rfl ?_ ⟨rfl,rfl⟩ ?_;(·simp[*]);clear hx_;try simp -implicitDefEqProofs (maxSteps:=2000000) [*, -h,aj,ah,ae,ai,ak,au,af,Op.operands,Call.operands])|(refine bf (uK (h:=hx_)) rfl rfl ?_ ⟨rfl,rfl⟩ rfl ?_;(·simp[*]);clear hx_;try simp -implicitDefEqProofs (maxSteps:=2000000) [*, -h,aj,ah,ae,ai,ak,au,af,Op.operands,Call.operands])|(refine av (uC (h:=hx_)) rfl rfl ?_ ⟨rfl,rfl⟩ ?_;(·simp[*]);clear hx_;try simp -implicitDefEqProofs (maxSteps:=2000000) [*, -h,aj,ah,ae,ai,ak,au,af,Op.operands,Call.operands])|(refine bf (uC (h:=hx_)) rfl rfl ?_ ⟨rfl,rfl⟩ rfl ?_;(·simp[*]);clear hx_;try simp -implicitDefEqProofs (maxSteps:=2000000) [*, -h,aj,ah,ae,ai,ak,au,af,Op.operands,Call.operands])|(refine av (sN (h:=hx_)) rfl rfl ?_ ⟨rfl,rfl⟩ ?_;(·simp[*]);clear hx_;try simp -implicitDefEqProofs (maxSteps:=2000000) [*, -h,aj,ah,ae,ai,ak,au,af,Op.operands,Call.operands])|(refine bf (sN (h:=hx_)) rfl rfl ?_ ⟨rfl,rfl⟩ rfl ?_;(·simp[*]);clear hx_;try simp -implicitDefEqProofs (maxSteps:=2000000) [*, -h,aj,ah,ae,ai,ak,au,af,Op.operands,Call.operands])|(refine av (wy (h:=hx_)) rfl rfl ?_ ⟨rfl,rfl⟩ ?_;(·simp[*]);clear hx_;try simp -implicitDefEqProofs (maxSteps:=2000000) [*, -h,aj,ah,ae,ai,ak,au,af,Op.operands,Call.operands])|(refine bf (wy (h:=hx_)) rfl rfl ?_ ⟨rfl,rfl⟩ rfl ?_;(·simp[*]);clear hx_;try simp -implicitDefEqProofs (maxSteps:=2000000) [*, -h,aj,ah,ae,ai,ak,au,af,Op.operands,Call.operands])|(refine av (sM (h:=hx_)) rfl rfl ?_ ⟨rfl,rfl⟩ ?_;(·simp[*]);clear hx_;try simp -implicitDefEqProofs (maxSteps:=2000000) [*, -h,aj,ah,ae,ai,ak,au,af,Op.operands,Call.operands])|(refine bf (sM (h:=hx_)) rfl rfl ?_ ⟨rfl,rfl⟩ rfl ?_;(·simp[*]);clear hx_;try simp -implicitDefEqProofs (maxSteps:=2000000) [*, -h,aj,ah,ae,ai,ak,au,af,Op.operands,Call.operands])|(refine av (iN (h:=hx_)) rfl rfl ?_ ⟨rfl,rfl⟩ ?_;(·simp[*]);clear hx_;try simp -implicitDefEqProofs (maxSteps:=2000000) [*, -h,aj,ah,ae,ai,ak,au,af,Op.operands,Call.operands])|(refine bf (iN (h:=hx_)) rfl rfl ?_ ⟨rfl,rfl⟩ rfl ?_;(·simp[*]);clear hx_;try simp -implicitDefEqProofs (maxSteps:=2000000) [*, -h,aj,ah,ae,ai,ak,au,af,Op.operands,Call.operands]))
       )
    |(obtain⟨k,rfl⟩:=aM (f:=fun k=>dX.j0 k _ _ _ _ _ _ _ _ _ _ _ _ _ _ _ _) (by simp only[dX.j0]) h;simp only[dX.j0]at h;try simp only[aF,aG,aD,aH,aI,aJ]at h)
    |(refine⟨(by first|exact aP (by assumption) (by decide) (by decide)|exact aN (by assumption) (by decide) (by decide)), ?_⟩;try simp -implicitDefEqProofs (maxSteps:=2000000) [*, -h,aj,ah,ae,ai,ak,au,af,Op.operands,Call.operands])
    |(cases h;done)
    |(cases h;refine aV _ ?_ ⟨rfl,rfl⟩;simp[*]<;>exact az (by omega) (by omega) (by simp))
  refine tu [true,true,true,true,false,false,true,true,true,true,false,false,true,true,true] (fun a=> [(6, .c (.own 500 3 a.2.1.length)),(8, .b a.2.2.2),(9, .i a.1)]) (fun(a:Int×List S69×S69×Bool)=> [(500,some (.row 69 3 a.2.1.length (fl z69 eS a.2.1))),(112,none),(107,some (.box 69 [.t (.b a.2.2.1.f0), .t (.ints a.2.2.1.f1), .t (.ints a.2.2.1.f2)]))]) (fun n a=>dX.l0 n a.1 a.2.1 a.2.2.1.f0 a.2.2.1.f1 a.2.2.1.f2 a.2.2.2 _ _ _ _ _ _ _ _ _ _=some _) [(500,112)] (b0:=(0, [],⟨x_.1,x_.2.1,x_.2.2⟩,true)) h (by constructor<;>simp[idR,mkT]) ?_
  clear h;rintro k ⟨at_,out,⟨s0,s1,s2⟩,comes⟩ hk h
  obtain⟨k,rfl⟩:=aM (f:=fun k=>dX.l0 k _ _ _ _ _ _ _ _ _ _ _ _ _ _ _ _) (by simp only[dX.l0]) h
  simp only[dX.l0]at h
  try simp only[aF,aG,aD,aH,aI,aJ]at h
  try simp -implicitDefEqProofs (maxSteps:=2000000)
  repeat' first
      |(show ek _ _ 8 _ _ _ _;refine aT (by decide) [[], [0], [1,0], [2,1,0], [1,0], [1,0], [5,1,0], [1,0], [6,7,1,5,0], [8,1,6,7,5,0], [3,4,9,1,2,0,8,6,7,5], [10,1,3,4,9,2,0,8,6,7,5], [1,11,0,10,3,4,9,2,8,6,7,5]] [28,29,30,31,32,33,34,35,36,37,38,39,40] [0,1,2,3,4,5,6,7,8,9,10,11,12] (by kernel_rfl) ?_;try simp -implicitDefEqProofs (maxSteps:=2000000) [*, -h,aj,ah,ae,ai,ak,au,af,Op.operands,Call.operands])
      |(with_reducible (first|(replace h:=bC (by assumption) h)|(replace h:=bD (by assumption) h)|(replace h:=aY (by assumption) h)|(replace h:=aZ (by assumption) h)))
      |((with_reducible have hh:=aB h);clear h;rcases hh with⟨hc,h⟩|⟨hc,h⟩<;>have hd:=hc<;>(first|(replace hc:=dA hc)|(replace hc:=dB hc)|skip)<;>(try simp at hd)<;>(try(first|(subst hd)|(replace hd:=bG hd)|(replace hd:=eq_false hd)|(replace hd:=eq_true hd)))<;>(try simp -implicitDefEqProofs (maxSteps:=2000000) [*, -h,aj,ah,ae,ai,ak,au,af,Op.operands,Call.operands]))
      |(with_reducible replace h:=aL h)
      | ((with_reducible have hh:=Option.bind_eq_some_iff.1 h);clear h;obtain⟨x_,hx_,h⟩:=hh;(first|(refine av (uK (h:=hx_)) rfl rfl ?_ ⟨rfl,rfl⟩ ?_;(·simp[*]);clear hx_;try simp -implicitDefEqProofs (maxSteps:=2000000) [*, -h,aj,ah,ae,ai,ak,au,af,Op.operands,Call.operands])|(refine bf (uK (h:=hx_)) rfl rfl ?_ ⟨rfl,rfl⟩ rfl ?_;(·simp[*]);clear hx_;try simp -implicitDefEqProofs (maxSteps:=2000000) [*, -h,aj,ah,ae,ai,ak,au,af,Op.operands,Call.operands])|(refine av (uC (h:=hx_)) rfl rfl ?_ ⟨rfl,rfl⟩ ?_;(·simp[*]);clear hx_;try simp -implicitDefEqProofs (maxSteps:=2000000) [*, -h,aj,ah,ae,ai,ak,au,af,Op.operands,Call.operands])|(refine bf (uC (h:=hx_)) rfl rfl ?_ ⟨rfl,rfl⟩ rfl ?_;(·simp[*]);clear hx_;try simp -implicitDefEqProofs (maxSteps:=2000000) [*, -h,aj,ah,ae,ai,ak,au,af,Op.operands,Call.operands])|(refine av (sN (h:=hx_)) rfl rfl ?_ ⟨rfl,rfl⟩ ?_;(·simp[*]);clear hx_;try simp -implicitDefEqProofs (maxSteps:=2000000) [*, -h,aj,ah,ae,ai,ak,au,af,Op.operands,Call.operands])|(refine bf (sN (h:=hx_)) rfl rfl ?_ ⟨rfl,rfl⟩ rfl ?_;(·simp[*]);clear hx_;try simp -implicitDefEqProofs (maxSteps:=2000000) [*, -h,aj,ah,ae,ai,ak,au,af,Op.operands,Call.operands])|(refine av (wy (h:=hx_)) rfl rfl ?_ ⟨rfl,rfl⟩ ?_;(·simp[*]);clear hx_;try simp -implicitDefEqProofs (maxSteps:=2000000) [*, -h,aj,ah,ae,ai,ak,au,af,Op.operands,Call.operands])|(refine bf (wy (h:=hx_)) rfl rfl ?_ ⟨rfl,rfl⟩ rfl ?_;(·simp[*]);clear hx_;try simp -implicitDefEqProofs (maxSteps:=2000000) [*, -h,aj,ah,ae,ai,ak,au,af,Op.operands,Call.operands])|(refine av (sM (h:=hx_)) rfl rfl ?_ ⟨rfl,rfl⟩ ?_;(·simp[*]);clear hx_;try simp -implicitDefEqProofs (maxSteps:=2000000) [*, -h,aj,ah,ae,ai,ak,au,af,Op.operands,Call.operands])|(refine bf (sM (h:=hx_)) rfl rfl ?_ ⟨rfl,rfl⟩ rfl ?_;(·simp[*]);clear hx_;try simp -implicitDefEqProofs (maxSteps:=2000000) [*, -h,aj,ah,ae,ai,ak,au,af,Op.operands,Call.operands])|(refine av (iN (h:=hx_)) rfl rfl ?_ ⟨rfl,rfl⟩ ?_;(·simp[*]);clear hx_;try simp -implicitDefEqProofs (maxSteps:=2000000) [*, -h,aj,ah,ae,ai,ak,au,af,Op.operands,Call.operands])|(refine bf (iN (h:=hx_)) rfl rfl ?_ ⟨rfl,rfl⟩ rfl ?_;(·simp[*]);clear hx_;try simp -implicitDefEqProofs (maxSteps:=2000000) [*, -h,aj,ah,ae,ai,ak,au,af,Op.operands,Call.operands]))
         )
      |(obtain⟨k,rfl⟩:=aM (f:=fun k=>dX.j0 k _ _ _ _ _ _ _ _ _ _ _ _ _ _ _ _) (by simp only[dX.j0]) h;simp only[dX.j0]at h;try simp only[aF,aG,aD,aH,aI,aJ]at h)
      |(refine⟨(by first|exact aP (by assumption) (by decide) (by decide)|exact aN (by assumption) (by decide) (by decide)), ?_⟩;try simp -implicitDefEqProofs (maxSteps:=2000000) [*, -h,aj,ah,ae,ai,ak,au,af,Op.operands,Call.operands])
      |(cases h;done)
      |(cases h;refine aV _ ?_ ⟨rfl,rfl⟩;simp[*]<;>exact az (by omega) (by omega) (by simp))
  all_goals exact ku [true,true,true,true,false,false,true,true,true,true,false,false,true,true,true] [(500,154)] (a:=(_,_,⟨_,_,_⟩, !x_)) (by omega) h (by constructor<;>simp[idR,mkT])
end Go.Proofs.Ytojpejfcafbafaa.V
end
