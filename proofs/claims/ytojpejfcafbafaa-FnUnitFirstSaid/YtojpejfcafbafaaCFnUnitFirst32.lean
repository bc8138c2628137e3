/- A part of the claim FnUnitFirst. -/
import Derived.Test.YtojpejfcafbafaaCFnUnitFirst31
section
namespace Go.Proofs.Ytojpejfcafbafaa.V
open Go Go.RowKit Go.Proofs.Ytojpejfcafbafaa.P
set_option linter.unusedVariables false
set_option linter.unusedSimpArgs false
attribute [local simp ↓] eG eH fQ fT eO dM fZ eP eQ gm gp gq dN dO dP gB gz gG gF dQ bW dV cz dJ dR eT eU eX
attribute [local simp] fU fV dK bR eF dL bS bT bU bV bM bN dS eY dU bX bY bZ cu bO fD lM iL dz iw evl dI eZ fu kD iX List.range List.range.loop lT kX fo fB iC iA Bs.live Bs.get lN WkV WkA WkC lg lH kY lD cZ iM TEq.refl bg fH qQ aF aG aD aH aI aJ ei d9 splice dE Bs.set kU fC Rn.at gu gy iF iD lL chunks lC fP toT fE iE rowsOf cB ik plR plV plC lF lI lQ lh fI iR lU
attribute [local simp] List.length_pos_iff qR qU iG iH iI puts dh
attribute [local simp ←] ig
attribute [local simp] ksL ru ksV rV ksC ksT ren kr rO rH dw tZ uf ug qY qZ rf bsC wF bsV vJ uo uX uY uq ut uu uw sO sP sQ sS sU r9 sV fF dW dx iW iB iO iQ lS rG closedB iT kP kG kH kJ kL iJ kN
attribute [local simp] ag3 un3 sz3 in3 by3 ze3 ct3 zt3 zu3 ag4 un4 sz4 in4 by4 ze4 ct4 zt4 zu4 ag5 un5 sz5 in5 by5 ze5 ct5 zt5 zu5 mi mq mD mE mF mG mH mI mJ io3 mK io5 bo4 mM mO mP mQ mR mU mV mW mX mY mZ ng ni nk nu ny nz nA nC nD nE nG nH nI nJ nK nL nM nN nO nP nQ nR nS nT nU nV nW nX nY nZ oh ol om oo oq ou ow oz oC oD oF oG oH oI oJ oK oL oM oN oO oP oQ oU oV oW oZ o6 o7 o8 iZ ja jb jc jd je jf jg jh ji jk jl jm jo jq jr jv jw jy jA o9 pg pu pz pE pF pG pI pJ pK jB jC jD jE jF jG jH jI jJ jK jL jM jN jO jP jQ jR jS jT jU jV jW jX jY jZ kg ko mz gH gI gJ gK gL gN gP gQ gT gU gV gW gX gY gZ ib pO pQ pR pU pV pW pX pY p9 qa qb qc qd qf qg qh qi qj ql qm qo qp qw qx qy qz qA qB qC qD qE qF qG qH qI qJ qK qL qM qN qO qP mix
attribute [local simp] eb eC eI eS eK eM nm
set_option maxRecDepth 20000 in
set_option maxHeartbeats 4000000 in
theorem vO (k:Nat) (d:List Int) (A:Int) (g:List (S41)) (j:List (S35)) (m:Int) (o:Int) (u:List Int) (v:Int) (w:Int) (x:List (S67)) (y:List (S69)) (z:List (S73)) (a3:Int) (r:(List (S67))×List Int×Int) (h:ax.f k d A g j m o u v w x y z a3=some r):uL Try.prog 58 [.c (.ptr 0 0 0), .agg [.t (tC g), .t (tM j)], .agg [.t (.i m), .t (.i o), .t (.ints u), .t (.i v), .t (.i w), .t (tI x), .t (tS y), .t (tK z)], .i a3] [(0,some (rdB d A))] (.tup [.c (.own 900 3 (r.1).length), .c (.own 901 1 (r.2.1).length)]) [(0,some (rdB d (r.2.2))),(900,some (.row 67 3 (r.1).length (fl z67 eI (r.1)))),(901,some (.row 3 1 (r.2.1).length (fl 0 ei (r.2.1))))]:=by
  unfold ax.f at h
  try simp only[aF,aG,aD,aH,aI,aJ]at h
  refine bF Try.func58 rfl rfl rfl ?_
  try simp -implicitDefEqProofs (maxSteps:=2000000)
  repeat' first
    |(with_reducible (first|(replace h:=bC (by assumption) h)|(replace h:=bD (by assumption) h)|(replace h:=aY (by assumption) h)|(replace h:=aZ (by assumption) h)))
    |((with_reducible have hh:=aB h);clear h;rcases hh with⟨hc,h⟩|⟨hc,h⟩<;>have hd:=hc<;>(first|(replace hc:=dA hc)|(replace hc:=dB hc)|skip)<;>(try simp at hd)<;>(first|exact absurd hd (of_eq_false (by assumption))|exact absurd (of_eq_true (by assumption)) hd|skip)<;>(try(first|(subst hd)|(replace hd:=bG hd)|(replace hd:=eq_false hd)|(replace hd:=eq_true hd)))<;>(try simp -implicitDefEqProofs (maxSteps:=2000000) [*, -h]))
    |(with_reducible replace h:=aL h)
    | ((with_reducible have hh:=Option.bind_eq_some_iff.1 h);clear h;obtain⟨x_,hx_,h⟩:=hh;(first|(refine aC (aO (h:=hx_)) rfl rfl rfl ?_ ?_ ?_ ?_;(·simp[*]);(·simp[*]);(·constructor<;>simp);clear hx_;try simp -implicitDefEqProofs (maxSteps:=2000000) [*, -h])|(refine av (xH (h:=hx_)) rfl rfl ?_ ⟨rfl,rfl⟩ ?_;(·simp[*]);clear hx_;try simp -implicitDefEqProofs (maxSteps:=2000000) [*, -h])|(refine aC (uP (h:=hx_)) rfl rfl rfl ?_ ?_ ?_ ?_;(·simp[*]);(·simp[*]);(·constructor<;>simp);clear hx_;try simp -implicitDefEqProofs (maxSteps:=2000000) [*, -h])|(refine av (uO (h:=hx_)) rfl rfl ?_ ⟨rfl,rfl⟩ ?_;(·simp[*]);clear hx_;try simp -implicitDefEqProofs (maxSteps:=2000000) [*, -h])|(refine av (iN (h:=hx_)) rfl rfl ?_ ⟨rfl,rfl⟩ ?_;(·simp[*]);clear hx_;try simp -implicitDefEqProofs (maxSteps:=2000000) [*, -h]))
       )
    |(obtain⟨k,rfl⟩:=aM (f:=fun k=>ax.j0 k _ _ _ _ _ _ _ _ _ _ _ _ _ _ _ _ _ _ _) (by simp only[ax.j0]) h;simp only[ax.j0]at h;try simp only[aF,aG,aD,aH,aI,aJ,beq_iff_eq,decide_eq_true_eq]at h)
    |(obtain⟨k,rfl⟩:=aM (f:=fun k=>ax.j1 k _ _ _ _ _ _ _ _ _ _ _ _ _ _ _ _ _ _ _) (by simp only[ax.j1]) h;simp only[ax.j1]at h;try simp only[aF,aG,aD,aH,aI,aJ,beq_iff_eq,decide_eq_true_eq]at h)
    |(obtain⟨k,rfl⟩:=aM (f:=fun k=>ax.j2 k _ _ _ _ _ _ _ _ _ _ _ _ _ _ _ _ _ _ _) (by simp only[ax.j2]) h;simp only[ax.j2]at h;try simp only[aF,aG,aD,aH,aI,aJ,beq_iff_eq,decide_eq_true_eq]at h)
    |(refine⟨(by first|exact aP (by assumption) (by decide) (by decide)|exact aN (by assumption) (by decide) (by decide)), ?_⟩;try simp -implicitDefEqProofs (maxSteps:=2000000) [*, -h])
    |(cases h;done)
    |(cases h;refine ed _ rfl ?_;constructor<;>simp[*]<;>exact az (by omega) (by omega) (by simp))
    |(exfalso;clear h;simp_all;done)
  refine xk [true,true,true,true,false,true,true,false,true,true,true,true,true,true,false,false,false,false,false,true,true,true,true] (fun a=> [(10, .c (.own 500 3 a.2.1.length)),(11, .c (.own 501 1 a.2.2.1.length)),(13, .i a.1)]) (fun(a:Int×List S67×List Int×S69×Int)=> [(0,some (rdB d a.2.2.2.2)),(500,some (.row 67 3 a.2.1.length (fl z67 eI a.2.1))),(501,some (.row 3 1 a.2.2.1.length (fl 0 ei a.2.2.1))),(119,none),(120,none),(112,some (.box 69 [.t (.b a.2.2.2.1.f0), .t (.ints a.2.2.2.1.f1), .t (.ints a.2.2.2.1.f2)]))]) (fun n a=>ax.l0 n a.1 a.2.1 a.2.2.1 a.2.2.2.1.f0 a.2.2.2.1.f1 a.2.2.2.1.f2 _ a.2.2.2.2 _ _ _ _ _ _ _ _ _ _ _=some _) [(500,119),(501,120)] (b0:=(0, [], [],⟨x_.1,x_.2.1,x_.2.2⟩,A)) h (by constructor<;>simp[idR,mkT]) ?_
  clear h;rintro k ⟨tries,code,empty,⟨s0,s1,s2⟩,p⟩ hk h
  obtain⟨k,rfl⟩:=aM (f:=fun k=>ax.l0 k _ _ _ _ _ _ _ _ _ _ _ _ _ _ _ _ _ _ _) (by simp only[ax.l0]) h
  simp only[ax.l0]at h
  try simp only[aF,aG,aD,aH,aI,aJ]at h
  refine xU (uZ ?_)
  rcases aB h with⟨hc,h⟩|⟨hc,h⟩
  · rcases aB h with⟨hc2,h⟩|⟨hc2,h⟩
    · simp -implicitDefEqProofs (maxSteps:=2000000) [*, -h,qY,qZ,rf]
      refine xU (K5 ?_)
      refine Be [true,true,true,true,false,true,true,false,true,true,true,true,true,true,false,false,false,false,false,true,true,true,true] (fun e=> [(11, .c (.own 501 1 e.length))]) (fun(e:List Int)=> [(501,some (.row 3 1 e.length (fl 0 ei e)))]) (fun e=>ax.j0 k tries code e s0 s1 s2 d p g j m o u v w x y z a3=some r) (uZ ?_) ?_
      · simp -implicitDefEqProofs (maxSteps:=2000000) [*, -h,tZ,uf,ug,qY,qZ,rf]
        repeat' first
            |(with_reducible (first|(replace h:=bC (by assumption) h)|(replace h:=bD (by assumption) h)|(replace h:=aY (by assumption) h)|(replace h:=aZ (by assumption) h)))
            |((with_reducible have hh:=aB h);clear h;rcases hh with⟨hc,h⟩|⟨hc,h⟩<;>have hd:=hc<;>(first|(replace hc:=dA hc)|(replace hc:=dB hc)|skip)<;>(try simp at hd)<;>(first|exact absurd hd (of_eq_false (by assumption))|exact absurd (of_eq_true (by assumption)) hd|skip)<;>(try(first|(subst hd)|(replace hd:=bG hd)|(replace hd:=eq_false hd)|(replace hd:=eq_true hd)))<;>(try simp -implicitDefEqProofs (maxSteps:=2000000) [*, -h]))
            |(with_reducible replace h:=aL h)
            | ((with_reducible have hh:=Option.bind_eq_some_iff.1 h);clear h;obtain⟨x_,hx_,h⟩:=hh;(first|(refine aC (aO (h:=hx_)) rfl rfl rfl ?_ ?_ ?_ ?_;(·simp[*]);(·simp[*]);(·constructor<;>simp);clear hx_;try simp -implicitDefEqProofs (maxSteps:=2000000) [*, -h])|(refine av (xH (h:=hx_)) rfl rfl ?_ ⟨rfl,rfl⟩ ?_;(·simp[*]);clear hx_;try simp -implicitDefEqProofs (maxSteps:=2000000) [*, -h])|(refine aC (uP (h:=hx_)) rfl rfl rfl ?_ ?_ ?_ ?_;(·simp[*]);(·simp[*]);(·constructor<;>simp);clear hx_;try simp -implicitDefEqProofs (maxSteps:=2000000) [*, -h])|(refine av (uO (h:=hx_)) rfl rfl ?_ ⟨rfl,rfl⟩ ?_;(·simp[*]);clear hx_;try simp -implicitDefEqProofs (maxSteps:=2000000) [*, -h])|(refine av (iN (h:=hx_)) rfl rfl ?_ ⟨rfl,rfl⟩ ?_;(·simp[*]);clear hx_;try simp -implicitDefEqProofs (maxSteps:=2000000) [*, -h]))
               )
            |(refine⟨(by first|exact aP (by assumption) (by decide) (by decide)|exact aN (by assumption) (by decide) (by decide)), ?_⟩;try simp -implicitDefEqProofs (maxSteps:=2000000) [*, -h])
            |(cases h;done)
            |(cases h;refine ed _ rfl ?_;constructor<;>simp[*]<;>exact az (by omega) (by omega) (by simp))
            |(exfalso;clear h;simp_all;done)
        ·exact Bf [true,true,true,true,false,true,true,false,true,true,true,true,true,true,false,false,false,false,false,true,true,true,true] [(501,145)] h (by constructor<;>simp[idR,mkT])
        ·exact Bf [true,true,true,true,false,true,true,false,true,true,true,true,true,true,false,false,false,false,false,true,true,true,true] [] h (by constructor<;>simp[idR,mkT])
      clear h;rintro e h
      obtain⟨k,rfl⟩:=aM (f:=fun k=>ax.j0 k _ _ _ _ _ _ _ _ _ _ _ _ _ _ _ _ _ _ _) (by simp only[ax.j0]) h
      simp only[ax.j0]at h
      try simp only[aF,aG,aD,aH,aI,aJ]at h
      refine xU (uZ ?_)
      simp -implicitDefEqProofs (maxSteps:=2000000) [qY,qZ,rf]
      refine Be [true,true,true,true,false,true,true,false,true,true,true,true,true,true,true,false,false,false,false,true,true,true,true] (fun _=> []) (fun(q:Int)=> [(0,some (rdB d q))]) (fun q=>ax.j1 k tries code e s0 s1 s2 d q g j m o u v w x y z a3=some r) (uZ ?_) ?_
      · simp -implicitDefEqProofs (maxSteps:=2000000) [*, -h,tZ,uf,ug,qY,qZ,rf]
        repeat' first
            |(with_reducible (first|(replace h:=bC (by assumption) h)|(replace h:=bD (by assumption) h)|(replace h:=aY (by assumption) h)|(replace h:=aZ (by assumption) h)))
            |((with_reducible have hh:=aB h);clear h;rcases hh with⟨hc,h⟩|⟨hc,h⟩<;>have hd:=hc<;>(first|(replace hc:=dA hc)|(replace hc:=dB hc)|skip)<;>(try simp at hd)<;>(first|exact absurd hd (of_eq_false (by assumption))|exact absurd (of_eq_true (by assumption)) hd|skip)<;>(try(first|(subst hd)|(replace hd:=bG hd)|(replace hd:=eq_false hd)|(replace hd:=eq_true hd)))<;>(try simp -implicitDefEqProofs (maxSteps:=2000000) [*, -h]))
            |(with_reducible replace h:=aL h)
            | ((with_reducible have hh:=Option.bind_eq_some_iff.1 h);clear h;obtain⟨x_,hx_,h⟩:=hh;(first|(refine aC (aO (h:=hx_)) rfl rfl rfl ?_ ?_ ?_ ?_;(·simp[*]);(·simp[*]);(·constructor<;>simp);clear hx_;try simp -implicitDefEqProofs (maxSteps:=2000000) [*, -h])|(refine av (xH (h:=hx_)) rfl rfl ?_ ⟨rfl,rfl⟩ ?_;(·simp[*]);clear hx_;try simp -implicitDefEqProofs (maxSteps:=2000000) [*, -h])|(refine aC (uP (h:=hx_)) rfl rfl rfl ?_ ?_ ?_ ?_;(·simp[*]);(·simp[*]);(·constructor<;>simp);clear hx_;try simp -implicitDefEqProofs (maxSteps:=2000000) [*, -h])|(refine av (uO (h:=hx_)) rfl rfl ?_ ⟨rfl,rfl⟩ ?_;(·simp[*]);clear hx_;try simp -implicitDefEqProofs (maxSteps:=2000000) [*, -h])|(refine av (iN (h:=hx_)) rfl rfl ?_ ⟨rfl,rfl⟩ ?_;(·simp[*]);clear hx_;try simp -implicitDefEqProofs (maxSteps:=2000000) [*, -h]))
               )
            |(refine⟨(by first|exact aP (by assumption) (by decide) (by decide)|exact aN (by assumption) (by decide) (by decide)), ?_⟩;try simp -implicitDefEqProofs (maxSteps:=2000000) [*, -h])
            |(cases h;done)
            |(cases h;refine ed _ rfl ?_;constructor<;>simp[*]<;>exact az (by omega) (by omega) (by simp))
            |(exfalso;clear h;simp_all;done)
        all_goals first
          |(refine Bf [true,true,true,true,false,true,true,false,true,true,true,true,true,true,true,false,false,false,false,true,true,true,true] [] h ?_;(constructor<;>simp[idR,mkT]);done)
          | (refine uZ ?_
             simp -implicitDefEqProofs (maxSteps:=2000000)
             refine ku [true,true,true,true,false,true,true,false,true,true,true,true,true,true,false,false,false,false,false,true,true,true,true] [(500,183)] (a:=(_,_,_,⟨_,_,_⟩,_)) (by omega) h ?_;(constructor<;>simp[idR,mkT]);done)
      clear h;rintro q h
      obtain⟨k,rfl⟩:=aM (f:=fun k=>ax.j1 k _ _ _ _ _ _ _ _ _ _ _ _ _ _ _ _ _ _ _) (by simp only[ax.j1]) h
      simp only[ax.j1]at h
      try simp only[aF,aG,aD,aH,aI,aJ]at h
      simp only[puts,dh,List.set,dE,Bs.set]
      refine Be [true,true,true,true,false,true,true,false,true,true,true,true,true,true,true,false,false,false,false,true,true,true,true] (fun _=> []) (fun(q:Int)=> [(0,some (rdB d q))]) (fun q=>ax.j2 k tries code e s0 s1 s2 d q g j m o u v w x y z a3=some r) (uZ ?_) ?_
      · simp -implicitDefEqProofs (maxSteps:=2000000) [*, -h,tZ,uf,ug,qY,qZ,rf]
        repeat' first
            |(with_reducible (first|(replace h:=bC (by assumption) h)|(replace h:=bD (by assumption) h)|(replace h:=aY (by assumption) h)|(replace h:=aZ (by assumption) h)))
            |((with_reducible have hh:=aB h);clear h;rcases hh with⟨hc,h⟩|⟨hc,h⟩<;>have hd:=hc<;>(first|(replace hc:=dA hc)|(replace hc:=dB hc)|skip)<;>(try simp at hd)<;>(first|exact absurd hd (of_eq_false (by assumption))|exact absurd (of_eq_true (by assumption)) hd|skip)<;>(try(first|(subst hd)|(replace hd:=bG hd)|(replace hd:=eq_false hd)|(replace hd:=eq_true hd)))<;>(try simp -implicitDefEqProofs (maxSteps:=2000000) [*, -h]))
            |(with_reducible replace h:=aL h)
            | ((with_reducible have hh:=Option.bind_eq_some_iff.1 h);clear h;obtain⟨x_,hx_,h⟩:=hh;(first|(refine aC (aO (h:=hx_)) rfl rfl rfl ?_ ?_ ?_ ?_;(·simp[*]);(·simp[*]);(·constructor<;>simp);clear hx_;try simp -implicitDefEqProofs (maxSteps:=2000000) [*, -h])|(refine av (xH (h:=hx_)) rfl rfl ?_ ⟨rfl,rfl⟩ ?_;(·simp[*]);clear hx_;try simp -implicitDefEqProofs (maxSteps:=2000000) [*, -h])|(refine aC (uP (h:=hx_)) rfl rfl rfl ?_ ?_ ?_ ?_;(·simp[*]);(·simp[*]);(·constructor<;>simp);clear hx_;try simp -implicitDefEqProofs (maxSteps:=2000000) [*, -h])|(refine av (uO (h:=hx_)) rfl rfl ?_ ⟨rfl,rfl⟩ ?_;(·simp[*]);clear hx_;try simp -implicitDefEqProofs (maxSteps:=2000000) [*, -h])|(refine av (iN (h:=hx_)) rfl rfl ?_ ⟨rfl,rfl⟩ ?_;(·simp[*]);clear hx_;try simp -implicitDefEqProofs (maxSteps:=2000000) [*, -h]))
               )
            |(refine⟨(by first|exact aP (by assumption) (by decide) (by decide)|exact aN (by assumption) (by decide) (by decide)), ?_⟩;try simp -implicitDefEqProofs (maxSteps:=2000000) [*, -h])
            |(cases h;done)
            |(cases h;refine ed _ rfl ?_;constructor<;>simp[*]<;>exact az (by omega) (by omega) (by simp))
            |(exfalso;clear h;simp_all;done)
        all_goals first
          |(refine Bf [true,true,true,true,false,true,true,false,true,true,true,true,true,true,true,false,false,false,false,true,true,true,true] [] h ?_;(constructor<;>simp[idR,mkT]);done)
          | (refine uZ ?_
             simp -implicitDefEqProofs (maxSteps:=2000000)
             refine ku [true,true,true,true,false,true,true,false,true,true,true,true,true,true,false,false,false,false,false,true,true,true,true] [(500,219)] (a:=(_,_,_,⟨_,_,_⟩,_)) (by omega) h ?_;(constructor<;>simp[idR,mkT]);done)
      clear h;rintro q h
      obtain⟨k,rfl⟩:=aM (f:=fun k=>ax.j2 k _ _ _ _ _ _ _ _ _ _ _ _ _ _ _ _ _ _ _) (by simp only[ax.j2]) h
      simp only[ax.j2]at h
      try simp only[aF,aG,aD,aH,aI,aJ]at h
      refine uZ ?_
      simp -implicitDefEqProofs (maxSteps:=2000000) [tZ,uf,ug,qY,qZ,rf]
      repeat' first
          |(with_reducible (first|(replace h:=bC (by assumption) h)|(replace h:=bD (by assumption) h)|(replace h:=aY (by assumption) h)|(replace h:=aZ (by assumption) h)))
          |((with_reducible have hh:=aB h);clear h;rcases hh with⟨hc,h⟩|⟨hc,h⟩<;>have hd:=hc<;>(first|(replace hc:=dA hc)|(replace hc:=dB hc)|skip)<;>(try simp at hd)<;>(first|exact absurd hd (of_eq_false (by assumption))|exact absurd (of_eq_true (by assumption)) hd|skip)<;>(try(first|(subst hd)|(replace hd:=bG hd)|(replace hd:=eq_false hd)|(replace hd:=eq_true hd)))<;>(try simp -implicitDefEqProofs (maxSteps:=2000000) [*, -h]))
          |(with_reducible replace h:=aL h)
          | ((with_reducible have hh:=Option.bind_eq_some_iff.1 h);clear h;obtain⟨x_,hx_,h⟩:=hh;(first|(refine aC (aO (h:=hx_)) rfl rfl rfl ?_ ?_ ?_ ?_;(·simp[*]);(·simp[*]);(·constructor<;>simp);clear hx_;try simp -implicitDefEqProofs (maxSteps:=2000000) [*, -h])|(refine av (xH (h:=hx_)) rfl rfl ?_ ⟨rfl,rfl⟩ ?_;(·simp[*]);clear hx_;try simp -implicitDefEqProofs (maxSteps:=2000000) [*, -h])|(refine aC (uP (h:=hx_)) rfl rfl rfl ?_ ?_ ?_ ?_;(·simp[*]);(·simp[*]);(·constructor<;>simp);clear hx_;try simp -implicitDefEqProofs (maxSteps:=2000000) [*, -h])|(refine av (uO (h:=hx_)) rfl rfl ?_ ⟨rfl,rfl⟩ ?_;(·simp[*]);clear hx_;try simp -implicitDefEqProofs (maxSteps:=2000000) [*, -h])|(refine av (iN (h:=hx_)) rfl rfl ?_ ⟨rfl,rfl⟩ ?_;(·simp[*]);clear hx_;try simp -implicitDefEqProofs (maxSteps:=2000000) [*, -h]))
             )
          |(refine⟨(by first|exact aP (by assumption) (by decide) (by decide)|exact aN (by assumption) (by decide) (by decide)), ?_⟩;try simp -implicitDefEqProofs (maxSteps:=2000000) [*, -h])
          |(cases h;done)
          |(cases h;refine ed _ rfl ?_;constructor<;>simp[*]<;>exact az (by omega) (by omega) (by simp))
          |(exfalso;clear h;simp_all;done)
      all_goals refine uZ ?_
      all_goals simp -implicitDefEqProofs (maxSteps:=2000000)
      all_goals first
        |(refine ku [true,true,true,true,false,true,true,false,true,true,true,true,true,true,false,false,false,false,false,true,true,true,true] [] (a:=(_,_,_,⟨_,_,_⟩,_)) (by omega) h ?_;(constructor<;>simp[idR,mkT]);done)
        |(refine ku [true,true,true,true,false,true,true,false,true,true,true,true,true,true,false,false,false,false,false,true,true,true,true] [(500,254)] (a:=(_,_,_,⟨_,_,_⟩,_)) (by omega) h ?_;(constructor<;>simp[idR,mkT]);done)
    · simp -implicitDefEqProofs (maxSteps:=2000000) [*, -h,qY,qZ,rf]
      refine tu [true,true,true,true,false,true,true,false,true,true,true,true,true,true,true,true,true,true,true,true,true,true,true,true,true,true,true,true,true,true,true,true,true,true,true,true,true,true,true,true,true,true,true,true,true,true,true,true,true,true,true,true,true,true,true,true,true,true,true,true,true,true,true,true,true,true,true,true,true,true,true,true,true,true,true,true,true,true,true,true,true,true,true,true,true,true,true,true,true,true,true,true,true,true,true,true,true,true,true,true,true,true,true,true,true,true,true,true,true,true,true,true,true,true,true,true,true,true,true,true,true,true,true,true,true,true,true,true,true,true,true,true,true,true,true,true,true,true,true,true,true,true,true,true,true,true,true,true,true,true,true,true,true,true,true,true,true,true,true] (fun a=> [(10, .c (.own 502 3 a.2.length)),(18, .i a.1)]) (fun(a:Int×List S67)=> [(502,some (.row 67 3 a.2.length (fl z67 eI a.2))),(500,none)]) (fun n a=>ax.l1 n a.1 a.2 _ _=some _) [(502,500)] (b0:=((s2.length:Int),code)) h (by constructor<;>simp[idR,mkT]) ?_
      clear h;rintro k ⟨i,cd⟩ hk h
      obtain⟨k,rfl⟩:=aM (f:=fun k=>ax.l1 k _ _ _ _) (by simp only[ax.l1]) h
      simp only[ax.l1]at h
      try simp -implicitDefEqProofs (maxSteps:=2000000)
      repeat' first
          |(with_reducible (first|(replace h:=bC (by assumption) h)|(replace h:=bD (by assumption) h)|(replace h:=aY (by assumption) h)|(replace h:=aZ (by assumption) h)))
          |((with_reducible have hh:=aB h);clear h;rcases hh with⟨hc,h⟩|⟨hc,h⟩<;>have hd:=hc<;>(first|(replace hc:=dA hc)|(replace hc:=dB hc)|skip)<;>(try simp at hd)<;>(first|exact absurd hd (of_eq_false (by assumption))|exact absurd (of_eq_true (by assumption)) hd|skip)<;>(try(first|(subst hd)|(replace hd:=bG hd)|(replace hd:=eq_false hd)|(replace hd:=eq_true hd)))<;>(try simp -implicitDefEqProofs (maxSteps:=2000000) [*, -h]))
          |(with_reducible replace h:=aL h)
          | ((with_reducible have hh:=Option.bind_eq_some_iff.1 h);clear h;obtain⟨x_,hx_,h⟩:=hh;(first|(refine aC (aO (h:=hx_)) rfl rfl rfl ?_ ?_ ?_ ?_;(·simp[*]);(·simp[*]);(·constructor<;>simp);clear hx_;try simp -implicitDefEqProofs (maxSteps:=2000000) [*, -h])|(refine av (xH (h:=hx_)) rfl rfl ?_ ⟨rfl,rfl⟩ ?_;(·simp[*]);clear hx_;try simp -implicitDefEqProofs (maxSteps:=2000000) [*, -h])|(refine aC (uP (h:=hx_)) rfl rfl rfl ?_ ?_ ?_ ?_;(·simp[*]);(·simp[*]);(·constructor<;>simp);clear hx_;try simp -implicitDefEqProofs (maxSteps:=2000000) [*, -h])|(refine av (uO (h:=hx_)) rfl rfl ?_ ⟨rfl,rfl⟩ ?_;(·simp[*]);clear hx_;try simp -implicitDefEqProofs (maxSteps:=2000000) [*, -h])|(refine av (iN (h:=hx_)) rfl rfl ?_ ⟨rfl,rfl⟩ ?_;(·simp[*]);clear hx_;try simp -implicitDefEqProofs (maxSteps:=2000000) [*, -h]))
             )
          |(obtain⟨k,rfl⟩:=aM (f:=fun k=>ax.j0 k _ _ _ _ _ _ _ _ _ _ _ _ _ _ _ _ _ _ _) (by simp only[ax.j0]) h;simp only[ax.j0]at h;try simp only[aF,aG,aD,aH,aI,aJ,beq_iff_eq,decide_eq_true_eq]at h)
          |(obtain⟨k,rfl⟩:=aM (f:=fun k=>ax.j1 k _ _ _ _ _ _ _ _ _ _ _ _ _ _ _ _ _ _ _) (by simp only[ax.j1]) h;simp only[ax.j1]at h;try simp only[aF,aG,aD,aH,aI,aJ,beq_iff_eq,decide_eq_true_eq]at h)
          |(obtain⟨k,rfl⟩:=aM (f:=fun k=>ax.j2 k _ _ _ _ _ _ _ _ _ _ _ _ _ _ _ _ _ _ _) (by simp only[ax.j2]) h;simp only[ax.j2]at h;try simp only[aF,aG,aD,aH,aI,aJ,beq_iff_eq,decide_eq_true_eq]at h)
          |(refine⟨(by first|exact aP (by assumption) (by decide) (by decide)|exact aN (by assumption) (by decide) (by decide)), ?_⟩;try simp -implicitDefEqProofs (maxSteps:=2000000) [*, -h])
          |(cases h;done)
          |(cases h;refine ed _ rfl ?_;constructor<;>simp[*]<;>exact az (by omega) (by omega) (by simp))
          |(exfalso;clear h;simp_all;done)
      exact ku [true,true,true,true,false,true,true,false,true,true,true,true,true,true,true,true,true,true,true,true,true,true,true,true,true,true,true,true,true,true,true,true,true,true,true,true,true,true,true,true,true,true,true,true,true,true,true,true,true,true,true,true,true,true,true,true,true,true,true,true,true,true,true,true,true,true,true,true,true,true,true,true,true,true,true,true,true,true,true,true,true,true,true,true,true,true,true,true,true,true,true,true,true,true,true,true,true,true,true,true,true,true,true,true,true,true,true,true,true,true,true,true,true,true,true,true,true,true,true,true,true,true,true,true,true,true,true,true,true,true,true,true,true,true,true,true,true,true,true,true,true,true,true,true,true,true,true,true,true,true,true,true,true,true,true,true,true,true,true] [(502,266)] (a:=(_,_)) (by omega) h (by constructor<;>simp[idR,mkT])
  · simp -implicitDefEqProofs (maxSteps:=2000000) [*, -h,qY,qZ,rf]
    refine tu [true,true,true,true,false,true,true,false,true,true,true,true,true,true,true,true,true,true,true,true,true,true,true,true,true,true,true,true,true,true,true,true,true,true,true,true,true,true,true,true,true,true,true,true,true,true,true,true,true,true,true,true,true,true,true,true,true,true,true,true,true,true,true,true,true,true,true,true,true,true,true,true,true,true,true,true,true,true,true,true,true,true,true,true,true,true,true,true,true,true,true,true,true,true,true,true,true,true,true,true,true,true,true,true,true,true,true,true,true,true,true,true,true,true,true,true,true,true,true,true,true,true,true,true,true,true,true,true,true,true,true,true,true,true,true,true,true,true,true,true,true,true,true,true,true,true,true,true,true,true,true,true,true,true,true,true,true,true,true] (fun a=> [(10, .c (.own 502 3 a.2.length)),(18, .i a.1)]) (fun(a:Int×List S67)=> [(502,some (.row 67 3 a.2.length (fl z67 eI a.2))),(500,none)]) (fun n a=>ax.l1 n a.1 a.2 _ _=some _) [(502,500)] (b0:=((s2.length:Int),code)) h (by constructor<;>simp[idR,mkT]) ?_
    clear h;rintro k ⟨i,cd⟩ hk h
    obtain⟨k,rfl⟩:=aM (f:=fun k=>ax.l1 k _ _ _ _) (by simp only[ax.l1]) h
    simp only[ax.l1]at h
    try simp -implicitDefEqProofs (maxSteps:=2000000)
    repeat' first
        |(with_reducible (first|(replace h:=bC (by assumption) h)|(replace h:=bD (by assumption) h)|(replace h:=aY (by assumption) h)|(replace h:=aZ (by assumption) h)))
        |((with_reducible have hh:=aB h);clear h;rcases hh with⟨hc,h⟩|⟨hc,h⟩<;>have hd:=hc<;>(first|(replace hc:=dA hc)|(replace hc:=dB hc)|skip)<;>(try simp at hd)<;>(first|exact absurd hd (of_eq_false (by assumption))|exact absurd (of_eq_true (by assumption)) hd|skip)<;>(try(first|(subst hd)|(replace hd:=bG hd)|(replace hd:=eq_false hd)|(replace hd:=eq_true hd)))<;>(try simp -implicitDefEqProofs (maxSteps:=2000000) [*, -h]))
        |(with_reducible replace h:=aL h)
        | ((with_reducible have hh:=Option.bind_eq_some_iff.1 h);clear h;obtain⟨x_,hx_,h⟩:=hh;(first|(refine aC (aO (h:=hx_)) rfl rfl rfl ?_ ?_ ?_ ?_;(·simp[*]);(·simp[*]);(·constructor<;>simp);clear hx_;try simp -implicitDefEqProofs (maxSteps:=2000000) [*, -h])|(refine av (xH (h:=hx_)) rfl rfl ?_ ⟨rfl,rfl⟩ ?_;(·simp[*]);clear hx_;try simp -implicitDefEqProofs (maxSteps:=2000000) [*, -h])|(refine aC (uP (h:=hx_)) rfl rfl rfl ?_ ?_ ?_ ?_;(·simp[*]);(·simp[*]);(·constructor<;>simp);clear hx_;try simp -implicitDefEqProofs (maxSteps:=2000000) [*, -h])|(refine av (uO (h:=hx_)) rfl rfl ?_ ⟨rfl,rfl⟩ ?_;(·simp[*]);clear hx_;try simp -implicitDefEqProofs (maxSteps:=2000000) [*, -h])|(refine av (iN (h:=hx_)) rfl rfl ?_ ⟨rfl,rfl⟩ ?_;(·simp[*]);clear hx_;try simp -implicitDefEqProofs (maxSteps:=2000000) [*, -h]))
           )
        |(obtain⟨k,rfl⟩:=aM (f:=fun k=>ax.j0 k _ _ _ _ _ _ _ _ _ _ _ _ _ _ _ _ _ _ _) (by simp only[ax.j0]) h;simp only[ax.j0]at h;try simp only[aF,aG,aD,aH,aI,aJ,beq_iff_eq,decide_eq_true_eq]at h)
        |(obtain⟨k,rfl⟩:=aM (f:=fun k=>ax.j1 k _ _ _ _ _ _ _ _ _ _ _ _ _ _ _ _ _ _ _) (by simp only[ax.j1]) h;simp only[ax.j1]at h;try simp only[aF,aG,aD,aH,aI,aJ,beq_iff_eq,decide_eq_true_eq]at h)
        |(obtain⟨k,rfl⟩:=aM (f:=fun k=>ax.j2 k _ _ _ _ _ _ _ _ _ _ _ _ _ _ _ _ _ _ _) (by simp only[ax.j2]) h;simp only[ax.j2]at h;try simp only[aF,aG,aD,aH,aI,aJ,beq_iff_eq,decide_eq_true_eq]at h)
        |(refine⟨(by first|exact aP (by assumption) (by decide) (by decide)|exact aN (by assumption) (by decide) (by decide)), ?_⟩;try simp -implicitDefEqProofs (maxSteps:=2000000) [*, -h])
        |(cases h;done)
        |(cases h;refine ed _ rfl ?_;constructor<;>simp[*]<;>exact az (by omega) (by omega) (by simp))
        |(exfalso;clear h;simp_all;done)
    exact ku [true,true,true,true,false,true,true,false,true,true,true,true,true,true,true,true,true,true,true,true,true,true,true,true,true,true,true,true,true,true,true,true,true,true,true,true,true,true,true,true,true,true,true,true,true,true,true,true,true,true,true,true,true,true,true,true,true,true,true,true,true,true,true,true,true,true,true,true,true,true,true,true,true,true,true,true,true,true,true,true,true,true,true,true,true,true,true,true,true,true,true,true,true,true,true,true,true,true,true,true,true,true,true,true,true,true,true,true,true,true,true,true,true,true,true,true,true,true,true,true,true,true,true,true,true,true,true,true,true,true,true,true,true,true,true,true,true,true,true,true,true,true,true,true,true,true,true,true,true,true,true,true,true,true,true,true,true,true,true] [(502,266)] (a:=(_,_)) (by omega) h (by constructor<;>simp[idR,mkT])
end Go.Proofs.Ytojpejfcafbafaa.V
end
section
namespace Go.Proofs.Ytojpejfcafbafaa.V
open Go Go.RowKit Go.Proofs.Ytojpejfcafbafaa.P
set_option linter.unusedVariables false
set_option linter.unusedSimpArgs false
attribute [local simp ↓] eG eH fQ fT eO dM fZ eP eQ gm gp gq dN dO dP gB gz gG gF dQ bW dV cz dJ dR eT eU eX
attribute [local simp] fU fV dK bR eF dL bS bT bU bV bM bN dS eY dU bX bY bZ cu bO fD lM iL dz iw evl dI eZ fu kD iX List.range List.range.loop lT kX fo fB iC iA Bs.live Bs.get lN WkV WkA WkC lg lH kY lD cZ iM TEq.refl bg fH qQ aF aG aD aH aI aJ ei d9 splice dE Bs.set kU fC Rn.at gu gy iF iD lL chunks lC fP toT fE iE rowsOf cB ik plR plV plC lF lI lQ lh fI iR lU
attribute [local simp] List.length_pos_iff qR qU iG iH iI puts dh
attribute [local simp ←] ig
attribute [local simp] ksL ru ksV rV ksC ksT ren kr rO rH dw sO sP sQ sS sU r9 sV fF dW dx iW iB iO iQ lS rG closedB iT kP kG kH kJ kL iJ kN
attribute [local simp] ag3 un3 sz3 in3 by3 ze3 ct3 zt3 zu3 ag4 un4 sz4 in4 by4 ze4 ct4 zt4 zu4 ag5 un5 sz5 in5 by5 ze5 ct5 zt5 zu5 mi mq mD mE mF mG mH mI mJ io3 mK io5 bo4 mM mO mP mQ mR mU mV mW mX mY mZ ng ni nk nu ny nz nA nC nD nE nG nH nI nJ nK nL nM nN nO nP nQ nR nS nT nU nV nW nX nY nZ oh ol om oo oq ou ow oz oC oD oF oG oH oI oJ oK oL oM oN oO oP oQ oU oV oW oZ o6 o7 o8 iZ ja jb jc jd je jf jg jh ji jk jl jm jo jq jr jv jw jy jA o9 pg pu pz pE pF pG pI pJ pK jB jC jD jE jF jG jH jI jJ jK jL jM jN jO jP jQ jR jS jT jU jV jW jX jY jZ kg ko mz gH gI gJ gK gL gN gP gQ gT gU gV gW gX gY gZ ib pO pQ pR pU pV pW pX pY p9 qa qb qc qd qf qg qh qi qj ql qm qo qp qw qx qy qz qA qB qC qD qE qF qG qH qI qJ qK qL qM qN qO qP mix
attribute [local simp] eb eC eI eS eK eM nm
set_option maxRecDepth 20000 in
set_option maxHeartbeats 4000000 in
theorem vv (k:Nat) (e:List (S41)) (g:List (S35)) (j:Int) (m:Int) (o:List Int) (p:Int) (q:Int) (u:List (S67)) (v:List (S69)) (w:List (S73)) (l2:List (S69)) (a3:Int) (r:Bool×List (S69)) (h:bE.f k e g j m o p q u v w l2 a3=some r):uL Try.prog 87 [.agg [.t (tC e), .t (tM g)], .agg [.t (.i j), .t (.i m), .t (.ints o), .t (.i p), .t (.i q), .t (tI u), .t (tS v), .t (tK w)], .c (.own 0 3 l2.length), .i a3] [(0,some (.row 69 3 l2.length (fl z69 eS l2)))] (.c (.t (.b r.1))) [(0,some (.row 69 3 (r.2).length (fl z69 eS (r.2))))]:=by
  unfold bE.f at h
  try simp only[aF,aG,aD,aH,aI,aJ]at h
  refine bF Try.func87 rfl rfl rfl ?_
  try simp -implicitDefEqProofs (maxSteps:=2000000)
  repeat' first
    |(show ek _ _ 9 _ _ _ _;refine aT (by decide) [[], [], [1], [], [3], [4,3], [0,2,5,1,4,3], [6,0,2,5,1,4,3], [7,6,0,2,5,1,4,3], [7,6,0,2,5,1,4,3], [7,6,0,2,5,1,4,3], [10,7,6,0,2,5,1,4,3], [7,6,0,2,5,1,4,3], [7,6,0,2,5,1,4,3], [12,13,7,6,0,2,5,1,4,3], [8,9,11,14,7,6,0,2,5,1,4,3,10,12,13], [7,15,6,0,2,5,1,4,3,8,9,11,14,10,12,13]] [37,38,39,40,41,42,43,44,45,46,47,48,49,50,51,52,53] [0,1,2,3,4,5,6,7,8,9,10,11,12,13,14,15,16] (by kernel_rfl) ?_;try simp -implicitDefEqProofs (maxSteps:=2000000) [*, -h,aj,ah,ae,ai,ak,au,af,Op.operands,Call.operands])
    |(show ek _ _ 14 _ _ _ _;refine aT (by decide) [[], [0], [], [1,2,0], [3,1,2,0], [4,3,1,2,0], [5,4,3,1,2,0], [6,5,4,3,1,2,0], [6,5,4,3,1,2,0], [6,5,4,3,1,2,0], [9,6,5,4,3,1,2,0], [6,5,4,3,1,2,0], [10,11,6,9,5,4,3,1,2,0], [12,6,10,11,9,5,4,3,1,2,0], [13,6,12,10,11,9,5,4,3,1,2,0], [6,5,4,3,1,2,0], [7,8,14,15,6,5,4,3,1,2,0,13,12,10,11,9], [6,16,5,4,3,1,2,0,7,8,14,15,13,12,10,11,9]] [65,66,67,68,69,70,71,72,73,74,75,76,77,78,79,80,81,82] [0,1,2,3,4,5,6,7,8,9,10,11,12,13,14,15,16,17] (by kernel_rfl) ?_;try simp -implicitDefEqProofs (maxSteps:=2000000) [*, -h,aj,ah,ae,ai,ak,au,af,Op.operands,Call.operands])
    |(with_reducible (first|(replace h:=bC (by assumption) h)|(replace h:=bD (by assumption) h)|(replace h:=aY (by assumption) h)|(replace h:=aZ (by assumption) h)))
    |((with_reducible have hh:=aB h);clear h;rcases hh with⟨hc,h⟩|⟨hc,h⟩<;>have hd:=hc<;>(first|(replace hc:=dA hc)|(replace hc:=dB hc)|skip)<;>(try simp at hd)<;>(try(first|(subst hd)|(replace hd:=bG hd)|(replace hd:=eq_false hd)|(replace hd:=eq_true hd)))<;>(try simp -implicitDefEqProofs (maxSteps:=2000000) [*, -h,aj,ah,ae,ai,ak,au,af,Op.operands,Call.operands]))
    |(with_reducible replace h:=aL h)
    | ((with_reducible have hh:=Option.bind_eq_some_iff.1 h);clear h;obtain⟨x_,hx_,h⟩:=hh;(first|(refine av (si (h:=hx_)) rfl rfl ?_ ⟨rfl,rfl⟩ ?_;(·simp[*]);(try have d:=kE hx_);clear hx_;try simp -implicitDefEqProofs (maxSteps:=2000000) [*, -h,aj,ah,ae,ai,ak,au,af,Op.operands,Call.operands])|(refine bf (si (h:=hx_)) rfl rfl ?_ ⟨rfl,rfl⟩ rfl ?_;(·simp[*]);(try have d:=kE hx_);clear hx_;try simp -implicitDefEqProofs (maxSteps:=2000000) [*, -h,aj,ah,ae,ai,ak,au,af,Op.operands,Call.operands])|(refine av (uF (h:=hx_)) rfl rfl ?_ ⟨rfl,rfl⟩ ?_;(·simp[*]);(try have d:=kE hx_);clear hx_;try simp -implicitDefEqProofs (maxSteps:=2000000) [*, -h,aj,ah,ae,ai,ak,au,af,Op.operands,Call.operands])|(refine bf (uF (h:=hx_)) rfl rfl ?_ ⟨rfl,rfl⟩ rfl ?_;(·simp[*]);(try have d:=kE hx_);clear hx_;try simp -implicitDefEqProofs (maxSteps:=2000000) [*, -h,aj,ah,ae,ai,ak,au,af,Op.operands,Call.operands])|(refine aC (wB (h:=hx_)) rfl rfl rfl ?_ ?_ ?_ ?_;(·simp[*]);(·simp[*]);(·constructor<;>simp);(try have d:=kE hx_);clear hx_;try simp -implicitDefEqProofs (maxSteps:=2000000) [*, -h,aj,ah,ae,ai,ak,au,af,Op.operands,Call.operands])|(refine bI (wB (h:=hx_)) rfl rfl rfl ?_ ?_ ?_ ?_ ?_;(·simp[*]);(·simp[*]);(·constructor<;>simp);(·rfl);(try have d:=kE hx_);clear hx_;try simp -implicitDefEqProofs (maxSteps:=2000000) [*, -h,aj,ah,ae,ai,ak,au,af,Op.operands,Call.operands])|(refine av (sN (h:=hx_)) rfl rfl ?_ ⟨rfl,rfl⟩ ?_;(·simp[*]);(try have d:=kE hx_);clear hx_;try simp -implicitDefEqProofs (maxSteps:=2000000) [*, -h,aj,ah,ae,ai,ak,au,af,Op.operands,Call.operands])|(refine bf (sN (h:=hx_)) rfl rfl ?_ ⟨rfl,rfl⟩ rfl ?_;(·simp[*]);(try have d:=kE hx_);clear hx_;try simp -implicitDefEqProofs (maxSteps:=2000000) [*, -h,aj,ah,ae,ai,ak,au,af,Op.operands,Call.operands])|(refine av (qX (h:=hx_)) rfl rfl ?_ ⟨rfl,rfl⟩ ?_;(·simp[*]);(try have d:=kE hx_);clear hx_;try simp -implicitDefEqProofs (maxSteps:=2000000) [*, -h,aj,ah,ae,ai,ak,au,af,Op.operands,Call.operands])|(refine bf (qX (h:=hx_)) rfl rfl ?_ ⟨rfl,rfl⟩ rfl ?_;(·simp[*]);(try have d:=kE hx_);clear hx_;try simp -implicitDefEqProofs (maxSteps:=2000000) [*, -h,aj,ah,ae,ai,ak,au,af,Op.operands,Call.operands])|(refine av (sM (h:=hx_)) rfl rfl ?_ ⟨rfl,rfl⟩ ?_;(·simp[*]);(try have d:=kE hx_);clear hx_;try simp -implicitDefEqProofs (maxSteps:=2000000) [*, -h,aj,ah,ae,ai,ak,au,af,Op.operands,Call.operands])|(refine bf (sM (h:=hx_)) rfl rfl ?_ ⟨rfl,rfl⟩ rfl ?_;(·simp[*]);(try have d:=kE hx_);clear hx_;try simp -implicitDefEqProofs (maxSteps:=2000000) [*, -h,aj,ah,ae,ai,ak,au,af,Op.operands,Call.operands]))
       )
    |(obtain⟨k,rfl⟩:=aM (f:=fun k=>bE.j0 k _ _ _ _ _ _ _ _ _ _ _ _ _ _ _ _) (by simp only[bE.j0]) h;simp only[bE.j0]at h;try simp only[aF,aG,aD,aH,aI,aJ]at h)
    |(refine⟨(by first|exact aP (by assumption) (by decide) (by decide)|exact aN (by assumption) (by decide) (by decide)), ?_⟩;try simp -implicitDefEqProofs (maxSteps:=2000000) [*, -h,aj,ah,ae,ai,ak,au,af,Op.operands,Call.operands])
    |(cases h;done)
    |(cases h;refine ed _ rfl ?_;constructor<;>simp[*]<;>exact az (by omega) (by omega) (by simp))
    |(exfalso;clear h;simp_all;done)
  refine tu [true,true,true,true,true,true,false,false,true,true,true,true,false,false,false,true,true,true,true,true,true,true,true,true,true] (fun a=> [(9, .b a.2.1),(11, .i a.1)]) (fun(a:Int×Bool×List S69)=> [(0,some (.row 69 3 l2.length (fl z69 eS a.2.2)))]) (fun n a=>bE.l0 n a.1 a.2.1 a.2.2 _ _ _ _ _ _ _ _ _ _ _ _ _ _=some _∧a.2.2.length=l2.length) [] (b0:=(0,false,l2)) ⟨h,rfl⟩ (by constructor<;>simp[idR,mkT]) ?_
  clear h;rintro k ⟨i,ch,all⟩ hk ⟨h,hlen⟩
  have hlen:all.length=l2.length:=hlen
  obtain⟨k,rfl⟩:=aM (f:=fun k=>bE.l0 k _ _ _ _ _ _ _ _ _ _ _ _ _ _ _ _ _) (by simp only[bE.l0]) h
  simp only[bE.l0]at h
  try simp only[aF,aG,aD,aH,aI,aJ]at h
  try simp -implicitDefEqProofs (maxSteps:=2000000)
  repeat' first
      |(show ek _ _ 9 _ _ _ _;refine aT (by decide) [[], [], [1], [], [3], [4,3], [0,2,5,1,4,3], [6,0,2,5,1,4,3], [7,6,0,2,5,1,4,3], [7,6,0,2,5,1,4,3], [7,6,0,2,5,1,4,3], [10,7,6,0,2,5,1,4,3], [7,6,0,2,5,1,4,3], [7,6,0,2,5,1,4,3], [12,13,7,6,0,2,5,1,4,3], [8,9,11,14,7,6,0,2,5,1,4,3,10,12,13], [7,15,6,0,2,5,1,4,3,8,9,11,14,10,12,13]] [37,38,39,40,41,42,43,44,45,46,47,48,49,50,51,52,53] [0,1,2,3,4,5,6,7,8,9,10,11,12,13,14,15,16] (by kernel_rfl) ?_;try simp -implicitDefEqProofs (maxSteps:=2000000) [*, -h,aj,ah,ae,ai,ak,au,af,Op.operands,Call.operands])
      |(show ek _ _ 14 _ _ _ _;refine aT (by decide) [[], [0], [], [1,2,0], [3,1,2,0], [4,3,1,2,0], [5,4,3,1,2,0], [6,5,4,3,1,2,0], [6,5,4,3,1,2,0], [6,5,4,3,1,2,0], [9,6,5,4,3,1,2,0], [6,5,4,3,1,2,0], [10,11,6,9,5,4,3,1,2,0], [12,6,10,11,9,5,4,3,1,2,0], [13,6,12,10,11,9,5,4,3,1,2,0], [6,5,4,3,1,2,0], [7,8,14,15,6,5,4,3,1,2,0,13,12,10,11,9], [6,16,5,4,3,1,2,0,7,8,14,15,13,12,10,11,9]] [65,66,67,68,69,70,71,72,73,74,75,76,77,78,79,80,81,82] [0,1,2,3,4,5,6,7,8,9,10,11,12,13,14,15,16,17] (by kernel_rfl) ?_;try simp -implicitDefEqProofs (maxSteps:=2000000) [*, -h,aj,ah,ae,ai,ak,au,af,Op.operands,Call.operands])
      |(with_reducible (first|(replace h:=bC (by assumption) h)|(replace h:=bD (by assumption) h)|(replace h:=aY (by assumption) h)|(replace h:=aZ (by assumption) h)))
      |((with_reducible have hh:=aB h);clear h;rcases hh with⟨hc,h⟩|⟨hc,h⟩<;>have hd:=hc<;>(first|(replace hc:=dA hc)|(replace hc:=dB hc)|skip)<;>(try simp at hd)<;>(try(first|(subst hd)|(replace hd:=bG hd)|(replace hd:=eq_false hd)|(replace hd:=eq_true hd)))<;>(try simp -implicitDefEqProofs (maxSteps:=2000000) [*, -h,aj,ah,ae,ai,ak,au,af,Op.operands,Call.operands]))
      |(with_reducible replace h:=aL h)
      | ((with_reducible have hh:=Option.bind_eq_some_iff.1 h);clear h;obtain⟨x_,hx_,h⟩:=hh;(first|(refine av (si (h:=hx_)) rfl rfl ?_ ⟨rfl,rfl⟩ ?_;(·simp[*]);(try have d:=kE hx_);clear hx_;try simp -implicitDefEqProofs (maxSteps:=2000000) [*, -h,aj,ah,ae,ai,ak,au,af,Op.operands,Call.operands])|(refine bf (si (h:=hx_)) rfl rfl ?_ ⟨rfl,rfl⟩ rfl ?_;(·simp[*]);(try have d:=kE hx_);clear hx_;try simp -implicitDefEqProofs (maxSteps:=2000000) [*, -h,aj,ah,ae,ai,ak,au,af,Op.operands,Call.operands])|(refine av (uF (h:=hx_)) rfl rfl ?_ ⟨rfl,rfl⟩ ?_;(·simp[*]);(try have d:=kE hx_);clear hx_;try simp -implicitDefEqProofs (maxSteps:=2000000) [*, -h,aj,ah,ae,ai,ak,au,af,Op.operands,Call.operands])|(refine bf (uF (h:=hx_)) rfl rfl ?_ ⟨rfl,rfl⟩ rfl ?_;(·simp[*]);(try have d:=kE hx_);clear hx_;try simp -implicitDefEqProofs (maxSteps:=2000000) [*, -h,aj,ah,ae,ai,ak,au,af,Op.operands,Call.operands])|(refine aC (wB (h:=hx_)) rfl rfl rfl ?_ ?_ ?_ ?_;(·simp[*]);(·simp[*]);(·constructor<;>simp);(try have d:=kE hx_);clear hx_;try simp -implicitDefEqProofs (maxSteps:=2000000) [*, -h,aj,ah,ae,ai,ak,au,af,Op.operands,Call.operands])|(refine bI (wB (h:=hx_)) rfl rfl rfl ?_ ?_ ?_ ?_ ?_;(·simp[*]);(·simp[*]);(·constructor<;>simp);(·rfl);(try have d:=kE hx_);clear hx_;try simp -implicitDefEqProofs (maxSteps:=2000000) [*, -h,aj,ah,ae,ai,ak,au,af,Op.operands,Call.operands])|(refine av (sN (h:=hx_)) rfl rfl ?_ ⟨rfl,rfl⟩ ?_;(·simp[*]);(try have d:=kE hx_);clear hx_;try simp -implicitDefEqProofs (maxSteps:=2000000) [*, -h,aj,ah,ae,ai,ak,au,af,Op.operands,Call.operands])|(refine bf (sN (h:=hx_)) rfl rfl ?_ ⟨rfl,rfl⟩ rfl ?_;(·simp[*]);(try have d:=kE hx_);clear hx_;try simp -implicitDefEqProofs (maxSteps:=2000000) [*, -h,aj,ah,ae,ai,ak,au,af,Op.operands,Call.operands])|(refine av (qX (h:=hx_)) rfl rfl ?_ ⟨rfl,rfl⟩ ?_;(·simp[*]);(try have d:=kE hx_);clear hx_;try simp -implicitDefEqProofs (maxSteps:=2000000) [*, -h,aj,ah,ae,ai,ak,au,af,Op.operands,Call.operands])|(refine bf (qX (h:=hx_)) rfl rfl ?_ ⟨rfl,rfl⟩ rfl ?_;(·simp[*]);(try have d:=kE hx_);clear hx_;try simp -implicitDefEqProofs (maxSteps:=2000000) [*, -h,aj,ah,ae,ai,ak,au,af,Op.operands,Call.operands])|(refine av (sM (h:=hx_)) rfl rfl ?_ ⟨rfl,rfl⟩ ?_;(·simp[*]);(try have d:=kE hx_);clear hx_;try simp -implicitDefEqProofs (maxSteps:=2000000) [*, -h,aj,ah,ae,ai,ak,au,af,Op.operands,Call.operands])|(refine bf (sM (h:=hx_)) rfl rfl ?_ ⟨rfl,rfl⟩ rfl ?_;(·simp[*]);(try have d:=kE hx_);clear hx_;try simp -implicitDefEqProofs (maxSteps:=2000000) [*, -h,aj,ah,ae,ai,ak,au,af,Op.operands,Call.operands]))
         )
      |(obtain⟨k,rfl⟩:=aM (f:=fun k=>bE.j0 k _ _ _ _ _ _ _ _ _ _ _ _ _ _ _ _) (by simp only[bE.j0]) h;simp only[bE.j0]at h;try simp only[aF,aG,aD,aH,aI,aJ]at h)
      |(refine⟨(by first|exact aP (by assumption) (by decide) (by decide)|exact aN (by assumption) (by decide) (by decide)), ?_⟩;try simp -implicitDefEqProofs (maxSteps:=2000000) [*, -h,aj,ah,ae,ai,ak,au,af,Op.operands,Call.operands])
      |(cases h;done)
      |(cases h;refine ed _ rfl ?_;constructor<;>simp[*]<;>exact az (by omega) (by omega) (by simp))
      |(exfalso;clear h;simp_all;done)
  all_goals first
    |exact ku [true,true,true,true,true,true,false,false,true,true,true,true,false,false,false,true,true,true,true,true,true,true,true,true,true] [] (a:=(_,_,_)) (by omega) ⟨h,by simp[*]⟩ (by constructor<;>simp[idR,mkT, *])
    | (rw[show(gd z69 l2 a3.toNat).f0=true by assumption]at h
       exact ku [true,true,true,true,true,true,false,false,true,true,true,true,false,false,false,true,true,true,true,true,true,true,true,true,true] [] (a:=(_,_,_)) (by omega) ⟨h,by simp[*]⟩ (by constructor<;>simp[idR,mkT, *]))
end Go.Proofs.Ytojpejfcafbafaa.V
end
section
namespace Go.Proofs.Ytojpejfcafbafaa.V
open Go Go.RowKit Go.Proofs.Ytojpejfcafbafaa.P
set_option linter.unusedVariables false
set_option linter.unusedSimpArgs false
attribute [local simp ↓] eG eH fQ fT eO dM fZ eP eQ gm gp gq dN dO dP gB gz gG gF dQ bW dV cz dJ dR eT eU eX
attribute [local simp] fU fV dK bR eF dL bS bT bU bV bM bN dS eY dU bX bY bZ cu bO fD lM iL dz iw evl dI eZ fu kD iX List.range List.range.loop lT kX fo fB iC iA Bs.live Bs.get lN WkV WkA WkC lg lH kY lD cZ iM TEq.refl bg fH qQ aF aG aD aH aI aJ ei d9 splice dE Bs.set kU fC Rn.at gu gy iF iD lL chunks lC fP toT fE iE rowsOf cB ik plR plV plC lF lI lQ lh fI iR lU
attribute [local simp] List.length_pos_iff qR qU iG iH iI puts dh
attribute [local simp ←] ig
attribute [local simp] ksL ru ksV rV ksC ksT ren kr rO rH dw sO sP sQ sS sU r9 sV fF dW dx iW iB iO iQ lS rG closedB iT kP kG kH kJ kL iJ kN
attribute [local simp] ag3 un3 sz3 in3 by3 ze3 ct3 zt3 zu3 ag4 un4 sz4 in4 by4 ze4 ct4 zt4 zu4 ag5 un5 sz5 in5 by5 ze5 ct5 zt5 zu5 mi mq mD mE mF mG mH mI mJ io3 mK io5 bo4 mM mO mP mQ mR mU mV mW mX mY mZ ng ni nk nu ny nz nA nC nD nE nG nH nI nJ nK nL nM nN nO nP nQ nR nS nT nU nV nW nX nY nZ oh ol om oo oq ou ow oz oC oD oF oG oH oI oJ oK oL oM oN oO oP oQ oU oV oW oZ o6 o7 o8 iZ ja jb jc jd je jf jg jh ji jk jl jm jo jq jr jv jw jy jA o9 pg pu pz pE pF pG pI pJ pK jB jC jD jE jF jG jH jI jJ jK jL jM jN jO jP jQ jR jS jT jU jV jW jX jY jZ kg ko mz gH gI gJ gK gL gN gP gQ gT gU gV gW gX gY gZ ib pO pQ pR pU pV pW pX pY p9 qa qb qc qd qf qg qh qi qj ql qm qo qp qw qx qy qz qA qB qC qD qE qF qG qH qI qJ qK qL qM qN qO qP mix
attribute [local simp] eb eC eI eS eK eM nm Nh
set_option maxRecDepth 20000 in
set_option maxHeartbeats 4000000 in
theorem vH (k:Nat) (g:List (S41)) (j:List (S35)) (m:Int) (o:Int) (p:List Int) (q:Int) (u:Int) (v:List (S67)) (w:List (S69)) (x:List (S73)) (r:List (S69)) (h:aS.f k g j m o p q u v w x=some r):uL Try.prog 68 [.agg [.t (tC g), .t (tM j)], .agg [.t (.i m), .t (.i o), .t (.ints p), .t (.i q), .t (.i u), .t (tI v), .t (tS w), .t (tK x)]] [] (.c (.own 900 3 r.length)) [(900,some (.row 69 3 r.length (fl z69 eS r)))]:=by
  unfold aS.f at h
  try simp only[aF,aG,aD,aH,aI,aJ]at h
  refine bF Try.func68 rfl rfl rfl ?_
  try simp -implicitDefEqProofs (maxSteps:=2000000)
  repeat' first
    |(with_reducible (first|(replace h:=bC (by assumption) h)|(replace h:=bD (by assumption) h)|(replace h:=aY (by assumption) h)|(replace h:=aZ (by assumption) h)))
    |((with_reducible have hh:=aB h);clear h;rcases hh with⟨hc,h⟩|⟨hc,h⟩<;>have hd:=hc<;>(first|(replace hc:=dA hc)|(replace hc:=dB hc)|skip)<;>(try simp at hd)<;>(try(first|(subst hd)|(replace hd:=bG hd)|(replace hd:=eq_false hd)|(replace hd:=eq_true hd)))<;>(try simp -implicitDefEqProofs (maxSteps:=2000000) [*, -h]))
    |(with_reducible replace h:=aL h)
    | ((with_reducible have hh:=Option.bind_eq_some_iff.1 h);clear h;obtain⟨x_,hx_,h⟩:=hh;(first|(refine av (fq (h:=hx_)) rfl rfl ?_ ⟨rfl,rfl⟩ ?_;(·simp[*]);(try have d:=lW hx_);clear hx_;try simp -implicitDefEqProofs (maxSteps:=2000000) [*, -h])|(refine av (iN (h:=hx_)) rfl rfl ?_ ⟨rfl,rfl⟩ ?_;(·simp[*]);(try have d:=lW hx_);clear hx_;try simp -implicitDefEqProofs (maxSteps:=2000000) [*, -h])|(refine aC (vv (h:=hx_)) rfl rfl rfl ?_ ?_ ?_ ?_;(·simp[*]);(·simp[*]);(·constructor<;>simp);(try have d:=lW hx_);clear hx_;try simp -implicitDefEqProofs (maxSteps:=2000000) [*, -h])|(refine av (vo (h:=hx_)) rfl rfl ?_ ⟨rfl,rfl⟩ ?_;(·simp[*]);(try have d:=lW hx_);clear hx_;try simp -implicitDefEqProofs (maxSteps:=2000000) [*, -h]))
       )
    |(refine⟨(by first|exact aP (by assumption) (by decide) (by decide)|exact aN (by assumption) (by decide) (by decide)), ?_⟩;try simp -implicitDefEqProofs (maxSteps:=2000000) [*, -h])
    |(cases h;done)
    |(cases h;refine ed _ rfl ?_;constructor<;>simp[*]<;>exact az (by omega) (by omega) (by simp))
  refine tu [true,true,true,true,true,true,true,false,false,false,true] (fun a=> [(5, .c (.own 500 3 a.2.length)),(6, .i a.1)]) (fun(a:Int×List S69)=> [(500,some (.row 69 3 a.2.length (fl z69 eS a.2))),(110,none)]) (fun n a=>aS.l0 n a.1 a.2 _ _ _ _ _ _ _ _ _ _=some _) [(500,110)] (b0:=(0, [])) h (by constructor<;>simp[idR,mkT]) ?_
  clear h;rintro k ⟨i,all⟩ hk h
  obtain⟨k,rfl⟩:=aM (f:=fun k=>aS.l0 k _ _ _ _ _ _ _ _ _ _ _ _) (by simp only[aS.l0]) h
  simp only[aS.l0]at h
  try simp only[aF,aG,aD,aH,aI,aJ]at h
  try simp -implicitDefEqProofs (maxSteps:=2000000)
  repeat' first
      |(with_reducible (first|(replace h:=bC (by assumption) h)|(replace h:=bD (by assumption) h)|(replace h:=aY (by assumption) h)|(replace h:=aZ (by assumption) h)))
      |((with_reducible have hh:=aB h);clear h;rcases hh with⟨hc,h⟩|⟨hc,h⟩<;>have hd:=hc<;>(first|(replace hc:=dA hc)|(replace hc:=dB hc)|skip)<;>(try simp at hd)<;>(try(first|(subst hd)|(replace hd:=bG hd)|(replace hd:=eq_false hd)|(replace hd:=eq_true hd)))<;>(try simp -implicitDefEqProofs (maxSteps:=2000000) [*, -h]))
      |(with_reducible replace h:=aL h)
      | ((with_reducible have hh:=Option.bind_eq_some_iff.1 h);clear h;obtain⟨x_,hx_,h⟩:=hh;(first|(refine av (fq (h:=hx_)) rfl rfl ?_ ⟨rfl,rfl⟩ ?_;(·simp[*]);(try have d:=lW hx_);clear hx_;try simp -implicitDefEqProofs (maxSteps:=2000000) [*, -h])|(refine av (iN (h:=hx_)) rfl rfl ?_ ⟨rfl,rfl⟩ ?_;(·simp[*]);(try have d:=lW hx_);clear hx_;try simp -implicitDefEqProofs (maxSteps:=2000000) [*, -h])|(refine aC (vv (h:=hx_)) rfl rfl rfl ?_ ?_ ?_ ?_;(·simp[*]);(·simp[*]);(·constructor<;>simp);(try have d:=lW hx_);clear hx_;try simp -implicitDefEqProofs (maxSteps:=2000000) [*, -h])|(refine av (vo (h:=hx_)) rfl rfl ?_ ⟨rfl,rfl⟩ ?_;(·simp[*]);(try have d:=lW hx_);clear hx_;try simp -implicitDefEqProofs (maxSteps:=2000000) [*, -h]))
         )
      |(refine⟨(by first|exact aP (by assumption) (by decide) (by decide)|exact aN (by assumption) (by decide) (by decide)), ?_⟩;try simp -implicitDefEqProofs (maxSteps:=2000000) [*, -h])
      |(cases h;done)
      |(cases h;refine ed _ rfl ?_;constructor<;>simp[*]<;>exact az (by omega) (by omega) (by simp))
  ·exact ku [true,true,true,true,true,true,true,false,false,false,true] [(500,121)] (a:=(_,_)) (by omega) h (by constructor<;>simp[idR,mkT])
  refine tu [true,true,true,true,true,true,true,true,false,false,true,true,true,true,true,true,true,true,true,true,true,true,true,true,true,true,true] (fun a=> [(7, .b a.1)]) (fun(a:Bool×List S69)=> [(500,some (.row 69 3 all.length (fl z69 eS a.2)))]) (fun n a=>aS.l1 n a.1 a.2 _ _ _ _ _ _ _ _ _ _=some _∧a.2.length=all.length) [] (b0:=(true,all.set (Int.toNat 0) ⟨x_.1,x_.2.1,x_.2.2⟩)) ⟨h,by simp⟩ (by constructor<;>simp[idR,mkT]) ?_
  clear h;rintro k ⟨ch,al⟩ hk ⟨h,hlen⟩
  have hlen:al.length=all.length:=hlen
  obtain⟨k,rfl⟩:=aM (f:=fun k=>aS.l1 k _ _ _ _ _ _ _ _ _ _ _ _) (by simp only[aS.l1]) h
  simp only[aS.l1]at h
  try simp -implicitDefEqProofs (maxSteps:=2000000)
  repeat' first
      |(with_reducible (first|(replace h:=bC (by assumption) h)|(replace h:=bD (by assumption) h)|(replace h:=aY (by assumption) h)|(replace h:=aZ (by assumption) h)))
      |((with_reducible have hh:=aB h);clear h;rcases hh with⟨hc,h⟩|⟨hc,h⟩<;>have hd:=hc<;>(first|(replace hc:=dA hc)|(replace hc:=dB hc)|skip)<;>(try simp at hd)<;>(try(first|(subst hd)|(replace hd:=bG hd)|(replace hd:=eq_false hd)|(replace hd:=eq_true hd)))<;>(try simp -implicitDefEqProofs (maxSteps:=2000000) [*, -h]))
      |(with_reducible replace h:=aL h)
      | ((with_reducible have hh:=Option.bind_eq_some_iff.1 h);clear h;obtain⟨x_,hx_,h⟩:=hh;(first|(refine av (fq (h:=hx_)) rfl rfl ?_ ⟨rfl,rfl⟩ ?_;(·simp[*]);(try have d:=lW hx_);clear hx_;try simp -implicitDefEqProofs (maxSteps:=2000000) [*, -h])|(refine av (iN (h:=hx_)) rfl rfl ?_ ⟨rfl,rfl⟩ ?_;(·simp[*]);(try have d:=lW hx_);clear hx_;try simp -implicitDefEqProofs (maxSteps:=2000000) [*, -h])|(refine aC (vv (h:=hx_)) rfl rfl rfl ?_ ?_ ?_ ?_;(·simp[*]);(·simp[*]);(·constructor<;>simp);(try have d:=lW hx_);clear hx_;try simp -implicitDefEqProofs (maxSteps:=2000000) [*, -h])|(refine av (vo (h:=hx_)) rfl rfl ?_ ⟨rfl,rfl⟩ ?_;(·simp[*]);(try have d:=lW hx_);clear hx_;try simp -implicitDefEqProofs (maxSteps:=2000000) [*, -h]))
         )
      |(refine⟨(by first|exact aP (by assumption) (by decide) (by decide)|exact aN (by assumption) (by decide) (by decide)), ?_⟩;try simp -implicitDefEqProofs (maxSteps:=2000000) [*, -h])
      |(cases h;done)
      |(cases h;refine ed _ rfl ?_;constructor<;>simp[*]<;>exact az (by omega) (by omega) (by simp))
  · refine tu [true,true,true,true,true,true,true,true,true,false,true,true,true,true,true,true,true,true,true,true,true,true,true,true,true,true,true] (fun a=> [(7, .b a.1),(8, .i a.2.1)]) (fun(a:Bool×Int×List S69)=> [(500,some (.row 69 3 all.length (fl z69 eS a.2.2)))]) (fun n a=>aS.l2 n a.1 a.2.1 a.2.2 _ _ _ _ _ _ _ _ _ _=some _∧a.2.2.length=all.length) [] (b0:=(false,0,al)) ⟨h,hlen⟩ (by constructor<;>simp[idR,mkT]) ?_
    clear h;rintro k ⟨ch,at_,e⟩ hk ⟨h,hlen⟩
    have hlen:e.length=all.length:=hlen
    obtain⟨k,rfl⟩:=aM (f:=fun k=>aS.l2 k _ _ _ _ _ _ _ _ _ _ _ _ _) (by simp only[aS.l2]) h
    simp only[aS.l2]at h
    try simp -implicitDefEqProofs (maxSteps:=2000000)
    repeat' first
        |(with_reducible (first|(replace h:=bC (by assumption) h)|(replace h:=bD (by assumption) h)|(replace h:=aY (by assumption) h)|(replace h:=aZ (by assumption) h)))
        |((with_reducible have hh:=aB h);clear h;rcases hh with⟨hc,h⟩|⟨hc,h⟩<;>have hd:=hc<;>(first|(replace hc:=dA hc)|(replace hc:=dB hc)|skip)<;>(try simp at hd)<;>(try(first|(subst hd)|(replace hd:=bG hd)|(replace hd:=eq_false hd)|(replace hd:=eq_true hd)))<;>(try simp -implicitDefEqProofs (maxSteps:=2000000) [*, -h]))
        |(with_reducible replace h:=aL h)
        | ((with_reducible have hh:=Option.bind_eq_some_iff.1 h);clear h;obtain⟨x_,hx_,h⟩:=hh;(first|(refine av (fq (h:=hx_)) rfl rfl ?_ ⟨rfl,rfl⟩ ?_;(·simp[*]);(try have d:=lW hx_);clear hx_;try simp -implicitDefEqProofs (maxSteps:=2000000) [*, -h])|(refine av (iN (h:=hx_)) rfl rfl ?_ ⟨rfl,rfl⟩ ?_;(·simp[*]);(try have d:=lW hx_);clear hx_;try simp -implicitDefEqProofs (maxSteps:=2000000) [*, -h])|(refine aC (vv (h:=hx_)) rfl rfl rfl ?_ ?_ ?_ ?_;(·simp[*]);(·simp[*]);(·constructor<;>simp);(try have d:=lW hx_);clear hx_;try simp -implicitDefEqProofs (maxSteps:=2000000) [*, -h])|(refine av (vo (h:=hx_)) rfl rfl ?_ ⟨rfl,rfl⟩ ?_;(·simp[*]);(try have d:=lW hx_);clear hx_;try simp -implicitDefEqProofs (maxSteps:=2000000) [*, -h]))
           )
        |(refine⟨(by first|exact aP (by assumption) (by decide) (by decide)|exact aN (by assumption) (by decide) (by decide)), ?_⟩;try simp -implicitDefEqProofs (maxSteps:=2000000) [*, -h])
        |(cases h;done)
        |(cases h;refine ed _ rfl ?_;constructor<;>simp[*]<;>exact az (by omega) (by omega) (by simp))
    ·exact ku [true,true,true,true,true,true,true,true,true,false,true,true,true,true,true,true,true,true,true,true,true,true,true,true,true,true,true] [] (a:=(_,_,_)) (by omega) ⟨h,by simp[*]⟩ (by constructor<;>simp[idR,mkT, *])
    ·exact ku [true,true,true,true,true,true,true,true,true,false,true,true,true,true,true,true,true,true,true,true,true,true,true,true,true,true,true] [] (a:=(_,_,_)) (by omega) ⟨h,by simp[*]⟩ (by constructor<;>simp[idR,mkT, *])
    ·exact ku [true,true,true,true,true,true,true,true,false,false,true,true,true,true,true,true,true,true,true,true,true,true,true,true,true,true,true] [] (a:=(_,_)) (by omega) ⟨h,hlen⟩ (by constructor<;>simp[idR,mkT])
  · refine tu [true,true,true,true,true,true,true,true,true,true,true,true,true,true,true,true,true,true,true,true,true,true,true,true,true,true,true,true,true,true,true,true,true,true,true,true,true,true,true] (fun a=> [(9, .i a.1)]) (fun(a:Int×List S69)=> [(500,some (.row 69 3 all.length (fl z69 eS a.2)))]) (fun n a=>aS.l3 n a.1 a.2 _ _ _ _ _ _ _ _ _ _=some _∧a.2.length=all.length) [] (b0:=(0,al)) ⟨h,hlen⟩ (by constructor<;>simp[idR,mkT]) ?_
    clear h;rintro k ⟨at_,e⟩ hk ⟨h,hlen⟩
    have hlen:e.length=all.length:=hlen
    obtain⟨k,rfl⟩:=aM (f:=fun k=>aS.l3 k _ _ _ _ _ _ _ _ _ _ _ _) (by simp only[aS.l3]) h
    simp only[aS.l3]at h
    try simp -implicitDefEqProofs (maxSteps:=2000000)
    repeat' first
        |(with_reducible (first|(replace h:=bC (by assumption) h)|(replace h:=bD (by assumption) h)|(replace h:=aY (by assumption) h)|(replace h:=aZ (by assumption) h)))
        |((with_reducible have hh:=aB h);clear h;rcases hh with⟨hc,h⟩|⟨hc,h⟩<;>have hd:=hc<;>(first|(replace hc:=dA hc)|(replace hc:=dB hc)|skip)<;>(try simp at hd)<;>(try(first|(subst hd)|(replace hd:=bG hd)|(replace hd:=eq_false hd)|(replace hd:=eq_true hd)))<;>(try simp -implicitDefEqProofs (maxSteps:=2000000) [*, -h]))
        |(with_reducible replace h:=aL h)
        | ((with_reducible have hh:=Option.bind_eq_some_iff.1 h);clear h;obtain⟨x_,hx_,h⟩:=hh;(first|(refine av (fq (h:=hx_)) rfl rfl ?_ ⟨rfl,rfl⟩ ?_;(·simp[*]);(try have d:=lW hx_);clear hx_;try simp -implicitDefEqProofs (maxSteps:=2000000) [*, -h])|(refine av (iN (h:=hx_)) rfl rfl ?_ ⟨rfl,rfl⟩ ?_;(·simp[*]);(try have d:=lW hx_);clear hx_;try simp -implicitDefEqProofs (maxSteps:=2000000) [*, -h])|(refine aC (vv (h:=hx_)) rfl rfl rfl ?_ ?_ ?_ ?_;(·simp[*]);(·simp[*]);(·constructor<;>simp);(try have d:=lW hx_);clear hx_;try simp -implicitDefEqProofs (maxSteps:=2000000) [*, -h])|(refine av (vo (h:=hx_)) rfl rfl ?_ ⟨rfl,rfl⟩ ?_;(·simp[*]);(try have d:=lW hx_);clear hx_;try simp -implicitDefEqProofs (maxSteps:=2000000) [*, -h]))
           )
        |(refine⟨(by first|exact aP (by assumption) (by decide) (by decide)|exact aN (by assumption) (by decide) (by decide)), ?_⟩;try simp -implicitDefEqProofs (maxSteps:=2000000) [*, -h])
        |(cases h;done)
        |(cases h;refine ed _ rfl ?_;constructor<;>simp[*]<;>exact az (by omega) (by omega) (by simp))
    ·exact ku [true,true,true,true,true,true,true,true,true,true,true,true,true,true,true,true,true,true,true,true,true,true,true,true,true,true,true,true,true,true,true,true,true,true,true,true,true,true,true] [] (a:=(_,_)) (by omega) ⟨h,hlen⟩ (by constructor<;>simp[idR,mkT])
    · have e9:=r9 (xs:=e) (i:=at_) (a:=x_.1) (b:=x_.2.1) (c:=x_.2.2) (by assumption) (by assumption)
      refine⟨by rw[←hlen];assumption, ?_⟩
      exact ku [true,true,true,true,true,true,true,true,true,true,true,true,true,true,true,true,true,true,true,true,true,true,true,true,true,true,true,true,true,true,true,true,true,true,true,true,true,true,true] [] (a:=(_,_)) (by omega) ⟨h,by simp[hlen]⟩ (by constructor<;>simp[idR,mkT,e9])
end Go.Proofs.Ytojpejfcafbafaa.V
end
section
namespace Go.Proofs.Ytojpejfcafbafaa.V
open Go Go.RowKit Go.Proofs.Ytojpejfcafbafaa.P
set_option linter.unusedVariables false
set_option linter.unusedSimpArgs false
attribute [local simp ↓] eG eH fQ fT eO dM fZ eP eQ gm gp gq dN dO dP gB gz gG gF dQ bW dV cz dJ dR eT eU eX
attribute [local simp] fU fV dK bR eF dL bS bT bU bV bM bN dS eY dU bX bY bZ cu bO fD lM iL dz iw evl dI eZ fu kD iX List.range List.range.loop lT kX fo fB iC iA Bs.live Bs.get lN WkV WkA WkC lg lH kY lD cZ iM TEq.refl bg fH qQ aF aG aD aH aI aJ ei d9 splice dE Bs.set kU fC Rn.at gu gy iF iD lL chunks lC fP toT fE iE rowsOf cB ik plR plV plC lF lI lQ lh fI iR lU
attribute [local simp] List.length_pos_iff qR qU iG iH iI puts dh
attribute [local simp ←] ig
attribute [local simp] ksL ru ksV rV ksC ksT ren kr rO rH dw bsC wF bsV vJ uo uX uY uq ut uu uw sO sP sQ sS sU r9 sV fF dW dx iW iB iO iQ lS rG closedB iT kP kG kH kJ kL iJ kN
attribute [local simp] ag3 un3 sz3 in3 by3 ze3 ct3 zt3 zu3 ag4 un4 sz4 in4 by4 ze4 ct4 zt4 zu4 ag5 un5 sz5 in5 by5 ze5 ct5 zt5 zu5 mi mq mD mE mF mG mH mI mJ io3 mK io5 bo4 mM mO mP mQ mR mU mV mW mX mY mZ ng ni nk nu ny nz nA nC nD nE nG nH nI nJ nK nL nM nN nO nP nQ nR nS nT nU nV nW nX nY nZ oh ol om oo oq ou ow oz oC oD oF oG oH oI oJ oK oL oM oN oO oP oQ oU oV oW oZ o6 o7 o8 iZ ja jb jc jd je jf jg jh ji jk jl jm jo jq jr jv jw jy jA o9 pg pu pz pE pF pG pI pJ pK jB jC jD jE jF jG jH jI jJ jK jL jM jN jO jP jQ jR jS jT jU jV jW jX jY jZ kg ko mz gH gI gJ gK gL gN gP gQ gT gU gV gW gX gY gZ ib pO pQ pR pU pV pW pX pY p9 qa qb qc qd qf qg qh qi qj ql qm qo qp qw qx qy qz qA qB qC qD qE qF qG qH qI qJ qK qL qM qN qO qP mix
attribute [local simp] eb eC eI eS eK eM nm
set_option maxRecDepth 20000 in
set_option maxHeartbeats 4000000 in
theorem iq (k:Nat) (u:List (S41)) (v:List (S35)) (c:Int) (d:Int) (g:List Int) (j:Int) (m:Int) (o:List (S67)) (w:List (S69)) (q:List (S73)) (r:Int×Int×List Int×Int×Int×(List (S67))×(List (S69))×(List (S73))) (h:kT.f k u v c d g j m o w q=some r):iU Try.prog 40 [.agg [.t (tC u), .t (tM v)], .agg [.t (.i c), .t (.i d), .t (.ints g), .t (.i j), .t (.i m), .t (tI o), .t (tS w), .t (tK q)]] (.agg [.t (.i r.1), .t (.i r.2.1), .t (.ints (r.2.2.1)), .t (.i r.2.2.2.1), .t (.i r.2.2.2.2.1), .t (tI (r.2.2.2.2.2.1)), .t (tS (r.2.2.2.2.2.2.1)), .t (tK (r.2.2.2.2.2.2.2))]):=by
  unfold kT.f at h
  try simp only[aF,aG,aD,aH,aI,aJ]at h
  refine bF Try.func40 rfl rfl rfl ?_
  try simp -implicitDefEqProofs (maxSteps:=2000000)
  repeat' first
    |(show ek _ _ 5 _ _ _ _;refine aT (by decide) [[], [0], [], [2], [1,3,2,0], [0,1,2,3,4], [5,4,0,1,2,3]] [15,16,17,18,19,20,0] [0,1,2,3,4,5,6] (by kernel_rfl) ?_;try simp -implicitDefEqProofs (maxSteps:=2000000) [*, -h,aj,ah,ae,ai,ak,au,af,Op.operands,Call.operands])
    |(with_reducible (first|(replace h:=bC (by assumption) h)|(replace h:=bD (by assumption) h)|(replace h:=aY (by assumption) h)|(replace h:=aZ (by assumption) h)))
    |((with_reducible have hh:=aB h);clear h;rcases hh with⟨hc,h⟩|⟨hc,h⟩<;>have hd:=hc<;>(first|(replace hc:=dA hc)|(replace hc:=dB hc)|skip)<;>(try simp at hd)<;>(first|exact absurd hd (of_eq_false (by assumption))|exact absurd (of_eq_true (by assumption)) hd|skip)<;>(try(first|(subst hd)|(replace hd:=bG hd)|(replace hd:=eq_false hd)|(replace hd:=eq_true hd)))<;>(try simp -implicitDefEqProofs (maxSteps:=2000000) [*, -h,aj,ah,ae,ai,ak,au,af,Op.operands,Call.operands]))
    |(with_reducible replace h:=aL h)
    | ((with_reducible have hh:=Option.bind_eq_some_iff.1 h);clear h;obtain⟨x_,hx_,h⟩:=hh;(first|(refine av (fq (h:=hx_)) rfl rfl ?_ ⟨rfl,rfl⟩ ?_;(·simp[*]);clear hx_;try simp -implicitDefEqProofs (maxSteps:=2000000) [*, -h,aj,ah,ae,ai,ak,au,af,Op.operands,Call.operands])|(refine bf (fq (h:=hx_)) rfl rfl ?_ ⟨rfl,rfl⟩ rfl ?_;(·simp[*]);clear hx_;try simp -implicitDefEqProofs (maxSteps:=2000000) [*, -h,aj,ah,ae,ai,ak,au,af,Op.operands,Call.operands])|(refine aC (vH (h:=hx_)) rfl rfl rfl ?_ ?_ ?_ ?_;(·simp[*]);(·simp[*]);(·constructor<;>simp);clear hx_;try simp -implicitDefEqProofs (maxSteps:=2000000) [*, -h,aj,ah,ae,ai,ak,au,af,Op.operands,Call.operands])|(refine bI (vH (h:=hx_)) rfl rfl rfl ?_ ?_ ?_ ?_ ?_;(·simp[*]);(·simp[*]);(·constructor<;>simp);(·rfl);clear hx_;try simp -implicitDefEqProofs (maxSteps:=2000000) [*, -h,aj,ah,ae,ai,ak,au,af,Op.operands,Call.operands]))
       )
    |(refine⟨(by first|exact aP (by assumption) (by decide) (by decide)|exact aN (by assumption) (by decide) (by decide)), ?_⟩;try simp -implicitDefEqProofs (maxSteps:=2000000) [*, -h,aj,ah,ae,ai,ak,au,af,Op.operands,Call.operands])
    |(cases h;done)
    |(cases h;refine aV _ ?_ ⟨rfl,rfl⟩;simp[*]<;>exact az (by omega) (by omega) (by simp))
    |(exfalso;clear h;simp_all;done)
  refine tu [true,true,true,true,true,true,true,true] (fun a=> [(5, .i a.1)]) (fun(a:Int×List S69)=> [(500,some (.row 69 3 a.2.length (fl z69 eS a.2))),(106,none),(103,some (.box 35 [.t (.i c), .t (.i d), .t (.ints g), .t (.i j), .t (.i m), .t (tI o), .own 500 3 a.2.length, .t (tK q)]))]) (fun n a=>kT.l0 n a.1 a.2 _ _ _ _ _ _ _ _ _=some _) [(500,106)] (b0:=(0, [])) h (by constructor<;>simp[idR,mkT]) ?_
  clear h;rintro k ⟨i,sh⟩ hk h
  obtain⟨k,rfl⟩:=aM (f:=fun k=>kT.l0 k _ _ _ _ _ _ _ _ _ _ _) (by simp only[kT.l0]) h
  simp only[kT.l0]at h
  try simp -implicitDefEqProofs (maxSteps:=2000000)
  repeat' first
      |(show ek _ _ 5 _ _ _ _;refine aT (by decide) [[], [0], [], [2], [1,3,2,0], [0,1,2,3,4], [5,4,0,1,2,3]] [15,16,17,18,19,20,0] [0,1,2,3,4,5,6] (by kernel_rfl) ?_;try simp -implicitDefEqProofs (maxSteps:=2000000) [*, -h,aj,ah,ae,ai,ak,au,af,Op.operands,Call.operands])
      |(with_reducible (first|(replace h:=bC (by assumption) h)|(replace h:=bD (by assumption) h)|(replace h:=aY (by assumption) h)|(replace h:=aZ (by assumption) h)))
      |((with_reducible have hh:=aB h);clear h;rcases hh with⟨hc,h⟩|⟨hc,h⟩<;>have hd:=hc<;>(first|(replace hc:=dA hc)|(replace hc:=dB hc)|skip)<;>(try simp at hd)<;>(first|exact absurd hd (of_eq_false (by assumption))|exact absurd (of_eq_true (by assumption)) hd|skip)<;>(try(first|(subst hd)|(replace hd:=bG hd)|(replace hd:=eq_false hd)|(replace hd:=eq_true hd)))<;>(try simp -implicitDefEqProofs (maxSteps:=2000000) [*, -h,aj,ah,ae,ai,ak,au,af,Op.operands,Call.operands]))
      |(with_reducible replace h:=aL h)
      | ((with_reducible have hh:=Option.bind_eq_some_iff.1 h);clear h;obtain⟨x_,hx_,h⟩:=hh;(first|(refine av (fq (h:=hx_)) rfl rfl ?_ ⟨rfl,rfl⟩ ?_;(·simp[*]);clear hx_;try simp -implicitDefEqProofs (maxSteps:=2000000) [*, -h,aj,ah,ae,ai,ak,au,af,Op.operands,Call.operands])|(refine bf (fq (h:=hx_)) rfl rfl ?_ ⟨rfl,rfl⟩ rfl ?_;(·simp[*]);clear hx_;try simp -implicitDefEqProofs (maxSteps:=2000000) [*, -h,aj,ah,ae,ai,ak,au,af,Op.operands,Call.operands])|(refine aC (vH (h:=hx_)) rfl rfl rfl ?_ ?_ ?_ ?_;(·simp[*]);(·simp[*]);(·constructor<;>simp);clear hx_;try simp -implicitDefEqProofs (maxSteps:=2000000) [*, -h,aj,ah,ae,ai,ak,au,af,Op.operands,Call.operands])|(refine bI (vH (h:=hx_)) rfl rfl rfl ?_ ?_ ?_ ?_ ?_;(·simp[*]);(·simp[*]);(·constructor<;>simp);(·rfl);clear hx_;try simp -implicitDefEqProofs (maxSteps:=2000000) [*, -h,aj,ah,ae,ai,ak,au,af,Op.operands,Call.operands]))
         )
      |(refine⟨(by first|exact aP (by assumption) (by decide) (by decide)|exact aN (by assumption) (by decide) (by decide)), ?_⟩;try simp -implicitDefEqProofs (maxSteps:=2000000) [*, -h,aj,ah,ae,ai,ak,au,af,Op.operands,Call.operands])
      |(cases h;done)
      |(cases h;refine aV _ ?_ ⟨rfl,rfl⟩;simp[*]<;>exact az (by omega) (by omega) (by simp))
      |(exfalso;clear h;simp_all;done)
  ·exact ku [true,true,true,true,true,true,true,true] [(500,119)] (a:=(_,_)) (by omega) h (by constructor<;>simp[idR,mkT])
  have hh:=Option.bind_eq_some_iff.1 h
  clear h;obtain⟨x_,hx_,h⟩:=hh
  refine K4 [69] (vH (h:=hx_)) rfl rfl rfl rfl ?_ ?_ ?_ ?_ ?_
  ·simp
  ·simp
  ·constructor<;>simp
  · constructor
    ·simp[vM]
    ·simp[NoV,NoA,NoC]
    · intro p hp b hb e he
      simp at hp he;subst hp;subst he;cases hb
      exact Oo (by decide)
  clear hx_
  simp -implicitDefEqProofs (maxSteps:=2000000)
  cases h;refine aV _ ?_ ⟨rfl,rfl⟩;simp
end Go.Proofs.Ytojpejfcafbafaa.V
end
section
namespace Go.Proofs.Ytojpejfcafbafaa.V
open Go Go.RowKit Go.Proofs.Ytojpejfcafbafaa.P
set_option linter.unusedVariables false
set_option linter.unusedSimpArgs false
attribute [local simp ↓] eG eH fQ fT eO dM fZ eP eQ gm gp gq dN dO dP gB gz gG gF dQ bW dV cz dJ dR eT eU eX
attribute [local simp] fU fV dK bR eF dL bS bT bU bV bM bN dS eY dU bX bY bZ cu bO fD lM iL dz iw evl dI eZ fu kD iX List.range List.range.loop lT kX fo fB iC iA Bs.live Bs.get lN WkV WkA WkC lg lH kY lD cZ iM TEq.refl bg fH qQ aF aG aD aH aI aJ ei d9 splice dE Bs.set kU fC Rn.at gu gy iF iD lL chunks lC fP toT fE iE rowsOf cB ik plR plV plC lF lI lQ lh fI iR lU
attribute [local simp] List.length_pos_iff qR qU iG iH iI puts dh
attribute [local simp ←] ig
attribute [local simp] ksL ru ksV rV ksC ksT ren kr rO rH dw uo uX uY uq ut uu uw sO sP sQ sS sU r9 sV fF dW dx iW iB iO iQ lS rG closedB iT kP kG kH kJ kL iJ kN
attribute [local simp] ag3 un3 sz3 in3 by3 ze3 ct3 zt3 zu3 ag4 un4 sz4 in4 by4 ze4 ct4 zt4 zu4 ag5 un5 sz5 in5 by5 ze5 ct5 zt5 zu5 mi mq mD mE mF mG mH mI mJ io3 mK io5 bo4 mM mO mP mQ mR mU mV mW mX mY mZ ng ni nk nu ny nz nA nC nD nE nG nH nI nJ nK nL nM nN nO nP nQ nR nS nT nU nV nW nX nY nZ oh ol om oo oq ou ow oz oC oD oF oG oH oI oJ oK oL oM oN oO oP oQ oU oV oW oZ o6 o7 o8 iZ ja jb jc jd je jf jg jh ji jk jl jm jo jq jr jv jw jy jA o9 pg pu pz pE pF pG pI pJ pK jB jC jD jE jF jG jH jI jJ jK jL jM jN jO jP jQ jR jS jT jU jV jW jX jY jZ kg ko mz gH gI gJ gK gL gN gP gQ gT gU gV gW gX gY gZ ib pO pQ pR pU pV pW pX pY p9 qa qb qc qd qf qg qh qi qj ql qm qo qp qw qx qy qz qA qB qC qD qE qF qG qH qI qJ qK qL qM qN qO qP mix
attribute [local simp] eb eC eI eS eK eM nm
set_option maxRecDepth 20000 in
set_option maxHeartbeats 4000000 in
theorem lV (k:Nat) (a:List Int) (d:Int) (e:Int) (g:Int) (j:List Int) (m:Int) (n:Int) (o:List (S67)) (p:List (S69)) (q:List (S73)) (r:(List (S67))×Int) (h:wQ.f k a d e g j m n o p q=some r):uL Try.prog 39 [.c (.ptr 0 0 0), .agg [.t (.i e), .t (.i g), .t (.ints j), .t (.i m), .t (.i n), .t (tI o), .t (tS p), .t (tK q)]] [(0,some (rdB a d))] (.c (.t (tI r.1))) [(0,some (rdB a (r.2)))]:=by
  unfold wQ.f at h
  try simp only[aF,aG,aD,aH,aI,aJ]at h
  refine bF Try.func39 rfl rfl rfl ?_
  try simp -implicitDefEqProofs (maxSteps:=2000000)
  repeat' first
    |(with_reducible (first|(replace h:=bC (by assumption) h)|(replace h:=bD (by assumption) h)|(replace h:=aY (by assumption) h)|(replace h:=aZ (by assumption) h)))
    |((with_reducible have hh:=aB h);clear h;rcases hh with⟨hc,h⟩|⟨hc,h⟩<;>have hd:=hc<;>(first|(replace hc:=dA hc)|(replace hc:=dB hc)|skip)<;>(try simp at hd)<;>(try(first|(subst hd)|(replace hd:=bG hd)|(replace hd:=eq_false hd)|(replace hd:=eq_true hd)))<;>(try simp -implicitDefEqProofs (maxSteps:=2000000) [*, -h]))
    |(with_reducible replace h:=aL h)
    | ((with_reducible have hh:=Option.bind_eq_some_iff.1 h);clear h;obtain⟨x_,hx_,h⟩:=hh;(first|(refine aC (Ad (h:=hx_)) rfl rfl rfl ?_ ?_ ?_ ?_;(·simp[*]);(·simp[*]);(·constructor<;>simp);clear hx_;try simp -implicitDefEqProofs (maxSteps:=2000000) [*, -h])|(refine aC (aO (h:=hx_)) rfl rfl rfl ?_ ?_ ?_ ?_;(·simp[*]);(·simp[*]);(·constructor<;>simp);clear hx_;try simp -implicitDefEqProofs (maxSteps:=2000000) [*, -h]))
       )
    |(refine⟨(by first|exact aP (by assumption) (by decide) (by decide)|exact aN (by assumption) (by decide) (by decide)), ?_⟩;try simp -implicitDefEqProofs (maxSteps:=2000000) [*, -h])
    |(cases h;done)
    |(cases h;refine ed _ rfl ?_;constructor<;>simp[*]<;>exact az (by omega) (by omega) (by simp))
    |(exfalso;clear h;simp_all;done)
end Go.Proofs.Ytojpejfcafbafaa.V
end
