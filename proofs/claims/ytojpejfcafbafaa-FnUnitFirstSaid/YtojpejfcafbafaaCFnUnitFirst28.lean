/- A part of the claim FnUnitFirst. -/
import Derived.Test.YtojpejfcafbafaaCFnUnitFirst27
section
namespace Go.Proofs.Ytojpejfcafbafaa.V
open Go Go.RowKit Go.Proofs.Ytojpejfcafbafaa.P
set_option linter.unusedVariables false
set_option linter.unusedSimpArgs false
attribute [local simp ↓] eG eH fQ fT eO dM fZ eP eQ gm gp gq dN dO dP gB gz gG gF dQ bW dV cz dJ dR eT eU eX
attribute [local simp] fU fV dK bR eF dL bS bT bU bV bM bN dS eY dU bX bY bZ cu bO fD lM iL dz iw evl dI eZ fu kD iX List.range List.range.loop lT kX fo fB iC iA Bs.live Bs.get lN WkV WkA WkC lg lH kY lD cZ iM TEq.refl bg fH qQ aF aG aD aH aI aJ ei d9 splice dE Bs.set kU fC Rn.at gu gy iF iD lL chunks lC fP toT fE iE rowsOf cB ik plR plV plC lF lI lQ lh fI iR lU
attribute [local simp] List.length_pos_iff qR qU iG iH iI puts dh
attribute [local simp ←] ig
attribute [local simp] ksL ru ksV rV ksC ksT ren kr rO rH dw fF dW dx iW iB iO iQ lS rG closedB iT kP kG kH kJ kL iJ kN
attribute [local simp] ag3 un3 sz3 in3 by3 ze3 ct3 zt3 zu3 ag4 un4 sz4 in4 by4 ze4 ct4 zt4 zu4 ag5 un5 sz5 in5 by5 ze5 ct5 zt5 zu5 mi mq mD mE mF mG mH mI mJ io3 mK io5 bo4 mM mO mP mQ mR mU mV mW mX mY mZ ng ni nk nu ny nz nA nC nD nE nG nH nI nJ nK nL nM nN nO nP nQ nR nS nT nU nV nW nX nY nZ oh ol om oo oq ou ow oz oC oD oF oG oH oI oJ oK oL oM oN oO oP oQ oU oV oW oZ o6 o7 o8 iZ ja jb jc jd je jf jg jh ji jk jl jm jo jq jr jv jw jy jA o9 pg pu pz pE pF pG pI pJ pK jB jC jD jE jF jG jH jI jJ jK jL jM jN jO jP jQ jR jS jT jU jV jW jX jY jZ kg ko mz gH gI gJ gK gL gN gP gQ gT gU gV gW gX gY gZ ib pO pQ pR pU pV pW pX pY p9 qa qb qc qd qf qg qh qi qj ql qm qo qp qw qx qy qz qA qB qC qD qE qF qG qH qI qJ qK qL qM qN qO qP mix
attribute [local simp] eb eC eI eS eK eM nm
set_option maxRecDepth 20000 in
set_option maxHeartbeats 4000000 in
theorem Ab (k:Nat) (a:List (S41)) (d:List (S35)) (e:Int) (g:Int) (j:Int) (m:Bool) (n:List Int) (o:List Int) (r:Bool×List Int×List Int×Bool) (h:rD.f k a d e g j m n o=some r):iU Try.prog 82 [.agg [.t (tC a), .t (tM d)], .agg [.t (.i e), .t (.i g), .t (.i j)], .agg [.t (.b m), .t (.ints n), .t (.ints o)]] (.tup [.agg [.t (.b r.1), .t (.ints (r.2.1)), .t (.ints (r.2.2.1))], .c (.t (.b r.2.2.2))]):=by
  unfold rD.f at h
  try simp only[aF,aG,aD,aH,aI,aJ]at h
  refine bF Try.func82 rfl rfl rfl ?_
  try simp (maxSteps:=2000000)
  repeat' first
    |(show ek _ _ 8 _ _ _ _;refine aT (by decide) [[], [0], [], [], [], [4], [], [5,6,4], [7,5,6,4], [8,7,5,6,4], [3,9,8,7,5,6,4], [1,2,10,0,3,9,8,7,5,6,4], [11,1,2,10,0,3,9,8,7,5,6,4], [12,11,1,2,10,0,3,9,8,7,5,6,4], [12,11,1,2,10,0,3,9,8,7,5,6,4], [13,11,0,1,2,3,4,5,6,7,8,9,10,12], [14,15,0,1,2,3,4,5,6,7,8,9,10,11,12,13]] [33,34,35,36,37,38,39,40,41,42,43,44,32,45,46,0,10] [0,1,2,3,4,5,6,7,8,9,10,11,12,13,14,15,16] (by kernel_rfl) ?_;try simp (maxSteps:=2000000) [*, -h,aj,ah,ae,ai,ak,au,af,Op.operands,Call.operands])
    |(show ek _ _ 9 _ _ _ _;refine aT (by decide) [[], [], [1], [], [2,3,1], [4,2,3,1], [5,4,2,3,1], [], [0,6,7,5,4,2,3,1], [8,0,6,7,5,4,2,3,1], [8,0,6,7,5,4,2,3,1], [9,8,0,1,2,3,4,5,6,7,10], [10,11,0,1,2,3,4,5,6,7,8,9]] [47,48,49,50,51,52,53,54,55,56,57,0,7] [0,1,2,3,4,5,6,7,8,9,10,11,12] (by kernel_rfl) ?_;try simp (maxSteps:=2000000) [*, -h,aj,ah,ae,ai,ak,au,af,Op.operands,Call.operands])
    |(with_reducible (first|(replace h:=bC (by assumption) h)|(replace h:=bD (by assumption) h)|(replace h:=aY (by assumption) h)|(replace h:=aZ (by assumption) h)))
    |((with_reducible have hh:=aB h);clear h;rcases hh with⟨hc,h⟩|⟨hc,h⟩<;>have hd:=hc<;>(first|(replace hc:=dA hc)|(replace hc:=dB hc)|skip)<;>(try simp at hd)<;>(try(first|(subst hd)|(replace hd:=bG hd)|(replace hd:=eq_false hd)|(replace hd:=eq_true hd)))<;>(try simp (maxSteps:=2000000) [*, -h,aj,ah,ae,ai,ak,au,af,Op.operands,Call.operands]))
    |(with_reducible replace h:=aL h)
    | ((with_reducible have hh:=Option.bind_eq_some_iff.1 h);clear h;obtain⟨x_,hx_,h⟩:=hh;(first|(refine aC (sH (h:=hx_)) rfl rfl rfl ?_ ?_ ?_ ?_;(·simp);(·simp[*]);(·constructor<;>simp);clear hx_;try simp (maxSteps:=2000000) [*, -h,aj,ah,ae,ai,ak,au,af,Op.operands,Call.operands])|(refine bI (sH (h:=hx_)) rfl rfl rfl ?_ ?_ ?_ ?_ ?_;(·simp);(·simp[*]);(·constructor<;>simp);(·rfl);clear hx_;try simp (maxSteps:=2000000) [*, -h,aj,ah,ae,ai,ak,au,af,Op.operands,Call.operands])|(refine av (tO (h:=hx_)) rfl rfl ?_ ⟨rfl,rfl⟩ ?_;(·simp[*]);clear hx_;try simp (maxSteps:=2000000) [*, -h,aj,ah,ae,ai,ak,au,af,Op.operands,Call.operands])|(refine bf (tO (h:=hx_)) rfl rfl ?_ ⟨rfl,rfl⟩ rfl ?_;(·simp[*]);clear hx_;try simp (maxSteps:=2000000) [*, -h,aj,ah,ae,ai,ak,au,af,Op.operands,Call.operands])|(refine av (A8 (h:=hx_)) rfl rfl ?_ ⟨rfl,rfl⟩ ?_;(·simp[*]);clear hx_;try simp (maxSteps:=2000000) [*, -h,aj,ah,ae,ai,ak,au,af,Op.operands,Call.operands])|(refine bf (A8 (h:=hx_)) rfl rfl ?_ ⟨rfl,rfl⟩ rfl ?_;(·simp[*]);clear hx_;try simp (maxSteps:=2000000) [*, -h,aj,ah,ae,ai,ak,au,af,Op.operands,Call.operands]))
       )
    |(obtain⟨k,rfl⟩:=aM (f:=fun k=>rD.j0 k _ _ _ _ _ _ _) (by simp only[rD.j0]) h;simp only[rD.j0]at h;try simp only[aF,aG,aD,aH,aI,aJ]at h)
    |(refine⟨(by first|exact aP (by assumption) (by decide) (by decide)|exact aN (by assumption) (by decide) (by decide)), ?_⟩;try simp (maxSteps:=2000000) [*, -h,aj,ah,ae,ai,ak,au,af,Op.operands,Call.operands])
    |(cases h;done)
    |(cases h;refine aV _ ?_ ⟨rfl,rfl⟩;simp[*]<;>exact az (by omega) (by omega) (by simp))
set_option maxRecDepth 20000 in
set_option maxHeartbeats 4000000 in
theorem DU (k:Nat) (l0:List (S41)) (a:Int) (d:Int) (e:Int) (g:Bool) (j:List Int) (m:List Int) (r:Bool×List Int×List Int×Bool) (h:kv.f k l0 a d e g j m=some r) (hy:a≠4):iU Try.prog 84 [.c (.t (tC l0)), .agg [.t (.i a), .t (.i d), .t (.i e)], .agg [.t (.b g), .t (.ints j), .t (.ints m)]] (.tup [.agg [.t (.b r.1), .t (.ints (r.2.1)), .t (.ints (r.2.2.1))], .c (.t (.b r.2.2.2))]):=by
  unfold kv.f at h
  try simp only[aF,aG,aD,aH,aI,aJ]at h
  refine bF Try.func84 rfl rfl rfl ?_
  try simp (maxSteps:=2000000)
  repeat' first
    |(show ek _ _ 8 _ _ _ _;refine aT (by decide) [[], [], [1], [], [3], [2,4,1,3], [5,2,4,1,3], [0,6,5,2,4,1,3], [7,0,6,5,2,4,1,3], [7,0,6,5,2,4,1,3], [8,7,0,1,2,3,4,5,6,9], [9,10,0,1,2,3,4,5,6,7,8]] [30,31,32,33,34,35,36,37,38,39,0,7] [0,1,2,3,4,5,6,7,8,9,10,11] (by kernel_rfl) ?_;try simp (maxSteps:=2000000) [*, -h,aj,ah,ae,ai,ak,au,af,Op.operands,Call.operands])
    |(show ek _ _ 12 _ _ _ _;refine aT (by decide) [[], [0], [], [2], [], [4], [], [6], [5,7,4,6], [8,5,7,4,6], [1,3,0,2,4,5,6,7,8,9], [10,9,0,1,2,3,4,5,6,7,8]] [45,46,47,48,49,50,51,52,53,54,55,0] [0,1,2,3,4,5,6,7,8,9,10,11] (by kernel_rfl) ?_;try simp (maxSteps:=2000000) [*, -h,aj,ah,ae,ai,ak,au,af,Op.operands,Call.operands])
    |(show ek _ _ 20 _ _ _ _;refine aT (by decide) [[], [], [1], [], [3], [2,4,1,3], [5,2,4,1,3], [0,6,5,2,4,1,3], [7,0,6,5,2,4,1,3], [7,0,6,5,2,4,1,3], [8,7,0,1,2,3,4,5,6,9], [9,10,0,1,2,3,4,5,6,7,8]] [76,77,78,79,80,81,82,83,84,85,0,7] [0,1,2,3,4,5,6,7,8,9,10,11] (by kernel_rfl) ?_;try simp (maxSteps:=2000000) [*, -h,aj,ah,ae,ai,ak,au,af,Op.operands,Call.operands])
    |(with_reducible (first|(replace h:=bC (by assumption) h)|(replace h:=bD (by assumption) h)|(replace h:=aY (by assumption) h)|(replace h:=aZ (by assumption) h)))
    |((with_reducible have hh:=aB h);clear h;rcases hh with⟨hc,h⟩|⟨hc,h⟩<;>have hd:=hc<;>(first|(replace hc:=dA hc)|(replace hc:=dB hc)|skip)<;>(try simp at hd)<;>(try(first|(subst hd)|(replace hd:=bG hd)|(replace hd:=eq_false hd)|(replace hd:=eq_true hd)))<;>(try simp (maxSteps:=2000000) [*, -h,aj,ah,ae,ai,ak,au,af,Op.operands,Call.operands]))
    |(with_reducible replace h:=aL h)
    | ((with_reducible have hh:=Option.bind_eq_some_iff.1 h);clear h;obtain⟨x_,hx_,h⟩:=hh;(first|(refine aC (sH (h:=hx_)) rfl rfl rfl ?_ ?_ ?_ ?_;(·simp);(·simp[*]);(·constructor<;>simp);clear hx_;try simp (maxSteps:=2000000) [*, -h,aj,ah,ae,ai,ak,au,af,Op.operands,Call.operands])|(refine bI (sH (h:=hx_)) rfl rfl rfl ?_ ?_ ?_ ?_ ?_;(·simp);(·simp[*]);(·constructor<;>simp);(·rfl);clear hx_;try simp (maxSteps:=2000000) [*, -h,aj,ah,ae,ai,ak,au,af,Op.operands,Call.operands])|(refine av (tO (h:=hx_)) rfl rfl ?_ ⟨rfl,rfl⟩ ?_;(·simp[*]);clear hx_;try simp (maxSteps:=2000000) [*, -h,aj,ah,ae,ai,ak,au,af,Op.operands,Call.operands])|(refine bf (tO (h:=hx_)) rfl rfl ?_ ⟨rfl,rfl⟩ rfl ?_;(·simp[*]);clear hx_;try simp (maxSteps:=2000000) [*, -h,aj,ah,ae,ai,ak,au,af,Op.operands,Call.operands]))
       )
    |(obtain⟨k,rfl⟩:=aM (f:=fun k=>kv.j0 k _ _ _ _ _ _) (by simp only[kv.j0]) h;simp only[kv.j0]at h;try simp only[aF,aG,aD,aH,aI,aJ]at h)
    |(exact(hy rfl).elim)
    |(simp at hy;done)
    |(refine⟨(by first|exact aP (by assumption) (by decide) (by decide)|exact aN (by assumption) (by decide) (by decide)), ?_⟩;try simp (maxSteps:=2000000) [*, -h,aj,ah,ae,ai,ak,au,af,Op.operands,Call.operands])
    |(cases h;done)
    |(cases h;refine aV _ ?_ ⟨rfl,rfl⟩;simp[*]<;>exact az (by omega) (by omega) (by simp))
set_option maxRecDepth 20000 in
set_option maxHeartbeats 4000000 in
theorem Dl (k:Nat) (l0:List (S41)) (d:Int) (e:Int) (g:Int) (j:Bool) (a:List Int) (m:List Int) (r:Bool×List Int×List Int×Bool) (h:kv.f k l0 d e g j a m=some r) (hy:d=4):uL Try.prog 84 [.c (.t (tC l0)), .agg [.t (.i d), .t (.i e), .t (.i g)], .agg [.t (.b j), .own 0 1 a.length, .t (.ints m)]] [(0,some (.row 3 1 a.length (fl 0 ei a)))] (.tup [.agg [.t (.b r.1), .own 0 1 (r.2.1).length, .t (.ints (r.2.2.1))], .c (.t (.b r.2.2.2))]) [(0,some (.row 3 1 (r.2.1).length (fl 0 ei (r.2.1))))]:=by
  unfold kv.f at h
  try simp only[aF,aG,aD,aH,aI,aJ]at h
  refine bF Try.func84 rfl rfl rfl ?_
  try simp (maxSteps:=2000000)
  repeat' first
    |(show ek _ _ 8 _ _ _ _;refine aT (by decide) [[], [], [1], [], [3], [2,4,1,3], [5,2,4,1,3], [0,6,5,2,4,1,3], [7,0,6,5,2,4,1,3], [7,0,6,5,2,4,1,3], [8,7,0,1,2,3,4,5,6,9], [9,10,0,1,2,3,4,5,6,7,8]] [30,31,32,33,34,35,36,37,38,39,0,7] [0,1,2,3,4,5,6,7,8,9,10,11] (by kernel_rfl) ?_;try simp (maxSteps:=2000000) [*, -h,aj,ah,ae,ai,ak,au,af,Op.operands,Call.operands])
    |(show ek _ _ 12 _ _ _ _;refine aT (by decide) [[], [0], [], [2], [], [4], [], [6], [5,7,4,6], [8,5,7,4,6], [1,3,0,2,4,5,6,7,8,9], [10,9,0,1,2,3,4,5,6,7,8]] [45,46,47,48,49,50,51,52,53,54,55,0] [0,1,2,3,4,5,6,7,8,9,10,11] (by kernel_rfl) ?_;try simp (maxSteps:=2000000) [*, -h,aj,ah,ae,ai,ak,au,af,Op.operands,Call.operands])
    |(show ek _ _ 20 _ _ _ _;refine aT (by decide) [[], [], [1], [], [3], [2,4,1,3], [5,2,4,1,3], [0,6,5,2,4,1,3], [7,0,6,5,2,4,1,3], [7,0,6,5,2,4,1,3], [8,7,0,1,2,3,4,5,6,9], [9,10,0,1,2,3,4,5,6,7,8]] [76,77,78,79,80,81,82,83,84,85,0,7] [0,1,2,3,4,5,6,7,8,9,10,11] (by kernel_rfl) ?_;try simp (maxSteps:=2000000) [*, -h,aj,ah,ae,ai,ak,au,af,Op.operands,Call.operands])
    |(with_reducible (first|(replace h:=bC (by assumption) h)|(replace h:=bD (by assumption) h)|(replace h:=aY (by assumption) h)|(replace h:=aZ (by assumption) h)))
    |((with_reducible have hh:=aB h);clear h;rcases hh with⟨hc,h⟩|⟨hc,h⟩<;>have hd:=hc<;>(first|(replace hc:=dA hc)|(replace hc:=dB hc)|skip)<;>(try simp at hd)<;>(try(first|(subst hd)|(replace hd:=bG hd)|(replace hd:=eq_false hd)|(replace hd:=eq_true hd)))<;>(try simp (maxSteps:=2000000) [*, -h,aj,ah,ae,ai,ak,au,af,Op.operands,Call.operands]))
    |(with_reducible replace h:=aL h)
    | ((with_reducible have hh:=Option.bind_eq_some_iff.1 h);clear h;obtain⟨x_,hx_,h⟩:=hh;(first|(refine aC (sH (h:=hx_)) rfl rfl rfl ?_ ?_ ?_ ?_;(·simp);(·simp[*]);(·constructor<;>simp);clear hx_;try simp (maxSteps:=2000000) [*, -h,aj,ah,ae,ai,ak,au,af,Op.operands,Call.operands])|(refine bI (sH (h:=hx_)) rfl rfl rfl ?_ ?_ ?_ ?_ ?_;(·simp);(·simp[*]);(·constructor<;>simp);(·rfl);clear hx_;try simp (maxSteps:=2000000) [*, -h,aj,ah,ae,ai,ak,au,af,Op.operands,Call.operands])|(refine av (tO (h:=hx_)) rfl rfl ?_ ⟨rfl,rfl⟩ ?_;(·simp[*]);clear hx_;try simp (maxSteps:=2000000) [*, -h,aj,ah,ae,ai,ak,au,af,Op.operands,Call.operands])|(refine bf (tO (h:=hx_)) rfl rfl ?_ ⟨rfl,rfl⟩ rfl ?_;(·simp[*]);clear hx_;try simp (maxSteps:=2000000) [*, -h,aj,ah,ae,ai,ak,au,af,Op.operands,Call.operands]))
       )
    |(obtain⟨k,rfl⟩:=aM (f:=fun k=>kv.j0 k _ _ _ _ _ _) (by simp only[kv.j0]) h;simp only[kv.j0]at h;try simp only[aF,aG,aD,aH,aI,aJ]at h)
    |(exact(hy rfl).elim)
    |(simp at hy;done)
    |(refine⟨(by first|exact aP (by assumption) (by decide) (by decide)|exact aN (by assumption) (by decide) (by decide)), ?_⟩;try simp (maxSteps:=2000000) [*, -h,aj,ah,ae,ai,ak,au,af,Op.operands,Call.operands])
    |(cases h;done)
    |(cases h;refine ed _ rfl ?_;constructor<;>simp[*]<;>exact az (by omega) (by omega) (by simp))
set_option maxRecDepth 20000 in
set_option maxHeartbeats 4000000 in
theorem zy (k:Nat) (l0:List (S41)) (a:Int) (d:Int) (e:Int) (g:Bool) (j:List Int) (m:List Int) (r:Bool×List Int×List Int×Bool) (h:wJ.f k l0 a d e g j m=some r):iU Try.prog 83 [.c (.t (tC l0)), .agg [.t (.i a), .t (.i d), .t (.i e)], .agg [.t (.b g), .t (.ints j), .t (.ints m)]] (.tup [.agg [.t (.b r.1), .t (.ints (r.2.1)), .t (.ints (r.2.2.1))], .c (.t (.b r.2.2.2))]):=by
  unfold wJ.f at h
  try simp only[aF,aG,aD,aH,aI,aJ]at h
  refine bF Try.func83 rfl rfl rfl ?_
  try simp (maxSteps:=2000000)
  repeat' first
    |(show ek _ _ 21 _ _ _ _;refine aT (by decide) [[], [], [], [2], [1,3,2], [], [5], [4,6,1,3,2,5], [7,4,6,1,3,2,5], [], [0,8,9,4,7,6,1,3,2,5], [10,0,8,9,4,7,6,1,3,2,5], [10,0,8,9,4,7,6,1,3,2,5], [11,10,0,1,2,3,4,5,6,7,8,9,12], [12,13,0,1,2,3,4,5,6,7,8,9,10,11]] [112,113,114,115,116,117,118,119,120,121,122,123,124,0,7] [0,1,2,3,5,6,9,4,7,8,10,11,12,13,14] (by kernel_rfl) ?_;try simp (maxSteps:=2000000) [*, -h,aj,ah,ae,ai,ak,au,af,Op.operands,Call.operands])
    |(show ek _ _ 23 _ _ _ _;refine aT (by decide) [[], [], [], [], [], [4], [3,5,4], [], [7], [6,8,3,5,4,7], [9,6,8,3,5,4,7], [2,10,9,6,8,3,5,4,7], [0,1,11,6,2,10,9,8,3,5,4,7], [12,0,1,11,6,2,10,9,8,3,5,4,7], [12,0,1,11,6,2,10,9,8,3,5,4,7], [13,12,0,1,2,3,4,5,6,7,8,9,10,11,14], [14,15,0,1,2,3,4,5,6,7,8,9,10,11,12,13]] [127,128,129,130,131,132,133,134,135,136,137,138,139,140,141,0,7] [0,1,2,3,4,5,7,8,6,9,10,11,12,13,14,15,16] (by kernel_rfl) ?_;try simp (maxSteps:=2000000) [*, -h,aj,ah,ae,ai,ak,au,af,Op.operands,Call.operands])
    |(with_reducible (first|(replace h:=bC (by assumption) h)|(replace h:=bD (by assumption) h)|(replace h:=aY (by assumption) h)|(replace h:=aZ (by assumption) h)))
    |((with_reducible have hh:=aB h);clear h;rcases hh with⟨hc,h⟩|⟨hc,h⟩<;>have hd:=hc<;>(first|(replace hc:=dA hc)|(replace hc:=dB hc)|skip)<;>(try simp at hd)<;>(try(first|(subst hd)|(replace hd:=bG hd)|(replace hd:=eq_false hd)|(replace hd:=eq_true hd)))<;>(try simp (maxSteps:=2000000) [*, -h,aj,ah,ae,ai,ak,au,af,Op.operands,Call.operands]))
    |(with_reducible replace h:=aL h)
    | ((with_reducible have hh:=Option.bind_eq_some_iff.1 h);clear h;obtain⟨x_,hx_,h⟩:=hh;(first|(refine av (Aa (h:=hx_)) rfl rfl ?_ ⟨rfl,rfl⟩ ?_;(·simp[*]);clear hx_;try simp (maxSteps:=2000000) [*, -h,aj,ah,ae,ai,ak,au,af,Op.operands,Call.operands])|(refine bf (Aa (h:=hx_)) rfl rfl ?_ ⟨rfl,rfl⟩ rfl ?_;(·simp[*]);clear hx_;try simp (maxSteps:=2000000) [*, -h,aj,ah,ae,ai,ak,au,af,Op.operands,Call.operands])|(refine av (tO (h:=hx_)) rfl rfl ?_ ⟨rfl,rfl⟩ ?_;(·simp[*]);clear hx_;try simp (maxSteps:=2000000) [*, -h,aj,ah,ae,ai,ak,au,af,Op.operands,Call.operands])|(refine bf (tO (h:=hx_)) rfl rfl ?_ ⟨rfl,rfl⟩ rfl ?_;(·simp[*]);clear hx_;try simp (maxSteps:=2000000) [*, -h,aj,ah,ae,ai,ak,au,af,Op.operands,Call.operands])|(refine aC (sH (h:=hx_)) rfl rfl rfl ?_ ?_ ?_ ?_;(·simp);(·simp[*]);(·constructor<;>simp);clear hx_;try simp (maxSteps:=2000000) [*, -h,aj,ah,ae,ai,ak,au,af,Op.operands,Call.operands])|(refine bI (sH (h:=hx_)) rfl rfl rfl ?_ ?_ ?_ ?_ ?_;(·simp);(·simp[*]);(·constructor<;>simp);(·rfl);clear hx_;try simp (maxSteps:=2000000) [*, -h,aj,ah,ae,ai,ak,au,af,Op.operands,Call.operands])|(refine Ar [] [] rfl rfl (xS _ _ _ _ hx_) ?_ (by simp) rfl (by simp) ?_;(·simp[*]);clear hx_;try simp (maxSteps:=2000000) [*, -h,aj,ah,ae,ai,ak,au,af,Op.operands,Call.operands])|(refine Au [] [] rfl rfl (xS _ _ _ _ hx_) ?_ (by simp) rfl (by simp) rfl ?_;(·simp[*]);clear hx_;try simp (maxSteps:=2000000) [*, -h,aj,ah,ae,ai,ak,au,af,Op.operands,Call.operands]))
       )
    |(refine⟨(by first|exact aP (by assumption) (by decide) (by decide)|exact aN (by assumption) (by decide) (by decide)), ?_⟩;try simp (maxSteps:=2000000) [*, -h,aj,ah,ae,ai,ak,au,af,Op.operands,Call.operands])
    |(cases h;done)
    |(cases h;refine aV _ ?_ ⟨rfl,rfl⟩;simp[*]<;>exact az (by omega) (by omega) (by simp))
set_option maxRecDepth 20000 in
set_option maxHeartbeats 4000000 in
theorem DV (k:Nat) (d:List (S41)) (e:List (S35)) (g:Int) (j:Int) (m:List Int) (n:Int) (o:Int) (a:List (S67)) (p:List (S69)) (q:List (S73)) (a2:Int) (u:Bool) (v:List Int) (w:List Int) (r:Bool×List Int×List Int×Bool) (h:sF.f k d e g j m n o a p q a2 u v w=some r) (hy:(gd z67 a a2.toNat).f0≠4):iU Try.prog 63 [.agg [.t (tC d), .t (tM e)], .agg [.t (.i g), .t (.i j), .t (.ints m), .t (.i n), .t (.i o), .t (tI a), .t (tS p), .t (tK q)], .i a2, .agg [.t (.b u), .t (.ints v), .t (.ints w)]] (.tup [.agg [.t (.b r.1), .t (.ints (r.2.1)), .t (.ints (r.2.2.1))], .c (.t (.b r.2.2.2))]):=by
  unfold sF.f at h
  try simp only[aF,aG,aD,aH,aI,aJ]at h
  refine bF Try.func63 rfl rfl rfl ?_
  try simp (maxSteps:=2000000)
  repeat' first
    |(with_reducible (first|(replace h:=bC (by assumption) h)|(replace h:=bD (by assumption) h)|(replace h:=aY (by assumption) h)|(replace h:=aZ (by assumption) h)))
    |((with_reducible have hh:=aB h);clear h;rcases hh with⟨hc,h⟩|⟨hc,h⟩<;>have hd:=hc<;>(first|(replace hc:=dA hc)|(replace hc:=dB hc)|skip)<;>(try simp at hd)<;>(try(first|(subst hd)|(replace hd:=bG hd)|(replace hd:=eq_false hd)|(replace hd:=eq_true hd)))<;>(try simp (maxSteps:=2000000) [*, -h]))
    |(with_reducible replace h:=aL h)
    | ((with_reducible have hh:=Option.bind_eq_some_iff.1 h);clear h;obtain⟨x_,hx_,h⟩:=hh;(first|(refine av (uC (h:=hx_)) rfl rfl ?_ ⟨rfl,rfl⟩ ?_;(·simp[*]);clear hx_;try simp (maxSteps:=2000000) [*, -h])|(refine aC (sH (h:=hx_)) rfl rfl rfl ?_ ?_ ?_ ?_;(·simp);(·simp[*]);(·constructor<;>simp);clear hx_;try simp (maxSteps:=2000000) [*, -h])|(refine av (Ab (h:=hx_)) rfl rfl ?_ ⟨rfl,rfl⟩ ?_;(·simp[*]);clear hx_;try simp (maxSteps:=2000000) [*, -h])|(refine av (si (h:=hx_)) rfl rfl ?_ ⟨rfl,rfl⟩ ?_;(·simp[*]);clear hx_;try simp (maxSteps:=2000000) [*, -h])|(refine av (zy (h:=hx_)) rfl rfl ?_ ⟨rfl,rfl⟩ ?_;(·simp[*]);clear hx_;try simp (maxSteps:=2000000) [*, -h])|(refine av (DU (hy:=hy) (h:=hx_)) rfl rfl ?_ ⟨rfl,rfl⟩ ?_;(·simp[*]);clear hx_;try simp (maxSteps:=2000000) [*, -h]))
       )
    |(exact(hy rfl).elim)
    |(simp at hy;done)
    |(refine⟨(by first|exact aP (by assumption) (by decide) (by decide)|exact aN (by assumption) (by decide) (by decide)), ?_⟩;try simp (maxSteps:=2000000) [*, -h])
    |(cases h;done)
    |(cases h;refine aV _ ?_ ⟨rfl,rfl⟩;simp[*]<;>exact az (by omega) (by omega) (by simp))
set_option maxRecDepth 20000 in
set_option maxHeartbeats 4000000 in
theorem DW (k:Nat) (e:List (S41)) (g:List (S35)) (j:Int) (m:Int) (n:List Int) (o:Int) (p:Int) (d:List (S67)) (q:List (S69)) (u:List (S73)) (a2:Int) (v:Bool) (w:List Int) (x:List Int) (r:Bool×List Int×List Int×Bool) (h:sF.f k e g j m n o p d q u a2 v w x=some r) (hy:(gd z67 d a2.toNat).f0=4):iU Try.prog 63 [.agg [.t (tC e), .t (tM g)], .agg [.t (.i j), .t (.i m), .t (.ints n), .t (.i o), .t (.i p), .t (tI d), .t (tS q), .t (tK u)], .i a2, .agg [.t (.b v), .t (.ints w), .t (.ints x)]] (.tup [.agg [.t (.b r.1), .t (.ints (r.2.1)), .t (.ints (r.2.2.1))], .c (.t (.b r.2.2.2))]):=by
  unfold sF.f at h
  try simp only[aD,hy]at h
  try simp only[aF,aG,aD,aH,aI,aJ]at h
  refine bF Try.func63 rfl rfl rfl ?_
  try simp (maxSteps:=2000000)
  repeat' first
    |(with_reducible (first|(replace h:=bC (by assumption) h)|(replace h:=bD (by assumption) h)|(replace h:=aY (by assumption) h)|(replace h:=aZ (by assumption) h)))
    |((with_reducible have hh:=aB h);clear h;rcases hh with⟨hc,h⟩|⟨hc,h⟩<;>have hd:=hc<;>(first|(replace hc:=dA hc)|(replace hc:=dB hc)|skip)<;>(try simp at hd)<;>(try(first|(subst hd)|(replace hd:=bG hd)|(replace hd:=eq_false hd)|(replace hd:=eq_true hd)))<;>(try simp (maxSteps:=2000000) [*, -h]))
    |(with_reducible replace h:=aL h)
    | ((with_reducible have hh:=Option.bind_eq_some_iff.1 h);clear h;obtain⟨x_,hx_,h⟩:=hh;(first|(refine aC (DT (h:=hx_)) rfl rfl rfl ?_ ?_ ?_ ?_;(·simp);(·simp[*]);(·constructor<;>simp);have a:=hx_;clear hx_;try simp (maxSteps:=2000000) [*, -h])|(refine aC (sH (h:=hx_)) rfl rfl rfl ?_ ?_ ?_ ?_;(·simp);(·simp[*]);(·constructor<;>simp);have a:=hx_;clear hx_;try simp (maxSteps:=2000000) [*, -h])|(refine av (Ab (h:=hx_)) rfl rfl ?_ ⟨rfl,rfl⟩ ?_;(·simp[*]);have a:=hx_;clear hx_;try simp (maxSteps:=2000000) [*, -h])|(refine av (si (h:=hx_)) rfl rfl ?_ ⟨rfl,rfl⟩ ?_;(·simp[*]);have a:=hx_;clear hx_;try simp (maxSteps:=2000000) [*, -h])|(refine av (zy (h:=hx_)) rfl rfl ?_ ⟨rfl,rfl⟩ ?_;(·simp[*]);have a:=hx_;clear hx_;try simp (maxSteps:=2000000) [*, -h])|(refine aC (Dl (hy:=rfl) (h:=hx_)) rfl rfl rfl ?_ ?_ ?_ ?_;(·simp);(·simp[*]);(·constructor<;>simp);have a:=hx_;clear hx_;try simp (maxSteps:=2000000) [*, -h]))
       )
    |(exact(hy rfl).elim)
    |(simp at hy;done)
    |(refine⟨(by first|exact aP (by assumption) (by decide) (by decide)|exact aN (by assumption) (by decide) (by decide)), ?_⟩;try simp (maxSteps:=2000000) [*, -h])
    |(cases h;done)
    |(cases h;refine aV _ ?_ ⟨rfl,rfl⟩;simp[*]<;>exact az (by omega) (by omega) (by simp))
    |(simp[iK.f]at a;done)
end Go.Proofs.Ytojpejfcafbafaa.V
end
section
namespace Go.Proofs.Ytojpejfcafbafaa.P
open Go.RowKit Go.Proofs.YtojpejfcafbafaaW.PrintWords Go.Proofs.YtojpejfcafbafaaW.PrintLast Go.Proofs.YtojpejfcafbafaaW.PrintMore
attribute [local go_sem] bn bq bP bQ aW aX bu bv
set_option linter.unusedVariables false
set_option linter.unusedSimpArgs false
def kV.l0:Nat→Int→Int→List Int→Int→Int→List (S67)→List (S69)→List (S73)→Bool→List Int→List Int→Option (Bool×List Int×List Int)
  |0,_,_,_,_,_,_,_,_,_,_,_=>none
  |k+1,g,h,j,m,c,n,o,p,d,a,e=>if(a.length:Int)<c then(if a.length<17592186044416 then(kV.l0 k g h j m c n o p d (a++ [0]) e)else(none))else(some (d,a,e))
def kV.f (k:Nat) (a:Int) (c:Int) (d:List Int) (e:Int) (g:Int) (h:List (S67)) (j:List (S69)) (m:List (S73)):Option (Bool×List Int×List Int):=(wI.f a c d e g h j m).bind fun n=>(kV.l0 k a c d e g h j m true n (([]:List Int)))
mutual
def fA.l0:Nat→List (S41)→Int→Bool→List Int→List Int→Bool→List Int→List Int→Bool→List Int→List Int→Option (Bool×List Int×List Int)
  |0,_,_,_,_,_,_,_,_,_,_,_=>none
  |k+1,x0,x8,e,a,g,h,c,j,m,d,n=>if x8<(a.length:Int)then(if 0≤x8 then(if x8<(c.length:Int)then((qW.f k x0 (rd a x8) (rd c x8)).bind fun o=>(if x8<(d.length:Int)then(fA.l0 k x0 (wrap64 (x8+1)) e a g h c j m (d.set (x8:Int).toNat o) n)else(none)))else(none))else(none))else(fA.l1 k x0 0 e a g h c j m d n)
def fA.l1:Nat→List (S41)→Int→Bool→List Int→List Int→Bool→List Int→List Int→Bool→List Int→List Int→Option (Bool×List Int×List Int)
  |0,_,_,_,_,_,_,_,_,_,_,_=>none
  |k+1,x0,x9,j,m,a,n,o,c,e,g,d=>if x9<(a.length:Int)then(if 0≤x9 then(if x9<(c.length:Int)then((qW.f k x0 (rd a x9) (rd c x9)).bind fun p=>(if x9<(d.length:Int)then(if p=0 then((sD.f).bind fun h=>(some (h.1,h.2.1,h.2.2)))else(fA.l1 k x0 (wrap64 (x9+1)) j m a n o c e g (d.set (x9:Int).toNat p)))else(none)))else(none))else(none))else(some (e,g,d))
end
def fA.f (k:Nat) (l0:List (S41)) (e:Bool) (g:List Int) (d:List Int) (j:Bool) (m:List Int) (h:List Int):Option (Bool×List Int×List Int):=(rT.f e g d).bind fun a=>(if(d.length:Int)=(h.length:Int)then(fA.l0 k l0 0 e g d j m h a.1 a.2.1 a.2.2)else((sD.f).bind fun c=>(some (c.1,c.2.1,c.2.2))))
end Go.Proofs.Ytojpejfcafbafaa.P
end
section
namespace Go.Proofs.Ytojpejfcafbafaa.V
open Go Go.RowKit Go.Proofs.Ytojpejfcafbafaa.P
set_option linter.unusedVariables false
set_option linter.unusedSimpArgs false
attribute [local simp ↓] eG eH fQ fT eO dM fZ eP eQ gm gp gq dN dO dP gB gz gG gF dQ bW dV cz dJ dR eT eU eX
attribute [local simp] fU fV dK bR eF dL bS bT bU bV bM bN dS eY dU bX bY bZ cu bO fD lM iL dz iw evl dI eZ fu kD iX List.range List.range.loop lT kX fo fB iC iA Bs.live Bs.get lN WkV WkA WkC lg lH kY lD cZ iM TEq.refl bg fH qQ aF aG aD aH aI aJ ei d9 splice dE Bs.set kU fC Rn.at gu gy iF iD lL chunks lC fP toT fE iE rowsOf cB ik plR plV plC lF lI lQ lh fI iR lU
attribute [local simp] List.length_pos_iff qR qU iG iH iI puts dh
attribute [local simp ←] ig
attribute [local simp] ksL ru ksV rV ksC ksT ren kr rO rH dw fF dW dx iW iB iO iQ lS rG closedB iT kP kG kH kJ kL iJ kN
attribute [local simp] ag3 un3 sz3 in3 by3 ze3 ct3 zt3 zu3 ag4 un4 sz4 in4 by4 ze4 ct4 zt4 zu4 ag5 un5 sz5 in5 by5 ze5 ct5 zt5 zu5 mi mq mD mE mF mG mH mI mJ io3 mK io5 bo4 mM mO mP mQ mR mU mV mW mX mY mZ ng ni nk nu ny nz nA nC nD nE nG nH nI nJ nK nL nM nN nO nP nQ nR nS nT nU nV nW nX nY nZ oh ol om oo oq ou ow oz oC oD oF oG oH oI oJ oK oL oM oN oO oP oQ oU oV oW oZ o6 o7 o8 iZ ja jb jc jd je jf jg jh ji jk jl jm jo jq jr jv jw jy jA o9 pg pu pz pE pF pG pI pJ pK jB jC jD jE jF jG jH jI jJ jK jL jM jN jO jP jQ jR jS jT jU jV jW jX jY jZ kg ko mz gH gI gJ gK gL gN gP gQ gT gU gV gW gX gY gZ ib pO pQ pR pU pV pW pX pY p9 qa qb qc qd qf qg qh qi qj ql qm qo qp qw qx qy qz qA qB qC qD qE qF qG qH qI qJ qK qL qM qN qO qP mix
attribute [local simp] eb eC eI eS eK eM nm
set_option maxRecDepth 20000 in
set_option maxHeartbeats 4000000 in
theorem iN (k:Nat) (a:Int) (c:Int) (d:List Int) (e:Int) (g:Int) (j:List (S67)) (m:List (S69)) (o:List (S73)) (r:Bool×List Int×List Int) (h:kV.f k a c d e g j m o=some r):iU Try.prog 60 [.agg [.t (.i a), .t (.i c), .t (.ints d), .t (.i e), .t (.i g), .t (tI j), .t (tS m), .t (tK o)]] (.agg [.t (.b r.1), .t (.ints (r.2.1)), .t (.ints (r.2.2))]):=by
  unfold kV.f at h
  try simp only[aF,aG,aD,aH,aI,aJ]at h
  refine bF Try.func60 rfl rfl rfl ?_
  try simp -implicitDefEqProofs (maxSteps:=2000000)
  repeat' first
    |(with_reducible (first|(replace h:=bC (by assumption) h)|(replace h:=bD (by assumption) h)|(replace h:=aY (by assumption) h)|(replace h:=aZ (by assumption) h)))
    |((with_reducible have hh:=aB h);clear h;rcases hh with⟨hc,h⟩|⟨hc,h⟩<;>have hd:=hc<;>(first|(replace hc:=dA hc)|(replace hc:=dB hc)|skip)<;>(try simp at hd)<;>(try(first|(subst hd)|(replace hd:=bG hd)|(replace hd:=eq_false hd)|(replace hd:=eq_true hd)))<;>(try simp -implicitDefEqProofs (maxSteps:=2000000) [*, -h]))
    |(with_reducible replace h:=aL h)
    | ((with_reducible have hh:=Option.bind_eq_some_iff.1 h);clear h;obtain⟨x_,hx_,h⟩:=hh;(first|(refine aC (zx (h:=hx_)) rfl rfl rfl ?_ ?_ ?_ ?_;(·simp);(·simp[*]);(·constructor<;>simp);clear hx_;try simp -implicitDefEqProofs (maxSteps:=2000000) [*, -h]))
       )
    |(refine⟨(by first|exact aP (by assumption) (by decide) (by decide)|exact aN (by assumption) (by decide) (by decide)), ?_⟩;try simp -implicitDefEqProofs (maxSteps:=2000000) [*, -h])
    |(cases h;done)
    |(cases h;refine aV _ ?_ ⟨rfl,rfl⟩;simp[*]<;>exact az (by omega) (by omega) (by simp))
  refine tu [true,true,true,true] (fun _=> []) (fun L=> [(103,some (.box 69 [.t (.s (.bool true)), .own 500 1 L.length, .own 106 1 0])),(500,some (.row 3 1 L.length (fl 0 ei L))),(6900,none)]) (fun n (L:List Int)=>kV.l0 n _ _ _ _ _ _ _ _ _ L _=some _) [(500,6900)] h (by constructor<;>simp[idR,mkT]) ?_
  clear h;intro k L hk h
  obtain⟨k,rfl⟩:=aM (f:=fun k=>kV.l0 k _ _ _ _ _ _ _ _ _ _ _) (by simp only[kV.l0]) h
  simp only[kV.l0]at h
  try simp -implicitDefEqProofs (maxSteps:=2000000)
  repeat' first
      |(with_reducible (first|(replace h:=bC (by assumption) h)|(replace h:=bD (by assumption) h)|(replace h:=aY (by assumption) h)|(replace h:=aZ (by assumption) h)))
      |((with_reducible have hh:=aB h);clear h;rcases hh with⟨hc,h⟩|⟨hc,h⟩<;>have hd:=hc<;>(first|(replace hc:=dA hc)|(replace hc:=dB hc)|skip)<;>(try simp at hd)<;>(try(first|(subst hd)|(replace hd:=bG hd)|(replace hd:=eq_false hd)|(replace hd:=eq_true hd)))<;>(try simp -implicitDefEqProofs (maxSteps:=2000000) [*, -h]))
      |(with_reducible replace h:=aL h)
      | ((with_reducible have hh:=Option.bind_eq_some_iff.1 h);clear h;obtain⟨x_,hx_,h⟩:=hh;(first|(refine aC (zx (h:=hx_)) rfl rfl rfl ?_ ?_ ?_ ?_;(·simp);(·simp[*]);(·constructor<;>simp);clear hx_;try simp -implicitDefEqProofs (maxSteps:=2000000) [*, -h]))
         )
      |(refine⟨(by first|exact aP (by assumption) (by decide) (by decide)|exact aN (by assumption) (by decide) (by decide)), ?_⟩;try simp -implicitDefEqProofs (maxSteps:=2000000) [*, -h])
      |(cases h;done)
      |(cases h;refine aV _ ?_ ⟨rfl,rfl⟩;simp[*]<;>exact az (by omega) (by omega) (by simp))
  exact ku [true,true,true,true] [(500,117)] (by omega) h (by constructor<;>simp[idR,mkT])
set_option maxRecDepth 20000 in
set_option maxHeartbeats 4000000 in
theorem Ac (k:Nat) (l0:List (S41)) (d:Bool) (e:List Int) (g:List Int) (j:Bool) (m:List Int) (o:List Int) (r:Bool×List Int×List Int) (h:fA.f k l0 d e g j m o=some r):iU Try.prog 92 [.c (.t (tC l0)), .agg [.t (.b d), .t (.ints e), .t (.ints g)], .agg [.t (.b j), .t (.ints m), .t (.ints o)]] (.agg [.t (.b r.1), .t (.ints (r.2.1)), .t (.ints (r.2.2))]):=by
  unfold fA.f at h
  try simp only[aF,aG,aD,aH,aI,aJ]at h
  refine bF Try.func92 rfl rfl rfl ?_
  try simp -implicitDefEqProofs (maxSteps:=2000000)
  repeat' first
    |(show ek _ _ 7 _ _ _ _;refine aT (by decide) [[], [0], [], [], [], [4], [], [5,6,4], [7,5,6,4], [], [9], [], [10,11,9], [12,10,11,9], [3,8,13,7,5,6,4,12,10,11,9], [1,2,0,3,4,5,6,7,8,9,10,11,12,13,14], [15,14,0,1,2,3,4,5,6,7,8,9,10,11,12,13]] [27,28,29,30,31,32,33,34,35,36,37,38,39,40,41,42,0] [0,1,2,3,4,5,6,7,8,9,10,11,12,13,14,15,16] (by kernel_rfl) ?_;try simp -implicitDefEqProofs (maxSteps:=2000000) [*, -h,aj,ah,ae,ai,ak,au,af,Op.operands,Call.operands])
    |(show ek _ _ 11 _ _ _ _;refine aT (by decide) [[], [0], [], [], [], [4], [], [5,6,4], [7,5,6,4], [], [9], [], [10,11,9], [12,10,11,9], [3,8,13,7,5,6,4,12,10,11,9], [1,2,0,3,4,5,6,7,8,9,10,11,12,13,14], [15,14,0,1,2,3,4,5,6,7,8,9,10,11,12,13]] [50,51,52,53,54,55,56,57,58,59,60,61,62,63,64,65,0] [0,1,2,3,4,5,6,7,8,9,10,11,12,13,14,15,16] (by kernel_rfl) ?_;try simp -implicitDefEqProofs (maxSteps:=2000000) [*, -h,aj,ah,ae,ai,ak,au,af,Op.operands,Call.operands])
    |(with_reducible (first|(replace h:=bC (by assumption) h)|(replace h:=bD (by assumption) h)|(replace h:=aY (by assumption) h)|(replace h:=aZ (by assumption) h)))
    |((with_reducible have hh:=aB h);clear h;rcases hh with⟨hc,h⟩|⟨hc,h⟩<;>have hd:=hc<;>(first|(replace hc:=dA hc)|(replace hc:=dB hc)|skip)<;>(try simp at hd)<;>(try(first|(subst hd)|(replace hd:=bG hd)|(replace hd:=eq_false hd)|(replace hd:=eq_true hd)))<;>(try simp -implicitDefEqProofs (maxSteps:=2000000) [*, -h,aj,ah,ae,ai,ak,au,af,Op.operands,Call.operands]))
    |(with_reducible replace h:=aL h)
    | ((with_reducible have hh:=Option.bind_eq_some_iff.1 h);clear h;obtain⟨x_,hx_,h⟩:=hh;(first|(refine av (uW (h:=hx_)) rfl rfl ?_ ⟨rfl,rfl⟩ ?_;(·simp[*]);clear hx_;try simp -implicitDefEqProofs (maxSteps:=2000000) [*, -h,aj,ah,ae,ai,ak,au,af,Op.operands,Call.operands])|(refine bf (uW (h:=hx_)) rfl rfl ?_ ⟨rfl,rfl⟩ rfl ?_;(·simp[*]);clear hx_;try simp -implicitDefEqProofs (maxSteps:=2000000) [*, -h,aj,ah,ae,ai,ak,au,af,Op.operands,Call.operands])|(refine av (fq (h:=hx_)) rfl rfl ?_ ⟨rfl,rfl⟩ ?_;(·simp[*]);clear hx_;try simp -implicitDefEqProofs (maxSteps:=2000000) [*, -h,aj,ah,ae,ai,ak,au,af,Op.operands,Call.operands])|(refine bf (fq (h:=hx_)) rfl rfl ?_ ⟨rfl,rfl⟩ rfl ?_;(·simp[*]);clear hx_;try simp -implicitDefEqProofs (maxSteps:=2000000) [*, -h,aj,ah,ae,ai,ak,au,af,Op.operands,Call.operands])|(refine aC (uM (h:=hx_)) rfl rfl rfl ?_ ?_ ?_ ?_;(·simp);(·simp[*]);(·constructor<;>simp);clear hx_;try simp -implicitDefEqProofs (maxSteps:=2000000) [*, -h,aj,ah,ae,ai,ak,au,af,Op.operands,Call.operands])|(refine bI (uM (h:=hx_)) rfl rfl rfl ?_ ?_ ?_ ?_ ?_;(·simp);(·simp[*]);(·constructor<;>simp);(·rfl);clear hx_;try simp -implicitDefEqProofs (maxSteps:=2000000) [*, -h,aj,ah,ae,ai,ak,au,af,Op.operands,Call.operands]))
       )
    |(refine⟨(by first|exact aP (by assumption) (by decide) (by decide)|exact aN (by assumption) (by decide) (by decide)), ?_⟩;try simp -implicitDefEqProofs (maxSteps:=2000000) [*, -h,aj,ah,ae,ai,ak,au,af,Op.operands,Call.operands])
    |(cases h;done)
    |(cases h;refine aV _ ?_ ⟨rfl,rfl⟩;simp[*]<;>exact az (by omega) (by omega) (by simp))
  refine tu [true,true,true,false,true,true,true,true,true,false,true,true,true,true,true,true,true,true,true,true] (fun a=> [(8, .i a.1)]) (fun(a:Int×List Int)=> [(12900,some (.row 3 1 a.2.length (fl 0 ei a.2))),(107,some (.box 69 [.t (.b x_.1), .own 12900 1 a.2.length, .own 12901 1 x_.2.2.length]))]) (fun n (a:Int×List Int)=>fA.l0 n _ a.1 _ _ _ _ _ _ _ a.2 _=some _) [] (b0:=(0,x_.2.1)) h (by constructor<;>simp[idR,mkT]) ?_
  clear h;rintro k ⟨x8,L⟩ hk h
  obtain⟨k,rfl⟩:=aM (f:=fun k=>fA.l0 k _ _ _ _ _ _ _ _ _ _ _) (by simp only[fA.l0]) h
  simp only[fA.l0]at h
  try simp only[aF,aG,aD,aH,aI,aJ]at h
  try simp -implicitDefEqProofs (maxSteps:=2000000)
  repeat' first
      |(show ek _ _ 7 _ _ _ _;refine aT (by decide) [[], [0], [], [], [], [4], [], [5,6,4], [7,5,6,4], [], [9], [], [10,11,9], [12,10,11,9], [3,8,13,7,5,6,4,12,10,11,9], [1,2,0,3,4,5,6,7,8,9,10,11,12,13,14], [15,14,0,1,2,3,4,5,6,7,8,9,10,11,12,13]] [27,28,29,30,31,32,33,34,35,36,37,38,39,40,41,42,0] [0,1,2,3,4,5,6,7,8,9,10,11,12,13,14,15,16] (by kernel_rfl) ?_;try simp -implicitDefEqProofs (maxSteps:=2000000) [*, -h,aj,ah,ae,ai,ak,au,af,Op.operands,Call.operands])
      |(show ek _ _ 11 _ _ _ _;refine aT (by decide) [[], [0], [], [], [], [4], [], [5,6,4], [7,5,6,4], [], [9], [], [10,11,9], [12,10,11,9], [3,8,13,7,5,6,4,12,10,11,9], [1,2,0,3,4,5,6,7,8,9,10,11,12,13,14], [15,14,0,1,2,3,4,5,6,7,8,9,10,11,12,13]] [50,51,52,53,54,55,56,57,58,59,60,61,62,63,64,65,0] [0,1,2,3,4,5,6,7,8,9,10,11,12,13,14,15,16] (by kernel_rfl) ?_;try simp -implicitDefEqProofs (maxSteps:=2000000) [*, -h,aj,ah,ae,ai,ak,au,af,Op.operands,Call.operands])
      |(with_reducible (first|(replace h:=bC (by assumption) h)|(replace h:=bD (by assumption) h)|(replace h:=aY (by assumption) h)|(replace h:=aZ (by assumption) h)))
      |((with_reducible have hh:=aB h);clear h;rcases hh with⟨hc,h⟩|⟨hc,h⟩<;>have hd:=hc<;>(first|(replace hc:=dA hc)|(replace hc:=dB hc)|skip)<;>(try simp at hd)<;>(try(first|(subst hd)|(replace hd:=bG hd)|(replace hd:=eq_false hd)|(replace hd:=eq_true hd)))<;>(try simp -implicitDefEqProofs (maxSteps:=2000000) [*, -h,aj,ah,ae,ai,ak,au,af,Op.operands,Call.operands]))
      |(with_reducible replace h:=aL h)
      | ((with_reducible have hh:=Option.bind_eq_some_iff.1 h);clear h;obtain⟨x_,hx_,h⟩:=hh;(first|(refine av (uW (h:=hx_)) rfl rfl ?_ ⟨rfl,rfl⟩ ?_;(·simp[*]);clear hx_;try simp -implicitDefEqProofs (maxSteps:=2000000) [*, -h,aj,ah,ae,ai,ak,au,af,Op.operands,Call.operands])|(refine bf (uW (h:=hx_)) rfl rfl ?_ ⟨rfl,rfl⟩ rfl ?_;(·simp[*]);clear hx_;try simp -implicitDefEqProofs (maxSteps:=2000000) [*, -h,aj,ah,ae,ai,ak,au,af,Op.operands,Call.operands])|(refine av (fq (h:=hx_)) rfl rfl ?_ ⟨rfl,rfl⟩ ?_;(·simp[*]);clear hx_;try simp -implicitDefEqProofs (maxSteps:=2000000) [*, -h,aj,ah,ae,ai,ak,au,af,Op.operands,Call.operands])|(refine bf (fq (h:=hx_)) rfl rfl ?_ ⟨rfl,rfl⟩ rfl ?_;(·simp[*]);clear hx_;try simp -implicitDefEqProofs (maxSteps:=2000000) [*, -h,aj,ah,ae,ai,ak,au,af,Op.operands,Call.operands])|(refine aC (uM (h:=hx_)) rfl rfl rfl ?_ ?_ ?_ ?_;(·simp);(·simp[*]);(·constructor<;>simp);clear hx_;try simp -implicitDefEqProofs (maxSteps:=2000000) [*, -h,aj,ah,ae,ai,ak,au,af,Op.operands,Call.operands])|(refine bI (uM (h:=hx_)) rfl rfl rfl ?_ ?_ ?_ ?_ ?_;(·simp);(·simp[*]);(·constructor<;>simp);(·rfl);clear hx_;try simp -implicitDefEqProofs (maxSteps:=2000000) [*, -h,aj,ah,ae,ai,ak,au,af,Op.operands,Call.operands]))
         )
      |(refine⟨(by first|exact aP (by assumption) (by decide) (by decide)|exact aN (by assumption) (by decide) (by decide)), ?_⟩;try simp -implicitDefEqProofs (maxSteps:=2000000) [*, -h,aj,ah,ae,ai,ak,au,af,Op.operands,Call.operands])
      |(cases h;done)
      |(cases h;refine aV _ ?_ ⟨rfl,rfl⟩;simp[*]<;>exact az (by omega) (by omega) (by simp))
  ·exact ku [true,true,true,false,true,true,true,true,true,false,true,true,true,true,true,true,true,true,true,true] [] (a:=(_,_)) (by omega) h (by constructor<;>simp[idR,mkT])
  refine tu [true,true,true,false,true,true,true,true,true,true,true,true,true,true,true,true,true,true,true,true,true,true,true,true,true,true,true,true,true,true,true,true,true,true,true,true,true,true,true,true,true,true,true] (fun a=> [(9, .i a.1)]) (fun(a:Int×List Int)=> [(12901,some (.row 3 1 a.2.length (fl 0 ei a.2))),(107,some (.box 69 [.t (.b x_.1), .own 12900 1 L.length, .own 12901 1 a.2.length]))]) (fun n (a:Int×List Int)=>fA.l1 n _ a.1 _ _ _ _ _ _ _ _ a.2=some _) [] (b0:=(0,x_.2.2)) h (by constructor<;>simp[idR,mkT]) ?_
  clear h;rintro k ⟨x9,L2⟩ hk h
  obtain⟨k,rfl⟩:=aM (f:=fun k=>fA.l1 k _ _ _ _ _ _ _ _ _ _ _) (by simp only[fA.l1]) h
  simp only[fA.l1]at h
  try simp only[aF,aG,aD,aH,aI,aJ]at h
  try simp -implicitDefEqProofs (maxSteps:=2000000)
  repeat' first
      |(show ek _ _ 7 _ _ _ _;refine aT (by decide) [[], [0], [], [], [], [4], [], [5,6,4], [7,5,6,4], [], [9], [], [10,11,9], [12,10,11,9], [3,8,13,7,5,6,4,12,10,11,9], [1,2,0,3,4,5,6,7,8,9,10,11,12,13,14], [15,14,0,1,2,3,4,5,6,7,8,9,10,11,12,13]] [27,28,29,30,31,32,33,34,35,36,37,38,39,40,41,42,0] [0,1,2,3,4,5,6,7,8,9,10,11,12,13,14,15,16] (by kernel_rfl) ?_;try simp -implicitDefEqProofs (maxSteps:=2000000) [*, -h,aj,ah,ae,ai,ak,au,af,Op.operands,Call.operands])
      |(show ek _ _ 11 _ _ _ _;refine aT (by decide) [[], [0], [], [], [], [4], [], [5,6,4], [7,5,6,4], [], [9], [], [10,11,9], [12,10,11,9], [3,8,13,7,5,6,4,12,10,11,9], [1,2,0,3,4,5,6,7,8,9,10,11,12,13,14], [15,14,0,1,2,3,4,5,6,7,8,9,10,11,12,13]] [50,51,52,53,54,55,56,57,58,59,60,61,62,63,64,65,0] [0,1,2,3,4,5,6,7,8,9,10,11,12,13,14,15,16] (by kernel_rfl) ?_;try simp -implicitDefEqProofs (maxSteps:=2000000) [*, -h,aj,ah,ae,ai,ak,au,af,Op.operands,Call.operands])
      |(with_reducible (first|(replace h:=bC (by assumption) h)|(replace h:=bD (by assumption) h)|(replace h:=aY (by assumption) h)|(replace h:=aZ (by assumption) h)))
      |((with_reducible have hh:=aB h);clear h;rcases hh with⟨hc,h⟩|⟨hc,h⟩<;>have hd:=hc<;>(first|(replace hc:=dA hc)|(replace hc:=dB hc)|skip)<;>(try simp at hd)<;>(try(first|(subst hd)|(replace hd:=bG hd)|(replace hd:=eq_false hd)|(replace hd:=eq_true hd)))<;>(try simp -implicitDefEqProofs (maxSteps:=2000000) [*, -h,aj,ah,ae,ai,ak,au,af,Op.operands,Call.operands]))
      |(with_reducible replace h:=aL h)
      | ((with_reducible have hh:=Option.bind_eq_some_iff.1 h);clear h;obtain⟨x_,hx_,h⟩:=hh;(first|(refine av (uW (h:=hx_)) rfl rfl ?_ ⟨rfl,rfl⟩ ?_;(·simp[*]);clear hx_;try simp -implicitDefEqProofs (maxSteps:=2000000) [*, -h,aj,ah,ae,ai,ak,au,af,Op.operands,Call.operands])|(refine bf (uW (h:=hx_)) rfl rfl ?_ ⟨rfl,rfl⟩ rfl ?_;(·simp[*]);clear hx_;try simp -implicitDefEqProofs (maxSteps:=2000000) [*, -h,aj,ah,ae,ai,ak,au,af,Op.operands,Call.operands])|(refine av (fq (h:=hx_)) rfl rfl ?_ ⟨rfl,rfl⟩ ?_;(·simp[*]);clear hx_;try simp -implicitDefEqProofs (maxSteps:=2000000) [*, -h,aj,ah,ae,ai,ak,au,af,Op.operands,Call.operands])|(refine bf (fq (h:=hx_)) rfl rfl ?_ ⟨rfl,rfl⟩ rfl ?_;(·simp[*]);clear hx_;try simp -implicitDefEqProofs (maxSteps:=2000000) [*, -h,aj,ah,ae,ai,ak,au,af,Op.operands,Call.operands])|(refine aC (uM (h:=hx_)) rfl rfl rfl ?_ ?_ ?_ ?_;(·simp);(·simp[*]);(·constructor<;>simp);clear hx_;try simp -implicitDefEqProofs (maxSteps:=2000000) [*, -h,aj,ah,ae,ai,ak,au,af,Op.operands,Call.operands])|(refine bI (uM (h:=hx_)) rfl rfl rfl ?_ ?_ ?_ ?_ ?_;(·simp);(·simp[*]);(·constructor<;>simp);(·rfl);clear hx_;try simp -implicitDefEqProofs (maxSteps:=2000000) [*, -h,aj,ah,ae,ai,ak,au,af,Op.operands,Call.operands]))
         )
      |(refine⟨(by first|exact aP (by assumption) (by decide) (by decide)|exact aN (by assumption) (by decide) (by decide)), ?_⟩;try simp -implicitDefEqProofs (maxSteps:=2000000) [*, -h,aj,ah,ae,ai,ak,au,af,Op.operands,Call.operands])
      |(cases h;done)
      |(cases h;refine aV _ ?_ ⟨rfl,rfl⟩;simp[*]<;>exact az (by omega) (by omega) (by simp))
  exact ku [true,true,true,false,true,true,true,true,true,true,true,true,true,true,true,true,true,true,true,true,true,true,true,true,true,true,true,true,true,true,true,true,true,true,true,true,true,true,true,true,true,true,true] [] (a:=(_,_)) (by omega) h (by constructor<;>simp[idR,mkT])
end Go.Proofs.Ytojpejfcafbafaa.V
end
section
namespace Go.Proofs.Ytojpejfcafbafaa.V
open Go Go.RowKit Go.Proofs.Ytojpejfcafbafaa.P
theorem sN (k:Nat) (d:List (S41)) (e:List (S35)) (g:Int) (j:Int) (m:List Int) (n:Int) (o:Int) (a:List (S67)) (p:List (S69)) (q:List (S73)) (a2:Int) (u:Bool) (v:List Int) (w:List Int) (r:Bool×List Int×List Int×Bool) (h:sF.f k d e g j m n o a p q a2 u v w=some r):iU Try.prog 63 [.agg [.t (tC d), .t (tM e)], .agg [.t (.i g), .t (.i j), .t (.ints m), .t (.i n), .t (.i o), .t (tI a), .t (tS p), .t (tK q)], .i a2, .agg [.t (.b u), .t (.ints v), .t (.ints w)]] (.tup [.agg [.t (.b r.1), .t (.ints (r.2.1)), .t (.ints (r.2.2.1))], .c (.t (.b r.2.2.2))]):=by
  by_cases hy:(gd z67 a a2.toNat).f0=4
  ·exact DW (h:=h) (hy:=hy)
  ·exact DV (h:=h) (hy:=hy)
end Go.Proofs.Ytojpejfcafbafaa.V
end
section
namespace Go.Proofs.Ytojpejfcafbafaa.V
open Go Go.RowKit Go.Proofs.Ytojpejfcafbafaa.P
set_option linter.unusedVariables false
theorem sO:fE [T.s (.bool false),T.sl 3 1 0 fun _=> [T.s (.int .i64 0)],T.sl 3 1 0 fun _=> [T.s (.int .i64 0)]] []=fl z69 eS []:=rZ [] rfl rfl
theorem sP (a:Bool) (b c:List Int):fE [T.s (.bool false),T.sl 3 1 0 fun _=> [T.s (.int .i64 0)],T.sl 3 1 0 fun _=> [T.s (.int .i64 0)]] [[T.s (.bool a),T.ints b,T.ints c]]=fl z69 eS [⟨a,b,c⟩]:=rZ [(⟨a,b,c⟩:S69)] rfl rfl
theorem sQ:fE [T.s (.int .i64 0),T.s (.int .i64 0),T.s (.int .i64 0)] []=fl z67 eI []:=rZ [] rfl rfl
theorem sS (a b c:Int):fE [T.s (.int .i64 0),T.s (.int .i64 0),T.s (.int .i64 0)] [[T.s (.int .i64 a),T.s (.int .i64 b),T.s (.int .i64 c)]]=fl z67 eI [⟨a,b,c⟩]:=rZ [(⟨a,b,c⟩:S67)] rfl rfl
theorem sU (a b c a' b' c' :Int):fE [T.s (.int .i64 0),T.s (.int .i64 0),T.s (.int .i64 0)] [[T.s (.int .i64 a),T.s (.int .i64 b),T.s (.int .i64 c)], [T.s (.int .i64 a'),T.s (.int .i64 b'),T.s (.int .i64 c')]]=fl z67 eI [⟨a,b,c⟩,⟨a',b',c'⟩]:=rZ [(⟨a,b,c⟩:S67),(⟨a',b',c'⟩:S67)] rfl rfl
theorem r9 {xs:List S69} {i:Int} {a:Bool} {b c:List Int} (h0:0≤i) (h1:i<(xs.length:Int)):iE (fl z69 eS xs) i.toNat [T.s (.bool a),T.ints b,T.ints c]=fl z69 eS (xs.set i.toNat ⟨a,b,c⟩):=Bd rfl h0 h1
theorem sV {xs:List S67} {i a b c:Int} (h0:0≤i) (h1:i<(xs.length:Int)):iE (fl z67 eI xs) i.toNat [T.s (.int .i64 a),T.s (.int .i64 b),T.s (.int .i64 c)]=fl z67 eI (xs.set i.toNat ⟨a,b,c⟩):=Bd rfl h0 h1
end Go.Proofs.Ytojpejfcafbafaa.V
end
section
namespace Go.Proofs.Ytojpejfcafbafaa.P
open Go.RowKit Go.Proofs.YtojpejfcafbafaaW.PrintWords
set_option linter.unusedVariables false
mutual
def dX.l0:Nat→Int→List (S69)→Bool→List Int→List Int→Bool→List (S41)→List (S35)→Int→Int→List Int→Int→Int→List (S67)→List (S69)→List (S73)→Option (List (S69)×Bool)
  |0,_,_,_,_,_,_,_,_,_,_,_,_,_,_,_,_=>none
  |k+1,at_,out,s0,s1,s2,comes,c0,c1,m0,m1,m2,m3,m4,m5,m6,m7=>if at_<(m5.length:Int)then(if 0≤at_ then(if at_<(m6.length:Int)then(if(kw m6 at_).f0=true then(if comes=true then((fK.f k c0 s0 s1 s2 (kw m6 at_).f0 (kw m6 at_).f1 (kw m6 at_).f2).bind fun t=>(if t=true then((rT.f (kw m6 at_).f0 (kw m6 at_).f1 (kw m6 at_).f2).bind fun c=>(dX.j0 k at_ out c.1 c.2.1 c.2.2 true c0 c1 m0 m1 m2 m3 m4 m5 m6 m7))else(some (out,false))))else((rT.f (kw m6 at_).f0 (kw m6 at_).f1 (kw m6 at_).f2).bind fun c=>(dX.j0 k at_ out c.1 c.2.1 c.2.2 true c0 c1 m0 m1 m2 m3 m4 m5 m6 m7)))else(dX.j0 k at_ out s0 s1 s2 comes c0 c1 m0 m1 m2 m3 m4 m5 m6 m7))else none)else none)else(some (out, !comes))
def dX.j0:Nat→Int→List (S69)→Bool→List Int→List Int→Bool→List (S41)→List (S35)→Int→Int→List Int→Int→Int→List (S67)→List (S69)→List (S73)→Option (List (S69)×Bool)
  |0,_,_,_,_,_,_,_,_,_,_,_,_,_,_,_,_=>none
  |k+1,at_,out,s0,s1,s2,comes,c0,c1,m0,m1,m2,m3,m4,m5,m6,m7=>if comes=true then(if out.length<2513169434916 then((sF.f k c0 c1 m0 m1 m2 m3 m4 m5 m6 m7 at_ s0 s1 s2).bind fun n=>(if n.2.2.2=true then((eB.f k c0 c1 m0 m1 m2 m3 m4 m5 m6 m7 at_ s0 s1 s2 n.1 n.2.1 n.2.2.1).bind fun t=>(if t=true then(if 0≤at_ then(if at_<(m5.length:Int)then((vF.f (bB m5 at_).f0 (bB m5 at_).f1 (bB m5 at_).f2).bind fun e=>(dX.l0 k (wrap64 (at_+1)) (out++ [⟨s0,s1,s2⟩]) n.1 n.2.1 n.2.2.1 (!e) c0 c1 m0 m1 m2 m3 m4 m5 m6 m7))else none)else none)else(some (out++ [⟨s0,s1,s2⟩],false))))else(some (out++ [⟨s0,s1,s2⟩],false))))else none)else(some (out,false))
end
def dX.f (k:Nat) (n:List (S41)) (o:List (S35)) (a:Int) (c:Int) (d:List Int) (e:Int) (g:Int) (h:List (S67)) (j:List (S69)) (m:List (S73)):Option (List (S69)×Bool):=(kV.f k a c d e g h j m).bind fun s=>(dX.l0 k 0 [] s.1 s.2.1 s.2.2 true n o a c d e g h j m)
def uh.f (k:Nat) (a:List (S41)) (h:List (S35)) (l1:List (S69)) (a2:Int) (d:Bool) (e:List Int) (g:List Int):Option (Bool×List (S69)):=(if 0≤a2 then(if a2<(l1.length:Int)then(if(kw l1 a2).f0=true then((fA.f k a (kw l1 a2).f0 (kw l1 a2).f1 (kw l1 a2).f2 d e g).bind fun x=>(if x.1=true then((fK.f k a x.1 x.2.1 x.2.2 (kw l1 a2).f0 (kw l1 a2).f1 (kw l1 a2).f2).bind fun t=>(if t=true then(some (false,l1))else(some (true,l1.set (a2:Int).toNat ⟨x.1,x.2.1,x.2.2⟩))))else(some (false,l1))))else((rT.f d e g).bind fun c=>(some (true,l1.set (a2:Int).toNat ⟨c.1,c.2.1,c.2.2⟩))))else none)else none)
mutual
def bE.l0:Nat→Int→Bool→List (S69)→List (S41)→List (S35)→Int→Int→List Int→Int→Int→List (S67)→List (S69)→List (S73)→Int→Bool→List Int→List Int→Option (Bool×List (S69))
  |0,_,_,_,_,_,_,_,_,_,_,_,_,_,_,_,_,_=>none
  |k+1,i,ch,all,c0,c1,m0,m1,m2,m3,m4,m5,m6,m7,at_,s0,s1,s2=>if i<(m7.length:Int)then(if 0≤i then((iK.f at_ (fJ m7 i).f0 (wrap64 ((fJ m7 i).f1 - 1))).bind fun t=>(if t=true then((vD.f (fJ m7 i).f0 (fJ m7 i).f1 (fJ m7 i).f2 (fJ m7 i).f3 s0 s1 s2).bind fun c=>((uh.f k c0 c1 all (fJ m7 i).f2 c.1 c.2.1 c.2.2).bind fun g=>(if g.1=true then(bE.l0 k (wrap64 (i+1)) true g.2 c0 c1 m0 m1 m2 m3 m4 m5 m6 m7 at_ s0 s1 s2)else(bE.l0 k (wrap64 (i+1)) ch g.2 c0 c1 m0 m1 m2 m3 m4 m5 m6 m7 at_ s0 s1 s2))))else(bE.l0 k (wrap64 (i+1)) ch all c0 c1 m0 m1 m2 m3 m4 m5 m6 m7 at_ s0 s1 s2)))else none)else((sF.f k c0 c1 m0 m1 m2 m3 m4 m5 m6 m7 at_ s0 s1 s2).bind fun n=>(if n.2.2.2=true then(if 0≤at_ then(if at_<(m5.length:Int)then((uJ.f (bB m5 at_).f0 (bB m5 at_).f1 (bB m5 at_).f2).bind fun t=>(if t=true then((uh.f k c0 c1 all (bB m5 at_).f1 n.1 n.2.1 n.2.2.1).bind fun g=>(if g.1=true then(bE.j0 k true g.2 c0 c1 m0 m1 m2 m3 m4 m5 m6 m7 at_ n.1 n.2.1 n.2.2.1)else(bE.j0 k ch g.2 c0 c1 m0 m1 m2 m3 m4 m5 m6 m7 at_ n.1 n.2.1 n.2.2.1)))else(bE.j0 k ch all c0 c1 m0 m1 m2 m3 m4 m5 m6 m7 at_ n.1 n.2.1 n.2.2.1)))else none)else none)else(some (ch,all))))
def bE.j0:Nat→Bool→List (S69)→List (S41)→List (S35)→Int→Int→List Int→Int→Int→List (S67)→List (S69)→List (S73)→Int→Bool→List Int→List Int→Option (Bool×List (S69))
  |0,_,_,_,_,_,_,_,_,_,_,_,_,_,_,_,_=>none
  |k+1,ch,all,c0,c1,m0,m1,m2,m3,m4,m5,m6,m7,at_,s0,s1,s2=>(if 0≤at_ then(if at_<(m5.length:Int)then((vF.f (bB m5 at_).f0 (bB m5 at_).f1 (bB m5 at_).f2).bind fun e=>(if e=true then(some (ch,all))else(if wrap64 (at_+1)<(m5.length:Int)then((uh.f k c0 c1 all (wrap64 (at_+1)) s0 s1 s2).bind fun g=>(if g.1=true then(some (true,g.2))else(some (ch,g.2))))else(some (ch,all)))))else none)else none)
end
def bE.f (k:Nat) (a:List (S41)) (c:List (S35)) (d:Int) (e:Int) (g:List Int) (h:Int) (j:Int) (m:List (S67)) (n:List (S69)) (o:List (S73)) (l2:List (S69)) (a3:Int):Option (Bool×List (S69)):=(if 0≤a3 then(if a3<(l2.length:Int)then(if(kw l2 a3).f0=true then(bE.l0 k 0 false l2 a c d e g h j m n o a3 (kw l2 a3).f0 (kw l2 a3).f1 (kw l2 a3).f2)else(some (false,l2)))else none)else none)
mutual
def aS.l0:Nat→Int→List (S69)→List (S41)→List (S35)→Int→Int→List Int→Int→Int→List (S67)→List (S69)→List (S73)→Option (List (S69))
  |0,_,_,_,_,_,_,_,_,_,_,_,_=>none
  |k+1,i,all,c0,c1,m0,m1,m2,m3,m4,m5,m6,m7=>if i<(m5.length:Int)then((sD.f).bind fun s=>(if all.length<2513169434916 then(aS.l0 k (wrap64 (i+1)) (all++ [⟨s.1,s.2.1,s.2.2⟩]) c0 c1 m0 m1 m2 m3 m4 m5 m6 m7)else none))else((kV.f k m0 m1 m2 m3 m4 m5 m6 m7).bind fun s=>(if 0<(all.length:Int)then(aS.l1 k true (all.set (0:Int).toNat ⟨s.1,s.2.1,s.2.2⟩) c0 c1 m0 m1 m2 m3 m4 m5 m6 m7)else none))
def aS.l1:Nat→Bool→List (S69)→List (S41)→List (S35)→Int→Int→List Int→Int→Int→List (S67)→List (S69)→List (S73)→Option (List (S69))
  |0,_,_,_,_,_,_,_,_,_,_,_,_=>none
  |k+1,ch,all,c0,c1,m0,m1,m2,m3,m4,m5,m6,m7=>if ch=true then(aS.l2 k false 0 all c0 c1 m0 m1 m2 m3 m4 m5 m6 m7)else(aS.l3 k 0 all c0 c1 m0 m1 m2 m3 m4 m5 m6 m7)
def aS.l2:Nat→Bool→Int→List (S69)→List (S41)→List (S35)→Int→Int→List Int→Int→Int→List (S67)→List (S69)→List (S73)→Option (List (S69))
  |0,_,_,_,_,_,_,_,_,_,_,_,_,_=>none
  |k+1,ch,at_,all,c0,c1,m0,m1,m2,m3,m4,m5,m6,m7=>if at_<(m5.length:Int)then((bE.f k c0 c1 m0 m1 m2 m3 m4 m5 m6 m7 all at_).bind fun g=>(if g.1=true then(aS.l2 k true (wrap64 (at_+1)) g.2 c0 c1 m0 m1 m2 m3 m4 m5 m6 m7)else(aS.l2 k ch (wrap64 (at_+1)) g.2 c0 c1 m0 m1 m2 m3 m4 m5 m6 m7)))else(aS.l1 k ch all c0 c1 m0 m1 m2 m3 m4 m5 m6 m7)
def aS.l3:Nat→Int→List (S69)→List (S41)→List (S35)→Int→Int→List Int→Int→Int→List (S67)→List (S69)→List (S73)→Option (List (S69))
  |0,_,_,_,_,_,_,_,_,_,_,_,_=>none
  |k+1,at_,all,c0,c1,m0,m1,m2,m3,m4,m5,m6,m7=>if at_<(m5.length:Int)then((bA.f k m0 m1 m2 m3 m4 m5 m6 m7 at_).bind fun t=>(if t=true then(aS.l3 k (wrap64 (at_+1)) all c0 c1 m0 m1 m2 m3 m4 m5 m6 m7)else((sD.f).bind fun s=>(if 0≤at_ then(if at_<(all.length:Int)then(aS.l3 k (wrap64 (at_+1)) (all.set (at_:Int).toNat ⟨s.1,s.2.1,s.2.2⟩) c0 c1 m0 m1 m2 m3 m4 m5 m6 m7)else none)else none))))else(some all)
end
def aS.f (k:Nat) (a:List (S41)) (c:List (S35)) (d:Int) (e:Int) (g:List Int) (h:Int) (j:Int) (m:List (S67)) (n:List (S69)) (o:List (S73)):Option (List (S69)):=(aS.l0 k 0 [] a c d e g h j m n o)
end Go.Proofs.Ytojpejfcafbafaa.P
end
section
namespace Go.Proofs.Ytojpejfcafbafaa.V
open Go Go.RowKit Go.Proofs.Ytojpejfcafbafaa.P
set_option linter.unusedVariables false
set_option linter.unusedSimpArgs false
attribute [local simp ↓] eG eH fQ fT eO dM fZ eP eQ gm gp gq dN dO dP gB gz gG gF dQ bW dV cz dJ dR eT eU eX
attribute [local simp] fU fV dK bR eF dL bS bT bU bV bM bN dS eY dU bX bY bZ cu bO fD lM iL dz iw evl dI eZ fu kD iX List.range List.range.loop lT kX fo fB iC iA Bs.live Bs.get lN WkV WkA WkC lg lH kY lD cZ iM TEq.refl bg fH qQ aF aG aD aH aI aJ ei d9 splice dE Bs.set kU fC Rn.at gu gy iF iD lL chunks lC fP toT fE iE rowsOf cB ik plR plV plC lF lI lQ lh fI iR lU
attribute [local simp] List.length_pos_iff qR qU iG iH iI puts dh
attribute [local simp ←] ig
attribute [local simp] ksL ru ksV rV ksC ksT ren kr rO rH dw sO sP sQ sS sU r9 sV fF dW dx iW iB iO iQ lS rG closedB iT kP kG kH kJ kL iJ kN
attribute [local simp] ag3 un3 sz3 in3 by3 ze3 ct3 zt3 zu3 ag4 un4 sz4 in4 by4 ze4 ct4 zt4 zu4 ag5 un5 sz5 in5 by5 ze5 ct5 zt5 zu5 mi mq mD mE mF mG mH mI mJ io3 mK io5 bo4 mM mO mP mQ mR mU mV mW mX mY mZ ng ni nk nu ny nz nA nC nD nE nG nH nI nJ nK nL nM nN nO nP nQ nR nS nT nU nV nW nX nY nZ oh ol om oo oq ou ow oz oC oD oF oG oH oI oJ oK oL oM oN oO oP oQ oU oV oW oZ o6 o7 o8 iZ ja jb jc jd je jf jg jh ji jk jl jm jo jq jr jv jw jy jA o9 pg pu pz pE pF pG pI pJ pK jB jC jD jE jF jG jH jI jJ jK jL jM jN jO jP jQ jR jS jT jU jV jW jX jY jZ kg ko mz gH gI gJ gK gL gN gP gQ gT gU gV gW gX gY gZ ib pO pQ pR pU pV pW pX pY p9 qa qb qc qd qf qg qh qi qj ql qm qo qp qw qx qy qz qA qB qC qD qE qF qG qH qI qJ qK qL qM qN qO qP mix
attribute [local simp] eb eC eI eS eK eM nm
set_option maxRecDepth 20000 in
set_option maxHeartbeats 4000000 in
theorem wB (k:Nat) (a:List (S41)) (d:List (S35)) (l1:List (S69)) (a2:Int) (e:Bool) (g:List Int) (j:List Int) (r:Bool×List (S69)) (h:uh.f k a d l1 a2 e g j=some r):uL Try.prog 91 [.agg [.t (tC a), .t (tM d)], .c (.own 0 3 l1.length), .i a2, .agg [.t (.b e), .t (.ints g), .t (.ints j)]] [(0,some (.row 69 3 l1.length (fl z69 eS l1)))] (.c (.t (.b r.1))) [(0,some (.row 69 3 (r.2).length (fl z69 eS (r.2))))]:=by
  unfold uh.f at h
  try simp only[aF,aG,aD,aH,aI,aJ]at h
  refine bF Try.func91 rfl rfl rfl ?_
  try simp -implicitDefEqProofs (maxSteps:=2000000)
  repeat' first
    |(show ek _ _ 4 _ _ _ _;refine aT (by decide) [[], [0], [], [], [2,3], [4,2,3], [], [1,5,6,0,4,2,3], [], [8,7,0,1,2,3,4,5,6]] [21,22,23,24,25,26,27,28,9,0] [0,1,2,3,4,5,6,8,7,9] (by kernel_rfl) ?_;try simp -implicitDefEqProofs (maxSteps:=2000000) [*, -h,aj,ah,ae,ai,ak,au,af,Op.operands,Call.operands])
    |(show ek _ _ 5 _ _ _ _;refine aT (by decide) [[], [0], [1,0], [2,1,0], [3,2,1,0], [4,3,2,1,0], [3,2,1,0], [3,2,1,0], [3,2,1,0], [7,8,3,2,1,0], [9,3,7,8,2,1,0], [5,6,10,3,4,2,1,0,9,7,8], [3,11,2,1,0,5,6,10,4,9,7,8]] [29,30,31,32,33,34,35,36,37,38,39,40,41] [0,1,2,3,4,5,6,7,8,9,10,11,12] (by kernel_rfl) ?_;try simp -implicitDefEqProofs (maxSteps:=2000000) [*, -h,aj,ah,ae,ai,ak,au,af,Op.operands,Call.operands])
    |(with_reducible (first|(replace h:=bC (by assumption) h)|(replace h:=bD (by assumption) h)|(replace h:=aY (by assumption) h)|(replace h:=aZ (by assumption) h)))
    |((with_reducible have hh:=aB h);clear h;rcases hh with⟨hc,h⟩|⟨hc,h⟩<;>have hd:=hc<;>(first|(replace hc:=dA hc)|(replace hc:=dB hc)|skip)<;>(try simp at hd)<;>(try(first|(subst hd)|(replace hd:=bG hd)|(replace hd:=eq_false hd)|(replace hd:=eq_true hd)))<;>(try simp -implicitDefEqProofs (maxSteps:=2000000) [*, -h,aj,ah,ae,ai,ak,au,af,Op.operands,Call.operands]))
    |(with_reducible replace h:=aL h)
    | ((with_reducible have hh:=Option.bind_eq_some_iff.1 h);clear h;obtain⟨x_,hx_,h⟩:=hh;(first|(refine av (Ac (h:=hx_)) rfl rfl ?_ ⟨rfl,rfl⟩ ?_;(·simp[*]);clear hx_;try simp -implicitDefEqProofs (maxSteps:=2000000) [*, -h,aj,ah,ae,ai,ak,au,af,Op.operands,Call.operands])|(refine bf (Ac (h:=hx_)) rfl rfl ?_ ⟨rfl,rfl⟩ rfl ?_;(·simp[*]);clear hx_;try simp -implicitDefEqProofs (maxSteps:=2000000) [*, -h,aj,ah,ae,ai,ak,au,af,Op.operands,Call.operands])|(refine av (uK (h:=hx_)) rfl rfl ?_ ⟨rfl,rfl⟩ ?_;(·simp[*]);clear hx_;try simp -implicitDefEqProofs (maxSteps:=2000000) [*, -h,aj,ah,ae,ai,ak,au,af,Op.operands,Call.operands])|(refine bf (uK (h:=hx_)) rfl rfl ?_ ⟨rfl,rfl⟩ rfl ?_;(·simp[*]);clear hx_;try simp -implicitDefEqProofs (maxSteps:=2000000) [*, -h,aj,ah,ae,ai,ak,au,af,Op.operands,Call.operands])|(refine av (uC (h:=hx_)) rfl rfl ?_ ⟨rfl,rfl⟩ ?_;(·simp[*]);clear hx_;try simp -implicitDefEqProofs (maxSteps:=2000000) [*, -h,aj,ah,ae,ai,ak,au,af,Op.operands,Call.operands])|(refine bf (uC (h:=hx_)) rfl rfl ?_ ⟨rfl,rfl⟩ rfl ?_;(·simp[*]);clear hx_;try simp -implicitDefEqProofs (maxSteps:=2000000) [*, -h,aj,ah,ae,ai,ak,au,af,Op.operands,Call.operands]))
       )
    |(refine⟨(by first|exact aP (by assumption) (by decide) (by decide)|exact aN (by assumption) (by decide) (by decide)), ?_⟩;try simp -implicitDefEqProofs (maxSteps:=2000000) [*, -h,aj,ah,ae,ai,ak,au,af,Op.operands,Call.operands])
    |(cases h;done)
    |(cases h;refine ed _ rfl ?_;constructor<;>simp[*]<;>exact az (by omega) (by omega) (by simp))
end Go.Proofs.Ytojpejfcafbafaa.V
end
section
namespace Go.Proofs.Ytojpejfcafbafaa.V
open Go Go.RowKit Go.Proofs.Ytojpejfcafbafaa.P
set_option linter.unusedVariables false
theorem kE {k:Nat} {c0:List S41} {c1:List S35} {all:List S69} {at_:Int} {s0:Bool} {s1 s2:List Int} {g:Bool×List S69} (h:uh.f k c0 c1 all at_ s0 s1 s2=some g):g.2.length=all.length:=by
  unfold uh.f at h
  repeat' first
    |((with_reducible have hh:=aB h);clear h;rcases hh with⟨_,h⟩|⟨_,h⟩)
    |((with_reducible have hh:=Option.bind_eq_some_iff.1 h);clear h;obtain⟨x,_,h⟩:=hh)
    |(cases h;done)
    |(cases h;simp;done)
theorem zL: ∀(k:Nat) (i:Int) (ch:Bool) (all:List S69) (c0:List S41) (c1:List S35) (m0 m1:Int) (m2:List Int) (m3 m4:Int) (m5:List S67) (m6:List S69) (m7:List S73) (at_:Int) (s0:Bool) (s1 s2:List Int) (g:Bool×List S69),
    (bE.l0 k i ch all c0 c1 m0 m1 m2 m3 m4 m5 m6 m7 at_ s0 s1 s2=some g→g.2.length=all.length)∧(bE.j0 k ch all c0 c1 m0 m1 m2 m3 m4 m5 m6 m7 at_ s0 s1 s2=some g→g.2.length=all.length)
  |0,_,_,_,_,_,_,_,_,_,_,_,_,_,_,_,_,_,_=>by exact⟨fun h=>by simp[bE.l0]at h,fun h=>by simp[bE.j0]at h⟩
  | k + 1,i,ch,all,c0,c1,m0,m1,m2,m3,m4,m5,m6,m7,at_,s0,s1,s2,g=>by
    constructor
    · intro h
      simp only[bE.l0]at h
      repeat' first
        |((with_reducible have hh:=aB h);clear h;rcases hh with⟨_,h⟩|⟨_,h⟩)
        |((with_reducible have hh:=Option.bind_eq_some_iff.1 h);clear h;obtain⟨x,hx,h⟩:=hh;try have:=kE hx)
        |(cases h;done)
        |(cases h;simp_all;done)
        |(have:=(zL k _ _ _ _ _ _ _ _ _ _ _ _ _ _ _ _ _ _).1 h;simp_all;done)
        |(have:=(zL k 0 _ _ _ _ _ _ _ _ _ _ _ _ _ _ _ _ _).2 h;simp_all;done)
    · intro h
      simp only[bE.j0]at h
      repeat' first
        |((with_reducible have hh:=aB h);clear h;rcases hh with⟨_,h⟩|⟨_,h⟩)
        |((with_reducible have hh:=Option.bind_eq_some_iff.1 h);clear h;obtain⟨x,hx,h⟩:=hh;try have:=kE hx)
        |(cases h;done)
        |(cases h;simp_all;done)
theorem lW {k:Nat} {c0:List S41} {c1:List S35} {m0 m1:Int} {m2:List Int} {m3 m4:Int} {m5:List S67} {m6:List S69} {m7:List S73} {all:List S69} {at_:Int} {g:Bool×List S69} (h:bE.f k c0 c1 m0 m1 m2 m3 m4 m5 m6 m7 all at_=some g):g.2.length=all.length:=by
  unfold bE.f at h
  repeat' first
    |((with_reducible have hh:=aB h);clear h;rcases hh with⟨_,h⟩|⟨_,h⟩)
    |(cases h;done)
    |(cases h;simp;done)
    |exact(zL k _ _ _ _ _ _ _ _ _ _ _ _ _ _ _ _ _ _).1 h
end Go.Proofs.Ytojpejfcafbafaa.V
end
section
namespace Go.Proofs.Ytojpejfcafbafaa.V
open Go Go.RowKit Go.Proofs.Ytojpejfcafbafaa.P
theorem Nh {xs:List S69} {a:Bool} {b c:List Int} (h1:0<(xs.length:Int)):iE (fl z69 eS xs) 0 [T.s (.bool a),T.ints b,T.ints c]=fl z69 eS (xs.set 0 ⟨a,b,c⟩):=r9 (i:=0) (by omega) h1
end Go.Proofs.Ytojpejfcafbafaa.V
end
section
namespace Go.Proofs.Ytojpejfcafbafaa.V
open Go Go.RowKit Go.Proofs.Ytojpejfcafbafaa.P Go.Proofs.YtojpejfcafbafaaW.PrintWords Go.Proofs.YtojpejfcafbafaaW.PrintMore
set_option linter.unusedVariables false
theorem uX (a b:Int):mx a b=if a<b then b else a:=rfl
theorem uY (a b:Int):mn a b=if b<a then b else a:=rfl
theorem uo (a b:Int):Go.bits .xor .i64 a b=IntKind.i64.wrap ((BitVec.ofInt IntKind.i64.bits a ^^^ BitVec.ofInt IntKind.i64.bits b).toNat):=rfl
theorem uq:fE [T.s (.int .i64 0),T.sl 3 1 0 fun _=> [T.s (.int .i64 0)]] []=fl z41 eC []:=rZ [] rfl rfl
theorem ut (a:Int) (b:List Int):fE [T.s (.int .i64 0),T.sl 3 1 0 fun _=> [T.s (.int .i64 0)]] [[T.s (.int .i64 a),T.ints b]]=fl z41 eC [⟨a,b⟩]:=rZ [(⟨a,b⟩:S41)] rfl rfl
theorem uu (a b c d:Int):fE [T.s (.int .i64 0)] [[T.s (.int .i64 a)], [T.s (.int .i64 b)], [T.s (.int .i64 c)], [T.s (.int .i64 d)]]=fl 0 ei [a,b,c,d]:=rZ [a,b,c,d] rfl rfl
theorem uw (a b c d e f:Int):fE [T.s (.int .i64 0)] [[T.s (.int .i64 a)], [T.s (.int .i64 b)], [T.s (.int .i64 c)], [T.s (.int .i64 d)], [T.s (.int .i64 e)], [T.s (.int .i64 f)]]=fl 0 ei [a,b,c,d,e,f]:=rZ [a,b,c,d,e,f] rfl rfl
end Go.Proofs.Ytojpejfcafbafaa.V
end
section
namespace Go.Proofs.Ytojpejfcafbafaa.V
open Go Go.RowKit Go.Proofs.Ytojpejfcafbafaa.P
set_option linter.unusedVariables false
def bsC:C→C→List Nat
  | .t _, .own k _ _=> [k]
  |_,_=> []
def wF:List C→List C→List Nat
  |x::xs,y::ys=>bsC x y++wF xs ys
  |_,_=> []
def bsV:V→V→List Nat
  | .c x, .c y=>bsC x y
  | .agg xs, .agg ys=>wF xs ys
  |_,_=> []
def vJ:List V→List V→List Nat
  |x::xs,y::ys=>bsV x y++vJ xs ys
  |_,_=> []
def vM (es:List Nat) (B:Bs) (k:Nat):Bool:=match B.live k with|some (.row e _ _ _)=>es.contains e|_=>false
theorem wK {es:List Nat} {B:Bs} {k:Nat} (h:vM es B k=true): ∃e s n f,e∈es∧B.live k=some (.row e s n f):=by
  unfold vM at h
  split at h
  ·rename_i e s n f hl;exact⟨e,s,n,f,by simpa using h,hl⟩
  ·cases h
theorem yR {e n sz m:Nat} {f:Nat→List T} (h:Fs m e) (hf: ∀j,∀x∈f j,NoTy e x):NoTy e (.sl m sz n f):= .sl _ _ _ _ h fun j o y _ hy=>hf j y (List.mem_of_getElem? hy)
theorem vT {e:Nat} {xs:List Int} (h:3≠e):NoTy e (.ints xs):=yR ⟨h,fun h=>absurd h (by decide)⟩ fun j x hx=>by simp only[fl,ei,List.mem_singleton]at hx;subst hx;exact .s _
section
variable {P:Program} {cl:Call} {dst:Option Tmp} {ts:List V} {B:Bs} {g:Nat} {xs:List V} {v:V}
theorem Ay {a:Bs} {K:List V→Bs→Prop} (es:List Nat) (ct:iU P g xs v) (hc:cl.callee= .value (.func g)) (hg:uR P g=true) (hp:dx [] (vJ xs (cl.args.toList.map (evl ts))) B (cl.args.toList.map (evl ts)) xs)
    (hb: ∀k∈vJ xs (cl.args.toList.map (evl ts)),vM es B k=true) (hn:iQ v=true∧kr (ren (dst.getD 0) []) v=v) (he: ∀e∈es,NoV e v) (h:K (dI ts dst v) B):vX P a cl dst ts B K:=
  EK _ es (φ:=(·=v)) ct hc hg hp (fun k hk=>wK (hb k hk)) (by rintro r rfl;exact⟨hn.1,he,hn.2⟩) (by rintro r rfl;exact h)
end
section
variable {P:Program} {cl:Call} {dst:Option Tmp} {ts:List V} {B:Bs} {g:Nat} {xs:List V} {ins B' :Bs} {v:V} {ks bs:List Nat}
structure Lent (es:List Nat) (B B' :Bs) (ks bs:List Nat) (v:V):Prop where
  rows: ∀k∈bs,k∉ks∧vM es B k=true
  res: ∀e∈es,NoV e v
  blks: ∀p∈B',∀b,p.2=some b→∀e∈es,NoB e b
theorem ES (es:List Nat) (ct:uL P g xs ins v B') (hc:cl.callee= .value (.func g)) (hg:uR P g=true) (hi:dw B 0 ks=ins) (hp:dx ks bs B (cl.args.toList.map (evl ts)) xs) (hs:FnSide B B' ks dst v) (hl:Lent es B B' ks bs v):
    CallAt P cl dst (dst.getD 0) (evl ts) B ks bs (fun w u=>w=kr (ren (dst.getD 0) ks) v∧u=B'.map fun p=>(ren (dst.getD 0) ks p.1,p.2)):=by
  subst hi
  refine⟨g,xs,es,_,hc,hg,⟨hs.nd,hs.few,fun k hk=> ?_,fun k hk=>⟨(hl.rows k hk).1, ?_⟩⟩,hp,ct, ?_⟩
  · have:=hs.live k hk
    cases hl:B.live k with
    |none=>rw[hl]at this;simp at this
    |some b=>rw[hl]at this;exact⟨b,rfl,by simpa using this⟩
  ·obtain⟨e,s,n,f,_,h⟩:=wK (hl.rows k hk).2;exact⟨e,s,n,f,h⟩
  · rintro res B1 ⟨rfl,rfl⟩
    refine⟨⟨hs.nd',fun q y hm hq=> ?_,fun q y hm hq=> ?_,fun q b hm=>⟨?_,fun e he=>hl.blks _ hm b rfl e he⟩,fun k hk=>wK (hl.rows k hk).2⟩,hs.tp,hl.res,fun p hm=> ?_,rfl,rfl⟩
    ·have:=hs.back _ hm;rw[if_neg hq]at this;exact this.1
    ·have:=hs.back _ hm;rw[if_pos hq]at this;exact this
    ·have:=hs.closed _ hm;simpa using this
    · have:=hs.back _ hm
      by_cases hq:p.1<100
      ·exact⟨by omega,fun h=>absurd hq h⟩
      · rw[if_neg hq]at this
        refine⟨this.2.1,fun _=> ?_⟩
        cases dst with
        |none=>simp at this
        |some d=>rfl
theorem K4 {a:Bs} {K:List V→Bs→Prop} (es:List Nat) (ct:uL P g xs ins v B') (hc:cl.callee= .value (.func g)) (hg:uR P g=true) (hks:ksL (ru xs (cl.args.toList.map (evl ts))) 0 ins.length=ks) (hbs:vJ xs (cl.args.toList.map (evl ts))=bs) (hi:dw B 0 ks=ins) (hp:dx ks bs B (cl.args.toList.map (evl ts)) xs) (hs:FnSide B B' ks dst v) (hl:Lent es B B' ks bs v)
    (h:K (dI ts dst (kr (ren (dst.getD 0) ks) v)) (dE B (B'.map fun p=>(ren (dst.getD 0) ks p.1,p.2)))):vX P a cl dst ts B K:=
  .inl ⟨ks,bs,_,ES es ct hc hg hi hp hs hl,by rintro w u ⟨rfl,rfl⟩;exact h⟩
end
theorem Oo {e n:Nat} {xs:List S69} (h:3≠e):NoB e (.row 69 3 n (fl z69 eS xs)):=fun j hj x hx=>by
  simp only[fl,eS,List.mem_cons,List.not_mem_nil,or_false]at hx
  rcases hx with rfl|rfl|rfl
  ·exact .s _
  ·exact vT h
  ·exact vT h
structure CutB {α:Type} (ins:Bs) (T:α→List V) (Bv:α→Bs) (inv:α→Prop) (ts:List V) (B:Bs):Prop where
  out: ∃a,inv a∧sW ins ts B (T a) (Bv a)
def H6 {α:Type} (ins:Bs) (T:α→List V) (Bv:α→Bs) (inv:α→Prop) (Q:Post):Post:=AU (fun ts B=>CutB ins T Bv inv ts B) Q
section
variable {α:Type} {P:Program} {ins:Bs} {x y:Code} {Q:Post} {ts:List V} {B:Bs} {T:α→List V} {Bv:α→Bs} {inv:α→Prop} {id n:Nat}
theorem tZ:H6 ins T Bv inv Q .normal ts B=CutB ins T Bv inv ts B:=rfl
theorem uf:H6 ins T Bv inv Q (.exit id) ts B=Q (.exit id) ts B:=rfl
theorem ug:H6 ins T Bv inv Q .ret ts B=Q .ret ts B:=rfl
theorem Jj {K:List V→Bs→Prop} (hK: ∀ts B,K ts B→HW P ins y Q ts B) (h:HW P ins x (AU K Q) ts B):HW P ins (x.seq y) Q ts B:=by
  refine KO (yC h ?_)
  intro e ts B h
  cases e with
  |normal=>exact hK ts B h
  |exit id=>exact h
  |ret=>exact h
theorem NP (T:α→List V) (Bv:α→Bs) (inv:α→Prop) (h1:HW P ins x (H6 ins T Bv inv Q) ts B) (h2: ∀a,inv a→HW P ins y Q (T a) (Bv a)):HW P ins (x.seq y) Q ts B:=by
  refine Jj (K:=fun ts B=>CutB ins T Bv inv ts B) ?_ h1
  intro ts B h
  obtain⟨a,hi,hw⟩:=h.out
  exact xQ hw (h2 a hi)
theorem uZ (h:aw P ins x Q ts B):HW P ins x Q ts B:=EH _ _ _ _ h
theorem K5 (h:HW P ins x (zH id Q) ts B):HW P ins (.block id x) Q ts B:=G9 h
theorem xU (h:HW P ins x (AU (HW P ins y Q) Q) ts B):HW P ins (x.seq y) Q ts B:=Jj (fun _ _ h=>h) h
theorem Be {β:Type} (m:List Bool) (val:β→List (Nat×V)) (ub:β→List (Nat×Option Blk)) (inv:β→Prop) (h1:HW P ins x (H6 ins (mkT m ts val) (fun a=>dE B (ub a)) inv Q) ts B)
    (h2: ∀a,inv a→HW P ins y Q (puts (dh m ts) (val a)) (dE B (ub a))):HW P ins (x.seq y) Q ts B:=NP (mkT m ts val) (fun a=>dE B (ub a)) inv h1 h2
theorem Bf {a:α} (m:List Bool) (r:Rn) (hi:inv a) (hw:Wk ins (r++idR B) (dh m ts) B (T a) (Bv a)):CutB ins T Bv inv ts B:=⟨a,hi,zn m _ rfl hw⟩
theorem K6 {n:Nat} {inv:Nat→α→Prop} {a0:α} (T:α→List V) (Bv:α→Bs) (h0:inv n a0) (hw:sW ins ts B (T a0) (Bv a0)) (h: ∀k a,k≤n→inv k a→HW P ins x (Aw ins T Bv inv k Q) (T a) (Bv a)):Am P ins x Q ts B:=by
  refine xQ hw ?_
  refine Fy (fun k ts B=> ∃a,k≤n∧inv k a∧sW ins ts B (T a) (Bv a)) n ⟨a0,Nat.le_refl _,h0,sW.refl⟩ ?_
  rintro k ts B ⟨a,hk,hi,h1⟩
  refine xQ h1 (yC (h k a hk hi) ?_)
  intro e ts B h
  cases e with
  |normal=>obtain⟨j,a',h1,h2,h3⟩:=h.out;exact⟨j,h1,a',by omega,h2,h3⟩
  |exit id=>exact h
  |ret=>exact h
theorem xk {β:Type} {b0:β} (m:List Bool) (val:β→List (Nat×V)) (ub:β→List (Nat×Option Blk)) (inv:Nat→β→Prop) (r:Rn) (h0:inv n b0) (hw:Wk ins (r++idR B) (dh m ts) B (mkT m ts val b0) (dE B (ub b0)))
    (h: ∀k a,k≤n→inv k a→HW P ins x (Aw ins (mkT m ts val) (fun a=>dE B (ub a)) inv k Q) (puts (dh m ts) (val a)) (dE B (ub a))):Am P ins x Q ts B:=
  K6 (mkT m ts val) (fun a=>dE B (ub a)) h0 (zn m _ rfl hw) h
theorem qY {K:List V→Bs→Prop}:AU K Q .normal ts B=K ts B:=rfl
theorem qZ {K:List V→Bs→Prop}:AU K Q (.exit id) ts B=Q (.exit id) ts B:=rfl
theorem rf {K:List V→Bs→Prop}:AU K Q .ret ts B=Q .ret ts B:=rfl
end
theorem Az {P:Program} {ins:Bs} {o:Oper} {K:List V→Bs→Prop} {ts ts' :List V} {B B' :Bs} (hw:sW ins ts B ts' B') (h:zI P ins o K ts' B'):zI P ins o K ts B:=
  fun c a w ρ hc hr N Q hN=>let ⟨ρ',hr'⟩:=hw c a w ρ hc hr;h c a w ρ' hc hr' N Q hN
theorem JU {P:Program} {ins:Bs} {cl:Call} {dst:Option Tmp} {K:List V→Bs→Prop} {ts ts' :List V} {B B' :Bs} (hw:sW ins ts B ts' B') (h:vX P ins cl dst ts' B' K):vX P ins cl dst ts B K:=by
  refine .inr fun o hop hd=>Az hw ?_
  subst hd
  rcases h with⟨ks,bs,outs,h1,h2⟩|h
  ·exact fun c a w ρ hc hr N Q hN=>Ey (.call cl ks bs outs hop h1) hr N fun v u a' w' ρ' ho hr' =>hN _ _ a' w' ρ' (h2 v u ho) hr'
  ·exact h o hop rfl
theorem CJ {P:Program} {ins:Bs} {cl:Call} {dst:Option Tmp} {K:List V→Bs→Prop} {ts:List V} {B:Bs} (k:Nat) (hn:ndB (B.map (·.1))=true) (hi:BL k B ins=true) (h:vX P ins cl dst (ts.map (lI k B)) (fI k B B) K):vX P ins cl dst ts B K:=
  JU (Ed k (xh hn) hi) h
theorem wu {xs:List S35} {i a b d e:Int} {c:List Int} {f:List S67} {g:List S69} {h:List S73} (h0:0≤i) (h1:i<(xs.length:Int)):
    iE (fl z35 eM xs) i.toNat [T.s (.int .i64 a),T.s (.int .i64 b),T.ints c,T.s (.int .i64 d),T.s (.int .i64 e),tI f,tS g,tK h]=fl z35 eM (xs.set i.toNat ⟨a,b,c,d,e,f,g,h⟩):=Bd rfl h0 h1
theorem wL (a b c d:Int):fE [T.s (.int .i64 0),T.s (.int .i64 0),T.s (.int .i64 0),T.s (.int .i64 0)] [[T.s (.int .i64 a),T.s (.int .i64 b),T.s (.int .i64 c),T.s (.int .i64 d)]]=fl z73 eK [⟨a,b,c,d⟩]:=rZ [(⟨a,b,c,d⟩:S73)] rfl rfl
theorem wM (a0 b0:Int) (c0:List Int) (d0 e0:Int) (f0:List S67) (g0:List S69) (h0:List S73) (a1 b1:Int) (c1:List Int) (d1 e1:Int) (f1:List S67) (g1:List S69) (h1:List S73) (a2 b2:Int) (c2:List Int) (d2 e2:Int) (f2:List S67) (g2:List S69) (h2:List S73):fE [T.s (.int .i64 0),T.s (.int .i64 0),T.sl 3 1 0 fun _=> [T.s (.int .i64 0)],T.s (.int .i64 0),T.s (.int .i64 0),T.sl 67 3 0 fun _=> [T.s (.int .i64 0),T.s (.int .i64 0),T.s (.int .i64 0)],T.sl 69 3 0 fun _=> [T.s (.bool false),T.sl 3 1 0 fun _=> [T.s (.int .i64 0)],T.sl 3 1 0 fun _=> [T.s (.int .i64 0)]],T.sl 73 4 0 fun _=> [T.s (.int .i64 0),T.s (.int .i64 0),T.s (.int .i64 0),T.s (.int .i64 0)]] [[T.s (.int .i64 a0),T.s (.int .i64 b0),T.ints c0,T.s (.int .i64 d0),T.s (.int .i64 e0),tI f0,tS g0,tK h0], [T.s (.int .i64 a1),T.s (.int .i64 b1),T.ints c1,T.s (.int .i64 d1),T.s (.int .i64 e1),tI f1,tS g1,tK h1], [T.s (.int .i64 a2),T.s (.int .i64 b2),T.ints c2,T.s (.int .i64 d2),T.s (.int .i64 e2),tI f2,tS g2,tK h2]]=fl z35 eM [(⟨a0,b0,c0,d0,e0,f0,g0,h0⟩:S35),(⟨a1,b1,c1,d1,e1,f1,g1,h1⟩:S35),(⟨a2,b2,c2,d2,e2,f2,g2,h2⟩:S35)]:=rZ [(⟨a0,b0,c0,d0,e0,f0,g0,h0⟩:S35),(⟨a1,b1,c1,d1,e1,f1,g1,h1⟩:S35),(⟨a2,b2,c2,d2,e2,f2,g2,h2⟩:S35)] rfl rfl
theorem wN (a0 b0:Int) (c0:List Int) (d0 e0:Int) (f0:List S67) (g0:List S69) (h0:List S73):fE [T.s (.int .i64 0),T.s (.int .i64 0),T.sl 3 1 0 fun _=> [T.s (.int .i64 0)],T.s (.int .i64 0),T.s (.int .i64 0),T.sl 67 3 0 fun _=> [T.s (.int .i64 0),T.s (.int .i64 0),T.s (.int .i64 0)],T.sl 69 3 0 fun _=> [T.s (.bool false),T.sl 3 1 0 fun _=> [T.s (.int .i64 0)],T.sl 3 1 0 fun _=> [T.s (.int .i64 0)]],T.sl 73 4 0 fun _=> [T.s (.int .i64 0),T.s (.int .i64 0),T.s (.int .i64 0),T.s (.int .i64 0)]] [[T.s (.int .i64 a0),T.s (.int .i64 b0),T.ints c0,T.s (.int .i64 d0),T.s (.int .i64 e0),tI f0,tS g0,tK h0]]=fl z35 eM [(⟨a0,b0,c0,d0,e0,f0,g0,h0⟩:S35)]:=rZ [(⟨a0,b0,c0,d0,e0,f0,g0,h0⟩:S35)] rfl rfl
theorem wO (a b d e:Int):fE [T.s (.int .i64 0),T.s (.int .i64 0),T.sl 3 1 0 fun _=> [T.s (.int .i64 0)],T.s (.int .i64 0),T.s (.int .i64 0),T.sl 67 3 0 fun _=> [T.s (.int .i64 0),T.s (.int .i64 0),T.s (.int .i64 0)],T.sl 69 3 0 fun _=> [T.s (.bool false),T.sl 3 1 0 fun _=> [T.s (.int .i64 0)],T.sl 3 1 0 fun _=> [T.s (.int .i64 0)]],T.sl 73 4 0 fun _=> [T.s (.int .i64 0),T.s (.int .i64 0),T.s (.int .i64 0),T.s (.int .i64 0)]] [[T.s (.int .i64 a),T.s (.int .i64 b),T.sl 3 1 0 fun _=> [T.s (.int .i64 0)],T.s (.int .i64 d),T.s (.int .i64 e),T.sl 67 3 0 fun _=> [T.s (.int .i64 0),T.s (.int .i64 0),T.s (.int .i64 0)],T.sl 69 3 0 fun _=> [T.s (.bool false),T.sl 3 1 0 fun _=> [T.s (.int .i64 0)],T.sl 3 1 0 fun _=> [T.s (.int .i64 0)]],T.sl 73 4 0 fun _=> [T.s (.int .i64 0),T.s (.int .i64 0),T.s (.int .i64 0),T.s (.int .i64 0)]]]=fl z35 eM [⟨a,b, [],d,e, [], [], []⟩]:=rZ [(⟨a,b, [],d,e, [], [], []⟩:S35)] rfl rfl
section
variable {P:Program} {cl:Call} {dst:Option Tmp} {ts:List V} {B:Bs} {g:Nat} {xs:List V} {ins B' :Bs} {v:V} {ks bs:List Nat}
theorem K7 {pt:List (List Nat)} {ds:List Nat} {i:Nat} {tr:Tr} {K:Tr→List V→Bs→Prop} (es:List Nat) (ct:uL P g xs ins v B') (hc:cl.callee= .value (.func g)) (hg:uR P g=true) (hks:ksL (ru xs (cl.args.toList.map (evl ts))) 0 ins.length=ks) (hbs:vJ xs (cl.args.toList.map (evl ts))=bs) (hi:dw B 0 ks=ins) (hp:dx ks bs B (cl.args.toList.map (evl ts)) xs) (hs:FnSide B B' ks dst v) (hl:Lent es B B' ks bs v)
    (hk:aj pt ds i bs ks tr=true) (h:K ((i,bs,ks)::tr) (dI ts dst (kr (ren (dst.getD 0) ks) v)) (dE B (B'.map fun p=>(ren (dst.getD 0) ks p.1,p.2)))):zi P cl dst ts B pt ds i tr K:=
  ⟨ks,bs,_,ES es ct hc hg hi hp hs hl,hk,by rintro w u ⟨rfl,rfl⟩;exact h⟩
end
theorem NQ {e:Nat} {xs:List S67} (h:67≠e):NoTy e (tI xs):=yR ⟨h,fun h=>absurd h (by decide)⟩ fun j x hx=>by
  simp only[fl,eI,List.mem_cons,List.not_mem_nil,or_false]at hx
  rcases hx with rfl|rfl|rfl<;>exact .s _
theorem NR {e:Nat} {xs:List S73} (h:73≠e):NoTy e (tK xs):=yR ⟨h,fun h=>absurd h (by decide)⟩ fun j x hx=>by
  simp only[fl,eK,List.mem_cons,List.not_mem_nil,or_false]at hx
  rcases hx with rfl|rfl|rfl|rfl<;>exact .s _
theorem K8 {e:Nat} {xs:List S69} (h:69≠e) (h' :3≠e):NoTy e (tS xs):=yR ⟨h,fun h=>absurd h (by decide)⟩ fun j x hx=>by
  simp only[fl,eS,List.mem_cons,List.not_mem_nil,or_false]at hx
  rcases hx with rfl|rfl|rfl
  ·exact .s _
  ·exact vT h'
  ·exact vT h'
theorem MK {a b c d:Int} {xs:List Int} {is:List S67} {ss:List S69} {ks:List S73}:NoV 35 (.agg [.t (.i a), .t (.i b), .t (.ints xs), .t (.i c), .t (.i d), .t (tI is), .t (tS ss), .t (tK ks)]):=by
  intro x hx
  simp only[List.mem_cons,List.not_mem_nil,or_false]at hx
  rcases hx with rfl|rfl|rfl|rfl|rfl|rfl|rfl|rfl
  ·exact .s _
  ·exact .s _
  ·exact vT (by decide)
  ·exact .s _
  ·exact .s _
  ·exact NQ (by decide)
  ·exact K8 (by decide) (by decide)
  ·exact NR (by decide)
theorem NS {e:Nat} {bs:List Int} {p:Int} (h:Fs 5 e):NoB e (rdB bs p):=by
  intro x hx
  simp only[List.mem_cons,List.not_mem_nil,or_false]at hx
  rcases hx with rfl|rfl
  ·exact yR h fun j x hx=>by
      simp only[fl,eb,List.mem_singleton]at hx;subst hx;exact .s _
  ·exact .s _
theorem NT {xs:List S69} {b:Bool}:NoV 35 (.tup [.c (.t (tS xs)), .c (.t (.b b))]):=by
  intro x hx
  simp only[List.mem_cons,List.not_mem_nil,or_false]at hx
  rcases hx with rfl|rfl
  ·exact K8 (by decide) (by decide)
  ·exact .s _
end Go.Proofs.Ytojpejfcafbafaa.V
end
