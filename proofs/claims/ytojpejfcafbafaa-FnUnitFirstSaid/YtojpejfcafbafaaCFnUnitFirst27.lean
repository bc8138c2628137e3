/- A part of the claim FnUnitFirst. -/
import Derived.Test.YtojpejfcafbafaaCFnUnitFirst26
section
namespace Go.Proofs.Ytojpejfcafbafaa.V
open Go Go.RowKit Go.Proofs.Ytojpejfcafbafaa.P
set_option linter.unusedVariables false
set_option linter.unusedSimpArgs false
attribute [local simp ↓] eG eH fQ fT eO dM fZ eP eQ gm gp gq dN dO dP gB gz gG gF dQ bW dV cz dJ dR eT eU eX
attribute [local simp] fU fV dK bR eF dL bS bT bU bV bM bN dS eY dU bX bY bZ cu bO fD lM iL dz iw evl dI eZ fu kD iX List.range List.range.loop lT kX fo fB iC iA Bs.live Bs.get lN WkV WkA WkC lg lH kY lD cZ iM TEq.refl bg fH qQ aF aG aD aH aI aJ ei d9 splice dE Bs.set kU fC Rn.at gu gy iF iD lL chunks lC fP toT fE iE rowsOf cB ik plR plV plC lF lI lQ lh fI iR lU
attribute [local simp] List.length_pos_iff qR qU iG iH iI puts dh
attribute [local simp ←] ig
attribute [local simp] ksL ru ksV rV ksC ksT ren kr rO rH dw fF dW dx iW iB iO iQ lS rG closedB iT kP kG kH kJ kL iJ kN
attribute [local simp] ag3 un3 sz3 in3 by3 ze3 ct3 zt3 zu3 ag4 un4 sz4 in4 by4 ze4 ct4 zt4 zu4 ag5 un5 sz5 in5 by5 ze5 ct5 zt5 zu5 mi mq mD mE mF mG mH mI mJ io3 mK io5 bo4 mM mO mP mQ mR mU mV mW mX mY mZ ng ni nk nu ny nz nA nC nD nE nG nH nI nJ nK nL nM nN nO nP nQ nR nS nT nU nV nW nX nY nZ oh ol om oo oq ou ow oz oC oD oF oG oH oI oJ oK oL oM oN oO oP oQ oU oV oW oZ o6 o7 o8 iZ ja jb jc jd je jf jg jh ji jk jl jm jo jq jr jv jw jy jA o9 pg pu pz pE pF pG pI pJ pK jB jC jD jE jF jG jH jI jJ jK jL jM jN jO jP jQ jR jS jT jU jV jW jX jY jZ kg ko mz gH gI gJ gK gL gN gP gQ gT gU gV gW gX gY gZ ib pO pQ pR pU pV pW pX pY p9 qa qb qc qd qf qg qh qi qj ql qm qo qp qw qx qy qz qA qB qC qD qE qF qG qH qI qJ qK qL qM qN qO qP mix
attribute [local simp] eb eC eI eS eK eM nm
set_option maxRecDepth 20000 in
set_option maxHeartbeats 4000000 in
theorem zw (k:Nat) (a:List (S41)) (c:List (S35)) (d:Int) (e:Int) (g:List Int) (j:Int) (m:Int) (o:List (S67)) (p:List (S69)) (q:List (S73)) (r:Bool) (h:bJ.f k a c d e g j m o p q=some r):iU Try.prog 28 [.agg [.t (tC a), .t (tM c)], .agg [.t (.i d), .t (.i e), .t (.ints g), .t (.i j), .t (.i m), .t (tI o), .t (tS p), .t (tK q)]] (.b r):=by
  unfold bJ.f at h
  try simp only[aF,aG,aD,aH,aI,aJ]at h
  refine bF Try.func28 rfl rfl rfl ?_
  try simp (maxSteps:=2000000)
  repeat' first
    |(show ek _ _ 6 _ _ _ _;refine aT (by decide) [[], [], [], [2], [], [3,4,2], [5,3,4,2], [0,1,6,5,3,4,2], [7,0,1,6,5,3,4,2], [8,7,0,1,6,5,3,4,2], [9,8,7,0,1,6,5,3,4,2], [10,9,8,7,0,1,6,5,3,4,2], [9,8,7,0,1,6,5,3,4,2], [12,9,8,7,0,1,6,5,3,4,2], [9,8,7,0,1,6,5,3,4,2], [14,9,8,7,0,1,6,5,3,4,2], [9,8,7,0,1,6,5,3,4,2], [15,16,9,14,8,7,0,1,6,5,3,4,2], [17,9,15,16,14,8,7,0,1,6,5,3,4,2], [11,13,18,9,10,8,7,0,1,6,5,3,4,2,12,17,15,16,14], [19,9,11,13,18,10,8,7,0,1,6,5,3,4,2,12,17,15,16,14], [9,20,8,7,0,1,6,5,3,4,2,19,11,13,18,10,12,17,15,16,14]] [40,41,42,43,44,45,46,47,48,49,50,51,52,53,54,55,56,57,58,59,60,61] [0,1,2,3,4,5,6,7,8,9,10,11,12,13,14,15,16,17,18,19,20,21] (by kernel_rfl) ?_;try simp (maxSteps:=2000000) [*, -h,aj,ah,ae,ai,ak,au,af,Op.operands,Call.operands])
    |(show ek _ _ 11 _ _ _ _;refine aT (by decide) [[], [], [], [2], [], [3,4,2], [5,3,4,2], [0,1,6,5,3,4,2], [7,0,1,6,5,3,4,2]] [69,70,71,72,73,74,75,76,77] [0,1,2,3,4,5,6,7,8] (by kernel_rfl) ?_;try simp (maxSteps:=2000000) [*, -h,aj,ah,ae,ai,ak,au,af,Op.operands,Call.operands])
    |(with_reducible (first|(replace h:=bC (by assumption) h)|(replace h:=bD (by assumption) h)|(replace h:=aY (by assumption) h)|(replace h:=aZ (by assumption) h)))
    |((with_reducible have hh:=aB h);clear h;rcases hh with⟨hc,h⟩|⟨hc,h⟩<;>have hd:=hc<;>(first|(replace hc:=dA hc)|(replace hc:=dB hc)|skip)<;>(try simp at hd)<;>(try(first|(subst hd)|(replace hd:=bG hd)|(replace hd:=eq_false hd)|(replace hd:=eq_true hd)))<;>(try simp (maxSteps:=2000000) [*, -h,aj,ah,ae,ai,ak,au,af,Op.operands,Call.operands]))
    |(with_reducible replace h:=aL h)
    | ((with_reducible have hh:=Option.bind_eq_some_iff.1 h);clear h;obtain⟨x_,hx_,h⟩:=hh;(first|(refine av (yY (h:=hx_)) rfl rfl ?_ ⟨rfl,rfl⟩ ?_;(·simp[*]);clear hx_;try simp (maxSteps:=2000000) [*, -h,aj,ah,ae,ai,ak,au,af,Op.operands,Call.operands])|(refine bf (yY (h:=hx_)) rfl rfl ?_ ⟨rfl,rfl⟩ rfl ?_;(·simp[*]);clear hx_;try simp (maxSteps:=2000000) [*, -h,aj,ah,ae,ai,ak,au,af,Op.operands,Call.operands])|(refine av (zW (h:=hx_)) rfl rfl ?_ ⟨rfl,rfl⟩ ?_;(·simp[*]);clear hx_;try simp (maxSteps:=2000000) [*, -h,aj,ah,ae,ai,ak,au,af,Op.operands,Call.operands])|(refine bf (zW (h:=hx_)) rfl rfl ?_ ⟨rfl,rfl⟩ rfl ?_;(·simp[*]);clear hx_;try simp (maxSteps:=2000000) [*, -h,aj,ah,ae,ai,ak,au,af,Op.operands,Call.operands])|(refine av (zX (h:=hx_)) rfl rfl ?_ ⟨rfl,rfl⟩ ?_;(·simp[*]);clear hx_;try simp (maxSteps:=2000000) [*, -h,aj,ah,ae,ai,ak,au,af,Op.operands,Call.operands])|(refine bf (zX (h:=hx_)) rfl rfl ?_ ⟨rfl,rfl⟩ rfl ?_;(·simp[*]);clear hx_;try simp (maxSteps:=2000000) [*, -h,aj,ah,ae,ai,ak,au,af,Op.operands,Call.operands])|(refine av (A7 (h:=hx_)) rfl rfl ?_ ⟨rfl,rfl⟩ ?_;(·simp[*]);clear hx_;try simp (maxSteps:=2000000) [*, -h,aj,ah,ae,ai,ak,au,af,Op.operands,Call.operands])|(refine bf (A7 (h:=hx_)) rfl rfl ?_ ⟨rfl,rfl⟩ rfl ?_;(·simp[*]);clear hx_;try simp (maxSteps:=2000000) [*, -h,aj,ah,ae,ai,ak,au,af,Op.operands,Call.operands])|(refine av (si (h:=hx_)) rfl rfl ?_ ⟨rfl,rfl⟩ ?_;(·simp[*]);clear hx_;try simp (maxSteps:=2000000) [*, -h,aj,ah,ae,ai,ak,au,af,Op.operands,Call.operands])|(refine bf (si (h:=hx_)) rfl rfl ?_ ⟨rfl,rfl⟩ rfl ?_;(·simp[*]);clear hx_;try simp (maxSteps:=2000000) [*, -h,aj,ah,ae,ai,ak,au,af,Op.operands,Call.operands]))
       )
    |(obtain⟨k,rfl⟩:=aM (f:=fun k=>bJ.j0 k _ _ _ _ _ _ _ _ _ _ _) (by simp only[bJ.j0]) h;simp only[bJ.j0]at h;try simp only[aF,aG,aD,aH,aI,aJ]at h)
    | (refine rW [true,true,true,true,false,true,false,true,true,true,true,true,true,true,true,true,true,true,true,true,true,true,true,true,true,true,true,true,true,true,true,true,true] (fun(x5:Int)=> [(5, .i x5)]) (fun n (x5:Int)=>bJ.l0 n x5 _ _ _ _ _ _ _ _ _ _=some _) h (by first|rfl|simp[mkT]) ?_;clear h;intro k x5 hk h
       obtain⟨k,rfl⟩:=aM (f:=fun k=>bJ.l0 k _ _ _ _ _ _ _ _ _ _ _) (by simp only[bJ.l0]) h;simp only[bJ.l0]at h;try simp only[aF,aG,aD,aH,aI,aJ]at h;try simp (maxSteps:=2000000))
    |(exact rX (inv:=fun n (x5:Int)=>bJ.l0 n x5 _ _ _ _ _ _ _ _ _ _=some _) (by omega) h (by first|exact fe [true,true,true,true,false,true,false,true,true,true,true,true,true,true,true,true,true,true,true,true,true,true,true,true,true,true,true,true,true,true,true,true,true] rfl|exact fw [true,true,true,true,false,true,false,true,true,true,true,true,true,true,true,true,true,true,true,true,true,true,true,true,true,true,true,true,true,true,true,true,true] rfl (by constructor<;>simp[idR,mkT])))
    | (refine rW [true,true,true,true,false,true,true,true,true,true,true,true,true,true,true,true,true,true,true,true,true,true,true,true,true,true,true,true,true,true,true,true,true,true,true,true,true,true,true,true,true,true,true,true,true,true,true,true,true,true,true,true,true,true,true,true,true,true,true,true,true,true] (fun(x6:Int)=> [(6, .i x6)]) (fun n (x6:Int)=>bJ.l1 n x6 _ _ _ _ _ _ _ _ _ _=some _) h (by first|rfl|simp[mkT]) ?_;clear h;intro k x6 hk h
       obtain⟨k,rfl⟩:=aM (f:=fun k=>bJ.l1 k _ _ _ _ _ _ _ _ _ _ _) (by simp only[bJ.l1]) h;simp only[bJ.l1]at h;try simp only[aF,aG,aD,aH,aI,aJ]at h;try simp (maxSteps:=2000000))
    |(exact rX (inv:=fun n (x6:Int)=>bJ.l1 n x6 _ _ _ _ _ _ _ _ _ _=some _) (by omega) h (by first|exact fe [true,true,true,true,false,true,true,true,true,true,true,true,true,true,true,true,true,true,true,true,true,true,true,true,true,true,true,true,true,true,true,true,true,true,true,true,true,true,true,true,true,true,true,true,true,true,true,true,true,true,true,true,true,true,true,true,true,true,true,true,true,true] rfl|exact fw [true,true,true,true,false,true,true,true,true,true,true,true,true,true,true,true,true,true,true,true,true,true,true,true,true,true,true,true,true,true,true,true,true,true,true,true,true,true,true,true,true,true,true,true,true,true,true,true,true,true,true,true,true,true,true,true,true,true,true,true,true,true] rfl (by constructor<;>simp[idR,mkT])))
    |(refine⟨(by first|exact aP (by assumption) (by decide) (by decide)|exact aN (by assumption) (by decide) (by decide)), ?_⟩;try simp (maxSteps:=2000000) [*, -h,aj,ah,ae,ai,ak,au,af,Op.operands,Call.operands])
    |(cases h;done)
    |(cases h;refine aV _ ?_ ⟨rfl,rfl⟩;simp[*]<;>exact az (by omega) (by omega) (by simp))
end Go.Proofs.Ytojpejfcafbafaa.V
end
section
namespace Go.Proofs.Ytojpejfcafbafaa.P
open Go.RowKit Go.Proofs.YtojpejfcafbafaaW.PrintWords Go.Proofs.YtojpejfcafbafaaW.PrintLast Go.Proofs.YtojpejfcafbafaaW.PrintMore
attribute [local go_sem] bn bq bP bQ aW aX bu bv
set_option linter.unusedVariables false
set_option linter.unusedSimpArgs false
mutual
def dH.j0:Nat→Bool→List (S41)→List (S35)→Option (Bool)
  |0,_,_,_=>none
  |k+1,d,c,a=>if d=true then(some false)else(if 0<(a.length:Int)then(if((ay a 0).f0)=(-1)then(if(((ay a 0).f2).length:Int)>0 then(dH.j1 k true c a)else(dH.j1 k (((ay a 0).f3) !=1) c a))else(dH.j1 k true c a))else(none))
def dH.j1:Nat→Bool→List (S41)→List (S35)→Option (Bool)
  |0,_,_,_=>none
  |k+1,d,a,c=>if d=true then(some false)else(dH.l0 k 0 a c)
def dH.l0:Nat→Int→List (S41)→List (S35)→Option (Bool)
  |0,_,_,_=>none
  |k+1,x3,c,a=>if x3<(a.length:Int)then(if 0≤x3 then((bJ.f k c a ((ay a x3).f0) ((ay a x3).f1) ((ay a x3).f2) ((ay a x3).f3) ((ay a x3).f4) ((ay a x3).f5) ((ay a x3).f6) ((ay a x3).f7)).bind fun d=>(if d=true then(dH.l0 k (wrap64 (x3+1)) c a)else(some false)))else(none))else((dF.f k c a).bind fun e=>(some e))
end
def dH.f (k:Nat) (a:List (S41)) (c:List (S35)):Option (Bool):=(iP.f k a).bind fun d=>(if d=true then((iK.f (c.length:Int) 1 4).bind fun e=>(dH.j0 k (!e) a c))else(dH.j0 k true a c))
mutual
def fK.l0:Nat→List (S41)→Int→Bool→List Int→List Int→Bool→List Int→List Int→Option (Bool)
  |0,_,_,_,_,_,_,_,_=>none
  |k+1,x0,x7,d,a,e,g,c,h=>if x7<(a.length:Int)then(if 0≤x7 then(if x7<(c.length:Int)then((lq.f k x0 (rd a x7) (rd c x7)).bind fun j=>(if j=true then(fK.l0 k x0 (wrap64 (x7+1)) d a e g c h)else(some false)))else(none))else(none))else(fK.l1 k x0 0 d a e g c h)
def fK.l1:Nat→List (S41)→Int→Bool→List Int→List Int→Bool→List Int→List Int→Option (Bool)
  |0,_,_,_,_,_,_,_,_=>none
  |k+1,x0,x8,d,e,a,g,h,c=>if x8<(a.length:Int)then(if 0≤x8 then(if x8<(c.length:Int)then((lq.f k x0 (rd a x8) (rd c x8)).bind fun j=>(if j=true then(fK.l1 k x0 (wrap64 (x8+1)) d e a g h c)else(some false)))else(none))else(none))else(some true)
end
def fK.f (k:Nat) (l0:List (S41)) (d:Bool) (e:List Int) (a:List Int) (g:Bool) (h:List Int) (c:List Int):Option (Bool):=if(a.length:Int)=(c.length:Int)then(fK.l0 k l0 0 d e a g h c)else(some false)
def vZ.f (k:Nat) (c:List (S41)) (j:List (S35)) (m:Int) (n:Int) (o:List Int) (p:Int) (q:Int) (r:List (S67)) (a:List (S69)) (t:List (S73)) (a2:Int) (d:Bool) (e:List Int) (g:List Int):Option (Bool):=if 0≤a2 then(if a2<(a.length:Int)then(if(kw a a2).f0=true then((fK.f k c d e g ((kw a a2).f0) ((kw a a2).f1) ((kw a a2).f2)).bind fun h=>(some h))else(some false))else(none))else(none)
def uJ.f (a:Int) (d:Int) (e:Int):Option (Bool):=(iK.f a 8 11).bind fun c=>(some c)
def vF.f (a:Int) (c:Int) (d:Int):Option (Bool):=if a=11 then(some true)else(if a=22 then(some true)else(some (a==23)))
mutual
def bA.j0:Nat→Int→Bool→Int→Int→List Int→Int→Int→List (S67)→List (S69)→List (S73)→Option (Bool)
  |0,_,_,_,_,_,_,_,_,_,_=>none
  |k+1,x1,n,a,c,d,e,g,h,j,m=>if n=true then(some true)else(bA.l0 k x1 0 a c d e g h j m)
def bA.l0:Nat→Int→Int→Int→Int→List Int→Int→Int→List (S67)→List (S69)→List (S73)→Option (Bool)
  |0,_,_,_,_,_,_,_,_,_,_=>none
  |k+1,x1,x5,c,d,e,g,h,a,j,m=>if x5<(a.length:Int)then(if 0≤x5 then((uJ.f ((bB a x5).f0) ((bB a x5).f1) ((bB a x5).f2)).bind fun n=>(if n=true then(if((bB a x5).f1)=x1 then(some true)else(bA.l0 k x1 (wrap64 (x5+1)) c d e g h a j m))else(bA.l0 k x1 (wrap64 (x5+1)) c d e g h a j m)))else(none))else(bA.l1 k x1 0 c d e g h a j m)
def bA.l1:Nat→Int→Int→Int→Int→List Int→Int→Int→List (S67)→List (S69)→List (S73)→Option (Bool)
  |0,_,_,_,_,_,_,_,_,_,_=>none
  |k+1,x1,x6,c,d,e,g,h,j,m,a=>if x6<(a.length:Int)then(if 0≤x6 then(if((fJ a x6).f2)=x1 then(some true)else(bA.l1 k x1 (wrap64 (x6+1)) c d e g h j m a))else(none))else(some false)
end
def bA.f (k:Nat) (c:Int) (d:Int) (e:List Int) (g:Int) (h:Int) (a:List (S67)) (j:List (S69)) (m:List (S73)) (a1:Int):Option (Bool):=if a1>0 then(if 0≤(wrap64 (a1 - 1))then(if(wrap64 (a1 - 1))<(a.length:Int)then((vF.f ((bB a (wrap64 (a1 - 1))).f0) ((bB a (wrap64 (a1 - 1))).f1) ((bB a (wrap64 (a1 - 1))).f2)).bind fun n=>(bA.j0 k a1 n c d e g h a j m))else(none))else(none))else(bA.j0 k a1 false c d e g h a j m)
end Go.Proofs.Ytojpejfcafbafaa.P
end
section
namespace Go.Proofs.Ytojpejfcafbafaa.V
open Go Go.RowKit Go.Proofs.Ytojpejfcafbafaa.P
set_option linter.unusedVariables false
set_option linter.unusedSimpArgs false
attribute [local simp ↓] eG eH fQ fT eO dM fZ eP eQ gm gp gq dN dO dP gB gz gG gF dQ bW dV cz dJ dR eT eU eX
attribute [local simp] fU fV dK bR eF dL bS bT bU bV bM bN dS eY dU bX bY bZ cu bO fD lM iL dz iw evl dI eZ fu kD iX List.range List.range.loop lT kX fo fB iC iA Bs.live Bs.get lN WkV WkA WkC lg lH kY lD cZ iM TEq.refl bg fH qQ aF aG aD aH aI aJ ei d9 splice dE Bs.set kU fC Rn.at gu gy iF iD lL chunks lC fP toT fE iE rowsOf cB ik plR plV plC lF lI lQ lh fI iR lU
attribute [local simp] List.length_pos_iff qR qU iG iH iI puts dh
attribute [local simp ←] ig
attribute [local simp] ksL ru ksV rV ksC ksT ren kr rO rH dw fF dW dx iW iB iO iQ lS rG closedB iT kP kG kH kJ kL iJ kN
attribute [local simp] ag3 un3 sz3 in3 by3 ze3 ct3 zt3 zu3 ag4 un4 sz4 in4 by4 ze4 ct4 zt4 zu4 ag5 un5 sz5 in5 by5 ze5 ct5 zt5 zu5 mi mq mD mE mF mG mH mI mJ io3 mK io5 bo4 mM mO mP mQ mR mU mV mW mX mY mZ ng ni nk nu ny nz nA nC nD nE nG nH nI nJ nK nL nM nN nO nP nQ nR nS nT nU nV nW nX nY nZ oh ol om oo oq ou ow oz oC oD oF oG oH oI oJ oK oL oM oN oO oP oQ oU oV oW oZ o6 o7 o8 iZ ja jb jc jd je jf jg jh ji jk jl jm jo jq jr jv jw jy jA o9 pg pu pz pE pF pG pI pJ pK jB jC jD jE jF jG jH jI jJ jK jL jM jN jO jP jQ jR jS jT jU jV jW jX jY jZ kg ko mz gH gI gJ gK gL gN gP gQ gT gU gV gW gX gY gZ ib pO pQ pR pU pV pW pX pY p9 qa qb qc qd qf qg qh qi qj ql qm qo qp qw qx qy qz qA qB qC qD qE qF qG qH qI qJ qK qL qM qN qO qP mix
attribute [local simp] eb eC eI eS eK eM nm
set_option maxRecDepth 20000 in
set_option maxHeartbeats 4000000 in
theorem A9 (k:Nat) (a:List (S41)) (c:List (S35)) (r:Bool) (h:dH.f k a c=some r):iU Try.prog 9 [.agg [.t (tC a), .t (tM c)]] (.b r):=by
  unfold dH.f at h
  try simp only[aF,aG,aD,aH,aI,aJ]at h
  refine bF Try.func9 rfl rfl rfl ?_
  try simp (maxSteps:=2000000)
  repeat' first
    |(show ek _ _ 8 _ _ _ _;refine aT (by decide) [[], [], [1], [], [2,3,1], [4,2,3,1], [0,5,4,2,3,1], [6,0,5,4,2,3,1]] [45,46,47,48,49,50,51,52] [0,1,2,3,4,5,6,7] (by kernel_rfl) ?_;try simp (maxSteps:=2000000) [*, -h,aj,ah,ae,ai,ak,au,af,Op.operands,Call.operands])
    |(with_reducible (first|(replace h:=bC (by assumption) h)|(replace h:=bD (by assumption) h)|(replace h:=aY (by assumption) h)|(replace h:=aZ (by assumption) h)))
    |((with_reducible have hh:=aB h);clear h;rcases hh with⟨hc,h⟩|⟨hc,h⟩<;>have hd:=hc<;>(first|(replace hc:=dA hc)|(replace hc:=dB hc)|skip)<;>(try simp at hd)<;>(try(first|(subst hd)|(replace hd:=bG hd)|(replace hd:=eq_false hd)|(replace hd:=eq_true hd)))<;>(try simp (maxSteps:=2000000) [*, -h,aj,ah,ae,ai,ak,au,af,Op.operands,Call.operands]))
    |(with_reducible replace h:=aL h)
    | ((with_reducible have hh:=Option.bind_eq_some_iff.1 h);clear h;obtain⟨x_,hx_,h⟩:=hh;(first|(refine av (zw (h:=hx_)) rfl rfl ?_ ⟨rfl,rfl⟩ ?_;(·simp[*]);clear hx_;try simp (maxSteps:=2000000) [*, -h,aj,ah,ae,ai,ak,au,af,Op.operands,Call.operands])|(refine bf (zw (h:=hx_)) rfl rfl ?_ ⟨rfl,rfl⟩ rfl ?_;(·simp[*]);clear hx_;try simp (maxSteps:=2000000) [*, -h,aj,ah,ae,ai,ak,au,af,Op.operands,Call.operands])|(refine av (zY (h:=hx_)) rfl rfl ?_ ⟨rfl,rfl⟩ ?_;(·simp[*]);clear hx_;try simp (maxSteps:=2000000) [*, -h,aj,ah,ae,ai,ak,au,af,Op.operands,Call.operands])|(refine bf (zY (h:=hx_)) rfl rfl ?_ ⟨rfl,rfl⟩ rfl ?_;(·simp[*]);clear hx_;try simp (maxSteps:=2000000) [*, -h,aj,ah,ae,ai,ak,au,af,Op.operands,Call.operands])|(refine av (vW (h:=hx_)) rfl rfl ?_ ⟨rfl,rfl⟩ ?_;(·simp[*]);clear hx_;try simp (maxSteps:=2000000) [*, -h,aj,ah,ae,ai,ak,au,af,Op.operands,Call.operands])|(refine bf (vW (h:=hx_)) rfl rfl ?_ ⟨rfl,rfl⟩ rfl ?_;(·simp[*]);clear hx_;try simp (maxSteps:=2000000) [*, -h,aj,ah,ae,ai,ak,au,af,Op.operands,Call.operands])|(refine av (si (h:=hx_)) rfl rfl ?_ ⟨rfl,rfl⟩ ?_;(·simp[*]);clear hx_;try simp (maxSteps:=2000000) [*, -h,aj,ah,ae,ai,ak,au,af,Op.operands,Call.operands])|(refine bf (si (h:=hx_)) rfl rfl ?_ ⟨rfl,rfl⟩ rfl ?_;(·simp[*]);clear hx_;try simp (maxSteps:=2000000) [*, -h,aj,ah,ae,ai,ak,au,af,Op.operands,Call.operands]))
       )
    |(obtain⟨k,rfl⟩:=aM (f:=fun k=>dH.j0 k _ _ _) (by simp only[dH.j0]) h;simp only[dH.j0]at h;try simp only[aF,aG,aD,aH,aI,aJ]at h)
    |(obtain⟨k,rfl⟩:=aM (f:=fun k=>dH.j1 k _ _ _) (by simp only[dH.j1]) h;simp only[dH.j1]at h;try simp only[aF,aG,aD,aH,aI,aJ]at h)
    | (refine rW [true,true,false,true,true,true,true,true,true,true,true,true,true,true,true,true,true,true,true,true,true,true,true,true,true,true,true,true,true,true,true,true,true,true,true,true,true,true] (fun(x3:Int)=> [(3, .i x3)]) (fun n (x3:Int)=>dH.l0 n x3 _ _=some _) h (by first|rfl|simp[mkT]) ?_;clear h;intro k x3 hk h
       obtain⟨k,rfl⟩:=aM (f:=fun k=>dH.l0 k _ _ _) (by simp only[dH.l0]) h;simp only[dH.l0]at h;try simp only[aF,aG,aD,aH,aI,aJ]at h;try simp (maxSteps:=2000000))
    |(exact rX (inv:=fun n (x3:Int)=>dH.l0 n x3 _ _=some _) (by omega) h (by first|exact fe [true,true,false,true,true,true,true,true,true,true,true,true,true,true,true,true,true,true,true,true,true,true,true,true,true,true,true,true,true,true,true,true,true,true,true,true,true,true] rfl|exact fw [true,true,false,true,true,true,true,true,true,true,true,true,true,true,true,true,true,true,true,true,true,true,true,true,true,true,true,true,true,true,true,true,true,true,true,true,true,true] rfl (by constructor<;>simp[idR,mkT])))
    |(refine⟨(by first|exact aP (by assumption) (by decide) (by decide)|exact aN (by assumption) (by decide) (by decide)), ?_⟩;try simp (maxSteps:=2000000) [*, -h,aj,ah,ae,ai,ak,au,af,Op.operands,Call.operands])
    |(cases h;done)
    |(cases h;refine aV _ ?_ ⟨rfl,rfl⟩;simp[*]<;>exact az (by omega) (by omega) (by simp))
set_option maxRecDepth 20000 in
set_option maxHeartbeats 4000000 in
theorem uK (k:Nat) (l0:List (S41)) (a:Bool) (d:List Int) (e:List Int) (g:Bool) (j:List Int) (m:List Int) (r:Bool) (h:fK.f k l0 a d e g j m=some r):iU Try.prog 61 [.c (.t (tC l0)), .agg [.t (.b a), .t (.ints d), .t (.ints e)], .agg [.t (.b g), .t (.ints j), .t (.ints m)]] (.b r):=by
  unfold fK.f at h
  try simp only[aF,aG,aD,aH,aI,aJ]at h
  refine bF Try.func61 rfl rfl rfl ?_
  try simp (maxSteps:=2000000)
  repeat' first
    |(show ek _ _ 6 _ _ _ _;refine aT (by decide) [[], [], [1], [], [2,3,1], [4,2,3,1], [], [6], [], [7,8,6], [9,7,8,6], [0,5,10,4,2,3,1,9,7,8,6], [11,0,5,10,4,2,3,1,9,7,8,6]] [23,24,25,26,27,28,29,30,31,32,33,34,35] [0,1,2,3,4,5,6,7,8,9,10,11,12] (by kernel_rfl) ?_;try simp (maxSteps:=2000000) [*, -h,aj,ah,ae,ai,ak,au,af,Op.operands,Call.operands])
    |(show ek _ _ 11 _ _ _ _;refine aT (by decide) [[], [], [1], [], [2,3,1], [4,2,3,1], [], [6], [], [7,8,6], [9,7,8,6], [0,5,10,4,2,3,1,9,7,8,6], [11,0,5,10,4,2,3,1,9,7,8,6]] [43,44,45,46,47,48,49,50,51,52,53,54,55] [0,1,2,3,4,5,6,7,8,9,10,11,12] (by kernel_rfl) ?_;try simp (maxSteps:=2000000) [*, -h,aj,ah,ae,ai,ak,au,af,Op.operands,Call.operands])
    |(with_reducible (first|(replace h:=bC (by assumption) h)|(replace h:=bD (by assumption) h)|(replace h:=aY (by assumption) h)|(replace h:=aZ (by assumption) h)))
    |((with_reducible have hh:=aB h);clear h;rcases hh with⟨hc,h⟩|⟨hc,h⟩<;>have hd:=hc<;>(first|(replace hc:=dA hc)|(replace hc:=dB hc)|skip)<;>(try simp at hd)<;>(try(first|(subst hd)|(replace hd:=bG hd)|(replace hd:=eq_false hd)|(replace hd:=eq_true hd)))<;>(try simp (maxSteps:=2000000) [*, -h,aj,ah,ae,ai,ak,au,af,Op.operands,Call.operands]))
    |(with_reducible replace h:=aL h)
    | ((with_reducible have hh:=Option.bind_eq_some_iff.1 h);clear h;obtain⟨x_,hx_,h⟩:=hh;(first|(refine av (ER (h:=hx_)) rfl rfl ?_ ⟨rfl,rfl⟩ ?_;(·simp[*]);clear hx_;try simp (maxSteps:=2000000) [*, -h,aj,ah,ae,ai,ak,au,af,Op.operands,Call.operands])|(refine bf (ER (h:=hx_)) rfl rfl ?_ ⟨rfl,rfl⟩ rfl ?_;(·simp[*]);clear hx_;try simp (maxSteps:=2000000) [*, -h,aj,ah,ae,ai,ak,au,af,Op.operands,Call.operands]))
       )
    | (refine rW [true,true,true,false,true,true,false,true,false,true,true,true,true,true,true,true] (fun(x7:Int)=> [(7, .i x7)]) (fun n (x7:Int)=>fK.l0 n _ x7 _ _ _ _ _ _=some _) h (by first|rfl|simp[mkT]) ?_;clear h;intro k x7 hk h
       obtain⟨k,rfl⟩:=aM (f:=fun k=>fK.l0 k _ _ _ _ _ _ _ _) (by simp only[fK.l0]) h;simp only[fK.l0]at h;try simp only[aF,aG,aD,aH,aI,aJ]at h;try simp (maxSteps:=2000000))
    |(exact rX (inv:=fun n (x7:Int)=>fK.l0 n _ x7 _ _ _ _ _ _=some _) (by omega) h (by first|exact fe [true,true,true,false,true,true,false,true,false,true,true,true,true,true,true,true] rfl|exact fw [true,true,true,false,true,true,false,true,false,true,true,true,true,true,true,true] rfl (by constructor<;>simp[idR,mkT])))
    | (refine rW [true,true,true,false,true,true,false,true,true,true,true,true,true,true,true,true,true,true,true,true,true,true,true,true,true,true,true,true,true,true,true,true,true,true,true,true] (fun(x8:Int)=> [(8, .i x8)]) (fun n (x8:Int)=>fK.l1 n _ x8 _ _ _ _ _ _=some _) h (by first|rfl|simp[mkT]) ?_;clear h;intro k x8 hk h
       obtain⟨k,rfl⟩:=aM (f:=fun k=>fK.l1 k _ _ _ _ _ _ _ _) (by simp only[fK.l1]) h;simp only[fK.l1]at h;try simp only[aF,aG,aD,aH,aI,aJ]at h;try simp (maxSteps:=2000000))
    |(exact rX (inv:=fun n (x8:Int)=>fK.l1 n _ x8 _ _ _ _ _ _=some _) (by omega) h (by first|exact fe [true,true,true,false,true,true,false,true,true,true,true,true,true,true,true,true,true,true,true,true,true,true,true,true,true,true,true,true,true,true,true,true,true,true,true,true] rfl|exact fw [true,true,true,false,true,true,false,true,true,true,true,true,true,true,true,true,true,true,true,true,true,true,true,true,true,true,true,true,true,true,true,true,true,true,true,true] rfl (by constructor<;>simp[idR,mkT])))
    |(refine⟨(by first|exact aP (by assumption) (by decide) (by decide)|exact aN (by assumption) (by decide) (by decide)), ?_⟩;try simp (maxSteps:=2000000) [*, -h,aj,ah,ae,ai,ak,au,af,Op.operands,Call.operands])
    |(cases h;done)
    |(cases h;refine aV _ ?_ ⟨rfl,rfl⟩;simp[*]<;>exact az (by omega) (by omega) (by simp))
set_option maxRecDepth 20000 in
set_option maxHeartbeats 4000000 in
theorem zZ (k:Nat) (a:List (S41)) (c:List (S35)) (d:Int) (e:Int) (g:List Int) (j:Int) (m:Int) (n:List (S67)) (o:List (S69)) (p:List (S73)) (a2:Int) (q:Bool) (u:List Int) (v:List Int) (r:Bool) (h:vZ.f k a c d e g j m n o p a2 q u v=some r):iU Try.prog 85 [.agg [.t (tC a), .t (tM c)], .agg [.t (.i d), .t (.i e), .t (.ints g), .t (.i j), .t (.i m), .t (tI n), .t (tS o), .t (tK p)], .i a2, .agg [.t (.b q), .t (.ints u), .t (.ints v)]] (.b r):=by
  unfold vZ.f at h
  try simp only[aF,aG,aD,aH,aI,aJ]at h
  refine bF Try.func85 rfl rfl rfl ?_
  try simp (maxSteps:=2000000)
  repeat' first
    |(show ek _ _ 1 _ _ _ _;refine aT (by decide) [[], [0], [], [1,2,0], [3,1,2,0], [4,3,1,2,0], [5,4,3,1,2,0], [6,5,4,3,1,2,0], [7,6,5,4,3,1,2,0], [6,5,4,3,1,2,0], [6,5,4,3,1,2,0], [10,6,5,4,3,1,2,0], [6,5,4,3,1,2,0], [11,12,6,10,5,4,3,1,2,0], [13,6,11,12,10,5,4,3,1,2,0], [8,9,14,6,7,5,4,3,1,2,0,13,11,12,10], [6,15,5,4,3,1,2,0,8,9,14,7,13,11,12,10], [16,15,0,1,2,3,4,5,6,7,8,9,10,11,12,13,14]] [9,10,11,12,13,14,15,16,17,18,19,20,21,22,23,24,25,8] [0,1,2,3,4,5,6,7,8,9,10,11,12,13,14,15,16,17] (by kernel_rfl) ?_;try simp (maxSteps:=2000000) [*, -h,aj,ah,ae,ai,ak,au,af,Op.operands,Call.operands])
    |(with_reducible (first|(replace h:=bC (by assumption) h)|(replace h:=bD (by assumption) h)|(replace h:=aY (by assumption) h)|(replace h:=aZ (by assumption) h)))
    |((with_reducible have hh:=aB h);clear h;rcases hh with⟨hc,h⟩|⟨hc,h⟩<;>have hd:=hc<;>(first|(replace hc:=dA hc)|(replace hc:=dB hc)|skip)<;>(try simp at hd)<;>(try(first|(subst hd)|(replace hd:=bG hd)|(replace hd:=eq_false hd)|(replace hd:=eq_true hd)))<;>(try simp (maxSteps:=2000000) [*, -h,aj,ah,ae,ai,ak,au,af,Op.operands,Call.operands]))
    |(with_reducible replace h:=aL h)
    | ((with_reducible have hh:=Option.bind_eq_some_iff.1 h);clear h;obtain⟨x_,hx_,h⟩:=hh;(first|(refine av (uK (h:=hx_)) rfl rfl ?_ ⟨rfl,rfl⟩ ?_;(·simp[*]);clear hx_;try simp (maxSteps:=2000000) [*, -h,aj,ah,ae,ai,ak,au,af,Op.operands,Call.operands])|(refine bf (uK (h:=hx_)) rfl rfl ?_ ⟨rfl,rfl⟩ rfl ?_;(·simp[*]);clear hx_;try simp (maxSteps:=2000000) [*, -h,aj,ah,ae,ai,ak,au,af,Op.operands,Call.operands]))
       )
    |(refine⟨(by first|exact aP (by assumption) (by decide) (by decide)|exact aN (by assumption) (by decide) (by decide)), ?_⟩;try simp (maxSteps:=2000000) [*, -h,aj,ah,ae,ai,ak,au,af,Op.operands,Call.operands])
    |(cases h;done)
    |(cases h;refine aV _ ?_ ⟨rfl,rfl⟩;simp[*]<;>exact az (by omega) (by omega) (by simp))
set_option maxRecDepth 20000 in
set_option maxHeartbeats 4000000 in
theorem qX (a:Int) (c:Int) (d:Int) (r:Bool) (h:uJ.f a c d=some r):iU Try.prog 59 [.agg [.t (.i a), .t (.i c), .t (.i d)]] (.b r):=by
  unfold uJ.f at h
  try simp only[aF,aG,aD,aH,aI,aJ]at h
  refine bF Try.func59 rfl rfl rfl ?_
  try simp (maxSteps:=2000000)
  repeat' first
    |(with_reducible (first|(replace h:=bC (by assumption) h)|(replace h:=bD (by assumption) h)|(replace h:=aY (by assumption) h)|(replace h:=aZ (by assumption) h)))
    |((with_reducible have hh:=aB h);clear h;rcases hh with⟨hc,h⟩|⟨hc,h⟩<;>have hd:=hc<;>(first|(replace hc:=dA hc)|(replace hc:=dB hc)|skip)<;>(try simp at hd)<;>(try(first|(subst hd)|(replace hd:=bG hd)|(replace hd:=eq_false hd)|(replace hd:=eq_true hd)))<;>(try simp (maxSteps:=2000000) [*, -h]))
    |(with_reducible replace h:=aL h)
    | ((with_reducible have hh:=Option.bind_eq_some_iff.1 h);clear h;obtain⟨x_,hx_,h⟩:=hh;(first|(refine av (si (h:=hx_)) rfl rfl ?_ ⟨rfl,rfl⟩ ?_;(·simp[*]);clear hx_;try simp (maxSteps:=2000000) [*, -h]))
       )
    |(refine⟨(by first|exact aP (by assumption) (by decide) (by decide)|exact aN (by assumption) (by decide) (by decide)), ?_⟩;try simp (maxSteps:=2000000) [*, -h])
    |(cases h;done)
    |(cases h;refine aV _ ?_ ⟨rfl,rfl⟩;simp[*]<;>exact az (by omega) (by omega) (by simp))
set_option maxRecDepth 20000 in
set_option maxHeartbeats 4000000 in
theorem sM (a:Int) (c:Int) (d:Int) (r:Bool) (h:vF.f a c d=some r):iU Try.prog 65 [.agg [.t (.i a), .t (.i c), .t (.i d)]] (.b r):=by
  unfold vF.f at h
  try simp only[aF,aG,aD,aH,aI,aJ]at h
  refine bF Try.func65 rfl rfl rfl ?_
  try simp (maxSteps:=2000000)
  repeat' first
    |(with_reducible (first|(replace h:=bC (by assumption) h)|(replace h:=bD (by assumption) h)|(replace h:=aY (by assumption) h)|(replace h:=aZ (by assumption) h)))
    |((with_reducible have hh:=aB h);clear h;rcases hh with⟨hc,h⟩|⟨hc,h⟩<;>have hd:=hc<;>(first|(replace hc:=dA hc)|(replace hc:=dB hc)|skip)<;>(try simp at hd)<;>(try(first|(subst hd)|(replace hd:=bG hd)|(replace hd:=eq_false hd)|(replace hd:=eq_true hd)))<;>(try simp (maxSteps:=2000000) [*, -h]))
    |(with_reducible replace h:=aL h)
    |(refine⟨(by first|exact aP (by assumption) (by decide) (by decide)|exact aN (by assumption) (by decide) (by decide)), ?_⟩;try simp (maxSteps:=2000000) [*, -h])
    |(cases h;done)
    |(cases h;refine aV _ ?_ ⟨rfl,rfl⟩;simp[*]<;>exact az (by omega) (by omega) (by simp))
set_option maxRecDepth 20000 in
set_option maxHeartbeats 4000000 in
theorem vo (k:Nat) (a:Int) (c:Int) (d:List Int) (e:Int) (g:Int) (j:List (S67)) (m:List (S69)) (o:List (S73)) (a1:Int) (r:Bool) (h:bA.f k a c d e g j m o a1=some r):iU Try.prog 88 [.agg [.t (.i a), .t (.i c), .t (.ints d), .t (.i e), .t (.i g), .t (tI j), .t (tS m), .t (tK o)], .i a1] (.b r):=by
  unfold bA.f at h
  try simp only[aF,aG,aD,aH,aI,aJ]at h
  refine bF Try.func88 rfl rfl rfl ?_
  try simp (maxSteps:=2000000)
  repeat' first
    |(with_reducible (first|(replace h:=bC (by assumption) h)|(replace h:=bD (by assumption) h)|(replace h:=aY (by assumption) h)|(replace h:=aZ (by assumption) h)))
    |((with_reducible have hh:=aB h);clear h;rcases hh with⟨hc,h⟩|⟨hc,h⟩<;>have hd:=hc<;>(first|(replace hc:=dA hc)|(replace hc:=dB hc)|skip)<;>(try simp at hd)<;>(try(first|(subst hd)|(replace hd:=bG hd)|(replace hd:=eq_false hd)|(replace hd:=eq_true hd)))<;>(try simp (maxSteps:=2000000) [*, -h]))
    |(with_reducible replace h:=aL h)
    | ((with_reducible have hh:=Option.bind_eq_some_iff.1 h);clear h;obtain⟨x_,hx_,h⟩:=hh;(first|(refine av (qX (h:=hx_)) rfl rfl ?_ ⟨rfl,rfl⟩ ?_;(·simp[*]);clear hx_;try simp (maxSteps:=2000000) [*, -h])|(refine av (sM (h:=hx_)) rfl rfl ?_ ⟨rfl,rfl⟩ ?_;(·simp[*]);clear hx_;try simp (maxSteps:=2000000) [*, -h]))
       )
    |(obtain⟨k,rfl⟩:=aM (f:=fun k=>bA.j0 k _ _ _ _ _ _ _ _ _ _) (by simp only[bA.j0]) h;simp only[bA.j0]at h;try simp only[aF,aG,aD,aH,aI,aJ]at h)
    | (refine rW [true,true,true,false,false,true,false,true,true,true,true,true,true,true,true,true,true,true] (fun(x5:Int)=> [(5, .i x5)]) (fun n (x5:Int)=>bA.l0 n _ x5 _ _ _ _ _ _ _ _=some _) h (by first|rfl|simp[mkT]) ?_;clear h;intro k x5 hk h
       obtain⟨k,rfl⟩:=aM (f:=fun k=>bA.l0 k _ _ _ _ _ _ _ _ _ _) (by simp only[bA.l0]) h;simp only[bA.l0]at h;try simp only[aF,aG,aD,aH,aI,aJ]at h;try simp (maxSteps:=2000000))
    |(exact rX (inv:=fun n (x5:Int)=>bA.l0 n _ x5 _ _ _ _ _ _ _ _=some _) (by omega) h (by first|exact fe [true,true,true,false,false,true,false,true,true,true,true,true,true,true,true,true,true,true] rfl|exact fw [true,true,true,false,false,true,false,true,true,true,true,true,true,true,true,true,true,true] rfl (by constructor<;>simp[idR,mkT])))
    | (refine rW [true,true,true,false,false,true,true,true,true,true,true,true,true,true,true,true,true,true,true,true,true,true,true,true,true,true,true,true,true,true,true,true,true,true,true,true,true,true,true,true,true] (fun(x6:Int)=> [(6, .i x6)]) (fun n (x6:Int)=>bA.l1 n _ x6 _ _ _ _ _ _ _ _=some _) h (by first|rfl|simp[mkT]) ?_;clear h;intro k x6 hk h
       obtain⟨k,rfl⟩:=aM (f:=fun k=>bA.l1 k _ _ _ _ _ _ _ _ _ _) (by simp only[bA.l1]) h;simp only[bA.l1]at h;try simp only[aF,aG,aD,aH,aI,aJ]at h;try simp (maxSteps:=2000000))
    |(exact rX (inv:=fun n (x6:Int)=>bA.l1 n _ x6 _ _ _ _ _ _ _ _=some _) (by omega) h (by first|exact fe [true,true,true,false,false,true,true,true,true,true,true,true,true,true,true,true,true,true,true,true,true,true,true,true,true,true,true,true,true,true,true,true,true,true,true,true,true,true,true,true,true] rfl|exact fw [true,true,true,false,false,true,true,true,true,true,true,true,true,true,true,true,true,true,true,true,true,true,true,true,true,true,true,true,true,true,true,true,true,true,true,true,true,true,true,true,true] rfl (by constructor<;>simp[idR,mkT])))
    |(refine⟨(by first|exact aP (by assumption) (by decide) (by decide)|exact aN (by assumption) (by decide) (by decide)), ?_⟩;try simp (maxSteps:=2000000) [*, -h])
    |(cases h;done)
    |(cases h;refine aV _ ?_ ⟨rfl,rfl⟩;simp[*]<;>exact az (by omega) (by omega) (by simp))
set_option maxRecDepth 20000 in
set_option maxHeartbeats 4000000 in
theorem uW (k:Nat) (l0:List (S41)) (a1:Int) (a2:Int) (r:Int) (h:qW.f k l0 a1 a2=some r):iU Try.prog 93 [.c (.t (tC l0)), .i a1, .i a2] (.i r):=by
  unfold qW.f at h
  try simp only[aF,aG,aD,aH,aI,aJ]at h
  refine bF Try.func93 rfl rfl rfl ?_
  try simp (maxSteps:=2000000)
  repeat' first
    |(with_reducible (first|(replace h:=bC (by assumption) h)|(replace h:=bD (by assumption) h)|(replace h:=aY (by assumption) h)|(replace h:=aZ (by assumption) h)))
    |((with_reducible have hh:=aB h);clear h;rcases hh with⟨hc,h⟩|⟨hc,h⟩<;>have hd:=hc<;>(first|(replace hc:=dA hc)|(replace hc:=dB hc)|skip)<;>(try simp at hd)<;>(try(first|(subst hd)|(replace hd:=bG hd)|(replace hd:=eq_false hd)|(replace hd:=eq_true hd)))<;>(try simp (maxSteps:=2000000) [*, -h]))
    |(with_reducible replace h:=aL h)
    | ((with_reducible have hh:=Option.bind_eq_some_iff.1 h);clear h;obtain⟨x_,hx_,h⟩:=hh;(first|(refine av (Nf (h:=hx_)) rfl rfl ?_ ⟨rfl,rfl⟩ ?_;(·simp[*]);clear hx_;try simp (maxSteps:=2000000) [*, -h])|(refine av (ER (h:=hx_)) rfl rfl ?_ ⟨rfl,rfl⟩ ?_;(·simp[*]);clear hx_;try simp (maxSteps:=2000000) [*, -h])|(refine av (xH (h:=hx_)) rfl rfl ?_ ⟨rfl,rfl⟩ ?_;(·simp[*]);clear hx_;try simp (maxSteps:=2000000) [*, -h]))
       )
    |(obtain⟨k,rfl⟩:=aM (f:=fun k=>qW.j0 k _ _ _ _) (by simp only[qW.j0]) h;simp only[qW.j0]at h;try simp only[aF,aG,aD,aH,aI,aJ]at h)
    |(refine⟨(by first|exact aP (by assumption) (by decide) (by decide)|exact aN (by assumption) (by decide) (by decide)), ?_⟩;try simp (maxSteps:=2000000) [*, -h])
    |(cases h;done)
    |(cases h;refine aV _ ?_ ⟨rfl,rfl⟩;simp[*]<;>exact az (by omega) (by omega) (by simp))
end Go.Proofs.Ytojpejfcafbafaa.V
end
section
namespace Go.Proofs.Ytojpejfcafbafaa.P
open Go.RowKit Go.Proofs.YtojpejfcafbafaaW.PrintWords Go.Proofs.YtojpejfcafbafaaW.PrintLast Go.Proofs.YtojpejfcafbafaaW.PrintMore
attribute [local go_sem] bn bq bP bQ aW aX bu bv
set_option linter.unusedVariables false
set_option linter.unusedSimpArgs false
def sD.f:Option (Bool×List Int×List Int):=some (false,(([]:List Int)),(([]:List Int)))
def rT.f (g:Bool) (a:List Int) (c:List Int):Option (Bool×List Int×List Int):=(some (([]:List Int):List Int)).bind fun d=>(if d.length+a.length<17592186044416 then((some (([]:List Int):List Int)).bind fun e=>(if e.length+c.length<17592186044416 then(some (g,(d++a),(e++c)))else(none)))else(none))
def eu.l0:Nat→List (S41)→List Int→Int→Int→Bool→List Int→List Int→Option (Bool×List Int×List Int×Bool)
  |0,_,_,_,_,_,_,_=>none
  |k+1,x0,x2,x8,x9,c,d,a=>if x9<(x2.length:Int)then(if 0≤(wrap64 (x8+x9))then(if(wrap64 (x8+x9))<(a.length:Int)then(if 0≤x9 then((lq.f k x0 (rd a (wrap64 (x8+x9))) (rd x2 x9)).bind fun e=>(if e=true then(eu.l0 k x0 x2 x8 (wrap64 (x9+1)) c d a)else(some (c,d,a,false))))else(none))else(none))else(none))else(if 0≤x8 then(if x8≤(a.length:Int)then(some (c,d,(a.take (x8:Int).toNat),true))else(none))else(none))
def eu.f (k:Nat) (l0:List (S41)) (c:Bool) (d:List Int) (a:List Int) (l2:List Int):Option (Bool×List Int×List Int×Bool):=if(wrap64 ((a.length:Int) - (l2.length:Int)))<0 then(some (c,d,a,false))else(eu.l0 k l0 l2 (wrap64 ((a.length:Int) - (l2.length:Int))) 0 c d a)
def kF.f (c:Bool) (d:List Int) (a:List Int) (a1:Int) (a2:Bool):Option (Bool×List Int×List Int×Bool):=if a2=true then(if a1=0 then(some (c,d,a,false))else(if(a.length:Int)≥4 then(some (c,d,a,false))else((some (([]:List Int):List Int)).bind fun e=>(if e.length+a.length<17592186044416 then((some (e++a:List Int)).bind fun g=>(if g.length<17592186044416 then(some (c,d,(g++ [a1]),true))else(none)))else(none)))))else(some (c,d,a,false))
def wZ.f (a0:Int):Option (Int×Int):=if a0=0 then(some (3,1))else(some (4,8))
def vD.f (e:Int) (g:Int) (h:Int) (d:Int) (j:Bool) (a:List Int) (k:List Int):Option (Bool×List Int×List Int):=(some (([]:List Int):List Int)).bind fun c=>(if c.length+a.length<17592186044416 then(some (true,(c++a),(([wrap64 (8+d)]:List Int))))else(none))
mutual
def eB.j0:Nat→Int→Bool→List (S41)→List (S35)→Int→Int→List Int→Int→Int→List (S67)→List (S69)→List (S73)→Bool→List Int→List Int→Option (Bool)
  |0,_,_,_,_,_,_,_,_,_,_,_,_,_,_,_=>none
  |k+1,x2,x31,a,c,d,e,g,h,j,m,n,o,p,q,r=>if x31=true then(some false)else(eB.l0 k x2 0 a c d e g h j m n o p q r)
def eB.l0:Nat→Int→Int→List (S41)→List (S35)→Int→Int→List Int→Int→Int→List (S67)→List (S69)→List (S73)→Bool→List Int→List Int→Option (Bool)
  |0,_,_,_,_,_,_,_,_,_,_,_,_,_,_,_=>none
  |k+1,x2,c,d,e,g,h,j,m,n,o,p,a,q,r,t=>if c<(a.length:Int)then(if 0≤c then((iK.f x2 ((fJ a c).f0) (wrap64 (((fJ a c).f1) - 1))).bind fun v=>(if v=true then((vD.f ((fJ a c).f0) ((fJ a c).f1) ((fJ a c).f2) ((fJ a c).f3) q r t).bind fun u=>((vZ.f k d e g h j m n o p a ((fJ a c).f2) u.1 u.2.1 u.2.2).bind fun w=>(if w=true then(eB.l0 k x2 (wrap64 (c+1)) d e g h j m n o p a q r t)else(some false))))else(eB.l0 k x2 (wrap64 (c+1)) d e g h j m n o p a q r t)))else(none))else(some true)
end
def eB.f (k:Nat) (c:List (S41)) (d:List (S35)) (e:Int) (g:Int) (h:List Int) (j:Int) (m:Int) (a:List (S67)) (n:List (S69)) (o:List (S73)) (a2:Int) (p:Bool) (q:List Int) (r:List Int) (t:Bool) (u:List Int) (v:List Int):Option (Bool):=if 0≤a2 then(if a2<(a.length:Int)then((uJ.f ((bB a a2).f0) ((bB a a2).f1) ((bB a a2).f2)).bind fun w=>(if w=true then((vZ.f k c d e g h j m a n o ((bB a a2).f1) t u v).bind fun x=>(eB.j0 k a2 (!x) c d e g h j m a n o p q r))else(eB.j0 k a2 false c d e g h j m a n o p q r)))else(none))else(none)
def wI.f (d:Int) (g:Int) (a:List Int) (h:Int) (j:Int) (k:List (S67)) (m:List (S69)) (n:List (S73)):Option (List Int):=(some (([]:List Int):List Int)).bind fun c=>(if d≥0 then(if c.length<17592186044416 then((some (c++ [wrap64 (8+d)]:List Int)).bind fun e=>(if e.length+a.length<17592186044416 then(some (e++a))else(none)))else(none))else(if c.length+a.length<17592186044416 then(some (c++a))else(none)))
end Go.Proofs.Ytojpejfcafbafaa.P
end
section
namespace Go.Proofs.Ytojpejfcafbafaa.V
open Go Go.RowKit Go.Proofs.Ytojpejfcafbafaa.P
set_option linter.unusedVariables false
set_option linter.unusedSimpArgs false
attribute [local simp ↓] eG eH fQ fT eO dM fZ eP eQ gm gp gq dN dO dP gB gz gG gF dQ bW dV cz dJ dR eT eU eX
attribute [local simp] fU fV dK bR eF dL bS bT bU bV bM bN dS eY dU bX bY bZ cu bO fD lM iL dz iw evl dI eZ fu kD iX List.range List.range.loop lT kX fo fB iC iA Bs.live Bs.get lN WkV WkA WkC lg lH kY lD cZ iM TEq.refl bg fH qQ aF aG aD aH aI aJ ei d9 splice dE Bs.set kU fC Rn.at gu gy iF iD lL chunks lC fP toT fE iE rowsOf cB ik plR plV plC lF lI lQ lh fI iR lU
attribute [local simp] List.length_pos_iff qR qU iG iH iI puts dh
attribute [local simp ←] ig
attribute [local simp] ksL ru ksV rV ksC ksT ren kr rO rH dw fF dW dx iW iB iO iQ lS rG closedB iT kP kG kH kJ kL iJ kN
attribute [local simp] ag3 un3 sz3 in3 by3 ze3 ct3 zt3 zu3 ag4 un4 sz4 in4 by4 ze4 ct4 zt4 zu4 ag5 un5 sz5 in5 by5 ze5 ct5 zt5 zu5 mi mq mD mE mF mG mH mI mJ io3 mK io5 bo4 mM mO mP mQ mR mU mV mW mX mY mZ ng ni nk nu ny nz nA nC nD nE nG nH nI nJ nK nL nM nN nO nP nQ nR nS nT nU nV nW nX nY nZ oh ol om oo oq ou ow oz oC oD oF oG oH oI oJ oK oL oM oN oO oP oQ oU oV oW oZ o6 o7 o8 iZ ja jb jc jd je jf jg jh ji jk jl jm jo jq jr jv jw jy jA o9 pg pu pz pE pF pG pI pJ pK jB jC jD jE jF jG jH jI jJ jK jL jM jN jO jP jQ jR jS jT jU jV jW jX jY jZ kg ko mz gH gI gJ gK gL gN gP gQ gT gU gV gW gX gY gZ ib pO pQ pR pU pV pW pX pY p9 qa qb qc qd qf qg qh qi qj ql qm qo qp qw qx qy qz qA qB qC qD qE qF qG qH qI qJ qK qL qM qN qO qP mix
attribute [local simp] eb eC eI eS eK eM nm
set_option maxRecDepth 20000 in
set_option maxHeartbeats 4000000 in
theorem fq (r:Bool×List Int×List Int) (h:sD.f=some r):iU Try.prog 67 [] (.agg [.t (.b r.1), .t (.ints (r.2.1)), .t (.ints (r.2.2))]):=by
  unfold sD.f at h
  try simp only[aF,aG,aD,aH,aI,aJ]at h
  refine bF Try.func67 rfl rfl rfl ?_
  try simp (maxSteps:=2000000)
  repeat' first
    |(with_reducible (first|(replace h:=bC (by assumption) h)|(replace h:=bD (by assumption) h)|(replace h:=aY (by assumption) h)|(replace h:=aZ (by assumption) h)))
    |((with_reducible have hh:=aB h);clear h;rcases hh with⟨hc,h⟩|⟨hc,h⟩<;>have hd:=hc<;>(first|(replace hc:=dA hc)|(replace hc:=dB hc)|skip)<;>(try simp at hd)<;>(try(first|(subst hd)|(replace hd:=bG hd)|(replace hd:=eq_false hd)|(replace hd:=eq_true hd)))<;>(try simp (maxSteps:=2000000) [*, -h]))
    |(with_reducible replace h:=aL h)
    |(refine⟨(by first|exact aP (by assumption) (by decide) (by decide)|exact aN (by assumption) (by decide) (by decide)), ?_⟩;try simp (maxSteps:=2000000) [*, -h])
    |(cases h;done)
    |(cases h;refine aV _ ?_ ⟨rfl,rfl⟩;simp[*]<;>exact az (by omega) (by omega) (by simp))
set_option maxRecDepth 20000 in
set_option maxHeartbeats 4000000 in
theorem uC (a:Bool) (c:List Int) (d:List Int) (r:Bool×List Int×List Int) (h:rT.f a c d=some r):iU Try.prog 62 [.agg [.t (.b a), .t (.ints c), .t (.ints d)]] (.agg [.t (.b r.1), .t (.ints (r.2.1)), .t (.ints (r.2.2))]):=by
  unfold rT.f at h
  try simp only[aF,aG,aD,aH,aI,aJ]at h
  refine bF Try.func62 rfl rfl rfl ?_
  try simp (maxSteps:=2000000)
  repeat' first
    |(show ek _ _ 1 _ _ _ _;refine aT (by decide) [[], [0], [], [], [3], [2,4,3], [], [], [7], [6,8,5,7,2,4,3], [1,5,9,0,2,4,3,6,8,7], [10,9,0,1,2,3,4,5,6,7,8]] [3,4,5,6,7,8,9,10,11,12,13,0] [0,1,2,3,4,5,6,7,8,9,10,11] (by kernel_rfl) ?_;try simp (maxSteps:=2000000) [*, -h,aj,ah,ae,ai,ak,au,af,Op.operands,Call.operands])
    |(with_reducible (first|(replace h:=bC (by assumption) h)|(replace h:=bD (by assumption) h)|(replace h:=aY (by assumption) h)|(replace h:=aZ (by assumption) h)))
    |((with_reducible have hh:=aB h);clear h;rcases hh with⟨hc,h⟩|⟨hc,h⟩<;>have hd:=hc<;>(first|(replace hc:=dA hc)|(replace hc:=dB hc)|skip)<;>(try simp at hd)<;>(try(first|(subst hd)|(replace hd:=bG hd)|(replace hd:=eq_false hd)|(replace hd:=eq_true hd)))<;>(try simp (maxSteps:=2000000) [*, -h,aj,ah,ae,ai,ak,au,af,Op.operands,Call.operands]))
    |(with_reducible replace h:=aL h)
    |(refine⟨(by first|exact aP (by assumption) (by decide) (by decide)|exact aN (by assumption) (by decide) (by decide)), ?_⟩;try simp (maxSteps:=2000000) [*, -h,aj,ah,ae,ai,ak,au,af,Op.operands,Call.operands])
    |(cases h;done)
    |(cases h;refine aV _ ?_ ⟨rfl,rfl⟩;simp[*]<;>exact az (by omega) (by omega) (by simp))
set_option maxRecDepth 20000 in
set_option maxHeartbeats 4000000 in
theorem DT (a:Bool) (c:List Int) (d:List Int) (r:Bool×List Int×List Int) (h:rT.f a c d=some r):uL Try.prog 62 [.agg [.t (.b a), .t (.ints c), .t (.ints d)]] [] (.agg [.t (.b r.1), .own 900 1 (r.2.1).length, .t (.ints (r.2.2))]) [(900,some (.row 3 1 (r.2.1).length (fl 0 ei (r.2.1))))]:=by
  unfold rT.f at h
  try simp only[aF,aG,aD,aH,aI,aJ]at h
  refine bF Try.func62 rfl rfl rfl ?_
  try simp (maxSteps:=2000000)
  repeat' first
    |(show ek _ _ 1 _ _ _ _;refine aT (by decide) [[], [0], [], [], [3], [2,4,3], [], [], [7], [6,8,5,7,2,4,3], [1,5,9,0,2,4,3,6,8,7], [10,9,0,1,2,3,4,5,6,7,8]] [3,4,5,6,7,8,9,10,11,12,13,0] [0,1,2,3,4,5,6,7,8,9,10,11] (by kernel_rfl) ?_;try simp (maxSteps:=2000000) [*, -h,aj,ah,ae,ai,ak,au,af,Op.operands,Call.operands])
    |(with_reducible (first|(replace h:=bC (by assumption) h)|(replace h:=bD (by assumption) h)|(replace h:=aY (by assumption) h)|(replace h:=aZ (by assumption) h)))
    |((with_reducible have hh:=aB h);clear h;rcases hh with⟨hc,h⟩|⟨hc,h⟩<;>have hd:=hc<;>(first|(replace hc:=dA hc)|(replace hc:=dB hc)|skip)<;>(try simp at hd)<;>(try(first|(subst hd)|(replace hd:=bG hd)|(replace hd:=eq_false hd)|(replace hd:=eq_true hd)))<;>(try simp (maxSteps:=2000000) [*, -h,aj,ah,ae,ai,ak,au,af,Op.operands,Call.operands]))
    |(with_reducible replace h:=aL h)
    |(refine⟨(by first|exact aP (by assumption) (by decide) (by decide)|exact aN (by assumption) (by decide) (by decide)), ?_⟩;try simp (maxSteps:=2000000) [*, -h,aj,ah,ae,ai,ak,au,af,Op.operands,Call.operands])
    |(cases h;done)
    |(cases h;refine ed _ rfl ?_;constructor<;>simp[*]<;>exact az (by omega) (by omega) (by simp))
set_option maxRecDepth 20000 in
set_option maxHeartbeats 4000000 in
theorem uM (a:Bool) (c:List Int) (d:List Int) (r:Bool×List Int×List Int) (h:rT.f a c d=some r):uL Try.prog 62 [.agg [.t (.b a), .t (.ints c), .t (.ints d)]] [] (.agg [.t (.b r.1), .own 900 1 (r.2.1).length, .own 901 1 (r.2.2).length]) [(900,some (.row 3 1 (r.2.1).length (fl 0 ei (r.2.1)))),(901,some (.row 3 1 (r.2.2).length (fl 0 ei (r.2.2))))]:=by
  unfold rT.f at h
  try simp only[aF,aG,aD,aH,aI,aJ]at h
  refine bF Try.func62 rfl rfl rfl ?_
  try simp (maxSteps:=2000000)
  repeat' first
    |(show ek _ _ 1 _ _ _ _;refine aT (by decide) [[], [0], [], [], [3], [2,4,3], [], [], [7], [6,8,5,7,2,4,3], [1,5,9,0,2,4,3,6,8,7], [10,9,0,1,2,3,4,5,6,7,8]] [3,4,5,6,7,8,9,10,11,12,13,0] [0,1,2,3,4,5,6,7,8,9,10,11] (by kernel_rfl) ?_;try simp (maxSteps:=2000000) [*, -h,aj,ah,ae,ai,ak,au,af,Op.operands,Call.operands])
    |(with_reducible (first|(replace h:=bC (by assumption) h)|(replace h:=bD (by assumption) h)|(replace h:=aY (by assumption) h)|(replace h:=aZ (by assumption) h)))
    |((with_reducible have hh:=aB h);clear h;rcases hh with⟨hc,h⟩|⟨hc,h⟩<;>have hd:=hc<;>(first|(replace hc:=dA hc)|(replace hc:=dB hc)|skip)<;>(try simp at hd)<;>(try(first|(subst hd)|(replace hd:=bG hd)|(replace hd:=eq_false hd)|(replace hd:=eq_true hd)))<;>(try simp (maxSteps:=2000000) [*, -h,aj,ah,ae,ai,ak,au,af,Op.operands,Call.operands]))
    |(with_reducible replace h:=aL h)
    |(refine⟨(by first|exact aP (by assumption) (by decide) (by decide)|exact aN (by assumption) (by decide) (by decide)), ?_⟩;try simp (maxSteps:=2000000) [*, -h,aj,ah,ae,ai,ak,au,af,Op.operands,Call.operands])
    |(cases h;done)
    |(cases h;refine ed _ rfl ?_;constructor<;>simp[*]<;>exact az (by omega) (by omega) (by simp))
set_option maxRecDepth 20000 in
set_option maxHeartbeats 4000000 in
theorem sH (k:Nat) (l0:List (S41)) (a:Bool) (d:List Int) (e:List Int) (l2:List Int) (r:Bool×List Int×List Int×Bool) (h:eu.f k l0 a d e l2=some r):uL Try.prog 81 [.c (.t (tC l0)), .agg [.t (.b a), .t (.ints d), .t (.ints e)], .c (.own 0 1 l2.length)] [(0,some (.row 3 1 l2.length (fl 0 ei l2)))] (.tup [.agg [.t (.b r.1), .t (.ints (r.2.1)), .t (.ints (r.2.2.1))], .c (.t (.b r.2.2.2))]) [(0,some (.row 3 1 l2.length (fl 0 ei l2)))]:=by
  unfold eu.f at h
  try simp only[aF,aG,aD,aH,aI,aJ]at h
  refine bF Try.func81 rfl rfl rfl ?_
  try simp (maxSteps:=2000000)
  repeat' first
    |(show ek _ _ 7 _ _ _ _;refine aT (by decide) [[], [], [1], [], [], [3,4], [2,5,1,3,4], [6,2,5,1,3,4], [], [], [8,9], [10,8,9], [0,7,11,6,2,5,1,3,4,10,8,9], [12,0,7,11,6,2,5,1,3,4,10,8,9]] [25,26,27,28,29,30,31,32,33,34,35,36,37,38] [0,1,2,3,4,5,6,7,8,9,10,11,12,13] (by kernel_rfl) ?_;try simp (maxSteps:=2000000) [*, -h,aj,ah,ae,ai,ak,au,af,Op.operands,Call.operands])
    |(with_reducible (first|(replace h:=bC (by assumption) h)|(replace h:=bD (by assumption) h)|(replace h:=aY (by assumption) h)|(replace h:=aZ (by assumption) h)))
    |((with_reducible have hh:=aB h);clear h;rcases hh with⟨hc,h⟩|⟨hc,h⟩<;>have hd:=hc<;>(first|(replace hc:=dA hc)|(replace hc:=dB hc)|skip)<;>(try simp at hd)<;>(try(first|(subst hd)|(replace hd:=bG hd)|(replace hd:=eq_false hd)|(replace hd:=eq_true hd)))<;>(try simp (maxSteps:=2000000) [*, -h,aj,ah,ae,ai,ak,au,af,Op.operands,Call.operands]))
    |(with_reducible replace h:=aL h)
    | ((with_reducible have hh:=Option.bind_eq_some_iff.1 h);clear h;obtain⟨x_,hx_,h⟩:=hh;(first|(refine av (ER (h:=hx_)) rfl rfl ?_ ⟨rfl,rfl⟩ ?_;(·simp[*]);clear hx_;try simp (maxSteps:=2000000) [*, -h,aj,ah,ae,ai,ak,au,af,Op.operands,Call.operands])|(refine bf (ER (h:=hx_)) rfl rfl ?_ ⟨rfl,rfl⟩ rfl ?_;(·simp[*]);clear hx_;try simp (maxSteps:=2000000) [*, -h,aj,ah,ae,ai,ak,au,af,Op.operands,Call.operands]))
       )
    | (refine rW [true,true,true,false,true,false,true,false,true,true,true,true,true,true,true,true,true,true,true] (fun(x9:Int)=> [(9, .i x9)]) (fun n (x9:Int)=>eu.l0 n _ _ _ x9 _ _ _=some _) h (by first|rfl|simp[mkT]) ?_;clear h;intro k x9 hk h
       obtain⟨k,rfl⟩:=aM (f:=fun k=>eu.l0 k _ _ _ _ _ _ _) (by simp only[eu.l0]) h;simp only[eu.l0]at h;try simp only[aF,aG,aD,aH,aI,aJ]at h;try simp (maxSteps:=2000000))
    |(exact rX (inv:=fun n (x9:Int)=>eu.l0 n _ _ _ x9 _ _ _=some _) (by omega) h (by first|exact fe [true,true,true,false,true,false,true,false,true,true,true,true,true,true,true,true,true,true,true] rfl|exact fw [true,true,true,false,true,false,true,false,true,true,true,true,true,true,true,true,true,true,true] rfl (by constructor<;>simp[idR,mkT])))
    |(refine⟨(by first|exact aP (by assumption) (by decide) (by decide)|exact aN (by assumption) (by decide) (by decide)), ?_⟩;try simp (maxSteps:=2000000) [*, -h,aj,ah,ae,ai,ak,au,af,Op.operands,Call.operands])
    |(cases h;done)
    |(cases h;refine ed _ rfl ?_;constructor<;>simp[*]<;>exact az (by omega) (by omega) (by simp))
set_option maxRecDepth 20000 in
set_option maxHeartbeats 4000000 in
theorem tO (a:Bool) (d:List Int) (e:List Int) (a1:Int) (a2:Bool) (r:Bool×List Int×List Int×Bool) (h:kF.f a d e a1 a2=some r):iU Try.prog 89 [.agg [.t (.b a), .t (.ints d), .t (.ints e)], .i a1, .b a2] (.tup [.agg [.t (.b r.1), .t (.ints (r.2.1)), .t (.ints (r.2.2.1))], .c (.t (.b r.2.2.2))]):=by
  unfold kF.f at h
  try simp only[aF,aG,aD,aH,aI,aJ]at h
  refine bF Try.func89 rfl rfl rfl ?_
  try simp (maxSteps:=2000000)
  repeat' first
    |(with_reducible (first|(replace h:=bC (by assumption) h)|(replace h:=bD (by assumption) h)|(replace h:=aY (by assumption) h)|(replace h:=aZ (by assumption) h)))
    |((with_reducible have hh:=aB h);clear h;rcases hh with⟨hc,h⟩|⟨hc,h⟩<;>have hd:=hc<;>(first|(replace hc:=dA hc)|(replace hc:=dB hc)|skip)<;>(try simp at hd)<;>(try(first|(subst hd)|(replace hd:=bG hd)|(replace hd:=eq_false hd)|(replace hd:=eq_true hd)))<;>(try simp (maxSteps:=2000000) [*, -h]))
    |(with_reducible replace h:=aL h)
    |(refine⟨(by first|exact aP (by assumption) (by decide) (by decide)|exact aN (by assumption) (by decide) (by decide)), ?_⟩;try simp (maxSteps:=2000000) [*, -h])
    |(cases h;done)
    |(cases h;refine aV _ ?_ ⟨rfl,rfl⟩;simp[*]<;>exact az (by omega) (by omega) (by simp))
set_option maxRecDepth 20000 in
set_option maxHeartbeats 4000000 in
theorem Aa (a0:Int) (r:Int×Int) (h:wZ.f a0=some r):iU Try.prog 90 [.i a0] (.tup [.c (.t (.i r.1)), .c (.t (.i r.2))]):=by
  unfold wZ.f at h
  try simp only[aF,aG,aD,aH,aI,aJ]at h
  refine bF Try.func90 rfl rfl rfl ?_
  try simp (maxSteps:=2000000)
  repeat' first
    |(with_reducible (first|(replace h:=bC (by assumption) h)|(replace h:=bD (by assumption) h)|(replace h:=aY (by assumption) h)|(replace h:=aZ (by assumption) h)))
    |((with_reducible have hh:=aB h);clear h;rcases hh with⟨hc,h⟩|⟨hc,h⟩<;>have hd:=hc<;>(first|(replace hc:=dA hc)|(replace hc:=dB hc)|skip)<;>(try simp at hd)<;>(try(first|(subst hd)|(replace hd:=bG hd)|(replace hd:=eq_false hd)|(replace hd:=eq_true hd)))<;>(try simp (maxSteps:=2000000) [*, -h]))
    |(with_reducible replace h:=aL h)
    |(refine⟨(by first|exact aP (by assumption) (by decide) (by decide)|exact aN (by assumption) (by decide) (by decide)), ?_⟩;try simp (maxSteps:=2000000) [*, -h])
    |(cases h;done)
    |(cases h;refine aV _ ?_ ⟨rfl,rfl⟩;simp[*]<;>exact az (by omega) (by omega) (by simp))
set_option maxRecDepth 20000 in
set_option maxHeartbeats 4000000 in
theorem uF (a:Int) (c:Int) (d:Int) (e:Int) (g:Bool) (j:List Int) (k:List Int) (r:Bool×List Int×List Int) (h:vD.f a c d e g j k=some r):iU Try.prog 86 [.agg [.t (.i a), .t (.i c), .t (.i d), .t (.i e)], .agg [.t (.b g), .t (.ints j), .t (.ints k)]] (.agg [.t (.b r.1), .t (.ints (r.2.1)), .t (.ints (r.2.2))]):=by
  unfold vD.f at h
  try simp only[aF,aG,aD,aH,aI,aJ]at h
  refine bF Try.func86 rfl rfl rfl ?_
  try simp (maxSteps:=2000000)
  repeat' first
    |(show ek _ _ 1 _ _ _ _;refine aT (by decide) [[], [], [1], [0,2,1], [], [4], [5,4], [6,5,4], [3,7,0,2,1,6,5,4], [8,3,0,1,2,4,5,6,7]] [5,6,7,8,9,10,11,12,13,0] [0,1,2,3,4,5,6,7,8,9] (by kernel_rfl) ?_;try simp (maxSteps:=2000000) [*, -h,aj,ah,ae,ai,ak,au,af,Op.operands,Call.operands])
    |(with_reducible (first|(replace h:=bC (by assumption) h)|(replace h:=bD (by assumption) h)|(replace h:=aY (by assumption) h)|(replace h:=aZ (by assumption) h)))
    |((with_reducible have hh:=aB h);clear h;rcases hh with⟨hc,h⟩|⟨hc,h⟩<;>have hd:=hc<;>(first|(replace hc:=dA hc)|(replace hc:=dB hc)|skip)<;>(try simp at hd)<;>(try(first|(subst hd)|(replace hd:=bG hd)|(replace hd:=eq_false hd)|(replace hd:=eq_true hd)))<;>(try simp (maxSteps:=2000000) [*, -h,aj,ah,ae,ai,ak,au,af,Op.operands,Call.operands]))
    |(with_reducible replace h:=aL h)
    |(refine⟨(by first|exact aP (by assumption) (by decide) (by decide)|exact aN (by assumption) (by decide) (by decide)), ?_⟩;try simp (maxSteps:=2000000) [*, -h,aj,ah,ae,ai,ak,au,af,Op.operands,Call.operands])
    |(cases h;done)
    |(cases h;refine aV _ ?_ ⟨rfl,rfl⟩;simp[*]<;>exact az (by omega) (by omega) (by simp))
set_option maxRecDepth 20000 in
set_option maxHeartbeats 4000000 in
theorem wy (k:Nat) (c:List (S41)) (d:List (S35)) (e:Int) (g:Int) (j:List Int) (m:Int) (o:Int) (p:List (S67)) (q:List (S69)) (u:List (S73)) (a2:Int) (v:Bool) (w:List Int) (x:List Int) (y:Bool) (z:List Int) (A:List Int) (r:Bool) (h:eB.f k c d e g j m o p q u a2 v w x y z A=some r):iU Try.prog 64 [.agg [.t (tC c), .t (tM d)], .agg [.t (.i e), .t (.i g), .t (.ints j), .t (.i m), .t (.i o), .t (tI p), .t (tS q), .t (tK u)], .i a2, .agg [.t (.b v), .t (.ints w), .t (.ints x)], .agg [.t (.b y), .t (.ints z), .t (.ints A)]] (.b r):=by
  unfold eB.f at h
  try simp only[aF,aG,aD,aH,aI,aJ]at h
  refine bF Try.func64 rfl rfl rfl ?_
  try simp (maxSteps:=2000000)
  repeat' first
    |(show ek _ _ 1 _ _ _ _;refine aT (by decide) [[], [0], [], [1,2,0], [3,1,2,0], [4,3,1,2,0], [5,4,3,1,2,0], [6,5,4,3,1,2,0], [6,5,4,3,1,2,0], [6,5,4,3,1,2,0], [9,6,5,4,3,1,2,0], [6,5,4,3,1,2,0], [10,11,6,9,5,4,3,1,2,0], [12,6,10,11,9,5,4,3,1,2,0], [13,6,12,10,11,9,5,4,3,1,2,0], [6,5,4,3,1,2,0], [7,8,14,15,6,5,4,3,1,2,0,13,12,10,11,9], [16,6,7,8,14,15,5,4,3,1,2,0,13,12,10,11,9], [6,17,5,4,3,1,2,0,16,7,8,14,15,13,12,10,11,9]] [13,14,15,16,17,18,19,20,21,22,23,24,25,26,27,28,29,30,31] [0,1,2,3,4,5,6,7,8,9,10,11,12,13,14,15,16,17,18] (by kernel_rfl) ?_;try simp (maxSteps:=2000000) [*, -h,aj,ah,ae,ai,ak,au,af,Op.operands,Call.operands])
    |(show ek _ _ 7 _ _ _ _;refine aT (by decide) [[], [], [1], [], [3], [4,3], [0,2,5,1,4,3], [6,0,2,5,1,4,3], [7,6,0,2,5,1,4,3], [7,6,0,2,5,1,4,3], [7,6,0,2,5,1,4,3], [10,7,6,0,2,5,1,4,3], [7,6,0,2,5,1,4,3], [7,6,0,2,5,1,4,3], [12,13,7,6,0,2,5,1,4,3], [8,9,11,14,7,6,0,2,5,1,4,3,10,12,13], [15,7,8,9,11,14,6,0,2,5,1,4,3,10,12,13], [7,16,6,0,2,5,1,4,3,15,8,9,11,14,10,12,13]] [44,45,46,47,48,49,50,51,52,53,54,55,56,57,58,59,60,61] [0,1,2,3,4,5,6,7,8,9,10,11,12,13,14,15,16,17] (by kernel_rfl) ?_;try simp (maxSteps:=2000000) [*, -h,aj,ah,ae,ai,ak,au,af,Op.operands,Call.operands])
    |(with_reducible (first|(replace h:=bC (by assumption) h)|(replace h:=bD (by assumption) h)|(replace h:=aY (by assumption) h)|(replace h:=aZ (by assumption) h)))
    |((with_reducible have hh:=aB h);clear h;rcases hh with⟨hc,h⟩|⟨hc,h⟩<;>have hd:=hc<;>(first|(replace hc:=dA hc)|(replace hc:=dB hc)|skip)<;>(try simp at hd)<;>(try(first|(subst hd)|(replace hd:=bG hd)|(replace hd:=eq_false hd)|(replace hd:=eq_true hd)))<;>(try simp (maxSteps:=2000000) [*, -h,aj,ah,ae,ai,ak,au,af,Op.operands,Call.operands]))
    |(with_reducible replace h:=aL h)
    | ((with_reducible have hh:=Option.bind_eq_some_iff.1 h);clear h;obtain⟨x_,hx_,h⟩:=hh;(first|(refine av (si (h:=hx_)) rfl rfl ?_ ⟨rfl,rfl⟩ ?_;(·simp[*]);clear hx_;try simp (maxSteps:=2000000) [*, -h,aj,ah,ae,ai,ak,au,af,Op.operands,Call.operands])|(refine bf (si (h:=hx_)) rfl rfl ?_ ⟨rfl,rfl⟩ rfl ?_;(·simp[*]);clear hx_;try simp (maxSteps:=2000000) [*, -h,aj,ah,ae,ai,ak,au,af,Op.operands,Call.operands])|(refine av (uF (h:=hx_)) rfl rfl ?_ ⟨rfl,rfl⟩ ?_;(·simp[*]);clear hx_;try simp (maxSteps:=2000000) [*, -h,aj,ah,ae,ai,ak,au,af,Op.operands,Call.operands])|(refine bf (uF (h:=hx_)) rfl rfl ?_ ⟨rfl,rfl⟩ rfl ?_;(·simp[*]);clear hx_;try simp (maxSteps:=2000000) [*, -h,aj,ah,ae,ai,ak,au,af,Op.operands,Call.operands])|(refine av (zZ (h:=hx_)) rfl rfl ?_ ⟨rfl,rfl⟩ ?_;(·simp[*]);clear hx_;try simp (maxSteps:=2000000) [*, -h,aj,ah,ae,ai,ak,au,af,Op.operands,Call.operands])|(refine bf (zZ (h:=hx_)) rfl rfl ?_ ⟨rfl,rfl⟩ rfl ?_;(·simp[*]);clear hx_;try simp (maxSteps:=2000000) [*, -h,aj,ah,ae,ai,ak,au,af,Op.operands,Call.operands])|(refine av (qX (h:=hx_)) rfl rfl ?_ ⟨rfl,rfl⟩ ?_;(·simp[*]);clear hx_;try simp (maxSteps:=2000000) [*, -h,aj,ah,ae,ai,ak,au,af,Op.operands,Call.operands])|(refine bf (qX (h:=hx_)) rfl rfl ?_ ⟨rfl,rfl⟩ rfl ?_;(·simp[*]);clear hx_;try simp (maxSteps:=2000000) [*, -h,aj,ah,ae,ai,ak,au,af,Op.operands,Call.operands]))
       )
    |(obtain⟨k,rfl⟩:=aM (f:=fun k=>eB.j0 k _ _ _ _ _ _ _ _ _ _ _ _ _ _ _) (by simp only[eB.j0]) h;simp only[eB.j0]at h;try simp only[aF,aG,aD,aH,aI,aJ]at h)
    | (refine rW [true,true,true,true,true,true,true,false,true,true,false,true,false,true,true,true,true,true,true,true,true,true,true,true,true,true,true,true,true,true,true,true] (fun(a:Int)=> [(11, .i a)]) (fun n (a:Int)=>eB.l0 n _ a _ _ _ _ _ _ _ _ _ _ _ _ _=some _) h (by first|rfl|simp[mkT]) ?_;clear h;intro k a hk h
       obtain⟨k,rfl⟩:=aM (f:=fun k=>eB.l0 k _ _ _ _ _ _ _ _ _ _ _ _ _ _ _) (by simp only[eB.l0]) h;simp only[eB.l0]at h;try simp only[aF,aG,aD,aH,aI,aJ]at h;try simp (maxSteps:=2000000))
    |(exact rX (inv:=fun n (a:Int)=>eB.l0 n _ a _ _ _ _ _ _ _ _ _ _ _ _ _=some _) (by omega) h (by first|exact fe [true,true,true,true,true,true,true,false,true,true,false,true,false,true,true,true,true,true,true,true,true,true,true,true,true,true,true,true,true,true,true,true] rfl|exact fw [true,true,true,true,true,true,true,false,true,true,false,true,false,true,true,true,true,true,true,true,true,true,true,true,true,true,true,true,true,true,true,true] rfl (by constructor<;>simp[idR,mkT])))
    |(refine⟨(by first|exact aP (by assumption) (by decide) (by decide)|exact aN (by assumption) (by decide) (by decide)), ?_⟩;try simp (maxSteps:=2000000) [*, -h,aj,ah,ae,ai,ak,au,af,Op.operands,Call.operands])
    |(cases h;done)
    |(cases h;refine aV _ ?_ ⟨rfl,rfl⟩;simp[*]<;>exact az (by omega) (by omega) (by simp))
set_option maxRecDepth 20000 in
set_option maxHeartbeats 4000000 in
theorem zx (a:Int) (d:Int) (e:List Int) (g:Int) (j:Int) (k:List (S67)) (m:List (S69)) (n:List (S73)) (r:List Int) (h:wI.f a d e g j k m n=some r):uL Try.prog 79 [.agg [.t (.i a), .t (.i d), .t (.ints e), .t (.i g), .t (.i j), .t (tI k), .t (tS m), .t (tK n)]] [] (.c (.own 900 1 r.length)) [(900,some (.row 3 1 r.length (fl 0 ei r)))]:=by
  unfold wI.f at h
  try simp only[aF,aG,aD,aH,aI,aJ]at h
  refine bF Try.func79 rfl rfl rfl ?_
  try simp (maxSteps:=2000000)
  repeat' first
    |(with_reducible (first|(replace h:=bC (by assumption) h)|(replace h:=bD (by assumption) h)|(replace h:=aY (by assumption) h)|(replace h:=aZ (by assumption) h)))
    |((with_reducible have hh:=aB h);clear h;rcases hh with⟨hc,h⟩|⟨hc,h⟩<;>have hd:=hc<;>(first|(replace hc:=dA hc)|(replace hc:=dB hc)|skip)<;>(try simp at hd)<;>(try(first|(subst hd)|(replace hd:=bG hd)|(replace hd:=eq_false hd)|(replace hd:=eq_true hd)))<;>(try simp (maxSteps:=2000000) [*, -h]))
    |(with_reducible replace h:=aL h)
    |(refine⟨(by first|exact aP (by assumption) (by decide) (by decide)|exact aN (by assumption) (by decide) (by decide)), ?_⟩;try simp (maxSteps:=2000000) [*, -h])
    |(cases h;done)
    |(cases h;refine ed _ rfl ?_;constructor<;>simp[*]<;>exact az (by omega) (by omega) (by simp))
end Go.Proofs.Ytojpejfcafbafaa.V
end
section
namespace Go.Proofs.Ytojpejfcafbafaa.P
open Go.RowKit Go.Proofs.YtojpejfcafbafaaW.PrintWords Go.Proofs.YtojpejfcafbafaaW.PrintLast Go.Proofs.YtojpejfcafbafaaW.PrintMore
attribute [local go_sem] bn bq bP bQ aW aX bu bv
set_option linter.unusedVariables false
set_option linter.unusedSimpArgs false
def rD.j0:Nat→Int→List Int→List (S41)→List (S35)→Bool→List Int→List Int→Option (Bool×List Int×List Int×Bool)
  |0,_,_,_,_,_,_,_=>none
  |k+1,x8,x9,j,a,e,g,h=>if x8<0 then(some (e,g,h,false))else(if 0≤x8 then(if x8<(a.length:Int)then(if x9.length+((ay a x8).f2).length<17592186044416 then((eu.f k j e g h (x9++((ay a x8).f2))).bind fun c=>((kF.f c.1 c.2.1 c.2.2.1 ((ay a x8).f3) c.2.2.2).bind fun d=>(some (d.1,d.2.1,d.2.2.1,d.2.2.2))))else(none))else(none))else(none))
def rD.f (k:Nat) (a:List (S41)) (c:List (S35)) (m:Int) (d:Int) (n:Int) (g:Bool) (h:List Int) (j:List Int):Option (Bool×List Int×List Int×Bool):=(some (([]:List Int):List Int)).bind fun e=>(if m=21 then((fG.f k a c d n).bind fun o=>(if e.length<17592186044416 then(rD.j0 k o (e++ [wrap64 (8+d)]) a c g h j)else(none)))else(rD.j0 k d e a c g h j))
def kv.j0:Nat→List (S41)→Int→Bool→Bool→List Int→List Int→Option (Bool×List Int×List Int×Bool)
  |0,_,_,_,_,_,_=>none
  |k+1,x0,m,x100,a,c,d=>if x100=true then((eu.f k x0 a c d (([1,1]:List Int))).bind fun e=>(some (e.1,e.2.1,e.2.2.1,e.2.2.2)))else(if m=10 then((eu.f k x0 a c d (([8]:List Int))).bind fun g=>(some (g.1,g.2.1,g.2.2.1,g.2.2.2)))else(if m=24 then((eu.f k x0 a c d (([1]:List Int))).bind fun h=>(some (h.1,h.2.1,h.2.2.1,h.2.2.2)))else(if m=23 then((eu.f k x0 a c d (([9]:List Int))).bind fun j=>(some (j.1,j.2.1,j.2.2.1,j.2.2.2)))else(some (a,c,d,true)))))
def kv.f (k:Nat) (l0:List (S41)) (d:Int) (g:Int) (r:Int) (e:Bool) (c:List Int) (a:List Int):Option (Bool×List Int×List Int×Bool):=if d=1 then((kF.f e c a 1 true).bind fun h=>(some (h.1,h.2.1,h.2.2.1,h.2.2.2)))else(if d=2 then((kF.f e c a 2 true).bind fun j=>(some (j.1,j.2.1,j.2.2.1,j.2.2.2)))else(if d=3 then(if 0≤g then(if g<(c.length:Int)then((kF.f e c a (rd c g) true).bind fun m=>(some (m.1,m.2.1,m.2.2.1,m.2.2.2)))else(none))else(none))else(if d=4 then(if(a.length:Int)=0 then(some (e,c,a,false))else(if 0≤(wrap64 ((a.length:Int) - 1))then(if(wrap64 ((a.length:Int) - 1))<(a.length:Int)then(if 0≤g then(if g<(c.length:Int)then(if(wrap64 ((a.length:Int) - 1))≤(a.length:Int)then(some (e,(c.set (g:Int).toNat (rd a (wrap64 ((a.length:Int) - 1)))),(a.take ((wrap64 ((a.length:Int) - 1)):Int).toNat),true))else(none))else(none))else(none))else(none))else(none)))else(if d=5 then((eu.f k l0 e c a (([0]:List Int))).bind fun n=>(some (n.1,n.2.1,n.2.2.1,n.2.2.2)))else(if d=6 then(if(a.length:Int)=0 then(some (e,c,a,false))else(if 0≤(wrap64 ((a.length:Int) - 1))then(if(wrap64 ((a.length:Int) - 1))<(a.length:Int)then((kF.f e c a (rd a (wrap64 ((a.length:Int) - 1))) true).bind fun o=>(some (o.1,o.2.1,o.2.2.1,o.2.2.2)))else(none))else(none)))else(if d=7 then((eu.f k l0 e c a (([1,1]:List Int))).bind fun p=>((kF.f p.1 p.2.1 p.2.2.1 1 p.2.2.2).bind fun q=>(some (q.1,q.2.1,q.2.2.1,q.2.2.2))))else(if d=8 then(kv.j0 k l0 d (d==8) e c a)else(kv.j0 k l0 d (d==9) e c a))))))))
end Go.Proofs.Ytojpejfcafbafaa.P
end
section
namespace Go.Proofs.Ytojpejfcafbafaa.P
open Go.RowKit Go.Proofs.YtojpejfcafbafaaW.PrintWords
set_option linter.unusedVariables false
def wJ.f (k:Nat) (l0:List (S41)) (h:Int) (j:Int) (m:Int) (a:Bool) (d:List Int) (g:List Int):Option (Bool×List Int×List Int×Bool):=(wZ.f j).bind fun e=>(if h=12 then((kF.f a d g (wrap64 (8+j)) true).bind fun z=>some z)else(if h=13 then((eu.f k l0 a d g [1]).bind fun b=>((kF.f b.1 b.2.1 b.2.2.1 e.1 b.2.2.2).bind fun z=>some z))else(if h=14 then((eu.f k l0 a d g [3]).bind fun b=>(if b.2.2.2=true then((kF.f b.1 b.2.1 b.2.2.1 1 b.2.2.2).bind fun z=>some z)else((eu.f k l0 a d g [4]).bind fun c=>((kF.f c.1 c.2.1 c.2.2.1 1 c.2.2.2).bind fun z=>some z))))else(if h=15 then((eu.f k l0 a d g [e.1,1]).bind fun b=>((kF.f b.1 b.2.1 b.2.2.1 e.2 b.2.2.2).bind fun z=>some z))else(if h=16 then((eu.f k l0 a d g [e.1,1,e.2]).bind fun z=>some z)else(if h=17 then((eu.f k l0 a d g [wrap64 (8+j)]).bind fun b=>((rR.f k l0 j).bind fun fs=>(if 0≤m then(if m<(fs.length:Int)then((kF.f b.1 b.2.1 b.2.2.1 (rd fs m) b.2.2.2).bind fun z=>some z)else none)else none)))else(if h=18 then((rR.f k l0 j).bind fun fs=>(if 0≤m then(if m<(fs.length:Int)then((eu.f k l0 a d g [wrap64 (8+j),rd fs m]).bind fun z=>some z)else none)else none))else((eu.f k l0 a d g [8]).bind fun b=>((kF.f b.1 b.2.1 b.2.2.1 (wrap64 (8+j)) b.2.2.2).bind fun z=>some z)))))))))
def sF.f (k:Nat) (c:List (S41)) (d:List (S35)) (m:Int) (n:Int) (o:List Int) (e:Int) (p:Int) (a:List (S67)) (q:List (S69)) (r:List (S73)) (a2:Int) (g:Bool) (h:List Int) (j:List Int):Option (Bool×List Int×List Int×Bool):=(if 0≤a2 then(if a2<(a.length:Int)then((rT.f g h j).bind fun s=>(if(bB a a2).f0=22 then((eu.f k c s.1 s.2.1 s.2.2 [e]).bind fun z=>some z)else(if(bB a a2).f0=20 then((rD.f k c d (bB a a2).f0 (bB a a2).f1 (bB a a2).f2 s.1 s.2.1 s.2.2).bind fun z=>some z)else(if(bB a a2).f0=21 then((rD.f k c d (bB a a2).f0 (bB a a2).f1 (bB a a2).f2 s.1 s.2.1 s.2.2).bind fun z=>some z)else((iK.f (bB a a2).f0 12 19).bind fun t=>(if t=true then((wJ.f k c (bB a a2).f0 (bB a a2).f1 (bB a a2).f2 s.1 s.2.1 s.2.2).bind fun z=>some z)else((kv.f k c (bB a a2).f0 (bB a a2).f1 (bB a a2).f2 s.1 s.2.1 s.2.2).bind fun z=>some z)))))))else none)else none)
end Go.Proofs.Ytojpejfcafbafaa.P
end
