/- A part of the claim FnUnitFirst. -/
import Derived.Test.YtojpejfcafbafaaCFnUnitFirst29
section
namespace Go.Proofs.Ytojpejfcafbafaa.V
open Go Go.RowKit Go.Proofs.Ytojpejfcafbafaa.P
set_option linter.unusedVariables false
set_option linter.unusedSimpArgs false
attribute [local simp ↓] eG eH fQ fT eO dM fZ eP eQ gm gp gq dN dO dP gB gz gG gF dQ bW dV cz dJ dR eT eU eX
attribute [local simp] fU fV dK bR eF dL bS bT bU bV bM bN dS eY dU bX bY bZ cu bO fD lM iL dz iw evl dI eZ fu kD iX List.range List.range.loop lT kX fo fB iC iA Bs.live Bs.get lN WkV WkA WkC lg lH kY lD cZ iM TEq.refl bg fH qQ aF aG aD aH aI aJ ei d9 splice dE Bs.set kU fC Rn.at gu gy iF iD lL chunks lC fP toT fE iE rowsOf cB ik plR plV plC lF lI lQ lh fI iR lU
attribute [local simp] List.length_pos_iff qR qU iG iH iI puts dh
attribute [local simp ←] ig
attribute [local simp] ksL ru ksV rV ksC ksT ren kr rO rH dw bsC wF bsV vJ uo uX uY uq ut uu uw sO sP sQ sS sU r9 sV fF dW dx iW iB iO iQ lS rG closedB iT kP kG kH kJ kL iJ kN
attribute [local simp] ag3 un3 sz3 in3 by3 ze3 ct3 zt3 zu3 ag4 un4 sz4 in4 by4 ze4 ct4 zt4 zu4 ag5 un5 sz5 in5 by5 ze5 ct5 zt5 zu5 mi mq mD mE mF mG mH mI mJ io3 mK io5 bo4 mM mO mP mQ mR mU mV mW mX mY mZ ng ni nk nu ny nz nA nC nD nE nG nH nI nJ nK nL nM nN nO nP nQ nR nS nT nU nV nW nX nY nZ oh ol om oo oq ou ow oz oC oD oF oG oH oI oJ oK oL oM oN oO oP oQ oU oV oW oZ o6 o7 o8 iZ ja jb jc jd je jf jg jh ji jk jl jm jo jq jr jv jw jy jA o9 pg pu pz pE pF pG pI pJ pK jB jC jD jE jF jG jH jI jJ jK jL jM jN jO jP jQ jR jS jT jU jV jW jX jY jZ kg ko mz gH gI gJ gK gL gN gP gQ gT gU gV gW gX gY gZ ib pO pQ pR pU pV pW pX pY p9 qa qb qc qd qf qg qh qi qj ql qm qo qp qw qx qy qz qA qB qC qD qE qF qG qH qI qJ qK qL qM qN qO qP mix
attribute [local simp] eb eC eI eS eK eM nm
set_option maxRecDepth 20000 in
set_option maxHeartbeats 4000000 in
theorem DX (k:Nat) (d:List Int) (e:Int) (a1:Int) (a2:Int) (r:Bool×List Int×List Int×Int) (h:eD.f k d e a1 a2=some r):uL Try.prog 41 [.c (.ptr 0 0 0), .i a1, .i a2] [(0,some (rdB d e))] (.agg [.t (.b r.1), .t (.ints (r.2.1)), .t (.ints (r.2.2.1))]) [(0,some (rdB d (r.2.2.2)))]:=by
  unfold eD.f at h
  try simp only[aF,aG,aD,aH,aI,aJ]at h
  refine bF Try.func41 rfl rfl rfl ?_
  try simp -implicitDefEqProofs (maxSteps:=2000000)
  repeat' first
    |(show ek _ _ 5 _ _ _ _;refine aT (by decide) [[], [0], [], [], [2,3], [4,2,3], [1,5,4,0,2,3], [0,1,2,3,4,5,6], [7,6,0,1,2,3,4,5]] [17,18,19,20,21,22,23,24,0] [0,1,2,3,4,5,6,7,8] (by kernel_rfl) ?_;try simp -implicitDefEqProofs (maxSteps:=2000000) [*, -h,aj,ah,ae,ai,ak,au,af,Op.operands,Call.operands])
    |(with_reducible (first|(replace h:=bC (by assumption) h)|(replace h:=bD (by assumption) h)|(replace h:=aY (by assumption) h)|(replace h:=aZ (by assumption) h)))
    |((with_reducible have hh:=aB h);clear h;rcases hh with⟨hc,h⟩|⟨hc,h⟩<;>have hd:=hc<;>(first|(replace hc:=dA hc)|(replace hc:=dB hc)|skip)<;>(try simp at hd)<;>(first|exact absurd hd (of_eq_false (by assumption))|exact absurd (of_eq_true (by assumption)) hd|skip)<;>(try(first|(subst hd)|(replace hd:=bG hd)|(replace hd:=eq_false hd)|(replace hd:=eq_true hd)))<;>(try simp -implicitDefEqProofs (maxSteps:=2000000) [*, -h,aj,ah,ae,ai,ak,au,af,Op.operands,Call.operands]))
    |(with_reducible replace h:=aL h)
    | ((with_reducible have hh:=Option.bind_eq_some_iff.1 h);clear h;obtain⟨x_,hx_,h⟩:=hh;(first|(refine aC (tQ (h:=hx_)) rfl rfl rfl ?_ ?_ ?_ ?_;(·simp[*]);(·simp[*]);(·constructor<;>simp);clear hx_;try simp -implicitDefEqProofs (maxSteps:=2000000) [*, -h,aj,ah,ae,ai,ak,au,af,Op.operands,Call.operands])|(refine bI (tQ (h:=hx_)) rfl rfl rfl ?_ ?_ ?_ ?_ ?_;(·simp[*]);(·simp[*]);(·constructor<;>simp);(·rfl);clear hx_;try simp -implicitDefEqProofs (maxSteps:=2000000) [*, -h,aj,ah,ae,ai,ak,au,af,Op.operands,Call.operands])|(refine aC (aO (h:=hx_)) rfl rfl rfl ?_ ?_ ?_ ?_;(·simp[*]);(·simp[*]);(·constructor<;>simp);clear hx_;try simp -implicitDefEqProofs (maxSteps:=2000000) [*, -h,aj,ah,ae,ai,ak,au,af,Op.operands,Call.operands])|(refine bI (aO (h:=hx_)) rfl rfl rfl ?_ ?_ ?_ ?_ ?_;(·simp[*]);(·simp[*]);(·constructor<;>simp);(·rfl);clear hx_;try simp -implicitDefEqProofs (maxSteps:=2000000) [*, -h,aj,ah,ae,ai,ak,au,af,Op.operands,Call.operands])|(refine av (fq (h:=hx_)) rfl rfl ?_ ⟨rfl,rfl⟩ ?_;(·simp[*]);clear hx_;try simp -implicitDefEqProofs (maxSteps:=2000000) [*, -h,aj,ah,ae,ai,ak,au,af,Op.operands,Call.operands])|(refine bf (fq (h:=hx_)) rfl rfl ?_ ⟨rfl,rfl⟩ rfl ?_;(·simp[*]);clear hx_;try simp -implicitDefEqProofs (maxSteps:=2000000) [*, -h,aj,ah,ae,ai,ak,au,af,Op.operands,Call.operands]))
       )
    |(refine⟨(by first|exact aP (by assumption) (by decide) (by decide)|exact aN (by assumption) (by decide) (by decide)), ?_⟩;try simp -implicitDefEqProofs (maxSteps:=2000000) [*, -h,aj,ah,ae,ai,ak,au,af,Op.operands,Call.operands])
    |(cases h;done)
    |(cases h;refine ed _ rfl ?_;constructor<;>simp[*]<;>exact az (by omega) (by omega) (by simp))
    |(exfalso;clear h;simp_all;done)
  refine tu [true,true,true,false,false,false,true,true,true,false,false,true] (fun a=> [(8, .i a.1)]) (fun(a:Int×List Int×Int)=> [(0,some (rdB d a.2.2)),(500,some (.row 3 1 a.2.1.length (fl 0 ei a.2.1))),(107,some (.box 69 [.t (.s (.bool true)), .own 500 1 a.2.1.length, .nil]))]) (fun n a=>eD.l0 n _ _ a.1 _ a.2.2 _ a.2.1=some _) [] (b0:=(0, [],e)) h (by constructor<;>simp[idR,mkT]) ?_
  clear h;rintro k ⟨i,fs,p⟩ hk h
  obtain⟨k,rfl⟩:=aM (f:=fun k=>eD.l0 k _ _ _ _ _ _ _) (by simp only[eD.l0]) h
  simp only[eD.l0]at h
  try simp -implicitDefEqProofs (maxSteps:=2000000)
  repeat' first
      |(show ek _ _ 5 _ _ _ _;refine aT (by decide) [[], [0], [], [], [2,3], [4,2,3], [1,5,4,0,2,3], [0,1,2,3,4,5,6], [7,6,0,1,2,3,4,5]] [17,18,19,20,21,22,23,24,0] [0,1,2,3,4,5,6,7,8] (by kernel_rfl) ?_;try simp -implicitDefEqProofs (maxSteps:=2000000) [*, -h,aj,ah,ae,ai,ak,au,af,Op.operands,Call.operands])
      |(with_reducible (first|(replace h:=bC (by assumption) h)|(replace h:=bD (by assumption) h)|(replace h:=aY (by assumption) h)|(replace h:=aZ (by assumption) h)))
      |((with_reducible have hh:=aB h);clear h;rcases hh with⟨hc,h⟩|⟨hc,h⟩<;>have hd:=hc<;>(first|(replace hc:=dA hc)|(replace hc:=dB hc)|skip)<;>(try simp at hd)<;>(first|exact absurd hd (of_eq_false (by assumption))|exact absurd (of_eq_true (by assumption)) hd|skip)<;>(try(first|(subst hd)|(replace hd:=bG hd)|(replace hd:=eq_false hd)|(replace hd:=eq_true hd)))<;>(try simp -implicitDefEqProofs (maxSteps:=2000000) [*, -h,aj,ah,ae,ai,ak,au,af,Op.operands,Call.operands]))
      |(with_reducible replace h:=aL h)
      | ((with_reducible have hh:=Option.bind_eq_some_iff.1 h);clear h;obtain⟨x_,hx_,h⟩:=hh;(first|(refine aC (tQ (h:=hx_)) rfl rfl rfl ?_ ?_ ?_ ?_;(·simp[*]);(·simp[*]);(·constructor<;>simp);clear hx_;try simp -implicitDefEqProofs (maxSteps:=2000000) [*, -h,aj,ah,ae,ai,ak,au,af,Op.operands,Call.operands])|(refine bI (tQ (h:=hx_)) rfl rfl rfl ?_ ?_ ?_ ?_ ?_;(·simp[*]);(·simp[*]);(·constructor<;>simp);(·rfl);clear hx_;try simp -implicitDefEqProofs (maxSteps:=2000000) [*, -h,aj,ah,ae,ai,ak,au,af,Op.operands,Call.operands])|(refine aC (aO (h:=hx_)) rfl rfl rfl ?_ ?_ ?_ ?_;(·simp[*]);(·simp[*]);(·constructor<;>simp);clear hx_;try simp -implicitDefEqProofs (maxSteps:=2000000) [*, -h,aj,ah,ae,ai,ak,au,af,Op.operands,Call.operands])|(refine bI (aO (h:=hx_)) rfl rfl rfl ?_ ?_ ?_ ?_ ?_;(·simp[*]);(·simp[*]);(·constructor<;>simp);(·rfl);clear hx_;try simp -implicitDefEqProofs (maxSteps:=2000000) [*, -h,aj,ah,ae,ai,ak,au,af,Op.operands,Call.operands])|(refine av (fq (h:=hx_)) rfl rfl ?_ ⟨rfl,rfl⟩ ?_;(·simp[*]);clear hx_;try simp -implicitDefEqProofs (maxSteps:=2000000) [*, -h,aj,ah,ae,ai,ak,au,af,Op.operands,Call.operands])|(refine bf (fq (h:=hx_)) rfl rfl ?_ ⟨rfl,rfl⟩ rfl ?_;(·simp[*]);clear hx_;try simp -implicitDefEqProofs (maxSteps:=2000000) [*, -h,aj,ah,ae,ai,ak,au,af,Op.operands,Call.operands]))
         )
      |(refine⟨(by first|exact aP (by assumption) (by decide) (by decide)|exact aN (by assumption) (by decide) (by decide)), ?_⟩;try simp -implicitDefEqProofs (maxSteps:=2000000) [*, -h,aj,ah,ae,ai,ak,au,af,Op.operands,Call.operands])
      |(cases h;done)
      |(cases h;refine ed _ rfl ?_;constructor<;>simp[*]<;>exact az (by omega) (by omega) (by simp))
      |(exfalso;clear h;simp_all;done)
  ·exact ku [true,true,true,false,false,false,true,true,true,false,false,true] [(500,123)] (a:=(_,_,_)) (by omega) h (by constructor<;>simp[idR,mkT])
  refine tu [true,true,true,false,false,false,true,true,true,true,false,true,true,true,true,true,true,true,true,true,true,true,true,true,true,true,true] (fun a=> [(9, .i a.1)]) (fun(a:Int×List Int×Int)=> [(0,some (rdB d a.2.2)),(501,some (.row 3 1 a.2.1.length (fl 0 ei a.2.1))),(107,some (.box 69 [.t (.s (.bool true)), .own 500 1 fs.length, .own 501 1 a.2.1.length]))]) (fun n a=>eD.l1 n _ a.1 _ a.2.2 _ _ a.2.1=some _) [] (b0:=(x_.1, [],x_.2)) h (by constructor<;>simp[idR,mkT]) ?_
  clear h;rintro k ⟨i2,gs,p2⟩ hk h
  obtain⟨k,rfl⟩:=aM (f:=fun k=>eD.l1 k _ _ _ _ _ _ _) (by simp only[eD.l1]) h
  simp only[eD.l1]at h
  try simp -implicitDefEqProofs (maxSteps:=2000000)
  repeat' first
      |(show ek _ _ 5 _ _ _ _;refine aT (by decide) [[], [0], [], [], [2,3], [4,2,3], [1,5,4,0,2,3], [0,1,2,3,4,5,6], [7,6,0,1,2,3,4,5]] [17,18,19,20,21,22,23,24,0] [0,1,2,3,4,5,6,7,8] (by kernel_rfl) ?_;try simp -implicitDefEqProofs (maxSteps:=2000000) [*, -h,aj,ah,ae,ai,ak,au,af,Op.operands,Call.operands])
      |(with_reducible (first|(replace h:=bC (by assumption) h)|(replace h:=bD (by assumption) h)|(replace h:=aY (by assumption) h)|(replace h:=aZ (by assumption) h)))
      |((with_reducible have hh:=aB h);clear h;rcases hh with⟨hc,h⟩|⟨hc,h⟩<;>have hd:=hc<;>(first|(replace hc:=dA hc)|(replace hc:=dB hc)|skip)<;>(try simp at hd)<;>(first|exact absurd hd (of_eq_false (by assumption))|exact absurd (of_eq_true (by assumption)) hd|skip)<;>(try(first|(subst hd)|(replace hd:=bG hd)|(replace hd:=eq_false hd)|(replace hd:=eq_true hd)))<;>(try simp -implicitDefEqProofs (maxSteps:=2000000) [*, -h,aj,ah,ae,ai,ak,au,af,Op.operands,Call.operands]))
      |(with_reducible replace h:=aL h)
      | ((with_reducible have hh:=Option.bind_eq_some_iff.1 h);clear h;obtain⟨x_,hx_,h⟩:=hh;(first|(refine aC (tQ (h:=hx_)) rfl rfl rfl ?_ ?_ ?_ ?_;(·simp[*]);(·simp[*]);(·constructor<;>simp);clear hx_;try simp -implicitDefEqProofs (maxSteps:=2000000) [*, -h,aj,ah,ae,ai,ak,au,af,Op.operands,Call.operands])|(refine bI (tQ (h:=hx_)) rfl rfl rfl ?_ ?_ ?_ ?_ ?_;(·simp[*]);(·simp[*]);(·constructor<;>simp);(·rfl);clear hx_;try simp -implicitDefEqProofs (maxSteps:=2000000) [*, -h,aj,ah,ae,ai,ak,au,af,Op.operands,Call.operands])|(refine aC (aO (h:=hx_)) rfl rfl rfl ?_ ?_ ?_ ?_;(·simp[*]);(·simp[*]);(·constructor<;>simp);clear hx_;try simp -implicitDefEqProofs (maxSteps:=2000000) [*, -h,aj,ah,ae,ai,ak,au,af,Op.operands,Call.operands])|(refine bI (aO (h:=hx_)) rfl rfl rfl ?_ ?_ ?_ ?_ ?_;(·simp[*]);(·simp[*]);(·constructor<;>simp);(·rfl);clear hx_;try simp -implicitDefEqProofs (maxSteps:=2000000) [*, -h,aj,ah,ae,ai,ak,au,af,Op.operands,Call.operands])|(refine av (fq (h:=hx_)) rfl rfl ?_ ⟨rfl,rfl⟩ ?_;(·simp[*]);clear hx_;try simp -implicitDefEqProofs (maxSteps:=2000000) [*, -h,aj,ah,ae,ai,ak,au,af,Op.operands,Call.operands])|(refine bf (fq (h:=hx_)) rfl rfl ?_ ⟨rfl,rfl⟩ rfl ?_;(·simp[*]);clear hx_;try simp -implicitDefEqProofs (maxSteps:=2000000) [*, -h,aj,ah,ae,ai,ak,au,af,Op.operands,Call.operands]))
         )
      |(refine⟨(by first|exact aP (by assumption) (by decide) (by decide)|exact aN (by assumption) (by decide) (by decide)), ?_⟩;try simp -implicitDefEqProofs (maxSteps:=2000000) [*, -h,aj,ah,ae,ai,ak,au,af,Op.operands,Call.operands])
      |(cases h;done)
      |(cases h;refine ed _ rfl ?_;constructor<;>simp[*]<;>exact az (by omega) (by omega) (by simp))
      |(exfalso;clear h;simp_all;done)
  all_goals exact ku [true,true,true,false,false,false,true,true,true,true,false,true,true,true,true,true,true,true,true,true,true,true,true,true,true,true,true] [(501,145)] (a:=(_,_,_)) (by omega) h (by constructor<;>simp[idR,mkT])
end Go.Proofs.Ytojpejfcafbafaa.V
end
section
namespace Go.Proofs.Ytojpejfcafbafaa.Kit
open Go Go.RowKit Go.Proofs.YtojpejfcafbafaaW.PrintWords
set_option linter.unusedVariables false
def Evp {α:Type} (g:Nat→Option α) (P:α→Prop):Prop:= ∃r,Ev g r∧P r
theorem Evp.pure {α:Type} {P:α→Prop} (r:α) (h:P r):Evp (fun _=>some r) P:=⟨r,Ev.now r,h⟩
theorem Evp.bind {α β:Type} {g:Nat→Option α} {f:Nat→α→Option β} {P:α→Prop} {Q:β→Prop} (h:Evp g P) (k: ∀a,P a→Evp (fun n=>f n a) Q):Evp (fun n=>(g n).bind (f n)) Q:=by
  obtain⟨a,ha,hp⟩:=h
  obtain⟨r,hr,hq⟩:=k a hp
  exact⟨r,Ev.bind ha hr,hq⟩
theorem Evp.step {α:Type} {g f:Nat→Option α} {P:α→Prop} (h: ∀k,g (k+1)=f k) (k:Evp f P):Evp g P:=by
  obtain⟨r,hr,hp⟩:=k
  exact⟨r,Ev.step h hr,hp⟩
theorem Evp.congr {α:Type} {g f:Nat→Option α} {P:α→Prop} (h: ∀k,g k=f k) (k:Evp f P):Evp g P:=by
  obtain⟨r,hr,hp⟩:=k
  exact⟨r,Ev.congr h hr,hp⟩
theorem Evp.mono {α:Type} {g:Nat→Option α} {P Q:α→Prop} (h:Evp g P) (hpq: ∀r,P r→Q r):Evp g Q:=by
  obtain⟨r,hr,hp⟩:=h
  exact⟨r,hr,hpq r hp⟩
theorem Evp.yes {α:Type} {c:Prop} [Decidable c] {f g:Nat→Option α} {P:α→Prop} (hc:c) (h:Evp f P):Evp (fun n=>if c then f n else g n) P:=by
  simp only[if_pos hc];exact h
theorem Evp.no {α:Type} {c:Prop} [Decidable c] {f g:Nat→Option α} {P:α→Prop} (hc: ¬c) (h:Evp g P):Evp (fun n=>if c then f n else g n) P:=by
  simp only[if_neg hc];exact h
theorem Evp.ite {α:Type} {c:Prop} [Decidable c] {f g:Nat→Option α} {P:α→Prop} (h:c→Evp f P) (k: ¬c→Evp g P):Evp (fun n=>if c then f n else g n) P:=by
  by_cases hc:c
  ·exact Evp.yes hc (h hc)
  ·exact Evp.no hc (k hc)
theorem Evp.ev {α:Type} {g:Nat→Option α} {r:α} (h:Ev g r):Evp g (fun x=>x=r):=⟨r,h,rfl⟩
theorem Ev.of_evp {α:Type} {g:Nat→Option α} {r:α} (h:Evp g (fun x=>x=r)):Ev g r:=by
  obtain⟨x,hx,rfl⟩:=h
  exact hx
theorem Evp.const {α:Type} {o:Option α} {r:α} {P:α→Prop} (h:o=some r) (hp:P r):Evp (fun _=>o) P:=⟨r,⟨0,fun _ _=>h⟩,hp⟩
theorem Evp.rounds {α:Type} {g:Nat→Option α} {r:α} (h:Evp g (fun x=>x=r)): ∃k,g k=some r:=(Ev.of_evp h).rounds
theorem Evp.for_ {ρ:Type} {n:Nat} {g:Nat→Nat→Option ρ} {R:Nat→ρ→Prop} (hend:Evp (g n) (R n)) (hstep: ∀i,i<n→Evp (g (i+1)) (R (i+1))→Evp (g i) (R i)): ∀i,i≤n→Evp (g i) (R i):=by
  have key: ∀d i,i+d=n→Evp (g i) (R i):=by
    intro d
    induction d with
    | zero => intro i hi;have:i=n:=by omega
              subst this;exact hend
    |succ d ih=>intro i hi;exact hstep i (by omega) (ih (i+1) (by omega))
  intro i hi
  exact key (n - i) i (by omega)
theorem Evp.fors {σ ρ:Type} {n:Nat} {g:Nat→σ→Nat→Option ρ} {I:Nat→σ→Prop} {R:Nat→σ→ρ→Prop} (hend: ∀s,I n s→Evp (g n s) (R n s))
    (hstep: ∀i,i<n→(∀s,I (i+1) s→Evp (g (i+1) s) (R (i+1) s))→∀s,I i s→Evp (g i s) (R i s)): ∀i,i≤n→∀s,I i s→Evp (g i s) (R i s):=by
  have key: ∀d i,i+d=n→∀s,I i s→Evp (g i s) (R i s):=by
    intro d
    induction d with
    | zero => intro i hi;have:i=n:=by omega
              subst this;exact hend
    |succ d ih=>intro i hi;exact hstep i (by omega) (ih (i+1) (by omega))
  intro i hi
  exact key (n - i) i (by omega)
theorem drop_at {α:Type} {xs:List α} {i:Nat} (h:i<xs.length):xs.drop i=xs[i]::xs.drop (i+1):=List.drop_eq_getElem_cons h
theorem getD_at {α:Type} {xs:List α} {i:Nat} (h:i<xs.length) (d:α):xs.getD i d=xs[i]:=by
  rw[List.getD_eq_getElem?_getD,List.getElem?_eq_getElem h];rfl
theorem uV {i n:Nat} (h:i<n) (hn:n≤9223372036854775807):wrap64 ((i:Int)+1)=((i+1:Nat):Int):=by unfold wrap64;omega
theorem w64 {n:Int} (h0: -9223372036854775808≤n) (h1:n≤9223372036854775807):wrap64 n=n:=by unfold wrap64;omega
theorem Mk {a b:Int} (h0:0≤a):Int.tmod a b=a % b:=Int.tmod_eq_emod_of_nonneg h0
theorem Ie {a b:Int} (h0:0≤a):Int.tdiv a b=a / b:=Int.tdiv_eq_ediv_of_nonneg h0
theorem Di {a b:Int} (h0:0≤a) (hb:0<b):0≤Int.tmod a b∧Int.tmod a b<b:=by
  rw[Mk h0];exact⟨Int.emod_nonneg _ (by omega),Int.emod_lt_of_pos _ hb⟩
theorem JZ {a b:Int} (ha:0≤a) (ha' :a<4611686018427387904) (hb:0≤b) (hb' :b<4611686018427387904):
    0≤Go.bits .xor .i64 a b∧Go.bits .xor .i64 a b<4611686018427387904:=by
  obtain⟨x,rfl⟩:=Int.eq_ofNat_of_zero_le ha
  obtain⟨y,rfl⟩:=Int.eq_ofNat_of_zero_le hb
  have hx:x<2 ^ 62:=by omega
  have hy:y<2 ^ 62:=by omega
  have hxy:=Nat.xor_lt_two_pow hx hy
  have e:Go.bits .xor .i64 (x:Int) (y:Int)=((x ^^^ y:Nat):Int):=by
    show IntKind.i64.wrap (((BitVec.ofInt 64 (x:Int)) ^^^ (BitVec.ofInt 64 (y:Int))).toNat:Int)=_
    rw[BitVec.toNat_xor]
    have e1:(BitVec.ofInt 64 (x:Int)).toNat=x:=by simp;omega
    have e2:(BitVec.ofInt 64 (y:Int)).toNat=y:=by simp;omega
    rw[e1,e2,IntKind.wrap_i64]
    omega
  rw[e]
  omega
end Go.Proofs.Ytojpejfcafbafaa.Kit
end
section
namespace Go.Proofs.Ytojpejfcafbafaa.P
open Go.RowKit Go.Proofs.YtojpejfcafbafaaW.PrintWords Go.Proofs.YtojpejfcafbafaaW.PrintLast Go.Proofs.YtojpejfcafbafaaW.PrintMore
attribute [local go_sem] bn bq bP bQ aW aX bu bv
set_option linter.unusedVariables false
set_option linter.unusedSimpArgs false
end Go.Proofs.Ytojpejfcafbafaa.P
end
section
namespace Go.Proofs.Ytojpejfcafbafaa.Kit
open Go Go.RowKit Go.Proofs.YtojpejfcafbafaaW.PrintWords Go.Proofs.Ytojpejfcafbafaa.P
set_option linter.unusedVariables false
def Bytes (bs:List Int):Prop:=bs.length≤2000∧∀x∈bs,0≤x∧x≤255
theorem Bytes.rd {bs:List Int} (h:Bytes bs) (i:Int):0≤rd bs i∧rd bs i≤255:=by
  unfold Go.Proofs.YtojpejfcafbafaaW.PrintWords.rd
  rw[List.getD_eq_getElem?_getD]
  by_cases hi:i.toNat<bs.length
  · rw[List.getElem?_eq_getElem hi]
    exact h.2 _ (List.getElem_mem hi)
  · rw[List.getElem?_eq_none (by omega)]
    simp
theorem iV {bs:List Int} (h:Bytes bs) {p n:Int} (h0:0≤p) (h1:p≤1000000000) (hn:n≤1000000000):
    Evp (fun k=>aK.f k bs p n) (fun r=>0≤r.1∧(1≤n→r.1<n)∧r.2=p+1):=by
  have hp:wrap64 (p+1)=p+1:=w64 (by omega) (by omega)
  have hp1:wrap64 (p+1 - 1)=p:=by rw[w64 (by omega) (by omega)];omega
  have key: ∀b:Bool,(b=false→1≤n∧bs.length≠0)→Evp (fun k=>aK.j0 k n b bs (p+1)) (fun r=>0≤r.1∧(1≤n→r.1<n)∧r.2=p+1):=by
    intro b hb
    refine Evp.step (f:=fun k=>_) (fun k=>by rw[aK.j0]) ?_
    rw[hp1]
    cases b with
    | true=>
      refine Evp.yes rfl (Evp.pure _ ⟨by omega,fun h=>by show(0:Int)<n;omega,rfl⟩)
    | false=>
      obtain⟨hn1,hl⟩:=hb rfl
      have hlen:(bs.length:Int)≤2000:=by have:=h.1;omega
      refine Evp.no (by decide) (Evp.ite (fun hlt=> ?_) (fun hge=> ?_))
      · refine Evp.yes h0 (Evp.no (by omega) (Evp.pure _ ?_))
        have hr:=h.rd p
        rw[w64 (by omega) (by omega)]
        have:=Di (b:=n) hr.1 (by omega)
        exact⟨this.1,fun _=>this.2,rfl⟩
      · have hm1:=Di (a:=p) (b:=(bs.length:Int)) h0 (by omega)
        have e7:wrap64 (wrap64 (p * 7)+3)=p * 7+3:=by rw[w64 (n:=p * 7) (by omega) (by omega),w64 (by omega) (by omega)]
        have hm2:=Di (a:=p * 7+3) (b:=(bs.length:Int)) (by omega) (by omega)
        rw[e7]
        refine Evp.no (by omega) (Evp.yes hm1.1 (Evp.yes hm1.2 (Evp.yes hm2.1 (Evp.yes hm2.2 (Evp.no (by omega) (Evp.pure _ ?_))))))
        have r1:=h.rd (Int.tmod p (bs.length:Int))
        have r2:=h.rd (Int.tmod (p * 7+3) (bs.length:Int))
        generalize rd bs (Int.tmod p (bs.length:Int))=a at r1⊢
        generalize rd bs (Int.tmod (p * 7+3) (bs.length:Int))=c at r2⊢
        have hq:0≤Int.tdiv p (bs.length:Int)∧Int.tdiv p (bs.length:Int)≤p:=by
          rw[Ie h0]
          exact⟨Int.ediv_nonneg h0 (by omega),Int.ediv_le_self _ h0⟩
        generalize Int.tdiv p (bs.length:Int)=q at hq⊢
        have ea:wrap64 (wrap64 a * 131)=a * 131:=by rw[w64 (n:=a) (by omega) (by omega),w64 (by omega) (by omega)]
        have ec:wrap64 (wrap64 c * 1117)=c * 1117:=by rw[w64 (n:=c) (by omega) (by omega),w64 (by omega) (by omega)]
        have e29:wrap64 (p * 29)=p * 29:=w64 (by omega) (by omega)
        have d:wrap64 (wrap64 q * 53)=q * 53:=by rw[w64 (n:=q) (by omega) (by omega),w64 (by omega) (by omega)]
        have ex:wrap64 (wrap64 (wrap64 (a * 131+c * 1117)+p * 29)+q * 53)=a * 131+c * 1117+p * 29+q * 53:=by
          rw[w64 (n:=a * 131+c * 1117) (by omega) (by omega),w64 (n:=a * 131+c * 1117+p * 29) (by omega) (by omega),w64 (by omega) (by omega)]
        rw[ea,ec,e29,d,ex]
        generalize hx:a * 131+c * 1117+p * 29+q * 53=X
        have hX:0≤X∧X<4611686018427387904:=by omega
        have hd:0≤Int.tdiv X 64∧Int.tdiv X 64≤X:=by rw[Ie hX.1];omega
        rw[w64 (n:=Int.tdiv X 64) (by omega) (by omega)]
        have hz:=JZ hX.1 hX.2 hd.1 (by omega)
        have:=Di (b:=n) hz.1 (by omega)
        exact⟨this.1,fun _=>this.2,rfl⟩
  unfold aK.f
  rw[hp]
  refine Evp.ite (fun hn1=>key true (fun h=>by cases h)) (fun hn1=>key _ (fun hb=>⟨by omega, ?_⟩))
  intro hl
  rw[hl]at hb
  simp at hb
abbrev Cls:=S41
def sup (cs:List Cls) (i:Nat):Int:=(cs.getD i z41).f0
def ry (cs:List Cls) (i:Nat):List Int:=(cs.getD i z41).f1
def rC (n:Nat) (t:Int):Prop:=t=1∨t=3∨t=4∨(8≤t∧t<8+(n:Int))
structure ClsOk (cs:List Cls):Prop where
  lo:2≤cs.length
  hi:cs.length≤5
  root:sup cs 0= -1∧ry cs 0= []
  fail:sup cs 1=0∧ry cs 1= [1]
  up: ∀i,2≤i→i<cs.length→0≤sup cs i∧sup cs i<(i:Int)∧(ry cs i).length≤2
  fld: ∀i,i<cs.length→∀t∈ry cs i,rC cs.length t
inductive Up (cs:List Cls):Nat→Nat→Prop
  |refl (a:Nat):Up cs a a
  |step {a b:Nat} (p:Nat) (hp:sup cs a=(p:Int)) (h:Up cs p b):Up cs a b
theorem ClsOk.sup_pos {cs:List Cls} (h:ClsOk cs) {i:Nat} (h1:1≤i) (h2:i<cs.length):0≤sup cs i∧sup cs i<(i:Int):=by
  rcases Nat.lt_or_ge i 2 with h3|h3
  · have:i=1:=by omega
    subst this
    rw[h.fail.1]
    decide
  · have:=h.up i h3 h2
    exact⟨this.1,this.2.1⟩
theorem ClsOk.sup_nat {cs:List Cls} (h:ClsOk cs) {i:Nat} (h1:1≤i) (h2:i<cs.length): ∃p:Nat,sup cs i=(p:Int)∧p<i:=by
  obtain⟨h3,h4⟩:=h.sup_pos h1 h2
  exact⟨(sup cs i).toNat,by omega,by omega⟩
theorem ClsOk.len2 {cs:List Cls} (h:ClsOk cs) {i:Nat} (h2:i<cs.length):(ry cs i).length≤2:=by
  rcases Nat.lt_or_ge i 2 with h3|h3
  · rcases Nat.lt_or_ge i 1 with h4|h4
    · have:i=0:=by omega
      subst this
      rw[h.root.2];decide
    · have:i=1:=by omega
      subst this
      rw[h.fail.2];decide
  ·exact(h.up i h3 h2).2.2
theorem Up.le {cs:List Cls} (h:ClsOk cs) {a b:Nat} (hu:Up cs a b) (ha:a<cs.length):b≤a:=by
  induction hu with
  |refl a=>exact Nat.le_refl _
  | @step a b p hp _ ih=>
    rcases Nat.eq_zero_or_pos a with h0|h0
    · subst h0
      have:=h.root.1
      omega
    · have:=h.sup_pos h0 ha
      have:=ih (by omega)
      omega
theorem Up.inv {cs:List Cls} {a b:Nat} (hu:Up cs a b):a=b∨∃p:Nat,sup cs a=(p:Int)∧Up cs p b:=by
  cases hu with
  |refl=>exact .inl rfl
  |step p hp h=>exact .inr ⟨p,hp,h⟩
theorem Up.trans {cs:List Cls} {a b c:Nat} (h1:Up cs a b) (h2:Up cs b c):Up cs a c:=by
  induction h1 with
  |refl=>exact h2
  |step p hp _ ih=>exact .step p hp (ih h2)
theorem Up.root {cs:List Cls} (h:ClsOk cs): ∀ {a:Nat},a<cs.length→Up cs a 0:=by
  intro a
  induction a using Nat.strongRecOn with
  | _ a ih=>
    intro ha
    rcases Nat.eq_zero_or_pos a with h0|h0
    ·subst h0;exact .refl 0
    · obtain⟨p,hp,hlt⟩:=h.sup_nat h0 ha
      exact .step p hp (ih p hlt (by omega))
inductive Flds (cs:List Cls):Nat→List Int→Prop
  |root:Flds cs 0 []
  |step {c:Nat} {l:List Int} (p:Nat) (hc:c≠0) (hp:sup cs c=(p:Int)) (h:Flds cs p l):Flds cs c (l++ry cs c)
theorem Flds.fn {cs:List Cls} {c:Nat} {l l' :List Int} (h:Flds cs c l) (h' :Flds cs c l'):l=l' :=by
  induction h generalizing l' with
  | root=>
    cases h' with
    |root=>rfl
    |step p hc _ _=>exact absurd rfl hc
  | step p hc hp _ ih=>
    cases h' with
    |root=>exact absurd rfl hc
    | step q _ hq hl=>
      have:p=q:=by omega
      subst this
      rw[ih hl]
theorem Flds.ex {cs:List Cls} (h:ClsOk cs): ∀ {c:Nat},c<cs.length→∃l,Flds cs c l∧l.length≤2 * c:=by
  intro c
  induction c using Nat.strongRecOn with
  | _ c ih=>
    intro hc
    rcases Nat.eq_zero_or_pos c with h0|h0
    ·subst h0;exact⟨[], .root,by simp⟩
    · obtain⟨p,hp,hlt⟩:=h.sup_nat h0 hc
      obtain⟨l,hl,hn⟩:=ih p hlt (by omega)
      exact⟨_, .step p (by omega) hp hl,by have:=h.len2 hc;simp;omega⟩
theorem AC {cs:List Cls} (i:Nat):(lm cs (i:Int)).f0=sup cs i:=rfl
theorem Bi {cs:List Cls} (i:Nat):(lm cs (i:Int)).f1=ry cs i:=rfl
theorem MP {xs:List Int} {i:Nat} (h:i<xs.length):rd xs (i:Int)=xs[i]:=getD_at h _
def vU (cs:List Cls):Prop:=cs.length≤1048576∧∀i,i<cs.length→(ry cs i).length≤1048576∧(∀t∈ry cs i, -9223372036854775808≤t∧t≤9223372036854775807)
theorem Nn {p:Prop} {a b:Bool} (ha:a=true↔p) (hb:b=true↔p):a=b:=by
  rw[Bool.eq_iff_iff,ha,hb]
end Go.Proofs.Ytojpejfcafbafaa.Kit
end
section
namespace Go.Proofs.Ytojpejfcafbafaa.P
open Go.RowKit Go.Proofs.YtojpejfcafbafaaW.PrintWords Go.Proofs.YtojpejfcafbafaaW.PrintLast Go.Proofs.YtojpejfcafbafaaW.PrintMore
attribute [local go_sem] bn bq bP bQ aW aX bu bv
set_option linter.unusedVariables false
set_option linter.unusedSimpArgs false
mutual
def dY.l0:Nat→Int→List (S41)→Int→List Int→Int→Option ((List (S41))×Int)
  |0,_,_,_,_,_=>none
  |k+1,x3,x4,x5,x1000,a=>if x5<x3 then((aK.f k x1000 a x5).bind fun c=>((aK.f k x1000 c.2 3).bind fun d=>(dY.l1 k x3 x4 x5 d.1 x1000 d.2 c.1 ([]:List Int))))else(some (x4,a))
def dY.l1:Nat→Int→List (S41)→Int→Int→List Int→Int→Int→List Int→Option ((List (S41))×Int)
  |0,_,_,_,_,_,_,_,_=>none
  |k+1,x3,x4,x5,x7,x1000,d,c,a=>if x7>0 then((ic.f k x1000 d x3).bind fun e=>(if a.length<17592186044416 then(dY.l1 k x3 x4 x5 (wrap64 (x7 - 1)) x1000 e.2 c (a++ [e.1]))else(none)))else(if x4.length<4398046511104 then(dY.l0 k x3 (x4++ [(⟨c,a⟩:S41)]) (wrap64 (x5+1)) x1000 d)else(none))
end
def dY.f (k:Nat) (c:List Int) (d:Int):Option ((List (S41))×Int):=(aK.f k c d 4).bind fun a=>(dY.l0 k (wrap64 (2+a.1)) (([(⟨(-1),([]:List Int)⟩:S41),(⟨0,(([1]:List Int))⟩:S41)]:List (S41))) 2 c a.2)
end Go.Proofs.Ytojpejfcafbafaa.P
end
section
namespace Go.Proofs.Ytojpejfcafbafaa.P
open Go Go.RowKit Go.Proofs.YtojpejfcafbafaaW.PrintWords
def zl (r:Int):Value:=
  if r= -1 then .nilIface else if r=0 then .iface 118 (.agg #[])else if r=1 then .iface 102 (.agg #[])else if r=2 then .iface 119 (.agg #[])
  else if r=3 then .iface 104 (.agg #[.bool false])else if r=4 then .iface 104 (.agg #[.bool true])else .iface 106 (.agg #[.int .i64 (r - 8)])
def uA.f (c t:Int):Option Int:=
  if 0≤c∧c≤1000000000∧ -9223372036854775808≤t∧t≤9223372036854775807 then
    (if t=0 then some 0 else if t=1 then some 1 else if t=2 then some 2 else if t=3 then some 3 else if t=4 then some 4 else if 8≤t∧t<8+c then some t else some (-1))else none
def uN.f (c t:Int):Option Bool:=(uA.f c t).bind fun r=>some (decide (r=1∨r=3∨r=4∨8≤r))
end Go.Proofs.Ytojpejfcafbafaa.P
end
section
namespace Go.Proofs.Ytojpejfcafbafaa.P
open Go.RowKit Go.Proofs.YtojpejfcafbafaaW.PrintWords Go.Proofs.YtojpejfcafbafaaW.PrintLast Go.Proofs.YtojpejfcafbafaaW.PrintMore
attribute [local go_sem] bn bq bP bQ aW aX bu bv
set_option linter.unusedVariables false
set_option linter.unusedSimpArgs false
mutual
def aA.j0:Nat→List (S41)→Bool→Option (Bool)
  |0,_,_=>none
  |k+1,x0,a=>if a=true then(some false)else(if 0<(x0.length:Int)then(if((lm x0 0).f0)=(-1)then(aA.j1 k x0 ((((lm x0 0).f1).length:Int) !=0))else(aA.j1 k x0 true))else(none))
def aA.j1:Nat→List (S41)→Bool→Option (Bool)
  |0,_,_=>none
  |k+1,x0,x28=>if x28=true then(some false)else(if 1<(x0.length:Int)then(if((lm x0 1).f0)=0 then(if(((lm x0 1).f1).length:Int)=1 then(if 0<(((lm x0 1).f1).length:Int)then(aA.j2 k x0 ((rd ((lm x0 1).f1) 0) !=1))else(none))else(aA.j2 k x0 true))else(aA.j2 k x0 true))else(none))
def aA.j2:Nat→List (S41)→Bool→Option (Bool)
  |0,_,_=>none
  |k+1,x0,a=>if a=true then(some false)else(aA.l0 k x0 x0 (x0.length:Int) 0)
def aA.l0:Nat→List (S41)→List (S41)→Int→Int→Option (Bool)
  |0,_,_,_,_=>none
  |k+1,x0,c,d,a=>if a<d then(if 0≤a then(if a<(c.length:Int)then(if a>1 then(if((lm c a).f0)<0 then(aA.j4 k x0 c d a true ((lm c a).f0) ((lm c a).f1))else(aA.j4 k x0 c d a (decide (((lm c a).f0)≥a)) ((lm c a).f0) ((lm c a).f1)))else(aA.j4 k x0 c d a false ((lm c a).f0) ((lm c a).f1)))else(none))else(none))else(some true)
def aA.j4:Nat→List (S41)→List (S41)→Int→Int→Bool→Int→List Int→Option (Bool)
  |0,_,_,_,_,_,_,_=>none
  |k+1,x0,d,e,g,h,c,a=>if h=true then(some false)else(if(a.length:Int)>2 then(some false)else(aA.l1 k x0 d e g a (a.length:Int) 0))
def aA.l1:Nat→List (S41)→List (S41)→Int→Int→List Int→Int→Int→Option (Bool)
  |0,_,_,_,_,_,_,_=>none
  |k+1,x0,d,e,g,c,h,a=>if a<h then(if 0≤a then(if a<(c.length:Int)then((uN.f (x0.length:Int) (rd c a)).bind fun j=>(if j=true then(aA.l1 k x0 d e g c h (wrap64 (a+1)))else(some false)))else(none))else(none))else(aA.l0 k x0 d e (wrap64 (g+1)))
end
def aA.f (k:Nat) (l0:List (S41)):Option (Bool):=if(l0.length:Int)<2 then(aA.j0 k l0 true)else(aA.j0 k l0 (decide ((l0.length:Int)>5)))
def vG.f (l0:List (S41)) (a1:Int):Option (Bool):=if a1≥0 then(some (decide (a1<(l0.length:Int))))else(some false)
end Go.Proofs.Ytojpejfcafbafaa.P
end
section
namespace Go.Proofs.Ytojpejfcafbafaa.Kit
open Go Go.RowKit Go.Proofs.YtojpejfcafbafaaW.PrintWords Go.Proofs.Ytojpejfcafbafaa.P
set_option linter.unusedVariables false
theorem ui (a lo hi:Int):iK.f a lo hi=some (decide (lo≤a∧a≤hi)):=by
  unfold iK.f
  by_cases h:lo≤a<;>simp[h]
theorem Gl {n:Nat} {t:Int} (hn:n≤1000000000) (h0: -9223372036854775808≤t) (h1:t≤9223372036854775807):
    uA.f (n:Int) t=some (if(0≤t∧t≤4)∨(8≤t∧t<8+(n:Int))then t else -1):=by
  unfold uA.f
  rw[if_pos ⟨by omega,by omega,h0,h1⟩]
  repeat' split
  all_goals first|omega|(congr 1;omega)|rfl
theorem zN {n:Nat} {t:Int} (hn:n≤1000000000) (h0: -9223372036854775808≤t) (h1:t≤9223372036854775807):
    ∃b,uN.f (n:Int) t=some b∧(b=true↔rC n t):=by
  unfold uN.f
  rw[Gl hn h0 h1,Option.bind_some]
  refine⟨_,rfl, ?_⟩
  rw[decide_eq_true_iff]
  unfold rC
  split<;>omega
theorem BQ {cs:List Cls} {t:Int} (hn:cs.length≤1000000000): ∃b,uT.f cs t=some b∧(b=true↔rC cs.length t):=by
  unfold uT.f rC
  rw[ui,w64 (n:=8+(cs.length:Int)) (by omega) (by omega),w64 (by omega) (by omega)]
  by_cases h1:t=1
  ·exact⟨true,by rw[if_pos h1],by simp[h1]⟩
  rw[if_neg h1]
  by_cases h2:t=3
  ·exact⟨true,by rw[if_pos h2],by simp[h2]⟩
  rw[if_neg h2]
  by_cases h3:t=4
  ·exact⟨true,by rw[if_pos h3],by simp[h3]⟩
  rw[if_neg h3]
  refine⟨_,rfl, ?_⟩
  simp only[h1,h2,h3,false_or,decide_eq_true_iff]
  omega
theorem xZ (cs:List Cls) (a:Int): ∃b,vG.f cs a=some b∧(b=true↔0≤a∧a<(cs.length:Int)):=by
  unfold vG.f
  by_cases h:a≥0
  ·rw[if_pos h];exact⟨_,rfl,by rw[decide_eq_true_iff];omega⟩
  ·rw[if_neg h];exact⟨_,rfl,by simp;omega⟩
def Shp (cs:List Cls) (c:Nat):Prop:=(if c=0 then sup cs 0= -1∧(ry cs 0).length=0 else if c=1 then sup cs 1=0∧ry cs 1= [1]else 0≤sup cs c∧sup cs c<(c:Int)∧(ry cs c).length≤2)
theorem Ig {cs:List Cls}:Shp cs 0↔sup cs 0= -1∧(ry cs 0).length=0:=by unfold Shp;rw[if_pos rfl]
theorem J6 {cs:List Cls}:Shp cs 1↔sup cs 1=0∧ry cs 1= [1]:=by unfold Shp;rw[if_neg (by decide),if_pos rfl]
theorem FR {cs:List Cls} {c:Nat} (h:2≤c):Shp cs c↔0≤sup cs c∧sup cs c<(c:Int)∧(ry cs c).length≤2:=by unfold Shp;rw[if_neg (by omega),if_neg (by omega)]
def At (cs:List Cls) (c:Nat):Prop:=(∀t∈ry cs c,rC cs.length t)∧Shp cs c
theorem tT {cs:List Cls}:ClsOk cs↔2≤cs.length∧cs.length≤5∧∀c,c<cs.length→At cs c:=by
  constructor
  · intro h
    refine⟨h.lo,h.hi,fun c hc=>⟨h.fld c hc, ?_⟩⟩
    rcases Nat.lt_or_ge c 2 with h2|h2
    · rcases Nat.lt_or_ge c 1 with h1|h1
      · have:c=0:=by omega
        subst this
        exact Ig.2 ⟨h.root.1,by rw[h.root.2];rfl⟩
      · have:c=1:=by omega
        subst this
        exact J6.2 h.fail
    ·exact(FR h2).2 (h.up c h2 hc)
  · intro ⟨h1,h2,h3⟩
    have a0:=Ig.1 (h3 0 (by omega)).2
    have a1:=J6.1 (h3 1 (by omega)).2
    exact⟨h1,h2,⟨a0.1,List.eq_nil_of_length_eq_zero a0.2⟩,a1,fun i hi hl=>(FR hi).1 (h3 i hl).2,fun i hi=>(h3 i hi).1⟩
theorem Jp {cs:List Cls} (hs:vU cs) {c:Nat} (hc:c<cs.length):Evp (fun k=>l8.f k cs (c:Int)) (fun r=>r=true↔At cs c):=by
  unfold l8.f
  refine Evp.yes (by omega) (Evp.yes (by omega) ?_)
  rw[AC,Bi]
  have hl:=(hs.2 c hc).1
  have hl0:=hs.1
  have key: ∀i,i≤(ry cs c).length→Evp (fun k=>l8.l0 k cs (c:Int) (i:Int) (sup cs c) (ry cs c)) (fun r=>r=true↔(∀t∈(ry cs c).drop i,rC cs.length t)∧Shp cs c):=by
    refine Evp.for_ ?_ (fun i hi ih=> ?_)
    · refine Evp.step (f:=fun k=>_) (fun k=>by rw[l8.l0,ui]) (Evp.no (by omega) ?_)
      rw[List.drop_length]
      simp only[List.not_mem_nil,false_implies,implies_true,true_and]
      refine Evp.ite (fun h0=> ?_) (fun h0=> ?_)
      · have:c=0:=by omega
        subst this
        rw[Ig]
        refine Evp.ite (fun h=>Evp.pure _ ?_) (fun h=>Evp.pure _ (by simp[h]))
        rw[beq_iff_eq]
        constructor
        ·intro h2;exact⟨h,by omega⟩
        ·intro h2;omega
      · refine Evp.ite (fun h1=> ?_) (fun h1=> ?_)
        · have:c=1:=by omega
          subst this
          rw[J6]
          refine Evp.ite (fun h=> ?_) (fun h=>Evp.pure _ (by simp[h]))
          refine Evp.ite (fun h2=> ?_) (fun h2=>Evp.pure _ ?_)
          · refine Evp.yes (by omega) (Evp.pure _ ?_)
            obtain⟨x,hx⟩:=List.length_eq_one_iff.1 (by omega:(ry cs 1).length=1)
            rw[hx,show rd [x] 0=x from rfl,beq_iff_eq]
            simp[h]
          · constructor
            ·intro h3;cases h3
            ·intro h3;rw[h3.2]at h2;exact absurd rfl h2
        · rw[FR (by omega)]
          refine Evp.congr (f:=fun k=>if 0≤sup cs c∧sup cs c≤(c:Int) - 1 then some (decide (((ry cs c).length:Int)≤2))else some false) (fun k=>by rw[w64 (n:=(c:Int) - 1) (by omega) (by omega),Option.bind_some];simp only[decide_eq_true_iff]) ?_
          refine Evp.ite (fun h=>Evp.pure _ ?_) (fun h=>Evp.pure _ ?_)
          · simp only[decide_eq_true_iff]
            omega
          · constructor
            ·intro h3;cases h3
            ·intro h3;omega
    · obtain⟨b,hb,hb2⟩:=BQ (cs:=cs) (t:=(ry cs c)[i]) (by omega)
      refine Evp.step (f:=fun k=>_) (fun k=>by rw[l8.l0,MP hi,hb,Option.bind_some]) (Evp.yes (by omega) (Evp.yes (by omega) ?_))
      rw[uV hi (by omega),drop_at hi]
      refine Evp.ite (fun h=>ih.mono fun r hr=> ?_) (fun h=>Evp.pure _ ?_)
      · rw[hr,List.forall_mem_cons]
        exact⟨fun h2=>⟨⟨hb2.1 h,h2.1⟩,h2.2⟩,fun h2=>⟨h2.1.2,h2.2⟩⟩
      · rw[List.forall_mem_cons]
        exact⟨fun h2=>(by cases h2),fun h2=>absurd (hb2.2 h2.1.1) h⟩
  exact key 0 (Nat.zero_le _)
theorem yx {cs:List Cls} (hs:vU cs):Evp (fun k=>iP.f k cs) (fun r=>r=true↔ClsOk cs):=by
  have hl0:=hs.1
  unfold iP.f
  rw[ui]
  simp only[Option.bind_some]
  refine Evp.ite (fun h=> ?_) (fun h=>Evp.pure _ ?_)
  · simp only [decide_eq_true_iff]at h
    have key: ∀i,i≤cs.length→Evp (fun k=>iP.l0 k cs (i:Int)) (fun r=>r=true↔∀c,i≤c→c<cs.length→At cs c):=by
      refine Evp.for_ ?_ (fun i hi ih=> ?_)
      · refine Evp.step (f:=fun k=>_) (fun k=>by rw[iP.l0]) (Evp.no (by omega) (Evp.pure _ ?_))
        simp only[true_iff]
        intro c h1 h2;omega
      · refine Evp.step (f:=fun k=>_) (fun k=>by rw[iP.l0]) (Evp.yes (by omega) ?_)
        refine Evp.bind (Jp hs hi) fun b hb=> ?_
        rw[uV hi (by omega)]
        refine Evp.ite (fun h1=>ih.mono fun r hr=> ?_) (fun h1=>Evp.pure _ ?_)
        · rw[hr]
          constructor
          · intro h2 c h3 h4
            rcases Nat.lt_or_ge i c with h5|h5
            ·exact h2 c h5 h4
            · have:c=i:=by omega
              subst this
              exact hb.1 h1
          ·intro h2 c h3 h4;exact h2 c (by omega) h4
        · constructor
          ·intro h2;cases h2
          ·intro h2;exact absurd (hb.2 (h2 i (Nat.le_refl _) hi)) h1
    refine(key 0 (Nat.zero_le _)).mono fun r hr=> ?_
    rw[hr,tT]
    constructor
    ·intro h2;exact⟨by omega,by omega,fun c hc=>h2 c (Nat.zero_le _) hc⟩
    ·intro h2 c _ hc;exact h2.2.2 c hc
  · simp only[decide_eq_true_iff]at h
    constructor
    ·intro h2;cases h2
    ·intro h2;have:=h2.lo;have:=h2.hi;omega
theorem Fg {cs:List Cls} (hs:vU cs):Evp (fun k=>aA.f k cs) (fun r=>r=true↔ClsOk cs):=by
  have hl0:=hs.1
  have no: ∀ {p:Prop},¬p→((false=true)↔p):=fun h=>⟨fun h2=>(by cases h2),fun h2=>absurd h2 h⟩
  have jno: ¬(2≤cs.length∧cs.length≤5)→Evp (fun k=>aA.j0 k cs true) (fun r=>r=true↔ClsOk cs):=fun h=>
    Evp.step (f:=fun k=>_) (fun k=>by rw[aA.j0]) (Evp.yes rfl (Evp.pure _ (no fun h2=>h ⟨h2.lo,h2.hi⟩)))
  unfold aA.f
  refine Evp.ite (fun h=>jno (by omega)) (fun h=> ?_)
  by_cases h5: ¬cs.length≤5
  ·rw[decide_eq_true (by omega)];exact jno (by omega)
  rw[decide_eq_false (by omega)]
  have h2:2≤cs.length:=by omega
  have loop : (sup cs 0= -1∧ry cs 0= [])→(sup cs 1=0∧ry cs 1= [1])→∀i,i≤cs.length→Evp (fun k=>aA.l0 k cs cs (cs.length:Int) (i:Int)) (fun r=>r=true↔∀c,i≤c→c<cs.length→At cs c):=by
    intro hr hf
    refine Evp.for_ ?_ (fun i hi ih=> ?_)
    · refine Evp.step (f:=fun k=>_) (fun k=>by rw[aA.l0]) (Evp.no (by omega) (Evp.pure _ ?_))
      simp only[true_iff]
      intro c h1 h2;omega
    · have ih2:At cs i→∀r:Bool,(r=true↔∀c,i+1≤c→c<cs.length→At cs c)→(r=true↔∀c,i≤c→c<cs.length→At cs c):=by
        intro ha r hr
        rw[hr]
        constructor
        · intro h2 c h3 h4
          rcases Nat.lt_or_ge i c with h5|h5
          ·exact h2 c h5 h4
          · have:c=i:=by omega
            subst this
            exact ha
        ·intro h2 c h3 h4;exact h2 c (by omega) h4
      have hno: ¬At cs i→((false=true)↔∀c,i≤c→c<cs.length→At cs c):=fun h=>no fun h2=>h (h2 i (Nat.le_refl _) hi)
      have hl:=(hs.2 i hi).1
      have hb:=(hs.2 i hi).2
      have fl :Shp cs i→
          ∀j,j≤(ry cs i).length→(∀t∈(ry cs i).take j,rC cs.length t)→Evp (fun k=>aA.l1 k cs cs (cs.length:Int) (i:Int) (ry cs i) ((ry cs i).length:Int) (j:Int)) (fun r=>r=true↔∀c,i≤c→c<cs.length→At cs c):=by
        intro hc
        have key: ∀j,j≤(ry cs i).length→∀_:Unit,(∀t∈(ry cs i).take j,rC cs.length t)→Evp (fun k=>aA.l1 k cs cs (cs.length:Int) (i:Int) (ry cs i) ((ry cs i).length:Int) (j:Int)) (fun r=>r=true↔∀c,i≤c→c<cs.length→At cs c):=by
          refine Evp.fors (g:=fun j (_:Unit) k=>aA.l1 k cs cs (cs.length:Int) (i:Int) (ry cs i) ((ry cs i).length:Int) (j:Int)) (I:=fun j _=> ∀t∈(ry cs i).take j,rC cs.length t) (R:=fun _ _ r=>r=true↔∀c,i≤c→c<cs.length→At cs c) (fun _ hI=> ?_) (fun j hj ihj _ hI=> ?_)
          · refine Evp.step (f:=fun k=>_) (fun k=>by rw[aA.l1]) (Evp.no (by omega) ?_)
            rw[uV hi (by omega)]
            refine ih.mono (ih2 ⟨?_,hc⟩)
            simpa using hI
          · obtain⟨b,hb1,hb2⟩:=zN (n:=cs.length) (t:=(ry cs i)[j]) (by omega) (hb _ (List.getElem_mem hj)).1 (hb _ (List.getElem_mem hj)).2
            refine Evp.step (f:=fun k=>_) (fun k=>by rw[aA.l1,MP hj,hb1,Option.bind_some]) (Evp.yes (by omega) (Evp.yes (by omega) (Evp.yes (by omega) ?_)))
            rw[uV hj (by omega)]
            refine Evp.ite (fun h=>ihj () ?_) (fun h=>Evp.pure _ (hno ?_))
            · rw[List.take_succ_eq_append_getElem hj]
              intro t ht
              rcases List.mem_append.1 ht with ht|ht
              ·exact hI t ht
              ·rw[List.mem_singleton.1 ht];exact hb2.1 h
            ·intro ha;exact h (hb2.2 (ha.1 _ (List.getElem_mem hj)))
        exact fun j hj=>key j hj ()
      have j4 : ∀b:Bool,(b=true↔2≤i∧¬(0≤sup cs i∧sup cs i<(i:Int)))→Evp (fun k=>aA.j4 k cs cs (cs.length:Int) (i:Int) b (sup cs i) (ry cs i)) (fun r=>r=true↔∀c,i≤c→c<cs.length→At cs c):=by
        intro b hb4
        refine Evp.step (f:=fun k=>_) (fun k=>by rw[aA.j4]) ?_
        refine Evp.ite (fun h=>Evp.pure _ (hno ?_)) (fun h=> ?_)
        · intro ha
          have h6:=hb4.1 h
          have:=(FR h6.1).1 ha.2
          omega
        · have h6: ¬(2≤i∧¬(0≤sup cs i∧sup cs i<(i:Int))):=fun h7=>h (hb4.2 h7)
          refine Evp.ite (fun h7=>Evp.pure _ (hno ?_)) (fun h7=>fl ?_ 0 (Nat.zero_le _) (by simp))
          · intro ha
            rcases Nat.lt_or_ge i 2 with h8|h8
            · rcases Nat.lt_or_ge i 1 with h9|h9
              · have:i=0:=by omega
                subst this
                have:=(Ig.1 ha.2).2
                omega
              · have:i=1:=by omega
                subst this
                rw[hf.2]at h7;exact absurd h7 (by decide)
            · have:=(FR h8).1 ha.2
              omega
          · rcases Nat.lt_or_ge i 2 with h8|h8
            · rcases Nat.lt_or_ge i 1 with h9|h9
              · have:i=0:=by omega
                subst this
                exact Ig.2 ⟨hr.1,by rw[hr.2];rfl⟩
              · have:i=1:=by omega
                subst this
                exact J6.2 hf
            ·exact(FR h8).2 (by omega)
      refine Evp.step (f:=fun k=>_) (fun k=>by rw[aA.l0,AC,Bi]) (Evp.yes (by omega) (Evp.yes (by omega) (Evp.yes (by omega) ?_)))
      refine Evp.ite (fun h=>Evp.ite (fun h8=>j4 _ ?_) (fun h8=>j4 _ ?_)) (fun h=>j4 _ ?_)
      ·simp;omega
      ·rw[decide_eq_true_iff];omega
      ·simp;omega
  have done:(sup cs 0= -1∧ry cs 0= [])→(sup cs 1=0∧ry cs 1= [1])→Evp (fun k=>aA.l0 k cs cs (cs.length:Int) 0) (fun r=>r=true↔ClsOk cs):=by
    intro hr hf
    refine(loop hr hf 0 (Nat.zero_le _)).mono fun r hr2=> ?_
    rw[hr2,tT]
    constructor
    ·intro h3;exact⟨by omega,by omega,fun c hc=>h3 c (Nat.zero_le _) hc⟩
    ·intro h3 c _ hc;exact h3.2.2 c hc
  have j2:(sup cs 0= -1∧ry cs 0= [])→∀b:Bool,(b=false↔(sup cs 1=0∧ry cs 1= [1]))→Evp (fun k=>aA.j2 k cs b) (fun r=>r=true↔ClsOk cs):=by
    intro hr b hb
    refine Evp.step (f:=fun k=>_) (fun k=>by rw[aA.j2]) ?_
    refine Evp.ite (fun h=>Evp.pure _ (no fun h3=> ?_)) (fun h=>done hr (hb.1 (by simpa using h)))
    have:=hb.2 h3.fail
    rw[h]at this;cases this
  have j1: ∀b:Bool,(b=false↔(sup cs 0= -1∧ry cs 0= []))→Evp (fun k=>aA.j1 k cs b) (fun r=>r=true↔ClsOk cs):=by
    intro b hb
    refine Evp.step (f:=fun k=>_) (fun k=>by rw[aA.j1,show(1:Int)=((1:Nat):Int) from rfl,AC,Bi]) ?_
    refine Evp.ite (fun h=>Evp.pure _ (no fun h3=> ?_)) (fun h=> ?_)
    · have:=hb.2 h3.root
      rw[h]at this;cases this
    · have hr:=hb.1 (by simpa using h)
      refine Evp.yes (by omega) (Evp.ite (fun h1=>Evp.ite (fun h3=>Evp.yes (by omega) (j2 hr _ ?_)) (fun h3=>j2 hr _ ?_)) (fun h1=>j2 hr _ ?_))
      · obtain⟨x,hx⟩:=List.length_eq_one_iff.1 (by omega:(ry cs 1).length=1)
        rw[hx,show rd [x] 0=x from rfl]
        simp[h1]
      · constructor
        ·intro h4;cases h4
        ·intro h4;rw[h4.2]at h3;exact absurd rfl h3
      · constructor
        ·intro h4;cases h4
        ·intro h4;exact absurd h4.1 h1
  refine Evp.step (f:=fun k=>_) (fun k=>by rw[aA.j0,show(0:Int)=((0:Nat):Int) from rfl,AC,Bi]) (Evp.no (by decide) (Evp.yes (by omega) ?_))
  refine Evp.ite (fun h1=>j1 _ ?_) (fun h1=>j1 _ ?_)
  · constructor
    · intro h3
      have:(ry cs 0).length=0:=by simpa using h3
      exact⟨h1,List.eq_nil_of_length_eq_zero this⟩
    ·intro h3;rw[h3.2];rfl
  · constructor
    ·intro h3;cases h3
    ·intro h3;exact absurd h3.1 h1
end Go.Proofs.Ytojpejfcafbafaa.Kit
end
section
namespace Go.Proofs.Ytojpejfcafbafaa.P
open Go.RowKit Go.Proofs.YtojpejfcafbafaaW.PrintWords Go.Proofs.YtojpejfcafbafaaW.PrintLast Go.Proofs.YtojpejfcafbafaaW.PrintMore
attribute [local go_sem] bn bq bP bQ aW aX bu bv
set_option linter.unusedVariables false
set_option linter.unusedSimpArgs false
def l9.l0:Nat→List (S41)→Int→Int→Option (Bool)
  |0,_,_,_=>none
  |k+1,x0,x2,x7=>if x7≥0 then(if x7=x2 then(some true)else(if 0≤x7 then(if x7<(x0.length:Int)then(l9.l0 k x0 x2 ((lm x0 x7).f0))else(none))else(none)))else(some false)
def l9.f (k:Nat) (l0:List (S41)) (a1:Int) (a2:Int):Option (Bool):=l9.l0 k l0 a2 a1
end Go.Proofs.Ytojpejfcafbafaa.P
end
section
namespace Go.Proofs.Ytojpejfcafbafaa.Kit
open Go Go.RowKit Go.Proofs.YtojpejfcafbafaaW.PrintWords Go.Proofs.Ytojpejfcafbafaa.P
set_option linter.unusedVariables false
theorem kQ {p:Prop} (h: ¬p):(false=true)↔p:=⟨fun h2=>(by cases h2),fun h2=>absurd h2 h⟩
theorem uS {p:Prop} (h:p):(true=true)↔p:=⟨fun _=>h,fun _=>rfl⟩
theorem Up.via {cs:List Cls} {a b p:Nat} (hp:sup cs a=(p:Int)) (hne:a≠b):Up cs a b↔Up cs p b:=by
  constructor
  · intro h
    rcases h.inv with rfl|⟨q,hq,h2⟩
    ·exact absurd rfl hne
    · have:p=q:=by omega
      subst this
      exact h2
  ·intro h;exact .step p hp h
theorem CZ {cs:List Cls} (h:ClsOk cs) (b:Nat): ∀a:Nat,a<cs.length→Evp (fun k=>tN.f k cs (a:Int) (b:Int)) (fun r=>r=true↔Up cs a b):=by
  intro a
  induction a using Nat.strongRecOn with
  | _ a ih=>
    intro ha
    unfold tN.f at ih⊢
    refine Evp.step (f:=fun k=>_) (fun k=>by rw[tN.l0,AC]) (Evp.ite (fun hab=> ?_) (fun hab=>Evp.pure _ ?_))
    · obtain⟨p,hp,hlt⟩:=h.sup_nat (by omega:1≤a) ha
      refine Evp.yes (by omega) (Evp.yes (by omega) ?_)
      rw[hp]
      exact(ih p hlt (by omega)).mono fun r hr=>hr.trans (Up.via hp (by omega)).symm
    · rw[beq_iff_eq]
      constructor
      · intro h2
        have:a=b:=by omega
        subst this;exact .refl _
      · intro h2
        have:=h2.le h ha
        omega
theorem IZ {cs:List Cls} (h:ClsOk cs) (b:Nat): ∀a:Nat,a<cs.length→Evp (fun k=>l9.f k cs (a:Int) (b:Int)) (fun r=>r=true↔Up cs a b):=by
  intro a
  induction a using Nat.strongRecOn with
  | _ a ih=>
    intro ha
    unfold l9.f at ih⊢
    refine Evp.step (f:=fun k=>_) (fun k=>by rw[l9.l0,AC]) (Evp.yes (by omega) (Evp.ite (fun hab=>Evp.pure _ ?_) (fun hab=> ?_)))
    · have:a=b:=by omega
      subst this
      exact uS (.refl _)
    · refine Evp.yes (by omega) (Evp.yes (by omega) ?_)
      rcases Nat.eq_zero_or_pos a with h0|h0
      · subst h0
        rw[h.root.1]
        refine Evp.step (f:=fun k=>_) (fun k=>by rw[l9.l0]) (Evp.no (by omega) (Evp.pure _ (kQ ?_)))
        intro h2
        have:=h2.le h ha
        omega
      · obtain⟨p,hp,hlt⟩:=h.sup_nat h0 ha
        rw[hp]
        exact(ih p hlt (by omega)).mono fun r hr=>hr.trans (Up.via hp (by omega)).symm
def iY (n:Nat) (t:Int):Prop:=t=0∨t=2∨rC n t
theorem u6 {n:Nat} {t:Int}:iY n t↔(0≤t∧t≤4)∨(8≤t∧t<8+(n:Int)):=by
  unfold iY rC
  omega
theorem Gm {n:Nat} {t:Int} (hn:n≤1000000000) (h0: -9223372036854775808≤t) (h1:t≤9223372036854775807):
    ∃r,uA.f (n:Int) t=some r∧(iY n t∧r=t∨¬iY n t∧r= -1):=by
  refine⟨_,Gl hn h0 h1, ?_⟩
  rw[u6]
  by_cases h:(0≤t∧t≤4)∨(8≤t∧t<8+(n:Int))
  ·rw[if_pos h];exact .inl ⟨h,rfl⟩
  ·rw[if_neg h];exact .inr ⟨h,rfl⟩
theorem Dq {cs:List Cls} (hs:vU cs) (t:Int):Evp (fun k=>wP.f k cs t) (fun r=>r=true↔ClsOk cs∧iY cs.length t):=by
  have hl0:=hs.1
  unfold wP.f
  refine Evp.bind (yx hs) fun b hb=>Evp.ite (fun h=> ?_) (fun h=>Evp.pure _ (kQ fun h2=>h (hb.2 h2.1)))
  refine Evp.ite (fun h0=>Evp.pure _ (uS ⟨hb.1 h, .inl h0⟩)) (fun h0=>Evp.ite (fun h2=>Evp.pure _ (uS ⟨hb.1 h, .inr (.inl h2)⟩)) (fun h2=> ?_))
  obtain⟨c,hc,hc2⟩:=BQ (cs:=cs) (t:=t) (by omega)
  simp only[hc,Option.bind_some]
  refine Evp.pure _ (hc2.trans ⟨fun h3=>⟨hb.1 h, .inr (.inr h3)⟩,fun h3=> ?_⟩)
  rcases h3.2 with h4|h4|h4
  ·exact absurd h4 h0
  ·exact absurd h4 h2
  ·exact h4
end Go.Proofs.Ytojpejfcafbafaa.Kit
end
section
namespace Go.Proofs.Ytojpejfcafbafaa.P
open Go.RowKit Go.Proofs.YtojpejfcafbafaaW.PrintWords Go.Proofs.YtojpejfcafbafaaW.PrintLast Go.Proofs.YtojpejfcafbafaaW.PrintMore
attribute [local go_sem] bn bq bP bQ aW aX bu bv
set_option linter.unusedVariables false
set_option linter.unusedSimpArgs false
mutual
def cO.j0:Nat→List (S41)→Bool→Bool→List Int→List Int→Option (Bool)
  |0,_,_,_,_,_=>none
  |k+1,x0,x34,c,a,d=>if x34=true then(some false)else(cO.l0 k x0 a (a.length:Int) 0 c a d)
def cO.l0:Nat→List (S41)→List Int→Int→Int→Bool→List Int→List Int→Option (Bool)
  |0,_,_,_,_,_,_,_=>none
  |k+1,x0,e,h,x38,c,d,a=>if x38<h then(if 0≤x38 then(if x38<(e.length:Int)then((uA.f (x0.length:Int) (rd e x38)).bind fun g=>(if g=(-1)then(some false)else(cO.l0 k x0 e h (wrap64 (x38+1)) c d a)))else(none))else(none))else(cO.l1 k x0 a (a.length:Int) 0)
def cO.l1:Nat→List (S41)→List Int→Int→Int→Option (Bool)
  |0,_,_,_,_=>none
  |k+1,x0,c,e,a=>if a<e then(if 0≤a then(if a<(c.length:Int)then(if(rd c a)=0 then(some false)else((uA.f (x0.length:Int) (rd c a)).bind fun d=>(if d=(-1)then(some false)else(cO.l1 k x0 c e (wrap64 (a+1))))))else(none))else(none))else(some true)
end
def cO.f (k:Nat) (l0:List (S41)) (a1:Int) (d:Bool) (a:List Int) (c:List Int):Option (Bool):=if d=true then(if(a.length:Int)=a1 then(cO.j0 k l0 (decide ((c.length:Int)>4)) d a c)else(cO.j0 k l0 true d a c))else(if(a.length:Int)=0 then(some ((c.length:Int)==0))else(some false))
end Go.Proofs.Ytojpejfcafbafaa.P
end
section
namespace Go.Proofs.Ytojpejfcafbafaa.Kit
open Go Go.RowKit Go.Proofs.YtojpejfcafbafaaW.PrintWords Go.Proofs.Ytojpejfcafbafaa.P
set_option linter.unusedVariables false
theorem tF {Q:Nat→Prop} {Z:Prop} {i n:Nat} {r:Bool} (hq:Q i) (hr:r=true↔(∀j,i+1≤j→j<n→Q j)∧Z):r=true↔(∀j,i≤j→j<n→Q j)∧Z:=by
  rw[hr]
  constructor
  · intro ⟨h2,hz⟩
    refine⟨fun c h3 h4=> ?_,hz⟩
    rcases Nat.lt_or_ge i c with h5|h5
    ·exact h2 c h5 h4
    · have:c=i:=by omega
      subst this
      exact hq
  ·intro ⟨h2,hz⟩;exact⟨fun c h3 h4=>h2 c (by omega) h4,hz⟩
theorem lG {Q:Nat→Prop} {Z:Prop} {i n:Nat} (hi:i<n) (hq: ¬Q i):(false=true)↔(∀j,i≤j→j<n→Q j)∧Z:=kQ fun h=>hq (h.1 i (Nat.le_refl _) hi)
theorem sZ {Q:Nat→Prop} {Z:Prop} {n:Nat} {r:Bool} (h:r=true↔Z):r=true↔(∀j,n≤j→j<n→Q j)∧Z:=h.trans ⟨fun hz=>⟨fun j h1 h2=>absurd h2 (by omega),hz⟩,fun h=>h.2⟩
theorem zt {α:Type} {xs:List α} {d:α} {Q:α→Prop}:(∀j,0≤j→j<xs.length→Q (xs.getD j d))↔∀x∈xs,Q x:=by
  constructor
  · intro h x hx
    obtain⟨i,hi,rfl⟩:=List.mem_iff_getElem.1 hx
    have:=h i (Nat.zero_le _) hi
    rwa [getD_at hi]at this
  · intro h j _ hj
    rw[getD_at hj]
    exact h _ (List.getElem_mem hj)
def I64 (l:List Int):Prop:= ∀t∈l, -9223372036854775808≤t∧t≤9223372036854775807
theorem I64.at {l:List Int} (h:I64 l) {i:Nat} (hi:i<l.length): -9223372036854775808≤l.getD i 0∧l.getD i 0≤9223372036854775807:=by
  rw[getD_at hi];exact h _ (List.getElem_mem hi)
theorem rdN {xs:List Int} (i:Nat):rd xs (i:Int)=xs.getD i 0:=rfl
def xn (cs:List Cls) (n:Int) (b:Bool) (l m:List Int):Prop:=
  (b=true∧(l.length:Int)=n∧m.length≤4∧(∀t∈l,iY cs.length t)∧(∀t∈m,iY cs.length t∧t≠0))∨(b=false∧l.length=0∧m.length=0)
theorem GJ {cs:List Cls} (hs:vU cs) (n:Int) (b:Bool) {l m:List Int} (hl:l.length≤1048576) (hm:m.length≤1048576):
    Evp (fun k=>cK.f k cs n b l m) (fun r=>r=true↔ClsOk cs∧xn cs n b l m):=by
  unfold cK.f
  refine Evp.bind (yx hs) fun c hc=>Evp.ite (fun h=> ?_) (fun h=>Evp.pure _ (kQ fun h2=>h (hc.2 h2.1)))
  have hok:=hc.1 h
  refine Evp.ite (fun hb=> ?_) (fun hb=>Evp.ite (fun h1=>Evp.pure _ ?_) (fun h1=>Evp.pure _ (kQ ?_)))
  · have jt : ¬xn cs n b l m→Evp (fun k=>cK.j0 k cs true b l m) (fun r=>r=true↔ClsOk cs∧xn cs n b l m):=fun h=>
      Evp.step (f:=fun k=>_) (fun k=>by rw[cK.j0]) (Evp.yes rfl (Evp.pure _ (kQ fun h2=>h h2.2)))
    refine Evp.ite (fun h1=> ?_) (fun h1=>jt ?_)
    · by_cases h4:m.length≤4
      · rw[decide_eq_false (by omega)]
        refine Evp.step (f:=fun k=>_) (fun k=>by rw[cK.j0]) (Evp.no (by decide) ?_)
        have k1: ∀i,i≤m.length→Evp (fun k=>cK.l1 k cs (i:Int) b l m) (fun r=>r=true↔(∀j,i≤j→j<m.length→iY cs.length (m.getD j 0)∧m.getD j 0≠0)∧True):=by
          refine Evp.for_ ?_ (fun i hi ih=> ?_)
          ·refine Evp.step (f:=fun k=>_) (fun k=>by rw[cK.l1]) (Evp.no (by omega) (Evp.pure _ (sZ (uS trivial))))
          · refine Evp.step (f:=fun k=>_) (fun k=>by rw[cK.l1,rdN]) (Evp.yes (by omega) (Evp.yes (by omega) ?_))
            refine Evp.bind (Dq hs _) fun d hd=>Evp.ite (fun h5=>Evp.ite (fun h6=>Evp.pure _ (lG hi fun h7=>h7.2 h6)) (fun h6=> ?_)) (fun h5=>Evp.pure _ (lG hi fun h7=>h5 (hd.2 ⟨hok,h7.1⟩)))
            rw[uV hi (by omega)]
            exact ih.mono fun r hr=>tF (Q:=fun j=>iY cs.length (m.getD j 0)∧m.getD j 0≠0) ⟨(hd.1 h5).2,h6⟩ hr
        have k0: ∀i,i≤l.length→Evp (fun k=>cK.l0 k cs (i:Int) b l m) (fun r=>r=true↔(∀j,i≤j→j<l.length→iY cs.length (l.getD j 0))∧((∀j,0≤j→j<m.length→iY cs.length (m.getD j 0)∧m.getD j 0≠0)∧True)):=by
          refine Evp.for_ ?_ (fun i hi ih=> ?_)
          · refine Evp.step (f:=fun k=>_) (fun k=>by rw[cK.l0]) (Evp.no (by omega) ?_)
            exact(k1 0 (Nat.zero_le _)).mono fun r hr=>sZ hr
          · refine Evp.step (f:=fun k=>_) (fun k=>by rw[cK.l0,rdN]) (Evp.yes (by omega) (Evp.yes (by omega) ?_))
            refine Evp.bind (Dq hs _) fun d hd=>Evp.ite (fun h5=> ?_) (fun h5=>Evp.pure _ (lG hi fun h7=>h5 (hd.2 ⟨hok,h7⟩)))
            rw[uV hi (by omega)]
            exact ih.mono fun r hr=>tF (Q:=fun j=>iY cs.length (l.getD j 0)) (hd.1 h5).2 hr
        refine(k0 0 (Nat.zero_le _)).mono fun r hr=>hr.trans ?_
        rw[zt (Q:=fun t=>iY cs.length t),zt (Q:=fun t=>iY cs.length t∧t≠0)]
        unfold xn
        rw[hb]
        constructor
        ·intro h5;exact⟨hok, .inl ⟨rfl,h1,h4,h5.1,h5.2.1⟩⟩
        · intro h5
          rcases h5.2 with h6|h6
          ·exact⟨h6.2.2.2.1,h6.2.2.2.2,trivial⟩
          ·cases h6.1
      · rw[decide_eq_true (by omega)]
        refine jt ?_
        unfold xn
        rw[hb]
        intro h5
        rcases h5 with h5|h5
        ·exact h4 h5.2.2.1
        ·cases h5.1
    · unfold xn
      rw[hb]
      intro h5
      rcases h5 with h5|h5
      ·exact h1 h5.2.1
      ·cases h5.1
  · have hb' :b=false:=by simpa using hb
    rw[beq_iff_eq]
    unfold xn
    rw[hb']
    constructor
    ·intro h2;exact⟨hok, .inr ⟨rfl,by omega,by omega⟩⟩
    · intro h2
      rcases h2.2 with h3|h3
      ·cases h3.1
      ·omega
  · have hb' :b=false:=by simpa using hb
    unfold xn
    rw[hb']
    intro h2
    rcases h2.2 with h3|h3
    ·cases h3.1
    ·omega
theorem Gu {cs:List Cls} (hs:vU cs) (n:Int) (b:Bool) {l m:List Int} (hl:l.length≤1048576) (hm:m.length≤1048576) (il:I64 l) (im:I64 m):
    Evp (fun k=>cO.f k cs n b l m) (fun r=>r=true↔xn cs n b l m):=by
  have hl0:=hs.1
  unfold cO.f
  refine Evp.ite (fun hb=> ?_) (fun hb=>Evp.ite (fun h1=>Evp.pure _ ?_) (fun h1=>Evp.pure _ (kQ ?_)))
  · have jt : ¬xn cs n b l m→Evp (fun k=>cO.j0 k cs true b l m) (fun r=>r=true↔xn cs n b l m):=fun h=>
      Evp.step (f:=fun k=>_) (fun k=>by rw[cO.j0]) (Evp.yes rfl (Evp.pure _ (kQ h)))
    refine Evp.ite (fun h1=> ?_) (fun h1=>jt ?_)
    · by_cases h4:m.length≤4
      · rw[decide_eq_false (by omega)]
        refine Evp.step (f:=fun k=>_) (fun k=>by rw[cO.j0]) (Evp.no (by decide) ?_)
        have k1: ∀i,i≤m.length→Evp (fun k=>cO.l1 k cs m (m.length:Int) (i:Int)) (fun r=>r=true↔(∀j,i≤j→j<m.length→iY cs.length (m.getD j 0)∧m.getD j 0≠0)∧True):=by
          refine Evp.for_ ?_ (fun i hi ih=> ?_)
          ·refine Evp.step (f:=fun k=>_) (fun k=>by rw[cO.l1]) (Evp.no (by omega) (Evp.pure _ (sZ (uS trivial))))
          · obtain⟨q,hq,hq2⟩:=Gm (n:=cs.length) (t:=m.getD i 0) (by omega) (im.at hi).1 (im.at hi).2
            refine Evp.step (f:=fun k=>_) (fun k=>by rw[cO.l1,rdN,hq,Option.bind_some]) (Evp.yes (by omega) (Evp.yes (by omega) (Evp.yes (by omega) ?_)))
            refine Evp.ite (fun h6=>Evp.pure _ (lG hi fun h7=>h7.2 h6)) (fun h6=> ?_)
            rcases hq2 with⟨h7,rfl⟩|⟨h7,rfl⟩
            · refine Evp.no (by have:=u6.1 h7;omega) ?_
              rw[uV hi (by omega)]
              exact ih.mono fun r hr=>tF (Q:=fun j=>iY cs.length (m.getD j 0)∧m.getD j 0≠0) ⟨h7,h6⟩ hr
            ·exact Evp.yes rfl (Evp.pure _ (lG hi fun h8=>h7 h8.1))
        have k0: ∀i,i≤l.length→Evp (fun k=>cO.l0 k cs l (l.length:Int) (i:Int) b l m) (fun r=>r=true↔(∀j,i≤j→j<l.length→iY cs.length (l.getD j 0))∧((∀j,0≤j→j<m.length→iY cs.length (m.getD j 0)∧m.getD j 0≠0)∧True)):=by
          refine Evp.for_ ?_ (fun i hi ih=> ?_)
          · refine Evp.step (f:=fun k=>_) (fun k=>by rw[cO.l0]) (Evp.no (by omega) ?_)
            exact(k1 0 (Nat.zero_le _)).mono fun r hr=>sZ hr
          · obtain⟨q,hq,hq2⟩:=Gm (n:=cs.length) (t:=l.getD i 0) (by omega) (il.at hi).1 (il.at hi).2
            refine Evp.step (f:=fun k=>_) (fun k=>by rw[cO.l0,rdN,hq,Option.bind_some]) (Evp.yes (by omega) (Evp.yes (by omega) (Evp.yes (by omega) ?_)))
            rcases hq2 with⟨h7,rfl⟩|⟨h7,rfl⟩
            · refine Evp.no (by have:=u6.1 h7;omega) ?_
              rw[uV hi (by omega)]
              exact ih.mono fun r hr=>tF (Q:=fun j=>iY cs.length (l.getD j 0)) h7 hr
            ·exact Evp.yes rfl (Evp.pure _ (lG hi h7))
        refine(k0 0 (Nat.zero_le _)).mono fun r hr=>hr.trans ?_
        rw[zt (Q:=fun t=>iY cs.length t),zt (Q:=fun t=>iY cs.length t∧t≠0)]
        unfold xn
        rw[hb]
        constructor
        ·intro h5;exact .inl ⟨rfl,h1,h4,h5.1,h5.2.1⟩
        · intro h5
          rcases h5 with h6|h6
          ·exact⟨h6.2.2.2.1,h6.2.2.2.2,trivial⟩
          ·cases h6.1
      · rw[decide_eq_true (by omega)]
        refine jt ?_
        unfold xn
        rw[hb]
        intro h5
        rcases h5 with h5|h5
        ·exact h4 h5.2.2.1
        ·cases h5.1
    · unfold xn
      rw[hb]
      intro h5
      rcases h5 with h5|h5
      ·exact h1 h5.2.1
      ·cases h5.1
  · have hb' :b=false:=by simpa using hb
    rw[beq_iff_eq]
    unfold xn
    rw[hb']
    constructor
    ·intro h2;exact .inr ⟨rfl,by omega,by omega⟩
    · intro h2
      rcases h2 with h3|h3
      ·cases h3.1
      ·omega
  · have hb' :b=false:=by simpa using hb
    unfold xn
    rw[hb']
    intro h2
    rcases h2 with h3|h3
    ·cases h3.1
    ·omega
def Few (l:List Int):Prop:= ∀t∈l, -1000≤t∧t≤1000
theorem Few.nil:Few []:=by intro t ht;cases ht
theorem Few.snoc {l:List Int} {t:Int} (h:Few l) (h0: -1000≤t) (h1:t≤1000):Few (l++ [t]):=by
  intro x hx
  rcases List.mem_append.1 hx with hx|hx
  ·exact h x hx
  ·rw[List.mem_singleton.1 hx];exact⟨h0,h1⟩
def OkC (c:Nat) (x:Cls):Prop:=x.f1.length≤c∧Few x.f1
def xz (c m:Nat) (cs:List Cls):Prop:=1≤cs.length∧cs.length≤m∧∀x∈cs,OkC c x
theorem xz.mono {c c' m m' :Nat} {cs:List Cls} (h:xz c m cs) (hc:c≤c') (hm:m≤m'):xz c' m' cs:=⟨h.1,Nat.le_trans h.2.1 hm,fun x hx=>⟨Nat.le_trans (h.2.2 x hx).1 hc,(h.2.2 x hx).2⟩⟩
theorem xz.at {c m:Nat} {cs:List Cls} (h:xz c m cs) (i:Nat):OkC c (cs.getD i z41):=by
  rw[List.getD_eq_getElem?_getD]
  by_cases hi:i<cs.length
  ·rw[List.getElem?_eq_getElem hi];exact h.2.2 _ (List.getElem_mem hi)
  ·rw[List.getElem?_eq_none (by omega)];exact⟨Nat.zero_le _,Few.nil⟩
theorem xz.small {c m:Nat} {cs:List Cls} (h:xz c m cs) (hc:c≤1048576) (hm:m≤1048576):vU cs:=by
  refine⟨Nat.le_trans h.2.1 hm,fun i hi=> ?_⟩
  have:=h.at i
  exact⟨Nat.le_trans this.1 hc,fun t ht=>by have:=this.2 t ht;omega⟩
theorem xz.set {c m:Nat} {cs:List Cls} (h:xz c m cs) (i:Nat) {x:Cls} (hx:OkC c x):xz c m (cs.set i x):=by
  refine⟨by rw[List.length_set];exact h.1,by rw[List.length_set];exact h.2.1,fun y hy=> ?_⟩
  rcases List.mem_or_eq_of_mem_set hy with h1|h1
  ·exact h.2.2 y h1
  ·rw[h1];exact hx
theorem xz.snoc {c m:Nat} {cs:List Cls} (h:xz c m cs) {x:Cls} (hx:OkC c x):xz c (m+1) (cs++ [x]):=by
  refine⟨by simp,by rw[List.length_append];have:=h.2.1;simp;omega,fun y hy=> ?_⟩
  rcases List.mem_append.1 hy with h1|h1
  ·exact h.2.2 y h1
  ·rw[List.mem_singleton.1 h1];exact hx
theorem Ld {bs:List Int} (h:Bytes bs) {p n:Int} (h0:0≤p) (h1:p≤100000000) (hn:1≤n) (hn2:n≤100):
    Evp (fun k=>ic.f k bs p n) (fun r=>1≤r.1∧r.1<8+n∧p≤r.2∧r.2≤p+2):=by
  unfold ic.f
  refine Evp.bind (iV h h0 (by omega) (by omega)) fun a ha=> ?_
  have key: ∀b:Bool,Evp (fun k=>ic.j0 k n a.1 b bs a.2) (fun r=>1≤r.1∧r.1<8+n∧p≤r.2∧r.2≤p+2):=by
    intro b
    refine Evp.step (f:=fun k=>_) (fun k=>by rw[ic.j0]) ?_
    refine Evp.ite (fun _=>Evp.pure _ (by dsimp only;omega)) (fun _=>Evp.ite (fun _=>Evp.pure _ (by dsimp only;omega)) (fun _=>Evp.ite (fun _=>Evp.pure _ (by dsimp only;omega)) (fun _=> ?_)))
    refine Evp.bind (iV h (by omega) (by omega) (by omega)) fun c hc=>Evp.pure _ ?_
    have:=hc.2.1 hn
    dsimp only
    rw[w64 (by omega) (by omega)]
    omega
  exact Evp.ite (fun _=>key _) (fun _=>key _)
theorem type_evp {bs:List Int} (h:Bytes bs) {p n:Int} (h0:0≤p) (h1:p≤50000000) (hn:1≤n) (hn2:n≤100):
    Evp (fun k=>wm.f k bs p n) (fun r=>(-1≤r.1∧r.1≤8+n)∧p≤r.2∧r.2≤p+4):=by
  unfold wm.f
  have fld: ∀q:Int,p≤q→q≤p+2→Evp (fun k=>(ic.f k bs q n).bind fun bt=>some (bt.1,bt.2)) (fun r=>(-1≤r.1∧r.1≤8+n)∧p≤r.2∧r.2≤p+4):=by
    intro q hq hq2
    refine Evp.bind (Ld h (by omega) (by omega) hn hn2) fun a ha=>Evp.pure _ ⟨⟨?_, ?_⟩, ?_, ?_⟩<;>dsimp only<;>omega
  refine Evp.bind (iV h h0 (by omega) (by omega)) fun a ha=> ?_
  have ha2:=ha.2.2
  refine Evp.ite (fun _=>Evp.pure _ ⟨⟨by dsimp only;omega,by dsimp only;omega⟩,by dsimp only;omega,by dsimp only;omega⟩) (fun _=> ?_)
  refine Evp.ite (fun _=>Evp.pure _ ⟨⟨by dsimp only;omega,by dsimp only;omega⟩,by dsimp only;omega,by dsimp only;omega⟩) (fun _=> ?_)
  refine Evp.ite (fun _=> ?_) (fun _=>fld _ (by omega) (by omega))
  refine Evp.bind (iV h (by omega) (by omega) (by omega)) fun b hb=> ?_
  have hb2:=hb.2.2
  refine Evp.ite (fun _=> ?_) (fun _=>fld _ (by omega) (by omega))
  simp only[Option.bind_some]
  refine Evp.bind (iV h (by omega) (by omega) (by omega)) fun c hc=> ?_
  have hc1:=hc.2.1 (by omega)
  refine Evp.yes hc.1 (Evp.yes (by simp;omega) (Evp.pure _ ⟨?_,by dsimp only;omega,by dsimp only;omega⟩))
  have:c.1=0∨c.1=1∨c.1=2∨c.1=3:=by omega
  rw[w64 (by omega) (by omega)]
  show -1≤rd [-1,5,7,8+n] c.1∧rd [-1,5,7,8+n] c.1≤8+n
  rcases this with e|e|e|e<;>rw[e]
  ·show(-1:Int)≤ -1∧(-1:Int)≤8+n;omega
  ·show(-1:Int)≤5∧(5:Int)≤8+n;omega
  ·show(-1:Int)≤7∧(7:Int)≤8+n;omega
  ·show(-1:Int)≤8+n∧(8:Int)+n≤8+n;omega
def Short (l:List Int):Prop:=l.length≤20∧Few l
theorem Short.i64 {l:List Int} (h:Short l):I64 l:=fun t ht=>by have:=h.2 t ht;omega
theorem Short.len {l:List Int} (h:Short l):l.length≤1048576:=Nat.le_trans h.1 (by decide)
theorem Few.app {l m:List Int} (h:Few l) (h' :Few m):Few (l++m):=by
  intro t ht
  rcases List.mem_append.1 ht with h1|h1
  ·exact h t h1
  ·exact h' t h1
theorem shape_evp {bs:List Int} (h:Bytes bs) {p n:Int} {m:Nat} (h0:0≤p) (h1:p≤10000000) (hn:1≤n) (hn2:n≤100) (hm:m≤10):
    Evp (fun k=>eD.f k bs p n (m:Int)) (fun r=>Short r.2.1∧Short r.2.2.1∧p≤r.2.2.2∧r.2.2.2≤p+100):=by
  unfold eD.f
  have one:Few [1]:=Few.nil.snoc (t:=1) (by decide) (by decide)
  have k1: ∀j:Nat,∀(b:Bool) (s t:List Int) (q:Int),j≤10→s.length≤10→Few s→t.length+j≤10→Few t→p≤q→q+5 * (j:Int)≤p+99→Evp (fun k=>eD.l1 k n (j:Int) bs q b s t) (fun r=>Short r.2.1∧Short r.2.2.1∧p≤r.2.2.2∧r.2.2.2≤p+100):=by
    intro j
    induction j with
    | zero=>
      intro b s t q hj hs fs ht ft hq hq2
      refine Evp.step (f:=fun k=>_) (fun k=>by rw[eD.l1]) (Evp.no (by omega) ?_)
      refine Evp.bind (iV h (by omega) (by omega) (by omega)) fun a ha=> ?_
      have ha2:=ha.2.2
      have hS:Short s:=⟨by omega,fs⟩
      have hT:Short t:=⟨by omega,ft⟩
      refine Evp.ite (fun _=> ?_) (fun _=>Evp.ite (fun _=>Evp.pure _ ⟨hS,hT,by dsimp only;omega,by dsimp only;omega⟩) (fun _=>Evp.ite (fun _=> ?_) (fun _=>Evp.ite (fun _=> ?_) (fun _=>Evp.pure _ ⟨hS,hT,by dsimp only;omega,by dsimp only;omega⟩))))
      · unfold sD.f
        simp only[Option.bind_some]
        exact Evp.pure _ ⟨⟨Nat.zero_le _,Few.nil⟩,⟨Nat.zero_le _,Few.nil⟩,by dsimp only;omega,by dsimp only;omega⟩
      ·exact Evp.yes (by omega) (Evp.pure _ ⟨⟨by simp;omega,fs.app one⟩,hT,by dsimp only;omega,by dsimp only;omega⟩)
      · simp only[Option.bind_some]
        refine Evp.yes (by simp;omega) (Evp.pure _ ⟨hS,⟨by simp;omega,ft.app ?_⟩,by dsimp only;omega,by dsimp only;omega⟩)
        exact(((one.snoc (t:=1) (by decide) (by decide)).snoc (t:=1) (by decide) (by decide)).snoc (t:=1) (by decide) (by decide))
    | succ j ih=>
      intro b s t q hj hs fs ht ft hq hq2
      refine Evp.step (f:=fun k=>_) (fun k=>by rw[eD.l1]) (Evp.yes (by omega) ?_)
      rw[show wrap64 (((j+1:Nat):Int) - 1)=(j:Int) by rw[w64 (by omega) (by omega)];omega]
      refine Evp.bind (type_evp h (by omega) (by omega) hn hn2) fun a ha=> ?_
      refine Evp.ite (fun _=> ?_) (fun _=> ?_)
      · refine Evp.bind (iV h (by omega) (by omega) (by omega)) fun c hc=> ?_
        have hc2:=hc.2.2
        refine Evp.ite (fun _=> ?_) (fun _=> ?_)
        ·exact Evp.yes (by omega) (ih b s (t++ [1]) c.2 (by omega) hs fs (by simp;omega) (ft.app one) (by omega) (by omega))
        ·exact Evp.yes (by omega) (ih b s (t++ [a.1]) c.2 (by omega) hs fs (by simp;omega) (ft.snoc (by omega) (by omega)) (by omega) (by omega))
      ·exact Evp.yes (by omega) (ih b s (t++ [a.1]) a.2 (by omega) hs fs (by simp;omega) (ft.snoc (by omega) (by omega)) (by omega) (by omega))
  have k0: ∀d i:Nat,i+d=m→∀(b:Bool) (s:List Int) (q:Int),s.length=i→Few s→p≤q→q+5 * (d:Int)≤p+50→Evp (fun k=>eD.l0 k n (m:Int) (i:Int) bs q b s) (fun r=>Short r.2.1∧Short r.2.2.1∧p≤r.2.2.2∧r.2.2.2≤p+100):=by
    intro d
    induction d with
    | zero=>
      intro i hi b s q hs fs hq hq2
      refine Evp.step (f:=fun k=>_) (fun k=>by rw[eD.l0]) (Evp.no (by omega) ?_)
      refine Evp.bind (iV h (by omega) (by omega) (by omega)) fun a ha=> ?_
      obtain⟨j,hj⟩: ∃j:Nat,a.1=(j:Int):=⟨a.1.toNat,by have:=ha.1;omega⟩
      have ha1:=ha.2.1 (by omega)
      rw[hj]
      exact k1 j b s [] a.2 (by omega) (by omega) fs (by simp;omega) Few.nil (by omega) (by omega)
    | succ d ih=>
      intro i hi b s q hs fs hq hq2
      refine Evp.step (f:=fun k=>_) (fun k=>by rw[eD.l0]) (Evp.yes (by omega) ?_)
      refine Evp.bind (type_evp h (by omega) (by omega) hn hn2) fun a ha=>Evp.yes (by omega) ?_
      rw[uV (n:=m) (by omega) (by omega)]
      exact ih (i+1) (by omega) b (s++ [a.1]) a.2 (by simp;omega) (fs.snoc (by omega) (by omega)) (by omega) (by omega)
  exact k0 m 0 (by omega) true [] p rfl Few.nil (by omega) (by omega)
end Go.Proofs.Ytojpejfcafbafaa.Kit
end
