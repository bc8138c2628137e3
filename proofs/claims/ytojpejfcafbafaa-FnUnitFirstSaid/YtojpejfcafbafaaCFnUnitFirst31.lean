/- A part of the claim FnUnitFirst. -/
import Derived.Test.YtojpejfcafbafaaCFnUnitFirst30
section
namespace Go.Proofs.Ytojpejfcafbafaa.V
open Go Go.RowKit Go.Proofs.Ytojpejfcafbafaa.P
set_option linter.unusedVariables false
set_option linter.unusedSimpArgs false
attribute [local simp ↓] eG eH fQ fT eO dM fZ eP eQ gm gp gq dN dO dP gB gz gG gF dQ bW dV cz dJ dR eT eU eX
attribute [local simp] fU fV dK bR eF dL bS bT bU bV bM bN dS eY dU bX bY bZ cu bO fD lM iL dz iw evl dI eZ fu kD iX List.range List.range.loop lT kX fo fB iC iA Bs.live Bs.get lN WkV WkA WkC lg lH kY lD cZ iM TEq.refl bg fH qQ aF aG aD aH aI aJ ei d9 splice dE Bs.set kU fC Rn.at gu gy iF iD lL chunks lC fP toT fE iE rowsOf cB ik plR plV plC lF lI lQ lh fI iR lU
attribute [local simp] List.length_pos_iff qR qU iG iH iI puts dh
attribute [local simp ←] ig
attribute [local simp] wu wL wO wN wM ksL ru ksV rV ksC ksT ren kr rO rH dw tZ uf ug qY qZ rf bsC wF bsV vJ uo uX uY uq ut uu uw sO sP sQ sS sU r9 sV fF dW dx iW iB iO iQ lS rG closedB iT kP kG kH kJ kL iJ kN
attribute [local simp] ag3 un3 sz3 in3 by3 ze3 ct3 zt3 zu3 ag4 un4 sz4 in4 by4 ze4 ct4 zt4 zu4 ag5 un5 sz5 in5 by5 ze5 ct5 zt5 zu5 mi mq mD mE mF mG mH mI mJ io3 mK io5 bo4 mM mO mP mQ mR mU mV mW mX mY mZ ng ni nk nu ny nz nA nC nD nE nG nH nI nJ nK nL nM nN nO nP nQ nR nS nT nU nV nW nX nY nZ oh ol om oo oq ou ow oz oC oD oF oG oH oI oJ oK oL oM oN oO oP oQ oU oV oW oZ o6 o7 o8 iZ ja jb jc jd je jf jg jh ji jk jl jm jo jq jr jv jw jy jA o9 pg pu pz pE pF pG pI pJ pK jB jC jD jE jF jG jH jI jJ jK jL jM jN jO jP jQ jR jS jT jU jV jW jX jY jZ kg ko mz gH gI gJ gK gL gN gP gQ gT gU gV gW gX gY gZ ib pO pQ pR pU pV pW pX pY p9 qa qb qc qd qf qg qh qi qj ql qm qo qp qw qx qy qz qA qB qC qD qE qF qG qH qI qJ qK qL qM qN qO qP mix
attribute [local simp] eb eC eI eS eK eM nm
theorem vB.mono {N M:Nat} {l:List Int} (h:vB N l) (hn:N≤M):vB M l:=⟨Nat.le_trans h.1 hn,h.2⟩
theorem kC.mono {N M:Nat} {c:S41} (h:kC N c) (hn:N≤M):kC M c:=⟨h.1,vB.mono h.2 hn⟩
theorem kM.mono {N M:Nat} {m:S35} (h:kM N m) (hn:N≤M):kM M m:=
  ⟨h.a0,h.a1,vB.mono h.a2 hn,h.a3,h.a4,⟨Nat.le_trans h.a5.1 hn,h.a5.2⟩,⟨Nat.le_trans h.a6.1 hn,fun v hv=>⟨vB.mono (h.a6.2 v hv).1 hn,vB.mono (h.a6.2 v hv).2 hn⟩⟩,⟨Nat.le_trans h.a7.1 hn,h.a7.2⟩⟩
structure UIn (cs:List S41) (ms:List S35):Prop where
  c1:1≤cs.length
  c2:cs.length≤20
  ck: ∀c∈cs,kC 20 c
  m1:1≤ms.length
  m2:ms.length≤20
  mm: ∀m∈ms,kM 900 m∧1≤m.f5.length∧m.f6.length=m.f5.length∧0≤m.f4∧m.f4≤10∧∀x∈m.f5, -100000≤x.f1∧x.f1≤100000
structure UOut (n:Nat) (cs:List S41) (ms:List S35):Prop where
  c1:1≤cs.length
  c2:cs.length≤20
  ck: ∀c∈cs,kC 1000 c
  m1:ms.length=n
  mm: ∀m∈ms,kM 1000 m
abbrev wes:List Nat:= [67,69,73,3]
def MQ (bs:List Int) (p:Int) (n:Nat) (r:V) (B' :Bs):Prop:= ∃B0,B' =B0++lJ wes∧ExR (fun(a:Int×List S41×List S35)=>p≤a.1∧a.1≤p+300∧UOut n a.2.1 a.2.2) (fun a=> .agg [.t (tC a.2.1), .own 1 8 a.2.2.length]) (fun a=> [(0,some (rdB bs a.1)),(1,some (.row 35 8 a.2.2.length (fl z35 eM a.2.2)))]) r B0
theorem u7 {bs:List Int} {p p' :Int} {ms:List S35} {cs:List S41} {f:Nat→List T} {B:Bs} (h1:p≤p') (h2:p' ≤p+300) (h3:1≤cs.length) (h4:cs.length≤20) (hc: ∀c∈cs,kC 1000 c) (hf: ∀j,j<ms.length→rowOk (pM 1000) (f j)) (hB0:B.live 0=some (rdB bs p')) (hB1:B.live 1=some (.row 35 8 ms.length f)):
    yl [(0,some (rdB bs p)),(1,some (.row 35 8 ms.length (fl z35 eM ms))),(1000000067,none),(1000000069,none),(1000000073,none),(1000000003,none)] (MQ bs p ms.length) (.agg [.t (tC cs), .own 1 8 ms.length]) B:=by
  obtain⟨ms',e1,e2,e3⟩:=yS (d:=z35) (en:=eM) Mj hf
  have q0:(B.get 0).join=some (rdB bs p'):=hB0
  have q1:(B.get 1).join=some (.row 35 8 ms.length f):=hB1
  refine⟨_,_,rJ (r:= [(0,0),(1,1)]) (B' := [(0,some (rdB bs p')),(1,some (.row 35 8 ms'.length (fl z35 eM ms')))]++lJ wes) (ts' := [.agg [.t (tC cs), .own 1 8 ms'.length]]) ?_, [(0,some (rdB bs p')),(1,some (.row 35 8 ms'.length (fl z35 eM ms')))],rfl,(p',cs,ms'),⟨h1,h2,⟨h3,h4,hc,e1,e3⟩⟩,rfl,rfl⟩
  constructor<;>simp -implicitDefEqProofs [q0,q1,e1,lJ,sG]
  exact e2
theorem Np {x:T} {e sz n e' sz' n' :Nat} {f g:Nat→List T} (h:TEq x (.sl e' sz' n' g)) (hx:x= .sl e sz n f):n' =n:=by
  cases h with
  |refl=>cases hx;rfl
  |sl=>cases hx;rfl
theorem N8 {e:Nat} {Y:T→T→Prop} {x:T} {e1 sz n e' sz' n' :Nat} {f g:Nat→List T} (h:Hv e Y (.sl e1 sz n f) x) (h2:TEq x (.sl e' sz' n' g)):n' =n:=by
  cases h with
  |sl _ _ _ _ g' _ _=>exact Np h2 rfl
theorem xW {e:Nat} {Y:T→T→Prop} (hw:Wok 1000 e Y) {bs:List Int} {p:Int} {ms:List S35} {cs:List S41} {m:S35} {n:Nat} (hc: ∀c∈cs,kC 1000 c) (hl:cs.length≤1000) (hms: ∀m∈ms,kM 1000 m) (hm:kM 1000 m) {L B' :Bs}
    (h:ze e Y ((0,some (rdB bs p))::(1,some (.row 35 8 ms.length (fl z35 eM ms)))::(1000000067,none)::(1000000069,none)::(1000000073,none)::(1000000003,none)::(103,some (.box 26 [.t (tC cs), .own 1 8 n]))::(104,some (.box 26 [.nil, .nil]))::(106,some (.box 35 [.t (.i m.f0), .t (.i m.f1), .t (.ints m.f2), .t (.i m.f3), .t (.i m.f4), .t (tI m.f5), .t (tS m.f6), .t (tK m.f7)]))::L) B'):
    ∃ x1 g x2 y0 y1 y2 y3 y4 y5 y6 y7 L',B' =((0,some (.box 58 [.t x1, .t (.i p)]))::(1,some (.row 35 8 ms.length g))::(1000000067,none)::(1000000069,none)::(1000000073,none)::(1000000003,none)::(103,some (.box 26 [.t x2, .own 1 8 n]))::(104,some (.box 26 [.nil, .nil]))::(106,some (.box 35 [.t y0, .t y1, .t y2, .t y3, .t y4, .t y5, .t y6, .t y7]))::L')∧ze e Y L L' ∧
      TEq x1 (.sl 5 1 bs.length (fl 0 eb bs))∧(∃ms',vR ms.length g (fl z35 eM ms')∧ms'.length=ms.length∧∀m∈ms',kM 1000 m)∧(∃cs',TEq x2 (tC cs')∧cs'.length=cs.length∧∀c∈cs',kC 1000 c)∧
      ∃m',kM 1000 m' ∧TEq y0 (.i m'.f0)∧TEq y1 (.i m'.f1)∧TEq y2 (.ints m'.f2)∧TEq y3 (.i m'.f3)∧TEq y4 (.i m'.f4)∧TEq y5 (tI m'.f5)∧TEq y6 (tS m'.f6)∧TEq y7 (tK m'.f7):=by
  obtain⟨b0,_,rfl,h0,h⟩:=sI h
  obtain⟨b1,_,rfl,h1,h⟩:=sI h
  obtain⟨w1,_,rfl,e1,h⟩:=sI h
  obtain⟨w2,_,rfl,e2,h⟩:=sI h
  obtain⟨w3,_,rfl,e3,h⟩:=sI h
  obtain⟨w4,_,rfl,e4,h⟩:=sI h
  obtain⟨b3,_,rfl,h3,h⟩:=sI h
  obtain⟨b4,_,rfl,h4,h⟩:=sI h
  obtain⟨b6,L',rfl,h6,hL⟩:=sI h
  have:=zM e1;subst this
  have:=zM e2;subst this
  have:=zM e3;subst this
  have:=zM e4;subst this
  obtain⟨x1,rfl,hx1⟩:=Lb hw.u h0
  obtain⟨g,ms',rfl,g1,g2,g3⟩:=NZ hw hms h1
  obtain⟨c3,rfl,h31⟩:=yF h3
  obtain⟨d3,rfl,h32⟩:=De h31
  obtain⟨y,_,rfl,a,d⟩:=yU h32
  obtain⟨x2,rfl,h5⟩:=JX a
  obtain⟨y,_,rfl,h7,j⟩:=yU d
  have:=EW h7 rfl;subst this
  have:=Eh j;subst this
  obtain⟨c4,rfl,k⟩:=yF h4
  obtain⟨d4,rfl,o⟩:=De k
  have:=FP o rfl;subst this
  obtain⟨ys,m',rfl,k1,k2⟩:=Oy hw hm h6
  obtain⟨cs',j1,j2,j3⟩:=Ot (Ox hw _ _ (Ou hl hc) h5)
  have j4:cs'.length=cs.length:=N8 h5 j1
  have hlen:ys.length=8:=k2.1
  obtain⟨y0,y1,y2,y3,y4,y5,y6,y7,rfl⟩: ∃y0 y1 y2 y3 y4 y5 y6 y7,ys= [y0,y1,y2,y3,y4,y5,y6,y7]:=by
    match ys,hlen with
    | [y0,y1,y2,y3,y4,y5,y6,y7],_=>exact⟨y0,y1,y2,y3,y4,y5,y6,y7,rfl⟩
  exact⟨x1,g,x2,y0,y1,y2,y3,y4,y5,y6,y7,L',rfl,hL,hx1,⟨ms',g1,g2,g3⟩,⟨cs',j1,j4,j3⟩,m',k1,k2.2 0 _ _ rfl rfl,k2.2 1 _ _ rfl rfl,k2.2 2 _ _ rfl rfl,k2.2 3 _ _ rfl rfl,k2.2 4 _ _ rfl rfl,k2.2 5 _ _ rfl rfl,k2.2 6 _ _ rfl rfl,k2.2 7 _ _ rfl rfl⟩
theorem BR {N:Nat} {a b c d e f g h:T} (ha:IsI a) (hb:IsI b) (hc:xm N c) (hd:IsI d) (he:IsI e) (hf:EU N f) (hg:Ib N g) (hh:Ia N h):rowOk (pM N) [a,b,c,d,e,f,g,h]:=by
  simp only[rq,rP]
  exact⟨_,_,rfl,ha,_,_,rfl,hb,_,_,rfl,hc,_,_,rfl,hd,_,_,rfl,he,_,_,rfl,hf,_,_,rfl,hg,_,_,rfl,hh,rfl⟩
theorem OA {N:Nat} {v:S69} (h:kS N v):rowOk (pS N) [.b v.f0, .ints v.f1, .ints v.f2]:=by
  simp only[rq,rP]
  exact⟨_,_,rfl,⟨_,rfl⟩,_,_,rfl,tH h.1,_,_,rfl,tH h.2,rfl⟩
theorem Ih {l:List Int} (h:Kit.Short l):vB 1000 l:=⟨Nat.le_trans h.1 (by decide),fun t ht=>by have:=h.2 t ht;exact⟨by omega,by omega⟩⟩
theorem OB {b:Bool} {l1 l2:List Int} (h1:vB 1000 l1) (h2:vB 1000 l2):Wok 1000 69 (Yst [.b b, .ints l1, .ints l2]):=by
  refine⟨fun e=>absurd e (by decide),fun e=>absurd e (by decide),fun e=>absurd e (by decide),fun _ p hp x y hx hy=> ?_,by decide,by decide,by decide⟩
  obtain⟨hy,ht⟩:=hy
  simp only[List.mem_cons,List.not_mem_nil,or_false]at hp hy
  have isb:IsB x→IsB y:=by
    rintro⟨v,rfl⟩
    rcases hy with rfl|rfl|rfl
    ·exact⟨_,rfl⟩
    ·cases ht
    ·cases ht
  have isl:xm 1000 x→xm 1000 y:=by
    rintro⟨n,f,rfl,_⟩
    rcases hy with rfl|rfl|rfl
    ·cases ht
    ·exact tH h1
    ·exact tH h2
  rcases hp with rfl|rfl|rfl
  ·exact isb hx
  ·exact isl hx
  ·exact isl hx
theorem N9 (v:S73) (hv:kK v):rowOk [IsI,IsI,IsI,IsI] (eK v):=by
  simp only[eK,rq,rP];exact⟨_,_,rfl,⟨_,rfl,hv.1⟩,_,_,rfl,⟨_,rfl,hv.2.1⟩,_,_,rfl,⟨_,rfl,hv.2.2.1⟩,_,_,rfl,⟨_,rfl,hv.2.2.2⟩,rfl⟩
theorem Oa (v:Int) (hv:Rng v):rowOk [IsI] (ei v):=by
  simp only[ei,rq,rP];exact⟨_,_,rfl,⟨_,rfl,hv⟩,rfl⟩
theorem OC {m:Nat} {fx:Nat→List T} (h: ∀j,j<m→∀y∈fx j,IsI y):Wok 1000 3 (Yap m fx):=by
  refine⟨fun _ p hp x y hx hy=> ?_,fun e=>absurd e (by decide),fun e=>absurd e (by decide),fun e=>absurd e (by decide),by decide,by decide,by decide⟩
  have hp' :p=IsI:=by simpa using hp
  subst hp'
  obtain⟨j,hj,hy⟩:=hy
  exact h j hj y hy
theorem OD {m:Nat} {fx:Nat→List T} (h: ∀j,j<m→∀y∈fx j,IsI y):Wok 1000 73 (Yap m fx):=by
  refine⟨fun e=>absurd e (by decide),fun e=>absurd e (by decide),fun _ p hp x y hx hy=> ?_,fun e=>absurd e (by decide),by decide,by decide,by decide⟩
  have hp' :p=IsI:=by simpa using hp
  subst hp'
  obtain⟨j,hj,hy⟩:=hy
  exact h j hj y hy
theorem Ii {e:Nat} {m:Nat} {fx:Nat→List T} {ps:List (T→Prop)} {xs ys:List T} (hr:rowOk ps xs) (hfx: ∀j,j<m→∀y∈fx j,IsI y) (hl:xs.length=ys.length) (hp: ∀p∈ps,p=IsI) (h: ∀(o:Nat) (x y:T),xs[o]? =some x→ys[o]? =some y→Hv e (Yap m fx) x y∨Yap m fx x y):rowOk ps ys:=by
  refine⟨by rw[←hl];exact hr.1,fun o p y hpo hy=> ?_⟩
  obtain⟨x,hx⟩:=Ba hl hy
  have hpx:=hr.2 o p x hpo hx
  have:=hp p (List.mem_of_getElem? hpo)
  subst this
  rcases h o x y hx hy with h1|⟨j,hj,h1⟩
  ·exact ym x y hpx h1
  ·exact hfx j hj y h1
theorem J7 {v:Int} (h:Rng v):Wok 1000 67 (Yst [.i v]):=by
  refine⟨fun e=>absurd e (by decide),fun _ p hp x y hx hy=> ?_,fun e=>absurd e (by decide),fun e=>absurd e (by decide),by decide,by decide,by decide⟩
  have hp' :p=IsI:=by simpa using hp
  subst hp'
  have:=List.mem_singleton.1 hy.1
  subst this;exact⟨v,rfl,h⟩
set_option maxRecDepth 20000 in
set_option maxHeartbeats 4000000 in
theorem Nq (bs:List Int) (p:Int) (cs:List S41) (ms:List S35) (hb:zf bs) (h0:0≤p) (h1:p+300≤10000000) (hu:UIn cs ms):
    Ct Try.prog 19 [.c (.ptr 0 0 0), .agg [.t (tC cs), .own 1 8 ms.length]] ([(0,some (rdB bs p)),(1,some (.row 35 8 ms.length (fl z35 eM ms)))]++lJ wes) (MQ bs p ms.length):=by
  obtain⟨c1,c2,ck,m1,m2,mm⟩:=hu
  refine bF Try.func19 rfl rfl rfl ?_
  simp -implicitDefEqProofs (maxSteps:=2000000) [lJ,sG]
  refine rQ _ _ _ _ rfl rfl rfl ⟨hb,by omega,by omega⟩ (fun k p1 _ hk hp1 hp1' => ?_) (by omega)
  simp -implicitDefEqProofs (maxSteps:=2000000)
  refine⟨by omega, ?_⟩
  have hkk:k.toNat<ms.length:=by omega
  have hmem:gd z35 ms k.toNat∈ms:=by
    show ms.getD _ _∈ms
    rw[List.getD_eq_getElem?_getD,List.getElem?_eq_getElem hkk];exact List.getElem_mem hkk
  obtain⟨hg,hg1,hg2,hg3,hg4,hg5⟩:=mm _ hmem
  generalize gd z35 ms k.toNat=m at *
  refine rQ _ _ _ _ rfl rfl rfl ⟨hb,by omega,by omega⟩ (fun at_ p2 _ hat hp2 hp2' => ?_) (by omega)
  simp -implicitDefEqProofs (maxSteps:=2000000)
  refine rQ _ _ _ _ rfl rfl rfl ⟨hb,by omega,by omega⟩ (fun y p3 _ hy hp3 hp3' => ?_) (by omega)
  simp -implicitDefEqProofs (maxSteps:=2000000)
  have hck: ∀c∈cs,kC 1000 c:=fun c hc=>(ck c hc).mono (by decide)
  have hmm' : ∀x∈ms,kM 1000 x:=fun x hx=>(mm x hx).1.mono (by decide)
  have hgm:kM 1000 m:=hg.mono (by decide)
  by_cases hy0:y=0
  · subst hy0
    simp -implicitDefEqProofs (maxSteps:=2000000)
    refine yE (by decide) [[], [0], [], [], [3], [], [4,5,3], [6,4,5,3], [7,6,4,5,3], [], [9], [8,10,7,6,4,5,3,9], [11,8,10,7,6,4,5,3,9], [1,2,0,3,4,5,6,7,8,9,10,11,12], [13,0,1,2,3,4,5,6,7,8,9,10,11,12], [14,12,10,0,1,2,3,4,5,6,7,8,9,11,13]] [30,31,32,33,34,35,36,37,38,39,40,41,42,43,44,0] [0,1,2,3,4,5,6,7,8,9,10,11,12,13,14] [] 15 [] (by kernel_rfl) (by kernel_rfl) (by kernel_rfl) (by kernel_rfl) (by kernel_rfl) rfl rfl ?_
    simp -implicitDefEqProofs (maxSteps:=2000000) [aj,ah,ae,ai,ak,au,af,Op.operands,Call.operands,rM]
    refine⟨by omega, ?_⟩
    refine vS _ _ _ _ rfl rfl rfl ⟨hb,by omega,by omega⟩ rfl (fun z p4 _ hz q hp4' => ?_) (by omega)
    simp -implicitDefEqProofs (maxSteps:=2000000) [aj,ah,ae,ai,ak,au,af,Op.operands,Call.operands]
    refine⟨by omega, ?_⟩
    refine Aq (e:=67) (ys:= [.i (wrap64 (wrap64 ((gd z67 m.f5 at_.toNat).f1+z) - 2))]) rfl rfl rfl rfl ?_ ?_ ?_ ?_ ?_ ?_ ?_ ?_ ?_ ?_
    all_goals try(simp -implicitDefEqProofs (maxSteps:=2000000) [ownTys];done)
    · intro i x y hx hy
      rcases i with _|i
      ·simp at hx hy;subst hx;subst hy;rfl
      ·simp at hy
    · intro y hy
      have:=List.mem_singleton.1 hy
      subst this;exact .s _
    ·simp[sG]
    ·rfl
    intro ts' B' hts hB
    have hx5:=hg5 (gd z67 m.f5 at_.toNat) (by
      show m.f5.getD _ _∈m.f5
      rw[List.getD_eq_getElem?_getD,List.getElem?_eq_getElem (by omega)];exact List.getElem_mem _)
    obtain⟨x1,g,x2,y0,y1,y2,y3,y4,y5,y6,y7,L',rfl,hL,hx1,⟨ms',k1,k2,k3⟩,⟨cs',j1,j2,j3⟩,m',i8,i0,i1,i2,i3,i4,i5,i6,i7⟩:=xW (J7 (v:=_) (by unfold wrap64;constructor<;>omega)) hck (by omega) hmm' hgm hB
    have:=xO hL
    subst this
    refine Dg hts [true,false,false,true,true,true,true] rfl [] [(0,some (rdB bs p4)),(1,some (.row 35 8 ms.length (fl z35 eM ms'))),(103,some (.box 26 [.t (tC cs'), .own 1 8 ms.length])),(106,some (.box 35 [.t (.i m'.f0), .t (.i m'.f1), .t (.ints m'.f2), .t (.i m'.f3), .t (.i m'.f4), .t (tI m'.f5), .t (tS m'.f6), .t (tK m'.f7)]))] ?_ ?_
    ·constructor<;>simp -implicitDefEqProofs [idR, *]
    simp -implicitDefEqProofs (maxSteps:=2000000) [xN,rM]
    exact⟨by omega,u7 (by omega) (by omega) (by omega) (by omega) j3 (uH (fun j hj=>tX wG k3 (by omega)) (wG m' i8)) rfl rfl⟩
  by_cases hy1:y=1
  · subst hy1
    simp -implicitDefEqProofs (maxSteps:=2000000)
    refine yE (by decide) [[], [0], [], [], [3], [4,3], [1,2,0,3,4,5], [6,0,1,2,3,4,5], [7,5,4,0,1,2,3,6]] [47,48,49,50,51,52,53,54,0] [0,1,2,3,4,5,6,7] [] 8 [] (by kernel_rfl) (by kernel_rfl) (by kernel_rfl) (by kernel_rfl) (by kernel_rfl) rfl rfl ?_
    simp -implicitDefEqProofs (maxSteps:=2000000) [aj,ah,ae,ai,ak,au,af,Op.operands,Call.operands,rM]
    refine vS _ _ _ _ rfl rfl rfl ⟨hb,by omega,by omega⟩ rfl (fun z p4 _ hz q hp4' => ?_) (by omega)
    simp -implicitDefEqProofs (maxSteps:=2000000) [aj,ah,ae,ai,ak,au,af,Op.operands,Call.operands]
    refine⟨by omega, ?_⟩
    refine Aq (e:=67) (ys:= [.i (wrap64 (z - 1))]) rfl rfl rfl rfl ?_ ?_ ?_ ?_ ?_ ?_ ?_ ?_ ?_ ?_
    all_goals try(simp -implicitDefEqProofs (maxSteps:=2000000) [ownTys];done)
    · intro i x y hx hy
      rcases i with _|i
      ·simp at hx hy;subst hx;subst hy;rfl
      ·simp at hy
    · intro y hy
      have:=List.mem_singleton.1 hy
      subst this;exact .s _
    ·simp[sG]
    ·rfl
    intro ts' B' hts hB
    have hx5:=hg5 (gd z67 m.f5 at_.toNat) (by
      show m.f5.getD _ _∈m.f5
      rw[List.getD_eq_getElem?_getD,List.getElem?_eq_getElem (by omega)];exact List.getElem_mem _)
    obtain⟨x1,g,x2,y0,y1,y2,y3,y4,y5,y6,y7,L',rfl,hL,hx1,⟨ms',k1,k2,k3⟩,⟨cs',j1,j2,j3⟩,m',i8,i0,i1,i2,i3,i4,i5,i6,i7⟩:=xW (J7 (v:=_) (by unfold wrap64;constructor<;>omega)) hck (by omega) hmm' hgm hB
    have:=xO hL
    subst this
    refine Dg hts [true,false,false,true,true,true,true] rfl [] [(0,some (rdB bs p4)),(1,some (.row 35 8 ms.length (fl z35 eM ms'))),(103,some (.box 26 [.t (tC cs'), .own 1 8 ms.length])),(106,some (.box 35 [.t (.i m'.f0), .t (.i m'.f1), .t (.ints m'.f2), .t (.i m'.f3), .t (.i m'.f4), .t (tI m'.f5), .t (tS m'.f6), .t (tK m'.f7)]))] ?_ ?_
    ·constructor<;>simp -implicitDefEqProofs [idR, *]
    simp -implicitDefEqProofs (maxSteps:=2000000) [xN,rM]
    exact⟨by omega,u7 (by omega) (by omega) (by omega) (by omega) j3 (uH (fun j hj=>tX wG k3 (by omega)) (wG m' i8)) rfl rfl⟩
  by_cases hy2:y=2
  · subst hy2
    simp -implicitDefEqProofs (maxSteps:=2000000)
    refine yE (by decide) [[], [0], [], [], [3], [1,2,0,3,4], [5,0,1,2,3,4], [6,4,0,1,2,3,5]] [57,58,59,60,61,62,63,0] [0,1,2,3,4,5,6] [] 7 [] (by kernel_rfl) (by kernel_rfl) (by kernel_rfl) (by kernel_rfl) (by kernel_rfl) rfl rfl ?_
    simp -implicitDefEqProofs (maxSteps:=2000000) [aj,ah,ae,ai,ak,au,af,Op.operands,Call.operands,rM]
    refine vS _ _ _ _ rfl rfl rfl ⟨hb,by omega,by omega⟩ rfl (fun z p4 _ hz q hp4' => ?_) (by omega)
    simp -implicitDefEqProofs (maxSteps:=2000000) [aj,ah,ae,ai,ak,au,af,Op.operands,Call.operands]
    refine⟨by omega, ?_⟩
    refine Aq (e:=67) (ys:= [.i z]) rfl rfl rfl rfl ?_ ?_ ?_ ?_ ?_ ?_ ?_ ?_ ?_ ?_
    all_goals try(simp -implicitDefEqProofs (maxSteps:=2000000) [ownTys];done)
    · intro i x y hx hy
      rcases i with _|i
      ·simp at hx hy;subst hx;subst hy;rfl
      ·simp at hy
    · intro y hy
      have:=List.mem_singleton.1 hy
      subst this;exact .s _
    ·simp[sG]
    ·rfl
    intro ts' B' hts hB
    have hx5:=hg5 (gd z67 m.f5 at_.toNat) (by
      show m.f5.getD _ _∈m.f5
      rw[List.getD_eq_getElem?_getD,List.getElem?_eq_getElem (by omega)];exact List.getElem_mem _)
    obtain⟨x1,g,x2,y0,y1,y2,y3,y4,y5,y6,y7,L',rfl,hL,hx1,⟨ms',k1,k2,k3⟩,⟨cs',j1,j2,j3⟩,m',i8,i0,i1,i2,i3,i4,i5,i6,i7⟩:=xW (J7 (v:=_) (by constructor<;>omega)) hck (by omega) hmm' hgm hB
    have:=xO hL
    subst this
    refine Dg hts [true,false,false,true,true,true,true] rfl [] [(0,some (rdB bs p4)),(1,some (.row 35 8 ms.length (fl z35 eM ms'))),(103,some (.box 26 [.t (tC cs'), .own 1 8 ms.length])),(106,some (.box 35 [.t (.i m'.f0), .t (.i m'.f1), .t (.ints m'.f2), .t (.i m'.f3), .t (.i m'.f4), .t (tI m'.f5), .t (tS m'.f6), .t (tK m'.f7)]))] ?_ ?_
    ·constructor<;>simp -implicitDefEqProofs [idR, *]
    simp -implicitDefEqProofs (maxSteps:=2000000) [xN,rM]
    exact⟨by omega,u7 (by omega) (by omega) (by omega) (by omega) j3 (uH (fun j hj=>tX wG k3 (by omega)) (wG m' i8)) rfl rfl⟩
  by_cases w:y=5
  · subst w
    simp -implicitDefEqProofs (maxSteps:=2000000)
    refine rQ _ _ _ _ rfl rfl rfl ⟨hb,by omega,by omega⟩ (fun z p4 _ hz q hp4' => ?_) (by omega)
    simp -implicitDefEqProofs (maxSteps:=2000000)
    exact⟨by omega,u7 (by omega) (by omega) (by omega) (by omega) hck (uH (fun j hj=>tX wG hmm' hj) (BR ⟨_,rfl,hgm.a0⟩ ⟨_,rfl,hgm.a1⟩ (tH hgm.a2) ⟨_,rfl,hgm.a3⟩ ⟨_,rfl,by omega,by omega⟩ (yT hgm.a5.1 hgm.a5.2) (BO hgm.a6.1 hgm.a6.2) (AA hgm.a7.1 hgm.a7.2))) rfl rfl⟩
  by_cases A:y=8
  · subst A
    simp -implicitDefEqProofs (maxSteps:=2000000)
    refine rQ _ _ _ _ rfl rfl rfl ⟨hb,by omega,by omega⟩ (fun z p4 _ hz q hp4' => ?_) (by omega)
    simp -implicitDefEqProofs (maxSteps:=2000000)
    have wz:wrap64 (z - 2)=z - 2:=by unfold wrap64;omega
    rw[wz]
    exact⟨by omega,u7 (by omega) (by omega) (by omega) (by omega) hck (uH (fun j hj=>tX wG hmm' hj) (BR ⟨_,rfl,by omega,by omega⟩ ⟨_,rfl,hgm.a1⟩ (tH hgm.a2) ⟨_,rfl,hgm.a3⟩ ⟨_,rfl,hgm.a4⟩ (yT hgm.a5.1 hgm.a5.2) (BO hgm.a6.1 hgm.a6.2) (AA hgm.a7.1 hgm.a7.2))) rfl rfl⟩
  by_cases B:y=9
  · subst B
    simp -implicitDefEqProofs (maxSteps:=2000000)
    refine rQ _ _ _ _ rfl rfl rfl ⟨hb,by omega,by omega⟩ (fun z p4 _ hz q hp4' => ?_) (by omega)
    simp -implicitDefEqProofs (maxSteps:=2000000)
    exact⟨by omega,u7 (by omega) (by omega) (by omega) (by omega) hck (uH (fun j hj=>tX wG hmm' hj) (BR ⟨_,rfl,hgm.a0⟩ ⟨_,rfl,by omega,by omega⟩ (tH hgm.a2) ⟨_,rfl,hgm.a3⟩ ⟨_,rfl,hgm.a4⟩ (yT hgm.a5.1 hgm.a5.2) (BO hgm.a6.1 hgm.a6.2) (AA hgm.a7.1 hgm.a7.2))) rfl rfl⟩
  by_cases hy4:y=4
  · subst hy4
    simp -implicitDefEqProofs (maxSteps:=2000000)
    exact⟨by omega,by omega,u7 (by omega) (by omega) (by omega) (by omega) hck (uH (fun j hj=>tX wG hmm' hj) (BR ⟨_,rfl,hgm.a0⟩ ⟨_,rfl,hgm.a1⟩ (tH hgm.a2) ⟨_,rfl,hgm.a3⟩ ⟨_,rfl,hgm.a4⟩ (yT hgm.a5.1 hgm.a5.2) ⟨_,_,rfl,by have:=hgm.a6.1;omega,fun j hj=>OA (hgm.a6.2 (gd z69 m.f6 (j+1)) (by
      show m.f6.getD _ _∈m.f6
      rw[List.getD_eq_getElem?_getD,List.getElem?_eq_getElem (by omega)];exact List.getElem_mem _))⟩ (AA hgm.a7.1 hgm.a7.2))) rfl rfl⟩
  by_cases D:y=6
  · subst D
    simp -implicitDefEqProofs (maxSteps:=2000000)
    obtain⟨⟨t,p4⟩,hev,ht⟩:=Kit.type_evp (bs:=bs) ⟨hb.2,fun x hx=>⟨(hb.1 x hx).1,by have:=(hb.1 x hx).2;omega⟩⟩ (p:=p3) (n:=(cs.length:Int)) (by omega) (by omega) (by omega) (by omega)
    obtain⟨kk,hx⟩:=hev.rounds
    have ht1: -1≤t:=ht.1.1
    have ht2:t≤8+cs.length:=ht.1.2
    have ht3:p3≤p4:=ht.2.1
    have r:p4≤p3+4:=ht.2.2
    refine aC (tQ (h:=hx)) rfl rfl rfl ?_ ?_ ?_ ?_
    ·simp
    ·simp
    ·constructor<;>simp
    simp -implicitDefEqProofs (maxSteps:=2000000)
    exact⟨by omega,u7 (by omega) (by omega) (by omega) (by omega) hck (uH (fun j hj=>tX wG hmm' hj) (BR ⟨_,rfl,hgm.a0⟩ ⟨_,rfl,hgm.a1⟩ (tH hgm.a2) ⟨_,rfl,by omega,by omega⟩ ⟨_,rfl,hgm.a4⟩ (yT hgm.a5.1 hgm.a5.2) (BO hgm.a6.1 hgm.a6.2) (AA hgm.a7.1 hgm.a7.2))) rfl rfl⟩
  by_cases hy3:y=3
  · subst hy3
    simp -implicitDefEqProofs (maxSteps:=2000000)
    refine yE (by decide) [[], [0], [], [], [], [4], [5,4], [], [7], [3,6,8,5,4,7], [1,2,0,3,4,5,6,7,8,9], [10,9,0,1,2,3,4,5,6,7,8]] [66,67,68,69,70,71,72,73,74,75,76,0] [0,1,2,3,4,5,6,7,8,9,10] [] 11 [] (by kernel_rfl) (by kernel_rfl) (by kernel_rfl) (by kernel_rfl) (by kernel_rfl) rfl rfl ?_
    simp -implicitDefEqProofs (maxSteps:=2000000) [aj,ah,ae,ai,ak,au,af,Op.operands,Call.operands,rM]
    obtain⟨⟨bb,l1,l2,p4⟩,hev,ht1,ht2,ht3,r⟩:=Kit.shape_evp (bs:=bs) ⟨hb.2,fun x hx=>⟨(hb.1 x hx).1,by have:=(hb.1 x hx).2;omega⟩⟩ (p:=p3) (n:=(cs.length:Int)) (m:=m.f4.toNat) (by omega) (by omega) (by omega) (by omega) (by omega)
    obtain⟨kk,hx⟩:=hev.rounds
    have e4:((m.f4.toNat:Nat):Int)=m.f4:=by omega
    rw[e4]at hx
    have ht3:p3≤p4:=ht3
    have r:p4≤p3+100:=r
    have q1:vB 1000 l1:=Ih ht1
    have q2:vB 1000 l2:=Ih ht2
    refine bI (DX (h:=hx)) rfl rfl rfl ?_ ?_ ?_ rfl ?_
    ·simp
    ·simp
    ·constructor<;>simp
    simp -implicitDefEqProofs (maxSteps:=2000000) [aj,ah,ae,ai,ak,au,af,Op.operands,Call.operands,rM]
    refine⟨by omega, ?_⟩
    refine Aq (e:=69) (ys:= [.b bb, .ints l1, .ints l2]) rfl rfl rfl rfl ?_ ?_ ?_ ?_ ?_ ?_ ?_ ?_ ?_ ?_
    all_goals try(simp -implicitDefEqProofs (maxSteps:=2000000) [ownTys];done)
    · intro i x y hx hy
      rcases i with _|_|_|i
      ·simp at hx hy;subst hx;subst hy;rfl
      ·simp at hx hy;subst hx;subst hy;rfl
      ·simp at hx hy;subst hx;subst hy;rfl
      ·simp at hy
    · intro y hy
      simp only[List.mem_cons,List.not_mem_nil,or_false]at hy
      rcases hy with rfl|rfl|rfl
      ·exact .s _
      ·exact vT (by decide)
      ·exact vT (by decide)
    ·simp[sG]
    ·rfl
    intro ts' B' hts hB
    obtain⟨x1,g0,x2,y0,y1,y2,y3,y4,y5,y6,y7,L',rfl,hL,hx1,⟨ms',k1,k2,k3⟩,⟨cs',j1,j2,j3⟩,m',i8,i0,i1,i2,i3,i4,i5,i6,i7⟩:=xW (OB q1 q2) hck (by omega) hmm' hgm hB
    have:=xO hL
    subst this
    refine Dg hts [true,false,false,true,true,true,true] rfl [] [(0,some (rdB bs p4)),(1,some (.row 35 8 ms.length (fl z35 eM ms'))),(103,some (.box 26 [.t (tC cs'), .own 1 8 ms.length])),(106,some (.box 35 [.t (.i m'.f0), .t (.i m'.f1), .t (.ints m'.f2), .t (.i m'.f3), .t (.i m'.f4), .t (tI m'.f5), .t (tS m'.f6), .t (tK m'.f7)]))] ?_ ?_
    ·constructor<;>simp -implicitDefEqProofs [idR, *]
    simp -implicitDefEqProofs (maxSteps:=2000000) [xN,rM]
    exact⟨by omega,u7 (by omega) (by omega) (by omega) (by omega) j3 (uH (fun j hj=>tX wG k3 (by omega)) (wG m' i8)) rfl rfl⟩
  by_cases E:y=7
  · subst E
    simp -implicitDefEqProofs (maxSteps:=2000000)
    refine yE (by decide) [[], [0], [], [2], [], [4,3,2], [], [6,5,4,3,2], [], [8,7,6,5,4,3,2], [3,5,7,9,2,4,6,8], [10,3,5,7,9,2,4,6,8], [1,11,9,0,10,3,5,7,2,4,6,8], [0,1,2,3,4,5,6,7,8,9,10,11,12], [13,12,0,1,2,3,4,5,6,7,8,9,10,11]] [98,99,100,101,102,103,104,105,106,107,108,109,110,111,0] [0,1,2,4,6,8,3,5,7,9,10,11] [] 12 [13,14] (by kernel_rfl) (by kernel_rfl) (by kernel_rfl) (by kernel_rfl) (by kernel_rfl) rfl rfl ?_
    simp -implicitDefEqProofs (maxSteps:=2000000) [aj,ah,ae,ai,ak,au,af,Op.operands,Call.operands,rM]
    refine vS _ _ _ _ rfl rfl rfl ⟨hb,by omega,by omega⟩ rfl (fun za J _ hza hpa hpa' => ?_) (by omega)
    simp -implicitDefEqProofs (maxSteps:=2000000) [aj,ah,ae,ai,ak,au,af,Op.operands,Call.operands,rM]
    refine vS _ _ _ _ rfl rfl rfl ⟨hb,by omega,by omega⟩ rfl (fun zb K _ hzb hpb hpb' => ?_) (by omega)
    simp -implicitDefEqProofs (maxSteps:=2000000) [aj,ah,ae,ai,ak,au,af,Op.operands,Call.operands,rM]
    refine vS _ _ _ _ rfl rfl rfl ⟨hb,by omega,by omega⟩ rfl (fun zc L _ hzc hpc hpc' => ?_) (by omega)
    simp -implicitDefEqProofs (maxSteps:=2000000) [aj,ah,ae,ai,ak,au,af,Op.operands,Call.operands,rM]
    refine vS _ _ _ _ rfl rfl rfl ⟨hb,by omega,by omega⟩ rfl (fun zd G _ hzd hpd hpd' => ?_) (by omega)
    simp -implicitDefEqProofs (maxSteps:=2000000) [aj,ah,ae,ai,ak,au,af,Op.operands,Call.operands,rM]
    refine Az (fe [true,false,false,true,true,true,true,false,false,false,false,false,false,false,false,false,false,false,false,false,false,false,false,false,false,false,false,false,false,false,false,false,false,false,false,false,false,false,false,false,false,false,false,false,false,false,false,false,false,false,false,false,false,false,false,false,false,false,false,false,false,false,false,false,false,false,false,false,false,false,false,false,false,false,false,false,false,false,false,false,false,false,false,false,false,false,false,false,false,false,false,false,false,false,false,false,false,false,false,true,false,false,false,false,false,false,false,false,false,true] rfl) ?_
    simp -implicitDefEqProofs (maxSteps:=2000000)
    have v4:kK ⟨za,zb,zc,zd⟩:=⟨by constructor<;>simp<;>omega,by constructor<;>simp<;>omega,by constructor<;>simp<;>omega,by constructor<;>simp<;>omega⟩
    have hfx: ∀j,j<1→∀y∈fl z73 eK [⟨za,zb,zc,zd⟩] j,IsI y:=fun j hj y hy=>by
      have hj0:j=0:=by omega
      subst hj0
      simp only[fl,eK,List.getD_cons_zero,List.mem_cons,List.not_mem_nil,or_false]at hy
      rcases hy with rfl|rfl|rfl|rfl
      ·exact⟨_,rfl,v4.1⟩
      ·exact⟨_,rfl,v4.2.1⟩
      ·exact⟨_,rfl,v4.2.2.1⟩
      ·exact⟨_,rfl,v4.2.2.2⟩
    have fxs: ∀y,IsI y→NoTy 73 y:=fun y ⟨_,h,_⟩=>by rw[h];exact .s _
    have hwok:=OD hfx
    refine any_append (e:=73) (sz:=4) (m:=1) (n:=m.f7.length) rfl rfl rfl rfl ?_ ?_ ?_ ?_ rfl rfl ?_ ?_ ?_ ?_ ?_ ?_ ?_
    any_goals (simp -implicitDefEqProofs (maxSteps:=2000000) [ownTys];done)
    · intro j hj y hy
      exact fxs _ (hfx j hj y hy)
    ·have:=hg.a7.1;exact⟨by unfold maxLen;omega,by simp;omega⟩
    ·simp[sG]
    ·rfl
    intro ts' B' g hts hB hgl hgr
    obtain⟨yy,rfl⟩:=BP 99 hts rfl
    obtain⟨x1,g0,x2,y0,y1,y2,y3,y4,y5,y6,y7,L',rfl,hL,hx1,⟨ms',k1,k2,k3⟩,⟨cs',j1,j2,j3⟩,m',i8,i0,i1,i2,i3,i4,i5,i6,i7⟩:=xW hwok hck (by omega) hmm' hgm hB
    obtain⟨bj,L2,rfl,_,hL⟩:=sI hL
    have:=xO hL
    subst this
    have hex:=ML (N:=1000) (x:= .sl 73 4 (m.f7.length+1) (uk m.f7.length g (fl z73 eK [⟨za,zb,zc,zd⟩]))) ⟨_,_,rfl,by have:=hg.a7.1;omega,Dh (fun j hj=> ?_) (fun j hj=> ?_)⟩
    rotate_left
    ·refine Ii (tX N9 hg.a7.2 hj) hfx (hgl j hj) (fun p hp=>by simp only[List.mem_cons,List.not_mem_nil,or_false,or_self]at hp;rw[hp]) fun o x y hx hy=>(hgr j o x y hj hx hy).imp id fun h=>h
    · have hj0:j=0:=by omega
      subst hj0
      exact tX (d:=z73) N9 (l:= [⟨za,zb,zc,zd⟩]) (fun v hv=>by rw[List.mem_singleton]at hv;rw[hv];exact v4) (by simp)
    obtain⟨l,hl1,hl2⟩:=hex
    refine Df [true,false,false,true,true,true,true,false,false,false,false,false,false,false,false,false,false,false,false,false,false,false,false,false,false,false,false,false,false,false,false,false,false,false,false,false,false,false,false,false,false,false,false,false,false,false,false,false,false,false,false,false,false,false,false,false,false,false,false,false,false,false,false,false,false,false,false,false,false,false,false,false,false,false,false,false,false,false,false,false,false,false,false,false,false,false,false,false,false,false,false,false,false,false,false,false,false,false,false,false,false,false,false,false,false,false,false,false,false,false,true] [(110, .c (.t (tK l)))] [(0,some (rdB bs G)),(1,some (.row 35 8 ms.length (fl z35 eM ms'))),(103,some (.box 26 [.t (tC cs'), .own 1 8 ms.length])),(106,some (.box 35 [.t (.i m'.f0), .t (.i m'.f1), .t (.ints m'.f2), .t (.i m'.f3), .t (.i m'.f4), .t (tI m'.f5), .t (tS m'.f6), .t (tK m'.f7)])),(209,none)] ?_ ?_
    ·constructor<;>simp -implicitDefEqProofs [idR, *]
    simp -implicitDefEqProofs (maxSteps:=2000000) [xN,rM,aj,ah,ae,ai,ak,au,af,Op.operands,Call.operands]
    exact⟨by omega,u7 (by omega) (by omega) (by omega) (by omega) j3 (uH (fun j hj=>tX wG k3 (by omega)) (BR ⟨_,rfl,i8.a0⟩ ⟨_,rfl,i8.a1⟩ (tH i8.a2) ⟨_,rfl,i8.a3⟩ ⟨_,rfl,i8.a4⟩ (yT i8.a5.1 i8.a5.2) (BO i8.a6.1 i8.a6.2) (AA hl2.1 hl2.2))) rfl rfl⟩
  by_cases u:y=10
  · subst u
    simp -implicitDefEqProofs (maxSteps:=2000000)
    refine yE (by decide) [[], [0], [], [], [3], [4,3], [2,5,4,3], [6,2,5,4,3], [1,7,6,0,2,5,4,3], [0,1,2,3,4,5,6,7,8], [9,8,0,1,2,3,4,5,6,7]] [125,126,127,128,129,130,131,132,133,134,0] [0,1,2,3,4,5,6,7] [] 8 [9,10] (by kernel_rfl) (by kernel_rfl) (by kernel_rfl) (by kernel_rfl) (by kernel_rfl) rfl rfl ?_
    simp -implicitDefEqProofs (maxSteps:=2000000) [aj,ah,ae,ai,ak,au,af,Op.operands,Call.operands,rM]
    obtain⟨⟨t,p4⟩,hev,ht⟩:=Kit.type_evp (bs:=bs) ⟨hb.2,fun x hx=>⟨(hb.1 x hx).1,by have:=(hb.1 x hx).2;omega⟩⟩ (p:=p3) (n:=(cs.length:Int)) (by omega) (by omega) (by omega) (by omega)
    obtain⟨kk,hx⟩:=hev.rounds
    have ht1: -1≤t:=ht.1.1
    have ht2:t≤8+cs.length:=ht.1.2
    have ht3:p3≤p4:=ht.2.1
    have r:p4≤p3+4:=ht.2.2
    refine bI (tQ (h:=hx)) rfl rfl rfl ?_ ?_ ?_ rfl ?_
    ·simp
    ·simp
    ·constructor<;>simp
    simp -implicitDefEqProofs (maxSteps:=2000000) [aj,ah,ae,ai,ak,au,af,Op.operands,Call.operands,rM]
    refine Az (fe [true,false,false,true,true,true,true,false,false,false,false,false,false,false,false,false,false,false,false,false,false,false,false,false,false,false,false,false,false,false,false,false,false,false,false,false,false,false,false,false,false,false,false,false,false,false,false,false,false,false,false,false,false,false,false,false,false,false,false,false,false,false,false,false,false,false,false,false,false,false,false,false,false,false,false,false,false,false,false,false,false,false,false,false,false,false,false,false,false,false,false,false,false,false,false,false,false,false,false,false,false,false,false,false,false,false,false,false,false,false,false,false,false,false,false,false,false,false,false,false,false,false,false,false,false,false,true,false,false,false,false,false,true] rfl) ?_
    simp -implicitDefEqProofs (maxSteps:=2000000)
    have v4:Rng t:=⟨by omega,by omega⟩
    have hfx: ∀j,j<1→∀y∈fl 0 ei [t] j,IsI y:=fun j hj y hy=>by
      have hj0:j=0:=by omega
      subst hj0
      simp only[fl,ei,List.getD_cons_zero,List.mem_cons,List.not_mem_nil,or_false]at hy
      subst hy;exact⟨_,rfl,v4⟩
    have fxs: ∀y,IsI y→NoTy 3 y:=fun y ⟨_,h,_⟩=>by rw[h];exact .s _
    have hwok:=OC hfx
    refine any_append (e:=3) (sz:=1) (m:=1) (n:=m.f2.length) rfl rfl rfl rfl ?_ ?_ ?_ ?_ rfl rfl ?_ ?_ ?_ ?_ ?_ ?_ ?_
    any_goals (simp -implicitDefEqProofs (maxSteps:=2000000) [ownTys];done)
    · intro j hj y hy
      exact fxs _ (hfx j hj y hy)
    ·have:=hg.a2.1;exact⟨by unfold maxLen;omega,by simp;omega⟩
    ·simp[sG]
    ·rfl
    intro ts' B' g hts hB hgl hgr
    obtain⟨yy,rfl⟩:=BP 126 hts rfl
    obtain⟨x1,g0,x2,y0,y1,y2,y3,y4,y5,y6,y7,L',rfl,hL,hx1,⟨ms',k1,k2,k3⟩,⟨cs',j1,j2,j3⟩,m',i8,i0,i1,i2,i3,i4,i5,i6,i7⟩:=xW hwok hck (by omega) hmm' hgm hB
    obtain⟨bj,L2,rfl,_,hL⟩:=sI hL
    have:=xO hL
    subst this
    have hex:=zo (N:=1000) (x:= .sl 3 1 (m.f2.length+1) (uk m.f2.length g (fl 0 ei [t]))) ⟨_,_,rfl,by have:=hg.a2.1;omega,Dh (fun j hj=> ?_) (fun j hj=> ?_)⟩
    rotate_left
    ·refine Ii (tX Oa hg.a2.2 hj) hfx (hgl j hj) (fun p hp=>by rw[List.mem_singleton]at hp;rw[hp]) fun o x y hx hy=>(hgr j o x y hj hx hy).imp id fun h=>h
    · have hj0:j=0:=by omega
      subst hj0
      exact tX (d:=(0:Int)) Oa (l:= [t]) (fun v hv=>by rw[List.mem_singleton]at hv;rw[hv];exact v4) (by simp)
    obtain⟨l,hl1,hl2⟩:=hex
    refine Df [true,false,false,true,true,true,true,false,false,false,false,false,false,false,false,false,false,false,false,false,false,false,false,false,false,false,false,false,false,false,false,false,false,false,false,false,false,false,false,false,false,false,false,false,false,false,false,false,false,false,false,false,false,false,false,false,false,false,false,false,false,false,false,false,false,false,false,false,false,false,false,false,false,false,false,false,false,false,false,false,false,false,false,false,false,false,false,false,false,false,false,false,false,false,false,false,false,false,false,false,false,false,false,false,false,false,false,false,false,false,false,false,false,false,false,false,false,false,false,false,false,false,false,false,false,false,false,false,false,false,false,false,false,true] [(133, .c (.t (.ints l)))] [(0,some (rdB bs p4)),(1,some (.row 35 8 ms.length (fl z35 eM ms'))),(103,some (.box 26 [.t (tC cs'), .own 1 8 ms.length])),(106,some (.box 35 [.t (.i m'.f0), .t (.i m'.f1), .t (.ints m'.f2), .t (.i m'.f3), .t (.i m'.f4), .t (tI m'.f5), .t (tS m'.f6), .t (tK m'.f7)])),(232,none)] ?_ ?_
    ·constructor<;>simp -implicitDefEqProofs [idR, *]
    simp -implicitDefEqProofs (maxSteps:=2000000) [xN,rM,aj,ah,ae,ai,ak,au,af,Op.operands,Call.operands]
    exact⟨by omega,u7 (by omega) (by omega) (by omega) (by omega) j3 (uH (fun j hj=>tX wG k3 (by omega)) (BR ⟨_,rfl,i8.a0⟩ ⟨_,rfl,i8.a1⟩ (tH hl2) ⟨_,rfl,i8.a3⟩ ⟨_,rfl,i8.a4⟩ (yT i8.a5.1 i8.a5.2) (BO i8.a6.1 i8.a6.2) (AA i8.a7.1 i8.a7.2))) rfl rfl⟩
  simp -implicitDefEqProofs (maxSteps:=2000000) [hy0,hy1,hy2,hy3,hy4,w,D,E,A,B,u]
  refine Eg [] (N7 bs p3 hb (by omega) (by omega)) rfl rfl rfl rfl ?_ ?_ ?_ ?_ ?_ ?_ ?_ ?_
  ·simp
  ·simp
  ·simp
  ·simp
  ·simp
  ·simp
  ·intro a ha;constructor<;>constructor<;>simp
  rintro⟨p4,cs'⟩ ⟨hq1,hq2,hq3,hq4,I⟩
  have hq1:p3≤p4:=hq1
  have hq2:p4≤p3+50:=hq2
  have hq3:1≤cs'.length:=hq3
  have hq4:cs'.length≤20:=hq4
  simp -implicitDefEqProofs (maxSteps:=2000000)
  exact⟨by omega,u7 (by omega) (by omega) (by omega) (by omega) (fun c hc=>(I c hc).mono (by decide)) (uH (fun j hj=>tX wG hmm' hj) (wG m hgm)) rfl rfl⟩
end Go.Proofs.Ytojpejfcafbafaa.V
end
section
namespace Go.Proofs.Ytojpejfcafbafaa.P
open Go.RowKit Go.Proofs.YtojpejfcafbafaaW.PrintWords Go.Proofs.YtojpejfcafbafaaW.PrintLast Go.Proofs.YtojpejfcafbafaaW.PrintMore
attribute [local go_sem] bn bq bP bQ aW aX bu bv
set_option linter.unusedVariables false
set_option linter.unusedSimpArgs false
mutual
def aR.j0:Nat→Int→Int→Bool→List Int→Int→List (S41)→List (S35)→Int→Int→List Int→Int→Int→List (S67)→List (S69)→List (S73)→Option (Int×Int×Int×Int)
  |0,_,_,_,_,_,_,_,_,_,_,_,_,_,_,_=>none
  |k+1,x7,a,t,x1000,c,d,e,g,h,j,m,n,o,p,q=>if t=true then((wh.f k x1000 c).bind fun r=>(some (1,r.1,0,r.2)))else(if a=2 then(some (2,0,0,c))else(if a=3 then(aR.j1 k x7 a (a==3) x1000 c d e g h j m n o p q)else(if a=4 then(aR.j1 k x7 a (a==4) x1000 c d e g h j m n o p q)else(aR.j1 k x7 a (a==5) x1000 c d e g h j m n o p q))))
def aR.j1:Nat→Int→Int→Bool→List Int→Int→List (S41)→List (S35)→Int→Int→List Int→Int→Int→List (S67)→List (S69)→List (S73)→Option (Int×Int×Int×Int)
  |0,_,_,_,_,_,_,_,_,_,_,_,_,_,_,_=>none
  |k+1,x7,q,t,x1000,p,c,d,e,g,h,j,a,m,n,o=>if t=true then((aK.f k x1000 p (mx a 1)).bind fun r=>(some (3,r.1,0,r.2)))else(if q=6 then(aR.j2 k x7 q (q==6) x1000 p c d e g h j a m n o)else(aR.j2 k x7 q (q==7) x1000 p c d e g h j a m n o))
def aR.j2:Nat→Int→Int→Bool→List Int→Int→List (S41)→List (S35)→Int→Int→List Int→Int→Int→List (S67)→List (S69)→List (S73)→Option (Int×Int×Int×Int)
  |0,_,_,_,_,_,_,_,_,_,_,_,_,_,_,_=>none
  |k+1,x7,d,v,x1000,a,e,g,n,o,p,q,j,r,t,u=>if v=true then((aK.f k x1000 a (mx j 1)).bind fun h=>(some (4,h.1,0,h.2)))else(if d=8 then((some (([5,6,23]:List Int):List Int)).bind fun m=>((aK.f k x1000 a 3).bind fun c=>(if 0≤c.1 then(if c.1<(m.length:Int)then(some (rd m c.1,0,0,c.2))else(none))else(none))))else(if d=9 then(aR.j3 k x7 d (d==9) x1000 a e g)else(aR.j3 k x7 d (d==10) x1000 a e g)))
def aR.j3:Nat→Int→Int→Bool→List Int→Int→List (S41)→List (S35)→Option (Int×Int×Int×Int)
  |0,_,_,_,_,_,_,_=>none
  |k+1,x7,d,h,x1000,e,a,c=>if h=true then((aK.f k x1000 e 4).bind fun g=>(some (7,wrap64 (1+g.1),0,g.2)))else(if d=11 then(aR.j4 k x7 d (d==11) x1000 e a c)else(if d=12 then(aR.j4 k x7 d (d==12) x1000 e a c)else(aR.j4 k x7 d (d==13) x1000 e a c)))
def aR.j4:Nat→Int→Int→Bool→List Int→Int→List (S41)→List (S35)→Option (Int×Int×Int×Int)
  |0,_,_,_,_,_,_,_=>none
  |k+1,x7,c,m,x1000,a,d,e=>if m=true then(some (12,x7,0,a))else(if c=14 then((aK.f k x1000 a 2).bind fun g=>(some (13,g.1,0,g.2)))else(if c=15 then(some (14,0,0,a))else(if c=16 then((aK.f k x1000 a 2).bind fun h=>(some (15,h.1,0,h.2)))else(if c=17 then((aK.f k x1000 a 2).bind fun j=>(some (16,j.1,0,j.2)))else(if c=18 then(aR.j5 k x7 c (c==18) x1000 a d e)else(aR.j5 k x7 c (c==19) x1000 a d e))))))
def aR.j5:Nat→Int→Int→Bool→List Int→Int→List (S41)→List (S35)→Option (Int×Int×Int×Int)
  |0,_,_,_,_,_,_,_=>none
  |k+1,x7,e,x84,x1000,d,a,c=>if x84=true then((rR.f k a x7).bind fun h=>((aK.f k x1000 d (mx (h.length:Int) 1)).bind fun g=>(some (17,x7,g.1,g.2))))else(if e=20 then(aR.j6 k x7 e (e==20) x1000 d a c)else(aR.j6 k x7 e (e==21) x1000 d a c))
def aR.j6:Nat→Int→Int→Bool→List Int→Int→List (S41)→List (S35)→Option (Int×Int×Int×Int)
  |0,_,_,_,_,_,_,_=>none
  |k+1,x7,j,x98,x1000,a,g,h=>if x98=true then((rR.f k g x7).bind fun m=>((aK.f k x1000 a (mx (m.length:Int) 1)).bind fun c=>(some (18,x7,c.1,c.2))))else(if j=22 then(some (19,x7,0,a))else(if j=23 then((aK.f k x1000 a (h.length:Int)).bind fun d=>(some (20,d.1,0,d.2)))else(if j=24 then((aK.f k x1000 a 2).bind fun e=>(some (21,x7,e.1,e.2)))else(some (24,0,0,a)))))
end
def aR.f (k:Nat) (c:List Int) (t:Int) (e:List (S41)) (g:List (S35)) (h:Int) (j:Int) (m:List Int) (n:Int) (o:Int) (p:List (S67)) (q:List (S69)) (r:List (S73)):Option (Int×Int×Int×Int):=(aK.f k c t (e.length:Int)).bind fun d=>((aK.f k c d.2 26).bind fun a=>(if a.1=0 then(aR.j0 k d.1 a.1 (a.1==0) c a.2 e g h j m n o p q r)else(aR.j0 k d.1 a.1 (a.1==1) c a.2 e g h j m n o p q r)))
def wQ.f (k:Nat) (d:List Int) (g:Int) (j:Int) (m:Int) (n:List Int) (h:Int) (o:Int) (p:List (S67)) (q:List (S69)) (r:List (S73)):Option ((List (S67))×Int):=if h=1 then((wh.f k d g).bind fun e=>((aK.f k d e.2 6).bind fun a=>(if a.1=0 then(some ((([(⟨12,1,0⟩:S67),(⟨23,0,0⟩:S67)]:List (S67))),a.2))else(some ((([(⟨1,e.1,0⟩:S67),(⟨22,0,0⟩:S67)]:List (S67))),a.2)))))else((aK.f k d g 6).bind fun c=>(if c.1=0 then(some ((([(⟨12,1,0⟩:S67),(⟨23,0,0⟩:S67)]:List (S67))),c.2))else(some ((([(⟨2,0,0⟩:S67),(⟨22,0,0⟩:S67)]:List (S67))),c.2))))
end Go.Proofs.Ytojpejfcafbafaa.P
end
section
namespace Go.Proofs.Ytojpejfcafbafaa.P
open Go.RowKit Go.Proofs.YtojpejfcafbafaaW.PrintWords Go.Proofs.YtojpejfcafbafaaW.PrintMore
set_option linter.unusedVariables false
def xA.f (k:Nat) (m:List (S41)) (n:List (S35)) (c:Int) (o:Int) (p:List Int) (q:Int) (r:Int) (w:List (S67)) (u:List (S69)) (v:List (S73)) (a:Int) (d:Int) (e:Int) (g:Bool) (h:List Int) (j:List Int):Option (Bool×List Int×List Int×Bool):=(aU.f k m n c o p q r [⟨a,d,e⟩] u v a d e).bind fun t=>(if t=true then(if a=23 then(if c<0 then(some (g,h,j,false))else((sF.f k m n c o p q r [⟨a,d,e⟩] u v 0 g h j).bind fun z=>some z))else((sF.f k m n c o p q r [⟨a,d,e⟩] u v 0 g h j).bind fun z=>some z))else(some (g,h,j,false)))
mutual
def ax.l0:Nat→Int→List (S67)→List Int→Bool→List Int→List Int→List Int→Int→List (S41)→List (S35)→Int→Int→List Int→Int→Int→List (S67)→List (S69)→List (S73)→Int→Option ((List (S67))×List Int×Int)
  |0,_,_,_,_,_,_,_,_,_,_,_,_,_,_,_,_,_,_,_=>none
  |k+1,tries,code,empty,s0,s1,s2,bs,p,c0,c1,m0,m1,m2,m3,m4,m5,m6,m7,most=>if tries<40 then(if wrap64 ((code.length:Int)+(s2.length:Int))<most then(if(s2.length:Int)=0 then(if empty.length<17592186044416 then(ax.j0 k tries code (empty++ [(code.length:Int)]) s0 s1 s2 bs p c0 c1 m0 m1 m2 m3 m4 m5 m6 m7 most)else none)else(ax.j0 k tries code empty s0 s1 s2 bs p c0 c1 m0 m1 m2 m3 m4 m5 m6 m7 most))else(ax.l1 k (s2.length:Int) code empty p))else(ax.l1 k (s2.length:Int) code empty p)
def ax.j0:Nat→Int→List (S67)→List Int→Bool→List Int→List Int→List Int→Int→List (S41)→List (S35)→Int→Int→List Int→Int→Int→List (S67)→List (S69)→List (S73)→Int→Option ((List (S67))×List Int×Int)
  |0,_,_,_,_,_,_,_,_,_,_,_,_,_,_,_,_,_,_,_=>none
  |k+1,tries,code,empty,s0,s1,s2,bs,p,c0,c1,m0,m1,m2,m3,m4,m5,m6,m7,most=>if(s2.length:Int)>0 then((aK.f k bs p 5).bind fun b=>(if b.1=0 then(if 0≤(wrap64 ((s2.length:Int) - 1))then(if(wrap64 ((s2.length:Int) - 1))<(s2.length:Int)then((uB.f (rd s2 (wrap64 ((s2.length:Int) - 1)))).bind fun t=>(if t=true then(if(s2.length:Int)=1 then(if(empty.length:Int)>0 then((aK.f k bs b.2 3).bind fun b1=>((aK.f k bs b1.2 2).bind fun b2=>(if code.length<5864062014805 then(ax.l0 k (wrap64 (tries+1)) (code++ [⟨10,wrap64 ((-1) - (wrap64 (b1.1 * b2.1))),0⟩]) empty s0 s1 [] bs b2.2 c0 c1 m0 m1 m2 m3 m4 m5 m6 m7 most)else none)))else(ax.j1 k tries code empty s0 s1 s2 bs b.2 c0 c1 m0 m1 m2 m3 m4 m5 m6 m7 most))else(ax.j1 k tries code empty s0 s1 s2 bs b.2 c0 c1 m0 m1 m2 m3 m4 m5 m6 m7 most))else(ax.j1 k tries code empty s0 s1 s2 bs b.2 c0 c1 m0 m1 m2 m3 m4 m5 m6 m7 most)))else none)else none)else(ax.j1 k tries code empty s0 s1 s2 bs b.2 c0 c1 m0 m1 m2 m3 m4 m5 m6 m7 most)))else(ax.j1 k tries code empty s0 s1 s2 bs p c0 c1 m0 m1 m2 m3 m4 m5 m6 m7 most)
def ax.j1:Nat→Int→List (S67)→List Int→Bool→List Int→List Int→List Int→Int→List (S41)→List (S35)→Int→Int→List Int→Int→Int→List (S67)→List (S69)→List (S73)→Int→Option ((List (S67))×List Int×Int)
  |0,_,_,_,_,_,_,_,_,_,_,_,_,_,_,_,_,_,_,_=>none
  |k+1,tries,code,empty,s0,s1,s2,bs,p,c0,c1,m0,m1,m2,m3,m4,m5,m6,m7,most=>if(s2.length:Int)=2 then(if 0<(s2.length:Int)then(if(rd s2 0)=1 then(if 1<(s2.length:Int)then(if(rd s2 1)=1 then((aK.f k bs p 3).bind fun b=>(if b.1=0 then((aK.f k bs b.2 2).bind fun b0=>((aK.f k bs b0.2 3).bind fun b1=>((aK.f k bs b1.2 2).bind fun b2=>(if code.length<5864062014805 then(ax.l0 k (wrap64 (tries+1)) (code++ [⟨wrap64 (8+b0.1),wrap64 ((-1) - (wrap64 (b1.1 * b2.1))),0⟩]) empty s0 s1 [] bs b2.2 c0 c1 m0 m1 m2 m3 m4 m5 m6 m7 most)else none))))else(ax.j2 k tries code empty s0 s1 s2 bs b.2 c0 c1 m0 m1 m2 m3 m4 m5 m6 m7 most)))else(ax.j2 k tries code empty s0 s1 s2 bs p c0 c1 m0 m1 m2 m3 m4 m5 m6 m7 most))else none)else(ax.j2 k tries code empty s0 s1 s2 bs p c0 c1 m0 m1 m2 m3 m4 m5 m6 m7 most))else none)else(ax.j2 k tries code empty s0 s1 s2 bs p c0 c1 m0 m1 m2 m3 m4 m5 m6 m7 most)
def ax.j2:Nat→Int→List (S67)→List Int→Bool→List Int→List Int→List Int→Int→List (S41)→List (S35)→Int→Int→List Int→Int→Int→List (S67)→List (S69)→List (S73)→Int→Option ((List (S67))×List Int×Int)
  |0,_,_,_,_,_,_,_,_,_,_,_,_,_,_,_,_,_,_,_=>none
  |k+1,tries,code,empty,s0,s1,s2,bs,p,c0,c1,m0,m1,m2,m3,m4,m5,m6,m7,most=>(aR.f k bs p c0 c1 m0 m1 m2 m3 m4 m5 m6 m7).bind fun x=>((xA.f k c0 c1 m0 m1 m2 m3 m4 m5 m6 m7 x.1 x.2.1 x.2.2.1 s0 s1 s2).bind fun q=>(if q.2.2.2=true then(if(wrap64 ((wrap64 ((code.length:Int)+1))+(q.2.2.1.length:Int)))≤most then(if x.1=23 then(ax.l0 k (wrap64 (tries+1)) (code) empty s0 s1 s2 bs x.2.2.2 c0 c1 m0 m1 m2 m3 m4 m5 m6 m7 most)else(if code.length<5864062014805 then(ax.l0 k (wrap64 (tries+1)) (code++ [⟨x.1,x.2.1,x.2.2.1⟩]) empty q.1 q.2.1 q.2.2.1 bs x.2.2.2 c0 c1 m0 m1 m2 m3 m4 m5 m6 m7 most)else none))else(ax.l0 k (wrap64 (tries+1)) (code) empty s0 s1 s2 bs x.2.2.2 c0 c1 m0 m1 m2 m3 m4 m5 m6 m7 most))else(ax.l0 k (wrap64 (tries+1)) (code) empty s0 s1 s2 bs x.2.2.2 c0 c1 m0 m1 m2 m3 m4 m5 m6 m7 most)))
def ax.l1:Nat→Int→List (S67)→List Int→Int→Option ((List (S67))×List Int×Int)
  |0,_,_,_,_=>none
  |k+1,i,code,empty,p=>if i>0 then(if code.length<5864062014805 then(ax.l1 k (wrap64 (i - 1)) (code++ [⟨5,0,0⟩]) empty p)else none)else(some (code,empty,p))
end
def ax.f (k:Nat) (n:List Int) (o:Int) (p:List (S41)) (q:List (S35)) (a:Int) (c:Int) (d:List Int) (e:Int) (g:Int) (h:List (S67)) (j:List (S69)) (m:List (S73)) (a3:Int):Option ((List (S67))×List Int×Int):=(kV.f k a c d e g h j m).bind fun s=>(ax.l0 k 0 [] [] s.1 s.2.1 s.2.2 n o p q a c d e g h j m a3)
end Go.Proofs.Ytojpejfcafbafaa.P
end
section
namespace Go.Proofs.Ytojpejfcafbafaa.P
open Go.RowKit Go.Proofs.YtojpejfcafbafaaW.PrintWords Go.Proofs.YtojpejfcafbafaaW.PrintLast Go.Proofs.YtojpejfcafbafaaW.PrintMore
attribute [local go_sem] bn bq bP bQ aW aX bu bv
set_option linter.unusedVariables false
set_option linter.unusedSimpArgs false
def lX.l0:Nat→Int→Int→List Int→Int→Int→Int→List Int→Int→Int→Option (Int×Int×List Int×Int×Int×(List (S67))×(List (S69))×(List (S73))×Int)
  |0,_,_,_,_,_,_,_,_,_=>none
  |k+1,x1,x6,x1000,h,c,d,a,e,g=>if x6>0 then((ic.f k x1000 h x1).bind fun j=>(if a.length<17592186044416 then(lX.l0 k x1 (wrap64 (x6 - 1)) x1000 j.2 c d (a++ [j.1]) e g)else(none)))else(some (c,d,a,e,g,([]:List (S67)),([]:List (S69)),([]:List (S73)),h))
def lX.f (k:Nat) (a:List Int) (e:Int) (a1:Int):Option (Int×Int×List Int×Int×Int×(List (S67))×(List (S69))×(List (S73))×Int):=(ic.f k a e a1).bind fun c=>((aK.f k a c.2 3).bind fun d=>(lX.l0 k a1 d.1 a d.2 0 0 ([]:List Int) c.1 0))
end Go.Proofs.Ytojpejfcafbafaa.P
end
section
namespace Go.Proofs.Ytojpejfcafbafaa.P
open Go.RowKit Go.Proofs.YtojpejfcafbafaaW.PrintWords Go.Proofs.YtojpejfcafbafaaW.PrintMore
set_option linter.unusedVariables false
mutual
def kT.l0:Nat→Int→List (S69)→List (S41)→List (S35)→Int→Int→List Int→Int→Int→List (S67)→List (S73)→Option (Int×Int×List Int×Int×Int×(List (S67))×(List (S69))×(List (S73)))
  |0,_,_,_,_,_,_,_,_,_,_,_=>none
  |k+1,i,sh,c0,c1,m0,m1,m2,m3,m4,m5,m7=>if i<(m5.length:Int)then((sD.f).bind fun s=>(if sh.length<2513169434916 then(kT.l0 k (wrap64 (i+1)) (sh++ [⟨s.1,s.2.1,s.2.2⟩]) c0 c1 m0 m1 m2 m3 m4 m5 m7)else none))else((aS.f k c0 c1 m0 m1 m2 m3 m4 m5 sh m7).bind fun a=>(some (m0,m1,m2,m3,m4,m5,a,m7)))
end
def kT.f (k:Nat) (a:List (S41)) (c:List (S35)) (d:Int) (e:Int) (g:List Int) (h:Int) (j:Int) (m:List (S67)) (o:List (S69)) (n:List (S73)):Option (Int×Int×List Int×Int×Int×(List (S67))×(List (S69))×(List (S73))):=(kT.l0 k 0 [] a c d e g h j m n)
mutual
def aQ.l0:Nat→Int→List (S35)→List Int→Int→Int→List (S35)→Option ((List (S35))×Int)
  |0,_,_,_,_,_,_=>none
  |k+1,i,out,bs,p,n,sg=>if i>0 then((lX.f k bs p n).bind fun m=>((aK.f k bs m.2.2.2.2.2.2.2.2 3).bind fun b=>(if b.1>0 then((aK.f k bs b.2 2).bind fun sel=>(if 0≤sel.1 then(if sel.1<(sg.length:Int)then((aK.f k bs sel.2 (wrap64 (n - 1))).bind fun c=>(aQ.j0 k i out bs c.2 n sg (wrap64 (1+c.1)) sel.1 (ay sg sel.1).f2 (ay sg sel.1).f3 (ay sg sel.1).f5 (ay sg sel.1).f6 (ay sg sel.1).f7))else none)else none))else(aQ.j0 k i out bs b.2 n sg (-1) m.2.1 m.2.2.1 m.2.2.2.1 m.2.2.2.2.2.1 m.2.2.2.2.2.2.1 m.2.2.2.2.2.2.2.1))))else(some (out,p))
def aQ.j0:Nat→Int→List (S35)→List Int→Int→Int→List (S35)→Int→Int→List Int→Int→List (S67)→List (S69)→List (S73)→Option ((List (S35))×Int)
  |0,_,_,_,_,_,_,_,_,_,_,_,_,_=>none
  |k+1,i,out,bs,p,n,sg,m0,m1,m2,m3,m5,m6,m7=>if m0≥0 then(aQ.j1 k 1 i out bs p n sg m0 m1 m2 m3 m5 m6 m7)else(aQ.j1 k 0 i out bs p n sg m0 m1 m2 m3 m5 m6 m7)
def aQ.j1:Nat→Int→Int→List (S35)→List Int→Int→Int→List (S35)→Int→Int→List Int→Int→List (S67)→List (S69)→List (S73)→Option ((List (S35))×Int)
  |0,_,_,_,_,_,_,_,_,_,_,_,_,_,_=>none
  |k+1,self,i,out,bs,p,n,sg,m0,m1,m2,m3,m5,m6,m7=>(aK.f k bs p 2).bind fun y=>(aQ.l1 k false 0 i out bs y.2 n sg m0 m1 m2 m3 (mn (wrap64 ((wrap64 (self+(m2.length:Int)))+y.1)) 3) m5 m6 m7)
def aQ.l1:Nat→Bool→Int→Int→List (S35)→List Int→Int→Int→List (S35)→Int→Int→List Int→Int→Int→List (S67)→List (S69)→List (S73)→Option ((List (S35))×Int)
  |0,_,_,_,_,_,_,_,_,_,_,_,_,_,_,_,_=>none
  |k+1,ag,q,i,out,bs,p,n,sg,m0,m1,m2,m3,m4,m5,m6,m7=>if q<(out.length:Int)then(if ag=true then(aQ.l1 k true (wrap64 (q+1)) i out bs p n sg m0 m1 m2 m3 m4 m5 m6 m7)else(if m0≥0 then(if 0≤q then(if(ay out q).f0=m0 then(if(ay out q).f1=m1 then(aQ.l1 k true (wrap64 (q+1)) i out bs p n sg m0 m1 m2 m3 m4 m5 m6 m7)else(aQ.l1 k false (wrap64 (q+1)) i out bs p n sg m0 m1 m2 m3 m4 m5 m6 m7))else(aQ.l1 k false (wrap64 (q+1)) i out bs p n sg m0 m1 m2 m3 m4 m5 m6 m7))else none)else(aQ.l1 k false (wrap64 (q+1)) i out bs p n sg m0 m1 m2 m3 m4 m5 m6 m7)))else(if ag=true then(aQ.l0 k (wrap64 (i - 1)) out bs p n sg)else(if out.length<1000000000000 then(aQ.l0 k (wrap64 (i - 1)) (out++ [⟨m0,m1,m2,m3,m4,m5,m6,m7⟩]) bs p n sg)else none))
end
def aQ.f (k:Nat) (d:List Int) (e:Int) (l1:List (S41)):Option ((List (S35))×Int):=(lX.f k d e (l1.length:Int)).bind fun a=>((lX.f k d a.2.2.2.2.2.2.2.2 (l1.length:Int)).bind fun b=>((lX.f k d b.2.2.2.2.2.2.2.2 (l1.length:Int)).bind fun c=>((aK.f k d c.2.2.2.2.2.2.2.2 3).bind fun x=>((aK.f k d x.2 4).bind fun y=>(aQ.l0 k y.1 [⟨-1,0, [],1,wrap64 (1+x.1), [], [], []⟩] d y.2 (l1.length:Int) [⟨a.1,a.2.1,a.2.2.1,a.2.2.2.1,a.2.2.2.2.1,a.2.2.2.2.2.1,a.2.2.2.2.2.2.1,a.2.2.2.2.2.2.2.1⟩,⟨b.1,b.2.1,b.2.2.1,b.2.2.2.1,b.2.2.2.2.1,b.2.2.2.2.2.1,b.2.2.2.2.2.2.1,b.2.2.2.2.2.2.2.1⟩,⟨c.1,c.2.1,c.2.2.1,c.2.2.2.1,c.2.2.2.2.1,c.2.2.2.2.2.1,c.2.2.2.2.2.2.1,c.2.2.2.2.2.2.2.1⟩])))))
mutual
def bL.l0:Nat→Int→List (S67)→Int→List Int→List Int→Int→List (S41)→List (S35)→Int→Int→List Int→Int→Int→List (S69)→List (S73)→Int→List (S67)→Option (Int×Int×List Int×Int×Int×(List (S67))×(List (S69))×(List (S73))×Int)
  |0,_,_,_,_,_,_,_,_,_,_,_,_,_,_,_,_,_=>none
  |k+1,i,code,n,empty,bs,p,c0,c1,m0,m1,m2,m3,m4,m6,m7,en,m5=>if i<n then(if 0≤i then(if i<(code.length:Int)then((uJ.f (bB code i).f0 (bB code i).f1 (bB code i).f2).bind fun t=>(if t=true then(if(bB code i).f1<0 then(if(bB code i).f1<(-1)then(if(empty.length:Int)>0 then(if 0≤(Int.tmod (wrap64 ((wrap64 ((wrap64 (0 - (bB code i).f1)) * 5))+i)) (empty.length:Int))then(if(Int.tmod (wrap64 ((wrap64 ((wrap64 (0 - (bB code i).f1)) * 5))+i)) (empty.length:Int))<(empty.length:Int)then(bL.j0 k (rd empty (Int.tmod (wrap64 ((wrap64 ((wrap64 (0 - (bB code i).f1)) * 5))+i)) (empty.length:Int))) i code n empty bs p c0 c1 m0 m1 m2 m3 m4 m6 m7 en m5)else none)else none)else(bL.j0 k en i code n empty bs p c0 c1 m0 m1 m2 m3 m4 m6 m7 en m5))else(bL.j0 k en i code n empty bs p c0 c1 m0 m1 m2 m3 m4 m6 m7 en m5))else(bL.l0 k (wrap64 (i+1)) code n empty bs p c0 c1 m0 m1 m2 m3 m4 m6 m7 en m5))else(bL.l0 k (wrap64 (i+1)) code n empty bs p c0 c1 m0 m1 m2 m3 m4 m6 m7 en m5)))else none)else none)else((wQ.f k bs p m0 m1 m2 m3 m4 m5 m6 m7).bind fun e=>(if code.length+e.1.length<5864062014805 then((kT.f k c0 c1 m0 m1 m2 m3 m4 (code++e.1) m6 m7).bind fun s=>some (s.1,s.2.1,s.2.2.1,s.2.2.2.1,s.2.2.2.2.1,s.2.2.2.2.2.1,s.2.2.2.2.2.2.1,s.2.2.2.2.2.2.2,e.2))else none))
def bL.j0:Nat→Int→Int→List (S67)→Int→List Int→List Int→Int→List (S41)→List (S35)→Int→Int→List Int→Int→Int→List (S69)→List (S73)→Int→List (S67)→Option (Int×Int×List Int×Int×Int×(List (S67))×(List (S69))×(List (S73))×Int)
  |0,_,_,_,_,_,_,_,_,_,_,_,_,_,_,_,_,_,_=>none
  |k+1,tgt,i,code,n,empty,bs,p,c0,c1,m0,m1,m2,m3,m4,m6,m7,en,m5=>if 0≤i then(if i<(code.length:Int)then(bL.l0 k (wrap64 (i+1)) (code.set (i:Int).toNat ⟨(bB code i).f0,tgt,(bB code i).f2⟩) n empty bs p c0 c1 m0 m1 m2 m3 m4 m6 m7 en m5)else none)else none
end
def bL.f (k:Nat) (a:List Int) (t:Int) (d:List (S41)) (e:List (S35)) (g:Int) (h:Int) (j:List Int) (m:Int) (n:Int) (o:List (S67)) (p:List (S69)) (r:List (S73)):Option (Int×Int×List Int×Int×Int×(List (S67))×(List (S69))×(List (S73))×Int):=(aK.f k a t 3).bind fun c=>(if c.1=0 then((ax.f k a c.2 d e g h j m n o p r 8).bind fun b=>(if(b.1.length:Int)>0 then(if b.1.length<5864062014804 then((aK.f k a b.2.2 (b.1.length:Int)).bind fun q=>(bL.l0 k 0 (b.1++ [⟨11,wrap64 ((b.1.length:Int)+2),0⟩,⟨5,0,0⟩]) (b.1.length:Int) b.2.1 a q.2 d e g h j m n p [⟨q.1,(b.1.length:Int),wrap64 ((b.1.length:Int)+1),1⟩] (wrap64 ((b.1.length:Int)+2)) o))else none)else(bL.l0 k 0 b.1 (b.1.length:Int) b.2.1 a b.2.2 d e g h j m n p r (b.1.length:Int) o)))else((ax.f k a c.2 d e g h j m n o p r 10).bind fun b=>(bL.l0 k 0 b.1 (b.1.length:Int) b.2.1 a b.2.2 d e g h j m n p r (b.1.length:Int) o)))
def kZ.l0:Nat→Int→List (S35)→List Int→Int→List (S41)→Option ((List (S41))×(List (S35))×Int)
  |0,_,_,_,_,_=>none
  |k+1,i,ms,bs,p,cs=>if i<(ms.length:Int)then(if 0≤i then((bL.f k bs p cs ms (ay ms i).f0 (ay ms i).f1 (ay ms i).f2 (ay ms i).f3 (ay ms i).f4 (ay ms i).f5 (ay ms i).f6 (ay ms i).f7).bind fun m=>((dX.f k cs ms m.1 m.2.1 m.2.2.1 m.2.2.2.1 m.2.2.2.2.1 m.2.2.2.2.2.1 m.2.2.2.2.2.2.1 m.2.2.2.2.2.2.2.1).bind fun s=>(if s.2=true then(kZ.l0 k (wrap64 (i+1)) (ms.set (i:Int).toNat ⟨m.1,m.2.1,m.2.2.1,m.2.2.2.1,m.2.2.2.2.1,m.2.2.2.2.2.1,m.2.2.2.2.2.2.1,m.2.2.2.2.2.2.2.1⟩) bs m.2.2.2.2.2.2.2.2 cs)else((wQ.f k bs m.2.2.2.2.2.2.2.2 (ay ms i).f0 (ay ms i).f1 (ay ms i).f2 (ay ms i).f3 (ay ms i).f4 (ay ms i).f5 (ay ms i).f6 (ay ms i).f7).bind fun e=>((kT.f k cs ms (ay ms i).f0 (ay ms i).f1 (ay ms i).f2 (ay ms i).f3 (ay ms i).f4 e.1 (ay ms i).f6 (ay ms i).f7).bind fun q=>(kZ.l0 k (wrap64 (i+1)) (ms.set (i:Int).toNat ⟨q.1,q.2.1,q.2.2.1,q.2.2.2.1,q.2.2.2.2.1,q.2.2.2.2.2.1,q.2.2.2.2.2.2.1,q.2.2.2.2.2.2.2⟩) bs e.2 cs))))))else none)else(some (cs,ms,p))
def kZ.f (k:Nat) (a:List Int) (d:Int):Option ((List (S41))×(List (S35))×Int):=(dY.f k a d).bind fun c=>((aQ.f k a c.2 c.1).bind fun h=>(kZ.l0 k 0 h.1 a h.2 c.1))
end Go.Proofs.Ytojpejfcafbafaa.P
end
section
namespace Go.Proofs.Ytojpejfcafbafaa.V
open Go Go.RowKit Go.Proofs.Ytojpejfcafbafaa.P
set_option linter.unusedVariables false
set_option linter.unusedSimpArgs false
attribute [local simp ↓] eG eH fQ fT eO dM fZ eP eQ gm gp gq dN dO dP gB gz gG gF dQ bW dV cz dJ dR eT eU eX
attribute [local simp] fU fV dK bR eF dL bS bT bU bV bM bN dS eY dU bX bY bZ cu bO fD lM iL dz iw evl dI eZ fu kD iX List.range List.range.loop lT kX fo fB iC iA Bs.live Bs.get lN WkV WkA WkC lg lH kY lD cZ iM TEq.refl bg fH qQ aF aG aD aH aI aJ ei d9 splice dE Bs.set kU fC Rn.at gu gy iF iD lL chunks lC fP toT fE iE rowsOf cB ik plR plV plC lF lI lQ lh fI iR lU
attribute [local simp] List.length_pos_iff qR qU iG iH iI puts dh
attribute [local simp ←] ig
attribute [local simp] ksL ru ksV rV ksC ksT ren kr rO rH dw bsC wF bsV vJ uo uX uY uq ut uu uw sO sP sQ sS sU r9 sV fF dW dx iW iB iO iQ lS rG closedB iT kP kG kH kJ kL iJ kN
attribute [local simp] ag3 un3 sz3 in3 by3 ze3 ct3 zt3 zu3 ag4 un4 sz4 in4 by4 ze4 ct4 zt4 zu4 ag5 un5 sz5 in5 by5 ze5 ct5 zt5 zu5 mi mq mD mE mF mG mH mI mJ io3 mK io5 bo4 mM mO mP mQ mR mU mV mW mX mY mZ ng ni nk nu ny nz nA nC nD nE nG nH nI nJ nK nL nM nN nO nP nQ nR nS nT nU nV nW nX nY nZ oh ol om oo oq ou ow oz oC oD oF oG oH oI oJ oK oL oM oN oO oP oQ oU oV oW oZ o6 o7 o8 iZ ja jb jc jd je jf jg jh ji jk jl jm jo jq jr jv jw jy jA o9 pg pu pz pE pF pG pI pJ pK jB jC jD jE jF jG jH jI jJ jK jL jM jN jO jP jQ jR jS jT jU jV jW jX jY jZ kg ko mz gH gI gJ gK gL gN gP gQ gT gU gV gW gX gY gZ ib pO pQ pR pU pV pW pX pY p9 qa qb qc qd qf qg qh qi qj ql qm qo qp qw qx qy qz qA qB qC qD qE qF qG qH qI qJ qK qL qM qN qO qP mix
attribute [local simp] eb eC eI eS eK eM nm
set_option maxRecDepth 20000 in
set_option maxHeartbeats 4000000 in
theorem uO (k:Nat) (a:List (S41)) (d:List (S35)) (g:Int) (j:Int) (m:List Int) (n:Int) (o:Int) (p:List (S67)) (q:List (S69)) (u:List (S73)) (v:Int) (w:Int) (x:Int) (y:Bool) (z:List Int) (A:List Int) (r:Bool×List Int×List Int×Bool) (h:xA.f k a d g j m n o p q u v w x y z A=some r):iU Try.prog 78 [.agg [.t (tC a), .t (tM d)], .agg [.t (.i g), .t (.i j), .t (.ints m), .t (.i n), .t (.i o), .t (tI p), .t (tS q), .t (tK u)], .agg [.t (.i v), .t (.i w), .t (.i x)], .agg [.t (.b y), .t (.ints z), .t (.ints A)]] (.tup [.agg [.t (.b r.1), .t (.ints (r.2.1)), .t (.ints (r.2.2.1))], .c (.t (.b r.2.2.2))]):=by
  unfold xA.f at h
  try simp only[aF,aG,aD,aH,aI,aJ]at h
  refine bF Try.func78 rfl rfl rfl ?_
  try simp -implicitDefEqProofs (maxSteps:=2000000)
  repeat' first
    |(with_reducible (first|(replace h:=bC (by assumption) h)|(replace h:=bD (by assumption) h)|(replace h:=aY (by assumption) h)|(replace h:=aZ (by assumption) h)))
    |((with_reducible have hh:=aB h);clear h;rcases hh with⟨hc,h⟩|⟨hc,h⟩<;>have hd:=hc<;>(first|(replace hc:=dA hc)|(replace hc:=dB hc)|skip)<;>(try simp at hd)<;>(first|exact absurd hd (of_eq_false (by assumption))|exact absurd (of_eq_true (by assumption)) hd|skip)<;>(try(first|(subst hd)|(replace hd:=bG hd)|(replace hd:=eq_false hd)|(replace hd:=eq_true hd)))<;>(try simp -implicitDefEqProofs (maxSteps:=2000000) [*, -h]))
    |(with_reducible replace h:=aL h)
    | ((with_reducible have hh:=Option.bind_eq_some_iff.1 h);clear h;obtain⟨x_,hx_,h⟩:=hh;(first|(refine Ay [67] (yY (h:=hx_)) rfl rfl ?_ ?_ ⟨rfl,rfl⟩ ?_ ?_;(·simp[*]);(·simp[vM]);(·intro e he;simp at he;subst he;simp[NoV,NoA,NoC,vT,NoTy.s]);clear hx_;try simp -implicitDefEqProofs (maxSteps:=2000000) [*, -h])|(refine Ay [67] (sN (h:=hx_)) rfl rfl ?_ ?_ ⟨rfl,rfl⟩ ?_ ?_;(·simp[*]);(·simp[vM]);(·intro e he;simp at he;subst he;simp[NoV,NoA,NoC,vT,NoTy.s]);clear hx_;try simp -implicitDefEqProofs (maxSteps:=2000000) [*, -h]))
       )
    |(refine⟨(by first|exact aP (by assumption) (by decide) (by decide)|exact aN (by assumption) (by decide) (by decide)), ?_⟩;try simp -implicitDefEqProofs (maxSteps:=2000000) [*, -h])
    |(cases h;done)
    |(cases h;refine aV _ ?_ ⟨rfl,rfl⟩;simp[*]<;>exact az (by omega) (by omega) (by simp))
    |(exfalso;clear h;simp_all;done)
end Go.Proofs.Ytojpejfcafbafaa.V
end
section
namespace Go.Proofs.Ytojpejfcafbafaa.V
open Go Go.RowKit Go.Proofs.Ytojpejfcafbafaa.P
set_option linter.unusedVariables false
set_option linter.unusedSimpArgs false
attribute [local simp ↓] eG eH fQ fT eO dM fZ eP eQ gm gp gq dN dO dP gB gz gG gF dQ bW dV cz dJ dR eT eU eX
attribute [local simp] fU fV dK bR eF dL bS bT bU bV bM bN dS eY dU bX bY bZ cu bO fD lM iL dz iw evl dI eZ fu kD iX List.range List.range.loop lT kX fo fB iC iA Bs.live Bs.get lN WkV WkA WkC lg lH kY lD cZ iM TEq.refl bg fH qQ aF aG aD aH aI aJ ei d9 splice dE Bs.set kU fC Rn.at gu gy iF iD lL chunks lC fP toT fE iE rowsOf cB ik plR plV plC lF lI lQ lh fI iR lU
attribute [local simp] List.length_pos_iff qR qU iG iH iI puts dh
attribute [local simp ←] ig
attribute [local simp] ksL ru ksV rV ksC ksT ren kr rO rH dw uo uX uY uq ut uu uw sO sP sQ sS sU r9 sV fF dW dx iW iB iO iQ lS rG closedB iT kP kG kH kJ kL iJ kN
attribute [local simp] ag3 un3 sz3 in3 by3 ze3 ct3 zt3 zu3 ag4 un4 sz4 in4 by4 ze4 ct4 zt4 zu4 ag5 un5 sz5 in5 by5 ze5 ct5 zt5 zu5 mi mq mD mE mF mG mH mI mJ io3 mK io5 bo4 mM mO mP mQ mR mU mV mW mX mY mZ ng ni nk nu ny nz nA nC nD nE nG nH nI nJ nK nL nM nN nO nP nQ nR nS nT nU nV nW nX nY nZ oh ol om oo oq ou ow oz oC oD oF oG oH oI oJ oK oL oM oN oO oP oQ oU oV oW oZ o6 o7 o8 iZ ja jb jc jd je jf jg jh ji jk jl jm jo jq jr jv jw jy jA o9 pg pu pz pE pF pG pI pJ pK jB jC jD jE jF jG jH jI jJ jK jL jM jN jO jP jQ jR jS jT jU jV jW jX jY jZ kg ko mz gH gI gJ gK gL gN gP gQ gT gU gV gW gX gY gZ ib pO pQ pR pU pV pW pX pY p9 qa qb qc qd qf qg qh qi qj ql qm qo qp qw qx qy qz qA qB qC qD qE qF qG qH qI qJ qK qL qM qN qO qP mix
attribute [local simp] eb eC eI eS eK eM nm
set_option maxRecDepth 20000 in
set_option maxHeartbeats 4000000 in
theorem uP (k:Nat) (a:List Int) (d:Int) (e:List (S41)) (g:List (S35)) (j:Int) (m:Int) (n:List Int) (o:Int) (p:Int) (q:List (S67)) (u:List (S69)) (v:List (S73)) (r:Int×Int×Int×Int) (h:aR.f k a d e g j m n o p q u v=some r):uL Try.prog 77 [.c (.ptr 0 0 0), .agg [.t (tC e), .t (tM g)], .agg [.t (.i j), .t (.i m), .t (.ints n), .t (.i o), .t (.i p), .t (tI q), .t (tS u), .t (tK v)]] [(0,some (rdB a d))] (.agg [.t (.i r.1), .t (.i r.2.1), .t (.i r.2.2.1)]) [(0,some (rdB a (r.2.2.2)))]:=by
  unfold aR.f at h
  try simp only[aF,aG,aD,aH,aI,aJ]at h
  refine bF Try.func77 rfl rfl rfl ?_
  try simp -implicitDefEqProofs (maxSteps:=2000000)
  repeat' first
    |(with_reducible (first|(replace h:=bC (by assumption) h)|(replace h:=bD (by assumption) h)|(replace h:=aY (by assumption) h)|(replace h:=aZ (by assumption) h)))
    |((with_reducible have hh:=aB h);clear h;rcases hh with⟨hc,h⟩|⟨hc,h⟩<;>have hd:=hc<;>(first|(replace hc:=dA hc)|(replace hc:=dB hc)|skip)<;>(try simp at hd)<;>(first|exact absurd hd (of_eq_false (by assumption))|exact absurd (of_eq_true (by assumption)) hd|skip)<;>(try(first|(subst hd)|(replace hd:=bG hd)|(replace hd:=eq_false hd)|(replace hd:=eq_true hd)))<;>(try simp -implicitDefEqProofs (maxSteps:=2000000) [*, -h]))
    |(with_reducible replace h:=aL h)
    | ((with_reducible have hh:=Option.bind_eq_some_iff.1 h);clear h;obtain⟨x_,hx_,h⟩:=hh;(first|(refine aC (Ad (h:=hx_)) rfl rfl rfl ?_ ?_ ?_ ?_;(·simp[*]);(·simp[*]);(·constructor<;>simp);clear hx_;try simp -implicitDefEqProofs (maxSteps:=2000000) [*, -h])|(refine aC (aO (h:=hx_)) rfl rfl rfl ?_ ?_ ?_ ?_;(·simp[*]);(·simp[*]);(·constructor<;>simp);clear hx_;try simp -implicitDefEqProofs (maxSteps:=2000000) [*, -h])|(refine Ar [] [] rfl rfl (xS _ _ _ _ hx_) ?_ (by simp) rfl (by simp) ?_;(·simp[*]);clear hx_;try simp -implicitDefEqProofs (maxSteps:=2000000) [*, -h]))
       )
    |(obtain⟨k,rfl⟩:=aM (f:=fun k=>aR.j0 k _ _ _ _ _ _ _ _ _ _ _ _ _ _ _) (by simp only[aR.j0]) h;simp only[aR.j0]at h;try simp only[aF,aG,aD,aH,aI,aJ,beq_iff_eq,decide_eq_true_eq]at h)
    |(obtain⟨k,rfl⟩:=aM (f:=fun k=>aR.j1 k _ _ _ _ _ _ _ _ _ _ _ _ _ _ _) (by simp only[aR.j1]) h;simp only[aR.j1]at h;try simp only[aF,aG,aD,aH,aI,aJ,beq_iff_eq,decide_eq_true_eq]at h)
    |(obtain⟨k,rfl⟩:=aM (f:=fun k=>aR.j2 k _ _ _ _ _ _ _ _ _ _ _ _ _ _ _) (by simp only[aR.j2]) h;simp only[aR.j2]at h;try simp only[aF,aG,aD,aH,aI,aJ,beq_iff_eq,decide_eq_true_eq]at h)
    |(obtain⟨k,rfl⟩:=aM (f:=fun k=>aR.j3 k _ _ _ _ _ _ _) (by simp only[aR.j3]) h;simp only[aR.j3]at h;try simp only[aF,aG,aD,aH,aI,aJ,beq_iff_eq,decide_eq_true_eq]at h)
    |(obtain⟨k,rfl⟩:=aM (f:=fun k=>aR.j4 k _ _ _ _ _ _ _) (by simp only[aR.j4]) h;simp only[aR.j4]at h;try simp only[aF,aG,aD,aH,aI,aJ,beq_iff_eq,decide_eq_true_eq]at h)
    |(obtain⟨k,rfl⟩:=aM (f:=fun k=>aR.j5 k _ _ _ _ _ _ _) (by simp only[aR.j5]) h;simp only[aR.j5]at h;try simp only[aF,aG,aD,aH,aI,aJ,beq_iff_eq,decide_eq_true_eq]at h)
    |(obtain⟨k,rfl⟩:=aM (f:=fun k=>aR.j6 k _ _ _ _ _ _ _) (by simp only[aR.j6]) h;simp only[aR.j6]at h;try simp only[aF,aG,aD,aH,aI,aJ,beq_iff_eq,decide_eq_true_eq]at h)
    |(refine⟨(by first|exact aP (by assumption) (by decide) (by decide)|exact aN (by assumption) (by decide) (by decide)), ?_⟩;try simp -implicitDefEqProofs (maxSteps:=2000000) [*, -h])
    |(cases h;done)
    |(cases h;refine ed _ rfl ?_;constructor<;>simp[*]<;>exact az (by omega) (by omega) (by simp))
    |(exfalso;clear h;simp_all;done)
end Go.Proofs.Ytojpejfcafbafaa.V
end
