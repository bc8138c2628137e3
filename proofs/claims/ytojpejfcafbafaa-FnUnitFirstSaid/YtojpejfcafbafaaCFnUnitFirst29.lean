/- A part of the claim FnUnitFirst. -/
import Derived.Test.YtojpejfcafbafaaCFnUnitFirst28
section
namespace Go.Proofs.Ytojpejfcafbafaa.V
open Go Go.RowKit Go.Proofs.Ytojpejfcafbafaa.P
set_option linter.unusedVariables false
set_option linter.unusedSimpArgs false
attribute [local simp ↓] eG eH fQ fT eO dM fZ eP eQ gm gp gq dN dO dP gB gz gG gF dQ bW dV cz dJ dR eT eU eX
attribute [local simp] fU fV dK bR eF dL bS bT bU bV bM bN dS eY dU bX bY bZ cu bO fD lM iL dz iw evl dI eZ fu kD iX List.range List.range.loop lT kX fo fB iC iA Bs.live Bs.get lN WkV WkA WkC lg lH kY lD cZ iM TEq.refl bg fH yK ei d9 splice dE Bs.set kU fC Rn.at gu gy iF iD lL chunks lC fP toT fE iE rowsOf cB ik plR plV plC lF lI lQ lh fI iR lU
attribute [local simp low] xE xD xG
attribute [local simp] ag3 un3 sz3 in3 by3 ze3 ct3 zt3 zu3 ag4 un4 sz4 in4 by4 ze4 ct4 zt4 zu4 ag5 un5 sz5 in5 by5 ze5 ct5 zt5 zu5 mi mq mD mE mF mG mH mI mJ io3 mK io5 bo4 mM mO mP mQ mR mU mV mW mX mY mZ ng ni nk nu ny nz nA nC nD nE nG nH nI nJ nK nL nM nN nO nP nQ nR nS nT nU nV nW nX nY nZ oh ol om oo oq ou ow oz oC oD oF oG oH oI oJ oK oL oM oN oO oP oQ oU oV oW oZ o6 o7 o8 iZ ja jb jc jd je jf jg jh ji jk jl jm jo jq jr jv jw jy jA o9 pg pu pz pE pF pG pI pJ pK jB jC jD jE jF jG jH jI jJ jK jL jM jN jO jP jQ jR jS jT jU jV jW jX jY jZ kg ko mz gH gI gJ gK gL gN gP gQ gT gU gV gW gX gY gZ ib pO pQ pR pU pV pW pX pY p9 qa qb qc qd qf qg qh qi qj ql qm qo qp qw qx qy qz qA qB qC qD qE qF qG qH qI qJ qK qL qM qN qO qP mix
attribute [local simp] eb eC
def ExR {ι:Type} (φ:ι→Prop) (v:ι→V) (Bv:ι→Bs) (r:V) (B:Bs):Prop:= ∃a,φ a∧r=v a∧B=Bv a
def H7 {ι:Type} (P:Program) (g:Nat) (xs:List V) (ins:Bs) (φ:ι→Prop) (v:ι→V) (Bv:ι→Bs):Prop:=Ct P g xs ins (ExR φ v Bv)
section
variable {ι:Type} {P:Program} {cl:Call} {dst:Option Tmp} {ts:List V} {B:Bs} {g:Nat} {xs:List V} {ins:Bs} {φ:ι→Prop} {v:ι→V} {Bv:ι→Bs} {ks bs:List Nat} {K:List V→Bs→Prop}
theorem K9 (es:List Nat) (ct:H7 P g xs ins φ v Bv) (hc:cl.callee= .value (.func g)) (hg:uR P g=true) (hi:dw B 0 ks=ins) (hp:dx ks bs B (cl.args.toList.map (evl ts)) xs) (hnd:ks.Nodup) (hfew:ks.length≤100) (hlive: ∀k∈ks,((B.live k).map closedB)=some true)
    (hrows: ∀k∈bs,k∉ks∧vM es B k=true) (hs: ∀a,φ a→FnSide B (Bv a) ks dst (v a)∧Lent es B (Bv a) ks bs (v a)):
    CallAt P cl dst (dst.getD 0) (evl ts) B ks bs (fun w u=> ∃a,φ a∧w=kr (ren (dst.getD 0) ks) (v a)∧u=(Bv a).map fun p=>(ren (dst.getD 0) ks p.1,p.2)):=by
  subst hi
  refine⟨g,xs,es,_,hc,hg,⟨hnd,hfew,fun k hk=> ?_,fun k hk=>⟨(hrows k hk).1, ?_⟩⟩,hp,ct, ?_⟩
  · have:=hlive k hk
    cases hl:B.live k with
    |none=>rw[hl]at this;simp at this
    |some b=>rw[hl]at this;exact⟨b,rfl,by simpa using this⟩
  ·obtain⟨e,s,n,f,_,h⟩:=wK (hrows k hk).2;exact⟨e,s,n,f,h⟩
  · rintro res B1 ⟨a,ha,rfl,rfl⟩
    obtain⟨hs,hl⟩:=hs a ha
    refine⟨⟨hs.nd',fun q y hm hq=> ?_,fun q y hm hq=> ?_,fun q b hm=>⟨?_,fun e he=>hl.blks _ hm b rfl e he⟩,fun k hk=>wK (hl.rows k hk).2⟩,hs.tp,hl.res,fun p hm=> ?_,a,ha,rfl,rfl⟩
    ·have:=hs.back _ hm;rw[if_neg hq]at this;exact this.1
    ·have:=hs.back _ hm;rw[if_pos hq]at this;exact this
    ·have:=hs.closed _ hm;simpa using this
    · have:=hs.back _ hm
      by_cases hq:p.1<100
      ·exact⟨by omega,fun h=>absurd hq h⟩
      · rw[if_neg hq]at this
        refine⟨this.2.1,fun _=> ?_⟩
        cases dst with
        |none=>simp at this
        |some d=>rfl
theorem Eg {c:Bs} (es:List Nat) (ct:H7 P g xs ins φ v Bv) (hc:cl.callee= .value (.func g)) (hg:uR P g=true) (hks:ksL (ru xs (cl.args.toList.map (evl ts))) 0 ins.length=ks) (hbs:vJ xs (cl.args.toList.map (evl ts))=bs) (hi:dw B 0 ks=ins) (hp:dx ks bs B (cl.args.toList.map (evl ts)) xs) (hnd:ks.Nodup) (hfew:ks.length≤100) (hlive: ∀k∈ks,((B.live k).map closedB)=some true)
    (hrows: ∀k∈bs,k∉ks∧vM es B k=true) (hs: ∀a,φ a→FnSide B (Bv a) ks dst (v a)∧Lent es B (Bv a) ks bs (v a))
    (h: ∀a,φ a→K (dI ts dst (kr (ren (dst.getD 0) ks) (v a))) (dE B ((Bv a).map fun p=>(ren (dst.getD 0) ks p.1,p.2)))):vX P c cl dst ts B K:=
  .inl ⟨ks,bs,_,K9 es ct hc hg hi hp hnd hfew hlive hrows hs,by rintro w u ⟨a,ha,rfl,rfl⟩;exact h a ha⟩
end
set_option maxRecDepth 20000 in
theorem IW (bs:List Int) (p:Int) (hb:zf bs) (h0:0≤p) (h1:p+30≤1000000000):H7 Try.prog 35 [.c (.ptr 0 0 0)] [(0,some (rdB bs p))] (fun(a:Int×List S41)=>p≤a.1∧a.1≤p+30∧2≤a.2.length∧a.2.length≤5∧Bc a.2.length a.2)
    (fun a=> .c (.own 900 2 a.2.length)) (fun a=> [(0,some (rdB bs a.1)),(900,some (.row 41 2 a.2.length (fl z41 eC a.2)))]):=by
  refine bF Try.func35 rfl rfl rfl ?_
  simp (maxSteps:=2000000)
  refine rQ _ _ _ _ rfl rfl rfl ⟨hb,by omega,by omega⟩ (fun x p1 _ hx hp hp' => ?_) (by omega)
  have w1:IntKind.i64.wrap (2+x)=2+x:=wr (by omega) (by omega)
  simp (maxSteps:=2000000) [w1]
  refine Ht 112 rfl rfl ?_
  simp (maxSteps:=2000000) [w1]
  refine Ao (ClsI1 bs x p1) x.toNat _ _ (rJ (r:= [(0,0),(114,114)]) ?_) ⟨2,p1, [⟨-1, []⟩,⟨0, [1]⟩],by omega,by omega,by omega,by omega,by omega,rfl,JO _ (by omega),rfl,rfl⟩ ?_
  · constructor
    ·simp
    · simp
      intro j hj
      left
      rcases j with _|_|j
      ·rfl
      ·exact congrArg (fun f=> [T.i 0,T.sl 3 1 1 f]) (FN (d:=(0:Int)) (en:=ei) [1] rfl rfl)
      ·omega
    ·simp
    ·simp
  rintro n ts B ⟨⟨c,p2,cs,hn,hc,hc',hp2,hp2',hl,hcs,rfl,rfl⟩⟩
  simp (maxSteps:=2000000)
  refine⟨fun h=> ?_,fun h=> ?_⟩
  · refine rQ _ _ _ _ rfl rfl rfl ⟨hb,by omega,by omega⟩ (fun s p3 _ hs hp3 hp3' => ?_) (by omega)
    simp (maxSteps:=2000000)
    refine rQ _ _ _ _ rfl rfl rfl ⟨hb,by omega,by omega⟩ (fun k0 p4 _ hk e hp4' => ?_) (by omega)
    simp (maxSteps:=2000000)
    refine Ao (ClsI2 bs x p4 c cs s k0) k0.toNat _ _
      (rJ (r:= [(0,0),(114,114),(106,106)]) ?_) ⟨k0,p4, [],by omega,by omega,by omega,by omega,by omega,by simp,by simp,rfl,rfl⟩ ?_
    · constructor
      ·simp
      ·simp
      ·simp
      ·simp
    · rintro n ts B ⟨⟨k,p5,fs,hn2,hk1,hk2,g,hp5',hfl,hft',rfl,rfl⟩⟩
      simp (maxSteps:=2000000)
      refine⟨fun h2=> ?_,fun h2=> ?_⟩
      · refine aT (by decide) [[], [0], [], [], [2,3], [4,2,3], [1,5,4,0,2,3], [0,1,2,3,4,5,6], [7,6,0,1,2,3,4,5]] [30,31,32,33,34,35,36,37,0] [0,1,2,3,4,5,6,7,8] (by kernel_rfl) ?_
        simp (maxSteps:=2000000) [aj,ah,ae,ai,ak,au,af]
        refine HY [] [] (Mf (2+x) (by omega) (by omega)) rfl rfl rfl ⟨hb,by omega,by omega⟩ ⟨⟨rfl,rfl,rfl⟩,rfl,trivial⟩ (by simp) (by rintro r ⟨x,rfl,_⟩;exact⟨rfl,by simp,rfl⟩) (by simp) rfl (fun r p6 hr h6 h6' => ?_)
        obtain⟨ft,rfl,hft⟩:=hr
        simp (maxSteps:=2000000) [aj,ah,ae,ai,ak,au,af]
        have wk:IntKind.i64.wrap (k - 1)=k - 1:=wr (by omega) (by omega)
        rw[wk]
        refine⟨⟨Nat.le_trans (by omega:_≤100) (by decide),by omega⟩,(k - 1).toNat,by omega,_,_,rJ (r:= [(0,0),(114,114),(106,106),(200,136)]) ?_,k - 1,p6,fs++ [ft],rfl,by omega,by omega,by omega,by omega,by simp;omega,by intro t ht;rcases List.mem_append.1 ht with h|h;exact hft' t h;exact List.mem_singleton.1 h▸hft,rfl,rfl⟩
        constructor<;>simp
        exact EN rfl
      · refine Ht 200 rfl rfl ?_
        simp (maxSteps:=2000000)
        have wk:IntKind.i64.wrap (c+1)=c+1:=wr (by omega) (by omega)
        rw[wk]
        refine⟨⟨Nat.le_trans (by omega:_≤100) (by decide),by omega⟩,(2+x - (c+1)).toNat,by omega,_,_,rJ (r:= [(0,0),(114,141)]) ?_,c+1,p5,cs++ [⟨s,fs⟩],rfl,by omega,by omega,by omega,by omega,by simp;omega,JP hcs (by omega) (by omega) (by omega) (by omega) hft',rfl,rfl⟩
        constructor<;>simp
        exact EN rfl
  · have e1:(cs.length:Int)=2+x:=by omega
    refine⟨_,_,rJ (r:= [(900,114),(0,0)]) ?_,(p2,cs),⟨by show p≤p2;omega,by show p2≤p+30;omega,by show 2≤cs.length;omega,by show cs.length≤5;omega,e1▸hcs⟩,rfl,rfl⟩
    constructor<;>simp
end Go.Proofs.Ytojpejfcafbafaa.V
end
section
namespace Go.Proofs.Ytojpejfcafbafaa.V
open Go Go.RowKit Go.Proofs.Ytojpejfcafbafaa.P
set_option linter.unusedVariables false
set_option linter.unusedSimpArgs false
def Rng (n:Int):Prop:= -1000000000≤n∧n≤1000000000
def IsI (x:T):Prop:= ∃n,x= .i n∧Rng n
def IsB (x:T):Prop:= ∃b,x= .b b
def rowOk (ps:List (T→Prop)) (xs:List T):Prop:=xs.length=ps.length∧∀(o:Nat) p x,ps[o]? =some p→xs[o]? =some x→p x
def IsR (e sz N:Nat) (ps:List (T→Prop)) (x:T):Prop:= ∃n f,x= .sl e sz n f∧n≤N∧∀j,j<n→rowOk ps (f j)
def Cl (e:Nat) (Y:T→T→Prop) (p:T→Prop):Prop:= ∀x y,p x→Hv e Y x y→p y
def Yk (Y:T→T→Prop) (ps:List (T→Prop)):Prop:= ∀p∈ps,∀x y,p x→Y x y→p y
section
variable {e:Nat} {Y:T→T→Prop}
theorem ym:Cl e Y IsI:=by rintro x y ⟨n,rfl,h⟩ hv;cases hv;exact⟨n,rfl,h⟩
theorem OQ:Cl e Y IsB:=by rintro x y ⟨n,rfl⟩ hv;cases hv;exact⟨n,rfl⟩
theorem ET {e' :Nat} {ps:List (T→Prop)} (h1: ∀p∈ps,Cl e Y p) (h2:e' =e→Yk Y ps) {xs ys:List T} (hr:rowOk ps xs) (hl:xs.length=ys.length) (h: ∀(o:Nat) (x y:T),xs[o]? =some x→ys[o]? =some y→¬(e' =e∧Y x y)→Hv e Y x y):rowOk ps ys:=by
  refine⟨by rw[←hl];exact hr.1,fun o p y hp hy=> ?_⟩
  obtain⟨x,hx⟩:=Ba hl hy
  have hpx:=hr.2 o p x hp hx
  by_cases hc:e' =e∧Y x y
  ·exact h2 hc.1 p (List.mem_of_getElem? hp) x y hpx hc.2
  ·exact h1 p (List.mem_of_getElem? hp) x y hpx (h o x y hx hy hc)
theorem H8 {e' sz N:Nat} {ps:List (T→Prop)} (h1: ∀p∈ps,Cl e Y p) (h2:e' =e→Yk Y ps):Cl e Y (IsR e' sz N ps):=by
  rintro x y ⟨n,f,rfl,hn,hr⟩ hv
  cases hv with
  |sl _ _ _ _ g hl h=>exact⟨n,g,rfl,hn,fun j hj=>ET h1 h2 (hr j hj) (hl j hj) fun o x y hx hy=>h j o x y hj hx hy⟩
end
theorem H9 {α:Type} (p:Nat→α→Prop): ∀n,(∀j,j<n→∃v,p j v)→∃l:List α,l.length=n∧∀(j:Nat) v,l[j]? =some v→p j v
  |0,_=>⟨[],rfl,by simp⟩
  | n + 1,h=>by
    obtain⟨l,h1,h2⟩:=H9 p n fun j hj=>h j (by omega)
    obtain⟨v,hv⟩:=h n (by omega)
    refine⟨l++ [v],by simp[h1],fun j x hx=> ?_⟩
    rcases Nat.lt_or_ge j l.length with hj|hj
    ·rw[List.getElem?_append_left hj]at hx;exact h2 j x hx
    · rw[List.getElem?_append_right hj]at hx
      have:j - l.length=0:=by
        rcases Nat.eq_zero_or_pos (j - l.length)with h|h
        ·exact h
        ·rw[List.getElem?_eq_none (by simp;omega)]at hx;cases hx
      rw[this]at hx;simp at hx;subst hx
      have:j=n:=by omega
      subst this;exact hv
def yL (xs ys:List T):Prop:=xs.length=ys.length∧∀(o:Nat) (x y:T),xs[o]? =some x→ys[o]? =some y→TEq x y
theorem yS {α:Type} {d:α} {en:α→List T} {ok:α→Prop} {ps:List (T→Prop)} (h: ∀xs,rowOk ps xs→∃v,ok v∧yL xs (en v)) {n:Nat} {f:Nat→List T} (hx: ∀j,j<n→rowOk ps (f j)):
    ∃l:List α,l.length=n∧vR n f (fl d en l)∧∀v∈l,ok v:=by
  obtain⟨l,h1,h2⟩:=H9 (fun j v=>ok v∧yL (f j) (en v)) n fun j hj=>h _ (hx j hj)
  refine⟨l,h1,fun j hj=> .inr ?_,fun v hv=> ?_⟩
  · have e1:l[j]? =some (l.getD j d):=by
      rw[List.getD_eq_getElem?_getD,List.getElem?_eq_getElem (by omega:j<l.length)];rfl
    exact(h2 j _ e1).2
  · obtain⟨j,hj⟩:=List.mem_iff_getElem?.1 hv
    exact(h2 j v hj).1
theorem Bg {α:Type} {d:α} {en:α→List T} {ok:α→Prop} {e sz N:Nat} {ps:List (T→Prop)} (h: ∀xs,rowOk ps xs→∃v,ok v∧yL xs (en v)) {x:T} (hx:IsR e sz N ps x):
    ∃l:List α,TEq x (.l e sz d en l)∧l.length≤N∧∀v∈l,ok v:=by
  obtain⟨n,f,rfl,hn,hr⟩:=hx
  obtain⟨l,rfl,h2,h3⟩:=yS (d:=d) (en:=en) h hr
  have hh: ∀j,j<l.length→yL (f j) (fl d en l j):=fun j hj=>by
    rcases h2 j hj with e|e
    ·rw[e];exact⟨rfl,fun o x y h1 h2=>by rw[h1]at h2;cases h2;exact .refl _⟩
    ·exact e
  exact⟨l, .sl _ _ _ _ _ (fun j hj=>(hh j hj).1) (fun j o x y hj hx hy=>(hh j hj).2 o x y hx hy),hn,h3⟩
theorem Bh {α:Type} {d:α} {en:α→List T} {ok:α→Prop} {e sz N:Nat} {ps:List (T→Prop)} (h: ∀v,ok v→rowOk ps (en v)) {l:List α} (hl:l.length≤N) (ho: ∀v∈l,ok v):IsR e sz N ps (.l e sz d en l):=
  ⟨_,_,rfl,hl,fun j hj=>h _ (ho _ (by
    rw[List.getD_eq_getElem?_getD,List.getElem?_eq_getElem hj];exact List.getElem_mem hj))⟩
abbrev xm (N:Nat):T→Prop:=IsR 3 1 N [IsI]
abbrev EU (N:Nat):T→Prop:=IsR 67 3 N [IsI,IsI,IsI]
abbrev Ia (N:Nat):T→Prop:=IsR 73 4 N [IsI,IsI,IsI,IsI]
abbrev pS (N:Nat):List (T→Prop):= [IsB,xm N,xm N]
abbrev Ib (N:Nat):T→Prop:=IsR 69 3 N (pS N)
abbrev pC (N:Nat):List (T→Prop):= [IsI,xm N]
abbrev Mh (N:Nat):T→Prop:=IsR 41 2 N (pC N)
abbrev pM (N:Nat):List (T→Prop):= [IsI,IsI,xm N,IsI,IsI,EU N,Ib N,Ia N]
def vB (N:Nat) (l:List Int):Prop:=l.length≤N∧∀t∈l,Rng t
def kI (x:S67):Prop:=Rng x.f0∧Rng x.f1∧Rng x.f2
def kK (x:S73):Prop:=Rng x.f0∧Rng x.f1∧Rng x.f2∧Rng x.f3
def kS (N:Nat) (x:S69):Prop:=vB N x.f1∧vB N x.f2
def kC (N:Nat) (x:S41):Prop:=Rng x.f0∧vB N x.f1
structure kM (N:Nat) (x:S35):Prop where
  a0:Rng x.f0
  a1:Rng x.f1
  a2:vB N x.f2
  a3:Rng x.f3
  a4:Rng x.f4
  a5:x.f5.length≤N∧∀v∈x.f5,kI v
  a6:x.f6.length≤N∧∀v∈x.f6,kS N v
  a7:x.f7.length≤N∧∀v∈x.f7,kK v
theorem rq {p:T→Prop} {ps:List (T→Prop)} {xs:List T}:rowOk (p::ps) xs↔∃x l,xs=x::l∧p x∧rowOk ps l:=by
  constructor
  · rintro⟨h1,h2⟩
    cases xs with
    |nil=>simp at h1
    |cons x l=>exact⟨x,l,rfl,h2 0 p x rfl rfl,by simpa using h1,fun o q y h3 h4=>h2 (o+1) q y (by simpa using h3) (by simpa using h4)⟩
  · rintro⟨x,l,rfl,h1,h2,h3⟩
    refine⟨by simp[h2],fun o q y h4 h5=> ?_⟩
    cases o with
    |zero=>simp at h4 h5;subst h4;subst h5;exact h1
    |succ o=>exact h3 o q y (by simpa using h4) (by simpa using h5)
theorem rP {xs:List T}:rowOk [] xs↔xs= []:=⟨fun h=>List.length_eq_zero_iff.1 h.1,by rintro rfl;exact⟨rfl,by simp⟩⟩
theorem lK {x y:T} {xs ys:List T} (h:TEq x y) (h2:yL xs ys):yL (x::xs) (y::ys):=
  ⟨by simp[h2.1],fun o a b h3 h4=>by
    cases o with
    |zero=>simp at h3 h4;subst h3;subst h4;exact h
    |succ o=>exact h2.2 o a b (by simpa using h3) (by simpa using h4)⟩
theorem xV:yL [] []:=⟨rfl,by simp⟩
theorem zo {N:Nat} {x:T} (h:xm N x): ∃l,TEq x (.ints l)∧vB N l:=by
  obtain⟨l,h1,h2,h3⟩:=Bg (d:=(0:Int)) (en:=ei) (ok:=Rng) (fun xs hx=>by
    simp only[rq,rP]at hx
    obtain⟨x,_,rfl,⟨n,rfl,hn⟩,rfl⟩:=hx
    exact⟨n,hn,lK (.refl _) xV⟩) h
  exact⟨l,h1,h2,h3⟩
theorem tH {N:Nat} {l:List Int} (h:vB N l):xm N (.ints l):=Bh (ok:=Rng) (fun v hv=>by
  simp only[ei,rq,rP];exact⟨_,_,rfl,⟨v,rfl,hv⟩,rfl⟩) h.1 h.2
theorem NU {N:Nat} {x:T} (h:EU N x): ∃l,TEq x (tI l)∧l.length≤N∧∀v∈l,kI v:=Bg (ok:=kI) (fun xs hx=>by
  simp only[rq,rP]at hx
  obtain⟨_,_,rfl,⟨a,rfl,ha⟩,_,_,rfl,⟨b,rfl,hb⟩,_,_,rfl,⟨c,rfl,hc⟩,rfl⟩:=hx
  exact⟨⟨a,b,c⟩,⟨ha,hb,hc⟩,lK (.refl _) (lK (.refl _) (lK (.refl _) xV))⟩) h
theorem yT {N:Nat} {l:List S67} (hl:l.length≤N) (h: ∀v∈l,kI v):EU N (tI l):=Bh (ok:=kI) (fun v hv=>by
  simp only[eI,rq,rP];exact⟨_,_,rfl,⟨_,rfl,hv.1⟩,_,_,rfl,⟨_,rfl,hv.2.1⟩,_,_,rfl,⟨_,rfl,hv.2.2⟩,rfl⟩) hl h
theorem ML {N:Nat} {x:T} (h:Ia N x): ∃l,TEq x (tK l)∧l.length≤N∧∀v∈l,kK v:=Bg (ok:=kK) (fun xs hx=>by
  simp only[rq,rP]at hx
  obtain⟨_,_,rfl,⟨a,rfl,ha⟩,_,_,rfl,⟨b,rfl,hb⟩,_,_,rfl,⟨c,rfl,hc⟩,_,_,rfl,⟨d,rfl,hd⟩,rfl⟩:=hx
  exact⟨⟨a,b,c,d⟩,⟨ha,hb,hc,hd⟩,lK (.refl _) (lK (.refl _) (lK (.refl _) (lK (.refl _) xV)))⟩) h
theorem AA {N:Nat} {l:List S73} (hl:l.length≤N) (h: ∀v∈l,kK v):Ia N (tK l):=Bh (ok:=kK) (fun v hv=>by
  simp only[eK,rq,rP];exact⟨_,_,rfl,⟨_,rfl,hv.1⟩,_,_,rfl,⟨_,rfl,hv.2.1⟩,_,_,rfl,⟨_,rfl,hv.2.2.1⟩,_,_,rfl,⟨_,rfl,hv.2.2.2⟩,rfl⟩) hl h
theorem Oq {N:Nat} {x:T} (h:Ib N x): ∃l,TEq x (tS l)∧l.length≤N∧∀v∈l,kS N v:=Bg (ok:=kS N) (fun xs hx=>by
  simp only[rq,rP]at hx
  obtain⟨_,_,rfl,⟨a,rfl⟩,_,_,rfl,hb,_,_,rfl,hc,rfl⟩:=hx
  obtain⟨b,h1,h2⟩:=zo hb
  obtain⟨c,h3,h4⟩:=zo hc
  exact⟨⟨a,b,c⟩,⟨h2,h4⟩,lK (.refl _) (lK h1 (lK h3 xV))⟩) h
theorem BO {N:Nat} {l:List S69} (hl:l.length≤N) (h: ∀v∈l,kS N v):Ib N (tS l):=Bh (ok:=kS N) (fun v hv=>by
  simp only[eS,rq,rP];exact⟨_,_,rfl,⟨_,rfl⟩,_,_,rfl,tH hv.1,_,_,rfl,tH hv.2,rfl⟩) hl h
theorem Mi {N:Nat} (xs:List T) (hx:rowOk (pC N) xs): ∃v,kC N v∧yL xs (eC v):=by
  simp only[rq,rP]at hx
  obtain⟨_,_,rfl,⟨a,rfl,ha⟩,_,_,rfl,hb,rfl⟩:=hx
  obtain⟨b,h1,h2⟩:=zo hb
  exact⟨⟨a,b⟩,⟨ha,h2⟩,lK (.refl _) (lK h1 xV)⟩
theorem JV {N:Nat} (v:S41) (hv:kC N v):rowOk (pC N) (eC v):=by
  simp only[eC,rq,rP];exact⟨_,_,rfl,⟨_,rfl,hv.1⟩,_,_,rfl,tH hv.2,rfl⟩
theorem Ot {N:Nat} {x:T} (h:Mh N x): ∃l,TEq x (tC l)∧l.length≤N∧∀v∈l,kC N v:=Bg (ok:=kC N) Mi h
theorem Ou {N:Nat} {l:List S41} (hl:l.length≤N) (h: ∀v∈l,kC N v):Mh N (tC l):=Bh (ok:=kC N) JV hl h
theorem Mj {N:Nat} (xs:List T) (hx:rowOk (pM N) xs): ∃v,kM N v∧yL xs (eM v):=by
  simp only[rq,rP]at hx
  obtain⟨_,_,rfl,⟨a,rfl,ha⟩,_,_,rfl,⟨b,rfl,hb⟩,_,_,rfl,hc,_,_,rfl,⟨d,rfl,hd⟩,_,_,rfl,⟨e,rfl,he⟩,_,_,rfl,hf,_,_,rfl,hg,_,_,rfl,hh,rfl⟩:=hx
  obtain⟨c,c1,c2⟩:=zo hc
  obtain⟨f,f1,f2⟩:=NU hf
  obtain⟨g,g1,g2⟩:=Oq hg
  obtain⟨h,h1,h2⟩:=ML hh
  exact⟨⟨a,b,c,d,e,f,g,h⟩,⟨ha,hb,c2,hd,he,f2,g2,h2⟩,lK (.refl _) (lK (.refl _) (lK c1 (lK (.refl _) (lK (.refl _) (lK f1 (lK g1 (lK h1 xV)))))))⟩
theorem wG {N:Nat} (v:S35) (hv:kM N v):rowOk (pM N) (eM v):=by
  simp only[eM,rq,rP]
  exact⟨_,_,rfl,⟨_,rfl,hv.a0⟩,_,_,rfl,⟨_,rfl,hv.a1⟩,_,_,rfl,tH hv.a2,_,_,rfl,⟨_,rfl,hv.a3⟩,_,_,rfl,⟨_,rfl,hv.a4⟩,_,_,rfl,yT hv.a5.1 hv.a5.2,_,_,rfl,BO hv.a6.1 hv.a6.2,_,_,rfl,AA hv.a7.1 hv.a7.2,rfl⟩
section
variable {e:Nat} {Y:T→T→Prop} {N:Nat}
structure Wok (N e:Nat) (Y:T→T→Prop):Prop where
  i:3=e→Yk Y [IsI]
  n:67=e→Yk Y [IsI,IsI,IsI]
  k:73=e→Yk Y [IsI,IsI,IsI,IsI]
  s:69=e→Yk Y (pS N)
  c:41≠e
  m:35≠e
  u:Fs 5 e
theorem vV {p:(T→Prop)→Prop} {a:T→Prop} {l:List (T→Prop)} (h:p a) (h2: ∀q∈l,p q): ∀q∈a::l,p q:=fun q hq=>by
  rcases List.mem_cons.1 hq with e|h
  ·rw[e];exact h
  ·exact h2 q h
theorem FO {p:(T→Prop)→Prop}: ∀q∈([]:List (T→Prop)),p q:=fun q hq=>by simp at hq
theorem Dc (h:Wok N e Y):Cl e Y (xm N):=H8 (vV ym FO) h.i
theorem NV (h:Wok N e Y):Cl e Y (EU N):=H8 (vV ym (vV ym (vV ym FO))) h.n
theorem Ov (h:Wok N e Y):Cl e Y (Ia N):=H8 (vV ym (vV ym (vV ym (vV ym FO)))) h.k
theorem Ow (h:Wok N e Y):Cl e Y (Ib N):=H8 (vV OQ (vV (Dc h) (vV (Dc h) FO))) h.s
theorem MM (h:Wok N e Y): ∀p∈pC N,Cl e Y p:=vV ym (vV (Dc h) FO)
theorem Ox (h:Wok N e Y):Cl e Y (Mh N):=H8 (MM h) fun x=>absurd x h.c
theorem MN (h:Wok N e Y): ∀p∈pM N,Cl e Y p:=vV ym (vV ym (vV (Dc h) (vV ym (vV ym (vV (NV h) (vV (Ow h) (vV (Ov h) FO)))))))
def stC:C→Bool
  | .t (.s _)| .nil| .own _ _ _| .ptr _ _ _| .dead=>true
  |_=>false
def stA:V→Bool
  | .c x=>stC x
  | .agg xs=>xs.all stC
  | .dead=>true
  | .tup _=>false
def JW:Nat→List V→Bool
  |_, []=>true
  |0,_::l=>l.all stA
  |i+1,x::l=>stA x && JW i l
theorem EW {x y:C} (h:HvC e Y x y) (hs:stC x=true):y=x:=by
  cases x with
  | t a=>
    cases a with
    | s v => cases y<;>simp only[HvC]at h
             cases h;rfl
    |_=>simp[stC]at hs
  |nil=>cases y<;>simp_all [HvC]
  |own k s n=>cases y<;>simp_all [HvC]
  |ptr k i o=>cases y<;>simp_all [HvC]
  |dead=>cases y<;>simp_all [HvC]
  |tp a b=>simp[stC]at hs
theorem FP: ∀ {xs ys:List C},AX e Y xs ys→xs.all stC=true→ys=xs
  | [], [],_,_=>rfl
  | x::xs,y::ys,h,hs=>by
    simp only[List.all_cons,Bool.and_eq_true]at hs
    rw[EW h.1 hs.1,FP h.2 hs.2]
  | [],_::_,h,_=>by cases h
  |_::_, [],h,_=>by cases h
theorem NW {x y:V} (h:HvA e Y x y) (hs:stA x=true):y=x:=by
  cases x with
  | c a => cases y<;>simp only[HvA]at h
           rw[EW h hs]
  | agg xs => cases y<;>simp only[HvA]at h
              rw[FP h hs]
  |dead=>cases y<;>simp_all [HvA]
  |tup _=>simp[stA]at hs
theorem La {x y:V} (h:HvV e Y x y) (hs:stA x=true):y=x:=by
  cases x with
  |tup _=>simp[stA]at hs
  |_=>exact NW (by simpa only[HvV] using h) hs
theorem FQ: ∀ {xs ys:List V},y9 e Y xs ys→xs.all stA=true→ys=xs
  | [], [],_,_=>rfl
  | x::xs,y::ys,h,hs=>by
    simp only[List.all_cons,Bool.and_eq_true]at hs
    rw[La h.1 hs.1,FQ h.2 hs.2]
  | [],_::_,h,_=>by cases h
  |_::_, [],h,_=>by cases h
theorem BP: ∀(i:Nat) {xs ys:List V},y9 e Y xs ys→JW i xs=true→∃y,ys=xs.set i y
  |i, [], [],_,_=>⟨.dead,by simp⟩
  |0,x::xs,y::ys,h,hs=>⟨y,by rw[FQ h.2 hs];rfl⟩
  | i+1,x::xs,y::ys,h,hs=>by
    simp only[JW,Bool.and_eq_true]at hs
    obtain⟨z,hz⟩:=BP i h.2 hs.2
    exact⟨z,by rw[La h.1 hs.1,hz];rfl⟩
  |_, [],_::_,h,_=>by cases h
  |_,_::_, [],h,_=>by cases h
theorem AB: ∀(m:List Bool) {xs ys:List V},y9 e Y xs ys→y9 e Y (dh m xs) (dh m ys)
  |m, [], [],_=>by cases m<;>trivial
  | [],x::xs,y::ys,h=>⟨trivial,AB [] h.2⟩
  |true::m,x::xs,y::ys,h=>⟨h.1,AB m h.2⟩
  |false::m,x::xs,y::ys,h=>⟨trivial,AB m h.2⟩
  |_, [],_::_,h=>by cases h
  |_,_::_, [],h=>by cases h
theorem Ni {m:List Bool} {xs ys:List V} (h:y9 e Y xs ys) (hs:(dh m xs).all stA=true):dh m ys=dh m xs:=FQ (AB m h) hs
theorem sI {k:Nat} {x:Option Blk} {l B' :Bs} (h:ze e Y ((k,x)::l) B'): ∃y l',B' =(k,y)::l' ∧HvO e Y x y∧ze e Y l l' :=by
  cases B' with
  |nil=>cases h
  |cons p l' =>obtain⟨k',y⟩:=p;obtain⟨rfl,h1,h2⟩:=h;exact⟨y,l',rfl,h1,h2⟩
theorem xO {B' :Bs} (h:ze e Y [] B'):B' = []:=by cases B' with|nil=>rfl|cons _ _=>cases h
theorem zM {y:Option Blk} (h:HvO e Y none y):y=none:=by cases y with|none=>rfl|some _=>cases h
theorem yF {b:Blk} {y:Option Blk} (h:HvO e Y (some b) y): ∃b',y=some b' ∧HvB e Y b b' :=by cases y with|none=>cases h|some b' =>exact⟨b',rfl,h⟩
theorem De {t:Nat} {cs:List C} {b' :Blk} (h:HvB e Y (.box t cs) b'): ∃cs',b' = .box t cs' ∧AX e Y cs cs' :=by
  cases b' with
  |box t' cs' =>obtain⟨rfl,h⟩:=h;exact⟨cs',rfl,h⟩
  |row=>cases h
theorem yU {x:C} {xs cs' :List C} (h:AX e Y (x::xs) cs'): ∃y ys,cs' =y::ys∧HvC e Y x y∧AX e Y xs ys:=by
  cases cs' with
  |nil=>cases h
  |cons y ys=>exact⟨y,ys,rfl,h.1,h.2⟩
theorem Eh {cs' :List C} (h:AX e Y [] cs'):cs' = []:=by cases cs' with|nil=>rfl|cons _ _=>cases h
theorem JX {x:T} {y:C} (h:HvC e Y (.t x) y): ∃z,y= .t z∧Hv e Y x z:=by cases y<;>simp only[HvC]at h;exact⟨_,rfl,h⟩
theorem Jk: ∀ {xs:List T} {cs' :List C},AX e Y (xs.map .t) cs' →∃ys:List T,cs' =ys.map .t∧xs.length=ys.length∧∀(o:Nat) x y,xs[o]? =some x→ys[o]? =some y→Hv e Y x y
  | [],cs',h=>⟨[],by rw[Eh h];rfl,rfl,by simp⟩
  | x::xs,cs',h=>by
    obtain⟨y,ys,rfl,h1,h2⟩:=yU h
    obtain⟨z,rfl,h3⟩:=JX h1
    obtain⟨zs,rfl,h4,h5⟩:=Jk h2
    refine⟨z::zs,rfl,by simp[h4],fun o a b ha hb=> ?_⟩
    cases o with
    |zero=>simp at ha hb;subst ha;subst hb;exact h3
    |succ o=>exact h5 o a b (by simpa using ha) (by simpa using hb)
theorem Jl {e1 s n:Nat} {f:Nat→List T} {b' :Blk} (h:HvB e Y (.row e1 s n f) b'): ∃g,b' = .row e1 s n g∧(∀j,j<n→(f j).length=(g j).length)∧∀(j o:Nat) (x y:T),j<n→(f j)[o]? =some x→(g j)[o]? =some y→Hv e Y x y:=by
  cases b' with
  |row e2 s' n' g=>obtain⟨rfl,rfl,rfl,h1,h2⟩:=h;exact⟨g,rfl,h1,h2⟩
  |box=>cases h
theorem Nj {x y:T} (h:Hv e Y x y) (hn:NoTy e x):TEq x y:=by
  induction h with
  |s v=>exact .refl _
  |mp es n=>exact .refl _
  | sl e' sz n f g hl hh ih=>
    cases hn with
    | sl _ _ _ _ hne hc=>
      refine .sl _ _ _ _ _ hl fun j o x y hj hx hy=> ?_
      have hno: ¬(e' =e∧Y x y):=fun hx=>hne.1 hx.1
      exact ih j o x y hj hx hy hno (hc j o x hj hx)
theorem TEq.symm {x y:T} (h:TEq x y):TEq y x:=by
  induction h with
  |refl=>exact .refl _
  |sl e sz n f g hl hh ih=>exact .sl _ _ _ _ _ (fun j hj=>(hl j hj).symm) fun j o x y hj hx hy=>ih j o y x hj hy hx
theorem Lb {bs:List Int} {p:Int} (hu:Fs 5 e) {y:Option Blk} (h:HvO e Y (some (rdB bs p)) y): ∃x1,y=some (.box 58 [.t x1, .t (.i p)])∧TEq x1 (.sl 5 1 bs.length (fl 0 eb bs)):=by
  obtain⟨b',rfl,h3⟩:=yF h
  obtain⟨cs',rfl,h4⟩:=De h3
  obtain⟨y,ys,rfl,h1,h5⟩:=yU h4
  obtain⟨z,rfl,h1⟩:=JX h1
  obtain⟨y2,ys,rfl,h2,h6⟩:=yU h5
  rw[EW h2 rfl,Eh h6]
  refine⟨z,rfl,(Nj h1 (yR hu fun j x hx=> ?_)).symm⟩
  simp only[fl,eb,List.mem_singleton]at hx;subst hx;exact .s _
theorem NY (hw:Wok N e Y) {cs:List S41} (hc: ∀c∈cs,kC N c) {y:Option Blk} (h:HvO e Y (some (.row 41 2 cs.length (fl z41 eC cs))) y):
    ∃g cs',y=some (.row 41 2 cs.length g)∧vR cs.length g (fl z41 eC cs')∧cs'.length=cs.length∧∀c∈cs',kC N c:=by
  obtain⟨b',rfl,h⟩:=yF h
  obtain⟨g,rfl,h1,h2⟩:=Jl h
  have hin: ∀j,j<cs.length→cs.getD j z41∈cs:=fun j hj=>by rw[List.getD_eq_getElem?_getD,List.getElem?_eq_getElem hj];exact List.getElem_mem hj
  obtain⟨l,h3,h4,h5⟩:=yS (d:=z41) (en:=eC) Mi (n:=cs.length) (f:=g) fun j hj=>ET (e' :=41) (MM hw) (fun x=>absurd x hw.c) (JV _ (hc _ (hin j hj))) (h1 j hj) fun o x y hx hy _=>h2 j o x y hj hx hy
  exact⟨g,l,rfl,h4,h3,h5⟩
theorem NZ (hw:Wok N e Y) {ms:List S35} (hc: ∀c∈ms,kM N c) {y:Option Blk} (h:HvO e Y (some (.row 35 8 ms.length (fl z35 eM ms))) y):
    ∃g ms',y=some (.row 35 8 ms.length g)∧vR ms.length g (fl z35 eM ms')∧ms'.length=ms.length∧∀c∈ms',kM N c:=by
  obtain⟨b',rfl,h⟩:=yF h
  obtain⟨g,rfl,h1,h2⟩:=Jl h
  have hin: ∀j,j<ms.length→ms.getD j z35∈ms:=fun j hj=>by rw[List.getD_eq_getElem?_getD,List.getElem?_eq_getElem hj];exact List.getElem_mem hj
  obtain⟨l,h3,h4,h5⟩:=yS (d:=z35) (en:=eM) Mj (n:=ms.length) (f:=g) fun j hj=>ET (e' :=35) (MN hw) (fun x=>absurd x hw.m) (wG _ (hc _ (hin j hj))) (h1 j hj) fun o x y hx hy _=>h2 j o x y hj hx hy
  exact⟨g,l,rfl,h4,h3,h5⟩
theorem Oy (hw:Wok N e Y) {m:S35} (hm:kM N m) {y:Option Blk} (h:HvO e Y (some (.box 35 ((eM m).map .t))) y):
    ∃ys v,y=some (.box 35 (ys.map .t))∧kM N v∧yL ys (eM v):=by
  obtain⟨b',rfl,h5⟩:=yF h
  obtain⟨cs',rfl,h6⟩:=De h5
  obtain⟨ys,rfl,h1,h2⟩:=Jk h6
  obtain⟨v,h3,h4⟩:=Mj ys (ET (e' :=35) (MN hw) (fun x=>absurd x hw.m) (wG m hm) h1 fun o x y hx hy _=>h2 o x y hx hy)
  exact⟨ys,v,rfl,h3,h4⟩
end
theorem Df {P:Program} {ins:Bs} {ops:Array Oper} {pt:List (List Nat)} {ds:List Nat} {K:List V→Bs→Prop} {ms:List Mv} {l3:List Nat} {ts:List V} {B:Bs} (m:List Bool) (val:List (Nat×V)) (ub:List (Nat×Option Blk)) (hw:Wk ins (idR B) (dh m ts) B (puts (dh m ts) val) (dE B ub))
    (h:y8 P ops pt ds K l3 [] (xN ms (rM ms (puts (dh m ts) val))) (dE B ub)):Md P ins ops pt ds K ms l3 ts B:=⟨_,_,zn m _ rfl hw,h⟩
theorem Dg {e:Nat} {Y:T→T→Prop} {P:Program} {ins:Bs} {ops:Array Oper} {pt:List (List Nat)} {ds:List Nat} {K:List V→Bs→Prop} {ms:List Mv} {l3:List Nat} {ts ts' :List V} {B:Bs} (hts:y9 e Y ts ts') (m:List Bool) (hs:(dh m ts).all stA=true) (val:List (Nat×V)) (ub:List (Nat×Option Blk)) (hw:Wk ins (idR B) (dh m ts) B (puts (dh m ts) val) (dE B ub))
    (h:y8 P ops pt ds K l3 [] (xN ms (rM ms (puts (dh m ts) val))) (dE B ub)):Md P ins ops pt ds K ms l3 ts' B:=by
  have:=Ni hts hs
  exact Df m val ub (by rw[this];exact hw) (by rw[this];exact h)
end Go.Proofs.Ytojpejfcafbafaa.V
end
section
namespace Go.Proofs.Ytojpejfcafbafaa.V
open Go Go.RowKit Go.Proofs.Ytojpejfcafbafaa.P
set_option linter.unusedVariables false
set_option linter.unusedSimpArgs false
attribute [local simp ↓] eG eH fQ fT eO dM fZ eP eQ gm gp gq dN dO dP gB gz gG gF dQ bW dV cz dJ dR eT eU eX
attribute [local simp] fU fV dK bR eF dL bS bT bU bV bM bN dS eY dU bX bY bZ cu bO fD lM iL dz iw evl dI eZ fu kD iX List.range List.range.loop lT kX fo fB iC iA Bs.live Bs.get lN WkV WkA WkC lg lH kY lD cZ iM TEq.refl bg fH qQ aF aG aD aH aI aJ ei d9 splice dE Bs.set kU fC Rn.at gu gy iF iD lL chunks lC fP toT fE iE rowsOf cB ik plR plV plC lF lI lQ lh fI iR lU
attribute [local simp] List.length_pos_iff qR qU iG iH iI puts dh
attribute [local simp ←] ig
attribute [local simp] wu wL wO wN wM ksL ru ksV rV ksC ksT ren kr rO rH dw tZ uf ug qY qZ rf bsC wF bsV vJ uo uX uY uq ut uu uw sO sP sQ sS sU r9 sV fF dW dx iW iB iO iQ lS rG closedB iT kP kG kH kJ kL iJ kN
attribute [local simp] ag3 un3 sz3 in3 by3 ze3 ct3 zt3 zu3 ag4 un4 sz4 in4 by4 ze4 ct4 zt4 zu4 ag5 un5 sz5 in5 by5 ze5 ct5 zt5 zu5 mi mq mD mE mF mG mH mI mJ io3 mK io5 bo4 mM mO mP mQ mR mU mV mW mX mY mZ ng ni nk nu ny nz nA nC nD nE nG nH nI nJ nK nL nM nN nO nP nQ nR nS nT nU nV nW nX nY nZ oh ol om oo oq ou ow oz oC oD oF oG oH oI oJ oK oL oM oN oO oP oQ oU oV oW oZ o6 o7 o8 iZ ja jb jc jd je jf jg jh ji jk jl jm jo jq jr jv jw jy jA o9 pg pu pz pE pF pG pI pJ pK jB jC jD jE jF jG jH jI jJ jK jL jM jN jO jP jQ jR jS jT jU jV jW jX jY jZ kg ko mz gH gI gJ gK gL gN gP gQ gT gU gV gW gX gY gZ ib pO pQ pR pU pV pW pX pY p9 qa qb qc qd qf qg qh qi qj ql qm qo qp qw qx qy qz qA qB qC qD qE qF qG qH qI qJ qK qL qM qN qO qP mix
attribute [local simp] eb eC eI eS eK eM nm
theorem Oz {cs:List S41} (h:Bc cs.length cs) (hl:cs.length≤5): ∀c∈cs,kC 20 c:=fun c hc=>by
  obtain⟨i,hi⟩:=List.mem_iff_getElem?.1 hc
  have hil:=(List.getElem?_eq_some_iff.1 hi).1
  obtain⟨h1,h2,h3,h4,h5⟩:=h i c hi
  refine⟨?_,by omega,fun t ht=> ?_⟩
  · rcases Nat.eq_zero_or_pos i with h0|h0
    ·rw[h1 h0];exact⟨by decide,by decide⟩
    · have:=h3 h0
      exact⟨by omega,by omega⟩
  · have:=h5 t ht
    unfold xR at this
    exact⟨by omega,by omega⟩
theorem tX {α:Type} {d:α} {en:α→List T} {ok:α→Prop} {ps:List (T→Prop)} (h: ∀v,ok v→rowOk ps (en v)) {l:List α} (ho: ∀v∈l,ok v) {j:Nat} (hj:j<l.length):rowOk ps (fl d en l j):=
  h _ (ho _ (by rw[List.getD_eq_getElem?_getD,List.getElem?_eq_getElem hj];exact List.getElem_mem hj))
theorem uH {ps:List (T→Prop)} {n k:Nat} {f:Nat→List T} {r:List T} (h: ∀j,j<n→rowOk ps (f j)) (hr:rowOk ps r): ∀j,j<n→rowOk ps (iE f k r j):=fun j hj=>by
  unfold iE
  split
  ·exact hr
  ·exact h j hj
theorem EX {N:Nat} {a b:T} (ha:IsI a) (hb:xm N b):rowOk (pC N) [a,b]:=by
  simp only[rq,rP];exact⟨_,_,rfl,ha,_,_,rfl,hb,rfl⟩
theorem Dh {ps:List (T→Prop)} {n m:Nat} {f g:Nat→List T} (h: ∀j,j<n→rowOk ps (f j)) (hg: ∀j,j<m→rowOk ps (g j)): ∀j,j<n+m→rowOk ps (uk n f g j):=fun j hj=>by
  unfold uk
  split
  ·rename_i h1;exact h j h1
  ·exact hg _ (by omega)
theorem Nk {ps:List (T→Prop)} {z:List T} {m:Nat} {rows:List (List T)} (hm:rows.length=m) (h: ∀r∈rows,rowOk ps r): ∀j,j<m→rowOk ps (fE z rows j):=fun j hj=>by
  subst hm
  unfold fE
  rw[List.getD_eq_getElem?_getD,List.getElem?_eq_getElem hj]
  exact h _ (List.getElem_mem hj)
theorem zq {bs:List Int} {p p' :Int} {n N q:Nat} {f:Nat→List T} {B:Bs} (h1:p≤p') (h2:p' ≤p+50) (h3:1≤n) (h4:n≤20) (hq:q≠0) (hf: ∀j,j<n→rowOk (pC 20) (f j)) (hB0:B.live 0=some (rdB bs p')) (hB1:B.live q=some (.row 41 2 N f)):
    yl [(0,some (rdB bs p)),(1000000003,none)] (ExR (fun(a:Int×List S41)=>p≤a.1∧a.1≤p+50∧1≤a.2.length∧a.2.length≤20∧∀c∈a.2,kC 20 c) (fun a=> .c (.t (tC a.2))) (fun a=> [(0,some (rdB bs a.1))])) (.c (.own q 2 n)) B:=by
  obtain⟨cs',e1,e2,e3⟩:=yS (d:=z41) (en:=eC) Mi hf
  refine⟨_,_,rJ (r:= [(0,0)]) ?_,(p',cs'),⟨h1,h2,by show 1≤cs'.length;omega,by show cs'.length≤20;omega,e3⟩,rfl,rfl⟩
  have q0:(B.get 0).join=some (rdB bs p'):=hB0
  have q1:(B.get q).join=some (.row 41 2 N f):=hB1
  constructor<;>simp -implicitDefEqProofs [q0,q1,e1]
  exact⟨hq,e2⟩
set_option maxRecDepth 20000 in
set_option maxHeartbeats 4000000 in
theorem N7 (bs:List Int) (p:Int) (hb:zf bs) (h0:0≤p) (h1:p+50≤1000000000):H7 Try.prog 43 [.c (.ptr 0 0 0)] [(0,some (rdB bs p))] (fun(a:Int×List S41)=>p≤a.1∧a.1≤p+50∧1≤a.2.length∧a.2.length≤20∧∀c∈a.2,kC 20 c)
    (fun a=> .c (.t (tC a.2))) (fun a=> [(0,some (rdB bs a.1))]):=by
  refine Jg [3] ?_ ?_ ?_ ?_
  ·simp[okA,okC]
  · intro q hq b hb2
    simp at hq;subst hq;cases hb2
    refine⟨rfl, ?_⟩
    intro x hx
    simp only[List.mem_cons,List.not_mem_nil,or_false]at hx
    rcases hx with rfl|rfl
    ·exact fun e he=>by
        simp at he;subst he
        exact yR (by decide) fun j x hx=>by simp only[fl,eb,List.mem_singleton]at hx;subst hx;exact .s _
    ·exact fun e he=> .s _
  ·simp
  refine bF Try.func43 rfl rfl rfl ?_
  simp -implicitDefEqProofs (maxSteps:=2000000) [lJ,sG]
  refine Eg [] (IW bs p hb h0 (by omega)) rfl rfl rfl rfl ?_ ?_ ?_ ?_ ?_ ?_ ?_ ?_
  ·simp
  ·simp
  ·simp
  ·simp
  ·simp
  ·simp
  ·intro a ha;constructor<;>constructor<;>simp
  rintro⟨p1,cs⟩ ⟨hp1,hp2,hl,hl',hcs⟩
  simp -implicitDefEqProofs (maxSteps:=2000000)
  refine rQ _ _ _ _ rfl rfl rfl ⟨hb,by simp at hp1;omega,by simp at hp2;omega⟩ (fun x p2 _ hx hx1 hx2=> ?_) (by omega)
  simp -implicitDefEqProofs (maxSteps:=2000000)
  have hp1:p≤p1:=hp1
  have hp2:p1≤p+30:=hp2
  have hl:2≤cs.length:=hl
  have hl' :cs.length≤5:=hl'
  have hk: ∀c∈cs,kC 20 c:=Oz hcs hl'
  by_cases hx0:0<x
  · simp -implicitDefEqProofs (maxSteps:=2000000) [hx0]
    refine⟨_,_,rJ (r:= [(0,0)]) ?_,(p2,cs),⟨by show p≤p2;omega,by show p2≤p+50;omega,by show 1≤cs.length;omega,by show cs.length≤20;omega,hk⟩,rfl,rfl⟩
    constructor<;>simp
  simp -implicitDefEqProofs (maxSteps:=2000000) [hx0]
  refine rQ _ _ _ _ rfl rfl rfl ⟨hb,by omega,by omega⟩ (fun k p3 _ hk1 hp3 hp3' => ?_) (by omega)
  simp -implicitDefEqProofs (maxSteps:=2000000)
  refine rQ _ _ _ _ rfl rfl rfl ⟨hb,by omega,by omega⟩ (fun y p4 _ hy u hp4' => ?_) (by omega)
  simp -implicitDefEqProofs (maxSteps:=2000000)
  have hrow: ∀j,j<cs.length→rowOk (pC 20) (fl z41 eC cs j):=fun j hj=>tX JV hk hj
  have hkk:k.toNat<cs.length:=by omega
  have hg:kC 20 (gd z41 cs k.toNat):=hk _ (by
    show cs.getD _ _∈cs
    rw[List.getD_eq_getElem?_getD,List.getElem?_eq_getElem hkk];exact List.getElem_mem hkk)
  have hf2:(gd z41 cs k.toNat).f1.length≤2:=by
    have e:cs[k.toNat]? =some (gd z41 cs k.toNat):=by
      show _=some (cs.getD _ _)
      rw[List.getD_eq_getElem?_getD,List.getElem?_eq_getElem hkk];rfl
    exact(hcs _ _ e).2.2.2.1
  by_cases hy0:y=0
  · subst hy0
    simp -implicitDefEqProofs (maxSteps:=2000000)
    refine rQ _ _ _ _ rfl rfl rfl ⟨hb,by omega,by omega⟩ (fun z p5 _ hz d hp5' => ?_) (by omega)
    simp -implicitDefEqProofs (maxSteps:=2000000)
    have wz:wrap64 (z - 1)=z - 1:=by unfold wrap64;omega
    rw[wz]
    exact⟨by omega,zq (by omega) (by omega) (by omega) (by omega) (by decide) (uH hrow (EX ⟨_,rfl,by omega,by omega⟩ (tH hg.2))) rfl rfl⟩
  by_cases hy1:y=1
  · subst hy1
    simp -implicitDefEqProofs (maxSteps:=2000000)
    refine yE (by decide) [[], [], [], [], [2,3], [4,2,3], [5,4,2,3], [], [], [8], [7,9,8], [10,7,9,8], [11,10,7,9,8], [6,12,9,5,4,2,3,11,10,7,8], [0,1,2,3,4,5,6,7,8,9,10,11,12,13], [14,0,1,2,3,4,5,6,7,8,9,10,11,12,13], [15,13,0,1,2,3,4,5,6,7,8,9,10,11,12,14]] [32,33,34,35,36,37,38,39,40,41,42,43,44,45,46,47,0] [2,3,4,5,6,7,8,9,10,11,12] [(0,32,3),(1,33,4)] 13 [14,15,16] (by kernel_rfl) (by kernel_rfl) (by kernel_rfl) (by kernel_rfl) (by kernel_rfl) rfl rfl ?_
    simp -implicitDefEqProofs (maxSteps:=2000000) [aj,ah,ae,ai,ak,au,af,Op.operands,Call.operands,rM]
    refine⟨by omega, ?_⟩
    refine vS _ _ _ _ rfl rfl rfl ⟨hb,by omega,by omega⟩ rfl (fun z p5 _ hz d hp5' => ?_) (by omega)
    simp -implicitDefEqProofs (maxSteps:=2000000) [aj,ah,ae,ai,ak,au,af,Op.operands,Call.operands]
    refine⟨by omega, ?_⟩
    refine any_append (e:=3) (sz:=1) (m:=1) (n:=(gd z41 cs k.toNat).f1.length) rfl rfl rfl rfl ?_ ?_ ?_ ?_ rfl rfl ?_ ?_ ?_ ?_ ?_ ?_ ?_
    any_goals (simp -implicitDefEqProofs (maxSteps:=2000000) [ownTys];done)
    · intro j hj y hy
      simp only[fl,ei,List.mem_singleton]at hy;subst hy;exact .s _
    ·have:=hg.2.1;exact⟨by unfold maxLen;omega,by simp;omega⟩
    ·simp[sG]
    ·rfl
    intro ts' B' g hts hB hgl hgr
    obtain⟨y1,rfl⟩:=BP 38 hts rfl
    have hv:Rng (gd 0 [0,2,13,5] z.toNat):=by
      have:z.toNat=0∨z.toNat=1∨z.toNat=2∨z.toNat=3:=by omega
      rcases this with e|e|e|e<;>rw[e]<;>exact⟨by decide,by decide⟩
    have hY: ∀y,(∃x,Yap 1 (fl 0 ei [gd 0 [0,2,13,5] z.toNat]) x y)→IsI y:=by
      rintro y ⟨x,j,hj,hy⟩
      have hj0:j=0:=by omega
      subst hj0
      simp only[fl,ei,List.mem_singleton]at hy;subst hy
      exact⟨_,rfl,hv⟩
    have hw:Wok 20 3 (Yap 1 (fl 0 ei [gd 0 [0,2,13,5] z.toNat])):=⟨fun _ p hp x y hx h=>by rw[List.mem_singleton]at hp;subst hp;exact hY y ⟨x,h⟩,fun h=>absurd h (by decide),fun h=>absurd h (by decide),fun h=>absurd h (by decide),by decide,by decide,by decide⟩
    obtain⟨b0,B1,rfl,h0',hB⟩:=sI hB
    obtain⟨bw,B2,rfl,hw',hB⟩:=sI hB
    obtain⟨bc,B3,rfl,hc',hB⟩:=sI hB
    obtain⟨bi,B4,rfl,_,hB⟩:=sI hB
    obtain⟨bj,B5,rfl,_,hB⟩:=sI hB
    have:=xO hB
    subst this
    have:=zM hw'
    subst this
    obtain⟨x1,rfl,hx1⟩:=Lb (by decide) h0'
    obtain⟨gc,cs',rfl,hc1,hc2,hc3⟩:=NY hw hk hc'
    have hex:=zo (N:=20) (x:= .sl 3 1 ((gd z41 cs k.toNat).f1.length+1) (uk (gd z41 cs k.toNat).f1.length g (fl 0 ei [gd 0 [0,2,13,5] z.toNat]))) ⟨_,_,rfl,by have:=hf2;omega,Dh (fun j hj=> ?_) (fun j hj=> ?_)⟩
    rotate_left
    · refine⟨(hgl j hj).symm,fun o q y hq hy=> ?_⟩
      obtain⟨x,hx⟩:=Ba (hgl j hj) hy
      have hx' :x= .i ((gd z41 cs k.toNat).f1.getD j 0):=by
        have:=List.mem_of_getElem? hx
        simp only[fl,ei,List.mem_singleton]at this;exact this
      have ho:o=0:=by
        have:=(List.getElem?_eq_some_iff.1 hx).1
        simp[fl,ei]at this;omega
      subst ho;simp at hq;subst hq
      rcases hgr j 0 x y hj hx hy with h|h
      · subst hx';cases h
        refine⟨_,rfl,hg.2.2 _ ?_⟩
        rw[List.getD_eq_getElem?_getD,List.getElem?_eq_getElem hj];exact List.getElem_mem hj
      ·exact hY y ⟨x,h⟩
    · have hj0:j=0:=by omega
      subst hj0
      simp only[fl,ei,rq,rP];exact⟨_,_,rfl,⟨_,rfl,hv⟩,rfl⟩
    obtain⟨l,hl1,hl2⟩:=hex
    refine Df [true,true,true,true,true,true,false,false,false,false,false,false,false,false,false,false,false,false,false,false,false,false,false,false,false,false,false,false,false,false,false,false,false,false,false,false,false,false,false,false,false,false,false,false,false,true] [(45, .c (.t (.ints l)))] [(0,some (rdB bs p5)),(7900,some (.row 41 2 cs.length (fl z41 eC cs'))),(139,none),(144,none)] ?_ ?_
    · constructor<;>simp -implicitDefEqProofs [idR]
      ·exact hl1
      ·exact⟨hx1,hc1⟩
    simp -implicitDefEqProofs (maxSteps:=2000000) [aj,ah,ae,ai,ak,au,af,Op.operands,Call.operands,rM,xN]
    have hg2:kC 20 (gd z41 cs' k.toNat):=hc3 _ (by
      show cs'.getD _ _∈cs'
      rw[List.getD_eq_getElem?_getD,List.getElem?_eq_getElem (by rw[hc2];exact hkk)];exact List.getElem_mem _)
    exact⟨by omega,zq (by omega) (by omega) (by omega) (by omega) (by decide) (uH (fun j hj=>tX JV hc3 (by rw[hc2];exact hj)) (EX ⟨_,rfl,hg2.1⟩ (tH hl2))) rfl rfl⟩
  by_cases hy2:y=2
  · subst hy2
    simp -implicitDefEqProofs (maxSteps:=2000000)
    exact⟨by omega,zq (by omega) (by omega) (by omega) (by omega) (by decide) (fun j hj=>hrow j (by omega)) rfl rfl⟩
  by_cases hy3:y=3
  · subst hy3
    simp -implicitDefEqProofs (maxSteps:=2000000)
    refine aT (by decide) [[], [], [1], [2,1], [], [4], [5,4], [], [7], [8,7], [], [10], [11,10], [3,6,9,12,2,1,5,4,8,7,11,10], [0,13,3,6,9,12,2,1,5,4,8,7,11,10], [14,0,1,2,3,4,5,6,7,8,9,10,11,12,13]] [54,55,56,57,58,59,60,61,62,63,64,65,66,67,68,2] [0,1,2,3,4,5,6,7,8,9,10,11,12,13,14,15] (by kernel_rfl) ?_
    simp -implicitDefEqProofs (maxSteps:=2000000) [aj,ah,ae,ai,ak,au,af,Op.operands,Call.operands]
    have hg1:kC 20 (gd z41 cs 1):=hk _ (by
      show cs.getD _ _∈cs
      rw[List.getD_eq_getElem?_getD,List.getElem?_eq_getElem (by omega)];exact List.getElem_mem _)
    have hr1:=EX (N:=20) ⟨_,rfl,hg1.1⟩ (tH hg1.2)
    refine⟨by omega,⟨by unfold maxLen;omega,by omega⟩,zq (by omega) (by omega) (by omega) (by omega) (by decide) (Dh hrow (Nk rfl (fun r hr=> ?_))) rfl rfl⟩
    simp only[List.mem_cons,List.not_mem_nil,or_false,or_self]at hr
    subst hr;exact hr1
  by_cases hy4:y=4
  · subst hy4
    simp -implicitDefEqProofs (maxSteps:=2000000)
    refine⟨by omega, ?_⟩
    refine Ht 173 rfl rfl ?_
    simp -implicitDefEqProofs (maxSteps:=2000000)
    exact zq (by omega) (by omega) (by omega) (by omega) (by decide) (uH hrow (EX ⟨_,rfl,hg.1⟩ (tH (l:= [1,1,1]) ⟨by decide,fun t ht=>by simp at ht;subst ht;exact⟨by decide,by decide⟩⟩))) rfl rfl
  simp -implicitDefEqProofs (maxSteps:=2000000) [hy0,hy1,hy2,hy3,hy4]
  exact⟨by omega,zq (by omega) (by omega) (by omega) (by omega) (by decide) (uH hrow (EX ⟨_,rfl,hg.1⟩ ⟨0,_,rfl,by omega,by omega⟩)) rfl rfl⟩
end Go.Proofs.Ytojpejfcafbafaa.V
end
section
namespace Go.Proofs.Ytojpejfcafbafaa.V
open Go Go.RowKit
set_option linter.unusedVariables false
set_option linter.unusedSimpArgs false
def EY (n:Nat):C→Bool
  | .t _| .nil=>true
  | .own q _ _=>decide (q<n)
  |_=>false
def MO (n:Nat):V→Bool
  | .c x=>EY n x
  | .agg xs=>xs.all (EY n)
  | .tup _=>false
  | .dead=>true
def GH (ks:List Nat):V→V
  | .c (.ptr k i o)=>if ks.contains k then .dead else .c (.ptr k i o)
  |_=> .dead
def JY:C→Bool
  | .nil| .t (.s _)=>true
  |_=>false
def Ic:Blk→Bool
  | .box _ cs=>cs.all JY
  |_=>false
theorem Nl {E E' :Env} {v:Value} {x:C} (h:fO E v x) (hx:JY x=true):fO E' v x:=by
  cases x with
  | t a=>
    cases a with
    | s u=>
      have h:RepT E.w E.A v (.s u):=h
      show RepT E'.w E'.A v (.s u)
      cases h with
      |s _ hs=>exact .s _ hs
    |_=>simp[JY]at hx
  |nil=>exact h
  |_=>simp[JY]at hx
theorem Lc {P :Program} {ins:Bs} {o:Oper} {K:List V→Bs→Prop} {ts:List V} {B:Bs} {cl:Call} {g:Nat} {xs:List V} {R:V→Bs→Prop} (es ks:List Nat) (ct:Ct P g xs (dw B 0 ks++lJ es) (fun r B' => ∃B0,B' =B0++lJ es∧R r B0))
    (hop:o.op= .call cl) (hc:cl.callee= .value (.func g)) (hg:uR P g=true) (hh:Hand B ks []) (hall: ∀k b,(k,some b)∈B→k∈ks∨Ic b=true) (hp:dx ks [] B (cl.args.toList.map (evl ts)) xs)
    (hR: ∀r B0,R r B0→MO ks.length r=true∧(B0.map (·.1)).Nodup∧∀p∈B0,p.1<ks.length∧∀b,p.2=some b→closedB b=true) (hw: ∀e∈es,(ins.get (sG e)).isSome=true)
    (hK: ∀r B0,R r B0→K (dI (ts.map (GH ks)) o.dst (kr (fun q=>ks.getD q 0) r)) (tY (fun q=>ks.getD q 0) B B0)):zI P ins o K ts B:=by
  intro c a w ρ hcc hr N Q hN
  have hm:=hr.mem
  let wd:Nat→Prop:=fun b=>free c w ρ B b∧∃e∈es,∃cells fr,w.heap[b]? =some (.cells cells e fr)
  let cc:Ctx:=⟨w,fun b=>free c w ρ B b∨∃k∈([]:List Nat),fM (ρ k)=some b,dw B 0 ks++lJ es,fun i=>ρ (ks.getD i 0),wd⟩
  have hl: ∀k,(dw B 0 ks++lJ es).live k=(dw B 0 ks).live k:=Ee _ es
  have hwn: ∀e,((dw B 0 ks++lJ es).get (sG e)).isSome=true→e∈es:=fun e he=>by
    rw[zm,F8 hh.few]at he
    exact Gg (fun h=>by rw[h]at he;cases he)
  obtain⟨hm1,d⟩:=(hm.start hh).turn (c' :=cc) (B' :=dw B 0 ks++lJ es) rfl rfl hl hl (fun k hk=>by
      rw[zm];cases h:(dw B 0 ks).get k with
      |none=>simp[h]at hk
      |some x=>rfl) (fun b hb=>by
      rcases hb with⟨k,x,h1,h2⟩|hb
      ·exact .inl ⟨k,x,(hl k).trans h1,h2⟩
      ·exact hb.elim) (fun b hb=>hb) (fun e he b cells fr hG hc' =>⟨hG.resolve_right (by simp),e,hwn e he,cells,fr,hc'⟩)
  obtain⟨q1,q2⟩:=D8 hm hh _ _ hp
  have hcalls := ct w cc.G cc.ρ0 wd (cl.args.map a.eval) hm1 (by simpa using q1) (fun i x hx=>by
    obtain⟨y,hy⟩: ∃y,(cl.args.toList.map (evl ts))[i]? =some y:=by
      have : i < xs.length := by rcases Nat.lt_or_ge i xs.length with h|h;·exact h
                                 ·simp[List.getElem?_eq_none h]at hx
      exact⟨_,List.getElem?_eq_getElem (by omega)⟩
    have hpv:=q2 i x y hy hx
    simp only[List.getElem?_map,Array.getElem?_toList,Option.map_eq_some_iff]at hy
    obtain⟨z,hz,rfl⟩:=hy
    have hr:=(Dz hm hh (lZ hr.rep z) hpv).le d
    have e:(cl.args.map a.eval).getD i undef=a.eval z:=by simp[Array.getD_eq_getD_getElem?,hz]
    rw[e];exact hr)
  unfold Oper.wp
  rw[GY hop hc hg]
  refine hcalls.mono ?_
  rintro e w' ⟨v',res,B',ρ',rfl,⟨B0,rfl,hRr⟩,hm2,hv⟩
  obtain⟨ht,hnd,hsm⟩:=hR res B0 hRr
  have hl2: ∀k,(B0++lJ es).live k=B0.live k:=Ee B0 es
  let rn:Nat→Nat:=fun q=>ks.getD q 0
  have kat: ∀ {q},q<ks.length→ks[q]? =some (rn q):=fun{q} h=>by simp[rn,List.getD_eq_getElem?_getD,h]
  have kinj: ∀ {q q'},q<ks.length→q' <ks.length→rn q=rn q' →q=q' :=fun{q q'} h h' e=>(List.getElem?_inj h hh.nd).1 ((kat h).trans (by rw[e,←kat h']))
  have hnd' :(B0.map fun p=>rn p.1).Nodup:=by
    rw[List.nodup_iff_pairwise_ne,List.pairwise_map]at hnd⊢
    exact hnd.imp_of_mem fun{p q} hp hq hne e=>hne (kinj (hsm p hp).1 (hsm q hq).1 e)
  let Bn:=tY rn B B0
  let ρn:=uy rn B0 ρ' ρ
  have f1: ∀ {q y},(q,y)∈B0→ρn (rn q)=ρ' q∧Bn.get (rn q)=some y∧B0.get q=some y:=fun h=>⟨Ai hnd' h,(yB B0 B _ hnd').1 _ _ h rfl,Bz hnd' h⟩
  have f2: ∀ {k},(∀q y,(q,y)∈B0→rn q≠k)→ρn k=ρ k∧Bn.get k=B.get k:=fun h=>⟨GV h,(yB B0 B _ hnd').2 h⟩
  have di: ∀k,(∃q y,(q,y)∈B0∧rn q=k)∨∀q y,(q,y)∈B0→rn q≠k:=fun k=>by
    by_cases h: ∃q y,(q,y)∈B0∧rn q=k
    ·exact .inl h
    ·exact .inr fun q y hq e=>h ⟨q,y,hq,e⟩
  have pres: ∀ {i k},ks[i]? =some k→∃y,(i,y)∈B0:=fun{i k} hi=>by
    obtain⟨b,h1,_⟩:=hh.live k (List.mem_of_getElem? hi)
    have:=hm2.kin i b (by show(dw B 0 ks++lJ es).live i=some b;rw[hl,vQ,hi];exact h1)
    rw[zm]at this
    cases h:B0.get i with
    |some y=>exact⟨y,uE h⟩
    | none=>
      rw[h]at this
      exfalso
      have hi' :i<ks.length:=(List.getElem?_eq_some_iff.1 hi).1
      have few:=hh.few
      rcases Gf es i with hw' |hw'
      ·simp[hw']at this
      · obtain⟨e,_,he⟩:=List.mem_map.1 (uE hw')
        injection he with he _
        unfold sG at he;omega
  have rnk: ∀ {q},q<ks.length→rn q∈ks:=fun{q} h=>List.mem_of_getElem? (kat h)
  have out: ∀ {k},k∉ks→ρn k=ρ k∧Bn.get k=B.get k:=fun{k} h=>f2 fun q y hq e=>h (e▸rnk (hsm _ hq).1)
  have lvD: ∀ {k x},Bn.live k=some x→(∃q,(q,some x)∈B0∧rn q=k∧(B0++lJ es).live q=some x∧ρn k=ρ' q∧q<ks.length)∨(k∉ks∧B.live k=some x∧Ic x=true∧ρn k=ρ k):=fun{k x} h=>by
    rcases di k with⟨q,y,hq,rfl⟩|hno
    · obtain⟨h1,h2,h3⟩:=f1 hq
      have h4:=Bs.live_get h
      rw[h2]at h4
      injection h4 with h4
      subst h4
      exact .inl ⟨q,hq,rfl,by rw[hl2];unfold Bs.live;rw[h3];rfl,h1,(hsm _ hq).1⟩
    · obtain⟨h1,h2⟩:=f2 hno
      have hB:B.live k=some x:=by unfold Bs.live at h⊢;rw[←h2];exact h
      have hnk:k∉ks:=fun hk=>by
        obtain⟨i,hi⟩:=List.getElem?_of_mem hk
        obtain⟨y,hy⟩:=pres hi
        exact absurd (by show ks.getD i 0=k;simp[List.getD_eq_getElem?_getD,hi]) (hno i y hy)
      exact .inr ⟨hnk,hB,(hall k x (uE (Bs.live_get hB))).resolve_left hnk,h1⟩
  have own' : ∀ {q x g},(B0++lJ es).live q=some x→fM (ρ' q)=some g→(∃i k b,ks[i]? =some k∧B.live k=some b∧fM (ρ k)=some g)∨w.heap.size≤g:=fun{q x g} h hg=>by
    rcases hm2.own q x g h hg with⟨i,x',h1,h2⟩|h
    · have h1:(dw B 0 ks++lJ es).live i=some x' :=h1
      rw[hl]at h1
      obtain⟨k,h3,h4,h5⟩:=wS h1
      have h2:fM (ρ (ks.getD i 0))=some g:=h2
      rw[h4]at h2
      exact .inl ⟨i,k,x',h3,h5,h2⟩
    ·exact .inr h
  have hA: ∀b,free cc w' ρ' (B0++lJ es) b→free c w' ρn Bn b:=fun b hb=>by
    obtain⟨h1,h2,h3⟩:=hb
    refine⟨?_,h2,fun k x hl' => ?_⟩
    · rcases h1 with(h1|⟨k,hk,_⟩)|h1
      ·exact h1.1
      ·simp at hk
      ·exact .inr (Nat.le_trans hm.keeps.size h1)
    · rcases lvD hl' with⟨q,_,_,h5,h6,_⟩|⟨_,h5,_,h6⟩
      ·rw[h6];exact h3 q x h5
      · rw[h6];intro hg
        rcases h1 with(h1|⟨k,hk,_⟩)|h1
        ·exact h1.2.2 k x h5 hg
        ·simp at hk
        ·exact absurd (vw hm h5 hg) (Nat.not_lt.2 h1)
  have hT: ∀v x,RepT w' (free cc w' ρ' (B0++lJ es)) v x→RepT w' (free c w' ρn Bn) v x:=fun v x h=>h.move hA (fun _ _=>rfl)
  have hmn:Mem c Bn w' ρn:=by
    refine⟨?_,fun k x h=> ?_,fun k x g h hg=> ?_,fun k k' x x' g h h' hg hg' => ?_,fun k x h=> ?_,fun k x b' h h' => ?_,hm.wld⟩
    · have k1:=hm.keeps
      have k2:=hm2.keeps
      refine⟨k2.os.trans k1.os,k2.tape.trans k1.tape,k2.output.trans k1.output,Nat.le_trans k1.size k2.size,fun b hb hn=> ?_⟩
      rw[k2.block b (Nat.lt_of_lt_of_le hb k1.size) ?_]
      ·exact k1.block b hb hn
      · rintro(⟨i,x,h1,h2⟩|⟨h1,e,he,cells,fr,h2⟩)
        · have h1:(dw B 0 ks++lJ es).live i=some x:=h1
          rw[hl]at h1
          obtain⟨k,h3,h4,h5⟩:=wS h1
          have h2:fM (ρ (ks.getD i 0))=some b:=h2
          rw[h4]at h2
          rcases hm.own k x b h5 h2 with h|h
          ·exact hn (.inl h)
          ·omega
        · rcases h1.1 with hG|hG
          · refine hn (.inr (hm.wld e (by rw[hcc];exact hw e he) b cells fr hG ?_))
            rw[←k1.block b hb hn];exact h2
          ·omega
    · rcases lvD h with⟨q,h1,h2,h3,h4,_⟩|⟨h1,h2,h3,h4⟩
      rotate_left
      · have hat:=hm.at_ k x h2
        cases x with
        |row=>simp[Ic]at h3
        | box t cs=>
          obtain⟨g,cur,e1,e2,e3,e4⟩:=hat
          have e1:ρ k= .pointer (some ⟨g,0,none⟩):=e1
          have hg:fM (ρ k)=some g:=by rw[e1];rfl
          have hlt:=vw hm h2 hg
          refine⟨g,cur,by show ρn k=_;rw[h4];exact e1, ?_,e3,fun i v y hv hy=>Nl (e4 i v y hv hy) (List.all_eq_true.1 h3 y (List.mem_of_getElem? hy))⟩
          show w'.heap[g]? =_
          rw[hm2.keeps.block g hlt ?_]
          ·exact e2
          · rintro(⟨i,x',g1,g2⟩|⟨g1,_⟩)
            · have g1:(dw B 0 ks++lJ es).live i=some x' :=g1
              rw[hl]at g1
              obtain⟨k',g3,g4,g5⟩:=wS g1
              have g2:fM (ρ (ks.getD i 0))=some g:=g2
              rw[g4]at g2
              have:=hm.inj k k' _ _ g h2 g5 hg g2
              subst this;exact h1 (List.mem_of_getElem? g3)
            ·exact g1.2.2 k _ h2 hg
      exact At.closed (E:=env cc w' ρ' (B0++lJ es)) (N:=fun _=>True) (fun v x _ h=>hT v x h) h4 (fun _ _=>rfl) ((hsm _ h1).2 x rfl) (I7 (fun _=>trivial) _) (hm2.at_ q x h3)
    · rcases lvD h with⟨q,h1,h2,h3,h4,_⟩|⟨h1,h2,h3,h4⟩
      rotate_left
      ·rw[h4]at hg;exact hm.own k x g h2 hg
      rw[h4]at hg
      rcases own' h3 hg with⟨i,k',b,_,h5,h6⟩|h5
      ·exact hm.own k' b g h5 h6
      ·exact .inr (Nat.le_trans hm.keeps.size h5)
    · have cross: ∀ {k k' x x' q},k∉ks→B.live k=some x→fM (ρ k)=some g→(B0++lJ es).live q=some x' →fM (ρ' q)=some g→k=k' :=fun{k k' x x' q} g1 g2 g3 g4 g5=>by
        exfalso
        rcases own' g4 g5 with⟨i,k2,b,e1,e2,e3⟩|e1
        · have:=hm.inj k k2 _ _ g g2 e2 g3 e3
          subst this;exact g1 (List.mem_of_getElem? e1)
        ·exact absurd (vw hm g2 g3) (Nat.not_lt.2 e1)
      rcases lvD h with⟨q,h1,h2,h3,h4,_⟩|⟨h1,h2,h3,h4⟩
      · rcases lvD h' with⟨q',h1',h2',h3',h4',_⟩|⟨h1',h2',h3',h4'⟩
        · rw[h4]at hg
          rw[h4']at hg'
          rw[←h2,←h2',hm2.inj q q' x x' g h3 h3' hg hg']
        · rw[h4]at hg
          rw[h4']at hg'
          exact(cross (k' :=k) h1' h2' hg' h3 hg).symm
      · rcases lvD h' with⟨q',h1',h2',h3',h4',_⟩|⟨h1',h2',h3',h4'⟩
        · rw[h4]at hg
          rw[h4']at hg'
          exact cross h1 h2 hg h3' hg'
        · rw[h4]at hg
          rw[h4']at hg'
          exact hm.inj k k' x x' g h2 h2' hg hg'
    · have:=hm.kin k x h
      rcases di k with⟨q,y,hq,rfl⟩|hno
      ·rw[(f1 hq).2.1];rfl
      ·rw[(f2 hno).2];exact this
    · rcases lvD h' with⟨q,h1,h2,h3,h4,h5⟩|⟨h1,h2,h3,h4⟩
      rotate_left
      · obtain⟨e1,e2⟩:=hm.fix k x b' h h2
        exact⟨e1,by rw[h4];exact e2⟩
      have hkq:=kat h5
      rw[h2]at hkq
      obtain⟨b0,h6,_⟩:=hh.live k (List.mem_of_getElem? hkq)
      obtain⟨h7,h8⟩:=hm.fix k x b0 h h6
      obtain⟨h9,h10⟩:=hm2.fix q b0 b' (by show(dw B 0 ks++lJ es).live q=some b0;rw[hl,vQ,hkq];exact h6) h3
      have h10:ρ' q=ρ (ks.getD q 0):=h10
      have h11:ks.getD q 0=k:=h2
      exact⟨h7.trans h9,by rw[h4,h10,h11];exact h8⟩
  have hvn:mg (env c w' ρn Bn) v' (kr rn res):=by
    have cell: ∀ {v x},fO (env cc w' ρ' (B0++lJ es)) v x→EY ks.length x=true→fO (env c w' ρn Bn) v (rH rn x):=fun{v x} h hx=>by
      cases x with
      |t x=>exact hT _ _ h
      |nil=>exact h
      | own q sz n=>
        have hx:q<ks.length:=by simpa[EY] using hx
        obtain⟨y,hy⟩:=pres (kat hx)
        obtain⟨g1,g2,g3⟩:=f1 hy
        obtain⟨_,ad,c1,h1,h2,h3,h4,h5,h6⟩:=h
        have back: ∀ {x},Bn.live (rn q)=some x→(B0++lJ es).live q=some x:=fun{x} hl=>by
          rcases lvD hl with⟨q',e1,e2,e3,e4,e5⟩|⟨e1,_⟩
          ·have:=kinj e5 hx e2;subst this;exact e3
          ·exact absurd (rnk hx) e1
        refine⟨by show(Bn.get (rn q)).isSome=true;rw[g2];rfl,ad,c1,h1,h2,h3,h4,fun t cs hl=>h5 t cs (back hl),fun e s N f hl=> ?_⟩
        obtain⟨k1,k2,k3⟩:=h6 e s N f (back hl)
        exact⟨k1,k2,by show ρn (rn q)=_;rw[g1];exact k3⟩
      |_=>simp[EY]at hx
    cases res with
    |c x=>exact cell hv ht
    | agg xs=>
      obtain⟨vs,e1,e2,e3⟩:=hv
      refine⟨vs,e1,by simpa using e2,fun i x y h1 h2=> ?_⟩
      simp only[List.getElem?_map,Option.map_eq_some_iff]at h2
      obtain⟨y',h2,rfl⟩:=h2
      exact cell (e3 i x y' h1 h2) (List.all_eq_true.1 ht y' (List.mem_of_getElem? h2))
    |tup _=>simp[MO]at ht
    |dead=>trivial
  have hdead:RelAt c (ts.map (GH ks)) Bn a w' ρn:=⟨hr.df,by simpa using hr.sz,hmn,fun i x hx=>by
    simp only[List.getElem?_map,Option.map_eq_some_iff]at hx
    obtain⟨y,hy,rfl⟩:=hx
    unfold GH
    split
    · rename_i k j o'
      split
      ·trivial
      · rename_i hk
        have hk:k∉ks:=by simpa using hk
        obtain⟨e1,e2⟩:=out hk
        obtain⟨g1,ad,g2,g3,g4⟩:=hr.rep i _ hy
        have el:Bn.live k=B.live k:=by unfold Bs.live;rw[e2]
        refine⟨by show(Bn.get k).isSome=true;rw[e2];exact g1,ad,g2,fun t cs hl' => ?_,fun e s N f hl' => ?_⟩
        · obtain⟨q1,g,q2,q3⟩:=g3 t cs (by show B.live k=_;rw[←el];exact hl')
          exact⟨q1,g,by show ρn k=_;rw[e1];exact q2,q3⟩
        · obtain⟨q1,g,c1,q2,q3⟩:=g4 e s N f (by show B.live k=_;rw[←el];exact hl')
          exact⟨q1,g,c1,by show ρn k=_;rw[e1];exact q2,q3⟩
    ·trivial⟩
  exact hN _ _ _ w' ρn (hK res B0 hRr) (hdead.put hmn ⟨fun _ hb=>hb,fun _ _=>rfl,fun _ hk=>hk,fun k e s N f _ hl=>⟨⟨f,hl⟩,rfl⟩,fun k t cs _ hl=>⟨⟨cs,hl⟩,rfl⟩⟩ o.dst hvn)
end Go.Proofs.Ytojpejfcafbafaa.V
end
section
namespace Go.Proofs.Ytojpejfcafbafaa.P
open Go.RowKit Go.Proofs.YtojpejfcafbafaaW.PrintWords Go.Proofs.YtojpejfcafbafaaW.PrintLast Go.Proofs.YtojpejfcafbafaaW.PrintMore
attribute [local go_sem] bn bq bP bQ aW aX bu bv
set_option linter.unusedVariables false
set_option linter.unusedSimpArgs false
def aK.j0:Nat→Int→Bool→List Int→Int→Option (Int×Int)
  |0,_,_,_,_=>none
  |k+1,x1,x24,x1000,a=>if x24=true then(some (0,a))else(if(wrap64 (a - 1))<(x1000.length:Int)then(if 0≤(wrap64 (a - 1))then(if x1=0 then(none)else(some (Int.tmod (wrap64 (rd x1000 (wrap64 (a - 1)))) x1,a)))else(none))else(if(x1000.length:Int)=0 then(none)else(if 0≤(Int.tmod (wrap64 (a - 1)) (x1000.length:Int))then(if(Int.tmod (wrap64 (a - 1)) (x1000.length:Int))<(x1000.length:Int)then(if 0≤(Int.tmod (wrap64 ((wrap64 ((wrap64 (a - 1)) * 7))+3)) (x1000.length:Int))then(if(Int.tmod (wrap64 ((wrap64 ((wrap64 (a - 1)) * 7))+3)) (x1000.length:Int))<(x1000.length:Int)then(if x1=0 then(none)else(some (Int.tmod (Go.bits .xor .i64 (wrap64 ((wrap64 ((wrap64 ((wrap64 ((wrap64 (rd x1000 (Int.tmod (wrap64 (a - 1)) (x1000.length:Int)))) * 131))+(wrap64 ((wrap64 (rd x1000 (Int.tmod (wrap64 ((wrap64 ((wrap64 (a - 1)) * 7))+3)) (x1000.length:Int)))) * 1117))))+(wrap64 ((wrap64 (a - 1)) * 29))))+(wrap64 ((wrap64 (Int.tdiv (wrap64 (a - 1)) (x1000.length:Int))) * 53)))) (wrap64 (Int.tdiv (wrap64 ((wrap64 ((wrap64 ((wrap64 ((wrap64 (rd x1000 (Int.tmod (wrap64 (a - 1)) (x1000.length:Int)))) * 131))+(wrap64 ((wrap64 (rd x1000 (Int.tmod (wrap64 ((wrap64 ((wrap64 (a - 1)) * 7))+3)) (x1000.length:Int)))) * 1117))))+(wrap64 ((wrap64 (a - 1)) * 29))))+(wrap64 ((wrap64 (Int.tdiv (wrap64 (a - 1)) (x1000.length:Int))) * 53)))) 64))) x1,a)))else(none))else(none))else(none))else(none))))
def aK.f (k:Nat) (a:List Int) (c:Int) (a1:Int):Option (Int×Int):=if a1<1 then(aK.j0 k a1 true a (wrap64 (c+1)))else(aK.j0 k a1 ((a.length:Int)==0) a (wrap64 (c+1)))
def wh.f (k:Nat) (d:List Int) (h:Int):Option (Int×Int):=(aK.f k d h 3).bind fun c=>(if c.1=0 then((some (([0,1,2,(-1),(-128),127]:List Int):List Int)).bind fun g=>((aK.f k d c.2 6).bind fun a=>(if 0≤a.1 then(if a.1<(g.length:Int)then(some (rd g a.1,a.2))else(none))else(none))))else((aK.f k d c.2 12).bind fun e=>(some (wrap64 (e.1 - 3),e.2))))
def ic.j0:Nat→Int→Int→Bool→List Int→Int→Option (Int×Int)
  |0,_,_,_,_,_=>none
  |k+1,x1,x6,x7,x1000,a=>if x7=true then(some (1,a))else(if x6=2 then(some (3,a))else(if x6=3 then(some (4,a))else((aK.f k x1000 a x1).bind fun c=>(some (wrap64 (8+c.1),c.2)))))
def ic.f (k:Nat) (c:List Int) (d:Int) (a1:Int):Option (Int×Int):=(aK.f k c d 6).bind fun a=>(if a.1=0 then(ic.j0 k a1 a.1 (a.1==0) c a.2)else(ic.j0 k a1 a.1 (a.1==1) c a.2))
def wm.f (k:Nat) (d:List Int) (m:Int) (a1:Int):Option (Int×Int):=(aK.f k d m 8).bind fun a=>(if a.1=0 then(some (2,a.2))else(if a.1=1 then(some (0,a.2))else(if a.1=2 then((aK.f k d a.2 6).bind fun e=>(if e.1=0 then((some (([(-1),5,7,wrap64 (8+a1)]:List Int):List Int)).bind fun j=>((aK.f k d e.2 4).bind fun c=>(if 0≤c.1 then(if c.1<(j.length:Int)then(some (rd j c.1,c.2))else(none))else(none))))else((ic.f k d e.2 a1).bind fun g=>(some (g.1,g.2)))))else((ic.f k d a.2 a1).bind fun h=>(some (h.1,h.2))))))
end Go.Proofs.Ytojpejfcafbafaa.P
end
section
namespace Go.Proofs.Ytojpejfcafbafaa.V
open Go Go.RowKit Go.Proofs.Ytojpejfcafbafaa.P
set_option linter.unusedVariables false
set_option linter.unusedSimpArgs false
attribute [local simp ↓] eG eH fQ fT eO dM fZ eP eQ gm gp gq dN dO dP gB gz gG gF dQ bW dV cz dJ dR eT eU eX
attribute [local simp] fU fV dK bR eF dL bS bT bU bV bM bN dS eY dU bX bY bZ cu bO fD lM iL dz iw evl dI eZ fu kD iX List.range List.range.loop lT kX fo fB iC iA Bs.live Bs.get lN WkV WkA WkC lg lH kY lD cZ iM TEq.refl bg fH qQ aF aG aD aH aI aJ ei d9 splice dE Bs.set kU fC Rn.at gu gy iF iD lL chunks lC fP toT fE iE rowsOf cB ik plR plV plC lF lI lQ lh fI iR lU
attribute [local simp] List.length_pos_iff qR qU iG iH iI puts dh
attribute [local simp ←] ig
attribute [local simp] ksL ru ksV rV ksC ksT ren kr rO rH dw uo uX uY uq ut uu uw sO sP sQ sS sU r9 sV fF dW dx iW iB iO iQ lS rG closedB iT kP kG kH kJ kL iJ kN
attribute [local simp] ag3 un3 sz3 in3 by3 ze3 ct3 zt3 zu3 ag4 un4 sz4 in4 by4 ze4 ct4 zt4 zu4 ag5 un5 sz5 in5 by5 ze5 ct5 zt5 zu5 mi mq mD mE mF mG mH mI mJ io3 mK io5 bo4 mM mO mP mQ mR mU mV mW mX mY mZ ng ni nk nu ny nz nA nC nD nE nG nH nI nJ nK nL nM nN nO nP nQ nR nS nT nU nV nW nX nY nZ oh ol om oo oq ou ow oz oC oD oF oG oH oI oJ oK oL oM oN oO oP oQ oU oV oW oZ o6 o7 o8 iZ ja jb jc jd je jf jg jh ji jk jl jm jo jq jr jv jw jy jA o9 pg pu pz pE pF pG pI pJ pK jB jC jD jE jF jG jH jI jJ jK jL jM jN jO jP jQ jR jS jT jU jV jW jX jY jZ kg ko mz gH gI gJ gK gL gN gP gQ gT gU gV gW gX gY gZ ib pO pQ pR pU pV pW pX pY p9 qa qb qc qd qf qg qh qi qj ql qm qo qp qw qx qy qz qA qB qC qD qE qF qG qH qI qJ qK qL qM qN qO qP mix
attribute [local simp] eb eC eI eS eK eM nm
set_option maxRecDepth 20000 in
set_option maxHeartbeats 4000000 in
theorem aO (k:Nat) (a:List Int) (d:Int) (a1:Int) (r:Int×Int) (h:aK.f k a d a1=some r):uL Try.prog 18 [.c (.ptr 0 0 0), .i a1] [(0,some (rdB a d))] (.i (r.1)) [(0,some (rdB a (r.2)))]:=by
  unfold aK.f at h
  try simp only[aF,aG,aD,aH,aI,aJ]at h
  refine bF Try.func18 rfl rfl rfl ?_
  try simp -implicitDefEqProofs (maxSteps:=2000000)
  repeat' first
    |(show ek _ _ 7 _ _ _ _;refine aT (by decide) [[], [0], [1,0], [2,1,0], [], [], [5], [6,5], [7,6,5], [8,7,6,5], [4,9,8,7,6,5], [3,10,2,1,0,4,9,8,7,6,5], [11,3,10,2,1,0,4,9,8,7,6,5], [12,11,3,10,2,1,0,4,9,8,7,6,5], [13,12,11,3,10,2,1,0,4,9,8,7,6,5], [], [15], [16,15], [17,16,15], [], [19], [20,19], [], [22], [23,22], [24,23,22], [25,24,23,22], [21,26,20,19,25,24,23,22], [18,27,17,16,15,21,26,20,19,25,24,23,22], [28,18,27,17,16,15,21,26,20,19,25,24,23,22], [29,28,18,27,17,16,15,21,26,20,19,25,24,23,22], [30,29,28,18,27,17,16,15,21,26,20,19,25,24,23,22], [14,31,13,12,11,3,10,2,1,0,4,9,8,7,6,5,30,29,28,18,27,17,16,15,21,26,20,19,25,24,23,22], [], [33], [32,34,14,31,13,12,11,3,10,2,1,0,4,9,8,7,6,5,30,29,28,18,27,17,16,15,21,26,20,19,25,24,23,22,33], [], [], [37], [38,37], [39,38,37], [40,39,38,37], [36,41,40,39,38,37], [42,36,41,40,39,38,37], [35,43,32,34,14,31,13,12,11,3,10,2,1,0,4,9,8,7,6,5,30,29,28,18,27,17,16,15,21,26,20,19,25,24,23,22,33,42,36,41,40,39,38,37], [44,0,1,2,3,4,5,6,7,8,9,10,11,12,13,14,15,16,17,18,19,20,21,22,23,24,25,26,27,28,29,30,31,32,33,34,35,36,37,38,39,40,41,42,43]] [47,48,49,50,51,52,53,54,55,56,57,58,59,60,61,62,63,64,65,66,67,68,69,70,71,72,73,74,75,76,77,78,79,80,81,82,83,84,85,86,87,88,89,90,91,6] [0,1,2,3,4,5,6,7,8,9,10,11,12,13,14,15,16,17,18,19,20,21,22,23,24,25,26,27,28,29,30,31,32,33,34,35,36,37,38,39,40,41,42,43,44,45] (by kernel_rfl) ?_;try simp -implicitDefEqProofs (maxSteps:=2000000) [*, -h,aj,ah,ae,ai,ak,au,af,Op.operands,Call.operands])
    |(with_reducible (first|(replace h:=bC (by assumption) h)|(replace h:=bD (by assumption) h)|(replace h:=aY (by assumption) h)|(replace h:=aZ (by assumption) h)))
    |((with_reducible have hh:=aB h);clear h;rcases hh with⟨hc,h⟩|⟨hc,h⟩<;>have hd:=hc<;>(first|(replace hc:=dA hc)|(replace hc:=dB hc)|skip)<;>(try simp at hd)<;>(try(first|(subst hd)|(replace hd:=bG hd)|(replace hd:=eq_false hd)|(replace hd:=eq_true hd)))<;>(try simp -implicitDefEqProofs (maxSteps:=2000000) [*, -h,aj,ah,ae,ai,ak,au,af,Op.operands,Call.operands]))
    |(with_reducible replace h:=aL h)
    |(obtain⟨k,rfl⟩:=aM (f:=fun k=>aK.j0 k _ _ _ _) (by simp only[aK.j0]) h;simp only[aK.j0]at h;try simp only[aF,aG,aD,aH,aI,aJ]at h)
    |(refine⟨(by first|exact aP (by assumption) (by decide) (by decide)|exact aN (by assumption) (by decide) (by decide)), ?_⟩;try simp -implicitDefEqProofs (maxSteps:=2000000) [*, -h,aj,ah,ae,ai,ak,au,af,Op.operands,Call.operands])
    |(cases h;done)
    |(cases h;refine ed _ rfl ?_;constructor<;>simp[*]<;>exact az (by omega) (by omega) (by simp))
    |(exfalso;clear h;simp_all;done)
set_option maxRecDepth 20000 in
set_option maxHeartbeats 4000000 in
theorem Ad (k:Nat) (a:List Int) (d:Int) (r:Int×Int) (h:wh.f k a d=some r):uL Try.prog 66 [.c (.ptr 0 0 0)] [(0,some (rdB a d))] (.i (r.1)) [(0,some (rdB a (r.2)))]:=by
  unfold wh.f at h
  try simp only[aF,aG,aD,aH,aI,aJ]at h
  refine bF Try.func66 rfl rfl rfl ?_
  try simp -implicitDefEqProofs (maxSteps:=2000000)
  repeat' first
    |(with_reducible (first|(replace h:=bC (by assumption) h)|(replace h:=bD (by assumption) h)|(replace h:=aY (by assumption) h)|(replace h:=aZ (by assumption) h)))
    |((with_reducible have hh:=aB h);clear h;rcases hh with⟨hc,h⟩|⟨hc,h⟩<;>have hd:=hc<;>(first|(replace hc:=dA hc)|(replace hc:=dB hc)|skip)<;>(try simp at hd)<;>(try(first|(subst hd)|(replace hd:=bG hd)|(replace hd:=eq_false hd)|(replace hd:=eq_true hd)))<;>(try simp -implicitDefEqProofs (maxSteps:=2000000) [*, -h]))
    |(with_reducible replace h:=aL h)
    | ((with_reducible have hh:=Option.bind_eq_some_iff.1 h);clear h;obtain⟨x_,hx_,h⟩:=hh;(first|(refine aC (aO (h:=hx_)) rfl rfl rfl ?_ ?_ ?_ ?_;(·simp[*]);(·simp[*]);(·constructor<;>simp);clear hx_;try simp -implicitDefEqProofs (maxSteps:=2000000) [*, -h]))
       )
    |(refine⟨(by first|exact aP (by assumption) (by decide) (by decide)|exact aN (by assumption) (by decide) (by decide)), ?_⟩;try simp -implicitDefEqProofs (maxSteps:=2000000) [*, -h])
    |(cases h;done)
    |(cases h;refine ed _ rfl ?_;constructor<;>simp[*]<;>exact az (by omega) (by omega) (by simp))
    |(exfalso;clear h;simp_all;done)
set_option maxRecDepth 20000 in
set_option maxHeartbeats 4000000 in
theorem lu (k:Nat) (a:List Int) (d:Int) (a1:Int) (r:Int×Int) (h:ic.f k a d a1=some r):uL Try.prog 56 [.c (.ptr 0 0 0), .i a1] [(0,some (rdB a d))] (.i (r.1)) [(0,some (rdB a (r.2)))]:=by
  unfold ic.f at h
  try simp only[aF,aG,aD,aH,aI,aJ]at h
  refine bF Try.func56 rfl rfl rfl ?_
  try simp -implicitDefEqProofs (maxSteps:=2000000)
  repeat' first
    |(with_reducible (first|(replace h:=bC (by assumption) h)|(replace h:=bD (by assumption) h)|(replace h:=aY (by assumption) h)|(replace h:=aZ (by assumption) h)))
    |((with_reducible have hh:=aB h);clear h;rcases hh with⟨hc,h⟩|⟨hc,h⟩<;>have hd:=hc<;>(first|(replace hc:=dA hc)|(replace hc:=dB hc)|skip)<;>(try simp at hd)<;>(try(first|(subst hd)|(replace hd:=bG hd)|(replace hd:=eq_false hd)|(replace hd:=eq_true hd)))<;>(try simp -implicitDefEqProofs (maxSteps:=2000000) [*, -h]))
    |(with_reducible replace h:=aL h)
    | ((with_reducible have hh:=Option.bind_eq_some_iff.1 h);clear h;obtain⟨x_,hx_,h⟩:=hh;(first|(refine aC (aO (h:=hx_)) rfl rfl rfl ?_ ?_ ?_ ?_;(·simp[*]);(·simp[*]);(·constructor<;>simp);clear hx_;try simp -implicitDefEqProofs (maxSteps:=2000000) [*, -h]))
       )
    |(obtain⟨k,rfl⟩:=aM (f:=fun k=>ic.j0 k _ _ _ _ _) (by simp only[ic.j0]) h;simp only[ic.j0]at h;try simp only[aF,aG,aD,aH,aI,aJ]at h)
    |(refine⟨(by first|exact aP (by assumption) (by decide) (by decide)|exact aN (by assumption) (by decide) (by decide)), ?_⟩;try simp -implicitDefEqProofs (maxSteps:=2000000) [*, -h])
    |(cases h;done)
    |(cases h;refine ed _ rfl ?_;constructor<;>simp[*]<;>exact az (by omega) (by omega) (by simp))
    |(exfalso;clear h;simp_all;done)
set_option maxRecDepth 20000 in
set_option maxHeartbeats 4000000 in
theorem tQ (k:Nat) (a:List Int) (d:Int) (a1:Int) (r:Int×Int) (h:wm.f k a d a1=some r):uL Try.prog 42 [.c (.ptr 0 0 0), .i a1] [(0,some (rdB a d))] (.i (r.1)) [(0,some (rdB a (r.2)))]:=by
  unfold wm.f at h
  try simp only[aF,aG,aD,aH,aI,aJ]at h
  refine bF Try.func42 rfl rfl rfl ?_
  try simp -implicitDefEqProofs (maxSteps:=2000000)
  repeat' first
    |(with_reducible (first|(replace h:=bC (by assumption) h)|(replace h:=bD (by assumption) h)|(replace h:=aY (by assumption) h)|(replace h:=aZ (by assumption) h)))
    |((with_reducible have hh:=aB h);clear h;rcases hh with⟨hc,h⟩|⟨hc,h⟩<;>have hd:=hc<;>(first|(replace hc:=dA hc)|(replace hc:=dB hc)|skip)<;>(try simp at hd)<;>(try(first|(subst hd)|(replace hd:=bG hd)|(replace hd:=eq_false hd)|(replace hd:=eq_true hd)))<;>(try simp -implicitDefEqProofs (maxSteps:=2000000) [*, -h]))
    |(with_reducible replace h:=aL h)
    | ((with_reducible have hh:=Option.bind_eq_some_iff.1 h);clear h;obtain⟨x_,hx_,h⟩:=hh;(first|(refine aC (aO (h:=hx_)) rfl rfl rfl ?_ ?_ ?_ ?_;(·simp[*]);(·simp[*]);(·constructor<;>simp);clear hx_;try simp -implicitDefEqProofs (maxSteps:=2000000) [*, -h])|(refine aC (lu (h:=hx_)) rfl rfl rfl ?_ ?_ ?_ ?_;(·simp[*]);(·simp[*]);(·constructor<;>simp);clear hx_;try simp -implicitDefEqProofs (maxSteps:=2000000) [*, -h]))
       )
    |(refine⟨(by first|exact aP (by assumption) (by decide) (by decide)|exact aN (by assumption) (by decide) (by decide)), ?_⟩;try simp -implicitDefEqProofs (maxSteps:=2000000) [*, -h])
    |(cases h;done)
    |(cases h;refine ed _ rfl ?_;constructor<;>simp[*]<;>exact az (by omega) (by omega) (by simp))
    |(exfalso;clear h;simp_all;done)
end Go.Proofs.Ytojpejfcafbafaa.V
end
section
namespace Go.Proofs.Ytojpejfcafbafaa.P
open Go.RowKit Go.Proofs.YtojpejfcafbafaaW.PrintWords Go.Proofs.YtojpejfcafbafaaW.PrintLast Go.Proofs.YtojpejfcafbafaaW.PrintMore
attribute [local go_sem] bn bq bP bQ aW aX bu bv
set_option linter.unusedVariables false
set_option linter.unusedSimpArgs false
mutual
def eD.l0:Nat→Int→Int→Int→List Int→Int→Bool→List Int→Option (Bool×List Int×List Int×Int)
  |0,_,_,_,_,_,_,_=>none
  |k+1,x1,x2,x8,x1000,d,c,a=>if x8<x2 then((wm.f k x1000 d x1).bind fun e=>(if a.length<17592186044416 then(eD.l0 k x1 x2 (wrap64 (x8+1)) x1000 e.2 c (a++ [e.1]))else(none)))else((aK.f k x1000 d 4).bind fun g=>(eD.l1 k x1 g.1 x1000 g.2 c a ([]:List Int)))
def eD.l1:Nat→Int→Int→List Int→Int→Bool→List Int→List Int→Option (Bool×List Int×List Int×Int)
  |0,_,_,_,_,_,_,_=>none
  |k+1,x1,x9,x1000,m,e,c,a=>if x9>0 then((wm.f k x1000 m x1).bind fun g=>(if g.1=0 then((aK.f k x1000 g.2 8).bind fun h=>(if h.1>0 then(if a.length<17592186044416 then(eD.l1 k x1 (wrap64 (x9 - 1)) x1000 h.2 e c (a++ [1]))else(none))else(if a.length<17592186044416 then(eD.l1 k x1 (wrap64 (x9 - 1)) x1000 h.2 e c (a++ [g.1]))else(none))))else(if a.length<17592186044416 then(eD.l1 k x1 (wrap64 (x9 - 1)) x1000 g.2 e c (a++ [g.1]))else(none))))else((aK.f k x1000 m 30).bind fun d=>(if d.1=0 then((sD.f).bind fun j=>(some (j.1,j.2.1,j.2.2,d.2)))else(if d.1=1 then(some (false,c,a,d.2))else(if d.1=2 then(if c.length<17592186044416 then(some (e,(c++ [1]),a,d.2))else(none))else(if d.1=3 then((some (([1,1,1,1]:List Int):List Int)).bind fun n=>(if a.length+n.length<17592186044416 then(some (e,c,(a++n),d.2))else(none)))else(some (e,c,a,d.2)))))))
end
def eD.f (k:Nat) (a:List Int) (c:Int) (a1:Int) (a2:Int):Option (Bool×List Int×List Int×Int):=eD.l0 k a1 a2 0 a c true ([]:List Int)
end Go.Proofs.Ytojpejfcafbafaa.P
end
