/- A part of the claim FnUnitFirst. -/
import Derived.Test.YtojpejfcafbafaaCFnUnitFirst25
section
namespace Go.Proofs.Ytojpejfcafbafaa.V
open Go Go.RowKit Go.Proofs.Ytojpejfcafbafaa.P
set_option linter.unusedVariables false
set_option linter.unusedSimpArgs false
theorem HZ {R:V→Bs→Prop} {B:Bs} {k t:Nat} {cs cs' :List C} (hB:B.live k=some (.box t cs)) (hc:kY [(900,k)] B [(900,some (.box t cs'))] cs cs') (h:R (.c (.ptr 900 0 0)) [(900,some (.box t cs'))]):yl [] R (.c (.ptr k 0 0)) B:=
  ⟨.c (.ptr 900 0 0), [(900,some (.box t cs'))],rJ (r:= [(900,k)]) ⟨⟨⟨rfl,rfl,rfl,rfl⟩,trivial⟩,⟨⟨_,hB,rfl,hc⟩,trivial⟩,by simp[cZ,Rn.at],trivial⟩,h⟩
theorem JQ {P:Program} {cl:Call} {d:Nat} {ev:Operand→V} {B:Bs} {g:Nat} {xs:List V} {φ:Blk→Prop} (hc:cl.callee= .value (.func g)) (hg:uR P g=true)
    (ct:Ct P g xs [] (fun r B' => ∃b,φ b∧r= .c (.ptr 900 0 0)∧B' = [(900,some b)])) (hp:dx [] [] B (cl.args.toList.map ev) xs) (hf:B.get (nm d)=none) (hn: ∀b,φ b→closedB b=true):
    CallAt P cl (some d) d ev B [] [] (fun v u=> ∃b,φ b∧v= .c (.ptr (nm d) 0 0)∧u= [(nm d,some b)]):=by
  refine⟨g,xs, [],_,hc,hg,⟨List.nodup_nil,by simp,by simp,by simp⟩,hp,ct, ?_⟩
  rintro res B' ⟨b,hb,rfl,rfl⟩
  refine⟨⟨by simp, ?_, ?_, ?_,by simp⟩,rfl,by simp, ?_,b,hb,rfl,rfl⟩
  ·intro q y hm _;simp only[List.mem_singleton,Prod.mk.injEq]at hm;rw[hm.1];exact hf
  ·intro q y hm hq;simp only[List.mem_singleton,Prod.mk.injEq]at hm;omega
  ·intro q b' hm;simp only[List.mem_singleton,Prod.mk.injEq,Option.some.injEq]at hm;obtain⟨_,rfl⟩:=hm;exact⟨hn _ hb,by simp⟩
  ·intro p hm;obtain rfl:=List.mem_singleton.1 hm;exact⟨by show(900:Nat)<1000;omega,fun _=>rfl⟩
theorem K3 {a:Bs} {P:Program} {cl:Call} {d:Nat} {ts:List V} {B:Bs} {g:Nat} {xs:List V} {φ:Blk→Prop} {K:List V→Bs→Prop} (hc:cl.callee= .value (.func g)) (hg:uR P g=true)
    (ct:Ct P g xs [] (fun r B' => ∃b,φ b∧r= .c (.ptr 900 0 0)∧B' = [(900,some b)])) (hp:dx [] [] B (cl.args.toList.map (evl ts)) xs) (hf:B.get (nm d)=none) (hn: ∀b,φ b→closedB b=true)
    (h: ∀b,φ b→K (ts.set d (.c (.ptr (nm d) 0 0))) (B.set (nm d) (some b))):vX P a cl (some d) ts B K:=
  .inl ⟨[], [],_,JQ hc hg ct hp hf hn,by rintro v u ⟨b,hb,rfl,rfl⟩;exact h b hb⟩
attribute [local simp ↓] eG eH fQ fT eO dM fZ eP eQ gm gp gq dN dO dP gB gz gG gF dQ bW dV cz dJ dR eT eU eX
attribute [local simp] fU fV dK bR eF dL bS bT bU bV bM bN dS eY dU bX bY bZ cu bO fD lM iL dz iw evl dI eZ fu kD iX List.range List.range.loop lT kX fo fB iC iA Bs.live Bs.get lN WkV WkA WkC lg lH kY lD cZ iM TEq.refl bg fH yK ei d9 splice dE Bs.set kU fC Rn.at gu gy iF iD lL chunks lC fP toT fE iE rowsOf cB ik plR plV plC lF lI lQ lh fI iR lU
attribute [local simp low] xE xD xG
attribute [local simp] ag3 un3 sz3 in3 by3 ze3 ct3 zt3 zu3 ag4 un4 sz4 in4 by4 ze4 ct4 zt4 zu4 ag5 un5 sz5 in5 by5 ze5 ct5 zt5 zu5 mi mq mD mE mF mG mH mI mJ io3 mK io5 bo4 mM mO mP mQ mR mU mV mW mX mY mZ ng ni nk nu ny nz nA nC nD nE nG nH nI nJ nK nL nM nN nO nP nQ nR nS nT nU nV nW nX nY nZ oh ol om oo oq ou ow oz oC oD oF oG oH oI oJ oK oL oM oN oO oP oQ oU oV oW oZ o6 o7 o8 iZ ja jb jc jd je jf jg jh ji jk jl jm jo jq jr jv jw jy jA o9 pg pu pz pE pF pG pI pJ pK jB jC jD jE jF jG jH jI jJ jK jL jM jN jO jP jQ jR jS jT jU jV jW jX jY jZ kg ko mz gH gI gJ gK gL gN gP gQ gT gU gV gW gX gY gZ ib pO pQ pR pU pV pW pX pY p9 qa qb qc qd qf qg qh qi qj ql qm qo qp qw qx qy qz qA qB qC qD qE qF qG qH qI qJ qK qL qM qN qO qP mix
attribute [local simp] eb eC eI eS eK eM nm
theorem Nf (k:Nat) (cs:List S41) (a b:Int) (r:Int) (h:uz.f k cs a b=some r):iU Try.prog 94 [.c (.t (tC cs)), .i a, .i b] (.i r):=by
  refine bF Try.func94 rfl rfl rfl ?_
  simp (maxSteps:=2000000)
  refine Ao (fun n ts B=> ∃a,uz.l0 n cs a b=some r∧ts= [.c (.t (tC cs)), .i a, .i b, .dead, .dead, .dead, .dead, .dead, .dead, .dead, .dead, .dead, .dead, .dead, .dead, .dead, .dead, .dead]∧B= []) k _ _ (rJ (r:= []) ?_) ⟨a,h,rfl,rfl⟩ ?_
  ·constructor<;>simp
  rintro n ts B ⟨a,h,rfl,rfl⟩
  rcases n with _|n
  ·cases h
  simp only[uz.l0]at h
  cases hu:tN.f n cs b a with
  |none=>rw[hu]at h;cases h
  | some t=>
    rw[hu]at h
    simp only[Option.bind]at h
    simp (maxSteps:=2000000)
    refine av (GG n cs b a t hu) rfl rfl ⟨rfl,rfl,rfl,trivial⟩ ⟨rfl,rfl⟩ ?_
    cases t with
    | true=>
      simp at h
      simp (maxSteps:=2000000)
      refine um rfl ?_
      simp[h]
    | false=>
      simp (maxSteps:=2000000)
      rw[if_neg (by simp)]at h
      split at h<;>try cases h
      split at h<;>try cases h
      refine⟨⟨by assumption,by assumption⟩,n,by omega,_,_,rJ (r:= []) ?_,_,h,rfl,rfl⟩
      constructor<;>simp[lm]
set_option maxRecDepth 20000 in
theorem Ng (bs:List Int) (hb: ∀x∈bs,0≤x∧x<256):Ct Try.prog 16 [.c (.t (.sl 5 1 bs.length (fl 0 eb bs)))] [] (fun r B=> ∃b,(∃bs',zf bs' ∧b=rdB bs' 0)∧r= .c (.ptr 900 0 0)∧B= [(900,some b)]):=by
  refine bF Try.func16 rfl rfl rfl ?_
  simp (maxSteps:=2000000)
  refine⟨fun h=>⟨by omega, ?_⟩,fun h=> ?_⟩
  · have hl:((bs.take 2000).length:Nat)=2000:=by simp;omega
    refine HZ (cs' := [.t (.sl 5 1 (bs.take 2000).length (fl 0 eb (bs.take 2000))), .t (.i 0)]) rfl ⟨?_,TEq.refl _,trivial⟩ ⟨_,⟨bs.take 2000,⟨fun x hx=>hb x (List.mem_of_mem_take hx),by omega⟩,rfl⟩,rfl,rfl⟩
    rw[hl]
    refine TEq.sl _ _ _ _ _ (fun j hj=>rfl) (fun j o x y hj hx hy=> ?_)
    have e:fl 0 eb (bs.take 2000) j=fl 0 eb bs j:=by simp[fl,List.getD_eq_getElem?_getD,List.getElem?_take,hj]
    rw[e,hx]at hy;injection hy with hy;subst hy;exact TEq.refl _
  ·exact HZ (cs' := [.t (.sl 5 1 bs.length (fl 0 eb bs)), .t (.i 0)]) rfl ⟨TEq.refl _,TEq.refl _,trivial⟩ ⟨_,⟨bs,⟨hb,by omega⟩,rfl⟩,rfl,rfl⟩
def dh:List Bool→List V→List V
  |_, []=> []
  | [],_::l=> .dead::dh [] l
  |true::m,v::l=>v::dh m l
  |false::m,_::l=> .dead::dh m l
def puts (ts:List V):List (Nat×V)→List V
  | []=>ts
  |(i,v)::l=>puts (ts.set i v) l
theorem Av: ∀(m:List Bool) (ts:List V),(dh m ts).length=ts.length∧∀(i:Nat) (x:V),(dh m ts)[i]? =some x→ts[i]? =some x∨x=V.dead
  |_, []=>by simp[dh]
  | [],v::l=>by
    obtain⟨h1,h2⟩:=Av [] l
    refine⟨by simp[dh,h1],fun i x h=> ?_⟩
    rcases i with _|i
    ·simp[dh]at h;exact .inr h.symm
    ·simp[dh]at h;simpa using h2 i x h
  | true::m,v::l=>by
    obtain⟨h1,h2⟩:=Av m l
    refine⟨by simp[dh,h1],fun i x h=> ?_⟩
    rcases i with _|i
    ·simp[dh]at h;simp[h]
    ·simp[dh]at h;simpa using h2 i x h
  | false::m,v::l=>by
    obtain⟨h1,h2⟩:=Av m l
    refine⟨by simp[dh,h1],fun i x h=> ?_⟩
    rcases i with _|i
    ·simp[dh]at h;exact .inr h.symm
    ·simp[dh]at h;simpa using h2 i x h
theorem JS {ins:Bs} {ts:List V} {B:Bs} (m:List Bool):sW ins ts B (dh m ts) B:=fun c a w ρ hc hr=>by
  obtain⟨h1,h2⟩:=Av m ts
  refine⟨ρ,hr.df,hr.sz.trans h1.symm,hr.mem,fun i x hx=> ?_⟩
  rcases h2 i x hx with h|rfl
  ·exact hr.rep i x h
  ·trivial
theorem fe {ins:Bs} {ts ts' :List V} {B:Bs} (m:List Bool) (h:dh m ts=ts'):sW ins ts B ts' B:=h▸JS m
theorem fw {ins:Bs} {ts ts' :List V} {B B' :Bs} (m:List Bool) (h:dh m ts=ts') (hw:Wk ins (idR B') ts' B ts' B'):sW ins ts B ts' B' :=(fe m h).trans (rJ hw)
structure NextB {α:Type} (ins:Bs) (T:α→List V) (Bv:α→Bs) (inv:Nat→α→Prop) (k:Nat) (c:List V) (B1:Bs):Prop where
  out: ∃j a,j<k∧inv j a∧sW ins c B1 (T a) (Bv a)
def Aw {α:Type} (ins:Bs) (T:α→List V) (Bv:α→Bs) (inv:Nat→α→Prop) (k:Nat) (Q:Post):Post:=AU (fun a B1=>NextB ins T Bv inv k a B1) Q
def mkT {α:Type} (m:List Bool) (ts:List V) (val:α→List (Nat×V)) (a:α):List V:=puts (dh m ts) (val a)
section
variable {α:Type} {P:Program} {ins:Bs} {x:Code} {Q:Post} {ts:List V} {B:Bs} {T:α→List V} {Bv:α→Bs} {inv:Nat→α→Prop} {k n id:Nat} {a0:α}
theorem iG:Aw ins T Bv inv k Q .normal ts B=NextB ins T Bv inv k ts B:=rfl
theorem iH:Aw ins T Bv inv k Q (.exit id) ts B=Q (.exit id) ts B:=rfl
theorem iI:Aw ins T Bv inv k Q .ret ts B=Q .ret ts B:=rfl
theorem H5 (T:α→List V) (Bv:α→Bs) (inv:Nat→α→Prop) (h0:inv n a0) (hw:sW ins ts B (T a0) (Bv a0)) (h: ∀k a,k≤n→inv k a→aw P ins x (Aw ins T Bv inv k Q) (T a) (Bv a)):Am P ins x Q ts B:=by
  refine xQ hw ?_
  refine Fy (fun k ts B=> ∃a,k≤n∧inv k a∧sW ins ts B (T a) (Bv a)) n ⟨a0,Nat.le_refl _,h0,sW.refl⟩ ?_
  rintro k ts B ⟨a,hk,hi,h1⟩
  refine xQ h1 (yC (EH _ _ _ _ (h k a hk hi)) ?_)
  intro e ts B h
  cases e with
  |normal=>obtain⟨j,a',h1,h2,h3⟩:=h.out;exact⟨j,h1,a',by omega,h2,h3⟩
  |exit id=>exact h
  |ret=>exact h
theorem rW {β:Type} {b0:β} (m:List Bool) (val:β→List (Nat×V)) (inv:Nat→β→Prop) (h0:inv n b0) (e0:mkT m ts val b0=dh m ts)
    (h: ∀k a,k≤n→inv k a→aw P ins x (Aw ins (mkT m ts val) (fun _=>B) inv k Q) (puts (dh m ts) (val a)) B):Am P ins x Q ts B:=
  H5 (mkT m ts val) (fun _=>B) inv h0 (fe m e0.symm) h
theorem rX {m:List Bool} {val:α→List (Nat×V)} {a:List V} {B1:Bs} {j:Nat} (hj:j<k) (hi:inv j a0) (hm:sW ins a B1 (mkT m ts val a0) B):NextB ins (mkT m ts val) (fun _=>B) inv k a B1:=
  ⟨j,a0,hj,hi,hm⟩
end
theorem dA {a b:Int} (h:a=b):(a=b)=True:=eq_true h
theorem dB {a b:Int} (h: ¬a=b):(a=b)=False:=eq_false h
def gd {α:Type} (d:α) (xs:List α) (j:Nat):α:=xs.getD j d
theorem qQ {α:Type} {d:α} {en:α→List T} {xs:List α} {j:Nat}:fl d en xs j=en (gd d xs j):=rfl
theorem aF (xs:List Int) (i:Int):Go.Proofs.YtojpejfcafbafaaW.PrintWords.rd xs i=gd 0 xs i.toNat:=rfl
theorem aG (xs:List S41) (i:Int):lm xs i=gd z41 xs i.toNat:=rfl
theorem aD (xs:List S67) (i:Int):bB xs i=gd z67 xs i.toNat:=rfl
theorem aH (xs:List S69) (i:Int):kw xs i=gd z69 xs i.toNat:=rfl
theorem aI (xs:List S73) (i:Int):fJ xs i=gd z73 xs i.toNat:=rfl
theorem aJ (xs:List S35) (i:Int):ay xs i=gd z35 xs i.toNat:=rfl
theorem aB {α:Type} {c:Prop} {dc:Decidable c} {a b:Option α} {r:α} (h:(if c then a else b)=some r):(c∧a=some r)∨(¬c∧b=some r):=by
  by_cases hc:c
  ·rw[if_pos hc]at h;exact .inl ⟨hc,h⟩
  ·rw[if_neg hc]at h;exact .inr ⟨hc,h⟩
section
variable {α:Type} {c:Prop} {dc:Decidable c} {a b:Option α} {r:α}
theorem bC (hc:c) (h:(if c then a else b)=some r):a=some r:=by rw[if_pos hc]at h;exact h
theorem bD (hc: ¬c) (h:(if c then a else b)=some r):b=some r:=by rw[if_neg hc]at h;exact h
theorem aY (hc:c=True) (h:(if c then a else b)=some r):a=some r:=bC (of_eq_true hc) h
theorem aZ (hc:c=False) (h:(if c then a else b)=some r):b=some r:=bD (of_eq_false hc) h
end
theorem aL {α β:Type} {a:α} {f:α→Option β} {r:β} (h:(some a).bind f=some r):f a=some r:=h
theorem bG {a b:Bool} (h:a=b):a=b:=h
theorem qR (a b:Int):(a==b)=decide (a=b):=rfl
theorem qU (a b:Int):(a !=b)= !decide (a=b):=rfl
theorem aM {α:Type} {f:Nat→Option α} {k:Nat} {r:α} (h0:f 0=none) (h:f k=some r): ∃k',k=k' +1:=by
  rcases k with _|k
  ·rw[h0]at h;cases h
  ·exact⟨k,rfl⟩
theorem iJ {α:Type} {d:α} {en:α→List T} {xs ys:List α} {n:Nat} (h:n=xs.length):uk n (fl d en xs) (fl d en ys)=fl d en (xs++ys):=by
  subst h
  funext j
  unfold uk
  by_cases h1:j<xs.length
  ·rw[if_pos h1];simp[fl,List.getD_eq_getElem?_getD,List.getElem?_append,h1]
  ·rw[if_neg h1];simp[fl,List.getD_eq_getElem?_getD,List.getElem?_append,h1]
theorem rZ {α:Type} {d:α} {en:α→List T} {z:List T} {rows:List (List T)} (xs:List α) (h:z=en d) (h2:rows=xs.map en):fE z rows=fl d en xs:=FN xs h h2
theorem kG:fE [T.s (.int .i64 0)] []=fl 0 ei []:=rZ [] rfl rfl
theorem kH (a:Int):fE [T.s (.int .i64 0)] [[T.s (.int .i64 a)]]=fl 0 ei [a]:=rZ [a] rfl rfl
theorem kJ (a b:Int):fE [T.s (.int .i64 0)] [[T.s (.int .i64 a)], [T.s (.int .i64 b)]]=fl 0 ei [a,b]:=rZ [a,b] rfl rfl
theorem kL (a b c:Int):fE [T.s (.int .i64 0)] [[T.s (.int .i64 a)], [T.s (.int .i64 b)], [T.s (.int .i64 c)]]=fl 0 ei [a,b,c]:=rZ [a,b,c] rfl rfl
theorem Bd {α:Type} {d x:α} {en:α→List T} {xs:List α} {i:Int} {r:List T} (h:r=en x) (h0:0≤i) (h1:i<(xs.length:Int)):iE (fl d en xs) i.toNat r=fl d en (xs.set i.toNat x):=by
  subst h
  funext j
  have h2:i.toNat<xs.length:=by omega
  unfold iE
  by_cases hj:j=i.toNat
  ·subst hj;simp[fl,List.getD_eq_getElem?_getD,List.getElem?_set,h2]
  ·rw[if_neg hj];simp[fl,List.getD_eq_getElem?_getD,List.getElem?_set,Ne.symm hj]
theorem kN {xs:List Int} {i x:Int} (h0:0≤i) (h1:i<(xs.length:Int)):iE (fl 0 ei xs) i.toNat [T.s (.int .i64 x)]=fl 0 ei (xs.set i.toNat x):=Bd rfl h0 h1
theorem Mg {α:Type} {d:α} {en:α→List T} {e sz n m:Nat} {xs ys:List α} (h:ys=xs.take n) (hn:n≤xs.length) (hm:m=n):TEq (.sl e sz n (fl d en xs)) (.sl e sz m (fl d en ys)):=by
  subst hm;subst h
  have e1: ∀j,j<m→fl d en (xs.take m) j=fl d en xs j:=fun j hj=>by simp[fl,List.getD_eq_getElem?_getD,List.getElem?_take,hj]
  exact .sl _ _ _ _ _ (fun j hj=>by rw[e1 j hj]) (fun j o x y hj hx hy=>by rw[e1 j hj,hx]at hy;injection hy with hy;subst hy;exact TEq.refl _)
theorem az {α:Type} {d:α} {en:α→List T} {e sz m:Nat} {i:Int} {xs:List α} (h0:0≤i) (h1:i≤(xs.length:Int)) (hm:m=min i.toNat xs.length):TEq (.sl e sz i.toNat (fl d en xs)) (.sl e sz m (fl d en (xs.take i.toNat))):=
  Mg rfl (by omega) (by omega)
theorem aP {n N m:Nat} (h:(n<N)=True) (hm:N * m≤140737488355328) (hN:N≤maxLen):n≤maxLen∧n * m≤140737488355328:=by
  have h:=of_eq_true h
  exact⟨by omega,Nat.le_trans (Nat.mul_le_mul_right m (by omega)) hm⟩
theorem aN {n N m:Nat} (h:(n<N)=True) (hm:N * m≤140737488355328) (hN:N≤maxLen):n+1≤maxLen∧(n+1) * m≤140737488355328:=by
  have h:=of_eq_true h
  exact⟨by omega,Nat.le_trans (Nat.mul_le_mul_right m (by omega)) hm⟩
theorem kP {n m:Nat} {f g:Nat→List T}:(∃N f0,(n=N∧f=f0)∧vR m f0 g)↔vR m f g:=⟨fun⟨_,_,⟨rfl,rfl⟩,h⟩=>h,fun h=>⟨_,_,⟨rfl,rfl⟩,h⟩⟩
def uL (P:Program) (g:Nat) (xs:List V) (ins:Bs) (v:V) (B' :Bs):Prop:=Ct P g xs ins (fun r B1=>r=v∧B1=B')
def ksC:C→C→List (Nat×Nat)
  | .own i _ _, .own k _ _=> [(i,k)]
  | .ptr i _ _, .ptr k _ _=> [(i,k)]
  |_,_=> []
def rV:List C→List C→List (Nat×Nat)
  |x::xs,y::ys=>ksC x y++rV xs ys
  |_,_=> []
def ksV:V→V→List (Nat×Nat)
  | .c x, .c y=>ksC x y
  | .agg xs, .agg ys=>rV xs ys
  |_,_=> []
def ru:List V→List V→List (Nat×Nat)
  |x::xs,y::ys=>ksV x y++ru xs ys
  |_,_=> []
def ksT:V→V→List (Nat×Nat)
  | .tup xs, .tup ys=>ru xs ys
  |x,y=>ksV x y
def ksL (m:List (Nat×Nat)):Nat→Nat→List Nat
  |_,0=> []
  |i,n+1=>((m.find? fun p=>p.1==i).map (·.2)).getD 0::ksL m (i+1) n
structure FnSide (B B' :Bs) (ks:List Nat) (dst:Option Tmp) (v:V):Prop where
  nd:ks.Nodup
  few:ks.length≤100
  live: ∀k∈ks,(B.live k).any closedB=true
  nd' :(B'.map fun p=>ren (dst.getD 0) ks p.1).Nodup
  back: ∀p∈B',if p.1<100 then p.1<ks.length else B.get (ren (dst.getD 0) ks p.1)=none∧p.1<1000∧dst.isSome=true
  closed: ∀p∈B',p.2.all closedB=true
  tp:iQ v=true
section
variable {P:Program} {cl:Call} {dst:Option Tmp} {ts:List V} {B:Bs} {g:Nat} {xs:List V} {ins B' :Bs} {v:V} {ks:List Nat} {K:List V→Bs→Prop}
theorem Gj (ct:uL P g xs ins v B') (hc:cl.callee= .value (.func g)) (hg:uR P g=true) (hi:dw B 0 ks=ins) (hp:dx ks [] B (cl.args.toList.map (evl ts)) xs) (hs:FnSide B B' ks dst v):
    CallAt P cl dst (dst.getD 0) (evl ts) B ks [] (fun w u=>w=kr (ren (dst.getD 0) ks) v∧u=B'.map fun p=>(ren (dst.getD 0) ks p.1,p.2)):=by
  subst hi
  refine⟨g,xs, [],_,hc,hg,⟨hs.nd,hs.few,fun k hk=> ?_,by simp⟩,hp,ct, ?_⟩
  · have:=hs.live k hk
    cases hl:B.live k with
    |none=>rw[hl]at this;simp at this
    |some b=>rw[hl]at this;exact⟨b,rfl,by simpa using this⟩
  · rintro res B1 ⟨rfl,rfl⟩
    refine⟨⟨hs.nd',fun q y hm hq=> ?_,fun q y hm hq=> ?_,fun q b hm=>⟨?_,by simp⟩,by simp⟩,hs.tp,by simp,fun p hm=> ?_,rfl,rfl⟩
    ·have:=hs.back _ hm;rw[if_neg hq]at this;exact this.1
    ·have:=hs.back _ hm;rw[if_pos hq]at this;exact this
    ·have:=hs.closed _ hm;simpa using this
    · have:=hs.back _ hm
      by_cases hq:p.1<100
      ·exact⟨by omega,fun h=>absurd hq h⟩
      · rw[if_neg hq]at this
        refine⟨this.2.1,fun _=> ?_⟩
        cases dst with
        |none=>simp at this
        |some d=>rfl
theorem aC {a:Bs} (ct:uL P g xs ins v B') (hc:cl.callee= .value (.func g)) (hg:uR P g=true) (hks:ksL (ru xs (cl.args.toList.map (evl ts))) 0 ins.length=ks) (hi:dw B 0 ks=ins) (hp:dx ks [] B (cl.args.toList.map (evl ts)) xs) (hs:FnSide B B' ks dst v)
    (h:K (dI ts dst (kr (ren (dst.getD 0) ks) v)) (dE B (B'.map fun p=>(ren (dst.getD 0) ks p.1,p.2)))):vX P a cl dst ts B K:=
  .inl ⟨ks, [],_,Gj ct hc hg hi hp hs,by rintro w u ⟨rfl,rfl⟩;exact h⟩
theorem bI {pt:List (List Nat)} {ds:List Nat} {i:Nat} {tr:Tr} {K:Tr→List V→Bs→Prop} (ct:uL P g xs ins v B') (hc:cl.callee= .value (.func g)) (hg:uR P g=true) (hks:ksL (ru xs (cl.args.toList.map (evl ts))) 0 ins.length=ks) (hi:dw B 0 ks=ins) (hp:dx ks [] B (cl.args.toList.map (evl ts)) xs) (hs:FnSide B B' ks dst v)
    (hk:aj pt ds i [] ks tr=true) (h:K ((i, [],ks)::tr) (dI ts dst (kr (ren (dst.getD 0) ks) v)) (dE B (B'.map fun p=>(ren (dst.getD 0) ks p.1,p.2)))):zi P cl dst ts B pt ds i tr K:=
  ⟨ks, [],_,Gj ct hc hg hi hp hs,hk,by rintro w u ⟨rfl,rfl⟩;exact h⟩
theorem ed {V0:V} (r:Rn) (hr:ksT v V0++ins.map (fun p=>(p.1,p.1))=r) (hw:Wk ins r [V0] B [v] B'):yl ins (fun w B1=>w=v∧B1=B') V0 B:=⟨v,B',rJ hw,rfl,rfl⟩
end
theorem fF (n:Nat):1+n=n+1:=Nat.add_comm 1 n
theorem dW:(1≤maxLen)=True:=by simp[maxLen]
theorem zn {ins:Bs} {ts a c:List V} {B B' :Bs} (m:List Bool) (r:Rn) (h:dh m ts=a) (hw:Wk ins r a B c B'):sW ins ts B c B' :=(fe m h).trans (rJ hw)
section
variable {β:Type} {P:Program} {ins:Bs} {x:Code} {Q:Post} {ts:List V} {B:Bs} {n:Nat} {b0:β}
theorem tu (m:List Bool) (val:β→List (Nat×V)) (ub:β→List (Nat×Option Blk)) (inv:Nat→β→Prop) (r:Rn) (h0:inv n b0) (hw:Wk ins (r++idR B) (dh m ts) B (mkT m ts val b0) (dE B (ub b0)))
    (h: ∀k a,k≤n→inv k a→aw P ins x (Aw ins (mkT m ts val) (fun a=>dE B (ub a)) inv k Q) (puts (dh m ts) (val a)) (dE B (ub a))):Am P ins x Q ts B:=
  H5 (mkT m ts val) (fun a=>dE B (ub a)) inv h0 (zn m _ rfl hw) h
theorem ku {inv:Nat→β→Prop} {T:β→List V} {Bv:β→Bs} {k j:Nat} {a:β} (m:List Bool) (r:Rn) (hj:j<k) (hi:inv j a) (hw:Wk ins (r++idR B) (dh m ts) B (T a) (Bv a)):NextB ins T Bv inv k ts B:=
  ⟨j,a,hj,hi,zn m _ rfl hw⟩
end
end Go.Proofs.Ytojpejfcafbafaa.V
end
section
namespace Go.Proofs.Ytojpejfcafbafaa.P
open Go.RowKit Go.Proofs.YtojpejfcafbafaaW.PrintWords Go.Proofs.YtojpejfcafbafaaW.PrintLast Go.Proofs.YtojpejfcafbafaaW.PrintMore
attribute [local go_sem] bn bq bP bQ aW aX bu bv
set_option linter.unusedVariables false
set_option linter.unusedSimpArgs false
def uT.f (l0:List (S41)) (a1:Int):Option (Bool):=if a1=1 then(some true)else(if a1=3 then(some true)else(if a1=4 then(some true)else((iK.f a1 8 (wrap64 ((wrap64 (8+(l0.length:Int))) - 1))).bind fun a=>(some a))))
def l8.l0:Nat→List (S41)→Int→Int→Int→List Int→Option (Bool)
  |0,_,_,_,_,_=>none
  |k+1,x0,x1,x6,c,a=>if x6<(a.length:Int)then(if 0≤x6 then((uT.f x0 (rd a x6)).bind fun d=>(if d=true then(l8.l0 k x0 x1 (wrap64 (x6+1)) c a)else(some false)))else(none))else(if x1=0 then(if c=(-1)then(some ((a.length:Int)==0))else(some false))else(if x1=1 then(if c=0 then(if(a.length:Int)=1 then(if 0<(a.length:Int)then(some ((rd a 0)==1))else(none))else(some false))else(some false))else((iK.f c 0 (wrap64 (x1 - 1))).bind fun e=>(if e=true then(some (decide ((a.length:Int)≤2)))else(some false)))))
def l8.f (k:Nat) (l0:List (S41)) (a1:Int):Option (Bool):=if 0≤a1 then(if a1<(l0.length:Int)then(l8.l0 k l0 a1 0 ((lm l0 a1).f0) ((lm l0 a1).f1))else(none))else(none)
def iP.l0:Nat→List (S41)→Int→Option (Bool)
  |0,_,_=>none
  |k+1,x0,x3=>if x3<(x0.length:Int)then((l8.f k x0 x3).bind fun a=>(if a=true then(iP.l0 k x0 (wrap64 (x3+1)))else(some false)))else(some true)
def iP.f (k:Nat) (l0:List (S41)):Option (Bool):=(iK.f (l0.length:Int) 2 5).bind fun a=>(if a=true then(iP.l0 k l0 0)else(some false))
def wP.f (k:Nat) (l0:List (S41)) (a1:Int):Option (Bool):=(iP.f k l0).bind fun a=>(if a=true then(if a1=0 then(some true)else(if a1=2 then(some true)else((uT.f l0 a1).bind fun c=>(some c))))else(some false))
mutual
def cK.j0:Nat→List (S41)→Bool→Bool→List Int→List Int→Option (Bool)
  |0,_,_,_,_,_=>none
  |k+1,x0,e,a,c,d=>if e=true then(some false)else(cK.l0 k x0 0 a c d)
def cK.l0:Nat→List (S41)→Int→Bool→List Int→List Int→Option (Bool)
  |0,_,_,_,_,_=>none
  |k+1,x0,x7,c,a,d=>if x7<(a.length:Int)then(if 0≤x7 then((wP.f k x0 (rd a x7)).bind fun e=>(if e=true then(cK.l0 k x0 (wrap64 (x7+1)) c a d)else(some false)))else(none))else(cK.l1 k x0 0 c a d)
def cK.l1:Nat→List (S41)→Int→Bool→List Int→List Int→Option (Bool)
  |0,_,_,_,_,_=>none
  |k+1,x0,x8,c,d,a=>if x8<(a.length:Int)then(if 0≤x8 then((wP.f k x0 (rd a x8)).bind fun e=>(if e=true then(if(rd a x8)=0 then(some false)else(cK.l1 k x0 (wrap64 (x8+1)) c d a))else(some false)))else(none))else(some true)
end
def cK.f (k:Nat) (l0:List (S41)) (a1:Int) (d:Bool) (a:List Int) (c:List Int):Option (Bool):=(iP.f k l0).bind fun e=>(if e=true then(if d=true then(if(a.length:Int)=a1 then(cK.j0 k l0 (decide ((c.length:Int)>4)) d a c)else(cK.j0 k l0 true d a c))else(if(a.length:Int)=0 then(some ((c.length:Int)==0))else(some false)))else(some false))
end Go.Proofs.Ytojpejfcafbafaa.P
end
section
namespace Go.Proofs.Ytojpejfcafbafaa.V
open Go Go.RowKit Go.Proofs.Ytojpejfcafbafaa.P
set_option linter.unusedVariables false
set_option linter.unusedSimpArgs false
attribute [local simp ↓] eG eH fQ fT eO dM fZ eP eQ gm gp gq dN dO dP gB gz gG gF dQ bW dV cz dJ dR eT eU eX
attribute [local simp] fU fV dK bR eF dL bS bT bU bV bM bN dS eY dU bX bY bZ cu bO fD lM iL dz iw evl dI eZ fu kD iX List.range List.range.loop lT kX fo fB iC iA Bs.live Bs.get lN WkV WkA WkC lg lH kY lD cZ iM TEq.refl bg fH qQ aF aG aD aH aI aJ ei d9 splice dE Bs.set kU fC Rn.at gu gy iF iD lL chunks lC fP toT fE iE rowsOf cB ik plR plV plC lF lI lQ lh fI iR lU
attribute [local simp] List.length_pos_iff qR qU iG iH iI puts dh
attribute [local simp ←] ig
attribute [local simp] ksL ru ksV rV ksC ksT ren kr rO rH dw fF dW dx iW iB iO iQ lS rG closedB iT kP kG kH kJ kL iJ kN
attribute [local simp] ag3 un3 sz3 in3 by3 ze3 ct3 zt3 zu3 ag4 un4 sz4 in4 by4 ze4 ct4 zt4 zu4 ag5 un5 sz5 in5 by5 ze5 ct5 zt5 zu5 mi mq mD mE mF mG mH mI mJ io3 mK io5 bo4 mM mO mP mQ mR mU mV mW mX mY mZ ng ni nk nu ny nz nA nC nD nE nG nH nI nJ nK nL nM nN nO nP nQ nR nS nT nU nV nW nX nY nZ oh ol om oo oq ou ow oz oC oD oF oG oH oI oJ oK oL oM oN oO oP oQ oU oV oW oZ o6 o7 o8 iZ ja jb jc jd je jf jg jh ji jk jl jm jo jq jr jv jw jy jA o9 pg pu pz pE pF pG pI pJ pK jB jC jD jE jF jG jH jI jJ jK jL jM jN jO jP jQ jR jS jT jU jV jW jX jY jZ kg ko mz gH gI gJ gK gL gN gP gQ gT gU gV gW gX gY gZ ib pO pQ pR pU pV pW pX pY p9 qa qb qc qd qf qg qh qi qj ql qm qo qp qw qx qy qz qA qB qC qD qE qF qG qH qI qJ qK qL qM qN qO qP mix
attribute [local simp] eb eC eI eS eK eM nm
set_option maxRecDepth 20000 in
set_option maxHeartbeats 4000000 in
theorem wV (l0:List (S41)) (a1:Int) (r:Bool) (h:uT.f l0 a1=some r):iU Try.prog 72 [.c (.t (tC l0)), .i a1] (.b r):=by
  unfold uT.f at h
  try simp only[aF,aG,aD,aH,aI,aJ]at h
  refine bF Try.func72 rfl rfl rfl ?_
  try simp -implicitDefEqProofs (maxSteps:=2000000)
  repeat' first
    |(with_reducible (first|(replace h:=bC (by assumption) h)|(replace h:=bD (by assumption) h)|(replace h:=aY (by assumption) h)|(replace h:=aZ (by assumption) h)))
    |((with_reducible have hh:=aB h);clear h;rcases hh with⟨hc,h⟩|⟨hc,h⟩<;>have hd:=hc<;>(first|(replace hc:=dA hc)|(replace hc:=dB hc)|skip)<;>(try simp at hd)<;>(try(first|(subst hd)|(replace hd:=bG hd)|(replace hd:=eq_false hd)|(replace hd:=eq_true hd)))<;>(try simp -implicitDefEqProofs (maxSteps:=2000000) [*, -h]))
    |(with_reducible replace h:=aL h)
    | ((with_reducible have hh:=Option.bind_eq_some_iff.1 h);clear h;obtain⟨x_,hx_,h⟩:=hh;(first|(refine av (si (h:=hx_)) rfl rfl ?_ ⟨rfl,rfl⟩ ?_;(·simp[*]);clear hx_;try simp -implicitDefEqProofs (maxSteps:=2000000) [*, -h]))
       )
    |(refine⟨(by first|exact aP (by assumption) (by decide) (by decide)|exact aN (by assumption) (by decide) (by decide)), ?_⟩;try simp -implicitDefEqProofs (maxSteps:=2000000) [*, -h])
    |(cases h;done)
    |(cases h;refine aV _ ?_ ⟨rfl,rfl⟩;simp[*]<;>exact az (by omega) (by omega) (by simp))
set_option maxRecDepth 20000 in
set_option maxHeartbeats 4000000 in
theorem Em (k:Nat) (l0:List (S41)) (a1:Int) (r:Bool) (h:l8.f k l0 a1=some r):iU Try.prog 49 [.c (.t (tC l0)), .i a1] (.b r):=by
  unfold l8.f at h
  try simp only[aF,aG,aD,aH,aI,aJ]at h
  refine bF Try.func49 rfl rfl rfl ?_
  try simp -implicitDefEqProofs (maxSteps:=2000000)
  repeat' first
    |(with_reducible (first|(replace h:=bC (by assumption) h)|(replace h:=bD (by assumption) h)|(replace h:=aY (by assumption) h)|(replace h:=aZ (by assumption) h)))
    |((with_reducible have hh:=aB h);clear h;rcases hh with⟨hc,h⟩|⟨hc,h⟩<;>have hd:=hc<;>(first|(replace hc:=dA hc)|(replace hc:=dB hc)|skip)<;>(try simp at hd)<;>(try(first|(subst hd)|(replace hd:=bG hd)|(replace hd:=eq_false hd)|(replace hd:=eq_true hd)))<;>(try simp -implicitDefEqProofs (maxSteps:=2000000) [*, -h]))
    |(with_reducible replace h:=aL h)
    | ((with_reducible have hh:=Option.bind_eq_some_iff.1 h);clear h;obtain⟨x_,hx_,h⟩:=hh;(first|(refine av (wV (h:=hx_)) rfl rfl ?_ ⟨rfl,rfl⟩ ?_;(·simp[*]);clear hx_;try simp -implicitDefEqProofs (maxSteps:=2000000) [*, -h])|(refine av (si (h:=hx_)) rfl rfl ?_ ⟨rfl,rfl⟩ ?_;(·simp[*]);clear hx_;try simp -implicitDefEqProofs (maxSteps:=2000000) [*, -h]))
       )
    | (refine rW [true,true,false,false,false,true,true,true,true,true,true] (fun(x6:Int)=> [(6, .i x6)]) (fun n (x6:Int)=>l8.l0 n _ _ x6 _ _=some _) h (by first|rfl|simp[mkT]) ?_;clear h;intro k x6 hk h
       obtain⟨k,rfl⟩:=aM (f:=fun k=>l8.l0 k _ _ _ _ _) (by simp only[l8.l0]) h;simp only[l8.l0]at h;try simp only[aF,aG,aD,aH,aI,aJ]at h;try simp -implicitDefEqProofs (maxSteps:=2000000))
    |(exact rX (inv:=fun n (x6:Int)=>l8.l0 n _ _ x6 _ _=some _) (by omega) h (by first|exact fe [true,true,false,false,false,true,true,true,true,true,true] rfl|exact fw [true,true,false,false,false,true,true,true,true,true,true] rfl (by constructor<;>simp[idR,mkT])))
    |(refine⟨(by first|exact aP (by assumption) (by decide) (by decide)|exact aN (by assumption) (by decide) (by decide)), ?_⟩;try simp -implicitDefEqProofs (maxSteps:=2000000) [*, -h])
    |(cases h;done)
    |(cases h;refine aV _ ?_ ⟨rfl,rfl⟩;simp[*]<;>exact az (by omega) (by omega) (by simp))
set_option maxRecDepth 20000 in
set_option maxHeartbeats 4000000 in
theorem vW (k:Nat) (l0:List (S41)) (r:Bool) (h:iP.f k l0=some r):iU Try.prog 26 [.c (.t (tC l0))] (.b r):=by
  unfold iP.f at h
  try simp only[aF,aG,aD,aH,aI,aJ]at h
  refine bF Try.func26 rfl rfl rfl ?_
  try simp -implicitDefEqProofs (maxSteps:=2000000)
  repeat' first
    |(with_reducible (first|(replace h:=bC (by assumption) h)|(replace h:=bD (by assumption) h)|(replace h:=aY (by assumption) h)|(replace h:=aZ (by assumption) h)))
    |((with_reducible have hh:=aB h);clear h;rcases hh with⟨hc,h⟩|⟨hc,h⟩<;>have hd:=hc<;>(first|(replace hc:=dA hc)|(replace hc:=dB hc)|skip)<;>(try simp at hd)<;>(try(first|(subst hd)|(replace hd:=bG hd)|(replace hd:=eq_false hd)|(replace hd:=eq_true hd)))<;>(try simp -implicitDefEqProofs (maxSteps:=2000000) [*, -h]))
    |(with_reducible replace h:=aL h)
    | ((with_reducible have hh:=Option.bind_eq_some_iff.1 h);clear h;obtain⟨x_,hx_,h⟩:=hh;(first|(refine av (Em (h:=hx_)) rfl rfl ?_ ⟨rfl,rfl⟩ ?_;(·simp[*]);clear hx_;try simp -implicitDefEqProofs (maxSteps:=2000000) [*, -h])|(refine av (si (h:=hx_)) rfl rfl ?_ ⟨rfl,rfl⟩ ?_;(·simp[*]);clear hx_;try simp -implicitDefEqProofs (maxSteps:=2000000) [*, -h]))
       )
    | (refine rW [true,false,false,true,true,true,true,true] (fun(x3:Int)=> [(3, .i x3)]) (fun n (x3:Int)=>iP.l0 n _ x3=some _) h (by first|rfl|simp[mkT]) ?_;clear h;intro k x3 hk h
       obtain⟨k,rfl⟩:=aM (f:=fun k=>iP.l0 k _ _) (by simp only[iP.l0]) h;simp only[iP.l0]at h;try simp only[aF,aG,aD,aH,aI,aJ]at h;try simp -implicitDefEqProofs (maxSteps:=2000000))
    |(exact rX (inv:=fun n (x3:Int)=>iP.l0 n _ x3=some _) (by omega) h (by first|exact fe [true,false,false,true,true,true,true,true] rfl|exact fw [true,false,false,true,true,true,true,true] rfl (by constructor<;>simp[idR,mkT])))
    |(refine⟨(by first|exact aP (by assumption) (by decide) (by decide)|exact aN (by assumption) (by decide) (by decide)), ?_⟩;try simp -implicitDefEqProofs (maxSteps:=2000000) [*, -h])
    |(cases h;done)
    |(cases h;refine aV _ ?_ ⟨rfl,rfl⟩;simp[*]<;>exact az (by omega) (by omega) (by simp))
set_option maxRecDepth 20000 in
set_option maxHeartbeats 4000000 in
theorem Fe (k:Nat) (l0:List (S41)) (a1:Int) (r:Bool) (h:wP.f k l0 a1=some r):iU Try.prog 75 [.c (.t (tC l0)), .i a1] (.b r):=by
  unfold wP.f at h
  try simp only[aF,aG,aD,aH,aI,aJ]at h
  refine bF Try.func75 rfl rfl rfl ?_
  try simp -implicitDefEqProofs (maxSteps:=2000000)
  repeat' first
    |(with_reducible (first|(replace h:=bC (by assumption) h)|(replace h:=bD (by assumption) h)|(replace h:=aY (by assumption) h)|(replace h:=aZ (by assumption) h)))
    |((with_reducible have hh:=aB h);clear h;rcases hh with⟨hc,h⟩|⟨hc,h⟩<;>have hd:=hc<;>(first|(replace hc:=dA hc)|(replace hc:=dB hc)|skip)<;>(try simp at hd)<;>(try(first|(subst hd)|(replace hd:=bG hd)|(replace hd:=eq_false hd)|(replace hd:=eq_true hd)))<;>(try simp -implicitDefEqProofs (maxSteps:=2000000) [*, -h]))
    |(with_reducible replace h:=aL h)
    | ((with_reducible have hh:=Option.bind_eq_some_iff.1 h);clear h;obtain⟨x_,hx_,h⟩:=hh;(first|(refine av (vW (h:=hx_)) rfl rfl ?_ ⟨rfl,rfl⟩ ?_;(·simp[*]);clear hx_;try simp -implicitDefEqProofs (maxSteps:=2000000) [*, -h])|(refine av (wV (h:=hx_)) rfl rfl ?_ ⟨rfl,rfl⟩ ?_;(·simp[*]);clear hx_;try simp -implicitDefEqProofs (maxSteps:=2000000) [*, -h]))
       )
    |(refine⟨(by first|exact aP (by assumption) (by decide) (by decide)|exact aN (by assumption) (by decide) (by decide)), ?_⟩;try simp -implicitDefEqProofs (maxSteps:=2000000) [*, -h])
    |(cases h;done)
    |(cases h;refine aV _ ?_ ⟨rfl,rfl⟩;simp[*]<;>exact az (by omega) (by omega) (by simp))
set_option maxRecDepth 20000 in
set_option maxHeartbeats 4000000 in
theorem zW (k:Nat) (l0:List (S41)) (a1:Int) (a:Bool) (d:List Int) (e:List Int) (r:Bool) (h:cK.f k l0 a1 a d e=some r):iU Try.prog 52 [.c (.t (tC l0)), .i a1, .agg [.t (.b a), .t (.ints d), .t (.ints e)]] (.b r):=by
  unfold cK.f at h
  try simp only[aF,aG,aD,aH,aI,aJ]at h
  refine bF Try.func52 rfl rfl rfl ?_
  try simp -implicitDefEqProofs (maxSteps:=2000000)
  repeat' first
    |(with_reducible (first|(replace h:=bC (by assumption) h)|(replace h:=bD (by assumption) h)|(replace h:=aY (by assumption) h)|(replace h:=aZ (by assumption) h)))
    |((with_reducible have hh:=aB h);clear h;rcases hh with⟨hc,h⟩|⟨hc,h⟩<;>have hd:=hc<;>(first|(replace hc:=dA hc)|(replace hc:=dB hc)|skip)<;>(try simp at hd)<;>(try(first|(subst hd)|(replace hd:=bG hd)|(replace hd:=eq_false hd)|(replace hd:=eq_true hd)))<;>(try simp -implicitDefEqProofs (maxSteps:=2000000) [*, -h]))
    |(with_reducible replace h:=aL h)
    | ((with_reducible have hh:=Option.bind_eq_some_iff.1 h);clear h;obtain⟨x_,hx_,h⟩:=hh;(first|(refine av (Fe (h:=hx_)) rfl rfl ?_ ⟨rfl,rfl⟩ ?_;(·simp[*]);clear hx_;try simp -implicitDefEqProofs (maxSteps:=2000000) [*, -h])|(refine av (vW (h:=hx_)) rfl rfl ?_ ⟨rfl,rfl⟩ ?_;(·simp[*]);clear hx_;try simp -implicitDefEqProofs (maxSteps:=2000000) [*, -h]))
       )
    |(obtain⟨k,rfl⟩:=aM (f:=fun k=>cK.j0 k _ _ _ _ _) (by simp only[cK.j0]) h;simp only[cK.j0]at h;try simp only[aF,aG,aD,aH,aI,aJ]at h)
    | (refine rW [true,true,true,false,false,true,false,true,false,true,true,true,true,true,true,true,true,true,true,true,true,true,true,true,true,true,true,true,true,true,true,true,true,true,true,true] (fun(x7:Int)=> [(7, .i x7)]) (fun n (x7:Int)=>cK.l0 n _ x7 _ _ _=some _) h (by first|rfl|simp[mkT]) ?_;clear h;intro k x7 hk h
       obtain⟨k,rfl⟩:=aM (f:=fun k=>cK.l0 k _ _ _ _ _) (by simp only[cK.l0]) h;simp only[cK.l0]at h;try simp only[aF,aG,aD,aH,aI,aJ]at h;try simp -implicitDefEqProofs (maxSteps:=2000000))
    |(exact rX (inv:=fun n (x7:Int)=>cK.l0 n _ x7 _ _ _=some _) (by omega) h (by first|exact fe [true,true,true,false,false,true,false,true,false,true,true,true,true,true,true,true,true,true,true,true,true,true,true,true,true,true,true,true,true,true,true,true,true,true,true,true] rfl|exact fw [true,true,true,false,false,true,false,true,false,true,true,true,true,true,true,true,true,true,true,true,true,true,true,true,true,true,true,true,true,true,true,true,true,true,true,true] rfl (by constructor<;>simp[idR,mkT])))
    | (refine rW [true,true,true,false,false,true,false,true,true,true,true,true,true,true,true,true,true,true,true,true,true,true,true,true,true,true,true,true,true,true,true,true,true,true,true,true,true,true,true,true,true,true,true,true,true,true,true,true,true,true,true] (fun(x8:Int)=> [(8, .i x8)]) (fun n (x8:Int)=>cK.l1 n _ x8 _ _ _=some _) h (by first|rfl|simp[mkT]) ?_;clear h;intro k x8 hk h
       obtain⟨k,rfl⟩:=aM (f:=fun k=>cK.l1 k _ _ _ _ _) (by simp only[cK.l1]) h;simp only[cK.l1]at h;try simp only[aF,aG,aD,aH,aI,aJ]at h;try simp -implicitDefEqProofs (maxSteps:=2000000))
    |(exact rX (inv:=fun n (x8:Int)=>cK.l1 n _ x8 _ _ _=some _) (by omega) h (by first|exact fe [true,true,true,false,false,true,false,true,true,true,true,true,true,true,true,true,true,true,true,true,true,true,true,true,true,true,true,true,true,true,true,true,true,true,true,true,true,true,true,true,true,true,true,true,true,true,true,true,true,true,true] rfl|exact fw [true,true,true,false,false,true,false,true,true,true,true,true,true,true,true,true,true,true,true,true,true,true,true,true,true,true,true,true,true,true,true,true,true,true,true,true,true,true,true,true,true,true,true,true,true,true,true,true,true,true,true] rfl (by constructor<;>simp[idR,mkT])))
    |(refine⟨(by first|exact aP (by assumption) (by decide) (by decide)|exact aN (by assumption) (by decide) (by decide)), ?_⟩;try simp -implicitDefEqProofs (maxSteps:=2000000) [*, -h])
    |(cases h;done)
    |(cases h;refine aV _ ?_ ⟨rfl,rfl⟩;simp[*]<;>exact az (by omega) (by omega) (by simp))
end Go.Proofs.Ytojpejfcafbafaa.V
end
section
namespace Go.Proofs.Ytojpejfcafbafaa.P
open Go.RowKit Go.Proofs.YtojpejfcafbafaaW.PrintWords Go.Proofs.YtojpejfcafbafaaW.PrintLast Go.Proofs.YtojpejfcafbafaaW.PrintMore
attribute [local go_sem] bn bq bP bQ aW aX bu bv
set_option linter.unusedVariables false
set_option linter.unusedSimpArgs false
def yG.f (a0:Int):Option (Bool):=(iK.f a0 (-128) 127).bind fun a=>(some a)
def wY.f (k:Nat) (c:List (S41)) (q:List (S35)) (r:Int) (t:Int) (u:List Int) (v:Int) (w:Int) (a:List (S67)) (x:List (S69)) (y:List (S73)) (d:Int) (o:Int) (p:Int) (e:Int):Option (Bool):=(iK.f d 0 (wrap64 ((a.length:Int) - 1))).bind fun g=>(if g=true then((iK.f o (wrap64 (d+1)) (a.length:Int)).bind fun h=>(if h=true then((iK.f p 0 (wrap64 ((a.length:Int) - 1))).bind fun j=>(if j=true then((iK.f e 0 (wrap64 ((c.length:Int) - 1))).bind fun m=>(if m=true then((tN.f k c e 1).bind fun n=>(some n))else(some false)))else(some false)))else(some false)))else(some false))
mutual
def dG.j0:Nat→Int→List (S41)→List (S35)→Int→Int→List Int→Int→Int→List (S67)→List (S69)→List (S73)→Option (Bool)
  |0,_,_,_,_,_,_,_,_,_,_,_=>none
  |k+1,x5,a,h,c,j,d,e,g,m,n,o=>if c=0 then(dG.j1 k true a h c j d e g m n o)else((iK.f c (-1) (wrap64 ((a.length:Int) - 1))).bind fun p=>(if p=true then(if(d.length:Int)>2 then(dG.j1 k true a h c j d e g m n o)else((uT.f a e).bind fun q=>(if q=true then((iK.f g (wrap64 (x5+(d.length:Int))) 3).bind fun r=>(dG.j1 k (!r) a h c j d e g m n o))else(dG.j1 k true a h c j d e g m n o))))else(dG.j1 k true a h c j d e g m n o)))
def dG.j1:Nat→Bool→List (S41)→List (S35)→Int→Int→List Int→Int→Int→List (S67)→List (S69)→List (S73)→Option (Bool)
  |0,_,_,_,_,_,_,_,_,_,_,_=>none
  |k+1,p,a,c,d,e,g,h,j,m,n,o=>if p=true then(some false)else(dG.l0 k 0 a c d e g h j m n o)
def dG.l0:Nat→Int→List (S41)→List (S35)→Int→Int→List Int→Int→Int→List (S67)→List (S69)→List (S73)→Option (Bool)
  |0,_,_,_,_,_,_,_,_,_,_,_=>none
  |k+1,x6,e,g,a,c,d,h,j,m,n,o=>if x6<(d.length:Int)then(if 0≤x6 then((uT.f e (rd d x6)).bind fun p=>(if p=true then(dG.l0 k (wrap64 (x6+1)) e g a c d h j m n o)else(some false)))else(none))else(if a≥0 then((iK.f c 0 2).bind fun q=>(if q=true then(some true)else(if a<0 then(some (c==0))else(some false))))else(if a<0 then(some (c==0))else(some false)))
end
def dG.f (k:Nat) (c:List (S41)) (d:List (S35)) (a:Int) (e:Int) (g:List Int) (h:Int) (j:Int) (m:List (S67)) (n:List (S69)) (o:List (S73)):Option (Bool):=if a≥0 then(dG.j0 k 1 c d a e g h j m n o)else(dG.j0 k 0 c d a e g h j m n o)
mutual
def iy.j0:Nat→Bool→Int→Int→List Int→Int→Int→List (S67)→List (S69)→List (S73)→Int→Int→List Int→Int→Int→List (S67)→List (S69)→List (S73)→Option (Bool)
  |0,_,_,_,_,_,_,_,_,_,_,_,_,_,_,_,_,_=>none
  |k+1,w,a,c,d,e,g,h,j,m,n,o,p,q,r,t,u,v=>if w=true then(some false)else(iy.l0 k 0 a c d e g h j m n o p q r t u v)
def iy.l0:Nat→Int→Int→Int→List Int→Int→Int→List (S67)→List (S69)→List (S73)→Int→Int→List Int→Int→Int→List (S67)→List (S69)→List (S73)→Option (Bool)
  |0,_,_,_,_,_,_,_,_,_,_,_,_,_,_,_,_,_=>none
  |k+1,x5,d,e,a,g,h,j,m,n,o,p,c,q,r,t,u,v=>if x5<(a.length:Int)then(if 0≤x5 then(if x5<(c.length:Int)then(if(rd a x5)=(rd c x5)then(iy.l0 k (wrap64 (x5+1)) d e a g h j m n o p c q r t u v)else(some false))else(none))else(none))else(some true)
end
def iy.f (k:Nat) (g:Int) (h:Int) (a:List Int) (c:Int) (j:Int) (m:List (S67)) (n:List (S69)) (o:List (S73)) (p:Int) (q:Int) (d:List Int) (e:Int) (r:Int) (t:List (S67)) (u:List (S69)) (v:List (S73)):Option (Bool):=if c=e then(iy.j0 k ((a.length:Int) !=(d.length:Int)) g h a c j m n o p q d e r t u v)else(iy.j0 k true g h a c j m n o p q d e r t u v)
mutual
def dF.l0:Nat→Int→List (S41)→List (S35)→Option (Bool)
  |0,_,_,_=>none
  |k+1,x3,c,a=>if x3<(a.length:Int)then(dF.l1 k x3 0 c a)else(some true)
def dF.l1:Nat→Int→Int→List (S41)→List (S35)→Option (Bool)
  |0,_,_,_,_=>none
  |k+1,x3,x4,c,a=>if x4<(a.length:Int)then(if 0≤x3 then(if x3<(a.length:Int)then(if 0≤x4 then(if x3=x4 then(dF.l1 k x3 (wrap64 (x4+1)) c a)else(if((ay a x3).f0)≥0 then(if((ay a x4).f0)≥0 then(if((ay a x3).f1)=((ay a x4).f1)then((tN.f k c ((ay a x3).f0) ((ay a x4).f0)).bind fun d=>(if d=true then(if((ay a x3).f0)=((ay a x4).f0)then(some false)else((iy.f k ((ay a x3).f0) ((ay a x3).f1) ((ay a x3).f2) ((ay a x3).f3) ((ay a x3).f4) ((ay a x3).f5) ((ay a x3).f6) ((ay a x3).f7) ((ay a x4).f0) ((ay a x4).f1) ((ay a x4).f2) ((ay a x4).f3) ((ay a x4).f4) ((ay a x4).f5) ((ay a x4).f6) ((ay a x4).f7)).bind fun e=>(if e=true then(dF.l1 k x3 (wrap64 (x4+1)) c a)else(some false))))else(dF.l1 k x3 (wrap64 (x4+1)) c a)))else(dF.l1 k x3 (wrap64 (x4+1)) c a))else(dF.l1 k x3 (wrap64 (x4+1)) c a))else(dF.l1 k x3 (wrap64 (x4+1)) c a)))else(none))else(none))else(none))else(dF.l0 k (wrap64 (x3+1)) c a)
end
def dF.f (k:Nat) (a:List (S41)) (c:List (S35)):Option (Bool):=dF.l0 k 0 a c
mutual
def fG.l0:Nat→Int→Int→List (S41)→List (S35)→Option (Int)
  |0,_,_,_,_=>none
  |k+1,x1,x2,a,c=>if x1≥0 then(fG.l1 k x1 x2 0 a c)else(some (-1))
def fG.l1:Nat→Int→Int→Int→List (S41)→List (S35)→Option (Int)
  |0,_,_,_,_,_=>none
  |k+1,x1,x2,x7,c,a=>if x7<(a.length:Int)then(if 0≤x7 then(if((ay a x7).f0)=x1 then(if((ay a x7).f1)=x2 then(some x7)else(fG.l1 k x1 x2 (wrap64 (x7+1)) c a))else(fG.l1 k x1 x2 (wrap64 (x7+1)) c a))else(none))else(if 0≤x1 then(if x1<(c.length:Int)then(fG.l0 k ((lm c x1).f0) x2 c a)else(none))else(none))
end
def fG.f (k:Nat) (a:List (S41)) (c:List (S35)) (a1:Int) (a2:Int):Option (Int):=fG.l0 k a1 a2 a c
end Go.Proofs.Ytojpejfcafbafaa.P
end
section
namespace Go.Proofs.Ytojpejfcafbafaa.V
open Go Go.RowKit Go.Proofs.Ytojpejfcafbafaa.P
set_option linter.unusedVariables false
set_option linter.unusedSimpArgs false
attribute [local simp ↓] eG eH fQ fT eO dM fZ eP eQ gm gp gq dN dO dP gB gz gG gF dQ bW dV cz dJ dR eT eU eX
attribute [local simp] fU fV dK bR eF dL bS bT bU bV bM bN dS eY dU bX bY bZ cu bO fD lM iL dz iw evl dI eZ fu kD iX List.range List.range.loop lT kX fo fB iC iA Bs.live Bs.get lN WkV WkA WkC lg lH kY lD cZ iM TEq.refl bg fH qQ aF aG aD aH aI aJ ei d9 splice dE Bs.set kU fC Rn.at gu gy iF iD lL chunks lC fP toT fE iE rowsOf cB ik plR plV plC lF lI lQ lh fI iR lU
attribute [local simp] List.length_pos_iff qR qU iG iH iI puts dh
attribute [local simp ←] ig
attribute [local simp] ksL ru ksV rV ksC ksT ren kr rO rH dw fF dW dx iW iB iO iQ lS rG closedB iT kP kG kH kJ kL iJ kN
attribute [local simp] ag3 un3 sz3 in3 by3 ze3 ct3 zt3 zu3 ag4 un4 sz4 in4 by4 ze4 ct4 zt4 zu4 ag5 un5 sz5 in5 by5 ze5 ct5 zt5 zu5 mi mq mD mE mF mG mH mI mJ io3 mK io5 bo4 mM mO mP mQ mR mU mV mW mX mY mZ ng ni nk nu ny nz nA nC nD nE nG nH nI nJ nK nL nM nN nO nP nQ nR nS nT nU nV nW nX nY nZ oh ol om oo oq ou ow oz oC oD oF oG oH oI oJ oK oL oM oN oO oP oQ oU oV oW oZ o6 o7 o8 iZ ja jb jc jd je jf jg jh ji jk jl jm jo jq jr jv jw jy jA o9 pg pu pz pE pF pG pI pJ pK jB jC jD jE jF jG jH jI jJ jK jL jM jN jO jP jQ jR jS jT jU jV jW jX jY jZ kg ko mz gH gI gJ gK gL gN gP gQ gT gU gV gW gX gY gZ ib pO pQ pR pU pV pW pX pY p9 qa qb qc qd qf qg qh qi qj ql qm qo qp qw qx qy qz qA qB qC qD qE qF qG qH qI qJ qK qL qM qN qO qP mix
attribute [local simp] eb eC eI eS eK eM nm
set_option maxRecDepth 20000 in
set_option maxHeartbeats 4000000 in
theorem AZ (a0:Int) (r:Bool) (h:yG.f a0=some r):iU Try.prog 73 [.i a0] (.b r):=by
  unfold yG.f at h
  try simp only[aF,aG,aD,aH,aI,aJ]at h
  refine bF Try.func73 rfl rfl rfl ?_
  try simp (maxSteps:=2000000)
  repeat' first
    |(with_reducible (first|(replace h:=bC (by assumption) h)|(replace h:=bD (by assumption) h)|(replace h:=aY (by assumption) h)|(replace h:=aZ (by assumption) h)))
    |((with_reducible have hh:=aB h);clear h;rcases hh with⟨hc,h⟩|⟨hc,h⟩<;>have hd:=hc<;>(first|(replace hc:=dA hc)|(replace hc:=dB hc)|skip)<;>(try simp at hd)<;>(try(first|(subst hd)|(replace hd:=bG hd)|(replace hd:=eq_false hd)|(replace hd:=eq_true hd)))<;>(try simp (maxSteps:=2000000) [*, -h]))
    |(with_reducible replace h:=aL h)
    | ((with_reducible have hh:=Option.bind_eq_some_iff.1 h);clear h;obtain⟨x_,hx_,h⟩:=hh;(first|(refine av (si (h:=hx_)) rfl rfl ?_ ⟨rfl,rfl⟩ ?_;(·simp[*]);clear hx_;try simp (maxSteps:=2000000) [*, -h]))
       )
    |(refine⟨(by first|exact aP (by assumption) (by decide) (by decide)|exact aN (by assumption) (by decide) (by decide)), ?_⟩;try simp (maxSteps:=2000000) [*, -h])
    |(cases h;done)
    |(cases h;refine aV _ ?_ ⟨rfl,rfl⟩;simp[*]<;>exact az (by omega) (by omega) (by simp))
set_option maxRecDepth 20000 in
set_option maxHeartbeats 4000000 in
theorem zX (k:Nat) (a:List (S41)) (c:List (S35)) (d:Int) (e:Int) (g:List Int) (j:Int) (m:Int) (n:List (S67)) (o:List (S69)) (p:List (S73)) (q:Int) (u:Int) (v:Int) (w:Int) (r:Bool) (h:wY.f k a c d e g j m n o p q u v w=some r):iU Try.prog 53 [.agg [.t (tC a), .t (tM c)], .agg [.t (.i d), .t (.i e), .t (.ints g), .t (.i j), .t (.i m), .t (tI n), .t (tS o), .t (tK p)], .agg [.t (.i q), .t (.i u), .t (.i v), .t (.i w)]] (.b r):=by
  unfold wY.f at h
  try simp only[aF,aG,aD,aH,aI,aJ]at h
  refine bF Try.func53 rfl rfl rfl ?_
  try simp (maxSteps:=2000000)
  repeat' first
    |(with_reducible (first|(replace h:=bC (by assumption) h)|(replace h:=bD (by assumption) h)|(replace h:=aY (by assumption) h)|(replace h:=aZ (by assumption) h)))
    |((with_reducible have hh:=aB h);clear h;rcases hh with⟨hc,h⟩|⟨hc,h⟩<;>have hd:=hc<;>(first|(replace hc:=dA hc)|(replace hc:=dB hc)|skip)<;>(try simp at hd)<;>(try(first|(subst hd)|(replace hd:=bG hd)|(replace hd:=eq_false hd)|(replace hd:=eq_true hd)))<;>(try simp (maxSteps:=2000000) [*, -h]))
    |(with_reducible replace h:=aL h)
    | ((with_reducible have hh:=Option.bind_eq_some_iff.1 h);clear h;obtain⟨x_,hx_,h⟩:=hh;(first|(refine av (si (h:=hx_)) rfl rfl ?_ ⟨rfl,rfl⟩ ?_;(·simp[*]);clear hx_;try simp (maxSteps:=2000000) [*, -h])|(refine av (GG (h:=hx_)) rfl rfl ?_ ⟨rfl,rfl⟩ ?_;(·simp[*]);clear hx_;try simp (maxSteps:=2000000) [*, -h]))
       )
    |(refine⟨(by first|exact aP (by assumption) (by decide) (by decide)|exact aN (by assumption) (by decide) (by decide)), ?_⟩;try simp (maxSteps:=2000000) [*, -h])
    |(cases h;done)
    |(cases h;refine aV _ ?_ ⟨rfl,rfl⟩;simp[*]<;>exact az (by omega) (by omega) (by simp))
set_option maxRecDepth 20000 in
set_option maxHeartbeats 4000000 in
theorem A7 (k:Nat) (a:List (S41)) (c:List (S35)) (d:Int) (e:Int) (g:List Int) (j:Int) (m:Int) (o:List (S67)) (p:List (S69)) (q:List (S73)) (r:Bool) (h:dG.f k a c d e g j m o p q=some r):iU Try.prog 50 [.agg [.t (tC a), .t (tM c)], .agg [.t (.i d), .t (.i e), .t (.ints g), .t (.i j), .t (.i m), .t (tI o), .t (tS p), .t (tK q)]] (.b r):=by
  unfold dG.f at h
  try simp only[aF,aG,aD,aH,aI,aJ]at h
  refine bF Try.func50 rfl rfl rfl ?_
  try simp (maxSteps:=2000000)
  repeat' first
    |(show ek _ _ 9 _ _ _ _;refine aT (by decide) [[], [0], [], [2], [], [3,4,2], [5,3,4,2], [1,6,0,5,3,4,2], [7,1,6,0,5,3,4,2]] [55,56,57,58,59,60,61,62,63] [0,1,2,3,4,5,6,7,8] (by kernel_rfl) ?_;try simp (maxSteps:=2000000) [*, -h,aj,ah,ae,ai,ak,au,af,Op.operands,Call.operands])
    |(with_reducible (first|(replace h:=bC (by assumption) h)|(replace h:=bD (by assumption) h)|(replace h:=aY (by assumption) h)|(replace h:=aZ (by assumption) h)))
    |((with_reducible have hh:=aB h);clear h;rcases hh with⟨hc,h⟩|⟨hc,h⟩<;>have hd:=hc<;>(first|(replace hc:=dA hc)|(replace hc:=dB hc)|skip)<;>(try simp at hd)<;>(try(first|(subst hd)|(replace hd:=bG hd)|(replace hd:=eq_false hd)|(replace hd:=eq_true hd)))<;>(try simp (maxSteps:=2000000) [*, -h,aj,ah,ae,ai,ak,au,af,Op.operands,Call.operands]))
    |(with_reducible replace h:=aL h)
    | ((with_reducible have hh:=Option.bind_eq_some_iff.1 h);clear h;obtain⟨x_,hx_,h⟩:=hh;(first|(refine av (si (h:=hx_)) rfl rfl ?_ ⟨rfl,rfl⟩ ?_;(·simp[*]);clear hx_;try simp (maxSteps:=2000000) [*, -h,aj,ah,ae,ai,ak,au,af,Op.operands,Call.operands])|(refine bf (si (h:=hx_)) rfl rfl ?_ ⟨rfl,rfl⟩ rfl ?_;(·simp[*]);clear hx_;try simp (maxSteps:=2000000) [*, -h,aj,ah,ae,ai,ak,au,af,Op.operands,Call.operands])|(refine av (wV (h:=hx_)) rfl rfl ?_ ⟨rfl,rfl⟩ ?_;(·simp[*]);clear hx_;try simp (maxSteps:=2000000) [*, -h,aj,ah,ae,ai,ak,au,af,Op.operands,Call.operands])|(refine bf (wV (h:=hx_)) rfl rfl ?_ ⟨rfl,rfl⟩ rfl ?_;(·simp[*]);clear hx_;try simp (maxSteps:=2000000) [*, -h,aj,ah,ae,ai,ak,au,af,Op.operands,Call.operands]))
       )
    |(obtain⟨k,rfl⟩:=aM (f:=fun k=>dG.j0 k _ _ _ _ _ _ _ _ _ _ _) (by simp only[dG.j0]) h;simp only[dG.j0]at h;try simp only[aF,aG,aD,aH,aI,aJ]at h)
    |(obtain⟨k,rfl⟩:=aM (f:=fun k=>dG.j1 k _ _ _ _ _ _ _ _ _ _ _) (by simp only[dG.j1]) h;simp only[dG.j1]at h;try simp only[aF,aG,aD,aH,aI,aJ]at h)
    | (refine rW [true,true,true,true,false,true,true,true,true,true,true,true,true,true,true,true,true,true,true,true,true,true,true,true,true,true,true,true,true,true,true,true,true,true,true,true,true,true,true,true,true,true,true,true,true,true,true,true] (fun(x6:Int)=> [(6, .i x6)]) (fun n (x6:Int)=>dG.l0 n x6 _ _ _ _ _ _ _ _ _ _=some _) h (by first|rfl|simp[mkT]) ?_;clear h;intro k x6 hk h
       obtain⟨k,rfl⟩:=aM (f:=fun k=>dG.l0 k _ _ _ _ _ _ _ _ _ _ _) (by simp only[dG.l0]) h;simp only[dG.l0]at h;try simp only[aF,aG,aD,aH,aI,aJ]at h;try simp (maxSteps:=2000000))
    |(exact rX (inv:=fun n (x6:Int)=>dG.l0 n x6 _ _ _ _ _ _ _ _ _ _=some _) (by omega) h (by first|exact fe [true,true,true,true,false,true,true,true,true,true,true,true,true,true,true,true,true,true,true,true,true,true,true,true,true,true,true,true,true,true,true,true,true,true,true,true,true,true,true,true,true,true,true,true,true,true,true,true] rfl|exact fw [true,true,true,true,false,true,true,true,true,true,true,true,true,true,true,true,true,true,true,true,true,true,true,true,true,true,true,true,true,true,true,true,true,true,true,true,true,true,true,true,true,true,true,true,true,true,true,true] rfl (by constructor<;>simp[idR,mkT])))
    |(refine⟨(by first|exact aP (by assumption) (by decide) (by decide)|exact aN (by assumption) (by decide) (by decide)), ?_⟩;try simp (maxSteps:=2000000) [*, -h,aj,ah,ae,ai,ak,au,af,Op.operands,Call.operands])
    |(cases h;done)
    |(cases h;refine aV _ ?_ ⟨rfl,rfl⟩;simp[*]<;>exact az (by omega) (by omega) (by simp))
set_option maxRecDepth 20000 in
set_option maxHeartbeats 4000000 in
theorem Ff (k:Nat) (a:Int) (c:Int) (d:List Int) (e:Int) (g:Int) (j:List (S67)) (m:List (S69)) (o:List (S73)) (p:Int) (q:Int) (u:List Int) (v:Int) (w:Int) (x:List (S67)) (y:List (S69)) (z:List (S73)) (r:Bool) (h:iy.f k a c d e g j m o p q u v w x y z=some r):iU Try.prog 55 [.agg [.t (.i a), .t (.i c), .t (.ints d), .t (.i e), .t (.i g), .t (tI j), .t (tS m), .t (tK o)], .agg [.t (.i p), .t (.i q), .t (.ints u), .t (.i v), .t (.i w), .t (tI x), .t (tS y), .t (tK z)]] (.b r):=by
  unfold iy.f at h
  try simp only[aF,aG,aD,aH,aI,aJ]at h
  refine bF Try.func55 rfl rfl rfl ?_
  try simp (maxSteps:=2000000)
  repeat' first
    |(show ek _ _ 6 _ _ _ _;refine aT (by decide) [[], [0], [], [1,2,0], [3,1,2,0], [], [5], [], [6,7,5], [8,6,7,5], [4,9,3,1,2,0,8,6,7,5]] [27,28,29,30,31,32,33,34,35,36,37] [0,1,2,3,4,5,6,7,8,9,10] (by kernel_rfl) ?_;try simp (maxSteps:=2000000) [*, -h,aj,ah,ae,ai,ak,au,af,Op.operands,Call.operands])
    |(with_reducible (first|(replace h:=bC (by assumption) h)|(replace h:=bD (by assumption) h)|(replace h:=aY (by assumption) h)|(replace h:=aZ (by assumption) h)))
    |((with_reducible have hh:=aB h);clear h;rcases hh with⟨hc,h⟩|⟨hc,h⟩<;>have hd:=hc<;>(first|(replace hc:=dA hc)|(replace hc:=dB hc)|skip)<;>(try simp at hd)<;>(try(first|(subst hd)|(replace hd:=bG hd)|(replace hd:=eq_false hd)|(replace hd:=eq_true hd)))<;>(try simp (maxSteps:=2000000) [*, -h,aj,ah,ae,ai,ak,au,af,Op.operands,Call.operands]))
    |(with_reducible replace h:=aL h)
    |(obtain⟨k,rfl⟩:=aM (f:=fun k=>iy.j0 k _ _ _ _ _ _ _ _ _ _ _ _ _ _ _ _ _) (by simp only[iy.j0]) h;simp only[iy.j0]at h;try simp only[aF,aG,aD,aH,aI,aJ]at h)
    | (refine rW [true,true,true,true,false,true,true,true,true,true,true,true,true,true,true,true,true,true,true,true] (fun(x5:Int)=> [(5, .i x5)]) (fun n (x5:Int)=>iy.l0 n x5 _ _ _ _ _ _ _ _ _ _ _ _ _ _ _ _=some _) h (by first|rfl|simp[mkT]) ?_;clear h;intro k x5 hk h
       obtain⟨k,rfl⟩:=aM (f:=fun k=>iy.l0 k _ _ _ _ _ _ _ _ _ _ _ _ _ _ _ _ _) (by simp only[iy.l0]) h;simp only[iy.l0]at h;try simp only[aF,aG,aD,aH,aI,aJ]at h;try simp (maxSteps:=2000000))
    |(exact rX (inv:=fun n (x5:Int)=>iy.l0 n x5 _ _ _ _ _ _ _ _ _ _ _ _ _ _ _ _=some _) (by omega) h (by first|exact fe [true,true,true,true,false,true,true,true,true,true,true,true,true,true,true,true,true,true,true,true] rfl|exact fw [true,true,true,true,false,true,true,true,true,true,true,true,true,true,true,true,true,true,true,true] rfl (by constructor<;>simp[idR,mkT])))
    |(refine⟨(by first|exact aP (by assumption) (by decide) (by decide)|exact aN (by assumption) (by decide) (by decide)), ?_⟩;try simp (maxSteps:=2000000) [*, -h,aj,ah,ae,ai,ak,au,af,Op.operands,Call.operands])
    |(cases h;done)
    |(cases h;refine aV _ ?_ ⟨rfl,rfl⟩;simp[*]<;>exact az (by omega) (by omega) (by simp))
set_option maxRecDepth 20000 in
set_option maxHeartbeats 4000000 in
theorem zY (k:Nat) (a:List (S41)) (c:List (S35)) (r:Bool) (h:dF.f k a c=some r):iU Try.prog 29 [.agg [.t (tC a), .t (tM c)]] (.b r):=by
  unfold dF.f at h
  try simp only[aF,aG,aD,aH,aI,aJ]at h
  refine bF Try.func29 rfl rfl rfl ?_
  try simp (maxSteps:=2000000)
  repeat' first
    |(with_reducible (first|(replace h:=bC (by assumption) h)|(replace h:=bD (by assumption) h)|(replace h:=aY (by assumption) h)|(replace h:=aZ (by assumption) h)))
    |((with_reducible have hh:=aB h);clear h;rcases hh with⟨hc,h⟩|⟨hc,h⟩<;>have hd:=hc<;>(first|(replace hc:=dA hc)|(replace hc:=dB hc)|skip)<;>(try simp at hd)<;>(try(first|(subst hd)|(replace hd:=bG hd)|(replace hd:=eq_false hd)|(replace hd:=eq_true hd)))<;>(try simp (maxSteps:=2000000) [*, -h]))
    |(with_reducible replace h:=aL h)
    | ((with_reducible have hh:=Option.bind_eq_some_iff.1 h);clear h;obtain⟨x_,hx_,h⟩:=hh;(first|(refine av (GG (h:=hx_)) rfl rfl ?_ ⟨rfl,rfl⟩ ?_;(·simp[*]);clear hx_;try simp (maxSteps:=2000000) [*, -h])|(refine av (Ff (h:=hx_)) rfl rfl ?_ ⟨rfl,rfl⟩ ?_;(·simp[*]);clear hx_;try simp (maxSteps:=2000000) [*, -h]))
       )
    | (refine rW [true,true,false,true] (fun(x3:Int)=> [(3, .i x3)]) (fun n (x3:Int)=>dF.l0 n x3 _ _=some _) h (by first|rfl|simp[mkT]) ?_;clear h;intro k x3 hk h
       obtain⟨k,rfl⟩:=aM (f:=fun k=>dF.l0 k _ _ _) (by simp only[dF.l0]) h;simp only[dF.l0]at h;try simp only[aF,aG,aD,aH,aI,aJ]at h;try simp (maxSteps:=2000000))
    |(exact rX (inv:=fun n (x3:Int)=>dF.l0 n x3 _ _=some _) (by omega) h (by first|exact fe [true,true,false,true] rfl|exact fw [true,true,false,true] rfl (by constructor<;>simp[idR,mkT])))
    | (refine rW [true,true,false,true,true,false,false,true,true,true,true,true] (fun(x4:Int)=> [(4, .i x4)]) (fun n (x4:Int)=>dF.l1 n _ x4 _ _=some _) h (by first|rfl|simp[mkT]) ?_;clear h;intro k x4 hk h
       obtain⟨k,rfl⟩:=aM (f:=fun k=>dF.l1 k _ _ _ _) (by simp only[dF.l1]) h;simp only[dF.l1]at h;try simp only[aF,aG,aD,aH,aI,aJ]at h;try simp (maxSteps:=2000000))
    |(exact rX (inv:=fun n (x4:Int)=>dF.l1 n _ x4 _ _=some _) (by omega) h (by first|exact fe [true,true,false,true,true,false,false,true,true,true,true,true] rfl|exact fw [true,true,false,true,true,false,false,true,true,true,true,true] rfl (by constructor<;>simp[idR,mkT])))
    |(refine⟨(by first|exact aP (by assumption) (by decide) (by decide)|exact aN (by assumption) (by decide) (by decide)), ?_⟩;try simp (maxSteps:=2000000) [*, -h])
    |(cases h;done)
    |(cases h;refine aV _ ?_ ⟨rfl,rfl⟩;simp[*]<;>exact az (by omega) (by omega) (by simp))
set_option maxRecDepth 20000 in
set_option maxHeartbeats 4000000 in
theorem A8 (k:Nat) (a:List (S41)) (c:List (S35)) (a1:Int) (a2:Int) (r:Int) (h:fG.f k a c a1 a2=some r):iU Try.prog 33 [.agg [.t (tC a), .t (tM c)], .i a1, .i a2] (.i r):=by
  unfold fG.f at h
  try simp only[aF,aG,aD,aH,aI,aJ]at h
  refine bF Try.func33 rfl rfl rfl ?_
  try simp (maxSteps:=2000000)
  repeat' first
    |(with_reducible (first|(replace h:=bC (by assumption) h)|(replace h:=bD (by assumption) h)|(replace h:=aY (by assumption) h)|(replace h:=aZ (by assumption) h)))
    |((with_reducible have hh:=aB h);clear h;rcases hh with⟨hc,h⟩|⟨hc,h⟩<;>have hd:=hc<;>(first|(replace hc:=dA hc)|(replace hc:=dB hc)|skip)<;>(try simp at hd)<;>(try(first|(subst hd)|(replace hd:=bG hd)|(replace hd:=eq_false hd)|(replace hd:=eq_true hd)))<;>(try simp (maxSteps:=2000000) [*, -h]))
    |(with_reducible replace h:=aL h)
    | (refine rW [true,true,true,true] (fun(x1:Int)=> [(1, .i x1)]) (fun n (x1:Int)=>fG.l0 n x1 _ _ _=some _) h (by first|rfl|simp[mkT]) ?_;clear h;intro k x1 hk h
       obtain⟨k,rfl⟩:=aM (f:=fun k=>fG.l0 k _ _ _ _) (by simp only[fG.l0]) h;simp only[fG.l0]at h;try simp only[aF,aG,aD,aH,aI,aJ]at h;try simp (maxSteps:=2000000))
    |(exact rX (inv:=fun n (x1:Int)=>fG.l0 n x1 _ _ _=some _) (by omega) h (by first|exact fe [true,true,true,true] rfl|exact fw [true,true,true,true] rfl (by constructor<;>simp[idR,mkT])))
    | (refine rW [true,true,true,true,false,false,false,true,true,true] (fun(x7:Int)=> [(7, .i x7)]) (fun n (x7:Int)=>fG.l1 n _ _ x7 _ _=some _) h (by first|rfl|simp[mkT]) ?_;clear h;intro k x7 hk h
       obtain⟨k,rfl⟩:=aM (f:=fun k=>fG.l1 k _ _ _ _ _) (by simp only[fG.l1]) h;simp only[fG.l1]at h;try simp only[aF,aG,aD,aH,aI,aJ]at h;try simp (maxSteps:=2000000))
    |(exact rX (inv:=fun n (x7:Int)=>fG.l1 n _ _ x7 _ _=some _) (by omega) h (by first|exact fe [true,true,true,true,false,false,false,true,true,true] rfl|exact fw [true,true,true,true,false,false,false,true,true,true] rfl (by constructor<;>simp[idR,mkT])))
    |(refine⟨(by first|exact aP (by assumption) (by decide) (by decide)|exact aN (by assumption) (by decide) (by decide)), ?_⟩;try simp (maxSteps:=2000000) [*, -h])
    |(cases h;done)
    |(cases h;refine aV _ ?_ ⟨rfl,rfl⟩;simp[*]<;>exact az (by omega) (by omega) (by simp))
end Go.Proofs.Ytojpejfcafbafaa.V
end
section
namespace Go.Proofs.Ytojpejfcafbafaa.P
open Go.RowKit Go.Proofs.YtojpejfcafbafaaW.PrintWords Go.Proofs.YtojpejfcafbafaaW.PrintLast Go.Proofs.YtojpejfcafbafaaW.PrintMore
attribute [local go_sem] bn bq bP bQ aW aX bu bv
set_option linter.unusedVariables false
set_option linter.unusedSimpArgs false
mutual
def aU.j0:Nat→Bool→Int→Bool→List (S41)→List (S35)→Int→Int→List Int→Int→Int→List (S67)→List (S69)→List (S73)→Int→Int→Int→Option (Bool)
  |0,_,_,_,_,_,_,_,_,_,_,_,_,_,_,_,_=>none
  |k+1,x7,t,x27,d,e,g,h,j,m,n,o,p,q,r,a,c=>if x27=true then(if a=0 then(some (c==0))else(some false))else(if t=3 then(aU.j1 k x7 t (t==3) d e g h j m n o p q r a c)else(aU.j1 k x7 t (t==4) d e g h j m n o p q r a c))
def aU.j1:Nat→Bool→Int→Bool→List (S41)→List (S35)→Int→Int→List Int→Int→Int→List (S67)→List (S69)→List (S73)→Int→Int→Int→Option (Bool)
  |0,_,_,_,_,_,_,_,_,_,_,_,_,_,_,_,_=>none
  |k+1,x7,e,x43,g,h,j,m,n,o,d,p,q,r,t,a,c=>if x43=true then((iK.f a 0 (wrap64 (d - 1))).bind fun u=>(if u=true then(some (c==0))else(some false)))else(if e=7 then((iK.f a 1 4).bind fun v=>(if v=true then(some (c==0))else(some false)))else(if e=8 then(aU.j2 k x7 e (e==8) g h j m n o d p q r t a c)else(if e=9 then(aU.j2 k x7 e (e==9) g h j m n o d p q r t a c)else(if e=10 then(aU.j2 k x7 e (e==10) g h j m n o d p q r t a c)else(aU.j2 k x7 e (e==11) g h j m n o d p q r t a c)))))
def aU.j2:Nat→Bool→Int→Bool→List (S41)→List (S35)→Int→Int→List Int→Int→Int→List (S67)→List (S69)→List (S73)→Int→Int→Int→Option (Bool)
  |0,_,_,_,_,_,_,_,_,_,_,_,_,_,_,_,_=>none
  |k+1,x7,h,v,d,e,n,o,p,q,r,j,t,u,g,a,c=>if v=true then((iK.f a 0 (wrap64 ((j.length:Int) - 1))).bind fun m=>(if m=true then(some (c==0))else(some false)))else(if h=12 then(aU.j3 k x7 h (h==12) d e g a c)else(aU.j3 k x7 h (h==19) d e g a c))
def aU.j3:Nat→Bool→Int→Bool→List (S41)→List (S35)→Int→Int→Int→Option (Bool)
  |0,_,_,_,_,_,_,_,_=>none
  |k+1,x7,h,x84,c,d,e,g,a=>if x84=true then(if x7=true then(some (a==0))else(some false))else(if h=13 then(aU.j4 k x7 h (h==13) c d e g a)else(if h=15 then(aU.j4 k x7 h (h==15) c d e g a)else(aU.j4 k x7 h (h==16) c d e g a)))
def aU.j4:Nat→Bool→Int→Bool→List (S41)→List (S35)→Int→Int→Int→Option (Bool)
  |0,_,_,_,_,_,_,_,_=>none
  |k+1,x7,h,x93,d,e,g,a,c=>if x93=true then((iK.f a 0 1).bind fun j=>(if j=true then(some (c==0))else(some false)))else(if h=17 then(aU.j5 k x7 h (h==17) d e g a c)else(aU.j5 k x7 h (h==18) d e g a c))
def aU.j5:Nat→Bool→Int→Bool→List (S41)→List (S35)→Int→Int→Int→Option (Bool)
  |0,_,_,_,_,_,_,_,_=>none
  |k+1,x7,g,x105,e,c,o,a,d=>if x105=true then(if x7=true then((rR.f k e a).bind fun h=>((iK.f d 0 (wrap64 ((h.length:Int) - 1))).bind fun j=>(some j)))else(some false))else(if g=20 then((iK.f a 0 (wrap64 ((c.length:Int) - 1))).bind fun m=>(if m=true then(if d=0 then(if 0≤a then(if a<(c.length:Int)then(some (((ay c a).f0)==(-1)))else(none))else(none))else(some false))else(some false)))else(if g=21 then(if x7=true then((iK.f d 0 2).bind fun n=>(some n))else(some false))else(some false)))
end
def aU.f (k:Nat) (d:List (S41)) (g:List (S35)) (h:Int) (j:Int) (m:List Int) (n:Int) (o:Int) (p:List (S67)) (q:List (S69)) (r:List (S73)) (a:Int) (c:Int) (e:Int):Option (Bool):=(iK.f c 0 (wrap64 ((d.length:Int) - 1))).bind fun t=>(if a=1 then((yG.f c).bind fun u=>(if u=true then(some (e==0))else(some false)))else(if a=2 then(aU.j0 k t a (a==2) d g h j m n o p q r a c e)else(if a=5 then(aU.j0 k t a (a==5) d g h j m n o p q r a c e)else(if a=6 then(aU.j0 k t a (a==6) d g h j m n o p q r a c e)else(if a=14 then(aU.j0 k t a (a==14) d g h j m n o p q r a c e)else(if a=22 then(aU.j0 k t a (a==22) d g h j m n o p q r a c e)else(if a=23 then(aU.j0 k t a (a==23) d g h j m n o p q r a c e)else(aU.j0 k t a (a==24) d g h j m n o p q r a c e))))))))
end Go.Proofs.Ytojpejfcafbafaa.P
end
section
namespace Go.Proofs.Ytojpejfcafbafaa.V
open Go Go.RowKit Go.Proofs.Ytojpejfcafbafaa.P
set_option linter.unusedVariables false
set_option linter.unusedSimpArgs false
attribute [local simp ↓] eG eH fQ fT eO dM fZ eP eQ gm gp gq dN dO dP gB gz gG gF dQ bW dV cz dJ dR eT eU eX
attribute [local simp] fU fV dK bR eF dL bS bT bU bV bM bN dS eY dU bX bY bZ cu bO fD lM iL dz iw evl dI eZ fu kD iX List.range List.range.loop lT kX fo fB iC iA Bs.live Bs.get lN WkV WkA WkC lg lH kY lD cZ iM TEq.refl bg fH qQ aF aG aD aH aI aJ ei d9 splice dE Bs.set kU fC Rn.at gu gy iF iD lL chunks lC fP toT fE iE rowsOf cB ik plR plV plC lF lI lQ lh fI iR lU
attribute [local simp] List.length_pos_iff qR qU iG iH iI puts dh
attribute [local simp ←] ig
attribute [local simp] ksL ru ksV rV ksC ksT ren kr rO rH dw fF dW dx iW iB iO iQ lS rG closedB iT kP kG kH kJ kL iJ kN
attribute [local simp] ag3 un3 sz3 in3 by3 ze3 ct3 zt3 zu3 ag4 un4 sz4 in4 by4 ze4 ct4 zt4 zu4 ag5 un5 sz5 in5 by5 ze5 ct5 zt5 zu5 mi mq mD mE mF mG mH mI mJ io3 mK io5 bo4 mM mO mP mQ mR mU mV mW mX mY mZ ng ni nk nu ny nz nA nC nD nE nG nH nI nJ nK nL nM nN nO nP nQ nR nS nT nU nV nW nX nY nZ oh ol om oo oq ou ow oz oC oD oF oG oH oI oJ oK oL oM oN oO oP oQ oU oV oW oZ o6 o7 o8 iZ ja jb jc jd je jf jg jh ji jk jl jm jo jq jr jv jw jy jA o9 pg pu pz pE pF pG pI pJ pK jB jC jD jE jF jG jH jI jJ jK jL jM jN jO jP jQ jR jS jT jU jV jW jX jY jZ kg ko mz gH gI gJ gK gL gN gP gQ gT gU gV gW gX gY gZ ib pO pQ pR pU pV pW pX pY p9 qa qb qc qd qf qg qh qi qj ql qm qo qp qw qx qy qz qA qB qC qD qE qF qG qH qI qJ qK qL qM qN qO qP mix
attribute [local simp] eb eC eI eS eK eM nm
set_option maxRecDepth 20000 in
set_option maxHeartbeats 4000000 in
theorem yY (k:Nat) (a:List (S41)) (c:List (S35)) (d:Int) (e:Int) (g:List Int) (j:Int) (m:Int) (n:List (S67)) (o:List (S69)) (p:List (S73)) (q:Int) (u:Int) (v:Int) (r:Bool) (h:aU.f k a c d e g j m n o p q u v=some r):iU Try.prog 51 [.agg [.t (tC a), .t (tM c)], .agg [.t (.i d), .t (.i e), .t (.ints g), .t (.i j), .t (.i m), .t (tI n), .t (tS o), .t (tK p)], .agg [.t (.i q), .t (.i u), .t (.i v)]] (.b r):=by
  unfold aU.f at h
  try simp only[aF,aG,aD,aH,aI,aJ]at h
  refine bF Try.func51 rfl rfl rfl ?_
  try simp (maxSteps:=2000000)
  repeat' first
    |(show ek _ _ 32 _ _ _ _;refine aT (by decide) [[], [0], [1,0], [2,1,0], [1,0], [4,1,0], [1,0], [6,1,0], [5,7,1,4,0,6], [8,1,5,7,4,0,6], [9,1,8,5,7,4,0,6], [3,10,8,1,2,0,9,5,7,4,6], [1,11,0,3,10,8,2,9,5,7,4,6], [12,11,0,1,2,3,4,5,6,7,8,9,10]] [108,109,110,111,112,113,114,115,116,117,118,119,120,6] [0,1,2,3,4,5,6,7,8,9,10,11,12,13] (by kernel_rfl) ?_;try simp (maxSteps:=2000000) [*, -h,aj,ah,ae,ai,ak,au,af,Op.operands,Call.operands])
    |(with_reducible (first|(replace h:=bC (by assumption) h)|(replace h:=bD (by assumption) h)|(replace h:=aY (by assumption) h)|(replace h:=aZ (by assumption) h)))
    |((with_reducible have hh:=aB h);clear h;rcases hh with⟨hc,h⟩|⟨hc,h⟩<;>have hd:=hc<;>(first|(replace hc:=dA hc)|(replace hc:=dB hc)|skip)<;>(try simp at hd)<;>(try(first|(subst hd)|(replace hd:=bG hd)|(replace hd:=eq_false hd)|(replace hd:=eq_true hd)))<;>(try simp (maxSteps:=2000000) [*, -h,aj,ah,ae,ai,ak,au,af,Op.operands,Call.operands]))
    |(with_reducible replace h:=aL h)
    | ((with_reducible have hh:=Option.bind_eq_some_iff.1 h);clear h;obtain⟨x_,hx_,h⟩:=hh;(first|(refine av (si (h:=hx_)) rfl rfl ?_ ⟨rfl,rfl⟩ ?_;(·simp[*]);clear hx_;try simp (maxSteps:=2000000) [*, -h,aj,ah,ae,ai,ak,au,af,Op.operands,Call.operands])|(refine bf (si (h:=hx_)) rfl rfl ?_ ⟨rfl,rfl⟩ rfl ?_;(·simp[*]);clear hx_;try simp (maxSteps:=2000000) [*, -h,aj,ah,ae,ai,ak,au,af,Op.operands,Call.operands])|(refine Ar [] [] rfl rfl (xS _ _ _ _ hx_) ?_ (by simp) rfl (by simp) ?_;(·simp[*]);clear hx_;try simp (maxSteps:=2000000) [*, -h,aj,ah,ae,ai,ak,au,af,Op.operands,Call.operands])|(refine Au [] [] rfl rfl (xS _ _ _ _ hx_) ?_ (by simp) rfl (by simp) rfl ?_;(·simp[*]);clear hx_;try simp (maxSteps:=2000000) [*, -h,aj,ah,ae,ai,ak,au,af,Op.operands,Call.operands])|(refine av (AZ (h:=hx_)) rfl rfl ?_ ⟨rfl,rfl⟩ ?_;(·simp[*]);clear hx_;try simp (maxSteps:=2000000) [*, -h,aj,ah,ae,ai,ak,au,af,Op.operands,Call.operands])|(refine bf (AZ (h:=hx_)) rfl rfl ?_ ⟨rfl,rfl⟩ rfl ?_;(·simp[*]);clear hx_;try simp (maxSteps:=2000000) [*, -h,aj,ah,ae,ai,ak,au,af,Op.operands,Call.operands]))
       )
    |(obtain⟨k,rfl⟩:=aM (f:=fun k=>aU.j0 k _ _ _ _ _ _ _ _ _ _ _ _ _ _ _ _) (by simp only[aU.j0]) h;simp only[aU.j0]at h;try simp only[aF,aG,aD,aH,aI,aJ]at h)
    |(obtain⟨k,rfl⟩:=aM (f:=fun k=>aU.j1 k _ _ _ _ _ _ _ _ _ _ _ _ _ _ _ _) (by simp only[aU.j1]) h;simp only[aU.j1]at h;try simp only[aF,aG,aD,aH,aI,aJ]at h)
    |(obtain⟨k,rfl⟩:=aM (f:=fun k=>aU.j2 k _ _ _ _ _ _ _ _ _ _ _ _ _ _ _ _) (by simp only[aU.j2]) h;simp only[aU.j2]at h;try simp only[aF,aG,aD,aH,aI,aJ]at h)
    |(obtain⟨k,rfl⟩:=aM (f:=fun k=>aU.j3 k _ _ _ _ _ _ _ _) (by simp only[aU.j3]) h;simp only[aU.j3]at h;try simp only[aF,aG,aD,aH,aI,aJ]at h)
    |(obtain⟨k,rfl⟩:=aM (f:=fun k=>aU.j4 k _ _ _ _ _ _ _ _) (by simp only[aU.j4]) h;simp only[aU.j4]at h;try simp only[aF,aG,aD,aH,aI,aJ]at h)
    |(obtain⟨k,rfl⟩:=aM (f:=fun k=>aU.j5 k _ _ _ _ _ _ _ _) (by simp only[aU.j5]) h;simp only[aU.j5]at h;try simp only[aF,aG,aD,aH,aI,aJ]at h)
    |(refine⟨(by first|exact aP (by assumption) (by decide) (by decide)|exact aN (by assumption) (by decide) (by decide)), ?_⟩;try simp (maxSteps:=2000000) [*, -h,aj,ah,ae,ai,ak,au,af,Op.operands,Call.operands])
    |(cases h;done)
    |(cases h;refine aV _ ?_ ⟨rfl,rfl⟩;simp[*]<;>exact az (by omega) (by omega) (by simp))
end Go.Proofs.Ytojpejfcafbafaa.V
end
section
namespace Go.Proofs.Ytojpejfcafbafaa.P
open Go.RowKit Go.Proofs.YtojpejfcafbafaaW.PrintWords Go.Proofs.YtojpejfcafbafaaW.PrintLast Go.Proofs.YtojpejfcafbafaaW.PrintMore
attribute [local go_sem] bn bq bP bQ aW aX bu bv
set_option linter.unusedVariables false
set_option linter.unusedSimpArgs false
mutual
def bJ.j0:Nat→Bool→List (S41)→List (S35)→Int→Int→List Int→Int→Int→List (S67)→List (S69)→List (S73)→Option (Bool)
  |0,_,_,_,_,_,_,_,_,_,_,_=>none
  |k+1,x32,a,c,d,e,g,h,j,m,n,o=>if x32=true then(some false)else(bJ.l0 k 0 a c d e g h j m n o)
def bJ.l0:Nat→Int→List (S41)→List (S35)→Int→Int→List Int→Int→Int→List (S67)→List (S69)→List (S73)→Option (Bool)
  |0,_,_,_,_,_,_,_,_,_,_,_=>none
  |k+1,x5,d,g,h,j,m,n,e,a,c,o=>if x5<(a.length:Int)then(if 0≤x5 then((aU.f k d g h j m n e a c o ((bB a x5).f0) ((bB a x5).f1) ((bB a x5).f2)).bind fun p=>(if p=true then(if x5<(c.length:Int)then((cK.f k d e ((kw c x5).f0) ((kw c x5).f1) ((kw c x5).f2)).bind fun q=>(if q=true then(bJ.l0 k (wrap64 (x5+1)) d g h j m n e a c o)else(some false)))else(none))else(some false)))else(none))else(bJ.l1 k 0 d g h j m n e a c o)
def bJ.l1:Nat→Int→List (S41)→List (S35)→Int→Int→List Int→Int→Int→List (S67)→List (S69)→List (S73)→Option (Bool)
  |0,_,_,_,_,_,_,_,_,_,_,_=>none
  |k+1,x6,c,d,e,g,h,j,m,n,o,a=>if x6<(a.length:Int)then(if 0≤x6 then((wY.f k c d e g h j m n o a ((fJ a x6).f0) ((fJ a x6).f1) ((fJ a x6).f2) ((fJ a x6).f3)).bind fun p=>(if p=true then(bJ.l1 k (wrap64 (x6+1)) c d e g h j m n o a)else(some false)))else(none))else(some true)
end
def bJ.f (k:Nat) (e:List (S41)) (g:List (S35)) (h:Int) (j:Int) (m:List Int) (n:Int) (o:Int) (a:List (S67)) (c:List (S69)) (d:List (S73)):Option (Bool):=(dG.f k e g h j m n o a c d).bind fun p=>(if p=true then((iK.f (a.length:Int) 1 12).bind fun q=>(if q=true then(if(c.length:Int)=(a.length:Int)then(bJ.j0 k (decide ((d.length:Int)>2)) e g h j m n o a c d)else(bJ.j0 k true e g h j m n o a c d))else(bJ.j0 k true e g h j m n o a c d)))else(bJ.j0 k true e g h j m n o a c d))
end Go.Proofs.Ytojpejfcafbafaa.P
end
