/- A part of the claim FnUnitBare. -/
import Derived.Test.YtojpejfcafbafaaCFnUnitBare25
section
namespace Go.Proofs.Ytojpejfcafbafaa.V
open Go Go.RowKit Go.Proofs.Ytojpejfcafbafaa.P
set_option linter.unusedVariables false
set_option linter.unusedSimpArgs false
theorem HY {R:V→Bs→Prop} {B:Bs} {k t:Nat} {cs cs' :List C} (hB:B.live k=some (.box t cs)) (hc:kZ [(900,k)] B [(900,some (.box t cs'))] cs cs') (h:R (.c (.ptr 900 0 0)) [(900,some (.box t cs'))]):yf [] R (.c (.ptr k 0 0)) B:=
  ⟨.c (.ptr 900 0 0), [(900,some (.box t cs'))],rD (r:= [(900,k)]) ⟨⟨⟨rfl,rfl,rfl,rfl⟩,trivial⟩,⟨⟨_,hB,rfl,hc⟩,trivial⟩,by simp[cZ,Rn.at],trivial⟩,h⟩
theorem JO {P:Program} {cl:Call} {d:Nat} {ev:Operand→V} {B:Bs} {g:Nat} {xs:List V} {φ:Blk→Prop} (hc:cl.callee= .value (.func g)) (hg:uN P g=true)
    (ct:Ct P g xs [] (fun r B' => ∃b,φ b∧r= .c (.ptr 900 0 0)∧B' = [(900,some b)])) (hp:dC [] [] B (cl.args.toList.map ev) xs) (hf:B.get (nm d)=none) (hn: ∀b,φ b→closedB b=true):
    CallAt P cl (some d) d ev B [] [] (fun v u=> ∃b,φ b∧v= .c (.ptr (nm d) 0 0)∧u= [(nm d,some b)]):=by
  refine⟨g,xs, [],_,hc,hg,⟨List.nodup_nil,by simp,by simp,by simp⟩,hp,ct, ?_⟩
  rintro res B' ⟨b,hb,rfl,rfl⟩
  refine⟨⟨by simp, ?_, ?_, ?_,by simp⟩,rfl,by simp, ?_,b,hb,rfl,rfl⟩
  ·intro q y hm _;simp only[List.mem_singleton,Prod.mk.injEq]at hm;rw[hm.1];exact hf
  ·intro q y hm hq;simp only[List.mem_singleton,Prod.mk.injEq]at hm;omega
  ·intro q b' hm;simp only[List.mem_singleton,Prod.mk.injEq,Option.some.injEq]at hm;obtain⟨_,rfl⟩:=hm;exact⟨hn _ hb,by simp⟩
  ·intro p hm;obtain rfl:=List.mem_singleton.1 hm;exact⟨by show(900:Nat)<1000;omega,fun _=>rfl⟩
theorem KZ {a:Bs} {P:Program} {cl:Call} {d:Nat} {ts:List V} {B:Bs} {g:Nat} {xs:List V} {φ:Blk→Prop} {K:List V→Bs→Prop} (hc:cl.callee= .value (.func g)) (hg:uN P g=true)
    (ct:Ct P g xs [] (fun r B' => ∃b,φ b∧r= .c (.ptr 900 0 0)∧B' = [(900,some b)])) (hp:dC [] [] B (cl.args.toList.map (evl ts)) xs) (hf:B.get (nm d)=none) (hn: ∀b,φ b→closedB b=true)
    (h: ∀b,φ b→K (ts.set d (.c (.ptr (nm d) 0 0))) (B.set (nm d) (some b))):vN P a cl (some d) ts B K:=
  .inl ⟨[], [],_,JO hc hg ct hp hf hn,by rintro v u ⟨b,hb,rfl,rfl⟩;exact h b hb⟩
attribute [local simp ↓] eG eH fT fU eO dO gm eP eQ gp gq gu dP dQ dR gF gB gH gG dS bX dX cB dL dU eT eU eX
attribute [local simp] fV fZ dM bS eF dN bT bU bV bW bN bO dV eY dW bY bZ cu cz bP fE lM iG dB ik evl dH fe fA kF ja List.range List.range.loop lZ kY fu fC iC iA Bs.live Bs.get lN WkV WkA WkC lh lH kZ lD cZ iM TEq.refl bg fK yH ei d9 splice dE Bs.set kL fD Rn.at gy gz iF iE lL chunks lC fP toT fB iO rowsOf cK iq plR plV plC lG lF lQ lm fJ iV l8
attribute [local simp low] xu xq xw
attribute [local simp] ag3 un3 sz3 in3 by3 ze3 ct3 zt3 zu3 ag4 un4 sz4 in4 by4 ze4 ct4 zt4 zu4 ag5 un5 sz5 in5 by5 ze5 ct5 zt5 zu5 mi mq mD mE mF mG mH mI mJ io3 mK io5 bo4 mM mO mP mQ mR mU mV mW mX mY mZ ng ni nk nu ny nz nA nC nD nE nG nH nI nJ nK nL nM nN nO nP nQ nR nS nT nU nV nW nX nY nZ oh ol om oo oq ou ow oz oC oD oF oG oH oI oJ oK oL oM oN oO oP oQ oU oV oW oZ o6 o7 o8 je jf jg jh ji jk jl jm jo jq jr jv jw jy jA jB jC jD jE jF o9 pg pu pz pE pF pG pI pJ pK jG jH jI jJ jK jL jM jN jO jP jQ jR jS jT jU jV jW jX jY jZ kg ko kr ku kv kw ky mz gI gJ gK gL gN gP gQ gT gU gV gW gX gY gZ ib ic pO pQ pR pU pV pW pX pY p9 qa qb qc qd qf qg qh qi qj ql qm qo qp qw qx qy qz qA qB qC qD qE qF qG qH qI qJ qK qL qM qN qO qP mix
attribute [local simp] eb eC eI eS eK eM nm
theorem Nf (k:Nat) (cs:List S41) (a b:Int) (r:Int) (h:ui.f k cs a b=some r):iP Try.prog 94 [.c (.t (tC cs)), .i a, .i b] (.i r):=by
  refine bE Try.func94 rfl rfl rfl ?_
  simp (maxSteps:=2000000)
  refine Aj (fun n ts B=> ∃a,ui.l0 n cs a b=some r∧ts= [.c (.t (tC cs)), .i a, .i b, .dead, .dead, .dead, .dead, .dead, .dead, .dead, .dead, .dead, .dead, .dead, .dead, .dead, .dead, .dead]∧B= []) k _ _ (rD (r:= []) ?_) ⟨a,h,rfl,rfl⟩ ?_
  ·constructor<;>simp
  rintro n ts B ⟨a,h,rfl,rfl⟩
  rcases n with _|n
  ·cases h
  simp only[ui.l0]at h
  cases hu:tJ.f n cs b a with
  |none=>rw[hu]at h;cases h
  | some t=>
    rw[hu]at h
    simp only[Option.bind]at h
    simp (maxSteps:=2000000)
    refine av (GD n cs b a t hu) rfl rfl ⟨rfl,rfl,rfl,trivial⟩ ⟨rfl,rfl⟩ ?_
    cases t with
    | true=>
      simp at h
      simp (maxSteps:=2000000)
      refine ug rfl ?_
      simp[h]
    | false=>
      simp (maxSteps:=2000000)
      rw[if_neg (by simp)]at h
      split at h<;>try cases h
      split at h<;>try cases h
      refine⟨⟨by assumption,by assumption⟩,n,by omega,_,_,rD (r:= []) ?_,_,h,rfl,rfl⟩
      constructor<;>simp[kN]
set_option maxRecDepth 20000 in
theorem Ng (bs:List Int) (hb: ∀x∈bs,0≤x∧x<256):Ct Try.prog 16 [.c (.t (.sl 5 1 bs.length (fl 0 eb bs)))] [] (fun r B=> ∃b,(∃bs',y9 bs' ∧b=rdB bs' 0)∧r= .c (.ptr 900 0 0)∧B= [(900,some b)]):=by
  refine bE Try.func16 rfl rfl rfl ?_
  simp (maxSteps:=2000000)
  refine⟨fun h=>⟨by omega, ?_⟩,fun h=> ?_⟩
  · have hl:((bs.take 2000).length:Nat)=2000:=by simp;omega
    refine HY (cs' := [.t (.sl 5 1 (bs.take 2000).length (fl 0 eb (bs.take 2000))), .t (.i 0)]) rfl ⟨?_,TEq.refl _,trivial⟩ ⟨_,⟨bs.take 2000,⟨fun x hx=>hb x (List.mem_of_mem_take hx),by omega⟩,rfl⟩,rfl,rfl⟩
    rw[hl]
    refine TEq.sl _ _ _ _ _ (fun j hj=>rfl) (fun j o x y hj hx hy=> ?_)
    have e:fl 0 eb (bs.take 2000) j=fl 0 eb bs j:=by simp[fl,List.getD_eq_getElem?_getD,List.getElem?_take,hj]
    rw[e,hx]at hy;injection hy with hy;subst hy;exact TEq.refl _
  ·exact HY (cs' := [.t (.sl 5 1 bs.length (fl 0 eb bs)), .t (.i 0)]) rfl ⟨TEq.refl _,TEq.refl _,trivial⟩ ⟨_,⟨bs,⟨hb,by omega⟩,rfl⟩,rfl,rfl⟩
def dh:List Bool→List V→List V
  |_, []=> []
  | [],_::l=> .dead::dh [] l
  |true::m,v::l=>v::dh m l
  |false::m,_::l=> .dead::dh m l
def puts (ts:List V):List (Nat×V)→List V
  | []=>ts
  |(i,v)::l=>puts (ts.set i v) l
theorem Aq: ∀(m:List Bool) (ts:List V),(dh m ts).length=ts.length∧∀(i:Nat) (x:V),(dh m ts)[i]? =some x→ts[i]? =some x∨x=V.dead
  |_, []=>by simp[dh]
  | [],v::l=>by
    obtain⟨h1,h2⟩:=Aq [] l
    refine⟨by simp[dh,h1],fun i x h=> ?_⟩
    rcases i with _|i
    ·simp[dh]at h;exact .inr h.symm
    ·simp[dh]at h;simpa using h2 i x h
  | true::m,v::l=>by
    obtain⟨h1,h2⟩:=Aq m l
    refine⟨by simp[dh,h1],fun i x h=> ?_⟩
    rcases i with _|i
    ·simp[dh]at h;simp[h]
    ·simp[dh]at h;simpa using h2 i x h
  | false::m,v::l=>by
    obtain⟨h1,h2⟩:=Aq m l
    refine⟨by simp[dh,h1],fun i x h=> ?_⟩
    rcases i with _|i
    ·simp[dh]at h;exact .inr h.symm
    ·simp[dh]at h;simpa using h2 i x h
theorem JP {ins:Bs} {ts:List V} {B:Bs} (m:List Bool):sH ins ts B (dh m ts) B:=fun c a w ρ hc hr=>by
  obtain⟨h1,h2⟩:=Aq m ts
  refine⟨ρ,hr.df,hr.sz.trans h1.symm,hr.mem,fun i x hx=> ?_⟩
  rcases h2 i x hx with h|rfl
  ·exact hr.rep i x h
  ·trivial
theorem eD {ins:Bs} {ts ts' :List V} {B:Bs} (m:List Bool) (h:dh m ts=ts'):sH ins ts B ts' B:=h▸JP m
theorem fo {ins:Bs} {ts ts' :List V} {B B' :Bs} (m:List Bool) (h:dh m ts=ts') (hw:Wk ins (idR B') ts' B ts' B'):sH ins ts B ts' B' :=(eD m h).trans (rD hw)
structure NextB {α:Type} (ins:Bs) (T:α→List V) (Bv:α→Bs) (inv:Nat→α→Prop) (k:Nat) (c:List V) (B1:Bs):Prop where
  out: ∃j a,j<k∧inv j a∧sH ins c B1 (T a) (Bv a)
def Ar {α:Type} (ins:Bs) (T:α→List V) (Bv:α→Bs) (inv:Nat→α→Prop) (k:Nat) (Q:Post):Post:=AL (fun a B1=>NextB ins T Bv inv k a B1) Q
def mkT {α:Type} (m:List Bool) (ts:List V) (val:α→List (Nat×V)) (a:α):List V:=puts (dh m ts) (val a)
section
variable {α:Type} {P:Program} {ins:Bs} {x:Code} {Q:Post} {ts:List V} {B:Bs} {T:α→List V} {Bv:α→Bs} {inv:Nat→α→Prop} {k n id:Nat} {a0:α}
theorem iI:Ar ins T Bv inv k Q .normal ts B=NextB ins T Bv inv k ts B:=rfl
theorem iJ:Ar ins T Bv inv k Q (.exit id) ts B=Q (.exit id) ts B:=rfl
theorem iK:Ar ins T Bv inv k Q .ret ts B=Q .ret ts B:=rfl
theorem HZ (T:α→List V) (Bv:α→Bs) (inv:Nat→α→Prop) (h0:inv n a0) (hw:sH ins ts B (T a0) (Bv a0)) (h: ∀k a,k≤n→inv k a→aw P ins x (Ar ins T Bv inv k Q) (T a) (Bv a)):Ai P ins x Q ts B:=by
  refine xK hw ?_
  refine Fx (fun k ts B=> ∃a,k≤n∧inv k a∧sH ins ts B (T a) (Bv a)) n ⟨a0,Nat.le_refl _,h0,sH.refl⟩ ?_
  rintro k ts B ⟨a,hk,hi,h1⟩
  refine xK h1 (yw (EF _ _ _ _ (h k a hk hi)) ?_)
  intro e ts B h
  cases e with
  |normal=>obtain⟨j,a',h1,h2,h3⟩:=h.out;exact⟨j,h1,a',by omega,h2,h3⟩
  |exit id=>exact h
  |ret=>exact h
theorem rQ {β:Type} {b0:β} (m:List Bool) (val:β→List (Nat×V)) (inv:Nat→β→Prop) (h0:inv n b0) (e0:mkT m ts val b0=dh m ts)
    (h: ∀k a,k≤n→inv k a→aw P ins x (Ar ins (mkT m ts val) (fun _=>B) inv k Q) (puts (dh m ts) (val a)) B):Ai P ins x Q ts B:=
  HZ (mkT m ts val) (fun _=>B) inv h0 (eD m e0.symm) h
theorem rR {m:List Bool} {val:α→List (Nat×V)} {a:List V} {B1:Bs} {j:Nat} (hj:j<k) (hi:inv j a0) (hm:sH ins a B1 (mkT m ts val a0) B):NextB ins (mkT m ts val) (fun _=>B) inv k a B1:=
  ⟨j,a0,hj,hi,hm⟩
end
theorem dn {a b:Int} (h:a=b):(a=b)=True:=eq_true h
theorem dw {a b:Int} (h: ¬a=b):(a=b)=False:=eq_false h
def gd {α:Type} (d:α) (xs:List α) (j:Nat):α:=xs.getD j d
theorem qQ {α:Type} {d:α} {en:α→List T} {xs:List α} {j:Nat}:fl d en xs j=en (gd d xs j):=rfl
theorem aF (xs:List Int) (i:Int):Go.Proofs.YtojpejfcafbafaaW.PrintWords.rd xs i=gd 0 xs i.toNat:=rfl
theorem aG (xs:List S41) (i:Int):kN xs i=gd z41 xs i.toNat:=rfl
theorem aD (xs:List S67) (i:Int):bA xs i=gd z67 xs i.toNat:=rfl
theorem aH (xs:List S69) (i:Int):iY xs i=gd z69 xs i.toNat:=rfl
theorem aI (xs:List S73) (i:Int):fF xs i=gd z73 xs i.toNat:=rfl
theorem aJ (xs:List S35) (i:Int):ay xs i=gd z35 xs i.toNat:=rfl
theorem aB {α:Type} {c:Prop} {dc:Decidable c} {a b:Option α} {r:α} (h:(if c then a else b)=some r):(c∧a=some r)∨(¬c∧b=some r):=by
  by_cases hc:c
  ·rw[if_pos hc]at h;exact .inl ⟨hc,h⟩
  ·rw[if_neg hc]at h;exact .inr ⟨hc,h⟩
section
variable {α:Type} {c:Prop} {dc:Decidable c} {a b:Option α} {r:α}
theorem bB (hc:c) (h:(if c then a else b)=some r):a=some r:=by rw[if_pos hc]at h;exact h
theorem bC (hc: ¬c) (h:(if c then a else b)=some r):b=some r:=by rw[if_neg hc]at h;exact h
theorem aY (hc:c=True) (h:(if c then a else b)=some r):a=some r:=bB (of_eq_true hc) h
theorem aZ (hc:c=False) (h:(if c then a else b)=some r):b=some r:=bC (of_eq_false hc) h
end
theorem aL {α β:Type} {a:α} {f:α→Option β} {r:β} (h:(some a).bind f=some r):f a=some r:=h
theorem bF {a b:Bool} (h:a=b):a=b:=h
theorem qR (a b:Int):(a==b)=decide (a=b):=rfl
theorem qU (a b:Int):(a !=b)= !decide (a=b):=rfl
theorem aM {α:Type} {f:Nat→Option α} {k:Nat} {r:α} (h0:f 0=none) (h:f k=some r): ∃k',k=k' +1:=by
  rcases k with _|k
  ·rw[h0]at h;cases h
  ·exact⟨k,rfl⟩
theorem iL {α:Type} {d:α} {en:α→List T} {xs ys:List α} {n:Nat} (h:n=xs.length):uf n (fl d en xs) (fl d en ys)=fl d en (xs++ys):=by
  subst h
  funext j
  unfold uf
  by_cases h1:j<xs.length
  ·rw[if_pos h1];simp[fl,List.getD_eq_getElem?_getD,List.getElem?_append,h1]
  ·rw[if_neg h1];simp[fl,List.getD_eq_getElem?_getD,List.getElem?_append,h1]
theorem rV {α:Type} {d:α} {en:α→List T} {z:List T} {rows:List (List T)} (xs:List α) (h:z=en d) (h2:rows=xs.map en):fB z rows=fl d en xs:=FM xs h h2
theorem kP:fB [T.s (.int .i64 0)] []=fl 0 ei []:=rV [] rfl rfl
theorem kQ (a:Int):fB [T.s (.int .i64 0)] [[T.s (.int .i64 a)]]=fl 0 ei [a]:=rV [a] rfl rfl
theorem kR (a b:Int):fB [T.s (.int .i64 0)] [[T.s (.int .i64 a)], [T.s (.int .i64 b)]]=fl 0 ei [a,b]:=rV [a,b] rfl rfl
theorem kT (a b c:Int):fB [T.s (.int .i64 0)] [[T.s (.int .i64 a)], [T.s (.int .i64 b)], [T.s (.int .i64 c)]]=fl 0 ei [a,b,c]:=rV [a,b,c] rfl rfl
theorem Db {α:Type} {d x:α} {en:α→List T} {xs:List α} {i:Int} {r:List T} (h:r=en x) (h0:0≤i) (h1:i<(xs.length:Int)):iO (fl d en xs) i.toNat r=fl d en (xs.set i.toNat x):=by
  subst h
  funext j
  have h2:i.toNat<xs.length:=by omega
  unfold iO
  by_cases hj:j=i.toNat
  ·subst hj;simp[fl,List.getD_eq_getElem?_getD,List.getElem?_set,h2]
  ·rw[if_neg hj];simp[fl,List.getD_eq_getElem?_getD,List.getElem?_set,Ne.symm hj]
theorem kU {xs:List Int} {i x:Int} (h0:0≤i) (h1:i<(xs.length:Int)):iO (fl 0 ei xs) i.toNat [T.s (.int .i64 x)]=fl 0 ei (xs.set i.toNat x):=Db rfl h0 h1
theorem Mg {α:Type} {d:α} {en:α→List T} {e sz n m:Nat} {xs ys:List α} (h:ys=xs.take n) (hn:n≤xs.length) (hm:m=n):TEq (.sl e sz n (fl d en xs)) (.sl e sz m (fl d en ys)):=by
  subst hm;subst h
  have e1: ∀j,j<m→fl d en (xs.take m) j=fl d en xs j:=fun j hj=>by simp[fl,List.getD_eq_getElem?_getD,List.getElem?_take,hj]
  exact .sl _ _ _ _ _ (fun j hj=>by rw[e1 j hj]) (fun j o x y hj hx hy=>by rw[e1 j hj,hx]at hy;injection hy with hy;subst hy;exact TEq.refl _)
theorem az {α:Type} {d:α} {en:α→List T} {e sz m:Nat} {i:Int} {xs:List α} (h0:0≤i) (h1:i≤(xs.length:Int)) (hm:m=min i.toNat xs.length):TEq (.sl e sz i.toNat (fl d en xs)) (.sl e sz m (fl d en (xs.take i.toNat))):=
  Mg rfl (by omega) (by omega)
theorem aP {n N m:Nat} (h:(n<N)=True) (hm:N * m≤140737488355328) (hN:N≤maxLen):n≤maxLen∧n * m≤140737488355328:=by
  have h:=of_eq_true h
  exact⟨by omega,Nat.le_trans (Nat.mul_le_mul_right m (by omega)) hm⟩
theorem aN {n N m:Nat} (h:(n<N)=True) (hm:N * m≤140737488355328) (hN:N≤maxLen):n+1≤maxLen∧(n+1) * m≤140737488355328:=by
  have h:=of_eq_true h
  exact⟨by omega,Nat.le_trans (Nat.mul_le_mul_right m (by omega)) hm⟩
theorem kV {n m:Nat} {f g:Nat→List T}:(∃N f0,(n=N∧f=f0)∧vO m f0 g)↔vO m f g:=⟨fun⟨_,_,⟨rfl,rfl⟩,h⟩=>h,fun h=>⟨_,_,⟨rfl,rfl⟩,h⟩⟩
def uO (P:Program) (g:Nat) (xs:List V) (ins:Bs) (v:V) (B' :Bs):Prop:=Ct P g xs ins (fun r B1=>r=v∧B1=B')
def ksC:C→C→List (Nat×Nat)
  | .own i _ _, .own k _ _=> [(i,k)]
  | .ptr i _ _, .ptr k _ _=> [(i,k)]
  |_,_=> []
def rZ:List C→List C→List (Nat×Nat)
  |x::xs,y::ys=>ksC x y++rZ xs ys
  |_,_=> []
def ksV:V→V→List (Nat×Nat)
  | .c x, .c y=>ksC x y
  | .agg xs, .agg ys=>rZ xs ys
  |_,_=> []
def ru:List V→List V→List (Nat×Nat)
  |x::xs,y::ys=>ksV x y++ru xs ys
  |_,_=> []
def ksT:V→V→List (Nat×Nat)
  | .tup xs, .tup ys=>ru xs ys
  |x,y=>ksV x y
def ksL (m:List (Nat×Nat)):Nat→Nat→List Nat
  |_,0=> []
  |i,n+1=>((m.find? fun p=>p.1==i).map (·.2)).getD 0::ksL m (i+1) n
structure FnSide (B B' :Bs) (ks:List Nat) (dst:Option Tmp) (v:V):Prop where
  nd:ks.Nodup
  few:ks.length≤100
  live: ∀k∈ks,(B.live k).any closedB=true
  nd' :(B'.map fun p=>ren (dst.getD 0) ks p.1).Nodup
  back: ∀p∈B',if p.1<100 then p.1<ks.length else B.get (ren (dst.getD 0) ks p.1)=none∧p.1<1000∧dst.isSome=true
  closed: ∀p∈B',p.2.all closedB=true
  tp:iT v=true
section
variable {P:Program} {cl:Call} {dst:Option Tmp} {ts:List V} {B:Bs} {g:Nat} {xs:List V} {ins B' :Bs} {v:V} {ks:List Nat} {K:List V→Bs→Prop}
theorem Gi (ct:uO P g xs ins v B') (hc:cl.callee= .value (.func g)) (hg:uN P g=true) (hi:dx B 0 ks=ins) (hp:dC ks [] B (cl.args.toList.map (evl ts)) xs) (hs:FnSide B B' ks dst v):
    CallAt P cl dst (dst.getD 0) (evl ts) B ks [] (fun w u=>w=jd (ren (dst.getD 0) ks) v∧u=B'.map fun p=>(ren (dst.getD 0) ks p.1,p.2)):=by
  subst hi
  refine⟨g,xs, [],_,hc,hg,⟨hs.nd,hs.few,fun k hk=> ?_,by simp⟩,hp,ct, ?_⟩
  · have:=hs.live k hk
    cases hl:B.live k with
    |none=>rw[hl]at this;simp at this
    |some b=>rw[hl]at this;exact⟨b,rfl,by simpa using this⟩
  · rintro res B1 ⟨rfl,rfl⟩
    refine⟨⟨hs.nd',fun q y hm hq=> ?_,fun q y hm hq=> ?_,fun q b hm=>⟨?_,by simp⟩,by simp⟩,hs.tp,by simp,fun p hm=> ?_,rfl,rfl⟩
    ·have:=hs.back _ hm;rw[if_neg hq]at this;exact this.1
    ·have:=hs.back _ hm;rw[if_pos hq]at this;exact this
    ·have:=hs.closed _ hm;simpa using this
    · have:=hs.back _ hm
      by_cases hq:p.1<100
      ·exact⟨by omega,fun h=>absurd hq h⟩
      · rw[if_neg hq]at this
        refine⟨this.2.1,fun _=> ?_⟩
        cases dst with
        |none=>simp at this
        |some d=>rfl
theorem aC {a:Bs} (ct:uO P g xs ins v B') (hc:cl.callee= .value (.func g)) (hg:uN P g=true) (hks:ksL (ru xs (cl.args.toList.map (evl ts))) 0 ins.length=ks) (hi:dx B 0 ks=ins) (hp:dC ks [] B (cl.args.toList.map (evl ts)) xs) (hs:FnSide B B' ks dst v)
    (h:K (dH ts dst (jd (ren (dst.getD 0) ks) v)) (dE B (B'.map fun p=>(ren (dst.getD 0) ks p.1,p.2)))):vN P a cl dst ts B K:=
  .inl ⟨ks, [],_,Gi ct hc hg hi hp hs,by rintro w u ⟨rfl,rfl⟩;exact h⟩
theorem bJ {pt:List (List Nat)} {ds:List Nat} {i:Nat} {tr:Tr} {K:Tr→List V→Bs→Prop} (ct:uO P g xs ins v B') (hc:cl.callee= .value (.func g)) (hg:uN P g=true) (hks:ksL (ru xs (cl.args.toList.map (evl ts))) 0 ins.length=ks) (hi:dx B 0 ks=ins) (hp:dC ks [] B (cl.args.toList.map (evl ts)) xs) (hs:FnSide B B' ks dst v)
    (hk:aj pt ds i [] ks tr=true) (h:K ((i, [],ks)::tr) (dH ts dst (jd (ren (dst.getD 0) ks) v)) (dE B (B'.map fun p=>(ren (dst.getD 0) ks p.1,p.2)))):zg P cl dst ts B pt ds i tr K:=
  ⟨ks, [],_,Gi ct hc hg hi hp hs,hk,by rintro w u ⟨rfl,rfl⟩;exact h⟩
theorem ek {V0:V} (r:Rn) (hr:ksT v V0++ins.map (fun p=>(p.1,p.1))=r) (hw:Wk ins r [V0] B [v] B'):yf ins (fun w B1=>w=v∧B1=B') V0 B:=⟨v,B',rD hw,rfl,rfl⟩
end
theorem fM (n:Nat):1+n=n+1:=Nat.add_comm 1 n
theorem dY:(1≤maxLen)=True:=by simp[maxLen]
theorem zl {ins:Bs} {ts a c:List V} {B B' :Bs} (m:List Bool) (r:Rn) (h:dh m ts=a) (hw:Wk ins r a B c B'):sH ins ts B c B' :=(eD m h).trans (rD hw)
section
variable {β:Type} {P:Program} {ins:Bs} {x:Code} {Q:Post} {ts:List V} {B:Bs} {n:Nat} {b0:β}
theorem sO (m:List Bool) (val:β→List (Nat×V)) (ub:β→List (Nat×Option Blk)) (inv:Nat→β→Prop) (r:Rn) (h0:inv n b0) (hw:Wk ins (r++idR B) (dh m ts) B (mkT m ts val b0) (dE B (ub b0)))
    (h: ∀k a,k≤n→inv k a→aw P ins x (Ar ins (mkT m ts val) (fun a=>dE B (ub a)) inv k Q) (puts (dh m ts) (val a)) (dE B (ub a))):Ai P ins x Q ts B:=
  HZ (mkT m ts val) (fun a=>dE B (ub a)) inv h0 (zl m _ rfl hw) h
theorem iN {inv:Nat→β→Prop} {T:β→List V} {Bv:β→Bs} {k j:Nat} {a:β} (m:List Bool) (r:Rn) (hj:j<k) (hi:inv j a) (hw:Wk ins (r++idR B) (dh m ts) B (T a) (Bv a)):NextB ins T Bv inv k ts B:=
  ⟨j,a,hj,hi,zl m _ rfl hw⟩
end
end Go.Proofs.Ytojpejfcafbafaa.V
end
section
namespace Go.Proofs.Ytojpejfcafbafaa.P
open Go.RowKit Go.Proofs.YtojpejfcafbafaaW.PrintWords Go.Proofs.YtojpejfcafbafaaW.PrintLast Go.Proofs.YtojpejfcafbafaaW.PrintMore
attribute [local go_sem] bn bq bL bM aW aX bu bv
set_option linter.unusedVariables false
set_option linter.unusedSimpArgs false
def uR.f (l0:List (S41)) (a1:Int):Option (Bool):=if a1=1 then(some true)else(if a1=3 then(some true)else(if a1=4 then(some true)else((iy.f a1 8 (wrap64 ((wrap64 (8+(l0.length:Int))) - 1))).bind fun a=>(some a))))
def lV.l0:Nat→List (S41)→Int→Int→Int→List Int→Option (Bool)
  |0,_,_,_,_,_=>none
  |k+1,x0,x1,x6,c,a=>if x6<(a.length:Int)then(if 0≤x6 then((uR.f x0 (rd a x6)).bind fun d=>(if d=true then(lV.l0 k x0 x1 (wrap64 (x6+1)) c a)else(some false)))else(none))else(if x1=0 then(if c=(-1)then(some ((a.length:Int)==0))else(some false))else(if x1=1 then(if c=0 then(if(a.length:Int)=1 then(if 0<(a.length:Int)then(some ((rd a 0)==1))else(none))else(some false))else(some false))else((iy.f c 0 (wrap64 (x1 - 1))).bind fun e=>(if e=true then(some (decide ((a.length:Int)≤2)))else(some false)))))
def lV.f (k:Nat) (l0:List (S41)) (a1:Int):Option (Bool):=if 0≤a1 then(if a1<(l0.length:Int)then(lV.l0 k l0 a1 0 ((kN l0 a1).f0) ((kN l0 a1).f1))else(none))else(none)
def iH.l0:Nat→List (S41)→Int→Option (Bool)
  |0,_,_=>none
  |k+1,x0,x3=>if x3<(x0.length:Int)then((lV.f k x0 x3).bind fun a=>(if a=true then(iH.l0 k x0 (wrap64 (x3+1)))else(some false)))else(some true)
def iH.f (k:Nat) (l0:List (S41)):Option (Bool):=(iy.f (l0.length:Int) 2 5).bind fun a=>(if a=true then(iH.l0 k l0 0)else(some false))
def wI.f (k:Nat) (l0:List (S41)) (a1:Int):Option (Bool):=(iH.f k l0).bind fun a=>(if a=true then(if a1=0 then(some true)else(if a1=2 then(some true)else((uR.f l0 a1).bind fun c=>(some c))))else(some false))
mutual
def bQ.j0:Nat→List (S41)→Bool→Bool→List Int→List Int→Option (Bool)
  |0,_,_,_,_,_=>none
  |k+1,x0,e,a,c,d=>if e=true then(some false)else(bQ.l0 k x0 0 a c d)
def bQ.l0:Nat→List (S41)→Int→Bool→List Int→List Int→Option (Bool)
  |0,_,_,_,_,_=>none
  |k+1,x0,x7,c,a,d=>if x7<(a.length:Int)then(if 0≤x7 then((wI.f k x0 (rd a x7)).bind fun e=>(if e=true then(bQ.l0 k x0 (wrap64 (x7+1)) c a d)else(some false)))else(none))else(bQ.l1 k x0 0 c a d)
def bQ.l1:Nat→List (S41)→Int→Bool→List Int→List Int→Option (Bool)
  |0,_,_,_,_,_=>none
  |k+1,x0,x8,c,d,a=>if x8<(a.length:Int)then(if 0≤x8 then((wI.f k x0 (rd a x8)).bind fun e=>(if e=true then(if(rd a x8)=0 then(some false)else(bQ.l1 k x0 (wrap64 (x8+1)) c d a))else(some false)))else(none))else(some true)
end
def bQ.f (k:Nat) (l0:List (S41)) (a1:Int) (d:Bool) (a:List Int) (c:List Int):Option (Bool):=(iH.f k l0).bind fun e=>(if e=true then(if d=true then(if(a.length:Int)=a1 then(bQ.j0 k l0 (decide ((c.length:Int)>4)) d a c)else(bQ.j0 k l0 true d a c))else(if(a.length:Int)=0 then(some ((c.length:Int)==0))else(some false)))else(some false))
end Go.Proofs.Ytojpejfcafbafaa.P
end
section
namespace Go.Proofs.Ytojpejfcafbafaa.V
open Go Go.RowKit Go.Proofs.Ytojpejfcafbafaa.P
set_option linter.unusedVariables false
set_option linter.unusedSimpArgs false
attribute [local simp ↓] eG eH fT fU eO dO gm eP eQ gp gq gu dP dQ dR gF gB gH gG dS bX dX cB dL dU eT eU eX
attribute [local simp] fV fZ dM bS eF dN bT bU bV bW bN bO dV eY dW bY bZ cu cz bP fE lM iG dB ik evl dH fe fA kF ja List.range List.range.loop lZ kY fu fC iC iA Bs.live Bs.get lN WkV WkA WkC lh lH kZ lD cZ iM TEq.refl bg fK qQ aF aG aD aH aI aJ ei d9 splice dE Bs.set kL fD Rn.at gy gz iF iE lL chunks lC fP toT fB iO rowsOf cK iq plR plV plC lG lF lQ lm fJ iV l8
attribute [local simp] List.length_pos_iff qR qU iI iJ iK puts dh
attribute [local simp ←] iw
attribute [local simp] ksL ru ksV rZ ksC ksT ren jd rT rP dx fM dY dC iZ iB iQ iT lU rO closedB iX kV kP kQ kR kT iL kU
attribute [local simp] ag3 un3 sz3 in3 by3 ze3 ct3 zt3 zu3 ag4 un4 sz4 in4 by4 ze4 ct4 zt4 zu4 ag5 un5 sz5 in5 by5 ze5 ct5 zt5 zu5 mi mq mD mE mF mG mH mI mJ io3 mK io5 bo4 mM mO mP mQ mR mU mV mW mX mY mZ ng ni nk nu ny nz nA nC nD nE nG nH nI nJ nK nL nM nN nO nP nQ nR nS nT nU nV nW nX nY nZ oh ol om oo oq ou ow oz oC oD oF oG oH oI oJ oK oL oM oN oO oP oQ oU oV oW oZ o6 o7 o8 je jf jg jh ji jk jl jm jo jq jr jv jw jy jA jB jC jD jE jF o9 pg pu pz pE pF pG pI pJ pK jG jH jI jJ jK jL jM jN jO jP jQ jR jS jT jU jV jW jX jY jZ kg ko kr ku kv kw ky mz gI gJ gK gL gN gP gQ gT gU gV gW gX gY gZ ib ic pO pQ pR pU pV pW pX pY p9 qa qb qc qd qf qg qh qi qj ql qm qo qp qw qx qy qz qA qB qC qD qE qF qG qH qI qJ qK qL qM qN qO qP mix
attribute [local simp] eb eC eI eS eK eM nm
set_option maxRecDepth 20000 in
set_option maxHeartbeats 4000000 in
theorem wP (l0:List (S41)) (a1:Int) (r:Bool) (h:uR.f l0 a1=some r):iP Try.prog 72 [.c (.t (tC l0)), .i a1] (.b r):=by
  unfold uR.f at h
  try simp only[aF,aG,aD,aH,aI,aJ]at h
  refine bE Try.func72 rfl rfl rfl ?_
  try simp -implicitDefEqProofs (maxSteps:=2000000)
  repeat' first
    |(with_reducible (first|(replace h:=bB (by assumption) h)|(replace h:=bC (by assumption) h)|(replace h:=aY (by assumption) h)|(replace h:=aZ (by assumption) h)))
    |((with_reducible have hh:=aB h);clear h;rcases hh with⟨hc,h⟩|⟨hc,h⟩<;>have hd:=hc<;>(first|(replace hc:=dn hc)|(replace hc:=dw hc)|skip)<;>(try simp at hd)<;>(try(first|(subst hd)|(replace hd:=bF hd)|(replace hd:=eq_false hd)|(replace hd:=eq_true hd)))<;>(try simp -implicitDefEqProofs (maxSteps:=2000000) [*, -h]))
    |(with_reducible replace h:=aL h)
    | ((with_reducible have hh:=Option.bind_eq_some_iff.1 h);clear h;obtain⟨x_,hx_,h⟩:=hh;(first|(refine av (rW (h:=hx_)) rfl rfl ?_ ⟨rfl,rfl⟩ ?_;(·simp[*]);clear hx_;try simp -implicitDefEqProofs (maxSteps:=2000000) [*, -h]))
       )
    |(refine⟨(by first|exact aP (by assumption) (by decide) (by decide)|exact aN (by assumption) (by decide) (by decide)), ?_⟩;try simp -implicitDefEqProofs (maxSteps:=2000000) [*, -h])
    |(cases h;done)
    |(cases h;refine aV _ ?_ ⟨rfl,rfl⟩;simp[*]<;>exact az (by omega) (by omega) (by simp))
set_option maxRecDepth 20000 in
set_option maxHeartbeats 4000000 in
theorem El (k:Nat) (l0:List (S41)) (a1:Int) (r:Bool) (h:lV.f k l0 a1=some r):iP Try.prog 49 [.c (.t (tC l0)), .i a1] (.b r):=by
  unfold lV.f at h
  try simp only[aF,aG,aD,aH,aI,aJ]at h
  refine bE Try.func49 rfl rfl rfl ?_
  try simp -implicitDefEqProofs (maxSteps:=2000000)
  repeat' first
    |(with_reducible (first|(replace h:=bB (by assumption) h)|(replace h:=bC (by assumption) h)|(replace h:=aY (by assumption) h)|(replace h:=aZ (by assumption) h)))
    |((with_reducible have hh:=aB h);clear h;rcases hh with⟨hc,h⟩|⟨hc,h⟩<;>have hd:=hc<;>(first|(replace hc:=dn hc)|(replace hc:=dw hc)|skip)<;>(try simp at hd)<;>(try(first|(subst hd)|(replace hd:=bF hd)|(replace hd:=eq_false hd)|(replace hd:=eq_true hd)))<;>(try simp -implicitDefEqProofs (maxSteps:=2000000) [*, -h]))
    |(with_reducible replace h:=aL h)
    | ((with_reducible have hh:=Option.bind_eq_some_iff.1 h);clear h;obtain⟨x_,hx_,h⟩:=hh;(first|(refine av (wP (h:=hx_)) rfl rfl ?_ ⟨rfl,rfl⟩ ?_;(·simp[*]);clear hx_;try simp -implicitDefEqProofs (maxSteps:=2000000) [*, -h])|(refine av (rW (h:=hx_)) rfl rfl ?_ ⟨rfl,rfl⟩ ?_;(·simp[*]);clear hx_;try simp -implicitDefEqProofs (maxSteps:=2000000) [*, -h]))
       )
    | (refine rQ [true,true,false,false,false,true,true,true,true,true,true] (fun(x6:Int)=> [(6, .i x6)]) (fun n (x6:Int)=>lV.l0 n _ _ x6 _ _=some _) h (by first|rfl|simp[mkT]) ?_;clear h;intro k x6 hk h
       obtain⟨k,rfl⟩:=aM (f:=fun k=>lV.l0 k _ _ _ _ _) (by simp only[lV.l0]) h;simp only[lV.l0]at h;try simp only[aF,aG,aD,aH,aI,aJ]at h;try simp -implicitDefEqProofs (maxSteps:=2000000))
    |(exact rR (inv:=fun n (x6:Int)=>lV.l0 n _ _ x6 _ _=some _) (by omega) h (by first|exact eD [true,true,false,false,false,true,true,true,true,true,true] rfl|exact fo [true,true,false,false,false,true,true,true,true,true,true] rfl (by constructor<;>simp[idR,mkT])))
    |(refine⟨(by first|exact aP (by assumption) (by decide) (by decide)|exact aN (by assumption) (by decide) (by decide)), ?_⟩;try simp -implicitDefEqProofs (maxSteps:=2000000) [*, -h])
    |(cases h;done)
    |(cases h;refine aV _ ?_ ⟨rfl,rfl⟩;simp[*]<;>exact az (by omega) (by omega) (by simp))
set_option maxRecDepth 20000 in
set_option maxHeartbeats 4000000 in
theorem vU (k:Nat) (l0:List (S41)) (r:Bool) (h:iH.f k l0=some r):iP Try.prog 26 [.c (.t (tC l0))] (.b r):=by
  unfold iH.f at h
  try simp only[aF,aG,aD,aH,aI,aJ]at h
  refine bE Try.func26 rfl rfl rfl ?_
  try simp -implicitDefEqProofs (maxSteps:=2000000)
  repeat' first
    |(with_reducible (first|(replace h:=bB (by assumption) h)|(replace h:=bC (by assumption) h)|(replace h:=aY (by assumption) h)|(replace h:=aZ (by assumption) h)))
    |((with_reducible have hh:=aB h);clear h;rcases hh with⟨hc,h⟩|⟨hc,h⟩<;>have hd:=hc<;>(first|(replace hc:=dn hc)|(replace hc:=dw hc)|skip)<;>(try simp at hd)<;>(try(first|(subst hd)|(replace hd:=bF hd)|(replace hd:=eq_false hd)|(replace hd:=eq_true hd)))<;>(try simp -implicitDefEqProofs (maxSteps:=2000000) [*, -h]))
    |(with_reducible replace h:=aL h)
    | ((with_reducible have hh:=Option.bind_eq_some_iff.1 h);clear h;obtain⟨x_,hx_,h⟩:=hh;(first|(refine av (El (h:=hx_)) rfl rfl ?_ ⟨rfl,rfl⟩ ?_;(·simp[*]);clear hx_;try simp -implicitDefEqProofs (maxSteps:=2000000) [*, -h])|(refine av (rW (h:=hx_)) rfl rfl ?_ ⟨rfl,rfl⟩ ?_;(·simp[*]);clear hx_;try simp -implicitDefEqProofs (maxSteps:=2000000) [*, -h]))
       )
    | (refine rQ [true,false,false,true,true,true,true,true] (fun(x3:Int)=> [(3, .i x3)]) (fun n (x3:Int)=>iH.l0 n _ x3=some _) h (by first|rfl|simp[mkT]) ?_;clear h;intro k x3 hk h
       obtain⟨k,rfl⟩:=aM (f:=fun k=>iH.l0 k _ _) (by simp only[iH.l0]) h;simp only[iH.l0]at h;try simp only[aF,aG,aD,aH,aI,aJ]at h;try simp -implicitDefEqProofs (maxSteps:=2000000))
    |(exact rR (inv:=fun n (x3:Int)=>iH.l0 n _ x3=some _) (by omega) h (by first|exact eD [true,false,false,true,true,true,true,true] rfl|exact fo [true,false,false,true,true,true,true,true] rfl (by constructor<;>simp[idR,mkT])))
    |(refine⟨(by first|exact aP (by assumption) (by decide) (by decide)|exact aN (by assumption) (by decide) (by decide)), ?_⟩;try simp -implicitDefEqProofs (maxSteps:=2000000) [*, -h])
    |(cases h;done)
    |(cases h;refine aV _ ?_ ⟨rfl,rfl⟩;simp[*]<;>exact az (by omega) (by omega) (by simp))
set_option maxRecDepth 20000 in
set_option maxHeartbeats 4000000 in
theorem Fa (k:Nat) (l0:List (S41)) (a1:Int) (r:Bool) (h:wI.f k l0 a1=some r):iP Try.prog 75 [.c (.t (tC l0)), .i a1] (.b r):=by
  unfold wI.f at h
  try simp only[aF,aG,aD,aH,aI,aJ]at h
  refine bE Try.func75 rfl rfl rfl ?_
  try simp -implicitDefEqProofs (maxSteps:=2000000)
  repeat' first
    |(with_reducible (first|(replace h:=bB (by assumption) h)|(replace h:=bC (by assumption) h)|(replace h:=aY (by assumption) h)|(replace h:=aZ (by assumption) h)))
    |((with_reducible have hh:=aB h);clear h;rcases hh with⟨hc,h⟩|⟨hc,h⟩<;>have hd:=hc<;>(first|(replace hc:=dn hc)|(replace hc:=dw hc)|skip)<;>(try simp at hd)<;>(try(first|(subst hd)|(replace hd:=bF hd)|(replace hd:=eq_false hd)|(replace hd:=eq_true hd)))<;>(try simp -implicitDefEqProofs (maxSteps:=2000000) [*, -h]))
    |(with_reducible replace h:=aL h)
    | ((with_reducible have hh:=Option.bind_eq_some_iff.1 h);clear h;obtain⟨x_,hx_,h⟩:=hh;(first|(refine av (vU (h:=hx_)) rfl rfl ?_ ⟨rfl,rfl⟩ ?_;(·simp[*]);clear hx_;try simp -implicitDefEqProofs (maxSteps:=2000000) [*, -h])|(refine av (wP (h:=hx_)) rfl rfl ?_ ⟨rfl,rfl⟩ ?_;(·simp[*]);clear hx_;try simp -implicitDefEqProofs (maxSteps:=2000000) [*, -h]))
       )
    |(refine⟨(by first|exact aP (by assumption) (by decide) (by decide)|exact aN (by assumption) (by decide) (by decide)), ?_⟩;try simp -implicitDefEqProofs (maxSteps:=2000000) [*, -h])
    |(cases h;done)
    |(cases h;refine aV _ ?_ ⟨rfl,rfl⟩;simp[*]<;>exact az (by omega) (by omega) (by simp))
set_option maxRecDepth 20000 in
set_option maxHeartbeats 4000000 in
theorem zR (k:Nat) (l0:List (S41)) (a1:Int) (a:Bool) (d:List Int) (e:List Int) (r:Bool) (h:bQ.f k l0 a1 a d e=some r):iP Try.prog 52 [.c (.t (tC l0)), .i a1, .agg [.t (.b a), .t (.ints d), .t (.ints e)]] (.b r):=by
  unfold bQ.f at h
  try simp only[aF,aG,aD,aH,aI,aJ]at h
  refine bE Try.func52 rfl rfl rfl ?_
  try simp -implicitDefEqProofs (maxSteps:=2000000)
  repeat' first
    |(with_reducible (first|(replace h:=bB (by assumption) h)|(replace h:=bC (by assumption) h)|(replace h:=aY (by assumption) h)|(replace h:=aZ (by assumption) h)))
    |((with_reducible have hh:=aB h);clear h;rcases hh with⟨hc,h⟩|⟨hc,h⟩<;>have hd:=hc<;>(first|(replace hc:=dn hc)|(replace hc:=dw hc)|skip)<;>(try simp at hd)<;>(try(first|(subst hd)|(replace hd:=bF hd)|(replace hd:=eq_false hd)|(replace hd:=eq_true hd)))<;>(try simp -implicitDefEqProofs (maxSteps:=2000000) [*, -h]))
    |(with_reducible replace h:=aL h)
    | ((with_reducible have hh:=Option.bind_eq_some_iff.1 h);clear h;obtain⟨x_,hx_,h⟩:=hh;(first|(refine av (Fa (h:=hx_)) rfl rfl ?_ ⟨rfl,rfl⟩ ?_;(·simp[*]);clear hx_;try simp -implicitDefEqProofs (maxSteps:=2000000) [*, -h])|(refine av (vU (h:=hx_)) rfl rfl ?_ ⟨rfl,rfl⟩ ?_;(·simp[*]);clear hx_;try simp -implicitDefEqProofs (maxSteps:=2000000) [*, -h]))
       )
    |(obtain⟨k,rfl⟩:=aM (f:=fun k=>bQ.j0 k _ _ _ _ _) (by simp only[bQ.j0]) h;simp only[bQ.j0]at h;try simp only[aF,aG,aD,aH,aI,aJ]at h)
    | (refine rQ [true,true,true,false,false,true,false,true,false,true,true,true,true,true,true,true,true,true,true,true,true,true,true,true,true,true,true,true,true,true,true,true,true,true,true,true] (fun(x7:Int)=> [(7, .i x7)]) (fun n (x7:Int)=>bQ.l0 n _ x7 _ _ _=some _) h (by first|rfl|simp[mkT]) ?_;clear h;intro k x7 hk h
       obtain⟨k,rfl⟩:=aM (f:=fun k=>bQ.l0 k _ _ _ _ _) (by simp only[bQ.l0]) h;simp only[bQ.l0]at h;try simp only[aF,aG,aD,aH,aI,aJ]at h;try simp -implicitDefEqProofs (maxSteps:=2000000))
    |(exact rR (inv:=fun n (x7:Int)=>bQ.l0 n _ x7 _ _ _=some _) (by omega) h (by first|exact eD [true,true,true,false,false,true,false,true,false,true,true,true,true,true,true,true,true,true,true,true,true,true,true,true,true,true,true,true,true,true,true,true,true,true,true,true] rfl|exact fo [true,true,true,false,false,true,false,true,false,true,true,true,true,true,true,true,true,true,true,true,true,true,true,true,true,true,true,true,true,true,true,true,true,true,true,true] rfl (by constructor<;>simp[idR,mkT])))
    | (refine rQ [true,true,true,false,false,true,false,true,true,true,true,true,true,true,true,true,true,true,true,true,true,true,true,true,true,true,true,true,true,true,true,true,true,true,true,true,true,true,true,true,true,true,true,true,true,true,true,true,true,true,true] (fun(x8:Int)=> [(8, .i x8)]) (fun n (x8:Int)=>bQ.l1 n _ x8 _ _ _=some _) h (by first|rfl|simp[mkT]) ?_;clear h;intro k x8 hk h
       obtain⟨k,rfl⟩:=aM (f:=fun k=>bQ.l1 k _ _ _ _ _) (by simp only[bQ.l1]) h;simp only[bQ.l1]at h;try simp only[aF,aG,aD,aH,aI,aJ]at h;try simp -implicitDefEqProofs (maxSteps:=2000000))
    |(exact rR (inv:=fun n (x8:Int)=>bQ.l1 n _ x8 _ _ _=some _) (by omega) h (by first|exact eD [true,true,true,false,false,true,false,true,true,true,true,true,true,true,true,true,true,true,true,true,true,true,true,true,true,true,true,true,true,true,true,true,true,true,true,true,true,true,true,true,true,true,true,true,true,true,true,true,true,true,true] rfl|exact fo [true,true,true,false,false,true,false,true,true,true,true,true,true,true,true,true,true,true,true,true,true,true,true,true,true,true,true,true,true,true,true,true,true,true,true,true,true,true,true,true,true,true,true,true,true,true,true,true,true,true,true] rfl (by constructor<;>simp[idR,mkT])))
    |(refine⟨(by first|exact aP (by assumption) (by decide) (by decide)|exact aN (by assumption) (by decide) (by decide)), ?_⟩;try simp -implicitDefEqProofs (maxSteps:=2000000) [*, -h])
    |(cases h;done)
    |(cases h;refine aV _ ?_ ⟨rfl,rfl⟩;simp[*]<;>exact az (by omega) (by omega) (by simp))
end Go.Proofs.Ytojpejfcafbafaa.V
end
section
namespace Go.Proofs.Ytojpejfcafbafaa.P
open Go.RowKit Go.Proofs.YtojpejfcafbafaaW.PrintWords Go.Proofs.YtojpejfcafbafaaW.PrintLast Go.Proofs.YtojpejfcafbafaaW.PrintMore
attribute [local go_sem] bn bq bL bM aW aX bu bv
set_option linter.unusedVariables false
set_option linter.unusedSimpArgs false
def yC.f (a0:Int):Option (Bool):=(iy.f a0 (-128) 127).bind fun a=>(some a)
def wS.f (k:Nat) (c:List (S41)) (q:List (S35)) (r:Int) (t:Int) (u:List Int) (v:Int) (w:Int) (a:List (S67)) (x:List (S69)) (y:List (S73)) (d:Int) (o:Int) (p:Int) (e:Int):Option (Bool):=(iy.f d 0 (wrap64 ((a.length:Int) - 1))).bind fun g=>(if g=true then((iy.f o (wrap64 (d+1)) (a.length:Int)).bind fun h=>(if h=true then((iy.f p 0 (wrap64 ((a.length:Int) - 1))).bind fun j=>(if j=true then((iy.f e 0 (wrap64 ((c.length:Int) - 1))).bind fun m=>(if m=true then((tJ.f k c e 1).bind fun n=>(some n))else(some false)))else(some false)))else(some false)))else(some false))
mutual
def dF.j0:Nat→Int→List (S41)→List (S35)→Int→Int→List Int→Int→Int→List (S67)→List (S69)→List (S73)→Option (Bool)
  |0,_,_,_,_,_,_,_,_,_,_,_=>none
  |k+1,x5,a,h,c,j,d,e,g,m,n,o=>if c=0 then(dF.j1 k true a h c j d e g m n o)else((iy.f c (-1) (wrap64 ((a.length:Int) - 1))).bind fun p=>(if p=true then(if(d.length:Int)>2 then(dF.j1 k true a h c j d e g m n o)else((uR.f a e).bind fun q=>(if q=true then((iy.f g (wrap64 (x5+(d.length:Int))) 3).bind fun r=>(dF.j1 k (!r) a h c j d e g m n o))else(dF.j1 k true a h c j d e g m n o))))else(dF.j1 k true a h c j d e g m n o)))
def dF.j1:Nat→Bool→List (S41)→List (S35)→Int→Int→List Int→Int→Int→List (S67)→List (S69)→List (S73)→Option (Bool)
  |0,_,_,_,_,_,_,_,_,_,_,_=>none
  |k+1,p,a,c,d,e,g,h,j,m,n,o=>if p=true then(some false)else(dF.l0 k 0 a c d e g h j m n o)
def dF.l0:Nat→Int→List (S41)→List (S35)→Int→Int→List Int→Int→Int→List (S67)→List (S69)→List (S73)→Option (Bool)
  |0,_,_,_,_,_,_,_,_,_,_,_=>none
  |k+1,x6,e,g,a,c,d,h,j,m,n,o=>if x6<(d.length:Int)then(if 0≤x6 then((uR.f e (rd d x6)).bind fun p=>(if p=true then(dF.l0 k (wrap64 (x6+1)) e g a c d h j m n o)else(some false)))else(none))else(if a≥0 then((iy.f c 0 2).bind fun q=>(if q=true then(some true)else(if a<0 then(some (c==0))else(some false))))else(if a<0 then(some (c==0))else(some false)))
end
def dF.f (k:Nat) (c:List (S41)) (d:List (S35)) (a:Int) (e:Int) (g:List Int) (h:Int) (j:Int) (m:List (S67)) (n:List (S69)) (o:List (S73)):Option (Bool):=if a≥0 then(dF.j0 k 1 c d a e g h j m n o)else(dF.j0 k 0 c d a e g h j m n o)
mutual
def ig.j0:Nat→Bool→Int→Int→List Int→Int→Int→List (S67)→List (S69)→List (S73)→Int→Int→List Int→Int→Int→List (S67)→List (S69)→List (S73)→Option (Bool)
  |0,_,_,_,_,_,_,_,_,_,_,_,_,_,_,_,_,_=>none
  |k+1,w,a,c,d,e,g,h,j,m,n,o,p,q,r,t,u,v=>if w=true then(some false)else(ig.l0 k 0 a c d e g h j m n o p q r t u v)
def ig.l0:Nat→Int→Int→Int→List Int→Int→Int→List (S67)→List (S69)→List (S73)→Int→Int→List Int→Int→Int→List (S67)→List (S69)→List (S73)→Option (Bool)
  |0,_,_,_,_,_,_,_,_,_,_,_,_,_,_,_,_,_=>none
  |k+1,x5,d,e,a,g,h,j,m,n,o,p,c,q,r,t,u,v=>if x5<(a.length:Int)then(if 0≤x5 then(if x5<(c.length:Int)then(if(rd a x5)=(rd c x5)then(ig.l0 k (wrap64 (x5+1)) d e a g h j m n o p c q r t u v)else(some false))else(none))else(none))else(some true)
end
def ig.f (k:Nat) (g:Int) (h:Int) (a:List Int) (c:Int) (j:Int) (m:List (S67)) (n:List (S69)) (o:List (S73)) (p:Int) (q:Int) (d:List Int) (e:Int) (r:Int) (t:List (S67)) (u:List (S69)) (v:List (S73)):Option (Bool):=if c=e then(ig.j0 k ((a.length:Int) !=(d.length:Int)) g h a c j m n o p q d e r t u v)else(ig.j0 k true g h a c j m n o p q d e r t u v)
mutual
def dD.l0:Nat→Int→List (S41)→List (S35)→Option (Bool)
  |0,_,_,_=>none
  |k+1,x3,c,a=>if x3<(a.length:Int)then(dD.l1 k x3 0 c a)else(some true)
def dD.l1:Nat→Int→Int→List (S41)→List (S35)→Option (Bool)
  |0,_,_,_,_=>none
  |k+1,x3,x4,c,a=>if x4<(a.length:Int)then(if 0≤x3 then(if x3<(a.length:Int)then(if 0≤x4 then(if x3=x4 then(dD.l1 k x3 (wrap64 (x4+1)) c a)else(if((ay a x3).f0)≥0 then(if((ay a x4).f0)≥0 then(if((ay a x3).f1)=((ay a x4).f1)then((tJ.f k c ((ay a x3).f0) ((ay a x4).f0)).bind fun d=>(if d=true then(if((ay a x3).f0)=((ay a x4).f0)then(some false)else((ig.f k ((ay a x3).f0) ((ay a x3).f1) ((ay a x3).f2) ((ay a x3).f3) ((ay a x3).f4) ((ay a x3).f5) ((ay a x3).f6) ((ay a x3).f7) ((ay a x4).f0) ((ay a x4).f1) ((ay a x4).f2) ((ay a x4).f3) ((ay a x4).f4) ((ay a x4).f5) ((ay a x4).f6) ((ay a x4).f7)).bind fun e=>(if e=true then(dD.l1 k x3 (wrap64 (x4+1)) c a)else(some false))))else(dD.l1 k x3 (wrap64 (x4+1)) c a)))else(dD.l1 k x3 (wrap64 (x4+1)) c a))else(dD.l1 k x3 (wrap64 (x4+1)) c a))else(dD.l1 k x3 (wrap64 (x4+1)) c a)))else(none))else(none))else(none))else(dD.l0 k (wrap64 (x3+1)) c a)
end
def dD.f (k:Nat) (a:List (S41)) (c:List (S35)):Option (Bool):=dD.l0 k 0 a c
mutual
def fw.l0:Nat→Int→Int→List (S41)→List (S35)→Option (Int)
  |0,_,_,_,_=>none
  |k+1,x1,x2,a,c=>if x1≥0 then(fw.l1 k x1 x2 0 a c)else(some (-1))
def fw.l1:Nat→Int→Int→Int→List (S41)→List (S35)→Option (Int)
  |0,_,_,_,_,_=>none
  |k+1,x1,x2,x7,c,a=>if x7<(a.length:Int)then(if 0≤x7 then(if((ay a x7).f0)=x1 then(if((ay a x7).f1)=x2 then(some x7)else(fw.l1 k x1 x2 (wrap64 (x7+1)) c a))else(fw.l1 k x1 x2 (wrap64 (x7+1)) c a))else(none))else(if 0≤x1 then(if x1<(c.length:Int)then(fw.l0 k ((kN c x1).f0) x2 c a)else(none))else(none))
end
def fw.f (k:Nat) (a:List (S41)) (c:List (S35)) (a1:Int) (a2:Int):Option (Int):=fw.l0 k a1 a2 a c
end Go.Proofs.Ytojpejfcafbafaa.P
end
section
namespace Go.Proofs.Ytojpejfcafbafaa.V
open Go Go.RowKit Go.Proofs.Ytojpejfcafbafaa.P
set_option linter.unusedVariables false
set_option linter.unusedSimpArgs false
attribute [local simp ↓] eG eH fT fU eO dO gm eP eQ gp gq gu dP dQ dR gF gB gH gG dS bX dX cB dL dU eT eU eX
attribute [local simp] fV fZ dM bS eF dN bT bU bV bW bN bO dV eY dW bY bZ cu cz bP fE lM iG dB ik evl dH fe fA kF ja List.range List.range.loop lZ kY fu fC iC iA Bs.live Bs.get lN WkV WkA WkC lh lH kZ lD cZ iM TEq.refl bg fK qQ aF aG aD aH aI aJ ei d9 splice dE Bs.set kL fD Rn.at gy gz iF iE lL chunks lC fP toT fB iO rowsOf cK iq plR plV plC lG lF lQ lm fJ iV l8
attribute [local simp] List.length_pos_iff qR qU iI iJ iK puts dh
attribute [local simp ←] iw
attribute [local simp] ksL ru ksV rZ ksC ksT ren jd rT rP dx fM dY dC iZ iB iQ iT lU rO closedB iX kV kP kQ kR kT iL kU
attribute [local simp] ag3 un3 sz3 in3 by3 ze3 ct3 zt3 zu3 ag4 un4 sz4 in4 by4 ze4 ct4 zt4 zu4 ag5 un5 sz5 in5 by5 ze5 ct5 zt5 zu5 mi mq mD mE mF mG mH mI mJ io3 mK io5 bo4 mM mO mP mQ mR mU mV mW mX mY mZ ng ni nk nu ny nz nA nC nD nE nG nH nI nJ nK nL nM nN nO nP nQ nR nS nT nU nV nW nX nY nZ oh ol om oo oq ou ow oz oC oD oF oG oH oI oJ oK oL oM oN oO oP oQ oU oV oW oZ o6 o7 o8 je jf jg jh ji jk jl jm jo jq jr jv jw jy jA jB jC jD jE jF o9 pg pu pz pE pF pG pI pJ pK jG jH jI jJ jK jL jM jN jO jP jQ jR jS jT jU jV jW jX jY jZ kg ko kr ku kv kw ky mz gI gJ gK gL gN gP gQ gT gU gV gW gX gY gZ ib ic pO pQ pR pU pV pW pX pY p9 qa qb qc qd qf qg qh qi qj ql qm qo qp qw qx qy qz qA qB qC qD qE qF qG qH qI qJ qK qL qM qN qO qP mix
attribute [local simp] eb eC eI eS eK eM nm
set_option maxRecDepth 20000 in
set_option maxHeartbeats 4000000 in
theorem AR (a0:Int) (r:Bool) (h:yC.f a0=some r):iP Try.prog 73 [.i a0] (.b r):=by
  unfold yC.f at h
  try simp only[aF,aG,aD,aH,aI,aJ]at h
  refine bE Try.func73 rfl rfl rfl ?_
  try simp (maxSteps:=2000000)
  repeat' first
    |(with_reducible (first|(replace h:=bB (by assumption) h)|(replace h:=bC (by assumption) h)|(replace h:=aY (by assumption) h)|(replace h:=aZ (by assumption) h)))
    |((with_reducible have hh:=aB h);clear h;rcases hh with⟨hc,h⟩|⟨hc,h⟩<;>have hd:=hc<;>(first|(replace hc:=dn hc)|(replace hc:=dw hc)|skip)<;>(try simp at hd)<;>(try(first|(subst hd)|(replace hd:=bF hd)|(replace hd:=eq_false hd)|(replace hd:=eq_true hd)))<;>(try simp (maxSteps:=2000000) [*, -h]))
    |(with_reducible replace h:=aL h)
    | ((with_reducible have hh:=Option.bind_eq_some_iff.1 h);clear h;obtain⟨x_,hx_,h⟩:=hh;(first|(refine av (rW (h:=hx_)) rfl rfl ?_ ⟨rfl,rfl⟩ ?_;(·simp[*]);clear hx_;try simp (maxSteps:=2000000) [*, -h]))
       )
    |(refine⟨(by first|exact aP (by assumption) (by decide) (by decide)|exact aN (by assumption) (by decide) (by decide)), ?_⟩;try simp (maxSteps:=2000000) [*, -h])
    |(cases h;done)
    |(cases h;refine aV _ ?_ ⟨rfl,rfl⟩;simp[*]<;>exact az (by omega) (by omega) (by simp))
set_option maxRecDepth 20000 in
set_option maxHeartbeats 4000000 in
theorem zS (k:Nat) (a:List (S41)) (c:List (S35)) (d:Int) (e:Int) (g:List Int) (j:Int) (m:Int) (n:List (S67)) (o:List (S69)) (p:List (S73)) (q:Int) (u:Int) (v:Int) (w:Int) (r:Bool) (h:wS.f k a c d e g j m n o p q u v w=some r):iP Try.prog 53 [.agg [.t (tC a), .t (tM c)], .agg [.t (.i d), .t (.i e), .t (.ints g), .t (.i j), .t (.i m), .t (tI n), .t (tS o), .t (tK p)], .agg [.t (.i q), .t (.i u), .t (.i v), .t (.i w)]] (.b r):=by
  unfold wS.f at h
  try simp only[aF,aG,aD,aH,aI,aJ]at h
  refine bE Try.func53 rfl rfl rfl ?_
  try simp (maxSteps:=2000000)
  repeat' first
    |(with_reducible (first|(replace h:=bB (by assumption) h)|(replace h:=bC (by assumption) h)|(replace h:=aY (by assumption) h)|(replace h:=aZ (by assumption) h)))
    |((with_reducible have hh:=aB h);clear h;rcases hh with⟨hc,h⟩|⟨hc,h⟩<;>have hd:=hc<;>(first|(replace hc:=dn hc)|(replace hc:=dw hc)|skip)<;>(try simp at hd)<;>(try(first|(subst hd)|(replace hd:=bF hd)|(replace hd:=eq_false hd)|(replace hd:=eq_true hd)))<;>(try simp (maxSteps:=2000000) [*, -h]))
    |(with_reducible replace h:=aL h)
    | ((with_reducible have hh:=Option.bind_eq_some_iff.1 h);clear h;obtain⟨x_,hx_,h⟩:=hh;(first|(refine av (rW (h:=hx_)) rfl rfl ?_ ⟨rfl,rfl⟩ ?_;(·simp[*]);clear hx_;try simp (maxSteps:=2000000) [*, -h])|(refine av (GD (h:=hx_)) rfl rfl ?_ ⟨rfl,rfl⟩ ?_;(·simp[*]);clear hx_;try simp (maxSteps:=2000000) [*, -h]))
       )
    |(refine⟨(by first|exact aP (by assumption) (by decide) (by decide)|exact aN (by assumption) (by decide) (by decide)), ?_⟩;try simp (maxSteps:=2000000) [*, -h])
    |(cases h;done)
    |(cases h;refine aV _ ?_ ⟨rfl,rfl⟩;simp[*]<;>exact az (by omega) (by omega) (by simp))
set_option maxRecDepth 20000 in
set_option maxHeartbeats 4000000 in
theorem AU (k:Nat) (a:List (S41)) (c:List (S35)) (d:Int) (e:Int) (g:List Int) (j:Int) (m:Int) (o:List (S67)) (p:List (S69)) (q:List (S73)) (r:Bool) (h:dF.f k a c d e g j m o p q=some r):iP Try.prog 50 [.agg [.t (tC a), .t (tM c)], .agg [.t (.i d), .t (.i e), .t (.ints g), .t (.i j), .t (.i m), .t (tI o), .t (tS p), .t (tK q)]] (.b r):=by
  unfold dF.f at h
  try simp only[aF,aG,aD,aH,aI,aJ]at h
  refine bE Try.func50 rfl rfl rfl ?_
  try simp (maxSteps:=2000000)
  repeat' first
    |(show dZ _ _ 9 _ _ _ _;refine aU (by decide) [[], [0], [], [2], [], [3,4,2], [5,3,4,2], [1,6,0,5,3,4,2], [7,1,6,0,5,3,4,2]] [55,56,57,58,59,60,61,62,63] [0,1,2,3,4,5,6,7,8] (by kernel_rfl) ?_;try simp (maxSteps:=2000000) [*, -h,aj,ah,ae,ai,ak,au,af,Op.operands,Call.operands])
    |(with_reducible (first|(replace h:=bB (by assumption) h)|(replace h:=bC (by assumption) h)|(replace h:=aY (by assumption) h)|(replace h:=aZ (by assumption) h)))
    |((with_reducible have hh:=aB h);clear h;rcases hh with⟨hc,h⟩|⟨hc,h⟩<;>have hd:=hc<;>(first|(replace hc:=dn hc)|(replace hc:=dw hc)|skip)<;>(try simp at hd)<;>(try(first|(subst hd)|(replace hd:=bF hd)|(replace hd:=eq_false hd)|(replace hd:=eq_true hd)))<;>(try simp (maxSteps:=2000000) [*, -h,aj,ah,ae,ai,ak,au,af,Op.operands,Call.operands]))
    |(with_reducible replace h:=aL h)
    | ((with_reducible have hh:=Option.bind_eq_some_iff.1 h);clear h;obtain⟨x_,hx_,h⟩:=hh;(first|(refine av (rW (h:=hx_)) rfl rfl ?_ ⟨rfl,rfl⟩ ?_;(·simp[*]);clear hx_;try simp (maxSteps:=2000000) [*, -h,aj,ah,ae,ai,ak,au,af,Op.operands,Call.operands])|(refine bf (rW (h:=hx_)) rfl rfl ?_ ⟨rfl,rfl⟩ rfl ?_;(·simp[*]);clear hx_;try simp (maxSteps:=2000000) [*, -h,aj,ah,ae,ai,ak,au,af,Op.operands,Call.operands])|(refine av (wP (h:=hx_)) rfl rfl ?_ ⟨rfl,rfl⟩ ?_;(·simp[*]);clear hx_;try simp (maxSteps:=2000000) [*, -h,aj,ah,ae,ai,ak,au,af,Op.operands,Call.operands])|(refine bf (wP (h:=hx_)) rfl rfl ?_ ⟨rfl,rfl⟩ rfl ?_;(·simp[*]);clear hx_;try simp (maxSteps:=2000000) [*, -h,aj,ah,ae,ai,ak,au,af,Op.operands,Call.operands]))
       )
    |(obtain⟨k,rfl⟩:=aM (f:=fun k=>dF.j0 k _ _ _ _ _ _ _ _ _ _ _) (by simp only[dF.j0]) h;simp only[dF.j0]at h;try simp only[aF,aG,aD,aH,aI,aJ]at h)
    |(obtain⟨k,rfl⟩:=aM (f:=fun k=>dF.j1 k _ _ _ _ _ _ _ _ _ _ _) (by simp only[dF.j1]) h;simp only[dF.j1]at h;try simp only[aF,aG,aD,aH,aI,aJ]at h)
    | (refine rQ [true,true,true,true,false,true,true,true,true,true,true,true,true,true,true,true,true,true,true,true,true,true,true,true,true,true,true,true,true,true,true,true,true,true,true,true,true,true,true,true,true,true,true,true,true,true,true,true] (fun(x6:Int)=> [(6, .i x6)]) (fun n (x6:Int)=>dF.l0 n x6 _ _ _ _ _ _ _ _ _ _=some _) h (by first|rfl|simp[mkT]) ?_;clear h;intro k x6 hk h
       obtain⟨k,rfl⟩:=aM (f:=fun k=>dF.l0 k _ _ _ _ _ _ _ _ _ _ _) (by simp only[dF.l0]) h;simp only[dF.l0]at h;try simp only[aF,aG,aD,aH,aI,aJ]at h;try simp (maxSteps:=2000000))
    |(exact rR (inv:=fun n (x6:Int)=>dF.l0 n x6 _ _ _ _ _ _ _ _ _ _=some _) (by omega) h (by first|exact eD [true,true,true,true,false,true,true,true,true,true,true,true,true,true,true,true,true,true,true,true,true,true,true,true,true,true,true,true,true,true,true,true,true,true,true,true,true,true,true,true,true,true,true,true,true,true,true,true] rfl|exact fo [true,true,true,true,false,true,true,true,true,true,true,true,true,true,true,true,true,true,true,true,true,true,true,true,true,true,true,true,true,true,true,true,true,true,true,true,true,true,true,true,true,true,true,true,true,true,true,true] rfl (by constructor<;>simp[idR,mkT])))
    |(refine⟨(by first|exact aP (by assumption) (by decide) (by decide)|exact aN (by assumption) (by decide) (by decide)), ?_⟩;try simp (maxSteps:=2000000) [*, -h,aj,ah,ae,ai,ak,au,af,Op.operands,Call.operands])
    |(cases h;done)
    |(cases h;refine aV _ ?_ ⟨rfl,rfl⟩;simp[*]<;>exact az (by omega) (by omega) (by simp))
set_option maxRecDepth 20000 in
set_option maxHeartbeats 4000000 in
theorem Fb (k:Nat) (a:Int) (c:Int) (d:List Int) (e:Int) (g:Int) (j:List (S67)) (m:List (S69)) (o:List (S73)) (p:Int) (q:Int) (u:List Int) (v:Int) (w:Int) (x:List (S67)) (y:List (S69)) (z:List (S73)) (r:Bool) (h:ig.f k a c d e g j m o p q u v w x y z=some r):iP Try.prog 55 [.agg [.t (.i a), .t (.i c), .t (.ints d), .t (.i e), .t (.i g), .t (tI j), .t (tS m), .t (tK o)], .agg [.t (.i p), .t (.i q), .t (.ints u), .t (.i v), .t (.i w), .t (tI x), .t (tS y), .t (tK z)]] (.b r):=by
  unfold ig.f at h
  try simp only[aF,aG,aD,aH,aI,aJ]at h
  refine bE Try.func55 rfl rfl rfl ?_
  try simp (maxSteps:=2000000)
  repeat' first
    |(show dZ _ _ 6 _ _ _ _;refine aU (by decide) [[], [0], [], [1,2,0], [3,1,2,0], [], [5], [], [6,7,5], [8,6,7,5], [4,9,3,1,2,0,8,6,7,5]] [27,28,29,30,31,32,33,34,35,36,37] [0,1,2,3,4,5,6,7,8,9,10] (by kernel_rfl) ?_;try simp (maxSteps:=2000000) [*, -h,aj,ah,ae,ai,ak,au,af,Op.operands,Call.operands])
    |(with_reducible (first|(replace h:=bB (by assumption) h)|(replace h:=bC (by assumption) h)|(replace h:=aY (by assumption) h)|(replace h:=aZ (by assumption) h)))
    |((with_reducible have hh:=aB h);clear h;rcases hh with⟨hc,h⟩|⟨hc,h⟩<;>have hd:=hc<;>(first|(replace hc:=dn hc)|(replace hc:=dw hc)|skip)<;>(try simp at hd)<;>(try(first|(subst hd)|(replace hd:=bF hd)|(replace hd:=eq_false hd)|(replace hd:=eq_true hd)))<;>(try simp (maxSteps:=2000000) [*, -h,aj,ah,ae,ai,ak,au,af,Op.operands,Call.operands]))
    |(with_reducible replace h:=aL h)
    |(obtain⟨k,rfl⟩:=aM (f:=fun k=>ig.j0 k _ _ _ _ _ _ _ _ _ _ _ _ _ _ _ _ _) (by simp only[ig.j0]) h;simp only[ig.j0]at h;try simp only[aF,aG,aD,aH,aI,aJ]at h)
    | (refine rQ [true,true,true,true,false,true,true,true,true,true,true,true,true,true,true,true,true,true,true,true] (fun(x5:Int)=> [(5, .i x5)]) (fun n (x5:Int)=>ig.l0 n x5 _ _ _ _ _ _ _ _ _ _ _ _ _ _ _ _=some _) h (by first|rfl|simp[mkT]) ?_;clear h;intro k x5 hk h
       obtain⟨k,rfl⟩:=aM (f:=fun k=>ig.l0 k _ _ _ _ _ _ _ _ _ _ _ _ _ _ _ _ _) (by simp only[ig.l0]) h;simp only[ig.l0]at h;try simp only[aF,aG,aD,aH,aI,aJ]at h;try simp (maxSteps:=2000000))
    |(exact rR (inv:=fun n (x5:Int)=>ig.l0 n x5 _ _ _ _ _ _ _ _ _ _ _ _ _ _ _ _=some _) (by omega) h (by first|exact eD [true,true,true,true,false,true,true,true,true,true,true,true,true,true,true,true,true,true,true,true] rfl|exact fo [true,true,true,true,false,true,true,true,true,true,true,true,true,true,true,true,true,true,true,true] rfl (by constructor<;>simp[idR,mkT])))
    |(refine⟨(by first|exact aP (by assumption) (by decide) (by decide)|exact aN (by assumption) (by decide) (by decide)), ?_⟩;try simp (maxSteps:=2000000) [*, -h,aj,ah,ae,ai,ak,au,af,Op.operands,Call.operands])
    |(cases h;done)
    |(cases h;refine aV _ ?_ ⟨rfl,rfl⟩;simp[*]<;>exact az (by omega) (by omega) (by simp))
set_option maxRecDepth 20000 in
set_option maxHeartbeats 4000000 in
theorem zU (k:Nat) (a:List (S41)) (c:List (S35)) (r:Bool) (h:dD.f k a c=some r):iP Try.prog 29 [.agg [.t (tC a), .t (tM c)]] (.b r):=by
  unfold dD.f at h
  try simp only[aF,aG,aD,aH,aI,aJ]at h
  refine bE Try.func29 rfl rfl rfl ?_
  try simp (maxSteps:=2000000)
  repeat' first
    |(with_reducible (first|(replace h:=bB (by assumption) h)|(replace h:=bC (by assumption) h)|(replace h:=aY (by assumption) h)|(replace h:=aZ (by assumption) h)))
    |((with_reducible have hh:=aB h);clear h;rcases hh with⟨hc,h⟩|⟨hc,h⟩<;>have hd:=hc<;>(first|(replace hc:=dn hc)|(replace hc:=dw hc)|skip)<;>(try simp at hd)<;>(try(first|(subst hd)|(replace hd:=bF hd)|(replace hd:=eq_false hd)|(replace hd:=eq_true hd)))<;>(try simp (maxSteps:=2000000) [*, -h]))
    |(with_reducible replace h:=aL h)
    | ((with_reducible have hh:=Option.bind_eq_some_iff.1 h);clear h;obtain⟨x_,hx_,h⟩:=hh;(first|(refine av (GD (h:=hx_)) rfl rfl ?_ ⟨rfl,rfl⟩ ?_;(·simp[*]);clear hx_;try simp (maxSteps:=2000000) [*, -h])|(refine av (Fb (h:=hx_)) rfl rfl ?_ ⟨rfl,rfl⟩ ?_;(·simp[*]);clear hx_;try simp (maxSteps:=2000000) [*, -h]))
       )
    | (refine rQ [true,true,false,true] (fun(x3:Int)=> [(3, .i x3)]) (fun n (x3:Int)=>dD.l0 n x3 _ _=some _) h (by first|rfl|simp[mkT]) ?_;clear h;intro k x3 hk h
       obtain⟨k,rfl⟩:=aM (f:=fun k=>dD.l0 k _ _ _) (by simp only[dD.l0]) h;simp only[dD.l0]at h;try simp only[aF,aG,aD,aH,aI,aJ]at h;try simp (maxSteps:=2000000))
    |(exact rR (inv:=fun n (x3:Int)=>dD.l0 n x3 _ _=some _) (by omega) h (by first|exact eD [true,true,false,true] rfl|exact fo [true,true,false,true] rfl (by constructor<;>simp[idR,mkT])))
    | (refine rQ [true,true,false,true,true,false,false,true,true,true,true,true] (fun(x4:Int)=> [(4, .i x4)]) (fun n (x4:Int)=>dD.l1 n _ x4 _ _=some _) h (by first|rfl|simp[mkT]) ?_;clear h;intro k x4 hk h
       obtain⟨k,rfl⟩:=aM (f:=fun k=>dD.l1 k _ _ _ _) (by simp only[dD.l1]) h;simp only[dD.l1]at h;try simp only[aF,aG,aD,aH,aI,aJ]at h;try simp (maxSteps:=2000000))
    |(exact rR (inv:=fun n (x4:Int)=>dD.l1 n _ x4 _ _=some _) (by omega) h (by first|exact eD [true,true,false,true,true,false,false,true,true,true,true,true] rfl|exact fo [true,true,false,true,true,false,false,true,true,true,true,true] rfl (by constructor<;>simp[idR,mkT])))
    |(refine⟨(by first|exact aP (by assumption) (by decide) (by decide)|exact aN (by assumption) (by decide) (by decide)), ?_⟩;try simp (maxSteps:=2000000) [*, -h])
    |(cases h;done)
    |(cases h;refine aV _ ?_ ⟨rfl,rfl⟩;simp[*]<;>exact az (by omega) (by omega) (by simp))
set_option maxRecDepth 20000 in
set_option maxHeartbeats 4000000 in
theorem AV (k:Nat) (a:List (S41)) (c:List (S35)) (a1:Int) (a2:Int) (r:Int) (h:fw.f k a c a1 a2=some r):iP Try.prog 33 [.agg [.t (tC a), .t (tM c)], .i a1, .i a2] (.i r):=by
  unfold fw.f at h
  try simp only[aF,aG,aD,aH,aI,aJ]at h
  refine bE Try.func33 rfl rfl rfl ?_
  try simp (maxSteps:=2000000)
  repeat' first
    |(with_reducible (first|(replace h:=bB (by assumption) h)|(replace h:=bC (by assumption) h)|(replace h:=aY (by assumption) h)|(replace h:=aZ (by assumption) h)))
    |((with_reducible have hh:=aB h);clear h;rcases hh with⟨hc,h⟩|⟨hc,h⟩<;>have hd:=hc<;>(first|(replace hc:=dn hc)|(replace hc:=dw hc)|skip)<;>(try simp at hd)<;>(try(first|(subst hd)|(replace hd:=bF hd)|(replace hd:=eq_false hd)|(replace hd:=eq_true hd)))<;>(try simp (maxSteps:=2000000) [*, -h]))
    |(with_reducible replace h:=aL h)
    | (refine rQ [true,true,true,true] (fun(x1:Int)=> [(1, .i x1)]) (fun n (x1:Int)=>fw.l0 n x1 _ _ _=some _) h (by first|rfl|simp[mkT]) ?_;clear h;intro k x1 hk h
       obtain⟨k,rfl⟩:=aM (f:=fun k=>fw.l0 k _ _ _ _) (by simp only[fw.l0]) h;simp only[fw.l0]at h;try simp only[aF,aG,aD,aH,aI,aJ]at h;try simp (maxSteps:=2000000))
    |(exact rR (inv:=fun n (x1:Int)=>fw.l0 n x1 _ _ _=some _) (by omega) h (by first|exact eD [true,true,true,true] rfl|exact fo [true,true,true,true] rfl (by constructor<;>simp[idR,mkT])))
    | (refine rQ [true,true,true,true,false,false,false,true,true,true] (fun(x7:Int)=> [(7, .i x7)]) (fun n (x7:Int)=>fw.l1 n _ _ x7 _ _=some _) h (by first|rfl|simp[mkT]) ?_;clear h;intro k x7 hk h
       obtain⟨k,rfl⟩:=aM (f:=fun k=>fw.l1 k _ _ _ _ _) (by simp only[fw.l1]) h;simp only[fw.l1]at h;try simp only[aF,aG,aD,aH,aI,aJ]at h;try simp (maxSteps:=2000000))
    |(exact rR (inv:=fun n (x7:Int)=>fw.l1 n _ _ x7 _ _=some _) (by omega) h (by first|exact eD [true,true,true,true,false,false,false,true,true,true] rfl|exact fo [true,true,true,true,false,false,false,true,true,true] rfl (by constructor<;>simp[idR,mkT])))
    |(refine⟨(by first|exact aP (by assumption) (by decide) (by decide)|exact aN (by assumption) (by decide) (by decide)), ?_⟩;try simp (maxSteps:=2000000) [*, -h])
    |(cases h;done)
    |(cases h;refine aV _ ?_ ⟨rfl,rfl⟩;simp[*]<;>exact az (by omega) (by omega) (by simp))
end Go.Proofs.Ytojpejfcafbafaa.V
end
section
namespace Go.Proofs.Ytojpejfcafbafaa.P
open Go.RowKit Go.Proofs.YtojpejfcafbafaaW.PrintWords Go.Proofs.YtojpejfcafbafaaW.PrintLast Go.Proofs.YtojpejfcafbafaaW.PrintMore
attribute [local go_sem] bn bq bL bM aW aX bu bv
set_option linter.unusedVariables false
set_option linter.unusedSimpArgs false
mutual
def aT.j0:Nat→Bool→Int→Bool→List (S41)→List (S35)→Int→Int→List Int→Int→Int→List (S67)→List (S69)→List (S73)→Int→Int→Int→Option (Bool)
  |0,_,_,_,_,_,_,_,_,_,_,_,_,_,_,_,_=>none
  |k+1,x7,t,x27,d,e,g,h,j,m,n,o,p,q,r,a,c=>if x27=true then(if a=0 then(some (c==0))else(some false))else(if t=3 then(aT.j1 k x7 t (t==3) d e g h j m n o p q r a c)else(aT.j1 k x7 t (t==4) d e g h j m n o p q r a c))
def aT.j1:Nat→Bool→Int→Bool→List (S41)→List (S35)→Int→Int→List Int→Int→Int→List (S67)→List (S69)→List (S73)→Int→Int→Int→Option (Bool)
  |0,_,_,_,_,_,_,_,_,_,_,_,_,_,_,_,_=>none
  |k+1,x7,e,x43,g,h,j,m,n,o,d,p,q,r,t,a,c=>if x43=true then((iy.f a 0 (wrap64 (d - 1))).bind fun u=>(if u=true then(some (c==0))else(some false)))else(if e=7 then((iy.f a 1 4).bind fun v=>(if v=true then(some (c==0))else(some false)))else(if e=8 then(aT.j2 k x7 e (e==8) g h j m n o d p q r t a c)else(if e=9 then(aT.j2 k x7 e (e==9) g h j m n o d p q r t a c)else(if e=10 then(aT.j2 k x7 e (e==10) g h j m n o d p q r t a c)else(aT.j2 k x7 e (e==11) g h j m n o d p q r t a c)))))
def aT.j2:Nat→Bool→Int→Bool→List (S41)→List (S35)→Int→Int→List Int→Int→Int→List (S67)→List (S69)→List (S73)→Int→Int→Int→Option (Bool)
  |0,_,_,_,_,_,_,_,_,_,_,_,_,_,_,_,_=>none
  |k+1,x7,h,v,d,e,n,o,p,q,r,j,t,u,g,a,c=>if v=true then((iy.f a 0 (wrap64 ((j.length:Int) - 1))).bind fun m=>(if m=true then(some (c==0))else(some false)))else(if h=12 then(aT.j3 k x7 h (h==12) d e g a c)else(aT.j3 k x7 h (h==19) d e g a c))
def aT.j3:Nat→Bool→Int→Bool→List (S41)→List (S35)→Int→Int→Int→Option (Bool)
  |0,_,_,_,_,_,_,_,_=>none
  |k+1,x7,h,x84,c,d,e,g,a=>if x84=true then(if x7=true then(some (a==0))else(some false))else(if h=13 then(aT.j4 k x7 h (h==13) c d e g a)else(if h=15 then(aT.j4 k x7 h (h==15) c d e g a)else(aT.j4 k x7 h (h==16) c d e g a)))
def aT.j4:Nat→Bool→Int→Bool→List (S41)→List (S35)→Int→Int→Int→Option (Bool)
  |0,_,_,_,_,_,_,_,_=>none
  |k+1,x7,h,x93,d,e,g,a,c=>if x93=true then((iy.f a 0 1).bind fun j=>(if j=true then(some (c==0))else(some false)))else(if h=17 then(aT.j5 k x7 h (h==17) d e g a c)else(aT.j5 k x7 h (h==18) d e g a c))
def aT.j5:Nat→Bool→Int→Bool→List (S41)→List (S35)→Int→Int→Int→Option (Bool)
  |0,_,_,_,_,_,_,_,_=>none
  |k+1,x7,g,x105,e,c,o,a,d=>if x105=true then(if x7=true then((rH.f k e a).bind fun h=>((iy.f d 0 (wrap64 ((h.length:Int) - 1))).bind fun j=>(some j)))else(some false))else(if g=20 then((iy.f a 0 (wrap64 ((c.length:Int) - 1))).bind fun m=>(if m=true then(if d=0 then(if 0≤a then(if a<(c.length:Int)then(some (((ay c a).f0)==(-1)))else(none))else(none))else(some false))else(some false)))else(if g=21 then(if x7=true then((iy.f d 0 2).bind fun n=>(some n))else(some false))else(some false)))
end
def aT.f (k:Nat) (d:List (S41)) (g:List (S35)) (h:Int) (j:Int) (m:List Int) (n:Int) (o:Int) (p:List (S67)) (q:List (S69)) (r:List (S73)) (a:Int) (c:Int) (e:Int):Option (Bool):=(iy.f c 0 (wrap64 ((d.length:Int) - 1))).bind fun t=>(if a=1 then((yC.f c).bind fun u=>(if u=true then(some (e==0))else(some false)))else(if a=2 then(aT.j0 k t a (a==2) d g h j m n o p q r a c e)else(if a=5 then(aT.j0 k t a (a==5) d g h j m n o p q r a c e)else(if a=6 then(aT.j0 k t a (a==6) d g h j m n o p q r a c e)else(if a=14 then(aT.j0 k t a (a==14) d g h j m n o p q r a c e)else(if a=22 then(aT.j0 k t a (a==22) d g h j m n o p q r a c e)else(if a=23 then(aT.j0 k t a (a==23) d g h j m n o p q r a c e)else(aT.j0 k t a (a==24) d g h j m n o p q r a c e))))))))
end Go.Proofs.Ytojpejfcafbafaa.P
end
section
namespace Go.Proofs.Ytojpejfcafbafaa.V
open Go Go.RowKit Go.Proofs.Ytojpejfcafbafaa.P
set_option linter.unusedVariables false
set_option linter.unusedSimpArgs false
attribute [local simp ↓] eG eH fT fU eO dO gm eP eQ gp gq gu dP dQ dR gF gB gH gG dS bX dX cB dL dU eT eU eX
attribute [local simp] fV fZ dM bS eF dN bT bU bV bW bN bO dV eY dW bY bZ cu cz bP fE lM iG dB ik evl dH fe fA kF ja List.range List.range.loop lZ kY fu fC iC iA Bs.live Bs.get lN WkV WkA WkC lh lH kZ lD cZ iM TEq.refl bg fK qQ aF aG aD aH aI aJ ei d9 splice dE Bs.set kL fD Rn.at gy gz iF iE lL chunks lC fP toT fB iO rowsOf cK iq plR plV plC lG lF lQ lm fJ iV l8
attribute [local simp] List.length_pos_iff qR qU iI iJ iK puts dh
attribute [local simp ←] iw
attribute [local simp] ksL ru ksV rZ ksC ksT ren jd rT rP dx fM dY dC iZ iB iQ iT lU rO closedB iX kV kP kQ kR kT iL kU
attribute [local simp] ag3 un3 sz3 in3 by3 ze3 ct3 zt3 zu3 ag4 un4 sz4 in4 by4 ze4 ct4 zt4 zu4 ag5 un5 sz5 in5 by5 ze5 ct5 zt5 zu5 mi mq mD mE mF mG mH mI mJ io3 mK io5 bo4 mM mO mP mQ mR mU mV mW mX mY mZ ng ni nk nu ny nz nA nC nD nE nG nH nI nJ nK nL nM nN nO nP nQ nR nS nT nU nV nW nX nY nZ oh ol om oo oq ou ow oz oC oD oF oG oH oI oJ oK oL oM oN oO oP oQ oU oV oW oZ o6 o7 o8 je jf jg jh ji jk jl jm jo jq jr jv jw jy jA jB jC jD jE jF o9 pg pu pz pE pF pG pI pJ pK jG jH jI jJ jK jL jM jN jO jP jQ jR jS jT jU jV jW jX jY jZ kg ko kr ku kv kw ky mz gI gJ gK gL gN gP gQ gT gU gV gW gX gY gZ ib ic pO pQ pR pU pV pW pX pY p9 qa qb qc qd qf qg qh qi qj ql qm qo qp qw qx qy qz qA qB qC qD qE qF qG qH qI qJ qK qL qM qN qO qP mix
attribute [local simp] eb eC eI eS eK eM nm
set_option maxRecDepth 20000 in
set_option maxHeartbeats 4000000 in
theorem yX (k:Nat) (a:List (S41)) (c:List (S35)) (d:Int) (e:Int) (g:List Int) (j:Int) (m:Int) (n:List (S67)) (o:List (S69)) (p:List (S73)) (q:Int) (u:Int) (v:Int) (r:Bool) (h:aT.f k a c d e g j m n o p q u v=some r):iP Try.prog 51 [.agg [.t (tC a), .t (tM c)], .agg [.t (.i d), .t (.i e), .t (.ints g), .t (.i j), .t (.i m), .t (tI n), .t (tS o), .t (tK p)], .agg [.t (.i q), .t (.i u), .t (.i v)]] (.b r):=by
  unfold aT.f at h
  try simp only[aF,aG,aD,aH,aI,aJ]at h
  refine bE Try.func51 rfl rfl rfl ?_
  try simp (maxSteps:=2000000)
  repeat' first
    |(show dZ _ _ 32 _ _ _ _;refine aU (by decide) [[], [0], [1,0], [2,1,0], [1,0], [4,1,0], [1,0], [6,1,0], [5,7,1,4,0,6], [8,1,5,7,4,0,6], [9,1,8,5,7,4,0,6], [3,10,8,1,2,0,9,5,7,4,6], [1,11,0,3,10,8,2,9,5,7,4,6], [12,11,0,1,2,3,4,5,6,7,8,9,10]] [108,109,110,111,112,113,114,115,116,117,118,119,120,6] [0,1,2,3,4,5,6,7,8,9,10,11,12,13] (by kernel_rfl) ?_;try simp (maxSteps:=2000000) [*, -h,aj,ah,ae,ai,ak,au,af,Op.operands,Call.operands])
    |(with_reducible (first|(replace h:=bB (by assumption) h)|(replace h:=bC (by assumption) h)|(replace h:=aY (by assumption) h)|(replace h:=aZ (by assumption) h)))
    |((with_reducible have hh:=aB h);clear h;rcases hh with⟨hc,h⟩|⟨hc,h⟩<;>have hd:=hc<;>(first|(replace hc:=dn hc)|(replace hc:=dw hc)|skip)<;>(try simp at hd)<;>(try(first|(subst hd)|(replace hd:=bF hd)|(replace hd:=eq_false hd)|(replace hd:=eq_true hd)))<;>(try simp (maxSteps:=2000000) [*, -h,aj,ah,ae,ai,ak,au,af,Op.operands,Call.operands]))
    |(with_reducible replace h:=aL h)
    | ((with_reducible have hh:=Option.bind_eq_some_iff.1 h);clear h;obtain⟨x_,hx_,h⟩:=hh;(first|(refine av (rW (h:=hx_)) rfl rfl ?_ ⟨rfl,rfl⟩ ?_;(·simp[*]);clear hx_;try simp (maxSteps:=2000000) [*, -h,aj,ah,ae,ai,ak,au,af,Op.operands,Call.operands])|(refine bf (rW (h:=hx_)) rfl rfl ?_ ⟨rfl,rfl⟩ rfl ?_;(·simp[*]);clear hx_;try simp (maxSteps:=2000000) [*, -h,aj,ah,ae,ai,ak,au,af,Op.operands,Call.operands])|(refine Ao [] [] rfl rfl (xN _ _ _ _ hx_) ?_ (by simp) rfl (by simp) ?_;(·simp[*]);clear hx_;try simp (maxSteps:=2000000) [*, -h,aj,ah,ae,ai,ak,au,af,Op.operands,Call.operands])|(refine Ap [] [] rfl rfl (xN _ _ _ _ hx_) ?_ (by simp) rfl (by simp) rfl ?_;(·simp[*]);clear hx_;try simp (maxSteps:=2000000) [*, -h,aj,ah,ae,ai,ak,au,af,Op.operands,Call.operands])|(refine av (AR (h:=hx_)) rfl rfl ?_ ⟨rfl,rfl⟩ ?_;(·simp[*]);clear hx_;try simp (maxSteps:=2000000) [*, -h,aj,ah,ae,ai,ak,au,af,Op.operands,Call.operands])|(refine bf (AR (h:=hx_)) rfl rfl ?_ ⟨rfl,rfl⟩ rfl ?_;(·simp[*]);clear hx_;try simp (maxSteps:=2000000) [*, -h,aj,ah,ae,ai,ak,au,af,Op.operands,Call.operands]))
       )
    |(obtain⟨k,rfl⟩:=aM (f:=fun k=>aT.j0 k _ _ _ _ _ _ _ _ _ _ _ _ _ _ _ _) (by simp only[aT.j0]) h;simp only[aT.j0]at h;try simp only[aF,aG,aD,aH,aI,aJ]at h)
    |(obtain⟨k,rfl⟩:=aM (f:=fun k=>aT.j1 k _ _ _ _ _ _ _ _ _ _ _ _ _ _ _ _) (by simp only[aT.j1]) h;simp only[aT.j1]at h;try simp only[aF,aG,aD,aH,aI,aJ]at h)
    |(obtain⟨k,rfl⟩:=aM (f:=fun k=>aT.j2 k _ _ _ _ _ _ _ _ _ _ _ _ _ _ _ _) (by simp only[aT.j2]) h;simp only[aT.j2]at h;try simp only[aF,aG,aD,aH,aI,aJ]at h)
    |(obtain⟨k,rfl⟩:=aM (f:=fun k=>aT.j3 k _ _ _ _ _ _ _ _) (by simp only[aT.j3]) h;simp only[aT.j3]at h;try simp only[aF,aG,aD,aH,aI,aJ]at h)
    |(obtain⟨k,rfl⟩:=aM (f:=fun k=>aT.j4 k _ _ _ _ _ _ _ _) (by simp only[aT.j4]) h;simp only[aT.j4]at h;try simp only[aF,aG,aD,aH,aI,aJ]at h)
    |(obtain⟨k,rfl⟩:=aM (f:=fun k=>aT.j5 k _ _ _ _ _ _ _ _) (by simp only[aT.j5]) h;simp only[aT.j5]at h;try simp only[aF,aG,aD,aH,aI,aJ]at h)
    |(refine⟨(by first|exact aP (by assumption) (by decide) (by decide)|exact aN (by assumption) (by decide) (by decide)), ?_⟩;try simp (maxSteps:=2000000) [*, -h,aj,ah,ae,ai,ak,au,af,Op.operands,Call.operands])
    |(cases h;done)
    |(cases h;refine aV _ ?_ ⟨rfl,rfl⟩;simp[*]<;>exact az (by omega) (by omega) (by simp))
end Go.Proofs.Ytojpejfcafbafaa.V
end
section
namespace Go.Proofs.Ytojpejfcafbafaa.P
open Go.RowKit Go.Proofs.YtojpejfcafbafaaW.PrintWords Go.Proofs.YtojpejfcafbafaaW.PrintLast Go.Proofs.YtojpejfcafbafaaW.PrintMore
attribute [local go_sem] bn bq bL bM aW aX bu bv
set_option linter.unusedVariables false
set_option linter.unusedSimpArgs false
mutual
def bH.j0:Nat→Bool→List (S41)→List (S35)→Int→Int→List Int→Int→Int→List (S67)→List (S69)→List (S73)→Option (Bool)
  |0,_,_,_,_,_,_,_,_,_,_,_=>none
  |k+1,x32,a,c,d,e,g,h,j,m,n,o=>if x32=true then(some false)else(bH.l0 k 0 a c d e g h j m n o)
def bH.l0:Nat→Int→List (S41)→List (S35)→Int→Int→List Int→Int→Int→List (S67)→List (S69)→List (S73)→Option (Bool)
  |0,_,_,_,_,_,_,_,_,_,_,_=>none
  |k+1,x5,d,g,h,j,m,n,e,a,c,o=>if x5<(a.length:Int)then(if 0≤x5 then((aT.f k d g h j m n e a c o ((bA a x5).f0) ((bA a x5).f1) ((bA a x5).f2)).bind fun p=>(if p=true then(if x5<(c.length:Int)then((bQ.f k d e ((iY c x5).f0) ((iY c x5).f1) ((iY c x5).f2)).bind fun q=>(if q=true then(bH.l0 k (wrap64 (x5+1)) d g h j m n e a c o)else(some false)))else(none))else(some false)))else(none))else(bH.l1 k 0 d g h j m n e a c o)
def bH.l1:Nat→Int→List (S41)→List (S35)→Int→Int→List Int→Int→Int→List (S67)→List (S69)→List (S73)→Option (Bool)
  |0,_,_,_,_,_,_,_,_,_,_,_=>none
  |k+1,x6,c,d,e,g,h,j,m,n,o,a=>if x6<(a.length:Int)then(if 0≤x6 then((wS.f k c d e g h j m n o a ((fF a x6).f0) ((fF a x6).f1) ((fF a x6).f2) ((fF a x6).f3)).bind fun p=>(if p=true then(bH.l1 k (wrap64 (x6+1)) c d e g h j m n o a)else(some false)))else(none))else(some true)
end
def bH.f (k:Nat) (e:List (S41)) (g:List (S35)) (h:Int) (j:Int) (m:List Int) (n:Int) (o:Int) (a:List (S67)) (c:List (S69)) (d:List (S73)):Option (Bool):=(dF.f k e g h j m n o a c d).bind fun p=>(if p=true then((iy.f (a.length:Int) 1 12).bind fun q=>(if q=true then(if(c.length:Int)=(a.length:Int)then(bH.j0 k (decide ((d.length:Int)>2)) e g h j m n o a c d)else(bH.j0 k true e g h j m n o a c d))else(bH.j0 k true e g h j m n o a c d)))else(bH.j0 k true e g h j m n o a c d))
end Go.Proofs.Ytojpejfcafbafaa.P
end
