/- A part of the claim FnUnitFirst. -/
import Derived.Test.YtojpejfcafbafaaCFnUnitFirst34
section
namespace Go.Proofs.Ytojpejfcafbafaa.P
open Go.RowKit Go.Proofs.YtojpejfcafbafaaW.PrintWords Go.Proofs.YtojpejfcafbafaaW.PrintLast Go.Proofs.YtojpejfcafbafaaW.PrintMore
attribute [local go_sem] bn bq bP bQ aW aX bu bv
set_option linter.unusedVariables false
set_option linter.unusedSimpArgs false
mutual
def dn.l0:Nat→List (S35)→Int→Int→List (S41)→List (S35)→Option (Bool)
  |0,_,_,_,_,_=>none
  |k+1,x8,x9,a,d,c=>if a<x9 then(if 0≤a then(if a<(x8.length:Int)then(dn.l1 k a x8 x9 a c (c.length:Int) 0 d c ((ay x8 a).f0) ((ay x8 a).f1) ((ay x8 a).f2) ((ay x8 a).f3) ((ay x8 a).f4) ((ay x8 a).f5) ((ay x8 a).f6) ((ay x8 a).f7))else(none))else(none))else(some true)
def dn.l1:Nat→Int→List (S35)→Int→Int→List (S35)→Int→Int→List (S41)→List (S35)→Int→Int→List Int→Int→Int→List (S67)→List (S69)→List (S73)→Option (Bool)
  |0,_,_,_,_,_,_,_,_,_,_,_,_,_,_,_,_,_=>none
  |k+1,x3,x8,x9,r,c,t,a,d,e,g,h,j,m,n,o,p,q=>if a<t then(if 0≤a then(if a<(c.length:Int)then(if x3=a then(dn.j2 k x3 x8 x9 r c t a true d e g h j m n o p q ((ay c a).f0) ((ay c a).f1) ((ay c a).f2) ((ay c a).f3) ((ay c a).f4) ((ay c a).f5) ((ay c a).f6) ((ay c a).f7))else(if g<0 then(dn.j2 k x3 x8 x9 r c t a true d e g h j m n o p q ((ay c a).f0) ((ay c a).f1) ((ay c a).f2) ((ay c a).f3) ((ay c a).f4) ((ay c a).f5) ((ay c a).f6) ((ay c a).f7))else(if((ay c a).f0)<0 then(dn.j2 k x3 x8 x9 r c t a true d e g h j m n o p q ((ay c a).f0) ((ay c a).f1) ((ay c a).f2) ((ay c a).f3) ((ay c a).f4) ((ay c a).f5) ((ay c a).f6) ((ay c a).f7))else(dn.j2 k x3 x8 x9 r c t a (h !=((ay c a).f1)) d e g h j m n o p q ((ay c a).f0) ((ay c a).f1) ((ay c a).f2) ((ay c a).f3) ((ay c a).f4) ((ay c a).f5) ((ay c a).f6) ((ay c a).f7)))))else(none))else(none))else(dn.l0 k x8 x9 (wrap64 (r+1)) d e)
def dn.j2:Nat→Int→List (S35)→Int→Int→List (S35)→Int→Int→Bool→List (S41)→List (S35)→Int→Int→List Int→Int→Int→List (S67)→List (S69)→List (S73)→Int→Int→List Int→Int→Int→List (S67)→List (S69)→List (S73)→Option (Bool)
  |0,_,_,_,_,_,_,_,_,_,_,_,_,_,_,_,_,_,_,_,_,_,_,_,_,_,_=>none
  |k+1,x3,x8,x9,t,u,v,w,G,c,g,a,h,d,e,j,m,n,o,p,z,q,r,A,B,D,E=>if G=true then(dn.l1 k x3 x8 x9 t u v (wrap64 (w+1)) c g a h d e j m n o)else(if a=p then(some false)else((l9.f k c a p).bind fun x=>(if x=true then(if e=r then((slices_Equal_int_int.f k d q).bind fun y=>(if y=true then(dn.l1 k x3 x8 x9 t u v (wrap64 (w+1)) c g a h d e j m n o)else(some false)))else(some false))else(dn.l1 k x3 x8 x9 t u v (wrap64 (w+1)) c g a h d e j m n o))))
end
def dn.f (k:Nat) (c:List (S41)) (a:List (S35)):Option (Bool):=dn.l0 k a (a.length:Int) 0 c a
mutual
def dD.j0:Nat→Bool→List (S41)→List (S35)→Option (Bool)
  |0,_,_,_=>none
  |k+1,d,c,a=>if d=true then(some false)else(if 0<(a.length:Int)then(if((ay a 0).f0)=(-1)then(if(((ay a 0).f2).length:Int)=0 then(dD.j1 k (((ay a 0).f3) !=1) c a)else(dD.j1 k true c a))else(dD.j1 k true c a))else(none))
def dD.j1:Nat→Bool→List (S41)→List (S35)→Option (Bool)
  |0,_,_,_=>none
  |k+1,x40,c,a=>if x40=true then(some false)else(dD.l0 k a (a.length:Int) 0 c a)
def dD.l0:Nat→List (S35)→Int→Int→List (S41)→List (S35)→Option (Bool)
  |0,_,_,_,_,_=>none
  |k+1,x43,m,a,c,d=>if a<m then(if 0≤a then(if a<(x43.length:Int)then((dZ.f k c d ((ay x43 a).f0) ((ay x43 a).f1) ((ay x43 a).f2) ((ay x43 a).f3) ((ay x43 a).f4) ((ay x43 a).f5) ((ay x43 a).f6) ((ay x43 a).f7)).bind fun e=>(if e=true then((dC.f k c d ((ay x43 a).f0) ((ay x43 a).f1) ((ay x43 a).f2) ((ay x43 a).f3) ((ay x43 a).f4) ((ay x43 a).f5) ((ay x43 a).f6) ((ay x43 a).f7) 0).bind fun g=>(if g=true then((bH.f k c d ((ay x43 a).f0) ((ay x43 a).f1) ((ay x43 a).f2) ((ay x43 a).f3) ((ay x43 a).f4) ((ay x43 a).f5) ((ay x43 a).f6) ((ay x43 a).f7)).bind fun h=>(if h=true then(dD.l0 k x43 m (wrap64 (a+1)) c d)else(some false)))else(some false)))else(some false)))else(none))else(none))else((dn.f k c d).bind fun j=>(some j))
end
def dD.f (k:Nat) (c:List (S41)) (a:List (S35)):Option (Bool):=(aA.f k c).bind fun d=>(if d=true then(if(a.length:Int)<1 then(dD.j0 k true c a)else(dD.j0 k (decide ((a.length:Int)>4)) c a))else(dD.j0 k true c a))
end Go.Proofs.Ytojpejfcafbafaa.P
end
section
namespace Go.Proofs.Ytojpejfcafbafaa.Kit
open Go Go.RowKit Go.Proofs.YtojpejfcafbafaaW.PrintWords Go.Proofs.Ytojpejfcafbafaa.P
set_option linter.unusedVariables false
set_option linter.unusedSimpArgs false
abbrev mth (ms:List Mth) (i:Nat):Mth:=ms.getD i z35
theorem Ei {xs:List Mth} (i:Nat):ay xs (i:Int)=mth xs i:=rfl
theorem DN {l m:List Int} (h:l.length=m.length):(∀j,0≤j→j<l.length→l.getD j 0=m.getD j 0)↔l=m:=by
  constructor
  · intro h2
    refine List.ext_getElem h fun i hi hi2=> ?_
    have:=h2 i (Nat.zero_le _) hi
    rwa [getD_at hi,getD_at hi2]at this
  · intro h2 j _ _
    rw[h2]
theorem all_cons {Q:Nat→Prop} {i n:Nat} (hi:i<n):(∀j,i≤j→j<n→Q j)↔Q i∧(∀j,i+1≤j→j<n→Q j):=by
  constructor
  ·intro h;exact⟨h i (Nat.le_refl _) hi,fun j hj hj2=>h j (by omega) hj2⟩
  · intro h j hj hj2
    rcases Nat.eq_or_lt_of_le hj with rfl|h3
    ·exact h.1
    ·exact h.2 j h3 hj2
theorem Lh {l m:List Int} (hl:l.length≤1048576):Evp (fun k=>slices_Equal_int_int.f k l m) (fun r=>r=true↔l=m):=by
  unfold slices_Equal_int_int.f
  refine Evp.ite (fun h=> ?_) (fun h=>Evp.pure _ (kQ fun h2=>h (by rw[h2])))
  have k0: ∀i,i≤l.length→Evp (fun k=>slices_Equal_int_int.l0 k l m (l.length:Int) (i:Int)) (fun r=>r=true↔(∀j,i≤j→j<l.length→l.getD j 0=m.getD j 0)∧True):=by
    refine Evp.for_ ?_ (fun i hi ih=> ?_)
    ·exact Evp.step (f:=fun k=>_) (fun k=>by rw[slices_Equal_int_int.l0]) (Evp.no (by omega) (Evp.pure _ (sZ (uS trivial))))
    · refine Evp.step (f:=fun k=>_) (fun k=>by rw[slices_Equal_int_int.l0,rdN,rdN]) (Evp.yes (by omega) (Evp.yes (by omega) (Evp.yes (by omega) (Evp.yes (by omega) (Evp.ite (fun h2=> ?_) (fun h2=>Evp.pure _ (lG hi h2)))))))
      rw[uV (n:=l.length) hi (by omega)]
      exact ih.mono fun r hr=>tF (Q:=fun j=>l.getD j 0=m.getD j 0) h2 hr
  refine(k0 0 (Nat.zero_le _)).mono fun r hr=>hr.trans ?_
  rw[DN (by omega)]
  exact⟨fun h2=>h2.1,fun h2=>⟨h2,trivial⟩⟩
theorem Mo {a b:Mth} (ha:a.f2.length≤1048576):Evp (fun k=>iy.f k a.f0 a.f1 a.f2 a.f3 a.f4 a.f5 a.f6 a.f7 b.f0 b.f1 b.f2 b.f3 b.f4 b.f5 b.f6 b.f7) (fun r=>r=true↔a.f3=b.f3∧a.f2=b.f2):=by
  unfold iy.f
  have jt: ¬(a.f3=b.f3∧a.f2=b.f2)→Evp (fun k=>iy.j0 k true a.f0 a.f1 a.f2 a.f3 a.f4 a.f5 a.f6 a.f7 b.f0 b.f1 b.f2 b.f3 b.f4 b.f5 b.f6 b.f7) (fun r=>r=true↔a.f3=b.f3∧a.f2=b.f2):=fun h=>
    Evp.step (f:=fun k=>_) (fun k=>by rw[iy.j0]) (Evp.yes rfl (Evp.pure _ (kQ h)))
  refine Evp.ite (fun h=> ?_) (fun h=>jt fun h2=>h h2.1)
  by_cases hl:a.f2.length=b.f2.length
  · rw[show((a.f2.length:Int) !=(b.f2.length:Int))=false by simp;omega]
    refine Evp.step (f:=fun k=>_) (fun k=>by rw[iy.j0]) (Evp.no (by decide) ?_)
    have k0: ∀i,i≤a.f2.length→Evp (fun k=>iy.l0 k (i:Int) a.f0 a.f1 a.f2 a.f3 a.f4 a.f5 a.f6 a.f7 b.f0 b.f1 b.f2 b.f3 b.f4 b.f5 b.f6 b.f7) (fun r=>r=true↔(∀j,i≤j→j<a.f2.length→a.f2.getD j 0=b.f2.getD j 0)∧True):=by
      refine Evp.for_ ?_ (fun i hi ih=> ?_)
      ·exact Evp.step (f:=fun k=>_) (fun k=>by rw[iy.l0]) (Evp.no (by omega) (Evp.pure _ (sZ (uS trivial))))
      · refine Evp.step (f:=fun k=>_) (fun k=>by rw[iy.l0,rdN,rdN]) (Evp.yes (by omega) (Evp.yes (by omega) (Evp.yes (by omega) (Evp.ite (fun h2=> ?_) (fun h2=>Evp.pure _ (lG hi h2))))))
        rw[uV (n:=a.f2.length) hi (by omega)]
        exact ih.mono fun r hr=>tF (Q:=fun j=>a.f2.getD j 0=b.f2.getD j 0) h2 hr
    refine(k0 0 (Nat.zero_le _)).mono fun r hr=>hr.trans ?_
    rw[DN hl]
    exact⟨fun h2=>⟨h,h2.1⟩,fun h2=>⟨h2.2,trivial⟩⟩
  · rw[show((a.f2.length:Int) !=(b.f2.length:Int))=true by simp;omega]
    exact jt fun h2=>hl (by rw[h2.2])
def xq (cs:List Cls) (a b:Mth):Prop:=0≤a.f0→0≤b.f0→a.f1=b.f1→Up cs a.f0.toNat b.f0.toNat→a.f0≠b.f0∧a.f3=b.f3∧a.f2=b.f2
def Row (cs:List Cls) (ms:List Mth) (i:Nat):Prop:= ∀j,0≤j→j<ms.length→i≠j→xq cs (mth ms i) (mth ms j)
def Agree (cs:List Cls) (ms:List Mth):Prop:= ∀i,0≤i→i<ms.length→Row cs ms i
def InR (cs:List Cls) (ms:List Mth):Prop:= ∀i,i<ms.length→(0≤(mth ms i).f0→(mth ms i).f0<(cs.length:Int))∧(mth ms i).f2.length≤1048576
theorem IG {cs:List Cls} (hok:ClsOk cs) {ms:List Mth} (hm:ms.length≤1048576) (hr:InR cs ms):Evp (fun k=>dn.f k cs ms) (fun r=>r=true↔Agree cs ms):=by
  unfold dn.f
  have k0 : ∀i,i≤ms.length→Evp (fun k=>dn.l0 k ms (ms.length:Int) (i:Int) cs ms) (fun r=>r=true↔(∀j,i≤j→j<ms.length→Row cs ms j)∧True):=by
    refine Evp.for_ ?_ (fun i hi ih=> ?_)
    ·exact Evp.step (f:=fun k=>_) (fun k=>by rw[dn.l0]) (Evp.no (by omega) (Evp.pure _ (sZ (uS trivial))))
    · refine Evp.step (f:=fun k=>_) (fun k=>by rw[dn.l0,Ei]) (Evp.yes (by omega) (Evp.yes (by omega) (Evp.yes (by omega) ?_)))
      have hri:=hr i hi
      have k1: ∀j,j≤ms.length→Evp (fun k=>dn.l1 k (i:Int) ms (ms.length:Int) (i:Int) ms (ms.length:Int) (j:Int) cs ms (mth ms i).f0 (mth ms i).f1 (mth ms i).f2 (mth ms i).f3 (mth ms i).f4 (mth ms i).f5 (mth ms i).f6 (mth ms i).f7) (fun r=>r=true↔(∀j',j≤j' →j' <ms.length→(i≠j' →xq cs (mth ms i) (mth ms j')))∧(∀j',i+1≤j' →j' <ms.length→Row cs ms j')):=by
        refine Evp.for_ ?_ (fun j hj ihj=> ?_)
        · refine Evp.step (f:=fun k=>_) (fun k=>by rw[dn.l1]) (Evp.no (by omega) ?_)
          rw[uV (n:=ms.length) hi (by omega)]
          exact ih.mono fun r hr=>sZ (hr.trans ⟨fun h=>h.1,fun h=>⟨h,trivial⟩⟩)
        · have hrj:=hr j hj
          refine Evp.step (f:=fun k=>_) (fun k=>by rw[dn.l1,Ei]) (Evp.yes (by omega) (Evp.yes (by omega) (Evp.yes (by omega) ?_)))
          show Evp (fun k=>if(i:Int)=(j:Int)then dn.j2 k (i:Int) ms (ms.length:Int) (i:Int) ms (ms.length:Int) (j:Int) true cs ms (mth ms i).f0 (mth ms i).f1 (mth ms i).f2 (mth ms i).f3 (mth ms i).f4 (mth ms i).f5 (mth ms i).f6 (mth ms i).f7 (mth ms j).f0 (mth ms j).f1 (mth ms j).f2 (mth ms j).f3 (mth ms j).f4 (mth ms j).f5 (mth ms j).f6 (mth ms j).f7 else _) _
          have go:(i≠j→xq cs (mth ms i) (mth ms j))→Evp (fun k=>dn.l1 k (i:Int) ms (ms.length:Int) (i:Int) ms (ms.length:Int) (wrap64 ((j:Int)+1)) cs ms (mth ms i).f0 (mth ms i).f1 (mth ms i).f2 (mth ms i).f3 (mth ms i).f4 (mth ms i).f5 (mth ms i).f6 (mth ms i).f7) (fun r=>r=true↔(∀j',j≤j' →j' <ms.length→(i≠j' →xq cs (mth ms i) (mth ms j')))∧(∀j',i+1≤j' →j' <ms.length→Row cs ms j')):=by
            intro hp
            rw[uV (n:=ms.length) hj (by omega)]
            exact ihj.mono fun r hr=>tF (Q:=fun j' =>i≠j' →xq cs (mth ms i) (mth ms j')) hp hr
          have skip:(i≠j→xq cs (mth ms i) (mth ms j))→Evp (fun k=>dn.j2 k (i:Int) ms (ms.length:Int) (i:Int) ms (ms.length:Int) (j:Int) true cs ms (mth ms i).f0 (mth ms i).f1 (mth ms i).f2 (mth ms i).f3 (mth ms i).f4 (mth ms i).f5 (mth ms i).f6 (mth ms i).f7 (mth ms j).f0 (mth ms j).f1 (mth ms j).f2 (mth ms j).f3 (mth ms j).f4 (mth ms j).f5 (mth ms j).f6 (mth ms j).f7) (fun r=>r=true↔(∀j',j≤j' →j' <ms.length→(i≠j' →xq cs (mth ms i) (mth ms j')))∧(∀j',i+1≤j' →j' <ms.length→Row cs ms j')):=fun hp=>
            Evp.step (f:=fun k=>_) (fun k=>by rw[dn.j2]) (Evp.yes rfl (go hp))
          have stop:i≠j→¬xq cs (mth ms i) (mth ms j)→Evp (fun k=>some false) (fun r=>r=true↔(∀j',j≤j' →j' <ms.length→(i≠j' →xq cs (mth ms i) (mth ms j')))∧(∀j',i+1≤j' →j' <ms.length→Row cs ms j')):=fun hne hp=>
            Evp.pure _ (lG (Q:=fun j' =>i≠j' →xq cs (mth ms i) (mth ms j')) hj fun h=>hp (h hne))
          refine Evp.ite (fun h1=>skip fun h=>absurd (by omega) h) (fun h1=>Evp.ite (fun h2=>skip fun _ h3=>absurd h3 (by omega)) (fun h2=>Evp.ite (fun h3=>skip fun _ _ h4=>absurd h4 (by omega)) (fun h3=> ?_)))
          by_cases h4:(mth ms i).f1=(mth ms j).f1
          · rw[show((mth ms i).f1 !=(mth ms j).f1)=false by simpa using h4]
            refine Evp.step (f:=fun k=>_) (fun k=>by rw[dn.j2]) (Evp.no (by decide) ?_)
            have e1:(((mth ms i).f0.toNat:Nat):Int)=(mth ms i).f0:=by omega
            have e2:(((mth ms j).f0.toNat:Nat):Int)=(mth ms j).f0:=by omega
            have hij:i≠j:=by omega
            refine Evp.ite (fun h5=>stop hij fun h=>(h (by omega) (by omega) h4 (by rw[h5];exact .refl _)).1 h5) (fun h5=> ?_)
            have hu:=IZ hok (mth ms j).f0.toNat (mth ms i).f0.toNat (by have:=hri.1 (by omega);omega)
            rw[e1,e2]at hu
            refine Evp.bind hu fun u hu=>Evp.ite (fun h6=> ?_) (fun h6=>go fun _ _ _ _ h7=>absurd (hu.2 h7) h6)
            refine Evp.ite (fun h7=> ?_) (fun h7=>stop hij fun h=>h7 (h (by omega) (by omega) h4 (hu.1 h6)).2.1)
            refine Evp.bind (Lh hri.2) fun e he=>Evp.ite (fun h8=>go fun _ _ _ _ _=>⟨h5,h7,he.1 h8⟩) (fun h8=>stop hij fun h=>h8 (he.2 (h (by omega) (by omega) h4 (hu.1 h6)).2.2))
          · rw[show((mth ms i).f1 !=(mth ms j).f1)=true by simpa using h4]
            exact skip fun _ _ _ h5=>absurd h5 h4
      refine(k1 0 (Nat.zero_le _)).mono fun r hr=>hr.trans ?_
      rw[all_cons (Q:=fun j=>Row cs ms j) hi]
      exact⟨fun h=>⟨h,trivial⟩,fun h=>h.1⟩
  exact(k0 0 (Nat.zero_le _)).mono fun r hr=>hr.trans ⟨fun h=>h.1,fun h=>⟨h,trivial⟩⟩
theorem Jr {cs:List Cls} (hok:ClsOk cs) {ms:List Mth} (hm:ms.length≤1048576) (hr:InR cs ms):Evp (fun k=>dF.f k cs ms) (fun r=>r=true↔Agree cs ms):=by
  unfold dF.f
  have k0 : ∀i,i≤ms.length→Evp (fun k=>dF.l0 k (i:Int) cs ms) (fun r=>r=true↔(∀j,i≤j→j<ms.length→Row cs ms j)∧True):=by
    refine Evp.for_ ?_ (fun i hi ih=> ?_)
    ·exact Evp.step (f:=fun k=>_) (fun k=>by rw[dF.l0]) (Evp.no (by omega) (Evp.pure _ (sZ (uS trivial))))
    · refine Evp.step (f:=fun k=>_) (fun k=>by rw[dF.l0]) (Evp.yes (by omega) ?_)
      have hri:=hr i hi
      have k1: ∀j,j≤ms.length→Evp (fun k=>dF.l1 k (i:Int) (j:Int) cs ms) (fun r=>r=true↔(∀j',j≤j' →j' <ms.length→(i≠j' →xq cs (mth ms i) (mth ms j')))∧(∀j',i+1≤j' →j' <ms.length→Row cs ms j')):=by
        refine Evp.for_ ?_ (fun j hj ihj=> ?_)
        · refine Evp.step (f:=fun k=>_) (fun k=>by rw[dF.l1]) (Evp.no (by omega) ?_)
          rw[uV (n:=ms.length) hi (by omega)]
          exact ih.mono fun r hr=>sZ (hr.trans ⟨fun h=>h.1,fun h=>⟨h,trivial⟩⟩)
        · have hrj:=hr j hj
          refine Evp.step (f:=fun k=>_) (fun k=>by rw[dF.l1,Ei,Ei,uV (n:=ms.length) hj (by omega)]) (Evp.yes (by omega) (Evp.yes (by omega) (Evp.yes (by omega) (Evp.yes (by omega) ?_))))
          have go:(i≠j→xq cs (mth ms i) (mth ms j))→Evp (fun k=>dF.l1 k (i:Int) ((j+1:Nat):Int) cs ms) (fun r=>r=true↔(∀j',j≤j' →j' <ms.length→(i≠j' →xq cs (mth ms i) (mth ms j')))∧(∀j',i+1≤j' →j' <ms.length→Row cs ms j')):=by
            intro hp
            exact ihj.mono fun r hr=>tF (Q:=fun j' =>i≠j' →xq cs (mth ms i) (mth ms j')) hp hr
          have stop:i≠j→¬xq cs (mth ms i) (mth ms j)→Evp (fun k=>some false) (fun r=>r=true↔(∀j',j≤j' →j' <ms.length→(i≠j' →xq cs (mth ms i) (mth ms j')))∧(∀j',i+1≤j' →j' <ms.length→Row cs ms j')):=fun hne hp=>
            Evp.pure _ (lG (Q:=fun j' =>i≠j' →xq cs (mth ms i) (mth ms j')) hj fun h=>hp (h hne))
          refine Evp.ite (fun h1=>go fun h=>absurd (by omega) h) (fun h1=>Evp.ite (fun h2=>Evp.ite (fun h3=>Evp.ite (fun h4=> ?_) (fun h4=>go fun _ _ _ h5=>absurd h5 h4)) (fun h3=>go fun _ _ h4=>absurd h4 h3)) (fun h2=>go fun _ h3=>absurd h3 h2))
          have hij:i≠j:=by omega
          have e1:(((mth ms i).f0.toNat:Nat):Int)=(mth ms i).f0:=by omega
          have e2:(((mth ms j).f0.toNat:Nat):Int)=(mth ms j).f0:=by omega
          have hu:=CZ hok (mth ms j).f0.toNat (mth ms i).f0.toNat (by have:=hri.1 h2;omega)
          rw[e1,e2]at hu
          refine Evp.bind hu fun u hu=>Evp.ite (fun h6=>Evp.ite (fun h5=>stop hij fun h=>(h h2 h3 h4 (hu.1 h6)).1 h5) (fun h5=> ?_)) (fun h6=>go fun _ _ _ _ h7=>absurd (hu.2 h7) h6)
          refine Evp.bind (Mo (a:=mth ms i) (b:=mth ms j) hri.2) fun e he=>Evp.ite (fun h8=>go fun _ _ _ _ _=>⟨h5,he.1 h8⟩) (fun h8=>stop hij fun h=>h8 (he.2 (h h2 h3 h4 (hu.1 h6)).2))
      refine(k1 0 (Nat.zero_le _)).mono fun r hr=>hr.trans ?_
      rw[all_cons (Q:=fun j=>Row cs ms j) hi]
      exact⟨fun h=>⟨h,trivial⟩,fun h=>h.1⟩
  exact(k0 0 (Nat.zero_le _)).mono fun r hr=>hr.trans ⟨fun h=>h.1,fun h=>⟨h,trivial⟩⟩
structure SmallM (m:Mth):Prop where
  a3: -9223372036854775808≤m.f3∧m.f3≤9223372036854775807
  l2:m.f2.length≤1048576
  i2:I64 m.f2
  l5:m.f5.length≤1048576
  l6:m.f6.length≤1048576
  l7:m.f7.length≤1048576
  s6: ∀j,j<m.f6.length→SmallS (m.f6.getD j z69)
structure SmallU (cs:List Cls) (ms:List Mth):Prop where
  c:vU cs
  m:ms.length≤1048576
  e: ∀i,i<ms.length→SmallM (mth ms i)
def Nr (m:Mth):Prop:=m.f0= -1∧m.f2.length=0∧m.f3=1
def UnitOk_ (cs:List Cls) (ms:List Mth):Prop:=ClsOk cs∧(1≤ms.length∧ms.length≤4)∧Nr (mth ms 0)∧(∀i,0≤i→i<ms.length→vz cs ms (mth ms i))∧Agree cs ms
theorem Li {cs:List Cls} {ms:List Mth} (hu:SmallU cs ms) (h: ∀i,i<ms.length→vz cs ms (mth ms i)):InR cs ms:=fun i hi=>⟨fun h0=>by
  rcases (h i hi).1.1 with h1|h1<;>omega,(hu.e i hi).l2⟩
theorem II {cs:List Cls} {ms:List Mth} (hu:SmallU cs ms):Evp (fun k=>dD.f k cs ms) (fun r=>r=true↔UnitOk_ cs ms):=by
  have hs:=hu.c
  have hm:=hu.m
  have g: ¬UnitOk_ cs ms→Evp (fun k=>dD.j0 k true cs ms) (fun r=>r=true↔UnitOk_ cs ms):=fun h=>
    Evp.step (f:=fun k=>_) (fun k=>by rw[dD.j0]) (Evp.yes rfl (Evp.pure _ (kQ h)))
  have o: ¬UnitOk_ cs ms→Evp (fun k=>dD.j1 k true cs ms) (fun r=>r=true↔UnitOk_ cs ms):=fun h=>
    Evp.step (f:=fun k=>_) (fun k=>by rw[dD.j1]) (Evp.yes rfl (Evp.pure _ (kQ h)))
  unfold dD.f
  refine Evp.bind (Fg hs) fun c hc=>Evp.ite (fun h=> ?_) (fun h=>g fun h2=>h (hc.2 h2.1))
  have hok:=hc.1 h
  refine Evp.ite (fun h1=>g fun h2=>by have:=h2.2.1;omega) (fun h1=> ?_)
  by_cases h2:(ms.length:Int)>4
  · rw[decide_eq_true h2]
    exact g fun h3=>by have:=h3.2.1;omega
  rw[decide_eq_false h2]
  have e0:ay ms 0=mth ms 0:=rfl
  refine Evp.step (f:=fun k=>_) (fun k=>by rw[dD.j0,e0]) (Evp.no (by decide) (Evp.yes (by omega) (Evp.ite (fun h3=>Evp.ite (fun h4=> ?_) (fun h4=>o fun h5=>h4 (by have:=h5.2.2.1.2.1;omega))) (fun h3=>o fun h5=>h3 h5.2.2.1.1))))
  by_cases h5:(mth ms 0).f3=1
  · rw[show((mth ms 0).f3 !=1)=false by simpa using h5]
    refine Evp.step (f:=fun k=>_) (fun k=>by rw[dD.j1]) (Evp.no (by decide) ?_)
    have k0: ∀d i:Nat,i+d=ms.length→(∀j,j<i→vz cs ms (mth ms j))→Evp (fun k=>dD.l0 k ms (ms.length:Int) (i:Int) cs ms) (fun r=>r=true↔(∀j,i≤j→j<ms.length→vz cs ms (mth ms j))∧Agree cs ms):=by
      intro d
      induction d with
      | zero=>
        intro i hi hall
        refine Evp.step (f:=fun k=>_) (fun k=>by rw[dD.l0]) (Evp.no (by omega) ?_)
        refine Evp.bind (IG hok hm (Li hu fun j hj=>hall j (by omega))) fun a ha=>Evp.pure _ ?_
        exact ha.trans ⟨fun h=>⟨fun j hj hj2=>absurd hj2 (by omega),h⟩,fun h=>h.2⟩
      | succ d ih=>
        intro i hi hall
        have hil:i<ms.length:=by omega
        have hsm:=hu.e i hil
        refine Evp.step (f:=fun k=>_) (fun k=>by rw[dD.l0,Ei]) (Evp.yes (by omega) (Evp.yes (by omega) (Evp.yes (by omega) ?_)))
        refine Evp.bind (Ko hs ms (mth ms i).f5 (mth ms i).f6 (mth ms i).f7 hsm.a3.1 hsm.a3.2 hsm.l2 hsm.i2) fun a ha=>Evp.ite (fun h6=> ?_) (fun h6=>Evp.pure _ (lG (Q:=fun j=>vz cs ms (mth ms j)) hil fun h9=>h6 (ha.2 h9.1)))
        refine Evp.bind (Kt hs hok ms (mth ms i).f5 (mth ms i).f6 (mth ms i).f7 0 hsm.s6 hsm.l5 hsm.l6) fun b hb=>Evp.ite (fun h7=> ?_) (fun h7=>Evp.pure _ (lG (Q:=fun j=>vz cs ms (mth ms j)) hil fun h9=>h7 (hb.2 h9.2.1)))
        refine Evp.bind (GL hok ms (mth ms i).f5 (mth ms i).f6 (mth ms i).f7) fun e he=>Evp.ite (fun h8=> ?_) (fun h8=>Evp.pure _ (lG (Q:=fun j=>vz cs ms (mth ms j)) hil fun h9=>h8 (he.2 h9.2.2)))
        have hmi:vz cs ms (mth ms i):=⟨ha.1 h6,hb.1 h7,he.1 h8⟩
        rw[uV (n:=ms.length) hil (by omega)]
        refine(ih (i+1) (by omega) fun j hj=> ?_).mono fun r hr=>tF (Q:=fun j=>vz cs ms (mth ms j)) hmi hr
        rcases Nat.eq_or_lt_of_le (Nat.le_of_lt_succ hj)with rfl|h9
        ·exact hmi
        ·exact hall j h9
    refine(k0 ms.length 0 (by omega) fun j hj=>absurd hj (Nat.not_lt_zero _)).mono fun r hr=>hr.trans ?_
    exact⟨fun h6=>⟨hok,by omega,⟨h3,by omega,h5⟩,h6.1,h6.2⟩,fun h6=>⟨h6.2.2.2.1,h6.2.2.2.2⟩⟩
  · rw[show((mth ms 0).f3 !=1)=true by simpa using h5]
    exact o fun h6=>h5 h6.2.2.1.2.2
theorem IJ {cs:List Cls} {ms:List Mth} (hu:SmallU cs ms):Evp (fun k=>dH.f k cs ms) (fun r=>r=true↔UnitOk_ cs ms):=by
  have hs:=hu.c
  have hm:=hu.m
  have o: ¬UnitOk_ cs ms→Evp (fun k=>dH.j0 k true cs ms) (fun r=>r=true↔UnitOk_ cs ms):=fun h=>
    Evp.step (f:=fun k=>_) (fun k=>by rw[dH.j0]) (Evp.yes rfl (Evp.pure _ (kQ h)))
  have g: ¬UnitOk_ cs ms→Evp (fun k=>dH.j1 k true cs ms) (fun r=>r=true↔UnitOk_ cs ms):=fun h=>
    Evp.step (f:=fun k=>_) (fun k=>by rw[dH.j1]) (Evp.yes rfl (Evp.pure _ (kQ h)))
  unfold dH.f
  refine Evp.bind (yx hs) fun c hc=>Evp.ite (fun h=> ?_) (fun h=>o fun h2=>h (hc.2 h2.1))
  have hok:=hc.1 h
  rw[ui]
  simp only[Option.bind_some]
  by_cases h2:1≤(ms.length:Int)∧(ms.length:Int)≤4
  · rw[decide_eq_true h2]
    have e0:ay ms 0=mth ms 0:=rfl
    refine Evp.step (f:=fun k=>_) (fun k=>by rw[dH.j0,e0]) (Evp.no (by decide) (Evp.yes (by omega) (Evp.ite (fun h3=>Evp.ite (fun h4=>g fun h5=>by have:=h5.2.2.1.2.1;omega) (fun h4=> ?_)) (fun h3=>g fun h5=>h3 h5.2.2.1.1))))
    by_cases h5:(mth ms 0).f3=1
    · rw[show((mth ms 0).f3 !=1)=false by simpa using h5]
      refine Evp.step (f:=fun k=>_) (fun k=>by rw[dH.j1]) (Evp.no (by decide) ?_)
      have k0: ∀d i:Nat,i+d=ms.length→(∀j,j<i→vz cs ms (mth ms j))→Evp (fun k=>dH.l0 k (i:Int) cs ms) (fun r=>r=true↔(∀j,i≤j→j<ms.length→vz cs ms (mth ms j))∧Agree cs ms):=by
        intro d
        induction d with
        | zero=>
          intro i hi hall
          refine Evp.step (f:=fun k=>_) (fun k=>by rw[dH.l0]) (Evp.no (by omega) ?_)
          refine Evp.bind (Jr hok hm (Li hu fun j hj=>hall j (by omega))) fun a ha=>Evp.pure _ ?_
          exact ha.trans ⟨fun h=>⟨fun j hj hj2=>absurd hj2 (by omega),h⟩,fun h=>h.2⟩
        | succ d ih=>
          intro i hi hall
          have hil:i<ms.length:=by omega
          have hsm:=hu.e i hil
          refine Evp.step (f:=fun k=>_) (fun k=>by rw[dH.l0,Ei]) (Evp.yes (by omega) (Evp.yes (by omega) ?_))
          refine Evp.bind (IE hs hok ms hm (mth ms i) hsm.l2 hsm.l5 hsm.l6 hsm.l7 hsm.s6) fun a ha=>Evp.ite (fun h6=> ?_) (fun h6=>Evp.pure _ (lG (Q:=fun j=>vz cs ms (mth ms j)) hil fun h9=>h6 (ha.2 h9)))
          rw[uV (n:=ms.length) hil (by omega)]
          refine(ih (i+1) (by omega) fun j hj=> ?_).mono fun r hr=>tF (Q:=fun j=>vz cs ms (mth ms j)) (ha.1 h6) hr
          rcases Nat.eq_or_lt_of_le (Nat.le_of_lt_succ hj)with rfl|h9
          ·exact ha.1 h6
          ·exact hall j h9
      refine(k0 ms.length 0 (by omega) fun j hj=>absurd hj (Nat.not_lt_zero _)).mono fun r hr=>hr.trans ?_
      exact⟨fun h6=>⟨hok,by omega,⟨h3,by omega,h5⟩,h6.1,h6.2⟩,fun h6=>⟨h6.2.2.2.1,h6.2.2.2.2⟩⟩
    · rw[show((mth ms 0).f3 !=1)=true by simpa using h5]
      exact g fun h6=>h5 h6.2.2.1.2.2
  · rw[decide_eq_false h2]
    exact o fun h3=>h2 (by have:=h3.2.1;omega)
end Go.Proofs.Ytojpejfcafbafaa.Kit
end
section
namespace Go.Proofs.Ytojpejfcafbafaa.Kit
open Go Go.RowKit Go.Proofs.YtojpejfcafbafaaW.PrintWords Go.Proofs.Ytojpejfcafbafaa.P
set_option linter.unusedVariables false
theorem CL (t:Int):uB.f t=some (decide (2≤t)):=by simp[uB.f]
def zg (cs:List Cls) (a b:Int):Prop:=a=b∨b=0∨(a=2∧2≤b)∨(2≤a∧a<8∧b=8)∨(8≤a∧8≤b∧Up cs (a - 8).toNat (b - 8).toNat)
theorem CO {cs:List Cls} (hok:ClsOk cs) {a b:Int} (ha:iY cs.length a) (hb:iY cs.length b):Evp (fun k=>lq.f k cs a b) (fun r=>r=true↔zg cs a b):=by
  have hlen:=(tT.1 hok).2.1
  have ha' :=u6.1 ha
  have hb' :=u6.1 hb
  unfold lq.f
  have c:zg cs a b→Evp (fun k=>lq.j0 k cs a b true) (fun r=>r=true↔zg cs a b):=fun h=>
    Evp.step (f:=fun k=>_) (fun k=>by rw[lq.j0]) (Evp.yes rfl (Evp.pure _ (uS h)))
  refine Evp.ite (fun h=>c (.inl h)) (fun hab=> ?_)
  by_cases h0:b=0
  ·subst h0;exact c (.inr (.inl rfl))
  have e0:(b==0)=false:=by simpa using h0
  rw[e0]
  refine Evp.step (f:=fun k=>_) (fun k=>by rw[lq.j0]) (Evp.no (by decide) (Evp.ite (fun h2=> ?_) (fun h2=> ?_)))
  · refine Evp.const (by rw[CL];rfl) ?_
    simp only[decide_eq_true_eq]
    constructor
    ·intro h;exact .inr (.inr (.inl ⟨h2,h⟩))
    ·intro h;unfold zg at h;omega
  · have d: ¬zg cs a b→Evp (fun k=>lq.j1 k cs a b true) (fun r=>r=true↔zg cs a b):=fun h=>
      Evp.step (f:=fun k=>_) (fun k=>by rw[lq.j1]) (Evp.yes rfl (Evp.pure _ (kQ h)))
    refine Evp.bind (P:=fun r=>r=decide (2≤a)) (Evp.const (by rw[CL]) rfl) fun r hr=> ?_
    subst hr
    simp only[decide_eq_true_eq]
    refine Evp.ite (fun h3=> ?_) (fun h3=>d (by unfold zg;omega))
    by_cases h8:b<8
    ·rw[decide_eq_true h8];exact d (by unfold zg;omega)
    · rw[decide_eq_false h8]
      refine Evp.step (f:=fun k=>_) (fun k=>by rw[lq.j1]) (Evp.no (by decide) (Evp.ite (fun h4=>Evp.pure _ ?_) (fun h4=> ?_)))
      · rw[beq_iff_eq]
        constructor
        ·intro h;exact .inr (.inr (.inr (.inl ⟨h3,h4,h⟩)))
        ·intro h;unfold zg at h;omega
      · have e1:wrap64 (a - 8)=((a - 8).toNat:Int):=by unfold wrap64;omega
        have e2:wrap64 (b - 8)=((b - 8).toNat:Int):=by unfold wrap64;omega
        rw[e1,e2]
        refine Evp.bind (CZ hok (b - 8).toNat (a - 8).toNat (by omega)) fun r hr=>Evp.pure _ (hr.trans ?_)
        constructor
        ·intro h;exact .inr (.inr (.inr (.inr ⟨by omega,by omega,h⟩)))
        · rintro(h|h|⟨h,_⟩|⟨_,h,_⟩|⟨_,_,h⟩)
          ·exact absurd h hab
          ·omega
          ·omega
          ·omega
          ·exact h
theorem Mq {cs:List Cls} (hok:ClsOk cs) {b:Nat} (hb:b<cs.length): ∀a:Nat,a<cs.length→Evp (fun k=>uz.f k cs (a:Int) (b:Int)) (fun r=> ∃j:Nat,r=(j:Int)∧Up cs a j∧Up cs b j):=by
  intro a
  induction a using Nat.strongRecOn with
  | _ a ih=>
    intro ha
    unfold uz.f at ih⊢
    refine Evp.step (f:=fun k=>_) (fun k=>by rw[uz.l0,AC]) (Evp.bind (CZ hok a b hb) fun r hr=>Evp.ite (fun h=>Evp.pure _ ⟨a,rfl, .refl _,hr.1 h⟩) (fun h=> ?_))
    have h0:1≤a:=by
      rcases Nat.eq_zero_or_pos a with e|e
      ·subst e;exact absurd (hr.2 (Up.root hok hb)) h
      ·exact e
    obtain⟨p,hp,hlt⟩:=hok.sup_nat h0 ha
    refine Evp.yes (by omega) (Evp.yes (by omega) ?_)
    rw[hp]
    exact(ih p hlt (by omega)).mono fun r ⟨j,h1,h2,h3⟩=>⟨j,h1, .step p hp h2,h3⟩
def rk (t:Int):Nat:=if t=0 then 20 else if 8≤t then(18 - t).toNat else if t=3∨t=4 then 1 else 0
theorem J9 (t:Int):rk t≤20:=by
  unfold rk
  repeat' split
  all_goals omega
theorem Gq {cs:List Cls} (hok:ClsOk cs) {a b:Int} (ha:iY cs.length a) (hb:iY cs.length b):Evp (fun k=>qW.f k cs a b) (fun x=>iY cs.length x∧rk a≤rk x∧(rk x=rk a→x=a)):=by
  have hlen:=(tT.1 hok).2.1
  have g:=(tT.1 hok).1
  have ha' :=u6.1 ha
  have hb' :=u6.1 hb
  unfold qW.f
  refine Evp.bind (CO hok ha hb) fun r hr=>Evp.ite (fun h=>Evp.pure _ ⟨hb, ?_⟩) (fun h=> ?_)
  · have hin:=hr.1 h
    rcases hin with rfl|rfl|⟨rfl,h1⟩|⟨h1,h2,rfl⟩|⟨h1,h2,h3⟩
    ·exact⟨Nat.le_refl _,fun _=>rfl⟩
    · have:=J9 a
      refine⟨by show rk a≤20;exact this,fun h=> ?_⟩
      unfold rk at h
      repeat' split at h
      all_goals omega
    · unfold rk
      repeat' split
      all_goals omega
    · unfold rk
      repeat' split
      all_goals omega
    · have h4:=h3.le hok (by omega)
      unfold rk
      repeat' split
      all_goals omega
  · refine Evp.bind (CO hok hb ha) fun r' hr' =>Evp.ite (fun h' =>Evp.pure _ ⟨ha,Nat.le_refl _,fun _=>rfl⟩) (fun h' => ?_)
    have n1: ¬zg cs a b:=fun x=>h (hr.2 x)
    have n2: ¬zg cs b a:=fun x=>h' (hr'.2 x)
    have c:Evp (fun k=>qW.j0 k cs a b true) (fun x=>iY cs.length x∧rk a≤rk x∧(rk x=rk a→x=a)):=by
      refine Evp.step (f:=fun k=>_) (fun k=>by rw[qW.j0]) (Evp.yes rfl (Evp.pure _ ⟨.inl rfl,by have:=J9 a;show rk a≤20;exact this,fun h=> ?_⟩))
      unfold rk at h
      repeat' split at h
      all_goals omega
    refine Evp.bind (P:=fun r=>r=decide (2≤a)) (Evp.const (by rw[CL]) rfl) fun r hr=> ?_
    subst hr
    simp only[decide_eq_true_eq]
    refine Evp.ite (fun h3=> ?_) (fun _=>c)
    refine Evp.bind (P:=fun r=>r=decide (2≤b)) (Evp.const (by rw[CL]) rfl) fun r hr=> ?_
    subst hr
    by_cases h4:2≤b
    · rw[decide_eq_true h4]
      have d:a≠8→(a<8∨b<8)→iY cs.length 8∧rk a≤rk 8∧(rk 8=rk a→8=a):=fun h5 h6=>by
        refine⟨u6.2 (by omega), ?_⟩
        unfold rk
        repeat' split
        all_goals omega
      have a8:a<8∨b<8→a≠8:=fun h6 e=>by
        subst e
        apply n2
        unfold zg
        omega
      refine Evp.step (f:=fun k=>_) (fun k=>by rw[qW.j0]) (Evp.no (by decide) (Evp.ite (fun h5=>Evp.pure _ (d (a8 (.inl h5)) (.inl h5))) (fun h5=>Evp.ite (fun h6=>Evp.pure _ (d (a8 (.inr h6)) (.inr h6))) (fun h6=> ?_))))
      have e1:wrap64 (a - 8)=((a - 8).toNat:Int):=by unfold wrap64;omega
      have e2:wrap64 (b - 8)=((b - 8).toNat:Int):=by unfold wrap64;omega
      rw[e1,e2]
      refine Evp.bind (Mq hok (b:=(b - 8).toNat) (by omega) (a - 8).toNat (by omega)) ?_
      rintro r ⟨j,rfl,h7,h8⟩
      have hj:=h7.le hok (by omega)
      have e3:wrap64 (8+(j:Int))=8+(j:Int):=by unfold wrap64;omega
      rw[e3]
      have hne:j≠(a - 8).toNat:=fun e=>n2 (.inr (.inr (.inr (.inr ⟨by omega,by omega,by rw[←e];exact h8⟩))))
      refine Evp.pure _ ⟨u6.2 (by omega), ?_⟩
      unfold rk
      repeat' split
      all_goals omega
    ·rw[decide_eq_false h4];exact c
def Tys (n:Nat) (l:List Int):Prop:= ∀t∈l,iY n t
structure Sho (n L:Nat) (l st:List Int):Prop where
  ll:l.length=L
  lt:Tys n l
  sl:st.length≤4
  ts:Tys n st
def SR (n L:Nat) (b:Bool) (r:Bool×List Int×List Int×Bool):Prop:=r.1=b∧Sho n L r.2.1 r.2.2.1
theorem Tys.rd {n:Nat} {l:List Int} (h:Tys n l) {i:Int} (h0:0≤i) (h1:i<l.length):iY n (rd l i):=h _ (by
  show l.getD _ _∈l
  rw[List.getD_eq_getElem?_getD,List.getElem?_eq_getElem (by omega)];exact List.getElem_mem _)
theorem Tys.take {n:Nat} {l:List Int} (h:Tys n l) (m:Nat):Tys n (l.take m):=fun t ht=>h t (List.mem_of_mem_take ht)
theorem Tys.snoc {n:Nat} {l:List Int} (h:Tys n l) {t:Int} (ht:iY n t):Tys n (l++ [t]):=fun x hx=>by
  rcases List.mem_append.1 hx with h1|h1
  ·exact h x h1
  ·rw[List.mem_singleton]at h1;subst h1;exact ht
theorem Tys.app {n:Nat} {l m:List Int} (h:Tys n l) (hm:Tys n m):Tys n (l++m):=fun x hx=>(List.mem_append.1 hx).elim (h x) (hm x)
theorem Tys.set {n:Nat} {l:List Int} (h:Tys n l) (i:Nat) {t:Int} (ht:iY n t):Tys n (l.set i t):=fun x hx=>by
  rcases List.mem_or_eq_of_mem_set hx with h1|h1
  ·exact h x h1
  ·subst h1;exact ht
theorem yu {n:Nat} {a:Int} (h:iY n a):Tys n [a]:=fun x hx=>by rw[List.mem_singleton]at hx;subst hx;exact h
theorem Ka {n:Nat} {a b:Int} (h:iY n a) (h2:iY n b):Tys n [a,b]:=fun x hx=>by
  simp only[List.mem_cons,List.not_mem_nil,or_false]at hx
  rcases hx with rfl|rfl
  ·exact h
  ·exact h2
theorem xI {n:Nat} {t:Int} (h:0≤t) (h2:t≤4):iY n t:=u6.2 (.inl ⟨h,h2⟩)
theorem yV {n:Nat} {c:Int} (h:0≤c) (h2:c<n):iY n (8+c):=u6.2 (.inr ⟨by omega,by omega⟩)
theorem xX {cs:List Cls} (hok:ClsOk cs) {L:Nat} {b:Bool} {l st ts:List Int} (hs:Sho cs.length L l st) (ht:Tys cs.length ts) (hl:ts.length≤100):Evp (fun k=>eu.f k cs b l st ts) (SR cs.length L b):=by
  have hsl:=hs.sl
  unfold eu.f
  have w0:wrap64 ((st.length:Int) - ts.length)=(st.length:Int) - ts.length:=by unfold wrap64;omega
  rw[w0]
  refine Evp.ite (fun h=>Evp.pure _ ⟨rfl,hs⟩) (fun h=> ?_)
  have loop:=Evp.for_ (n:=ts.length) (g:=fun i k=>eu.l0 k cs ts ((st.length:Int) - ts.length) (i:Int) b l st) (R:=fun _=>SR cs.length L b) ?_ ?_ 0 (Nat.zero_le _)
  ·exact loop
  · refine Evp.step (f:=fun k=>_) (fun k=>by rw[eu.l0]) (Evp.no (by omega) (Evp.yes (by omega) (Evp.yes (by omega) (Evp.pure _ ⟨rfl,hs.ll,hs.lt, ?_,hs.ts.take _⟩))))
    simp only[List.length_take];omega
  · intro i hi ih
    have w1:wrap64 ((st.length:Int) - ts.length+i)=(st.length:Int) - ts.length+i:=by unfold wrap64;omega
    have w2:wrap64 ((i:Int)+1)=((i+1:Nat):Int):=by unfold wrap64;omega
    refine Evp.step (f:=fun k=>_) (fun k=>by rw[eu.l0]) (Evp.yes (by omega) (Evp.yes (by rw[w1];omega) (Evp.yes (by rw[w1];omega) (Evp.yes (by omega) ?_))))
    rw[w1,w2]
    refine Evp.bind (CO hok (hs.ts.rd (by omega) (by omega)) (ht.rd (by omega) (by omega))) fun r _=>Evp.ite (fun _=>ih) (fun _=>Evp.pure _ ⟨rfl,hs⟩)
theorem Mr {n L:Nat} {b:Bool} {l st:List Int} (hs:Sho n L l st) {t:Int} (ht:iY n t) (ok:Bool): ∃r,kF.f b l st t ok=some r∧SR n L b r:=by
  have hsl:=hs.sl
  unfold kF.f
  split
  · split
    ·exact⟨_,rfl,rfl,hs⟩
    · split
      ·exact⟨_,rfl,rfl,hs⟩
      · rename_i h3
        simp only[Option.bind_some,List.nil_append,List.length_nil]
        rw[if_pos (by omega),if_pos (by omega)]
        exact⟨_,rfl,rfl,hs.ll,hs.lt,by simp;omega,hs.ts.snoc ht⟩
  ·exact⟨_,rfl,rfl,hs⟩
theorem xY {n L:Nat} {b:Bool} {l st:List Int} (hs:Sho n L l st) {t:Int} (ht:iY n t) (ok:Bool):Evp (fun _=>kF.f b l st t ok) (SR n L b):=
  let ⟨r,h,h2⟩:=Mr hs ht ok;Evp.const h h2
theorem SR.push {n L:Nat} {b:Bool} {t:Int} (ht:iY n t) {r:Bool×List Int×List Int×Bool} (h:SR n L b r):Evp (fun _=>kF.f r.1 r.2.1 r.2.2.1 t r.2.2.2) (SR n L b):=by
  rw[h.1];exact xY h.2 ht _
structure StepOk (cs:List Cls) (nm L:Nat) (k a b:Int):Prop where
  loc:k=3∨k=4→0≤a∧a<L
  cls:k=12∨k=19∨k=17∨k=18∨k=21→0≤a∧a<cs.length
  fld:k=17∨k=18→0≤b∧∀fs,Flds cs a.toNat fs→b<fs.length
  call:k=20→0≤a∧a<nm
theorem Lj {cs:List Cls} {ms:List Mth} {L:Nat} {nc:Nat} {x:Ins} (h:vY cs ms (L:Int) nc x):StepOk cs ms.length L x.f0 x.f1 x.f2:=by
  obtain⟨p,q,h1,h2,h3⟩:=h
  refine⟨fun hk=> ?_,fun hk=> ?_,fun hk=> ?_,fun hk=> ?_⟩
  ·rcases hk with hk|hk<;>rw[hk]at h1<;>(cases h1;simpa[ul] using h2)
  ·rcases hk with hk|hk|hk|hk|hk<;>rw[hk]at h1<;>(cases h1;simpa[ul] using h2)
  ·rcases hk with hk|hk<;>rw[hk]at h1<;>cases h1<;>(
      simp[ul]at h3
      exact⟨h3.1,fun fs hf=>by obtain⟨l,hl,hlt⟩:=h3.2;rw[hf.fn hl];exact hlt⟩)
  · rw[hk]at h1;cases h1
    simp[ul]at h2
    exact⟨h2.1,h2.2.1⟩
theorem Tys.fields {cs:List Cls} (hok:ClsOk cs): ∀ {c:Nat} {l:List Int},Flds cs c l→c<cs.length→Tys cs.length l:=by
  intro c l h
  induction h with
  |root=>intro _ x hx;simp at hx
  | step p hc hp h ih=>
    intro hlt
    rename_i c l
    obtain⟨p',hp',hlt'⟩:=hok.sup_nat (by omega) hlt
    have:p=p' :=by omega
    subst this
    exact(ih (by omega)).app fun t ht=> .inr (.inr (hok.fld c hlt t ht))
theorem SR.some {n L:Nat} {b:Bool} {g:Nat→Option (Bool×List Int×List Int×Bool)} (h:Evp g (SR n L b)):Evp (fun k=>(g k).bind fun z=>Option.some z) (SR n L b):=Evp.bind h fun r hr=>Evp.pure _ hr
theorem SR.some4 {n L:Nat} {b:Bool} {g:Nat→Option (Bool×List Int×List Int×Bool)} (h:Evp g (SR n L b)):Evp (fun k=>(g k).bind fun z=>Option.some (z.1,z.2.1,z.2.2.1,z.2.2.2)) (SR n L b):=Evp.bind h fun r hr=>Evp.pure _ hr
theorem Ll {cs:List Cls} (hok:ClsOk cs) {nm L:Nat} {b:Bool} {l st:List Int} (hs:Sho cs.length L l st) {k a b' :Int} (hx:StepOk cs nm L k a b'):Evp (fun n=>kv.f n cs k a b' b l st) (SR cs.length L b):=by
  have hlen:=(tT.1 hok).2.1
  have hlo:=hok.lo
  have hsl:=hs.sl
  have hll:=hs.ll
  have t0:iY cs.length 0:=xI (by decide) (by decide)
  have t1:iY cs.length 1:=xI (by decide) (by decide)
  have t2:iY cs.length 2:=xI (by decide) (by decide)
  have t8:iY cs.length 8:=yV (c:=0) (by decide) (by omega)
  have t9:iY cs.length 9:=yV (c:=1) (by decide) (by omega)
  have d:=xX hok (b:=b) hs (Ka t1 t1) (by decide)
  have j0: ∀q,Evp (fun n=>kv.j0 n cs k q b l st) (SR cs.length L b):=fun q=>
    Evp.step (f:=fun n=>_) (fun n=>by rw[kv.j0]) (Evp.ite (fun _=>SR.some4 d) fun _=>Evp.ite (fun _=>SR.some4 (xX hok hs (yu t8) (by decide))) fun _=>Evp.ite (fun _=>SR.some4 (xX hok hs (yu t1) (by decide))) fun _=>Evp.ite (fun _=>SR.some4 (xX hok hs (yu t9) (by decide))) fun _=>Evp.pure _ ⟨rfl,hs⟩)
  have w0:wrap64 ((st.length:Int) - 1)=(st.length:Int) - 1:=by unfold wrap64;omega
  unfold kv.f
  refine Evp.ite (fun _=>SR.some4 (xY hs t1 true)) fun _=>Evp.ite (fun _=>SR.some4 (xY hs t2 true)) fun _=>Evp.ite (fun h3=> ?_) fun _=>Evp.ite (fun h4=> ?_) fun _=>Evp.ite (fun _=>SR.some4 (xX hok hs (yu t0) (by decide))) fun _=>Evp.ite (fun h6=> ?_) fun _=>Evp.ite (fun h7=> ?_) fun _=>Evp.ite (fun _=>j0 _) fun _=>j0 _
  · have hl:=hx.loc (.inl h3)
    exact Evp.yes (by omega) (Evp.yes (by omega) (SR.some4 (xY hs (hs.lt.rd hl.1 (by omega)) true)))
  · have hl:=hx.loc (.inr h4)
    refine Evp.ite (fun _=>Evp.pure _ ⟨rfl,hs⟩) fun h0=> ?_
    rw[w0]
    exact Evp.yes (by omega) (Evp.yes (by omega) (Evp.yes (by omega) (Evp.yes (by omega) (Evp.yes (by omega) (Evp.pure _ ⟨rfl,by simp[hll],hs.lt.set _ (hs.ts.rd (by omega) (by omega)),by simp only[List.length_take];omega,hs.ts.take _⟩)))))
  · refine Evp.ite (fun _=>Evp.pure _ ⟨rfl,hs⟩) fun h0=> ?_
    rw[w0]
    exact Evp.yes (by omega) (Evp.yes (by omega) (SR.some4 (xY hs (hs.ts.rd (by omega) (by omega)) true)))
  ·exact Evp.bind d fun r hr=>SR.some4 (hr.push t1)
theorem Ns (a:Int): ∃e,wZ.f a=some e∧(0≤e.1∧e.1≤4)∧((0≤e.2∧e.2≤4)∨e.2=8):=by
  unfold wZ.f
  split
  ·exact⟨_,rfl,by decide,by decide⟩
  ·exact⟨_,rfl,by decide,by decide⟩
theorem Lm {cs:List Cls} (hok:ClsOk cs) {nm L:Nat} {b:Bool} {l st:List Int} (hs:Sho cs.length L l st) {k a b' :Int} (hk:12≤k∧k≤19) (hx:StepOk cs nm L k a b'):Evp (fun n=>wJ.f n cs k a b' b l st) (SR cs.length L b):=by
  have hlen:=(tT.1 hok).2.1
  have hlo:=hok.lo
  have t1:iY cs.length 1:=xI (by decide) (by decide)
  have t3:iY cs.length 3:=xI (by decide) (by decide)
  have t4:iY cs.length 4:=xI (by decide) (by decide)
  have t8:iY cs.length 8:=yV (c:=0) (by decide) (by omega)
  have own:0≤a∧a<cs.length→wrap64 (8+a)=8+a∧iY cs.length (8+a):=fun h=>⟨by unfold wrap64;omega,yV h.1 h.2⟩
  obtain⟨e,he,he1,he2⟩:=Ns a
  have d:iY cs.length e.1:=xI he1.1 he1.2
  have g:iY cs.length e.2:=by
    rcases he2 with h|h
    ·exact xI h.1 h.2
    ·rw[h];exact t8
  have pop: ∀ {ts},Tys cs.length ts→ts.length≤100→Evp (fun n=>eu.f n cs b l st ts) (SR cs.length L b):=fun h h2=>xX hok hs h h2
  unfold wJ.f
  rw[he]
  show Evp (fun n=>_) _
  simp only[Option.bind_some]
  refine Evp.ite (fun h=> ?_) fun _=>Evp.ite (fun _=>Evp.bind (pop (yu t1) (by decide)) fun r hr=>SR.some (hr.push d)) fun _=>Evp.ite (fun _=> ?_) fun _=>Evp.ite (fun _=>Evp.bind (pop (Ka d t1) (by simp)) fun r hr=>SR.some (hr.push g)) fun _=>Evp.ite (fun _=>SR.some (pop ((Ka d t1).snoc g) (by simp))) fun _=>Evp.ite (fun h=> ?_) fun _=>Evp.ite (fun h=> ?_) fun h=> ?_
  · obtain⟨w,t⟩:=own (hx.cls (.inl h))
    rw[w];exact SR.some (xY hs t true)
  ·exact Evp.bind (pop (yu t3) (by decide)) fun r hr=>Evp.ite (fun _=>SR.some (hr.push t1)) fun _=>Evp.bind (pop (yu t4) (by decide)) fun r hr=>SR.some (hr.push t1)
  · have hc:=hx.cls (.inr (.inr (.inl h)))
    obtain⟨w,t⟩:=own hc
    obtain⟨h0,hf⟩:=hx.fld (.inl h)
    rw[w]
    refine Evp.bind (pop (yu t) (by simp)) fun r hr=> ?_
    have ea:((a.toNat:Nat):Int)=a:=by omega
    have hfl:=Ae hok a.toNat (by omega)
    rw[ea]at hfl
    refine Evp.bind hfl fun fs hfs=>Evp.yes h0 (Evp.yes (hf fs hfs.1) (SR.some (hr.push ((Tys.fields hok hfs.1 (by omega)).rd h0 (hf fs hfs.1)))))
  · have hc:=hx.cls (.inr (.inr (.inr (.inl h))))
    obtain⟨w,t⟩:=own hc
    obtain⟨h0,hf⟩:=hx.fld (.inr h)
    rw[w]
    have ea:((a.toNat:Nat):Int)=a:=by omega
    have hfl:=Ae hok a.toNat (by omega)
    rw[ea]at hfl
    refine Evp.bind hfl fun fs hfs=>Evp.yes h0 (Evp.yes (hf fs hfs.1) (SR.some (pop (Ka t ((Tys.fields hok hfs.1 (by omega)).rd h0 (hf fs hfs.1))) (by simp))))
  · obtain⟨w,t⟩:=own (hx.cls (.inr (.inl (by omega))))
    rw[w]
    exact Evp.bind (pop (yu t8) (by decide)) fun r hr=>SR.some (hr.push t)
end Go.Proofs.Ytojpejfcafbafaa.Kit
end
section
namespace Go.Proofs.Ytojpejfcafbafaa.P
open Go.RowKit Go.Proofs.YtojpejfcafbafaaW.PrintWords Go.Proofs.YtojpejfcafbafaaW.PrintLast Go.Proofs.YtojpejfcafbafaaW.PrintMore
attribute [local go_sem] bn bq bP bQ aW aX bu bv
set_option linter.unusedVariables false
set_option linter.unusedSimpArgs false
end Go.Proofs.Ytojpejfcafbafaa.P
end
section
namespace Go.Proofs.Ytojpejfcafbafaa.Kit
open Go Go.RowKit Go.Proofs.YtojpejfcafbafaaW.PrintWords Go.Proofs.Ytojpejfcafbafaa.P
set_option linter.unusedVariables false
set_option linter.unusedSimpArgs false
def Ans (ms:List Mth) (c sel:Int) (i:Nat):Prop:=(mth ms i).f0=c∧(mth ms i).f1=sel
inductive FindM (cs:List Cls) (ms:List Mth) (sel:Int):Int→Int→Prop
  |none {c:Int} (h:c<0):FindM cs ms sel c (-1)
  |hit {c:Int} {i:Nat} (hc:0≤c) (hi:i<ms.length) (h:Ans ms c sel i) (hn: ∀j,j<i→¬Ans ms c sel j):FindM cs ms sel c (i:Int)
  |up {c:Nat} {r:Int} (hn: ∀j,j<ms.length→¬Ans ms (c:Int) sel j) (h:FindM cs ms sel (sup cs c) r):FindM cs ms sel (c:Int) r
theorem FindM.fn {cs:List Cls} {ms:List Mth} {sel c r r' :Int} (h:FindM cs ms sel c r) (h' :FindM cs ms sel c r'):r=r' :=by
  induction h generalizing r' with
  | none h=>
    cases h' with
    |none _=>rfl
    |hit hc _ _ _=>omega
    |up _ _=>omega
  | @hit c i hc hi h hn=>
    cases h' with
    |none h2=>omega
    | @hit _ j _ hj h2 hn2=>
      rcases Nat.lt_trichotomy i j with h3|h3|h3
      ·exact absurd h (hn2 i h3)
      ·rw[h3]
      ·exact absurd h2 (hn j h3)
    |up hn2 _=>exact absurd h (hn2 i hi)
  | @up c r hn h ih=>
    generalize hc:(c:Int)=d at h'
    cases h' with
    |none h2=>omega
    | @hit _ j _ hj h2 _=>exact absurd (hc▸h2) (hn j hj)
    | @up c' r' hn2 h2=>
      have:c=c' :=by omega
      subst this
      exact ih h2
theorem Ku {cs:List Cls} (hok:ClsOk cs) {ms:List Mth} (hm:ms.length≤1048576) (sel:Int): ∀c:Nat,c<cs.length→Evp (fun k=>fG.l0 k (c:Int) sel cs ms) (FindM cs ms sel (c:Int)):=by
  intro c
  induction c using Nat.strongRecOn with
  | _ c ih=>
    intro hc
    refine Evp.step (f:=fun k=>_) (fun k=>by rw[fG.l0]) (Evp.yes (by omega) ?_)
    have key: ∀d i:Nat,i+d=ms.length→(∀j,j<i→¬Ans ms (c:Int) sel j)→Evp (fun k=>fG.l1 k (c:Int) sel (i:Int) cs ms) (FindM cs ms sel (c:Int)):=by
      intro d
      induction d with
      | zero=>
        intro i hi hn
        refine Evp.step (f:=fun k=>_) (fun k=>by rw[fG.l1,AC]) (Evp.no (by omega) (Evp.yes (by omega) (Evp.yes (by omega) ?_)))
        have up: ∀r,FindM cs ms sel (sup cs c) r→FindM cs ms sel (c:Int) r:=fun r hr=> .up (fun j hj=>hn j (by omega)) hr
        rcases Nat.eq_zero_or_pos c with h0|h0
        · have hs:sup cs c= -1:=by rw[h0];exact hok.root.1
          rw[hs]
          exact Evp.step (f:=fun k=>_) (fun k=>by rw[fG.l0]) (Evp.no (by omega) (Evp.pure _ (up _ (by rw[hs];exact .none (by omega)))))
        · obtain⟨p,hp,hlt⟩:=hok.sup_nat h0 hc
          rw[hp]
          exact(ih p hlt (by omega)).mono fun r hr=>up r (by rw[hp];exact hr)
      | succ d ihd=>
        intro i hi hn
        have hil:i<ms.length:=by omega
        have next: ¬Ans ms (c:Int) sel i→Evp (fun k=>fG.l1 k (c:Int) sel (wrap64 ((i:Int)+1)) cs ms) (FindM cs ms sel (c:Int)):=fun ha=>by
          rw[uV (n:=ms.length) hil (by omega)]
          refine ihd (i+1) (by omega) fun j hj=> ?_
          rcases Nat.eq_or_lt_of_le (Nat.le_of_lt_succ hj)with rfl|h2
          ·exact ha
          ·exact hn j h2
        refine Evp.step (f:=fun k=>_) (fun k=>by rw[fG.l1,Ei]) (Evp.yes (by omega) (Evp.yes (by omega) (Evp.ite (fun h1=>Evp.ite (fun h2=>Evp.pure _ (.hit (by omega) hil ⟨h1,h2⟩ hn)) (fun h2=>next fun h=>h2 h.2)) (fun h1=>next fun h=>h1 h.1))))
    exact key ms.length 0 (by omega) (fun j hj=>absurd hj (Nat.not_lt_zero _))
def Kb (cs:List Cls) (ms:List Mth) (c sel r:Int):Prop:=(UnitOk_ cs ms∧(0≤c∧c<(cs.length:Int))∧FindM cs ms sel c r)∨(¬(UnitOk_ cs ms∧(0≤c∧c<(cs.length:Int)))∧r= -1)
theorem Kb.fn {cs:List Cls} {ms:List Mth} {c sel r r' :Int} (h:Kb cs ms c sel r) (h' :Kb cs ms c sel r'):r=r' :=by
  rcases h with h1|h1<;>rcases h' with h2|h2
  ·exact h1.2.2.fn h2.2.2
  ·exact absurd ⟨h1.1,h1.2.1⟩ h2.1
  ·exact absurd ⟨h2.1,h2.2.1⟩ h1.1
  ·rw[h1.2,h2.2]
end Go.Proofs.Ytojpejfcafbafaa.Kit
end
section
namespace Go.Proofs.Ytojpejfcafbafaa.Kit
open Go Go.RowKit Go.Proofs.YtojpejfcafbafaaW.PrintWords Go.Proofs.Ytojpejfcafbafaa.P
set_option linter.unusedVariables false
structure SigOk (n:Nat) (m:Mth):Prop where
  a:Tys n m.f2
  l:m.f2.length≤10
  o:iY n m.f3
def ww (n:Nat) (ms:List Mth):Prop:=ms.length≤1000∧∀m∈ms,SigOk n m
theorem ww.at {n:Nat} {ms:List Mth} (h:ww n ms) {i:Int} (h0:0≤i) (h1:i<ms.length):SigOk n (ay ms i):=h.2 _ (by
  show ms.getD _ _∈ms
  rw[List.getD_eq_getElem?_getD,List.getElem?_eq_getElem (by omega)];exact List.getElem_mem _)
theorem FindM.lt {cs:List Cls} {ms:List Mth} {sel c r:Int} (h:FindM cs ms sel c r):r<0∨(0≤r∧r<ms.length):=by
  induction h with
  |none h=>left;decide
  |hit hc hi h hn=>right;omega
  |up hn h ih=>exact ih
theorem Im {cs:List Cls} (hok:ClsOk cs) {ms:List Mth} (hms:ww cs.length ms) {L:Nat} {b:Bool} {l st:List Int} (hs:Sho cs.length L l st) {k a b' :Int} (hk:k=20∨k=21) (hx:StepOk cs ms.length L k a b'):Evp (fun n=>rD.f n cs ms k a b' b l st) (SR cs.length L b):=by
  have hlen:=(tT.1 hok).2.1
  have j0: ∀(q:Int) (ts:List Int),(q<0∨(0≤q∧q<ms.length))→Tys cs.length ts→ts.length≤2→Evp (fun n=>rD.j0 n q ts cs ms b l st) (SR cs.length L b):=fun q ts hq ht hl=>by
    refine Evp.step (f:=fun n=>_) (fun n=>by rw[rD.j0]) (Evp.ite (fun _=>Evp.pure _ ⟨rfl,hs⟩) fun h=> ?_)
    have hq:0≤q∧q<ms.length:=by omega
    have hsig:=hms.at hq.1 hq.2
    have hl2:=hsig.l
    exact Evp.yes hq.1 (Evp.yes hq.2 (Evp.yes (by omega) (Evp.bind (xX hok hs (ht.app hsig.a) (by simp;omega)) fun r hr=>SR.some4 (hr.push hsig.o))))
  unfold rD.f
  simp only[Option.bind_some,List.nil_append,List.length_nil]
  refine Evp.ite (fun h=> ?_) fun h=>j0 _ _ (.inr (hx.call (by omega))) (by intro t ht;simp at ht) (by simp)
  have hc:=hx.cls (by omega)
  have ea:((a.toNat:Nat):Int)=a:=by omega
  have hf:=Ku hok (ms:=ms) (by have:=hms.1;omega) b' a.toNat (by omega)
  rw[ea]at hf
  have w:wrap64 (8+a)=8+a:=by unfold wrap64;omega
  rw[w]
  refine Evp.bind (g:=fun n=>fG.f n cs ms a b') hf fun q hq=>Evp.yes (by omega) (j0 _ _ hq.lt (yu (yV hc.1 hc.2)) (by simp))
theorem BS (b:Bool) {n L:Nat} {l st:List Int} (hs:Sho n L l st) (hL:L≤1000):rT.f b l st=some (b,l,st):=by
  have h1:=hs.sl
  have h2:=hs.ll
  unfold rT.f
  simp only[Option.bind_some,List.nil_append,List.length_nil]
  rw[if_pos (by omega),if_pos (by omega)]
theorem Ej {cs:List Cls} (hok:ClsOk cs) {ms:List Mth} (hms:ww cs.length ms) {L:Nat} (hL:L≤1000) {b:Bool} {l st:List Int} (hs:Sho cs.length L l st) {m0 m1:Int} {m2:List Int} {m3 m4:Int} {m5:List Ins} {m6:List kR} {m7:List Cth} (ho:iY cs.length m3)
    {at_:Int} (h0:0≤at_) (h1:at_<m5.length) (hx:StepOk cs ms.length L (bB m5 at_).f0 (bB m5 at_).f1 (bB m5 at_).f2):
    Evp (fun n=>sF.f n cs ms m0 m1 m2 m3 m4 m5 m6 m7 at_ b l st) (SR cs.length L b):=by
  unfold sF.f
  refine Evp.yes h0 (Evp.yes h1 ?_)
  rw[BS b hs hL]
  simp only[Option.bind_some]
  refine Evp.ite (fun _=>SR.some (xX hok hs (yu ho) (by simp))) fun _=>Evp.ite (fun h=>SR.some (Im hok hms hs (.inl h) hx)) fun _=>Evp.ite (fun h=>SR.some (Im hok hms hs (.inr h) hx)) fun _=> ?_
  rw[ui]
  simp only[Option.bind_some,decide_eq_true_eq]
  exact Evp.ite (fun h=>SR.some (Lm hok hs h hx)) fun _=>SR.some (Ll hok hs hx)
def rks (l:List Int):Nat:=(l.map rk).sum
theorem Jn: ∀(l:List Int) (i:Nat) (a t:Int),l[i]? =some a→rks (l.set i t)+rk a=rks l+rk t
  | [],i,a,t,h=>by simp at h
  |x::l,0,a,t,h=>by simp at h;subst h;simp[rks];omega
  | x::l,i+1,a,t,h=>by
    have:=Jn l i a t (by simpa using h)
    simp[rks]at this⊢;omega
theorem Io: ∀l:List Int,rks l≤20 * l.length
  | []=>by simp[rks]
  |x::l=>by have:=Io l;have:=J9 x;simp[rks]at *;omega
structure Upp (n:Nat) (l out:List Int):Prop where
  len:out.length=l.length
  ty:Tys n out
  le:rks l≤rks out
  eq:rks out=rks l→out=l
theorem Upp.refl {n:Nat} {l:List Int} (h:Tys n l):Upp n l l:=⟨rfl,h,Nat.le_refl _,fun _=>rfl⟩
theorem Upp.set {n:Nat} {l out:List Int} (h:Upp n l out) {i:Nat} {a t:Int} (ho:out[i]? =some a) (ht:iY n t) (h1:rk a≤rk t) (h2:rk t=rk a→t=a):Upp n l (out.set i t):=by
  have e:=Jn out i a t ho
  have hle:=h.le
  refine⟨by simpa using h.len,h.ty.set i ht,by omega,fun he=> ?_⟩
  have e1:rk t=rk a:=by omega
  have e2:rks out=rks l:=by omega
  rw[h2 e1,←h.eq e2]
  apply List.ext_getElem?
  intro j
  rw[List.getElem?_set]
  split
  · rename_i hij;subst hij
    split
    ·exact ho.symm
    ·rename_i hn;rw[List.getElem?_eq_none (by omega)]
  ·rfl
theorem Lp {l:List Int} {i:Nat} (h:i<l.length):l[i]? =some (rd l (i:Int)):=by
  show _=some (l.getD _ _)
  rw[List.getD_eq_getElem?_getD,show((i:Int)).toNat=i from by omega,List.getElem?_eq_getElem h];rfl
theorem El {cs:List Cls} (hok:ClsOk cs) {L:Nat} {ba bb:Bool} {l st l' st' :List Int} (hL:L≤1000) (ha:Sho cs.length L l st) (hb:Sho cs.length L l' st'):Evp (fun k=>fK.f k cs ba l st bb l' st') (fun r=>l=l' →st=st' →r=true):=by
  have h1:=ha.ll;have h2:=hb.ll;have h3:=ha.sl
  unfold fK.f
  refine Evp.ite (fun he=> ?_) (fun he=>Evp.pure _ fun _ e=>absurd (by rw[e]) he)
  have l1:Evp (fun k=>fK.l1 k cs 0 ba l st bb l' st') (fun r=>l=l' →st=st' →r=true):=by
    refine Evp.for_ (n:=st.length) (g:=fun i k=>fK.l1 k cs (i:Int) ba l st bb l' st') (R:=fun _ r=>l=l' →st=st' →r=true) ?_ ?_ 0 (Nat.zero_le _)
    ·exact Evp.step (f:=fun k=>_) (fun k=>by rw[fK.l1]) (Evp.no (by omega) (Evp.pure _ fun _ _=>rfl))
    · intro i hi ih
      have w:wrap64 ((i:Int)+1)=((i+1:Nat):Int):=by unfold wrap64;omega
      refine Evp.step (f:=fun k=>_) (fun k=>by rw[fK.l1]) (Evp.yes (by omega) (Evp.yes (by omega) (Evp.yes (by omega) ?_)))
      rw[w]
      refine Evp.bind (CO hok (ha.ts.rd (by omega) (by omega)) (hb.ts.rd (by omega) (by omega))) fun r hr=>Evp.ite (fun _=>ih) fun hn=>Evp.pure _ fun _ e=>absurd (hr.2 (.inl (by rw[e]))) hn
  refine Evp.for_ (n:=l.length) (g:=fun i k=>fK.l0 k cs (i:Int) ba l st bb l' st') (R:=fun _ r=>l=l' →st=st' →r=true) ?_ ?_ 0 (Nat.zero_le _)
  ·exact Evp.step (f:=fun k=>_) (fun k=>by rw[fK.l0]) (Evp.no (by omega) l1)
  · intro i hi ih
    have w:wrap64 ((i:Int)+1)=((i+1:Nat):Int):=by unfold wrap64;omega
    refine Evp.step (f:=fun k=>_) (fun k=>by rw[fK.l0]) (Evp.yes (by omega) (Evp.yes (by omega) (Evp.yes (by omega) ?_)))
    rw[w]
    refine Evp.bind (CO hok (ha.lt.rd (by omega) (by omega)) (hb.lt.rd (by omega) (by omega))) fun r hr=>Evp.ite (fun _=>ih) fun hn=>Evp.pure _ fun e _=>absurd (hr.2 (.inl (by rw[e]))) hn
def JR (n L:Nat) (l st:List Int) (r:Bool×List Int×List Int):Prop:=r.1=true→Upp n l r.2.1∧Upp n st r.2.2
theorem Ke {cs:List Cls} (hok:ClsOk cs) {L:Nat} {ba bb:Bool} {l st l' st' :List Int} (hL:L≤1000) (ha:Sho cs.length L l st) (hb:Sho cs.length L l' st'):Evp (fun k=>fA.f k cs ba l st bb l' st') (JR cs.length L l st):=by
  have h1:=ha.ll;have h2:=hb.ll;have h3:=ha.sl
  have none:sD.f=some (false, [], []):=rfl
  unfold fA.f
  rw[BS ba ha hL]
  simp only[Option.bind_some]
  refine Evp.ite (fun he=> ?_) (fun he=>by rw[none];exact Evp.pure _ fun h=>by cases h)
  have l1: ∀o1,Upp cs.length l o1→Evp (fun k=>fA.l1 k cs 0 ba l st bb l' st' ba o1 st) (JR cs.length L l st):=fun o1 ho1=>by
    refine Evp.fors (n:=st.length) (g:=fun i (o:List Int) k=>fA.l1 k cs (i:Int) ba l st bb l' st' ba o1 o) (I:=fun i o=>Upp cs.length st o∧∀j,i≤j→o[j]? =st[j]?) (R:=fun _ _=>JR cs.length L l st) ?_ ?_ 0 (Nat.zero_le _) st ⟨.refl ha.ts,fun _ _=>rfl⟩
    · rintro o ⟨ho,_⟩
      exact Evp.step (f:=fun k=>_) (fun k=>by rw[fA.l1]) (Evp.no (by omega) (Evp.pure _ fun _=>⟨ho1,ho⟩))
    · rintro i hi ih o ⟨ho,hsame⟩
      have hol:=ho.len
      have w:wrap64 ((i:Int)+1)=((i+1:Nat):Int):=by unfold wrap64;omega
      refine Evp.step (f:=fun k=>_) (fun k=>by rw[fA.l1]) (Evp.yes (by omega) (Evp.yes (by omega) (Evp.yes (by omega) ?_)))
      rw[w]
      refine Evp.bind (Gq hok (ha.ts.rd (by omega) (by omega)) (hb.ts.rd (by omega) (by omega))) fun t ht=>Evp.yes (by omega) (Evp.ite (fun _=>by rw[none];exact Evp.pure _ fun h=>by cases h) fun _=> ?_)
      rw[show((i:Int)).toNat=i from by omega]
      refine ih _ ⟨ho.set ((hsame i (Nat.le_refl _)).trans (Lp hi)) ht.1 ht.2.1 ht.2.2,fun j hj=> ?_⟩
      rw[List.getElem?_set_ne (by omega)];exact hsame j (by omega)
  refine Evp.fors (n:=l.length) (g:=fun i (o:List Int) k=>fA.l0 k cs (i:Int) ba l st bb l' st' ba o st) (I:=fun i o=>Upp cs.length l o∧∀j,i≤j→o[j]? =l[j]?) (R:=fun _ _=>JR cs.length L l st) ?_ ?_ 0 (Nat.zero_le _) l ⟨.refl ha.lt,fun _ _=>rfl⟩
  · rintro o ⟨ho,_⟩
    exact Evp.step (f:=fun k=>_) (fun k=>by rw[fA.l0]) (Evp.no (by omega) (l1 o ho))
  · rintro i hi ih o ⟨ho,hsame⟩
    have hol:=ho.len
    have w:wrap64 ((i:Int)+1)=((i+1:Nat):Int):=by unfold wrap64;omega
    refine Evp.step (f:=fun k=>_) (fun k=>by rw[fA.l0]) (Evp.yes (by omega) (Evp.yes (by omega) (Evp.yes (by omega) ?_)))
    rw[w]
    refine Evp.bind (Gq hok (ha.lt.rd (by omega) (by omega)) (hb.lt.rd (by omega) (by omega))) fun t ht=>Evp.yes (by omega) ?_
    rw[show((i:Int)).toNat=i from by omega]
    refine ih _ ⟨ho.set ((hsame i (Nat.le_refl _)).trans (Lp hi)) ht.1 ht.2.1 ht.2.2,fun j hj=> ?_⟩
    rw[List.getElem?_set_ne (by omega)];exact hsame j (by omega)
def Kg (n L:Nat) (s:kR):Prop:=(s.f0=true→Sho n L s.f1 s.f2)∧(s.f0=false→s.f1= []∧s.f2= [])
def All (n L:Nat) (all:List kR):Prop:= ∀s∈all,Kg n L s
def mu (s:kR):Nat:=if s.f0=true then 1+rks s.f1+rks s.f2 else 0
def mus (l:List kR):Nat:=(l.map mu).sum
theorem FU: ∀(l:List kR) (i:Nat) (a t:kR),l[i]? =some a→mus (l.set i t)+mu a=mus l+mu t
  | [],i,a,t,h=>by simp at h
  |x::l,0,a,t,h=>by simp at h;subst h;simp[mus];omega
  | x::l,i+1,a,t,h=>by
    have:=FU l i a t (by simpa using h)
    simp[mus]at this⊢;omega
theorem OE {n L:Nat} {s:kR} (h:Kg n L s):mu s≤81+20 * L:=by
  unfold mu
  split
  · rename_i hs
    have:=h.1 hs
    have h1:=Io s.f1
    have h2:=Io s.f2
    have h3:=this.ll
    have h4:=this.sl
    omega
  ·omega
theorem Ip {n L:Nat}: ∀ {l:List kR},All n L l→mus l≤(81+20 * L) * l.length
  | [],_=>by simp[mus]
  | x::l,h=>by
    have h1:=OE (h x List.mem_cons_self)
    have h2:=Ip (l:=l) fun s hs=>h s (List.mem_cons_of_mem _ hs)
    have h3:mus (x::l)=mu x+mus l:=by simp[mus]
    rw[h3,List.length_cons,Nat.mul_succ];omega
theorem BU {l:List kR} {i:Int} (h0:0≤i) (h:i<l.length):l[i.toNat]? =some (kw l i):=by
  show _=some (l.getD _ _)
  rw[List.getD_eq_getElem?_getD,List.getElem?_eq_getElem (by omega)];rfl
theorem All.set {n L:Nat} {l:List kR} (h:All n L l) (i:Nat) {s:kR} (hs:Kg n L s):All n L (l.set i s):=fun x hx=>by
  rcases List.mem_or_eq_of_mem_set hx with h1|h1
  ·exact h x h1
  ·subst h1;exact hs
def MR (n L:Nat) (all:List kR) (ch:Bool) (r:Bool×List kR):Prop:=r.2.length=all.length∧All n L r.2∧mus all≤mus r.2∧(r.1=true→ch=true∨mus all<mus r.2)
theorem MR.refl {n L:Nat} {all:List kR} (h:All n L all) (ch:Bool):MR n L all ch (ch,all):=⟨rfl,h,Nat.le_refl _,fun h=> .inl h⟩
theorem MR.trans {n L:Nat} {all:List kR} {ch c2:Bool} {g r:Bool×List kR} (h:MR n L all false g) (hc:c2=true→g.1=true∨ch=true) (h2:MR n L g.2 c2 r):MR n L all ch r:=by
  obtain⟨a1,a2,a3,a4⟩:=h
  obtain⟨b1,b2,b3,b4⟩:=h2
  refine⟨by omega,b2,by omega,fun hr=> ?_⟩
  rcases b4 hr with h|h
  · rcases hc h with h|h
    · rcases a4 h with h|h
      ·cases h
      ·exact .inr (by omega)
    ·exact .inl h
  ·exact .inr (by omega)
theorem CP {cs:List Cls} (hok:ClsOk cs) (ms:List Mth) {L:Nat} (hL:L≤1000) {all:List kR} (ha:All cs.length L all) {i:Int} (h0:0≤i) (h1:i<all.length) {l st:List Int} (hs:Sho cs.length L l st):
    Evp (fun k=>uh.f k cs ms all i true l st) (MR cs.length L all false):=by
  have hg:=BU h0 h1
  have hm:=ha _ (List.mem_of_getElem? hg)
  unfold uh.f
  refine Evp.yes h0 (Evp.yes h1 (Evp.ite (fun hany=> ?_) (fun hany=> ?_)))
  · have hsh:=hm.1 hany
    refine Evp.bind (Ke hok hL hsh hs) fun x hx=>Evp.ite (fun hx1=> ?_) (fun _=>Evp.pure _ (.refl ha false))
    obtain⟨u1,u2⟩:=hx hx1
    have hxs:Sho cs.length L x.2.1 x.2.2:=⟨by rw[u1.len];exact hsh.ll,u1.ty,by rw[u2.len];exact hsh.sl,u2.ty⟩
    refine Evp.bind (El hok hL hxs hsh) fun t ht=>Evp.ite (fun _=>Evp.pure _ (.refl ha false)) (fun hn=>Evp.pure _ ?_)
    have e:=FU all i.toNat _ (⟨x.1,x.2.1,x.2.2⟩:kR) hg
    have m1:mu (kw all i)=1+rks (kw all i).f1+rks (kw all i).f2:=by unfold mu;rw[if_pos hany]
    have m2:mu (⟨x.1,x.2.1,x.2.2⟩:kR)=1+rks x.2.1+rks x.2.2:=by unfold mu;rw[if_pos hx1]
    have g1:=u1.le
    have g2:=u2.le
    have g3:mus all<mus (all.set i.toNat ⟨x.1,x.2.1,x.2.2⟩):=by
      refine Decidable.byContradiction fun hlt=>hn (ht (u1.eq (by omega)) (u2.eq (by omega)))
    exact⟨by simp,ha.set _ ⟨fun _=>hxs,fun h=>absurd (hx1.symm.trans h) (by decide)⟩,by show mus all≤mus (all.set i.toNat ⟨x.1,x.2.1,x.2.2⟩);omega,fun _=> .inr g3⟩
  · rw[BS true hs hL]
    simp only[Option.bind_some]
    have e:=FU all i.toNat _ (⟨true,l,st⟩:kR) hg
    have m1:mu (kw all i)=0:=by unfold mu;rw[if_neg hany]
    have m2:mu (⟨true,l,st⟩:kR)=1+rks l+rks st:=rfl
    have g3:mus all<mus (all.set i.toNat ⟨true,l,st⟩):=by omega
    exact Evp.pure _ ⟨by simp,ha.set _ ⟨fun _=>hs,fun h=>by cases h⟩,by show mus all≤mus (all.set i.toNat ⟨true,l,st⟩);omega,fun _=> .inr g3⟩
structure MethW (cs:List Cls) (nm L:Nat) (m3:Int) (m5:List Ins) (m7:List Cth):Prop where
  o:iY cs.length m3
  ins: ∀x∈m5,StepOk cs nm L x.f0 x.f1 x.f2∧(8≤x.f0∧x.f0≤11→0≤x.f1∧x.f1<m5.length)
  c: ∀x∈m7,(0≤x.f2∧x.f2<m5.length)∧0≤x.f3∧x.f3<cs.length
  len:m5.length≤1000∧m7.length≤1000
theorem MethW.at {cs:List Cls} {nm L:Nat} {m3:Int} {m5:List Ins} {m7:List Cth} (h:MethW cs nm L m3 m5 m7) {i:Int} (h0:0≤i) (h1:i<m5.length):StepOk cs nm L (bB m5 i).f0 (bB m5 i).f1 (bB m5 i).f2∧(8≤(bB m5 i).f0∧(bB m5 i).f0≤11→0≤(bB m5 i).f1∧(bB m5 i).f1<m5.length):=h.ins _ (by
  show m5.getD _ _∈m5
  rw[List.getD_eq_getElem?_getD,List.getElem?_eq_getElem (by omega)];exact List.getElem_mem _)
theorem MethW.atc {cs:List Cls} {nm L:Nat} {m3:Int} {m5:List Ins} {m7:List Cth} (h:MethW cs nm L m3 m5 m7) {i:Int} (h0:0≤i) (h1:i<m7.length):(0≤(fJ m7 i).f2∧(fJ m7 i).f2<m5.length)∧0≤(fJ m7 i).f3∧(fJ m7 i).f3<cs.length:=h.c _ (by
  show m7.getD _ _∈m7
  rw[List.getD_eq_getElem?_getD,List.getElem?_eq_getElem (by omega)];exact List.getElem_mem _)
theorem BV (a b c:Int):uJ.f a b c=some (decide (8≤a∧a≤11)):=by
  unfold uJ.f;rw[ui];rfl
theorem FV (a b c:Int): ∃e,vF.f a b c=some e:=by
  unfold vF.f;split
  ·exact⟨_,rfl⟩
  ·split<;>exact⟨_,rfl⟩
theorem Gr {n L:Nat} {a b c d:Int} {e:Bool} {l st:List Int} (hs:Sho n L l st) (hL:L≤1000):vD.f a b c d e l st=some (true,l, [wrap64 (8+d)]):=by
  have h2:=hs.ll
  unfold vD.f
  simp only[Option.bind_some,List.nil_append,List.length_nil]
  rw[if_pos (by omega)]
section
variable {cs:List Cls} {ms:List Mth} {L:Nat} {m0 m1:Int} {m2:List Int} {m3 m4:Int} {m5:List Ins} {m6:List kR} {m7:List Cth}
theorem sK (i:Nat) (h:i≤100000):wrap64 ((i:Int)+1)=((i+1:Nat):Int):=by unfold wrap64;omega
theorem CQ (hok:ClsOk cs) (hL:L≤1000) (hm:MethW cs ms.length L m3 m5 m7) {at_:Int} (h0:0≤at_) (h1:at_<m5.length) {ch:Bool} {all:List kR} (ha:All cs.length L all) (hl:all.length=m5.length) {l st:List Int} (hs:Sho cs.length L l st):
    Evp (fun k=>bE.j0 k ch all cs ms m0 m1 m2 m3 m4 m5 m6 m7 at_ true l st) (MR cs.length L all ch):=by
  have hlen:=hm.len
  obtain⟨e,he⟩:=FV (bB m5 at_).f0 (bB m5 at_).f1 (bB m5 at_).f2
  have w:wrap64 (at_+1)=at_+1:=by unfold wrap64;omega
  refine Evp.step (f:=fun k=>_) (fun k=>by rw[bE.j0]) (Evp.yes h0 (Evp.yes h1 ?_))
  rw[he,w]
  simp only[Option.bind_some]
  refine Evp.ite (fun _=>Evp.pure _ (.refl ha ch)) fun _=>Evp.ite (fun h2=> ?_) fun _=>Evp.pure _ (.refl ha ch)
  refine Evp.bind (CP hok ms hL ha (i:=at_+1) (by omega) (by omega) hs) fun g hg=>Evp.ite (fun hg1=>Evp.pure _ ?_) fun _=>Evp.pure _ ?_
  ·exact MR.trans hg (c2:=true) (fun _=> .inl hg1) (.refl hg.2.1 true)
  ·exact MR.trans hg (c2:=ch) (fun h=> .inr h) (.refl hg.2.1 ch)
theorem EZ (hok:ClsOk cs) (hms:ww cs.length ms) (hL:L≤1000) (hm:MethW cs ms.length L m3 m5 m7) {at_:Int} (h0:0≤at_) (h1:at_<m5.length) {all:List kR} (ha:All cs.length L all) (hl:all.length=m5.length):
    Evp (fun k=>bE.f k cs ms m0 m1 m2 m3 m4 m5 m6 m7 all at_) (MR cs.length L all false):=by
  have hlen:=hm.len
  have hclen:=(tT.1 hok).2.1
  have hg:=BU h0 (l:=all) (by omega)
  have hk:=ha _ (List.mem_of_getElem? hg)
  unfold bE.f
  refine Evp.yes h0 (Evp.yes (by omega) (Evp.ite (fun hany=> ?_) fun _=>Evp.pure _ (.refl ha false)))
  have hs:=hk.1 hany
  rw[hany]
  generalize (kw all at_).f1=l at hs
  generalize (kw all at_).f2=st at hs
  have hx:=hm.at h0 h1
  refine Evp.fors (n:=m7.length) (g:=fun i (s:Bool×List kR) k=>bE.l0 k (i:Int) s.1 s.2 cs ms m0 m1 m2 m3 m4 m5 m6 m7 at_ true l st) (I:=fun _ s=>All cs.length L s.2∧s.2.length=m5.length) (R:=fun _ s=>MR cs.length L s.2 s.1) ?_ ?_ 0 (Nat.zero_le _) (false,all) ⟨ha,hl⟩
  · rintro⟨ch,al⟩ ⟨hal,hll⟩
    have hal:All cs.length L al:=hal
    have hll:al.length=m5.length:=hll
    refine Evp.step (f:=fun k=>_) (fun k=>by rw[bE.l0]) (Evp.no (by omega) ?_)
    refine Evp.bind (Ej hok hms hL hs hm.o h0 h1 hx.1) ?_
    rintro⟨b,l',st',ok⟩ ⟨hb,hsh⟩
    have hb:b=true:=hb
    subst hb
    have hsh:Sho cs.length L l' st' :=hsh
    refine Evp.ite (fun _=>Evp.yes h0 (Evp.yes h1 ?_)) fun _=>Evp.pure _ (.refl hal ch)
    rw[BV]
    simp only[Option.bind_some,decide_eq_true_eq]
    refine Evp.ite (fun hj=> ?_) fun _=>CQ hok hL hm h0 h1 hal hll hsh
    have hx2:=hx.2 hj
    refine Evp.bind (CP hok ms hL hal hx2.1 (by omega) hsh) fun g hg=>Evp.ite (fun hg1=> ?_) fun _=> ?_
    ·exact(CQ hok hL hm h0 h1 hg.2.1 (by rw[hg.1];exact hll) hsh).mono fun r hr=>MR.trans hg (c2:=true) (fun _=> .inl hg1) hr
    ·exact(CQ hok hL hm h0 h1 hg.2.1 (by rw[hg.1];exact hll) hsh).mono fun r hr=>MR.trans hg (c2:=ch) (fun h=> .inr h) hr
  · rintro i hi ih ⟨ch,al⟩ ⟨hal,hll⟩
    have hal:All cs.length L al:=hal
    have hll:al.length=m5.length:=hll
    have hc:=hm.atc (i:=(i:Int)) (by omega) (by omega)
    refine Evp.step (f:=fun k=>_) (fun k=>by rw[bE.l0]) (Evp.yes (by omega) (Evp.yes (by omega) ?_))
    rw[ui,sK i (by omega)]
    simp only[Option.bind_some,decide_eq_true_eq]
    refine Evp.ite (fun _=> ?_) fun _=>ih (ch,al) ⟨hal,hll⟩
    rw[Gr hs hL]
    simp only[Option.bind_some]
    have w8:wrap64 (8+(fJ m7 (i:Int)).f3)=8+(fJ m7 (i:Int)).f3:=by unfold wrap64;omega
    rw[w8]
    have hsc:Sho cs.length L l [8+(fJ m7 (i:Int)).f3]:=⟨hs.ll,hs.lt,by simp,yu (yV hc.2.1 hc.2.2)⟩
    refine Evp.bind (CP hok ms hL hal hc.1.1 (by omega) hsc) fun g hg=>Evp.ite (fun hg1=> ?_) fun _=> ?_
    ·exact(ih (true,g.2) ⟨hg.2.1,by show g.2.length=_;rw[hg.1];exact hll⟩).mono fun r hr=>MR.trans hg (c2:=true) (fun _=> .inl hg1) hr
    ·exact(ih (ch,g.2) ⟨hg.2.1,by show g.2.length=_;rw[hg.1];exact hll⟩).mono fun r hr=>MR.trans hg (c2:=ch) (fun h=> .inr h) hr
end
section
variable {cs:List Cls} {ms:List Mth} {L:Nat} {m0 m1:Int} {m2:List Int} {m3 m4:Int} {m5:List Ins} {m6:List kR} {m7:List Cth}
theorem Kh (h5:m5.length≤1000) (h7:m7.length≤1000) {a:Int} (h0:0≤a) (h1:a<m5.length):Evp (fun k=>bA.f k m0 m1 m2 m3 m4 m5 m6 m7 a) (fun _=>True):=by
  have l1:Evp (fun k=>bA.l1 k a 0 m0 m1 m2 m3 m4 m5 m6 m7) (fun _=>True):=by
    refine Evp.for_ (n:=m7.length) (g:=fun i k=>bA.l1 k a (i:Int) m0 m1 m2 m3 m4 m5 m6 m7) (R:=fun _ _=>True) ?_ ?_ 0 (Nat.zero_le _)
    ·exact Evp.step (f:=fun k=>_) (fun k=>by rw[bA.l1]) (Evp.no (by omega) (Evp.pure _ trivial))
    · intro i hi ih
      refine Evp.step (f:=fun k=>_) (fun k=>by rw[bA.l1]) (Evp.yes (by omega) (Evp.yes (by omega) ?_))
      rw[sK i (by omega)]
      exact Evp.ite (fun _=>Evp.pure _ trivial) fun _=>ih
  have l0:Evp (fun k=>bA.l0 k a 0 m0 m1 m2 m3 m4 m5 m6 m7) (fun _=>True):=by
    refine Evp.for_ (n:=m5.length) (g:=fun i k=>bA.l0 k a (i:Int) m0 m1 m2 m3 m4 m5 m6 m7) (R:=fun _ _=>True) ?_ ?_ 0 (Nat.zero_le _)
    ·exact Evp.step (f:=fun k=>_) (fun k=>by rw[bA.l0]) (Evp.no (by omega) l1)
    · intro i hi ih
      refine Evp.step (f:=fun k=>_) (fun k=>by rw[bA.l0]) (Evp.yes (by omega) (Evp.yes (by omega) ?_))
      rw[BV,sK i (by omega)]
      simp only[Option.bind_some]
      exact Evp.ite (fun _=>Evp.ite (fun _=>Evp.pure _ trivial) fun _=>ih) fun _=>ih
  have j0: ∀b,Evp (fun k=>bA.j0 k a b m0 m1 m2 m3 m4 m5 m6 m7) (fun _=>True):=fun b=>
    Evp.step (f:=fun k=>_) (fun k=>by rw[bA.j0]) (Evp.ite (fun _=>Evp.pure _ trivial) fun _=>l0)
  unfold bA.f
  refine Evp.ite (fun h=> ?_) fun _=>j0 false
  have w:wrap64 (a - 1)=a - 1:=by unfold wrap64;omega
  rw[w]
  obtain⟨e,he⟩:=FV (bB m5 (a - 1)).f0 (bB m5 (a - 1)).f1 (bB m5 (a - 1)).f2
  rw[he]
  simp only[Option.bind_some]
  exact Evp.yes (by omega) (Evp.yes (by omega) (j0 e))
structure HdOk (n L:Nat) (m0:Int) (m2:List Int) (m4:Int):Prop where
  l:m4=L
  c:0≤m0→m0<n
  t:Tys n m2
  g:m2.length+(if 0≤m0 then 1 else 0)≤L
theorem CR (hn:cs.length≤5) (hL:L≤1000) (hh:HdOk cs.length L m0 m2 m4):Evp (fun k=>kV.f k m0 m1 m2 m3 m4 m5 m6 m7) (fun r=>r.1=true∧r.2.2= []∧Sho cs.length L r.2.1 r.2.2):=by
  have hg:=hh.g
  have h4:=hh.l
  have given: ∃gv,wI.f m0 m1 m2 m3 m4 m5 m6 m7=some gv∧Tys cs.length gv∧gv.length≤L:=by
    unfold wI.f
    simp only[Option.bind_some,List.nil_append,List.length_nil]
    split
    · rename_i h
      rw[if_pos (by omega),if_pos (by have:=hg;simp;split at this<;>omega)]
      have w:wrap64 (8+m0)=8+m0:=by have:=hh.c h;unfold wrap64;omega
      rw[w]
      exact⟨_,rfl,(yu (yV h (hh.c h))).app hh.t,by simp;split at hg<;>omega⟩
    · rename_i h
      rw[if_pos (by split at hg<;>omega)]
      exact⟨_,rfl,hh.t,by split at hg<;>omega⟩
  obtain⟨gv,hgv,ht,hl⟩:=given
  unfold kV.f
  rw[hgv]
  simp only[Option.bind_some]
  have key: ∀d (o:List Int),o.length+d=L→Tys cs.length o→Evp (fun k=>kV.l0 k m0 m1 m2 m3 m4 m5 m6 m7 true o []) (fun r=>r.1=true∧r.2.2= []∧Sho cs.length L r.2.1 r.2.2):=by
    intro d
    induction d with
    | zero=>
      intro o ho hto
      exact Evp.step (f:=fun k=>_) (fun k=>by rw[kV.l0]) (Evp.no (by omega) (Evp.pure _ ⟨rfl,rfl,⟨by omega,hto,by simp,fun t ht=>by simp at ht⟩⟩))
    | succ d ih=>
      intro o ho hto
      exact Evp.step (f:=fun k=>_) (fun k=>by rw[kV.l0]) (Evp.yes (by omega) (Evp.yes (by omega) (ih _ (by simp;omega) (hto.snoc (xI (by decide) (by decide))))))
  exact key (L - gv.length) gv (by omega) ht
theorem All.none {n L:Nat}:Kg n L (⟨false, [], []⟩:kR):=⟨fun h=>(by cases h),fun _=>⟨rfl,rfl⟩⟩
theorem Lr (hok:ClsOk cs) (hms:ww cs.length ms) (hL:L≤1000) (hm:MethW cs ms.length L m3 m5 m7) (hh:HdOk cs.length L m0 m2 m4) (hne:0<m5.length):
    Evp (fun k=>aS.f k cs ms m0 m1 m2 m3 m4 m5 m6 m7) (fun r=>r.length=m5.length∧All cs.length L r):=by
  have hlen:=hm.len
  have hclen:=(tT.1 hok).2.1
  have none:sD.f=some (false, [], []):=rfl
  have l3: ∀all:List kR,All cs.length L all→all.length=m5.length→Evp (fun k=>aS.l3 k 0 all cs ms m0 m1 m2 m3 m4 m5 m6 m7) (fun r=>r.length=m5.length∧All cs.length L r):=fun all ha hl=>by
    refine Evp.fors (n:=m5.length) (g:=fun i (s:List kR) k=>aS.l3 k (i:Int) s cs ms m0 m1 m2 m3 m4 m5 m6 m7) (I:=fun _ s=>All cs.length L s∧s.length=m5.length) (R:=fun _ _ r=>r.length=m5.length∧All cs.length L r) ?_ ?_ 0 (Nat.zero_le _) all ⟨ha,hl⟩
    · rintro al ⟨h1,h2⟩
      exact Evp.step (f:=fun k=>_) (fun k=>by rw[aS.l3]) (Evp.no (by omega) (Evp.pure _ ⟨h2,h1⟩))
    · rintro i hi ih al ⟨h1,h2⟩
      refine Evp.step (f:=fun k=>_) (fun k=>by rw[aS.l3]) (Evp.yes (by omega) ?_)
      rw[sK i (by omega),none]
      simp only[Option.bind_some]
      exact Evp.bind (Kh hlen.1 hlen.2 (by omega) (by omega)) fun t _=>Evp.ite (fun _=>ih al ⟨h1,h2⟩) fun _=>Evp.yes (by omega) (Evp.yes (by omega) (ih _ ⟨h1.set _ All.none,by simpa using h2⟩))
  have l1 : ∀d (all:List kR) (ch:Bool),All cs.length L all→all.length=m5.length→(81+20 * L) * m5.length - mus all≤d→Evp (fun k=>aS.l1 k ch all cs ms m0 m1 m2 m3 m4 m5 m6 m7) (fun r=>r.length=m5.length∧All cs.length L r):=by
    intro d
    induction d with
    | zero=>
      intro all ch ha hl hd
      refine Evp.step (f:=fun k=>_) (fun k=>by rw[aS.l1]) (Evp.ite (fun _=> ?_) fun _=>l3 all ha hl)
      refine Evp.fors (n:=m5.length) (g:=fun i (s:Bool×List kR) k=>aS.l2 k s.1 (i:Int) s.2 cs ms m0 m1 m2 m3 m4 m5 m6 m7) (I:=fun _ s=>(All cs.length L s.2∧s.2.length=m5.length)∧mus all≤mus s.2∧(s.1=true→mus all<mus s.2)) (R:=fun _ _ r=>r.length=m5.length∧All cs.length L r) ?_ ?_ 0 (Nat.zero_le _) (false,all) ⟨⟨ha,hl⟩,Nat.le_refl _,fun h=>by cases h⟩
      · rintro⟨c,al⟩ ⟨⟨h1,h2⟩,h3,h4⟩
        have hb:=Ip h1
        have h2:al.length=m5.length:=h2
        have h4:c=true→mus all<mus al:=h4
        have hb:mus al≤(81+20 * L) * m5.length:=by rw[←h2];exact hb
        refine Evp.step (f:=fun k=>_) (fun k=>by rw[aS.l2]) (Evp.no (by omega) ?_)
        cases c with
        |true=>exact absurd (h4 rfl) (by omega)
        |false=>exact Evp.step (f:=fun k=>_) (fun k=>by rw[aS.l1]) (Evp.no (by simp) (l3 al h1 h2))
      · rintro i hi ih ⟨c,al⟩ ⟨⟨h1,h2⟩,h3,h4⟩
        have h2:al.length=m5.length:=h2
        have h3:mus all≤mus al:=h3
        have h4:c=true→mus all<mus al:=h4
        refine Evp.step (f:=fun k=>_) (fun k=>by rw[aS.l2]) (Evp.yes (by omega) ?_)
        rw[sK i (by omega)]
        refine Evp.bind (EZ hok hms hL hm (by omega) (by omega) h1 h2) fun g hg=>Evp.ite (fun hg1=> ?_) fun _=> ?_
        ·exact ih (true,g.2) ⟨⟨hg.2.1,by show g.2.length=_;rw[hg.1];exact h2⟩,by have:=hg.2.2.1;show mus all≤mus g.2;omega,fun _=>by
            rcases hg.2.2.2 hg1 with h|h
            ·cases h
            ·show mus all<mus g.2;omega⟩
        ·exact ih (c,g.2) ⟨⟨hg.2.1,by show g.2.length=_;rw[hg.1];exact h2⟩,by have:=hg.2.2.1;show mus all≤mus g.2;omega,fun h=>by have hx:mus al≤mus g.2:=hg.2.2.1;have:=h4 h;show mus all<mus g.2;omega⟩
    | succ d ihd=>
      intro all ch ha hl hd
      refine Evp.step (f:=fun k=>_) (fun k=>by rw[aS.l1]) (Evp.ite (fun _=> ?_) fun _=>l3 all ha hl)
      refine Evp.fors (n:=m5.length) (g:=fun i (s:Bool×List kR) k=>aS.l2 k s.1 (i:Int) s.2 cs ms m0 m1 m2 m3 m4 m5 m6 m7) (I:=fun _ s=>(All cs.length L s.2∧s.2.length=m5.length)∧mus all≤mus s.2∧(s.1=true→mus all<mus s.2)) (R:=fun _ _ r=>r.length=m5.length∧All cs.length L r) ?_ ?_ 0 (Nat.zero_le _) (false,all) ⟨⟨ha,hl⟩,Nat.le_refl _,fun h=>by cases h⟩
      · rintro⟨c,al⟩ ⟨⟨h1,h2⟩,h3,h4⟩
        have hb:=Ip h1
        have h2:al.length=m5.length:=h2
        have h4:c=true→mus all<mus al:=h4
        have hb:mus al≤(81+20 * L) * m5.length:=by rw[←h2];exact hb
        refine Evp.step (f:=fun k=>_) (fun k=>by rw[aS.l2]) (Evp.no (by omega) ?_)
        cases c with
        |true=>have:=h4 rfl;exact ihd al true h1 h2 (by omega)
        |false=>exact Evp.step (f:=fun k=>_) (fun k=>by rw[aS.l1]) (Evp.no (by simp) (l3 al h1 h2))
      · rintro i hi ih ⟨c,al⟩ ⟨⟨h1,h2⟩,h3,h4⟩
        have h2:al.length=m5.length:=h2
        have h3:mus all≤mus al:=h3
        have h4:c=true→mus all<mus al:=h4
        refine Evp.step (f:=fun k=>_) (fun k=>by rw[aS.l2]) (Evp.yes (by omega) ?_)
        rw[sK i (by omega)]
        refine Evp.bind (EZ hok hms hL hm (by omega) (by omega) h1 h2) fun g hg=>Evp.ite (fun hg1=> ?_) fun _=> ?_
        ·exact ih (true,g.2) ⟨⟨hg.2.1,by show g.2.length=_;rw[hg.1];exact h2⟩,by have:=hg.2.2.1;show mus all≤mus g.2;omega,fun _=>by
            rcases hg.2.2.2 hg1 with h|h
            ·cases h
            ·show mus all<mus g.2;omega⟩
        ·exact ih (c,g.2) ⟨⟨hg.2.1,by show g.2.length=_;rw[hg.1];exact h2⟩,by have:=hg.2.2.1;show mus all≤mus g.2;omega,fun h=>by have hx:mus al≤mus g.2:=hg.2.2.1;have:=h4 h;show mus all<mus g.2;omega⟩
  unfold aS.f
  refine Evp.fors (n:=m5.length) (g:=fun i (s:List kR) k=>aS.l0 k (i:Int) s cs ms m0 m1 m2 m3 m4 m5 m6 m7) (I:=fun i s=>All cs.length L s∧s.length=i) (R:=fun _ _ r=>r.length=m5.length∧All cs.length L r) ?_ ?_ 0 (Nat.zero_le _) [] ⟨fun s hs=>by simp at hs,rfl⟩
  · rintro al ⟨h1,h2⟩
    refine Evp.step (f:=fun k=>_) (fun k=>by rw[aS.l0]) (Evp.no (by omega) (Evp.bind (CR hclen hL hh) ?_))
    rintro⟨b,l,st⟩ ⟨hb,_,hs⟩
    exact Evp.yes (by omega) (l1 _ _ true (h1.set _ ⟨fun _=>hs,fun h=>absurd (hb.symm.trans h) (by decide)⟩) (by simpa using h2) (Nat.le_refl _))
  · rintro i hi ih al ⟨h1,h2⟩
    refine Evp.step (f:=fun k=>_) (fun k=>by rw[aS.l0]) (Evp.yes (by omega) ?_)
    rw[none,sK i (by omega)]
    simp only[Option.bind_some]
    refine Evp.yes (by omega) (ih _ ⟨fun s hs=> ?_,by simp[h2]⟩)
    rcases List.mem_append.1 hs with h|h
    ·exact h1 s h
    ·rw[List.mem_singleton]at h;subst h;exact All.none
end
section
variable {cs:List Cls} {ms:List Mth} {L:Nat} {m0 m1:Int} {m2:List Int} {m3 m4:Int} {m5:List Ins} {m6:List kR} {m7:List Cth}
theorem Iq (hok:ClsOk cs) (hL:L≤1000) (h6:All cs.length L m6) {a:Int} (h0:0≤a) (h1:a<m6.length) {b:Bool} {l st:List Int} (hs:Sho cs.length L l st):Evp (fun k=>vZ.f k cs ms m0 m1 m2 m3 m4 m5 m6 m7 a b l st) (fun _=>True):=by
  have hk:=h6 _ (List.mem_of_getElem? (BU h0 h1))
  unfold vZ.f
  exact Evp.yes h0 (Evp.yes h1 (Evp.ite (fun h=>Evp.bind (El hok hL hs (hk.1 h)) fun t _=>Evp.pure _ trivial) fun _=>Evp.pure _ trivial))
theorem Ls (hok:ClsOk cs) (hL:L≤1000) (hm:MethW cs ms.length L m3 m5 m7) (h6:All cs.length L m6) (c:m6.length=m5.length) {a:Int} (h0:0≤a) (h1:a<m5.length) {b b' :Bool} {l st l' st' :List Int} (hs:Sho cs.length L l st) (hs' :Sho cs.length L l' st'):
    Evp (fun k=>eB.f k cs ms m0 m1 m2 m3 m4 m5 m6 m7 a b l st b' l' st') (fun _=>True):=by
  have hlen:=hm.len
  have hclen:=(tT.1 hok).2.1
  have l0:Evp (fun k=>eB.l0 k a 0 cs ms m0 m1 m2 m3 m4 m5 m6 m7 b l st) (fun _=>True):=by
    refine Evp.for_ (n:=m7.length) (g:=fun i k=>eB.l0 k a (i:Int) cs ms m0 m1 m2 m3 m4 m5 m6 m7 b l st) (R:=fun _ _=>True) ?_ ?_ 0 (Nat.zero_le _)
    ·exact Evp.step (f:=fun k=>_) (fun k=>by rw[eB.l0]) (Evp.no (by omega) (Evp.pure _ trivial))
    · intro i hi ih
      have hc:=hm.atc (i:=(i:Int)) (by omega) (by omega)
      refine Evp.step (f:=fun k=>_) (fun k=>by rw[eB.l0]) (Evp.yes (by omega) (Evp.yes (by omega) ?_))
      rw[ui,sK i (by omega),Gr hs hL]
      simp only[Option.bind_some]
      have w8:wrap64 (8+(fJ m7 (i:Int)).f3)=8+(fJ m7 (i:Int)).f3:=by unfold wrap64;omega
      rw[w8]
      have hsc:Sho cs.length L l [8+(fJ m7 (i:Int)).f3]:=⟨hs.ll,hs.lt,by simp,yu (yV hc.2.1 hc.2.2)⟩
      exact Evp.ite (fun _=>Evp.bind (Iq hok hL h6 hc.1.1 (by omega) hsc) fun t _=>Evp.ite (fun _=>ih) fun _=>Evp.pure _ trivial) fun _=>ih
  have j0: ∀q,Evp (fun k=>eB.j0 k a q cs ms m0 m1 m2 m3 m4 m5 m6 m7 b l st) (fun _=>True):=fun q=>
    Evp.step (f:=fun k=>_) (fun k=>by rw[eB.j0]) (Evp.ite (fun _=>Evp.pure _ trivial) fun _=>l0)
  unfold eB.f
  rw[BV]
  simp only[Option.bind_some,decide_eq_true_eq]
  have hx:=(hm.at h0 h1).2
  exact Evp.yes h0 (Evp.yes h1 (Evp.ite (fun h=>Evp.bind (Iq hok hL h6 (hx h).1 (by have:=(hx h).2;omega) hs') fun t _=>j0 _) fun _=>j0 _))
theorem Ki (hok:ClsOk cs) (hms:ww cs.length ms) (hL:L≤1000) (hm:MethW cs ms.length L m3 m5 m7) (hh:HdOk cs.length L m0 m2 m4) (h6:All cs.length L m6) (a:m6.length=m5.length):
    Evp (fun k=>dX.f k cs ms m0 m1 m2 m3 m4 m5 m6 m7) (fun _=>True):=by
  have hlen:=hm.len
  have hclen:=(tT.1 hok).2.1
  unfold dX.f
  refine Evp.bind (CR hclen hL hh) ?_
  rintro⟨b,l,st⟩ ⟨_,_,hs⟩
  have hs:Sho cs.length L l st:=hs
  refine Evp.fors (n:=m5.length) (g:=fun i (s:List kR×Bool×List Int×List Int×Bool) k=>dX.l0 k (i:Int) s.1 s.2.1 s.2.2.1 s.2.2.2.1 s.2.2.2.2 cs ms m0 m1 m2 m3 m4 m5 m6 m7) (I:=fun i s=>Sho cs.length L s.2.2.1 s.2.2.2.1∧s.1.length≤i) (R:=fun _ _ _=>True) ?_ ?_ 0 (Nat.zero_le _) ([],b,l,st,true) ⟨hs,Nat.zero_le _⟩
  · rintro⟨out,b,l,st,comes⟩ ⟨hs,ho⟩
    exact Evp.step (f:=fun k=>_) (fun k=>by rw[dX.l0]) (Evp.no (by omega) (Evp.pure _ trivial))
  · rintro i hi ih ⟨out,b,l,st,comes⟩ ⟨hs,ho⟩
    have hs:Sho cs.length L l st:=hs
    have ho:out.length≤i:=ho
    have hx:=hm.at (i:=(i:Int)) (by omega) (by omega)
    have j0: ∀(b:Bool) (l st:List Int) (c:Bool),Sho cs.length L l st→Evp (fun k=>dX.j0 k (i:Int) out b l st c cs ms m0 m1 m2 m3 m4 m5 m6 m7) (fun _=>True):=fun b l st c hs=>by
      refine Evp.step (f:=fun k=>_) (fun k=>by rw[dX.j0]) (Evp.ite (fun _=>Evp.yes (by omega) ?_) fun _=>Evp.pure _ trivial)
      refine Evp.bind (Ej hok hms hL hs hm.o (by omega) (by omega) hx.1) fun n hn=>Evp.ite (fun _=> ?_) fun _=>Evp.pure _ trivial
      refine Evp.bind (Ls hok hL hm h6 a (by omega) (by omega) hs hn.2) fun t _=>Evp.ite (fun _=>Evp.yes (by omega) (Evp.yes (by omega) ?_)) fun _=>Evp.pure _ trivial
      obtain⟨e,he⟩:=FV (bB m5 (i:Int)).f0 (bB m5 (i:Int)).f1 (bB m5 (i:Int)).f2
      rw[he,sK i (by omega)]
      simp only[Option.bind_some]
      exact ih (_,n.1,n.2.1,n.2.2.1, !e) ⟨hn.2,by simp;omega⟩
    have hk:=h6 _ (List.mem_of_getElem? (BU (l:=m6) (i:=(i:Int)) (by omega) (by omega)))
    refine Evp.step (f:=fun k=>_) (fun k=>by rw[dX.l0]) (Evp.yes (by omega) (Evp.yes (by omega) (Evp.yes (by omega) (Evp.ite (fun hany=> ?_) fun _=>j0 b l st comes hs))))
    have hk:=hk.1 hany
    rw[BS _ hk hL]
    simp only[Option.bind_some]
    exact Evp.ite (fun _=>Evp.bind (El hok hL hs hk) fun t _=>Evp.ite (fun _=>j0 _ _ _ _ hk) fun _=>Evp.pure _ trivial) fun _=>j0 _ _ _ _ hk
theorem E5 (hok:ClsOk cs) (hms:ww cs.length ms) (hL:L≤1000) (hm:MethW cs ms.length L m3 m5 m7) (hh:HdOk cs.length L m0 m2 m4) (hne:0<m5.length):
    Evp (fun k=>kT.f k cs ms m0 m1 m2 m3 m4 m5 m6 m7) (fun r=> ∃a,r=(m0,m1,m2,m3,m4,m5,a,m7)∧a.length=m5.length∧All cs.length L a):=by
  have hlen:=hm.len
  have none:sD.f=some (false, [], []):=rfl
  unfold kT.f
  refine Evp.fors (n:=m5.length) (g:=fun i (s:List kR) k=>kT.l0 k (i:Int) s cs ms m0 m1 m2 m3 m4 m5 m7) (I:=fun i s=>s.length=i) (R:=fun _ _ r=> ∃a,r=(m0,m1,m2,m3,m4,m5,a,m7)∧a.length=m5.length∧All cs.length L a) ?_ ?_ 0 (Nat.zero_le _) [] rfl
  · rintro al h2
    refine Evp.step (f:=fun k=>_) (fun k=>by rw[kT.l0]) (Evp.no (by omega) ?_)
    exact Evp.bind (Lr hok hms hL hm hh hne) fun a ha=>Evp.pure _ ⟨a,rfl,ha⟩
  · rintro i hi ih al h2
    refine Evp.step (f:=fun k=>_) (fun k=>by rw[kT.l0]) (Evp.yes (by omega) ?_)
    rw[none,sK i (by omega)]
    simp only[Option.bind_some]
    exact Evp.yes (by omega) (ih _ (by simp[h2]))
end
end Go.Proofs.Ytojpejfcafbafaa.Kit
end
