/- A part of the claim FnUnitFirst. -/
import Derived.Carry
import Derived.Test.YtojpejfcafbafaaCFnUnitFirst35
section
namespace Go.Proofs.Ytojpejfcafbafaa.Kit
open Go Go.RowKit Go.Proofs.YtojpejfcafbafaaW.PrintWords Go.Proofs.Ytojpejfcafbafaa.P
set_option linter.unusedVariables false
theorem Ir {bs:List Int} (h:Bytes bs) {p:Int} (h0:0≤p) (h1:p≤900000000):Evp (fun k=>wh.f k bs p) (fun r=>(-128≤r.1∧r.1≤127)∧r.2=p+2):=by
  unfold wh.f
  refine Evp.bind (iV h h0 (by omega) (by decide)) fun a ha=> ?_
  obtain⟨a1,a2⟩:=a
  obtain⟨ha0,ha1,rfl⟩:=ha
  refine Evp.ite (fun _=> ?_) (fun _=> ?_)
  · simp only[Option.bind_some]
    refine Evp.bind (iV h (by omega) (by omega) (by decide)) fun d hd=> ?_
    obtain⟨d1,d2⟩:=d
    obtain⟨hd0,hd1,rfl⟩:=hd
    have hd2:=hd1 (by decide)
    dsimp only at hd0 hd2
    refine Evp.yes hd0 (Evp.yes (by simpa using hd2) (Evp.pure _ ⟨?_,by show p+1+1=p+2;omega⟩))
    have:d1=0∨d1=1∨d1=2∨d1=3∨d1=4∨d1=5:=by omega
    dsimp only
    rcases this with e|e|e|e|e|e<;>rw[e]<;>decide
  · refine Evp.bind (iV h (by omega) (by omega) (by decide)) fun d hd=> ?_
    obtain⟨d1,d2⟩:=d
    obtain⟨hd0,hd1,rfl⟩:=hd
    have hd2:=hd1 (by decide)
    dsimp only at hd0 hd2
    refine Evp.pure _ ⟨?_,by show p+1+1=p+2;omega⟩
    dsimp only
    unfold wrap64;omega
theorem xJ (a:Int) (h:a≤1000):1≤mx a 1∧mx a 1≤1000:=by
  unfold mx;split<;>omega
def zQ (p:Int) (r:Int×Int×Int×Int):Prop:=(1≤r.1∧r.1≤24∧(r.1≤7∨12≤r.1))∧(-1000≤r.2.1∧r.2.1≤1000)∧(0≤r.2.2.1∧r.2.2.1≤1000)∧p≤r.2.2.2∧r.2.2.2≤p+10
theorem mkR {p k a b q:Int} (k1:1≤k) (k2:k≤24) (k3:k≤7∨12≤k) (a1: -1000≤a) (a2:a≤1000) (b1:0≤b) (b2:b≤1000) (q1:p≤q) (q2:q≤p+10):zQ p (k,a,b,q):=⟨⟨k1,k2,k3⟩,⟨a1,a2⟩,⟨b1,b2⟩,q1,q2⟩
section
variable {cs:List Cls} {ms:List Mth} {m0 m1:Int} {m2:List Int} {m3 m4:Int} {m5:List Ins} {m6:List kR} {m7:List Cth}
theorem Nt {bs:List Int} (h:Bytes bs) {p:Int} (h0:0≤p) (h1:p≤50000000) (hok:ClsOk cs) (hms:1≤ms.length∧ms.length≤1000) (h4:m4≤1000):Evp (fun k=>aR.f k bs p cs ms m0 m1 m2 m3 m4 m5 m6 m7) (zQ p):=by
  have hlen:=(tT.1 hok).2.1
  have hlo:=hok.lo
  unfold aR.f
  refine Evp.bind (iV h h0 (by omega) (by omega)) fun c hc=>Evp.bind (iV h (by omega) (by omega) (by omega)) fun y hy=> ?_
  have hp:=hy.2.2
  have hp' :=hc.2.2
  have hc0:=hc.1
  have hc1:=hc.2.1 (by omega)
  generalize y.2=q at *
  have hq:q=p+2:=by omega
  generalize c.1=x at *
  generalize y.1=y at *
  have pk: ∀n:Int,1≤n→n≤1000→Evp (fun k=>aK.f k bs q n) (fun r=>0≤r.1∧r.1<n∧r.2=q+1):=fun n hn hn2=>(iV h (by omega) (by omega) (by omega)).mono fun r hr=>⟨hr.1,hr.2.1 hn,hr.2.2⟩
  have fl:Evp (fun k=>rR.f k cs x) (fun r=>r.length≤100):=by
    have:=Ae hok x.toNat (by omega)
    rw[show((x.toNat:Nat):Int)=x from by omega]at this
    exact this.mono fun r hr=>by have:=hr.2;omega
  have j6: ∀b,Evp (fun k=>aR.j6 k x y b bs q cs ms) (zQ p):=fun b=>
    Evp.step (f:=fun k=>_) (fun k=>by rw[aR.j6]) (Evp.ite (fun _=>Evp.bind fl fun fs hf=>Evp.bind (pk _ (xJ _ (by omega)).1 (xJ _ (by omega)).2) fun r hr=>Evp.pure _ (mkR (by decide) (by decide) (.inr (by decide)) (by omega) (by omega) (by omega) (by have:=(xJ (fs.length:Int) (by omega)).2;omega) (by omega) (by omega))) fun _=>
      Evp.ite (fun _=>Evp.pure _ (mkR (by decide) (by decide) (.inr (by decide)) (by omega) (by omega) (by omega) (by omega) (by omega) (by omega))) fun _=>
      Evp.ite (fun _=>Evp.bind (pk _ (by omega) (by omega)) fun r hr=>Evp.pure _ (mkR (by decide) (by decide) (.inr (by decide)) (by omega) (by omega) (by omega) (by omega) (by omega) (by omega))) fun _=>
      Evp.ite (fun _=>Evp.bind (pk 2 (by decide) (by decide)) fun r hr=>Evp.pure _ (mkR (by decide) (by decide) (.inr (by decide)) (by omega) (by omega) (by omega) (by omega) (by omega) (by omega))) fun _=>Evp.pure _ (mkR (by decide) (by decide) (.inr (by decide)) (by omega) (by omega) (by omega) (by omega) (by omega) (by omega)))
  have j5: ∀b,Evp (fun k=>aR.j5 k x y b bs q cs ms) (zQ p):=fun b=>
    Evp.step (f:=fun k=>_) (fun k=>by rw[aR.j5]) (Evp.ite (fun _=>Evp.bind fl fun fs hf=>Evp.bind (pk _ (xJ _ (by omega)).1 (xJ _ (by omega)).2) fun r hr=>Evp.pure _ (mkR (by decide) (by decide) (.inr (by decide)) (by omega) (by omega) (by omega) (by have:=(xJ (fs.length:Int) (by omega)).2;omega) (by omega) (by omega))) fun _=>Evp.ite (fun _=>j6 _) fun _=>j6 _)
  have d: ∀(k a:Int) (n:Int),1≤k→k≤24→(k≤7∨12≤k)→1≤n→n≤1000→Evp (fun f=>(aK.f f bs q n).bind fun r=>some (k,r.1,0,r.2)) (zQ p):=fun k a n k1 k2 k3 hn hn2=>Evp.bind (pk n hn hn2) fun r hr=>Evp.pure _ (mkR k1 k2 k3 (by omega) (by omega) (by omega) (by omega) (by omega) (by omega))
  have cnst: ∀(k a:Int),1≤k→k≤24→(k≤7∨12≤k)→0≤a→a≤1000→Evp (fun _=>some (k,a,0,q)) (zQ p):=fun k a k1 k2 k3 a0 a1=>Evp.pure _ (mkR k1 k2 k3 (by omega) (by omega) (by omega) (by omega) (by omega) (by omega))
  have j4: ∀b,Evp (fun k=>aR.j4 k x y b bs q cs ms) (zQ p):=fun b=>
    Evp.step (f:=fun k=>_) (fun k=>by rw[aR.j4]) (Evp.ite (fun _=>cnst 12 x (by decide) (by decide) (.inr (by decide)) (by omega) (by omega)) fun _=>Evp.ite (fun _=>d 13 0 2 (by decide) (by decide) (.inr (by decide)) (by decide) (by decide)) fun _=>Evp.ite (fun _=>cnst 14 0 (by decide) (by decide) (.inr (by decide)) (by decide) (by decide)) fun _=>Evp.ite (fun _=>d 15 0 2 (by decide) (by decide) (.inr (by decide)) (by decide) (by decide)) fun _=>Evp.ite (fun _=>d 16 0 2 (by decide) (by decide) (.inr (by decide)) (by decide) (by decide)) fun _=>Evp.ite (fun _=>j5 _) fun _=>j5 _)
  have j3: ∀b,Evp (fun k=>aR.j3 k x y b bs q cs ms) (zQ p):=fun b=>
    Evp.step (f:=fun k=>_) (fun k=>by rw[aR.j3]) (Evp.ite (fun _=>Evp.bind (pk 4 (by decide) (by decide)) fun r hr=>Evp.pure _ (mkR (by decide) (by decide) (.inl (by decide)) (by unfold wrap64;omega) (by unfold wrap64;omega) (by omega) (by omega) (by omega) (by omega))) fun _=>Evp.ite (fun _=>j4 _) fun _=>Evp.ite (fun _=>j4 _) fun _=>j4 _)
  have j2: ∀b,Evp (fun k=>aR.j2 k x y b bs q cs ms m0 m1 m2 m3 m4 m5 m6 m7) (zQ p):=fun b=>by
    refine Evp.step (f:=fun k=>_) (fun k=>by rw[aR.j2]) (Evp.ite (fun _=>d 4 0 _ (by decide) (by decide) (.inl (by decide)) (xJ _ (by omega)).1 (xJ _ (by omega)).2) fun _=>Evp.ite (fun _=> ?_) fun _=>Evp.ite (fun _=>j3 _) fun _=>j3 _)
    simp only[Option.bind_some]
    refine Evp.bind (pk 3 (by decide) (by decide)) fun r hr=>Evp.yes hr.1 (Evp.yes hr.2.1 (Evp.pure _ ⟨?_,⟨by simp,by simp⟩,⟨by simp,by simp⟩,by dsimp only;omega,by dsimp only;omega⟩))
    have:r.1=0∨r.1=1∨r.1=2:=by omega
    dsimp only
    rcases this with e|e|e<;>rw[e]
    ·exact⟨by decide,by decide, .inl (by decide)⟩
    ·exact⟨by decide,by decide, .inl (by decide)⟩
    ·exact⟨by decide,by decide, .inr (by decide)⟩
  have j1: ∀b,Evp (fun k=>aR.j1 k x y b bs q cs ms m0 m1 m2 m3 m4 m5 m6 m7) (zQ p):=fun b=>
    Evp.step (f:=fun k=>_) (fun k=>by rw[aR.j1]) (Evp.ite (fun _=>d 3 0 _ (by decide) (by decide) (.inl (by decide)) (xJ _ (by omega)).1 (xJ _ (by omega)).2) fun _=>Evp.ite (fun _=>j2 _) fun _=>j2 _)
  have j0: ∀b,Evp (fun k=>aR.j0 k x y b bs q cs ms m0 m1 m2 m3 m4 m5 m6 m7) (zQ p):=fun b=>
    Evp.step (f:=fun k=>_) (fun k=>by rw[aR.j0]) (Evp.ite (fun _=>Evp.bind (Ir h (by omega) (by omega)) fun r hr=>Evp.pure _ (mkR (by decide) (by decide) (.inl (by decide)) (by omega) (by omega) (by omega) (by omega) (by omega) (by omega))) fun _=>Evp.ite (fun _=>cnst 2 0 (by decide) (by decide) (.inl (by decide)) (by decide) (by decide)) fun _=>Evp.ite (fun _=>j1 _) fun _=>Evp.ite (fun _=>j1 _) fun _=>j1 _)
  exact Evp.ite (fun _=>j0 _) fun _=>j0 _
end
theorem Lt {cs:List Cls} (hok:ClsOk cs):vU cs:=by
  have h1:=hok.hi
  refine⟨by omega,fun i hi=>⟨?_,fun t ht=> ?_⟩⟩
  · rcases Nat.lt_or_ge i 2 with h|h
    · have:i=0∨i=1:=by omega
      rcases this with e|e<;>subst e
      ·rw[hok.root.2];decide
      ·rw[hok.fail.2];decide
    ·have:=(hok.up i h hi).2.2;omega
  · have:=hok.fld i hi t ht
    unfold rC at this
    omega
section
variable {cs:List Cls} {ms:List Mth} {L:Nat} {m0 m1:Int} {m2:List Int} {m3:Int} {m5:List Ins} {m6:List kR} {m7:List Cth}
theorem Nu (hok:ClsOk cs) (hms:ww cs.length ms) (hL:L≤3) (ho:iY cs.length m3) {b:Bool} {l st:List Int} (hs:Sho cs.length L l st) {k a b' :Int}:
    Evp (fun n=>xA.f n cs ms m0 m1 m2 m3 (L:Int) m5 m6 m7 k a b' b l st) (fun r=>SR cs.length L b r∧(r.2.2.2=true→StepOk cs ms.length L k a b')):=by
  have hm1:=hms.1
  unfold xA.f
  refine Evp.bind (GK (Lt hok) hok ms (by omega) (a0:=m0) (a1:=m1) (l2:=m2) (a3:=m3) (a4:=(L:Int)) (by omega) (by omega) [⟨k,a,b'⟩] (by simp) m6 m7 ⟨k,a,b'⟩) fun t ht=>Evp.ite (fun hy=> ?_) fun _=>Evp.pure _ ⟨⟨rfl,hs⟩,fun h=>by cases h⟩
  have hx:=Lj (ht.1 hy)
  have st:Evp (fun n=>(sF.f n cs ms m0 m1 m2 m3 (L:Int) [⟨k,a,b'⟩] m6 m7 0 b l st).bind fun z=>some z) (fun r=>SR cs.length L b r∧(r.2.2.2=true→StepOk cs ms.length L k a b')):=
    Evp.bind (Ej hok hms (L:=L) (by omega) hs ho (by decide) (by simp) hx) fun r hr=>Evp.pure _ ⟨hr,fun _=>hx⟩
  exact Evp.ite (fun _=>Evp.ite (fun _=>Evp.pure _ ⟨⟨rfl,hs⟩,fun h=>by cases h⟩) fun _=>st) fun _=>st
structure InsW (cs:List Cls) (nm L:Nat) (x:Ins):Prop where
  s:StepOk cs nm L x.f0 x.f1 x.f2
  k:0≤x.f0∧x.f0≤30
  a: -1000≤x.f1∧x.f1≤1000
  b:0≤x.f2∧x.f2≤1000
theorem wH {k a b:Int} (hk:0≤k∧k≤30) (h:k≠3∧k≠4∧k≠12∧k≠19∧k≠17∧k≠18∧k≠21∧k≠20) (ha: -1000≤a∧a≤1000) (hb:0≤b∧b≤1000):InsW cs ms.length L (⟨k,a,b⟩:Ins):=
  ⟨show StepOk cs ms.length L k a b from⟨fun e=>by omega,fun e=>by omega,fun e=>by omega,fun e=>by omega⟩,hk,ha,hb⟩
theorem Jo {bs:List Int} (h:Bytes bs) {p:Int} (h0:0≤p) (h1:p≤50000000) (hok:ClsOk cs) {m4:Int}:Evp (fun k=>wQ.f k bs p m0 m1 m2 m3 m4 m5 m6 m7) (fun r=>(r.1.length=2∧∀x∈r.1,InsW cs ms.length L x∧¬(8≤x.f0∧x.f0≤11))∧p≤r.2∧r.2≤p+5):=by
  have hlo:=hok.lo
  have two: ∀ {x y:Ins},(InsW cs ms.length L x∧¬(8≤x.f0∧x.f0≤11))→(InsW cs ms.length L y∧¬(8≤y.f0∧y.f0≤11))→∀z∈ [x,y],InsW cs ms.length L z∧¬(8≤z.f0∧z.f0≤11):=fun hx hy z hz=>by
    simp only[List.mem_cons,List.not_mem_nil,or_false]at hz
    rcases hz with rfl|rfl
    ·exact hx
    ·exact hy
  have a1:InsW cs ms.length L (⟨12,1,0⟩:Ins)∧¬(8≤(12:Int)∧(12:Int)≤11):=⟨⟨⟨fun e=>by simp at e,fun _=>⟨by decide,by show(1:Int)<cs.length;omega⟩,fun e=>by simp at e,fun e=>by simp at e⟩,by decide,by decide,by decide⟩,by decide⟩
  have pl: ∀ {k a:Int},(0≤k∧k≤30)→(k≠3∧k≠4∧k≠12∧k≠19∧k≠17∧k≠18∧k≠21∧k≠20)→(-1000≤a∧a≤1000)→¬(8≤k∧k≤11)→InsW cs ms.length L (⟨k,a,0⟩:Ins)∧¬(8≤(⟨k,a,0⟩:Ins).f0∧(⟨k,a,0⟩:Ins).f0≤11):=fun h1 h2 h3 h4=>⟨wH h1 h2 h3 ⟨by decide,by decide⟩,h4⟩
  unfold wQ.f
  refine Evp.ite (fun _=> ?_) fun _=> ?_
  ·refine Evp.bind (Ir h h0 (by omega)) fun w hw=>Evp.bind (iV h (by omega) (by omega) (by omega)) fun q hq=>Evp.ite (fun _=>Evp.pure _ ⟨⟨rfl,two a1 (pl (by decide) (by decide) (by decide) (by decide))⟩,by dsimp only;omega,by dsimp only;omega⟩) fun _=>Evp.pure _ ⟨⟨rfl,two (pl (by decide) (by decide) ⟨by omega,by omega⟩ (by decide)) (pl (by decide) (by decide) (by decide) (by decide))⟩,by dsimp only;omega,by dsimp only;omega⟩
  ·refine Evp.bind (iV h (by omega) (by omega) (by omega)) fun q hq=>Evp.ite (fun _=>Evp.pure _ ⟨⟨rfl,two a1 (pl (by decide) (by decide) (by decide) (by decide))⟩,by dsimp only;omega,by dsimp only;omega⟩) fun _=>Evp.pure _ ⟨⟨rfl,two (pl (by decide) (by decide) (by decide) (by decide)) (pl (by decide) (by decide) (by decide) (by decide))⟩,by dsimp only;omega,by dsimp only;omega⟩
end
def MS (cs:List Cls) (nm L:Nat) (x:Ins):Prop:=InsW cs nm L x∧(8≤x.f0∧x.f0≤11→x.f1<0)
structure BdR (cs:List Cls) (nm L:Nat) (code:List Ins) (empty:List Int):Prop where
  c: ∀x∈code,MS cs nm L x
  e: ∀e∈empty,0≤e∧e≤code.length
theorem BdR.snoc {cs:List Cls} {nm L:Nat} {code:List Ins} {empty:List Int} (h:BdR cs nm L code empty) {x:Ins} (hx:MS cs nm L x):BdR cs nm L (code++ [x]) empty:=
  ⟨fun y hy=>by
    rcases List.mem_append.1 hy with h1|h1
    ·exact h.c y h1
    ·rw[List.mem_singleton]at h1;subst h1;exact hx,fun e he=>by have:=h.e e he;simp;omega⟩
theorem BdR.note {cs:List Cls} {nm L:Nat} {code:List Ins} {empty:List Int} (h:BdR cs nm L code empty):BdR cs nm L code (empty++ [(code.length:Int)]):=
  ⟨h.c,fun e he=>by
    rcases List.mem_append.1 he with h1|h1
    ·exact h.e e h1
    ·rw[List.mem_singleton]at h1;omega⟩
section
variable {cs:List Cls} {ms:List Mth} {L:Nat} {m0 m1:Int} {m2:List Int} {m3:Int} {m5:List Ins} {m6:List kR} {m7:List Cth}
def BdP (cs:List Cls) (nm L:Nat) (p:Int) (r:List Ins×List Int×Int):Prop:=BdR cs nm L r.1 r.2.1∧r.1.length≤50∧r.2.1.length≤50∧p≤r.2.2∧r.2.2≤p+1000
theorem FW {p q:Int} (h0:p≤q) (h1:q≤p+1000): ∀(n:Nat) (code:List Ins) (empty:List Int),BdR cs ms.length L code empty→code.length+n≤50→empty.length≤50→Evp (fun k=>ax.l1 k (n:Int) code empty q) (BdP cs ms.length L p)
  |0,code,empty,hb,hl,he=>Evp.step (f:=fun k=>_) (fun k=>by rw[ax.l1]) (Evp.no (by omega) (Evp.pure _ ⟨hb,by simpa using hl,he,h0,h1⟩))
  | n+1,code,empty,hb,hl,he=>by
    have w:wrap64 (((n+1:Nat):Int) - 1)=(n:Int):=by unfold wrap64;omega
    refine Evp.step (f:=fun k=>_) (fun k=>by rw[ax.l1]) (Evp.yes (by omega) (Evp.yes (by omega) ?_))
    rw[w]
    exact FW h0 h1 n _ _ (hb.snoc ⟨wH (by decide) (by decide) (by decide) (by decide),fun h=>absurd h (by decide)⟩) (by simp;omega) he
theorem Iu {bs:List Int} (h:Bytes bs) {p:Int} (h0:0≤p) (h1:p≤10000000) (hok:ClsOk cs) (hms:ww cs.length ms) (hm1:1≤ms.length) (hL:L≤3) (ho:iY cs.length m3) (hh:HdOk cs.length L m0 m2 (L:Int)) {most:Int}:
    Evp (fun k=>ax.f k bs p cs ms m0 m1 m2 m3 (L:Int) m5 m6 m7 most) (BdP cs ms.length L p):=by
  have hclen:=(tT.1 hok).2.1
  have hml:=hms.1
  unfold ax.f
  refine Evp.bind (CR hclen (by omega) hh) ?_
  rintro⟨b,l,st⟩ ⟨hb,_,hs⟩
  have hb:b=true:=hb
  subst hb
  have hs:Sho cs.length L l st:=hs
  refine Evp.fors (n:=40) (g:=fun i (s:List Ins×List Int×List Int×List Int×Int) k=>ax.l0 k (i:Int) s.1 s.2.1 true s.2.2.1 s.2.2.2.1 bs s.2.2.2.2 cs ms m0 m1 m2 m3 (L:Int) m5 m6 m7 most) (I:=fun i s=>(BdR cs ms.length L s.1 s.2.1∧s.1.length≤i∧s.2.1.length≤i)∧Sho cs.length L s.2.2.1 s.2.2.2.1∧p≤s.2.2.2.2∧s.2.2.2.2≤p+20 * (i:Int)) (R:=fun _ _=>BdP cs ms.length L p) ?_ ?_ 0 (Nat.zero_le _) ([], [],l,st,p) ⟨⟨⟨fun x hx=>by simp at hx,fun x hx=>by simp at hx⟩,Nat.le_refl _,Nat.le_refl _⟩,hs,by show p≤p;omega,by show p≤p+20 * 0;omega⟩
  · rintro⟨code,empty,l,st,q⟩ ⟨⟨hbd,hc,he⟩,hs,hq,hq'⟩
    have hbd:BdR cs ms.length L code empty:=hbd
    have hc:code.length≤40:=hc
    have he:empty.length≤40:=he
    have hs:Sho cs.length L l st:=hs
    have hq:p≤q:=hq
    have hq' :q≤p+20 * 40:=hq'
    have hsl:=hs.sl
    exact Evp.step (f:=fun k=>_) (fun k=>by rw[ax.l0]) (Evp.no (by omega) (FW hq (by omega) st.length code empty hbd (by omega) (by omega)))
  · rintro i hi ih ⟨code,empty,l,st,q⟩ ⟨⟨hbd,hc,he⟩,hs,hq,hq'⟩
    have hbd:BdR cs ms.length L code empty:=hbd
    have hc:code.length≤i:=hc
    have he:empty.length≤i:=he
    have hs:Sho cs.length L l st:=hs
    have hq:p≤q:=hq
    have hq' :q≤p+20 * (i:Int):=hq'
    have hsl:=hs.sl
    have nxt: ∀(code:List Ins) (empty:List Int) (l st:List Int) (q:Int),BdR cs ms.length L code empty→code.length≤i+1→empty.length≤i+1→Sho cs.length L l st→p≤q→q≤p+20 * ((i+1:Nat):Int)→Evp (fun k=>ax.l0 k ((i+1:Nat):Int) code empty true l st bs q cs ms m0 m1 m2 m3 (L:Int) m5 m6 m7 most) (BdP cs ms.length L p):=fun code empty l st q a1 a2 a3 a4 a5 a6=>ih (code,empty,l,st,q) ⟨⟨a1,a2,a3⟩,a4,a5,a6⟩
    have nil:Sho cs.length L l []:=⟨hs.ll,hs.lt,by simp,fun t ht=>by simp at ht⟩
    have j2: ∀(empty:List Int) (q2:Int),BdR cs ms.length L code empty→empty.length≤i+1→q≤q2→q2≤q+2→Evp (fun k=>ax.j2 k (i:Int) code empty true l st bs q2 cs ms m0 m1 m2 m3 (L:Int) m5 m6 m7 most) (BdP cs ms.length L p):=fun empty q2 hbd he g1 g2=>by
      refine Evp.step (f:=fun k=>_) (fun k=>by rw[ax.j2]) ?_
      rw[sK i (by omega)]
      refine Evp.bind (Nt h (p:=q2) (by omega) (by omega) hok ⟨hm1,hml⟩ (by omega)) fun x hx=> ?_
      obtain⟨x1,x2,x3,x4,x5⟩:=hx
      refine Evp.bind (Nu hok hms hL ho hs (k:=x.1) (a:=x.2.1) (b' :=x.2.2.1)) fun c hc2=> ?_
      have same:=nxt code empty l st x.2.2.2 hbd (by omega) he hs (by omega) (by omega)
      refine Evp.ite (fun hcan=>Evp.ite (fun _=>Evp.ite (fun _=>same) fun _=>Evp.yes (by omega) ?_) fun _=>same) fun _=>same
      have hso:=hc2.2 hcan
      obtain⟨e1,e2⟩:=hc2.1
      rw[e1]
      exact nxt _ _ _ _ _ (hbd.snoc ⟨⟨hso,⟨by dsimp only;omega,by dsimp only;omega⟩,x2,x3⟩,fun hj=>by dsimp only at hj;omega⟩) (by simp;omega) he e2 (by omega) (by omega)
    have pk: ∀(q2 n:Int),q≤q2→q2≤q+10→n≤10→1≤n→Evp (fun k=>aK.f k bs q2 n) (fun r=>0≤r.1∧r.1<n∧r.2=q2+1):=fun q2 n a1 a2 a3 a4=>(iV h (by omega) (by omega) (by omega)).mono fun r hr=>⟨hr.1,hr.2.1 a4,hr.2.2⟩
    have neg: ∀(a b:Int),0≤a→a<3→0≤b→b<2→ -1000≤wrap64 (-1 - wrap64 (a * b))∧wrap64 (-1 - wrap64 (a * b))<0:=fun a b a0 a1 b0 b1=>by
      have:b=0∨b=1:=by omega
      rcases this with e|e<;>subst e
      ·rw[Int.mul_zero];unfold wrap64;omega
      ·rw[Int.mul_one];unfold wrap64;omega
    have j1: ∀(empty:List Int) (q2:Int),BdR cs ms.length L code empty→empty.length≤i+1→q≤q2→q2≤q+1→Evp (fun k=>ax.j1 k (i:Int) code empty true l st bs q2 cs ms m0 m1 m2 m3 (L:Int) m5 m6 m7 most) (BdP cs ms.length L p):=fun empty q2 hbd he g1 g2=>by
      refine Evp.step (f:=fun k=>_) (fun k=>by rw[ax.j1]) (Evp.ite (fun h2=>Evp.yes (by omega) (Evp.ite (fun _=>Evp.yes (by omega) (Evp.ite (fun _=> ?_) fun _=>j2 _ _ hbd he g1 (by omega))) fun _=>j2 _ _ hbd he g1 (by omega))) fun _=>j2 _ _ hbd he g1 (by omega))
      refine Evp.bind (pk q2 3 g1 (by omega) (by decide) (by decide)) fun b hb=>Evp.ite (fun _=> ?_) fun _=>j2 _ _ hbd he (by omega) (by omega)
      refine Evp.bind (pk _ 2 (by omega) (by omega) (by decide) (by decide)) fun b0 hb0=>Evp.bind (pk _ 3 (by omega) (by omega) (by decide) (by decide)) fun b1 hb1=>Evp.bind (pk _ 2 (by omega) (by omega) (by decide) (by decide)) fun b2 hb2=>Evp.yes (by omega) ?_
      rw[sK i (by omega)]
      have hn:=neg b1.1 b2.1 hb1.1 hb1.2.1 hb2.1 hb2.2.1
      have w8:wrap64 (8+b0.1)=8+b0.1:=by unfold wrap64;omega
      rw[w8]
      exact nxt _ _ _ _ _ (hbd.snoc ⟨wH ⟨by omega,by omega⟩ ⟨by omega,by omega,by omega,by omega,by omega,by omega,by omega,by omega⟩ ⟨hn.1,by omega⟩ ⟨by decide,by decide⟩,fun _=>hn.2⟩) (by simp;omega) he nil (by omega) (by omega)
    have j0: ∀(empty:List Int),BdR cs ms.length L code empty→empty.length≤i+1→Evp (fun k=>ax.j0 k (i:Int) code empty true l st bs q cs ms m0 m1 m2 m3 (L:Int) m5 m6 m7 most) (BdP cs ms.length L p):=fun empty hbd he=>by
      refine Evp.step (f:=fun k=>_) (fun k=>by rw[ax.j0]) (Evp.ite (fun hpos=> ?_) fun _=>j1 _ _ hbd he (by omega) (by omega))
      have w1:wrap64 ((st.length:Int) - 1)=(st.length:Int) - 1:=by unfold wrap64;omega
      rw[w1,sK i (by omega)]
      refine Evp.bind (pk q 5 (by omega) (by omega) (by decide) (by decide)) fun b hb=>Evp.ite (fun _=>Evp.yes (by omega) (Evp.yes (by omega) ?_)) fun _=>j1 _ _ hbd he (by omega) (by omega)
      refine Evp.bind (P:=fun _=>True) (Evp.const (by rw[CL]) trivial) fun t _=> ?_
      have jj:=j1 _ b.2 hbd he (by omega) (by omega)
      refine Evp.ite (fun _=>Evp.ite (fun _=>Evp.ite (fun _=> ?_) fun _=>jj) fun _=>jj) fun _=>jj
      refine Evp.bind (pk _ 3 (by omega) (by omega) (by decide) (by decide)) fun b1 hb1=>Evp.bind (pk _ 2 (by omega) (by omega) (by decide) (by decide)) fun b2 hb2=>Evp.yes (by omega) ?_
      have hn:=neg b1.1 b2.1 hb1.1 hb1.2.1 hb2.1 hb2.2.1
      exact nxt _ _ _ _ _ (hbd.snoc ⟨wH ⟨by decide,by decide⟩ (by decide) ⟨hn.1,by omega⟩ ⟨by decide,by decide⟩,fun _=>hn.2⟩) (by simp;omega) he nil (by omega) (by omega)
    have pad:=FW (cs:=cs) (ms:=ms) (L:=L) hq (by omega:q≤p+1000) st.length code empty hbd (by omega) (by omega)
    refine Evp.step (f:=fun k=>_) (fun k=>by rw[ax.l0]) (Evp.yes (by omega) (Evp.ite (fun _=>Evp.ite (fun _=>Evp.yes (by omega) (j0 _ hbd.note (by simp;omega))) fun _=>j0 _ hbd (by omega)) fun _=>pad))
end
theorem vN {x:Int} (h0: -100000≤x) (h1:x≤100000):wrap64 x=x:=by unfold wrap64;omega
theorem OG {x i:Int} (h0: -1000≤x) (h1:x≤0) (h2:0≤i) (h3:i≤1000):0≤wrap64 ((wrap64 ((wrap64 (0 - x)) * 5))+i):=by
  rw[vN (x:=0 - x) (by omega) (by omega),vN (x:=(0 - x) * 5) (by omega) (by omega),vN (by omega) (by omega)]
  omega
section
variable {cs:List Cls} {ms:List Mth} {L:Nat} {m0 m1:Int} {m2:List Int} {m3:Int} {m5:List Ins} {m6:List kR}
def Kj (cs:List Cls) (nm L N n i:Nat) (code:List Ins):Prop:=code.length=N∧∀(j:Nat) x,code[j]? =some x→InsW cs nm L x∧(8≤x.f0∧x.f0≤11→(0≤x.f1∧x.f1≤N)∨(i≤j∧j<n∧x.f1<0))
structure CodeR (cs:List Cls) (nm L:Nat) (m3:Int) (m5:List Ins) (a:List kR) (m7:List Cth):Prop where
  w:MethW cs nm L m3 m5 m7
  i: ∀x∈m5,InsW cs nm L x
  n:0<m5.length∧m5.length≤60
  a:a.length=m5.length∧All cs.length L a
  k:m7.length≤1∧∀c∈m7,(-1000≤c.f0∧c.f0≤1000)∧(-1000≤c.f1∧c.f1≤1000)
def CdP (cs:List Cls) (nm L:Nat) (p m0 m1:Int) (m2:List Int) (m3 m4:Int) (r:Int×Int×List Int×Int×Int×List Ins×List kR×List Cth×Int):Prop:=
  ∃m5 a m7 q,r=(m0,m1,m2,m3,m4,m5,a,m7,q)∧CodeR cs nm L m3 m5 a m7∧p≤q∧q≤p+1100
theorem DR {bs:List Int} (h:Bytes bs) {p q:Int} (h0:0≤p) (h1:p≤10000000) (hq:p≤q) (hq2:q≤p+1050) (hok:ClsOk cs) (hms:ww cs.length ms) (hL:L≤3) (ho:iY cs.length m3) (hh:HdOk cs.length L m0 m2 (L:Int)) {N n:Nat} (hN:N≤55) (hn:n≤N) {empty:List Int} (he: ∀e∈empty,0≤e∧e≤n) (hel:empty.length≤50)
    {en:Int} (hen:0≤en∧en≤N) {m7:List Cth} (hk:m7.length≤1∧∀c∈m7,((-1000≤c.f0∧c.f0≤1000)∧(-1000≤c.f1∧c.f1≤1000))∧(0≤c.f2∧c.f2<N+2)∧0≤c.f3∧c.f3<cs.length) {code:List Ins} (hc:Kj cs ms.length L N n 0 code):
    Evp (fun k=>bL.l0 k 0 code (n:Int) empty bs q cs ms m0 m1 m2 m3 (L:Int) m6 m7 en m5) (CdP cs ms.length L p m0 m1 m2 m3 (L:Int)):=by
  refine Evp.fors (n:=n) (g:=fun i (s:List Ins) k=>bL.l0 k (i:Int) s (n:Int) empty bs q cs ms m0 m1 m2 m3 (L:Int) m6 m7 en m5) (I:=fun i s=>Kj cs ms.length L N n i s) (R:=fun _ _=>CdP cs ms.length L p m0 m1 m2 m3 (L:Int)) ?_ ?_ 0 (Nat.zero_le _) code hc
  · rintro code ⟨hcl,hc⟩
    refine Evp.step (f:=fun k=>_) (fun k=>by rw[bL.l0]) (Evp.no (by omega) ?_)
    refine Evp.bind (Jo (ms:=ms) (L:=L) h (by omega) (by omega) hok) fun e hee=>Evp.yes (by have:=hee.1.1;omega) ?_
    obtain⟨⟨e1,e2⟩,e3,e4⟩:=hee
    have hlen:(code++e.1).length=N+2:=by rw[List.length_append,hcl,e1]
    have hall: ∀x∈code++e.1,InsW cs ms.length L x∧(8≤x.f0∧x.f0≤11→0≤x.f1∧x.f1<((code++e.1).length:Int)):=fun x hx=>by
      rcases List.mem_append.1 hx with h1|h1
      · obtain⟨j,hj⟩:=List.mem_iff_getElem?.1 h1
        obtain⟨g1,g2⟩:=hc j x hj
        refine⟨g1,fun hjmp=> ?_⟩
        rcases g2 hjmp with g|⟨g,g',_⟩
        ·rw[hlen];omega
        ·omega
      ·exact⟨(e2 x h1).1,fun hjmp=>absurd hjmp (e2 x h1).2⟩
    have hw:MethW cs ms.length L m3 (code++e.1) m7:=⟨ho,fun x hx=>⟨(hall x hx).1.s,(hall x hx).2⟩,fun c hc' =>by
      obtain⟨_,g2,g3⟩:=hk.2 c hc'
      exact⟨by rw[hlen];exact⟨g2.1,by have:=g2.2;omega⟩,g3⟩,by rw[hlen];omega,by have:=hk.1;omega⟩
    refine Evp.bind (E5 hok hms (by omega) hw hh (by rw[hlen];omega)) ?_
    rintro _ ⟨a,rfl,ha1,ha2⟩
    exact Evp.pure _ ⟨_,_,_,_,rfl,⟨hw,fun x hx=>(hall x hx).1,by rw[hlen];omega,⟨ha1,ha2⟩,⟨hk.1,fun c hc' =>(hk.2 c hc').1⟩⟩,by omega,by omega⟩
  · rintro i hi ih code ⟨hcl,hc⟩
    have hget:code[i]? =some (bB code (i:Int)):=by
      show _=some (code.getD _ _)
      rw[List.getD_eq_getElem?_getD,show((i:Int)).toNat=i from by omega,List.getElem?_eq_getElem (by omega)];rfl
    obtain⟨g1,g2⟩:=hc i _ hget
    have ga:=g1.a
    refine Evp.step (f:=fun k=>_) (fun k=>by rw[bL.l0]) (Evp.yes (by omega) (Evp.yes (by omega) (Evp.yes (by omega) ?_)))
    rw[BV,sK i (by omega)]
    simp only[Option.bind_some,decide_eq_true_eq]
    have skip: ¬((8≤(bB code (i:Int)).f0∧(bB code (i:Int)).f0≤11)∧(bB code (i:Int)).f1<0)→Kj cs ms.length L N n (i+1) code:=fun hno=>⟨hcl,fun j x hj=>by
      obtain⟨k1,k2⟩:=hc j x hj
      refine⟨k1,fun hjmp=> ?_⟩
      rcases k2 hjmp with g|⟨g,g',g''⟩
      ·exact .inl g
      · by_cases hij:j=i
        · subst hij
          rw[hget]at hj;cases hj
          exact absurd ⟨hjmp,g''⟩ hno
        ·exact .inr ⟨by omega,g',g''⟩⟩
    have set: ∀tgt:Int,(8≤(bB code (i:Int)).f0∧(bB code (i:Int)).f0≤11)→0≤tgt→tgt≤N→Evp (fun k=>bL.j0 k tgt (i:Int) code (n:Int) empty bs q cs ms m0 m1 m2 m3 (L:Int) m6 m7 en m5) (CdP cs ms.length L p m0 m1 m2 m3 (L:Int)):=fun tgt hjmp t0 t1=>by
      refine Evp.step (f:=fun k=>_) (fun k=>by rw[bL.j0]) (Evp.yes (by omega) (Evp.yes (by omega) ?_))
      rw[sK i (by omega),show((i:Int)).toNat=i from by omega]
      refine ih _ ⟨by simpa using hcl,fun j x hj=> ?_⟩
      by_cases hij:i=j
      · subst hij
        rw[List.getElem?_set_self (by omega)]at hj
        cases hj
        exact⟨wH g1.k ⟨by omega,by omega,by omega,by omega,by omega,by omega,by omega,by omega⟩ ⟨by omega,by omega⟩ g1.b,fun _=> .inl ⟨t0,t1⟩⟩
      · rw[List.getElem?_set_ne hij]at hj
        obtain⟨k1,k2⟩:=hc j x hj
        refine⟨k1,fun hjmp=>(k2 hjmp).imp id fun⟨g,g',g''⟩=>⟨by omega,g',g''⟩⟩
    refine Evp.ite (fun hjmp=>Evp.ite (fun hneg=>Evp.ite (fun hlt=>Evp.ite (fun hpos=> ?_) fun _=>set en hjmp hen.1 hen.2) fun _=>set en hjmp hen.1 hen.2) fun hnn=>ih _ (skip fun hh=>hnn hh.2)) fun hnj=>ih _ (skip fun hh=>hnj hh.1)
    have hpos' :0<(empty.length:Int):=hpos
    have hwr:0≤wrap64 ((wrap64 ((wrap64 (0 - (bB code (i:Int)).f1)) * 5))+(i:Int)):=OG ga.1 (by omega) (by omega) (by omega)
    have k1:=Int.tmod_nonneg (empty.length:Int) hwr
    have k2:=Int.tmod_lt_of_pos (wrap64 ((wrap64 ((wrap64 (0 - (bB code (i:Int)).f1)) * 5))+(i:Int))) hpos'
    refine Evp.yes k1 (Evp.yes k2 ?_)
    have hmem:=he (rd empty (Int.tmod (wrap64 ((wrap64 ((wrap64 (0 - (bB code (i:Int)).f1)) * 5))+(i:Int))) (empty.length:Int))) (by
      show empty.getD _ _∈empty
      rw[List.getD_eq_getElem?_getD,List.getElem?_eq_getElem (by omega)];exact List.getElem_mem _)
    exact set _ hjmp hmem.1 (by omega)
end
theorem Nv {cs:List Cls} {nm L:Nat} {code:List Ins} {empty:List Int} (h:BdR cs nm L code empty):Kj cs nm L code.length code.length 0 code:=⟨rfl,fun j x hj=>by
  obtain⟨h1,h2⟩:=h.c x (List.mem_of_getElem? hj)
  exact⟨h1,fun hjmp=> .inr ⟨Nat.zero_le _,(List.getElem?_eq_some_iff.1 hj).1,h2 hjmp⟩⟩⟩
section
variable {cs:List Cls} {ms:List Mth} {L:Nat} {m0 m1:Int} {m2:List Int} {m3:Int} {m5:List Ins} {m6:List kR}
theorem Ms {bs:List Int} (h:Bytes bs) {p:Int} (h0:0≤p) (h1:p≤9000000) (hok:ClsOk cs) (hms:ww cs.length ms) (hm1:1≤ms.length) (hL:L≤3) (ho:iY cs.length m3) (hh:HdOk cs.length L m0 m2 (L:Int)):
    Evp (fun k=>bL.f k bs p cs ms m0 m1 m2 m3 (L:Int) m5 m6 []) (CdP cs ms.length L p m0 m1 m2 m3 (L:Int)):=by
  have hlo:=hok.lo
  have none: ∀b:List Ins×List Int×Int,BdP cs ms.length L (p+1) b→Evp (fun k=>bL.l0 k 0 b.1 (b.1.length:Int) b.2.1 bs b.2.2 cs ms m0 m1 m2 m3 (L:Int) m6 [] (b.1.length:Int) m5) (CdP cs ms.length L p m0 m1 m2 m3 (L:Int)):=fun b hb=>by
    obtain⟨b1,b2,b3,b4,b5⟩:=hb
    exact DR h h0 (by omega) (by omega) (by omega) hok hms hL ho hh (N:=b.1.length) (n:=b.1.length) (by omega) (Nat.le_refl _) (fun e he=>b1.e e he) b3 ⟨by omega,by omega⟩ ⟨by simp,fun c hc=>by simp at hc⟩ (Nv b1)
  unfold bL.f
  refine Evp.bind (iV h h0 (by omega) (by decide)) fun c hc=>Evp.ite (fun _=> ?_) fun _=> ?_
  · have ec:c.2=p+1:=hc.2.2
    rw[ec]
    refine Evp.bind (Iu h (p:=p+1) (by omega) (by omega) hok hms hm1 hL ho hh) fun b hb=>Evp.ite (fun hpos=> ?_) fun _=>none b hb
    obtain⟨b1,b2,b3,b4,b5⟩:=hb
    refine Evp.yes (by omega) (Evp.bind (iV h (by omega) (by omega) (by omega)) fun q hq=> ?_)
    have q1:=hq.1
    have q2:=hq.2.1 (by omega)
    have q3:=hq.2.2
    rw[vN (x:=(b.1.length:Int)+2) (by omega) (by omega),vN (x:=(b.1.length:Int)+1) (by omega) (by omega)]
    refine DR h h0 (by omega) (by omega) (by omega) hok hms hL ho hh (N:=b.1.length+2) (n:=b.1.length) (by omega) (by omega) (fun e he=>b1.e e he) b3 ⟨by omega,by omega⟩ ⟨by simp,fun c hc=> ?_⟩ ⟨by simp,fun j x hj=> ?_⟩
    · rw[List.mem_singleton]at hc;subst hc
      exact⟨⟨⟨by show -1000≤q.1;omega,by show q.1≤1000;omega⟩,⟨by show -1000≤(b.1.length:Int);omega,by show(b.1.length:Int)≤1000;omega⟩⟩,⟨by show 0≤(b.1.length:Int)+1;omega,by show(b.1.length:Int)+1<((b.1.length+2:Nat):Int)+2;omega⟩,by show(0:Int)≤1;decide,by show(1:Int)<cs.length;omega⟩
    · rcases Nat.lt_or_ge j b.1.length with hj1|hj1
      · rw[List.getElem?_append_left hj1]at hj
        obtain⟨g1,g2⟩:=b1.c x (List.mem_of_getElem? hj)
        exact⟨g1,fun hjmp=> .inr ⟨Nat.zero_le _,hj1,g2 hjmp⟩⟩
      · rw[List.getElem?_append_right hj1]at hj
        have hm:=List.mem_of_getElem? hj
        simp only[List.mem_cons,List.not_mem_nil,or_false]at hm
        rcases hm with rfl|rfl
        ·exact⟨wH (by decide) (by decide) ⟨by omega,by omega⟩ ⟨by decide,by decide⟩,fun _=> .inl ⟨by show 0≤(b.1.length:Int)+2;omega,by show(b.1.length:Int)+2≤((b.1.length+2:Nat):Int);omega⟩⟩
        ·exact⟨wH (by decide) (by decide) ⟨by decide,by decide⟩ ⟨by decide,by decide⟩,fun hjmp=>absurd hjmp (by decide)⟩
  · have ec:c.2=p+1:=hc.2.2
    rw[ec]
    exact Evp.bind (Iu h (p:=p+1) (by omega) (by omega) hok hms hm1 hL ho hh) fun b hb=>none b hb
end
structure MetK (cs:List Cls) (nm:Nat) (x:Mth):Prop where
  s:SigOk cs.length x
  l:0≤x.f4∧x.f4≤3
  h:HdOk cs.length x.f4.toNat x.f0 x.f2 x.f4
  c: -1≤x.f0
  b: -1000≤x.f1∧x.f1≤1000
def CS (cs:List Cls) (nm:Nat) (x:Mth):Prop:=CodeR cs nm x.f4.toNat x.f3 x.f5 x.f6 x.f7
theorem IX {bs:List Int} (h:Bytes bs) {cs:List Cls} (hok:ClsOk cs) {nm:Nat} (hn1:1≤nm) (hn:nm≤10) {p:Int} (h0:0≤p) (h1:p≤100000) {ms:List Mth} (hl:ms.length=nm) (hms: ∀x∈ms,MetK cs nm x∧x.f7= []):
    Evp (fun k=>kZ.l0 k 0 ms bs p cs) (fun r=> ∃ms' q,r=(cs,ms',q)∧ms'.length=nm∧(∀x∈ms',MetK cs nm x∧CS cs nm x)∧p≤q∧q≤p+2000 * nm):=by
  have hlo:=hok.lo
  refine Evp.fors (n:=nm) (g:=fun i (s:List Mth×Int) k=>kZ.l0 k (i:Int) s.1 bs s.2 cs) (I:=fun i s=>(s.1.length=nm∧∀(j:Nat) x,s.1[j]? =some x→MetK cs nm x∧(j<i→CS cs nm x)∧(i≤j→x.f7= []))∧p≤s.2∧s.2≤p+2000 * (i:Int)) (R:=fun _ _ r=> ∃ms' q,r=(cs,ms',q)∧ms'.length=nm∧(∀x∈ms',MetK cs nm x∧CS cs nm x)∧p≤q∧q≤p+2000 * nm) ?_ ?_ 0 (Nat.zero_le _) (ms,p) ⟨⟨hl,fun j x hj=>⟨(hms x (List.mem_of_getElem? hj)).1,fun h=>by omega,fun _=>(hms x (List.mem_of_getElem? hj)).2⟩⟩,by show p≤p;omega,by show p≤p+2000 * 0;omega⟩
  · rintro⟨ms,q⟩ ⟨⟨h1,h2⟩,h3,h4⟩
    have h1:ms.length=nm:=h1
    refine Evp.step (f:=fun k=>_) (fun k=>by rw[kZ.l0]) (Evp.no (by omega) (Evp.pure _ ⟨ms,q,rfl,h1,fun x hx=> ?_,h3,h4⟩))
    obtain⟨j,hj⟩:=List.mem_iff_getElem?.1 hx
    obtain⟨g1,g2,_⟩:=h2 j x hj
    exact⟨g1,g2 (by have:=(List.getElem?_eq_some_iff.1 hj).1;omega)⟩
  · rintro i hi ih ⟨ms,q⟩ ⟨⟨h1',h2⟩,h3,h4⟩
    have hml:ms.length=nm:=h1'
    have h2: ∀(j:Nat) x,ms[j]? =some x→MetK cs nm x∧(j<i→CS cs nm x)∧(i≤j→x.f7= []):=h2
    have h3:p≤q:=h3
    have h4:q≤p+2000 * (i:Int):=h4
    have hget:ms[i]? =some (ay ms (i:Int)):=by
      show _=some (ms.getD _ _)
      rw[List.getD_eq_getElem?_getD,show((i:Int)).toNat=i from by omega,List.getElem?_eq_getElem (by omega)];rfl
    obtain⟨g1,_,g3⟩:=h2 i _ hget
    have g7:=g3 (Nat.le_refl _)
    have sig:ww cs.length ms:=⟨by omega,fun m hm=>by
      obtain⟨j,hj⟩:=List.mem_iff_getElem?.1 hm
      exact(h2 j m hj).1.s⟩
    obtain⟨L,hL⟩: ∃L:Nat,(ay ms (i:Int)).f4=(L:Int):=⟨(ay ms (i:Int)).f4.toNat,by have:=g1.l;omega⟩
    have hL3:L≤3:=by have:=g1.l;omega
    have hLt:(ay ms (i:Int)).f4.toNat=L:=by omega
    have hh:=g1.h
    rw[hLt,hL]at hh
    have next: ∀(x:Mth) (q2:Int),MetK cs nm x→CS cs nm x→q≤q2→q2≤q+2000→Evp (fun k=>kZ.l0 k ((i+1:Nat):Int) (ms.set i x) bs q2 cs) (fun r=> ∃ms' q,r=(cs,ms',q)∧ms'.length=nm∧(∀x∈ms',MetK cs nm x∧CS cs nm x)∧p≤q∧q≤p+2000 * nm):=fun x q2 hx1 hx2 e1 e2=>by
      refine ih (ms.set i x,q2) ⟨⟨by simpa using hml,fun j y hj=> ?_⟩,by show p≤q2;omega,by show q2≤p+2000 * ((i+1:Nat):Int);omega⟩
      have hj:(ms.set i x)[j]? =some y:=hj
      by_cases hij:i=j
      · subst hij
        rw[List.getElem?_set_self (by omega)]at hj;cases hj
        exact⟨hx1,fun _=>hx2,fun h=>by omega⟩
      · rw[List.getElem?_set_ne hij]at hj
        obtain⟨k1,k2,k3⟩:=h2 j y hj
        exact⟨k1,fun h=>k2 (by omega),fun h=>k3 (by omega)⟩
    refine Evp.step (f:=fun k=>_) (fun k=>by rw[kZ.l0]) (Evp.yes (by omega) (Evp.yes (by omega) ?_))
    rw[sK i (by omega),show((i:Int)).toNat=i from by omega,g7,hL]
    have hnmL:ms.length=nm:=hml
    refine Evp.bind (Ms h (p:=q) (by omega) (by omega) hok sig (by omega) hL3 g1.s.o hh) ?_
    rintro _ ⟨c5,a,c7,q1,rfl,hcr,q2,q3⟩
    rw[hml]at hcr
    have mk: ∀(c5:List Ins) (a:List kR) (c7:List Cth),CodeR cs nm L (ay ms (i:Int)).f3 c5 a c7→MetK cs nm (⟨(ay ms (i:Int)).f0,(ay ms (i:Int)).f1,(ay ms (i:Int)).f2,(ay ms (i:Int)).f3,(L:Int),c5,a,c7⟩:Mth)∧CS cs nm (⟨(ay ms (i:Int)).f0,(ay ms (i:Int)).f1,(ay ms (i:Int)).f2,(ay ms (i:Int)).f3,(L:Int),c5,a,c7⟩:Mth):=fun c5 a c7 hcr=>by
      have hl:=g1.l
      refine⟨⟨⟨g1.s.a,g1.s.l,g1.s.o⟩,by show 0≤(L:Int)∧(L:Int)≤3;omega, ?_,g1.c,g1.b⟩, ?_⟩
      · show HdOk cs.length ((L:Int)).toNat _ _ (L:Int)
        rw[show((L:Int)).toNat=L from by omega];exact hh
      · show CodeR cs nm ((L:Int)).toNat _ _ _ _
        rw[show((L:Int)).toNat=L from by omega];exact hcr
    have hw:=hcr.w
    rw[←hml]at hw
    refine Evp.bind (Ki hok sig (by omega) hw hh hcr.a.2 hcr.a.1) fun s _=>Evp.ite (fun _=> ?_) fun _=> ?_
    · obtain⟨k1,k2⟩:=mk _ _ _ hcr
      exact next _ _ k1 k2 (by dsimp only;omega) (by dsimp only;omega)
    · refine Evp.bind (Jo (ms:=ms) (L:=L) h (p:=q1) (by omega) (by omega) hok) fun e he=> ?_
      obtain⟨⟨e1,e2⟩,e3,e4⟩:=he
      have hwe:MethW cs ms.length L (ay ms (i:Int)).f3 e.1 []:=⟨g1.s.o,fun x hx=>⟨(e2 x hx).1.s,fun hj=>absurd hj (e2 x hx).2⟩,fun c hc=>by simp at hc,by rw[e1];decide⟩
      refine Evp.bind (E5 hok sig (by omega) hwe hh (by omega)) ?_
      rintro _ ⟨a2,rfl,ha1,ha2⟩
      rw[hml]at hwe
      obtain⟨k1,k2⟩:=mk e.1 a2 [] ⟨hwe,fun x hx=>by have:=(e2 x hx).1;rw[hml]at this;exact this,by omega,⟨ha1,ha2⟩,by simp,fun c hc=>by simp at hc⟩
      exact next _ _ k1 k2 (by omega) (by omega)
theorem BX {bs:List Int} (h:Bytes bs) {p n:Int} (h0:0≤p) (h1:p≤100000000) (hn:1≤n) (hn2:n≤100):
    Evp (fun k=>ic.f k bs p n) (fun r=>(r.1=1∨r.1=3∨r.1=4∨(8≤r.1∧r.1<8+n))∧p≤r.2∧r.2≤p+2):=by
  unfold ic.f
  refine Evp.bind (iV h h0 (by omega) (by omega)) fun a ha=> ?_
  have key: ∀b:Bool,Evp (fun k=>ic.j0 k n a.1 b bs a.2) (fun r=>(r.1=1∨r.1=3∨r.1=4∨(8≤r.1∧r.1<8+n))∧p≤r.2∧r.2≤p+2):=by
    intro b
    refine Evp.step (f:=fun k=>_) (fun k=>by rw[ic.j0]) ?_
    refine Evp.ite (fun _=>Evp.pure _ (by dsimp only;omega)) (fun _=>Evp.ite (fun _=>Evp.pure _ (by dsimp only;omega)) (fun _=>Evp.ite (fun _=>Evp.pure _ (by dsimp only;omega)) (fun _=> ?_)))
    refine Evp.bind (iV h (by omega) (by omega) (by omega)) fun c hc=>Evp.pure _ ?_
    have:=hc.2.1 hn
    dsimp only
    rw[w64 (by omega) (by omega)]
    omega
  exact Evp.ite (fun _=>key _) (fun _=>key _)
def FT (n:Nat) (l:List Int):Prop:= ∀t∈l,rC n t
theorem FT.nil {n:Nat}:FT n []:=fun t ht=>by simp at ht
theorem FT.snoc {n:Nat} {l:List Int} (h:FT n l) {t:Int} (ht:t=1∨t=3∨t=4∨(8≤t∧t<8+(n:Int))):FT n (l++ [t]):=fun x hx=>by
  rcases List.mem_append.1 hx with h1|h1
  ·exact h x h1
  ·rw[List.mem_singleton]at h1;subst h1;exact ht
def Ck (n j:Nat) (x:Cls):Prop:=(j=0→x=⟨-1, []⟩)∧(j=1→x=⟨0, [1]⟩)∧(2≤j→0≤x.f0∧x.f0<(j:Int))∧x.f1.length≤2∧FT n x.f1
def Ckk (n i:Nat) (cs:List Cls):Prop:= ∀(j:Nat) x,cs[j]? =some x→Ck n j x
theorem Ckk.two (n:Nat):Ckk n 2 ([(⟨-1, []⟩:Cls),⟨0, [1]⟩]):=fun j x hj=>by
  rcases j with _|_|j
  ·simp at hj;subst hj;exact⟨fun _=>rfl,by omega,by omega,by simp,FT.nil⟩
  ·simp at hj;subst hj;exact⟨by omega,fun _=>rfl,by omega,by simp,FT.nil.snoc (.inl rfl)⟩
  ·simp at hj
theorem Ckk.snoc {n i:Nat} {cs:List Cls} (h:Ckk n i cs) (hl:cs.length=i) (h2:2≤i) {s:Int} (hs0:0≤s) (hs1:s<(i:Int)) {fs:List Int} (hf:fs.length≤2) (ht:FT n fs):Ckk n (i+1) (cs++ [⟨s,fs⟩]):=fun j x hj=>by
  rcases Nat.lt_or_ge j cs.length with h1|h1
  ·rw[List.getElem?_append_left h1]at hj;exact h j x hj
  · rw[List.getElem?_append_right h1]at hj
    have hm:=List.mem_of_getElem? hj
    rw[List.mem_singleton]at hm
    have hj0:j - cs.length<1:=(List.getElem?_eq_some_iff.1 hj).1
    subst hm
    exact⟨fun e=>by omega,fun e=>by omega,fun _=>⟨hs0,by show s<(j:Int);omega⟩,hf,ht⟩
theorem Ckk.ok {n i:Nat} {cs:List Cls} (h:Ckk n i cs) (hl:cs.length=n) (h2:2≤n) (h5:n≤5):ClsOk cs:=by
  have at_: ∀j,j<cs.length→Ck n j (cs.getD j z41):=fun j hj=>h j _ (by rw[List.getD_eq_getElem?_getD,List.getElem?_eq_getElem hj];rfl)
  have a0:=(at_ 0 (by omega)).1 rfl
  have a1:=(at_ 1 (by omega)).2.1 rfl
  refine⟨by omega,by omega, ?_, ?_,fun j hj hjl=> ?_,fun j hj t ht=> ?_⟩
  ·exact⟨congrArg (·.f0) a0,congrArg (·.f1) a0⟩
  ·exact⟨congrArg (·.f0) a1,congrArg (·.f1) a1⟩
  · obtain⟨_,_,g3,g4,_⟩:=at_ j hjl
    exact⟨(g3 hj).1,(g3 hj).2,g4⟩
  ·rw[hl];exact(at_ j hj).2.2.2.2 t ht
theorem Iw {bs:List Int} (h:Bytes bs) {p:Int} (h0:0≤p) (h1:p≤10000000):
    Evp (fun k=>dY.f k bs p) (fun r=>ClsOk r.1∧2≤r.1.length∧p≤r.2∧r.2≤p+100):=by
  unfold dY.f
  refine Evp.bind (iV h h0 (by omega) (by omega)) fun a ha=> ?_
  have ha2:=ha.2.1 (by omega)
  obtain⟨n,hn⟩: ∃n:Nat,wrap64 (2+a.1)=(n:Int):=⟨(2+a.1).toNat,by rw[w64 (by omega) (by omega)];omega⟩
  rw[w64 (by omega) (by omega)]at hn
  rw[w64 (by omega) (by omega),hn]
  have k0 : ∀d i:Nat,i+d=n→∀(cs:List Cls) (q:Int),Ckk n i cs→cs.length=i→2≤i→0≤q→q+6 * (d:Int)≤20000000→Evp (fun k=>dY.l0 k (n:Int) cs (i:Int) bs q) (fun r=>ClsOk r.1∧2≤r.1.length∧q≤r.2∧r.2≤q+6 * d):=by
    intro d
    induction d with
    | zero=>
      intro i hi cs q hd hl h2 hq0 hq1
      refine Evp.step (f:=fun k=>_) (fun k=>by rw[dY.l0]) (Evp.no (by omega) (Evp.pure _ ?_))
      exact⟨hd.ok (by omega) (by omega) (by omega),by dsimp only;omega,by dsimp only;omega,by dsimp only;omega⟩
    | succ d ih=>
      intro i hi cs q hd hl h2 hq0 hq1
      refine Evp.step (f:=fun k=>_) (fun k=>by rw[dY.l0]) (Evp.yes (by omega) ?_)
      refine Evp.bind (iV h hq0 (by omega) (by omega)) fun b hb=>Evp.bind (iV h (by omega) (by omega) (by omega)) fun c hc=> ?_
      have hc2:=hc.2.1 (by omega)
      have k1: ∀j:Nat,∀(s:List Int) (q' :Int),s.length+j≤2→FT n s→0≤q' →q' +2 * (j:Int)+6 * (d:Int)≤20000000→Evp (fun k=>dY.l1 k (n:Int) cs (i:Int) (j:Int) bs q' b.1 s) (fun r=>ClsOk r.1∧2≤r.1.length∧q' ≤r.2∧r.2≤q' +2 * j+6 * d):=by
        intro j
        induction j with
        | zero=>
          intro s q' hs hf hq0' hq1'
          refine Evp.step (f:=fun k=>_) (fun k=>by rw[dY.l1]) (Evp.no (by omega) (Evp.yes (by omega) ?_))
          rw[uV (n:=n) (by omega) (by omega)]
          refine(ih (i+1) (by omega) (cs++ [⟨b.1,s⟩]) q' (hd.snoc hl h2 hb.1 (by have:=hb.2.1 (by omega);omega) (by omega) hf) (by simp;omega) (by omega) hq0' (by omega)).mono fun r hr=> ?_
          exact⟨hr.1,hr.2.1,hr.2.2.1,by omega⟩
        | succ j ihj=>
          intro s q' hs hf hq0' hq1'
          refine Evp.step (f:=fun k=>_) (fun k=>by rw[dY.l1]) (Evp.yes (by omega) ?_)
          refine Evp.bind (BX h hq0' (by omega) (n:=(n:Int)) (by omega) (by omega)) fun e he=>Evp.yes (by omega) ?_
          rw[show wrap64 (((j+1:Nat):Int) - 1)=(j:Int) by rw[w64 (by omega) (by omega)];omega]
          refine(ihj (s++ [e.1]) e.2 (by simp;omega) (hf.snoc he.1) (by omega) (by omega)).mono fun r hr=> ?_
          exact⟨hr.1,hr.2.1,by omega,by omega⟩
      obtain⟨j,hj⟩: ∃j:Nat,c.1=(j:Int):=⟨c.1.toNat,by omega⟩
      rw[hj]
      refine(k1 j [] c.2 (by simp;omega) FT.nil (by omega) (by omega)).mono fun r hr=> ?_
      exact⟨hr.1,hr.2.1,by omega,by omega⟩
  have hok:=Ckk.two n
  refine Evp.mono (k0 (n - 2) 2 (by omega) _ a.2 hok rfl (by omega) (by omega) (by omega)) fun r hr=> ?_
  exact⟨hr.1,hr.2.1,by omega,by omega⟩
def SgP (n:Nat) (p:Int) (r:Int×Int×List Int×Int×Int×List Ins×List kR×List Cth×Int):Prop:= ∃args out q,r=(0,0,args,out,0, [], [], [],q)∧args.length≤2∧FT n args∧rC n out∧p≤q∧q≤p+20
theorem Dj {bs:List Int} (h:Bytes bs) {p:Int} (h0:0≤p) (h1:p≤1000000) {n:Nat} (hn:1≤n) (hn2:n≤100):Evp (fun k=>lX.f k bs p (n:Int)) (SgP n p):=by
  unfold lX.f
  refine Evp.bind (BX h h0 (by omega) (n:=(n:Int)) (by omega) (by omega)) fun o ho=>Evp.bind (iV h (by omega) (by omega) (by decide)) fun c hc=> ?_
  have hc2:=hc.2.1 (by decide)
  have key: ∀(d:Nat) (args:List Int) (q:Int),args.length+d≤2→FT n args→p≤q→q+2 * (d:Int)≤p+20→Evp (fun k=>lX.l0 k (n:Int) (d:Int) bs q 0 0 args o.1 0) (SgP n p):=by
    intro d
    induction d with
    | zero=>
      intro args q hl hf hq hq2
      exact Evp.step (f:=fun k=>_) (fun k=>by rw[lX.l0]) (Evp.no (by omega) (Evp.pure _ ⟨args,o.1,q,rfl,by omega,hf,ho.1,hq,by omega⟩))
    | succ d ih=>
      intro args q hl hf hq hq2
      refine Evp.step (f:=fun k=>_) (fun k=>by rw[lX.l0]) (Evp.yes (by omega) ?_)
      rw[vN (x:=((d+1:Nat):Int) - 1) (by omega) (by omega),show((d+1:Nat):Int) - 1=(d:Int) from by omega]
      exact Evp.bind (BX h (by omega) (by omega) (n:=(n:Int)) (by omega) (by omega)) fun e he=>Evp.yes (by omega) (ih _ _ (by simp;omega) (hf.snoc he.1) (by omega) (by omega))
  obtain⟨d,hd⟩: ∃d:Nat,c.1=(d:Int):=⟨c.1.toNat,by omega⟩
  rw[hd]
  exact key d [] c.2 (by simp;omega) FT.nil (by omega) (by omega)
theorem FT.tys {n:Nat} {l:List Int} (h:FT n l):Tys n l:=fun t ht=> .inr (.inr (h t ht))
def Kk (cs:List Cls) (x:Mth):Prop:=MetK cs 0 x∧x.f7= []
theorem Mt {a:Int} (h0:0≤a):0≤mn a 3∧mn a 3≤3∧(a≤3→mn a 3=a)∧(3≤a→mn a 3=3):=by
  unfold mn;split<;>omega
theorem Nw {cs:List Cls} {m0 m1:Int} {args:List Int} {out y:Int} (ha:args.length≤2) (hf:FT cs.length args) (ho:rC cs.length out) (h0: -1≤m0) (h0' :m0<cs.length) (h1: -1000≤m1∧m1≤1000) {self:Int} (hs:self=if 0≤m0 then 1 else 0) (hy:0≤y) (hy1:y<2):
    Kk cs (⟨m0,m1,args,out,mn (wrap64 ((wrap64 (self+(args.length:Int)))+y)) 3, [], [], []⟩:Mth):=by
  have hself:0≤self∧self≤1:=by rw[hs];split<;>omega
  rw[vN (x:=self+(args.length:Int)) (by omega) (by omega),vN (by omega) (by omega)]
  have hm:=Mt (a:=self+(args.length:Int)+y) (by omega)
  refine⟨⟨⟨hf.tys,by show args.length≤10;omega, .inr (.inr ho)⟩,⟨hm.1,hm.2.1⟩,⟨by show mn (self+(args.length:Int)+y) 3=(((mn (self+(args.length:Int)+y) 3).toNat:Nat):Int);omega,fun _=>h0',hf.tys, ?_⟩,h0,h1⟩,rfl⟩
  show args.length+(if 0≤m0 then 1 else 0)≤(mn (self+(args.length:Int)+y) 3).toNat
  by_cases hc:0≤m0
  · rw[if_pos hc]at hs⊢
    by_cases h3:self+(args.length:Int)+y≤3
    ·rw[hm.2.2.1 h3];omega
    ·rw[hm.2.2.2 (by omega)];omega
  · rw[if_neg hc]at hs⊢
    by_cases h3:self+(args.length:Int)+y≤3
    ·rw[hm.2.2.1 h3];omega
    ·rw[hm.2.2.2 (by omega)];omega
def HdP (cs:List Cls) (p:Int) (r:List Mth×Int):Prop:=(1≤r.1.length∧r.1.length≤10∧∀x∈r.1,Kk cs x)∧p≤r.2∧r.2≤p+400
theorem Lu {bs:List Int} (h:Bytes bs) {p:Int} (h0:0≤p) (h1:p≤500000) {cs:List Cls} (hok:ClsOk cs):Evp (fun k=>aQ.f k bs p cs) (HdP cs p):=by
  have hlo:=hok.lo
  have hhi:=hok.hi
  unfold aQ.f
  refine Evp.bind (Dj h h0 (by omega) (n:=cs.length) (by omega) (by omega)) ?_
  rintro _ ⟨aa,ao,q1,rfl,a1,a2,a3,a4,a5⟩
  refine Evp.bind (Dj h (p:=q1) (by omega) (by omega) (n:=cs.length) (by omega) (by omega)) ?_
  rintro _ ⟨ba,bo,q2,rfl,b1,b2,b3,b4,b5⟩
  refine Evp.bind (Dj h (p:=q2) (by omega) (by omega) (n:=cs.length) (by omega) (by omega)) ?_
  rintro _ ⟨ca,co,q3,rfl,c1,c2,c3,c4,c5⟩
  refine Evp.bind (iV h (p:=q3) (by omega) (by omega) (by decide)) fun x hx=>Evp.bind (iV h (p:=x.2) (by omega) (by omega) (by decide)) fun y hy=> ?_
  have hx2:=hx.2.1 (by decide)
  have hy2:=hy.2.1 (by decide)
  have hx3:=hx.2.2
  have hy3:=hy.2.2
  have key: ∀(d:Nat) (out:List Mth) (q:Int),1≤out.length→out.length+d≤8→(∀x∈out,Kk cs x)→p≤q→q+40 * (d:Int)≤p+400→
      Evp (fun k=>aQ.l0 k (d:Int) out bs q (cs.length:Int) [⟨0,0,aa,ao,0, [], [], []⟩,⟨0,0,ba,bo,0, [], [], []⟩,⟨0,0,ca,co,0, [], [], []⟩]) (HdP cs p):=by
    intro d
    induction d with
    | zero=>
      intro out q o1 o2 o3 o4 o5
      exact Evp.step (f:=fun k=>_) (fun k=>by rw[aQ.l0]) (Evp.no (by omega) (Evp.pure _ ⟨⟨o1,by dsimp only;omega,o3⟩,o4,by dsimp only;omega⟩))
    | succ d ih=>
      intro out q o1 o2 o3 o4 o5
      have wd:wrap64 (((d+1:Nat):Int) - 1)=(d:Int):=by rw[vN (by omega) (by omega)];omega
      have j0: ∀(m0 m1:Int) (args:List Int) (o q' :Int),args.length≤2→FT cs.length args→rC cs.length o→ -1≤m0→m0<cs.length→(-1000≤m1∧m1≤1000)→q≤q' →q' ≤q+30→
          Evp (fun k=>aQ.j0 k ((d+1:Nat):Int) out bs q' (cs.length:Int) [⟨0,0,aa,ao,0, [], [], []⟩,⟨0,0,ba,bo,0, [], [], []⟩,⟨0,0,ca,co,0, [], [], []⟩] m0 m1 args o [] [] []) (HdP cs p):=fun m0 m1 args o q' g1 g2 g3 g4 g5 g6 g7 g8=>by
        have j1: ∀self:Int,self=(if 0≤m0 then 1 else 0)→Evp (fun k=>aQ.j1 k self ((d+1:Nat):Int) out bs q' (cs.length:Int) [⟨0,0,aa,ao,0, [], [], []⟩,⟨0,0,ba,bo,0, [], [], []⟩,⟨0,0,ca,co,0, [], [], []⟩] m0 m1 args o [] [] []) (HdP cs p):=fun self hs=>by
          refine Evp.step (f:=fun k=>_) (fun k=>by rw[aQ.j1]) (Evp.bind (iV h (by omega) (by omega) (by decide)) fun z hz=> ?_)
          have hz2:=hz.2.1 (by decide)
          have hd:=Nw (m1:=m1) g1 g2 g3 g4 g5 g6 hs hz.1 hz2
          generalize mn (wrap64 ((wrap64 (self+(args.length:Int)))+z.1)) 3=m4 at hd⊢
          refine Evp.fors (n:=out.length) (g:=fun i (ag:Bool) k=>aQ.l1 k ag (i:Int) ((d+1:Nat):Int) out bs z.2 (cs.length:Int) [⟨0,0,aa,ao,0, [], [], []⟩,⟨0,0,ba,bo,0, [], [], []⟩,⟨0,0,ca,co,0, [], [], []⟩] m0 m1 args o m4 [] [] []) (I:=fun _ _=>True) (R:=fun _ _=>HdP cs p) ?_ ?_ 0 (Nat.zero_le _) false trivial
          · intro ag _
            refine Evp.step (f:=fun k=>_) (fun k=>by rw[aQ.l1]) (Evp.no (by omega) ?_)
            rw[wd]
            refine Evp.ite (fun _=>ih out z.2 o1 (by omega) o3 (by omega) (by omega)) fun _=>Evp.yes (by omega) (ih _ z.2 (by simp) (by simp;omega) (fun x hx=> ?_) (by omega) (by omega))
            rcases List.mem_append.1 hx with h1|h1
            ·exact o3 x h1
            ·rw[List.mem_singleton]at h1;subst h1;exact hd
          · intro i hi ihi ag _
            refine Evp.step (f:=fun k=>_) (fun k=>by rw[aQ.l1]) (Evp.yes (by omega) ?_)
            rw[sK i (by omega)]
            exact Evp.ite (fun _=>ihi true trivial) fun _=>Evp.ite (fun _=>Evp.yes (by omega) (Evp.ite (fun _=>Evp.ite (fun _=>ihi true trivial) fun _=>ihi false trivial) fun _=>ihi false trivial)) fun _=>ihi false trivial
        exact Evp.step (f:=fun k=>_) (fun k=>by rw[aQ.j0]) (Evp.ite (fun hm=>j1 1 (by rw[if_pos hm])) fun hm=>j1 0 (by rw[if_neg hm]))
      refine Evp.step (f:=fun k=>_) (fun k=>by rw[aQ.l0]) (Evp.yes (by omega) ?_)
      refine Evp.bind (Dj h (p:=q) (by omega) (by omega) (n:=cs.length) (by omega) (by omega)) ?_
      rintro _ ⟨ma,mo,q4,rfl,e1,e2,e3,e4,e5⟩
      refine Evp.bind (iV h (p:=q4) (by omega) (by omega) (by decide)) fun b hb=> ?_
      have hb3:=hb.2.2
      refine Evp.ite (fun _=> ?_) fun _=>j0 (-1) 0 ma mo b.2 e1 e2 e3 (by decide) (by omega) (by decide) (by omega) (by omega)
      refine Evp.bind (iV h (by omega) (by omega) (by decide)) fun sel hs=> ?_
      have hs2:=hs.2.1 (by decide)
      have hs3:=hs.2.2
      refine Evp.yes hs.1 (Evp.yes (by simp;omega) ?_)
      rw[vN (x:=(cs.length:Int) - 1) (by omega) (by omega)]
      refine Evp.bind (iV h (by omega) (by omega) (by omega)) fun c hc=> ?_
      have hc2:=hc.2.1 (by omega)
      have hc3:=hc.2.2
      rw[vN (x:=1+c.1) (by omega) (by omega)]
      have:sel.1=0∨sel.1=1:=by omega
      rcases this with e|e<;>rw[e]
      ·exact j0 (1+c.1) 0 aa ao c.2 a1 a2 a3 (by omega) (by omega) (by decide) (by omega) (by omega)
      ·exact j0 (1+c.1) 1 ba bo c.2 b1 b2 b3 (by omega) (by omega) (by decide) (by omega) (by omega)
  obtain⟨d,hd⟩: ∃d:Nat,y.1=(d:Int):=⟨y.1.toNat,by omega⟩
  have w1:wrap64 (1+x.1)=1+x.1:=vN (by omega) (by omega)
  rw[hd,w1]
  refine key d _ y.2 (by simp) (by simp;omega) (fun m hm=> ?_) (by omega) (by omega)
  rw[List.mem_singleton]at hm;subst hm
  exact⟨⟨⟨fun t ht=>by simp at ht,by show 0≤10;decide,show iY cs.length 1 from xI (by decide) (by decide)⟩,⟨by show 0≤1+x.1;omega,by show 1+x.1≤3;omega⟩,⟨by show 1+x.1=(((1+x.1).toNat:Nat):Int);omega,fun h=>absurd (show(0:Int)≤ -1 from h) (by decide),fun t ht=>by simp at ht,by show 0+(if(0:Int)≤ -1 then 1 else 0)≤_;simp⟩,by show(-1:Int)≤ -1;decide,by show(-1000:Int)≤0∧(0:Int)≤1000;decide⟩,rfl⟩
end Go.Proofs.Ytojpejfcafbafaa.Kit
end
section
namespace Go.Proofs.Ytojpejfcafbafaa.V
open Go Go.RowKit Go.Proofs.Ytojpejfcafbafaa.P Go.Proofs.Ytojpejfcafbafaa.Kit
set_option linter.unusedVariables false
theorem Mw {bs:List Int} (h:Bytes bs):Evp (fun k=>kZ.f k bs 0) (fun r=> ∃cs ms q,r=(cs,ms,q)∧ClsOk cs∧(1≤ms.length∧ms.length≤10)∧(∀x∈ms,MetK cs ms.length x∧CS cs ms.length x)∧0≤q∧q≤100000):=by
  unfold kZ.f
  refine Evp.bind (Iw h (by decide) (by decide)) fun c hc=> ?_
  obtain⟨c1,c2,c3,c4⟩:=hc
  refine Evp.bind (Lu h (p:=c.2) (by omega) (by omega) c1) fun d hd=> ?_
  obtain⟨⟨d1,d2,d3⟩,d4,d5⟩:=hd
  refine(IX h c1 (nm:=d.1.length) d1 d2 (p:=d.2) (by omega) (by omega) rfl fun x hx=>⟨⟨(d3 x hx).1.s,(d3 x hx).1.l,(d3 x hx).1.h,(d3 x hx).1.c,(d3 x hx).1.b⟩,(d3 x hx).2⟩).mono ?_
  rintro _ ⟨ms,q,rfl,e1,e2,e3,e4⟩
  exact⟨_,ms,q,rfl,c1,by omega,fun x hx=>by rw[e1];exact e2 x hx,by omega,by omega⟩
theorem CU {n:Nat} {t:Int} (h:iY n t) (hn:n≤5):Rng t:=by
  have:=u6.1 h;exact⟨by omega,by omega⟩
theorem Kl (bs:List Int) (hb:zf bs):Gn bs:=by
  obtain⟨r,hev,cs,ms,q,rfl,hok,hl,hm,hq0,hq1⟩:=Mw (bs:=bs) ⟨hb.2,fun x hx=>⟨(hb.1 x hx).1,by have:=(hb.1 x hx).2;omega⟩⟩
  obtain⟨k,hk⟩:=hev.rounds
  have hlo:=hok.lo
  have hhi:=hok.hi
  refine⟨k,cs,ms,q,hk,hq0,by omega,⟨by omega,by omega,fun c hc=> ?_,hl.1,by omega,fun m hmm=> ?_⟩⟩
  · obtain⟨j,hj⟩:=List.mem_iff_getElem?.1 hc
    have hjl:=(List.getElem?_eq_some_iff.1 hj).1
    have e:cs.getD j z41=c:=by rw[List.getD_eq_getElem?_getD,hj];rfl
    have hs:sup cs j=c.f0:=congrArg (·.f0) e
    have hf:ry cs j=c.f1:=congrArg (·.f1) e
    have hfl:=hok.fld j hjl
    rw[hf]at hfl
    refine⟨?_, ?_,fun t ht=>CU (.inr (.inr (hfl t ht))) hhi⟩
    · rw[←hs]
      rcases Nat.lt_or_ge j 2 with h2|h2
      · have:j=0∨j=1:=by omega
        rcases this with e|e<;>subst e
        ·rw[hok.root.1];exact⟨by decide,by decide⟩
        ·rw[hok.fail.1];exact⟨by decide,by decide⟩
      ·have:=hok.up j h2 hjl;exact⟨by omega,by omega⟩
    · rw[←hf]
      rcases Nat.lt_or_ge j 2 with h2|h2
      · have:j=0∨j=1:=by omega
        rcases this with e|e<;>subst e
        ·rw[hok.root.2];decide
        ·rw[hok.fail.2];decide
      ·have:=hok.up j h2 hjl;omega
  · obtain⟨h1,h2⟩:=hm m hmm
    have ha:=h2.a
    have hn:=h2.n
    have d:=h2.k
    have hl4:=h1.l
    have hb1:=h1.b
    have hc0:=h1.c
    have hs2:=h1.s.l
    have hhc:=h1.h.c
    refine⟨⟨⟨by omega,if h0:0≤m.f0 then(by have:=hhc h0;omega)else(by omega)⟩,⟨by omega,by omega⟩,⟨by omega,fun t ht=>CU (h1.s.a t ht) hhi⟩,CU h1.s.o hhi,⟨by omega,by omega⟩,⟨by omega,fun x hx=> ?_⟩,⟨by have:=ha.1;omega,fun s hs=> ?_⟩,⟨by omega,fun c hc=> ?_⟩⟩,by omega,ha.1,by omega,by omega,fun x hx=> ?_⟩
    · have:=h2.i x hx
      have k1:=this.k;have k2:=this.a;have k3:=this.b
      exact⟨⟨by omega,by omega⟩,⟨by omega,by omega⟩,⟨by omega,by omega⟩⟩
    · obtain⟨g1,g2⟩:=ha.2 s hs
      cases hf:s.f0 with
      | true=>
        have g:=g1 hf
        have gl:=g.ll;have gs:=g.sl
        exact⟨⟨by omega,fun t ht=>CU (g.lt t ht) hhi⟩,⟨by omega,fun t ht=>CU (g.ts t ht) hhi⟩⟩
      | false=>
        obtain⟨e1,e2⟩:=g2 hf
        exact⟨by rw[e1];exact⟨by simp,by simp⟩,by rw[e2];exact⟨by simp,by simp⟩⟩
    · have g1:=(d.2 c hc)
      have g2:=h2.w.c c hc
      have g3:=h2.w.len
      exact⟨⟨by omega,by omega⟩,⟨by omega,by omega⟩,⟨by omega,by omega⟩,⟨by omega,by omega⟩⟩
    ·have:=(h2.i x hx).a;omega
end Go.Proofs.Ytojpejfcafbafaa.V
end
section
namespace Go.Proofs.Ytojpejfcafbafaa.P
open Go.RowKit Go.Proofs.YtojpejfcafbafaaW.PrintWords Go.Proofs.YtojpejfcafbafaaW.PrintLast Go.Proofs.YtojpejfcafbafaaW.PrintMore
attribute [local go_sem] bn bq bP bQ aW aX bu bv
set_option linter.unusedVariables false
set_option linter.unusedSimpArgs false
def xB.f (e:List (S41)) (a:List (S35)) (a1:Int) (l2:List (S69)):Option ((List (S41))×(List (S35))):=(some (([]:List (S35)):List (S35))).bind fun c=>(if c.length+a.length<1099511627776 then((some (c++a:List (S35))).bind fun d=>(if 0≤a1 then(if a1<(a.length:Int)then(if a1<(d.length:Int)then(some (e,(d.set (a1:Int).toNat (⟨(ay a a1).f0,(ay a a1).f1,(ay a a1).f2,(ay a a1).f3,(ay a a1).f4,(ay a a1).f5,l2,(ay a a1).f7⟩:S35))))else(none))else(none))else(none)))else(none))
end Go.Proofs.Ytojpejfcafbafaa.P
end
section
namespace Go.Proofs.Ytojpejfcafbafaa.V
open Go Go.RowKit Go.Proofs.Ytojpejfcafbafaa.P
set_option linter.unusedVariables false
set_option linter.unusedSimpArgs false
attribute [local simp ↓] eG eH fQ fT eO dM fZ eP eQ gm gp gq dN dO dP gB gz gG gF dQ bW dV cz dJ dR eT eU eX
attribute [local simp] fU fV dK bR eF dL bS bT bU bV bM bN dS eY dU bX bY bZ cu bO fD lM iL dz iw evl dI eZ fu kD iX List.range List.range.loop lT kX fo fB iC iA Bs.live Bs.get lN WkV WkA WkC lg lH kY lD cZ iM TEq.refl bg fH qQ aF aG aD aH aI aJ ei d9 splice dE Bs.set kU fC Rn.at gu gy iF iD lL chunks lC fP toT fE iE rowsOf cB ik plR plV plC lF lI lQ lh fI iR lU
attribute [local simp] List.length_pos_iff qR qU iG iH iI puts dh
attribute [local simp ←] ig
attribute [local simp] wu wL wO wN wM ksL ru ksV rV ksC ksT ren kr rO rH dw tZ uf ug qY qZ rf bsC wF bsV vJ uo uX uY uq ut uu uw sO sP sQ sS sU r9 sV fF dW dx iW iB iO iQ lS rG closedB iT kP kG kH kJ kL iJ kN
attribute [local simp] ag3 un3 sz3 in3 by3 ze3 ct3 zt3 zu3 ag4 un4 sz4 in4 by4 ze4 ct4 zt4 zu4 ag5 un5 sz5 in5 by5 ze5 ct5 zt5 zu5 mi mq mD mE mF mG mH mI mJ io3 mK io5 bo4 mM mO mP mQ mR mU mV mW mX mY mZ ng ni nk nu ny nz nA nC nD nE nG nH nI nJ nK nL nM nN nO nP nQ nR nS nT nU nV nW nX nY nZ oh ol om oo oq ou ow oz oC oD oF oG oH oI oJ oK oL oM oN oO oP oQ oU oV oW oZ o6 o7 o8 iZ ja jb jc jd je jf jg jh ji jk jl jm jo jq jr jv jw jy jA o9 pg pu pz pE pF pG pI pJ pK jB jC jD jE jF jG jH jI jJ jK jL jM jN jO jP jQ jR jS jT jU jV jW jX jY jZ kg ko mz gH gI gJ gK gL gN gP gQ gT gU gV gW gX gY gZ ib pO pQ pR pU pV pW pX pY p9 qa qb qc qd qf qg qh qi qj ql qm qo qp qw qx qy qz qA qB qC qD qE qF qG qH qI qJ qK qL qM qN qO qP mix
attribute [local simp] eb eC eI eS eK eM nm
end Go.Proofs.Ytojpejfcafbafaa.V
end
section
namespace Go.Proofs.Ytojpejfcafbafaa.V
open Go Go.RowKit Go.Proofs.Ytojpejfcafbafaa.P Go.Proofs.Ytojpejfcafbafaa.Kit
set_option linter.unusedVariables false
theorem Iy {N:Nat} {l:List Int} (h:vB N l):I64 l:=fun t ht=>by have:=h.2 t ht;unfold Rng at this;omega
theorem UGen.small {cs:List Cls} {ms:List Mth} (h:UGen cs ms):SmallU cs ms:=by
  have c2:=h.c2
  have m2:=h.m2
  refine⟨⟨by omega,fun i hi=> ?_⟩,by omega,fun i hi=> ?_⟩
  · have hm:cs.getD i z41∈cs:=by rw[List.getD_eq_getElem?_getD,List.getElem?_eq_getElem hi];exact List.getElem_mem hi
    have hk:=h.ck _ hm
    have hl:=hk.2.1
    exact⟨by show(cs.getD i z41).f1.length≤_;omega,fun t ht=>by have:=hk.2.2 t ht;unfold Rng at this;omega⟩
  · have hm:ms.getD i z35∈ms:=by rw[List.getD_eq_getElem?_getD,List.getElem?_eq_getElem hi];exact List.getElem_mem hi
    have hk:=h.mm _ hm
    have h3:=hk.a3;have h2:=hk.a2.1;have h5:=hk.a5.1;have h6:=hk.a6.1;have h7:=hk.a7.1
    unfold Rng at h3
    show SmallM (ms.getD i z35)
    refine⟨by omega,by omega,Iy hk.a2,by omega,by omega,by omega,fun j hj=> ?_⟩
    have key: ∀l:List kR,j<l.length→l.getD j z69∈l:=fun l hl=>by rw[List.getD_eq_getElem?_getD,List.getElem?_eq_getElem hl];exact List.getElem_mem hl
    have hs:=hk.a6.2 _ (key _ hj)
    have g1:=hs.1.1;have g2:=hs.2.1
    exact⟨by omega,by omega,Iy hs.1,Iy hs.2⟩
theorem yw {cs:List Cls} {ms:List Mth} (h:SmallU cs ms): ∃k b,dD.f k cs ms=some b∧(∃k',dH.f k' cs ms=some b)∧(b=true↔UnitOk_ cs ms):=by
  obtain⟨a,ha,h1⟩:=II h
  obtain⟨b,hb,h2⟩:=IJ h
  obtain⟨k,hk⟩:=ha.rounds
  obtain⟨k',hk'⟩:=hb.rounds
  have e:a=b:=Nn h1 h2
  subst e
  exact⟨k,a,hk,⟨k',hk'⟩,h1⟩
theorem IY {cs:List Cls} {ms:List Mth} (h:UGen cs ms): ∃k b,dD.f k cs ms=some b∧(∃k',dH.f k' cs ms=some b)∧(b=true↔UnitOk_ cs ms):=yw h.small
end Go.Proofs.Ytojpejfcafbafaa.V
end
section
namespace Go.Proofs.Ytojpejfcafbafaa.V
open Go Go.RowKit Go.Proofs.Ytojpejfcafbafaa.P
set_option linter.unusedVariables false
set_option linter.unusedSimpArgs false
attribute [local simp ↓] eG eH fQ fT eO dM fZ eP eQ gm gp gq dN dO dP gB gz gG gF dQ bW dV cz dJ dR eT eU eX
attribute [local simp] fU fV dK bR eF dL bS bT bU bV bM bN dS eY dU bX bY bZ cu bO fD lM iL dz iw evl dI eZ fu kD iX List.range List.range.loop lT kX fo fB iC iA Bs.live Bs.get lN WkV WkA WkC lg lH kY lD cZ iM TEq.refl bg fH qQ aF aG aD aH aI aJ ei d9 splice dE Bs.set kU fC Rn.at gu gy iF iD lL chunks lC fP toT fE iE rowsOf cB ik plR plV plC lF lI lQ lh fI iR lU
attribute [local simp] List.length_pos_iff qR qU iG iH iI puts dh
attribute [local simp ←] ig
attribute [local simp] wu wL wO wN wM ksL ru ksV rV ksC ksT ren kr rO rH dw tZ uf ug qY qZ rf bsC wF bsV vJ uo uX uY uq ut uu uw sO sP sQ sS sU r9 sV fF dW dx iW iB iO iQ lS rG closedB iT kP kG kH kJ kL iJ kN
attribute [local simp] ag3 un3 sz3 in3 by3 ze3 ct3 zt3 zu3 ag4 un4 sz4 in4 by4 ze4 ct4 zt4 zu4 ag5 un5 sz5 in5 by5 ze5 ct5 zt5 zu5 mi mq mD mE mF mG mH mI mJ io3 mK io5 bo4 mM mO mP mQ mR mU mV mW mX mY mZ ng ni nk nu ny nz nA nC nD nE nG nH nI nJ nK nL nM nN nO nP nQ nR nS nT nU nV nW nX nY nZ oh ol om oo oq ou ow oz oC oD oF oG oH oI oJ oK oL oM oN oO oP oQ oU oV oW oZ o6 o7 o8 iZ ja jb jc jd je jf jg jh ji jk jl jm jo jq jr jv jw jy jA o9 pg pu pz pE pF pG pI pJ pK jB jC jD jE jF jG jH jI jJ jK jL jM jN jO jP jQ jR jS jT jU jV jW jX jY jZ kg ko mz gH gI gJ gK gL gN gP gQ gT gU gV gW gX gY gZ ib pO pQ pR pU pV pW pX pY p9 qa qb qc qd qf qg qh qi qj ql qm qo qp qw qx qy qz qA qB qC qD qE qF qG qH qI qJ qK qL qM qN qO qP mix
attribute [local simp] eb eC eI eS eK eM nm
set_option maxRecDepth 20000 in
set_option maxHeartbeats 4000000 in
theorem Lv (hU: ∀bs,zf bs→Gn bs) (bs:List Int) (hb: ∀x∈bs,0≤x∧x<256):H7 Try.prog 7 [.c (.t (.sl 5 1 bs.length (fl 0 eb bs)))] [] (fun(a:List S41×List S35)=>UGen a.1 a.2)
    (fun a=> .agg [.t (tC a.1), .t (tM a.2)]) (fun _=> []):=by
  refine Jg wes ?_ ?_ ?_ ?_
  ·intro x hx;rw[List.mem_singleton]at hx;subst hx;exact Lf
  ·intro q hq;simp at hq
  ·intro q hq;simp at hq
  refine bF Try.func7 rfl rfl rfl ?_
  simp -implicitDefEqProofs (maxSteps:=2000000) [lJ,sG]
  refine K3 rfl rfl (Ng bs hb) ?_ rfl (by rintro b ⟨bs',_,rfl⟩;rfl) ?_
  ·simp
  rintro _ ⟨bs',hb',rfl⟩
  obtain⟨k,cs,ms,p,hx,hp0,hp1,hu⟩:=hU bs' hb'
  simp -implicitDefEqProofs (maxSteps:=2000000)
  refine aC (En (h:=hx)) rfl rfl rfl ?_ ?_ ?_ ?_
  ·simp
  ·simp
  ·constructor<;>simp
  simp -implicitDefEqProofs (maxSteps:=2000000)
  refine rQ _ _ _ _ rfl rfl rfl ⟨hb',by omega,by omega⟩ (fun z p1 _ hz hq1 hq1' => ?_) (by omega)
  simp -implicitDefEqProofs (maxSteps:=2000000)
  by_cases hz0:z=0
  · subst hz0
    simp -implicitDefEqProofs (maxSteps:=2000000)
    refine .inr fun o hop hd=> ?_
    refine Ml [false,false,true,false,false,false,false,false,false,false,false,false,true,true] [(104,none)] (by constructor<;>simp[idR]) ?_
    simp -implicitDefEqProofs (maxSteps:=2000000)
    refine Lc wes [7900,9900] (Nq bs' p1 cs ms hb' (by omega) (by omega) hu) hop rfl rfl ?_ ?_ ?_ ?_ ?_ ?_
    ·exact⟨by decide,by decide,fun k hk=>by
        simp only[List.mem_cons,List.not_mem_nil,or_false]at hk
        rcases hk with rfl|rfl
        ·exact⟨_,rfl,rfl⟩
        ·exact⟨_,rfl,rfl⟩,by simp⟩
    · intro k b h
      simp only[List.mem_cons,List.not_mem_nil,or_false,Prod.mk.injEq,reduceCtorEq,and_false,false_or]at h
      rcases h with⟨rfl,h⟩|⟨rfl,h⟩|⟨rfl,h⟩
      ·right;injection h with h;subst h;rfl
      ·left;decide
      ·left;decide
    ·simp
    · rintro r B0 ⟨⟨p2,cs',ms'⟩,h,rfl,rfl⟩
      refine⟨rfl,by simp,fun q hq=> ?_⟩
      simp only[List.mem_cons,List.not_mem_nil,or_false]at hq
      rcases hq with rfl|rfl
      ·exact⟨by simp,by rintro b ⟨⟩;rfl⟩
      ·exact⟨by simp,by rintro b ⟨⟩;rfl⟩
    · intro e he
      simp only[List.mem_cons,List.not_mem_nil,or_false]at he
      rcases he with rfl|rfl|rfl|rfl<;>rfl
    rintro r B0 ⟨⟨p2,cs',ms'⟩,⟨g1,g2,g3⟩,rfl,rfl⟩
    have g3:UOut ms.length cs' ms' :=g3
    rw[hd]
    simp -implicitDefEqProofs (maxSteps:=2000000) [GH,tY]
    refine⟨_,_,rJ (r:= []) (ts' := [.agg [.t (tC cs'), .t (tM ms')]]) (B' := []) ?_,(cs',ms'),⟨g3.c1,g3.c2,g3.ck,by rw[show(cs',ms').2.length=ms.length from g3.m1];exact hu.m1,by rw[show(cs',ms').2.length=ms.length from g3.m1];exact hu.m2,g3.mm⟩,rfl,rfl⟩
    constructor<;>simp
  simp -implicitDefEqProofs (maxSteps:=2000000) [hz0]
  refine⟨_,_,rJ (r:= []) (ts' := [.agg [.t (tC cs), .t (tM ms)]]) (B' := []) ?_,(cs,ms),hu.gen,rfl,rfl⟩
  constructor<;>simp
end Go.Proofs.Ytojpejfcafbafaa.V
end
section
namespace Go.Proofs.Ytojpejfcafbafaa.V
open Go Go.RowKit Go.Proofs.Ytojpejfcafbafaa.P
set_option linter.unusedVariables false
theorem ltT {a b:Int} (h:(a<b)=True):(b≤a)=False:=by have:=of_eq_true h;exact eq_false (by omega)
theorem leT {a b:Int} (h:(a≤b)=True):(b<a)=False:=by have:=of_eq_true h;exact eq_false (by omega)
theorem zR {α:Type} {d:α} {en:α→List T} {ys:List α} {f:Nat→List T}:uk 0 f (fl d en ys)=fl d en ys:=by funext j;simp[uk]
theorem Bl:zl (-1)= .nilIface:=rfl
theorem Bo:zl 0= .iface 118 (.agg #[]):=rfl
theorem Bp:zl 1= .iface 102 (.agg #[]):=rfl
theorem Bq:zl 2= .iface 119 (.agg #[]):=rfl
theorem Br:zl 3= .iface 104 (.agg #[.bool false]):=rfl
theorem Bt:zl 4= .iface 104 (.agg #[.bool true]):=rfl
theorem zu {r:Int} (h:8≤r):zl r= .iface 106 (.agg #[.int .i64 (r - 8)]):=by
  unfold zl
  rw[if_neg (by omega),if_neg (by omega),if_neg (by omega),if_neg (by omega),if_neg (by omega),if_neg (by omega)]
theorem E8 {c t r:Int} (h:uA.f c t=some r):r= -1∨r=0∨r=1∨r=2∨r=3∨r=4∨8≤r:=by
  unfold uA.f at h
  repeat' split at h
  all_goals first|(injection h with h;omega)|cases h
def Iz (P:Program) (t:Nat):Bool:=match P.underlying t with|some (.interface _)=>true|_=>false
theorem Gs:Iz Try.prog 99=true:=by kernel_rfl
theorem IA {P:Program} {t:Nat} (h:Iz P t=true): ∃ms,P.underlying t=some (.interface ms):=by
  unfold Iz at h
  cases hu:P.underlying t with
  |none=>simp[hu]at h
  |some d=>rw[hu]at h;cases d<;>simp at h;exact⟨_,rfl⟩
theorem Mx {P:Program} {t:Nat} (h:Iz P t=true) (w:World):(Op.equal t .nilIface .nilIface).run P w= .ok true w:=by
  obtain⟨ms,hu⟩:=IA h
  rw[show Op.equal t .nilIface .nilIface=Op.equalIn (9999+1) t .nilIface .nilIface from rfl,Op.equalIn,Sem.run_bind,rY hu]
  rfl
theorem MB {P:Program} {t:Nat} (h:Iz P t=true) (a:Nat) (v:Value) (w:World):(Op.equal t (.iface a v) .nilIface).run P w= .ok false w:=by
  obtain⟨ms,hu⟩:=IA h
  rw[show Op.equal t (.iface a v) .nilIface=Op.equalIn (9999+1) t (.iface a v) .nilIface from rfl,Op.equalIn,Sem.run_bind,rY hu]
  rfl
theorem E9 {x:Operand}:Ju Try.prog 99 x (.const .nilIface) .nilIface .nilIface=True:=by
  refine eq_true ⟨fun w=> ?_,fun w=> ?_⟩<;>simp[eqGuard,binOp,Mx Gs,ifB,go_sem]
theorem Fa {x:Operand} {a:Nat} {v:Value}:Ju Try.prog 99 x (.const .nilIface) (.iface a v) .nilIface=True:=by
  refine eq_true ⟨fun w=> ?_,fun w=> ?_⟩<;>simp[eqGuard,binOp,MB Gs,ifB,go_sem]
end Go.Proofs.Ytojpejfcafbafaa.V
end
section
namespace Go.Proofs.Ytojpejfcafbafaa.V
open Go Go.RowKit Go.Proofs.Ytojpejfcafbafaa.P
set_option linter.unusedVariables false
set_option linter.unusedSimpArgs false
attribute [local simp ↓] eG eH fQ fT eO dM fZ eP eQ gm gp gq dN dO dP gB gz gG gF dQ bW dV cz dJ dR eT eU eX
attribute [local simp] fU fV dK bR eF dL bS bT bU bV bM bN dS eY dU bX bY bZ cu bO fD lM iL dz iw evl dI eZ fu kD iX List.range List.range.loop lT kX fo fB iC iA Bs.live Bs.get lN WkV WkA WkC lg lH kY lD cZ iM TEq.refl bg fH qQ aF aG aD aH aI aJ ei d9 splice dE Bs.set kU fC Rn.at gu gy iF iD lL chunks lC fP toT fE iE rowsOf cB ik plR plV plC lF lI lQ lh fI iR lU
attribute [local simp] List.length_pos_iff qR qU iG iH iI puts dh
attribute [local simp ←] ig
attribute [local simp] wX vK mkI asT yz DY ifB yN zR Bl Bo Bp Bq Br Bt zu E9 Fa
attribute [local simp] ksL ru ksV rV ksC ksT ren kr rO rH dw fF dW dx iW iB iO iQ lS rG closedB iT kP kG kH kJ kL iJ kN
attribute [local simp] ag3 un3 sz3 in3 by3 ze3 ct3 zt3 zu3 ag4 un4 sz4 in4 by4 ze4 ct4 zt4 zu4 ag5 un5 sz5 in5 by5 ze5 ct5 zt5 zu5 mi mq mD mE mF mG mH mI mJ io3 mK io5 bo4 mM mO mP mQ mR mU mV mW mX mY mZ ng ni nk nu ny nz nA nC nD nE nG nH nI nJ nK nL nM nN nO nP nQ nR nS nT nU nV nW nX nY nZ oh ol om oo oq ou ow oz oC oD oF oG oH oI oJ oK oL oM oN oO oP oQ oU oV oW oZ o6 o7 o8 iZ ja jb jc jd je jf jg jh ji jk jl jm jo jq jr jv jw jy jA o9 pg pu pz pE pF pG pI pJ pK jB jC jD jE jF jG jH jI jJ jK jL jM jN jO jP jQ jR jS jT jU jV jW jX jY jZ kg ko mz gH gI gJ gK gL gN gP gQ gT gU gV gW gX gY gZ ib pO pQ pR pU pV pW pX pY p9 qa qb qc qd qf qg qh qi qj ql qm qo qp qw qx qy qz qA qB qC qD qE qF qG qH qI qJ qK qL qM qN qO qP mix
attribute [local simp] eb eC eI eS eK eM nm
set_option maxRecDepth 20000 in
set_option maxHeartbeats 4000000 in
theorem Gt (c t r:Int) (h:uA.f c t=some r):iU Try.prog 69 [.i c, .i t] (.s (zl r)):=by
  unfold uA.f at h
  refine bF Try.func69 rfl rfl rfl ?_
  try simp -implicitDefEqProofs (maxSteps:=2000000)
  have hb:0≤c∧c≤1000000000∧ -9223372036854775808≤t∧t≤9223372036854775807:=by
    by_cases hb:0≤c∧c≤1000000000∧ -9223372036854775808≤t∧t≤9223372036854775807
    ·exact hb
    ·rw[if_neg hb]at h;cases h
  rw[if_pos hb]at h
  obtain⟨h1,h2,h3,h4⟩:=hb
  have w1:wrap64 (8+c)=8+c:=by unfold wrap64;omega
  repeat' first
    |((with_reducible have hh:=aB h);clear h;rcases hh with⟨hc,h⟩|⟨hc,h⟩<;>have hd:=hc<;>(first|(replace hc:=dA hc)|(replace hc:=dB hc)|skip)<;>(try simp -implicitDefEqProofs (maxSteps:=2000000) [*, -h]))
    |(cases h;refine aV _ ?_ ⟨rfl,rfl⟩;simp;done)
  · have w2:wrap64 (t - 8)=t - 8:=by unfold wrap64;omega
    injection h with h
    subst h
    refine aV _ ?_ ⟨rfl,rfl⟩
    simp[w2,zu hd.1]
  · injection h with h
    subst h
    by_cases h8:8≤t
    · have h9:(t<8+c)=False:=eq_false (by omega)
      have h8:=eq_true h8
      simp -implicitDefEqProofs (maxSteps:=2000000) [*]
      refine aV _ ?_ ⟨rfl,rfl⟩
      simp
    · have h8:=eq_false h8
      simp -implicitDefEqProofs (maxSteps:=2000000) [*]
      refine aV _ ?_ ⟨rfl,rfl⟩
      simp
set_option maxRecDepth 20000 in
set_option maxHeartbeats 4000000 in
theorem zS (c t:Int) (r:Bool) (h:uN.f c t=some r):iU Try.prog 44 [.i c, .i t] (.b r):=by
  unfold uN.f at h
  refine bF Try.func44 rfl rfl rfl ?_
  try simp -implicitDefEqProofs (maxSteps:=2000000)
  obtain⟨x_,hx_,h⟩:=Option.bind_eq_some_iff.1 h
  refine av (Gt (h:=hx_)) rfl rfl ?_ ⟨rfl,rfl⟩ ?_
  ·simp[*]
  injection h with h
  rcases E8 hx_ with rfl|rfl|rfl|rfl|rfl|rfl|h8
  all_goals clear hx_
  all_goals first|(have h9:x_≠ -1∧x_≠0∧x_≠1∧x_≠2∧x_≠3∧x_≠4:=by omega)|skip
  all_goals simp -implicitDefEqProofs (maxSteps:=2000000) [*, -h]
  all_goals (refine aV _ ?_ ⟨rfl,rfl⟩;simp at h;subst h;simp[*])
end Go.Proofs.Ytojpejfcafbafaa.V
end
section
namespace Go.Proofs.Ytojpejfcafbafaa.V
open Go Go.RowKit Go.Proofs.Ytojpejfcafbafaa.P
set_option linter.unusedVariables false
set_option linter.unusedSimpArgs false
attribute [local simp ↓] eG eH fQ fT eO dM fZ eP eQ gm gp gq dN dO dP gB gz gG gF dQ bW dV cz dJ dR eT eU eX
attribute [local simp] fU fV dK bR eF dL bS bT bU bV bM bN dS eY dU bX bY bZ cu bO fD lM iL dz iw evl dI eZ fu kD iX List.range List.range.loop lT kX fo fB iC iA Bs.live Bs.get lN WkV WkA WkC lg lH kY lD cZ iM TEq.refl bg fH yK ei d9 splice dE Bs.set kU fC Rn.at gu gy iF iD lL chunks lC fP toT fE iE rowsOf cB ik plR plV plC lF lI lQ lh fI iR lU
attribute [local simp low] xE xD xG
attribute [local simp] ag3 un3 sz3 in3 by3 ze3 ct3 zt3 zu3 ag4 un4 sz4 in4 by4 ze4 ct4 zt4 zu4 ag5 un5 sz5 in5 by5 ze5 ct5 zt5 zu5 mi mq mD mE mF mG mH mI mJ io3 mK io5 bo4 mM mO mP mQ mR mU mV mW mX mY mZ ng ni nk nu ny nz nA nC nD nE nG nH nI nJ nK nL nM nN nO nP nQ nR nS nT nU nV nW nX nY nZ oh ol om oo oq ou ow oz oC oD oF oG oH oI oJ oK oL oM oN oO oP oQ oU oV oW oZ o6 o7 o8 iZ ja jb jc jd je jf jg jh ji jk jl jm jo jq jr jv jw jy jA o9 pg pu pz pE pF pG pI pJ pK jB jC jD jE jF jG jH jI jJ jK jL jM jN jO jP jQ jR jS jT jU jV jW jX jY jZ kg ko mz gH gI gJ gK gL gN gP gQ gT gU gV gW gX gY gZ ib pO pQ pR pU pV pW pX pY p9 qa qb qc qd qf qg qh qi qj ql qm qo qp qw qx qy qz qA qB qC qD qE qF qG qH qI qJ qK qL qM qN qO qP mix
attribute [local simp] eb eC eI eS eK eM nm lm
set_option maxRecDepth 20000 in
theorem Fb (cs:List S41): ∀(k:Nat) (c:Int) (r:List Int),uj.f k cs c=some r→EO Try.prog 71 [.c (.t (tC cs)), .i c] 3 1 r.length (fl 0 ei r)
  |0,c,r,h=>by cases h
  | k + 1,c,r,h=>by
    unfold uj.f at h
    refine bF Try.func71 rfl rfl rfl ?_
    simp (maxSteps:=2000000)
    refine⟨fun h1=> ?_,fun h1=> ?_⟩
    · rw[if_pos h1]at h;cases h
      refine⟨_,_,rJ (r:= []) (B' := [(900,some (.row 3 1 0 (fl 0 ei [])))]) (ts' := [.c (.own 900 1 0)]) ?_,rfl,rfl⟩
      constructor<;>simp
    · rw[if_neg h1]at h
      split at h<;>try cases h
      split at h<;>try cases h
      rename_i h2 h3
      cases hr:uj.f k cs (lm cs c).f0 with
      |none=>rw[hr]at h;cases h
      | some r1=>
        rw[hr]at h
        simp only[Option.bind]at h
        split at h<;>try cases h
        rename_i h4
        refine aT (by decide) [[], [], [], [1,2], [3,1,2], [4,3,1,2], [0,5,4,3,1,2], [], [], [7,8], [9,7,8], [10,9,7,8], [6,11,0,5,4,3,1,2,10,9,7,8], [12,0,1,2,3,4,5,6,7,8,9,10,11]] [7,8,9,10,11,12,13,14,15,16,17,18,19,4] [0,1,2,3,4,5,7,8,9,10,11,6,12,13] (by kernel_rfl) ?_
        simp (maxSteps:=2000000) [aj,ah,ae,ai,ak,au,af]
        refine⟨⟨h2,h3⟩, ?_⟩
        refine Au [] [] rfl rfl (Fb cs k _ _ hr) ⟨rfl,rfl,trivial⟩ (by simp) rfl (by simp) rfl ?_
        simp (maxSteps:=2000000) [aj,ah,ae,ai,ak,au,af]
        simp at h4
        refine⟨⟨by unfold maxLen;omega,by omega⟩,Ef _ rfl EQ ⟨rfl,rfl⟩⟩
end Go.Proofs.Ytojpejfcafbafaa.V
end
section
namespace Go.Proofs.Ytojpejfcafbafaa.P
open Go Go.RowKit Go.Proofs.YtojpejfcafbafaaW.PrintWords Go.Proofs.YtojpejfcafbafaaW.PrintLast Go.Proofs.YtojpejfcafbafaaW.PrintMore
set_option linter.unusedVariables false
set_option linter.unusedSimpArgs false
theorem Cb (e:Int×Int×Int): ∀(l:List (Int×Int×Int)) (i:Nat),sw (l++ [e]) i=sw l i++ [yo e (i+l.length)]
  | [],i=>rfl
  | x::l,i=>by
    show yo x i::sw (l++ [e]) (i+1)=yo x i::(sw l (i+1)++ [yo e (i+(l.length+1))])
    rw[Cb e l (i+1),show i+1+l.length=i+(l.length+1) by omega]
section
variable {ops:Array Oper} {rest:List Oper} {o:Oper} {a:Act} {Q:Exit→Act→World→Prop} {W:World}
theorem Km (hgd:o.guard=none) (hop:o.op= .makeMap 51 none) {w:World} (hB:Below w.heap.size w W)
    (h: ∀g,g=W.heap.size→∀W1,W1.heap[g]? =some (wT 0)→Below w.heap.size w W1→w.heap.size≤g→wpList Try.prog ops Q rest (a.put o.dst (.map (some g))) W1):wpList Try.prog ops Q (o::rest) a W:=by
  refine Kd.event_run hgd ?_ (h _ rfl _ (MV W _) (Dr hB _) hB.size)
  unfold execOp
  rw[hop]
  simp only[Option.map,Sem.run_bind,run_makeMap,Result.andThen]
  rfl
theorem IB {g m:Nat} {e1 e2 e3:Int} {x k v:Operand} (hgd:o.guard=none) (hop:o.op= .insert 51 x k v) (hN:o.dst=none) (hx:a.eval x= .map (some g)) (hk:a.eval k= .int .i64 e1) (hv:a.eval v= .agg #[.int .i64 e2, .int .i64 e3])
    (hm:W.heap[g]? =some (wT m)) (hl:tq.take (m+1)=tq.take m++ [(e1,e2,e3)]) (hlen:(tq.take m).length=m) (hf:lY e1 (tq.take m)=none) {w:World} (hB:Below w.heap.size w W) (hg:w.heap.size≤g)
    (h: ∀W1,W1.heap[g]? =some (wT (m+1))→Below w.heap.size w W1→wpList Try.prog ops Q rest a W1):wpList Try.prog ops Q (o::rest) a W:=by
  have hm0:=hm
  unfold wT at hm
  obtain⟨j,hj⟩:=zP e1 (tq.take m) 0 0
  rw[hf]at hj
  have hkk:MapKept.IsKey (.int .i64) (.int .i64 e1):=by simp[MapKept.IsKey]
  have hu:=Try.underlying51
  have hu3:=Try.underlying3
  have e0:Obj.map ((sw (tq.take m) 0).toArray.push {key:= .int .i64 e1,val:= .agg #[.int .i64 e2, .int .i64 e3],born:=m}) (m+1)=wT (m+1):=by
    unfold wT
    rw[hl,Cb,hlen,Nat.zero_add,List.push_toArray]
    rfl
  have hrun:(Instr.mapUpdate 51 (.map (some g)) (.int .i64 e1) (.agg #[.int .i64 e2, .int .i64 e3])).run Try.prog W= .ok () {W with heap:=W.heap.setIfInBounds g (wT (m+1))}:=by
    rw[←e0]
    simp[Instr.mapUpdate,run_underlying hu,MapKept.run_getObj_map hm,MapKept.run_checkKey hu3 hkk,MapKept.run_findKey hu3 hj,MapKept.run_setObj_map _ hm,Result.andThen]
  have hh:=MapKept.heap_set (o' :=wT (m+1)) hm0
  refine wpList_plain hgd fun K hK=> ?_
  unfold Oper.wp
  have hex:(execOp a.eval o).run Try.prog W= .ok .skip {W with heap:=W.heap.setIfInBounds g (wT (m+1))}:=by
    unfold execOp
    rw[hop]
    dsimp only
    rw[hx,hk,hv]
    simp only[Sem.run_bind,hrun,Result.andThen]
    rfl
  rw[hex]
  show K (a.put o.dst undef) _
  rw[hN]
  exact hK _ _ (h _ hh.1 (hB.trans ⟨rfl,rfl,rfl,by simp,fun k_ hk_=>hh.2 k_ (by omega)⟩))
end
set_option maxHeartbeats 8000000 in
set_option maxRecDepth 100000 in
theorem Js.calls (w:World):Calls Try.prog 21 #[] w fun e w' => ∃g,e= .returned (.map (some g))∧g=w.heap.size∧w'.heap[g]? =some Ob∧Below w.heap.size w w' :=by
  have HB:=Aside0.mk (Below.refl w.heap.size w)
  go_enter Try.func21,Try.ntmps21
  go_wp2_with (first|((with_reducible refine LC (N:=1) rfl ?_);refine Km rfl rfl HB.out ?_;intro gM hg W1 hm_ hb_ hs_;clear HB;have HM:=Aside0.mk hm_;have HB:=Aside0.mk hb_;have HS:=Aside0.mk hs_;have HG:=Aside0.mk hg;clear hm_ hb_ hs_ hg)|(refine IB rfl rfl rfl rfl rfl rfl HM.out rfl rfl rfl HB.out HS.out ?_;intro W1 hm_ hb_;clear HM HB;have HM:=Aside0.mk hm_;have HB:=Aside0.mk hb_;clear hm_ hb_))
  go_ret
  exact⟨_,rfl,HG.out,HM.out,HB.out⟩
end Go.Proofs.Ytojpejfcafbafaa.P
end
section
namespace Go.Proofs.Ytojpejfcafbafaa.V
open Go Go.RowKit Go.Proofs.Ytojpejfcafbafaa.P
set_option linter.unusedVariables false
set_option linter.unusedSimpArgs false
def xK:Array MapEntry:=(sw tq 0).toArray
theorem MC:iU Try.prog 21 [] (.c (.t (.mp xK 24))):=by
  intro w0 G ρ0 wild cargs hm hs hr
  have e:cargs= #[]:=Array.size_eq_zero_iff.1 (by simpa using hs)
  subst e
  refine(Js.calls w0).mono ?_
  rintro e w' ⟨g,rfl,hg,hmap,hb⟩
  refine⟨_,_, [],ρ0,rfl,⟨rfl,rfl⟩,⟨⟨hb.os,hb.tape,hb.output,hb.size,fun b h _=>hb.block b h⟩,fun k x h=>by simp[Bs.live,Bs.get]at h,fun k x g h=>by simp[Bs.live,Bs.get]at h,fun k k' x x' g h=>by simp[Bs.live,Bs.get]at h,fun k x h=>by simp[Ctx.ins,Bs.live,Bs.get]at h,fun k x b' h=>by simp[Bs.live,Bs.get]at h,fun e he=>by simp[Bs.get]at he⟩, ?_⟩
  exact RepT.mp g xK 24 hmap ⟨.inr (by show w0.heap.size≤g;omega),(Array.getElem?_eq_some_iff.1 hmap).1,fun k x h=>by simp[Bs.live,Bs.get]at h⟩
def Dk (n:Int) (e:MapEntry):Bool:=match e.key with| .int _ j=>n==j|_=>false
theorem BZ (n:Int):C9 (V.agg [C.t (T.s (Value.int .i64 0)),C.t (T.s (Value.int .i64 0))]) xK n=match (sw tq 0).find? (Dk n)with
  |some e=> .tup [yz e.val, .s (.bool true)]
  |none=> .tup [(V.agg [C.t (T.s (Value.int .i64 0)),C.t (T.s (Value.int .i64 0))]), .s (.bool false)]:=rfl
theorem CV (n:Int): ∀(l:List (Int×Int×Int)) (i:Nat),(sw l i).find? (Dk n)=none∧lY n l=none∨
    ∃e p,(sw l i).find? (Dk n)=some e∧lY n l=some p∧e.val= .agg #[.int .i64 p.1, .int .i64 p.2]
  | [],_=> .inl ⟨rfl,rfl⟩
  | x ::l,i=>by
    by_cases h:n=x.1
    · refine .inr ⟨yo x i,x.2, ?_, ?_,rfl⟩
      ·simp[sw,yo,Dk,h]
      ·simp[lY,h]
    · have hb:(n==x.1)=false:=by simpa using h
      rcases CV n l (i+1)with⟨h1,h2⟩|⟨e,p,h1,h2,h3⟩
      ·exact .inl ⟨by simp only[sw,List.find?_cons,yo,Dk,hb];exact h1,by simp only[lY,if_neg h];exact h2⟩
      ·exact .inr ⟨e,p,by simp only[sw,List.find?_cons,yo,Dk,hb];exact h1,by simp only[lY,if_neg h];exact h2,h3⟩
theorem Kn {n:Int} {x:Int×Int×Bool} (h:yH.f n=some x):
    (x.2.2=true∧C9 (V.agg [C.t (T.s (Value.int .i64 0)),C.t (T.s (Value.int .i64 0))]) xK n= .tup [.agg [.t (.s (.int .i64 x.1)), .t (.s (.int .i64 x.2.1))], .s (.bool true)])∨(x.2.2=false∧C9 (V.agg [C.t (T.s (Value.int .i64 0)),C.t (T.s (Value.int .i64 0))]) xK n= .tup [(V.agg [C.t (T.s (Value.int .i64 0)),C.t (T.s (Value.int .i64 0))]), .s (.bool false)]):=by
  unfold yH.f at h
  injection h with h
  rcases CV n tq 0 with⟨h1,h2⟩|⟨e,p,h1,h2,h3⟩
  · rw[h2]at h;subst h
    refine .inr ⟨rfl, ?_⟩
    rw[BZ,h1]
  · rw[h2]at h;subst h
    refine .inl ⟨rfl, ?_⟩
    rw[BZ,h1]
    simp only[h3,yz,List.map_cons,List.map_nil]
theorem Lx (n:Int):(∀w g,w.heap[g]? =some (.map xK 24)→∃v,(Instr.lookup 51 (.map (some g)) (.int .i64 n) true).run Try.prog w= .ok v w∧∀E,mg E v (C9 (V.agg [C.t (T.s (Value.int .i64 0)),C.t (T.s (Value.int .i64 0))]) xK n))=True:=by
  refine eq_true fun w g hm=> ?_
  obtain⟨j,hj⟩:=zP n tq 0 0
  have hz:(zeroValue 77).run Try.prog w= .ok (.agg #[.int .i64 0, .int .i64 0]) w:=by kernel_rfl
  have hk:MapKept.IsKey (.int .i64) (.int .i64 n):=by simp[MapKept.IsKey]
  have hu:=Try.underlying51
  have hu3:=Try.underlying3
  rcases CV n tq 0 with⟨h1,h2⟩|⟨e,p,h1,h2,h3⟩
  · rw[h2]at hj
    refine⟨.tuple #[.agg #[.int .i64 0, .int .i64 0], .bool false], ?_,fun E=> ?_⟩
    · simp only[Instr.lookup,Sem.run_bind,run_underlying hu,Result.andThen,MapKept.run_getObj_map hm,Sem.run_pure]
      rw[MapKept.run_checkKey hu3 hk]
      simp only[Result.andThen,Sem.run_bind]
      rw[show xK.toList=sw tq 0 from rfl,MapKept.run_findKey hu3 hj]
      simp only[Result.andThen,Sem.run_bind,hz,Sem.run_pure]
      rfl
    · rw[BZ,h1]
      refine⟨_,rfl,rfl,fun i x y hx hy=> ?_⟩
      rcases i with _|_|i<;>simp at hx hy
      · subst hx;subst hy
        refine⟨_,rfl,rfl,fun i x y hx hy=> ?_⟩
        rcases i with _|_|i<;>simp at hx hy
        ·subst hx;subst hy;exact RepT.s _ rfl
        ·subst hx;subst hy;exact RepT.s _ rfl
      ·subst hx;subst hy;exact RepT.s _ rfl
  · rw[h2]at hj
    refine⟨.tuple #[.agg #[.int .i64 p.1, .int .i64 p.2], .bool true], ?_,fun E=> ?_⟩
    · simp only[Instr.lookup,Sem.run_bind,run_underlying hu,Result.andThen,MapKept.run_getObj_map hm,Sem.run_pure]
      rw[MapKept.run_checkKey hu3 hk]
      simp only[Result.andThen,Sem.run_bind]
      rw[show xK.toList=sw tq 0 from rfl,MapKept.run_findKey hu3 hj]
      rfl
    · rw[BZ,h1]
      simp only[h3,yz,List.map_cons,List.map_nil]
      refine⟨_,rfl,rfl,fun i x y hx hy=> ?_⟩
      rcases i with _|_|i<;>simp at hx hy
      · subst hx;subst hy
        refine⟨_,rfl,rfl,fun i x y hx hy=> ?_⟩
        rcases i with _|_|i<;>simp at hx hy
        ·subst hx;subst hy;exact RepT.s _ rfl
        ·subst hx;subst hy;exact RepT.s _ rfl
      ·subst hx;subst hy;exact RepT.s _ rfl
end Go.Proofs.Ytojpejfcafbafaa.V
end
