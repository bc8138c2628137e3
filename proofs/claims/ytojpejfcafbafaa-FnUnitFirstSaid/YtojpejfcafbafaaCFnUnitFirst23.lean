/- A part of the claim FnUnitFirst. -/
import Derived.Test.YtojpejfcafbafaaCFnUnitFirst22
section
namespace Go.Proofs.Ytojpejfcafbafaa.V
open Go Go.RowKit
set_option linter.unusedVariables false
set_option linter.unusedSimpArgs false
def BC (d k:Nat):Prop:=k=d+100∨(1000 * (d+1)≤k∧k<1000 * (d+2))
def AR (dst:Option Tmp) (d k:Nat):Prop:=dst=some d∧BC d k
theorem Ez {o:Op} {ev:Operand→V} {x:Operand} {k:Nat} (hx:x∈o.operands) (hk:k∈ak (ev x)):k∈af o ev:=
  List.mem_flatMap.2 ⟨x,by simpa using hx,hk⟩
section
variable {P:Program} {o:Op} {ev ev' :Operand→V} {bl bl' :Nat→Option Blk}
theorem DD {ps:List (Nat×Operand)} (h: ∀p∈ps,ev' p.2=ev p.2):(ps.map fun(i,x)=>(i,ev' x))=ps.map fun(i,x)=>(i,ev x):=
  List.map_congr_left fun p hp=>by obtain⟨i,x⟩:=p;simp[h (i,x) hp]
theorem JD (hev: ∀x∈o.operands,ev' x=ev x) (hbl: ∀k∈ai o ev,bl' k=bl k):dz P o ev' bl' =dz P o ev bl:=by
  cases o with
  | load t a=>
    have h1:=hev a (by simp[Op.operands])
    simp only[dz,h1]
    split
    · rename_i k i o' hx
      rw[hbl k (by simp[ai,hx,ak,au])]
    ·rfl
    ·rfl
  | build t ps=>
    simp only[dz]
    rw[DD (ev:=ev) (ev' :=ev') (fun p hp=>hev p.2 (by simp[Op.operands];exact⟨p.1,by simpa using hp⟩))]
  | slice t x lo hi mx=>
    have h1:=hev x (by simp[Op.operands])
    cases mx with
    |some _=>simp[dz]
    | none=>
      have hl: ∀l,lo=some l→ev' l=ev l:=fun l e=>hev l (by subst e;simp[Op.operands])
      have hh: ∀l,hi=some l→ev' l=ev l:=fun l e=>hev l (by subst e;cases lo<;>simp[Op.operands])
      simp only[dz,h1]
      cases uU P t with
      |none=>rfl
      | some e=>
        generalize ev x=y
        cases y with
        | c y=>
          cases y with
          |own k sz n=>cases lo<;>cases hi<;>first|rfl|simp only[hh _ rfl]
          | t y=>
            cases y with
            |s _=>rfl
            |mp _ _=>rfl
            |sl e' sz n f=>cases lo<;>cases hi<;>first|rfl|simp only[hh _ rfl]|simp only[hl _ rfl]
          |_=>rfl
        |_=>rfl
  | call c=>
    have h1:c.args.toList.map ev' =c.args.toList.map ev:=List.map_congr_left fun x hx=>hev x (by simp[Op.operands,Call.operands];exact .inr (by simpa using hx))
    have h2: ∀x,c.args.toList= [x]→ev' x=ev x:=fun x hx=>by rw[hx]at h1;simpa using h1
    simp only[dz]
    split
    · rename_i x hcal hargs
      rw[h2 x hargs]
    · rename_i hcal
      rw[h1]
    · rename_i hcal
      rw[h1]
    ·rfl
  |pick c x y=>simp only[dz,hev c (by simp[Op.operands]),hev x (by simp[Op.operands]),hev y (by simp[Op.operands])]
  |binOp op t x y yt=>simp only[dz,hev x (by simp[Op.operands]),hev y (by simp[Op.operands])]
  |indexAddr t x y=>simp only[dz,hev x (by simp[Op.operands]),hev y (by simp[Op.operands])]
  |move x=>simp only[dz,hev x (by simp[Op.operands])]
  |assign x=>simp only[dz,hev x (by simp[Op.operands])]
  |nilCheck x=>simp only[dz,hev x (by simp[Op.operands])]
  |fieldAddr s x f=>simp only[dz,hev x (by simp[Op.operands])]
  |unOp op t x=>simp only[dz,hev x (by simp[Op.operands])]
  |convert s t x=>simp only[dz,hev x (by simp[Op.operands])]
  |makeInterface t x=>simp only[dz,hev x (by simp[Op.operands])]
  |typeAssert x s t ok=>simp only[dz,hev x (by simp[Op.operands])]
  |field t x f=>simp only[dz,hev x (by simp[Op.operands])]
  |lookup t x y ok=>cases ok<;>simp only[dz,hev x (by simp[Op.operands]),hev y (by simp[Op.operands])]
  |extract x i=>simp only[dz,hev x (by simp[Op.operands])]
  |_=>rfl
theorem GZ {x:V} {e sz:Nat} (h: ∀k∈ak x,bl' k=bl k):rowsOf P e sz bl' x=rowsOf P e sz bl x:=by
  cases x with
  | c x=>
    cases x with
    |own k s m=>simp only[rowsOf];rw[h k (by simp[ak,au])]
    |t y=>cases y<;>rfl
    |_=>rfl
  |_=>rfl
theorem JE {d :Nat} (hev: ∀x∈o.operands,ev' x=ev x) (hbl: ∀k∈ai o ev,bl' k=bl k):iw P o ev' bl' d=iw P o ev bl d:=by
  cases o with
  |box e x=>simp only[iw,hev x (by simp[Op.operands])]
  | buildSlice t n ps=>
    simp only[iw]
    rw[DD (ev:=ev) (ev' :=ev') (fun p hp=>hev p.2 (by simp[Op.operands];exact⟨p.1,by simpa using hp⟩))]
  |makeSlice t x y=>simp only[iw,hev x (by simp[Op.operands]),hev y (by simp[Op.operands])]
  | store t a x=>
    have h1:=hev a (by simp[Op.operands])
    simp only[iw,h1,hev x (by simp[Op.operands])]
    split
    · rename_i k i o' ys hx hy
      rw[hbl k (by simp[ai,hx,ak,au])]
    ·rfl
  | call c=>
    have h1:c.args.toList.map ev' =c.args.toList.map ev:=List.map_congr_left fun x hx=>hev x (by simp[Op.operands,Call.operands];exact .inr (by simpa using hx))
    simp only[iw]
    split
    · rename_i s x t t' hcal hargs hty
      have hs0:s∈c.args.toList:=by rw[hargs];simp
      have hx0:x∈c.args.toList:=by rw[hargs];simp
      have hs:s∈(Op.call c).operands:=by simp[Op.operands,Call.operands];exact .inr (by simpa using hs0)
      have hx:x∈(Op.call c).operands:=by simp[Op.operands,Call.operands];exact .inr (by simpa using hx0)
      have hbl: ∀k∈af (Op.call c) ev,bl' k=bl k:=fun k hk=>hbl k (by simp only[ai,hcal];exact hk)
      have r: ∀e sz,rowsOf P e sz bl' (ev x)=rowsOf P e sz bl (ev x):=fun e sz=>GZ (fun k hk=>hbl k (Ez hx hk))
      simp only[hev s hs,hev x hx,r]
      have b: ∀ {k s' n},ev s= .c (.own k s' n)→bl' k=bl k:=fun{k s' n} h=>hbl k (Ez hs (by rw[h];simp[ak,au]))
      split
      · split
        · split
          · split
            · split
              ·rfl
              ·rename_i k s' n hh;rw[b hh]
              ·rfl
            ·rfl
          ·rfl
        ·rfl
      ·rfl
    ·rfl
  |_=>rfl
end
theorem xC {B B' :Bs} {k:Nat} (h:B'.get k=B.get k):B'.live k=B.live k:=by unfold Bs.live;rw[h]
theorem G5 {o:Op} {ev ev' :Operand→V} (hev: ∀x∈o.operands,ev' x=ev x):af o ev' =af o ev:=by
  unfold af
  rw[List.flatMap_def,List.flatMap_def]
  congr 1
  exact List.map_congr_left fun x hx=>by rw[hev x (by simpa using hx)]
theorem DF {o:Op} {ev ev' :Operand→V} (hev: ∀x∈o.operands,ev' x=ev x):ai o ev' =ai o ev:=by
  cases o with
  |load t a=>simp only[ai];rw[hev a (by simp[Op.operands])]
  |store t a x=>simp only[ai];rw[hev a (by simp[Op.operands])]
  | call c=>
    have h:=G5 hev
    simp only[ai]
    split
    ·exact h
    ·rfl
  |_=>rfl
theorem DI {ks bs:List Nat} {B B' :Bs} (h: ∀k∈bs,B'.live k=B.live k) {x y:C} (hp:iB ks bs B x y):iB ks bs B' x y:=by
  cases x<;>cases y<;>simp only[iB]at hp⊢<;>first|exact hp.elim|exact hp|skip
  case own.t k sz n y=>
    cases y with
    |s _=>exact hp
    |mp _ _=>exact hp
    | sl e sz' n' f=>
      obtain⟨h1,h2,h3,N,h4⟩:=hp
      exact⟨h1,h2,h3,N,(h k h1).trans h4⟩
  case nil.t y=>cases y<;>exact hp
theorem Co {ks bs:List Nat} {B B' :Bs} (h: ∀k∈bs,B'.live k=B.live k): ∀ {xs ys:List C},iO ks bs B xs ys→iO ks bs B' xs ys
  | [], [],_=>trivial
  |x::xs,y::ys,hp=>⟨DI h hp.1,Co h hp.2⟩
  | [],_::_,hp=>hp.elim
  |_::_, [],hp=>hp.elim
theorem IQ {ks bs:List Nat} {B B' :Bs} (h: ∀k∈bs,B'.live k=B.live k) {x y:V} (hp:iW ks bs B x y):iW ks bs B' x y:=by
  cases y with
  |dead=>cases x<;>trivial
  |c y=>cases x<;>simp only[iW]at hp⊢<;>first|exact hp.elim|exact DI h hp
  |agg ys=>cases x<;>simp only[iW]at hp⊢<;>first|exact hp.elim|exact Co h hp
  |tup ys=>cases x<;>simp only[iW]at hp
theorem Cq {ks bs:List Nat} {B B' :Bs} (h: ∀k∈bs,B'.live k=B.live k): ∀ {xs ys:List V},dx ks bs B xs ys→dx ks bs B' xs ys
  | [], [],_=>trivial
  |x::xs,y::ys,hp=>⟨IQ h hp.1,Cq h hp.2⟩
  | [],_::_,hp=>hp.elim
  |_::_, [],hp=>hp.elim
theorem DJ {B B' :Bs}: ∀ {ks:List Nat} {i:Nat},(∀k∈ks,B'.live k=B.live k)→dw B' i ks=dw B i ks
  | [],_,_=>rfl
  |k::ks,i,h=>by simp only[dw];rw[h k List.mem_cons_self,DJ (fun k' hk=>h k' (List.mem_cons_of_mem _ hk))]
section
variable {P:Program} {o:Oper} {d:Nat} {ev ev' :Operand→V} {B B' :Bs} {rk wk:List Nat} {outs:V→List (Nat×Option Blk)→Prop}
theorem EA (h:Does P o d ev B rk wk outs) (hev: ∀x∈o.op.operands,ev' x=ev x) (hB: ∀k,k∈rk∨k∈wk∨AR o.dst d k→B'.get k=B.get k):Does P o d ev' B' rk wk outs:=by
  cases h with
  | val p v hv hp=>
    rw[←DF hev]
    exact .val p v (by rw[JD hev (fun k hk=>xC (hB k (.inl hk)))];exact hv) hp
  | mem p v ups nw hv hp hd hsd=>
    rw[←DF hev]
    exact .mem p v ups nw (by rw[JE hev (fun k hk=>xC (hB k (.inl hk)))];exact hv) hp (fun hn=>by rw[hB _ (.inr (.inr ⟨hsd hn, .inl rfl⟩))];exact hd hn) hsd
  | call cl _ _ _ hop hc=>
    obtain⟨g,xs,es,R,h1,h2,hh,hp,hs,hout⟩:=hc.out
    have hargs:cl.args.toList.map ev' =cl.args.toList.map ev:=List.map_congr_left fun x hx=>hev x (by rw[hop];simp[Op.operands,Call.operands];exact .inr (by simpa using hx))
    have lr: ∀k∈rk,B'.live k=B.live k:=fun k hk=>xC (hB k (.inl hk))
    have lw: ∀k∈wk,B'.live k=B.live k:=fun k hk=>xC (hB k (.inr (.inl hk)))
    refine .call cl wk rk outs hop ⟨⟨g,xs,es,R,h1,h2,⟨hh.nd,hh.few,fun k hk=> ?_,fun k hk=> ?_⟩,by rw[hargs];exact Cq lr hp,by rw[DJ lw];exact hs,fun res B1 hr=> ?_⟩⟩
    ·rw[lw k hk];exact hh.live k hk
    ·rw[lr k hk];exact hh.bor k hk
    · obtain⟨hb,q1,q2,q3,q4⟩:=hout res B1 hr
      refine⟨⟨hb.nd,fun q y hq hlt=> ?_,hb.small,hb.closed,fun k hk=>by rw[lr k hk];exact hb.els k hk⟩,q1,q2,q3,q4⟩
      have h3:=q3 _ hq
      simp only at h3
      rw[hB _ (.inr (.inr ⟨h3.2 hlt, .inr ?_⟩))]
      ·exact hb.fresh q y hq hlt
      · unfold ren
        rw[if_neg hlt]
        constructor<;>omega
theorem LW (h:Does P o d ev B rk wk outs): ∃outs' :V→List (Nat×Option Blk)→Prop,Does P o d ev B rk wk outs' ∧∀v u,outs' v u→outs v u∧∀p∈u,p.1∈wk∨AR o.dst d p.1:=by
  cases h with
  |val p v hv hp=>exact⟨_, .val p v hv hp,fun v' u ⟨h1,h2⟩=>⟨⟨h1,h2⟩,by subst h2;simp⟩⟩
  | mem p v ups nw hv hp hd hsd=>
    refine⟨_, .mem p v ups nw hv hp hd hsd,fun v' u ⟨h1,h2⟩=>⟨⟨h1,h2⟩,fun q hq=> ?_⟩⟩
    subst h2
    rcases List.mem_append.1 hq with h|h
    ·exact .inl (List.mem_map.2 ⟨q,h,rfl⟩)
    · cases nw with
      |none=>simp[kU]at h
      |some b=>simp[kU]at h;subst h;exact .inr ⟨hsd (by simp), .inl rfl⟩
  | call cl _ _ _ hop hc=>
    obtain⟨g,xs,es,R,h1,h2,hh,hp,hs,hout⟩:=hc.out
    refine⟨fun v u=>outs v u∧∀p∈u,p.1∈wk∨AR o.dst d p.1, .call cl wk rk _ hop ⟨⟨g,xs,es,R,h1,h2,hh,hp,hs,fun res B1 hr=> ?_⟩⟩,fun v u h=>h⟩
    obtain⟨hb,q1,q2,q3,q4⟩:=hout res B1 hr
    refine⟨hb,q1,q2,q3,q4,fun p hp=> ?_⟩
    obtain⟨⟨q,y⟩,hq,rfl⟩:=List.mem_map.1 hp
    have h3:=q3 _ hq
    simp only at h3⊢
    unfold ren
    split
    · rename_i hlt
      have:=hb.small q y hq hlt
      exact .inl (by rw[List.getD_eq_getElem?_getD,List.getElem?_eq_getElem this];exact List.getElem_mem this)
    · rename_i hlt
      exact .inr ⟨h3.2 hlt, .inr (by constructor<;>omega)⟩
end
theorem xg {k:Nat}: ∀(u:List (Nat×Option Blk)) (B:Bs),(∀p∈u,p.1≠k)→(dE B u).get k=B.get k
  | [],_,_=>rfl
  | (q,y)::u,B,h=>by
    show(dE (B.set q y) u).get k=_
    rw[xg u _ (fun p hp=>h p (List.mem_cons_of_mem _ hp)),Bs.get_set,if_neg (h (q,y) List.mem_cons_self)]
theorem BD {k:Nat}: ∀(u:List (Nat×Option Blk)) (B B' :Bs),(B.get k=B'.get k∨∃p∈u,p.1=k)→(dE B u).get k=(dE B' u).get k
  | [],B,B',h=>by
    rcases h with h|⟨p,hp,_⟩
    ·exact h
    ·simp at hp
  | (q,y)::u,B,B',h=>by
    show(dE (B.set q y) u).get k=(dE (B'.set q y) u).get k
    refine BD u _ _ ?_
    rw[Bs.get_set,Bs.get_set]
    rcases h with h|⟨p,hp,rfl⟩
    ·exact .inl (by rw[h])
    · rcases List.mem_cons.1 hp with rfl|h
      ·exact .inl (by simp)
      ·exact .inr ⟨p,h,rfl⟩
theorem KJ {u u' :List (Nat×Option Blk)} {B:Bs} (h: ∀p∈u,∀p' ∈u',p.1≠p'.1) (k:Nat):(dE (dE B u) u').get k=(dE (dE B u') u).get k:=by
  by_cases h1: ∃p∈u',p.1=k
  · obtain⟨p',hp',rfl⟩:=h1
    rw[xg u (dE B u') (fun p hp=>h p hp p' hp')]
    exact BD u' _ _ (.inr ⟨p',hp',rfl⟩)
  · have hno: ∀p∈u',p.1≠k:=fun p hp e=>h1 ⟨p,hp,e⟩
    rw[xg u' _ hno]
    by_cases h2: ∃p∈u,p.1=k
    ·exact BD u _ _ (.inr h2)
    · have a: ∀p∈u,p.1≠k:=fun p hp e=>h2 ⟨p,hp,e⟩
      rw[xg u _ a,xg u _ a,xg u' _ hno]
def Eqv (B B' :Bs):Prop:= ∀k,B.get k=B'.get k
theorem Eqv.upd {B B' :Bs} (h:Eqv B B') (u:List (Nat×Option Blk)):Eqv (dE B u) (dE B' u):=fun k=>BD u B B' (.inl (h k))
theorem Eqv.symm {B B' :Bs} (h:Eqv B B'):Eqv B' B:=fun k=>(h k).symm
def iL (ops:Array Oper) (ts:List V) (o:Oper):Option Bool:=
  match o.guard with
  |none=>some true
  | some (j,want)=>match (ops[j]?).bind (·.dst)with
    | some t=>match ts.getD t .dead with
      | .c (.t (.s (.bool b)))=>some (b==want)
      | .tup []=>some false
      |_=>none
    |none=>none
def EB:Op→Bool
  | .call c=>match c.callee with| .value _=>false|_=>true
  |_=>true
def Gen (P:Program) (ops:Array Oper) (o:Oper) (ts:List V) (B:Bs) (rk wk:List Nat) (outs:V→List (Nat×Option Blk)→Prop):Prop:=
  (iL ops ts o=some false∧rk= []∧wk= []∧outs=fun v u=>v= .tup []∧u= [])∨(iL ops ts o=some true∧Does P o (o.dst.getD 0) (evl ts) B rk wk outs)
def opW (P:Program) (ops:Array Oper) (o:Oper) (ts:List V) (B:Bs) (C:List Nat→List Nat→Prop) (K:List Nat→List Nat→List V→Bs→Prop):Prop:=
  ∃rk wk outs,Gen P ops o ts B rk wk outs∧C rk wk∧∀v u,outs v u→K rk wk (dI ts o.dst v) (dE B u)
def Ak (dj:Nat) (rj wj:List Nat) (di:Nat) (ri wi:List Nat):Prop:=
  (∀k∈wj,k∉ri∧k∉wi)∧(∀k∈rj,k∉wi)∧(∀k∈ri++wi,¬BC dj k)∧∀k∈rj++wj,¬BC di k
theorem Ak.symm {dj di:Nat} {rj wj ri wi:List Nat} (h:Ak dj rj wj di ri wi):Ak di ri wi dj rj wj:=by
  obtain⟨h1,h2,h3,h4⟩:=h
  refine⟨fun k hk=>⟨fun h=>h2 k h hk,fun h=>(h1 k h).2 hk⟩,fun k hk h=>(h1 k h).1 hk,fun k hk=>h4 k hk,fun k hk=>h3 k hk⟩
abbrev Tr:=List (Nat×List Nat×List Nat)
def vI (ops:Array Oper) (i:Nat):Nat:=((ops[i]?).bind (·.dst)).getD 0
def chk (pre:Option (Nat→List Nat)) (ops:Array Oper) (i:Nat) (rk wk:List Nat) (tr:Tr):Prop:=
  match pre with
  |none=>True
  |some p=> ∀e∈tr,e.1∈p i∨Ak (vI ops e.1) e.2.1 e.2.2 (vI ops i) rk wk
def wU (P:Program) (ops:Array Oper) (pre:Option (Nat→List Nat)) (K:List V→Bs→Prop):List Nat→Tr→List V→Bs→Prop
  | [],_,ts,B=>K ts B
  |i::l,tr,ts,B=> ∃o,ops[i]? =some o∧opW P ops o ts B (fun rk wk=>chk pre ops i rk wk tr) fun rk wk ts' B' =>wU P ops pre K l ((i,rk,wk)::tr) ts' B'
theorem I8 {ts:List V} {dst:Option Tmp} {v:V} {x:Operand} (h: ∀d,dst=some d→x≠ .tmp d):evl (dI ts dst v) x=evl ts x:=by
  cases dst with
  |none=>rfl
  | some d=>
    cases x with
    | tmp t=>
      have:d≠t:=fun e=>h d rfl (e▸rfl)
      simp[evl,dI,List.getD_eq_getElem?_getD,List.getElem?_set_ne this]
    |_=>rfl
theorem KL (ts:List V) {x y:Option Tmp} (v u:V) (h: ∀d,x=some d→y≠some d):dI (dI ts x v) y u=dI (dI ts y u) x v:=by
  cases x with
  |none=>rfl
  | some d=>
    cases y with
    |none=>rfl
    | some e=>
      have:d≠e:=fun he=>h d rfl (he▸rfl)
      exact List.set_comm _ _ this
section
variable {P:Program} {ops:Array Oper} {o:Oper} {ts ts' :List V} {B B' :Bs} {rk wk:List Nat} {outs:V→List (Nat×Option Blk)→Prop}
theorem G6 {x:Operand} {t:Nat} (hx:x∈o.op.operands) (e:x= .tmp t):t∈o.looksAt ops:=
  List.mem_append_left _ (List.mem_filterMap.2 ⟨x,by simpa using hx,by rw[e]⟩)
theorem BF {dst:Option Tmp} {v:V} (h: ∀d,dst=some d→d∉o.looksAt ops):iL ops (dI ts dst v) o=iL ops ts o:=by
  cases dst with
  |none=>rfl
  | some d=>
    unfold iL
    cases hg:o.guard with
    |none=>rfl
    | some gw=>
      obtain⟨g,want⟩:=gw
      cases ht:(ops[g]?).bind (·.dst)with
      |none=>simp only[ht]
      | some t=>
        have:d≠t:=fun e=>h d rfl (by subst e;simp[Oper.looksAt,hg,ht])
        simp[dI,List.getD_eq_getElem?_getD,List.getElem?_set_ne this,ht]
theorem F9 (h:Gen P ops o ts B rk wk outs) {dst:Option Tmp} {v:V} (hd: ∀d,dst=some d→d∉o.looksAt ops)
    (hB: ∀k,k∈rk∨k∈wk∨AR o.dst (o.dst.getD 0) k→B'.get k=B.get k):Gen P ops o (dI ts dst v) B' rk wk outs:=by
  rcases h with⟨h1,h2⟩|⟨h1,h2⟩
  ·exact .inl ⟨by rw[BF hd];exact h1,h2⟩
  ·exact .inr ⟨by rw[BF hd];exact h1,EA h2 (fun x hx=>I8 fun d e e2=>hd d e (G6 hx e2)) hB⟩
theorem KM {dst:Option Tmp} {v:V} (h:Gen P ops o (dI ts dst v) B rk wk outs) (hd: ∀d,dst=some d→d∉o.looksAt ops)
    (hB: ∀k,k∈rk∨k∈wk∨AR o.dst (o.dst.getD 0) k→B'.get k=B.get k):Gen P ops o ts B' rk wk outs:=by
  rcases h with⟨h1,h2⟩|⟨h1,h2⟩
  ·exact .inl ⟨by rw[BF hd]at h1;exact h1,h2⟩
  ·exact .inr ⟨by rw[BF hd]at h1;exact h1,EA h2 (fun x hx=>(I8 fun d e e2=>hd d e (G6 hx e2)).symm) hB⟩
theorem I9 (h:Gen P ops o ts B rk wk outs): ∃outs' :V→List (Nat×Option Blk)→Prop,Gen P ops o ts B rk wk outs' ∧∀v u,outs' v u→outs v u∧∀p∈u,p.1∈wk∨AR o.dst (o.dst.getD 0) p.1:=by
  rcases h with⟨h1,rfl,rfl,rfl⟩|⟨h1,h2⟩
  ·exact⟨_, .inl ⟨h1,rfl,rfl,rfl⟩,fun v u ⟨a,b⟩=>⟨⟨a,b⟩,by subst b;simp⟩⟩
  · obtain⟨o',h3,h4⟩:=LW h2
    exact⟨o', .inr ⟨h1,h3⟩,h4⟩
theorem Ja (h:Gen P ops o ts B rk wk outs) (hd:EB o.op=true): ∃v0 u0,∀v u,outs v u↔v=v0∧u=u0:=by
  rcases h with⟨h1,rfl,rfl,rfl⟩|⟨h1,h2⟩
  ·exact⟨.tup [], [],fun _ _=>Iff.rfl⟩
  · cases h2 with
    |val p v=>exact⟨v, [],fun _ _=>Iff.rfl⟩
    |mem p v ups nw=>exact⟨v,_,fun _ _=>Iff.rfl⟩
    | call cl _ _ _ hop hc=>
      obtain⟨g,xs,es,R,h1,_⟩:=hc.out
      rw[hop]at hd
      simp[EB,h1]at hd
end
theorem zF {P:Program} {ops:Array Oper} {o:Oper} {ts:List V} {B:Bs} {C C' :List Nat→List Nat→Prop} {K K' :List Nat→List Nat→List V→Bs→Prop} (h:opW P ops o ts B C K) (hc: ∀rk wk,C rk wk→C' rk wk)
    (hk: ∀rk wk ts B,K rk wk ts B→K' rk wk ts B):opW P ops o ts B C' K' :=
  let ⟨rk,wk,outs,h1,h3,h2⟩:=h;⟨rk,wk,outs,h1,hc _ _ h3,fun v u ho=>hk _ _ _ _ (h2 v u ho)⟩
theorem M0 {P:Program} {ops:Array Oper} {o:Oper} {ts:List V} {B B' :Bs} {C:List Nat→List Nat→Prop} {K:List Nat→List Nat→List V→Bs→Prop} (h:opW P ops o ts B C K) (e:Eqv B B'):opW P ops o ts B' C (fun rk wk a B1=> ∃B0,Eqv B0 B1∧K rk wk a B0):=
  let ⟨rk,wk,outs,h1,h3,h2⟩:=h
  ⟨rk,wk,outs,F9 (dst:=none) (v:= .dead) h1 (fun d hd=>by cases hd) (fun k _=>(e k).symm),h3,fun v u ho=>⟨_,e.upd u,h2 v u ho⟩⟩
section
variable {P:Program} {ops:Array Oper} {pre:Option (Nat→List Nat)} {K:List V→Bs→Prop}
def Fx (K:List V→Bs→Prop):Prop:= ∀ts B B',Eqv B B' →K ts B→K ts B'
theorem G7 (hK:Fx K): ∀(l:List Nat) (tr tr' :Tr) (ts:List V) (B B' :Bs),(∀e∈tr',e∈tr)→Eqv B B' →wU P ops pre K l tr ts B→wU P ops pre K l tr' ts B'
  | [],_,_,ts,B,B',_,e,h=>hK ts B B' e h
  | i ::l,tr,tr',ts,B,B',hs,e,h=>by
    obtain⟨o,ho,hw⟩:=h
    refine⟨o,ho,zF (M0 hw e) (fun rk wk hc=> ?_) fun rk wk a B1 ⟨B0,e0,hr⟩=>G7 hK l _ _ a B0 B1 (fun x hx=> ?_) e0 hr⟩
    · cases pre with
      |none=>trivial
      |some p=>exact fun x hx=>hc x (hs x hx)
    · rcases List.mem_cons.1 hx with rfl|h
      ·exact List.mem_cons_self
      ·exact List.mem_cons_of_mem _ (hs x h)
theorem KN {m n k:Nat} (hm:m<900) (hn:n<900) (h1:BC m k) (h2:BC n k):m=n:=by
  unfold BC at h1 h2;omega
theorem swap (hK:Fx K) {p:Nat→List Nat} {d i:Nat} {l:List Nat} {tr:Tr} {ts:List V} {B:Bs} {od oi:Oper} (hod:ops[d]? =some od) (hoi:ops[i]? =some oi) (hdet:EB od.op=true)
    (hap:od.apart ops oi=true) (hsd:od.dst.getD 0<900) (hsi:oi.dst.getD 0<900) (hne:d∉p i) (h:wU P ops (some p) K (d::i::l) tr ts B):wU P ops (some p) K (i::d::l) tr ts B:=by
  obtain⟨a1,a2,a3⟩:=Oper.apart_spec hap
  obtain⟨od',e1,rd,wd,outd,gd,hcd,hd⟩:=h
  rw[hod]at e1;injection e1 with e1;subst e1
  obtain⟨vd,ud,hdet'⟩:=Ja gd hdet
  obtain⟨outd',gd',hud⟩:=I9 gd
  obtain⟨vd',ud',c⟩:=Ja gd' hdet
  obtain⟨q1,q2⟩:=hud vd' ud' ((c _ _).2 ⟨rfl,rfl⟩)
  obtain⟨rfl,rfl⟩:=(hdet' _ _).1 q1
  obtain⟨oi',e2,ri,wi,outi,gi,hci,hi⟩:=hd vd' ud' ((hdet' _ _).2 ⟨rfl,rfl⟩)
  rw[hoi]at e2;injection e2 with e2;subst e2
  obtain⟨outi',gi',hui⟩:=I9 gi
  have dd:vI ops d=od.dst.getD 0:=by simp[vI,hod]
  have di:vI ops i=oi.dst.getD 0:=by simp[vI,hoi]
  have hind:Ak (od.dst.getD 0) rd wd (oi.dst.getD 0) ri wi:=by
    have:=(hci _ List.mem_cons_self).resolve_left hne
    simpa only[dd,di] using this
  obtain⟨n1,n2,n3,n4⟩:=hind
  have a: ∀k,AR od.dst (od.dst.getD 0) k→AR oi.dst (oi.dst.getD 0) k→False:=fun k ⟨x1,x2⟩ ⟨y1,y2⟩=>by
    have hne:od.dst.getD 0≠oi.dst.getD 0:=fun e=>a2 _ x1 (by rw[e];exact y1)
    exact hne (KN hsd hsi x2 y2)
  have keep: ∀k,k∈ri∨k∈wi∨AR oi.dst (oi.dst.getD 0) k→∀pr∈ud',pr.1≠k:=fun k hk pr hpr e=>by
    subst e
    rcases q2 pr hpr with h|h
    · rcases hk with hk|hk|hk
      ·exact(n1 _ h).1 hk
      ·exact(n1 _ h).2 hk
      ·exact n4 _ (List.mem_append_right _ h) hk.2
    · rcases hk with hk|hk|hk
      ·exact n3 _ (List.mem_append_left _ hk) h.2
      ·exact n3 _ (List.mem_append_right _ hk) h.2
      ·exact a pr.1 h hk
  have giB:Gen P ops oi ts B ri wi outi' :=KM gi' a1 (fun k hk=>(xg ud' B (keep k hk)).symm)
  refine⟨oi,hoi,ri,wi,outi',giB,fun x hx=>hci x (List.mem_cons_of_mem _ hx),fun v u ho=> ?_⟩
  obtain⟨ho1,hku⟩:=hui v u ho
  have g: ∀k,k∈rd∨k∈wd∨AR od.dst (od.dst.getD 0) k→∀pr∈u,pr.1≠k:=fun k hk pr hpr e=>by
    subst e
    rcases hku pr hpr with h|h
    · rcases hk with hk|hk|hk
      ·exact n2 _ hk h
      ·exact(n1 _ hk).2 h
      ·exact n3 _ (List.mem_append_right _ h) hk.2
    · rcases hk with hk|hk|hk
      ·exact n4 _ (List.mem_append_left _ hk) h.2
      ·exact n4 _ (List.mem_append_right _ hk) h.2
      ·exact a pr.1 hk h
  have gdB:Gen P ops od (dI ts oi.dst v) (dE B u) rd wd outd' :=F9 gd' a3 (fun k hk=>xg u B (g k hk))
  refine⟨od,hod,rd,wd,outd',gdB,fun x hx=> ?_,fun v2 u2 ho2=> ?_⟩
  · rcases List.mem_cons.1 hx with rfl|h
    · refine .inr ?_
      show Ak (vI ops i) ri wi (vI ops d) rd wd
      rw[dd,di]
      exact Ak.symm ⟨n1,n2,n3,n4⟩
    ·exact hcd x h
  · obtain ⟨rfl, rfl⟩ := (c _ _).1 ho2
    have h1:=hi v u ho1
    rw[KL ts v v2 (fun d hd' e=>a2 d e hd')]
    refine G7 hK l _ _ _ _ _ (fun x hx=> ?_) (fun k=>KJ (fun p hp p' hp' e=> ?_) k) h1
    · simp only[List.mem_cons]at hx⊢
      rcases hx with h|h|h
      ·exact .inr (.inl h)
      ·exact .inl h
      ·exact .inr (.inr h)
    · exact keep p'.1 (by rcases hku p' hp' with h|h;·exact .inr (.inl h)
                          ·exact .inr (.inr h)) p hp e
theorem front (hK:Fx K) {p:Nat→List Nat} {i:Nat} {oi:Oper} (hoi:ops[i]? =some oi) (hsi:oi.dst.getD 0<900): ∀(l1 l2:List Nat) (tr:Tr) (ts:List V) (B:Bs),
    (∀d∈l1,∃od,ops[d]? =some od∧EB od.op=true∧od.apart ops oi=true∧od.dst.getD 0<900∧d∉p i)→wU P ops (some p) K (l1++i::l2) tr ts B→wU P ops (some p) K (i::(l1++l2)) tr ts B
  | [],l2,tr,ts,B,_,h=>h
  | d::l1,l2,tr,ts,B,hd,h=>by
    obtain⟨od,h1,h2,h3,h4,h5⟩:=hd d List.mem_cons_self
    refine swap hK h1 hoi h2 h3 h4 hsi h5 ?_
    obtain⟨o,e,hw⟩:=h
    exact⟨o,e,zF hw (fun _ _ h=>h) fun rk wk a B1 hr=>front hK hoi hsi l1 l2 _ _ _ (fun d' hd' =>hd d' (List.mem_cons_of_mem _ hd')) hr⟩
end
def yg (ops:Array Oper) (i:Nat):List Nat:=match ops[i]? with|some o=>(o.after.toList.filter fun e=>Region.binds .any e).map (·.on)|none=> []
def zG (ops:Array Oper) (p:Nat→List Nat) (d i:Nat):Bool:=
  !(yg ops d).contains i && ((p i).contains d||match ops[d]?,ops[i]? with|some od,some oi=>EB od.op && od.apart ops oi|_,_=>false)
def Da (ops:Array Oper) (p:Nat→List Nat):List Nat→Bool
  | []=>true
  |d::l=>l.all (fun i=>zG ops p d i) && !l.contains d && Da ops p l
def Gy (ops:Array Oper) (p:Nat→List Nat) (l:List Nat):Bool:=
  decide (l.length≤ops.size) && (List.range ops.size).all (fun i=>l.contains i) && l.all (fun i=>decide (i<ops.size)) && Da ops p l &&
  (List.range ops.size).all (fun i=>(p i).all (fun d=>(yg ops i).any fun e=>d==e||(p e).contains d) && (yg ops i).all (fun e=>decide (e<ops.size) && e !=i) &&
    decide (vI ops i<900))
structure Inv (ops:Array Oper) (p:Nat→List Nat) (listed:Array Bool) (l:List Nat):Prop where
  sz:listed.size=ops.size
  mem: ∀i,i<ops.size→(listed.getD i true=false↔i∈l)
  lt: ∀i∈l,i<ops.size
  pw:l.Pairwise fun d i=>d≠i∧zG ops p d i=true
  cl: ∀j,j<ops.size→j∉l→∀d∈p j,d∉l
structure Stat (ops:Array Oper) (p:Nat→List Nat):Prop where
  s3: ∀i,i<ops.size→∀d∈p i,∃e∈yg ops i,d=e∨d∈p e
  s4: ∀i,i<ops.size→∀e∈yg ops i,e<ops.size∧e≠i
  s5: ∀i,i<ops.size→vI ops i<900
theorem G8 {ops:Array Oper} {p:Nat→List Nat}: ∀ {l:List Nat},Da ops p l=true→l.Pairwise fun d i=>d≠i∧zG ops p d i=true
  | [],_=>List.Pairwise.nil
  | d::l,h=>by
    simp only[Da,Bool.and_eq_true,List.all_eq_true,Bool.not_eq_true']at h
    obtain⟨⟨h1,h2⟩,h3⟩:=h
    refine List.Pairwise.cons (fun i hi=>⟨fun e=> ?_,h1 i hi⟩) (G8 h3)
    subst e
    have:l.contains d=true:=by simpa using hi
    rw[this]at h2;cases h2
theorem Ga {ops:Array Oper} {p:Nat→List Nat} {l:List Nat} (h:Gy ops p l=true):Inv ops p (Array.replicate ops.size false) l∧Stat ops p∧l.length≤ops.size:=by
  simp only[Gy,Bool.and_eq_true,List.all_eq_true,List.mem_range,decide_eq_true_eq]at h
  obtain⟨⟨⟨⟨h0,h1⟩,h2⟩,h3⟩,h4⟩:=h
  refine⟨⟨by simp,fun i hi=>⟨fun _=>by simpa using h1 i hi,fun _=>by simp[hi]⟩,h2,G8 h3,fun j hj hn=>absurd (by simpa using h1 j hj) hn⟩,
    ⟨fun i hi d hd=> ?_,fun i hi e he=> ?_,fun i hi=>(h4 i hi).2⟩,h0⟩
  · have:=(h4 i hi).1.1 d hd
    simp only[List.any_eq_true,Bool.or_eq_true,beq_iff_eq,List.contains_iff_mem]at this
    exact this
  · have:=(h4 i hi).1.2 e he
    simpa using this
theorem Cr {ops:Array Oper} {listed:Array Bool} {i:Nat} (h:i∈Region.ready .any ops listed):listed.getD i true=false∧∃o,ops[i]? =some o∧∀e∈yg ops i,listed.getD e false=true:=by
  rw[mem_ready]at h
  obtain⟨h1,o,h2,h3⟩:=h
  refine⟨h1,o,h2,fun e he=> ?_⟩
  simp only[yg,h2,List.mem_map,List.mem_filter]at he
  obtain⟨x,⟨hx1,hx2⟩,rfl⟩:=he
  exact h3 x (by simpa using hx1) hx2
theorem EC {ops:Array Oper} {listed:Array Bool} {i:Nat} {o:Oper} (h1:listed.getD i true=false) (h2:ops[i]? =some o) (h3: ∀e∈yg ops i,listed.getD e false=true):i∈Region.ready .any ops listed:=by
  rw[mem_ready]
  refine⟨h1,o,h2,fun e he hb=>h3 _ ?_⟩
  simp only[yg,h2,List.mem_map,List.mem_filter]
  exact⟨e,⟨by simpa using he,hb⟩,rfl⟩
theorem BG {ops:Array Oper} {ts:List V} {o:Oper} {g:Bool} {a:Act} {E:Env} (hr: ∀(i:Nat) x,ts[i]? =some x→mg E (a.tmps.getD i undef) x) (hs:a.tmps.size=ts.length) (h:iL ops ts o=some g):
    Region.wanted o (yielded ops a.tmps)=g:=by
  unfold iL at h
  unfold Region.wanted
  cases hg:o.guard with
  |none=>simp[hg]at h;subst h;rfl
  | some gw=>
    obtain⟨j,want⟩:=gw
    rw[hg]at h
    simp only at h⊢
    cases ht:(ops[j]?).bind (·.dst)with
    |none=>simp[ht]at h
    | some t=>
      simp only[ht]at h
      have htl:ts.getD t .dead≠ .dead→t<ts.length:=fun hb=>by
        rcases Nat.lt_or_ge t ts.length with h|h
        ·exact h
        ·rw[List.getD_eq_getElem?_getD,List.getElem?_eq_none h]at hb;simp at hb
      have get: ∀x,ts.getD t .dead=x→x≠ .dead→ts[t]? =some x∧t<a.tmps.size:=fun x hb hx=>by
        have htl:=htl (by rw[hb];exact hx)
        rw[List.getD_eq_getElem?_getD,List.getElem?_eq_getElem htl]at hb
        rw[List.getElem?_eq_getElem htl];exact⟨by simpa using hb,by rw[hs];exact htl⟩
      split at h<;>simp only[Option.some.injEq,reduceCtorEq]at h
      · rename_i b hb
        subst h
        obtain⟨h1,htl⟩:=get _ hb (by simp)
        have h2:=mh (hr t _ h1)
        have h3:a.tmps[t]? =some (.bool b):=by rw[←h2];simp[htl]
        simp[yielded,ht,h3]
      · rename_i hb
        subst h
        obtain⟨h1,htl⟩:=get _ hb (by simp)
        obtain⟨vs,h2,_⟩:=hr t _ h1
        have h3:a.tmps[t]? =some (.tuple vs):=by rw[←h2];simp[htl]
        simp[yielded,ht,h3]
section
variable {P:Program} {ops:Array Oper} {K:List V→Bs→Prop} {Q:Exit→Act→World→Prop} {c:Ctx}
theorem D9 {i:Nat} {o:Oper} (ho:ops[i]? =some o) {ts:List V} {B:Bs} {a:Act} {w:World} {ρ:Nat→Value} (hrel:RelAt c ts B a w ρ) {C:List Nat→List Nat→Prop} {M:List Nat→List Nat→List V→Bs→Prop}
    (h:opW P ops o ts B C M) {N:Act→World→Prop} (hN: ∀rk wk ts' B' a' w' ρ',M rk wk ts' B' →RelAt c ts' B' a' w' ρ' →N a' w'):wpOp P ops Q i N a w:=by
  obtain⟨rk,wk,outs,hg,_,hM⟩:=h
  unfold wpOp
  simp only[ho]
  rcases hg with⟨h1,rfl,rfl,rfl⟩|⟨h1,h2⟩
  · rw[BG hrel.rep hrel.sz h1]
    simp only[Bool.false_eq_true,if_false]
    exact hN _ _ _ _ _ _ ρ (hM (.tup []) [] ⟨rfl,rfl⟩) (hrel.put (v:=undef) (x:= .tup []) hrel.mem ⟨fun _ hb=>hb,fun _ _=>rfl,fun _ hk=>hk,fun k e s N f _ hl=>⟨⟨f,hl⟩,rfl⟩,fun k t cs _ hl=>⟨⟨cs,hl⟩,rfl⟩⟩ o.dst ⟨#[],rfl,rfl,by simp⟩)
  · rw[BG hrel.rep hrel.sz h1]
    simp only[if_true]
    exact .inl (Ey h2 hrel N fun v u a' w' ρ' ho hr=>hN _ _ _ _ _ _ ρ' (hM v u ho) hr)
theorem Gb (hK:Fx K) {p:Nat→List Nat} (hst:Stat ops p): ∀(fuel:Nat) (l:List Nat) (tr:Tr) (listed:Array Bool) (ts:List V) (B:Bs) (a:Act) (w:World) (ρ:Nat→Value),l.length≤fuel→Inv ops p listed l→RelAt c ts B a w ρ→
    wU P ops (some p) K l tr ts B→(∀ts B a w ρ,K ts B→RelAt c ts B a w ρ→Q .normal a w)→wpAny P .any ops Q fuel listed a w:=by
  intro fuel
  induction fuel with
  | zero=>
    intro l tr listed ts B a w ρ hl hi hr h hQ
    have:l= []:=by cases l with|nil=>rfl|cons _ _=>simp at hl
    subst this
    refine⟨?_,hQ ts B a w ρ h hr⟩
    rw[List.eq_nil_iff_forall_not_mem]
    intro i hi'
    obtain⟨h1,o,h2,_⟩:=Cr hi'
    have:=(hi.mem i (Array.getElem?_eq_some_iff.1 h2).1).1 h1
    simp at this
  | succ fuel ih=>
    intro l tr listed ts B a w ρ hl hi hr h hQ
    constructor
    · intro hnil
      cases l with
      |nil=>exact hQ ts B a w ρ h hr
      | cons i l=>
        have hil:=hi.lt i List.mem_cons_self
        have:i∈Region.ready .any ops listed:=EC (o:=ops[i]) ((hi.mem i hil).2 List.mem_cons_self) (Array.getElem?_eq_getElem hil) fun e he=>by
          obtain⟨h1,h2⟩:=hst.s4 i hil e he
          have h3:e∉i::l:=fun hm=>by
            rcases List.mem_cons.1 hm with h|h
            ·exact h2 h
            · have:=((List.pairwise_cons.1 hi.pw).1 e h).2
              simp only[zG,Bool.and_eq_true,Bool.not_eq_true']at this
              have h4:(yg ops i).contains e=true:=by simpa using he
              rw[h4]at this;simp at this
          have h4: ¬listed.getD e true=false:=fun h=>h3 ((hi.mem e h1).1 h)
          have h5:e<listed.size:=by rw[hi.sz];exact h1
          simpa[h5] using h4
        rw[hnil]at this
        simp at this
    · intro i hir
      obtain⟨h1,oi,h2,h3⟩:=Cr hir
      have hil:=(Array.getElem?_eq_some_iff.1 h2).1
      have himem:=(hi.mem i hil).1 h1
      obtain⟨l1,l2,rfl⟩:=List.append_of_mem himem
      have hpw:=List.pairwise_append.1 hi.pw
      have hni:i∉l1++l2:=fun hm=>by
        rcases List.mem_append.1 hm with h|h
        ·exact(hpw.2.2 i h i List.mem_cons_self).1 rfl
        ·exact((List.pairwise_cons.1 hpw.2.1).1 i h).1 rfl
      have unl: ∀e,e∈l1++i::l2→listed.getD e false=true→False:=fun e hm hl' =>by
        have h5:=hi.lt e hm
        have h4:=(hi.mem e h5).2 hm
        have h6:e<listed.size:=by rw[hi.sz];exact h5
        simp[h6]at h4 hl'
        rw[h4]at hl';cases hl'
      have nop: ∀d∈l1++i::l2,d∉p i:=fun d hd hp=>by
        obtain⟨e,he,h4⟩:=hst.s3 i hil d hp
        have h5:=h3 e he
        obtain⟨h6,_⟩:=hst.s4 i hil e he
        have h7:e∉l1++i::l2:=fun hm=>unl e hm h5
        rcases h4 with rfl|h4
        ·exact h7 hd
        ·exact hi.cl e h6 h7 d h4 hd
      have hfr:=front hK h2 (by have:=hst.s5 i hil;simpa[vI,h2] using this) l1 l2 tr ts B (fun d hd=>by
        have hp:=(hpw.2.2 d hd i List.mem_cons_self).2
        have hdl:=hi.lt d (List.mem_append_left _ hd)
        have hnp:=nop d (List.mem_append_left _ hd)
        simp only[zG,Bool.and_eq_true,Bool.or_eq_true]at hp
        have h4:(p i).contains d=false:=by simpa using hnp
        rw[h4,h2,Array.getElem?_eq_getElem hdl]at hp
        simp only[Bool.false_eq_true,false_or,Bool.and_eq_true]at hp
        have h5:=hst.s5 d hdl
        exact⟨ops[d],Array.getElem?_eq_getElem hdl,hp.2.1,hp.2.2,by simpa[vI,Array.getElem?_eq_getElem hdl] using h5,hnp⟩) h
      obtain⟨o,ho,hw⟩:=hfr
      have hsub:(l1++l2).Sublist (l1++i::l2):=List.Sublist.append (List.Sublist.refl _) (List.sublist_cons_self i l2)
      have hin:Inv ops p (listed.setIfInBounds i true) (l1++l2):=by
        refine⟨by simpa using hi.sz,fun j hj=> ?_,fun j hj=>hi.lt j (hsub.subset hj),hi.pw.sublist hsub,fun j hj hnj d hd hm=> ?_⟩
        · by_cases hij:i=j
          · subst hij
            have:i<listed.size:=by rw[hi.sz];exact hil
            simp[this]
            exact⟨fun hm=>hni (List.mem_append_left _ hm),fun hm=>hni (List.mem_append_right _ hm)⟩
          · rw[getD_set_ne true hij,hi.mem j hj]
            simp[Ne.symm hij]
        · by_cases hij:j=i
          ·subst hij;exact nop d (hsub.subset hm) hd
          · refine hi.cl j hj (fun hm' =>hnj ?_) d hd (hsub.subset hm)
            simp only[List.mem_append,List.mem_cons]at hm' ⊢
            rcases hm' with h|h|h
            ·exact .inl h
            ·exact absurd h hij
            ·exact .inr h
      exact D9 ho hr hw fun rk wk ts' B' a' w' ρ' hM hr' =>ih _ _ _ ts' B' a' w' ρ' (by simp at hl⊢;omega) hin hr' hM hQ
end
inductive Ex where
  |normal
  |exit (id:Nat)
  |ret
abbrev Post:=Ex→List V→Bs→Prop
def NI:Ex→Exit
  | .normal=> .normal
  | .exit id=> .exit id
  | .ret=> .ret
def post (c:Ctx) (Q:Post) (e:Exit) (a:Act) (w:World):Prop:= ∃e' ts B ρ,e=NI e' ∧Q e' ts B∧RelAt c ts B a w ρ
def HW (P:Program) (ins:Bs) (code:Code) (Q:Post) (ts:List V) (B:Bs):Prop:=
  ∀(c:Ctx) a w ρ,c.ins=ins→RelAt c ts B a w ρ→code.wp P (post c Q) a w
def sW (ins:Bs) (ts:List V) (B:Bs) (ts' :List V) (B' :Bs):Prop:= ∀(c:Ctx) a w ρ,c.ins=ins→RelAt c ts B a w ρ→∃ρ',RelAt c ts' B' a w ρ'
section
variable {P:Program} {ins:Bs} {Q Q' :Post} {ts ts' :List V} {B B' :Bs} {x y:Code}
theorem yC (h:HW P ins x Q ts B) (hq: ∀e ts B,Q e ts B→Q' e ts B):HW P ins x Q' ts B:=
  fun c a w ρ hc hr=>wp_mono (h c a w ρ hc hr) fun e a w ⟨e',ts,B,ρ,h1,h2,h3⟩=>⟨e',ts,B,ρ,h1,hq _ _ _ h2,h3⟩
theorem xQ (hw:sW ins ts B ts' B') (h:HW P ins x Q ts' B'):HW P ins x Q ts B:=
  fun c a w ρ hc hr=>let ⟨ρ',hr'⟩:=hw c a w ρ hc hr;h c a w ρ' hc hr'
theorem sW.refl:sW ins ts B ts B:=fun c a w ρ _ hr=>⟨ρ,hr⟩
theorem sW.trans {d:List V} {B2:Bs} (h:sW ins ts B ts' B') (h' :sW ins ts' B' d B2):sW ins ts B d B2:=
  fun c a w ρ hc hr=>let ⟨ρ',hr'⟩:=h c a w ρ hc hr;h' c a w ρ' hc hr'
theorem M3 (h:Q .normal ts B):HW P ins .skip Q ts B:=fun c a w ρ hc hr=>wp_skip ⟨.normal,ts,B,ρ,rfl,h,hr⟩
theorem M4 {id:Nat} (h:Q (.exit id) ts B):HW P ins (.exit id) Q ts B:=fun c a w ρ hc hr=>wp_exit ⟨.exit id,ts,B,ρ,rfl,h,hr⟩
theorem NJ (h:Q .ret ts B):HW P ins .ret Q ts B:=fun c a w ρ hc hr=>wp_ret ⟨.ret,ts,B,ρ,rfl,h,hr⟩
def OO (P:Program) (ins:Bs) (y:Code) (Q:Post):Post
  | .normal,ts,B=>HW P ins y Q ts B
  |e,ts,B=>Q e ts B
theorem KO (h:HW P ins x (OO P ins y Q) ts B):HW P ins (.seq x y) Q ts B:=fun c a w ρ hc hr=>by
  refine wp_seq (wp_mono (h c a w ρ hc hr) ?_)
  rintro e a w ⟨e',ts,B,ρ,rfl,h2,h3⟩
  cases e' with
  |normal=>exact h2 c a w ρ hc h3
  |exit id=>exact⟨.exit id,ts,B,ρ,rfl,h2,h3⟩
  |ret=>exact⟨.ret,ts,B,ρ,rfl,h2,h3⟩
theorem M5 {o:Operand} {t:Bool} (ho:evl ts o= .s (.bool t)) (ht:t=true→HW P ins x Q ts B) (hf:t=false→HW P ins y Q ts B):HW P ins (.cond o x y) Q ts B:=
  fun c a w ρ hc hr=>by
    have h1:=lZ hr.rep o
    rw[ho]at h1
    exact wp_cond_split (mh h1) (fun h=>ht h c a w ρ hc hr) (fun h=>hf h c a w ρ hc hr)
def zH (id:Nat) (Q:Post):Post
  | .exit id',ts,B=>if id' =id then Q .normal ts B else Q (.exit id') ts B
  |e,ts,B=>Q e ts B
theorem G9 {id:Nat} (h:HW P ins x (zH id Q) ts B):HW P ins (.block id x) Q ts B:=fun c a w ρ hc hr=>by
  refine wp_block (wp_mono (h c a w ρ hc hr) ?_)
  rintro e a w ⟨e',ts,B,ρ,rfl,h2,h3⟩
  cases e' with
  |normal=>exact⟨.normal,ts,B,ρ,rfl,h2,h3⟩
  | exit id' =>
    show if id' =id then post c Q .normal a w else post c Q (.exit id') a w
    have h2:if id' =id then Q .normal ts B else Q (.exit id') ts B:=h2
    split
    ·rename_i e;rw[if_pos e]at h2;exact⟨.normal,ts,B,ρ,rfl,h2,h3⟩
    ·rename_i e;rw[if_neg e]at h2;exact⟨.exit id',ts,B,ρ,rfl,h2,h3⟩
  |ret=>exact⟨.ret,ts,B,ρ,rfl,h2,h3⟩
def Oh (I:Nat→List V→Bs→Prop) (n:Nat) (Q:Post):Post
  | .normal,ts,B=> ∃m,m<n∧I m ts B
  |e,ts,B=>Q e ts B
theorem least (p:Nat→Prop): ∀n,p n→∃n,p n∧∀m,p m→n≤m:=fun n=>by
  induction n using Nat.strongRecOn with
  | _ n ih=>
    intro h
    by_cases h2: ∃m,m<n∧p m
    ·obtain⟨m,h3,h4⟩:=h2;exact ih m h3 h4
    ·exact⟨n,h,fun m hm=>Nat.le_of_not_lt fun hlt=>h2 ⟨m,hlt,hm⟩⟩
open Classical in
noncomputable def leastOf (p:Nat→Prop):Nat:=if h: ∃n,p n then Classical.choose (least p h.choose h.choose_spec)else 0
theorem leastOf_spec {p:Nat→Prop} {n:Nat} (h:p n):p (leastOf p)∧leastOf p≤n:=by
  have h' : ∃n,p n:=⟨n,h⟩
  have:=Classical.choose_spec (least p h'.choose h'.choose_spec)
  unfold leastOf
  rw[dif_pos h']
  exact⟨this.1,this.2 n h⟩
theorem Fy (I:Nat→List V→Bs→Prop) (n:Nat) (h0:I n ts B) (h: ∀n ts B,I n ts B→HW P ins x (Oh I n Q) ts B):HW P ins (.loop x) Q ts B:=fun c a w ρ hc hr=>by
  refine wp_loop (fun a w=> ∃n ts B ρ,I n ts B∧RelAt c ts B a w ρ) (fun a w=>leastOf fun n=> ∃ts B ρ,I n ts B∧RelAt c ts B a w ρ) ⟨n,ts,B,ρ,h0,hr⟩ ?_
  rintro a w ⟨n,hI⟩
  obtain⟨ts,B,ρ,h1,h2⟩:=(leastOf_spec (p:=fun n=> ∃ts B ρ,I n ts B∧RelAt c ts B a w ρ) hI).1
  refine wp_mono (h _ ts B h1 c a w ρ hc h2) ?_
  rintro e a' w' ⟨e',ts',B',ρ',rfl,h3,h4⟩
  cases e' with
  | normal=>
    obtain⟨m,h5,h6⟩:=h3
    exact⟨⟨m,ts',B',ρ',h6,h4⟩,Nat.lt_of_le_of_lt (leastOf_spec (p:=fun n=> ∃ts B ρ,I n ts B∧RelAt c ts B a' w' ρ) ⟨ts',B',ρ',h6,h4⟩).2 h5⟩
  |exit id=>exact⟨.exit id,ts',B',ρ',rfl,h3,h4⟩
  |ret=>exact⟨.ret,ts',B',ρ',rfl,h3,h4⟩
theorem Al {c:Ctx} {a:Act} {w:World} {ρ:Nat→Value} (e:Eqv B B') (h:RelAt c ts B a w ρ):RelAt c ts B' a w ρ:=by
  have hl: ∀k,B'.live k=B.live k:=fun k=>xC (e k).symm
  have hf:free c w ρ B' =free c w ρ B:=by funext b;unfold free;simp only[hl]
  have le:Le (env c w ρ B) (env c w ρ B'):=⟨fun b hb=>by show free c w ρ B' b;rw[hf];exact hb,fun _ _=>rfl,fun k hk=>by show(B'.get k).isSome=true;rw[←e k];exact hk,
    fun k e' s N f _ h=>⟨⟨f,(hl k).symm.trans h⟩,rfl⟩,fun k t cs _ h=>⟨⟨cs,(hl k).symm.trans h⟩,rfl⟩⟩
  have hm:=h.mem
  exact⟨h.df,h.sz,⟨hm.keeps,fun k x hx=>(hm.at_ k x ((hl k).symm.trans hx)).le le rfl (fun _ _=>rfl),fun k x g hx=>hm.own k x g ((hl k).symm.trans hx),
    fun k k' x x' g h1 h2=>hm.inj k k' x x' g ((hl k).symm.trans h1) ((hl k').symm.trans h2),fun k x hx=>by rw[←e k];exact hm.kin k x hx,fun k x b hx hb=>hm.fix k x b hx ((hl k).symm.trans hb),hm.wld⟩,fun i x hx=>(h.rep i x hx).le le⟩
theorem ED {c:Ctx} {a:Act} {w:World} {ρ:Nat→Value} (h:RelAt c ts B a w ρ):RelAt c ts B a {w with drawn:=w.drawn+1} ρ:=by
  have le:Le (env c w ρ B) (env c {w with drawn:=w.drawn+1} ρ B):=⟨fun b hb=>hb,fun _ _=>rfl,fun _ hk=>hk,fun k e s N f _ h=>⟨⟨f,h⟩,rfl⟩,fun k t cs _ h=>⟨⟨cs,h⟩,rfl⟩⟩
  have hm:=h.mem
  exact⟨h.df,h.sz,⟨⟨hm.keeps.os,hm.keeps.tape,hm.keeps.output,hm.keeps.size,hm.keeps.block⟩,fun k x hx=>(hm.at_ k x hx).le le rfl (fun _ _=>rfl),hm.own,hm.inj,hm.kin,hm.fix,hm.wld⟩,fun i x hx=>(h.rep i x hx).le le⟩
theorem Fz {id:Nat} {ops:Array Oper} (hm:P.follows .mixedOrders=true) (p:Nat→List Nat) (l:List Nat) (hok:Gy ops p l=true) (h:wU P ops (some p) (Q .normal) l [] ts B):HW P ins (.region id ops true) Q ts B:=fun c a w ρ hc hr=>by
  obtain⟨h1,h2,hlen⟩:=Ga hok
  have hrun:wU P ops (some p) (fun ts B=> ∃B0,Eqv B B0∧Q .normal ts B0) l [] ts B:=by
    have mono: ∀(l:List Nat) (tr:Tr) (ts:List V) (B:Bs),wU P ops (some p) (Q .normal) l tr ts B→wU P ops (some p) (fun ts B=> ∃B0,Eqv B B0∧Q .normal ts B0) l tr ts B:=fun l=>by
      induction l with
      |nil=>exact fun tr ts B h=>⟨B,fun _=>rfl,h⟩
      |cons i l ih=>exact fun tr ts B ⟨o,h1,h2⟩=>⟨o,h1,zF h2 (fun _ _ h=>h) fun rk wk ts B h=>ih _ ts B h⟩
    exact mono l [] ts B h
  refine wp_region_any hm (Gb (K:=fun ts B=> ∃B0,Eqv B B0∧Q .normal ts B0) (fun ts B B' e ⟨B0,e0,h⟩=>⟨B0,fun k=>(e.symm k).trans (e0 k),h⟩) h2 ops.size l [] _ ts B a _ ρ hlen h1 (ED hr) hrun ?_)
  rintro ts B a w ρ ⟨B0,e0,h⟩ hr
  exact⟨.normal,ts,B0,ρ,rfl,h,Al e0 hr⟩
end
def fB (P:Program) (ts:List V) (B:Bs):ResultVar→Option V
  | .tmp t=>some (ts.getD t .dead)
  | .cell a t=>match dz P (.load t (.tmp a)) (evl ts) B.live with|some (_,v)=>some v|none=>none
def fo (P:Program) (ts:List V) (B:Bs):List ResultVar→Option (List V)
  | []=>some []
  |r::rs=>match fB P ts B r,fo P ts B rs with|some v,some vs=>some (v::vs)|_,_=>none
def kX (P:Program) (ts:List V) (B:Bs) (rs:List ResultVar):Option V:=
  match fo P ts B rs with
  |some [v]=>some v
  |some vs=>some (.tup vs)
  |none=>none
def OP (P:Program) (fn:Func) (R:V→Bs→Prop):Post
  | .exit _,_,_=>False
  |_,ts,B=> ∃res,kX P ts B fn.results.toList=some res∧R res B
def EE (tmps:Array Value):ResultVar→Sem Value
  | .tmp t=>pure (tmps.getD t undef)
  | .cell a t=>do loadVar t (←asAddr (tmps.getD a undef))
section
variable {P:Program} {c:Ctx} {ts:List V} {B:Bs} {a:Act} {w:World} {ρ:Nat→Value}
theorem KP {t:Nat} {x:Operand} {ev:Operand→V} {bl:Nat→Option Blk} {p:Prop} {v:V} (h:dz P (.load t x) ev bl=some (p,v)):p=True:=by
  have lc: ∀cs p v,iA P t cs=some (p,v)→p=True:=fun cs p v h=>by
    unfold iA at h
    split at h
    ·split at h<;>simp_all
    · split at h
      ·split at h<;>simp_all
      ·simp at h
  simp only[dz]at h
  split at h
  · split at h
    ·exact lc _ _ _ h
    ·exact lc _ _ _ h
    ·simp at h
  ·exact lc _ _ _ h
  ·simp at h
theorem M6 (hr:RelAt c ts B a w ρ) {r:ResultVar} {v:V} (h:fB P ts B r=some v):
    ∃u,(EE a.tmps r).run P w= .ok u w∧mg (env c w ρ B) u v:=by
  cases r with
  | tmp t=>
    simp only[fB,Option.some.injEq]at h
    subst h
    exact⟨_,rfl,lZ hr.rep (.tmp t)⟩
  | cell ad t=>
    simp only[fB]at h
    split at h<;>simp only[Option.some.injEq,reduceCtorEq]at h
    rename_i p v' hv
    subst h
    have hp:=KP hv
    obtain⟨u,h1,h2⟩:=Es (E:=env c w ρ B) (o:=⟨none, .load t (.tmp ad),0,"",#[],none⟩) (fun k b hl=>hr.mem.at_ k b hl) hr.rep hv (by rw[hp];trivial)
    refine⟨u, ?_,h2⟩
    have h3:((do pure (.value (←Instr.loadAt t (a.tmps.getD ad undef))):Sem Next)).run P w= .ok (.value u) w:=h1
    have h4: ∃A,a.tmps.getD ad undef= .pointer (some A):=by
      have h5:=lZ hr.rep (.tmp ad)
      simp only[dz]at hv
      split at hv
      · rename_i k i o' hx
        rw[hx]at h5
        obtain⟨_,A,hA,_⟩:=h5
        exact⟨A,hA⟩
      · rename_i row hx
        rw[hx]at h5
        obtain⟨A,hA,_⟩:=h5
        exact⟨A,hA⟩
      ·simp at hv
    obtain⟨A,hA⟩:=h4
    rw[hA]at h3
    simp only[EE,hA]
    simp only[Instr.loadAt,Instr.sureAddr,asAddr,Sem.run_bind,Sem.run_pure,Result.andThen_ok]at h3⊢
    cases hl:(loadVar t A).run P w with
    |ok x w' =>rw[hl]at h3;simp at h3;obtain⟨rfl,rfl⟩:=h3;rfl
    |halt x w' =>rw[hl]at h3;simp[Result.andThen]at h3
theorem Jb (hr:RelAt c ts B a w ρ): ∀(rs:List ResultVar) (vs:List V),fo P ts B rs=some vs→
    ∃ us,(rs.mapM (EE a.tmps)).run P w= .ok us w∧us.length=vs.length∧
      ∀(i:Nat) u v,us[i]? =some u→vs[i]? =some v→mg (env c w ρ B) u v
  | [],vs,h=>by simp only[fo,Option.some.injEq]at h;subst h;exact⟨[],rfl,rfl,by simp⟩
  | r ::rs,vs,h=>by
    simp only[fo]at h
    split at h<;>simp only[Option.some.injEq,reduceCtorEq]at h
    rename_i v vs' h1 h2
    subst h
    obtain⟨u,h3,h4⟩:=M6 hr h1
    obtain⟨us,h5,h6,h7⟩:=Jb hr rs vs' h2
    refine⟨u::us, ?_,by simp[h6],fun i u' v' hu hv=> ?_⟩
    · rw[List.mapM_cons,Sem.run_bind,h3]
      simp only[Result.andThen_ok,Sem.run_bind,h5,Sem.run_pure]
    · cases i with
      |zero=>simp at hu hv;subst hu;subst hv;exact h4
      |succ i=>exact h7 i u' v' (by simpa using hu) (by simpa using hv)
end
def iC:V→Bool
  | .tup _=>false
  |_=>true
theorem M7 {E:Env} {u:Value} {v:V} (h:mg E u v) (hk:iC v=true):vL E u v:=by
  cases v<;>first|exact h|simp[iC]at hk
theorem EF {P:Program} {g:FuncId} {fn:Func} {code:Code} {args:List V} {ins:Bs} {R:V→Bs→Prop} (hf:P.funcs[g]? =some fn) (hb:fn.body=some code)
    (h:HW P ins code (OP P fn fun v B=>(match v with| .tup vs=>vs.all iC|_=>true)=true∧R v B) (args++List.replicate (fn.ntmps - args.length) .dead) ins):Ct P g args ins R:=by
  intro w0 G ρ0 wild cargs hm hs hr
  refine calls_of_wp hf hb ?_
  have hrel:RelAt ⟨w0,G,ins,ρ0,wild⟩ (args++List.replicate (fn.ntmps - args.length) .dead) ins {tmps:=cargs++Array.replicate (fn.ntmps - cargs.size) undef,defers:= []} w0 ρ0:=by
    refine⟨rfl,by simp[hs],hm,fun i x hx=> ?_⟩
    rw[List.getElem?_append]at hx
    split at hx
    · rename_i hlt
      have:=hr i x hx
      have hlt' :i<cargs.size:=by omega
      rw[show(cargs++Array.replicate (fn.ntmps - cargs.size) undef).getD i undef=cargs.getD i undef by simp[Array.getD_eq_getD_getElem?,Array.getElem?_append,hlt']]
      exact this
    · rw[List.getElem?_replicate]at hx
      split at hx<;>simp at hx
      subst hx
      trivial
  refine wp_mono (h _ _ w0 ρ0 rfl hrel) ?_
  rintro e a w ⟨e',ts,B,ρ,rfl,h2,h3⟩
  have fin:(∃res,kX P ts B fn.results.toList=some res∧(match res with| .tup vs=>vs.all iC|_=>true)=true∧R res B)→
      a.defers= []∧∃v,(results fn a.tmps).run P w= .ok v w∧∃v' res B' ρ',Ending.returned v= .returned v' ∧R res B' ∧Mem ⟨w0,G,ins,ρ0,wild⟩ B' w ρ' ∧mg (env ⟨w0,G,ins,ρ0,wild⟩ w ρ' B') v' res:=by
    rintro⟨res,h4,h5,h6⟩
    refine⟨h3.df, ?_⟩
    unfold kX at h4
    cases hra:fo P ts B fn.results.toList with
    |none=>simp[hra]at h4
    | some vs=>
      obtain⟨us,h7,h8,h9⟩:=Jb h3 _ vs hra
      have h10:(results fn a.tmps).run P w= .ok (if h:us.toArray.size=1 then us.toArray[0]else .tuple us.toArray) w:=by
        show(do let vs←fn.results.mapM (EE a.tmps);pure (if h:vs.size=1 then vs[0]else .tuple vs):Sem Value).run P w=_
        rw[Array.mapM_eq_mapM_toList]
        simp[h7]
      rw[hra]at h4
      have hvs:vs= [res]∨(res= .tup vs∧us.length≠1):=by
        split at h4
        ·rename_i v e;injection e with e;injection h4 with h4;subst h4;exact .inl e
        · rename_i vs' hne e
          injection e with e
          subst e
          injection h4 with h4
          refine .inr ⟨h4.symm,fun hl=> ?_⟩
          rw[h8]at hl
          obtain⟨v,hv⟩: ∃v,vs= [v]:=by
            match vs,hl with
            | [v],_=>exact⟨v,rfl⟩
          exact hne v hv
        ·cases h4
      refine⟨_,h10,_,res,B,ρ,rfl,h6,h3.mem, ?_⟩
      rcases hvs with rfl|⟨rfl,hne⟩
      · match us,h8,h9 with
        | [u],_,h9=>simpa using h9 0 u res rfl rfl
      · rw[dif_neg (by simpa using hne)]
        refine⟨us.toArray,rfl,by simpa using h8,fun i u v hu hv=>M7 (h9 i u v (by simpa using hu) hv) (List.all_eq_true.1 h5 v (List.mem_of_getElem? hv))⟩
  cases e' with
  |normal=>exact fin h2
  |ret=>exact fin h2
  |exit id=>exact h2.elim
def fC (B:Bs) (d:Nat) (dst:Option Tmp):Option Blk→Prop
  |none=>True
  |some _=>B.get (d+100)=none∧dst=some d
def yh {α:Type} (r:Option α) (f:α→Prop):Prop:=match r with|some x=>f x|none=>False
def Cs {α:Type} (r:Option α) (f:α→Prop) (g:Prop):Prop:=match r with|some x=>f x|none=>g
def bK (g:Bool) (x y:Prop):Prop:=(g=true→x)∧(g=false→y)
def fD (o:Op):Option Call:=match o with| .call c=>some c|_=>none
def zI (P:Program) (ins:Bs) (o:Oper) (K:List V→Bs→Prop) (ts:List V) (B:Bs):Prop:=
  ∀ (c:Ctx) (a:Act) (w:World) (ρ:Nat→Value),c.ins=ins→RelAt c ts B a w ρ→∀(N:Act→World→Prop) (Q:Exit→Act→World→Prop),
    (∀ts' B' a' w' ρ',K ts' B' →RelAt c ts' B' a' w' ρ' →N a' w')→o.wp P a w N Q
def vX (P:Program) (ins:Bs) (cl:Call) (dst:Option Tmp) (ts:List V) (B:Bs) (K:List V→Bs→Prop):Prop:=
  (∃ks bs outs,CallAt P cl dst (dst.getD 0) (evl ts) B ks bs outs∧∀v u,outs v u→K (dI ts dst v) (dE B u))∨∀o:Oper,o.op= .call cl→o.dst=dst→zI P ins o K ts B
def JF (P:Program) (ins:Bs) (o:Oper) (K F:List V→Bs→Prop) (ts:List V) (B:Bs):Prop:=(∃ts' B',sW ins ts B ts' B' ∧F ts' B')∨zI P ins o K ts B
def EG (c:Option Call) (P:Program) (ins:Bs) (o:Oper) (K F:List V→Bs→Prop) (ts:List V) (B:Bs):Prop:=match c with|some cl=>vX P ins cl o.dst ts B K|none=>JF P ins o K F ts B
def Ha (r:Option Eff) (P:Program) (ins:Bs) (o:Oper) (K F:List V→Bs→Prop) (ts:List V) (B:Bs):Prop:=
  Cs r (fun x=>x.1∧fC B (o.dst.getD 0) o.dst x.2.2.2∧K (dI ts o.dst x.2.1) (dE B (x.2.2.1++kU (o.dst.getD 0+100) x.2.2.2))) (EG (fD o.op) P ins o K F ts B)
def FB (r:Option (Prop×V)) (P:Program) (ins:Bs) (o:Oper) (K F:List V→Bs→Prop) (ts:List V) (B:Bs):Prop:=
  Cs r (fun x=>x.1∧K (dI ts o.dst x.2) B) (Ha (iw P o.op (evl ts) B.live (o.dst.getD 0+100)) P ins o K F ts B)
def gO (g:Option Bool) (P:Program) (ins:Bs) (o:Oper) (K F:List V→Bs→Prop) (ts:List V) (B:Bs):Prop:=
  yh g fun g=>bK g (FB (dz P o.op (evl ts) B.live) P ins o K F ts B) (K (dI ts o.dst (.tup [])) B)
def FC (P:Program) (ins:Bs) (ops:Array Oper) (o:Oper) (K:List V→Bs→Prop):List Unit→List V→Bs→Prop
  | [],_,_=>False
  |_::l,ts,B=>gO (iL ops ts o) P ins o K (FC P ins ops o K l) ts B
def opO (o:Option Oper) (P:Program) (ins:Bs) (ops:Array Oper) (K:List V→Bs→Prop) (ts:List V) (B:Bs):Prop:=yh o fun o=>FC P ins ops o K [(),(),(),(),(),()] ts B
def Gz (P:Program) (ins:Bs) (ops:Array Oper) (i:Nat) (ts:List V) (B:Bs) (K:List V→Bs→Prop):Prop:=opO ops[i]? P ins ops K ts B
section
variable {P:Program} {ins:Bs} {ops:Array Oper} {i:Nat} {ts:List V} {B:Bs} {K F:List V→Bs→Prop} {o:Oper} {g:Bool} {p:Prop} {v:V} {u:List (Nat×Option Blk)} {q:Option Blk} {cl:Call}
theorem dJ:Gz P ins ops i ts B K=opO ops[i]? P ins ops K ts B:=rfl
theorem dK:opO (some o) P ins ops K ts B=FC P ins ops o K [(),(),(),(),(),()] ts B:=rfl
theorem bR {x:Unit} {l:List Unit}:FC P ins ops o K (x::l) ts B=gO (iL ops ts o) P ins o K (FC P ins ops o K l) ts B:=rfl
theorem eF:gO (some true) P ins o K F ts B=FB (dz P o.op (evl ts) B.live) P ins o K F ts B:=by simp[gO,yh,bK]
theorem dL:gO (some false) P ins o K F ts B=K (dI ts o.dst (.tup [])) B:=by simp[gO,yh,bK]
theorem xD:gO (some g) P ins o K F ts B=((g=true→FB (dz P o.op (evl ts) B.live) P ins o K F ts B)∧(g=false→K (dI ts o.dst (.tup [])) B)):=rfl
theorem bS:FB (some (p,v)) P ins o K F ts B=(p∧K (dI ts o.dst v) B):=rfl
theorem bT:FB none P ins o K F ts B=Ha (iw P o.op (evl ts) B.live (o.dst.getD 0+100)) P ins o K F ts B:=rfl
theorem bU:Ha (some (p,v,u,q)) P ins o K F ts B=(p∧fC B (o.dst.getD 0) o.dst q∧K (dI ts o.dst v) (dE B (u++kU (o.dst.getD 0+100) q))):=rfl
theorem bV:Ha none P ins o K F ts B=EG (fD o.op) P ins o K F ts B:=rfl
theorem bM:EG (some cl) P ins o K F ts B=vX P ins cl o.dst ts B K:=rfl
theorem bN:EG none P ins o K F ts B=JF P ins o K F ts B:=rfl
end
def BH (P:Program) (ins:Bs) (ops:Array Oper) (K:List V→Bs→Prop):List Nat→List V→Bs→Prop
  | [],ts,B=>K ts B
  |i::l,ts,B=>Gz P ins ops i ts B (BH P ins ops K l)
theorem Oi {P:Program} {ins:Bs} {ops:Array Oper} {ts:List V} {B:Bs} {K F:List V→Bs→Prop} {o:Oper} (h:gO (iL ops ts o) P ins o K F ts B):opW P ops o ts B (fun _ _=>True) (fun _ _=>K)∨(iL ops ts o=some true∧JF P ins o K F ts B):=by
  cases hg:iL ops ts o with
  |none=>rw[hg]at h;exact h.elim
  | some g=>
    rw[hg]at h
    simp only[gO,yh,bK]at h
    cases g with
    | true=>
      have h:=h.1 rfl
      unfold FB Cs at h
      cases hv:dz P o.op (evl ts) B.live with
      | some x=>
        rw[hv]at h
        exact .inl ⟨_,_,_, .inr ⟨hg, .val x.1 x.2 hv h.1⟩,trivial,by rintro v' u ⟨rfl,rfl⟩;exact h.2⟩
      | none=>
        rw[hv]at h
        simp only[Ha,Cs]at h
        cases hv2:iw P o.op (evl ts) B.live (o.dst.getD 0+100)with
        | some x=>
          rw[hv2]at h
          obtain⟨h1,h2,h3⟩:=h
          refine .inl ⟨_,_,_, .inr ⟨hg, .mem x.1 x.2.1 x.2.2.1 x.2.2.2 hv2 h1 (fun hn=> ?_) (fun hn=> ?_)⟩,trivial,by rintro v' u ⟨rfl,rfl⟩;exact h3⟩
          ·cases hq:x.2.2.2 with|none=>exact absurd hq hn|some b=>rw[hq]at h2;exact h2.1
          ·cases hq:x.2.2.2 with|none=>exact absurd hq hn|some b=>rw[hq]at h2;exact h2.2
        | none=>
          rw[hv2]at h
          simp only[EG]at h
          cases hc:o.op with
          | call cl=>
            rw[hc]at h
            rcases h with⟨ks,bs,outs,h1,h2⟩|h
            ·exact .inl ⟨_,_,_, .inr ⟨hg, .call cl ks bs outs hc h1⟩,trivial,fun v u ho=>h2 v u ho⟩
            ·exact .inr ⟨rfl, .inr (h o hc rfl)⟩
          |_=>rw[hc]at h;exact .inr ⟨rfl,h⟩
    |false=>exact .inl ⟨_,_,_, .inl ⟨hg,rfl,rfl,rfl⟩,trivial,by rintro v u ⟨rfl,rfl⟩;exact h.2 rfl⟩
theorem KQ {P:Program} {ins:Bs} {ops:Array Oper} {K:List V→Bs→Prop} {o:Oper}: ∀ {l:List Unit} {ts:List V} {B:Bs},FC P ins ops o K l ts B→∃ts' B',sW ins ts B ts' B' ∧(opW P ops o ts' B' (fun _ _=>True) (fun _ _=>K)∨(iL ops ts' o=some true∧zI P ins o K ts' B'))
  | [],_,_,h=>h.elim
  | _ ::l,ts,B,h=>by
    rcases Oi h with h|⟨h0,⟨ts',B',h1,h2⟩|h2⟩
    ·exact⟨ts,B,sW.refl, .inl h⟩
    rotate_left
    ·exact⟨ts,B,sW.refl, .inr ⟨h0,h2⟩⟩
    · obtain⟨a,B2,h3,h4⟩:=KQ h2
      exact⟨a,B2,h1.trans h3,h4⟩
theorem Hd {P:Program} {ops:Array Oper} {c:Ctx} {Q:Exit→Act→World→Prop} {i:Nat} {o:Oper} (ho:ops[i]? =some o) {ts:List V} {B:Bs} {a:Act} {w:World} {ρ:Nat→Value} (hrel:RelAt c ts B a w ρ)
    (h1:iL ops ts o=some true) {N:Act→World→Prop} (h:o.wp P a w N Q):wpOp P ops Q i N a w:=by
  unfold wpOp
  simp only[ho]
  rw[BG hrel.rep hrel.sz h1]
  simp only[if_true]
  exact .inl h
theorem Cu {P:Program} {ins:Bs} {ops:Array Oper} {K:List V→Bs→Prop} {Q:Exit→Act→World→Prop} {c:Ctx} (hc:c.ins=ins) (hQ: ∀ts B a w ρ,K ts B→RelAt c ts B a w ρ→Q .normal a w):
    ∀(l:List Nat) (ts:List V) (B:Bs) (a:Act) (w:World) (ρ:Nat→Value),RelAt c ts B a w ρ→BH P ins ops K l ts B→wpOps P ops Q l a w
  | [],ts,B,a,w,ρ,hr,h=>hQ ts B a w ρ h hr
  | i ::l,ts,B,a,w,ρ,hr,h=>by
    simp only[BH,Gz,opO,yh]at h
    rw[wpOps_cons]
    cases ho:ops[i]? with
    |none=>rw[ho]at h;exact h.elim
    | some o=>
      rw[ho]at h
      obtain⟨ts',B',h1,h2⟩:=KQ h
      obtain⟨ρ',hr'⟩:=h1 c a w ρ hc hr
      rcases h2 with h2|⟨h2,h3⟩
      ·exact D9 ho hr' h2 fun rk wk ts' B' a' w' ρ' hM hr' =>Cu hc hQ l ts' B' a' w' ρ' hr' hM
      ·exact Hd ho hr' h2 (h3 c a w ρ' hc hr' _ _ fun ts' B' a' w' ρ' hK hr' =>Cu hc hQ l ts' B' a' w' ρ' hr' hK)
theorem NK {P:Program} {ins:Bs} {id:Nat} {ops:Array Oper} {Q:Post} {ts:List V} {B:Bs} (h:BH P ins ops (Q .normal) (List.range ops.size) ts B):HW P ins (.region id ops false) Q ts B:=fun c a w ρ hc hr=>
  wp_region (Cu hc (fun ts B a w ρ hK hr=>⟨.normal,ts,B,ρ,rfl,hK,hr⟩) _ ts B a w ρ hr h)
def ek (P:Program) (ins:Bs) (id:Nat) (ops:Array Oper) (Q:Post) (ts:List V) (B:Bs):Prop:=HW P ins (.region id ops true) Q ts B
def Am (P:Program) (ins:Bs) (c:Code) (Q:Post) (ts:List V) (B:Bs):Prop:=HW P ins (.loop c) Q ts B
def AU (K:List V→Bs→Prop) (Q:Post):Post
  | .normal,ts,B=>K ts B
  | .exit id,ts,B=>Q (.exit id) ts B
  | .ret,ts,B=>Q .ret ts B
def aw (P:Program) (ins:Bs):Code→Post→List V→Bs→Prop
  | .skip,Q,ts,B=>Q .normal ts B
  | .exit id,Q,ts,B=>Q (.exit id) ts B
  | .ret,Q,ts,B=>Q .ret ts B
  | .seq x y,Q,ts,B=>aw P ins x (AU (aw P ins y Q) Q) ts B
  | .cond o x y,Q,ts,B=>match evl ts o with| .c (.t (.s (.bool t)))=>(t=true→aw P ins x Q ts B)∧(t=false→aw P ins y Q ts B)|_=>False
  | .block id x,Q,ts,B=>aw P ins x (zH id Q) ts B
  | .region id ops d,Q,ts,B=>if d=true then ek P ins id ops Q ts B else BH P ins ops (Q .normal) (List.range ops.size) ts B
  | .loop x,Q,ts,B=>Am P ins x Q ts B
  |c,Q,ts,B=>HW P ins c Q ts B
theorem EH {P:Program} {ins:Bs}: ∀(c:Code) (Q:Post) (ts:List V) (B:Bs),aw P ins c Q ts B→HW P ins c Q ts B:=by
  intro c
  induction c with
  |skip=>exact fun Q ts B h=>M3 h
  |exit id=>exact fun Q ts B h=>M4 h
  |ret=>exact fun Q ts B h=>NJ h
  | seq x y ihx ihy=>
    intro Q ts B h
    refine KO (yC (ihx _ ts B h) ?_)
    intro e ts B h
    cases e with
    |normal=>exact ihy Q ts B h
    |exit id=>exact h
    |ret=>exact h
  | cond o x y ihx ihy=>
    intro Q ts B h
    unfold aw at h
    split at h
    · rename_i t ht
      exact M5 ht (fun e=>ihx Q ts B (h.1 e)) (fun e=>ihy Q ts B (h.2 e))
    ·exact h.elim
  |block id x ih=>exact fun Q ts B h=>G9 (ih _ ts B h)
  | region id ops d=>
    intro Q ts B h
    unfold aw at h
    cases d with
    |true=>exact h
    |false=>exact NK h
  |loop x _=>exact fun Q ts B h=>h
  |_=>exact fun Q ts B h=>h
def Db (v:V) (P:Program) (ins:Bs) (x y:Code) (Q:Post) (ts:List V) (B:Bs):Prop:=
  match v with| .c (.t (.s (.bool t)))=>(t=true→aw P ins x Q ts B)∧(t=false→aw P ins y Q ts B)|_=>False
def GA (ins:Bs) (I:Nat→List V→Bs→Prop) (n:Nat) (Q:Post):Post:=AU (fun ts B=> ∃m ts' B',m<n∧sW ins ts B ts' B' ∧I m ts' B') Q
theorem Ao {P:Program} {ins:Bs} {x:Code} {Q:Post} {ts:List V} {B:Bs} (I:Nat→List V→Bs→Prop) (n:Nat) (ts' :List V) (B' :Bs) (hw:sW ins ts B ts' B') (h0:I n ts' B')
    (h: ∀n ts B,I n ts B→aw P ins x (GA ins I n Q) ts B):Am P ins x Q ts B:=by
  refine xQ hw ?_
  refine Fy (fun n ts B=> ∃ts' B',sW ins ts B ts' B' ∧I n ts' B') n ⟨ts',B',sW.refl,h0⟩ ?_
  rintro n ts B ⟨ts',B',h1,h2⟩
  refine xQ h1 (yC (EH _ _ _ _ (h n ts' B' h2)) ?_)
  intro e ts B h
  cases e with
  |normal=>obtain⟨m,ts',B',h3,h4,h5⟩:=h;exact⟨m,h3,ts',B',h4,h5⟩
  |exit id=>exact h
  |ret=>exact h
def JG (P:Program) (ins:Bs) (y:Code) (Q:Post):Post:=AU (aw P ins y Q) Q
section
variable {P:Program} {ins:Bs} {x y:Code} {Q:Post} {ts:List V} {B:Bs} {id id' :Nat} {o:Operand} {ops:Array Oper}
theorem eG:aw P ins .skip Q ts B=Q .normal ts B:=rfl
theorem eH:aw P ins (.exit id) Q ts B=Q (.exit id) ts B:=rfl
theorem fQ:aw P ins .ret Q ts B=Q .ret ts B:=rfl
theorem fT:aw P ins (.seq x y) Q ts B=aw P ins x (JG P ins y Q) ts B:=rfl
theorem eO:aw P ins (.cond o x y) Q ts B=Db (evl ts o) P ins x y Q ts B:=rfl
theorem fU:Db (.c (.t (.s (.bool true)))) P ins x y Q ts B=aw P ins x Q ts B:=by simp[Db]
theorem fV:Db (.c (.t (.s (.bool false)))) P ins x y Q ts B=aw P ins y Q ts B:=by simp[Db]
theorem xE {t:Bool}:Db (.c (.t (.s (.bool t)))) P ins x y Q ts B=((t=true→aw P ins x Q ts B)∧(t=false→aw P ins y Q ts B)):=rfl
theorem dM:aw P ins (.block id x) Q ts B=aw P ins x (zH id Q) ts B:=rfl
theorem fZ:aw P ins (.region id ops false) Q ts B=BH P ins ops (Q .normal) (List.range ops.size) ts B:=rfl
theorem eP:aw P ins (.region id ops true) Q ts B=ek P ins id ops Q ts B:=rfl
theorem eQ:aw P ins (.loop x) Q ts B=Am P ins x Q ts B:=rfl
theorem gm:JG P ins y Q .normal ts B=aw P ins y Q ts B:=rfl
theorem gp:JG P ins y Q (.exit id) ts B=Q (.exit id) ts B:=rfl
theorem gq:JG P ins y Q .ret ts B=Q .ret ts B:=rfl
theorem dN:zH id Q .normal ts B=Q .normal ts B:=rfl
theorem dO:zH id Q (.exit id') ts B=if id' =id then Q .normal ts B else Q (.exit id') ts B:=rfl
theorem dP:zH id Q .ret ts B=Q .ret ts B:=rfl
theorem eT {I:Nat→List V→Bs→Prop} {n:Nat}:GA ins I n Q .normal ts B= ∃m ts' B',m<n∧sW ins ts B ts' B' ∧I m ts' B' :=rfl
theorem eU {I:Nat→List V→Bs→Prop} {n:Nat}:GA ins I n Q (.exit id) ts B=Q (.exit id) ts B:=rfl
theorem eX {I:Nat→List V→Bs→Prop} {n:Nat}:GA ins I n Q .ret ts B=Q .ret ts B:=rfl
def lM (P:Program) (rs:List ResultVar) (R:V→Bs→Prop) (ts:List V) (B:Bs):Prop:= ∃res,kX P ts B rs=some res∧(match res with| .tup vs=>vs.all iC|_=>true)=true∧R res B
theorem dQ {K:List V→Bs→Prop}:BH P ins ops K [] ts B=K ts B:=rfl
theorem bW {K:List V→Bs→Prop} {i:Nat} {l:List Nat}:BH P ins ops K (i::l) ts B=Gz P ins ops i ts B (BH P ins ops K l):=rfl
end
inductive TEq:T→T→Prop
  |refl (x:T):TEq x x
  |sl (e sz n:Nat) (f g:Nat→List T) (hl: ∀j,j<n→(f j).length=(g j).length) (h: ∀(j o:Nat) (x y:T),j<n→(f j)[o]? =some x→(g j)[o]? =some y→TEq x y):TEq (.sl e sz n f) (.sl e sz n g)
theorem RepT.teq {w:World} {A:Nat→Prop} {v:Value} {x y:T} (h:RepT w A v x) (e:TEq x y):RepT w A v y:=by
  induction e generalizing v with
  |refl=>exact h
  | sl e sz n f g hl he ih=>
    obtain⟨ad,c,rfl,h0,h1,hs,h2,h3,h4⟩:=RepT.sl_inv h
    refine .sl ad n c e sz g h0 h1 hs (fun j hj=>(hl j hj).symm.trans (h2 j hj)) (fun j o y hj hy=> ?_) h4
    obtain ⟨x, hx⟩ : ∃ x, (f j)[o]? =some x:=by
      have : o < (g j).length := by rcases Nat.lt_or_ge o (g j).length with h|h;·exact h
                                    ·simp[List.getElem?_eq_none h]at hy
      exact⟨_,List.getElem?_eq_getElem (by rw[hl j hj];exact this)⟩
    obtain⟨b,u,q1,q2,q3⟩:=h3 j o x hj hx
    exact⟨b,u,q1,q2,ih j o x y hj hx hy q3⟩
abbrev Rn:=List (Nat×Nat)
def Rn.at (r:Rn) (k:Nat):Option Nat:=(r.find? (·.1==k)).map (·.2)
def vR (n:Nat) (f g:Nat→List T):Prop:= ∀j,j<n→f j=g j∨((f j).length=(g j).length∧∀(o:Nat) (x y:T),(f j)[o]? =some x→(g j)[o]? =some y→TEq x y)
theorem bg (n:Nat) (f:Nat→List T):vR n f f:=fun _ _=> .inl rfl
def cZ (r:Rn):Bs→List Nat
  | []=> []
  |(k,some _)::l=>match r.at k with|some q=>q::cZ r l|none=>cZ r l
  |(_,none)::l=>cZ r l
def WkC (r:Rn) (B B' :Bs):C→C→Prop
  |_, .dead=>True
  | .t x, .t y=>TEq x y
  | .nil, .nil=>True
  | .nil, .t (.sl _ _ n _)=>n=0
  | .nil, .own k' sz n=>n=0∧r.at k' =none∧∃e f,B'.live k' =some (.row e sz 0 f)
  | .own k sz n, .own k' sz' n' =>(B'.get k').isSome=true∧r.at k' =some k∧sz=sz' ∧n=n'
  | .own k sz n, .t (.sl e sz' n' f)=>k∉cZ r B' ∧sz' =sz∧n' =n∧∃N f0,B.live k=some (.row e sz N f0)∧vR n f0 f
  | .ptr k i o, .ptr k' i' o' =>(B'.get k').isSome=true∧r.at k' =some k∧i=i' ∧o=o'
  | .tp e a, .tp e' b=>e=e' ∧a=b
  |_,_=>False
def kY (r:Rn) (B B' :Bs):List C→List C→Prop
  | [], []=>True
  |x::xs,y::ys=>WkC r B B' x y∧kY r B B' xs ys
  |_,_=>False
def WkA (r:Rn) (B B' :Bs):V→V→Prop
  |_, .dead=>True
  | .c x, .c y=>WkC r B B' x y
  | .agg xs, .agg ys=>kY r B B' xs ys
  |_,_=>False
def lD (r:Rn) (B B' :Bs):List V→List V→Prop
  | [], []=>True
  |x::xs,y::ys=>WkA r B B' x y∧lD r B B' xs ys
  |_,_=>False
def WkV (r:Rn) (B B' :Bs):V→V→Prop
  | .tup xs, .tup ys=>lD r B B' xs ys
  |x,y=>WkA r B B' x y
def lN (r:Rn) (B B' :Bs):List V→List V→Prop
  | [], []=>True
  |x::xs,y::ys=>WkV r B B' x y∧lN r B B' xs ys
  |_,_=>False
def lH (r:Rn) (B B' :Bs):Blk→Blk→Prop
  | .row e s n f, .row e' s' n' g=>e=e' ∧s=s' ∧n=n' ∧vR n f g
  | .box t cs, .box t' cs' =>t=t' ∧kY r B B' cs cs'
  |_,_=>False
def fH:Blk→Prop
  | .row _ _ n _=>n=0
  |_=>False
def lg (r:Rn) (B B0:Bs):Bs→Prop
  | []=>True
  |(k',some b')::l=>(match r.at k' with|some k=> ∃b,B.live k=some b∧lH r B B0 b b' |none=>fH b')∧lg r B B0 l
  |(_,none)::l=>lg r B B0 l
def iM (r:Rn) (B B' :Bs):Bs→Prop
  | []=>True
  |(k,some _)::l=>(B'.live k).isSome=true∧r.at k=some k∧(B.live k).isSome=true∧iM r B B' l
  |(_,none)::l=>iM r B B' l
structure Wk (ins:Bs) (r:Rn) (ts:List V) (B:Bs) (ts' :List V) (B' :Bs):Prop where
  tmps:lN r B B' ts ts'
  blks:lg r B B' B'
  inj:(cZ r B').Nodup
  keep:iM r B B' ins
section
variable {ins:Bs} {r:Rn} {ts ts' :List V} {B B' :Bs}
theorem vC {k:Nat} {b:Blk} (h:B.live k=some b):(k,some b)∈B:=uE (Bs.live_get h)
theorem wE {k q:Nat} {b:Blk}: ∀ {l:Bs},(k,some b)∈l→r.at k=some q→q∈cZ r l
  | (k0,some b0)::l,hm,hr=>by
    simp only[cZ]
    rcases List.mem_cons.1 hm with h|h
    ·injection h with h1 h2;subst h1;rw[hr];exact List.mem_cons_self
    · split
      ·exact List.mem_cons_of_mem _ (wE h hr)
      ·exact wE h hr
  | (k0,none)::l,hm,hr=>by
    simp only[cZ]
    rcases List.mem_cons.1 hm with h|h
    ·injection h with h1 h2;cases h2
    ·exact wE h hr
  | [],hm,_=>by simp at hm
theorem BI {k k' q:Nat} {b b' :Blk}: ∀ {l:Bs},(cZ r l).Nodup→(k,some b)∈l→(k',some b')∈l→r.at k=some q→r.at k' =some q→k=k'
  | (k0,some b0)::l,hn,hm,hm',hr,hr' =>by
    simp only[cZ]at hn
    rcases List.mem_cons.1 hm with h|h<;>rcases List.mem_cons.1 hm' with h' |h'
    ·injection h with h1 _;injection h' with h2 _;rw[h1,h2]
    · injection h with h1 _;subst h1;rw[hr]at hn
      exact absurd (wE h' hr') (List.nodup_cons.1 hn).1
    · injection h' with h1 _;subst h1;rw[hr']at hn
      exact absurd (wE h hr) (List.nodup_cons.1 hn).1
    · refine BI ?_ h h' hr hr'
      split at hn
      ·exact(List.nodup_cons.1 hn).2
      ·exact hn
  | (k0,none)::l,hn,hm,hm',hr,hr' =>by
    simp only[cZ]at hn
    rcases List.mem_cons.1 hm with h|h
    ·injection h with h1 h2;cases h2
    · rcases List.mem_cons.1 hm' with h' |h'
      ·injection h' with h1 h2;cases h2
      ·exact BI hn h h' hr hr'
  | [],_,hm,_,_,_=>by simp at hm
theorem Ea {B0:Bs} {k' :Nat} {b' :Blk}: ∀ {l:Bs},lg r B B0 l→(k',some b')∈l→(∃k b,r.at k' =some k∧B.live k=some b∧lH r B B0 b b')∨(r.at k' =none∧fH b')
  | (k0,some b0)::l,h,hm=>by
    rcases List.mem_cons.1 hm with e|e
    · injection e with e1 e2;injection e2 with e2;subst e1;subst e2
      have h1:=h.1
      split at h1
      ·rename_i k hk;obtain⟨b,h2,h3⟩:=h1;exact .inl ⟨k,b,hk,h2,h3⟩
      ·rename_i hk;exact .inr ⟨hk,h1⟩
    ·exact Ea h.2 e
  | (k0,none)::l,h,hm=>by
    rcases List.mem_cons.1 hm with e|e
    ·injection e with e1 e2;cases e2
    ·exact Ea (l:=l) h e
  | [],_,hm=>by simp at hm
theorem yP {k:Nat} {x:Blk}: ∀ {l:Bs},iM r B B' l→(k,some x)∈l→(B'.live k).isSome=true∧r.at k=some k∧(B.live k).isSome=true
  | (k0,some b0)::l,h,hm=>by
    rcases List.mem_cons.1 hm with e|e
    ·injection e with e1 e2;subst e1;exact⟨h.1,h.2.1,h.2.2.1⟩
    ·exact yP h.2.2.2 e
  | (k0,none)::l,h,hm=>by
    rcases List.mem_cons.1 hm with e|e
    ·injection e with e1 e2;cases e2
    ·exact yP (l:=l) h e
  | [],_,hm=>by simp at hm
theorem DK {E:Env} {sz n:Nat} {f g:Nat→List T} {inner:List Value} (h:Rows E sz n f inner) (e:vR n f g):Rows E sz n g inner:=by
  refine⟨fun j hj=> ?_,fun j o y hj hy=> ?_⟩
  · rcases e j hj with q|⟨q,_⟩
    ·rw[←q];exact h.1 j hj
    ·rw[←q];exact h.1 j hj
  · rcases e j hj with q|⟨q,q2⟩
    ·rw[←q]at hy;exact h.2 j o y hj hy
    · obtain ⟨x, hx⟩ : ∃ x, (f j)[o]? =some x:=by
        have : o < (g j).length := by rcases Nat.lt_or_ge o (g j).length with h|h;·exact h
                                      ·simp[List.getElem?_eq_none h]at hy
        exact⟨_,List.getElem?_eq_getElem (by omega)⟩
      obtain⟨u,h1,h2⟩:=h.2 j o x hj hx
      exact⟨u,h1,h2.teq (q2 o x y hx hy)⟩
end
def wkρ (r:Rn) (ρ:Nat→Value) (k' :Nat):Value:=match r.at k' with|some k=>ρ k|none=> .slice none 0 0
section
variable {ins:Bs} {r:Rn} {ts ts' :List V} {B B' :Bs} {c:Ctx} {w:World} {ρ:Nat→Value}
theorem JH {B0:Bs} {b b' :Blk} (h:lH r B B0 b b'):sameShape b b' :=by
  cases b<;>cases b' <;>simp_all [lH,sameShape]
theorem xy (h:lg r B B' B') {k' :Nat} {b' :Blk} (hl:B'.live k' =some b'):(∃k b,r.at k' =some k∧B.live k=some b∧lH r B B' b b' ∧wkρ r ρ k' =ρ k)∨(r.at k' =none∧fH b' ∧wkρ r ρ k' = .slice none 0 0):=by
  rcases Ea h (vC hl)with⟨k,b,h1,h2,h3⟩|⟨h1,h2⟩
  ·exact .inl ⟨k,b,h1,h2,h3,by simp[wkρ,h1]⟩
  ·exact .inr ⟨h1,h2,by simp[wkρ,h1]⟩
theorem FD (h:lg r B B' B') {b:Nat} (hb:free c w ρ B b):free c w (wkρ r ρ) B' b:=by
  refine⟨hb.1,hb.2.1,fun k' x hl=> ?_⟩
  rcases xy (ρ:=ρ) h hl with⟨k,b',_,h2,_,h4⟩|⟨_,_,h4⟩
  ·rw[h4];exact hb.2.2 k b' h2
  ·rw[h4];simp[fM]
theorem Cv (hm:Mem c B w ρ) (hc:c.ins=ins) (h:Wk ins r ts B ts' B') {v:Value} {x y:C} (hv:fO (env c w ρ B) v x) (hw:WkC r B B' x y):fO (env c w (wkρ r ρ) B') v y:=by
  have tr: ∀ {v x},RepT w (free c w ρ B) v x→RepT w (free c w (wkρ r ρ) B') v x:=fun h' =>h'.move (fun b hb=>FD h.blks hb) (fun _ _=>rfl)
  have row: ∀ {k k' e s N f},r.at k' =some k→B'.live k' =some (.row e s N f)→∃f0,B.live k=some (.row e s N f0)∧wkρ r ρ k' =ρ k:=fun{k k' e s N f} hr hl=>by
    rcases xy (ρ:=ρ) h.blks hl with⟨k2,b,h1,h2,h3,h4⟩|⟨h1,_⟩
    · rw[hr]at h1;injection h1 with h1;subst h1
      cases b with
      |row e0 s0 n0 f0=>obtain⟨rfl,rfl,rfl,_⟩:=h3;exact⟨f0,h2,h4⟩
      |box=>exact h3.elim
    ·rw[hr]at h1;cases h1
  have box: ∀ {k k' t cs},r.at k' =some k→B'.live k' =some (.box t cs)→∃cs0,B.live k=some (.box t cs0)∧wkρ r ρ k' =ρ k:=fun{k k' t cs} hr hl=>by
    rcases xy (ρ:=ρ) h.blks hl with⟨k2,b,h1,h2,h3,h4⟩|⟨h1,_⟩
    · rw[hr]at h1;injection h1 with h1;subst h1
      cases b with
      |row=>exact h3.elim
      |box t0 cs0=>obtain⟨rfl,_⟩:=h3;exact⟨cs0,h2,h4⟩
    ·rw[hr]at h1;cases h1
  cases y with
  |dead=>exact hv.one
  | t y =>
    cases x<;>simp only[WkC]at hw
    case t x=>exact(tr hv).teq hw
    case nil=>
      cases y with
      |s _=>exact hw.elim
      |mp _ _=>exact hw.elim
      | sl e sz n f=>
        have hw:n=0:=hw
        have hv:v= .slice none 0 0:=hv
        subst hw;subst hv
        exact .sl none 0 0 _ _ _ (by omega) (by simp) (by simp[xc]) (by simp) (by simp) (by simp)
    case own k sz n=>
      cases y with
      |s _=>exact hw.elim
      |mp _ _=>exact hw.elim
      | sl e sz' n' f=>
        obtain⟨hk,rfl,rfl,N,f0,hl,heq⟩:=hw
        obtain⟨ad,cp,inner,rfl,h1,h2,h3,h4⟩:=Bw hm hv hl
        have hn:n' ≤cp∧n' ≤maxLen∧(0<n' →ad.isSome=true):=by
          obtain⟨_,ad',cp',e1,q1,q2,q3,_⟩:=hv
          injection e1 with e1 _ e2
          subst e1;subst e2
          exact⟨q1,q2,q3⟩
        have h2' :=DK h2 heq
        have hus:xc e n' cp→ad.isSome=true:=fun hu=>by
          rcases h1.2 with⟨q3,_⟩|⟨g,cap,cur,q3,_⟩
          ·injection q3 with _ q4 q5;unfold xc at hu;omega
          ·injection q3 with q3 _ _;rw[q3];rfl
        refine .sl ad n' cp e sz' f hn.1 hn.2.1 hus h2'.1 (fun j o y hj hy=> ?_) (fun b hb hp=> ?_)
        · obtain⟨x,q1,q2⟩:=h2'.2 j o y hj hy
          obtain⟨b,rfl⟩:=Option.isSome_iff_exists.1 (hn.2.2 (by omega))
          refine⟨b,x,rfl, ?_,tr q2⟩
          rcases h1.2 with⟨q3,_⟩|⟨g,cap,cur,q3,_⟩
          ·cases q3
          · injection q3 with q3 _ _
            injection q3 with q3
            subst q3
            exact h1.cells rfl _ x q1
        · subst hb
          rcases h1.2 with⟨q3,_⟩|⟨g,cap,cur,q3,_,q4,_,_,q7,_⟩
          ·cases q3
          · injection q3 with q3 _ q8
            injection q3 with q3
            subst q3
            subst q8
            have hg:fM (ρ k)=some g:=by rw[←h3];rfl
            refine⟨⟨?_,(Array.getElem?_eq_some_iff.1 q4).1,fun k' x hl' => ?_⟩,cur,_, .of q4, .inr ⟨rfl,rfl,by rw[q7];simp⟩⟩
            · rcases hm.own k _ g hl hg with⟨q,x,p1,p2⟩|h5
              · obtain⟨p3,p4,p5⟩:=yP h.keep (vC (by rw[←hc];exact p1))
                obtain⟨b',p6⟩:=Option.isSome_iff_exists.1 p5
                obtain⟨_,p7⟩:=hm.fix q x b' p1 p6
                have:=hm.inj q k b' _ g p6 hl (by rw[p7];exact p2) hg
                subst this
                obtain⟨b2,p8⟩:=Option.isSome_iff_exists.1 p3
                exact absurd (wE (vC p8) p4) hk
              ·exact .inr h5
            · rcases xy (ρ:=ρ) h.blks hl' with⟨k2,b,p1,p2,_,p4⟩|⟨_,_,p4⟩
              · show fM (wkρ r ρ k')≠some g
                rw[p4]
                intro p5
                have:=hm.inj k2 k b _ g p2 hl p5 hg
                subst this
                exact hk (wE (vC hl') p1)
              · show fM (wkρ r ρ k')≠some g
                rw[p4];simp[fM]
    all_goals exact hw.elim
  | nil=>
    cases x<;>simp only[WkC]at hw
    exact hv
  | own k' sz' n' =>
    cases x<;>simp only[WkC]at hw
    case nil=>
      obtain⟨rfl,hr,e,f,hl⟩:=hw
      have hv:v= .slice none 0 0:=hv
      subst hv
      refine⟨by show(B'.get k').isSome=true;rw[Bs.live_get hl];rfl,none,0,rfl,Nat.le_refl _,Nat.zero_le _,by simp,fun t cs hl' => ?_,fun e' s N f' hl' => ?_⟩
      · have hl' :B'.live k' =some (.box t cs):=hl'
        rw[hl]at hl';cases hl'
      · have hl' :B'.live k' =some (.row e' s N f'):=hl'
        rw[hl]at hl'
        injection hl' with hl'
        injection hl' with _ h3 h4 _
        exact⟨h3.symm,Nat.zero_le _,by show wkρ r ρ k' =_;simp[wkρ,hr,←h4]⟩
    case own k sz n=>
      obtain⟨hs,hr,rfl,rfl⟩:=hw
      obtain⟨_,ad,cp,e1,h3,h4,h5,h6,h7⟩:=hv
      refine⟨hs,ad,cp,e1,h3,h4,h5,fun t cs hl=> ?_,fun e s N f hl=> ?_⟩
      ·obtain⟨cs0,q1,_⟩:=box hr hl;exact h6 t cs0 q1
      · obtain⟨f0,q1,q2⟩:=row hr hl
        obtain⟨p1,p2,p3⟩:=h7 e s N f0 q1
        exact⟨p1,p2,q2.trans p3⟩
    all_goals exact hw.elim
  | ptr k' i' o' =>
    cases x<;>simp only[WkC]at hw
    case ptr k i o=>
      obtain⟨hs,hr,rfl,rfl⟩:=hw
      obtain⟨_,ad,e1,h3,h4⟩:=hv
      refine⟨hs,ad,e1,fun t cs hl=> ?_,fun e s N f hl=> ?_⟩
      · obtain⟨cs0,q1,q2⟩:=box hr hl
        obtain⟨p1,g,p2,p3⟩:=h3 t cs0 q1
        exact⟨p1,g,q2.trans p2,p3⟩
      · obtain⟨f0,q1,q2⟩:=row hr hl
        obtain⟨p1,g,cp,p2,p3⟩:=h4 e s N f0 q1
        exact⟨p1,g,cp,q2.trans p2,p3⟩
    all_goals exact hw.elim
  | tp e' row' =>
    cases x<;>simp only[WkC]at hw
    case tp e0 row0=>
      obtain⟨rfl,rfl⟩:=hw
      obtain⟨ad,e1,⟨hA,hb⟩,e2⟩:=hv
      refine⟨ad,e1,⟨FD h.blks hA,hb⟩,fun o y hy=> ?_⟩
      obtain⟨x,q1,q3⟩:=e2 o y hy
      exact⟨x,q1,tr q3⟩
    all_goals exact hw.elim
theorem Eb: ∀ {xs ys:List C},kY r B B' xs ys→xs.length=ys.length∧∀(i:Nat) x y,xs[i]? =some x→ys[i]? =some y→WkC r B B' x y
  | [], [],_=>⟨rfl,by simp⟩
  | x::xs,y::ys,h=>by
    obtain⟨i1,i2⟩:=Eb h.2
    refine⟨by simp[i1],fun i x' y' hx hy=> ?_⟩
    cases i with
    |zero=>simp at hx hy;subst hx;subst hy;exact h.1
    |succ i=>exact i2 i x' y' (by simpa using hx) (by simpa using hy)
  | [],_::_,h=>h.elim
  |_::_, [],h=>h.elim
theorem He: ∀ {xs ys:List V},lD r B B' xs ys→xs.length=ys.length∧∀(i:Nat) x y,xs[i]? =some x→ys[i]? =some y→WkA r B B' x y
  | [], [],_=>⟨rfl,by simp⟩
  | x::xs,y::ys,h=>by
    obtain⟨i1,i2⟩:=He h.2
    refine⟨by simp[i1],fun i x' y' hx hy=> ?_⟩
    cases i with
    |zero=>simp at hx hy;subst hx;subst hy;exact h.1
    |succ i=>exact i2 i x' y' (by simpa using hx) (by simpa using hy)
  | [],_::_,h=>h.elim
  |_::_, [],h=>h.elim
theorem Hf: ∀ {xs ys:List V},lN r B B' xs ys→xs.length=ys.length∧∀(i:Nat) x y,xs[i]? =some x→ys[i]? =some y→WkV r B B' x y
  | [], [],_=>⟨rfl,by simp⟩
  | x::xs,y::ys,h=>by
    obtain⟨i1,i2⟩:=Hf h.2
    refine⟨by simp[i1],fun i x' y' hx hy=> ?_⟩
    cases i with
    |zero=>simp at hx hy;subst hx;subst hy;exact h.1
    |succ i=>exact i2 i x' y' (by simpa using hx) (by simpa using hy)
  | [],_::_,h=>h.elim
  |_::_, [],h=>h.elim
theorem zh {α β:Type} {xs:List α} {ys:List β} {i:Nat} {y:β} (hl:xs.length=ys.length) (hy:ys[i]? =some y): ∃x,xs[i]? =some x:=by
  have : i < ys.length := by rcases Nat.lt_or_ge i ys.length with h|h;·exact h
                             ·simp[List.getElem?_eq_none h]at hy
  exact⟨_,List.getElem?_eq_getElem (by omega)⟩
theorem Cw (hm:Mem c B w ρ) (hc:c.ins=ins) (h:Wk ins r ts B ts' B') {v:Value} {x y:V} (hv:vL (env c w ρ B) v x) (hw:WkA r B B' x y):vL (env c w (wkρ r ρ) B') v y:=by
  cases y with
  |dead=>trivial
  |c y=>cases x<;>simp only[WkA]at hw<;>first|exact hw.elim|exact Cv hm hc h hv hw
  | agg ys=>
    cases x<;>simp only[WkA]at hw<;>first|exact hw.elim|skip
    obtain⟨vs,e1,e2,e3⟩:=hv
    obtain⟨q1,q2⟩:=Eb hw
    refine⟨vs,e1,by omega,fun i u y hu hy=> ?_⟩
    obtain⟨z,hz⟩:=zh q1 hy
    exact Cv hm hc h (e3 i u z hu hz) (q2 i z y hz hy)
  |tup _=>cases x<;>simp only[WkA]at hw
theorem KR (hm:Mem c B w ρ) (hc:c.ins=ins) (h:Wk ins r ts B ts' B') {v:Value} {x y:V} (hv:mg (env c w ρ B) v x) (hw:WkV r B B' x y):mg (env c w (wkρ r ρ) B') v y:=by
  cases x with
  | tup xs=>
    cases y with
    | tup ys=>
      obtain⟨vs,e1,e2,e3⟩:=hv
      obtain⟨q1,q2⟩:=He (show lD r B B' xs ys from hw)
      refine⟨vs,e1,by omega,fun i u y hu hy=> ?_⟩
      obtain⟨z,hz⟩:=zh q1 hy
      exact Cw hm hc h (e3 i u z hu hz) (q2 i z y hz hy)
    |dead=>trivial
    |c _=>simp[WkV,WkA]at hw
    |agg _=>simp[WkV,WkA]at hw
  |c x=>cases y<;>first|trivial|(rename_i y;exact Cw (x:= .c x) (y:= .c y) hm hc h hv hw)|(simp[WkV,WkA]at hw;done)
  |agg x=>cases y<;>first|trivial|(rename_i y;exact Cw (x:= .agg x) (y:= .agg y) hm hc h hv hw)|(simp[WkV,WkA]at hw;done)
  |dead=>cases y<;>first|trivial|simp[WkV,WkA]at hw
theorem rJ (h:Wk ins r ts B ts' B'):sW ins ts B ts' B' :=fun c a w ρ hc hr=>by
  have hm:=hr.mem
  obtain⟨q1,q2⟩:=Hf h.tmps
  have tr: ∀ {v x},RepT w (free c w ρ B) v x→RepT w (free c w (wkρ r ρ) B') v x:=fun h' =>h'.move (fun b hb=>FD h.blks hb) (fun _ _=>rfl)
  refine⟨wkρ r ρ,hr.df,by rw[hr.sz];exact q1,⟨hm.keeps,fun k' x hl=> ?_,fun k' x g hl hg=> ?_,fun k k' x x' g hl hl' hg hg' => ?_,fun k x hl=> ?_,fun k x b' hl hl' => ?_,hm.wld⟩,fun i y hy=> ?_⟩
  · rcases xy (ρ:=ρ) h.blks hl with⟨k,b,h1,h2,h3,h4⟩|⟨h1,h2,h4⟩
    · have ha:=hm.at_ k b h2
      cases x with
      | row e s n f=>
        cases b with
        |box=>exact h3.elim
        | row e0 s0 n0 f0=>
          obtain⟨rfl,rfl,rfl,heq⟩:=h3
          obtain⟨inner,p1,p2⟩:=yO.1 ha
          have p3:=DK p2 heq
          refine yO.2 ⟨inner,by show World.ownsRow _ _ _ _ (wkρ r ρ k') _ _;rw[h4];exact p1,p3.1,fun j o y hj hy=> ?_⟩
          obtain⟨u,p4,p5⟩:=p3.2 j o y hj hy
          exact⟨u,p4,tr p5⟩
      | box t cs=>
        cases b with
        |row=>exact h3.elim
        | box t0 cs0=>
          obtain⟨rfl,heq⟩:=h3
          obtain⟨g,cur,p1,p2,p3,p4⟩:=ha
          obtain⟨p5,p6⟩:=Eb heq
          refine⟨g,cur,by show wkρ r ρ k' =_;rw[h4];exact p1,p2,by omega,fun i u y hu hy=> ?_⟩
          obtain⟨z,hz⟩:=zh p5 hy
          exact Cv hm hc h (p4 i u z hu hz) (p6 i z y hz hy)
    · cases x with
      |box=>exact h2.elim
      | row e s n f=>
        have h2:n=0:=h2
        subst h2
        exact⟨[],by show World.ownsRow _ _ _ _ (wkρ r ρ k') _ _;rw[h4];exact World.ownsRow_nil _ _ _ _,by simp,by simp⟩
  · rcases xy (ρ:=ρ) h.blks hl with⟨k,b,h1,h2,h3,h4⟩|⟨h1,h2,h4⟩
    ·rw[h4]at hg;exact hm.own k b g h2 hg
    ·rw[h4]at hg;simp[fM]at hg
  · rcases xy (ρ:=ρ) h.blks hl with⟨k1,b1,h1,h2,h3,h4⟩|⟨h1,h2,h4⟩
    · rcases xy (ρ:=ρ) h.blks hl' with⟨k2,b2,h1',h2',h3',h4'⟩|⟨h1',h2',h4'⟩
      · rw[h4]at hg
        rw[h4']at hg'
        have:=hm.inj k1 k2 b1 b2 g h2 h2' hg hg'
        subst this
        exact BI h.inj (vC hl) (vC hl') h1 h1'
      ·rw[h4']at hg';simp[fM]at hg'
    ·rw[h4]at hg;simp[fM]at hg
  · obtain⟨p1,_⟩:=yP h.keep (vC (by rw[←hc];exact hl))
    obtain⟨b,p2⟩:=Option.isSome_iff_exists.1 p1
    rw[Bs.live_get p2];rfl
  · obtain⟨p1,p2,p3⟩:=yP h.keep (vC (by rw[←hc];exact hl))
    rcases xy (ρ:=ρ) h.blks hl' with⟨k1,b1,h1,h2,h3,h4⟩|⟨h1,_⟩
    · rw[p2]at h1;injection h1 with h1;subst h1
      obtain⟨p4,p5⟩:=hm.fix k x b1 hl h2
      exact⟨p4.trans (JH h3),h4.trans p5⟩
    ·rw[p2]at h1;cases h1
  · obtain⟨z,hz⟩:=zh q1 hy
    exact KR hm hc h (hr.rep i z hz) (q2 i z y hz hy)
end
end Go.Proofs.Ytojpejfcafbafaa.V
end
