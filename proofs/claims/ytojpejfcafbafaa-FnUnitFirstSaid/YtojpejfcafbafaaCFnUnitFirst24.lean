/- A part of the claim FnUnitFirst. -/
import Derived.Test.YtojpejfcafbafaaCFnUnitFirst23
section
namespace Go.Proofs.Ytojpejfcafbafaa.V
open Go Go.RowKit
set_option linter.unusedVariables false
set_option linter.unusedSimpArgs false
def ae (d k:Nat):Bool:=k==d+100||(decide (1000 * (d+1)≤k) && decide (k<1000 * (d+2)))
def ah (dj:Nat) (rj wj:List Nat) (di:Nat) (ri wi:List Nat):Bool:=
  wj.all (fun k=> !ri.contains k && !wi.contains k) && rj.all (fun k=> !wi.contains k) && ri.all (fun k=> !ae dj k) && wi.all (fun k=> !ae dj k) && rj.all (fun k=> !ae di k) && wj.all (fun k=> !ae di k)
def aj (pt:List (List Nat)) (ds:List Nat) (i:Nat) (rk wk:List Nat) (tr:Tr):Bool:=
  tr.all fun e=>(pt.getD i []).contains e.1||ah (ds.getD e.1 0) e.2.1 e.2.2 (ds.getD i 0) rk wk
def EI (ops:Array Oper) (pt:List (List Nat)) (ds l:List Nat):Bool:=
  Gy ops (fun i=>pt.getD i []) l && (ds.length==ops.size) && (List.range ops.size).all fun i=>vI ops i==ds.getD i 0
def zi (P:Program) (cl:Call) (dst:Option Tmp) (ts:List V) (B:Bs) (pt:List (List Nat)) (ds:List Nat) (i:Nat) (tr:Tr) (K:Tr→List V→Bs→Prop):Prop:=
  ∃ks bs outs,CallAt P cl dst (dst.getD 0) (evl ts) B ks bs outs∧aj pt ds i bs ks tr=true∧∀v u,outs v u→K ((i,bs,ks)::tr) (dI ts dst v) (dE B u)
def GD (c:Option Call) (P:Program) (o:Oper) (pt:List (List Nat)) (ds:List Nat) (i:Nat) (tr:Tr) (K:Tr→List V→Bs→Prop) (ts:List V) (B:Bs):Prop:=yh c fun cl=>zi P cl o.dst ts B pt ds i tr K
def Hg (r:Option Eff) (P:Program) (o:Oper) (pt:List (List Nat)) (ds:List Nat) (i:Nat) (tr:Tr) (K:Tr→List V→Bs→Prop) (ts:List V) (B:Bs):Prop:=
  Cs r (fun x=>x.1∧fC B (o.dst.getD 0) o.dst x.2.2.2∧aj pt ds i (ai o.op (evl ts)) (x.2.2.1.map (·.1)) tr=true∧
      K ((i,ai o.op (evl ts),x.2.2.1.map (·.1))::tr) (dI ts o.dst x.2.1) (dE B (x.2.2.1++kU (o.dst.getD 0+100) x.2.2.2)))
    (GD (fD o.op) P o pt ds i tr K ts B)
def FE (r:Option (Prop×V)) (P:Program) (o:Oper) (pt:List (List Nat)) (ds:List Nat) (i:Nat) (tr:Tr) (K:Tr→List V→Bs→Prop) (ts:List V) (B:Bs):Prop:=
  Cs r (fun x=>x.1∧aj pt ds i (ai o.op (evl ts)) [] tr=true∧K ((i,ai o.op (evl ts), [])::tr) (dI ts o.dst x.2) B)
    (Hg (iw P o.op (evl ts) B.live (o.dst.getD 0+100)) P o pt ds i tr K ts B)
def gD (g:Option Bool) (P:Program) (o:Oper) (pt:List (List Nat)) (ds:List Nat) (i:Nat) (tr:Tr) (K:Tr→List V→Bs→Prop) (ts:List V) (B:Bs):Prop:=
  yh g fun g=>bK g (FE (dz P o.op (evl ts) B.live) P o pt ds i tr K ts B) (aj pt ds i [] [] tr=true∧K ((i, [], [])::tr) (dI ts o.dst (.tup [])) B)
def opD (o:Option Oper) (P:Program) (ops:Array Oper) (pt:List (List Nat)) (ds:List Nat) (i:Nat) (tr:Tr) (K:Tr→List V→Bs→Prop) (ts:List V) (B:Bs):Prop:=yh o fun o=>gD (iL ops ts o) P o pt ds i tr K ts B
def EJ (P:Program) (ops:Array Oper) (pt:List (List Nat)) (ds:List Nat) (i:Nat) (tr:Tr) (ts:List V) (B:Bs) (K:Tr→List V→Bs→Prop):Prop:=opD ops[i]? P ops pt ds i tr K ts B
section
variable {P:Program} {ops:Array Oper} {pt:List (List Nat)} {ds:List Nat} {tr:Tr} {i:Nat} {ts:List V} {B:Bs} {K:Tr→List V→Bs→Prop} {o:Oper} {dst:Option Tmp} {g:Bool} {p:Prop} {v:V} {u:List (Nat×Option Blk)} {q:Option Blk} {cl:Call}
theorem dR:EJ P ops pt ds i tr ts B K=opD ops[i]? P ops pt ds i tr K ts B:=rfl
theorem dS:opD (some o) P ops pt ds i tr K ts B=gD (iL ops ts o) P o pt ds i tr K ts B:=rfl
theorem eY:gD (some true) P o pt ds i tr K ts B=FE (dz P o.op (evl ts) B.live) P o pt ds i tr K ts B:=by simp[gD,yh,bK]
theorem dU:gD (some false) P o pt ds i tr K ts B=(aj pt ds i [] [] tr=true∧K ((i, [], [])::tr) (dI ts o.dst (.tup [])) B):=by simp[gD,yh,bK]
theorem xG:gD (some g) P o pt ds i tr K ts B=((g=true→FE (dz P o.op (evl ts) B.live) P o pt ds i tr K ts B)∧(g=false→aj pt ds i [] [] tr=true∧K ((i, [], [])::tr) (dI ts o.dst (.tup [])) B)):=rfl
theorem bX:FE (some (p,v)) P o pt ds i tr K ts B=(p∧aj pt ds i (ai o.op (evl ts)) [] tr=true∧K ((i,ai o.op (evl ts), [])::tr) (dI ts o.dst v) B):=rfl
theorem bY:FE none P o pt ds i tr K ts B=Hg (iw P o.op (evl ts) B.live (o.dst.getD 0+100)) P o pt ds i tr K ts B:=rfl
theorem bZ:Hg (some (p,v,u,q)) P o pt ds i tr K ts B=(p∧fC B (o.dst.getD 0) o.dst q∧aj pt ds i (ai o.op (evl ts)) (u.map (·.1)) tr=true∧K ((i,ai o.op (evl ts),u.map (·.1))::tr) (dI ts o.dst v) (dE B (u++kU (o.dst.getD 0+100) q))):=rfl
theorem cu:Hg none P o pt ds i tr K ts B=GD (fD o.op) P o pt ds i tr K ts B:=rfl
theorem bO:GD (some cl) P o pt ds i tr K ts B=zi P cl o.dst ts B pt ds i tr K:=rfl
end
def y8 (P:Program) (ops:Array Oper) (pt:List (List Nat)) (ds:List Nat) (K:List V→Bs→Prop):List Nat→Tr→List V→Bs→Prop
  | [],_,ts,B=>K ts B
  |i::l,tr,ts,B=>EJ P ops pt ds i tr ts B (y8 P ops pt ds K l)
theorem Ap {d k:Nat} (h:(!ae d k)=true): ¬BC d k:=by
  intro hn
  have:ae d k=true:=by
    rcases hn with h|⟨h1,h2⟩
    ·simp[ae,h]
    ·simp[ae,h1,h2]
  rw[this]at h;cases h
theorem Hl {dj di:Nat} {rj wj ri wi:List Nat} (h:ah dj rj wj di ri wi=true):Ak dj rj wj di ri wi:=by
  simp only[ah,Bool.and_eq_true,List.all_eq_true]at h
  obtain⟨⟨⟨⟨⟨h1,h2⟩,h3⟩,h4⟩,h5⟩,h6⟩:=h
  refine⟨fun k hk=> ?_,fun k hk=> ?_,fun k hk=> ?_,fun k hk=> ?_⟩
  ·have:=h1 k hk;simpa using this
  ·have:=h2 k hk;simpa using this
  · rcases List.mem_append.1 hk with h|h
    ·exact Ap (h3 k h)
    ·exact Ap (h4 k h)
  · rcases List.mem_append.1 hk with h|h
    ·exact Ap (h5 k h)
    ·exact Ap (h6 k h)
theorem zk {ops:Array Oper} {pt:List (List Nat)} {ds:List Nat} (hd: ∀i,vI ops i=ds.getD i 0) {i:Nat} {rk wk:List Nat} {tr:Tr} (h:aj pt ds i rk wk tr=true):chk (some fun i=>pt.getD i []) ops i rk wk tr:=by
  intro e he
  have:=List.all_eq_true.1 h e he
  simp only[Bool.or_eq_true]at this
  rcases this with h|h
  ·exact .inl (by simpa using h)
  ·exact .inr (by rw[hd,hd];exact Hl h)
theorem LX {P :Program} {ops:Array Oper} {pt:List (List Nat)} {ds:List Nat} (hd: ∀i,vI ops i=ds.getD i 0) {i:Nat} {tr:Tr} {ts:List V} {B:Bs} {K:Tr→List V→Bs→Prop} (h:EJ P ops pt ds i tr ts B K):
    ∃o,ops[i]? =some o∧opW P ops o ts B (fun rk wk=>chk (some fun i=>pt.getD i []) ops i rk wk tr) fun rk wk ts' B' =>K ((i,rk,wk)::tr) ts' B' :=by
  unfold EJ opD yh at h
  cases ho:ops[i]? with
  |none=>rw[ho]at h;exact h.elim
  | some o=>
    rw[ho]at h
    refine⟨o,rfl, ?_⟩
    simp only at h
    cases hg:iL ops ts o with
    |none=>rw[hg]at h;exact h.elim
    | some g=>
      rw[hg]at h
      simp only[gD,yh,bK]at h
      cases g with
      | true=>
        have h:=h.1 rfl
        unfold FE Cs at h
        cases hv:dz P o.op (evl ts) B.live with
        | some x=>
          rw[hv]at h
          exact⟨_,_,_, .inr ⟨hg, .val x.1 x.2 hv h.1⟩,zk hd h.2.1,by rintro v' u ⟨rfl,rfl⟩;exact h.2.2⟩
        | none=>
          rw[hv]at h
          simp only[Hg,Cs]at h
          cases hv2:iw P o.op (evl ts) B.live (o.dst.getD 0+100)with
          | some x=>
            rw[hv2]at h
            obtain⟨h1,h2,h3,h4⟩:=h
            refine⟨_,_,_, .inr ⟨hg, .mem x.1 x.2.1 x.2.2.1 x.2.2.2 hv2 h1 (fun hn=> ?_) (fun hn=> ?_)⟩,zk hd h3,by rintro v' u ⟨rfl,rfl⟩;exact h4⟩
            ·cases hq:x.2.2.2 with|none=>exact absurd hq hn|some b=>rw[hq]at h2;exact h2.1
            ·cases hq:x.2.2.2 with|none=>exact absurd hq hn|some b=>rw[hq]at h2;exact h2.2
          | none=>
            rw[hv2]at h
            simp only[GD,yh]at h
            cases hc:o.op with
            | call cl=>
              rw[hc]at h
              obtain⟨ks,bs,outs,h1,h3,h2⟩:=h
              exact⟨_,_,_, .inr ⟨hg, .call cl ks bs outs hc h1⟩,zk hd h3,fun v u ho=>h2 v u ho⟩
            |_=>rw[hc]at h;exact h.elim
      |false=>exact⟨_,_,_, .inl ⟨hg,rfl,rfl,rfl⟩,zk hd (h.2 rfl).1,by rintro v u ⟨rfl,rfl⟩;exact(h.2 rfl).2⟩
theorem Ec {P:Program} {ops:Array Oper} {pt:List (List Nat)} {ds:List Nat} (hd: ∀i,vI ops i=ds.getD i 0) {K:List V→Bs→Prop}: ∀(l:List Nat) (tr:Tr) (ts:List V) (B:Bs),y8 P ops pt ds K l tr ts B→wU P ops (some fun i=>pt.getD i []) K l tr ts B
  | [],_,_,_,h=>h
  | i::l,tr,ts,B,h=>by
    obtain⟨o,h1,h2⟩:=LX hd h
    exact⟨o,h1,zF h2 (fun _ _ h=>h) fun rk wk ts B h=>Ec hd l _ ts B h⟩
theorem aT {P:Program} {ins:Bs} {id:Nat} {ops:Array Oper} {Q:Post} {ts:List V} {B:Bs} (hm:P.follows .mixedOrders=true) (pt:List (List Nat)) (ds l:List Nat) (hok:EI ops pt ds l=true)
    (h:y8 P ops pt ds (Q .normal) l [] ts B):ek P ins id ops Q ts B:=by
  simp only[EI,Bool.and_eq_true,List.all_eq_true,List.mem_range,beq_iff_eq]at hok
  obtain⟨⟨h1,h2⟩,h3⟩:=hok
  have hd: ∀i,vI ops i=ds.getD i 0:=fun i=>by
    by_cases hi:i<ops.size
    ·exact h3 i hi
    · have h4:ops[i]? =none:=Array.getElem?_eq_none (by omega)
      have h5:ds[i]? =none:=List.getElem?_eq_none (by omega)
      simp[vI,h4,List.getD_eq_getElem?_getD,h5]
  exact Fz hm (fun i=>pt.getD i []) l h1 (Ec hd l [] ts B h)
theorem dV {P:Program} {ops:Array Oper} {pt:List (List Nat)} {ds:List Nat} {K:List V→Bs→Prop} {tr:Tr} {ts:List V} {B:Bs}:y8 P ops pt ds K [] tr ts B=K ts B:=rfl
theorem cz {P:Program} {ops:Array Oper} {pt:List (List Nat)} {ds:List Nat} {K:List V→Bs→Prop} {i:Nat} {l:List Nat} {tr:Tr} {ts:List V} {B:Bs}:y8 P ops pt ds K (i::l) tr ts B=EJ P ops pt ds i tr ts B (y8 P ops pt ds K l):=rfl
theorem DL {P:Program} {cl:Call} {dst:Option Tmp} {ev:Operand→V} {B:Bs} {g:Nat} {xs:List V} (bs es:List Nat) {φ:V→Prop} (hc:cl.callee= .value (.func g)) (hg:uR P g=true)
    (ct:Ct P g xs [] (fun r B' =>φ r∧B' = [])) (hp:dx [] bs B (cl.args.toList.map ev) xs) (hb: ∀k∈bs,∃e s n f,e∈es∧B.live k=some (.row e s n f))
    (hn: ∀r,φ r→iQ r=true∧(∀e∈es,NoV e r)∧kr (ren (dst.getD 0) []) r=r):
    CallAt P cl dst (dst.getD 0) ev B [] bs (fun v u=>φ v∧u= []):=by
  refine⟨g,xs,es,_,hc,hg,⟨List.nodup_nil,by simp,by simp,fun k hk=>⟨by simp, ?_⟩⟩,hp,ct, ?_⟩
  ·obtain⟨e,s,n,f,_,h⟩:=hb k hk;exact⟨e,s,n,f,h⟩
  · rintro res B' ⟨h1,rfl⟩
    obtain⟨h2,h3,h4⟩:=hn res h1
    refine⟨⟨by simp,by simp,by simp,by simp,hb⟩,h2,h3,by simp,by rw[h4];exact h1,rfl⟩
theorem EK {a:Bs} {P:Program} {cl:Call} {dst:Option Tmp} {ts:List V} {B:Bs} {g:Nat} {xs:List V} {φ:V→Prop} {K:List V→Bs→Prop} (bs es:List Nat) (ct:Ct P g xs [] (fun r B' =>φ r∧B' = []))
    (hc:cl.callee= .value (.func g)) (hg:uR P g=true) (hp:dx [] bs B (cl.args.toList.map (evl ts)) xs) (hb: ∀k∈bs,∃e s n f,e∈es∧B.live k=some (.row e s n f))
    (hn: ∀r,φ r→iQ r=true∧(∀e∈es,NoV e r)∧kr (ren (dst.getD 0) []) r=r) (h: ∀r,φ r→K (dI ts dst r) B):vX P a cl dst ts B K:=
  .inl ⟨[],bs,_,DL bs es hc hg ct hp hb hn,fun v u ⟨h1,h2⟩=>by subst h2;exact h v h1⟩
theorem JI {P:Program} {cl:Call} {dst:Option Tmp} {ts:List V} {B:Bs} {g:Nat} {xs:List V} {φ:V→Prop} {pt:List (List Nat)} {ds:List Nat} {i:Nat} {tr:Tr} {K:Tr→List V→Bs→Prop} (bs es:List Nat) (ct:Ct P g xs [] (fun r B' =>φ r∧B' = []))
    (hc:cl.callee= .value (.func g)) (hg:uR P g=true) (hp:dx [] bs B (cl.args.toList.map (evl ts)) xs) (hb: ∀k∈bs,∃e s n f,e∈es∧B.live k=some (.row e s n f))
    (hn: ∀r,φ r→iQ r=true∧(∀e∈es,NoV e r)∧kr (ren (dst.getD 0) []) r=r) (hk:aj pt ds i bs [] tr=true) (h: ∀r,φ r→K ((i,bs, [])::tr) (dI ts dst r) B):zi P cl dst ts B pt ds i tr K:=
  ⟨[],bs,_,DL bs es hc hg ct hp hb hn,hk,fun v u ⟨h1,h2⟩=>by subst h2;exact h v h1⟩
section
variable {P:Program} {ops:Array Oper} {K:List V→Bs→Prop} {Q:Exit→Act→World→Prop} {c:Ctx}
theorem Cx {p:Nat→List Nat} (hst:Stat ops p) {listed:Array Bool} {l:List Nat} (hi:Inv ops p listed l) {i:Nat} (hir:i∈Region.ready .any ops listed):
    i<ops.size∧i∈l∧∀d∈l,d∉p i:=by
  obtain⟨h1,oi,h2,h3⟩:=Cr hir
  have hil:=(Array.getElem?_eq_some_iff.1 h2).1
  have himem:=(hi.mem i hil).1 h1
  refine⟨hil,himem,fun d hd hp=> ?_⟩
  have unl: ∀e,e∈l→listed.getD e false=true→False:=fun e hm hl' =>by
    have h5:=hi.lt e hm
    have h4:=(hi.mem e h5).2 hm
    have h6:e<listed.size:=by rw[hi.sz];exact h5
    simp[h6]at h4 hl'
    rw[h4]at hl';cases hl'
  obtain⟨e,he,h4⟩:=hst.s3 i hil d hp
  have h5:=h3 e he
  obtain⟨h6,_⟩:=hst.s4 i hil e he
  have h7:e∉l:=fun hm=>unl e hm h5
  rcases h4 with rfl|h4
  ·exact h7 hd
  ·exact hi.cl e h6 h7 d h4 hd
theorem zJ {p:Nat→List Nat} {listed:Array Bool} {l1 l2:List Nat} {i:Nat} (hi:Inv ops p listed (l1++i::l2)) (hil:i<ops.size) (nop: ∀d∈l1++i::l2,d∉p i):Inv ops p (listed.setIfInBounds i true) (l1++l2):=by
  have hpw:=List.pairwise_append.1 hi.pw
  have hni:i∉l1++l2:=fun hm=>by
    rcases List.mem_append.1 hm with h|h
    ·exact(hpw.2.2 i h i List.mem_cons_self).1 rfl
    ·exact((List.pairwise_cons.1 hpw.2.1).1 i h).1 rfl
  have hsub:(l1++l2).Sublist (l1++i::l2):=List.Sublist.append (List.Sublist.refl _) (List.sublist_cons_self i l2)
  refine⟨by simpa using hi.sz,fun j hj=> ?_,fun j hj=>hi.lt j (hsub.subset hj),hi.pw.sublist hsub,fun j hj hnj d hd hm=> ?_⟩
  · by_cases hij:i=j
    · subst hij
      have:i<listed.size:=by rw[hi.sz];exact hil
      simp[this]
      exact⟨fun hm=>hni (List.mem_append_left _ hm),fun hm=>hni (List.mem_append_right _ hm)⟩
    · rw[getD_set_ne true hij,hi.mem j hj]
      simp[Ne.symm hij]
  · by_cases hij:j=i
    ·subst hij;exact nop d (hsub.subset hm) hd
    · refine hi.cl j hj (fun hm' =>hnj ?_) d hd (hsub.subset hm)
      simp only[List.mem_append,List.mem_cons]at hm' ⊢
      rcases hm' with h|h|h
      ·exact .inl h
      ·exact absurd h hij
      ·exact .inr h
theorem AV {p:Nat→List Nat} (hst:Stat ops p) {listed:Array Bool} {i:Nat} {l:List Nat} (hi:Inv ops p listed (i::l)):i∈Region.ready .any ops listed:=by
  have hil:=hi.lt i List.mem_cons_self
  refine EC (o:=ops[i]) ((hi.mem i hil).2 List.mem_cons_self) (Array.getElem?_eq_getElem hil) fun e he=> ?_
  obtain⟨h1,h2⟩:=hst.s4 i hil e he
  have h3:e∉i::l:=fun hm=>by
    rcases List.mem_cons.1 hm with h|h
    ·exact h2 h
    · have:=((List.pairwise_cons.1 hi.pw).1 e h).2
      simp only[zG,Bool.and_eq_true,Bool.not_eq_true']at this
      have h4:(yg ops i).contains e=true:=by simpa using he
      rw[h4]at this;simp at this
  have h4: ¬listed.getD e true=false:=fun h=>h3 ((hi.mem e h1).1 h)
  have h5:e<listed.size:=by rw[hi.sz];exact h1
  simpa[h5] using h4
end
theorem Gc {P:Program} {ops:Array Oper} {pt:List (List Nat)} {ds:List Nat} {K K' :List V→Bs→Prop} (hk: ∀ts B,K ts B→K' ts B) (hd: ∀i,vI ops i=ds.getD i 0) (l:List Nat) (ts:List V) (B:Bs) (h:y8 P ops pt ds K l [] ts B):wU P ops (some fun i=>pt.getD i []) K' l [] ts B:=by
  have mono: ∀(l:List Nat) (tr:Tr) (ts:List V) (B:Bs),wU P ops (some fun i=>pt.getD i []) K l tr ts B→wU P ops (some fun i=>pt.getD i []) K' l tr ts B:=fun l=>by
    induction l with
    |nil=>exact fun tr ts B h=>hk ts B h
    |cons i l ih=>exact fun tr ts B ⟨o,h1,h2⟩=>⟨o,h1,zF h2 (fun _ _ h=>h) fun rk wk ts B h=>ih _ ts B h⟩
  exact mono l [] ts B (Ec hd l [] ts B h)
def lh (k:Nat) (B:Bs):C→C
  | .own k' sz n=>if k' =k then(match B.live k with|some (.row e s N f)=>if s=sz then .t (.sl e sz n f)else .dead|_=> .dead)else if(B.get k').isSome=true then .own k' sz n else .dead
  | .ptr k' i o=>if k' =k then .dead else if(B.get k').isSome=true then .ptr k' i o else .dead
  |x=>x
def lQ (k:Nat) (B:Bs):V→V
  | .c x=> .c (lh k B x)
  | .agg xs=> .agg (xs.map (lh k B))
  |_=> .dead
def lI (k:Nat) (B:Bs):V→V
  | .tup xs=> .tup (xs.map (lQ k B))
  |x=>lQ k B x
def iR (k:Nat) (B:Bs):Blk→Blk
  | .row e s n f=> .row e s n f
  | .box t cs=> .box t (cs.map (lh k B))
def lU (k:Nat) (B:Bs):Option Blk→Option Blk
  |some b=>some (iR k B b)
  |none=>none
def fI (k:Nat) (B:Bs):Bs→Bs
  | []=> []
  |(k',y)::l=>if k' =k then fI k B l else(k',lU k B y)::fI k B l
def idR:Bs→Rn
  | []=> []
  |(k,_)::l=>(k,k)::idR l
theorem Cy: ∀ {B:Bs} {k:Nat},(B.get k).isSome=true→(idR B).at k=some k
  | (k0,y)::l,k,h=>by
    simp only[Bs.get]at h
    simp only[idR,Rn.at,List.find?]
    by_cases e:k0=k
    ·subst e;simp
    · rw[if_neg e]at h
      have:(k0==k)=false:=by simpa using e
      simp only[this]
      exact Cy h
  | [],k,h=>by simp[Bs.get]at h
theorem Hm: ∀ {B:Bs} {k q:Nat},(idR B).at k=some q→q=k
  | (k0,y)::l,k,q,h=>by
    simp only[idR,Rn.at,List.find?]at h
    by_cases e:k0=k
    ·subst e;simpa using h.symm
    · have:(k0==k)=false:=by simpa using e
      simp only[this]at h
      exact Hm h
  | [],k,q,h=>by simp[idR,Rn.at]at h
theorem yD (k:Nat) (B:Bs): ∀(l:Bs) (k' :Nat),(fI k B l).get k' =if k' =k then none else(l.get k').map (lU k B)
  | [],k' =>by simp[fI,Bs.get]
  | (k0,y)::l,k' =>by
    have ih:=yD k B l k'
    unfold fI
    by_cases h0:k0=k
    · rw[if_pos h0,ih]
      by_cases h1:k' =k
      ·simp[h1]
      ·rw[if_neg h1,if_neg h1];simp only[Bs.get];rw[if_neg (by omega)]
    · rw[if_neg h0]
      simp only[Bs.get]
      by_cases h1:k0=k'
      ·rw[if_pos h1,if_pos h1,if_neg (by omega)];rfl
      ·rw[if_neg h1,if_neg h1];exact ih
theorem Cz (k:Nat) (B:Bs): ∀l:Bs,((fI k B l).map (·.1)).Sublist (l.map (·.1))
  | []=> .slnil
  | (k0,y)::l=>by
    unfold fI
    split
    ·exact .cons _ (Cz k B l)
    ·exact .cons_cons _ (Cz k B l)
theorem yj {r:Rn} (hr: ∀k q,r.at k=some q→q=k): ∀l:Bs,(cZ r l).Sublist (l.map (·.1))
  | []=> .slnil
  | (k,some b)::l=>by
    simp only[cZ]
    cases h:r.at k with
    |none=>exact .cons _ (yj hr l)
    |some q=>rw[hr k q h];exact .cons_cons _ (yj hr l)
  |(k,none)::l=> .cons _ (yj hr l)
theorem JJ {r:Rn} (hr: ∀k q,r.at k=some q→q=k) {k:Nat} {B:Bs} (h:B.get k=none):k∉cZ r B:=fun hm=>by
  obtain⟨p,hp,e⟩:=List.mem_map.1 ((yj hr B).mem hm)
  have: ∀ {l:Bs},p∈l→(l.get p.1).isSome=true:=fun{l}=>by
    induction l with
    |nil=>intro h;simp at h
    | cons x l ih=>
      intro hm
      obtain⟨a,b⟩:=x
      simp only[Bs.get]
      split
      ·rfl
      · rcases List.mem_cons.1 hm with rfl|h
        ·rename_i h;exact absurd rfl h
        ·exact ih h
  have:=this hp
  rw[e,h]at this;cases this
section
variable {k:Nat} {B:Bs}
abbrev BJ (k:Nat) (B:Bs):Rn:=idR (fI k B B)
theorem FH {x:C}:WkC (BJ k B) B (fI k B B) x (lh k B x):=by
  cases x with
  | own k' sz n=>
    unfold lh;simp only
    split
    · rename_i e;subst e
      split
      · rename_i e s N f hl
        split
        · rename_i hs;subst hs
          exact⟨JJ (fun _ _=>Hm) (by rw[yD];simp),rfl,rfl,N,f,hl,bg _ _⟩
        ·trivial
      ·trivial
    · rename_i hne
      split
      · rename_i hs
        have:((fI k B B).get k').isSome=true:=by rw[yD,if_neg hne];cases h:B.get k' with|none=>simp[h]at hs|some y=>rfl
        exact⟨this,Cy this,rfl,rfl⟩
      ·trivial
  | ptr k' i o=>
    unfold lh;simp only
    split
    ·trivial
    · rename_i hne
      split
      · rename_i hs
        have:((fI k B B).get k').isSome=true:=by rw[yD,if_neg hne];cases h:B.get k' with|none=>simp[h]at hs|some y=>rfl
        exact⟨this,Cy this,rfl,rfl⟩
      ·trivial
  |t x=>exact TEq.refl _
  |nil=>trivial
  |tp e r=>exact⟨rfl,rfl⟩
  |dead=>trivial
theorem BK: ∀xs:List C,kY (BJ k B) B (fI k B B) xs (xs.map (lh k B))
  | []=>trivial
  |x::xs=>⟨FH,BK xs⟩
theorem M8 (v:V):WkA (BJ k B) B (fI k B B) v (lQ k B v):=by
  cases v with
  |c x=>exact FH
  |agg xs=>exact BK xs
  |tup xs=>trivial
  |dead=>trivial
theorem Ho: ∀xs:List V,lD (BJ k B) B (fI k B B) xs (xs.map (lQ k B))
  | []=>trivial
  |x::xs=>⟨M8 x,Ho xs⟩
theorem M9 (v:V):WkV (BJ k B) B (fI k B B) v (lI k B v):=by
  cases v with
  |c x=>exact FH
  |agg xs=>exact BK xs
  |tup xs=>exact Ho xs
  |dead=>trivial
theorem Hq: ∀ts:List V,lN (BJ k B) B (fI k B B) ts (ts.map (lI k B))
  | []=>trivial
  |v::vs=>⟨M9 v,Hq vs⟩
theorem Hr (hn:(B.map (·.1)).Nodup): ∀l:Bs,(∀p∈l,p∈B)→lg (BJ k B) B (fI k B B) (fI k B l)
  | [],_=>trivial
  | (k', y) ::l,h=>by
    have ih:=Hr hn l fun p hp=>h p (List.mem_cons_of_mem _ hp)
    by_cases hne:k' =k
    · have e1:fI k B ((k',y)::l)=fI k B l:=if_pos hne
      rw[e1];exact ih
    · have e1 : fI k B ((k',y)::l)=(k',lU k B y)::fI k B l:=if_neg hne
      rw[e1]
      cases y with
      |none=>exact ih
      | some b=>
        have hg :B.get k' =some (some b):=by
          have: ∀ {l:Bs},(l.map (·.1)).Nodup→(k',some b)∈l→l.get k' =some (some b):=fun{l}=>by
            induction l with
            |nil=>intro _ h;simp at h
            | cons x l ih=>
              intro hn hm
              obtain⟨a,z⟩:=x
              simp only[List.map_cons,List.nodup_cons]at hn
              simp only[Bs.get]
              rcases List.mem_cons.1 hm with h|h
              ·injection h with h1 h2;subst h1;subst h2;simp
              · rw[if_neg]
                ·exact ih hn.2 h
                ·rintro rfl;exact hn.1 (List.mem_map.2 ⟨_,h,rfl⟩)
          exact this hn (h _ List.mem_cons_self)
        have hs:((fI k B B).get k').isSome=true:=by rw[yD,if_neg hne,hg];rfl
        refine⟨?_,ih⟩
        rw[Cy hs]
        refine⟨b,by simp[Bs.live,hg], ?_⟩
        cases b with
        |row e s n f=>exact⟨rfl,rfl,rfl,bg _ _⟩
        |box t cs=>exact⟨rfl,BK cs⟩
def BL (k:Nat) (B:Bs):Bs→Bool
  | []=>true
  |(k',some _)::l=>(k' !=k) && (B.live k').isSome && BL k B l
  |(_,none)::l=>BL k B l
theorem CB: ∀ {ins:Bs},BL k B ins=true→iM (BJ k B) B (fI k B B) ins
  | [],_=>trivial
  | (k',some b0)::l,h=>by
    simp only[BL,Bool.and_eq_true,bne_iff_ne,ne_eq]at h
    obtain⟨⟨h1,h2⟩,h3⟩:=h
    have hg: ∃b,B.get k' =some (some b):=by
      cases hl:B.live k' with
      |none=>rw[hl]at h2;cases h2
      |some b=>exact⟨b,Bs.live_get hl⟩
    obtain⟨b,hg⟩:=hg
    have hg' :(fI k B B).get k' =some (some (iR k B b)):=by rw[yD,if_neg h1,hg];rfl
    exact⟨by simp[Bs.live,hg'],Cy (by rw[hg'];rfl),h2,CB h3⟩
  |(_,none)::l,h=>CB (ins:=l) h
end
theorem Ed {ins:Bs} {ts:List V} {B:Bs} (k:Nat) (hn:(B.map (·.1)).Nodup) (hi:BL k B ins=true):sW ins ts B (ts.map (lI k B)) (fI k B B):=
  rJ (r:=BJ k B) ⟨Hq ts,Hr hn B fun _ h=>h,((yj (fun _ _=>Hm) _).trans (Cz k B B)).nodup hn,CB hi⟩
def ndB:List Nat→Bool
  | []=>true
  |k::l=> !l.contains k && ndB l
theorem xh: ∀ {l:List Nat},ndB l=true→l.Nodup
  | [],_=> .nil
  | k::l,h=>by
    simp only[ndB,Bool.and_eq_true,Bool.not_eq_true',List.contains_eq_mem,decide_eq_false_iff_not]at h
    exact List.nodup_cons.2 ⟨h.1,xh h.2⟩
theorem Ht {P:Program} {o:Oper} {K:List V→Bs→Prop} {ins:Bs} {F:List V→Bs→Prop} {ts:List V} {B:Bs} (k:Nat) (hn:ndB (B.map (·.1))=true) (hi:BL k B ins=true) (h:F (ts.map (lI k B)) (fI k B B)):JF P ins o K F ts B:= .inl ⟨_,_,Ed k (xh hn) hi,h⟩
abbrev V.i (n:Int):V:= .c (.t (.s (.int .i64 n)))
abbrev V.b (x:Bool):V:= .c (.t (.s (.bool x)))
abbrev T.i (n:Int):T:= .s (.int .i64 n)
abbrev T.b (x:Bool):T:= .s (.bool x)
def fl {α:Type} (d:α) (en:α→List T) (xs:List α):Nat→List T:=fun j=>en (xs.getD j d)
def ei (n:Int):List T:= [.s (.int .i64 n)]
abbrev T.l {α:Type} (e sz:Nat) (d:α) (en:α→List T) (xs:List α):T:= .sl e sz xs.length (fl d en xs)
abbrev T.ints (xs:List Int):T:= .sl 3 1 xs.length (fl 0 ei xs)
theorem yK {α:Type} {d:α} {en:α→List T} {xs:List α} {j:Nat}:fl d en xs j=en (xs.getD j d):=rfl
theorem gu {p:Prop} [Decidable p] {a b:Bool}:(if p then V.c (.t (.s (.bool a)))else V.c (.t (.s (.bool b))))=V.c (.t (.s (.bool (if p then a else b)))):=by split<;>rfl
theorem gy {p:Prop} [Decidable p] {k:IntKind} {a b:Int}:(if p then V.c (.t (.s (.int k a)))else V.c (.t (.s (.int k b))))=V.c (.t (.s (.int k (if p then a else b)))):=by split<;>rfl
def LY (P:Program) (rs:List ResultVar) (R:V→Bs→Prop):Post
  | .exit _,_,_=>False
  | .normal,ts,B=>lM P rs R ts B
  | .ret,ts,B=>lM P rs R ts B
theorem gz {P:Program} {rs:List ResultVar} {R:V→Bs→Prop} {ts:List V} {B:Bs}:LY P rs R .normal ts B=lM P rs R ts B:=rfl
theorem gB {P:Program} {rs:List ResultVar} {R:V→Bs→Prop} {ts:List V} {B:Bs}:LY P rs R .ret ts B=lM P rs R ts B:=rfl
theorem Oj {P:Program} {g:FuncId} {fn:Func} {code:Code} {rs:List ResultVar} {n:Nat} {args:List V} {ins:Bs} {R:V→Bs→Prop} (hf:P.funcs[g]? =some fn) (hb:fn.body=some code) (hr:fn.results.toList=rs)
    (hn:List.replicate (fn.ntmps - args.length) V.dead=List.replicate n .dead) (h:aw P ins code (LY P rs R) (args++List.replicate n .dead) ins):Ct P g args ins R:=by
  refine EF hf hb (yC (EH _ _ _ _ (by rw[hn];exact h)) ?_)
  intro e ts B h
  cases e with
  |normal=>obtain⟨r,h1,h2⟩:=h;exact⟨r,by rw[hr];exact h1,h2⟩
  |exit id=>exact h.elim
  |ret=>obtain⟨r,h1,h2⟩:=h;exact⟨r,by rw[hr];exact h1,h2⟩
theorem Ct.weak {P:Program} {g:FuncId} {args:List V} {ins:Bs} {R R' :V→Bs→Prop} (h:Ct P g args ins R) (hr: ∀r B,R r B→∃r' B',sW ins [r] B [r'] B' ∧R' r' B'):Ct P g args ins R' :=by
  intro w0 G ρ0 wild cargs h1 h2 h3
  refine(h w0 G ρ0 wild cargs h1 h2 h3).mono ?_
  rintro e w' ⟨v',res,B',ρ',e1,e2,e3,e4⟩
  obtain⟨r2,B2,h4,h5⟩:=hr _ _ e2
  obtain⟨ρ2,h6⟩:=h4 ⟨w0,G,ins,ρ0,wild⟩ {tmps:= #[v'],defers:= []} w' ρ' rfl ⟨rfl,rfl,e3,fun i x hx=>by
    rcases i with _|i
    ·simp at hx;subst hx;exact e4
    ·simp at hx⟩
  exact⟨v',r2,B2,ρ2,e1,h5,h6.mem,h6.rep 0 r2 rfl⟩
def yl (ins:Bs) (R:V→Bs→Prop) (v:V) (B:Bs):Prop:= ∃v' B',sW ins [v] B [v'] B' ∧R v' B'
def ik (v:V):Prop:=(match v with| .tup vs=>vs.all iC|_=>true)=true
def FI (v:Option V) (ins:Bs) (R:V→Bs→Prop) (B:Bs):Prop:=match v with|some v=>ik v∧yl ins R v B|none=>False
theorem cB {v:V} {ins:Bs} {R:V→Bs→Prop} {B:Bs}:FI (some v) ins R B=(ik v∧yl ins R v B):=rfl
def LZ (P:Program) (ins:Bs) (rs:List ResultVar) (R:V→Bs→Prop):Post
  | .exit _,_,_=>False
  | .normal,ts,B=>FI (kX P ts B rs) ins R B
  | .ret,ts,B=>FI (kX P ts B rs) ins R B
theorem gF {P:Program} {ins:Bs} {rs:List ResultVar} {R:V→Bs→Prop} {ts:List V} {B:Bs}:LZ P ins rs R .normal ts B=FI (kX P ts B rs) ins R B:=rfl
theorem gG {P:Program} {ins:Bs} {rs:List ResultVar} {R:V→Bs→Prop} {ts:List V} {B:Bs}:LZ P ins rs R .ret ts B=FI (kX P ts B rs) ins R B:=rfl
theorem Hu {v:Option V} {ins:Bs} {R:V→Bs→Prop} {B:Bs} (h:FI v ins R B): ∃r,v=some r∧ik r∧yl ins R r B:=by
  cases v with
  |none=>exact h.elim
  |some r=>exact⟨r,rfl,h⟩
theorem bF {P:Program} {g:FuncId} {fn:Func} {code:Code} {rs:List ResultVar} {n:Nat} {args:List V} {ins:Bs} {R:V→Bs→Prop} (hf:P.funcs[g]? =some fn) (hb:fn.body=some code) (hr:fn.results.toList=rs)
    (hn:List.replicate (fn.ntmps - args.length) V.dead=List.replicate n .dead) (h:aw P ins code (LZ P ins rs R) (args++List.replicate n .dead) ins):Ct P g args ins R:=by
  refine Ct.weak (R:=fun r B=>yl ins R r B) (EF hf hb (yC (EH _ _ _ _ (by rw[hn];exact h)) ?_)) (fun r B h=>h)
  intro e ts B h
  cases e with
  |normal=>obtain⟨r,h1,h2,h3⟩:=Hu h;exact⟨r,by rw[hr];exact h1,h2,h3⟩
  |exit id=>exact h.elim
  |ret=>obtain⟨r,h1,h2,h3⟩:=Hu h;exact⟨r,by rw[hr];exact h1,h2,h3⟩
def plC (B:Bs):C→Option C
  | .t x=>some (.t x)
  | .nil=>some .nil
  | .own k sz n=>match B.live k with|some (.row e s N f)=>if s=sz then some (.t (.sl e sz n f))else none|_=>none
  |_=>none
def lF (B:Bs):List C→Option (List C)
  | []=>some []
  |x::xs=>match plC B x,lF B xs with|some y,some ys=>some (y::ys)|_,_=>none
def plV (B:Bs):V→V
  | .c x=>match plC B x with|some y=> .c y|none=> .dead
  | .agg xs=>match lF B xs with|some ys=> .agg ys|none=> .dead
  |_=> .dead
section
variable {r:Rn} {B B' :Bs} (hk: ∀k e s n f,B.live k=some (.row e s n f)→k∉cZ r B')
include hk
theorem KS {x y:C} (h:plC B x=some y):WkC r B B' x y:=by
  unfold plC at h
  split at h
  ·injection h with h;subst h;exact TEq.refl _
  ·injection h with h;subst h;trivial
  · split at h
    · rename_i k sz n _ e s N f hl
      split at h
      ·rename_i hs;subst hs;injection h with h;subst h;exact⟨hk _ _ _ _ _ hl,rfl,rfl,N,f,hl,bg _ _⟩
      ·cases h
    ·cases h
  ·cases h
theorem Jc: ∀ {xs ys:List C},lF B xs=some ys→kY r B B' xs ys
  | [],ys,h=>by simp only[lF,Option.some.injEq]at h;subst h;trivial
  | x::xs,ys,h=>by
    simp only[lF]at h
    split at h
    ·rename_i y ys' h1 h2;injection h with h;subst h;exact⟨KS hk h1,Jc h2⟩
    ·cases h
theorem EL (v:V):WkV r B B' v (plV B v):=by
  cases v with
  | c x=>
    unfold plV;simp only
    cases h:plC B x with
    |none=>trivial
    |some y=>exact KS hk h
  | agg xs=>
    unfold plV;simp only
    cases h:lF B xs with
    |none=>trivial
    |some y=>exact Jc hk h
  |tup xs=>trivial
  |dead=>trivial
theorem Jd: ∀ts:List V,(∀v∈ts,iC v=true)→lD r B B' ts (ts.map (plV B))
  | [],_=>trivial
  | v ::vs,h=>⟨by
      have:=EL hk v
      have ho:=h v List.mem_cons_self
      cases v with
      |c x=>unfold plV at this⊢;simp only at this⊢;split at this<;>exact this
      |agg xs=>unfold plV at this⊢;simp only at this⊢;split at this<;>exact this
      |tup xs=>trivial
      |dead=>trivial,Jd vs fun x hx=>h x (List.mem_cons_of_mem _ hx)⟩
end
def plR (B:Bs):V→V
  | .tup xs=> .tup (xs.map (plV B))
  |x=>plV B x
theorem KT {r:Rn} {B B' :Bs} (hk: ∀k e s n f,B.live k=some (.row e s n f)→k∉cZ r B') {v:V} (ho:ik v):WkV r B B' v (plR B v):=by
  cases v with
  |tup xs=>exact Jd hk xs (by simpa[ik] using ho)
  |c x=>exact EL hk _
  |agg x=>exact EL hk _
  |dead=>exact EL hk _
theorem um {R:V→Bs→Prop} {v:V} {B:Bs} (ho:ik v) (h:R (plR B v) []):yl [] R v B:=
  ⟨_, [],rJ (r:= []) ⟨⟨KT (fun _ _ _ _ _ _=>by simp[cZ]) ho,trivial⟩,trivial,by simp[cZ],trivial⟩,h⟩
theorem aV {R:V→Bs→Prop} {v:V} {B:Bs} (v' :V) (hv:WkV [] B [] v v') (h:R v' []):yl [] R v B:=
  ⟨v', [],rJ (r:= []) ⟨⟨hv,trivial⟩,trivial,by simp[cZ],trivial⟩,h⟩
theorem KU {R:V→Bs→Prop} {v:V} {B:Bs} {t:Nat} {xs ys:List T} (v' :V) (hB:B.live 0=some (.box t (xs.map .t))) (hv:WkV [(0,0)] B [(0,some (.box t (xs.map .t)))] v v') (h:R v' [(0,some (.box t (xs.map .t)))]):
    yl [(0,some (.box t (ys.map .t)))] R v B:=by
  refine⟨v', [(0,some (.box t (xs.map .t)))],rJ (r:= [(0,0)]) ⟨⟨hv,trivial⟩,⟨⟨_,hB,rfl, ?_⟩,trivial⟩,by simp[cZ,Rn.at],⟨rfl,rfl,by rw[hB];rfl,trivial⟩⟩,h⟩
  have aux: ∀(b:Bs) (zs:List T),kY [(0,0)] B b (zs.map .t) (zs.map .t):=fun b zs=>by
    induction zs with
    |nil=>trivial
    |cons z zs ih=>exact⟨TEq.refl _,ih⟩
  exact aux _ xs
theorem L6 {R:V→Bs→Prop} {v:V} {B:Bs} {t:Nat} {xs ys:List T} (hB:B.live 0=some (.box t (xs.map .t))) (ho:ik v) (h:R (plR B v) [(0,some (.box t (xs.map .t)))]):yl [(0,some (.box t (ys.map .t)))] R v B:=by
  refine KU (plR B v) hB (KT (fun k e s n f hl=> ?_) ho) h
  simp only[cZ,Rn.at,List.find?,beq_self_eq_true,Option.map,List.mem_singleton]
  rintro rfl;rw[hB]at hl;cases hl
def tk:T→Nat
  | .s (.int ..)=>1
  | .s (.bool _)=>2
  | .s _=>3
  | .sl .. =>4
  | .mp .. =>5
def vk:Value→Nat
  | .int .. =>1
  | .bool _=>2
  | .slice .. =>4
  | .map _=>5
  |_=>3
theorem RepT.tk {w:World} {A:Nat→Prop} {v:Value} {x:T} (h:RepT w A v x):V.tk x=vk v:=by
  cases h with
  |s _ h=>cases v<;>simp_all [iX,V.tk,vk]
  |sl_=>rfl
  |mp=>rfl
inductive Hv (e:Nat) (Y:T→T→Prop):T→T→Prop
  |s (v:Value):Hv e Y (.s v) (.s v)
  |mp (es:Array MapEntry) (n:Nat):Hv e Y (.mp es n) (.mp es n)
  |sl (e' sz n:Nat) (f g:Nat→List T) (hl: ∀j,j<n→(f j).length=(g j).length)
      (h: ∀(j o:Nat) (x y:T),j<n→(f j)[o]? =some x→(g j)[o]? =some y→¬(e' =e∧Y x y)→Hv e Y x y):Hv e Y (.sl e' sz n f) (.sl e' sz n g)
structure Wr (w w' :World) (A:Nat→Prop) (e:Nat) (Y:T→T→Prop):Prop where
  ty:e∈ownTys
  blk: ∀b,A b→w'.heap[b]? =w.heap[b]? ∨∃cells cells',w.heap[b]? =some (.cells cells e (0,0))∧w'.heap[b]? =some (.cells cells' e (0,0))∧cells'.size=cells.size
  cell: ∀(p:Addr) (u:Value),A p.block→w.cell? p=some u→w'.cell? p=some u∨
    ((∃cells,w.heap[p.block]? =some (.cells cells e (0,0)))∧∃u',w'.cell? p=some u' ∧∀x,RepT w A u x→∃y,Y x y∧RepT w' A u' y)
theorem Hw {α:Type} {p:Nat→Nat→α→T→Prop}: ∀(l:List α) (i j:Nat),(∀o y,l[o]? =some y→∃z,p j (i+o) y z)→∃zs:List T,zs.length=l.length∧∀o y z,l[o]? =some y→zs[o]? =some z→p j (i+o) y z
  | [],_,_,_=>⟨[],rfl,by simp⟩
  | y::l,i,j,h=>by
    obtain⟨z,hz⟩:=h 0 y rfl
    obtain⟨zs,h1,h2⟩:=Hw l (i+1) j (fun o y hy=>by have:=h (o+1) y (by simpa using hy);rw[show i+1+o=i+(o+1) by omega];exact this)
    refine⟨z::zs,by simp[h1],fun o y' z' hy hz' => ?_⟩
    cases o with
    |zero=>simp at hy hz';subst hy;subst hz';simpa using hz
    |succ o=>have:=h2 o y' z' (by simpa using hy) (by simpa using hz');rw[show i+(o+1)=i+1+o by omega];exact this
theorem Gd {p:Nat→Nat→T→T→Prop} (f:Nat→List T) (n:Nat) (h: ∀j o y,j<n→(f j)[o]? =some y→∃z,p j o y z):
    ∃g:Nat→List T,(∀j,j<n→(f j).length=(g j).length)∧∀j o y z,j<n→(f j)[o]? =some y→(g j)[o]? =some z→p j o y z:=by
  have h1: ∀j,∃zs:List T,j<n→zs.length=(f j).length∧∀o y z,(f j)[o]? =some y→zs[o]? =some z→p j o y z:=fun j=>by
    by_cases hj:j<n
    · obtain⟨zs,q1,q2⟩:=Hw (p:=p) (f j) 0 j (fun o y hy=>by have:=h j o y hj hy;rwa [Nat.zero_add])
      exact⟨zs,fun _=>⟨q1,fun o y z hy hz=>by have:=q2 o y z hy hz;rwa [Nat.zero_add]at this⟩⟩
    ·exact⟨[],fun h=>absurd h hj⟩
  refine⟨fun j=>Classical.choose (h1 j),fun j hj=>((Classical.choose_spec (h1 j)) hj).1.symm,fun j o y z hj hy hz=>((Classical.choose_spec (h1 j)) hj).2 o y z hy hz⟩
theorem Ba {α β:Type} {l:List α} {m:List β} (h:l.length=m.length) {o:Nat} {y:β} (hy:m[o]? =some y): ∃x,l[o]? =some x:=by
  have : o < m.length := by rcases Nat.lt_or_ge o m.length with h|h;·exact h
                            ·simp[List.getElem?_eq_none h]at hy
  exact⟨l[o],List.getElem?_eq_getElem (by omega)⟩
theorem JK {w w' :World} {A:Nat→Prop} {e:Nat} {Y:T→T→Prop} (hw:Wr w w' A e Y) {v:Value} {x:T} (h:RepT w A v x): ∃x',Hv e Y x x' ∧RepT w' A v x' :=by
  induction h with
  |s v h=>exact⟨_, .s v, .s v h⟩
  | mp g es n h hA=>
    refine⟨_, .mp es n, .mp g es n ?_ hA⟩
    rcases hw.blk g hA with h1|⟨c,c',h1,_⟩
    ·exact h1.trans h
    ·rw[h]at h1;cases h1
  | sl_ ad n cp e' sz f vs h0 h1 hs hl hc hr hb ih=>
    obtain⟨g,q1,q2⟩:=Gd (p:=fun j o y z=> ∃b u,ad=some b∧w'.cell? (b.add (j * sz+o))=some u∧RepT w' A u z∧(Hv e Y y z∨(e' =e∧Y y z))) f n (fun j o y hj hy=>by
      obtain⟨b,e1,e2⟩:=hc j o y hj hy
      obtain⟨hA,cells,fr,e3,_⟩:=hb b e1 (.inl (by omega))
      rcases hw.cell _ _ (by rw[wR];exact hA) e2 with e4|⟨⟨c4,e4⟩,u',e5,e6⟩
      · obtain⟨z,z1,z2⟩:=ih j o y hj hy
        exact⟨z,b,_,e1,e4,z2, .inl z1⟩
      · obtain⟨z,z1,z2⟩:=e6 y (hr j o y hj hy)
        rw[wR]at e4
        obtain⟨e9,e8,e7⟩:=e3
        rw[e8]at e4
        injection e4 with e4
        injection e4 with _ e4 _
        refine⟨z,b,u',e1,e5,z2, .inr ⟨?_,z1⟩⟩
        rcases e7 with e7|e7
        ·exact e7.symm.trans e4
        ·exact absurd (e4▸hw.ty) e7.2)
    have key: ∀j o z,j<n→(g j)[o]? =some z→∃y,(f j)[o]? =some y:=fun j o z hj hz=>Ba (q1 j hj) hz
    refine⟨.sl e' sz n g, .sl _ _ _ _ _ q1 (fun j o x y hj hx hy hn=> ?_), .sl ad n cp e' sz g h0 h1 hs (fun j hj=>by rw[←q1 j hj];exact hl j hj) (fun j o z hj hz=> ?_) (fun b hb' hn=> ?_)⟩
    · obtain⟨_,_,_,_,_,q3⟩:=q2 j o x y hj hx hy
      exact q3.resolve_right hn
    · obtain⟨y,hy⟩:=key j o z hj hz
      obtain⟨b,u,e1,e2,e3,_⟩:=q2 j o y z hj hy hz
      exact⟨b,u,e1,e2,e3⟩
    · obtain⟨hA,cells,fr,e3,e4⟩:=hb b hb' hn
      rcases hw.blk _ hA with h9|⟨c1,c2,h9,h10,a⟩
      ·exact⟨hA,cells,fr,e3.move h9,e4⟩
      · obtain⟨e9,e8,e7⟩:=e3
        rw[e8]at h9
        injection h9 with h9
        injection h9 with d h11 h12
        subst h11;subst d
        exact⟨hA,c2,(0,0),⟨_,h10,e7⟩,e4.imp id fun⟨_,h0,h⟩=>⟨rfl,h0,by rw[a];exact h⟩⟩
def HvC (e:Nat) (Y:T→T→Prop):C→C→Prop
  | .t x, .t y=>Hv e Y x y
  | .tp _ _, .dead=>True
  | .nil, .nil=>True
  | .own k s n, .own k' s' n' =>k=k' ∧s=s' ∧n=n'
  | .ptr k i o, .ptr k' i' o' =>k=k' ∧i=i' ∧o=o'
  | .dead, .dead=>True
  |_,_=>False
def AX (e:Nat) (Y:T→T→Prop):List C→List C→Prop
  | [], []=>True
  |x::xs,y::ys=>HvC e Y x y∧AX e Y xs ys
  |_,_=>False
def HvA (e:Nat) (Y:T→T→Prop):V→V→Prop
  | .c x, .c y=>HvC e Y x y
  | .agg xs, .agg ys=>AX e Y xs ys
  | .dead, .dead=>True
  |_,_=>False
def L8 (e:Nat) (Y:T→T→Prop):List V→List V→Prop
  | [], []=>True
  |x::xs,y::ys=>HvA e Y x y∧L8 e Y xs ys
  |_,_=>False
def HvV (e:Nat) (Y:T→T→Prop):V→V→Prop
  | .tup xs, .tup ys=>L8 e Y xs ys
  | .tup _, .dead=>True
  |x,y=>HvA e Y x y
def y9 (e:Nat) (Y:T→T→Prop):List V→List V→Prop
  | [], []=>True
  |x::xs,y::ys=>HvV e Y x y∧y9 e Y xs ys
  |_,_=>False
def HvB (e:Nat) (Y:T→T→Prop):Blk→Blk→Prop
  | .row e1 s n f, .row e2 s' n' g=>e1=e2∧s=s' ∧n=n' ∧(∀j,j<n→(f j).length=(g j).length)∧∀(j o:Nat) (x y:T),j<n→(f j)[o]? =some x→(g j)[o]? =some y→Hv e Y x y
  | .box t cs, .box t' cs' =>t=t' ∧AX e Y cs cs'
  |_,_=>False
def HvO (e:Nat) (Y:T→T→Prop):Option Blk→Option Blk→Prop
  |none,none=>True
  |some b,some b' =>HvB e Y b b'
  |_,_=>False
def ze (e:Nat) (Y:T→T→Prop):Bs→Bs→Prop
  | [], []=>True
  |(k,x)::l,(k',y)::l' =>k=k' ∧HvO e Y x y∧ze e Y l l'
  |_,_=>False
section
variable {e:Nat} {Y:T→T→Prop}
theorem FJ: ∀(xs:List C) (R:Nat→C→Prop),(∀(i:Nat) x,xs[i]? =some x→∃y,HvC e Y x y∧R i y)→∃ys,AX e Y xs ys∧ys.length=xs.length∧∀(i:Nat) y,ys[i]? =some y→R i y
  | [],_,_=>⟨[],trivial,rfl,by simp⟩
  | x::xs,R,h=>by
    obtain⟨y,h1,h2⟩:=h 0 x rfl
    obtain⟨ys,h3,h4,h5⟩:=FJ xs (fun i=>R (i+1)) (fun i x hx=>h (i+1) x (by simpa using hx))
    refine⟨y::ys,⟨h1,h3⟩,by simp[h4],fun i y' hy=> ?_⟩
    cases i with
    |zero=>simp at hy;subst hy;exact h2
    |succ i=>exact h5 i y' (by simpa using hy)
theorem Je: ∀(xs:List V) (R:Nat→V→Prop),(∀(i:Nat) x,xs[i]? =some x→∃y,HvA e Y x y∧R i y)→∃ys,L8 e Y xs ys∧ys.length=xs.length∧∀(i:Nat) y,ys[i]? =some y→R i y
  | [],_,_=>⟨[],trivial,rfl,by simp⟩
  | x::xs,R,h=>by
    obtain⟨y,h1,h2⟩:=h 0 x rfl
    obtain⟨ys,h3,h4,h5⟩:=Je xs (fun i=>R (i+1)) (fun i x hx=>h (i+1) x (by simpa using hx))
    refine⟨y::ys,⟨h1,h3⟩,by simp[h4],fun i y' hy=> ?_⟩
    cases i with
    |zero=>simp at hy;subst hy;exact h2
    |succ i=>exact h5 i y' (by simpa using hy)
theorem Jf: ∀(xs:List V) (R:Nat→V→Prop),(∀(i:Nat) x,xs[i]? =some x→∃y,HvV e Y x y∧R i y)→∃ys,y9 e Y xs ys∧ys.length=xs.length∧∀(i:Nat) y,ys[i]? =some y→R i y
  | [],_,_=>⟨[],trivial,rfl,by simp⟩
  | x::xs,R,h=>by
    obtain⟨y,h1,h2⟩:=h 0 x rfl
    obtain⟨ys,h3,h4,h5⟩:=Jf xs (fun i=>R (i+1)) (fun i x hx=>h (i+1) x (by simpa using hx))
    refine⟨y::ys,⟨h1,h3⟩,by simp[h4],fun i y' hy=> ?_⟩
    cases i with
    |zero=>simp at hy;subst hy;exact h2
    |succ i=>exact h5 i y' (by simpa using hy)
theorem FL: ∀(B:Bs) (R:Nat→Blk→Prop),(∀k b,(k,some b)∈B→∃b',HvB e Y b b' ∧R k b')→∃B',ze e Y B B' ∧∀k b',(k,some b')∈B' →R k b'
  | [],_,_=>⟨[],trivial,by simp⟩
  | (k,none)::l,R,h=>by
    obtain⟨B',h1,h2⟩:=FL l R (fun k b hb=>h k b (List.mem_cons_of_mem _ hb))
    exact⟨(k,none)::B',⟨rfl,trivial,h1⟩,fun k' b' hb=>by simp at hb;exact h2 k' b' hb⟩
  | (k,some b)::l,R,h=>by
    obtain⟨b',h3,h4⟩:=h k b List.mem_cons_self
    obtain⟨B',h1,h2⟩:=FL l R (fun k b hb=>h k b (List.mem_cons_of_mem _ hb))
    refine⟨(k,some b')::B',⟨rfl,h3,h1⟩,fun k' b2 hb=> ?_⟩
    rcases List.mem_cons.1 hb with h|h
    ·injection h with h5 h6;injection h6 with h6;subst h5;subst h6;exact h4
    ·exact h2 k' b2 h
theorem zK: ∀ {B B' :Bs},ze e Y B B' →∀k,(B'.get k=none↔B.get k=none)∧(B'.get k=some none↔B.get k=some none)∧(∀b',B'.get k=some (some b')→∃b,B.get k=some (some b)∧HvB e Y b b')∧(∀b,B.get k=some (some b)→∃b',B'.get k=some (some b')∧HvB e Y b b')
  | [], [],_,k=>by simp[Bs.get]
  | (k1,x)::l,(k2,y)::l',h,k=>by
    obtain⟨rfl,h2,h3⟩:=h
    simp only[Bs.get]
    by_cases hk:k1=k
    · rw[if_pos hk,if_pos hk]
      cases x<;>cases y<;>simp_all [HvO]
    ·rw[if_neg hk,if_neg hk];exact zK h3 k
  | [],_::_,h,_=>h.elim
  |_::_, [],h,_=>h.elim
theorem HvB.shape {b b' :Blk} (h:HvB e Y b b'):sameShape b b' :=by
  cases b<;>cases b' <;>simp only[HvB]at h
  ·exact⟨h.1,h.2.1,h.2.2.1⟩
  ·exact h.1
end
section
variable {e:Nat} {Y:T→T→Prop}
theorem Hv.refl (x:T):Hv e Y x x:=by
  refine T.rec (motive_1:=fun x=>Hv e Y x x) (motive_2:=fun l=> ∀x∈l,Hv e Y x x) ?_ ?_ ?_ ?_ ?_ x
  ·exact fun v=> .s v
  ·exact fun e' sz n f ih=> .sl _ _ _ _ _ (fun _ _=>rfl) fun j o x y hj hx hy _=>by
      rw[hx]at hy;injection hy with hy;subst hy;exact ih j x (List.mem_of_getElem? hx)
  ·exact fun es n=> .mp es n
  ·exact fun x hx=>by simp at hx
  ·exact fun a l h1 h2 x hx=>by
      rcases List.mem_cons.1 hx with rfl|hx
      ·exact h1
      ·exact h2 x hx
theorem EM {E:Env} {w' :World} (hw:Wr E.w w' E.A e Y) {v:Value} {x:C} (h:fO E v x): ∃y,HvC e Y x y∧fO ⟨w',E.A,E.ρ,E.B⟩ v y:=by
  cases x with
  |t x=>obtain⟨y,h1,h2⟩:=JK hw (show RepT E.w E.A v x from h);exact⟨.t y,h1,h2⟩
  |nil=>exact⟨.nil,trivial,h⟩
  |own k sz n=>exact⟨.own k sz n,⟨rfl,rfl,rfl⟩,h⟩
  |ptr k i o=>exact⟨.ptr k i o,⟨rfl,rfl,rfl⟩,h⟩
  |tp e' row=>exact⟨.dead,trivial,fO.one h⟩
  |dead=>exact⟨.dead,trivial,h⟩
theorem KV {E : Env} {w' : World} (hw:Wr E.w w' E.A e Y) {v:Value} {x:V} (h:vL E v x): ∃y,HvA e Y x y∧vL ⟨w',E.A,E.ρ,E.B⟩ v y:=by
  cases x with
  |c x=>obtain⟨y,h1,h2⟩:=EM hw (show fO E v x from h);exact⟨.c y,h1,h2⟩
  | agg xs=>
    obtain⟨vs,rfl,h1,h2⟩:=h
    obtain ⟨ys, q1, q2, q3⟩ := FJ (e:=e) (Y:=Y) xs (fun i y=> ∀u,vs[i]? =some u→fO ⟨w',E.A,E.ρ,E.B⟩ u y) (fun i x hx=>by
      have hi : i < vs.size := by rw[h1];rcases Nat.lt_or_ge i xs.length with h|h;·exact h
                                  ·simp[List.getElem?_eq_none h]at hx
      obtain⟨y,z1,z2⟩:=EM hw (h2 i vs[i] x (by simp) hx)
      exact⟨y,z1,fun u hu=>by rw[Array.getElem?_eq_getElem hi]at hu;injection hu with hu;subst hu;exact z2⟩)
    exact⟨.agg ys,q1,vs,rfl,by omega,fun i u y hu hy=>q3 i y hy u hu⟩
  |tup _=>exact h.elim
  |dead=>exact⟨.dead,trivial,trivial⟩
theorem NL {E : Env} {w' : World} (hw:Wr E.w w' E.A e Y) {v:Value} {x:V} (h:mg E v x): ∃y,HvV e Y x y∧mg ⟨w',E.A,E.ρ,E.B⟩ v y:=by
  cases x with
  | tup xs=>
    obtain⟨vs,rfl,h1,h2⟩:=h
    obtain ⟨ys, q1, q2, q3⟩ := Je (e:=e) (Y:=Y) xs (fun i y=> ∀u,vs[i]? =some u→vL ⟨w',E.A,E.ρ,E.B⟩ u y) (fun i x hx=>by
      have hi : i < vs.size := by rw[h1];rcases Nat.lt_or_ge i xs.length with h|h;·exact h
                                  ·simp[List.getElem?_eq_none h]at hx
      obtain⟨y,z1,z2⟩:=KV hw (h2 i vs[i] x (by simp) hx)
      exact⟨y,z1,fun u hu=>by rw[Array.getElem?_eq_getElem hi]at hu;injection hu with hu;subst hu;exact z2⟩)
    exact⟨.tup ys,q1,vs,rfl,by omega,fun i u y hu hy=>q3 i y hy u hu⟩
  |c x=>obtain⟨y,h1,h2⟩:=EM hw (show fO E v x from h);exact⟨.c y,h1,h2⟩
  | agg xs=>
    obtain⟨y,h1,h2⟩:=KV hw (show vL E v (.agg xs) from h)
    cases y<;>simp only[HvA]at h1
    rename_i ys
    exact⟨.agg ys,h1,h2⟩
  |dead=>exact⟨.dead,trivial,trivial⟩
theorem NM {E : Env} {w' : World} (hw:Wr E.w w' E.A e Y) {k:Nat} {b:Blk} (hown: ∀g,fM (E.ρ k)=some g→w'.heap[g]? =E.w.heap[g]?) (h:At E k b): ∃b',HvB e Y b b' ∧At ⟨w',E.A,E.ρ,E.B⟩ k b' :=by
  cases b with
  | row e1 sz n f=>
    obtain⟨inner,h1,h2,h3⟩:=h
    obtain⟨g,q1,q2⟩:=Gd (p:=fun j o y z=>Hv e Y y z∧∃x,inner[j * sz+o]? =some x∧RepT w' E.A x z) f n (fun j o y hj hy=>by
      obtain⟨x,h4,h5⟩:=h3 j o y hj hy
      obtain⟨z,z1,z2⟩:=JK hw h5
      exact⟨z,z1,x,h4,z2⟩)
    refine⟨.row e1 sz n g,⟨rfl,rfl,rfl,q1,fun j o x y hj hx hy=>(q2 j o x y hj hx hy).1⟩,inner,DZ h1 hown,fun j hj=>(q1 j hj).symm.trans (h2 j hj),fun j o z hj hz=> ?_⟩
    obtain⟨y,hy⟩:=Ba (q1 j hj) hz
    exact(q2 j o y z hj hy hz).2
  | box t cs=>
    obtain⟨g,cur,h1,h2,h3,h4⟩:=h
    obtain ⟨ys, q1, q2, q3⟩ := FJ (e:=e) (Y:=Y) cs (fun i y=> ∀u,cur[i]? =some u→fO ⟨w',E.A,E.ρ,E.B⟩ u y) (fun i x hx=>by
      have hi : i < cur.size := by rw[h3];rcases Nat.lt_or_ge i cs.length with h|h;·exact h
                                   ·simp[List.getElem?_eq_none h]at hx
      obtain⟨y,z1,z2⟩:=EM hw (h4 i cur[i] x (by simp) hx)
      exact⟨y,z1,fun u hu=>by rw[Array.getElem?_eq_getElem hi]at hu;injection hu with hu;subst hu;exact z2⟩)
    exact⟨.box t ys,⟨rfl,q1⟩,g,cur,h1,(hown g (by rw[h1];rfl)).trans h2,by omega,fun i u y hu hy=>q3 i y hy u hu⟩
theorem CE: ∀ {B:Bs},(B.map (·.1)).Nodup→∀ {k:Nat} {y:Option Blk},(k,y)∈B→B.get k=some y
  | (k',y')::l,hn,k,y,h=>by
    simp only[List.map_cons,List.nodup_cons]at hn
    simp only[Bs.get]
    rcases List.mem_cons.1 h with h|h
    ·injection h with h1 h2;subst h1;subst h2;rw[if_pos rfl]
    · rw[if_neg,CE hn.2 h]
      rintro rfl
      exact hn.1 (List.mem_map.2 ⟨_,h,rfl⟩)
  | [],_,_,_,h=>by simp at h
theorem Hy {c:Ctx} {ts:List V} {B:Bs} {a:Act} {w w' :World} {ρ:Nat→Value} (hr:RelAt c ts B a w ρ) (hn:(B.map (·.1)).Nodup) (hw:Wr w w' (free c w ρ B) e Y)
    (hos:w'.os=w.os∧w'.tape=w.tape∧w'.output=w.output) (hsz:w.heap.size≤w'.heap.size) (hown: ∀k x g,B.live k=some x→fM (ρ k)=some g→w'.heap[g]? =w.heap[g]?)
    (hkeep: ∀b,b<c.w0.heap.size→¬c.may b→w'.heap[b]? =w.heap[b]?):
    ∃ts' B',y9 e Y ts ts' ∧ze e Y B B' ∧RelAt c ts' B' a w' ρ∧(∀b,free c w ρ B b→free c w' ρ B' b):=by
  have hm:=hr.mem
  let E1:Env:=⟨w',free c w ρ B,ρ,B⟩
  obtain⟨B',q1,q2⟩:=FL (e:=e) (Y:=Y) B (fun k b' =>At E1 k b') (fun k b hb=>by
    have hl:B.live k=some b:=by unfold Bs.live;rw[CE hn hb];rfl
    exact NM (E:=env c w ρ B) hw (fun g hg=>hown k b g hl hg) (hm.at_ k b hl))
  have lv: ∀ {k b'},B'.live k=some b' →∃b,B.live k=some b∧HvB e Y b b' :=fun{k b'} h=>by
    obtain⟨b,h1,h2⟩:=(zK q1 k).2.2.1 b' (Bs.live_get h)
    exact⟨b,by unfold Bs.live;rw[h1];rfl,h2⟩
  have hA: ∀b,free c w ρ B b→free c w' ρ B' b:=fun b hb=>⟨hb.1,Nat.lt_of_lt_of_le hb.2.1 hsz,fun k x hl=>by
    obtain⟨b0,h1,_⟩:=lv hl
    exact hb.2.2 k b0 h1⟩
  have le:Le E1 (env c w' ρ B'):=by
    refine⟨hA,fun _ _=>rfl,fun k hk=> ?_,fun k e' s N f' hk hl=> ?_,fun k t cs hk hl=> ?_⟩
    · show(B'.get k).isSome=true
      have hk:(B.get k).isSome=true:=hk
      cases h:B'.get k with
      |none=>rw[(zK q1 k).1]at h;rw[h]at hk;cases hk
      |some _=>rfl
    · obtain⟨b,h1,h2⟩:=lv (show B'.live k=_ from hl)
      cases b<;>simp only[HvB]at h2
      obtain⟨rfl,rfl,rfl,_⟩:=h2
      exact⟨⟨_,h1⟩,rfl⟩
    · obtain⟨b,h1,h2⟩:=lv (show B'.live k=_ from hl)
      cases b<;>simp only[HvB]at h2
      obtain⟨rfl,_⟩:=h2
      exact⟨⟨_,h1⟩,rfl⟩
  obtain⟨ts',q3,q4,q5⟩:=Jf (e:=e) (Y:=Y) ts (fun i y=>mg E1 (a.tmps.getD i undef) y) (fun i x hx=>NL (E:=env c w ρ B) hw (hr.rep i x hx))
  refine⟨ts',B',q3,q1,⟨hr.df,hr.sz.trans q4.symm,⟨?_,fun k x hl=> ?_,fun k x g hl hg=> ?_,fun k k' x x' g hl hl' hg hg' => ?_,fun k x hl=> ?_,fun k x b' hl hl' => ?_,hm.wld⟩,fun i y hy=>(q5 i y hy).le le⟩,hA⟩
  · have hk:=hm.keeps
    exact⟨hos.1.trans hk.os,hos.2.1.trans hk.tape,hos.2.2.trans hk.output,Nat.le_trans hk.size hsz,fun b hb hp=>(hkeep b hb hp).trans (hk.block b hb hp)⟩
  ·exact(q2 k x (uE (Bs.live_get hl))).le le rfl (fun _ _=>rfl)
  ·obtain⟨b,h1,_⟩:=lv hl;exact hm.own k b g h1 hg
  · obtain⟨b,h1,_⟩:=lv hl
    obtain⟨b',h1',_⟩:=lv hl'
    exact hm.inj k k' b b' g h1 h1' hg hg'
  · have:=hm.kin k x hl
    cases h:B'.get k with
    |none=>rw[(zK q1 k).1]at h;rw[h]at this;cases this
    |some _=>rfl
  · obtain⟨b,h1,h2⟩:=lv hl'
    obtain⟨h3,h4⟩:=hm.fix k x b hl h1
    exact⟨h3.trans h2.shape,h4⟩
end
theorem RepT.other {w w' :World} {A A' :Nat→Prop} {e:Nat} (hA: ∀b,A b→A' b) (hw: ∀b,A b→w'.heap[b]? =w.heap[b]? ∨∃cells fr,w.heap[b]? =some (.cells cells e fr)) {v:Value} {x:T}
    (h:RepT w A v x) (hx:NoTy e x):RepT w' A' v x:=by
  induction h with
  |s v h=>exact .s v h
  | sl_ ad n c e' sz f g h0 h1 hs hl hc hr hb ih=>
    cases hx with
    | sl _ _ _ _ hne hcc=>
      have same: ∀b,ad=some b→xc e' n c→w'.heap[b.block]? =w.heap[b.block]? :=fun b hb' hu=>by
        obtain⟨h1,cells,fr,h2,_⟩:=hb b hb' hu
        refine(hw _ h1).resolve_right ?_
        rintro⟨c',f',h3⟩
        exact h2.ne hne h3
      refine .sl_ ad n c e' sz f g h0 h1 hs hl (fun j o y hj hy=> ?_) (fun j o y hj hy=>ih j o y hj hy (hcc j o y hj hy)) (fun b hb' hu=> ?_)
      · obtain⟨b,e1,e2⟩:=hc j o y hj hy
        exact⟨b,e1,by rw[World.cell?_of_block (w:=w) (by rw[wR];exact same b e1 (.inl (by omega)))];exact e2⟩
      · obtain⟨h1,cells,fr,h2,h9⟩:=hb b hb' hu
        exact⟨hA _ h1,cells,fr,h2.move (same b hb' hu),h9⟩
  | mp g es n h hg=>
    refine .mp g es n (((hw g hg).resolve_right ?_).trans h) (hA g hg)
    rintro⟨c',f',h3⟩
    rw[h]at h3
    injection h3 with h3
    cases h3
theorem IR {w:World} {g e:Nat} {cur cur' :Array Value} {fr:Nat×Nat} (hg:w.heap[g]? =some (.cells cur e fr)) {p:Addr} (hp:p.block=g) (hs:p.spot=none):(w.setRow g cur').cell? p=cur'[p.off]? :=by
  unfold World.cell?
  rw[hp,setRow_heap w g cur cur' e fr hg]
  simp[hs]
theorem C8 {w:World} {g e:Nat} {cur:Array Value} {fr:Nat×Nat} (hg:w.heap[g]? =some (.cells cur e fr)) {p:Addr} (hp:p.block=g) {u:Value} (h:w.cell? p=some u):p.spot=none∧cur[p.off]? =some u:=by
  unfold World.cell? at h
  rw[hp,hg]at h
  simp only at h
  split at h
  ·cases h
  ·rename_i hs;exact⟨by simpa using hs,h⟩
section
variable {P:Program} {ins:Bs} {o:Oper} {K:List V→Bs→Prop} {ts:List V} {B:Bs}
def Yst (ys:List T) (x y:T):Prop:=y∈ys∧tk x=tk y
theorem Aq {t e:Nat} {ad v:Operand} {row ys:List T} (hop:o.op= .store t ad v) (hd:o.dst=none) (ha:evl ts ad= .c (.tp e row)) (hv:d9 (evl ts v)=some (ys.map .t)) (hl:ys.length=P.cellsOf t) (hi:(P.info? t).isSome=true)
    (hp:0<ys.length) (hrow:ys.length≤row.length) (hk: ∀(i:Nat) x y,row[i]? =some x→ys[i]? =some y→tk x=tk y) (heo:e∈ownTys) (hno: ∀y∈ys,NoTy e y) (hw:(ins.get (sG e)).isSome=true) (hn:ndB (B.map (·.1))=true)
    (hK: ∀ts' B',y9 e (Yst ys) ts ts' →ze e (Yst ys) B B' →K ts' B'):zI P ins o K ts B:=by
  intro c a w ρ hc hr N Q hN
  have hm:=hr.mem
  have hpv:fO (env c w ρ B) (a.eval ad) (.tp e row):=by have:=lZ hr.rep ad;rw[ha]at this;exact this
  obtain⟨adr,e1,⟨hA,cells,fr,hcl,hfr⟩,hcells⟩:=hpv
  have he:=Cg heo
  have hcl:=hcl.eq he
  have hfr:fr=(0,0):=hfr.resolve_left he
  subst hfr
  have hrv:=wo (lZ hr.rep v) hv
  have hvl:(a.eval v).cells.toList.length=ys.length:=by have:=hrv.1;simpa using this
  have hcell: ∀i,i<ys.length→∃x y u,row[i]? =some x∧ys[i]? =some y∧adr.block=adr.block∧w.cell? (adr.add i)=some u∧RepT w (free c w ρ B) u x:=fun i hi=>by
    have h1:i<row.length:=by omega
    obtain⟨u,h2,h3⟩:=hcells i row[i] (List.getElem?_eq_getElem h1)
    exact⟨row[i],ys[i],u,List.getElem?_eq_getElem h1,List.getElem?_eq_getElem hi,rfl,h2,h3⟩
  have hat: ∀i u,w.cell? (adr.add i)=some u→cells[adr.off+i]? =some u:=fun i u h=>by
    have:=(C8 hcl (wR adr i) h).2
    rwa [I1]at this
  have hspot:adr.spot=none:=by
    obtain⟨x,y,u,_,_,_,h,_⟩:=hcell 0 hp
    have:=(C8 hcl (wR adr 0) h).1
    simpa[Addr.add] using this
  have hsz:adr.off+ys.length≤cells.size:=by
    obtain⟨x,y,u,_,_,_,h,_⟩:=hcell (ys.length - 1) (by omega)
    have:=(Array.getElem?_eq_some_iff.1 (hat _ _ h)).1
    omega
  have hadr:adr=⟨adr.block,adr.off,none⟩:=by cases adr;simp_all
  have hrun:=AP (P:=P) (w:=w) (off:=adr.off) (E:=env c w ρ B) hrv hi (by simpa using hl) hcl (by simpa using hsz)
  rw[←hadr]at hrun
  let w' :=w.setRow adr.block (splice cells.toList adr.off (a.eval v).cells.toList).toArray
  have hw'h:w'.heap[adr.block]? =some (.cells (splice cells.toList adr.off (a.eval v).cells.toList).toArray e (0,0)):=setRow_heap w _ _ _ e (0,0) hcl
  have hwo: ∀q,q≠adr.block→w'.heap[q]? =w.heap[q]? :=fun q hq=>setRow_other w _ q _ hq
  have hsl:(splice cells.toList adr.off (a.eval v).cells.toList).length=cells.size:=by rw[wD _ _ _ (by rw[hvl];simpa using hsz)];simp
  have wr : Wr w w' (free c w ρ B) e (Yst ys):=by
    refine⟨heo,fun b hb=> ?_,fun p u hpA hu=> ?_⟩
    · by_cases hbb:b=adr.block
      ·subst hbb;exact .inr ⟨_,_,hcl,hw'h,by simpa using hsl⟩
      ·exact .inl (hwo b hbb)
    · by_cases hpb:p.block=adr.block
      · obtain⟨h1,h2⟩:=C8 hcl hpb hu
        have h3:w'.cell? p=_:=IR hcl hpb h1
        rw[List.getElem?_toArray,yf _ _ _ _ (by rw[hvl];simpa using hsz)]at h3
        split at h3
        · rename_i hin
          rw[hvl]at hin
          refine .inr ⟨⟨cells,by rw[hpb];exact hcl⟩, ?_⟩
          obtain⟨x,y,u0,h4,h5,_,h6,h7⟩:=hcell (p.off - adr.off) (by omega)
          have h8:=hat _ _ h6
          rw[show adr.off+(p.off - adr.off)=p.off by omega,h2]at h8
          injection h8 with h8
          subst h8
          obtain⟨u',hu'⟩: ∃u',(a.eval v).cells.toList[p.off - adr.off]? =some u' :=⟨_,List.getElem?_eq_getElem (by omega)⟩
          have h9:RepT w (free c w ρ B) u' y:=hrv.2 (p.off - adr.off) u' (.t y) hu' (by rw[List.getElem?_map,h5];rfl)
          refine⟨u',h3.trans hu',fun x' hx' =>⟨y,⟨List.mem_of_getElem? h5, ?_⟩,h9.other (fun _ h=>h) (fun b hb=> ?_) (hno y (List.mem_of_getElem? h5))⟩⟩
          ·rw[hx'.tk,←h7.tk];exact hk _ x y h4 h5
          · by_cases hbb:b=adr.block
            ·subst hbb;exact .inr ⟨_,_,hcl⟩
            ·exact .inl (hwo b hbb)
        ·exact .inl (h3.trans (by simpa using h2))
      ·exact .inl (by rw[World.cell?_of_block (w:=w) (hwo _ hpb)];exact hu)
  obtain ⟨ts',B',q1,q2,q3,_⟩:=Hy hr (xh hn) wr ⟨rfl,rfl,rfl⟩ (by show w.heap.size≤(w.setRow _ _).heap.size;simp) (fun k x g hl hg=>hwo g (fun hh=>by subst hh;exact hA.2.2 k x hl hg))
    (fun b hb hmay=>by
      by_cases hbb:b=adr.block
      · subst hbb
        exfalso
        rcases hA.1 with hG|hG
        · refine hmay (.inr (hm.wld e (by rw[hc];exact hw) _ cells (0,0) hG ?_))
          rw[←hm.keeps.block _ hb hmay];exact hcl
        ·omega
      ·exact hwo b hbb)
  have hex:(execOp a.eval o).run P w= .ok .skip w' :=by
    simp only[execOp,hop,e1]
    exact D6 hrun
  unfold Oper.wp
  rw[hex]
  show N (a.put o.dst undef) w'
  rw[hd]
  exact hN ts' B' a w' ρ (hK ts' B' q1 q2) q3
theorem Bb (b:Nat): ∀(vs:List Value) (o:Nat) (w:World) (cur:Array Value) (e:Nat) (fr:Nat×Nat),w.heap[b]? =some (.cells cur e fr)→
    (∃cur',(w.setCells b o vs).heap[b]? =some (.cells cur' e fr)∧cur'.size=cur.size)∧(w.setCells b o vs).heap.size=w.heap.size∧((w.setCells b o vs).os=w.os∧(w.setCells b o vs).tape=w.tape∧(w.setCells b o vs).output=w.output)∧∀q,q≠b→(w.setCells b o vs).heap[q]? =w.heap[q]?
  | [],_,w,cur,e,fr,h=>⟨⟨cur,h,rfl⟩,rfl,⟨rfl,rfl,rfl⟩,fun _ _=>rfl⟩
  | v::r,o,w,cur,e,fr,h=>by
    rw[World.setCells,setCell_eq_setRow w b o cur e fr v h]
    obtain⟨⟨cur',h1,h2⟩,h3,h4,h5⟩:=Bb b r (o+1) (w.setRow b (cur.setIfInBounds o v)) (cur.setIfInBounds o v) e fr (setRow_heap w b cur _ e fr h)
    exact⟨⟨cur',h1,by simpa using h2⟩,by simpa using h3,h4,fun q hq=>(h5 q hq).trans (setRow_other w b q _ hq)⟩
def Yap (m:Nat) (fx:Nat→List T) (x y:T):Prop:= ∃j,j<m∧y∈fx j
theorem any_append {cl : Call} {t e sz n m:Nat} {s x:Operand} {f fx:Nat→List T} (hop:o.op= .call cl) (hcal:cl.callee= .builtin .append) (hargs:cl.args= #[s,x]) (hty:cl.argTypes= #[t,t]) (hel:uU P t=some e)
    (hz:zeroOf P e≠ []∧0<P.cellsOf e) (hzl:(zeroOf P e).length=P.cellsOf e) (hsz:P.cellsOf e=sz) (hs:evl ts s= .c (.t (.sl e sz n f))) (hx:rowsOf P e sz B.live (evl ts x)=some (m,fx)) (hm0:0<m)
    (heo:e∈ownTys) (hno: ∀j,j<m→∀y∈fx j,NoTy e y) (hp:n+m≤maxLen∧(n+m) * P.bytesOf e≤140737488355328) (hw:(ins.get (sG e)).isSome=true) (hn:ndB (B.map (·.1))=true)
    (hK: ∀ts' B' g,y9 e (Yap m fx) ts ts' →ze e (Yap m fx) B B' →(∀j,j<n→(f j).length=(g j).length)→(∀(j o:Nat) (x y:T),j<n→(f j)[o]? =some x→(g j)[o]? =some y→Hv e (Yap m fx) x y∨Yap m fx x y)→K (dI ts' o.dst (.c (.t (.sl e sz (n+m) (uk n g fx))))) B'):zI P ins o K ts B:=by
  subst hsz
  intro c a w ρ hc hr N Q hN
  have hm:=hr.mem
  obtain⟨i,z,hi,hzz,hrz⟩:=wC (E:=env c w ρ B) hz.1
  obtain⟨hu,_⟩:=xe hel
  have hzs:z.cells.size=P.cellsOf e:=by have:=hrz.1;rw[hzl]at this;simpa using this
  have hisz:i.size=P.cellsOf e:=by simp[Program.cellsOf,hi]
  have hiby:i.bytes=P.bytesOf e:=by simp[Program.bytesOf,hi]
  obtain⟨G,cp2,news,e2,hl,hcn,hrows,hss⟩:=zD hm (lZ hr.rep x) hx
  obtain⟨a2,rfl⟩:=Option.isSome_iff_exists.1 (hss hm0)
  have hcn: ∀(j:Nat) (u:Value),news[j]? =some u→w.cell? (a2.add j)=some u:=fun j u hj=>by obtain⟨b',h1,h2⟩:=hcn j u hj;injection h1 with h1;subst h1;exact h2
  have hone: ∀u∈news,u.oneCell' =true:=hrows.one hl
  have hsv:RepT w (free c w ρ B) (a.eval s) (.sl e (P.cellsOf e) n f):=by have:=lZ hr.rep s;rw[hs]at this;exact this
  have hnew: ∀q u,news[q]? =some u→∃y,Yap m fx y y∧RepT w (free c w ρ B) u y:=fun q u hq=>by
    have hqs:q<m * P.cellsOf e:=by rw[←hl];exact(List.getElem?_eq_some_iff.1 hq).1
    have hj:q / P.cellsOf e<m:=(Nat.div_lt_iff_lt_mul hz.2).2 hqs
    have ho:q % P.cellsOf e<P.cellsOf e:=Nat.mod_lt _ hz.2
    have hlen:=hrows.1 (q / P.cellsOf e) hj
    have hy:(fx (q / P.cellsOf e))[q % P.cellsOf e]? =some (fx (q / P.cellsOf e))[q % P.cellsOf e]:=List.getElem?_eq_getElem (by omega)
    obtain⟨u',h1,h2⟩:=hrows.2 _ _ _ hj hy
    rw[show q / P.cellsOf e * P.cellsOf e+q % P.cellsOf e=q by rw[Nat.mul_comm];exact Nat.div_add_mod _ _,hq]at h1
    injection h1 with h1
    subst h1
    exact⟨_,⟨_,hj,List.mem_of_getElem? hy⟩,h2⟩
  have fin: ∀v' w',(Builtin.append_ #[t,t] o.type #[a.eval s, .slice (some a2) m cp2]).run P w= .ok v' w' →(execOp a.eval o).run P w= .ok (.value v') w' :=fun v' w' h=>by
    refine D7 hop hcal ?_
    simp only[builtin,hargs,hty,List.map_toArray,List.map_cons,List.map_nil,e2]
    exact kW h
  have close: ∀v' w' ts' B' ρ' g,(Builtin.append_ #[t,t] o.type #[a.eval s, .slice (some a2) m cp2]).run P w= .ok v' w' →y9 e (Yap m fx) ts ts' →ze e (Yap m fx) B B' →RelAt c ts' B' a w' ρ' →
      (∀j,j<n→(f j).length=(g j).length)→(∀(j o:Nat) (x y:T),j<n→(f j)[o]? =some x→(g j)[o]? =some y→Hv e (Yap m fx) x y∨Yap m fx x y)→
      RepT w' (free c w' ρ' B') v' (.sl e (P.cellsOf e) (n+m) (uk n g fx))→o.wp P a w N Q:=fun v' w' ts' B' ρ' g hrun h1 h2 h3 h4 h5 h6=>by
    unfold Oper.wp
    rw[fin v' w' hrun]
    refine hN _ _ (a.put o.dst v') w' ρ' (hK ts' B' g h1 h2 h4 h5) (h3.put h3.mem ⟨fun _ hb=>hb,fun _ _=>rfl,fun _ hk=>hk,fun k e s N f _ hl=>⟨⟨f,hl⟩,rfl⟩,fun k t cs _ hl=>⟨⟨cs,hl⟩,rfl⟩⟩ o.dst ?_)
    exact h6
  have he:=Cg heo
  obtain⟨ad,cp,es,h0,h1,hus,hll,hcc,hbb⟩:=RepT.sl_inv hsv
  have v: ∀b,free c w ρ B b→b<w.heap.size:=fun b hb=>hb.2.1
  by_cases hroom:n+m≤cp
  ·
    have hused:xc e n cp:= .inr ⟨he,by omega⟩
    obtain⟨b,rfl⟩:=Option.isSome_iff_exists.1 (hus hused)
    obtain⟨hA,cells,fr,hcl,hro⟩:=hbb b rfl hused
    have hcl:=hcl.eq he
    obtain⟨rfl,hspot,hsize⟩:=hro.resolve_left he
    have hb:b=⟨b.block,b.off,none⟩:=by cases b;simp_all
    have hlim:(n+m) * P.cellsOf e≤cp * P.cellsOf e:=Nat.mul_le_mul_right _ hroom
    rw[Nat.add_mul]at hlim
    have hthere: ∀j,j<news.length→(w.cell? ⟨b.block,b.off+n * i.size+j,none⟩).isSome=true:=fun j hj=>by
      rw[hisz]
      simp only[World.cell?,hcl,Option.isSome_none,Bool.false_eq_true,if_false]
      rw[Array.getElem?_eq_getElem (by omega)];rfl
    have hfz: ∀j,j<news.length→w.frozen? ⟨b.block,b.off+n * i.size+j,none⟩=false:=fun j hj=>by simp[World.frozen?,hcl]
    have hrun:=run_append_room_cells (P:=P) (w:=w) t o.type e i hu hi b.block b.off n cp a2 m cp2 news (by rw[hisz];exact hl) hcn hone hroom hthere hfz
    rw[←hb,←es]at hrun
    obtain⟨⟨cur',hcur,hcsz⟩,hwsz,hwos,hwo⟩:=Bb b.block news (b.off+n * i.size) w cells e (0,0) hcl
    have wr :Wr w (w.setCells b.block (b.off+n * i.size) news) (free c w ρ B) e (Yap m fx):=by
      refine⟨heo,fun q hq=> ?_,fun p u hpA hu=> ?_⟩
      · by_cases hqb:q=b.block
        ·subst hqb;exact .inr ⟨_,_,hcl,hcur,hcsz⟩
        ·exact .inl (hwo q hqb)
      · by_cases hin:p.block=b.block∧p.spot=none∧b.off+n * i.size≤p.off∧p.off<b.off+n * i.size+news.length
        · obtain⟨p1,p2,p3,p4⟩:=hin
          have hpe:p=⟨b.block,b.off+n * i.size+(p.off - (b.off+n * i.size)),none⟩:=by
            rw[show b.off+n * i.size+(p.off - (b.off+n * i.size))=p.off by omega,←p1,←p2]
          have h3:=World.cell?_setCells_in b.block news (b.off+n * i.size) w hthere (p.off - (b.off+n * i.size)) (by omega)
          rw[←hpe]at h3
          have hq:news[p.off - (b.off+n * i.size)]? =some news[p.off - (b.off+n * i.size)]:=List.getElem?_eq_getElem (by omega)
          refine .inr ⟨⟨cells,by rw[p1];exact hcl⟩,_,by rw[h3],fun x' hx' => ?_⟩
          obtain⟨y,⟨j,hj,hy⟩,hry⟩:=hnew _ _ hq
          refine⟨y,⟨j,hj,hy⟩,hry.other (fun _ h=>h) (fun q hq=> ?_) (hno j hj y hy)⟩
          by_cases hqb:q=b.block
          ·subst hqb;exact .inr ⟨_,_,hcl⟩
          ·exact .inl (hwo q hqb)
        · refine .inl ?_
          rw[World.cell?_setCells_out b.block news _ w p (fun q1 q2=> ?_)]
          ·exact hu
          · rcases Nat.lt_or_ge p.off (b.off+n * i.size)with h|h
            ·exact .inl h
            ·exact .inr (Nat.le_of_not_lt fun h' =>hin ⟨q1,q2,h,h'⟩)
    obtain ⟨ts',B',q1,q2,q3,q4⟩:=Hy hr (xh hn) wr hwos (by rw[hwsz];exact Nat.le_refl _) (fun k x g hl hg=>hwo g (fun hh=>by subst hh;exact hA.2.2 k x hl hg))
      (fun q hq hmay=>by
        by_cases hqb:q=b.block
        · subst hqb
          exfalso
          rcases hA.1 with hG|hG
          · refine hmay (.inr (hm.wld e (by rw[hc];exact hw) _ cells (0,0) hG ?_))
            rw[←hm.keeps.block _ hq hmay];exact hcl
          ·omega
        ·exact hwo q hqb)
    obtain⟨x',z1,z2⟩:=JK wr hsv
    cases z1 with
    |sl _ _ _ _ g z3 z4=>
    obtain⟨I,J,d,z5,z6,z7,z8,z9,L⟩:=RepT.sl_inv z2
    rw[es]at d
    injection d with d _ A
    subst d;subst A
    refine close _ _ ts' B' ρ g hrun q1 q2 q3 z3 (fun j o x y hj hx hy=> ?_) ?_
    · by_cases hY:Yap m fx x y
      ·exact .inr hY
      ·exact .inl (z4 j o x y hj hx hy (fun h=>hY h.2))
    · refine .sl (some b) (n+m) cp e _ _ hroom hp.1 (fun _=>rfl) (fun j hj=> ?_) (fun j q y hj hy=> ?_) (fun b' hb' _=> ?_)
      · unfold uk;split
        ·rename_i h;exact z8 j h
        ·exact hrows.1 _ (by omega)
      · unfold uk at hy
        split at hy
        · rename_i h
          obtain⟨b3,x3,y1,y2,y3⟩:=z9 j q y h hy
          exact⟨b3,x3,y1,y2,y3.move q4 (fun _ _=>rfl)⟩
        · rename_i h
          have hjm:j - n<m:=by omega
          have hql:q<P.cellsOf e:=by rw[←hrows.1 _ hjm];exact(List.getElem?_eq_some_iff.1 hy).1
          obtain⟨u,y1,y2⟩:=hrows.2 (j - n) q y hjm hy
          have hlt:=(List.getElem?_eq_some_iff.1 y1).1
          have h3:=World.cell?_setCells_in b.block news (b.off+n * i.size) w hthere _ hlt
          have hu' :news[(j - n) * P.cellsOf e+q]=u:=(List.getElem?_eq_some_iff.1 y1).2
          refine⟨b,u,rfl, ?_,((y2.other (fun _ h=>h) (fun q hq=> ?_) (hno _ hjm y (List.mem_of_getElem? hy))).move q4 (fun _ _=>rfl))⟩
          · have e9:b.off+n * i.size+((j - n) * P.cellsOf e+q)=b.off+(j * P.cellsOf e+q):=by
              have:j * P.cellsOf e=n * P.cellsOf e+(j - n) * P.cellsOf e:=by rw[←Nat.add_mul];congr 1;omega
              rw[hisz];omega
            rw[e9,hu']at h3
            rw[hb,zz];exact h3
          · by_cases hqb:q=b.block
            ·subst hqb;exact .inr ⟨_,_,hcl⟩
            ·exact .inl (hwo q hqb)
      · injection hb' with hb'
        subst hb'
        exact⟨q4 _ hA,cur',(0,0), .of hcur, .inr ⟨rfl,hspot,by rw[hcsz];exact hsize⟩⟩
  ·
    obtain⟨M,O,olds,r,ho1,ho2,ho3,_⟩:=I6 (E:=env c w ρ B) hsv
    rw[es]at r
    injection r with r _ D
    subst r;subst D
    obtain ⟨v', w', hrun, hown, hgr,g0,cap,cur,hv',hg0,hcur,hcap,hcsz⟩: ∃v' w',(Builtin.append_ #[t,t] o.type #[a.eval s, .slice (some a2) m cp2]).run P w= .ok v' w' ∧w'.ownsRow 0 e (P.cellsOf e) v' (n+m) (olds++news)∧w.grownBy w' none∧
        ∃g0 cap cur,v' = .slice (some ⟨g0,0,none⟩) (n+m) cap∧w.heap.size≤g0∧w'.heap[g0]? =some (.cells cur e (0,0))∧n+m≤cap∧cur.size=cap * P.cellsOf e:=by
      cases ad with
      | some b=>
        obtain⟨v',w',r1,r2,r3⟩:=run_append_arg_grows (P:=P) (w:=w) t o.type e i z (P.cellsOf e) (P.bytesOf e) hu hi hzz hisz hiby hzs hz.2 b n cp olds ho1 (fun j u hj=>by obtain⟨b',h1,h2⟩:=ho2 j u hj;injection h1 with h1;subst h1;exact h2) a2 m cp2 news hl hcn (by omega) hp.1 hp.2
        refine⟨v',w',by rw[es];exact r1,⟨r2.1, ?_⟩,r3, ?_⟩
        · rcases r2.2 with h|⟨g,cap,cur,h1,h2,h3⟩
          ·exact .inl h
          ·exact .inr ⟨g,cap,cur,h1,Nat.zero_le _,h3⟩
        · rcases r2.2 with⟨_,h⟩|⟨g,cap,cur,h1,h2,h3,h4,_,h6,_⟩
          ·omega
          ·exact⟨g,cap,cur,h1,h2,h3,h4,h6⟩
      | none=>
        have hn0 : n = 0 := by rcases Nat.eq_zero_or_pos n with h|h;·exact h
                               ·have:=hus (.inl h);cases this
        have hc0 : cp = 0 := by rcases Nat.eq_zero_or_pos cp with h|h;·exact h
                                ·have:=hus (.inr ⟨he,h⟩);cases this
        subst hn0;subst hc0
        have holds:olds= []:=by simpa using ho1
        subst holds
        obtain⟨v',w',r1,r2,r3,r4⟩:=AQ (P:=P) (w:=w) (ty:=o.type) hu hi hzz hzs hz.2 (World.ownsRow_nil w 0 e (P.cellsOf e)) (rfl:(.slice (some a2) m cp2:Value)= .slice (some a2) m cp2) hl (fun j u hj=>⟨a2,rfl,hcn j u hj⟩) hone (fun _=>rfl) hp.1 hp.2
        refine⟨v',w',by rw[es];exact r1,r2,⟨r3.os,r3.tape,r3.output,r3.size,fun k hk h=>r3.block k hk h⟩, ?_⟩
        rcases r2.2 with⟨_,h⟩|⟨g,cap,cur,h1,h2,h3,h4,_,h6,_⟩
        ·omega
        · refine⟨g,cap,cur,h1, ?_,h3,h4,h6⟩
          rcases r4 with h|h
          ·rw[h1]at h;simp[Value.ownBlock]at h
          ·rw[h1]at h;simp[Value.ownBlock]at h;omega
    have hsame: ∀q,q<w.heap.size→w'.heap[q]? =w.heap[q]? :=fun q hq=>hgr.block q hq (by simp)
    have wr:Wr w w' (free c w ρ B) e (Yap m fx):=⟨heo,fun q hq=> .inl (hsame q (v q hq)),fun p u hpA hu=> .inl (by rw[World.cell?_of_block (w:=w) (hsame _ (v _ hpA))];exact hu)⟩
    obtain⟨ts',B',q1,q2,q3,q4⟩:=Hy hr (xh hn) wr ⟨hgr.os,hgr.tape,hgr.output⟩ hgr.size (fun k x g hl hg=>hsame g (vw hm hl hg)) (fun q hq _=>hsame q (Nat.lt_of_lt_of_le hq hm.keeps.size))
    have hlive: ∀k b',B'.live k=some b' →∃b0,B.live k=some b0:=fun k b' h=>by
      obtain⟨b0,h1,_⟩:=(zK q2 k).2.2.1 b' (Bs.live_get h)
      exact⟨b0,by unfold Bs.live;rw[h1];rfl⟩
    refine close v' w' ts' B' ρ f hrun q1 q2 q3 (fun _ _=>rfl) (fun j o x y hj hx hy=> .inl (by rw[hx]at hy;injection hy with hy;subst hy;exact Hv.refl x)) ?_
    subst hv'
    refine .sl _ (n+m) cap e _ _ hcap hp.1 (fun _=>rfl) (fun j hj=> ?_) (fun j q y hj hy=> ?_) (fun b' hb' _=> ?_)
    · unfold uk;split
      ·rename_i h;exact hll j h
      ·exact hrows.1 _ (by omega)
    · unfold uk at hy
      obtain⟨u,hu1,hu2⟩: ∃u,(olds++news)[j * P.cellsOf e+q]? =some u∧RepT w (free c w ρ B) u y:=by
        split at hy
        · rename_i h
          obtain⟨u,y1,y2⟩:=ho3.2 j q y h hy
          exact⟨u,by rw[List.getElem?_append_left (List.getElem?_eq_some_iff.1 y1).1];exact y1,y2⟩
        · rename_i h
          obtain⟨u,y1,y2⟩:=hrows.2 (j - n) q y (by omega) hy
          have e9:j * P.cellsOf e+q=n * P.cellsOf e+((j - n) * P.cellsOf e+q):=by
            have:j * P.cellsOf e=n * P.cellsOf e+(j - n) * P.cellsOf e:=by rw[←Nat.add_mul];congr 1;omega
            omega
          exact⟨u,by rw[List.getElem?_append_right (by omega),e9,ho1,Nat.add_sub_cancel_left];exact y1,y2⟩
      refine⟨_,u,rfl,hown.cells rfl _ u hu1,(hu2.move (fun _ h=>h) (fun q hq=>hsame q (v q hq))).move q4 (fun _ _=>rfl)⟩
    · injection hb' with hb'
      subst hb'
      refine⟨⟨.inr (Nat.le_trans hm.keeps.size hg0),(Array.getElem?_eq_some_iff.1 hcur).1,fun k x hl hg=> ?_⟩,cur,(0,0), .of hcur, .inr ⟨rfl,rfl,by rw[hcsz];exact Nat.le_of_eq (Nat.zero_add _)⟩⟩
      obtain⟨b0,h9⟩:=hlive k x hl
      have:=vw hm h9 hg
      simp at this
      omega
end
def lJ (es:List Nat):Bs:=es.map fun e=>(sG e,none)
theorem zm (B B' :Bs) (k:Nat):Bs.get (B++B') k=match B.get k with|some x=>some x|none=>B'.get k:=by
  induction B with
  |nil=>rfl
  | cons p l ih=>
    obtain⟨q,y⟩:=p
    simp only[List.cons_append,Bs.get]
    by_cases h:q=k
    ·simp[h]
    ·simp[h,ih]
theorem Gf (es:List Nat) (k:Nat):(lJ es).get k=none∨(lJ es).get k=some none:=by
  induction es with
  |nil=>exact .inl rfl
  | cons e l ih=>
    simp only[lJ,List.map_cons,Bs.get]
    by_cases h:sG e=k
    ·rw[if_pos h];exact .inr rfl
    ·rw[if_neg h];exact ih
theorem Gg {es:List Nat} {e:Nat} (h:(lJ es).get (sG e)≠none):e∈es:=by
  induction es with
  |nil=>exact absurd rfl h
  | cons x l ih=>
    simp only[lJ,List.map_cons,Bs.get]at h
    by_cases hx:sG x=sG e
    · unfold sG at hx
      have:x=e:=by omega
      subst this;exact List.mem_cons_self
    · rw[if_neg hx]at h
      exact List.mem_cons_of_mem _ (ih h)
theorem Ee (B:Bs) (es:List Nat) (k:Nat):(B++lJ es).live k=B.live k:=by
  unfold Bs.live
  rw[zm]
  cases h:B.get k with
  |some x=>rfl
  |none=>rcases Gf es k with h|h<;>rw[h]<;>rfl
theorem Mem.turn {c c' :Ctx} {B B' :Bs} {w:World} {ρ:Nat→Value} (hm:Mem c B w ρ) (h0:c'.w0=c.w0) (hρ:c'.ρ0=c.ρ0) (hins: ∀k,c'.ins.live k=c.ins.live k) (hl: ∀k,B'.live k=B.live k) (hg: ∀k,(B.get k).isSome=true→(B'.get k).isSome=true)
    (hmay: ∀b,c.may b→c'.may b) (hG: ∀b,c.G b→c'.G b) (hw: ∀e,(c'.ins.get (sG e)).isSome=true→∀b cells fr,c'.G b→c'.w0.heap[b]? =some (.cells cells e fr)→c'.wild b):
    Mem c' B' w ρ∧Le (env c w ρ B) (env c' w ρ B'):=by
  have le:Le (env c w ρ B) (env c' w ρ B'):=by
    refine⟨fun b hb=>⟨hb.1.imp (hG b) (by rw[h0];exact id),hb.2.1,fun k x h=>hb.2.2 k x ((hl k).symm.trans h)⟩,fun _ _=>rfl,hg,fun k e s N f' _ h=>⟨⟨f',(hl k).symm.trans h⟩,rfl⟩,fun k t cs' _ h=>⟨⟨cs',(hl k).symm.trans h⟩,rfl⟩⟩
  have hpar: ∀b,c'.par b↔c.par b:=fun b=>by simp only[Ctx.par,hins,hρ]
  refine⟨⟨?_,fun k x h=>(hm.at_ k x ((hl k).symm.trans h)).le le rfl (fun _ _=>rfl),fun k x g h hb=> ?_,fun k k' x x' g h h' =>hm.inj k k' x x' g ((hl k).symm.trans h) ((hl k').symm.trans h'),
    fun k x h=>hg k (hm.kin k x ((hins k).symm.trans h)),fun k x b' h h' => ?_,hw⟩,le⟩
  · have hk:=hm.keeps
    rw[h0]
    exact⟨hk.os,hk.tape,hk.output,hk.size,fun b hb hn=>hk.block b hb (fun h=>hn (hmay b h))⟩
  ·rw[hpar,h0];exact hm.own k x g ((hl k).symm.trans h) hb
  ·rw[hρ];exact hm.fix k x b' ((hins k).symm.trans h) ((hl k).symm.trans h')
def okC (es:List Nat):C→Prop
  | .t x=> ∀e∈es,NoTy e x
  | .tp _ _=>False
  |_=>True
def okA (es:List Nat):V→Prop
  | .c x=>okC es x
  | .agg xs=> ∀x∈xs,okC es x
  | .tup _=>False
  | .dead=>True
theorem KW {E E' :Env} {es:List Nat} (hT: ∀v x,(∀e∈es,NoTy e x)→RepT E.w E.A v x→RepT E'.w E'.A v x) (hB: ∀k,(E.B.get k).isSome=true→(E'.B.get k).isSome=true) (hl: ∀k,E'.B.live k=E.B.live k) (hρ:E'.ρ=E.ρ)
    {v:Value} {x:V} (h:mg E v x) (hn:okA es x):mg E' v x:=by
  have cell: ∀ {v:Value} {x:C},fO E v x→okC es x→fO E' v x:=fun{v x} h hn=>by
    cases x with
    |t x=>exact hT _ _ hn h
    |nil=>exact h
    | own k sz n=>
      obtain⟨h1,ad,c,h2,h3,h4,h5,h7,h6⟩:=h
      exact⟨hB k h1,ad,c,h2,h3,h4,h5,fun t cs hh=>h7 t cs ((hl k).symm.trans hh),fun e s N f hh=>by rw[hρ];exact h6 e s N f ((hl k).symm.trans hh)⟩
    | ptr k i o=>
      obtain⟨h1,ad,h2,h3,h4⟩:=h
      exact⟨hB k h1,ad,h2,fun t cs hh=>by rw[hρ];exact h3 t cs ((hl k).symm.trans hh),fun e s N f hh=>by rw[hρ];exact h4 e s N f ((hl k).symm.trans hh)⟩
    |tp e r=>exact hn.elim
    |dead=>exact h
  cases x with
  |c x=>exact cell h hn
  | agg xs=>
    obtain⟨vs,e1,e2,e3⟩:=h
    exact⟨vs,e1,e2,fun i x y h1 h2=>cell (e3 i x y h1 h2) (hn y (List.mem_of_getElem? h2))⟩
  |tup _=>exact hn.elim
  |dead=>trivial
def okB (es:List Nat):Blk→Prop
  | .row _ _ n f=> ∀j,j<n→∀x∈f j,∀e∈es,NoTy e x
  | .box _ cs=> ∀x∈cs,okC es x
theorem Jg {P:Program} {g:Nat} {args:List V} {ins:Bs} {R:V→Bs→Prop} (es:List Nat) (ha: ∀x∈args,okA es x) (hb: ∀p∈ins,∀b,p.2=some b→closedB b=true∧okB es b) (hlow: ∀p∈ins,p.1<1000000000)
    (h:Ct P g args (ins++lJ es) R):Ct P g args ins R:=by
  intro w0 G ρ0 wild cargs hm hs hr
  let bad:Nat→Prop:=fun b=> ∃e∈es,∃cells fr,w0.heap[b]? =some (.cells cells e fr)
  let c:Ctx:=⟨w0,G,ins,ρ0,wild⟩
  let c' :Ctx:=⟨w0,fun b=>G b∧¬bad b,ins++lJ es,ρ0,fun _=>False⟩
  have hl: ∀k,(ins++lJ es).live k=ins.live k:=Ee ins es
  have hT: ∀v x,(∀e∈es,NoTy e x)→RepT w0 (free c w0 ρ0 ins) v x→RepT w0 (free c' w0 ρ0 (ins++lJ es)) v x:=fun v x hn hx=>by
    have key: ∀b,free c w0 ρ0 ins b→free c' w0 ρ0 (ins++lJ es) b∨bad b:=fun b hb=>by
      by_cases hbad:bad b
      ·exact .inr hbad
      ·exact .inl ⟨hb.1.imp (fun h=>⟨h,hbad⟩) id,hb.2.1,fun k x h=>hb.2.2 k x ((hl k).symm.trans h)⟩
    clear hb
    induction hx with
    |s v h=>exact .s v h
    | mp g es' n h hg=>
      refine .mp g es' n h ((key _ hg).resolve_right ?_)
      rintro⟨e,he,c1,f1,h3⟩
      rw[h]at h3;injection h3 with h3;cases h3
    | sl_ ad n cc e' sz f g h0 h1 hs hl hc hr hbb ih=>
      have hn' : ∀(j o:Nat) (y:T),j<n→(f j)[o]? =some y→∀e∈es,NoTy e y:=fun j o y hj hy e he=>by
        cases hn e he with
        |sl _ _ _ _ _ hcc=>exact hcc j o y hj hy
      refine .sl_ ad n cc e' sz f g h0 h1 hs hl hc (fun j o y hj hy=>ih j o y hj hy (hn' j o y hj hy)) (fun b hb' hp=> ?_)
      obtain⟨q1,cells,fr,q2,q9⟩:=hbb b hb' hp
      refine⟨(key _ q1).resolve_right ?_,cells,fr,q2,q9⟩
      rintro⟨e,he,c',fr',q3⟩
      cases hn e he with
      |sl _ _ _ _ hne _=>exact q2.ne hne q3
  have hgs: ∀k,(ins.get k).isSome=true→((ins++lJ es).get k).isSome=true:=fun k hk=>by
    rw[zm];cases h:ins.get k with
    |none=>simp[h]at hk
    |some x=>rfl
  have hpar: ∀b,c'.par b↔c.par b:=fun b=>by show(∃k x,(ins++lJ es).live k=some x∧_)↔(∃k x,ins.live k=some x∧_);simp only[hl];rfl
  have hwn: ∀e,((ins++lJ es).get (sG e)).isSome=true→e∈es:=fun e he=>by
    rw[zm]at he
    cases h:ins.get (sG e)with
    |some x=>have:=hlow _ (uE h);unfold sG at this;simp at this;omega
    |none=>rw[h]at he;exact Gg (fun h=>by rw[h]at he;cases he)
  have hm' :Mem c' (ins++lJ es) w0 ρ0:=by
    refine⟨⟨rfl,rfl,rfl,Nat.le_refl _,fun _ _ _=>rfl⟩,fun k x hx=> ?_,fun k x g hx hg=> ?_,fun k k' x x' g h1 h2=>hm.inj k k' x x' g ((hl k).symm.trans h1) ((hl k').symm.trans h2),fun k x hx=> ?_,fun k x b' h1 h2=>hm.fix k x b' ((hl k).symm.trans h1) ((hl k).symm.trans h2),fun e he b cells fr hG hc=> ?_⟩
    · have hx' :ins.live k=some x:=(hl k).symm.trans hx
      obtain⟨q1,q2⟩:=hb _ (uE (Bs.live_get hx')) x rfl
      refine At.closed (E:=env c w0 ρ0 ins) (N:=fun y=> ∀e∈es,NoTy e y) (fun v y hn h=>hT v y hn h) rfl (fun _ _=>rfl) q1 ?_ (hm.at_ k x hx')
      cases x with
      |row e s n f=>exact fun j hj y hy=>q2 j hj y hy
      | box t cs=>
        intro y hy
        have:=q2 y hy
        cases y<;>first|trivial|exact this
    ·rw[hpar];exact hm.own k x g ((hl k).symm.trans hx) hg
    ·exact hgs k (hm.kin k x ((hl k).symm.trans hx))
    ·exact absurd ⟨e,hwn e he,cells,fr,hc⟩ hG.2
  refine(h w0 c'.G ρ0 c'.wild cargs hm' hs (fun i x hx=>KW (E:=env c w0 ρ0 ins) (E' :=env c' w0 ρ0 (ins++lJ es)) (es:=es) hT hgs hl rfl (hr i x hx) (ha x (List.mem_of_getElem? hx)))).mono ?_
  rintro e w' ⟨v',res,B',ρ',e1,e2,e3,e4⟩
  obtain⟨m1,m2⟩:=e3.turn (c' :=c) (B' :=B') rfl rfl (fun k=>(hl k).symm) (fun _=>rfl) (fun _ h=>h) (fun b hb=>by
    rcases hb with hb|hb
    ·exact .inl ((hpar b).1 hb)
    ·exact hb.elim) (fun b hb=>hb.1) hm.wld
  exact⟨v',res,B',ρ',e1,e2,m1,e4.le m2⟩
end Go.Proofs.Ytojpejfcafbafaa.V
end
