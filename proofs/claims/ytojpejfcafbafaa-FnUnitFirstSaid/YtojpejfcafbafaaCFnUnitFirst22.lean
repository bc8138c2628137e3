/- A part of the claim FnUnitFirst. -/
import Derived.Test.YtojpejfcafbafaaCFnUnitFirst21
section
namespace Go.Proofs.Ytojpejfcafbafaa.V
open Go Go.RowKit
set_option linter.unusedVariables false
set_option linter.unusedSimpArgs false
def Rows (E:Env) (sz n:Nat) (f:Nat→List T) (inner:List Value):Prop:=
  (∀j,j<n→(f j).length=sz)∧∀(j o:Nat) (y:T),j<n→(f j)[o]? =some y→∃x,inner[j * sz+o]? =some x∧RepT E.w E.A x y
theorem Rows.le {E E' :Env} (h:Le E E') {sz n:Nat} {f:Nat→List T} {inner:List Value} (hr:Rows E sz n f inner):Rows E' sz n f inner:=
  ⟨hr.1,fun j o y hj hy=>let ⟨x,h1,h2⟩:=hr.2 j o y hj hy;⟨x,h1,RepT.le h h2⟩⟩
theorem yO {E:Env} {k e sz n:Nat} {f:Nat→List T}:At E k (.row e sz n f)↔∃inner,E.w.ownsRow 0 e sz (E.ρ k) n inner∧Rows E sz n f inner:=
  ⟨fun⟨i,h1,h2,h3⟩=>⟨i,h1,h2,h3⟩,fun⟨i,h1,h2,h3⟩=>⟨i,h1,h2,h3⟩⟩
def Leaves (P:Program) (c:Ctx) (B:Bs) (w:World) (ρ:Nat→Value) (o:Oper) (a:Act) (v:V) (B' :Bs):Prop:=
  ∃ n w' ρ',(execOp a.eval o).run P w= .ok n w' ∧((∃u,n= .value u∧mg (env c w' ρ' B') u v)∨(n= .skip∧v= .dead))∧
    Mem c B' w' ρ' ∧Le (env c w ρ B) (env c w' ρ' B')
section
variable {P:Program} {c:Ctx} {B:Bs} {w:World} {ρ:Nat→Value} {o:Oper} {a:Act} {ts:List V}
theorem I4 (hm:Mem c B w ρ) {d e:Nat} {cs:List C} {vs:Array Value} (hd:B.get d=none) (hr:tJ (env c w ρ B) vs.toList cs)
    (hrun:(execOp a.eval o).run P w= .ok (.value (.pointer (some ⟨w.heap.size,0,none⟩))) (w.alloc (.cells vs e))):
    Leaves P c B w ρ o a (.c (.ptr d 0 0)) (B.set d (some (.box e cs))):=by
  obtain⟨hm',le⟩:=hm.grow (Grown.alloc w (.cells vs e)) d (.box e cs) (.pointer (some ⟨w.heap.size,0,none⟩)) hd (fun g hg=>by simp[fM]at hg;omega)
    (fun le=>⟨w.heap.size,vs,upd_same _ _ _,heap_alloc_new w _,by simpa using hr.1,fun i x y h1 h2=>fO.le le (hr.2 i x y (by simpa using h1) h2)⟩)
  refine⟨_,_,_,hrun, .inl ⟨_,rfl, ?_⟩,hm',le⟩
  refine⟨?_,_,rfl,fun t cs' hl=>⟨rfl,_,upd_same _ _ _,rfl⟩,fun e' s N f hl=> ?_⟩
  · show((B.set d _).get d).isSome=true
    rw[Bs.get_set,if_pos rfl];rfl
  · have hl:(B.set d (some (.box e cs))).live d=some (.row e' s N f):=hl
    rw[Bs.live_set,if_pos rfl]at hl
    cases hl
theorem Fw (hm:Mem c B w ρ) {d e sz n cap:Nat} {f:Nat→List T} {inner:List Value} {u:Value} {w' :World} (hd:B.get d=none) (hw:Grown w w')
    (hu:w'.ownsRow 0 e sz u n inner) (hb: ∀g,fM u=some g→w.heap.size≤g) (hn:n≤maxLen) (hr:Rows (env c w ρ B) sz n f inner)
    (hrun:(execOp a.eval o).run P w= .ok (.value u) w'):Leaves P c B w ρ o a (.c (.own d sz n)) (B.set d (some (.row e sz n f))):=by
  obtain⟨hm',le⟩:=hm.grow hw d (.row e sz n f) u hd hb (fun le=>yO.2 ⟨inner,by show World.ownsRow _ _ _ _ (upd ρ d u d) _ _;rw[upd_same];exact hu,hr.le le⟩)
  refine⟨_,_,_,hrun, .inl ⟨_,rfl, ?_⟩,hm',le⟩
  have hs: ∃ad cp,u= .slice ad n cp∧n≤cp∧(0<n→ad.isSome=true):=by
    rcases hu.2 with⟨rfl,rfl⟩|⟨g,cp,cur,rfl,_,_,h,_⟩
    ·exact⟨none,0,rfl,Nat.le_refl _,by simp⟩
    ·exact⟨_,cp,rfl,h,fun _=>rfl⟩
  obtain⟨ad,cp,rfl,h1,h2⟩:=hs
  refine⟨?_,ad,cp,rfl,h1,hn,h2,fun t cs hl=> ?_,fun e' s N f' hl=> ?_⟩
  · show((B.set d _).get d).isSome=true
    rw[Bs.get_set,if_pos rfl];rfl
  · have hl:(B.set d (some (.row e sz n f))).live d=some (.box t cs):=hl
    rw[Bs.live_set,if_pos rfl]at hl
    cases hl
  · have hl:(B.set d (some (.row e sz n f))).live d=some (.row e' s N f'):=hl
    rw[Bs.live_set,if_pos rfl]at hl
    injection hl with hl
    injection hl with _ h3 h4 _
    exact⟨h3.symm,by omega,by show upd ρ d _ d=_;rw[upd_same,←h4]⟩
theorem Cm {E:Env} {e m:Nat}: ∀(n:Nat) (cs:List C) (vs:List Value) (rows:List (List T)),tJ E vs cs→vs.length=n * m→chunks P e m n cs=some rows→
    rows.length=n∧∀j r,rows[j]? =some r→r.length=m∧∀(o:Nat) (y:T),r[o]? =some y→∃x,vs[j * m+o]? =some x∧RepT E.w E.A x y
  |0,cs,vs,rows,hr,hl,h=>by simp only[chunks,Option.some.injEq]at h;subst h;simp
  | n + 1,cs,vs,rows,hr,hl,h=>by
    simp only[chunks]at h
    split at h<;>simp only[Option.some.injEq,reduceCtorEq]at h
    rename_i r rs h1 h2
    subst h
    have hmn:m≤vs.length:=by rw[hl,Nat.add_mul];omega
    obtain⟨i1,i2⟩:=Cm n (cs.drop m) (vs.drop m) rs (hr.drop m) (by simp[hl,Nat.add_mul]) h2
    obtain⟨j1,j2⟩:=yJ _ _ _ _ (hr.take m) h1
    have hrl:r.length=m:=by rw[j1];simp;omega
    refine⟨by simp[i1],fun j r' hj=> ?_⟩
    cases j with
    | zero=>
      simp only[List.getElem?_cons_zero,Option.some.injEq]at hj
      subst hj
      refine⟨hrl,fun o y hy=> ?_⟩
      have ho:o<m:=by
        rcases Nat.lt_or_ge o r.length with h|h
        ·omega
        ·simp[List.getElem?_eq_none h]at hy
      refine⟨vs[o]'(by omega),by simp,j2 o _ y (by rw[List.getElem?_take,if_pos ho];simp) hy⟩
    | succ j=>
      obtain⟨k1,k2⟩:=i2 j r' (by simpa using hj)
      refine⟨k1,fun o y hy=> ?_⟩
      obtain⟨x,hx,hr⟩:=k2 o y hy
      rw[List.getElem?_drop]at hx
      exact⟨x,by rw[←hx];congr 1;rw[Nat.add_mul];omega,hr⟩
theorem Dx {E:Env} {m:Nat}: ∀(ps:List (Nat×V)) (us:List (Nat×Value)) (cs:List C) (zs:Array Value) (rs:List C),
    tJ E zs.toList cs→us.length=ps.length→(∀(i:Nat) (p:Nat×V) (u:Nat×Value),ps[i]? =some p→us[i]? =some u→u.1=p.1∧mg E u.2 p.2)→
    iF m cs ps=some rs→∃zs',Instr.fill (fun i=>some (i * m,m)) zs us=some zs' ∧tJ E zs'.toList rs∧zs'.size=zs.size
  | [],us,cs,zs,rs,hz,hl,hp,h=>by
    simp only[iF,Option.some.injEq]at h
    subst h
    have:us= []:=by simpa using hl
    subst this
    exact⟨zs,rfl,hz,rfl⟩
  | (i, v)::ps,us,cs,zs,rs,hz,hl,hp,h=>by
    cases us with
    |nil=>simp at hl
    | cons u us=>
      obtain⟨e1,hr⟩:=hp 0 (i,v) u rfl rfl
      simp only at e1 hr
      simp only[iF]at h
      split at h
      · rename_i ys hcv
        split at h
        · rename_i hc
          have hcs:=wo hr hcv
          have hsz:u.2.cells.size=m:=by have:=hcs.1;simp at this;omega
          have hzl:zs.size=cs.length:=by simpa using hz.1
          have hstep:=GU u.2.cells.toList (i * m) 0 zs (by simp;omega)
          obtain⟨zs',h1,h2,h3⟩:=Dx ps us (splice cs (i * m) ys) ((u.2.cells.toList.zipIdx 0).foldl (fun cs (c,j)=>cs.setIfInBounds (i * m+j) c) zs) rs
            (by rw[hstep];exact hz.splice hcs (i * m)) (by simpa using hl) (fun i p u' h1 h2=>hp (i+1) p u' (by simpa using h1) (by simpa using h2)) h
          refine⟨zs', ?_,h2, ?_⟩
          · obtain⟨u1,u2⟩:=u
            simp only at e1 hsz h1⊢
            subst e1
            simp only[Instr.fill]
            rw[if_neg (by simp;omega)]
            rw[←h1]
            congr 1
            rw[←Array.foldl_toList]
            simp
          · rw[h3]
            have h4:=congrArg List.length hstep
            simp only[Array.length_toList,splice,List.length_append,List.length_take,List.length_drop]at h4
            have h5:u.2.cells.toList.length=m:=by simpa using hsz
            rw[h4]
            omega
        ·simp at h
      ·simp at h
theorem flat_get {α:Type} (l:List α): ∀(n j:Nat),(List.replicate n l).flatten[j]? =if j<n * l.length then l[j % l.length]? else none
  |0,j=>by simp
  | n + 1,j=>by
    rw[List.replicate_succ,List.flatten_cons,List.getElem?_append]
    split
    · rename_i h
      rw[Nat.mod_eq_of_lt h,if_pos (by rw[Nat.add_mul];omega)]
    · rename_i h
      rw[flat_get l n (j - l.length)]
      have e:(j - l.length) % l.length=j % l.length:=by
        conv=>rhs;rw[show j=(j - l.length)+l.length by omega,Nat.add_mod_right]
      rw[e]
      by_cases h2:j<(n+1) * l.length
      ·rw[if_pos h2,if_pos (by rw[Nat.add_mul]at h2;omega)]
      ·rw[if_neg h2,if_neg (by rw[Nat.add_mul]at h2;omega)]
theorem F6 {z:List T} {rows:List (List T)} {j:Nat} (hj:j<rows.length): ∃r,rows[j]? =some r∧fE z rows j=r:=
  ⟨rows[j],by simp,by simp[fE,List.getD_eq_getElem?_getD,hj]⟩
theorem IM (hm:Mem c B w ρ) {d e:Nat} (hop:o.op= .alloc e) (hz:zeroOf P e≠ []) (hd:B.get d=none):
    Leaves P c B w ρ o a (.c (.ptr d 0 0)) (B.set d (some (.box e (zeroOf P e)))):=by
  obtain⟨i,z,hi,hzz,hr⟩:=wC (E:=env c w ρ B) hz
  exact I4 hm hd hr (by simp[execOp,hop,Instr.alloc,zeroValue,typeInfo,hi,hzz,newVar,newRow,go_sem])
theorem IP (hm:Mem c B w ρ) (ht: ∀i x,ts[i]? =some x→mg (env c w ρ B) (a.tmps.getD i undef) x) {d e:Nat} {x:Operand} {cs:List C} (hop:o.op= .box e x) (hc:d9 (evl ts x)=some cs) (hd:B.get d=none):
    Leaves P c B w ρ o a (.c (.ptr d 0 0)) (B.set d (some (.box e cs))):=
  I4 hm hd (wo (lZ ht x) hc) (by simp only[execOp,hop,Instr.box,newVar,newRow];simp[go_sem])
theorem D5 (hm : Mem c B w ρ) (ht: ∀i x,ts[i]? =some x→mg (env c w ρ B) (a.tmps.getD i undef) x) {d t e len:Nat} {ps:Array (Nat×Operand)} {cs:List C} {rows:List (List T)}
    (hop:o.op= .buildSlice t len ps) (he:uU P t=some e) (hz:zeroOf P e≠ []∧(zeroOf P e).length=P.cellsOf e∧0<P.cellsOf e∧len * P.cellsOf e≤16777216)
    (hf:iF (P.cellsOf e) (List.replicate len (zeroOf P e)).flatten (ps.toList.map fun(i,x)=>(i,evl ts x))=some cs) (hc:chunks P e (P.cellsOf e) len cs=some rows) (hd:B.get d=none):
    Leaves P c B w ρ o a (.c (.own d (P.cellsOf e) len)) (B.set d (some (.row e (P.cellsOf e) len (fE (zT P 3 e) rows)))):=by
  obtain⟨i,z,hi,hzz,hr⟩:=wC (E:=env c w ρ B) hz.1
  obtain⟨hu,_⟩:=xe he
  have hsz:P.cellsOf e=i.size:=by simp[Program.cellsOf,hi]
  have hzs:z.cells.size=P.cellsOf e:=by have:=hr.1;rw[hz.2.1]at this;simpa using this
  have hl:((Array.range (len * i.size)).map (z.cells[· % z.cells.size]!)).toList=(List.replicate len z.cells.toList).flatten:=by
    apply List.ext_getElem?
    intro j
    have hmod:z.cells.toList.length=i.size:=by rw[←hsz,←hzs];simp
    have hpos:0<i.size:=by rw[←hsz];exact hz.2.2.1
    rw[flat_get,hmod]
    by_cases hj:j<len * i.size
    · have h1:j % i.size<z.cells.size:=by have:=Nat.mod_lt j hpos;simp at hmod;omega
      have h2:z.cells.size=i.size:=by simpa using hmod
      rw[if_pos hj]
      rw[h2]at h1
      simp[hj,h2,getElem!_pos z.cells (j % i.size) (by omega),Array.getElem?_eq_getElem (show j % i.size<z.cells.size by omega)]
    · rw[if_neg hj]
      simp;omega
  have hrep: ∀n,tJ (env c w ρ B) (List.replicate n z.cells.toList).flatten (List.replicate n (zeroOf P e)).flatten:=by
    intro n
    induction n with
    |zero=>exact tJ.nil _
    |succ n ih=>rw[List.replicate_succ,List.replicate_succ,List.flatten_cons,List.flatten_cons];exact hr.append ih
  obtain⟨zs',h1,h2,h3⟩:=Dx (E:=env c w ρ B) (m:=P.cellsOf e) _ (ps.map fun(i,x)=>(i,a.eval x)).toList _ ((Array.range (len * i.size)).map (z.cells[· % z.cells.size]!)) cs (by rw[hl];exact hrep len) (by simp)
    (fun i p u h1 h2=>by
      simp only[List.getElem?_map,Array.toList_map,Option.map_eq_some_iff]at h1 h2
      obtain⟨q,hq,rfl⟩:=h1
      obtain⟨q',hq',rfl⟩:=h2
      rw[hq]at hq'
      injection hq' with hq'
      subst hq'
      exact⟨rfl,lZ ht _⟩) hf
  have hlen:zs'.size=len * P.cellsOf e:=by rw[h3,hsz];simp
  obtain⟨k1,k2⟩:=Cm len cs zs'.toList rows h2 (by simpa using hlen) hc
  have hrows:Rows (env c w ρ B) (P.cellsOf e) len (fE (zT P 3 e) rows) zs'.toList:=by
    refine⟨fun j hj=> ?_,fun j o y hj hy=> ?_⟩
    · obtain⟨r,hr,e1⟩:=F6 (z:=zT P 3 e) (rows:=rows) (j:=j) (by omega)
      rw[e1];exact(k2 j r hr).1
    · obtain⟨r,hr,e1⟩:=F6 (z:=zT P 3 e) (rows:=rows) (j:=j) (by omega)
      rw[e1]at hy
      exact(k2 j r hr).2 o y hy
  have hn:len≤maxLen:=by
    have:len≤len * P.cellsOf e:=Nat.le_mul_of_pos_right _ hz.2.2.1
    simp only[maxLen];omega
  refine Fw hm (w' :=w.alloc (.cells zs' e)) (u:= .slice (some ⟨w.heap.size,0,none⟩) len len) (inner:=zs'.toList) (cap:=len) hd (Grown.alloc w _) (World.ownsRow_lit w zs' len (Nat.zero_le _) hn hlen) (fun g hg=>by simp[fM]at hg;omega) hn hrows ?_
  simp only[execOp,hop]
  refine kW ?_
  by_cases h0:len=0
  · subst h0
    have : zs' = #[] := by have:zs'.size=0:=by rw[hlen];simp
                           exact Array.eq_empty_of_size_eq_zero this
    subst this
    simp only[Instr.buildSlice,Sem.run_bind,rY hu,Result.andThen_ok,yA hi]
    simp[Array.range_zero']at h1
    simp[newRow,Array.range_zero',h1]
  ·exact run_buildSlice w t e len _ zs' i z hu hi hzz (by rw[←hsz];omega) (by rw[←hsz];have:=hz.2.2.1;exact Nat.mul_ne_zero h0 (by omega)) (by rw[←hsz];rw[←hsz]at h1;exact h1)
end
theorem KF {zs:Array Value} {m len:Nat} (h:zs.size=m) (hp:0<m):((Array.range (len * m)).map (zs[· % zs.size]!)).toList=(List.replicate len zs.toList).flatten:=by
  apply List.ext_getElem?
  intro j
  have hmod:zs.toList.length=m:=by simpa using h
  rw[flat_get,hmod]
  by_cases hj:j<len * m
  · have h1:j % m<zs.size:=by have:=Nat.mod_lt j hp;omega
    rw[if_pos hj]
    simp[hj,h,getElem!_pos zs (j % m) (by omega),Array.getElem?_eq_getElem h1]
  · rw[if_neg hj]
    simp;omega
theorem KG {E:Env} {P:Program} {e sz:Nat} {zs:List C} {vs:List Value} {ts:List T} (hr:tJ E vs zs) (hl:vs.length=sz) (ht:lC P e zs=some ts):
    ∀n,Rows E sz n (fun _=>ts) (List.replicate n vs).flatten:=by
  obtain⟨h1,h2⟩:=yJ _ _ _ _ hr ht
  subst hl
  intro n
  refine⟨fun j hj=>h1,fun j o y hj hy=> ?_⟩
  have ho:o<vs.length:=by
    rcases Nat.lt_or_ge o ts.length with h|h
    ·omega
    ·simp[List.getElem?_eq_none h]at hy
  refine⟨vs[o]'(by omega), ?_,h2 o _ y (by simp) hy⟩
  rw[flat_get]
  have hlt:j * vs.length+o<n * vs.length:=by
    have:(j+1) * vs.length≤n * vs.length:=Nat.mul_le_mul_right _ hj
    rw[Nat.add_mul]at this;omega
  rw[if_pos hlt]
  have:(j * vs.length+o) % vs.length=o:=by rw[Nat.mul_comm,Nat.mul_add_mod];exact Nat.mod_eq_of_lt ho
  rw[this];simp
section
variable {P:Program} {c:Ctx} {B:Bs} {w w' :World} {ρ:Nat→Value} {o:Oper} {a:Act} {ts:List V}
theorem Et (hm:Mem c B w ρ) (ht: ∀i x,ts[i]? =some x→mg (env c w ρ B) (a.tmps.getD i undef) x) {d t e:Nat} {x y:Operand} {k k' :IntKind} {l:Int}
    (hop:o.op= .makeSlice t x y) (he:uU P t=some e) (hx:evl ts x= .c (.t (.s (.int k l)))) (hy:evl ts y= .c (.t (.s (.int k' l))))
    (hz:zeroOf P e≠ []∧(zeroOf P e).length=P.cellsOf e∧0<P.cellsOf e∧(lC P e (zeroOf P e)).isSome) (hp:0≤l∧l * P.bytesOf e≤140737488355328∧l≤140737488355328) (hd:B.get d=none):
    Leaves P c B w ρ o a (.c (.own d (P.cellsOf e) l.toNat)) (B.set d (some (.row e (P.cellsOf e) l.toNat (fun _=>zT P 4 e)))):=by
  obtain⟨i,z,hi,hzz,hr⟩:=wC (E:=env c w ρ B) hz.1
  obtain⟨hu,_⟩:=xe he
  obtain⟨zts,hzt⟩:=Option.isSome_iff_exists.1 hz.2.2.2
  have hsz:P.cellsOf e=i.size:=by simp[Program.cellsOf,hi]
  have hby:P.bytesOf e=i.bytes:=by simp[Program.bytesOf,hi]
  have hzs:z.cells.size=P.cellsOf e:=by have:=hr.1;rw[hz.2.1]at this;simpa using this
  have h:zT P 4 e=zts:=by show(fP P (zT P 3) (rz P e) (zeroOf P e)).getD []=zts;rw[show fP P (zT P 3) (rz P e) (zeroOf P e)=some zts from hzt];rfl
  obtain⟨n,rfl⟩: ∃n:Nat,l=n:=⟨l.toNat,by omega⟩
  have e1:=mh (E:=env c w ρ B) (by have:=lZ ht x;rw[hx]at this;exact this)
  have e2:=mh (E:=env c w ρ B) (by have:=lZ ht y;rw[hy]at this;exact this)
  have hb:(i.bytes:Int) * (n:Int)≤281474976710656:=by rw[←hby,Int.mul_comm];omega
  have hrun:=run_make (P:=P) w t e i z hu hi hzz k k' n n (by omega) (Int.le_refl _) hb (by omega)
  simp only[Int.toNat_natCast]at hrun
  have hfl:(madeCells z.cells (n * i.size)).toList=(List.replicate n z.cells.toList).flatten:=KF (by rw[hzs,hsz]) (by rw[←hsz];exact hz.2.2.1)
  have hn:n≤maxLen:=by simp only[maxLen];omega
  rw[h]
  simp only[Int.toNat_natCast]
  refine Fw hm (w' :=w.alloc (.cells (madeCells z.cells (n * i.size)) e)) (u:= .slice (some ⟨w.heap.size,0,none⟩) n n) (inner:=(madeCells z.cells (n * i.size)).toList) (cap:=n) hd (Grown.alloc w _)
    (World.ownsRow_lit w _ n (Nat.zero_le _) hn (by rw[size_madeCells,hsz])) (fun g hg=>by simp[fM]at hg;omega) hn ?_ ?_
  ·rw[hfl];exact KG hr (by simpa using hzs) hzt n
  · simp only[execOp,hop,e1,e2]
    exact kW hrun
theorem Mem.regrow (hm:Mem c B w ρ) (k d:Nat) (b0 b:Blk) (v:Value) (hk:B.live k=some b0) (hd:B.get d=none) (hg:w.grownBy w' (fM (ρ k)))
    (hv: ∀g,fM v=some g→fM (ρ k)=some g∨w.heap.size≤g)
    (hat:Le (env c w ρ B) (env c w' (upd ρ d v) ((B.set k none).set d (some b)))→At (env c w' (upd ρ d v) ((B.set k none).set d (some b))) d b):
    Mem c ((B.set k none).set d (some b)) w' (upd ρ d v)∧Le (env c w ρ B) (env c w' (upd ρ d v) ((B.set k none).set d (some b))):=by
  have ne: ∀q,(B.get q).isSome=true→q≠d:=fun q hq e=>by subst e;simp[hd]at hq
  have live: ∀q x,q≠d→((B.set k none).set d (some b)).live q=some x→q≠k∧B.live q=some x:=fun q x hq h=>by
    rw[Bs.live_set,if_neg (Ne.symm hq),Bs.live_set]at h
    split at h
    ·cases h
    ·rename_i h';exact⟨Ne.symm h',h⟩
  have same: ∀q,q<w.heap.size→fM (ρ k)≠some q→w'.heap[q]? =w.heap[q]? :=fun q hq h=>hg.block q hq (Ne.symm h)
  have le:Le (env c w ρ B) (env c w' (upd ρ d v) ((B.set k none).set d (some b))):=by
    refine⟨fun b' hb' => ?_,fun b' hb' =>same b' hb'.2.1 (hb'.2.2 k b0 hk),fun q hq=>vP (vP hq),fun q e s N f hq hl=> ?_,fun q t cs hq hl=> ?_⟩
    · obtain⟨h1,h2,h3⟩:=hb'
      refine⟨h1,Nat.lt_of_lt_of_le h2 hg.size,fun q x hl=> ?_⟩
      by_cases hq:q=d
      · subst hq
        rw[upd_same]
        intro e
        rcases hv _ e with h|h
        ·exact h3 k b0 hk h
        ·omega
      · rw[upd_ne _ _ hq]
        exact h3 q x (live q x hq hl).2
    ·exact⟨⟨f,(live q _ (ne q hq) hl).2⟩,upd_ne _ _ (ne q hq)⟩
    ·exact⟨⟨cs,(live q _ (ne q hq) hl).2⟩,upd_ne _ _ (ne q hq)⟩
  have apart: ∀q x g,B.live q=some x→q≠k→fM (ρ q)=some g→fM (ρ k)≠some g:=fun q x g hl hq hg hk' =>hq (hm.inj q k x b0 g hl hk hg hk')
  have insd: ∀q x,c.ins.live q=some x→q≠d:=fun q x h=>ne q (hm.kin q x h)
  refine⟨⟨?_,fun q x hl=> ?_,fun q x g hl hb=> ?_,fun q q' x x' g hl hl' hb hb' => ?_,fun q x h=>vP (vP (hm.kin q x h)),
    fun q x b' h hl=>by rw[upd_ne _ _ (insd q x h)];exact hm.fix q x b' h (live q _ (insd q x h) hl).2,hm.wld⟩,le⟩
  · have hkp:=hm.keeps
    refine⟨hg.os.trans hkp.os,hg.tape.trans hkp.tape,hg.output.trans hkp.output,Nat.le_trans hkp.size hg.size,fun q hq hp=> ?_⟩
    rw[same q (Nat.lt_of_lt_of_le hq hkp.size) (fun h=> ?_)]
    ·exact hkp.block q hq hp
    · rcases hm.own k b0 q hk h with h' |h'
      ·exact hp (.inl h')
      ·omega
  · by_cases hq:q=d
    · subst hq
      rw[Bs.live_set,if_pos rfl]at hl
      injection hl with hl
      subst hl
      exact hat le
    · obtain⟨hqk,hl'⟩:=live q x hq hl
      exact(hm.at_ q x hl').le le (upd_ne _ _ hq) (fun g hgb=>same g (vw hm hl' hgb) (apart q x g hl' hqk hgb))
  · by_cases hq:q=d
    · subst hq
      rw[upd_same]at hb
      rcases hv g hb with h|h
      ·exact hm.own k b0 g hk h
      ·exact .inr (Nat.le_trans hm.keeps.size h)
    · rw[upd_ne _ _ hq]at hb
      exact hm.own q x g (live q x hq hl).2 hb
  · by_cases hq:q=d<;>by_cases hq' :q' =d
    ·rw[hq,hq']
    · subst hq
      rw[upd_same]at hb
      rw[upd_ne _ _ hq']at hb'
      obtain⟨h1,h2⟩:=live q' x' hq' hl'
      rcases hv g hb with h|h
      ·exact absurd h (apart q' x' g h2 h1 hb')
      ·have:=vw hm h2 hb';omega
    · subst hq'
      rw[upd_same]at hb'
      rw[upd_ne _ _ hq]at hb
      obtain⟨h1,h2⟩:=live q x hq hl
      rcases hv g hb' with h|h
      ·exact absurd h (apart q x g h2 h1 hb)
      ·have:=vw hm h2 hb;omega
    · rw[upd_ne _ _ hq]at hb
      rw[upd_ne _ _ hq']at hb'
      exact hm.inj q q' x x' g (live q x hq hl).2 (live q' x' hq' hl').2 hb hb'
end
theorem D6 {P:Program} {w w' :World} {s:Sem Unit} (h:s.run P w= .ok () w'):(do s;pure .skip:Sem Next).run P w= .ok .skip w' :=by simp[go_sem,h]
theorem I5 (v:Value):v.oneCell' =kD v:=by cases v<;>rfl
theorem tJ.one {E:Env} {vs:List Value} {cs:List C} (h:tJ E vs cs): ∀v∈vs,v.oneCell' =true:=fun v hv=>by
  obtain⟨i,hi⟩:=List.getElem?_of_mem hv
  have:i<cs.length:=by
    rw[←h.1]
    rcases Nat.lt_or_ge i vs.length with h' |h'
    ·exact h'
    ·simp[List.getElem?_eq_none h']at hi
  rw[I5]
  exact(h.2 i v _ hi (List.getElem?_eq_getElem this)).one
theorem yf {α:Type} (xs ys:List α) (o j:Nat) (h:o+ys.length≤xs.length):(splice xs o ys)[j]? =if o≤j∧j<o+ys.length then ys[j - o]? else xs[j]? :=by
  unfold splice
  have ht:(xs.take o).length=o:=by simp;omega
  rw[List.append_assoc,List.getElem?_append,ht]
  by_cases h1:j<o
  ·rw[if_pos h1,if_neg (by omega),List.getElem?_take,if_pos h1]
  · rw[if_neg h1,List.getElem?_append]
    by_cases h2:j - o<ys.length
    ·rw[if_pos h2,if_pos (by omega)]
    · rw[if_neg h2,if_neg (by omega),List.getElem?_drop]
      congr 1;omega
theorem wD {α:Type} (xs ys:List α) (o:Nat) (h:o+ys.length≤xs.length):(splice xs o ys).length=xs.length:=by
  simp[splice];omega
section
variable {P:Program} {c:Ctx} {B:Bs} {w w' :World} {ρ:Nat→Value} {o:Oper} {a:Act} {ts:List V}
theorem AP {t g off e:Nat} {v:Value} {cur:Array Value} {ys:List C} {E:Env} (hr:tJ E v.cells.toList ys) (hi:(P.info? t).isSome=true) (hl:ys.length=P.cellsOf t)
    (hg:w.heap[g]? =some (.cells cur e (0,0))) (hb:off+ys.length≤cur.size):
    (Instr.storeAt t (.pointer (some ⟨g,off,none⟩)) v).run P w= .ok () (w.setRow g (splice cur.toList off v.cells.toList).toArray):=by
  obtain⟨i,hi⟩:=Option.isSome_iff_exists.1 hi
  have h1:v.cells.size=P.cellsOf t:=by rw[←hl];simpa using hr.1
  have h2:=run_storeCells_at (P:=P) g off e v.cells.toList 0 cur w hg (by have:=hr.1;omega) hr.one
  simp only[Instr.storeAt,Instr.sureAddr,storeVar,Sem.run_bind,Sem.run_pure,Result.andThen_ok,yA hi,h1,ne_eq,not_true,if_false]
  simpa[splice] using h2
theorem KH (hm:Mem c B w ρ) (ht: ∀i x,ts[i]? =some x→mg (env c w ρ B) (a.tmps.getD i undef) x) {t t' k i off:Nat} {ad x:Operand} {cs ys:List C}
    (hop:o.op= .store t ad x) (ha:evl ts ad= .c (.ptr k i off)) (hx:d9 (evl ts x)=some ys) (hl:ys.length=P.cellsOf t) (hi:(P.info? t).isSome=true) (hk:B.live k=some (.box t' cs)) (hb:off+ys.length≤cs.length):
    Leaves P c B w ρ o a .dead (B.set k (some (.box t' (splice cs off ys)))):=by
  have hv:fO (env c w ρ B) (a.eval ad) (.ptr k i off):=by have:=lZ ht ad;rw[ha]at this;exact this
  have hc:=wo (lZ ht x) hx
  obtain⟨_,ad',e1,h1,_⟩:=hv
  obtain⟨_,g,e2,rfl⟩:=h1 t' cs hk
  obtain⟨g',cur,e3,e4,e5,e6⟩:=hm.at_ k _ hk
  have hgg:g=g' :=by have e2:=e2.symm.trans e3;injection e2 with e2;injection e2 with e2;injection e2
  subst hgg
  have hr:=AP (P:=P) hc hi hl e4 (by rw[e5];exact hb)
  have hcl:(a.eval x).cells.toList.length=ys.length:=hc.1
  obtain ⟨hm',le⟩:=hm.write (w' :=w.setRow g (splice cur.toList off (a.eval x).cells.toList).toArray) k g (.box t' cs) (.box t' (splice cs off ys)) hk rfl (by simp only[env]at e3;rw[e3];rfl) ⟨rfl,rfl,rfl⟩ (by simp) (fun q hq=>setRow_other w g q _ hq)
    (fun le=>⟨g,_,e3,setRow_heap w g cur _ t' (0,0) e4,by
        simp only[List.size_toArray]
        rw[wD _ _ _ (by rw[hcl];simp;omega),wD _ _ _ hb];simpa using e5,fun j u y hu hy=>by
        rw[List.getElem?_toArray,yf _ _ _ _ (by rw[hcl];simp;omega)]at hu
        rw[yf _ _ _ _ hb]at hy
        rw[hcl]at hu
        split at hu
        · rename_i hh
          rw[if_pos hh]at hy
          exact fO.le le (hc.2 _ u y hu hy)
        · rename_i hh
          rw[if_neg hh]at hy
          exact fO.le le (e6 j u y (by simpa using hu) hy)⟩)
  exact⟨.skip,_,_,by simp only[execOp,hop,e1];exact D6 hr, .inr ⟨rfl,rfl⟩,hm',le⟩
theorem KI (hm:Mem c B w ρ) (ht: ∀i x,ts[i]? =some x→mg (env c w ρ B) (a.tmps.getD i undef) x) {t e sz n k i off:Nat} {f:Nat→List T} {ad x:Operand} {ys:List C} {us:List T}
    (hop:o.op= .store t ad x) (ha:evl ts ad= .c (.ptr k i off)) (hx:d9 (evl ts x)=some ys) (hl:ys.length=P.cellsOf t) (hi:(P.info? t).isSome=true) (hk:B.live k=some (.row e sz n f))
    (hu:lC P t ys=some us) (hb:off+ys.length≤sz):
    Leaves P c B w ρ o a .dead (B.set k (some (.row e sz n (iE f i (splice (f i) off us))))):=by
  have hv:fO (env c w ρ B) (a.eval ad) (.ptr k i off):=by have:=lZ ht ad;rw[ha]at this;exact this
  have hc:=wo (lZ ht x) hx
  obtain⟨_,ad',e1,_,h1⟩:=hv
  obtain⟨hin,g,cap,e2,rfl⟩:=h1 e sz n f hk
  obtain⟨inner,ho,hrl,hrc⟩:=yO.1 (hm.at_ k _ hk)
  simp only[env]at ho e2
  obtain⟨hil,hor⟩:=ho
  rw[e2]at hor
  rcases hor with⟨h,_⟩|⟨g',cap',cur,e3,_,e4,e5,e6,e7,e8⟩
  ·cases h
  injection e3 with e3 _ e9
  injection e3 with e3
  injection e3 with e3 _ _
  subst e3
  subst e9
  have hlt:i * sz+sz≤n * sz:=by
    have:(i+1) * sz≤n * sz:=Nat.mul_le_mul_right _ hin
    rw[Nat.add_mul]at this;omega
  have hcap:n * sz≤cap * sz:=Nat.mul_le_mul_right _ e5
  have hr:=AP (P:=P) (off:=i * sz+off) hc hi hl e4 (by rw[e7];omega)
  have hcl:(a.eval x).cells.toList.length=ys.length:=hc.1
  obtain⟨k1,k2⟩:=yJ _ _ _ _ hc hu
  have husl:us.length=ys.length:=by rw[k1,hcl]
  have hfi:=hrl i hin
  have hcurl:cur.toList.length=cap * sz:=by simpa using e7
  obtain ⟨hm',le⟩:=hm.write (w' :=w.setRow g (splice cur.toList (i * sz+off) (a.eval x).cells.toList).toArray) k g (.row e sz n f) (.row e sz n (iE f i (splice (f i) off us))) hk ⟨rfl,rfl,rfl⟩ (by rw[e2];rfl) ⟨rfl,rfl,rfl⟩ (by simp) (fun q hq=>setRow_other w g q _ hq)
    (fun le =>by
      refine yO.2 ⟨(splice cur.toList (i * sz+off) (a.eval x).cells.toList).take (n * sz), ?_, ?_⟩
      · simp only[env]
        refine⟨by rw[List.length_take,wD _ _ _ (by rw[hcl,hcurl];omega),hcurl];omega, .inr ⟨g,cap,_,e2,Nat.zero_le _,setRow_heap w g cur _ e (0,0) e4,e5,e6, ?_,by simp⟩⟩
        simp only[List.size_toArray]
        rw[wD _ _ _ (by rw[hcl,hcurl];omega),hcurl]
      · refine ⟨fun j hj=> ?_,fun j q y hj hy=> ?_⟩
        · unfold iE;split
          ·rw[wD _ _ _ (by rw[husl,hfi];exact hb)];exact hfi
          ·exact hrl j hj
        · have hq:q<sz:=by
            have hlen:(iE f i (splice (f i) off us) j).length=sz:=by
              unfold iE;split
              ·rw[wD _ _ _ (by rw[husl,hfi];exact hb)];exact hfi
              ·exact hrl j hj
            rcases Nat.lt_or_ge q (iE f i (splice (f i) off us) j).length with h|h
            ·omega
            ·simp[List.getElem?_eq_none h]at hy
          have hjn:j * sz+q<n * sz:=by
            have:(j+1) * sz≤n * sz:=Nat.mul_le_mul_right _ hj
            rw[Nat.add_mul]at this;omega
          rw[List.getElem?_take,if_pos hjn,yf _ _ _ _ (by rw[hcl,hcurl];omega),hcl]
          have old: ∀y,(f j)[q]? =some y→∃x,cur.toList[j * sz+q]? =some x∧RepT w (free c w ρ B) x y:=fun y hy=>by
            obtain⟨x,hx,hr⟩:=hrc j q y hj hy
            rw[←e8,List.getElem?_take,if_pos hjn]at hx
            exact⟨x,hx,hr⟩
          unfold iE at hy
          split at hy
          · rename_i hji
            subst hji
            rw[yf _ _ _ _ (by rw[husl,hfi];exact hb),husl]at hy
            split at hy
            · rename_i hh
              rw[if_pos (by omega)]
              have hlt2:q - off<(a.eval x).cells.toList.length:=by omega
              refine⟨(a.eval x).cells.toList[q - off], ?_,RepT.le le (k2 (q - off) _ y (by simp) hy)⟩
              rw[show j * sz+q - (j * sz+off)=q - off by omega];simp
            · rename_i hh
              rw[if_neg (by omega)]
              obtain⟨x,hx,hr⟩:=old y hy
              exact⟨x,hx,RepT.le le hr⟩
          · rename_i hji
            have: ¬(i * sz+off≤j * sz+q∧j * sz+q<i * sz+off+ys.length):=by
              rintro⟨q1,q2⟩
              rcases Nat.lt_or_gt_of_ne hji with h|h
              · have:(j+1) * sz≤i * sz:=Nat.mul_le_mul_right _ h
                rw[Nat.add_mul]at this;omega
              · have:(i+1) * sz≤j * sz:=Nat.mul_le_mul_right _ h
                rw[Nat.add_mul]at this;omega
            rw[if_neg this]
            obtain⟨x,hx,hr⟩:=old y hy
            exact⟨x,hx,RepT.le le hr⟩)
  exact⟨.skip,_,_,by simp only[execOp,hop,e1];exact D6 hr, .inr ⟨rfl,rfl⟩,hm',le⟩
end
theorem Rows.one {E:Env} {sz n:Nat} {f:Nat→List T} {inner:List Value} (h:Rows E sz n f inner) (hl:inner.length=n * sz): ∀u∈inner,u.oneCell' =true:=fun u hu=>by
  obtain⟨i,hi⟩:=List.getElem?_of_mem hu
  have hlt:i<n * sz:=by
    rw[←hl]
    rcases Nat.lt_or_ge i inner.length with h' |h'
    ·exact h'
    ·simp[List.getElem?_eq_none h']at hi
  have hp : 0 < sz := by rcases Nat.eq_zero_or_pos sz with h|h;·subst h;simp at hlt
                         ·exact h
  have h1:i / sz<n:=Nat.div_lt_of_lt_mul (by rw[Nat.mul_comm];exact hlt)
  have h2:i % sz<sz:=Nat.mod_lt _ hp
  have h3:=h.1 _ h1
  obtain⟨x,hx,hr⟩:=h.2 (i / sz) (i % sz) _ h1 (List.getElem?_eq_getElem (by rw[h3];exact h2))
  rw[show i / sz * sz+i % sz=i by rw[Nat.mul_comm];exact Nat.div_add_mod _ _,hi]at hx
  injection hx with hx
  subst hx
  rw[I5];exact hr.one
theorem I6 {E:Env} {v:Value} {e sz n:Nat} {f:Nat→List T} (h:RepT E.w E.A v (.sl e sz n f)):
    ∃ad cp news,v= .slice ad n cp∧news.length=n * sz∧(∀(j:Nat) (u:Value),news[j]? =some u→∃b,ad=some b∧E.w.cell? (b.add j)=some u)∧Rows E sz n f news∧(0<n→ad.isSome=true):=by
  obtain⟨ad,cp,rfl,h0,h1,hs,hl,hc,hb⟩:=RepT.sl_inv h
  have key: ∀j o,j<n→o<sz→∃b x y,ad=some b∧E.w.cell? (b.add (j * sz+o))=some x∧(f j)[o]? =some y∧RepT E.w E.A x y:=fun j o hj ho=>by
    have:=hl j hj
    obtain⟨b,x,h1,h2,h3⟩:=hc j o _ hj (List.getElem?_eq_getElem (by omega:o<(f j).length))
    exact⟨b,x,_,h1,h2,List.getElem?_eq_getElem (by omega),h3⟩
  let val:Nat→Value:=fun q=>((ad.map fun b=>E.w.cell? (b.add q)).join).getD undef
  refine⟨ad,cp,(List.range (n * sz)).map val,rfl,by simp,fun j u hu=> ?_,⟨hl,fun j o y hj hy=> ?_⟩,fun h=>hs (.inl h)⟩
  · simp only[List.getElem?_map,Option.map_eq_some_iff]at hu
    obtain⟨q,hq,rfl⟩:=hu
    have hlt:j<n * sz:=by
      rcases Nat.lt_or_ge j (n * sz)with h|h
      ·exact h
      ·simp[List.getElem?_eq_none,h]at hq
    rw[List.getElem?_range hlt]at hq
    injection hq with hq
    subst hq
    have hp : 0 < sz := by rcases Nat.eq_zero_or_pos sz with h|h;·subst h;simp at hlt
                           ·exact h
    obtain⟨b,x,y,e1,e2,_,_⟩:=key (j / sz) (j % sz) (Nat.div_lt_of_lt_mul (by rw[Nat.mul_comm];exact hlt)) (Nat.mod_lt _ hp)
    rw[show j / sz * sz+j % sz=j by rw[Nat.mul_comm];exact Nat.div_add_mod _ _]at e2
    exact⟨b,e1,by simp[val,e1,e2]⟩
  · have ho:o<sz:=by
      rw[←hl j hj]
      rcases Nat.lt_or_ge o (f j).length with h|h
      ·exact h
      ·simp[List.getElem?_eq_none h]at hy
    obtain⟨b,x,y',e1,e2,e3,e4⟩:=key j o hj ho
    rw[hy]at e3
    injection e3 with e3
    subst e3
    have hlt:j * sz+o<n * sz:=by
      have:(j+1) * sz≤n * sz:=Nat.mul_le_mul_right _ hj
      rw[Nat.add_mul]at this;omega
    exact⟨x,by rw[List.getElem?_map,List.getElem?_range hlt];simp[val,e1,e2],e4⟩
theorem Jz {w:World} {e sz N n c:Nat} {ad:Option Addr} {inner:List Value} (h:w.ownsRow 0 e sz (.slice ad N c) N inner) (hn:n≤N):w.ownsRow 0 e sz (.slice ad n c) n (inner.take (n * sz)):=by
  have hle:n * sz≤N * sz:=Nat.mul_le_mul_right _ hn
  refine⟨by rw[List.length_take,h.1];omega, ?_⟩
  rcases h.2 with⟨h1,h2⟩|⟨g,cap,cur,h1,h2,h3,h4,h5,h6,h7⟩
  · injection h1 with h1 h3 h4
    subst h1;subst h4
    exact .inl ⟨by rw[show n=0 by omega],by omega⟩
  · injection h1 with h1 _ h8
    subst h1;subst h8
    exact .inr ⟨g,c,cur,rfl,h2,h3,by omega,h5,h6,by rw[←h7,List.take_take,Nat.min_eq_left hle]⟩
section
variable {P:Program} {c:Ctx} {B:Bs} {w w' :World} {ρ:Nat→Value} {o:Oper} {a:Act} {ts:List V}
theorem Bw (hm:Mem c B w ρ) {v:Value} {k s n:Nat} {e N:Nat} {f:Nat→List T} (hv:fO (env c w ρ B) v (.own k s n)) (hk:B.live k=some (.row e s N f)):
    ∃ad cp inner,v= .slice ad n cp∧w.ownsRow 0 e s v n inner∧Rows (env c w ρ B) s n f inner∧fM v=fM (ρ k)∧n≤N:=by
  obtain⟨_,ad,cp,rfl,h1,h2,h3,h4,h5⟩:=hv
  obtain⟨_,hN,hr⟩:=h5 e s N f hk
  obtain⟨inner,ho,hrows⟩:=yO.1 (hm.at_ k _ hk)
  simp only[env]at ho hr
  rw[hr]at ho
  refine⟨ad,cp,_,rfl,Jz ho hN,⟨fun j hj=>hrows.1 j (by omega),fun j q y hj hy=> ?_⟩,by rw[hr];cases ad<;>rfl,hN⟩
  obtain⟨x,hx,hr'⟩:=hrows.2 j q y (by omega) hy
  have hq:q<s:=by
    rw[←hrows.1 j (by omega)]
    rcases Nat.lt_or_ge q (f j).length with h|h
    ·exact h
    ·simp[List.getElem?_eq_none h]at hy
  have hlt:j * s+q<n * s:=by
    have:(j+1) * s≤n * s:=Nat.mul_le_mul_right _ hj
    rw[Nat.add_mul]at this;omega
  exact⟨x,by rw[List.getElem?_take,if_pos hlt];exact hx,hr'⟩
theorem zD (hm:Mem c B w ρ) {v:Value} {x:V} {e sz m:Nat} {g:Nat→List T} (hv:mg (env c w ρ B) v x) (h:rowsOf P e sz B.live x=some (m,g)):
    ∃ad cp news,v= .slice ad m cp∧news.length=m * sz∧(∀(j:Nat) (u:Value),news[j]? =some u→∃b,ad=some b∧w.cell? (b.add j)=some u)∧Rows (env c w ρ B) sz m g news∧(0<m→ad.isSome=true):=by
  unfold rowsOf at h
  split at h
  · rename_i k s n
    split at h
    · rename_i e' s' N f hk
      split at h<;>simp only[Option.some.injEq,Prod.mk.injEq,reduceCtorEq]at h
      rename_i hs
      obtain⟨rfl,rfl⟩:=h
      obtain⟨rfl,rfl⟩:=hs
      obtain⟨ad,cp,inner,rfl,h1,h2,h3,h4⟩:=Bw hm (show fO (env c w ρ B) v (.own k _ n) from hv) hk
      refine⟨ad,cp,inner,rfl,h1.1,fun j u hu=> ?_,h2,fun hp=> ?_⟩
      · rcases h1.2 with⟨h5,h6⟩|⟨g,cap,cur,h5,_⟩
        ·subst h6;have:=h1.1;simp at this;subst this;simp at hu
        · injection h5 with h5 _ _
          subst h5
          exact⟨_,rfl,h1.cells rfl j u hu⟩
      · rcases h1.2 with⟨h5,h6⟩|⟨g,cap,cur,h5,_⟩
        ·omega
        · injection h5 with h5 _ _
          subst h5;rfl
    ·simp at h
  · rename_i e' s n f
    split at h<;>simp only[Option.some.injEq,Prod.mk.injEq,reduceCtorEq]at h
    rename_i hs
    obtain⟨rfl,rfl⟩:=h
    subst hs
    exact I6 (E:=env c w ρ B) hv
  ·simp at h
theorem F7 {E:Env} {sz n m:Nat} {f g:Nat→List T} {xs ys:List Value} (hf:Rows E sz n f xs) (hg:Rows E sz m g ys) (hx:xs.length=n * sz):Rows E sz (n+m) (uk n f g) (xs++ys):=by
  refine⟨fun j hj=> ?_,fun j o y hj hy=> ?_⟩
  · unfold uk;split
    ·rename_i h;exact hf.1 j h
    ·exact hg.1 _ (by omega)
  · unfold uk at hy
    split at hy
    · rename_i h
      obtain⟨x,h1,h2⟩:=hf.2 j o y h hy
      refine⟨x, ?_,h2⟩
      rw[List.getElem?_append_left]
      ·exact h1
      · rcases Nat.lt_or_ge (j * sz+o) xs.length with h' |h'
        ·exact h'
        ·simp[List.getElem?_eq_none h']at h1
    · rename_i h
      obtain⟨x,h1,h2⟩:=hg.2 (j - n) o y (by omega) hy
      refine⟨x, ?_,h2⟩
      have hle:n * sz≤j * sz:=Nat.mul_le_mul_right _ (by omega)
      rw[List.getElem?_append_right (by rw[hx];omega),hx,show j * sz+o - n * sz=(j - n) * sz+o by rw[Nat.sub_mul];omega]
      exact h1
theorem AQ {t e n m:Nat} {i:TypeInfo} {z:Value} {ty:TypeId} {v u:Value} {xs:List Value} {news:List Value} {ad:Option Addr} {cp:Nat}
    (hu:P.underlying t=some (.slice e)) (hi:P.info? e=some i) (hzz:i.zero=some z) (hzs:z.cells.size=P.cellsOf e) (hp:0<P.cellsOf e) (hown:w.ownsRow 0 e (P.cellsOf e) v n xs)
    (hx:u= .slice ad m cp) (hl:news.length=m * P.cellsOf e) (hc: ∀(j:Nat) (u:Value),news[j]? =some u→∃b,ad=some b∧w.cell? (b.add j)=some u) (h1: ∀u∈news,u.oneCell' =true) (hs:0<m→ad.isSome=true)
    (h63:n+m≤maxLen) (hb:(n+m) * P.bytesOf e≤140737488355328):
    ∃v' w',(Builtin.append_ #[t,t] ty #[v,u]).run P w= .ok v' w' ∧w'.ownsRow 0 e (P.cellsOf e) v' (n+m) (xs++news)∧w.grownBy w' v.ownBlock∧(v'.ownBlock=v.ownBlock∨v'.ownBlock=some w.heap.size):=by
  have hsz:i.size=P.cellsOf e:=by simp[Program.cellsOf,hi]
  have hby:i.bytes=P.bytesOf e:=by simp[Program.bytesOf,hi]
  subst hx
  cases ad with
  | some b=>
    obtain⟨v',w',h2,h3,h4,_,h5⟩:=run_append_own_at (P:=P) w 0 t ty e i z (P.cellsOf e) (P.bytesOf e) hu hi hzz hsz hby hzs hp v n xs hown b m cp news hl
      (fun j u hj=>let ⟨b',h1,h2⟩:=hc j u hj;by injection h1 with h1;subst h1;exact h2) h1 h63 hb (Nat.zero_le _)
    exact⟨v',w',h2,h3,h4,h5⟩
  | none=>
    have hm : m = 0 := by rcases Nat.eq_zero_or_pos m with h|h;·exact h
                          ·have:=hs h;simp at this
    subst hm
    have:news= []:=by simpa using hl
    subst this
    have hr:(Builtin.append_ #[t,t] ty #[v, .slice none 0 cp]).run P w= .ok v w:=by
      rcases hown.2 with⟨rfl,rfl⟩|⟨g,cap,cur,rfl,_,_,hnc,_⟩
      ·simp[Builtin.append_,run_underlying hu,sizeOf,typeInfo,hi,Builtin.lenOf,Builtin.firstCells]
      ·simp[Builtin.append_,run_underlying hu,sizeOf,typeInfo,hi,Builtin.lenOf,Builtin.firstCells,hnc,storeCells]
    exact⟨v,w,hr,by simpa using hown,⟨rfl,rfl,rfl,Nat.le_refl _,fun _ _ _=>rfl⟩, .inl rfl⟩
end
section
variable {P:Program} {c:Ctx} {B:Bs} {w w' :World} {ρ:Nat→Value} {o:Oper} {a:Act} {ts:List V}
theorem D7 {cl:Call} {b:Builtin} {n:Next} {w' :World} (hop:o.op= .call cl) (hb:cl.callee= .builtin b)
    (hv:(builtin b cl.argTypes o.type (cl.args.map fun| .const _=>true|_=>false) (cl.args.map a.eval)).run P w= .ok n w'):(execOp a.eval o).run P w= .ok n w' :=by
  simp only[execOp,hop,resolve,hb,Sem.run_bind,Sem.run_pure,Result.andThen_ok,invoke]
  exact hv
theorem append_nil (hm:Mem c B w ρ) (ht: ∀i x,ts[i]? =some x→mg (env c w ρ B) (a.tmps.getD i undef) x) {cl:Call} {s x:Operand} {d t e m:Nat} {g:Nat→List T}
    (hop:o.op= .call cl) (hcal:cl.callee= .builtin .append) (hargs:cl.args= #[s,x]) (hty:cl.argTypes= #[t,t]) (he:uU P t=some e) (hz:zeroOf P e≠ []∧0<P.cellsOf e) (hzl:(zeroOf P e).length=P.cellsOf e)
    (hr:rowsOf P e (P.cellsOf e) B.live (evl ts x)=some (m,g)) (hs:evl ts s= .c .nil) (hp:m≤maxLen∧m * P.bytesOf e≤140737488355328) (hd:B.get d=none):
    Leaves P c B w ρ o a (.c (.own d (P.cellsOf e) m)) (B.set d (some (.row e (P.cellsOf e) m (uk 0 (fun _=> []) g)))):=by
  obtain⟨i,z,hi,hzz,hrz⟩:=wC (E:=env c w ρ B) hz.1
  obtain⟨hu,_⟩:=xe he
  have hzs:z.cells.size=P.cellsOf e:=by have:=hrz.1;rw[hzl]at this;simpa using this
  obtain⟨ad,cp,news,e1,hl,hc,hrows,hss⟩:=zD hm (lZ ht x) hr
  have e2:a.eval s= .slice none 0 0:=by have:=lZ ht s;rw[hs]at this;exact this
  obtain⟨v',w',h1,h2,h3,h4⟩:=AQ (ty:=o.type) hu hi hzz hzs hz.2 (World.ownsRow_nil w 0 e (P.cellsOf e)) e1 hl hc (hrows.one hl) hss (by omega) (by rw[Nat.zero_add];exact hp.2)
  rw[Nat.zero_add,List.nil_append]at h2
  refine Fw (cap:=0) hm (w' :=w') (u:=v') (inner:=news) hd ⟨h3.os,h3.tape,h3.output,h3.size,fun k hk=>h3.block k hk (by simp[Value.ownBlock])⟩ h2 (fun g' hg' => ?_) hp.1 ?_ ?_
  · rw[←own_blk h2]at hg'
    rcases h4 with h4|h4
    ·rw[h4]at hg';simp[Value.ownBlock]at hg'
    ·rw[h4]at hg';injection hg' with hg';omega
  · have:=F7 (n:=0) (f:=fun _=> []) (xs:= []) ⟨fun j hj=>by omega,fun j o y hj=>by omega⟩ hrows (by simp)
    simpa using this
  ·exact D7 hop hcal (by simp only[builtin,hargs,hty,List.map_toArray,List.map_cons,List.map_nil,e2];exact kW h1)
theorem JA (hm:Mem c B w ρ) (ht: ∀i x,ts[i]? =some x→mg (env c w ρ B) (a.tmps.getD i undef) x) {cl:Call} {s x:Operand} {d t e m k n N:Nat} {f g:Nat→List T}
    (hop:o.op= .call cl) (hcal:cl.callee= .builtin .append) (hargs:cl.args= #[s,x]) (hty:cl.argTypes= #[t,t]) (he:uU P t=some e) (hz:zeroOf P e≠ []∧0<P.cellsOf e) (hzl:(zeroOf P e).length=P.cellsOf e)
    (hr:rowsOf P e (P.cellsOf e) B.live (evl ts x)=some (m,g)) (hs:evl ts s= .c (.own k (P.cellsOf e) n)) (hk:B.live k=some (.row e (P.cellsOf e) N f)) (hp:n+m≤maxLen∧(n+m) * P.bytesOf e≤140737488355328) (hd:B.get d=none):
    Leaves P c B w ρ o a (.c (.own d (P.cellsOf e) (n+m))) ((B.set k none).set d (some (.row e (P.cellsOf e) (n+m) (uk n f g)))):=by
  obtain⟨i,z,hi,hzz,hrz⟩:=wC (E:=env c w ρ B) hz.1
  obtain⟨hu,_⟩:=xe he
  have hzs:z.cells.size=P.cellsOf e:=by have:=hrz.1;rw[hzl]at this;simpa using this
  obtain⟨ad,cp,news,e1,hl,hc,hrows,hss⟩:=zD hm (lZ ht x) hr
  have hv:fO (env c w ρ B) (a.eval s) (.own k (P.cellsOf e) n):=by have:=lZ ht s;rw[hs]at this;exact this
  obtain⟨ad',cp',inner,e2,ho,j,hblk,hN⟩:=Bw hm hv hk
  obtain⟨v',w',h1,h2,h3,h4⟩:=AQ (ty:=o.type) hu hi hzz hzs hz.2 ho e1 hl hc (hrows.one hl) hss hp.1 hp.2
  have hob:(a.eval s).ownBlock=fM (ρ k):=by rw[own_blk ho];exact hblk
  have hvb: ∀g',fM v' =some g' →fM (ρ k)=some g' ∨w.heap.size≤g' :=fun g' hg' =>by
    rw[←own_blk h2]at hg'
    rcases h4 with h4|h4
    ·rw[h4,hob]at hg';exact .inl hg'
    ·rw[h4]at hg';injection hg' with hg';exact .inr (by omega)
  obtain⟨hm',le⟩:=hm.regrow k d (.row e (P.cellsOf e) N f) (.row e (P.cellsOf e) (n+m) (uk n f g)) v' hk hd (by rw[←hob];exact h3) hvb
    (fun le=>yO.2 ⟨inner++news,by show World.ownsRow _ _ _ _ (upd ρ d v' d) _ _;rw[upd_same];exact h2,F7 (j.le le) (hrows.le le) ho.1⟩)
  refine⟨_,_,_,D7 hop hcal (by simp only[builtin,hargs,hty,List.map_toArray,List.map_cons,List.map_nil];exact kW h1), .inl ⟨_,rfl, ?_⟩,hm',le⟩
  have hs' : ∃ad cp,v' = .slice ad (n+m) cp∧n+m≤cp∧(0<n+m→ad.isSome=true):=by
    rcases h2.2 with⟨rfl,h0⟩|⟨g,cp,cur,rfl,_,_,h,_⟩
    ·exact⟨none,0,by rw[h0],by omega,by omega⟩
    ·exact⟨_,cp,rfl,h,fun _=>rfl⟩
  obtain⟨p,cp2,rfl,q1,q2⟩:=hs'
  refine⟨?_,p,cp2,rfl,q1,hp.1,q2,fun t cs hl=> ?_,fun e' s N f' hl=> ?_⟩
  · show(((B.set k none).set d _).get d).isSome=true
    rw[Bs.get_set,if_pos rfl];rfl
  · have hl:((B.set k none).set d (some (.row e (P.cellsOf e) (n+m) (uk n f g)))).live d=some (.box t cs):=hl
    rw[Bs.live_set,if_pos rfl]at hl
    cases hl
  · have hl:((B.set k none).set d (some (.row e (P.cellsOf e) (n+m) (uk n f g)))).live d=some (.row e' s N f'):=hl
    rw[Bs.live_set,if_pos rfl]at hl
    injection hl with hl
    injection hl with _ h3 h4 _
    exact⟨h3.symm,by omega,by show upd ρ d _ d=_;rw[upd_same,←h4]⟩
theorem JB (hm:Mem c B w ρ) (ht: ∀i x,ts[i]? =some x→mg (env c w ρ B) (a.tmps.getD i undef) x) {d:Nat} {p:Prop} {v:V} {ups:List (Nat×Option Blk)} {nw:Option Blk}
    (h:iw P o.op (evl ts) B.live d=some (p,v,ups,nw)) (hp:p) (hd:nw≠none→B.get d=none):Leaves P c B w ρ o a v (Jy B d ups nw):=by
  cases hop:o.op with
  | alloc e=>
    simp only[hop,iw]at h
    split at h<;>simp only[Option.some.injEq,Prod.mk.injEq,reduceCtorEq]at h
    obtain⟨_,rfl,rfl,rfl⟩:=h
    exact IM hm hop (by assumption) (hd (by simp))
  | box e x=>
    simp only[hop,iw]at h
    split at h<;>simp only[Option.some.injEq,Prod.mk.injEq,reduceCtorEq]at h
    obtain⟨_,rfl,rfl,rfl⟩:=h
    exact IP hm ht hop (by assumption) (hd (by simp))
  | buildSlice t len ps=>
    simp only[hop,iw]at h
    split at h
    · rename_i e he
      split at h
      · rename_i hz
        split at h
        · rename_i cs hf
          split at h<;>simp only[Option.some.injEq,Prod.mk.injEq,reduceCtorEq]at h
          rename_i rows hc
          obtain⟨_,rfl,rfl,rfl⟩:=h
          exact D5 hm ht hop he hz hf hc (hd (by simp))
        ·simp at h
      ·simp at h
    ·simp at h
  | makeSlice t x y=>
    simp only[hop,iw]at h
    split at h
    · rename_i e k l k' l' he hx hy
      split at h<;>simp only[Option.some.injEq,Prod.mk.injEq,reduceCtorEq]at h
      rename_i hz
      obtain⟨rfl,rfl,rfl,rfl⟩:=h
      obtain⟨z1,z2,z3,z4,rfl⟩:=hz
      exact Et hm ht hop he hx hy ⟨z1,z2,z3,z4⟩ hp (hd (by simp))
    ·simp at h
  | store t ad x=>
    simp only[hop,iw]at h
    split at h
    · rename_i k i off ys ha hx
      split at h
      · rename_i hl
        split at h
        · rename_i t' cs hk
          split at h<;>simp only[Option.some.injEq,Prod.mk.injEq,reduceCtorEq]at h
          rename_i hb
          obtain⟨_,rfl,rfl,rfl⟩:=h
          exact KH hm ht hop ha hx hl.1 hl.2 hk hb
        · rename_i e sz n f hk
          split at h
          · rename_i us hu
            split at h<;>simp only[Option.some.injEq,Prod.mk.injEq,reduceCtorEq]at h
            rename_i hb
            obtain⟨_,rfl,rfl,rfl⟩:=h
            exact KI hm ht hop ha hx hl.1 hl.2 hk hu hb
          ·simp at h
        ·simp at h
      ·simp at h
    ·simp at h
  | call cl =>
    simp only[hop,iw]at h
    split at h
    · rename_i s x t t' hcal hargs hty
      have hargs' :cl.args= #[s,x]:=by rw[←Array.toArray_toList (xs:=cl.args),hargs]
      have hty' :cl.argTypes= #[t,t']:=by rw[←Array.toArray_toList (xs:=cl.argTypes),hty]
      split at h
      · rename_i htt
        subst htt
        split at h
        · rename_i e he
          split at h
          · rename_i hz
            split at h
            · rename_i m g hr
              split at h
              · rename_i hs
                simp only[Option.some.injEq,Prod.mk.injEq]at h
                obtain⟨rfl,rfl,rfl,rfl⟩:=h
                exact append_nil hm ht hop hcal hargs' hty' he ⟨hz.1,hz.2.1⟩ hz.2.2.2 hr hs hp (hd (by simp))
              · rename_i k s' n hs
                split at h
                · rename_i e' s2 N f hk
                  split at h<;>simp only[Option.some.injEq,Prod.mk.injEq,reduceCtorEq]at h
                  rename_i hh
                  obtain⟨rfl,rfl,rfl,rfl⟩:=h
                  obtain⟨rfl,rfl,rfl⟩:=hh
                  exact JA hm ht hop hcal hargs' hty' he ⟨hz.1,hz.2.1⟩ hz.2.2.2 hr hs hk hp (hd (by simp))
                ·simp at h
              ·simp at h
            ·simp at h
          ·simp at h
        ·simp at h
      ·simp at h
    ·simp at h
  |_=>simp[hop,iw]at h
end
def Ct (P:Program) (g:FuncId) (args:List V) (ins:Bs) (R:V→Bs→Prop):Prop:=
  ∀ (w0:World) (G:Nat→Prop) (ρ0:Nat→Value) (wild:Nat→Prop) (cargs:Array Value),Mem ⟨w0,G,ins,ρ0,wild⟩ ins w0 ρ0→cargs.size=args.length→
    (∀(i:Nat) (x:V),args[i]? =some x→mg (env ⟨w0,G,ins,ρ0,wild⟩ w0 ρ0 ins) (cargs.getD i undef) x)→
    Calls P g cargs w0 fun e w' => ∃v' res B' ρ',e= .returned v' ∧R res B' ∧Mem ⟨w0,G,ins,ρ0,wild⟩ B' w' ρ' ∧mg (env ⟨w0,G,ins,ρ0,wild⟩ w' ρ' B') v' res
theorem Ct.mono {P:Program} {g:FuncId} {args:List V} {ins:Bs} {R R' :V→Bs→Prop} (h:Ct P g args ins R) (hr: ∀r B,R r B→R' r B):Ct P g args ins R' :=
  fun w0 G ρ0 wild cargs h1 h2 h3=>(h w0 G ρ0 wild cargs h1 h2 h3).mono fun e w' ⟨v',res,B',ρ',e1,e2,e3,e4⟩=>⟨v',res,B',ρ',e1,hr _ _ e2,e3,e4⟩
def iB (ks bs:List Nat) (B:Bs):C→C→Prop
  | .t x, .t x' =>x=x'
  | .nil, .nil=>True
  | .nil, .t (.sl _ _ n _)=>n=0
  | .own k sz n, .own i sz' n' =>ks[i]? =some k∧sz=sz' ∧n=n'
  | .own k sz n, .t (.sl e sz' n' f)=>k∈bs∧sz' =sz∧n' =n∧∃N,B.live k=some (.row e sz N f)
  | .ptr k i o, .ptr q i' o' =>ks[q]? =some k∧i=i' ∧o=o'
  | .tp e r, .tp e' r' =>e=e' ∧r=r'
  | .dead, .dead=>True
  |_,_=>False
def iO (ks bs:List Nat) (B:Bs):List C→List C→Prop
  | [], []=>True
  |x::xs,y::ys=>iB ks bs B x y∧iO ks bs B xs ys
  |_,_=>False
def iW (ks bs:List Nat) (B:Bs):V→V→Prop
  |_, .dead=>True
  | .c x, .c y=>iB ks bs B x y
  | .agg xs, .agg ys=>iO ks bs B xs ys
  |_,_=>False
def dx (ks bs:List Nat) (B:Bs):List V→List V→Prop
  | [], []=>True
  |x::xs,y::ys=>iW ks bs B x y∧dx ks bs B xs ys
  |_,_=>False
def iT:C→Bool
  | .t _| .nil=>true
  |_=>false
def closedB:Blk→Bool
  | .row .. =>true
  | .box _ cs=>cs.all iT
def NoC (e:Nat):C→Prop
  | .t x=>NoTy e x
  | .tp _ _=>False
  |_=>True
def NoB (e:Nat):Blk→Prop
  | .row _ _ n f=> ∀j,j<n→∀x∈f j,NoTy e x
  | .box _ cs=> ∀x∈cs,NoC e x
def NoA (e:Nat):V→Prop
  | .c x=>NoC e x
  | .agg xs=> ∀x∈xs,NoC e x
  | .tup _=>True
  | .dead=>True
def NoV (e:Nat):V→Prop
  | .tup xs=> ∀x∈xs,NoA e x
  |x=>NoA e x
def rG:C→Bool
  | .tp _ _=>false
  |_=>true
def lS:V→Bool
  | .c x=>rG x
  | .agg xs=>xs.all rG
  |_=>true
def iQ:V→Bool
  | .tup xs=>xs.all lS
  |x=>lS x
def ren (d:Nat) (ks:List Nat) (q:Nat):Nat:=if q<100 then ks.getD q 0 else 1000 * (d+1)+q
def rH (r:Nat→Nat):C→C
  | .own k sz n=> .own (r k) sz n
  | .ptr k i o=> .ptr (r k) i o
  |x=>x
def rO (r:Nat→Nat):V→V
  | .c x=> .c (rH r x)
  | .agg xs=> .agg (xs.map (rH r))
  |x=>x
def kr (r:Nat→Nat):V→V
  | .tup xs=> .tup (xs.map (rO r))
  |x=>rO r x
def tY (r:Nat→Nat):Bs→Bs→Bs
  |B, []=>B
  |B,(q,y)::l=>tY r (B.set (r q) y) l
theorem yB {r:Nat→Nat}: ∀(l B:Bs) (k:Nat),(l.map fun p=>r p.1).Nodup→
    (∀q y,(q,y)∈l→r q=k→(tY r B l).get k=some y)∧((∀q y,(q,y)∈l→r q≠k)→(tY r B l).get k=B.get k)
  | [],B,k,_=>⟨fun _ _ h=>by simp at h,fun _=>rfl⟩
  | (q0,y0)::l,B,k,hn=>by
    simp only[List.map_cons,List.nodup_cons,List.mem_map,not_exists,not_and]at hn
    obtain⟨i1,i2⟩:=yB l (B.set (r q0) y0) k hn.2
    refine⟨fun q y hm hk=> ?_,fun h=> ?_⟩
    · rcases List.mem_cons.1 hm with h|h
      · injection h with h1 h2
        subst h1;subst h2
        show(tY r (B.set (r q) y) l).get k=_
        rw[i2 (fun q' y' h' e=>hn.1 (q',y') h' (e.trans hk.symm)),Bs.get_set,if_pos hk]
      ·exact i1 q y h hk
    · show(tY r (B.set (r q0) y0) l).get k=_
      rw[i2 (fun q y hm=>h q y (List.mem_cons_of_mem _ hm)),Bs.get_set,if_neg (h q0 y0 List.mem_cons_self)]
theorem uE: ∀ {B:Bs} {q:Nat} {y:Option Blk},B.get q=some y→(q,y)∈B
  | (k',y')::r,q,y,h=>by
    simp only[Bs.get]at h
    split at h
    ·rename_i e;injection h with h;subst e;subst h;exact List.mem_cons_self
    ·exact List.mem_cons_of_mem _ (uE h)
  | [],q,y,h=>by simp[Bs.get]at h
def dw (B:Bs):Nat→List Nat→Bs
  |_, []=> []
  |i,k::ks=>(i,B.live k)::dw B (i+1) ks
theorem Ah (B:Bs): ∀(ks:List Nat) (i q:Nat),(dw B i ks).get q=if i≤q then(ks[q - i]?).map fun k=>B.live k else none
  | [],i,q=>by simp[dw,Bs.get]
  | k ::ks,i,q=>by
    simp only[dw,Bs.get]
    by_cases h:i=q
    ·subst h;simp
    · rw[if_neg h,Ah B ks (i+1) q]
      by_cases h2:i≤q
      ·rw[if_pos h2,if_pos (by omega),show q - i=(q - (i+1))+1 by omega,List.getElem?_cons_succ]
      ·rw[if_neg h2,if_neg (by omega)]
theorem vQ (B:Bs) (ks:List Nat) (q:Nat):(dw B 0 ks).live q=(ks[q]?).bind fun k=>B.live k:=by
  unfold Bs.live
  rw[Ah]
  simp only[Nat.zero_le,if_true,Nat.sub_zero]
  cases ks[q]? <;>simp[Bs.live]
def NC (N:T→Prop):C→Prop
  | .t x=>N x
  |_=>True
def NB (N:T→Prop):Blk→Prop
  | .row _ _ n f=> ∀j,j<n→∀x∈f j,N x
  | .box _ cs=> ∀x∈cs,NC N x
theorem At.closed {E E' :Env} {N:T→Prop} {k k' :Nat} {b:Blk} (hT: ∀v x,N x→RepT E.w E.A v x→RepT E'.w E'.A v x) (hr:E'.ρ k' =E.ρ k)
    (hblk: ∀g,fM (E.ρ k)=some g→E'.w.heap[g]? =E.w.heap[g]?) (hc:closedB b=true) (hN:NB N b) (h:At E k b):At E' k' b:=by
  cases b with
  | row e sz n f=>
    obtain⟨inner,h1,h2,h3⟩:=h
    refine⟨inner,by rw[hr];exact DZ h1 hblk,h2,fun j o y hj hy=> ?_⟩
    obtain⟨x,h4,h5⟩:=h3 j o y hj hy
    exact⟨x,h4,hT _ _ (hN j hj y (List.mem_of_getElem? hy)) h5⟩
  | box t cs=>
    obtain⟨g,cur,h1,h2,h3,h4⟩:=h
    refine⟨g,cur,hr.trans h1,(hblk g (by rw[h1];rfl)).trans h2,h3,fun i x y hx hy=> ?_⟩
    have hm:=List.mem_of_getElem? hy
    have hp:=List.all_eq_true.1 (show cs.all iT=true from hc) y hm
    have h5:=h4 i x y hx hy
    cases y with
    |t y=>exact hT _ _ (hN _ hm) h5
    |nil=>exact h5
    |_=>simp[iT]at hp
section
variable {P:Program} {c:Ctx} {B:Bs} {w:World} {ρ:Nat→Value}
def rA (c:Ctx) (B:Bs) (w:World) (ρ:Nat→Value) (ks bs:List Nat):Ctx:=
  ⟨w,fun b=>free c w ρ B b∨∃k∈bs,fM (ρ k)=some b,dw B 0 ks,fun i=>ρ (ks.getD i 0),fun _=>False⟩
structure Hand (B:Bs) (ks bs:List Nat):Prop where
  nd:ks.Nodup
  few:ks.length≤100
  live: ∀k∈ks,∃b,B.live k=some b∧closedB b=true
  bor: ∀k∈bs,k∉ks∧∃e s n f,B.live k=some (.row e s n f)
theorem F8 {ks:List Nat} {e:Nat} (h:ks.length≤100):(dw B 0 ks).get (sG e)=none:=by
  rw[Ah,if_pos (Nat.zero_le _),List.getElem?_eq_none (by unfold sG;omega)];rfl
theorem wS {ks:List Nat} {i:Nat} {x:Blk} (h:(dw B 0 ks).live i=some x): ∃k,ks[i]? =some k∧ks.getD i 0=k∧B.live k=some x:=by
  rw[vQ]at h
  cases hk:ks[i]? with
  |none=>simp[hk]at h
  |some k=>rw[hk]at h;exact⟨k,rfl,by simp[List.getD_eq_getElem?_getD,hk],h⟩
theorem Cn (hm:Mem c B w ρ) {ks bs:List Nat} {b:Nat} (h:free c w ρ B b):free (rA c B w ρ ks bs) w (rA c B w ρ ks bs).ρ0 (dw B 0 ks) b:=
  ⟨.inl (.inl h),h.2.1,fun i x hl=>by
    obtain⟨k,_,h2,h3⟩:=wS hl
    show fM (ρ (ks.getD i 0))≠some b
    rw[h2];exact h.2.2 k x h3⟩
theorem I7 {N:T→Prop} (hN: ∀x,N x) (b:Blk):NB N b:=by
  cases b with
  |row=>exact fun _ _ x _=>hN x
  |box t cs=>intro x _;cases x<;>first|exact hN _|trivial
theorem Mem.start (hm : Mem c B w ρ) {ks bs:List Nat} (hh:Hand B ks bs):Mem (rA c B w ρ ks bs) (dw B 0 ks) w (rA c B w ρ ks bs).ρ0:=by
  refine⟨⟨rfl,rfl,rfl,Nat.le_refl _,fun _ _ _=>rfl⟩,fun i x hl=> ?_,fun i x g hl hg=> .inl ⟨i,x,hl,hg⟩,fun i i' x x' g hl hl' hg hg' => ?_,fun i x hl=>by have hl:(dw B 0 ks).live i=some x:=hl;rw[Bs.live_get hl];rfl,fun i x b' hl hl' => ?_,fun e he=>by rw[show((rA c B w ρ ks bs).ins.get (sG e))=none from F8 hh.few]at he;cases he⟩
  · obtain⟨k,h1,h2,h3⟩:=wS hl
    obtain⟨b,h4,h5⟩:=hh.live k (List.mem_of_getElem? h1)
    rw[h3]at h4
    injection h4 with h4
    subst h4
    exact At.closed (E:=env c w ρ B) (N:=fun _=>True) (fun v x _ hx=>hx.move (fun b hb=>Cn hm hb) (fun _ _=>rfl)) (by show ρ (ks.getD i 0)=ρ k;rw[h2]) (fun _ _=>rfl) h5 (I7 (fun _=>trivial) _) (hm.at_ k x h3)
  · obtain⟨k,h1,h2,h3⟩:=wS hl
    obtain⟨k',h1',h2',h3'⟩:=wS hl'
    have hg:fM (ρ (ks.getD i 0))=some g:=hg
    have hg' :fM (ρ (ks.getD i' 0))=some g:=hg'
    rw[h2]at hg
    rw[h2']at hg'
    have:=hm.inj k k' x x' g h3 h3' hg hg'
    subst this
    have e1 : i < ks.length := by rcases Nat.lt_or_ge i ks.length with h|h;·exact h
                                  ·simp[List.getElem?_eq_none h]at h1
    have e2 : i' < ks.length := by rcases Nat.lt_or_ge i' ks.length with h|h;·exact h
                                   ·simp[List.getElem?_eq_none h]at h1'
    exact(List.getElem?_inj e1 hh.nd).1 (h1.trans h1'.symm)
  · have hl:(dw B 0 ks).live i=some x:=hl
    rw[hl']at hl
    injection hl with hl
    subst hl
    exact⟨by cases b' <;>simp[sameShape],rfl⟩
theorem Eu (hm:Mem c B w ρ) {ks bs:List Nat} (hh:Hand B ks bs) {v:Value} {x y:C} (hv:fO (env c w ρ B) v x) (hp:iB ks bs B x y):
    fO (env (rA c B w ρ ks bs) w (rA c B w ρ ks bs).ρ0 (dw B 0 ks)) v y:=by
  have tr: ∀ {v x},RepT w (free c w ρ B) v x→RepT w (free (rA c B w ρ ks bs) w (rA c B w ρ ks bs).ρ0 (dw B 0 ks)) v x:=fun h=>h.move (fun b hb=>Cn hm hb) (fun _ _=>rfl)
  have gd: ∀ {i k},ks[i]? =some k→ks.getD i 0=k:=fun h=>by simp[List.getD_eq_getElem?_getD,h]
  have lk: ∀ {i k},ks[i]? =some k→(dw B 0 ks).live i=B.live k:=fun h=>by rw[vQ,h];rfl
  have gk: ∀ {i k},ks[i]? =some k→((dw B 0 ks).get i).isSome=true:=fun h=>by rw[Ah];simp[h]
  cases x with
  |t x=>cases y<;>simp only[iB]at hp<;>first|exact hp.elim|(subst hp;exact tr hv)
  | nil =>
    have hv:v= .slice none 0 0:=hv
    cases y with
    |nil=>exact hv
    | t y=>
      cases y with
      |s _=>simp[iB]at hp
      |mp _ _=>simp[iB]at hp
      | sl e sz n f=>
        have hp:n=0:=hp
        subst hp;subst hv
        exact .sl none 0 0 _ _ _ (by omega) (by simp) (by simp[xc]) (by simp) (by simp) (by simp)
    |_=>simp[iB]at hp
  | own k sz n=>
    cases y with
    | own i sz' n' =>
      obtain⟨h1,rfl,rfl⟩:=hp
      obtain⟨_,ad,cp,rfl,h3,h4,h5,h6,h7⟩:=hv
      refine⟨gk h1,ad,cp,rfl,h3,h4,h5,fun t cs hl=>h6 t cs ((lk h1).symm.trans hl),fun e s N f hl=> ?_⟩
      obtain⟨q1,q2,q3⟩:=h7 e s N f ((lk h1).symm.trans hl)
      exact⟨q1,q2,by show ρ (ks.getD i 0)=_;rw[gd h1];exact q3⟩
    | t y =>
      cases y with
      |s _=>simp[iB]at hp
      |mp _ _=>simp[iB]at hp
      | sl e sz' n' f=>
        obtain⟨hbk,rfl,rfl,N,hl⟩:=hp
        obtain⟨ad,cp,inner,rfl,h1,h2,h3,h4⟩:=Bw hm hv hl
        have hn:n' ≤cp∧n' ≤maxLen∧(0<n' →ad.isSome=true):=by
          obtain⟨_,ad',cp',e1,q1,q2,q3,_⟩:=hv
          injection e1 with e1 _ e2
          subst e1;subst e2
          exact⟨q1,q2,q3⟩
        have hus:xc e n' cp→ad.isSome=true:=fun hu=>by
          rcases h1.2 with⟨q3,_⟩|⟨g,cap,cur,q3,_⟩
          ·injection q3 with _ q4 q5;unfold xc at hu;omega
          ·injection q3 with q3 _ _;rw[q3];rfl
        refine .sl ad n' cp e sz' f hn.1 hn.2.1 hus h2.1 (fun j o y hj hy=> ?_) (fun b hb hp=> ?_)
        · obtain⟨x,q1,q2⟩:=h2.2 j o y hj hy
          obtain⟨b,rfl⟩:=Option.isSome_iff_exists.1 (hn.2.2 (by omega))
          refine⟨b,x,rfl, ?_,tr q2⟩
          rcases h1.2 with⟨q3,_⟩|⟨g,cap,cur,q3,_⟩
          ·cases q3
          · injection q3 with q3 _ _
            injection q3 with q3
            subst q3
            exact h1.cells rfl _ x q1
        · subst hb
          rcases h1.2 with⟨q3,_⟩|⟨g,cap,cur,q3,_,q4,_,_,q7,_⟩
          ·cases q3
          · injection q3 with q3 _ q8
            injection q3 with q3
            subst q3
            subst q8
            have hg:fM (ρ k)=some g:=by rw[←h3];rfl
            refine⟨⟨.inl (.inr ⟨k,hbk,hg⟩),(Array.getElem?_eq_some_iff.1 q4).1,fun i x hl' => ?_⟩,cur,_, .of q4, .inr ⟨rfl,rfl,by rw[q7];simp⟩⟩
            obtain⟨k',h5,h6,h7⟩:=wS hl'
            show fM (ρ (ks.getD i 0))≠some g
            rw[h6]
            intro h8
            have:=hm.inj k k' _ _ g hl h7 hg h8
            subst this
            exact(hh.bor k hbk).1 (List.mem_of_getElem? h5)
    |_=>simp[iB]at hp
  | ptr k i o=>
    cases y with
    | ptr q i' o' =>
      obtain⟨h1,rfl,rfl⟩:=hp
      obtain⟨_,ad,rfl,h3,h4⟩:=hv
      refine⟨gk h1,ad,rfl,fun t cs hl=> ?_,fun e s N f hl=> ?_⟩
      · obtain⟨q1,g,q2,q3⟩:=h3 t cs ((lk h1).symm.trans hl)
        exact⟨q1,g,by show ρ (ks.getD q 0)=_;rw[gd h1];exact q2,q3⟩
      · obtain⟨q1,g,cp,q2,q3⟩:=h4 e s N f ((lk h1).symm.trans hl)
        exact⟨q1,g,cp,by show ρ (ks.getD q 0)=_;rw[gd h1];exact q2,q3⟩
    |_=>simp[iB]at hp
  | tp e row=>
    cases y<;>simp only[iB]at hp<;>first|exact hp.elim|skip
    obtain⟨rfl,rfl⟩:=hp
    obtain⟨ad,e1,⟨hA,hb⟩,e2⟩:=hv
    refine⟨ad,e1,⟨Cn hm hA,hb⟩,fun o y hy=> ?_⟩
    obtain⟨x,q1,q3⟩:=e2 o y hy
    exact⟨x,q1,tr q3⟩
  |dead=>cases y<;>simp only[iB]at hp<;>first|exact hp.elim|exact hv
theorem Dy (hm:Mem c B w ρ) {ks bs:List Nat} (hh:Hand B ks bs): ∀(xs ys:List C),iO ks bs B xs ys→xs.length=ys.length∧∀(i:Nat) (x y:C),xs[i]? =some x→ys[i]? =some y→iB ks bs B x y
  | [], [],_=>⟨rfl,by simp⟩
  | x::xs,y::ys,h=>by
    obtain⟨i1,i2⟩:=Dy hm hh xs ys h.2
    refine⟨by simp[i1],fun i x' y' hx hy=> ?_⟩
    cases i with
    |zero=>simp at hx hy;subst hx;subst hy;exact h.1
    |succ i=>exact i2 i x' y' (by simpa using hx) (by simpa using hy)
  | [],_::_,h=>h.elim
  |_::_, [],h=>h.elim
theorem Dz (hm:Mem c B w ρ) {ks bs:List Nat} (hh:Hand B ks bs) {v:Value} {x y:V} (hv:mg (env c w ρ B) v x) (hp:iW ks bs B x y):
    mg (env (rA c B w ρ ks bs) w (rA c B w ρ ks bs).ρ0 (dw B 0 ks)) v y:=by
  cases y with
  |dead=>trivial
  |c y=>cases x<;>simp only[iW]at hp<;>first|exact hp.elim|exact Eu hm hh hv hp
  | agg ys=>
    cases x<;>simp only[iW]at hp<;>first|exact hp.elim|skip
    obtain⟨vs,e1,e2,e3⟩:=hv
    obtain⟨q1,q2⟩:=Dy hm hh _ _ hp
    refine⟨vs,e1,by omega,fun i u y hu hy=> ?_⟩
    rename_i xs
    obtain ⟨z, hz⟩ : ∃ z, xs[i]? =some z:=by
      have : i < ys.length := by rcases Nat.lt_or_ge i ys.length with h|h;·exact h
                                 ·simp[List.getElem?_eq_none h]at hy
      exact⟨_,List.getElem?_eq_getElem (by omega)⟩
    exact Eu hm hh (e3 i u z hu hz) (q2 i z y hz hy)
  |tup _=>cases x<;>simp only[iW]at hp<;>exact hp.elim
end
theorem Bz {r:Nat→Nat}: ∀ {l:Bs} {q:Nat} {y:Option Blk},(l.map fun p=>r p.1).Nodup→(q,y)∈l→l.get q=some y
  | (q0,y0)::l,q,y,hn,hm=>by
    simp only[List.map_cons,List.nodup_cons,List.mem_map,not_exists,not_and]at hn
    simp only[Bs.get]
    rcases List.mem_cons.1 hm with h|h
    ·injection h with h1 h2;subst h1;subst h2;simp
    · rw[if_neg (fun e=>hn.1 (q,y) h (by rw[e]))]
      exact Bz hn.2 h
  | [],_,_,_,hm=>by simp at hm
def uy (r:Nat→Nat) (B' :Bs) (ρ' ρ:Nat→Value) (k:Nat):Value:=match B'.find? (fun p=>r p.1==k)with|some p=>ρ' p.1|none=>ρ k
theorem Ai {r:Nat→Nat} {ρ' ρ:Nat→Value}: ∀ {l:Bs} {q:Nat} {y:Option Blk},(l.map fun p=>r p.1).Nodup→(q,y)∈l→uy r l ρ' ρ (r q)=ρ' q
  | (q0,y0)::l,q,y,hn,hm=>by
    simp only[List.map_cons,List.nodup_cons,List.mem_map,not_exists,not_and]at hn
    unfold uy
    rw[List.find?_cons]
    rcases List.mem_cons.1 hm with h|h
    ·injection h with h1 h2;subst h1;simp
    · have:(r q0==r q)=false:=by simp;exact fun e=>hn.1 (q,y) h e.symm
      rw[this]
      exact Ai hn.2 h
  | [],_,_,_,hm=>by simp at hm
theorem GV {r:Nat→Nat} {ρ' ρ:Nat→Value} {l:Bs} {k:Nat} (h: ∀q y,(q,y)∈l→r q≠k):uy r l ρ' ρ k=ρ k:=by
  unfold uy
  have:l.find? (fun p=>r p.1==k)=none:=by
    rw[List.find?_eq_none]
    intro p hp
    simpa using h p.1 p.2 hp
  rw[this]
section
variable {P:Program} {c:Ctx} {B B' :Bs} {w w' :World} {ρ ρ' :Nat→Value} {ks bs es:List Nat} {d:Nat}
structure Back (B B' :Bs) (ks bs es:List Nat) (d:Nat):Prop where
  nd:(B'.map fun p=>ren d ks p.1).Nodup
  fresh: ∀q y,(q,y)∈B' →¬q<100→B.get (ren d ks q)=none
  small: ∀q y,(q,y)∈B' →q<100→q<ks.length
  closed: ∀q b,(q,some b)∈B' →closedB b=true∧∀e∈es,NoB e b
  els: ∀k∈bs,∃e s n f,e∈es∧B.live k=some (.row e s n f)
theorem NH {es:List Nat} {b:Blk} (h: ∀e∈es,NoB e b):NB (fun x=> ∀e∈es,NoTy e x) b:=by
  cases b with
  |row e0 s n f=>exact fun j hj x hx e he=>h e he j hj x hx
  | box t cs=>
    intro x hx
    cases x with
    |t y=>exact fun e he=>h e he _ hx
    |_=>trivial
theorem Mem.after (hm:Mem c B w ρ) (hh:Hand B ks bs) (hb:Back B B' ks bs es d) (hm' :Mem (rA c B w ρ ks bs) B' w' ρ'):
    Mem c (tY (ren d ks) B B') w' (uy (ren d ks) B' ρ' ρ)∧Le (env c w ρ B) (env c w' (uy (ren d ks) B' ρ' ρ) (tY (ren d ks) B B'))∧
    (∀v x,RepT w' (free (rA c B w ρ ks bs) w' ρ' B') v x→(∀e∈es,NoTy e x)→RepT w' (free c w' (uy (ren d ks) B' ρ' ρ) (tY (ren d ks) B B')) v x):=by
  have f1: ∀ {q y},(q,y)∈B' →uy (ren d ks) B' ρ' ρ (ren d ks q)=ρ' q∧(tY (ren d ks) B B').get (ren d ks q)=some y∧B'.get q=some y:=
    fun h=>⟨Ai hb.nd h,(yB B' B _ hb.nd).1 _ _ h rfl,Bz hb.nd h⟩
  have f2: ∀ {k},(∀q y,(q,y)∈B' →ren d ks q≠k)→uy (ren d ks) B' ρ' ρ k=ρ k∧(tY (ren d ks) B B').get k=B.get k:=
    fun h=>⟨GV h,(yB B' B _ hb.nd).2 h⟩
  have di: ∀k,(∃q y,(q,y)∈B' ∧ren d ks q=k)∨∀q y,(q,y)∈B' →ren d ks q≠k:=fun k=>by
    by_cases h: ∃q y,(q,y)∈B' ∧ren d ks q=k
    ·exact .inl h
    ·exact .inr fun q y hq e=>h ⟨q,y,hq,e⟩
  have lv: ∀ {k x},(tY (ren d ks) B B').live k=some x→(∃q,(q,some x)∈B' ∧ren d ks q=k∧B'.live q=some x∧uy (ren d ks) B' ρ' ρ k=ρ' q)∨
      ((∀q y,(q,y)∈B' →ren d ks q≠k)∧B.live k=some x∧uy (ren d ks) B' ρ' ρ k=ρ k):=fun{k x} h=>by
    rcases di k with⟨q,y,hq,rfl⟩|hno
    · obtain⟨h1,h2,h3⟩:=f1 hq
      have h4:=Bs.live_get h
      rw[h2]at h4
      injection h4 with h4
      subst h4
      exact .inl ⟨q,hq,rfl,by unfold Bs.live;rw[h3];rfl,h1⟩
    · obtain⟨h1,h2⟩:=f2 hno
      exact .inr ⟨hno,by unfold Bs.live at h⊢;rw[←h2];exact h,h1⟩
  have kmem: ∀ {q y},(q,y)∈B' →q<100→∃k,ks[q]? =some k∧ren d ks q=k∧∃b,B.live k=some b:=fun{q y} hq h=>by
    have hl:=hb.small q y hq h
    refine⟨ks[q],List.getElem?_eq_getElem hl,by simp[ren,h,List.getD_eq_getElem?_getD,hl], ?_⟩
    obtain⟨b,h1,_⟩:=hh.live ks[q] (List.getElem_mem hl)
    exact⟨b,h1⟩
  have a: ∀ {i k},ks[i]? =some k→i<100:=fun{i k} hi=>by
    have:=hh.few
    rcases Nat.lt_or_ge i ks.length with h|h
    ·omega
    ·simp[List.getElem?_eq_none h]at hi
  have pres: ∀ {i k},ks[i]? =some k→∃y,(i,y)∈B' :=fun{i k} hi=>by
    obtain⟨b,h1,_⟩:=hh.live k (List.mem_of_getElem? hi)
    have:=hm'.kin i b (by show(dw B 0 ks).live i=some b;rw[vQ,hi];exact h1)
    obtain⟨y,hy⟩:=Option.isSome_iff_exists.1 this
    exact⟨y,uE hy⟩
  have renk: ∀ {i k},ks[i]? =some k→ren d ks i=k:=fun{i k} hi=>by simp[ren,a hi,List.getD_eq_getElem?_getD,hi]
  have own' : ∀ {q x g},B'.live q=some x→fM (ρ' q)=some g→(∃i k b,ks[i]? =some k∧B.live k=some b∧fM (ρ k)=some g)∨w.heap.size≤g:=fun{q x g} hl hg=>by
    rcases hm'.own q x g hl hg with⟨i,x',h1,h2⟩|h
    · obtain⟨k,h3,h4,h5⟩:=wS h1
      have h2:fM (ρ (ks.getD i 0))=some g:=h2
      rw[h4]at h2
      exact .inl ⟨i,k,x',h3,h5,h2⟩
    ·exact .inr h
  have A: ∀b,free c w ρ B b→free c w' (uy (ren d ks) B' ρ' ρ) (tY (ren d ks) B B') b:=fun b hb' =>by
    refine⟨hb'.1,Nat.lt_of_lt_of_le hb'.2.1 hm'.keeps.size,fun k x hl=> ?_⟩
    rcases lv hl with⟨q,_,_,h1,h2⟩|⟨_,h1,h2⟩
    · rw[h2]
      intro hg
      rcases own' h1 hg with⟨i,k',b',_,h4,h5⟩|h
      ·exact hb'.2.2 k' b' h4 h5
      ·have:=hb'.2.1;omega
    ·rw[h2];exact hb'.2.2 k x h1
  have same: ∀b,b<w.heap.size→(∀i k x,ks[i]? =some k→B.live k=some x→fM (ρ k)≠some b)→w'.heap[b]? =w.heap[b]? :=fun b hb' hno=>by
    refine hm'.keeps.block b hb' ?_
    rintro(⟨i,x,h1,h2⟩|h)
    · obtain⟨k,h3,h4,h5⟩:=wS h1
      have h2:fM (ρ (ks.getD i 0))=some b:=h2
      rw[h4]at h2
      exact hno i k x h3 h5 h2
    ·exact h
  have W: ∀b,free c w ρ B b→w'.heap[b]? =w.heap[b]? :=fun b hb' =>same b hb'.2.1 (fun i k x _ h1=>hb'.2.2 k x h1)
  have tr : ∀v x,RepT w' (free (rA c B w ρ ks bs) w' ρ' B') v x→(∀e∈es,NoTy e x)→RepT w' (free c w' (uy (ren d ks) B' ρ' ρ) (tY (ren d ks) B B')) v x:=fun v x h hn=>by
    have: ∀b,free (rA c B w ρ ks bs) w' ρ' B' b→free c w' (uy (ren d ks) B' ρ' ρ) (tY (ren d ks) B B') b∨∃e∈es,∃cells fr,w'.heap[b]? =some (.cells cells e fr):=fun b hb' =>by
      obtain⟨h1,h2,h3⟩:=hb'
      rcases h1 with(h1|⟨k,hk,hg⟩)|h1
      ·exact .inl (A b h1)
      · obtain⟨e,s,n,f,he,hl⟩:=hb.els k hk
        obtain⟨inner,ho,_⟩:=yO.1 (hm.at_ k _ hl)
        simp only[env]at ho
        rcases ho.2 with⟨q1,_⟩|⟨g,cap,cur,q1,_,q2,_⟩
        ·rw[q1]at hg;simp[fM]at hg
        · rw[q1]at hg
          have hg:g=b:=by simpa[fM] using hg
          subst hg
          refine .inr ⟨e,he,cur,(0,0), ?_⟩
          rw[same g (Array.getElem?_eq_some_iff.1 q2).1 (fun i k' x hi hl' hg' => ?_)]
          ·exact q2
          · have:=hm.inj k k' _ _ g hl hl' (by rw[q1];rfl) hg'
            subst this
            exact(hh.bor k hk).1 (List.mem_of_getElem? hi)
      · have h1:w.heap.size≤b:=h1
        refine .inl ⟨.inr (Nat.le_trans hm.keeps.size h1),h2,fun k x hl=> ?_⟩
        rcases lv hl with⟨q,_,_,q1,q2⟩|⟨_,q1,q2⟩
        ·rw[q2];exact h3 q x q1
        · rw[q2]
          intro hg
          have:=vw hm q1 hg
          omega
    clear hb
    revert hn
    induction h with
    |s v h=>intro _;exact .s v h
    | mp g es n h hg=>
      intro _
      refine .mp g es n h ((this _ hg).resolve_right ?_)
      rintro⟨e,he,c',fr',q3⟩
      rw[h]at q3
      injection q3 with q3
      cases q3
    | sl_ ad n cc e' sz f g h0 h1 hs hl hc hr hbb ih=>
      intro hn
      have hn' : ∀(j o:Nat) (y:T),j<n→(f j)[o]? =some y→∀e∈es,NoTy e y:=fun j o y hj hy e he=>by
        cases hn e he with
        |sl _ _ _ _ _ hcc=>exact hcc j o y hj hy
      refine .sl_ ad n cc e' sz f g h0 h1 hs hl hc (fun j o y hj hy=>ih j o y hj hy (hn' j o y hj hy)) (fun b hb' hp=> ?_)
      obtain⟨q1,cells,fr,q2,q9⟩:=hbb b hb' hp
      refine⟨(this _ q1).resolve_right ?_,cells,fr,q2,q9⟩
      rintro⟨e,he,c',fr',q3⟩
      cases hn e he with
      |sl _ _ _ _ hne _=>exact q2.ne hne q3
  have le :Le (env c w ρ B) (env c w' (uy (ren d ks) B' ρ' ρ) (tY (ren d ks) B B')):=by
    refine⟨A,W,fun k hk=> ?_,fun k e s N f hk hl=> ?_,fun k t cs hk hl=> ?_⟩
    · show((tY (ren d ks) B B').get k).isSome=true
      rcases di k with⟨q,y,hq,rfl⟩|hno
      ·rw[(f1 hq).2.1];rfl
      ·rw[(f2 hno).2];exact hk
    · have hk:(B.get k).isSome=true:=hk
      rcases lv (show(tY (ren d ks) B B').live k=some (.row e s N f) from hl)with⟨q,hq,rfl,h1,h2⟩|⟨_,h1,h2⟩
      · by_cases hlt:q<100
        · obtain⟨k',h3,h4,b,h5⟩:=kmem hq hlt
          have hins:(dw B 0 ks).live q=some b:=by rw[vQ,h3];exact h5
          obtain⟨h6,h7⟩:=hm'.fix q b _ hins h1
          have h7:ρ' q=ρ (ks.getD q 0):=h7
          rw[h4]at h2⊢
          rw[List.getD_eq_getElem?_getD,h3]at h7
          cases b with
          |row e0 s0 n0 f0=>obtain⟨rfl,rfl,rfl⟩:=h6;exact⟨⟨f0,h5⟩,h2.trans h7⟩
          |box=>exact h6.elim
        · have h9:=hb.fresh q _ hq hlt
          rw[h9]at hk;simp at hk
      ·exact⟨⟨f,h1⟩,h2⟩
    · have hk:(B.get k).isSome=true:=hk
      rcases lv (show(tY (ren d ks) B B').live k=some (.box t cs) from hl)with⟨q,hq,rfl,h1,h2⟩|⟨_,h1,h2⟩
      · by_cases hlt:q<100
        · obtain⟨k',h3,h4,b,h5⟩:=kmem hq hlt
          have hins:(dw B 0 ks).live q=some b:=by rw[vQ,h3];exact h5
          obtain⟨h6,h7⟩:=hm'.fix q b _ hins h1
          have h7:ρ' q=ρ (ks.getD q 0):=h7
          rw[h4]at h2⊢
          rw[List.getD_eq_getElem?_getD,h3]at h7
          cases b with
          |row=>exact h6.elim
          |box t0 cs0=>have h6:t0=t:=h6;subst h6;exact⟨⟨cs0,h5⟩,h2.trans h7⟩
        · have h9:=hb.fresh q _ hq hlt
          rw[h9]at hk;simp at hk
      ·exact⟨⟨cs,h1⟩,h2⟩
  have kin: ∀ {k},(B.get k).isSome=true→((tY (ren d ks) B B').get k).isSome=true:=fun hk=>le.B _ hk
  refine⟨⟨?_,fun k x hl=> ?_,fun k x g hl hg=> ?_,fun k k' x x' g hl hl' hg hg' => ?_,fun k x h=>kin (hm.kin k x h),fun k x b' h hl=> ?_,hm.wld⟩,le,tr⟩
  · have h1:=hm.keeps
    have h2:=hm'.keeps
    refine⟨h2.os.trans h1.os,h2.tape.trans h1.tape,h2.output.trans h1.output,Nat.le_trans h1.size h2.size,fun b hb' hp=> ?_⟩
    rw[same b (Nat.lt_of_lt_of_le hb' h1.size) (fun i k x _ hl hg=> ?_)]
    ·exact h1.block b hb' hp
    · rcases hm.own k x b hl hg with h|h
      ·exact hp (.inl h)
      ·omega
  · rcases lv hl with⟨q,hq,_,h1,h2⟩|⟨hno,h1,h2⟩
    · obtain⟨h3,h4⟩:=hb.closed q x hq
      exact At.closed (E:=env (rA c B w ρ ks bs) w' ρ' B') (N:=fun x=> ∀e∈es,NoTy e x) (fun v x hn h=>tr v x h hn) h2 (fun _ _=>rfl) h3 (NH h4) (hm'.at_ q x h1)
    · refine(hm.at_ k x h1).le le h2 (fun g hg=>same g (vw hm h1 hg) (fun i k' x' hi hl' hg' => ?_))
      have:=hm.inj k k' x x' g h1 hl' hg hg'
      subst this
      obtain⟨y,hy⟩:=pres hi
      exact hno i y hy (renk hi)
  · rcases lv hl with⟨q,hq,_,h1,h2⟩|⟨hno,h1,h2⟩
    · rw[h2]at hg
      rcases own' h1 hg with⟨i,k',b,_,h3,h4⟩|h
      ·exact hm.own k' b g h3 h4
      ·exact .inr (Nat.le_trans hm.keeps.size h)
    ·rw[h2]at hg;exact hm.own k x g h1 hg
  · have mixed: ∀ {q k k' x x'},(q,some x)∈B' →ren d ks q=k→B'.live q=some x→(∀q y,(q,y)∈B' →ren d ks q≠k')→B.live k' =some x' →fM (ρ' q)=some g→fM (ρ k')=some g→False:=fun{q k k' x x'} hq hr h1 hno h2 hg hg' =>by
      rcases own' h1 hg with⟨i,k2,b,h3,h4,h5⟩|h
      · have:=hm.inj k' k2 _ _ g h2 h4 hg' h5
        subst this
        obtain⟨y,hy⟩:=pres h3
        exact hno i y hy (renk h3)
      · have:=vw hm h2 hg'
        omega
    rcases lv hl with⟨q,hq,hr,h1,h2⟩|⟨hno,h1,h2⟩<;>rcases lv hl' with⟨q',hq',hr',h1',h2'⟩|⟨hno',h1',h2'⟩
    · rw[h2]at hg
      rw[h2']at hg'
      rw[←hr,←hr',hm'.inj q q' x x' g h1 h1' hg hg']
    · rw[h2]at hg
      rw[h2']at hg'
      exact(mixed hq hr h1 hno' h1' hg hg').elim
    · rw[h2]at hg
      rw[h2']at hg'
      exact(mixed hq' hr' h1' hno h1 hg' hg).elim
    · rw[h2]at hg
      rw[h2']at hg'
      exact hm.inj k k' x x' g h1 h1' hg hg'
  · rcases lv hl with⟨q,hq,hr,h1,h2⟩|⟨_,h1,h2⟩
    · have hk:=hm.kin k x h
      by_cases hlt:q<100
      · obtain⟨k',h3,h4,b,h5⟩:=kmem hq hlt
        have hkk:k' =k:=h4.symm.trans hr
        subst hkk
        have hins:(dw B 0 ks).live q=some b:=by rw[vQ,h3];exact h5
        obtain⟨h6,h7⟩:=hm'.fix q b _ hins h1
        have h7:ρ' q=ρ (ks.getD q 0):=h7
        rw[List.getD_eq_getElem?_getD,h3]at h7
        obtain⟨h8,h9⟩:=hm.fix k' x b h h5
        exact⟨h8.trans h6,h2.trans (h7.trans h9)⟩
      · have h9:=hb.fresh q _ hq hlt
        rw[hr]at h9
        rw[h9]at hk;simp at hk
    ·rw[h2];exact hm.fix k x b' h h1
end
def au:C→List Nat
  | .own k _ _=> [k]
  | .ptr k _ _=> [k]
  |_=> []
def ak:V→List Nat
  | .c x=>au x
  | .agg xs=>xs.flatMap au
  |_=> []
def af (o:Op) (ev:Operand→V):List Nat:=o.operands.toList.flatMap fun x=>ak (ev x)
def ai (o:Op) (ev:Operand→V):List Nat:=match o with
  | .load _ a=>ak (ev a)
  | .store _ a _=>ak (ev a)
  | .call c=>(match c.callee with| .builtin .append=>af o ev|_=> [])
  |_=> []
def dE (B:Bs):List (Nat×Option Blk)→Bs
  | []=>B
  |(k,y)::l=>dE (B.set k y) l
def kU (d:Nat):Option Blk→List (Nat×Option Blk)
  |some b=> [(d,some b)]
  |none=> []
def uR (P:Program) (g:Nat):Bool:=match P.funcs[g]? with|some fn=> !(fn.name== "runtime.NumGoroutine") && fn.body.isSome|none=>false
structure CallAt (P:Program) (cl:Call) (dst:Option Tmp) (d:Nat) (ev:Operand→V) (B:Bs) (ks bs:List Nat) (outs:V→List (Nat×Option Blk)→Prop):Prop where
  out: ∃g xs es R,cl.callee= .value (.func g)∧uR P g=true∧Hand B ks bs∧dx ks bs B (cl.args.toList.map ev) xs∧Ct P g xs (dw B 0 ks) R∧
    ∀res B',R res B' →Back B B' ks bs es d∧iQ res=true∧(∀e∈es,NoV e res)∧(∀p∈B',p.1<1000∧(¬p.1<100→dst=some d))∧outs (kr (ren d ks) res) (B'.map fun p=>(ren d ks p.1,p.2))
inductive Does (P:Program) (o:Oper) (d:Nat) (ev:Operand→V) (B:Bs):List Nat→List Nat→(V→List (Nat×Option Blk)→Prop)→Prop
  |val (p:Prop) (v:V) (h:dz P o.op ev B.live=some (p,v)) (hp:p):Does P o d ev B (ai o.op ev) [] (fun v' u=>v' =v∧u= [])
  |mem (p:Prop) (v:V) (ups:List (Nat×Option Blk)) (nw:Option Blk) (h:iw P o.op ev B.live (d+100)=some (p,v,ups,nw)) (hp:p) (hd:nw≠none→B.get (d+100)=none) (hs:nw≠none→o.dst=some d):
      Does P o d ev B (ai o.op ev) (ups.map (·.1)) (fun v' u=>v' =v∧u=ups++kU (d+100) nw)
  |call (cl:Call) (ks bs:List Nat) (outs:V→List (Nat×Option Blk)→Prop) (hop:o.op= .call cl) (h:CallAt P cl o.dst d ev B ks bs outs):Does P o d ev B bs ks outs
def dI (ts:List V) (dst:Option Tmp) (v:V):List V:=match dst with|some d=>ts.set d v|none=>ts
theorem GX (r:Nat→Nat): ∀(l B:Bs),tY r B l=dE B (l.map fun p=>(r p.1,p.2))
  | [],_=>rfl
  |(q,y)::l,B=>GX r l (B.set (r q) y)
theorem DC (B:Bs): ∀(l l' :List (Nat×Option Blk)),dE B (l++l')=dE (dE B l) l'
  | [],_=>rfl
  |(k,y)::l,l' =>DC (B.set k y) l l'
theorem BA (B:Bs): ∀(l:List (Nat×Option Blk)),l.foldl (fun B u=>B.set u.1 u.2) B=dE B l
  | []=>rfl
  |(k,y)::l=>BA (B.set k y) l
theorem LV (B:Bs) (d:Nat) (ups:List (Nat×Option Blk)) (nw:Option Blk):Jy B d ups nw=dE B (ups++kU d nw):=by
  cases nw with
  |none=>simp[Jy,BA,kU]
  |some b=>simp only[Jy,BA,DC];rfl
section
variable {P:Program} {c:Ctx} {B B' :Bs} {w w' :World} {ρ ρ' :Nat→Value} {ks bs es:List Nat} {d:Nat}
theorem Ew (hm' :Mem (rA c B w ρ ks bs) B' w' ρ') (hb:Back B B' ks bs es d)
    (tr: ∀v x,RepT w' (free (rA c B w ρ ks bs) w' ρ' B') v x→(∀e∈es,NoTy e x)→RepT w' (free c w' (uy (ren d ks) B' ρ' ρ) (tY (ren d ks) B B')) v x)
    {v:Value} {x:C} (hv:fO (env (rA c B w ρ ks bs) w' ρ' B') v x) (hn: ∀e∈es,NoC e x) (ht:rG x=true):
    fO (env c w' (uy (ren d ks) B' ρ' ρ) (tY (ren d ks) B B')) v (rH (ren d ks) x):=by
  have f1: ∀ {q y},B'.get q=some y→uy (ren d ks) B' ρ' ρ (ren d ks q)=ρ' q∧(tY (ren d ks) B B').get (ren d ks q)=some y:=
    fun h=>⟨Ai hb.nd (uE h),(yB B' B _ hb.nd).1 _ _ (uE h) rfl⟩
  have live: ∀ {q y},(B'.get q).isSome=true→(tY (ren d ks) B B').live (ren d ks q)=some y→B'.live q=some y:=fun{q y} hq h=>by
    obtain⟨y',hy⟩:=Option.isSome_iff_exists.1 hq
    have h1:=Bs.live_get h
    rw[(f1 hy).2]at h1
    injection h1 with h1
    subst h1
    unfold Bs.live;rw[hy];rfl
  have some_: ∀ {q},(B'.get q).isSome=true→((tY (ren d ks) B B').get (ren d ks q)).isSome=true∧uy (ren d ks) B' ρ' ρ (ren d ks q)=ρ' q:=fun{q} hq=>by
    obtain⟨y',hy⟩:=Option.isSome_iff_exists.1 hq
    exact⟨by rw[(f1 hy).2];rfl,(f1 hy).1⟩
  cases x with
  |t x=>exact tr v x hv (fun e he=>hn e he)
  |nil=>exact hv
  | own q sz n=>
    obtain⟨h1,ad,cp,h2,h3,h4,h5,h6,h7⟩:=hv
    refine⟨(some_ h1).1,ad,cp,h2,h3,h4,h5,fun t cs hl=>h6 t cs (live h1 hl),fun e s N f hl=> ?_⟩
    obtain⟨q1,q2,q3⟩:=h7 e s N f (live h1 hl)
    exact⟨q1,q2,(some_ h1).2.trans q3⟩
  | ptr q i o=>
    obtain⟨h1,ad,h2,h3,h4⟩:=hv
    refine⟨(some_ h1).1,ad,h2,fun t cs hl=> ?_,fun e s N f hl=> ?_⟩
    · obtain⟨q1,g,q2,q3⟩:=h3 t cs (live h1 hl)
      exact⟨q1,g,(some_ h1).2.trans q2,q3⟩
    · obtain⟨q1,g,cp,q2,q3⟩:=h4 e s N f (live h1 hl)
      exact⟨q1,g,cp,(some_ h1).2.trans q2,q3⟩
  |tp e row=>simp[rG]at ht
  |dead=>exact hv
theorem BB (hm' :Mem (rA c B w ρ ks bs) B' w' ρ') (hb:Back B B' ks bs es d)
    (tr: ∀v x,RepT w' (free (rA c B w ρ ks bs) w' ρ' B') v x→(∀e∈es,NoTy e x)→RepT w' (free c w' (uy (ren d ks) B' ρ' ρ) (tY (ren d ks) B B')) v x)
    {v:Value} {x:V} (hv:vL (env (rA c B w ρ ks bs) w' ρ' B') v x) (hn: ∀e∈es,NoA e x) (ht:lS x=true):
    vL (env c w' (uy (ren d ks) B' ρ' ρ) (tY (ren d ks) B B')) v (rO (ren d ks) x):=by
  cases x with
  |c x=>exact Ew hm' hb tr hv hn ht
  | agg xs=>
    obtain⟨vs,e1,e2,e3⟩:=hv
    refine⟨vs,e1,by simpa using e2,fun i u y hu hy=> ?_⟩
    simp only[List.getElem?_map,Option.map_eq_some_iff]at hy
    obtain⟨y',hy',rfl⟩:=hy
    have hmem:=List.mem_of_getElem? hy'
    exact Ew hm' hb tr (e3 i u y' hu hy') (fun e he=>hn e he y' hmem) (List.all_eq_true.1 ht y' hmem)
  |tup _=>exact hv.elim
  |dead=>trivial
theorem JC (hm' :Mem (rA c B w ρ ks bs) B' w' ρ') (hb:Back B B' ks bs es d)
    (tr: ∀v x,RepT w' (free (rA c B w ρ ks bs) w' ρ' B') v x→(∀e∈es,NoTy e x)→RepT w' (free c w' (uy (ren d ks) B' ρ' ρ) (tY (ren d ks) B B')) v x)
    {v:Value} {x:V} (hv:mg (env (rA c B w ρ ks bs) w' ρ' B') v x) (hn: ∀e∈es,NoV e x) (ht:iQ x=true):
    mg (env c w' (uy (ren d ks) B' ρ' ρ) (tY (ren d ks) B B')) v (kr (ren d ks) x):=by
  cases x with
  | tup xs=>
    obtain⟨vs,e1,e2,e3⟩:=hv
    refine⟨vs,e1,by simpa using e2,fun i u y hu hy=> ?_⟩
    simp only[List.getElem?_map,Option.map_eq_some_iff]at hy
    obtain⟨y',hy',rfl⟩:=hy
    have hmem:=List.mem_of_getElem? hy'
    exact BB hm' hb tr (e3 i u y' hu hy') (fun e he=>hn e he y' hmem) (List.all_eq_true.1 ht y' hmem)
  |c x=>exact BB hm' hb tr (x:= .c x) hv hn ht
  |agg xs=>exact BB hm' hb tr (x:= .agg xs) hv hn ht
  |dead=>trivial
end
structure RelAt (c:Ctx) (ts:List V) (B:Bs) (a:Act) (w:World) (ρ:Nat→Value):Prop where
  df:a.defers= []
  sz:a.tmps.size=ts.length
  mem:Mem c B w ρ
  rep: ∀(i:Nat) x,ts[i]? =some x→mg (env c w ρ B) (a.tmps.getD i undef) x
theorem RelAt.put {c:Ctx} {ts:List V} {B B' :Bs} {a:Act} {w w' :World} {ρ ρ' :Nat→Value} (h:RelAt c ts B a w ρ) (hm:Mem c B' w' ρ') (le:Le (env c w ρ B) (env c w' ρ' B'))
    (dst:Option Tmp) {v:Value} {x:V} (hv:mg (env c w' ρ' B') v x):RelAt c (dI ts dst x) B' (a.put dst v) w' ρ' :=by
  cases dst with
  |none=>exact⟨h.df,h.sz,hm,fun i y hy=>(h.rep i y hy).le le⟩
  | some d=>
    refine⟨h.df,by simpa[Act.put,dI] using h.sz,hm,fun i y hy=> ?_⟩
    simp only[dI]at hy
    rw[List.getElem?_set]at hy
    simp only[Act.put]
    split at hy
    · rename_i hd
      subst hd
      split at hy
      · rename_i hlt
        injection hy with hy
        subst hy
        have:d<a.tmps.size:=by rw[h.sz];exact hlt
        simpa[this] using hv
      ·simp at hy
    · rename_i hd
      have:=(h.rep i y hy).le le
      rw[show(a.tmps.setIfInBounds d v).getD i undef=a.tmps.getD i undef by simp[Array.getD_eq_getD_getElem?,Array.getElem?_setIfInBounds_ne hd]]
      exact this
section
variable {P:Program} {c:Ctx} {B:Bs} {w:World} {ρ:Nat→Value} {o:Oper} {a:Act} {ts:List V} {d:Nat} {Q:Exit→Act→World→Prop}
theorem Aj {n:Next} {w' :World} {K:Act→World→Prop} (hr:(execOp a.eval o).run P w= .ok n w') (h:o.upon P a K Q (.ok n w')):o.wp P a w K Q:=by
  unfold Oper.wp;rw[hr];exact h
theorem GY {cl:Call} {g:Nat} (hop:o.op= .call cl) (hg:cl.callee= .value (.func g)) (hk:uR P g=true):
    (execOp a.eval o).run P w= .ok (.enter g (cl.args.map a.eval)) w:=by
  unfold uR at hk
  cases hf:P.funcs[g]? with
  |none=>simp[hf]at hk
  | some fn=>
    simp only[hf,Bool.and_eq_true,Bool.not_eq_true']at hk
    obtain⟨h1,h2⟩:=hk
    have h1: ¬fn.name= "runtime.NumGoroutine":=by simpa using h1
    have h3: ¬fn.body=none:=by cases hb:fn.body<;>simp_all
    simp[execOp,hop,resolve,hg,Act.eval,Deferred.ofValue,invoke,callFunc,hf,h1,h3,go_sem]
theorem D8 (hm:Mem c B w ρ) {ks bs:List Nat} (hh:Hand B ks bs): ∀(ys xs:List V),dx ks bs B ys xs→ys.length=xs.length∧∀(i:Nat) (x y:V),ys[i]? =some y→xs[i]? =some x→iW ks bs B y x
  | [], [],_=>⟨rfl,by simp⟩
  | y::ys,x::xs,h=>by
    obtain⟨i1,i2⟩:=D8 hm hh ys xs h.2
    refine⟨by simp[i1],fun i x' y' hy hx=> ?_⟩
    cases i with
    |zero=>simp at hx hy;subst hx;subst hy;exact h.1
    |succ i=>exact i2 i x' y' (by simpa using hy) (by simpa using hx)
  | [],_::_,h=>h.elim
  |_::_, [],h=>h.elim
theorem Ey {rk wk:List Nat} {outs:V→List (Nat×Option Blk)→Prop} (hd:Does P o d (evl ts) B rk wk outs) (h:RelAt c ts B a w ρ) (K:Act→World→Prop)
    (hK: ∀v u a' w' ρ',outs v u→RelAt c (dI ts o.dst v) (dE B u) a' w' ρ' →K a' w'):o.wp P a w K Q:=by
  cases hd with
  | val p v hv hp=>
    obtain⟨v',h1,h2⟩:=Es (E:=env c w ρ B) (fun k b hl=>h.mem.at_ k b hl) h.rep hv hp
    have h1:(execOp a.eval o).run P w= .ok (.value v') w:=h1
    exact Aj h1 (hK v [] _ _ ρ ⟨rfl,rfl⟩ (h.put h.mem ⟨fun _ hb=>hb,fun _ _=>rfl,fun _ hk=>hk,fun k e s N f _ hl=>⟨⟨f,hl⟩,rfl⟩,fun k t cs _ hl=>⟨⟨cs,hl⟩,rfl⟩⟩ o.dst h2))
  | mem p v ups nw hv hp hd hsd=>
    obtain⟨n,w',ρ',h1,h2,h3,h4⟩:=JB h.mem h.rep hv hp hd
    rw[LV]at h2 h3 h4
    rcases h2 with⟨u,rfl,h5⟩|⟨rfl,rfl⟩
    ·exact Aj h1 (hK v _ _ _ ρ' ⟨rfl,rfl⟩ (h.put h3 h4 o.dst h5))
    ·exact Aj h1 (hK .dead _ _ _ ρ' ⟨rfl,rfl⟩ (h.put (v:=undef) (x:= .dead) h3 h4 o.dst trivial))
  | call cl _ _ _ hop hc=>
    obtain⟨g,xs,es,R,h1,h2,hh,hp,hs,hout⟩:=hc.out
    refine Aj (GY hop h1 h2) ?_
    obtain⟨q1,q2⟩:=D8 h.mem hh _ _ hp
    have hcalls:=hs w _ _ _ (cl.args.map a.eval) (h.mem.start hh) (by simpa using q1) (fun i x hx=>by
      obtain⟨y,hy⟩: ∃y,(cl.args.toList.map (evl ts))[i]? =some y:=by
        have : i < xs.length := by rcases Nat.lt_or_ge i xs.length with h|h;·exact h
                                   ·simp[List.getElem?_eq_none h]at hx
        exact⟨_,List.getElem?_eq_getElem (by omega)⟩
      have hpv:=q2 i x y hy hx
      simp only[List.getElem?_map,Array.getElem?_toList,Option.map_eq_some_iff]at hy
      obtain⟨z,hz,rfl⟩:=hy
      have hr:=Dz h.mem hh (lZ h.rep z) hpv
      have e:(cl.args.map a.eval).getD i undef=a.eval z:=by simp[Array.getD_eq_getD_getElem?,hz]
      rw[e];exact hr)
    refine hcalls.mono fun e w' ⟨v',res,B',ρ',e1,e2,e3,e4⟩=> ?_
    subst e1
    obtain⟨hb,ht,hn,_,ho⟩:=hout res B' e2
    obtain⟨m1,m2,m3⟩:=h.mem.after hh hb e3
    have:=JC e3 hb m3 e4 hn ht
    rw[GX]at m1 m2 this
    exact hK _ _ _ _ _ ho (h.put m1 m2 o.dst this)
end
end Go.Proofs.Ytojpejfcafbafaa.V
end
