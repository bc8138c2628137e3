/- A part of the claim FnExactMachNew. -/
import Derived.Test.YteinbmkgenhocaaGreatCFnExactMachNew23
section
namespace Go.Proofs.YteinbmkgenhocaaGreat.P
set_option linter.unusedVariables false
open Go Go.RowKit Go.Proofs.YteinbmkgenhocaaGreatW.PrintWords Go.Proofs.YteinbmkgenhocaaGreatW.PrintLast Go.Proofs.YteinbmkgenhocaaGreatW.PrintMore
section
variable {β:Type} {a b:Int} {X Y z:Option β}
end
def upto (n i:Nat):Array Bool:=((List.range n).map (fun j=>decide (j<i))).toArray
section
variable {P:Program} {md:Region.Mode} {ops:Array Oper} {Q:Exit→Act→World→Prop} {S:World→Prop} {ds:List Nat} {T:Bool×List (List Nat×List Nat)} {B:List Nat} {oi:Oper} {v:Value} {fuel:Nat} {a a' :Act} {w:World} {n i N:Nat}
theorem pN (h:bJ P md ops Q S ds fuel (upto n (i+1)) a' w) (hT:Aside0 (dJ md ops=T):=by assumption) (hi:ops[i]? =some oi:=by rfl) (hN:oi.dst=some N:=by rfl) (hc:oz T (upto n i).toList (upto n (i+1)).toList i=true:=by kernel_rfl) (hy:Yields P ops oi v a:=by(refine Or.inl ⟨by rfl, ?_⟩;intro w';go_simp;with_reducible rfl)) (ha:a.put (some N) v=a' :=by(simp only[Act.put,List.setIfInBounds_toArray,List.set_cons_zero,List.set_cons_succ,bX,bZ];rfl)) (hQ: ∀c a w,Q (.panic c) (a.put oi.dst v) w→Q (.panic c) a w:=by exact fun _ _ _ h=>h):bJ P md ops Q S ds (fuel+1) (upto n i) a w:=lS _ hi hN (oC hT.out hc) hQ hy ha h
theorem vN (h:bJ P md ops Q S ds fuel (upto n (i+1)) a' w) (hT:Aside0 (dJ md ops=T):=by assumption) (hi:ops[i]? =some oi:=by rfl) (hN:oi.dst=some N:=by rfl) (hc:oz T (upto n i).toList (upto n (i+1)).toList i=true:=by kernel_rfl) (hy:Yields P ops oi undef a:=by exact Or.inr ⟨by rfl,rfl⟩) (ha:a.put (some N) undef=a' :=by(simp only[Act.put,List.setIfInBounds_toArray,List.set_cons_zero,List.set_cons_succ,bX,bZ];rfl)) (hQ: ∀c a w,Q (.panic c) (a.put oi.dst undef) w→Q (.panic c) a w:=by exact fun _ _ _ h=>h):bJ P md ops Q S ds (fuel+1) (upto n i) a w:=lS _ hi hN (oC hT.out hc) hQ hy ha h
theorem tN (h:bJ P md ops Q S ds fuel (upto n (i+1)) a' w) (hS:S w:=by assumption) (hT:Aside0 (dJ md ops=T):=by assumption) (hW:Aside0 (dY T.2 B=true):=by assumption) (hi:ops[i]? =some oi:=by rfl) (hN:oi.dst=some N:=by rfl) (hc:nV T B ds (upto n i).toList (upto n (i+1)).toList i=true:=by kernel_rfl) (hy:YieldsIf P ops S oi v a:=by(refine Or.inl ⟨by rfl, ?_⟩;intro w' hs;(repeat(have hs1:=hs.1;replace hs:=hs.2));go_simp;with_reducible rfl)) (ha:a.put (some N) v=a' :=by(simp only[Act.put,List.setIfInBounds_toArray,List.set_cons_zero,List.set_cons_succ,bX,bZ];rfl)) (hQ: ∀c a w,Q (.panic c) (a.put oi.dst v) w→Q (.panic c) a w:=by exact fun _ _ _ h=>h):bJ P md ops Q S ds (fuel+1) (upto n i) a w:=take_ _ hi hN (oD hT.out hW.out hc) hQ hy hS ha h
end
end Go.Proofs.YteinbmkgenhocaaGreat.P
end
section
namespace Go.Proofs.YteinbmkgenhocaaGreat.P
open Go.RowKit Go.Proofs.YteinbmkgenhocaaGreatW.PrintWords Go.Proofs.YteinbmkgenhocaaGreatW.PrintLast Go.Proofs.YteinbmkgenhocaaGreatW.PrintMore
attribute [local go_sem] ak au az aA ai aj av ax
set_option linter.unusedVariables false
set_option linter.unusedSimpArgs false
set_option maxHeartbeats 8000000 in
set_option maxRecDepth 100000 in
theorem dn.calls (A0:Option Addr) (c0:Nat) (l0:List Int) (a1:Int) (r:Int) (w:World) (hr0:Kd.C (Kd.int .i64) w A0 l0.length l0) (hc0:l0.length≤c0) (h:dn.f l0 a1=some r):
  Calls Tryz.prog 51 #[.slice A0 l0.length c0, .int .i64 a1] w fun e w' =>e= .returned (.int .i64 r)∧Drawn0 w w' :=by
 have b:=Aside0.mk hr0
 have c:=Aside0.mk hc0
 clear hr0 hc0
 have H:(if(wrap64 (a1 - (l0.length:Int)))<0 then(some (-1))else(some (wrap64 (a1 - (l0.length:Int)))))=some r:=h
 clear h
 by_cases c3:(wrap64 (a1 - (l0.length:Int)))<0
 ·rw[if_pos c3]at H
  have a:decide ((wrap64 (a1 - (l0.length:Int)))<0)=true:=decide_eq_true c3
  clear c3
  obtain rfl:=Option.some.inj H;clear H
  go_enter Tryz.func51,Tryz.ntmps51
  go_wp2
  go_ret
  exact⟨by first|rfl|(simp;done)|(simp[*];done),by repeat(first|exact Drawn0.refl _|apply Drawn0.step)⟩
 rw[if_neg c3]at H
 have a:decide ((wrap64 (a1 - (l0.length:Int)))<0)=false:=decide_eq_false c3
 clear c3
 obtain rfl:=Option.some.inj H;clear H
 go_enter Tryz.func51,Tryz.ntmps51
 go_wp2
 go_ret
 exact⟨by first|rfl|(simp;done)|(simp[*];done),by repeat(first|exact Drawn0.refl _|apply Drawn0.step)⟩
set_option maxHeartbeats 8000000 in
set_option maxRecDepth 100000 in
theorem iq.calls (l:Int) (c:Option Addr) (d:Nat) (a:List Int) (a1:Int) (r:Int) (w:World) (g:Kd.C (Kd.int .i64) w c a.length a) (i:a.length≤d) (h:iq.f l a a1=some r):
  Calls Tryz.prog 70 #[.agg #[.int .i64 l, .slice c a.length d], .int .i64 a1] w fun e w' =>e= .returned (.int .i64 r)∧Below w.heap.size w w' :=by
 have n:=Tryz.underlying116
 have j:=Aside0.mk g
 have k:=Aside0.mk i
 clear g i
 have HB:=Aside0.mk (Below.refl w.heap.size w)
 have H:((dn.f a a1).bind fun b=>(if b<0 then(some (-1))else(some b)))=some r:=h
 clear h
 obtain⟨b,A3,H⟩:=ob H
 by_cases c4:b<0
 ·rw[if_pos c4]at H
  have m:decide (b<0)=true:=decide_eq_true c4
  clear c4
  obtain rfl:=Option.some.inj H;clear H
  go_enter Tryz.func70,Tryz.ntmps70
  go_wp2_with (first|(refine gl (some 8) Tryz.func51 #[.slice c a.length d, .int .i64 a1] rfl ?_;(with_reducible refine(dn.calls _ _ a a1 b _ (cb j.out) k.out A3.out).mono ?_);rintro e w' ⟨rfl,⟨nd,rfl⟩⟩;refine⟨_,rfl, ?_⟩))
  go_ret
  exact fin
 rw[if_neg c4]at H
 have m:decide (b<0)=false:=decide_eq_false c4
 clear c4
 obtain rfl:=Option.some.inj H;clear H
 go_enter Tryz.func70,Tryz.ntmps70
 go_wp2_with (first|(refine gl (some 8) Tryz.func51 #[.slice c a.length d, .int .i64 a1] rfl ?_;(with_reducible refine(dn.calls _ _ a a1 b _ (cb j.out) k.out A3.out).mono ?_);rintro e w' ⟨rfl,⟨nd,rfl⟩⟩;refine⟨_,rfl, ?_⟩))
 go_ret
 exact fin
set_option maxHeartbeats 8000000 in
set_option maxRecDepth 100000 in
theorem dw.calls (k:Nat) (A0:Option Addr) (c0:Nat) (l0:List (S116)) (a1:Int) (r:Int) (w:World) (hr0:Kd.C kE w A0 l0.length l0) (hc0:l0.length≤c0) (h:dw.f k l0 a1=some r):
  Calls Tryz.prog 26 #[.slice A0 l0.length c0, .int .i64 a1] w fun e w' =>e= .returned (.int .i64 r)∧Below w.heap.size w w' :=by
 have A:=Tryz.underlying116
 have u:=Aside0.mk hr0
 have D:=Aside0.mk hc0
 clear hr0 hc0
 have HB:=Aside0.mk (Below.refl w.heap.size w)
 have H:(if(wrap64 (a1 - (l0.length:Int)))<0 then(some (-1))else(dw.l0 k l0 (wrap64 (a1 - (l0.length:Int))) 0))=some r:=h
 clear h
 by_cases c3:(wrap64 (a1 - (l0.length:Int)))<0
 ·rw[if_pos c3]at H
  have x:decide ((wrap64 (a1 - (l0.length:Int)))<0)=true:=decide_eq_true c3
  clear c3
  obtain rfl:=Option.some.inj H;clear H
  go_enter Tryz.func26,Tryz.ntmps26
  go_wp2
  go_ret
  exact fin
 rw[if_neg c3]at H
 have x:decide ((wrap64 (a1 - (l0.length:Int)))<0)=false:=decide_eq_false c3
 clear c3
 have H' :=Aside0.mk H
 clear H
 go_enter Tryz.func26,Tryz.ntmps26
 go_wp2
 go_loopg [1,5] k (fun kq v1 v5 w' => ∃(i:Int) (a:Int),v1= .int .i64 i∧v5= .int .i64 a∧Aside0 (dw.l0 kq l0 i a=some r)∧Aside0 (kq≤k)∧Aside0 (Below w.heap.size w w'))
 case atStart=>exact⟨(wrap64 (a1 - (l0.length:Int))),(0),(by first|rfl|(simp;done)|(simp[*];done)),(by first|rfl|(simp;done)|(simp[*];done)),H',⟨Nat.le_refl _⟩,⟨bl⟩⟩
 case round=>
  clear H'
  obtain⟨i,a,rfl,rfl,HA,v,HB⟩:=hrel
  cases gk with
  |zero=>exact absurd HA.out (by simp[dw.l0])
  | succ k1=>
   have H:=HA.out
   clear HA
   simp only[dw.l0]at H
   by_cases c4:a<(l0.length:Int)
   ·rw[if_pos c4]at H
    have y:decide (a<(l0.length:Int))=true:=decide_eq_true c4
    clear c4
    by_cases c5:0≤a
    ·rw[if_pos c5]at H
     have B:decide (0≤a)=true:=decide_eq_true c5
     clear c5
     obtain⟨m,A6,H⟩:=ob H
     by_cases c7:m<0
     ·rw[if_pos c7]at H
      have z:decide (m<0)=true:=decide_eq_true c7
      clear c7
      obtain rfl:=Option.some.inj H;clear H
      have j:0≤(a:Int):=od
      have l:a<(l0.length:Int):=od
      obtain⟨t,p,q,s,b,c,d,g⟩:=nk u.out a j l
      cases s
      obtain⟨b,c⟩:=hc2 HB b c
      have n:=Aside0.mk g
      have o:=Aside0.mk d
      clear g d
      replace j:=eq_true j
      replace l:=eq_true l
      go_wp2_with (first|(refine gl (some 23) Tryz.func70 #[.agg #[.int .i64 ((eY l0 a).f0), .slice p ((eY l0 a).f1).length q], .int .i64 i] rfl ?_;(with_reducible refine(iq.calls ((eY l0 a).f0) _ _ ((eY l0 a).f1) i m _ (cb n.out) o.out A6.out).mono ?_);rintro e w8 ⟨rfl,hb⟩;refine⟨_,rfl, ?_⟩;replace HB:=hs HB hb))
      go_ret
      exact fin
     rw[if_neg c7]at H
     have z:decide (m<0)=false:=decide_eq_false c7
     clear c7
     have H' :=Aside0.mk H
     clear H
     have j:0≤(a:Int):=od
     have l:a<(l0.length:Int):=od
     obtain⟨t,p,q,s,b,c,d,g⟩:=nk u.out a j l
     cases s
     obtain⟨b,c⟩:=hc2 HB b c
     have n:=Aside0.mk g
     have o:=Aside0.mk d
     clear g d
     replace j:=eq_true j
     replace l:=eq_true l
     go_wp2_with (first|(refine gl (some 23) Tryz.func70 #[.agg #[.int .i64 ((eY l0 a).f0), .slice p ((eY l0 a).f1).length q], .int .i64 i] rfl ?_;(with_reducible refine(iq.calls ((eY l0 a).f0) _ _ ((eY l0 a).f1) i m _ (cb n.out) o.out A6.out).mono ?_);rintro e w9 ⟨rfl,hb⟩;refine⟨_,rfl, ?_⟩;replace HB:=hs HB hb))
     go_roundg k1
     case measure=>have:=v.out;omega
     case rel=>exact⟨(m),(wrap64 (a+1)),(by first|rfl|(simp;done)|(simp[*];done)),(by first|rfl|(simp;done)|(simp[*];done)),H',⟨by have:=v.out;omega⟩,⟨bl⟩⟩
    rw[if_neg c5]at H
    exact absurd H (by simp)
   rw[if_neg c4]at H
   have y:decide (a<(l0.length:Int))=false:=decide_eq_false c4
   clear c4
   obtain rfl:=Option.some.inj H;clear H
   go_wp2
   go_ret
   exact fin
set_option maxHeartbeats 8000000 in
set_option maxRecDepth 100000 in
theorem gq.calls (A0:Option Addr) (c0:Nat) (l0:List (S217)) (a1:Int) (r:Int) (w:World) (hr0:Kd.C kF w A0 l0.length l0) (hc0:l0.length≤c0) (h:gq.f l0 a1=some r):
  Calls Tryz.prog 133 #[.slice A0 l0.length c0, .int .i64 a1] w fun e w' =>e= .returned (.int .i64 r)∧Drawn0 w w' :=by
 have b:=Aside0.mk hr0
 have c:=Aside0.mk hc0
 clear hr0 hc0
 have H:(if(wrap64 (a1 - (l0.length:Int)))<0 then(some (-1))else(some (wrap64 (a1 - (l0.length:Int)))))=some r:=h
 clear h
 by_cases c3:(wrap64 (a1 - (l0.length:Int)))<0
 ·rw[if_pos c3]at H
  have a:decide ((wrap64 (a1 - (l0.length:Int)))<0)=true:=decide_eq_true c3
  clear c3
  obtain rfl:=Option.some.inj H;clear H
  go_enter Tryz.func133,Tryz.ntmps133
  go_wp2
  go_ret
  exact⟨by first|rfl|(simp;done)|(simp[*];done),by repeat(first|exact Drawn0.refl _|apply Drawn0.step)⟩
 rw[if_neg c3]at H
 have a:decide ((wrap64 (a1 - (l0.length:Int)))<0)=false:=decide_eq_false c3
 clear c3
 obtain rfl:=Option.some.inj H;clear H
 go_enter Tryz.func133,Tryz.ntmps133
 go_wp2
 go_ret
 exact⟨by first|rfl|(simp;done)|(simp[*];done),by repeat(first|exact Drawn0.refl _|apply Drawn0.step)⟩
set_option maxHeartbeats 8000000 in
set_option maxRecDepth 100000 in
theorem gT.calls (t:Bool) (d:Option Addr) (g:Nat) (b:List Int) (i:Option Addr) (j:Nat) (c:List Int) (a1:Int) (r:Int) (w:World) (m:Kd.C (Kd.int .i64) w d b.length b) (n:b.length≤g) (o:Kd.C (Kd.int .i64) w i c.length c) (p:c.length≤j) (h:gT.f t b c a1=some r):
  Calls Tryz.prog 19 #[.agg #[.bool t, .slice d b.length g, .slice i c.length j], .int .i64 a1] w fun e w' =>e= .returned (.int .i64 r)∧Below w.heap.size w w' :=by
 have x:=Tryz.underlying55
 have k:=Aside0.mk m
 have l:=Aside0.mk n
 clear m n
 have q:=Aside0.mk o
 have s:=Aside0.mk p
 clear o p
 have HB:=Aside0.mk (Below.refl w.heap.size w)
 have H:((dn.f b a1).bind fun a=>(if a<0 then(some (-1))else((dn.f c a).bind fun t107=>(if t107<0 then(some (-1))else(some t107)))))=some r:=h
 clear h
 obtain⟨a,A3,H⟩:=ob H
 by_cases c4:a<0
 ·rw[if_pos c4]at H
  have u:decide (a<0)=true:=decide_eq_true c4
  clear c4
  obtain rfl:=Option.some.inj H;clear H
  go_enter Tryz.func19,Tryz.ntmps19
  go_wp2_with (first|(refine gl (some 8) Tryz.func51 #[.slice d b.length g, .int .i64 a1] rfl ?_;(with_reducible refine(dn.calls _ _ b a1 a _ (cb k.out) l.out A3.out).mono ?_);rintro e w' ⟨rfl,⟨nd,rfl⟩⟩;refine⟨_,rfl, ?_⟩))
  go_ret
  exact fin
 rw[if_neg c4]at H
 have u:decide (a<0)=false:=decide_eq_false c4
 clear c4
 obtain⟨t107,A7,H⟩:=ob H
 by_cases c8:t107<0
 ·rw[if_pos c8]at H
  have v:decide (t107<0)=true:=decide_eq_true c8
  clear c8
  obtain rfl:=Option.some.inj H;clear H
  go_enter Tryz.func19,Tryz.ntmps19
  go_wp2_with (first|(refine gl (some 8) Tryz.func51 #[.slice d b.length g, .int .i64 a1] rfl ?_;(with_reducible refine(dn.calls _ _ b a1 a _ (cb k.out) l.out A3.out).mono ?_);rintro e w' ⟨rfl,⟨nd,rfl⟩⟩;refine⟨_,rfl, ?_⟩)|(refine gl (some 14) Tryz.func51 #[.slice i c.length j, .int .i64 a] rfl ?_;(with_reducible refine(dn.calls _ _ c a t107 _ (cb q.out) s.out A7.out).mono ?_);rintro e w' ⟨rfl,⟨nd,rfl⟩⟩;refine⟨_,rfl, ?_⟩))
  go_ret
  exact fin
 rw[if_neg c8]at H
 have v:decide (t107<0)=false:=decide_eq_false c8
 clear c8
 obtain rfl:=Option.some.inj H;clear H
 go_enter Tryz.func19,Tryz.ntmps19
 go_wp2_with (first|(refine gl (some 8) Tryz.func51 #[.slice d b.length g, .int .i64 a1] rfl ?_;(with_reducible refine(dn.calls _ _ b a1 a _ (cb k.out) l.out A3.out).mono ?_);rintro e w' ⟨rfl,⟨nd,rfl⟩⟩;refine⟨_,rfl, ?_⟩)|(refine gl (some 14) Tryz.func51 #[.slice i c.length j, .int .i64 a] rfl ?_;(with_reducible refine(dn.calls _ _ c a t107 _ (cb q.out) s.out A7.out).mono ?_);rintro e w' ⟨rfl,⟨nd,rfl⟩⟩;refine⟨_,rfl, ?_⟩))
 go_ret
 exact fin
set_option maxHeartbeats 8000000 in
set_option maxRecDepth 100000 in
theorem dC.calls (k:Nat) (A0:Option Addr) (c0:Nat) (l0:List (S55)) (a1:Int) (r:Int) (w:World) (hr0:Kd.C k55 w A0 l0.length l0) (hc0:l0.length≤c0) (h:dC.f k l0 a1=some r):
  Calls Tryz.prog 134 #[.slice A0 l0.length c0, .int .i64 a1] w fun e w' =>e= .returned (.int .i64 r)∧Below w.heap.size w w' :=by
 have I:=Tryz.underlying55
 have A:=Aside0.mk hr0
 have K:=Aside0.mk hc0
 clear hr0 hc0
 have HB:=Aside0.mk (Below.refl w.heap.size w)
 have H:(if(wrap64 (a1 - (l0.length:Int)))<0 then(some (-1))else(dC.l0 k l0 (wrap64 (a1 - (l0.length:Int))) 0))=some r:=h
 clear h
 by_cases c3:(wrap64 (a1 - (l0.length:Int)))<0
 ·rw[if_pos c3]at H
  have D:decide ((wrap64 (a1 - (l0.length:Int)))<0)=true:=decide_eq_true c3
  clear c3
  obtain rfl:=Option.some.inj H;clear H
  go_enter Tryz.func134,Tryz.ntmps134
  go_wp2
  go_ret
  exact fin
 rw[if_neg c3]at H
 have D:decide ((wrap64 (a1 - (l0.length:Int)))<0)=false:=decide_eq_false c3
 clear c3
 have H' :=Aside0.mk H
 clear H
 go_enter Tryz.func134,Tryz.ntmps134
 go_wp2
 go_loopg [1,5] k (fun kq v1 v5 w' => ∃(m:Int) (a:Int),v1= .int .i64 m∧v5= .int .i64 a∧Aside0 (dC.l0 kq l0 m a=some r)∧Aside0 (kq≤k)∧Aside0 (Below w.heap.size w w'))
 case atStart=>exact⟨(wrap64 (a1 - (l0.length:Int))),(0),(by first|rfl|(simp;done)|(simp[*];done)),(by first|rfl|(simp;done)|(simp[*];done)),H',⟨Nat.le_refl _⟩,⟨bl⟩⟩
 case round=>
  clear H'
  obtain⟨m,a,rfl,rfl,HA,B,HB⟩:=hrel
  cases gk with
  |zero=>exact absurd HA.out (by simp[dC.l0])
  | succ k1=>
   have H:=HA.out
   clear HA
   simp only[dC.l0]at H
   by_cases c4:a<(l0.length:Int)
   ·rw[if_pos c4]at H
    have E:decide (a<(l0.length:Int))=true:=decide_eq_true c4
    clear c4
    by_cases c5:0≤a
    ·rw[if_pos c5]at H
     have J:decide (0≤a)=true:=decide_eq_true c5
     clear c5
     obtain⟨t109,A6,H⟩:=ob H
     by_cases c7:t109<0
     ·rw[if_pos c7]at H
      have G:decide (t109<0)=true:=decide_eq_true c7
      clear c7
      obtain rfl:=Option.some.inj H;clear H
      have n:0≤(a:Int):=od
      have o:a<(l0.length:Int):=od
      obtain⟨z,u,v,x,y,e108,b,c,d,g,i,j,l⟩:=oJ A.out a n o
      cases e108
      obtain⟨b,c,d⟩:=hc3 HB b c d
      have p:=Aside0.mk i
      have q:=Aside0.mk g
      clear i g
      have s:=Aside0.mk l
      have t:=Aside0.mk j
      clear l j
      replace n:=eq_true n
      replace o:=eq_true o
      go_wp2_with (first|(refine gl (some 23) Tryz.func19 #[.agg #[.bool ((dS l0 a).f0), .slice u ((dS l0 a).f1).length v, .slice x ((dS l0 a).f2).length y], .int .i64 m] rfl ?_;(with_reducible refine(gT.calls ((dS l0 a).f0) _ _ ((dS l0 a).f1) _ _ ((dS l0 a).f2) m t109 _ (cb p.out) q.out (cb s.out) t.out A6.out).mono ?_);rintro e w8 ⟨rfl,hb⟩;refine⟨_,rfl, ?_⟩;replace HB:=hs HB hb))
      go_ret
      exact fin
     rw[if_neg c7]at H
     have G:decide (t109<0)=false:=decide_eq_false c7
     clear c7
     have H' :=Aside0.mk H
     clear H
     have n:0≤(a:Int):=od
     have o:a<(l0.length:Int):=od
     obtain⟨z,u,v,x,y,e108,b,c,d,g,i,j,l⟩:=oJ A.out a n o
     cases e108
     obtain⟨b,c,d⟩:=hc3 HB b c d
     have p:=Aside0.mk i
     have q:=Aside0.mk g
     clear i g
     have s:=Aside0.mk l
     have t:=Aside0.mk j
     clear l j
     replace n:=eq_true n
     replace o:=eq_true o
     go_wp2_with (first|(refine gl (some 23) Tryz.func19 #[.agg #[.bool ((dS l0 a).f0), .slice u ((dS l0 a).f1).length v, .slice x ((dS l0 a).f2).length y], .int .i64 m] rfl ?_;(with_reducible refine(gT.calls ((dS l0 a).f0) _ _ ((dS l0 a).f1) _ _ ((dS l0 a).f2) m t109 _ (cb p.out) q.out (cb s.out) t.out A6.out).mono ?_);rintro e w9 ⟨rfl,hb⟩;refine⟨_,rfl, ?_⟩;replace HB:=hs HB hb))
     go_roundg k1
     case measure=>have:=B.out;omega
     case rel=>exact⟨(t109),(wrap64 (a+1)),(by first|rfl|(simp;done)|(simp[*];done)),(by first|rfl|(simp;done)|(simp[*];done)),H',⟨by have:=B.out;omega⟩,⟨bl⟩⟩
    rw[if_neg c5]at H
    exact absurd H (by simp)
   rw[if_neg c4]at H
   have E:decide (a<(l0.length:Int))=false:=decide_eq_false c4
   clear c4
   obtain rfl:=Option.some.inj H;clear H
   go_wp2
   go_ret
   exact fin
set_option maxHeartbeats 8000000 in
set_option maxRecDepth 100000 in
theorem gK.calls (A0:Option Addr) (c0:Nat) (l0:List (S219)) (a1:Int) (r:Int) (w:World) (hr0:Kd.C kG w A0 l0.length l0) (hc0:l0.length≤c0) (h:gK.f l0 a1=some r):
  Calls Tryz.prog 135 #[.slice A0 l0.length c0, .int .i64 a1] w fun e w' =>e= .returned (.int .i64 r)∧Drawn0 w w' :=by
 have b:=Aside0.mk hr0
 have c:=Aside0.mk hc0
 clear hr0 hc0
 have H:(if(wrap64 (a1 - (l0.length:Int)))<0 then(some (-1))else(some (wrap64 (a1 - (l0.length:Int)))))=some r:=h
 clear h
 by_cases c3:(wrap64 (a1 - (l0.length:Int)))<0
 ·rw[if_pos c3]at H
  have a:decide ((wrap64 (a1 - (l0.length:Int)))<0)=true:=decide_eq_true c3
  clear c3
  obtain rfl:=Option.some.inj H;clear H
  go_enter Tryz.func135,Tryz.ntmps135
  go_wp2
  go_ret
  exact⟨by first|rfl|(simp;done)|(simp[*];done),by repeat(first|exact Drawn0.refl _|apply Drawn0.step)⟩
 rw[if_neg c3]at H
 have a:decide ((wrap64 (a1 - (l0.length:Int)))<0)=false:=decide_eq_false c3
 clear c3
 obtain rfl:=Option.some.inj H;clear H
 go_enter Tryz.func135,Tryz.ntmps135
 go_wp2
 go_ret
 exact⟨by first|rfl|(simp;done)|(simp[*];done),by repeat(first|exact Drawn0.refl _|apply Drawn0.step)⟩
set_option maxHeartbeats 8000000 in
set_option maxRecDepth 100000 in
theorem gL.calls (k:Nat) (B:Int) (D:Int) (m:Option Addr) (n:Nat) (a:List Int) (E:Int) (G:Int) (o:Option Addr) (p:Nat) (c:List (S217)) (q:Option Addr) (s:Nat) (i:List (S55)) (u:Option Addr) (v:Nat) (j:List (S219)) (a1:Int) (r:Int) (w:World) (K:Kd.C (Kd.int .i64) w m a.length a) (L:a.length≤n) (M:Kd.C kF w o c.length c) (O:c.length≤p) (P:Kd.C k55 w q i.length i) (T:i.length≤s) (U:Kd.C kG w u j.length j) (W:j.length≤v) (h:gL.f k B D a E G c i j a1=some r):
  Calls Tryz.prog 71 #[.agg #[.int .i64 B, .int .i64 D, .slice m a.length n, .int .i64 E, .int .i64 G, .slice o c.length p, .slice q i.length s, .slice u j.length v], .int .i64 a1] w fun e w' =>e= .returned (.int .i64 r)∧Below w.heap.size w w' :=by
 have ap:=Tryz.underlying122
 have x:=Aside0.mk K
 have y:=Aside0.mk L
 clear K L
 have z:=Aside0.mk M
 have A:=Aside0.mk O
 clear M O
 have I:=Aside0.mk P
 have J:=Aside0.mk T
 clear P T
 have X:=Aside0.mk U
 have Y:=Aside0.mk W
 clear U W
 have HB:=Aside0.mk (Below.refl w.heap.size w)
 have H:((dn.f a a1).bind fun b=>(if b<0 then(some (-1))else((gq.f c b).bind fun g=>(if g<0 then(some (-1))else((dC.f k i g).bind fun l=>(if l<0 then(some (-1))else((gK.f j l).bind fun t=>(if t<0 then(some (-1))else(some t)))))))))=some r:=h
 clear h
 obtain⟨b,A3,H⟩:=ob H
 by_cases c4:b<0
 ·rw[if_pos c4]at H
  have an:decide (b<0)=true:=decide_eq_true c4
  clear c4
  obtain rfl:=Option.some.inj H;clear H
  go_enter Tryz.func71,Tryz.ntmps71
  go_wp2_with (first|(refine gl (some 8) Tryz.func51 #[.slice m a.length n, .int .i64 a1] rfl ?_;(with_reducible refine(dn.calls _ _ a a1 b _ (cb x.out) y.out A3.out).mono ?_);rintro e w' ⟨rfl,⟨nd,rfl⟩⟩;refine⟨_,rfl, ?_⟩))
  go_ret
  exact fin
 rw[if_neg c4]at H
 have an:decide (b<0)=false:=decide_eq_false c4
 clear c4
 obtain⟨g,A7,H⟩:=ob H
 by_cases c8:g<0
 ·rw[if_pos c8]at H
  have ao:decide (g<0)=true:=decide_eq_true c8
  clear c8
  obtain rfl:=Option.some.inj H;clear H
  go_enter Tryz.func71,Tryz.ntmps71
  go_wp2_with (first|(refine gl (some 8) Tryz.func51 #[.slice m a.length n, .int .i64 a1] rfl ?_;(with_reducible refine(dn.calls _ _ a a1 b _ (cb x.out) y.out A3.out).mono ?_);rintro e w' ⟨rfl,⟨nd,rfl⟩⟩;refine⟨_,rfl, ?_⟩)|(refine gl (some 14) Tryz.func133 #[.slice o c.length p, .int .i64 b] rfl ?_;(with_reducible refine(gq.calls _ _ c b g _ (cb z.out) A.out A7.out).mono ?_);rintro e w' ⟨rfl,⟨nd,rfl⟩⟩;refine⟨_,rfl, ?_⟩))
  go_ret
  exact fin
 rw[if_neg c8]at H
 have ao:decide (g<0)=false:=decide_eq_false c8
 clear c8
 obtain⟨l,ac,H⟩:=ob H
 by_cases c12:l<0
 ·rw[if_pos c12]at H
  have ad:decide (l<0)=true:=decide_eq_true c12
  clear c12
  obtain rfl:=Option.some.inj H;clear H
  go_enter Tryz.func71,Tryz.ntmps71
  go_wp2_with (first|((with_reducible refine gd 2 rfl ?_);refine bx 2 #[.int .i64 B, .int .i64 D, .slice m a.length n, .int .i64 E, .int .i64 G, .slice o c.length p, .slice q i.length s, .slice u j.length v] 122 ?_;intro Z hg aq hbox hb;have d:=Aside0.mk hbox;have ab:=hz HB hg;replace HB:=hs HB hb;clear hb hbox hg;have:=cf8 d)|(refine gl (some 8) Tryz.func51 #[.slice m a.length n, .int .i64 a1] rfl ?_;(with_reducible refine(dn.calls _ _ a a1 b _ (cb x.out) y.out A3.out).mono ?_);rintro e w' ⟨rfl,⟨nd,rfl⟩⟩;refine⟨_,rfl, ?_⟩)|(refine gl (some 14) Tryz.func133 #[.slice o c.length p, .int .i64 b] rfl ?_;(with_reducible refine(gq.calls _ _ c b g _ (cb z.out) A.out A7.out).mono ?_);rintro e w' ⟨rfl,⟨nd,rfl⟩⟩;refine⟨_,rfl, ?_⟩)|(refine gl (some 20) Tryz.func134 #[.slice q i.length s, .int .i64 g] rfl ?_;(with_reducible refine(dC.calls k _ _ i g l _ (cb I.out) J.out ac.out).mono ?_);rintro e ar ⟨rfl,hb⟩;refine⟨_,rfl, ?_⟩;replace d:=kb d hb;replace HB:=hs HB hb))
  go_ret
  exact fin
 rw[if_neg c12]at H
 have ad:decide (l<0)=false:=decide_eq_false c12
 clear c12
 obtain⟨t,am,H⟩:=ob H
 by_cases c17:t<0
 ·rw[if_pos c17]at H
  have al:decide (t<0)=true:=decide_eq_true c17
  clear c17
  obtain rfl:=Option.some.inj H;clear H
  go_enter Tryz.func71,Tryz.ntmps71
  go_wp2_with (first|((with_reducible refine gd 2 rfl ?_);refine bx 2 #[.int .i64 B, .int .i64 D, .slice m a.length n, .int .i64 E, .int .i64 G, .slice o c.length p, .slice q i.length s, .slice u j.length v] 122 ?_;intro Z hg aw hbox hb;have d:=Aside0.mk hbox;have ab:=hz HB hg;replace HB:=hs HB hb;clear hb hbox hg;have:=cf8 d)|(refine gl (some 8) Tryz.func51 #[.slice m a.length n, .int .i64 a1] rfl ?_;(with_reducible refine(dn.calls _ _ a a1 b _ (cb x.out) y.out A3.out).mono ?_);rintro e w' ⟨rfl,⟨nd,rfl⟩⟩;refine⟨_,rfl, ?_⟩)|(refine gl (some 14) Tryz.func133 #[.slice o c.length p, .int .i64 b] rfl ?_;(with_reducible refine(gq.calls _ _ c b g _ (cb z.out) A.out A7.out).mono ?_);rintro e w' ⟨rfl,⟨nd,rfl⟩⟩;refine⟨_,rfl, ?_⟩)|(refine gl (some 20) Tryz.func134 #[.slice q i.length s, .int .i64 g] rfl ?_;(with_reducible refine(dC.calls k _ _ i g l _ (cb I.out) J.out ac.out).mono ?_);rintro e aB ⟨rfl,hb⟩;refine⟨_,rfl, ?_⟩;replace d:=kb d hb;replace HB:=hs HB hb;have:=cf8 d)|(refine gl (some 26) Tryz.func135 #[.slice u j.length v, .int .i64 l] rfl ?_;(with_reducible refine(gK.calls _ _ j l t _ (cb X.out) Y.out am.out).mono ?_);rintro e w' ⟨rfl,⟨nd,rfl⟩⟩;refine⟨_,rfl, ?_⟩))
  go_ret
  exact fin
 rw[if_neg c17]at H
 have al:decide (t<0)=false:=decide_eq_false c17
 clear c17
 obtain rfl:=Option.some.inj H;clear H
 go_enter Tryz.func71,Tryz.ntmps71
 go_wp2_with (first|((with_reducible refine gd 2 rfl ?_);refine bx 2 #[.int .i64 B, .int .i64 D, .slice m a.length n, .int .i64 E, .int .i64 G, .slice o c.length p, .slice q i.length s, .slice u j.length v] 122 ?_;intro Z hg aE hbox hb;have d:=Aside0.mk hbox;have ab:=hz HB hg;replace HB:=hs HB hb;clear hb hbox hg;have:=cf8 d)|(refine gl (some 8) Tryz.func51 #[.slice m a.length n, .int .i64 a1] rfl ?_;(with_reducible refine(dn.calls _ _ a a1 b _ (cb x.out) y.out A3.out).mono ?_);rintro e w' ⟨rfl,⟨nd,rfl⟩⟩;refine⟨_,rfl, ?_⟩)|(refine gl (some 14) Tryz.func133 #[.slice o c.length p, .int .i64 b] rfl ?_;(with_reducible refine(gq.calls _ _ c b g _ (cb z.out) A.out A7.out).mono ?_);rintro e w' ⟨rfl,⟨nd,rfl⟩⟩;refine⟨_,rfl, ?_⟩)|(refine gl (some 20) Tryz.func134 #[.slice q i.length s, .int .i64 g] rfl ?_;(with_reducible refine(dC.calls k _ _ i g l _ (cb I.out) J.out ac.out).mono ?_);rintro e aF ⟨rfl,hb⟩;refine⟨_,rfl, ?_⟩;replace d:=kb d hb;replace HB:=hs HB hb;have:=cf8 d)|(refine gl (some 26) Tryz.func135 #[.slice u j.length v, .int .i64 l] rfl ?_;(with_reducible refine(gK.calls _ _ j l t _ (cb X.out) Y.out am.out).mono ?_);rintro e w' ⟨rfl,⟨nd,rfl⟩⟩;refine⟨_,rfl, ?_⟩))
 go_ret
 exact fin
set_option maxHeartbeats 8000000 in
set_option maxRecDepth 100000 in
theorem dA.calls (k:Nat) (A0:Option Addr) (c0:Nat) (l0:List (S122)) (a1:Int) (r:Int) (w:World) (hr0:Kd.C kH w A0 l0.length l0) (hc0:l0.length≤c0) (h:dA.f k l0 a1=some r):
  Calls Tryz.prog 27 #[.slice A0 l0.length c0, .int .i64 a1] w fun e w' =>e= .returned (.int .i64 r)∧Below w.heap.size w w' :=by
 have am:=Tryz.underlying122
 have Z:=Aside0.mk hr0
 have ao:=Aside0.mk hc0
 clear hr0 hc0
 have HB:=Aside0.mk (Below.refl w.heap.size w)
 have H:(if(wrap64 (a1 - (l0.length:Int)))<0 then(some (-1))else(dA.l0 k l0 (wrap64 (a1 - (l0.length:Int))) 0))=some r:=h
 clear h
 by_cases c3:(wrap64 (a1 - (l0.length:Int)))<0
 ·rw[if_pos c3]at H
  have ac:decide ((wrap64 (a1 - (l0.length:Int)))<0)=true:=decide_eq_true c3
  clear c3
  obtain rfl:=Option.some.inj H;clear H
  go_enter Tryz.func27,Tryz.ntmps27
  go_wp2
  go_ret
  exact fin
 rw[if_neg c3]at H
 have ac:decide ((wrap64 (a1 - (l0.length:Int)))<0)=false:=decide_eq_false c3
 clear c3
 have H' :=Aside0.mk H
 clear H
 go_enter Tryz.func27,Tryz.ntmps27
 go_wp2
 go_loopg [1,5] k (fun kq v1 v5 w' => ∃(x:Int) (a:Int),v1= .int .i64 x∧v5= .int .i64 a∧Aside0 (dA.l0 kq l0 x a=some r)∧Aside0 (kq≤k)∧Aside0 (Below w.heap.size w w'))
 case atStart=>exact⟨(wrap64 (a1 - (l0.length:Int))),(0),(by first|rfl|(simp;done)|(simp[*];done)),(by first|rfl|(simp;done)|(simp[*];done)),H',⟨Nat.le_refl _⟩,⟨bl⟩⟩
 case round=>
  clear H'
  obtain⟨x,a,rfl,rfl,HA,ab,HB⟩:=hrel
  cases gk with
  |zero=>exact absurd HA.out (by simp[dA.l0])
  | succ k1=>
   have H:=HA.out
   clear HA
   simp only[dA.l0]at H
   by_cases c4:a<(l0.length:Int)
   ·rw[if_pos c4]at H
    have ad:decide (a<(l0.length:Int))=true:=decide_eq_true c4
    clear c4
    by_cases c5:0≤a
    ·rw[if_pos c5]at H
     have an:decide (0≤a)=true:=decide_eq_true c5
     clear c5
     obtain⟨t116,A6,H⟩:=ob H
     by_cases c7:t116<0
     ·rw[if_pos c7]at H
      have al:decide (t116<0)=true:=decide_eq_true c7
      clear c7
      obtain rfl:=Option.some.inj H;clear H
      have y:0≤(a:Int):=od
      have z:a<(l0.length:Int):=od
      obtain⟨Y,L,M,O,P,T,U,W,X,e115,b,c,d,g,i,j,l,m,n,o,p,q,s,t,u,v⟩:=nu Z.out a y z
      cases e115
      obtain⟨b,c,d,g,i,j,l,m⟩:=hc8 HB b c d g i j l m
      have A:=Aside0.mk o
      have B:=Aside0.mk n
      clear o n
      have D:=Aside0.mk q
      have E:=Aside0.mk p
      clear q p
      have G:=Aside0.mk t
      have I:=Aside0.mk s
      clear t s
      have J:=Aside0.mk v
      have K:=Aside0.mk u
      clear v u
      replace y:=eq_true y
      replace z:=eq_true z
      go_wp2_with (first|(refine gl (some 23) Tryz.func71 #[.agg #[.int .i64 ((aV l0 a).f0), .int .i64 ((aV l0 a).f1), .slice L ((aV l0 a).f2).length M, .int .i64 ((aV l0 a).f3), .int .i64 ((aV l0 a).f4), .slice O ((aV l0 a).f5).length P, .slice T ((aV l0 a).f6).length U, .slice W ((aV l0 a).f7).length X], .int .i64 x] rfl ?_;(with_reducible refine(gL.calls k1 ((aV l0 a).f0) ((aV l0 a).f1) _ _ ((aV l0 a).f2) ((aV l0 a).f3) ((aV l0 a).f4) _ _ ((aV l0 a).f5) _ _ ((aV l0 a).f6) _ _ ((aV l0 a).f7) x t116 _ (cb A.out) B.out (cb D.out) E.out (cb G.out) I.out (cb J.out) K.out A6.out).mono ?_);rintro e w8 ⟨rfl,hb⟩;refine⟨_,rfl, ?_⟩;replace HB:=hs HB hb))
      go_ret
      exact fin
     rw[if_neg c7]at H
     have al:decide (t116<0)=false:=decide_eq_false c7
     clear c7
     have H' :=Aside0.mk H
     clear H
     have y:0≤(a:Int):=od
     have z:a<(l0.length:Int):=od
     obtain⟨Y,L,M,O,P,T,U,W,X,e115,b,c,d,g,i,j,l,m,n,o,p,q,s,t,u,v⟩:=nu Z.out a y z
     cases e115
     obtain⟨b,c,d,g,i,j,l,m⟩:=hc8 HB b c d g i j l m
     have A:=Aside0.mk o
     have B:=Aside0.mk n
     clear o n
     have D:=Aside0.mk q
     have E:=Aside0.mk p
     clear q p
     have G:=Aside0.mk t
     have I:=Aside0.mk s
     clear t s
     have J:=Aside0.mk v
     have K:=Aside0.mk u
     clear v u
     replace y:=eq_true y
     replace z:=eq_true z
     go_wp2_with (first|(refine gl (some 23) Tryz.func71 #[.agg #[.int .i64 ((aV l0 a).f0), .int .i64 ((aV l0 a).f1), .slice L ((aV l0 a).f2).length M, .int .i64 ((aV l0 a).f3), .int .i64 ((aV l0 a).f4), .slice O ((aV l0 a).f5).length P, .slice T ((aV l0 a).f6).length U, .slice W ((aV l0 a).f7).length X], .int .i64 x] rfl ?_;(with_reducible refine(gL.calls k1 ((aV l0 a).f0) ((aV l0 a).f1) _ _ ((aV l0 a).f2) ((aV l0 a).f3) ((aV l0 a).f4) _ _ ((aV l0 a).f5) _ _ ((aV l0 a).f6) _ _ ((aV l0 a).f7) x t116 _ (cb A.out) B.out (cb D.out) E.out (cb G.out) I.out (cb J.out) K.out A6.out).mono ?_);rintro e w9 ⟨rfl,hb⟩;refine⟨_,rfl, ?_⟩;replace HB:=hs HB hb))
     go_roundg k1
     case measure=>have:=ab.out;omega
     case rel=>exact⟨(t116),(wrap64 (a+1)),(by first|rfl|(simp;done)|(simp[*];done)),(by first|rfl|(simp;done)|(simp[*];done)),H',⟨by have:=ab.out;omega⟩,⟨bl⟩⟩
    rw[if_neg c5]at H
    exact absurd H (by simp)
   rw[if_neg c4]at H
   have ad:decide (a<(l0.length:Int))=false:=decide_eq_false c4
   clear c4
   obtain rfl:=Option.some.inj H;clear H
   go_wp2
   go_ret
   exact fin
set_option maxHeartbeats 8000000 in
set_option maxRecDepth 100000 in
theorem gZ.calls (k:Nat) (g:Option Addr) (i:Nat) (b:List (S116)) (j:Option Addr) (l:Nat) (c:List (S122)) (a1:Int) (r:Int) (w:World) (o:Kd.C kE w g b.length b) (p:b.length≤i) (q:Kd.C kH w j c.length c) (s:c.length≤l) (h:gZ.f k b c a1=some r):
  Calls Tryz.prog 6 #[.agg #[.slice g b.length i, .slice j c.length l], .int .i64 a1] w fun e w' =>e= .returned (.int .i64 r)∧Below w.heap.size w w' :=by
 have A:=Tryz.underlying25
 have m:=Aside0.mk o
 have n:=Aside0.mk p
 clear o p
 have t:=Aside0.mk q
 have u:=Aside0.mk s
 clear q s
 have HB:=Aside0.mk (Below.refl w.heap.size w)
 have H:((dw.f k b a1).bind fun d=>(if d<0 then(some (-1))else((dA.f k c d).bind fun t119=>(if t119<0 then(some (-1))else(some t119)))))=some r:=h
 clear h
 obtain⟨d,A3,H⟩:=ob H
 by_cases c4:d<0
 ·rw[if_pos c4]at H
  have y:decide (d<0)=true:=decide_eq_true c4
  clear c4
  obtain rfl:=Option.some.inj H;clear H
  go_enter Tryz.func6,Tryz.ntmps6
  go_wp2_with (first|((with_reducible refine gd 2 rfl ?_);refine bx 2 #[.slice g b.length i, .slice j c.length l] 25 ?_;intro v hg w5 hbox hb;have a:=Aside0.mk hbox;have x:=hz HB hg;replace HB:=hs HB hb;clear hb hbox hg;have:=cf2 a)|(refine gl (some 8) Tryz.func26 #[.slice g b.length i, .int .i64 a1] rfl ?_;(with_reducible refine(dw.calls k _ _ b a1 d _ (cb m.out) n.out A3.out).mono ?_);rintro e w7 ⟨rfl,hb⟩;refine⟨_,rfl, ?_⟩;replace a:=kb a hb;replace HB:=hs HB hb))
  go_ret
  exact fin
 rw[if_neg c4]at H
 have y:decide (d<0)=false:=decide_eq_false c4
 clear c4
 obtain⟨t119,A8,H⟩:=ob H
 by_cases c9:t119<0
 ·rw[if_pos c9]at H
  have z:decide (t119<0)=true:=decide_eq_true c9
  clear c9
  obtain rfl:=Option.some.inj H;clear H
  go_enter Tryz.func6,Tryz.ntmps6
  go_wp2_with (first|((with_reducible refine gd 2 rfl ?_);refine bx 2 #[.slice g b.length i, .slice j c.length l] 25 ?_;intro v hg B hbox hb;have a:=Aside0.mk hbox;have x:=hz HB hg;replace HB:=hs HB hb;clear hb hbox hg;have:=cf2 a)|(refine gl (some 8) Tryz.func26 #[.slice g b.length i, .int .i64 a1] rfl ?_;(with_reducible refine(dw.calls k _ _ b a1 d _ (cb m.out) n.out A3.out).mono ?_);rintro e D ⟨rfl,hb⟩;refine⟨_,rfl, ?_⟩;replace a:=kb a hb;replace HB:=hs HB hb;have:=cf2 a)|(refine gl (some 14) Tryz.func27 #[.slice j c.length l, .int .i64 d] rfl ?_;(with_reducible refine(dA.calls k _ _ c d t119 _ (cb t.out) u.out A8.out).mono ?_);rintro e E ⟨rfl,hb⟩;refine⟨_,rfl, ?_⟩;replace a:=kb a hb;replace HB:=hs HB hb))
  go_ret
  exact fin
 rw[if_neg c9]at H
 have z:decide (t119<0)=false:=decide_eq_false c9
 clear c9
 obtain rfl:=Option.some.inj H;clear H
 go_enter Tryz.func6,Tryz.ntmps6
 go_wp2_with (first|((with_reducible refine gd 2 rfl ?_);refine bx 2 #[.slice g b.length i, .slice j c.length l] 25 ?_;intro v hg G hbox hb;have a:=Aside0.mk hbox;have x:=hz HB hg;replace HB:=hs HB hb;clear hb hbox hg;have:=cf2 a)|(refine gl (some 8) Tryz.func26 #[.slice g b.length i, .int .i64 a1] rfl ?_;(with_reducible refine(dw.calls k _ _ b a1 d _ (cb m.out) n.out A3.out).mono ?_);rintro e I ⟨rfl,hb⟩;refine⟨_,rfl, ?_⟩;replace a:=kb a hb;replace HB:=hs HB hb;have:=cf2 a)|(refine gl (some 14) Tryz.func27 #[.slice j c.length l, .int .i64 d] rfl ?_;(with_reducible refine(dA.calls k _ _ c d t119 _ (cb t.out) u.out A8.out).mono ?_);rintro e J ⟨rfl,hb⟩;refine⟨_,rfl, ?_⟩;replace a:=kb a hb;replace HB:=hs HB hb))
 go_ret
 exact fin
set_option maxHeartbeats 8000000 in
set_option maxRecDepth 100000 in
theorem bS.calls (k:Nat) (A0:Option Addr) (c0:Nat) (l0:List Int) (r:List Int) (w:World) (hr0:Kd.C (Kd.int .i64) w A0 l0.length l0) (hc0:l0.length≤c0) (h:bS.f k l0=some r):
  Calls Tryz.prog 60 #[.slice A0 l0.length c0] w fun e w' => ∃B:Value,e= .returned (B)∧Kd.R (Kd.int .i64) 3 w' w.heap.size (fun _=>True) B r∧Below w.heap.size w w' :=by
 have M:=Aside0.mk hr0
 have am:=Aside0.mk hc0
 clear hr0 hc0
 have HB:=Aside0.mk (Below.refl w.heap.size w)
 have H:(if 0≤(l0.length:Int)then(if((l0.length:Int):Int).toNat≤35184372088832 then(bS.l0 k l0 (List.replicate ((l0.length:Int):Int).toNat 0) 0)else(none))else(none))=some r:=h
 clear h
 by_cases c2:0≤(l0.length:Int)
 ·rw [if_pos c2]at H
  have Y:=eq_true c2
  have Z:decide (0≤(l0.length:Int))=true:=decide_eq_true c2
  clear c2
  by_cases c3:((l0.length:Int):Int).toNat≤35184372088832
  ·rw [if_pos c3]at H
   have ab:=eq_true c3
   have ac:decide (((l0.length:Int):Int).toNat≤35184372088832)=true:=decide_eq_true c3
   clear c3
   obtain⟨u,c⟩: ∃y_:List Int,y_=(List.replicate ((l0.length:Int):Int).toNat 0):=⟨_,rfl⟩
   replace H:(bS.l0 k l0 u 0)=some r:=by first|(rw[c];with_reducible exact H)|(have i:=(Option.bind_some _ _).symm.trans H;rw[c];with_reducible exact i)|(have i:=(Option.bind_some _ _).symm.trans H;with_reducible exact i)|with_reducible exact H|(rw[c];exact H)|exact H
   have s:=Aside0.mk c
   clear c
   have H' :=Aside0.mk H
   clear H
   go_enter Tryz.func60,Tryz.ntmps60
   go_wp2_with (first|((with_reducible refine gd 7 rfl ?_);refine Kd.R_make (Kd.int .i64) _ 3 rfl (N:=7) rfl 29 _ _ rfl (l0.length:Int) rfl rfl Tryz.underlying29 (.int .i64 0) 8 info3 rfl (by decide) (by omega) 0 (ok:=fun _=>True) (okp:=fun _=>True) rfl (fun _ hk=>hk) trivial (of_decide_eq_true (by first|(with_reducible assumption)|assumption)) (Nat.le_trans (Nat.mul_le_mul_right _ (of_decide_eq_true (by first|(with_reducible assumption)|assumption):(l0.length:Int).toNat≤35184372088832)) (by omega)) (Below.refl _ _) (Nat.le_refl _) ?_;intro J w4 l hb hg_ hnew_;clear hg_ hnew_;(first|rw[←s.out]at l|(simp only[Int.reduceToNat]at l;rw[←s.out]at l));have z:=Aside0.mk (Kd.R_lower l (aU bl));replace HB:=hs HB hb;clear hb l))
   go_loopg [4] k (fun kq v4 w' => ∃(b:List Int) (a:Int),v4= .int .i64 a∧Aside0 (bS.l0 kq l0 b a=some r)∧Aside0 (kq≤k)∧Aside0 (Kd.R (Kd.int .i64) 3 w' w.heap.size (fun _=>True) J b)∧Aside0 (Below w.heap.size w w'))
   case atStart=>exact⟨(u),(0),(by first|rfl|(simp;done)|(simp[*];done)),H',⟨Nat.le_refl _⟩,⟨by(with_reducible repeat(first|apply Kd.R_alloc|apply Kd.R_drewN|apply Kd.R_drew));exact z.out⟩,⟨bl⟩⟩
   case round=>
    clear H'
    obtain⟨b,a,rfl,HA,D,g,HB⟩:=hrel
    cases gk with
    |zero=>exact absurd HA.out (by simp[bS.l0])
    | succ k1=>
     have H:=HA.out
     clear HA
     simp only[bS.l0]at H
     by_cases c6:a<(l0.length:Int)
     ·rw[if_pos c6]at H
      have K:decide (a<(l0.length:Int))=true:=decide_eq_true c6
      clear c6
      by_cases c7:0≤a
      ·rw[if_pos c7]at H
       have ad:decide (0≤a)=true:=decide_eq_true c7
       clear c7
       by_cases c8:a<(b.length:Int)
       ·rw[if_pos c8]at H
        have al:decide (a<(b.length:Int))=true:=decide_eq_true c8
        clear c8
        obtain⟨m,d⟩: ∃y_:List Int,y_=(b.set (a:Int).toNat (rd l0 a)):=⟨_,rfl⟩
        replace H:(bS.l0 k1 l0 m (wrap64 (a+1)))=some r:=by first|(rw[d];with_reducible exact H)|(have i:=(Option.bind_some _ _).symm.trans H;rw[d];with_reducible exact i)|(have i:=(Option.bind_some _ _).symm.trans H;with_reducible exact i)|with_reducible exact H|(rw[d];exact H)|exact H
        have A:=Aside0.mk d
        clear d
        have H' :=Aside0.mk H
        clear H
        have n:0≤(a:Int):=od
        have o:a<(l0.length:Int):=od
        obtain⟨U,L,j⟩:=Kd.at_int M.out a n o
        cases L
        replace j:=hc HB j
        replace n:=eq_true n
        replace o:=eq_true o
        have p9:0≤(a:Int):=od
        have q9:(a:Int)<((b.length:Int):Int):=od
        obtain⟨x,O,E,G,P,an,I⟩:=Kd.R_form g.out (by omega)
        (first|cases E|(injection E with ea_ en_ ec_;(first|subst ea_|(injection ea_ with ea_;subst ea_));subst ec_;clear en_))
        have T:=Aside0.mk G
        have ao:=Aside0.mk I
        clear G P I
        obtain⟨W,X⟩:=Kd.R_celln 0 g.out (a:Int) p9 q9
        replace p9:=eq_true p9
        replace q9:=eq_true q9
        have q:=Kd.R_putg g.out (a:Int) (rd l0 a)
        go_wp2_with (first|((with_reducible refine cB (t:=3) (p:=20) rfl ?_);refine bT (t:=3) (p:=20) (v:= ?vo_w11) (w1:=(wr.setCell ⟨x,(a:Int).toNat,none⟩ (.int .i64 (rd l0 a)))) ?hg ?ho ?hn ?hr ?_;(case ho=>rfl);(case hg=>rfl);(case hn=>rfl);(case hr=>first|(go_simp;done)|(go_simp;rfl));intro y hw;have hg:wr.grownBy y (some x):=(by rw[hw];exact q.2);have hp_:Kd.R (Kd.int .i64) 3 y w.heap.size (fun _=>True) (.slice (some ⟨x,0,none⟩) b.length O) m:=(by rw[hw,A.out];exact q.1);clear q;replace g:=Aside0.mk (hp_);replace HB:=Aside0.mk ((by rw[hw];exact aK (HB.out) T.out:Below w.heap.size w y));clear hg hw hp_))
        go_roundg k1
        case measure=>have:=D.out;omega
        case rel=>exact⟨(m),(wrap64 (a+1)),(by first|rfl|(simp;done)|(simp[*];done)),H',⟨by have:=D.out;omega⟩,⟨by(with_reducible repeat(first|apply Kd.R_alloc|apply Kd.R_drewN|apply Kd.R_drew));exact g.out⟩,⟨bl⟩⟩
       rw[if_neg c8]at H
       exact absurd H (by simp)
      rw[if_neg c7]at H
      exact absurd H (by simp)
     rw[if_neg c6]at H
     have K:decide (a<(l0.length:Int))=false:=decide_eq_false c6
     clear c6
     obtain rfl:=Option.some.inj H;clear H
     go_wp2
     go_ret
     exact⟨_,by first|rfl|(simp[bz,bA]<;>rfl)|(simp[*,bz,bA]<;>rfl),by(with_reducible repeat(first|apply Kd.R_alloc|apply Kd.R_drewN|apply Kd.R_drew));exact g.out,bl⟩
  rw[if_neg c3]at H
  exact absurd H (by simp)
 rw[if_neg c2]at H
 exact absurd H (by simp)
set_option maxHeartbeats 8000000 in
set_option maxRecDepth 100000 in
theorem iT.calls (k:Nat) (d:Int) (l:Option Addr) (m:Nat) (c:List Int) (r1:Int) (r2:List Int) (w:World) (x:Kd.C (Kd.int .i64) w l c.length c) (y:c.length≤m) (h:iT.f k d c=some (r1,r2)):
  Calls Tryz.prog 76 #[.agg #[.int .i64 d, .slice l c.length m]] w fun e w' => ∃E:Value,e= .returned (.agg #[.int .i64 r1,E])∧Kd.R (Kd.int .i64) 3 w' w.heap.size (fun _=>True) E r2∧Below w.heap.size w w' :=by
 have I:=Tryz.underlying116
 have J:=Tryz.underlying126
 have B:=Aside0.mk x
 have D:=Aside0.mk y
 clear x y
 have HB:=Aside0.mk (Below.refl w.heap.size w)
 have H:((bS.f k c).bind fun g=>(some (d,g)))=some (r1,r2):=h
 clear h
 obtain⟨g,A2,H⟩:=ob H
 simp only[Option.some.injEq,Prod.mk.injEq]at H
 obtain⟨rfl,rfl⟩:=H
 go_enter Tryz.func76,Tryz.ntmps76
 go_wp2_with (first|((with_reducible refine gd 1 rfl ?_);refine bx 1 #[.int .i64 d, .slice l c.length m] 116 ?_;intro K hg w3 hbox hb;have a:=Aside0.mk hbox;have L:=hz HB hg;replace HB:=hs HB hb;clear hb hbox hg)|((with_reducible refine gd 2 rfl ?_);refine bx 2 #[.int .i64 0, .slice none 0 0] 126 ?_;intro n hg w4 hbox hb;have b:=Aside0.mk hbox;have M:=hz HB hg;have o:=nl a hg;have q:=ng a hg;replace a:=kb a hb;replace HB:=hs HB hb;clear hb hbox hg)|((with_reducible refine gd 3 rfl ?_);refine bx 3 #[.int .i64 0, .slice none 0 0] 126 ?_;intro z hg w5 hbox hb;have j:=Aside0.mk hbox;have O:=hz HB hg;have r:=nl a hg;have s:=ng a hg;have i:=nl b hg;have t:=ng b hg;replace a:=kb a hb;replace b:=kb b hb;replace HB:=hs HB hb;clear hb hbox hg;have P:=o.out;have T:=q.out;have U:=r.out;have W:=s.out;have:=cf2 a;have X:=t.out;have Y:=i.out;have:=cf2 j)|(refine gl (some 9) Tryz.func60 #[.slice l c.length m] rfl ?_;(with_reducible refine(bS.calls k _ _ c g _ (cb B.out) D.out A2.out).mono ?_);rintro e ab ⟨Z,rfl,ho0,hb⟩;refine⟨_,rfl, ?_⟩;have A:=Aside0.mk (Kd.R_lower ho0 (aU bl));replace a:=kq a hb;replace b:=kq b hb;replace j:=kp z #[.int .i64 d, .slice none 0 0] 126 hb;replace HB:=hs HB hb;obtain⟨u,v,G⟩:=Kd.R_slice A.out;subst G;have:=cf2 j;have:=cf2 b))
 refine bodyPost_ret (results_cell_row rfl _ _ n 126 #[.int .i64 d, .slice u g.length v] (0,0) _ rfl (by(with_reducible repeat(first|refine ah ?_ _|refine af ?_|refine ag ?_ _));refine bg (cs:= #[.int .i64 d, .slice none 0 0]) ?_ 1 _ rfl;(with_reducible repeat(first|refine ah ?_ _|refine af ?_|refine ag ?_ _));refine bg (cs:= #[.int .i64 0, .slice none 0 0]) ?_ 0 _ rfl;(with_reducible repeat(first|refine ah ?_ _|refine af ?_|refine ag ?_ _));refine eX ?_ i.out _;(with_reducible repeat(first|refine ah ?_ _|refine af ?_|refine ag ?_ _));exact b.out) Tryz.underlying126 rfl (by kernel_rfl)) rfl ?_
 exact⟨_,by first|rfl|(simp[bz,bA]<;>rfl)|(simp[*,bz,bA]<;>rfl),by(with_reducible repeat(first|apply Kd.R_alloc|apply Kd.R_drewN|apply Kd.R_drew));exact Kd.R_mono (Kd.R_far (p:=⟨n,1,none⟩) (Kd.R_far (p:=⟨n,0,none⟩) (Kd.R_far (p:=⟨z,1,none⟩) (Kd.R_types (Kd.R_types A.out j.out (by decide)) b.out (by decide)) (fun _ hk=>hk.1.2) (.slice u g.length v)) (fun _ hk=>hk.2) (.int .i64 d)) (fun _ hk=>hk.2) (.slice u g.length v)) (fun _ hk=>trivial),bl⟩
set_option maxHeartbeats 8000000 in
set_option maxRecDepth 100000 in
theorem dm.calls (k:Nat) (A0:Option Addr) (c0:Nat) (l0:List (S116)) (r:List (S126)) (w:World) (hr0:Kd.C kE w A0 l0.length l0) (hc0:l0.length≤c0) (h:dm.f k l0=some r):
  Calls Tryz.prog 31 #[.slice A0 l0.length c0] w fun e w' => ∃aS:Value,e= .returned (aS)∧Kd.S eB 126 w' w.heap.size (fun _=>True) aS r∧Below w.heap.size w w' :=by
 have bk:=Tryz.underlying116
 have bm:=Tryz.underlying126
 have a9:=Aside0.mk hr0
 have b6:=Aside0.mk hc0
 clear hr0 hc0
 have HB:=Aside0.mk (Below.refl w.heap.size w)
 have H:(if 0≤(l0.length:Int)then(if((l0.length:Int):Int).toNat≤8796093022208 then(dm.l0 k l0 (List.replicate ((l0.length:Int):Int).toNat iI) 0)else(none))else(none))=some r:=h
 clear h
 by_cases c2:0≤(l0.length:Int)
 ·rw [if_pos c2]at H
  have br:=eq_true c2
  have bs:decide (0≤(l0.length:Int))=true:=decide_eq_true c2
  clear c2
  by_cases c3:((l0.length:Int):Int).toNat≤8796093022208
  ·rw [if_pos c3]at H
   have bt:=eq_true c3
   have bw:decide (((l0.length:Int):Int).toNat≤8796093022208)=true:=decide_eq_true c3
   clear c3
   obtain⟨T,i⟩: ∃y_:List (S126),y_=(List.replicate ((l0.length:Int):Int).toNat iI):=⟨_,rfl⟩
   replace H:(dm.l0 k l0 T 0)=some r:=by first|(rw[i];with_reducible exact H)|(have n:=(Option.bind_some _ _).symm.trans H;rw[i];with_reducible exact n)|(have n:=(Option.bind_some _ _).symm.trans H;with_reducible exact n)|with_reducible exact H|(rw[i];exact H)|exact H
   have M:=Aside0.mk i
   clear i
   have H' :=Aside0.mk H
   clear H
   go_enter Tryz.func31,Tryz.ntmps31
   go_wp2_with (first|((with_reducible refine gd 7 rfl ?_);refine Kd.S_make eB _ 126 rfl (N:=7) rfl 35 _ _ rfl (l0.length:Int) rfl rfl Tryz.underlying35 (.agg #[(.int .i64 0),(.slice none 0 0)]) 32 ut rfl (by decide) (by omega) iI (ok:=fun _=>True) (okp:=fun _=>True) (oK _ _ _ iI (Kd.R_nil _ _ _ _ _)) (fun _ hk=>hk) trivial (of_decide_eq_true (by first|(with_reducible assumption)|assumption)) (Nat.le_trans (Nat.mul_le_mul_right _ (of_decide_eq_true (by first|(with_reducible assumption)|assumption):(l0.length:Int).toNat≤8796093022208)) (by omega)) (Below.refl _ _) (Nat.le_refl _) ?_;intro a4 w4 G hb hg_ hnew_;clear hg_ hnew_;(first|rw[←M.out]at G|(simp only[Int.reduceToNat]at G;rw[←M.out]at G));have aL:=Aside0.mk (Kd.S_lower G (aU bl));replace HB:=hs HB hb;clear hb G))
   go_loopg [4] k (fun kq v4 w' => ∃(c:List (S126)) (a:Int),v4= .int .i64 a∧Aside0 (dm.l0 kq l0 c a=some r)∧Aside0 (kq≤k)∧Aside0 (Kd.S eB 126 w' w.heap.size (fun _=>True) a4 c)∧Aside0 (Below w.heap.size w w'))
   case atStart=>exact⟨(T),(0),(by first|rfl|(simp;done)|(simp[*];done)),H',⟨Nat.le_refl _⟩,⟨by(with_reducible repeat(first|apply Kd.S_alloc|apply Kd.S_drewN|apply Kd.S_drew));exact aL.out⟩,⟨bl⟩⟩
   case round=>
    clear H'
    obtain⟨c,a,rfl,HA,a0,b,HB⟩:=hrel
    cases gk with
    |zero=>exact absurd HA.out (by simp[dm.l0])
    | succ k1=>
     have H:=HA.out
     clear HA
     simp only[dm.l0]at H
     by_cases c6:a<(l0.length:Int)
     ·rw[if_pos c6]at H
      have a5:decide (a<(l0.length:Int))=true:=decide_eq_true c6
      clear c6
      by_cases c7:0≤a
      ·rw[if_pos c7]at H
       have b0:decide (0≤a)=true:=decide_eq_true c7
       clear c7
       replace H:=Option.bind_eq_some_iff.mp H
       obtain⟨⟨g,o⟩,a1,H⟩:=H
       replace H:(if a<(c.length:Int)then(dm.l0 k1 l0 (c.set (a:Int).toNat (⟨g,o⟩:S126)) (wrap64 (a+1)))else(none))=some r:=H
       have A8:=Aside0.mk a1
       clear a1
       by_cases c9:a<(c.length:Int)
       ·rw[if_pos c9]at H
        have b1:decide (a<(c.length:Int))=true:=decide_eq_true c9
        clear c9
        obtain⟨I,l⟩: ∃y_:List (S126),y_=(c.set (a:Int).toNat (⟨g,o⟩:S126)):=⟨_,rfl⟩
        replace H:(dm.l0 k1 l0 I (wrap64 (a+1)))=some r:=by first|(rw[l];with_reducible exact H)|(have n:=(Option.bind_some _ _).symm.trans H;rw[l];with_reducible exact n)|(have n:=(Option.bind_some _ _).symm.trans H;with_reducible exact n)|with_reducible exact H|(rw[l];exact H)|exact H
        have aO:=Aside0.mk l
        clear l
        have H' :=Aside0.mk H
        clear H
        have J:0≤(a:Int):=od
        have K:a<(l0.length:Int):=od
        obtain⟨bo,U,W,a6,s,u,x,y⟩:=nk a9.out a J K
        cases a6
        obtain⟨s,u⟩:=hc2 HB s u
        have O:=Aside0.mk y
        have P:=Aside0.mk x
        clear y x
        replace J:=eq_true J
        replace K:=eq_true K
        go_wp2_with (first|(refine gl (some 20) Tryz.func76 #[.agg #[.int .i64 ((eY l0 a).f0), .slice U ((eY l0 a).f1).length W]] rfl ?_;(with_reducible refine(iT.calls k1 ((eY l0 a).f0) _ _ ((eY l0 a).f1) g o _ (cb O.out) P.out A8.out).mono ?_);rintro e q ⟨z,rfl,ho0,hb⟩;refine⟨_,rfl, ?_⟩;have m:=Aside0.mk (Kd.R_lower ho0 (aU bl));replace b:=Aside0.mk (Kd.S_elder' (by(with_reducible repeat(first|apply Kd.S_alloc|apply Kd.S_drewN|apply Kd.S_drew));exact b.out) (Kd.R_base ho0) hb);replace HB:=hs HB hb;have X:0≤(a:Int):=od;have Y:(a:Int)<((c.length:Int):Int):=od;obtain⟨d,Z,ab,ac,a7,b2,ad⟩:=Kd.S_form b.out (by omega);(first|cases ab|(injection ab with ea_ en_ ec_;(first|subst ea_|(injection ea_ with ea_;subst ea_));subst ec_;clear en_));have al:=Aside0.mk ac;have b3:=Aside0.mk ad;clear ac a7 ad;obtain⟨_,b4,aP,am,A,B,_,_⟩:=Kd.S_elem b.out iI (a:Int) X Y;obtain⟨an,rfl,ba⟩:=kS am;have bb:q.cell? ⟨d,(a:Int).toNat * 2,none⟩=some (.int .i64 ((aD c a).f0)):=A 0 _ rfl;have bc:q.cell? ⟨d,(a:Int).toNat * 2+1,none⟩=some (an):=A 1 _ rfl;have bd:q.frozen? ⟨d,(a:Int).toNat * 2,none⟩=false:=B 0;have be:q.frozen? ⟨d,(a:Int).toNat * 2+1,none⟩=false:=B 1;clear aP A B am;replace X:=eq_true X;replace Y:=eq_true Y;have n_:=Aside0.mk (Kd.S_mono (ok' :=(fun k_=>some k_≠(z:Value).ownBlock)) b.out (fun k_ hk=>hk.2));clear b;have b:=n_;clear n_;have a8:=Aside0.mk (show Kd.S eB 126 q w.heap.size (fun k_=>((fun _=>True)) k_∧¬((fun k_=>some k_=(z:Value).ownBlock)) k_) (.slice (some ⟨d,0,none⟩) c.length Z) c from(by(with_reducible repeat(first|apply Kd.S_alloc|apply Kd.S_drewN|apply Kd.S_drew));exact Kd.S_mono b.out (fun k_ hk=>⟨trivial,fun e_=>hk e_⟩)));obtain⟨bp,b5,aR,ao,D,E,ap,aq⟩:=Kd.S_elem a8.out iI (a:Int) (of_decide_eq_true (by first|(with_reducible assumption)|assumption)) (by have h_:(a:Int)<((c.length:Int):Int):=of_decide_eq_true (by first|(with_reducible assumption)|assumption);first|exact h_|(have e_:=(Kd.S_reads' b.out).1;omega)|simpa using h_);obtain⟨bh,rfl,bj⟩:=kS ao;have L:=Kd.S_seg aq (of_decide_eq_true (by first|(with_reducible assumption)|assumption)) (by have h_:(a:Int)<((c.length:Int):Int):=of_decide_eq_true (by first|(with_reducible assumption)|assumption);first|exact h_|(have e_:=(Kd.S_reads' b.out).1;omega)|simpa using h_) (seg:= [.int .i64 g,z]) (j:=0) (show 2≤2 from by decide) (x' :=(⟨g,o⟩:S126)) (oK _ _ _ (⟨g,o⟩:S126) (Kd.R_mono (Kd.R_tight rfl (Kd.R_mono (ok' :=fun k_=>((fun _=>True)) k_∧k_≠d) (Kd.R_apart' (m.out) (Kd.S_typed b.out) (by decide)) (fun k_ hk=>⟨trivial,fun e_=>(hk.2) (by rw[e_];rfl)⟩))) (fun _ h_=>Or.inr (h_)))) (fun _ hk=>hk) (fun k_ hk_=>((Kd.R_mono (ok' :=fun k_=>((fun _=>True)) k_∧k_≠d) (Kd.R_apart' (m.out) (Kd.S_typed b.out) (by decide)) (fun k_ hk=>⟨trivial,fun e_=>(hk.2) (by rw[e_];rfl)⟩))).1 k_ hk_.symm);have ar:=D 0 _ rfl;(try simp only[show(eB).sz=2 from rfl,Nat.mul_one,Nat.add_zero]at ar);have aw:=E 0;(try simp only[show(eB).sz=2 from rfl,Nat.mul_one,Nat.add_zero]at aw);have aB:=D 1 _ rfl;(try simp only[show(eB).sz=2 from rfl,Nat.mul_one,Nat.add_zero]at aB);have aE:=E 1;(try simp only[show(eB).sz=2 from rfl,Nat.mul_one,Nat.add_zero]at aE);clear aR D E ao ap aq)|((with_reducible refine cB (t:=126) (p:=21) rfl ?_);refine bT (t:=126) (p:=21) (v:= ?vo_w13) (w1:=((q.setCell ⟨d,(a:Int).toNat * 2,none⟩ (.int .i64 g)).setCell ⟨d,(a:Int).toNat * 2+1,none⟩ (z))) ?hg ?ho ?hn ?hr ?_;(case ho=>rfl);(case hg=>rfl);(case hn=>rfl);(case hr=>first|(go_simp;done)|(go_simp;rfl)|(obtain⟨_,_,rfl⟩:=Kd.R_slice m.out;first|(go_simp;done)|(go_simp;rfl)));intro aF hw;have hg:q.grownBy aF (some d):=(by rw[hw];exact L.2);have hp_:Kd.S eB 126 aF w.heap.size (fun _=>True) (.slice (some ⟨d,0,none⟩) c.length Z) I:=(by rw[hw,aO.out];exact L.1);clear L;have a2:=Aside0.mk (hp_);have a3:=Aside0.mk ((by rw[hw];exact aK (aK (HB.out) al.out) al.out:Below w.heap.size w aF));clear b;clear HB;clear m;have b:=a2;have HB:=a3;clear a2 a3;clear hg hw hp_))
        go_roundg k1
        case measure=>have:=a0.out;omega
        case rel=>exact⟨(I),(wrap64 (a+1)),(by first|rfl|(simp;done)|(simp[*];done)),H',⟨by have:=a0.out;omega⟩,⟨by(with_reducible repeat(first|apply Kd.S_alloc|apply Kd.S_drewN|apply Kd.S_drew));exact b.out⟩,⟨bl⟩⟩
       rw[if_neg c9]at H
       exact absurd H (by simp)
      rw[if_neg c7]at H
      exact absurd H (by simp)
     rw[if_neg c6]at H
     have a5:decide (a<(l0.length:Int))=false:=decide_eq_false c6
     clear c6
     obtain rfl:=Option.some.inj H;clear H
     go_wp2
     go_ret
     exact⟨_,by first|rfl|(simp[bz,bA]<;>rfl)|(simp[*,bz,bA]<;>rfl),by(with_reducible repeat(first|apply Kd.S_alloc|apply Kd.S_drewN|apply Kd.S_drew));exact b.out,bl⟩
  rw[if_neg c3]at H
  exact absurd H (by simp)
 rw[if_neg c2]at H
 exact absurd H (by simp)
set_option maxHeartbeats 8000000 in
set_option maxRecDepth 100000 in
theorem jm.calls (d:Int) (g:Int) (i:Int) (r1:Int) (r2:Int) (r3:Int) (w:World) (h:jm.f d g i=some (r1,r2,r3)):
  Calls Tryz.prog 168 #[.agg #[.int .i64 d, .int .i64 g, .int .i64 i]] w fun e w' =>e= .returned (.agg #[.int .i64 r1, .int .i64 r2, .int .i64 r3])∧Below w.heap.size w w' :=by
 have q:=Tryz.underlying217
 have r:=Tryz.underlying113
 have HB:=Aside0.mk (Below.refl w.heap.size w)
 have H:(some (d,g,i))=some (r1,r2,r3):=h
 clear h
 simp only[Option.some.injEq,Prod.mk.injEq]at H
 obtain⟨rfl,rfl,rfl⟩:=H
 go_enter Tryz.func168,Tryz.ntmps168
 go_wp2_with (first|((with_reducible refine gd 1 rfl ?_);refine bx 1 #[.int .i64 d, .int .i64 g, .int .i64 i] 217 ?_;intro s hg w2 hbox hb;have a:=Aside0.mk hbox;have t:=hz HB hg;replace HB:=hs HB hb;clear hb hbox hg)|((with_reducible refine gd 2 rfl ?_);refine bx 2 #[.int .i64 0, .int .i64 0, .int .i64 0] 113 ?_;intro o hg w3 hbox hb;have c:=Aside0.mk hbox;have u:=hz HB hg;have j:=nl a hg;have k:=ng a hg;replace a:=kb a hb;replace HB:=hs HB hb;clear hb hbox hg)|((with_reducible refine gd 3 rfl ?_);refine bx 3 #[.int .i64 0, .int .i64 0, .int .i64 0] 113 ?_;intro v hg w4 hbox hb;have p:=Aside0.mk hbox;have x:=hz HB hg;have l:=nl a hg;have m:=ng a hg;have b:=nl c hg;have n:=ng c hg;replace a:=kb a hb;replace c:=kb c hb;replace HB:=hs HB hb;clear hb hbox hg;have y:=j.out;have z:=k.out;have A:=l.out;have B:=m.out;have:=cf3 a;have D:=n.out;have E:=b.out;have:=cf3 p;have:=cf3 c))
 refine bodyPost_ret (results_cell_row rfl _ _ o 113 #[.int .i64 d, .int .i64 g, .int .i64 i] (0,0) _ rfl (by(with_reducible repeat(first|refine ah ?_ _|refine af ?_|refine ag ?_ _));refine bg (cs:= #[.int .i64 d, .int .i64 g, .int .i64 0]) ?_ 2 _ rfl;(with_reducible repeat(first|refine ah ?_ _|refine af ?_|refine ag ?_ _));refine bg (cs:= #[.int .i64 d, .int .i64 0, .int .i64 0]) ?_ 1 _ rfl;(with_reducible repeat(first|refine ah ?_ _|refine af ?_|refine ag ?_ _));refine bg (cs:= #[.int .i64 0, .int .i64 0, .int .i64 0]) ?_ 0 _ rfl;(with_reducible repeat(first|refine ah ?_ _|refine af ?_|refine ag ?_ _));refine eX ?_ b.out _;(with_reducible repeat(first|refine ah ?_ _|refine af ?_|refine ag ?_ _));refine eX ?_ b.out _;(with_reducible repeat(first|refine ah ?_ _|refine af ?_|refine ag ?_ _));refine eX ?_ b.out _;(with_reducible repeat(first|refine ah ?_ _|refine af ?_|refine ag ?_ _));exact c.out) Tryz.underlying113 rfl (by kernel_rfl)) rfl ?_
 exact fin
set_option maxHeartbeats 8000000 in
set_option maxRecDepth 100000 in
theorem dK.calls (k:Nat) (A0:Option Addr) (c0:Nat) (l0:List (S217)) (r:List (S113)) (w:World) (hr0:Kd.C kF w A0 l0.length l0) (hc0:l0.length≤c0) (h:dK.f k l0=some r):
  Calls Tryz.prog 142 #[.slice A0 l0.length c0] w fun e w' => ∃aE:Value,e= .returned (aE)∧Kd.R fq 113 w' w.heap.size (fun _=>True) aE r∧Below w.heap.size w w' :=by
 have a6:=Tryz.underlying217
 have a7:=Tryz.underlying113
 have aS:=Aside0.mk hr0
 have bo:=Aside0.mk hc0
 clear hr0 hc0
 have HB:=Aside0.mk (Below.refl w.heap.size w)
 have H:(if 0≤(l0.length:Int)then(if((l0.length:Int):Int).toNat≤11728124029610 then(dK.l0 k l0 (List.replicate ((l0.length:Int):Int).toNat ig) 0)else(none))else(none))=some r:=h
 clear h
 by_cases c2:0≤(l0.length:Int)
 ·rw [if_pos c2]at H
  have a9:=eq_true c2
  have ba:decide (0≤(l0.length:Int))=true:=decide_eq_true c2
  clear c2
  by_cases c3:((l0.length:Int):Int).toNat≤11728124029610
  ·rw [if_pos c3]at H
   have bb:=eq_true c3
   have bc:decide (((l0.length:Int):Int).toNat≤11728124029610)=true:=decide_eq_true c3
   clear c3
   obtain⟨O,m⟩: ∃y_:List (S113),y_=(List.replicate ((l0.length:Int):Int).toNat ig):=⟨_,rfl⟩
   replace H:(dK.l0 k l0 O 0)=some r:=by first|(rw[m];with_reducible exact H)|(have y:=(Option.bind_some _ _).symm.trans H;rw[m];with_reducible exact y)|(have y:=(Option.bind_some _ _).symm.trans H;with_reducible exact y)|with_reducible exact H|(rw[m];exact H)|exact H
   have L:=Aside0.mk m
   clear m
   have H' :=Aside0.mk H
   clear H
   go_enter Tryz.func142,Tryz.ntmps142
   go_wp2_with (first|((with_reducible refine gd 7 rfl ?_);refine Kd.R_make fq _ 113 rfl (N:=7) rfl 100 _ _ rfl (l0.length:Int) rfl rfl Tryz.underlying100 (.agg #[(.int .i64 0),(.int .i64 0),(.int .i64 0)]) 24 uq rfl (by decide) (by omega) ig (ok:=fun _=>True) (okp:=fun _=>True) (oL _ _ _ ig) (fun _ hk=>hk) trivial (of_decide_eq_true (by first|(with_reducible assumption)|assumption)) (Nat.le_trans (Nat.mul_le_mul_right _ (of_decide_eq_true (by first|(with_reducible assumption)|assumption):(l0.length:Int).toNat≤11728124029610)) (by omega)) (Below.refl _ _) (Nat.le_refl _) ?_;intro aO w4 D hb hg_ hnew_;clear hg_ hnew_;(first|rw[←L.out]at D|(simp only[Int.reduceToNat]at D;rw[←L.out]at D));have ar:=Aside0.mk (Kd.R_lower D (aU bl));replace HB:=hs HB hb;clear hb D))
   go_loopg [4] k (fun kq v4 w' => ∃(b:List (S113)) (a:Int),v4= .int .i64 a∧Aside0 (dK.l0 kq l0 b a=some r)∧Aside0 (kq≤k)∧Aside0 (Kd.R fq 113 w' w.heap.size (fun _=>True) aO b)∧Aside0 (Below w.heap.size w w'))
   case atStart=>exact⟨(O),(0),(by first|rfl|(simp;done)|(simp[*];done)),H',⟨Nat.le_refl _⟩,⟨by(with_reducible repeat(first|apply Kd.R_alloc|apply Kd.R_drewN|apply Kd.R_drew));exact ar.out⟩,⟨bl⟩⟩
   case round=>
    clear H'
    obtain⟨b,a,rfl,HA,aF,d,HB⟩:=hrel
    cases gk with
    |zero=>exact absurd HA.out (by simp[dK.l0])
    | succ k1=>
     have H:=HA.out
     clear HA
     simp only[dK.l0]at H
     by_cases c6:a<(l0.length:Int)
     ·rw[if_pos c6]at H
      have aP:decide (a<(l0.length:Int))=true:=decide_eq_true c6
      clear c6
      by_cases c7:0≤a
      ·rw[if_pos c7]at H
       have bd:decide (0≤a)=true:=decide_eq_true c7
       clear c7
       replace H:=Option.bind_eq_some_iff.mp H
       obtain⟨⟨g,i,l⟩,aL,H⟩:=H
       replace H:(if a<(b.length:Int)then(dK.l0 k1 l0 (b.set (a:Int).toNat (⟨g,i,l⟩:S113)) (wrap64 (a+1)))else(none))=some r:=H
       have A8:=Aside0.mk aL
       clear aL
       by_cases c9:a<(b.length:Int)
       ·rw[if_pos c9]at H
        have be:decide (a<(b.length:Int))=true:=decide_eq_true c9
        clear c9
        obtain⟨E,n⟩: ∃y_:List (S113),y_=(b.set (a:Int).toNat (⟨g,i,l⟩:S113)):=⟨_,rfl⟩
        replace H:(dK.l0 k1 l0 E (wrap64 (a+1)))=some r:=by first|(rw[n];with_reducible exact H)|(have y:=(Option.bind_some _ _).symm.trans H;rw[n];with_reducible exact y)|(have y:=(Option.bind_some _ _).symm.trans H;with_reducible exact y)|with_reducible exact H|(rw[n];exact H)|exact H
        have aw:=Aside0.mk n
        clear n
        have H' :=Aside0.mk H
        clear H
        have G:0≤(a:Int):=od
        have I:a<(l0.length:Int):=od
        obtain⟨a8,e289,z,A,B⟩:=uw aS.out a G I
        cases e289
        obtain⟨z,A,B⟩:=hc3 HB z A B
        replace G:=eq_true G
        replace I:=eq_true I
        go_wp2_with (first|(refine gl (some 20) Tryz.func168 #[.agg #[.int .i64 ((gQ l0 a).f0), .int .i64 ((gQ l0 a).f1), .int .i64 ((gQ l0 a).f2)]] rfl ?_;(with_reducible refine(jm.calls ((gQ l0 a).f0) ((gQ l0 a).f1) ((gQ l0 a).f2) g i l _ A8.out).mono ?_);rintro e o ⟨rfl,hb⟩;refine⟨_,rfl, ?_⟩;replace d:=Aside0.mk (Kd.R_below (by(with_reducible repeat(first|apply Kd.R_alloc|apply Kd.R_drewN|apply Kd.R_drew));exact d.out) hb);replace HB:=hs HB hb;have P:0≤(a:Int):=od;have T:(a:Int)<((b.length:Int):Int):=od;obtain⟨c,U,W,X,aR,bh,Y⟩:=Kd.R_form d.out (by omega);(first|cases W|(injection W with ea_ en_ ec_;(first|subst ea_|(injection ea_ with ea_;subst ea_));subst ec_;clear en_));have J:=Aside0.mk X;have bj:=Aside0.mk Y;clear X aR Y;obtain⟨bk,aB,Z,s,u⟩:=Kd.R_elem d.out ig (a:Int) P T;obtain rfl:=kT Z;have a0:o.cell? ⟨c,(a:Int).toNat * 3,none⟩=some (.int .i64 ((aQ b a).f0)):=s 0 _ rfl;have a1:o.cell? ⟨c,(a:Int).toNat * 3+1,none⟩=some (.int .i64 ((aQ b a).f1)):=s 1 _ rfl;have a2:o.cell? ⟨c,(a:Int).toNat * 3+2,none⟩=some (.int .i64 ((aQ b a).f2)):=s 2 _ rfl;have a3:o.frozen? ⟨c,(a:Int).toNat * 3,none⟩=false:=u 0;have a4:o.frozen? ⟨c,(a:Int).toNat * 3+1,none⟩=false:=u 1;have a5:o.frozen? ⟨c,(a:Int).toNat * 3+2,none⟩=false:=u 2;clear aB s u Z;replace P:=eq_true P;replace T:=eq_true T;have ab:=Aside0.mk (show Kd.R fq 113 o w.heap.size (fun _=>True) (.slice (some ⟨c,0,none⟩) b.length U) b from(by(with_reducible repeat(first|apply Kd.R_alloc|apply Kd.R_drewN|apply Kd.R_drew));exact d.out));obtain⟨bm,M,ac,q,x⟩:=Kd.R_elem ab.out ig (a:Int) (of_decide_eq_true (by first|(with_reducible assumption)|assumption)) (by have h_:(a:Int)<((b.length:Int):Int):=of_decide_eq_true (by first|(with_reducible assumption)|assumption);first|exact h_|(have e_:=(Kd.R_reads' d.out).1;omega)|simpa using h_);obtain rfl:=kT ac;have K:=Kd.R_seg ab.out (a:Int) (of_decide_eq_true (by first|(with_reducible assumption)|assumption)) (by have h_:(a:Int)<((b.length:Int):Int):=of_decide_eq_true (by first|(with_reducible assumption)|assumption);first|exact h_|(have e_:=(Kd.R_reads' d.out).1;omega)|simpa using h_) (seg:= [.int .i64 g, .int .i64 i, .int .i64 l]) (j:=0) M q (show 3≤3 from by decide) (x' :=(⟨g,i,l⟩:S113)) (oL _ _ _ (⟨g,i,l⟩:S113)) (fun _ hk=>hk);have ad:=q 0 _ rfl;(try simp only[show(fq).sz=3 from rfl,Nat.mul_one,Nat.add_zero]at ad);have al:=x 0;(try simp only[show(fq).sz=3 from rfl,Nat.mul_one,Nat.add_zero]at al);have am:=q 1 _ rfl;(try simp only[show(fq).sz=3 from rfl,Nat.mul_one,Nat.add_zero]at am);have an:=x 1;(try simp only[show(fq).sz=3 from rfl,Nat.mul_one,Nat.add_zero]at an);have ao:=q 2 _ rfl;(try simp only[show(fq).sz=3 from rfl,Nat.mul_one,Nat.add_zero]at ao);have ap:=x 2;(try simp only[show(fq).sz=3 from rfl,Nat.mul_one,Nat.add_zero]at ap);clear M q x ac)|((with_reducible refine cB (t:=113) (p:=21) rfl ?_);refine bT (t:=113) (p:=21) (v:= ?vo_w13) (w1:=(((o.setCell ⟨c,(a:Int).toNat * 3,none⟩ (.int .i64 g)).setCell ⟨c,(a:Int).toNat * 3+1,none⟩ (.int .i64 i)).setCell ⟨c,(a:Int).toNat * 3+2,none⟩ (.int .i64 l))) ?hg ?ho ?hn ?hr ?_;(case ho=>rfl);(case hg=>rfl);(case hn=>rfl);(case hr=>first|(go_simp;done)|(go_simp;rfl));intro aq hw;have hg:o.grownBy aq (some c):=(by rw[hw];exact K.2);have hp_:Kd.R fq 113 aq w.heap.size (fun _=>True) (.slice (some ⟨c,0,none⟩) b.length U) E:=(by rw[hw,aw.out];exact K.1);clear K;replace d:=Aside0.mk (hp_);replace HB:=Aside0.mk ((by rw[hw];exact aK (aK (aK (HB.out) J.out) J.out) J.out:Below w.heap.size w aq));clear hg hw hp_))
        go_roundg k1
        case measure=>have:=aF.out;omega
        case rel=>exact⟨(E),(wrap64 (a+1)),(by first|rfl|(simp;done)|(simp[*];done)),H',⟨by have:=aF.out;omega⟩,⟨by(with_reducible repeat(first|apply Kd.R_alloc|apply Kd.R_drewN|apply Kd.R_drew));exact d.out⟩,⟨bl⟩⟩
       rw[if_neg c9]at H
       exact absurd H (by simp)
      rw[if_neg c7]at H
      exact absurd H (by simp)
     rw[if_neg c6]at H
     have aP:decide (a<(l0.length:Int))=false:=decide_eq_false c6
     clear c6
     obtain rfl:=Option.some.inj H;clear H
     go_wp2
     go_ret
     exact⟨_,by first|rfl|(simp[bz,bA]<;>rfl)|(simp[*,bz,bA]<;>rfl),by(with_reducible repeat(first|apply Kd.R_alloc|apply Kd.R_drewN|apply Kd.R_drew));exact d.out,bl⟩
  rw[if_neg c3]at H
  exact absurd H (by simp)
 rw[if_neg c2]at H
 exact absurd H (by simp)
set_option maxHeartbeats 8000000 in
set_option maxRecDepth 100000 in
theorem iw.calls (k:Nat) (d:Bool) (v:Option Addr) (x:Nat) (i:List Int) (y:Option Addr) (z:Nat) (j:List Int) (r1:Bool) (r2:List Int) (r3:List Int) (w:World) (I:Kd.C (Kd.int .i64) w v i.length i) (J:i.length≤x) (K:Kd.C (Kd.int .i64) w y j.length j) (L:j.length≤z) (h:iw.f k d i j=some (r1,r2,r3)):
  Calls Tryz.prog 21 #[.agg #[.bool d, .slice v i.length x, .slice y j.length z]] w fun e w' => ∃O P:Value,e= .returned (.agg #[.bool r1,O,P])∧Kd.R (Kd.int .i64) 3 w' w.heap.size (fun k_=>some k_≠(P:Value).ownBlock) O r2∧Kd.R (Kd.int .i64) 3 w' w.heap.size (fun k_=>some k_≠(O:Value).ownBlock) P r3∧Below w.heap.size w w' :=by
 have ao:=Tryz.underlying55
 have ap:=Tryz.underlying57
 have T:=Aside0.mk I
 have U:=Aside0.mk J
 clear I J
 have W:=Aside0.mk K
 have X:=Aside0.mk L
 clear K L
 have HB:=Aside0.mk (Below.refl w.heap.size w)
 have H:((bS.f k i).bind fun g=>((bS.f k j).bind fun m=>(some (d,g,m))))=some (r1,r2,r3):=h
 clear h
 obtain⟨g,A2,H⟩:=ob H
 obtain⟨m,A3,H⟩:=ob H
 simp only[Option.some.injEq,Prod.mk.injEq]at H
 obtain⟨rfl,rfl,rfl⟩:=H
 go_enter Tryz.func21,Tryz.ntmps21
 go_wp2_with (first|((with_reducible refine gd 1 rfl ?_);refine bx 1 #[.bool d, .slice v i.length x, .slice y j.length z] 55 ?_;intro ab hg w4 hbox hb;have a:=Aside0.mk hbox;have ac:=hz HB hg;replace HB:=hs HB hb;clear hb hbox hg)|((with_reducible refine gd 2 rfl ?_);refine bx 2 #[.bool false, .slice none 0 0, .slice none 0 0] 57 ?_;intro l hg w5 hbox hb;have b:=Aside0.mk hbox;have ad:=hz HB hg;have A:=nl a hg;have B:=ng a hg;replace a:=kb a hb;replace HB:=hs HB hb;clear hb hbox hg)|((with_reducible refine gd 3 rfl ?_);refine bx 3 #[.bool false, .slice none 0 0, .slice none 0 0] 57 ?_;intro n hg w6 hbox hb;have c:=Aside0.mk hbox;have al:=hz HB hg;have D:=nl a hg;have E:=ng a hg;have s:=nl b hg;have G:=ng b hg;replace a:=kb a hb;replace b:=kb b hb;replace HB:=hs HB hb;clear hb hbox hg;have aq:=A.out;have ar:=B.out;have aw:=D.out;have aB:=E.out;have:=cf3 a;have am:=G.out;have an:=s.out;have:=cf3 c)|(refine gl (some 9) Tryz.func60 #[.slice v i.length x] rfl ?_;(with_reducible refine(bS.calls k _ _ i g _ (cb T.out) U.out A2.out).mono ?_);rintro e aL ⟨aE,rfl,ho0,hb⟩;refine⟨_,rfl, ?_⟩;have r:=Aside0.mk (Kd.R_lower ho0 (aU bl));replace a:=kq a hb;replace b:=kq b hb;replace c:=kp n #[.bool d, .slice none 0 0, .slice none 0 0] 57 hb;replace HB:=hs HB hb;obtain⟨o,q,Y⟩:=Kd.R_slice r.out;subst Y;have:=cf3 c;have:=cf3 a)|(refine gl (some 13) Tryz.func60 #[.slice y j.length z] rfl ?_;(with_reducible refine(bS.calls k _ _ j m _ (cb W.out) X.out A3.out).mono ?_);rintro e w16 ⟨aF,rfl,ho0,hb⟩;refine⟨_,rfl, ?_⟩;have M:=Aside0.mk (Kd.R_lower (Kd.R_new' ho0 (Kd.R_lt (by(with_reducible repeat(first|apply Kd.R_alloc|apply Kd.R_drewN|apply Kd.R_drew));exact(Kd.R_mono (Kd.R_far (p:=⟨n,1,none⟩) (Kd.R_types r.out c.out (by decide)) (fun _ hk=>hk.2) (.slice o g.length q)) (fun _ h_=>h_.1))))) (aU bl));replace r:=Aside0.mk (Kd.R_elder' (by(with_reducible repeat(first|apply Kd.R_alloc|apply Kd.R_drewN|apply Kd.R_drew));exact(Kd.R_mono (Kd.R_far (p:=⟨n,1,none⟩) (Kd.R_types r.out c.out (by decide)) (fun _ hk=>hk.2) (.slice o g.length q)) (fun _ h_=>h_.1))) (Kd.R_base ho0) hb);replace a:=kq a hb;replace b:=kq b hb;replace c:=kp n #[.bool d, .slice o g.length q, .slice none 0 0] 57 hb;replace HB:=hs HB hb;obtain⟨t,u,Z⟩:=Kd.R_slice M.out;subst Z;have:=cf3 c;have:=cf3 b))
 refine bodyPost_ret (results_cell_row rfl _ _ l 57 #[.bool d, .slice o g.length q, .slice t m.length u] (0,0) _ rfl (by(with_reducible repeat(first|refine ah ?_ _|refine af ?_|refine ag ?_ _));refine bg (cs:= #[.bool d, .slice o g.length q, .slice none 0 0]) ?_ 2 _ rfl;(with_reducible repeat(first|refine ah ?_ _|refine af ?_|refine ag ?_ _));refine bg (cs:= #[.bool d, .slice none 0 0, .slice none 0 0]) ?_ 1 _ rfl;(with_reducible repeat(first|refine ah ?_ _|refine af ?_|refine ag ?_ _));refine bg (cs:= #[.bool false, .slice none 0 0, .slice none 0 0]) ?_ 0 _ rfl;(with_reducible repeat(first|refine ah ?_ _|refine af ?_|refine ag ?_ _));refine eX ?_ s.out _;(with_reducible repeat(first|refine ah ?_ _|refine af ?_|refine ag ?_ _));exact b.out) Tryz.underlying57 rfl (by kernel_rfl)) rfl ?_
 exact⟨_,_,by first|rfl|(simp[bz,bA]<;>rfl)|(simp[*,bz,bA]<;>rfl),by(with_reducible repeat(first|apply Kd.R_alloc|apply Kd.R_drewN|apply Kd.R_drew));exact Kd.R_mono (Kd.R_far (p:=⟨l,2,none⟩) (Kd.R_far (p:=⟨l,1,none⟩) (Kd.R_far (p:=⟨l,0,none⟩) (Kd.R_far (p:=⟨n,2,none⟩) (Kd.R_types (Kd.R_types r.out c.out (by decide)) b.out (by decide)) (fun _ hk=>hk.1.2) (.slice t m.length u)) (fun _ hk=>hk.2) (.bool d)) (fun _ hk=>hk.2) (.slice o g.length q)) (fun _ hk=>hk.2) (.slice t m.length u)) (fun _ hk=>hk.1.1.2),by(with_reducible repeat(first|apply Kd.R_alloc|apply Kd.R_drewN|apply Kd.R_drew));exact Kd.R_mono (Kd.R_far (p:=⟨l,2,none⟩) (Kd.R_far (p:=⟨l,1,none⟩) (Kd.R_far (p:=⟨l,0,none⟩) (Kd.R_far (p:=⟨n,2,none⟩) (Kd.R_types (Kd.R_types M.out c.out (by decide)) b.out (by decide)) (fun _ hk=>hk.1.2) (.slice t m.length u)) (fun _ hk=>hk.2) (.bool d)) (fun _ hk=>hk.2) (.slice o g.length q)) (fun _ hk=>hk.2) (.slice t m.length u)) (fun _ hk=>hk.1.1.2),bl⟩
end Go.Proofs.YteinbmkgenhocaaGreat.P
end
