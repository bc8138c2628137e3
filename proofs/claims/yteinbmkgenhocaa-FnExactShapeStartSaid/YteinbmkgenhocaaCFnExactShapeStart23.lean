/- A part of the claim FnExactShapeStart: texts of this session and texts that its program printed out of the translation, joined. -/
import Derived.Test.YteinbmkgenhocaaCFnExactShapeStart22
section
namespace Go.Proofs.Yteinbmkgenhocaa.P
open Go.RowKit Go.Proofs.YteinbmkgenhocaaW.PrintWords Go.Proofs.YteinbmkgenhocaaW.PrintLast Go.Proofs.YteinbmkgenhocaaW.PrintMore
attribute [local go_sem] ak au aA aC ai aj av ax
set_option linter.unusedVariables false
set_option linter.unusedSimpArgs false
set_option maxHeartbeats 8000000 in
set_option maxRecDepth 100000 in
theorem bZ.calls (k:Nat) (A0:Option Addr) (c0:Nat) (l0:List (S62)) (a1:Int) (r:Int) (w:World) (hr0:Kd.C k62 w A0 l0.length l0) (hc0:l0.length≤c0) (h:bZ.f k l0 a1=some r):
  Calls Try.prog 13 #[.slice A0 l0.length c0, .int .i64 a1] w fun e w' =>e= .returned (.int .i64 r)∧Below w.heap.size w w' :=by
 have A:=Try.underlying62
 have u:=Aside0.mk hr0
 have D:=Aside0.mk hc0
 clear hr0 hc0
 have HB:=Aside0.mk (Below.refl w.heap.size w)
 have H:(if(wrap64 (a1 - (l0.length:Int)))<0 then(some (-1))else(bZ.l0 k l0 (wrap64 (a1 - (l0.length:Int))) 0))=some r:=h
 clear h
 by_cases c3:(wrap64 (a1 - (l0.length:Int)))<0
 ·rw[if_pos c3]at H
  have x:decide ((wrap64 (a1 - (l0.length:Int)))<0)=true:=decide_eq_true c3
  clear c3
  obtain rfl:=Option.some.inj H;clear H
  go_enter Try.func13,Try.ntmps13
  go_wp2
  go_ret
  exact fin
 ·rw [if_neg c3]at H
  have x:decide ((wrap64 (a1 - (l0.length:Int)))<0)=false:=decide_eq_false c3
  clear c3
  have H' :=Aside0.mk H
  clear H
  go_enter Try.func13,Try.ntmps13
  go_wp2
  go_loopg [1,5] k (fun kq v1 v5 w' => ∃(i:Int) (a:Int),v1= .int .i64 i∧v5= .int .i64 a∧Aside0 (bZ.l0 kq l0 i a=some r)∧Aside0 (kq≤k)∧Aside0 (Below w.heap.size w w'))
  case atStart=>exact⟨(wrap64 (a1 - (l0.length:Int))),(0),(by first|rfl|(simp;done)|(simp[*];done)),(by first|rfl|(simp;done)|(simp[*];done)),H',⟨Nat.le_refl _⟩,⟨bl⟩⟩
  case round=>
   clear H'
   obtain⟨i,a,rfl,rfl,HA,v,HB⟩:=hrel
   cases gk with
   |zero=>exact absurd HA.out (by simp[bZ.l0])
   | succ k1=>
    have H:=HA.out
    clear HA
    simp only[bZ.l0]at H
    by_cases c4:a<(l0.length:Int)
    ·rw[if_pos c4]at H
     have y:decide (a<(l0.length:Int))=true:=decide_eq_true c4
     clear c4
     by_cases c5:0≤a
     ·rw[if_pos c5]at H
      have B:decide (0≤a)=true:=decide_eq_true c5
      clear c5
      obtain⟨m,A6,H⟩:=ob H
      by_cases c7:m<0
      ·rw[if_pos c7]at H
       have z:decide (m<0)=true:=decide_eq_true c7
       clear c7
       obtain rfl:=Option.some.inj H;clear H
       have j:0≤(a:Int):=od
       have l:a<(l0.length:Int):=od
       obtain⟨t,p,q,s,b,c,d,g⟩:=mQ u.out a j l
       cases s
       obtain⟨b,c⟩:=hc2 HB b c
       have n:=Aside0.mk g
       have o:=Aside0.mk d
       clear g d
       replace j:=eq_true j
       replace l:=eq_true l
       go_wp2_with (first|((with_reducible refine gc 30 rfl ?_);refine gl (some 23) Try.func30 #[.agg #[.int .i64 ((eB l0 a).f0), .slice p ((eB l0 a).f1).length q], .int .i64 i] rfl ?_;(with_reducible refine(gL.calls ((eB l0 a).f0) _ _ ((eB l0 a).f1) i m _ ?s1 ?s2 A6.out).mono ?_);(case s1=>exact cb n.out);(case s2=>exact o.out);rintro e w8 ⟨rfl,hb⟩;refine⟨_,rfl, ?_⟩;replace HB:=hs HB hb;(try clear hb)))
       go_ret
       exact fin
      ·rw[if_neg c7]at H
       have z:decide (m<0)=false:=decide_eq_false c7
       clear c7
       have H' :=Aside0.mk H
       clear H
       have j:0≤(a:Int):=od
       have l:a<(l0.length:Int):=od
       obtain⟨t,p,q,s,b,c,d,g⟩:=mQ u.out a j l
       cases s
       obtain⟨b,c⟩:=hc2 HB b c
       have n:=Aside0.mk g
       have o:=Aside0.mk d
       clear g d
       replace j:=eq_true j
       replace l:=eq_true l
       go_wp2_with (first|((with_reducible refine gc 30 rfl ?_);refine gl (some 23) Try.func30 #[.agg #[.int .i64 ((eB l0 a).f0), .slice p ((eB l0 a).f1).length q], .int .i64 i] rfl ?_;(with_reducible refine(gL.calls ((eB l0 a).f0) _ _ ((eB l0 a).f1) i m _ ?s1 ?s2 A6.out).mono ?_);(case s1=>exact cb n.out);(case s2=>exact o.out);rintro e w9 ⟨rfl,hb⟩;refine⟨_,rfl, ?_⟩;replace HB:=hs HB hb;(try clear hb)))
       go_roundg k1
       case measure=>have:=v.out;omega
       case rel=>exact⟨(m),(wrap64 (a+1)),(by first|rfl|(simp;done)|(simp[*];done)),(by first|rfl|(simp;done)|(simp[*];done)),H',⟨by have:=v.out;omega⟩,⟨bl⟩⟩
     ·rw[if_neg c5]at H
      exact absurd H (by simp)
    ·rw[if_neg c4]at H
     have y:decide (a<(l0.length:Int))=false:=decide_eq_false c4
     clear c4
     obtain rfl:=Option.some.inj H;clear H
     go_wp2
     go_ret
     exact fin
set_option maxHeartbeats 8000000 in
set_option maxRecDepth 100000 in
theorem fE.calls (A0:Option Addr) (c0:Nat) (l0:List (S112)) (a1:Int) (r:Int) (w:World) (hr0:Kd.C jC w A0 l0.length l0) (hc0:l0.length≤c0) (h:fE.f l0 a1=some r):
  Calls Try.prog 50 #[.slice A0 l0.length c0, .int .i64 a1] w fun e w' =>e= .returned (.int .i64 r)∧Drawn0 w w' :=by
 have b:=Aside0.mk hr0
 have c:=Aside0.mk hc0
 clear hr0 hc0
 have H:(if(wrap64 (a1 - (l0.length:Int)))<0 then(some (-1))else(some (wrap64 (a1 - (l0.length:Int)))))=some r:=h
 clear h
 by_cases c3:(wrap64 (a1 - (l0.length:Int)))<0
 ·rw[if_pos c3]at H
  have a:decide ((wrap64 (a1 - (l0.length:Int)))<0)=true:=decide_eq_true c3
  clear c3
  obtain rfl:=Option.some.inj H;clear H
  go_enter Try.func50,Try.ntmps50
  go_wp2
  go_ret
  exact⟨by first|rfl|(simp;done)|(simp[*];done),by repeat(first|exact Drawn0.refl _|apply Drawn0.step)⟩
 ·rw[if_neg c3]at H
  have a:decide ((wrap64 (a1 - (l0.length:Int)))<0)=false:=decide_eq_false c3
  clear c3
  obtain rfl:=Option.some.inj H;clear H
  go_enter Try.func50,Try.ntmps50
  go_wp2
  go_ret
  exact⟨by first|rfl|(simp;done)|(simp[*];done),by repeat(first|exact Drawn0.refl _|apply Drawn0.step)⟩
set_option maxHeartbeats 8000000 in
set_option maxRecDepth 100000 in
theorem gu.calls (t:Bool) (d:Option Addr) (g:Nat) (b:List Int) (i:Option Addr) (j:Nat) (c:List Int) (a1:Int) (r:Int) (w:World) (m:Kd.C (Kd.int .i64) w d b.length b) (n:b.length≤g) (o:Kd.C (Kd.int .i64) w i c.length c) (p:c.length≤j) (h:gu.f t b c a1=some r):
  Calls Try.prog 69 #[.agg #[.bool t, .slice d b.length g, .slice i c.length j], .int .i64 a1] w fun e w' =>e= .returned (.int .i64 r)∧Below w.heap.size w w' :=by
 have x:=Try.underlying108
 have k:=Aside0.mk m
 have l:=Aside0.mk n
 clear m n
 have q:=Aside0.mk o
 have s:=Aside0.mk p
 clear o p
 have HB:=Aside0.mk (Below.refl w.heap.size w)
 have H:((bY.f b a1).bind fun a=>(if a<0 then(some (-1))else((bY.f c a).bind fun t107=>(if t107<0 then(some (-1))else(some t107)))))=some r:=h
 clear h
 obtain⟨a,A3,H⟩:=ob H
 by_cases c4:a<0
 ·rw[if_pos c4]at H
  have u:decide (a<0)=true:=decide_eq_true c4
  clear c4
  obtain rfl:=Option.some.inj H;clear H
  go_enter Try.func69,Try.ntmps69
  go_wp2_with (first|((with_reducible refine gc 49 rfl ?_);refine gl (some 8) Try.func49 #[.slice d b.length g, .int .i64 a1] rfl ?_;(with_reducible refine(bY.calls _ _ b a1 a _ ?s1 ?s2 A3.out).mono ?_);(case s1=>exact cb k.out);(case s2=>exact l.out);rintro e w' ⟨rfl,⟨nd,rfl⟩⟩;refine⟨_,rfl, ?_⟩))
  go_ret
  exact fin
 ·rw[if_neg c4]at H
  have u:decide (a<0)=false:=decide_eq_false c4
  clear c4
  obtain⟨t107,A7,H⟩:=ob H
  by_cases c8:t107<0
  ·rw[if_pos c8]at H
   have v:decide (t107<0)=true:=decide_eq_true c8
   clear c8
   obtain rfl:=Option.some.inj H;clear H
   go_enter Try.func69,Try.ntmps69
   go_wp2_with (first|((with_reducible refine gc 49 rfl ?_);refine gl (some 8) Try.func49 #[.slice d b.length g, .int .i64 a1] rfl ?_;(with_reducible refine(bY.calls _ _ b a1 a _ ?s1 ?s2 A3.out).mono ?_);(case s1=>exact cb k.out);(case s2=>exact l.out);rintro e w' ⟨rfl,⟨nd,rfl⟩⟩;refine⟨_,rfl, ?_⟩)|((with_reducible refine gc 49 rfl ?_);refine gl (some 14) Try.func49 #[.slice i c.length j, .int .i64 a] rfl ?_;(with_reducible refine(bY.calls _ _ c a t107 _ ?s1 ?s2 A7.out).mono ?_);(case s1=>exact cb q.out);(case s2=>exact s.out);rintro e w' ⟨rfl,⟨nd,rfl⟩⟩;refine⟨_,rfl, ?_⟩))
   go_ret
   exact fin
  ·rw[if_neg c8]at H
   have v:decide (t107<0)=false:=decide_eq_false c8
   clear c8
   obtain rfl:=Option.some.inj H;clear H
   go_enter Try.func69,Try.ntmps69
   go_wp2_with (first|((with_reducible refine gc 49 rfl ?_);refine gl (some 8) Try.func49 #[.slice d b.length g, .int .i64 a1] rfl ?_;(with_reducible refine(bY.calls _ _ b a1 a _ ?s1 ?s2 A3.out).mono ?_);(case s1=>exact cb k.out);(case s2=>exact l.out);rintro e w' ⟨rfl,⟨nd,rfl⟩⟩;refine⟨_,rfl, ?_⟩)|((with_reducible refine gc 49 rfl ?_);refine gl (some 14) Try.func49 #[.slice i c.length j, .int .i64 a] rfl ?_;(with_reducible refine(bY.calls _ _ c a t107 _ ?s1 ?s2 A7.out).mono ?_);(case s1=>exact cb q.out);(case s2=>exact s.out);rintro e w' ⟨rfl,⟨nd,rfl⟩⟩;refine⟨_,rfl, ?_⟩))
   go_ret
   exact fin
set_option maxHeartbeats 8000000 in
set_option maxRecDepth 100000 in
theorem cZ.calls (k:Nat) (A0:Option Addr) (c0:Nat) (l0:List (S108)) (a1:Int) (r:Int) (w:World) (hr0:Kd.C jD w A0 l0.length l0) (hc0:l0.length≤c0) (h:cZ.f k l0 a1=some r):
  Calls Try.prog 51 #[.slice A0 l0.length c0, .int .i64 a1] w fun e w' =>e= .returned (.int .i64 r)∧Below w.heap.size w w' :=by
 have I:=Try.underlying108
 have A:=Aside0.mk hr0
 have K:=Aside0.mk hc0
 clear hr0 hc0
 have HB:=Aside0.mk (Below.refl w.heap.size w)
 have H:(if(wrap64 (a1 - (l0.length:Int)))<0 then(some (-1))else(cZ.l0 k l0 (wrap64 (a1 - (l0.length:Int))) 0))=some r:=h
 clear h
 by_cases c3:(wrap64 (a1 - (l0.length:Int)))<0
 ·rw[if_pos c3]at H
  have D:decide ((wrap64 (a1 - (l0.length:Int)))<0)=true:=decide_eq_true c3
  clear c3
  obtain rfl:=Option.some.inj H;clear H
  go_enter Try.func51,Try.ntmps51
  go_wp2
  go_ret
  exact fin
 ·rw [if_neg c3]at H
  have D:decide ((wrap64 (a1 - (l0.length:Int)))<0)=false:=decide_eq_false c3
  clear c3
  have H' :=Aside0.mk H
  clear H
  go_enter Try.func51,Try.ntmps51
  go_wp2
  go_loopg [1,5] k (fun kq v1 v5 w' => ∃(m:Int) (a:Int),v1= .int .i64 m∧v5= .int .i64 a∧Aside0 (cZ.l0 kq l0 m a=some r)∧Aside0 (kq≤k)∧Aside0 (Below w.heap.size w w'))
  case atStart=>exact⟨(wrap64 (a1 - (l0.length:Int))),(0),(by first|rfl|(simp;done)|(simp[*];done)),(by first|rfl|(simp;done)|(simp[*];done)),H',⟨Nat.le_refl _⟩,⟨bl⟩⟩
  case round=>
   clear H'
   obtain⟨m,a,rfl,rfl,HA,B,HB⟩:=hrel
   cases gk with
   |zero=>exact absurd HA.out (by simp[cZ.l0])
   | succ k1=>
    have H:=HA.out
    clear HA
    simp only[cZ.l0]at H
    by_cases c4:a<(l0.length:Int)
    ·rw[if_pos c4]at H
     have E:decide (a<(l0.length:Int))=true:=decide_eq_true c4
     clear c4
     by_cases c5:0≤a
     ·rw[if_pos c5]at H
      have J:decide (0≤a)=true:=decide_eq_true c5
      clear c5
      obtain⟨t109,A6,H⟩:=ob H
      by_cases c7:t109<0
      ·rw[if_pos c7]at H
       have G:decide (t109<0)=true:=decide_eq_true c7
       clear c7
       obtain rfl:=Option.some.inj H;clear H
       have n:0≤(a:Int):=od
       have o:a<(l0.length:Int):=od
       obtain⟨z,u,v,x,y,e108,b,c,d,g,i,j,l⟩:=lS A.out a n o
       cases e108
       obtain⟨b,c,d⟩:=hc3 HB b c d
       have p:=Aside0.mk i
       have q:=Aside0.mk g
       clear i g
       have s:=Aside0.mk l
       have t:=Aside0.mk j
       clear l j
       replace n:=eq_true n
       replace o:=eq_true o
       go_wp2_with (first|((with_reducible refine gc 69 rfl ?_);refine gl (some 23) Try.func69 #[.agg #[.bool ((dn l0 a).f0), .slice u ((dn l0 a).f1).length v, .slice x ((dn l0 a).f2).length y], .int .i64 m] rfl ?_;(with_reducible refine(gu.calls ((dn l0 a).f0) _ _ ((dn l0 a).f1) _ _ ((dn l0 a).f2) m t109 _ ?s1 ?s2 ?s3 ?s4 A6.out).mono ?_);(case s1=>exact cb p.out);(case s2=>exact q.out);(case s3=>exact cb s.out);(case s4=>exact t.out);rintro e w8 ⟨rfl,hb⟩;refine⟨_,rfl, ?_⟩;replace HB:=hs HB hb;(try clear hb)))
       go_ret
       exact fin
      ·rw[if_neg c7]at H
       have G:decide (t109<0)=false:=decide_eq_false c7
       clear c7
       have H' :=Aside0.mk H
       clear H
       have n:0≤(a:Int):=od
       have o:a<(l0.length:Int):=od
       obtain⟨z,u,v,x,y,e108,b,c,d,g,i,j,l⟩:=lS A.out a n o
       cases e108
       obtain⟨b,c,d⟩:=hc3 HB b c d
       have p:=Aside0.mk i
       have q:=Aside0.mk g
       clear i g
       have s:=Aside0.mk l
       have t:=Aside0.mk j
       clear l j
       replace n:=eq_true n
       replace o:=eq_true o
       go_wp2_with (first|((with_reducible refine gc 69 rfl ?_);refine gl (some 23) Try.func69 #[.agg #[.bool ((dn l0 a).f0), .slice u ((dn l0 a).f1).length v, .slice x ((dn l0 a).f2).length y], .int .i64 m] rfl ?_;(with_reducible refine(gu.calls ((dn l0 a).f0) _ _ ((dn l0 a).f1) _ _ ((dn l0 a).f2) m t109 _ ?s1 ?s2 ?s3 ?s4 A6.out).mono ?_);(case s1=>exact cb p.out);(case s2=>exact q.out);(case s3=>exact cb s.out);(case s4=>exact t.out);rintro e w9 ⟨rfl,hb⟩;refine⟨_,rfl, ?_⟩;replace HB:=hs HB hb;(try clear hb)))
       go_roundg k1
       case measure=>have:=B.out;omega
       case rel=>exact⟨(t109),(wrap64 (a+1)),(by first|rfl|(simp;done)|(simp[*];done)),(by first|rfl|(simp;done)|(simp[*];done)),H',⟨by have:=B.out;omega⟩,⟨bl⟩⟩
     ·rw[if_neg c5]at H
      exact absurd H (by simp)
    ·rw[if_neg c4]at H
     have E:decide (a<(l0.length:Int))=false:=decide_eq_false c4
     clear c4
     obtain rfl:=Option.some.inj H;clear H
     go_wp2
     go_ret
     exact fin
set_option maxHeartbeats 8000000 in
set_option maxRecDepth 100000 in
theorem fO.calls (A0:Option Addr) (c0:Nat) (l0:List (S115)) (a1:Int) (r:Int) (w:World) (hr0:Kd.C jE w A0 l0.length l0) (hc0:l0.length≤c0) (h:fO.f l0 a1=some r):
  Calls Try.prog 52 #[.slice A0 l0.length c0, .int .i64 a1] w fun e w' =>e= .returned (.int .i64 r)∧Drawn0 w w' :=by
 have b:=Aside0.mk hr0
 have c:=Aside0.mk hc0
 clear hr0 hc0
 have H:(if(wrap64 (a1 - (l0.length:Int)))<0 then(some (-1))else(some (wrap64 (a1 - (l0.length:Int)))))=some r:=h
 clear h
 by_cases c3:(wrap64 (a1 - (l0.length:Int)))<0
 ·rw[if_pos c3]at H
  have a:decide ((wrap64 (a1 - (l0.length:Int)))<0)=true:=decide_eq_true c3
  clear c3
  obtain rfl:=Option.some.inj H;clear H
  go_enter Try.func52,Try.ntmps52
  go_wp2
  go_ret
  exact⟨by first|rfl|(simp;done)|(simp[*];done),by repeat(first|exact Drawn0.refl _|apply Drawn0.step)⟩
 ·rw[if_neg c3]at H
  have a:decide ((wrap64 (a1 - (l0.length:Int)))<0)=false:=decide_eq_false c3
  clear c3
  obtain rfl:=Option.some.inj H;clear H
  go_enter Try.func52,Try.ntmps52
  go_wp2
  go_ret
  exact⟨by first|rfl|(simp;done)|(simp[*];done),by repeat(first|exact Drawn0.refl _|apply Drawn0.step)⟩
set_option maxHeartbeats 8000000 in
set_option maxRecDepth 100000 in
theorem fP.calls (k:Nat) (B:Int) (D:Int) (m:Option Addr) (n:Nat) (a:List Int) (E:Int) (G:Int) (o:Option Addr) (p:Nat) (c:List (S112)) (q:Option Addr) (s:Nat) (i:List (S108)) (u:Option Addr) (v:Nat) (j:List (S115)) (a1:Int) (r:Int) (w:World) (K:Kd.C (Kd.int .i64) w m a.length a) (L:a.length≤n) (M:Kd.C jC w o c.length c) (O:c.length≤p) (P:Kd.C jD w q i.length i) (T:i.length≤s) (U:Kd.C jE w u j.length j) (W:j.length≤v) (h:fP.f k B D a E G c i j a1=some r):
  Calls Try.prog 31 #[.agg #[.int .i64 B, .int .i64 D, .slice m a.length n, .int .i64 E, .int .i64 G, .slice o c.length p, .slice q i.length s, .slice u j.length v], .int .i64 a1] w fun e w' =>e= .returned (.int .i64 r)∧Below w.heap.size w w' :=by
 have aq:=Try.underlying68
 have x:=Aside0.mk K
 have y:=Aside0.mk L
 clear K L
 have z:=Aside0.mk M
 have A:=Aside0.mk O
 clear M O
 have I:=Aside0.mk P
 have J:=Aside0.mk T
 clear P T
 have X:=Aside0.mk U
 have Y:=Aside0.mk W
 clear U W
 have HB:=Aside0.mk (Below.refl w.heap.size w)
 have H:((bY.f a a1).bind fun b=>(if b<0 then(some (-1))else((fE.f c b).bind fun g=>(if g<0 then(some (-1))else((cZ.f k i g).bind fun l=>(if l<0 then(some (-1))else((fO.f j l).bind fun t=>(if t<0 then(some (-1))else(some t)))))))))=some r:=h
 clear h
 obtain⟨b,A3,H⟩:=ob H
 by_cases c4:b<0
 ·rw[if_pos c4]at H
  have ao:decide (b<0)=true:=decide_eq_true c4
  clear c4
  obtain rfl:=Option.some.inj H;clear H
  go_enter Try.func31,Try.ntmps31
  go_wp2_with (first|((with_reducible refine gc 49 rfl ?_);refine gl (some 8) Try.func49 #[.slice m a.length n, .int .i64 a1] rfl ?_;(with_reducible refine(bY.calls _ _ a a1 b _ ?s1 ?s2 A3.out).mono ?_);(case s1=>exact cb x.out);(case s2=>exact y.out);rintro e w' ⟨rfl,⟨nd,rfl⟩⟩;refine⟨_,rfl, ?_⟩))
  go_ret
  exact fin
 ·rw [if_neg c4]at H
  have ao:decide (b<0)=false:=decide_eq_false c4
  clear c4
  obtain⟨g,A7,H⟩:=ob H
  by_cases c8:g<0
  ·rw[if_pos c8]at H
   have ap:decide (g<0)=true:=decide_eq_true c8
   clear c8
   obtain rfl:=Option.some.inj H;clear H
   go_enter Try.func31,Try.ntmps31
   go_wp2_with (first|((with_reducible refine gc 49 rfl ?_);refine gl (some 8) Try.func49 #[.slice m a.length n, .int .i64 a1] rfl ?_;(with_reducible refine(bY.calls _ _ a a1 b _ ?s1 ?s2 A3.out).mono ?_);(case s1=>exact cb x.out);(case s2=>exact y.out);rintro e w' ⟨rfl,⟨nd,rfl⟩⟩;refine⟨_,rfl, ?_⟩)|((with_reducible refine gc 50 rfl ?_);refine gl (some 14) Try.func50 #[.slice o c.length p, .int .i64 b] rfl ?_;(with_reducible refine(fE.calls _ _ c b g _ ?s1 ?s2 A7.out).mono ?_);(case s1=>exact cb z.out);(case s2=>exact A.out);rintro e w' ⟨rfl,⟨nd,rfl⟩⟩;refine⟨_,rfl, ?_⟩))
   go_ret
   exact fin
  ·rw[if_neg c8]at H
   have ap:decide (g<0)=false:=decide_eq_false c8
   clear c8
   obtain⟨l,ad,H⟩:=ob H
   by_cases c12:l<0
   ·rw[if_pos c12]at H
    have al:decide (l<0)=true:=decide_eq_true c12
    clear c12
    obtain rfl:=Option.some.inj H;clear H
    go_enter Try.func31,Try.ntmps31
    go_wp2_with (first|((with_reducible refine gd 2 rfl ?_);refine bx 2 #[.int .i64 B, .int .i64 D, .slice m a.length n, .int .i64 E, .int .i64 G, .slice o c.length p, .slice q i.length s, .slice u j.length v] 68 ?_;intro Z hg ar hbox hb;have d:=Aside0.mk hbox;have ab:=hz HB hg;have ac:=hz HB hg;replace HB:=hs HB hb;clear hb hbox hg;obtain⟨_,_,_,_,_,_,_,_,_,_,_,_,_,_,_,_⟩:=cf8 d)|((with_reducible refine gc 49 rfl ?_);refine gl (some 8) Try.func49 #[.slice m a.length n, .int .i64 a1] rfl ?_;(with_reducible refine(bY.calls _ _ a a1 b _ ?s1 ?s2 A3.out).mono ?_);(case s1=>exact cb x.out);(case s2=>exact y.out);rintro e w' ⟨rfl,⟨nd,rfl⟩⟩;refine⟨_,rfl, ?_⟩)|((with_reducible refine gc 50 rfl ?_);refine gl (some 14) Try.func50 #[.slice o c.length p, .int .i64 b] rfl ?_;(with_reducible refine(fE.calls _ _ c b g _ ?s1 ?s2 A7.out).mono ?_);(case s1=>exact cb z.out);(case s2=>exact A.out);rintro e w' ⟨rfl,⟨nd,rfl⟩⟩;refine⟨_,rfl, ?_⟩)|((with_reducible refine gc 51 rfl ?_);refine gl (some 20) Try.func51 #[.slice q i.length s, .int .i64 g] rfl ?_;(with_reducible refine(cZ.calls k _ _ i g l _ ?s1 ?s2 ad.out).mono ?_);(case s1=>exact cb I.out);(case s2=>exact J.out);rintro e aw ⟨rfl,hb⟩;refine⟨_,rfl, ?_⟩;replace d:=kb d hb;replace HB:=hs HB hb;(try clear hb)))
    go_ret
    exact fin
   ·rw[if_neg c12]at H
    have al:decide (l<0)=false:=decide_eq_false c12
    clear c12
    obtain⟨t,an,H⟩:=ob H
    by_cases c17:t<0
    ·rw[if_pos c17]at H
     have am:decide (t<0)=true:=decide_eq_true c17
     clear c17
     obtain rfl:=Option.some.inj H;clear H
     go_enter Try.func31,Try.ntmps31
     go_wp2_with (first|((with_reducible refine gd 2 rfl ?_);refine bx 2 #[.int .i64 B, .int .i64 D, .slice m a.length n, .int .i64 E, .int .i64 G, .slice o c.length p, .slice q i.length s, .slice u j.length v] 68 ?_;intro Z hg aB hbox hb;have d:=Aside0.mk hbox;have ab:=hz HB hg;have ac:=hz HB hg;replace HB:=hs HB hb;clear hb hbox hg;obtain⟨_,_,_,_,_,_,_,_,_,_,_,_,_,_,_,_⟩:=cf8 d)|((with_reducible refine gc 49 rfl ?_);refine gl (some 8) Try.func49 #[.slice m a.length n, .int .i64 a1] rfl ?_;(with_reducible refine(bY.calls _ _ a a1 b _ ?s1 ?s2 A3.out).mono ?_);(case s1=>exact cb x.out);(case s2=>exact y.out);rintro e w' ⟨rfl,⟨nd,rfl⟩⟩;refine⟨_,rfl, ?_⟩)|((with_reducible refine gc 50 rfl ?_);refine gl (some 14) Try.func50 #[.slice o c.length p, .int .i64 b] rfl ?_;(with_reducible refine(fE.calls _ _ c b g _ ?s1 ?s2 A7.out).mono ?_);(case s1=>exact cb z.out);(case s2=>exact A.out);rintro e w' ⟨rfl,⟨nd,rfl⟩⟩;refine⟨_,rfl, ?_⟩)|((with_reducible refine gc 51 rfl ?_);refine gl (some 20) Try.func51 #[.slice q i.length s, .int .i64 g] rfl ?_;(with_reducible refine(cZ.calls k _ _ i g l _ ?s1 ?s2 ad.out).mono ?_);(case s1=>exact cb I.out);(case s2=>exact J.out);rintro e aE ⟨rfl,hb⟩;refine⟨_,rfl, ?_⟩;replace d:=kb d hb;replace HB:=hs HB hb;(try clear hb);obtain⟨_,_,_,_,_,_,_,_,_,_,_,_,_,_,_,_⟩:=cf8 d)|((with_reducible refine gc 52 rfl ?_);refine gl (some 26) Try.func52 #[.slice u j.length v, .int .i64 l] rfl ?_;(with_reducible refine(fO.calls _ _ j l t _ ?s1 ?s2 an.out).mono ?_);(case s1=>exact cb X.out);(case s2=>exact Y.out);rintro e w' ⟨rfl,⟨nd,rfl⟩⟩;refine⟨_,rfl, ?_⟩))
     go_ret
     exact fin
    ·rw[if_neg c17]at H
     have am:decide (t<0)=false:=decide_eq_false c17
     clear c17
     obtain rfl:=Option.some.inj H;clear H
     go_enter Try.func31,Try.ntmps31
     go_wp2_with (first|((with_reducible refine gd 2 rfl ?_);refine bx 2 #[.int .i64 B, .int .i64 D, .slice m a.length n, .int .i64 E, .int .i64 G, .slice o c.length p, .slice q i.length s, .slice u j.length v] 68 ?_;intro Z hg aF hbox hb;have d:=Aside0.mk hbox;have ab:=hz HB hg;have ac:=hz HB hg;replace HB:=hs HB hb;clear hb hbox hg;obtain⟨_,_,_,_,_,_,_,_,_,_,_,_,_,_,_,_⟩:=cf8 d)|((with_reducible refine gc 49 rfl ?_);refine gl (some 8) Try.func49 #[.slice m a.length n, .int .i64 a1] rfl ?_;(with_reducible refine(bY.calls _ _ a a1 b _ ?s1 ?s2 A3.out).mono ?_);(case s1=>exact cb x.out);(case s2=>exact y.out);rintro e w' ⟨rfl,⟨nd,rfl⟩⟩;refine⟨_,rfl, ?_⟩)|((with_reducible refine gc 50 rfl ?_);refine gl (some 14) Try.func50 #[.slice o c.length p, .int .i64 b] rfl ?_;(with_reducible refine(fE.calls _ _ c b g _ ?s1 ?s2 A7.out).mono ?_);(case s1=>exact cb z.out);(case s2=>exact A.out);rintro e w' ⟨rfl,⟨nd,rfl⟩⟩;refine⟨_,rfl, ?_⟩)|((with_reducible refine gc 51 rfl ?_);refine gl (some 20) Try.func51 #[.slice q i.length s, .int .i64 g] rfl ?_;(with_reducible refine(cZ.calls k _ _ i g l _ ?s1 ?s2 ad.out).mono ?_);(case s1=>exact cb I.out);(case s2=>exact J.out);rintro e aL ⟨rfl,hb⟩;refine⟨_,rfl, ?_⟩;replace d:=kb d hb;replace HB:=hs HB hb;(try clear hb);obtain⟨_,_,_,_,_,_,_,_,_,_,_,_,_,_,_,_⟩:=cf8 d)|((with_reducible refine gc 52 rfl ?_);refine gl (some 26) Try.func52 #[.slice u j.length v, .int .i64 l] rfl ?_;(with_reducible refine(fO.calls _ _ j l t _ ?s1 ?s2 an.out).mono ?_);(case s1=>exact cb X.out);(case s2=>exact Y.out);rintro e w' ⟨rfl,⟨nd,rfl⟩⟩;refine⟨_,rfl, ?_⟩))
     go_ret
     exact fin
set_option maxHeartbeats 8000000 in
set_option maxRecDepth 100000 in
theorem cK.calls (k:Nat) (A0:Option Addr) (c0:Nat) (l0:List (S68)) (a1:Int) (r:Int) (w:World) (hr0:Kd.C k68 w A0 l0.length l0) (hc0:l0.length≤c0) (h:cK.f k l0 a1=some r):
  Calls Try.prog 14 #[.slice A0 l0.length c0, .int .i64 a1] w fun e w' =>e= .returned (.int .i64 r)∧Below w.heap.size w w' :=by
 have am:=Try.underlying68
 have Z:=Aside0.mk hr0
 have ao:=Aside0.mk hc0
 clear hr0 hc0
 have HB:=Aside0.mk (Below.refl w.heap.size w)
 have H:(if(wrap64 (a1 - (l0.length:Int)))<0 then(some (-1))else(cK.l0 k l0 (wrap64 (a1 - (l0.length:Int))) 0))=some r:=h
 clear h
 by_cases c3:(wrap64 (a1 - (l0.length:Int)))<0
 ·rw[if_pos c3]at H
  have ac:decide ((wrap64 (a1 - (l0.length:Int)))<0)=true:=decide_eq_true c3
  clear c3
  obtain rfl:=Option.some.inj H;clear H
  go_enter Try.func14,Try.ntmps14
  go_wp2
  go_ret
  exact fin
 ·rw [if_neg c3]at H
  have ac:decide ((wrap64 (a1 - (l0.length:Int)))<0)=false:=decide_eq_false c3
  clear c3
  have H' :=Aside0.mk H
  clear H
  go_enter Try.func14,Try.ntmps14
  go_wp2
  go_loopg [1,5] k (fun kq v1 v5 w' => ∃(x:Int) (a:Int),v1= .int .i64 x∧v5= .int .i64 a∧Aside0 (cK.l0 kq l0 x a=some r)∧Aside0 (kq≤k)∧Aside0 (Below w.heap.size w w'))
  case atStart=>exact⟨(wrap64 (a1 - (l0.length:Int))),(0),(by first|rfl|(simp;done)|(simp[*];done)),(by first|rfl|(simp;done)|(simp[*];done)),H',⟨Nat.le_refl _⟩,⟨bl⟩⟩
  case round=>
   clear H'
   obtain⟨x,a,rfl,rfl,HA,ab,HB⟩:=hrel
   cases gk with
   |zero=>exact absurd HA.out (by simp[cK.l0])
   | succ k1=>
    have H:=HA.out
    clear HA
    simp only[cK.l0]at H
    by_cases c4:a<(l0.length:Int)
    ·rw[if_pos c4]at H
     have ad:decide (a<(l0.length:Int))=true:=decide_eq_true c4
     clear c4
     by_cases c5:0≤a
     ·rw[if_pos c5]at H
      have an:decide (0≤a)=true:=decide_eq_true c5
      clear c5
      obtain⟨t116,A6,H⟩:=ob H
      by_cases c7:t116<0
      ·rw[if_pos c7]at H
       have al:decide (t116<0)=true:=decide_eq_true c7
       clear c7
       obtain rfl:=Option.some.inj H;clear H
       have y:0≤(a:Int):=od
       have z:a<(l0.length:Int):=od
       obtain⟨Y,L,M,O,P,T,U,W,X,e115,b,c,d,g,i,j,l,m,n,o,p,q,s,t,u,v⟩:=mR Z.out a y z
       cases e115
       obtain⟨b,c,d,g,i,j,l,m⟩:=hc8 HB b c d g i j l m
       have A:=Aside0.mk o
       have B:=Aside0.mk n
       clear o n
       have D:=Aside0.mk q
       have E:=Aside0.mk p
       clear q p
       have G:=Aside0.mk t
       have I:=Aside0.mk s
       clear t s
       have J:=Aside0.mk v
       have K:=Aside0.mk u
       clear v u
       replace y:=eq_true y
       replace z:=eq_true z
       go_wp2_with (first|((with_reducible refine gc 31 rfl ?_);refine gl (some 23) Try.func31 #[.agg #[.int .i64 ((aX l0 a).f0), .int .i64 ((aX l0 a).f1), .slice L ((aX l0 a).f2).length M, .int .i64 ((aX l0 a).f3), .int .i64 ((aX l0 a).f4), .slice O ((aX l0 a).f5).length P, .slice T ((aX l0 a).f6).length U, .slice W ((aX l0 a).f7).length X], .int .i64 x] rfl ?_;(with_reducible refine(fP.calls k1 ((aX l0 a).f0) ((aX l0 a).f1) _ _ ((aX l0 a).f2) ((aX l0 a).f3) ((aX l0 a).f4) _ _ ((aX l0 a).f5) _ _ ((aX l0 a).f6) _ _ ((aX l0 a).f7) x t116 _ ?s1 ?s2 ?s3 ?s4 ?s5 ?s6 ?s7 ?s8 A6.out).mono ?_);(case s1=>exact cb A.out);(case s2=>exact B.out);(case s3=>exact cb D.out);(case s4=>exact E.out);(case s5=>exact cb G.out);(case s6=>exact I.out);(case s7=>exact cb J.out);(case s8=>exact K.out);rintro e w8 ⟨rfl,hb⟩;refine⟨_,rfl, ?_⟩;replace HB:=hs HB hb;(try clear hb)))
       go_ret
       exact fin
      ·rw[if_neg c7]at H
       have al:decide (t116<0)=false:=decide_eq_false c7
       clear c7
       have H' :=Aside0.mk H
       clear H
       have y:0≤(a:Int):=od
       have z:a<(l0.length:Int):=od
       obtain⟨Y,L,M,O,P,T,U,W,X,e115,b,c,d,g,i,j,l,m,n,o,p,q,s,t,u,v⟩:=mR Z.out a y z
       cases e115
       obtain⟨b,c,d,g,i,j,l,m⟩:=hc8 HB b c d g i j l m
       have A:=Aside0.mk o
       have B:=Aside0.mk n
       clear o n
       have D:=Aside0.mk q
       have E:=Aside0.mk p
       clear q p
       have G:=Aside0.mk t
       have I:=Aside0.mk s
       clear t s
       have J:=Aside0.mk v
       have K:=Aside0.mk u
       clear v u
       replace y:=eq_true y
       replace z:=eq_true z
       go_wp2_with (first|((with_reducible refine gc 31 rfl ?_);refine gl (some 23) Try.func31 #[.agg #[.int .i64 ((aX l0 a).f0), .int .i64 ((aX l0 a).f1), .slice L ((aX l0 a).f2).length M, .int .i64 ((aX l0 a).f3), .int .i64 ((aX l0 a).f4), .slice O ((aX l0 a).f5).length P, .slice T ((aX l0 a).f6).length U, .slice W ((aX l0 a).f7).length X], .int .i64 x] rfl ?_;(with_reducible refine(fP.calls k1 ((aX l0 a).f0) ((aX l0 a).f1) _ _ ((aX l0 a).f2) ((aX l0 a).f3) ((aX l0 a).f4) _ _ ((aX l0 a).f5) _ _ ((aX l0 a).f6) _ _ ((aX l0 a).f7) x t116 _ ?s1 ?s2 ?s3 ?s4 ?s5 ?s6 ?s7 ?s8 A6.out).mono ?_);(case s1=>exact cb A.out);(case s2=>exact B.out);(case s3=>exact cb D.out);(case s4=>exact E.out);(case s5=>exact cb G.out);(case s6=>exact I.out);(case s7=>exact cb J.out);(case s8=>exact K.out);rintro e w9 ⟨rfl,hb⟩;refine⟨_,rfl, ?_⟩;replace HB:=hs HB hb;(try clear hb)))
       go_roundg k1
       case measure=>have:=ab.out;omega
       case rel=>exact⟨(t116),(wrap64 (a+1)),(by first|rfl|(simp;done)|(simp[*];done)),(by first|rfl|(simp;done)|(simp[*];done)),H',⟨by have:=ab.out;omega⟩,⟨bl⟩⟩
     ·rw[if_neg c5]at H
      exact absurd H (by simp)
    ·rw[if_neg c4]at H
     have ad:decide (a<(l0.length:Int))=false:=decide_eq_false c4
     clear c4
     obtain rfl:=Option.some.inj H;clear H
     go_wp2
     go_ret
     exact fin
set_option maxHeartbeats 8000000 in
set_option maxRecDepth 100000 in
theorem gm.calls (k:Nat) (g:Option Addr) (i:Nat) (b:List (S62)) (j:Option Addr) (l:Nat) (c:List (S68)) (a1:Int) (r:Int) (w:World) (o:Kd.C k62 w g b.length b) (p:b.length≤i) (q:Kd.C k68 w j c.length c) (s:c.length≤l) (h:gm.f k b c a1=some r):
  Calls Try.prog 4 #[.agg #[.slice g b.length i, .slice j c.length l], .int .i64 a1] w fun e w' =>e= .returned (.int .i64 r)∧Below w.heap.size w w' :=by
 have B:=Try.underlying25
 have m:=Aside0.mk o
 have n:=Aside0.mk p
 clear o p
 have t:=Aside0.mk q
 have u:=Aside0.mk s
 clear q s
 have HB:=Aside0.mk (Below.refl w.heap.size w)
 have H:((bZ.f k b a1).bind fun d=>(if d<0 then(some (-1))else((cK.f k c d).bind fun t119=>(if t119<0 then(some (-1))else(some t119)))))=some r:=h
 clear h
 obtain⟨d,A3,H⟩:=ob H
 by_cases c4:d<0
 ·rw[if_pos c4]at H
  have z:decide (d<0)=true:=decide_eq_true c4
  clear c4
  obtain rfl:=Option.some.inj H;clear H
  go_enter Try.func4,Try.ntmps4
  go_wp2_with (first|((with_reducible refine gd 2 rfl ?_);refine bx 2 #[.slice g b.length i, .slice j c.length l] 25 ?_;intro v hg w5 hbox hb;have a:=Aside0.mk hbox;have x:=hz HB hg;have y:=hz HB hg;replace HB:=hs HB hb;clear hb hbox hg;obtain⟨_,_,_,_⟩:=cf2 a)|((with_reducible refine gc 13 rfl ?_);refine gl (some 8) Try.func13 #[.slice g b.length i, .int .i64 a1] rfl ?_;(with_reducible refine(bZ.calls k _ _ b a1 d _ ?s1 ?s2 A3.out).mono ?_);(case s1=>exact cb m.out);(case s2=>exact n.out);rintro e w7 ⟨rfl,hb⟩;refine⟨_,rfl, ?_⟩;replace a:=kb a hb;replace HB:=hs HB hb;(try clear hb)))
  go_ret
  exact fin
 ·rw[if_neg c4]at H
  have z:decide (d<0)=false:=decide_eq_false c4
  clear c4
  obtain⟨t119,A8,H⟩:=ob H
  by_cases c9:t119<0
  ·rw[if_pos c9]at H
   have A:decide (t119<0)=true:=decide_eq_true c9
   clear c9
   obtain rfl:=Option.some.inj H;clear H
   go_enter Try.func4,Try.ntmps4
   go_wp2_with (first|((with_reducible refine gd 2 rfl ?_);refine bx 2 #[.slice g b.length i, .slice j c.length l] 25 ?_;intro v hg D hbox hb;have a:=Aside0.mk hbox;have x:=hz HB hg;have y:=hz HB hg;replace HB:=hs HB hb;clear hb hbox hg;obtain⟨_,_,_,_⟩:=cf2 a)|((with_reducible refine gc 13 rfl ?_);refine gl (some 8) Try.func13 #[.slice g b.length i, .int .i64 a1] rfl ?_;(with_reducible refine(bZ.calls k _ _ b a1 d _ ?s1 ?s2 A3.out).mono ?_);(case s1=>exact cb m.out);(case s2=>exact n.out);rintro e E ⟨rfl,hb⟩;refine⟨_,rfl, ?_⟩;replace a:=kb a hb;replace HB:=hs HB hb;(try clear hb);obtain⟨_,_,_,_⟩:=cf2 a)|((with_reducible refine gc 14 rfl ?_);refine gl (some 14) Try.func14 #[.slice j c.length l, .int .i64 d] rfl ?_;(with_reducible refine(cK.calls k _ _ c d t119 _ ?s1 ?s2 A8.out).mono ?_);(case s1=>exact cb t.out);(case s2=>exact u.out);rintro e G ⟨rfl,hb⟩;refine⟨_,rfl, ?_⟩;replace a:=kb a hb;replace HB:=hs HB hb;(try clear hb)))
   go_ret
   exact fin
  ·rw[if_neg c9]at H
   have A:decide (t119<0)=false:=decide_eq_false c9
   clear c9
   obtain rfl:=Option.some.inj H;clear H
   go_enter Try.func4,Try.ntmps4
   go_wp2_with (first|((with_reducible refine gd 2 rfl ?_);refine bx 2 #[.slice g b.length i, .slice j c.length l] 25 ?_;intro v hg I hbox hb;have a:=Aside0.mk hbox;have x:=hz HB hg;have y:=hz HB hg;replace HB:=hs HB hb;clear hb hbox hg;obtain⟨_,_,_,_⟩:=cf2 a)|((with_reducible refine gc 13 rfl ?_);refine gl (some 8) Try.func13 #[.slice g b.length i, .int .i64 a1] rfl ?_;(with_reducible refine(bZ.calls k _ _ b a1 d _ ?s1 ?s2 A3.out).mono ?_);(case s1=>exact cb m.out);(case s2=>exact n.out);rintro e J ⟨rfl,hb⟩;refine⟨_,rfl, ?_⟩;replace a:=kb a hb;replace HB:=hs HB hb;(try clear hb);obtain⟨_,_,_,_⟩:=cf2 a)|((with_reducible refine gc 14 rfl ?_);refine gl (some 14) Try.func14 #[.slice j c.length l, .int .i64 d] rfl ?_;(with_reducible refine(cK.calls k _ _ c d t119 _ ?s1 ?s2 A8.out).mono ?_);(case s1=>exact cb t.out);(case s2=>exact u.out);rintro e K ⟨rfl,hb⟩;refine⟨_,rfl, ?_⟩;replace a:=kb a hb;replace HB:=hs HB hb;(try clear hb)))
   go_ret
   exact fin
set_option maxHeartbeats 8000000 in
set_option maxRecDepth 100000 in
theorem aH.calls (a0:Int) (a1:Int) (a2:Int) (r:Bool) (w:World) (h:aH.f a0 a1 a2=some r):
  Calls Try.prog 33 #[.int .i64 a0, .int .i64 a1, .int .i64 a2] w fun e w' =>e= .returned (.bool r)∧Drawn0 w w' :=by
 have H:(if a0≥a1 then(some (decide (a0≤a2)))else(some false))=some r:=h
 clear h
 by_cases c4:a0≥a1
 ·rw[if_pos c4]at H
  have a:decide (a1≤a0)=true:=decide_eq_true c4
  clear c4
  obtain rfl:=Option.some.inj H;clear H
  go_enter Try.func33,Try.ntmps33
  go_wp2
  go_ret
  exact⟨by first|rfl|(simp;done)|(simp[*];done),by repeat(first|exact Drawn0.refl _|apply Drawn0.step)⟩
 ·rw[if_neg c4]at H
  have a:decide (a1≤a0)=false:=decide_eq_false c4
  clear c4
  obtain rfl:=Option.some.inj H;clear H
  go_enter Try.func33,Try.ntmps33
  go_wp2
  go_ret
  exact⟨by first|rfl|(simp;done)|(simp[*];done),by repeat(first|exact Drawn0.refl _|apply Drawn0.step)⟩
set_option maxHeartbeats 8000000 in
set_option maxRecDepth 100000 in
theorem bQ.calls (A0:Option Addr) (c0:Nat) (l0:List (S71)) (a1:Int) (r:Bool) (w:World) (hr0:Kd.C k71 w A0 l0.length l0) (hc0:l0.length≤c0) (h:bQ.f l0 a1=some r):
  Calls Try.prog 85 #[.slice A0 l0.length c0, .int .i64 a1] w fun e w' =>e= .returned (.bool r)∧Drawn0 w w' :=by
 have k:=Aside0.mk hr0
 have l:=Aside0.mk hc0
 clear hr0 hc0
 have H:(if a1=1 then(some true)else(if a1=3 then(some true)else(if a1=4 then(some true)else((aH.f a1 8 (wrap64 ((wrap64 (8+(l0.length:Int))) - 1))).bind fun a=>(some a)))))=some r:=h
 clear h
 by_cases c3:a1=1
 ·rw[if_pos c3]at H
  have b:=beq_iff_eq.mpr c3
  have c:=bne_eq_false_iff_eq.mpr c3
  clear c3
  obtain rfl:=Option.some.inj H;clear H
  go_enter Try.func85,Try.ntmps85
  go_wp2
  go_ret
  exact⟨by first|rfl|(simp;done)|(simp[*];done),by repeat(first|exact Drawn0.refl _|apply Drawn0.step)⟩
 ·rw[if_neg c3]at H
  have b:=beq_eq_false_iff_ne.mpr c3
  have c:=bne_iff_ne.mpr c3
  by_cases c4:a1=3
  ·rw[if_pos c4]at H
   have d:=beq_iff_eq.mpr c4
   have g:=bne_eq_false_iff_eq.mpr c4
   clear c4
   obtain rfl:=Option.some.inj H;clear H
   go_enter Try.func85,Try.ntmps85
   go_wp2
   go_ret
   exact⟨by first|rfl|(simp;done)|(simp[*];done),by repeat(first|exact Drawn0.refl _|apply Drawn0.step)⟩
  ·rw[if_neg c4]at H
   have d:=beq_eq_false_iff_ne.mpr c4
   have g:=bne_iff_ne.mpr c4
   by_cases c5:a1=4
   ·rw[if_pos c5]at H
    have i:=beq_iff_eq.mpr c5
    have j:=bne_eq_false_iff_eq.mpr c5
    clear c5
    obtain rfl:=Option.some.inj H;clear H
    go_enter Try.func85,Try.ntmps85
    go_wp2
    go_ret
    exact⟨by first|rfl|(simp;done)|(simp[*];done),by repeat(first|exact Drawn0.refl _|apply Drawn0.step)⟩
   ·rw[if_neg c5]at H
    have i:=beq_eq_false_iff_ne.mpr c5
    have j:=bne_iff_ne.mpr c5
    obtain⟨a,A6,H⟩:=ob H
    obtain rfl:=Option.some.inj H;clear H
    go_enter Try.func85,Try.ntmps85
    go_wp2_with (first|(go_at_call 33;(with_reducible refine(aH.calls a1 8 (wrap64 ((wrap64 (8+(l0.length:Int))) - 1)) a _ A6.out).mono ?_);rintro e w' ⟨rfl,⟨nd,rfl⟩⟩))
    go_ret
    exact⟨by first|rfl|(simp;done)|(simp[*];done),by repeat(first|exact Drawn0.refl _|apply Drawn0.step)⟩
set_option maxHeartbeats 8000000 in
set_option maxRecDepth 100000 in
theorem dF.calls (k:Nat) (A0:Option Addr) (c0:Nat) (l0:List (S71)) (a1:Int) (r:Bool) (w:World) (hr0:Kd.C k71 w A0 l0.length l0) (hc0:l0.length≤c0) (h:dF.f k l0 a1=some r):
  Calls Try.prog 70 #[.slice A0 l0.length c0, .int .i64 a1] w fun e w' =>e= .returned (.bool r)∧Below w.heap.size w w' :=by
 have aq:=Try.underlying71
 have v:=Aside0.mk hr0
 have P:=Aside0.mk hc0
 clear hr0 hc0
 have HB:=Aside0.mk (Below.refl w.heap.size w)
 have H:(if 0≤a1 then(if a1<(l0.length:Int)then(dF.l0 k l0 a1 0 ((aD l0 a1).f0) ((aD l0 a1).f1))else(none))else(none))=some r:=h
 clear h
 by_cases c3:0≤a1
 ·rw [if_pos c3]at H
  have ar:decide (0≤a1)=true:=decide_eq_true c3
  clear c3
  by_cases c4:a1<(l0.length:Int)
  ·rw [if_pos c4]at H
   have aw:decide (a1<(l0.length:Int))=true:=decide_eq_true c4
   clear c4
   have H' :=Aside0.mk H
   clear H
   have n:0≤(a1:Int):=od
   have o:a1<(l0.length:Int):=od
   obtain⟨t,x,y,W,Z,ab,l,m⟩:=fV v.out a1 n o
   cases W
   have j:=Aside0.mk m
   have ac:=Aside0.mk l
   clear m l
   replace n:=eq_true n
   replace o:=eq_true o
   go_enter Try.func70,Try.ntmps70
   go_wp2_with (first|((with_reducible refine gd 5 rfl ?_);(try(refine aN (by rfl) ?_;dsimp only));refine bx 5 #[.int .i64 0, .slice none 0 0] 71 ?_;intro z hg w5 hbox hb;have b:=Aside0.mk hbox;have ad:=hz HB hg;have al:=hz HB hg;replace HB:=hs HB hb;clear hb hbox hg;obtain⟨_,_,_,_⟩:=cf2 b))
   go_loopg [6] k (fun kq v6 w' => ∃(a:Int),v6= .int .i64 a∧Aside0 (dF.l0 kq l0 a1 a ((aD l0 a1).f0) ((aD l0 a1).f1)=some r)∧Aside0 (kq≤k)∧Aside0 (w'.heap[z]? =some (.cells #[.int .i64 ((aD l0 a1).f0),(.slice x ((aD l0 a1).f1).length y)] 71 (0,0)))∧Aside0 (Below w.heap.size w w'))
   case atStart=>exact⟨(0),(by first|rfl|(simp;done)|(simp[*];done)),H',⟨Nat.le_refl _⟩,kf,⟨bl⟩⟩
   case round=>
    clear H'
    obtain⟨a,rfl,HA,T,b,HB⟩:=hrel
    cases gk with
    |zero=>exact absurd HA.out (by simp[dF.l0])
    | succ k1=>
     have H:=HA.out
     clear HA
     simp only[dF.l0]at H
     by_cases c7:a<(((aD l0 a1).f1).length:Int)
     ·rw[if_pos c7]at H
      have X:decide (a<(((aD l0 a1).f1).length:Int))=true:=decide_eq_true c7
      clear c7
      by_cases c8:0≤a
      ·rw[if_pos c8]at H
       have aB:decide (0≤a)=true:=decide_eq_true c8
       clear c8
       obtain⟨t124,A9,H⟩:=ob H
       by_cases c10:t124=true
       ·subst c10
        replace H:=it H
        have H' :=Aside0.mk H
        clear H
        obtain⟨_,_,_,_⟩:=cf2 b
        have g:0≤(a:Int):=od
        have i:a<(((aD l0 a1).f1).length:Int):=od
        obtain⟨A,p,c⟩:=Kd.at_int j.out a g i
        cases p
        replace c:=hc HB c
        replace g:=eq_true g
        replace i:=eq_true i
        go_wp2_with (first|((with_reducible refine gc 85 rfl ?_);refine gl (some 24) Try.func85 #[.slice (some t) l0.length c0, .int .i64 (rd ((aD l0 a1).f1) a)] rfl ?_;(with_reducible refine(bQ.calls _ _ l0 (rd ((aD l0 a1).f1) a) true _ ?s1 ?s2 A9.out).mono ?_);(case s1=>exact cb v.out);(case s2=>exact P.out);rintro e w' ⟨rfl,⟨nd,rfl⟩⟩;refine⟨_,rfl, ?_⟩))
        go_roundg k1
        case measure=>have:=T.out;omega
        case rel=>exact⟨(wrap64 (a+1)),(by first|rfl|(simp;done)|(simp[*];done)),H',⟨by have:=T.out;omega⟩,kk b,⟨bl⟩⟩
       ·replace c10:=Bool.eq_false_iff.mpr c10
        subst c10
        replace H:=ie H
        obtain rfl:=Option.some.inj H;clear H
        obtain⟨_,_,_,_⟩:=cf2 b
        have g:0≤(a:Int):=od
        have i:a<(((aD l0 a1).f1).length:Int):=od
        obtain⟨A,p,c⟩:=Kd.at_int j.out a g i
        cases p
        replace c:=hc HB c
        replace g:=eq_true g
        replace i:=eq_true i
        go_wp2_with (first|((with_reducible refine gc 85 rfl ?_);refine gl (some 24) Try.func85 #[.slice (some t) l0.length c0, .int .i64 (rd ((aD l0 a1).f1) a)] rfl ?_;(with_reducible refine(bQ.calls _ _ l0 (rd ((aD l0 a1).f1) a) false _ ?s1 ?s2 A9.out).mono ?_);(case s1=>exact cb v.out);(case s2=>exact P.out);rintro e w' ⟨rfl,⟨nd,rfl⟩⟩;refine⟨_,rfl, ?_⟩))
        go_ret
        exact fin
      ·rw[if_neg c8]at H
       exact absurd H (by simp)
     ·rw [if_neg c7]at H
      have X:decide (a<(((aD l0 a1).f1).length:Int))=false:=decide_eq_false c7
      clear c7
      by_cases c13:a1=0
      ·rw[if_pos c13]at H
       have B:=beq_iff_eq.mpr c13
       have D:=bne_eq_false_iff_eq.mpr c13
       clear c13
       by_cases c14:((aD l0 a1).f0)=(-1)
       ·rw[if_pos c14]at H
        have E:=beq_iff_eq.mpr c14
        have G:=bne_eq_false_iff_eq.mpr c14
        clear c14
        obtain rfl:=Option.some.inj H;clear H
        obtain⟨_,_,_,_⟩:=cf2 b
        go_wp2
        go_ret
        exact fin
       ·rw[if_neg c14]at H
        have E:=beq_eq_false_iff_ne.mpr c14
        have G:=bne_iff_ne.mpr c14
        obtain rfl:=Option.some.inj H;clear H
        obtain⟨_,_,_,_⟩:=cf2 b
        go_wp2
        go_ret
        exact fin
      ·rw [if_neg c13]at H
       have B:=beq_eq_false_iff_ne.mpr c13
       have D:=bne_iff_ne.mpr c13
       by_cases c17:a1=1
       ·rw [if_pos c17]at H
        have I:=beq_iff_eq.mpr c17
        have J:=bne_eq_false_iff_eq.mpr c17
        clear c17
        by_cases c18:((aD l0 a1).f0)=0
        ·rw[if_pos c18]at H
         have K:=beq_iff_eq.mpr c18
         have L:=bne_eq_false_iff_eq.mpr c18
         clear c18
         by_cases c19:(((aD l0 a1).f1).length:Int)=1
         ·rw[if_pos c19]at H
          have M:=beq_iff_eq.mpr c19
          have O:=bne_eq_false_iff_eq.mpr c19
          clear c19
          by_cases c20:0<(((aD l0 a1).f1).length:Int)
          ·rw[if_pos c20]at H
           have am:decide (0<(((aD l0 a1).f1).length:Int))=true:=decide_eq_true c20
           have an:decide (0<((aD l0 a1).f1).length)=true:=decide_eq_true (by omega)
           clear c20
           obtain rfl:=Option.some.inj H;clear H
           obtain⟨_,_,_,_⟩:=cf2 b
           have q:0≤(0:Int):=(by omega)
           have s:0<(((aD l0 a1).f1).length:Int):=od
           obtain⟨ao,e125,d⟩:=Kd.at_int j.out 0 q s
           cases e125
           have ap:(0<((aD l0 a1).f1).length)=True:=eq_true (by omega)
           (try rw[show((0:Int)).toNat=0 from rfl]at d)
           (try rw[Addr.add_zero']at d)
           replace d:=hc HB d
           replace q:=eq_true q
           replace s:=eq_true s
           go_wp2
           go_ret
           exact fin
          ·rw[if_neg c20]at H
           exact absurd H (by simp)
         ·rw[if_neg c19]at H
          have M:=beq_eq_false_iff_ne.mpr c19
          have O:=bne_iff_ne.mpr c19
          obtain rfl:=Option.some.inj H;clear H
          obtain⟨_,_,_,_⟩:=cf2 b
          go_wp2
          go_ret
          exact fin
        ·rw[if_neg c18]at H
         have K:=beq_eq_false_iff_ne.mpr c18
         have L:=bne_iff_ne.mpr c18
         obtain rfl:=Option.some.inj H;clear H
         obtain⟨_,_,_,_⟩:=cf2 b
         go_wp2
         go_ret
         exact fin
       ·rw[if_neg c17]at H
        have I:=beq_eq_false_iff_ne.mpr c17
        have J:=bne_iff_ne.mpr c17
        obtain⟨Y,U,H⟩:=ob H
        by_cases u:Y=true
        ·subst u
         replace H:=it H
         obtain rfl:=Option.some.inj H;clear H
         obtain⟨_,_,_,_⟩:=cf2 b
         go_wp2_with (first|((with_reducible refine gc 33 rfl ?_);refine gl (some 60) Try.func33 #[.int .i64 ((aD l0 a1).f0), .int .i64 0, .int .i64 (wrap64 (a1 - 1))] rfl ?_;(with_reducible refine(aH.calls ((aD l0 a1).f0) 0 (wrap64 (a1 - 1)) true _ U.out).mono ?_);rintro e w' ⟨rfl,⟨nd,rfl⟩⟩;refine⟨_,rfl, ?_⟩))
         go_ret
         exact fin
        ·replace u:=Bool.eq_false_iff.mpr u
         subst u
         replace H:=ie H
         obtain rfl:=Option.some.inj H;clear H
         obtain⟨_,_,_,_⟩:=cf2 b
         go_wp2_with (first|((with_reducible refine gc 33 rfl ?_);refine gl (some 60) Try.func33 #[.int .i64 ((aD l0 a1).f0), .int .i64 0, .int .i64 (wrap64 (a1 - 1))] rfl ?_;(with_reducible refine(aH.calls ((aD l0 a1).f0) 0 (wrap64 (a1 - 1)) false _ U.out).mono ?_);rintro e w' ⟨rfl,⟨nd,rfl⟩⟩;refine⟨_,rfl, ?_⟩))
         go_ret
         exact fin
  ·rw[if_neg c4]at H
   exact absurd H (by simp)
 ·rw[if_neg c3]at H
  exact absurd H (by simp)
set_option maxHeartbeats 8000000 in
set_option maxRecDepth 100000 in
theorem bv.calls (k:Nat) (A0:Option Addr) (c0:Nat) (l0:List (S71)) (r:Bool) (w:World) (hr0:Kd.C k71 w A0 l0.length l0) (hc0:l0.length≤c0) (h:bv.f k l0=some r):
  Calls Try.prog 53 #[.slice A0 l0.length c0] w fun e w' =>e= .returned (.bool r)∧Below w.heap.size w w' :=by
 have b:=Aside0.mk hr0
 have c:=Aside0.mk hc0
 clear hr0 hc0
 have HB:=Aside0.mk (Below.refl w.heap.size w)
 have H:((aH.f (l0.length:Int) 2 5).bind fun t127=>(if t127=true then(bv.l0 k l0 0)else(some false)))=some r:=h
 clear h
 obtain⟨t127,A2,H⟩:=ob H
 by_cases c3:t127=true
 ·subst c3
  replace H:=it H
  have H' :=Aside0.mk H
  clear H
  go_enter Try.func53,Try.ntmps53
  go_wp2_with (first|((with_reducible refine gc 33 rfl ?_);refine gl (some 6) Try.func33 #[.int .i64 (l0.length:Int), .int .i64 2, .int .i64 5] rfl ?_;(with_reducible refine(aH.calls (l0.length:Int) 2 5 true _ A2.out).mono ?_);rintro e w' ⟨rfl,⟨nd,rfl⟩⟩;refine⟨_,rfl, ?_⟩))
  go_loopg [3] k (fun kq v3 w' => ∃(a:Int),v3= .int .i64 a∧Aside0 (bv.l0 kq l0 a=some r)∧Aside0 (kq≤k)∧Aside0 (Below w.heap.size w w'))
  case atStart=>exact⟨(0),(by first|rfl|(simp;done)|(simp[*];done)),H',⟨Nat.le_refl _⟩,⟨bl⟩⟩
  case round=>
   clear H'
   obtain⟨a,rfl,HA,d,HB⟩:=hrel
   cases gk with
   |zero=>exact absurd HA.out (by simp[bv.l0])
   | succ k1=>
    have H:=HA.out
    clear HA
    simp only[bv.l0]at H
    by_cases c4:a<(l0.length:Int)
    ·rw[if_pos c4]at H
     have g:decide (a<(l0.length:Int))=true:=decide_eq_true c4
     clear c4
     obtain⟨i,A5,H⟩:=ob H
     by_cases c6:i=true
     ·subst c6
      replace H:=it H
      have H' :=Aside0.mk H
      clear H
      go_wp2_with (first|((with_reducible refine gc 70 rfl ?_);refine gl (some 16) Try.func70 #[.slice A0 l0.length c0, .int .i64 a] rfl ?_;(with_reducible refine(dF.calls k1 _ _ l0 a true _ ?s1 ?s2 A5.out).mono ?_);(case s1=>exact cb b.out);(case s2=>exact c.out);rintro e w7 ⟨rfl,hb⟩;refine⟨_,rfl, ?_⟩;replace HB:=hs HB hb;(try clear hb)))
      go_roundg k1
      case measure=>have:=d.out;omega
      case rel=>exact⟨(wrap64 (a+1)),(by first|rfl|(simp;done)|(simp[*];done)),H',⟨by have:=d.out;omega⟩,⟨bl⟩⟩
     ·replace c6:=Bool.eq_false_iff.mpr c6
      subst c6
      replace H:=ie H
      obtain rfl:=Option.some.inj H;clear H
      go_wp2_with (first|((with_reducible refine gc 70 rfl ?_);refine gl (some 16) Try.func70 #[.slice A0 l0.length c0, .int .i64 a] rfl ?_;(with_reducible refine(dF.calls k1 _ _ l0 a false _ ?s1 ?s2 A5.out).mono ?_);(case s1=>exact cb b.out);(case s2=>exact c.out);rintro e w8 ⟨rfl,hb⟩;refine⟨_,rfl, ?_⟩;replace HB:=hs HB hb;(try clear hb)))
      go_ret
      exact fin
    ·rw[if_neg c4]at H
     have g:decide (a<(l0.length:Int))=false:=decide_eq_false c4
     clear c4
     obtain rfl:=Option.some.inj H;clear H
     go_wp2
     go_ret
     exact fin
 ·replace c3:=Bool.eq_false_iff.mpr c3
  subst c3
  replace H:=ie H
  obtain rfl:=Option.some.inj H;clear H
  go_enter Try.func53,Try.ntmps53
  go_wp2_with (first|((with_reducible refine gc 33 rfl ?_);refine gl (some 6) Try.func33 #[.int .i64 (l0.length:Int), .int .i64 2, .int .i64 5] rfl ?_;(with_reducible refine(aH.calls (l0.length:Int) 2 5 false _ A2.out).mono ?_);rintro e w' ⟨rfl,⟨nd,rfl⟩⟩;refine⟨_,rfl, ?_⟩))
  go_ret
  exact fin
end Go.Proofs.Yteinbmkgenhocaa.P
end
