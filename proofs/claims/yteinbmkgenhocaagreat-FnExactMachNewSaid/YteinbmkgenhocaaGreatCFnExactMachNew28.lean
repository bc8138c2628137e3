/- A part of the claim FnExactMachNew. -/
import Derived.Test.YteinbmkgenhocaaGreatCFnExactMachNew27
section
namespace Go.Proofs.YteinbmkgenhocaaGreat.P
open Go.RowKit Go.Proofs.YteinbmkgenhocaaGreatW.PrintWords Go.Proofs.YteinbmkgenhocaaGreatW.PrintLast Go.Proofs.YteinbmkgenhocaaGreatW.PrintMore
attribute [local go_sem] ak au az aA ai aj av ax
set_option linter.unusedVariables false
set_option linter.unusedSimpArgs false
set_option maxHeartbeats 8000000 in
set_option maxRecDepth 100000 in
theorem gP.calls (k:Nat) (j:Option Addr) (l:Nat) (b:List (S91)) (o:Option Addr) (p:Nat) (d:List (S70)) (q:Option Addr) (s:Nat) (g:List Int) (G:Int) (I:Int) (J:Bool) (K:Int) (a1:Int) (r:Int) (w:World) (v:Kd.C k91 w j b.length b) (x:b.length≤l) (y:Kd.C k70 w o d.length d) (z:d.length≤p) (A:Kd.C (Kd.int .i64) w q g.length g) (B:g.length≤s) (h:gP.f k b d g G I J K a1=some r):
  Calls Tryz.prog 14 #[.agg #[.slice j b.length l, .slice o d.length p, .slice q g.length s, .int .i64 G, .int .i64 I, .bool J, .int .i64 K], .int .i64 a1] w fun e w' =>e= .returned (.int .i64 r)∧Below w.heap.size w w' :=by
 have T:=Tryz.underlying33
 have m:=Aside0.mk v
 have n:=Aside0.mk x
 clear v x
 have t:=Aside0.mk y
 have u:=Aside0.mk z
 clear y z
 have D:=Aside0.mk A
 have E:=Aside0.mk B
 clear A B
 have HB:=Aside0.mk (Below.refl w.heap.size w)
 have H:((dU.f k b a1).bind fun a=>(if a<0 then(some (-1))else((dM.f k d a).bind fun c=>(if c<0 then(some (-1))else((eO.f k g c).bind fun i=>(if i<0 then(some (-1))else(some i)))))))=some r:=h
 clear h
 obtain⟨a,A3,H⟩:=ob H
 by_cases c4:a<0
 ·rw[if_pos c4]at H
  have O:decide (a<0)=true:=decide_eq_true c4
  clear c4
  obtain rfl:=Option.some.inj H;clear H
  go_enter Tryz.func14,Tryz.ntmps14
  go_wp2_with (first|((with_reducible refine gc 46 rfl ?_);refine gl (some 8) Tryz.func46 #[.slice j b.length l, .int .i64 a1] rfl ?_;(with_reducible refine(dU.calls k _ _ b a1 a _ ?s1 ?s2 A3.out).mono ?_);(case s1=>exact cb m.out);(case s2=>exact n.out);rintro e w' ⟨rfl,⟨nd,rfl⟩⟩;refine⟨_,rfl, ?_⟩))
  go_ret
  exact fin
 ·rw[if_neg c4]at H
  have O:decide (a<0)=false:=decide_eq_false c4
  clear c4
  obtain⟨c,A7,H⟩:=ob H
  by_cases c8:c<0
  ·rw[if_pos c8]at H
   have P:decide (c<0)=true:=decide_eq_true c8
   clear c8
   obtain rfl:=Option.some.inj H;clear H
   go_enter Tryz.func14,Tryz.ntmps14
   go_wp2_with (first|((with_reducible refine gc 46 rfl ?_);refine gl (some 8) Tryz.func46 #[.slice j b.length l, .int .i64 a1] rfl ?_;(with_reducible refine(dU.calls k _ _ b a1 a _ ?s1 ?s2 A3.out).mono ?_);(case s1=>exact cb m.out);(case s2=>exact n.out);rintro e w' ⟨rfl,⟨nd,rfl⟩⟩;refine⟨_,rfl, ?_⟩)|((with_reducible refine gc 47 rfl ?_);refine gl (some 14) Tryz.func47 #[.slice o d.length p, .int .i64 a] rfl ?_;(with_reducible refine(dM.calls k _ _ d a c _ ?s1 ?s2 A7.out).mono ?_);(case s1=>exact cb t.out);(case s2=>exact u.out);rintro e w' ⟨rfl,⟨nd,rfl⟩⟩;refine⟨_,rfl, ?_⟩))
   go_ret
   exact fin
  ·rw[if_neg c8]at H
   have P:decide (c<0)=false:=decide_eq_false c8
   clear c8
   obtain⟨i,M,H⟩:=ob H
   by_cases c12:i<0
   ·rw[if_pos c12]at H
    have L:decide (i<0)=true:=decide_eq_true c12
    clear c12
    obtain rfl:=Option.some.inj H;clear H
    go_enter Tryz.func14,Tryz.ntmps14
    go_wp2_with (first|((with_reducible refine gc 46 rfl ?_);refine gl (some 8) Tryz.func46 #[.slice j b.length l, .int .i64 a1] rfl ?_;(with_reducible refine(dU.calls k _ _ b a1 a _ ?s1 ?s2 A3.out).mono ?_);(case s1=>exact cb m.out);(case s2=>exact n.out);rintro e w' ⟨rfl,⟨nd,rfl⟩⟩;refine⟨_,rfl, ?_⟩)|((with_reducible refine gc 47 rfl ?_);refine gl (some 14) Tryz.func47 #[.slice o d.length p, .int .i64 a] rfl ?_;(with_reducible refine(dM.calls k _ _ d a c _ ?s1 ?s2 A7.out).mono ?_);(case s1=>exact cb t.out);(case s2=>exact u.out);rintro e w' ⟨rfl,⟨nd,rfl⟩⟩;refine⟨_,rfl, ?_⟩)|((with_reducible refine gc 48 rfl ?_);refine gl (some 20) Tryz.func48 #[.slice q g.length s, .int .i64 c] rfl ?_;(with_reducible refine(eO.calls k _ _ g c i _ ?s1 ?s2 M.out).mono ?_);(case s1=>exact cb D.out);(case s2=>exact E.out);rintro e w' ⟨rfl,⟨nd,rfl⟩⟩;refine⟨_,rfl, ?_⟩))
    go_ret
    exact fin
   ·rw[if_neg c12]at H
    have L:decide (i<0)=false:=decide_eq_false c12
    clear c12
    obtain rfl:=Option.some.inj H;clear H
    go_enter Tryz.func14,Tryz.ntmps14
    go_wp2_with (first|((with_reducible refine gc 46 rfl ?_);refine gl (some 8) Tryz.func46 #[.slice j b.length l, .int .i64 a1] rfl ?_;(with_reducible refine(dU.calls k _ _ b a1 a _ ?s1 ?s2 A3.out).mono ?_);(case s1=>exact cb m.out);(case s2=>exact n.out);rintro e w' ⟨rfl,⟨nd,rfl⟩⟩;refine⟨_,rfl, ?_⟩)|((with_reducible refine gc 47 rfl ?_);refine gl (some 14) Tryz.func47 #[.slice o d.length p, .int .i64 a] rfl ?_;(with_reducible refine(dM.calls k _ _ d a c _ ?s1 ?s2 A7.out).mono ?_);(case s1=>exact cb t.out);(case s2=>exact u.out);rintro e w' ⟨rfl,⟨nd,rfl⟩⟩;refine⟨_,rfl, ?_⟩)|((with_reducible refine gc 48 rfl ?_);refine gl (some 20) Tryz.func48 #[.slice q g.length s, .int .i64 c] rfl ?_;(with_reducible refine(eO.calls k _ _ g c i _ ?s1 ?s2 M.out).mono ?_);(case s1=>exact cb D.out);(case s2=>exact E.out);rintro e w' ⟨rfl,⟨nd,rfl⟩⟩;refine⟨_,rfl, ?_⟩))
    go_ret
    exact fin
set_option maxHeartbeats 8000000 in
set_option maxRecDepth 100000 in
theorem aM.calls (a0:Int) (a1:Int) (a2:Int) (r:Bool) (w:World) (h:aM.f a0 a1 a2=some r):
  Calls Tryz.prog 52 #[.int .i64 a0, .int .i64 a1, .int .i64 a2] w fun e w' =>e= .returned (.bool r)∧Drawn0 w w' :=by
 have H:(if a0≥a1 then(some (decide (a0≤a2)))else(some false))=some r:=h
 clear h
 by_cases c4:a0≥a1
 ·rw[if_pos c4]at H
  have a:decide (a1≤a0)=true:=decide_eq_true c4
  clear c4
  obtain rfl:=Option.some.inj H;clear H
  go_enter Tryz.func52,Tryz.ntmps52
  go_wp2
  go_ret
  exact⟨by first|rfl|(simp;done)|(simp[*];done),by repeat(first|exact Drawn0.refl _|apply Drawn0.step)⟩
 rw[if_neg c4]at H
 have a:decide (a1≤a0)=false:=decide_eq_false c4
 clear c4
 obtain rfl:=Option.some.inj H;clear H
 go_enter Tryz.func52,Tryz.ntmps52
 go_wp2
 go_ret
 exact⟨by first|rfl|(simp;done)|(simp[*];done),by repeat(first|exact Drawn0.refl _|apply Drawn0.step)⟩
set_option maxHeartbeats 8000000 in
set_option maxRecDepth 100000 in
theorem cu.calls (A0:Option Addr) (c0:Nat) (l0:List (S126)) (a1:Int) (r:Bool) (w:World) (hr0:Kd.C eB w A0 l0.length l0) (hc0:l0.length≤c0) (h:cu.f l0 a1=some r):
  Calls Tryz.prog 158 #[.slice A0 l0.length c0, .int .i64 a1] w fun e w' =>e= .returned (.bool r)∧Drawn0 w w' :=by
 have k:=Aside0.mk hr0
 have l:=Aside0.mk hc0
 clear hr0 hc0
 have H:(if a1=1 then(some true)else(if a1=3 then(some true)else(if a1=4 then(some true)else((aM.f a1 8 (wrap64 ((wrap64 (8+(l0.length:Int))) - 1))).bind fun a=>(some a)))))=some r:=h
 clear h
 by_cases c3:a1=1
 ·rw[if_pos c3]at H
  have b:=beq_iff_eq.mpr c3
  have c:=bne_eq_false_iff_eq.mpr c3
  clear c3
  obtain rfl:=Option.some.inj H;clear H
  go_enter Tryz.func158,Tryz.ntmps158
  go_wp2
  go_ret
  exact⟨by first|rfl|(simp;done)|(simp[*];done),by repeat(first|exact Drawn0.refl _|apply Drawn0.step)⟩
 rw[if_neg c3]at H
 have b:=beq_eq_false_iff_ne.mpr c3
 have c:=bne_iff_ne.mpr c3
 by_cases c4:a1=3
 ·rw[if_pos c4]at H
  have d:=beq_iff_eq.mpr c4
  have g:=bne_eq_false_iff_eq.mpr c4
  clear c4
  obtain rfl:=Option.some.inj H;clear H
  go_enter Tryz.func158,Tryz.ntmps158
  go_wp2
  go_ret
  exact⟨by first|rfl|(simp;done)|(simp[*];done),by repeat(first|exact Drawn0.refl _|apply Drawn0.step)⟩
 rw[if_neg c4]at H
 have d:=beq_eq_false_iff_ne.mpr c4
 have g:=bne_iff_ne.mpr c4
 by_cases c5:a1=4
 ·rw[if_pos c5]at H
  have i:=beq_iff_eq.mpr c5
  have j:=bne_eq_false_iff_eq.mpr c5
  clear c5
  obtain rfl:=Option.some.inj H;clear H
  go_enter Tryz.func158,Tryz.ntmps158
  go_wp2
  go_ret
  exact⟨by first|rfl|(simp;done)|(simp[*];done),by repeat(first|exact Drawn0.refl _|apply Drawn0.step)⟩
 rw[if_neg c5]at H
 have i:=beq_eq_false_iff_ne.mpr c5
 have j:=bne_iff_ne.mpr c5
 obtain⟨a,A6,H⟩:=ob H
 obtain rfl:=Option.some.inj H;clear H
 go_enter Tryz.func158,Tryz.ntmps158
 go_wp2_with (first|(go_at_call 52;(with_reducible refine(aM.calls a1 8 (wrap64 ((wrap64 (8+(l0.length:Int))) - 1)) a _ A6.out).mono ?_);rintro e w' ⟨rfl,⟨nd,rfl⟩⟩))
 go_ret
 exact⟨by first|rfl|(simp;done)|(simp[*];done),by repeat(first|exact Drawn0.refl _|apply Drawn0.step)⟩
set_option maxHeartbeats 8000000 in
set_option maxRecDepth 100000 in
theorem dP.calls (k:Nat) (A0:Option Addr) (c0:Nat) (l0:List (S126)) (a1:Int) (r:Bool) (w:World) (hr0:Kd.C eB w A0 l0.length l0) (hc0:l0.length≤c0) (h:dP.f k l0 a1=some r):
  Calls Tryz.prog 136 #[.slice A0 l0.length c0, .int .i64 a1] w fun e w' =>e= .returned (.bool r)∧Below w.heap.size w w' :=by
 have ad:=Tryz.underlying126
 have v:=Aside0.mk hr0
 have P:=Aside0.mk hc0
 clear hr0 hc0
 have HB:=Aside0.mk (Below.refl w.heap.size w)
 have H:(if 0≤a1 then(if a1<(l0.length:Int)then(dP.l0 k l0 a1 0 ((aD l0 a1).f0) ((aD l0 a1).f1))else(none))else(none))=some r:=h
 clear h
 by_cases c3:0≤a1
 ·rw [if_pos c3]at H
  have aq:decide (0≤a1)=true:=decide_eq_true c3
  clear c3
  by_cases c4:a1<(l0.length:Int)
  ·rw [if_pos c4]at H
   have ar:decide (a1<(l0.length:Int))=true:=decide_eq_true c4
   clear c4
   have H' :=Aside0.mk H
   clear H
   have n:0≤(a1:Int):=od
   have o:a1<(l0.length:Int):=od
   obtain⟨t,x,y,W,Z,ab,l,m⟩:=fP v.out a1 n o
   cases W
   have j:=Aside0.mk m
   have ac:=Aside0.mk l
   clear m l
   replace n:=eq_true n
   replace o:=eq_true o
   go_enter Tryz.func136,Tryz.ntmps136
   go_wp2_with (first|((with_reducible refine gd 5 rfl ?_);(try(refine aW (by rfl) ?_;dsimp only));refine bx 5 #[.int .i64 0, .slice none 0 0] 126 ?_;intro z hg w5 hbox hb;have b:=Aside0.mk hbox;have al:=hz HB hg;replace HB:=hs HB hb;clear hb hbox hg;have:=cf2 b))
   go_loopg [6] k (fun kq v6 w' => ∃(a:Int),v6= .int .i64 a∧Aside0 (dP.l0 kq l0 a1 a ((aD l0 a1).f0) ((aD l0 a1).f1)=some r)∧Aside0 (kq≤k)∧Aside0 (w'.heap[z]? =some (.cells #[.int .i64 ((aD l0 a1).f0),(.slice x ((aD l0 a1).f1).length y)] 126 (0,0)))∧Aside0 (Below w.heap.size w w'))
   case atStart=>exact⟨(0),(by first|rfl|(simp;done)|(simp[*];done)),H',⟨Nat.le_refl _⟩,kf,⟨bl⟩⟩
   case round=>
    clear H'
    obtain⟨a,rfl,HA,T,b,HB⟩:=hrel
    cases gk with
    |zero=>exact absurd HA.out (by simp[dP.l0])
    | succ k1=>
     have H:=HA.out
     clear HA
     simp only[dP.l0]at H
     by_cases c7:a<(((aD l0 a1).f1).length:Int)
     ·rw[if_pos c7]at H
      have X:decide (a<(((aD l0 a1).f1).length:Int))=true:=decide_eq_true c7
      clear c7
      by_cases c8:0≤a
      ·rw[if_pos c8]at H
       have aw:decide (0≤a)=true:=decide_eq_true c8
       clear c8
       obtain⟨t124,A9,H⟩:=ob H
       by_cases c10:t124=true
       ·subst c10
        replace H:=it H
        have H' :=Aside0.mk H
        clear H
        have:=cf2 b
        have g:0≤(a:Int):=od
        have i:a<(((aD l0 a1).f1).length:Int):=od
        obtain⟨A,p,c⟩:=Kd.at_int j.out a g i
        cases p
        replace c:=hc HB c
        replace g:=eq_true g
        replace i:=eq_true i
        go_wp2_with (first|(refine gl (some 24) Tryz.func158 #[.slice (some t) l0.length c0, .int .i64 (rd ((aD l0 a1).f1) a)] rfl ?_;(with_reducible refine(cu.calls _ _ l0 (rd ((aD l0 a1).f1) a) true _ (cb v.out) P.out A9.out).mono ?_);rintro e w' ⟨rfl,⟨nd,rfl⟩⟩;refine⟨_,rfl, ?_⟩))
        go_roundg k1
        case measure=>have:=T.out;omega
        case rel=>exact⟨(wrap64 (a+1)),(by first|rfl|(simp;done)|(simp[*];done)),H',⟨by have:=T.out;omega⟩,kk b,⟨bl⟩⟩
       replace c10:=Bool.eq_false_iff.mpr c10
       subst c10
       replace H:=ie H
       obtain rfl:=Option.some.inj H;clear H
       have:=cf2 b
       have g:0≤(a:Int):=od
       have i:a<(((aD l0 a1).f1).length:Int):=od
       obtain⟨A,p,c⟩:=Kd.at_int j.out a g i
       cases p
       replace c:=hc HB c
       replace g:=eq_true g
       replace i:=eq_true i
       go_wp2_with (first|(refine gl (some 24) Tryz.func158 #[.slice (some t) l0.length c0, .int .i64 (rd ((aD l0 a1).f1) a)] rfl ?_;(with_reducible refine(cu.calls _ _ l0 (rd ((aD l0 a1).f1) a) false _ (cb v.out) P.out A9.out).mono ?_);rintro e w' ⟨rfl,⟨nd,rfl⟩⟩;refine⟨_,rfl, ?_⟩))
       go_ret
       exact fin
      rw[if_neg c8]at H
      exact absurd H (by simp)
     rw[if_neg c7]at H
     have X:decide (a<(((aD l0 a1).f1).length:Int))=false:=decide_eq_false c7
     clear c7
     by_cases c13:a1=0
     ·rw[if_pos c13]at H
      have B:=beq_iff_eq.mpr c13
      have D:=bne_eq_false_iff_eq.mpr c13
      clear c13
      by_cases c14:((aD l0 a1).f0)=(-1)
      ·rw[if_pos c14]at H
       have E:=beq_iff_eq.mpr c14
       have G:=bne_eq_false_iff_eq.mpr c14
       clear c14
       obtain rfl:=Option.some.inj H;clear H
       have:=cf2 b
       go_wp2
       go_ret
       exact fin
      rw[if_neg c14]at H
      have E:=beq_eq_false_iff_ne.mpr c14
      have G:=bne_iff_ne.mpr c14
      obtain rfl:=Option.some.inj H;clear H
      have:=cf2 b
      go_wp2
      go_ret
      exact fin
     rw[if_neg c13]at H
     have B:=beq_eq_false_iff_ne.mpr c13
     have D:=bne_iff_ne.mpr c13
     by_cases c17:a1=1
     ·rw [if_pos c17]at H
      have I:=beq_iff_eq.mpr c17
      have J:=bne_eq_false_iff_eq.mpr c17
      clear c17
      by_cases c18:((aD l0 a1).f0)=0
      ·rw[if_pos c18]at H
       have K:=beq_iff_eq.mpr c18
       have L:=bne_eq_false_iff_eq.mpr c18
       clear c18
       by_cases c19:(((aD l0 a1).f1).length:Int)=1
       ·rw[if_pos c19]at H
        have M:=beq_iff_eq.mpr c19
        have O:=bne_eq_false_iff_eq.mpr c19
        clear c19
        by_cases c20:0<(((aD l0 a1).f1).length:Int)
        ·rw[if_pos c20]at H
         have am:decide (0<(((aD l0 a1).f1).length:Int))=true:=decide_eq_true c20
         have an:decide (0<((aD l0 a1).f1).length)=true:=decide_eq_true (by omega)
         clear c20
         obtain rfl:=Option.some.inj H;clear H
         have:=cf2 b
         have q:0≤(0:Int):=(by omega)
         have s:0<(((aD l0 a1).f1).length:Int):=od
         obtain⟨ao,e125,d⟩:=Kd.at_int j.out 0 q s
         cases e125
         have ap:(0<((aD l0 a1).f1).length)=True:=eq_true (by omega)
         (try rw[show((0:Int)).toNat=0 from rfl]at d)
         (try rw[Addr.add_zero']at d)
         replace d:=hc HB d
         replace q:=eq_true q
         replace s:=eq_true s
         go_wp2
         go_ret
         exact fin
        rw[if_neg c20]at H
        exact absurd H (by simp)
       rw[if_neg c19]at H
       have M:=beq_eq_false_iff_ne.mpr c19
       have O:=bne_iff_ne.mpr c19
       obtain rfl:=Option.some.inj H;clear H
       have:=cf2 b
       go_wp2
       go_ret
       exact fin
      rw[if_neg c18]at H
      have K:=beq_eq_false_iff_ne.mpr c18
      have L:=bne_iff_ne.mpr c18
      obtain rfl:=Option.some.inj H;clear H
      have:=cf2 b
      go_wp2
      go_ret
      exact fin
     rw[if_neg c17]at H
     have I:=beq_eq_false_iff_ne.mpr c17
     have J:=bne_iff_ne.mpr c17
     obtain⟨Y,U,H⟩:=ob H
     by_cases u:Y=true
     ·subst u
      replace H:=it H
      obtain rfl:=Option.some.inj H;clear H
      have:=cf2 b
      go_wp2_with (first|(refine gl (some 60) Tryz.func52 #[.int .i64 ((aD l0 a1).f0), .int .i64 0, .int .i64 (wrap64 (a1 - 1))] rfl ?_;(with_reducible refine(aM.calls ((aD l0 a1).f0) 0 (wrap64 (a1 - 1)) true _ U.out).mono ?_);rintro e w' ⟨rfl,⟨nd,rfl⟩⟩;refine⟨_,rfl, ?_⟩))
      go_ret
      exact fin
     replace u:=Bool.eq_false_iff.mpr u
     subst u
     replace H:=ie H
     obtain rfl:=Option.some.inj H;clear H
     have:=cf2 b
     go_wp2_with (first|(refine gl (some 60) Tryz.func52 #[.int .i64 ((aD l0 a1).f0), .int .i64 0, .int .i64 (wrap64 (a1 - 1))] rfl ?_;(with_reducible refine(aM.calls ((aD l0 a1).f0) 0 (wrap64 (a1 - 1)) false _ U.out).mono ?_);rintro e w' ⟨rfl,⟨nd,rfl⟩⟩;refine⟨_,rfl, ?_⟩))
     go_ret
     exact fin
  rw[if_neg c4]at H
  exact absurd H (by simp)
 rw[if_neg c3]at H
 exact absurd H (by simp)
set_option maxHeartbeats 8000000 in
set_option maxRecDepth 100000 in
theorem bG.calls (k:Nat) (A0:Option Addr) (c0:Nat) (l0:List (S126)) (r:Bool) (w:World) (hr0:Kd.C eB w A0 l0.length l0) (hc0:l0.length≤c0) (h:bG.f k l0=some r):
  Calls Tryz.prog 72 #[.slice A0 l0.length c0] w fun e w' =>e= .returned (.bool r)∧Below w.heap.size w w' :=by
 have b:=Aside0.mk hr0
 have c:=Aside0.mk hc0
 clear hr0 hc0
 have HB:=Aside0.mk (Below.refl w.heap.size w)
 have H:((aM.f (l0.length:Int) 2 5).bind fun t127=>(if t127=true then(bG.l0 k l0 0)else(some false)))=some r:=h
 clear h
 obtain⟨t127,A2,H⟩:=ob H
 by_cases c3:t127=true
 ·subst c3
  replace H:=it H
  have H' :=Aside0.mk H
  clear H
  go_enter Tryz.func72,Tryz.ntmps72
  go_wp2_with (first|(refine gl (some 6) Tryz.func52 #[.int .i64 (l0.length:Int), .int .i64 2, .int .i64 5] rfl ?_;(with_reducible refine(aM.calls (l0.length:Int) 2 5 true _ A2.out).mono ?_);rintro e w' ⟨rfl,⟨nd,rfl⟩⟩;refine⟨_,rfl, ?_⟩))
  go_loopg [3] k (fun kq v3 w' => ∃(a:Int),v3= .int .i64 a∧Aside0 (bG.l0 kq l0 a=some r)∧Aside0 (kq≤k)∧Aside0 (Below w.heap.size w w'))
  case atStart=>exact⟨(0),(by first|rfl|(simp;done)|(simp[*];done)),H',⟨Nat.le_refl _⟩,⟨bl⟩⟩
  case round=>
   clear H'
   obtain⟨a,rfl,HA,d,HB⟩:=hrel
   cases gk with
   |zero=>exact absurd HA.out (by simp[bG.l0])
   | succ k1=>
    have H:=HA.out
    clear HA
    simp only[bG.l0]at H
    by_cases c4:a<(l0.length:Int)
    ·rw[if_pos c4]at H
     have g:decide (a<(l0.length:Int))=true:=decide_eq_true c4
     clear c4
     obtain⟨i,A5,H⟩:=ob H
     by_cases c6:i=true
     ·subst c6
      replace H:=it H
      have H' :=Aside0.mk H
      clear H
      go_wp2_with (first|(refine gl (some 16) Tryz.func136 #[.slice A0 l0.length c0, .int .i64 a] rfl ?_;(with_reducible refine(dP.calls k1 _ _ l0 a true _ (cb b.out) c.out A5.out).mono ?_);rintro e w7 ⟨rfl,hb⟩;refine⟨_,rfl, ?_⟩;replace HB:=hs HB hb))
      go_roundg k1
      case measure=>have:=d.out;omega
      case rel=>exact⟨(wrap64 (a+1)),(by first|rfl|(simp;done)|(simp[*];done)),H',⟨by have:=d.out;omega⟩,⟨bl⟩⟩
     replace c6:=Bool.eq_false_iff.mpr c6
     subst c6
     replace H:=ie H
     obtain rfl:=Option.some.inj H;clear H
     go_wp2_with (first|(refine gl (some 16) Tryz.func136 #[.slice A0 l0.length c0, .int .i64 a] rfl ?_;(with_reducible refine(dP.calls k1 _ _ l0 a false _ (cb b.out) c.out A5.out).mono ?_);rintro e w8 ⟨rfl,hb⟩;refine⟨_,rfl, ?_⟩;replace HB:=hs HB hb))
     go_ret
     exact fin
    rw[if_neg c4]at H
    have g:decide (a<(l0.length:Int))=false:=decide_eq_false c4
    clear c4
    obtain rfl:=Option.some.inj H;clear H
    go_wp2
    go_ret
    exact fin
 replace c3:=Bool.eq_false_iff.mpr c3
 subst c3
 replace H:=ie H
 obtain rfl:=Option.some.inj H;clear H
 go_enter Tryz.func72,Tryz.ntmps72
 go_wp2_with (first|(refine gl (some 6) Tryz.func52 #[.int .i64 (l0.length:Int), .int .i64 2, .int .i64 5] rfl ?_;(with_reducible refine(aM.calls (l0.length:Int) 2 5 false _ A2.out).mono ?_);rintro e w' ⟨rfl,⟨nd,rfl⟩⟩;refine⟨_,rfl, ?_⟩))
 go_ret
 exact fin
set_option maxHeartbeats 8000000 in
set_option maxRecDepth 100000 in
theorem bv.calls (k:Nat) (D:Option Addr) (E:Nat) (b:List (S126)) (G:Option Addr) (I:Nat) (p:List (S104)) (d:Int) (n:Int) (J:Option Addr) (K:Nat) (l:List Int) (s:Int) (v:Int) (L:Option Addr) (M:Nat) (x:List (S113)) (O:Option Addr) (P:Nat) (y:List (S57)) (T:Option Addr) (U:Nat) (z:List (S181)) (r:Bool) (w:World) (a1:Kd.C eB w D b.length b) (a2:b.length≤E) (a3:Kd.C dV w G p.length p) (a4:p.length≤I) (a5:Kd.C (Kd.int .i64) w J l.length l) (a6:l.length≤K) (a7:Kd.C fq w L x.length x) (a8:x.length≤M) (a9:Kd.C k57 w O y.length y) (ba:y.length≤P) (bb:Kd.C eZ w T z.length z) (bc:z.length≤U) (h:bv.f k b p d n l s v x y z=some r):
  Calls Tryz.prog 137 #[.agg #[.slice D b.length E, .slice G p.length I], .agg #[.int .i64 d, .int .i64 n, .slice J l.length K, .int .i64 s, .int .i64 v, .slice L x.length M, .slice O y.length P, .slice T z.length U]] w fun e w' =>e= .returned (.bool r)∧Below w.heap.size w w' :=by
 have dl:=Tryz.underlying38
 have cw:=Tryz.underlying104
 have A:=Aside0.mk a1
 have B:=Aside0.mk a2
 clear a1 a2
 have cx:=Aside0.mk a3
 have cy:=Aside0.mk a4
 clear a3 a4
 have bd:=Aside0.mk a5
 have cA:=Aside0.mk a6
 clear a5 a6
 have cC:=Aside0.mk a7
 have cD:=Aside0.mk a8
 clear a7 a8
 have cE:=Aside0.mk a9
 have cF:=Aside0.mk ba
 clear a9 ba
 have cG:=Aside0.mk bb
 have cH:=Aside0.mk bc
 clear bb bc
 have HB:=Aside0.mk (Below.refl w.heap.size w)
 have H:(if d≥0 then(bv.j0 k 1 b p d n l s v x y z)else(bv.j0 k 0 b p d n l s v x y z))=some r:=h
 clear h
 have bo:=Aside0.mk H
 clear H
 go_enter Tryz.func137,Tryz.ntmps137
 go_upto_if 9 with(first|((with_reducible refine gd 2 rfl ?_);(try(refine aW (by rfl) ?_;dsimp only));refine bx 2 #[.slice D b.length E, .slice G p.length I] 38 ?_;intro q hg w4 hbox hb;have c:=Aside0.mk hbox;have be:=hz HB hg;have X:=hz HB hg;replace HB:=hs HB hb;clear hb hbox hg)|((with_reducible refine gd 3 rfl ?_);(try(refine aW (by rfl) ?_;dsimp only));refine bx 3 #[.int .i64 d, .int .i64 n, .slice J l.length K, .int .i64 s, .int .i64 v, .slice L x.length M, .slice O y.length P, .slice T z.length U] 104 ?_;intro m hg w5 hbox hb;have a:=Aside0.mk hbox;have bh:=hz HB hg;have aq:=hz HB hg;have i:=nl c hg;have j:=ng c hg;replace c:=kb c hb;replace HB:=hs HB hb;clear hb hbox hg;have bp:=j.out;have br:=i.out;have:=cf8 a))
 repeat(go_quiet (first|((with_reducible refine iG (N:=2) rfl ?_);(try(refine aW (by rfl) ?_;dsimp only));refine gG ?hg (N:=2) ?hd (cs:= #[.slice D b.length E, .slice G p.length I]) (t:=38) ?hr ?_;(case hd=>rfl);(case hg=>rfl);(case hr=>first|(go_simp;done)|(go_simp;rfl));intro q hg w4 hbox hb;have am:=Aside0.mk (bi (by repeat(first|(with_reducible first|exact HB.out|apply aI|apply aG|apply aC)|exact HB.out)) hb);have an:=Aside0.mk (hbox);have ao:=Aside0.mk ((by rw[hg];exact(aU (by repeat(first|(with_reducible first|exact HB.out|apply aI|apply aG|apply aC)|exact HB.out))):w.heap.size≤q));have ap:=Aside0.mk ((by rw[hg];exact(aU (by repeat(first|(with_reducible first|exact HB.out|apply aI|apply aG|apply aC)|exact HB.out))):w.heap.size≤q));clear HB;have HB:=am;have c:=an;have be:=ao;have X:=ap;clear am an ao ap;clear hb hbox hg)|((with_reducible refine iG (N:=3) rfl ?_);(try(refine aW (by rfl) ?_;dsimp only));refine gG ?hg (N:=3) ?hd (cs:= #[.int .i64 d, .int .i64 n, .slice J l.length K, .int .i64 s, .int .i64 v, .slice L x.length M, .slice O y.length P, .slice T z.length U]) (t:=104) ?hr ?_;(case hd=>rfl);(case hg=>rfl);(case hr=>first|(go_simp;done)|(go_simp;rfl));intro m hg w5 hbox hb;have am:=Aside0.mk (cK (g:=q) (o:= .cells #[.slice D b.length E, .slice G p.length I] 38 (0,0)) (by(with_reducible repeat(first|refine ah ?_ _|refine af ?_|refine ag ?_ _));exact c.out) hb);have an:=Aside0.mk (bi (by repeat(first|(with_reducible first|exact HB.out|apply aI|apply aG|apply aC|refine aK ?_ X.out)|exact HB.out)) hb);have ao:=Aside0.mk (hbox);have ap:=Aside0.mk ((by rw[hg];exact(aU (by repeat(first|(with_reducible first|exact HB.out|apply aI|apply aG|apply aC|refine aK ?_ X.out)|exact HB.out))):w.heap.size≤m));have aR:=Aside0.mk ((by rw[hg];exact(aU (by repeat(first|(with_reducible first|exact HB.out|apply aI|apply aG|apply aC|refine aK ?_ X.out)|exact HB.out))):w.heap.size≤m));have aS:=Aside0.mk ((by rw[hg];exact Nat.ne_of_lt (fF (g:=q) (o:= .cells #[.slice D b.length E, .slice G p.length I] 38 (0,0)) (by(with_reducible repeat(first|refine ah ?_ _|refine af ?_|refine ag ?_ _));exact c.out)):q≠m));have a0:=Aside0.mk ((by rw[hg];exact Nat.ne_of_gt (fF (g:=q) (o:= .cells #[.slice D b.length E, .slice G p.length I] 38 (0,0)) (by(with_reducible repeat(first|refine ah ?_ _|refine af ?_|refine ag ?_ _));exact c.out)):m≠q));clear c;clear HB;have c:=am;have HB:=an;have a:=ao;have bh:=ap;have aq:=aR;have i:=aS;have j:=a0;clear am an ao ap aR aS a0;clear hb hbox hg;have bp:=j.out;have br:=i.out;have bs:w5.cell? ⟨m,0,none⟩=some (.int .i64 d):=(ae a.out 0).trans rfl;have bt:w5.cell? ⟨m,1,none⟩=some (.int .i64 n):=(ae a.out 1).trans rfl;have bw:w5.cell? ⟨m,2,none⟩=some (.slice J l.length K):=(ae a.out 2).trans rfl;have b0:w5.cell? ⟨m,3,none⟩=some (.int .i64 s):=(ae a.out 3).trans rfl;have b1:w5.cell? ⟨m,4,none⟩=some (.int .i64 v):=(ae a.out 4).trans rfl;have b2:w5.cell? ⟨m,5,none⟩=some (.slice L x.length M):=(ae a.out 5).trans rfl;have b3:w5.cell? ⟨m,6,none⟩=some (.slice O y.length P):=(ae a.out 6).trans rfl;have b4:w5.cell? ⟨m,7,none⟩=some (.slice T z.length U):=(ae a.out 7).trans rfl;have b5:=ay a.out 0;have b6:=ay a.out 1;have b7:=ay a.out 2;have b8:=ay a.out 3;have b9:=ay a.out 4;have ca:=ay a.out 5;have cc:=ay a.out 6;have cd:=ay a.out 7));go_upto_if 9 with(first|((with_reducible refine gd 2 rfl ?_);(try(refine aW (by rfl) ?_;dsimp only));refine bx 2 #[.slice D b.length E, .slice G p.length I] 38 ?_;intro q hg w4 hbox hb;have c:=Aside0.mk hbox;have be:=hz HB hg;have X:=hz HB hg;replace HB:=hs HB hb;clear hb hbox hg)|((with_reducible refine gd 3 rfl ?_);(try(refine aW (by rfl) ?_;dsimp only));refine gG ?hg (N:=3) ?hd (cs:= #[.int .i64 d, .int .i64 n, .slice J l.length K, .int .i64 s, .int .i64 v, .slice L x.length M, .slice O y.length P, .slice T z.length U]) (t:=104) ?hr ?_;(case hd=>rfl);(case hg=>rfl);(case hr=>first|(go_simp;done)|(go_simp;rfl));intro m hg w5 hbox hb;have am:=Aside0.mk (cK (g:=q) (o:= .cells #[.slice D b.length E, .slice G p.length I] 38 (0,0)) (by(with_reducible repeat(first|refine ah ?_ _|refine af ?_|refine ag ?_ _));exact c.out) hb);have an:=Aside0.mk (bi bl hb);have ao:=Aside0.mk (hbox);have ap:=Aside0.mk ((by rw[hg];exact(aU bl):w.heap.size≤m));have aR:=Aside0.mk ((by rw[hg];exact(aU bl):w.heap.size≤m));have aS:=Aside0.mk ((by rw[hg];exact Nat.ne_of_lt (fF (g:=q) (o:= .cells #[.slice D b.length E, .slice G p.length I] 38 (0,0)) (by(with_reducible repeat(first|refine ah ?_ _|refine af ?_|refine ag ?_ _));exact c.out)):q≠m));have a0:=Aside0.mk ((by rw[hg];exact Nat.ne_of_gt (fF (g:=q) (o:= .cells #[.slice D b.length E, .slice G p.length I] 38 (0,0)) (by(with_reducible repeat(first|refine ah ?_ _|refine af ?_|refine ag ?_ _));exact c.out)):m≠q));clear c;clear HB;have c:=am;have HB:=an;have a:=ao;have bh:=ap;have aq:=aR;have i:=aS;have j:=a0;clear am an ao ap aR aS a0;clear hb hbox hg;have bp:=j.out;have br:=i.out;have bs:w5.cell? ⟨m,0,none⟩=some (.int .i64 d):=(ae a.out 0).trans rfl;have bt:w5.cell? ⟨m,1,none⟩=some (.int .i64 n):=(ae a.out 1).trans rfl;have bw:w5.cell? ⟨m,2,none⟩=some (.slice J l.length K):=(ae a.out 2).trans rfl;have b0:w5.cell? ⟨m,3,none⟩=some (.int .i64 s):=(ae a.out 3).trans rfl;have b1:w5.cell? ⟨m,4,none⟩=some (.int .i64 v):=(ae a.out 4).trans rfl;have b2:w5.cell? ⟨m,5,none⟩=some (.slice L x.length M):=(ae a.out 5).trans rfl;have b3:w5.cell? ⟨m,6,none⟩=some (.slice O y.length P):=(ae a.out 6).trans rfl;have b4:w5.cell? ⟨m,7,none⟩=some (.slice T z.length U):=(ae a.out 7).trans rfl;have b5:=ay a.out 0;have b6:=ay a.out 1;have b7:=ay a.out 2;have b8:=ay a.out 3;have b9:=ay a.out 4;have ca:=ay a.out 5;have cc:=ay a.out 6;have cd:=ay a.out 7)))
 (try simp only[Act.put,List.setIfInBounds_toArray,List.set_cons_zero,List.set_cons_succ])
 go_cut [5] (fun v5 wc=> ∃(kq:Nat) (al:Int),v5= .int .i64 al∧Aside0 (bv.j0 kq al b p d n l s v x y z=some r)∧Aside0 (kq≤k)∧Aside0 (wc.heap[q]? =some (.cells #[(.slice D b.length E),(.slice G p.length I)] 38 (0,0)))∧Aside0 (wc.heap[m]? =some (.cells #[.int .i64 d, .int .i64 n,(.slice J l.length K), .int .i64 s, .int .i64 v,(.slice L x.length M),(.slice O y.length P),(.slice T z.length U)] 104 (0,0)))∧Aside0 (Below w.heap.size w wc))
 case first=>
  have H:=bo.out
  clear bo
  by_cases c8:d≥0
  ·rw[if_pos c8]at H
   have aw:decide (0≤d)=true:=decide_eq_true c8
   clear c8
   (first|rw[aw]|(simp only[bX,bZ];rw[aw])|skip)
   have H' :=Aside0.mk H
   clear H
   go_wp2
   repeat(go_quiet (fail);try go_wp2)
   go_meet
   case rel=>exact⟨_,(1),(by first|rfl|(simp;done)|(simp[*];done)),H',⟨by first|omega|exact Nat.le_refl _⟩,kk c,kk a,⟨bl⟩⟩
  rw[if_neg c8]at H
  have aw:decide (0≤d)=false:=decide_eq_false c8
  clear c8
  (first|rw[aw]|(simp only[bX,bZ];rw[aw])|skip)
  have H' :=Aside0.mk H
  clear H
  go_wp2
  repeat(go_quiet (fail);try go_wp2)
  go_meet
  case rel=>exact⟨_,(0),(by first|rfl|(simp;done)|(simp[*];done)),H',⟨by first|omega|exact Nat.le_refl _⟩,kk c,kk a,⟨bl⟩⟩
 case rest=>
  clear bo
  obtain⟨kq,al,rfl,HA,HJ2,c,a,HB⟩:=hcut
  cases kq with
  |zero=>exact absurd HA.out (by simp[bv.j0])
  | succ cv=>
   have H:=HA.out
   clear HA
   simp only[bv.j0]at H
   have ce:=Aside0.mk H
   clear H
   go_upto_region 4 with(fail)
   repeat(go_quiet (fail);go_upto_region 4 with(fail))
   go_cut [47] (fun v47 wc=> ∃(kq:Nat) (ar:Bool),v47= .bool ar∧Aside0 (bv.j1 kq ar b p d n l s v x y z=some r)∧Aside0 (kq≤cv)∧Aside0 (wc.heap[q]? =some (.cells #[(.slice D b.length E),(.slice G p.length I)] 38 (0,0)))∧Aside0 (wc.heap[m]? =some (.cells #[.int .i64 d, .int .i64 n,(.slice J l.length K), .int .i64 s, .int .i64 v,(.slice L x.length M),(.slice O y.length P),(.slice T z.length U)] 104 (0,0)))∧Aside0 (Below w.heap.size w wc))
   case first=>
    have H:=ce.out
    clear ce
    by_cases c10:d=0
    ·rw[if_pos c10]at H
     have ac:=beq_iff_eq.mpr c10
     have cg:=bne_eq_false_iff_eq.mpr c10
     clear c10
     (first|rw[ac]|(simp only[bX,bZ];rw[ac])|skip)
     have H' :=Aside0.mk H
     clear H
     have cI:=j.out
     have cJ:=i.out
     have:=cf8 a
     go_wp2
     repeat(go_quiet (fail);try go_wp2)
     go_meet
     case rel=>exact⟨_,(true),(by first|rfl|(simp;done)|(simp[*];done)),H',⟨by have:=HJ2.out;first|omega|exact Nat.le_refl _⟩,kk c,kk a,⟨bl⟩⟩
    rw[if_neg c10]at H
    have ac:=beq_eq_false_iff_ne.mpr c10
    have cg:=bne_iff_ne.mpr c10
    (first|rw[ac]|(simp only[bX,bZ];rw[ac])|skip)
    obtain⟨cr,Y,H⟩:=ob H
    by_cases c14:cr=true
    ·subst c14
     replace H:=it H
     by_cases c15:(l.length:Int)>2
     ·rw[if_pos c15]at H
      have ch:decide (2<(l.length:Int))=true:=decide_eq_true c15
      have ci:decide (2<l.length)=true:=decide_eq_true (by omega)
      clear c15
      have H' :=Aside0.mk H
      clear H
      have cL:=j.out
      have cM:=i.out
      have:=cf8 a
      have:=cf2 c
      go_wp2_with (first|(go_at_call 52;(with_reducible refine(aM.calls d (-1) (wrap64 ((b.length:Int) - 1)) true _ Y.out).mono ?_);rintro e w' ⟨rfl,⟨nd,rfl⟩⟩;(try first|exact⟨rfl,_,World.drewN_drewN _ _ _⟩|exact⟨rfl,_,Eq.trans (World.drewN_drewN _ _ _) (congrArg (World.drewN _) (Nat.add_assoc _ _ _))⟩)))
      repeat(go_quiet (first|(go_at_call 52;(with_reducible refine(aM.calls d (-1) (wrap64 ((b.length:Int) - 1)) true _ Y.out).mono ?_);rintro e w' ⟨rfl,⟨nd,rfl⟩⟩;(try first|exact⟨rfl,_,World.drewN_drewN _ _ _⟩|exact⟨rfl,_,Eq.trans (World.drewN_drewN _ _ _) (congrArg (World.drewN _) (Nat.add_assoc _ _ _))⟩)));try go_wp2_with (first|(go_at_call 52;(with_reducible refine(aM.calls d (-1) (wrap64 ((b.length:Int) - 1)) true _ Y.out).mono ?_);rintro e w' ⟨rfl,⟨nd,rfl⟩⟩;(try first|exact⟨rfl,_,World.drewN_drewN _ _ _⟩|exact⟨rfl,_,Eq.trans (World.drewN_drewN _ _ _) (congrArg (World.drewN _) (Nat.add_assoc _ _ _))⟩))))
      go_meet
      case rel=>exact⟨_,(true),(by first|rfl|(simp;done)|(simp[*];done)),H',⟨by have:=HJ2.out;first|omega|exact Nat.le_refl _⟩,kk c,kk a,⟨bl⟩⟩
     rw[if_neg c15]at H
     have ch:decide (2<(l.length:Int))=false:=decide_eq_false c15
     have ci:decide (2<l.length)=false:=decide_eq_false (by omega)
     clear c15
     obtain⟨t141,aB,H⟩:=ob H
     by_cases c20:t141=true
     ·subst c20
      replace H:=it H
      obtain⟨aP,cf,H⟩:=ob H
      have H' :=Aside0.mk H
      clear H
      have cN:=j.out
      have cP:=i.out
      have:=cf8 a
      have:=cf2 c
      go_wp2_with (first|(go_at_call 52;(with_reducible refine(aM.calls d (-1) (wrap64 ((b.length:Int) - 1)) true _ Y.out).mono ?_);rintro e w' ⟨rfl,⟨nd,rfl⟩⟩;(try first|exact⟨rfl,_,World.drewN_drewN _ _ _⟩|exact⟨rfl,_,Eq.trans (World.drewN_drewN _ _ _) (congrArg (World.drewN _) (Nat.add_assoc _ _ _))⟩))|(go_at_call 158;(with_reducible refine(cu.calls _ _ b s true _ (cb A.out) B.out aB.out).mono ?_);rintro e w' ⟨rfl,⟨nd,rfl⟩⟩;(try first|exact⟨rfl,_,World.drewN_drewN _ _ _⟩|exact⟨rfl,_,Eq.trans (World.drewN_drewN _ _ _) (congrArg (World.drewN _) (Nat.add_assoc _ _ _))⟩))|(go_at_call 52;(with_reducible refine(aM.calls v (wrap64 (al+(l.length:Int))) 3 aP _ cf.out).mono ?_);rintro e w' ⟨rfl,⟨nd,rfl⟩⟩;(try first|exact⟨rfl,_,World.drewN_drewN _ _ _⟩|exact⟨rfl,_,Eq.trans (World.drewN_drewN _ _ _) (congrArg (World.drewN _) (Nat.add_assoc _ _ _))⟩)))
      repeat(go_quiet (first|(go_at_call 52;(with_reducible refine(aM.calls d (-1) (wrap64 ((b.length:Int) - 1)) true _ Y.out).mono ?_);rintro e w' ⟨rfl,⟨nd,rfl⟩⟩;(try first|exact⟨rfl,_,World.drewN_drewN _ _ _⟩|exact⟨rfl,_,Eq.trans (World.drewN_drewN _ _ _) (congrArg (World.drewN _) (Nat.add_assoc _ _ _))⟩))|(go_at_call 158;(with_reducible refine(cu.calls _ _ b s true _ ?s1 B.out aB.out).mono ?_);(case s1=>repeat(first|exact(Kd.C_below A.out (by repeat(first|(with_reducible first|exact HB.out|apply aI|apply aG|apply aC|refine aK ?_ X.out|refine aK ?_ aq.out)|exact HB.out)))|(with_reducible refine Kd.C_alloc ?_ _)|(with_reducible refine Kd.C_drewN ?_ _)|(with_reducible refine Kd.C_drew ?_)));rintro e w' ⟨rfl,⟨nd,rfl⟩⟩;(try first|exact⟨rfl,_,World.drewN_drewN _ _ _⟩|exact⟨rfl,_,Eq.trans (World.drewN_drewN _ _ _) (congrArg (World.drewN _) (Nat.add_assoc _ _ _))⟩))|(go_at_call 52;(with_reducible refine(aM.calls v (wrap64 (al+(l.length:Int))) 3 aP _ cf.out).mono ?_);rintro e w' ⟨rfl,⟨nd,rfl⟩⟩;(try first|exact⟨rfl,_,World.drewN_drewN _ _ _⟩|exact⟨rfl,_,Eq.trans (World.drewN_drewN _ _ _) (congrArg (World.drewN _) (Nat.add_assoc _ _ _))⟩)));try go_wp2_with (first|(go_at_call 52;(with_reducible refine(aM.calls d (-1) (wrap64 ((b.length:Int) - 1)) true _ Y.out).mono ?_);rintro e w' ⟨rfl,⟨nd,rfl⟩⟩;(try first|exact⟨rfl,_,World.drewN_drewN _ _ _⟩|exact⟨rfl,_,Eq.trans (World.drewN_drewN _ _ _) (congrArg (World.drewN _) (Nat.add_assoc _ _ _))⟩))|(go_at_call 158;(with_reducible refine(cu.calls _ _ b s true _ (cb A.out) B.out aB.out).mono ?_);rintro e w' ⟨rfl,⟨nd,rfl⟩⟩;(try first|exact⟨rfl,_,World.drewN_drewN _ _ _⟩|exact⟨rfl,_,Eq.trans (World.drewN_drewN _ _ _) (congrArg (World.drewN _) (Nat.add_assoc _ _ _))⟩))|(go_at_call 52;(with_reducible refine(aM.calls v (wrap64 (al+(l.length:Int))) 3 aP _ cf.out).mono ?_);rintro e w' ⟨rfl,⟨nd,rfl⟩⟩;(try first|exact⟨rfl,_,World.drewN_drewN _ _ _⟩|exact⟨rfl,_,Eq.trans (World.drewN_drewN _ _ _) (congrArg (World.drewN _) (Nat.add_assoc _ _ _))⟩))))
      go_meet
      case rel=>exact⟨_,(!aP),(by first|rfl|(simp;done)|(simp[*];done)),H',⟨by have:=HJ2.out;first|omega|exact Nat.le_refl _⟩,kk c,kk a,⟨bl⟩⟩
     replace c20:=Bool.eq_false_iff.mpr c20
     subst c20
     replace H:=ie H
     have H' :=Aside0.mk H
     clear H
     have cQ:=j.out
     have cR:=i.out
     have:=cf8 a
     have:=cf2 c
     go_wp2_with (first|(go_at_call 52;(with_reducible refine(aM.calls d (-1) (wrap64 ((b.length:Int) - 1)) true _ Y.out).mono ?_);rintro e w' ⟨rfl,⟨nd,rfl⟩⟩;(try first|exact⟨rfl,_,World.drewN_drewN _ _ _⟩|exact⟨rfl,_,Eq.trans (World.drewN_drewN _ _ _) (congrArg (World.drewN _) (Nat.add_assoc _ _ _))⟩))|(go_at_call 158;(with_reducible refine(cu.calls _ _ b s false _ (cb A.out) B.out aB.out).mono ?_);rintro e w' ⟨rfl,⟨nd,rfl⟩⟩;(try first|exact⟨rfl,_,World.drewN_drewN _ _ _⟩|exact⟨rfl,_,Eq.trans (World.drewN_drewN _ _ _) (congrArg (World.drewN _) (Nat.add_assoc _ _ _))⟩)))
     repeat(go_quiet (first|(go_at_call 52;(with_reducible refine(aM.calls d (-1) (wrap64 ((b.length:Int) - 1)) true _ Y.out).mono ?_);rintro e w' ⟨rfl,⟨nd,rfl⟩⟩;(try first|exact⟨rfl,_,World.drewN_drewN _ _ _⟩|exact⟨rfl,_,Eq.trans (World.drewN_drewN _ _ _) (congrArg (World.drewN _) (Nat.add_assoc _ _ _))⟩))|(go_at_call 158;(with_reducible refine(cu.calls _ _ b s false _ ?s1 B.out aB.out).mono ?_);(case s1=>repeat(first|exact(Kd.C_below A.out (by repeat(first|(with_reducible first|exact HB.out|apply aI|apply aG|apply aC|refine aK ?_ X.out|refine aK ?_ aq.out)|exact HB.out)))|(with_reducible refine Kd.C_alloc ?_ _)|(with_reducible refine Kd.C_drewN ?_ _)|(with_reducible refine Kd.C_drew ?_)));rintro e w' ⟨rfl,⟨nd,rfl⟩⟩;(try first|exact⟨rfl,_,World.drewN_drewN _ _ _⟩|exact⟨rfl,_,Eq.trans (World.drewN_drewN _ _ _) (congrArg (World.drewN _) (Nat.add_assoc _ _ _))⟩)));try go_wp2_with (first|(go_at_call 52;(with_reducible refine(aM.calls d (-1) (wrap64 ((b.length:Int) - 1)) true _ Y.out).mono ?_);rintro e w' ⟨rfl,⟨nd,rfl⟩⟩;(try first|exact⟨rfl,_,World.drewN_drewN _ _ _⟩|exact⟨rfl,_,Eq.trans (World.drewN_drewN _ _ _) (congrArg (World.drewN _) (Nat.add_assoc _ _ _))⟩))|(go_at_call 158;(with_reducible refine(cu.calls _ _ b s false _ (cb A.out) B.out aB.out).mono ?_);rintro e w' ⟨rfl,⟨nd,rfl⟩⟩;(try first|exact⟨rfl,_,World.drewN_drewN _ _ _⟩|exact⟨rfl,_,Eq.trans (World.drewN_drewN _ _ _) (congrArg (World.drewN _) (Nat.add_assoc _ _ _))⟩))))
     go_meet
     case rel=>exact⟨_,(true),(by first|rfl|(simp;done)|(simp[*];done)),H',⟨by have:=HJ2.out;first|omega|exact Nat.le_refl _⟩,kk c,kk a,⟨bl⟩⟩
    replace c14:=Bool.eq_false_iff.mpr c14
    subst c14
    replace H:=ie H
    have H' :=Aside0.mk H
    clear H
    have cS:=j.out
    have cT:=i.out
    have:=cf8 a
    have:=cf2 c
    go_wp2_with (first|(go_at_call 52;(with_reducible refine(aM.calls d (-1) (wrap64 ((b.length:Int) - 1)) false _ Y.out).mono ?_);rintro e w' ⟨rfl,⟨nd,rfl⟩⟩;(try first|exact⟨rfl,_,World.drewN_drewN _ _ _⟩|exact⟨rfl,_,Eq.trans (World.drewN_drewN _ _ _) (congrArg (World.drewN _) (Nat.add_assoc _ _ _))⟩)))
    repeat(go_quiet (first|(go_at_call 52;(with_reducible refine(aM.calls d (-1) (wrap64 ((b.length:Int) - 1)) false _ Y.out).mono ?_);rintro e w' ⟨rfl,⟨nd,rfl⟩⟩;(try first|exact⟨rfl,_,World.drewN_drewN _ _ _⟩|exact⟨rfl,_,Eq.trans (World.drewN_drewN _ _ _) (congrArg (World.drewN _) (Nat.add_assoc _ _ _))⟩)));try go_wp2_with (first|(go_at_call 52;(with_reducible refine(aM.calls d (-1) (wrap64 ((b.length:Int) - 1)) false _ Y.out).mono ?_);rintro e w' ⟨rfl,⟨nd,rfl⟩⟩;(try first|exact⟨rfl,_,World.drewN_drewN _ _ _⟩|exact⟨rfl,_,Eq.trans (World.drewN_drewN _ _ _) (congrArg (World.drewN _) (Nat.add_assoc _ _ _))⟩))))
    go_meet
    case rel=>exact⟨_,(true),(by first|rfl|(simp;done)|(simp[*];done)),H',⟨by have:=HJ2.out;first|omega|exact Nat.le_refl _⟩,kk c,kk a,⟨bl⟩⟩
   case rest=>
    clear ce
    obtain⟨kq,ar,rfl,HA,co,c,a,HB⟩:=hcut
    cases kq with
    |zero=>exact absurd HA.out (by simp[bv.j1])
    | succ cp=>
     have H:=HA.out
     clear HA
     simp only[bv.j1]at H
     by_cases c31:ar=true
     ·subst c31
      replace H:=it H
      obtain rfl:=Option.some.inj H;clear H
      go_wp2
      repeat(go_quiet (fail);try go_wp2)
      go_ret
      exact fin
     replace c31:=Bool.eq_false_iff.mpr c31
     subst c31
     replace H:=ie H
     have H' :=Aside0.mk H
     clear H
     go_wp2
     repeat(go_quiet (fail);try go_wp2)
     go_loopg [6] cp (fun kq v6 w' => ∃(u:Int),v6= .int .i64 u∧Aside0 (bv.l0 kq u b p d n l s v x y z=some r)∧Aside0 (kq≤cp)∧Aside0 (w'.heap[q]? =some (.cells #[(.slice D b.length E),(.slice G p.length I)] 38 (0,0)))∧Aside0 (w'.heap[m]? =some (.cells #[.int .i64 d, .int .i64 n,(.slice J l.length K), .int .i64 s, .int .i64 v,(.slice L x.length M),(.slice O y.length P),(.slice T z.length U)] 104 (0,0)))∧Aside0 (Below w.heap.size w w'))
     case atStart=>exact⟨(0),(by first|rfl|(simp;done)|(simp[*];done)),H',⟨Nat.le_refl _⟩,kk c,kk a,⟨bl⟩⟩
     case round=>
      clear H'
      obtain⟨u,rfl,HA,cq,c,a,HB⟩:=hrel
      cases gk with
      |zero=>exact absurd HA.out (by simp[bv.l0])
      | succ k3=>
       have H:=HA.out
       clear HA
       simp only[bv.l0]at H
       by_cases c32:u<(l.length:Int)
       ·rw[if_pos c32]at H
        have cj:decide (u<(l.length:Int))=true:=decide_eq_true c32
        clear c32
        by_cases bj:0≤u
        ·rw[if_pos bj]at H
         have cU:decide (0≤u)=true:=decide_eq_true bj
         clear bj
         obtain⟨ct,aE,H⟩:=ob H
         by_cases bk:ct=true
         ·subst bk
          replace H:=it H
          have H' :=Aside0.mk H
          clear H
          have cV:=j.out
          have cW:=i.out
          have:=cf8 a
          have:=cf2 c
          have Z:0≤(u:Int):=od
          have ab:u<(l.length:Int):=od
          obtain⟨ck,e143,W⟩:=Kd.at_int bd.out u Z ab
          cases e143
          replace W:=hc HB W
          replace Z:=eq_true Z
          replace ab:=eq_true ab
          go_wp2_with (first|(go_at_call 158;(with_reducible refine(cu.calls _ _ b (rd l u) true _ (cb A.out) B.out aE.out).mono ?_);rintro e w' ⟨rfl,⟨nd,rfl⟩⟩;(try first|exact⟨rfl,_,World.drewN_drewN _ _ _⟩|exact⟨rfl,_,Eq.trans (World.drewN_drewN _ _ _) (congrArg (World.drewN _) (Nat.add_assoc _ _ _))⟩)))
          repeat(go_quiet (first|(go_at_call 158;(with_reducible refine(cu.calls _ _ b (rd l u) true _ ?s1 B.out aE.out).mono ?_);(case s1=>repeat(first|exact(Kd.C_below A.out HB.out)|(with_reducible refine Kd.C_alloc ?_ _)|(with_reducible refine Kd.C_drewN ?_ _)|(with_reducible refine Kd.C_drew ?_)));rintro e w' ⟨rfl,⟨nd,rfl⟩⟩;(try first|exact⟨rfl,_,World.drewN_drewN _ _ _⟩|exact⟨rfl,_,Eq.trans (World.drewN_drewN _ _ _) (congrArg (World.drewN _) (Nat.add_assoc _ _ _))⟩)));try go_wp2_with (first|(go_at_call 158;(with_reducible refine(cu.calls _ _ b (rd l u) true _ (cb A.out) B.out aE.out).mono ?_);rintro e w' ⟨rfl,⟨nd,rfl⟩⟩;(try first|exact⟨rfl,_,World.drewN_drewN _ _ _⟩|exact⟨rfl,_,Eq.trans (World.drewN_drewN _ _ _) (congrArg (World.drewN _) (Nat.add_assoc _ _ _))⟩))))
          go_roundg k3
          case measure=>have:=HJ2.out;have:=co.out;have:=cq.out;omega
          case rel=>exact⟨(wrap64 (u+1)),(by first|rfl|(simp;done)|(simp[*];done)),H',⟨by have:=HJ2.out;have:=co.out;have:=cq.out;omega⟩,kk c,kk a,⟨bl⟩⟩
         replace bk:=Bool.eq_false_iff.mpr bk
         subst bk
         replace H:=ie H
         obtain rfl:=Option.some.inj H;clear H
         have cX:=j.out
         have cY:=i.out
         have:=cf8 a
         have:=cf2 c
         have Z:0≤(u:Int):=od
         have ab:u<(l.length:Int):=od
         obtain⟨ck,e143,W⟩:=Kd.at_int bd.out u Z ab
         cases e143
         replace W:=hc HB W
         replace Z:=eq_true Z
         replace ab:=eq_true ab
         go_wp2_with (first|(go_at_call 158;(with_reducible refine(cu.calls _ _ b (rd l u) false _ (cb A.out) B.out aE.out).mono ?_);rintro e w' ⟨rfl,⟨nd,rfl⟩⟩;(try first|exact⟨rfl,_,World.drewN_drewN _ _ _⟩|exact⟨rfl,_,Eq.trans (World.drewN_drewN _ _ _) (congrArg (World.drewN _) (Nat.add_assoc _ _ _))⟩)))
         repeat(go_quiet (first|(go_at_call 158;(with_reducible refine(cu.calls _ _ b (rd l u) false _ ?s1 B.out aE.out).mono ?_);(case s1=>repeat(first|exact(Kd.C_below A.out HB.out)|(with_reducible refine Kd.C_alloc ?_ _)|(with_reducible refine Kd.C_drewN ?_ _)|(with_reducible refine Kd.C_drew ?_)));rintro e w' ⟨rfl,⟨nd,rfl⟩⟩;(try first|exact⟨rfl,_,World.drewN_drewN _ _ _⟩|exact⟨rfl,_,Eq.trans (World.drewN_drewN _ _ _) (congrArg (World.drewN _) (Nat.add_assoc _ _ _))⟩)));try go_wp2_with (first|(go_at_call 158;(with_reducible refine(cu.calls _ _ b (rd l u) false _ (cb A.out) B.out aE.out).mono ?_);rintro e w' ⟨rfl,⟨nd,rfl⟩⟩;(try first|exact⟨rfl,_,World.drewN_drewN _ _ _⟩|exact⟨rfl,_,Eq.trans (World.drewN_drewN _ _ _) (congrArg (World.drewN _) (Nat.add_assoc _ _ _))⟩))))
         go_ret
         exact fin
        rw[if_neg bj]at H
        exact absurd H (by simp)
       rw[if_neg c32]at H
       have cj:decide (u<(l.length:Int))=false:=decide_eq_false c32
       clear c32
       by_cases aF:d≥0
       ·rw[if_pos aF]at H
        have cl:decide (0≤d)=true:=decide_eq_true aF
        clear aF
        obtain⟨t145,ad,H⟩:=ob H
        by_cases bm:t145=true
        ·subst bm
         replace H:=it H
         obtain rfl:=Option.some.inj H;clear H
         have c0:=j.out
         have c1:=i.out
         have:=cf8 a
         go_wp2_with (first|(go_at_call 52;(with_reducible refine(aM.calls n 0 2 true _ ad.out).mono ?_);rintro e w' ⟨rfl,⟨nd,rfl⟩⟩;(try first|exact⟨rfl,_,World.drewN_drewN _ _ _⟩|exact⟨rfl,_,Eq.trans (World.drewN_drewN _ _ _) (congrArg (World.drewN _) (Nat.add_assoc _ _ _))⟩)))
         repeat(go_quiet (first|(go_at_call 52;(with_reducible refine(aM.calls n 0 2 true _ ad.out).mono ?_);rintro e w' ⟨rfl,⟨nd,rfl⟩⟩;(try first|exact⟨rfl,_,World.drewN_drewN _ _ _⟩|exact⟨rfl,_,Eq.trans (World.drewN_drewN _ _ _) (congrArg (World.drewN _) (Nat.add_assoc _ _ _))⟩)));try go_wp2_with (first|(go_at_call 52;(with_reducible refine(aM.calls n 0 2 true _ ad.out).mono ?_);rintro e w' ⟨rfl,⟨nd,rfl⟩⟩;(try first|exact⟨rfl,_,World.drewN_drewN _ _ _⟩|exact⟨rfl,_,Eq.trans (World.drewN_drewN _ _ _) (congrArg (World.drewN _) (Nat.add_assoc _ _ _))⟩))))
         go_ret
         exact fin
        replace bm:=Bool.eq_false_iff.mpr bm
        subst bm
        replace H:=ie H
        by_cases aL:d<0
        ·rw[if_pos aL]at H
         have cm:decide (d<0)=true:=decide_eq_true aL
         clear aL
         obtain rfl:=Option.some.inj H;clear H
         have da:=j.out
         have db:=i.out
         have:=cf8 a
         go_wp2_with (first|(go_at_call 52;(with_reducible refine(aM.calls n 0 2 false _ ad.out).mono ?_);rintro e w' ⟨rfl,⟨nd,rfl⟩⟩;(try first|exact⟨rfl,_,World.drewN_drewN _ _ _⟩|exact⟨rfl,_,Eq.trans (World.drewN_drewN _ _ _) (congrArg (World.drewN _) (Nat.add_assoc _ _ _))⟩)))
         repeat(go_quiet (first|(go_at_call 52;(with_reducible refine(aM.calls n 0 2 false _ ad.out).mono ?_);rintro e w' ⟨rfl,⟨nd,rfl⟩⟩;(try first|exact⟨rfl,_,World.drewN_drewN _ _ _⟩|exact⟨rfl,_,Eq.trans (World.drewN_drewN _ _ _) (congrArg (World.drewN _) (Nat.add_assoc _ _ _))⟩)));try go_wp2_with (first|(go_at_call 52;(with_reducible refine(aM.calls n 0 2 false _ ad.out).mono ?_);rintro e w' ⟨rfl,⟨nd,rfl⟩⟩;(try first|exact⟨rfl,_,World.drewN_drewN _ _ _⟩|exact⟨rfl,_,Eq.trans (World.drewN_drewN _ _ _) (congrArg (World.drewN _) (Nat.add_assoc _ _ _))⟩))))
         go_ret
         exact fin
        rw[if_neg aL]at H
        have cm:decide (d<0)=false:=decide_eq_false aL
        clear aL
        obtain rfl:=Option.some.inj H;clear H
        have dc:=j.out
        have dd:=i.out
        have:=cf8 a
        go_wp2_with (first|(go_at_call 52;(with_reducible refine(aM.calls n 0 2 false _ ad.out).mono ?_);rintro e w' ⟨rfl,⟨nd,rfl⟩⟩;(try first|exact⟨rfl,_,World.drewN_drewN _ _ _⟩|exact⟨rfl,_,Eq.trans (World.drewN_drewN _ _ _) (congrArg (World.drewN _) (Nat.add_assoc _ _ _))⟩)))
        repeat(go_quiet (first|(go_at_call 52;(with_reducible refine(aM.calls n 0 2 false _ ad.out).mono ?_);rintro e w' ⟨rfl,⟨nd,rfl⟩⟩;(try first|exact⟨rfl,_,World.drewN_drewN _ _ _⟩|exact⟨rfl,_,Eq.trans (World.drewN_drewN _ _ _) (congrArg (World.drewN _) (Nat.add_assoc _ _ _))⟩)));try go_wp2_with (first|(go_at_call 52;(with_reducible refine(aM.calls n 0 2 false _ ad.out).mono ?_);rintro e w' ⟨rfl,⟨nd,rfl⟩⟩;(try first|exact⟨rfl,_,World.drewN_drewN _ _ _⟩|exact⟨rfl,_,Eq.trans (World.drewN_drewN _ _ _) (congrArg (World.drewN _) (Nat.add_assoc _ _ _))⟩))))
        go_ret
        exact fin
       rw[if_neg aF]at H
       have cl:decide (0≤d)=false:=decide_eq_false aF
       clear aF
       by_cases aO:d<0
       ·rw[if_pos aO]at H
        have cn:decide (d<0)=true:=decide_eq_true aO
        clear aO
        obtain rfl:=Option.some.inj H;clear H
        have de:=j.out
        have dg:=i.out
        have:=cf8 a
        go_wp2
        repeat(go_quiet (fail);try go_wp2)
        go_ret
        exact fin
       rw[if_neg aO]at H
       have cn:decide (d<0)=false:=decide_eq_false aO
       clear aO
       obtain rfl:=Option.some.inj H;clear H
       have dj:=j.out
       have dk:=i.out
       have:=cf8 a
       go_wp2
       repeat(go_quiet (fail);try go_wp2)
       go_ret
       exact fin
set_option maxHeartbeats 8000000 in
set_option maxRecDepth 100000 in
theorem ic.calls (a0:Int) (r:Bool) (w:World) (h:ic.f a0=some r):
  Calls Tryz.prog 56 #[.int .i64 a0] w fun e w' =>e= .returned (.bool r)∧Drawn0 w w' :=by
 have H:((aM.f a0 (-128) 127).bind fun t146=>(some t146))=some r:=h
 clear h
 obtain⟨t146,A2,H⟩:=ob H
 obtain rfl:=Option.some.inj H;clear H
 go_enter Tryz.func56,Tryz.ntmps56
 go_wp2_with (first|(refine gl (some 4) Tryz.func52 #[.int .i64 a0, .int .i64 (-128), .int .i64 127] rfl ?_;(with_reducible refine(aM.calls a0 (-128) 127 t146 _ A2.out).mono ?_);rintro e w' ⟨rfl,⟨nd,rfl⟩⟩;refine⟨_,rfl, ?_⟩))
 go_ret
 exact⟨by first|rfl|(simp;done)|(simp[*];done),by repeat(first|exact Drawn0.refl _|apply Drawn0.step)⟩
def dE.T3:Bool×List (List Nat×List Nat):=(true, [([], []),([], []),([], []),([1,2], [1,2]),([3], [3]),([4], [4]),([0,5], [0,5]),([], []),([], []),([7,8], [7,8]),([9], [9]),([10], [10]),([6,11,6], [6,11]),([12,12,0,1,2,3,4,5,6,7,8,9,10,11,12], [12])])
def dE.B3:List Nat:= [0,0,0,6,14,30,63,0,0,384,896,1920,4095,8191]
theorem dE.tab3:dJ .any (opsOf Tryz.f96 3)=dE.T3:=by kernel_rfl
theorem dE.bits3:dY dE.T3.2 dE.B3=true:=by kernel_rfl
set_option maxHeartbeats 8000000 in
set_option maxRecDepth 100000 in
theorem dE.calls (k:Nat): ∀(A0:Option Addr) (c0:Nat) (l0:List (S126)) (a1:Int) (r:List Int) (w:World) (hr0:Kd.C eB w A0 l0.length l0) (hc0:l0.length≤c0) (h:dE.f k l0 a1=some r),
  Calls Tryz.prog 96 #[.slice A0 l0.length c0, .int .i64 a1] w fun e w' => ∃Y:Value,e= .returned (Y)∧Kd.R (Kd.int .i64) 3 w' w.heap.size (fun _=>True) Y r∧Below w.heap.size w w' :=by
 induction k using Nat.strongRecOn with
 |_ k ih=>
 intro A0 c0 l0 a1 r w hr0 hc0 h
 cases k with
 |zero=>exact absurd h (by simp[dE.f])
 |succ k=>
 simp only[dE.f]at h
 have P:=Aside0.mk hr0
 have ar:=Aside0.mk hc0
 clear hr0 hc0
 have HB:=Aside0.mk (Below.refl w.heap.size w)
 have H:(if a1=0 then(some (([]:List Int)))else(if 0≤a1 then(if a1<(l0.length:Int)then((dE.f k l0 ((aD l0 a1).f0)).bind fun p=>(if p.length+((aD l0 a1).f1).length<17592186044416 then(some (p++((aD l0 a1).f1)))else(none)))else(none))else(none)))=some r:=h
 clear h
 by_cases c3:a1=0
 ·rw[if_pos c3]at H
  have ac:=beq_iff_eq.mpr c3
  have ad:=bne_eq_false_iff_eq.mpr c3
  clear c3
  obtain⟨al,q⟩: ∃y_:List Int,y_=(([]:List Int)):=⟨_,rfl⟩
  replace H:(some al)=some r:=by first|(rw[q];with_reducible exact H)|(have t:=(Option.bind_some _ _).symm.trans H;rw[q];with_reducible exact t)|(have t:=(Option.bind_some _ _).symm.trans H;with_reducible exact t)|with_reducible exact H|(rw[q];exact H)|exact H
  have L:=Aside0.mk q
  clear q
  obtain rfl:=Option.some.inj H;clear H
  go_enter Tryz.func96,Tryz.ntmps96
  go_wp2_with (first|((with_reducible refine gd 7 rfl ?_);refine Kd.R_lit (Kd.int .i64) _ 3 ?hg (N:=7) ?hd (xs:=([]:List Int)) (inner:= []) (ok:=fun _=>True) (okp:=fun _=>True) ?hr ?hp (fun _ hk=>hk) trivial (Below.refl _ _) (Nat.le_refl _) (by simp) ?_;(case hd=>rfl);(case hg=>rfl);(case hr=>first|(go_simp;done)|(go_simp;rfl));(case hp=>exact(bV.none _ _));intro v148 w4 A hb hg_ hnew_;clear hg_ hnew_;(first|rw[←L.out]at A|(simp only[Int.reduceToNat]at A;rw[←L.out]at A));have T:=Aside0.mk (Kd.R_lower A (aU bl));replace HB:=hs HB hb;clear hb A))
  go_ret
  exact⟨_,by first|rfl|(simp[bz,bA]<;>rfl)|(simp[*,bz,bA]<;>rfl),by(with_reducible repeat(first|apply Kd.R_alloc|apply Kd.R_drewN|apply Kd.R_drew));exact T.out,bl⟩
 rw[if_neg c3]at H
 have ac:=beq_eq_false_iff_ne.mpr c3
 have ad:=bne_iff_ne.mpr c3
 by_cases c6:0≤a1
 ·rw[if_pos c6]at H
  have aP:decide (0≤a1)=true:=decide_eq_true c6
  clear c6
  by_cases c7:a1<(l0.length:Int)
  ·rw[if_pos c7]at H
   have a0:decide (a1<(l0.length:Int))=true:=decide_eq_true c7
   clear c7
   obtain⟨p,A8,H⟩:=ob H
   by_cases c9:p.length+((aD l0 a1).f1).length<17592186044416
   ·rw[if_pos c9]at H
    have am:=Aside0.mk c9
    clear c9
    obtain⟨an,s⟩: ∃y_:List Int,y_=(p++((aD l0 a1).f1)):=⟨_,rfl⟩
    replace H:(some an)=some r:=by first|(rw[s];with_reducible exact H)|(have t:=(Option.bind_some _ _).symm.trans H;rw[s];with_reducible exact t)|(have t:=(Option.bind_some _ _).symm.trans H;with_reducible exact t)|with_reducible exact H|(rw[s];exact H)|exact H
    have U:=Aside0.mk s
    clear s
    obtain rfl:=Option.some.inj H;clear H
    go_enter Tryz.func96,Tryz.ntmps96
    try go_wp2
    replace HB:=Aside0.mk (aC HB.out)
    have E:0≤(a1:Int):=od
    have G:a1<(l0.length:Int):=od
    obtain⟨g,B,D,ao,m,j,u,v⟩:=fP P.out a1 E G
    have a:=j
    have b:=m
    cases ao
    obtain⟨m,j⟩:=hc2 HB m j
    have O:=Aside0.mk v
    have ap:=Aside0.mk u
    clear v u
    replace E:=eq_true E
    replace G:=eq_true G
    have I:0≤(a1:Int):=od
    have J:a1<(l0.length:Int):=od
    obtain⟨W,aw,aE,e154,o,l,x,y⟩:=fP P.out a1 I J
    have c:=l
    have d:=o
    obtain rfl:g=W:=(by injection e154)
    obtain⟨o,l⟩:=hc2 HB o l
    have z:=Aside0.mk y
    have aq:=Aside0.mk x
    clear y x
    replace I:=eq_true I
    replace J:=eq_true J
    have ea_:=Option.some.inj (j.symm.trans l)
    injection ea_ with ea_ en_ ec_
    subst ea_
    subst ec_
    clear en_
    refine dR (n:=14) (S:=fun w' =>w'.cell? (g.add ((a1).toNat * 2))=some (.int .i64 ((aD l0 a1).f0))∧w'.cell? ⟨(g.add ((a1).toNat * 2)).block,(g.add ((a1).toNat * 2)).off+1,none⟩=some (.slice B ((aD l0 a1).f1).length D)∧w'.cell? (g.add ((a1).toNat * 2))=some (.int .i64 ((aD l0 a1).f0))∧w'.cell? ⟨(g.add ((a1).toNat * 2)).block,(g.add ((a1).toNat * 2)).off+1,none⟩=some (.slice B ((aD l0 a1).f1).length D)) (ds:= []) #[false,false,false,false,false,false,false,false,false,false,false,false,false,false] (by kernel_rfl) rfl rfl ⟨((HB.out.cell (World.block_lt_of_cell? w _ b)).trans b),((HB.out.cell (World.block_lt_of_cell? w _ a)).trans a),((HB.out.cell (World.block_lt_of_cell? w _ d)).trans d),((HB.out.cell (World.block_lt_of_cell? w _ c)).trans c)⟩ (fun hHeld=> ?_);refine cO dE.tab3 dE.bits3 (fun HT_ HW_=> ?_)
    generalize w.drew=a3 at HB O z m j o l hHeld⊢
    refine pu 0 8 #[true,false,false,false,false,false,false,false,false,false,false,false,false,false] HT_ rfl rfl ?_
    refine pu 1 9 #[true,true,false,false,false,false,false,false,false,false,false,false,false,false] HT_ rfl rfl ?_
    refine pu 2 10 #[true,true,true,false,false,false,false,false,false,false,false,false,false,false] HT_ rfl rfl ?_
    refine pu 3 11 #[true,true,true,true,false,false,false,false,false,false,false,false,false,false] HT_ rfl rfl ?_
    refine pu 4 12 #[true,true,true,true,true,false,false,false,false,false,false,false,false,false] HT_ rfl rfl ?_
    refine pu 7 15 #[true,true,true,true,true,false,false,true,false,false,false,false,false,false] HT_ rfl rfl ?_
    refine pu 8 16 #[true,true,true,true,true,false,false,true,true,false,false,false,false,false] HT_ rfl rfl ?_
    refine pu 9 17 #[true,true,true,true,true,false,false,true,true,true,false,false,false,false] HT_ rfl rfl ?_
    refine pu 10 18 #[true,true,true,true,true,false,false,true,true,true,true,false,false,false] HT_ rfl rfl ?_
    refine ta 5 13 #[true,true,true,true,true,true,false,true,true,true,true,false,false,false] HT_ HW_ hHeld rfl rfl ?_
    refine ta 11 19 #[true,true,true,true,true,true,false,true,true,true,true,true,false,false] HT_ HW_ hHeld rfl rfl ?_
    refine fo (i:=6) (N:=some 14) #[true,true,true,true,true,true,true,true,true,true,true,true,false,false] rfl rfl (d9 HT_.out (by kernel_rfl)) (by decide) (fun K hK=> ?_)
    refine gs Tryz.func96 #[.slice (some g) l0.length c0, .int .i64 ((aD l0 a1).f0)] rfl rfl ?_
    with_reducible refine(ih k (by omega) _ _ l0 ((aD l0 a1).f0) p _ (cb P.out) ar.out A8.out).mono ?_
    rintro e a4 ⟨v152,rfl,ho0,hb⟩
    refine⟨_,rfl, ?_⟩
    have M:=Aside0.mk (Kd.R_lower ho0 (aU bl))
    replace HB:=hs HB hb
    refine hK.out _ _ ⟨((HB.out.cell (World.block_lt_of_cell? w _ b)).trans b),((HB.out.cell (World.block_lt_of_cell? w _ a)).trans a),((HB.out.cell (World.block_lt_of_cell? w _ d)).trans d),((HB.out.cell (World.block_lt_of_cell? w _ c)).trans c)⟩ (fun hHeld=> ?_)
    clear hK K
    refine no 14 ?_
    refine fo (i:=12) (N:=some 20) #[true,true,true,true,true,true,true,true,true,true,true,true,true,false] rfl rfl (d9 HT_.out (by kernel_rfl)) (by decide) (fun K hK=> ?_)
    refine Kd.R_append_rows_step (Kd.int .i64) (w0:=w) w.heap.size (by rfl) (.tmp 14) (.tmp 19) 29 3 (.int .i64 0) 8 rfl Tryz.underlying29 info3 rfl (by decide) (by omega) v152 p ((aD l0 a1).f1) _ _ _ (fun _=>True) (fun _=>False) rfl rfl ?aO ?aR (fun _ _ h=>h) (fun _ h=>h.elim) ?aF ?aB ?aS ?aL ?_
    (case aR=>repeat(first|exact(Kd.C_below z.out HB.out)|(with_reducible refine Kd.C_alloc ?_ _)|(with_reducible refine Kd.C_drewN ?_ _)|(with_reducible refine Kd.C_drew ?_)))
    (case aB=>exact bl)
    (case aF=>exact(fun _ _=>trivial))
    (case aO=>exact(by(with_reducible repeat(first|apply Kd.R_alloc|apply Kd.R_drewN|apply Kd.R_drew));exact M.out))
    (case aS=>exact(aU bl))
    (case aL=>have:=am.out;omega)
    intro a2 a5 ho hb hg hat
    rw[←U.out]at ho
    have Z:=Aside0.mk (hb)
    have ab:=Aside0.mk (ho)
    clear HB
    clear M
    have HB:=Z
    have X:=ab
    clear Z ab
    clear ho hb hg hat
    refine hK.out _ _ ⟨((HB.out.cell (World.block_lt_of_cell? w _ b)).trans b),((HB.out.cell (World.block_lt_of_cell? w _ a)).trans a),((HB.out.cell (World.block_lt_of_cell? w _ d)).trans d),((HB.out.cell (World.block_lt_of_cell? w _ c)).trans c)⟩ (fun hHeld=> ?_)
    clear hK K
    refine no 20 ?_
    refine pu 13 4 #[true,true,true,true,true,true,true,true,true,true,true,true,true,true] HT_ rfl rfl ?_
    refine eQ (dN HT_.out (by kernel_rfl)) ?_
    try go_wp2
    go_ret
    exact⟨_,by first|rfl|(simp[bz,bA]<;>rfl)|(simp[*,bz,bA]<;>rfl),by(with_reducible repeat(first|apply Kd.R_alloc|apply Kd.R_drewN|apply Kd.R_drew));exact X.out,bl⟩
   rw[if_neg c9]at H
   exact absurd H (by simp)
  rw[if_neg c7]at H
  exact absurd H (by simp)
 rw[if_neg c6]at H
 exact absurd H (by simp)
end Go.Proofs.YteinbmkgenhocaaGreat.P
end
