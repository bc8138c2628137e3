/- A part of the claim FnExactMachOk. -/
import Derived.Test.YteinbmkgenhocaaGreatCFnExactMachOk33
section
namespace Go.Proofs.YteinbmkgenhocaaGreat.P
open Go.RowKit Go.Proofs.YteinbmkgenhocaaGreatW.PrintWords Go.Proofs.YteinbmkgenhocaaGreatW.PrintLast Go.Proofs.YteinbmkgenhocaaGreatW.PrintMore
attribute [local go_sem] ah ai av ax af ag aj ak
set_option linter.unusedVariables false
set_option linter.unusedSimpArgs false
set_option maxHeartbeats 8000000 in
set_option maxRecDepth 100000 in
theorem jd.calls (l:Bool) (c:Int) (a1:Int) (r:Bool) (w:World) (h:jd.f l c a1=some r):
    Calls Tryz.prog 100 #[.agg #[.bool l, .int .i64 c], .int .i64 a1] w fun e w' =>e= .returned (.bool r)∧Below w.heap.size w w' :=by
  have E:=Tryz.underlying31
  have HB:=Aside0.mk (Below.refl w.heap.size w)
  have H:(if l=true then(if c≥0 then(some (decide (c≤a1)))else(some false))else(some true))=some r:=h
  clear h
  by_cases c3:l=true
  · subst c3
    have H1:(if c≥0 then(some (decide (c≤a1)))else(some false))=some r:=by rw[if_pos rfl]at H;exact H
    clear H
    have H:=H1
    clear H1
    by_cases c4:c≥0
    · rw[if_pos c4]at H
      have n:decide (0≤c)=true:=decide_eq_true c4
      clear c4
      obtain rfl:=Option.some.inj H
      simp only[Option.some.injEq,Prod.mk.injEq]at H
      obtain⟨rfl⟩:=H
      go_enter Tryz.func100,Tryz.ntmps100
      go_wp2_with (first|((with_reducible refine ic (N:=2) rfl ?_);refine fT ?hg (N:=2) ?hd (cs:= #[.bool true, .int .i64 c]) (t:=31) ?hr ?_;(case hd=>rfl);(case hg=>rfl);(case hr=>first|(go_simp;done)|(go_simp;rfl));intro a hg w5 hbox hb;have g:=Aside0.mk (fC (by repeat(first|(with_reducible first|exact HB.out|apply aV|apply aI|apply ay)|exact HB.out)) hb);have i:=Aside0.mk (hbox);have j:=Aside0.mk ((by rw[hg];exact(aM (by repeat(first|(with_reducible first|exact HB.out|apply aV|apply aI|apply ay)|exact HB.out))):w.heap.size≤a));have k:=Aside0.mk ((by rw[hg];exact(aM (by repeat(first|(with_reducible first|exact HB.out|apply aV|apply aI|apply ay)|exact HB.out))):w.heap.size≤a));clear HB;have HB:=g;have b:=i;have m:=j;have d:=k;clear g i j k;clear hb hbox hg;have u:w5.cell? ⟨a,0,none⟩=some (.bool true):=(ae b.out 0).trans rfl;have v:w5.cell? ⟨a,1,none⟩=some (.int .i64 c):=(ae b.out 1).trans rfl;have x:=aH b.out 0;have y:=aH b.out 1))
      go_ret
      exact⟨by first|rfl|(simp[aW,aX]<;>rfl)|(simp[*,aW,aX]<;>rfl),by repeat(first|(with_reducible first|exact HB.out|apply aV|apply aI|apply ay|refine aZ ?_ d.out)|exact HB.out)⟩
    rw[if_neg c4]at H
    have n:decide (0≤c)=false:=decide_eq_false c4
    clear c4
    obtain rfl:=Option.some.inj H
    simp only[Option.some.injEq,Prod.mk.injEq]at H
    obtain⟨rfl⟩:=H
    go_enter Tryz.func100,Tryz.ntmps100
    go_wp2_with (first|((with_reducible refine ic (N:=2) rfl ?_);refine fT ?hg (N:=2) ?hd (cs:= #[.bool true, .int .i64 c]) (t:=31) ?hr ?_;(case hd=>rfl);(case hg=>rfl);(case hr=>first|(go_simp;done)|(go_simp;rfl));intro a hg w7 hbox hb;have g:=Aside0.mk (fC (by repeat(first|(with_reducible first|exact HB.out|apply aV|apply aI|apply ay)|exact HB.out)) hb);have i:=Aside0.mk (hbox);have j:=Aside0.mk ((by rw[hg];exact(aM (by repeat(first|(with_reducible first|exact HB.out|apply aV|apply aI|apply ay)|exact HB.out))):w.heap.size≤a));have k:=Aside0.mk ((by rw[hg];exact(aM (by repeat(first|(with_reducible first|exact HB.out|apply aV|apply aI|apply ay)|exact HB.out))):w.heap.size≤a));clear HB;have HB:=g;have b:=i;have m:=j;have d:=k;clear g i j k;clear hb hbox hg;have z:w7.cell? ⟨a,0,none⟩=some (.bool true):=(ae b.out 0).trans rfl;have A:w7.cell? ⟨a,1,none⟩=some (.int .i64 c):=(ae b.out 1).trans rfl;have B:=aH b.out 0;have D:=aH b.out 1))
    go_ret
    exact⟨by first|rfl|(simp[aW,aX]<;>rfl)|(simp[*,aW,aX]<;>rfl),by repeat(first|(with_reducible first|exact HB.out|apply aV|apply aI|apply ay|refine aZ ?_ d.out)|exact HB.out)⟩
  replace c3:=Bool.eq_false_iff.mpr c3
  subst c3
  have H1:(some true)=some r:=by rw[if_neg (show¬(false=true) by decide)]at H;exact H
  clear H
  have H:=H1
  clear H1
  obtain rfl:=Option.some.inj H
  simp only[Option.some.injEq,Prod.mk.injEq]at H
  obtain⟨rfl⟩:=H
  go_enter Tryz.func100,Tryz.ntmps100
  go_wp2_with (first|((with_reducible refine ic (N:=2) rfl ?_);refine fT ?hg (N:=2) ?hd (cs:= #[.bool false, .int .i64 c]) (t:=31) ?hr ?_;(case hd=>rfl);(case hg=>rfl);(case hr=>first|(go_simp;done)|(go_simp;rfl));intro a hg w9 hbox hb;have g:=Aside0.mk (fC (by repeat(first|(with_reducible first|exact HB.out|apply aV|apply aI|apply ay)|exact HB.out)) hb);have i:=Aside0.mk (hbox);have j:=Aside0.mk ((by rw[hg];exact(aM (by repeat(first|(with_reducible first|exact HB.out|apply aV|apply aI|apply ay)|exact HB.out))):w.heap.size≤a));have k:=Aside0.mk ((by rw[hg];exact(aM (by repeat(first|(with_reducible first|exact HB.out|apply aV|apply aI|apply ay)|exact HB.out))):w.heap.size≤a));clear HB;have HB:=g;have b:=i;have m:=j;have d:=k;clear g i j k;clear hb hbox hg;have o:w9.cell? ⟨a,0,none⟩=some (.bool false):=(ae b.out 0).trans rfl;have p:w9.cell? ⟨a,1,none⟩=some (.int .i64 c):=(ae b.out 1).trans rfl;have q:=aH b.out 0;have s:=aH b.out 1))
  go_ret
  exact⟨by first|rfl|(simp[aW,aX]<;>rfl)|(simp[*,aW,aX]<;>rfl),by repeat(first|(with_reducible first|exact HB.out|apply aV|apply aI|apply ay|refine aZ ?_ d.out)|exact HB.out)⟩
set_option maxHeartbeats 8000000 in
set_option maxRecDepth 100000 in
theorem eH.calls (a0:Int) (a1:Int) (a2:Int) (r:Bool) (w:World) (h:eH.f a0 a1 a2=some r):
  Calls Tryz.prog 103 #[.int .i64 a0, .int .i64 a1, .int .i64 a2] w fun e w' =>e= .returned (.bool r)∧Drawn0 w w' :=by
 have H:(if a0≤a1 then(some (decide (a1≤a2)))else(some false))=some r:=h
 clear h
 by_cases c4:a0≤a1
 ·rw[if_pos c4]at H
  have a:decide (a0≤a1)=true:=decide_eq_true c4
  clear c4
  obtain rfl:=Option.some.inj H;clear H
  go_enter Tryz.func103,Tryz.ntmps103
  go_wp2
  go_ret
  exact⟨by first|rfl|(simp;done)|(simp[*];done),by repeat(first|exact Drawn0.refl _|apply Drawn0.step)⟩
 rw[if_neg c4]at H
 have a:decide (a0≤a1)=false:=decide_eq_false c4
 clear c4
 obtain rfl:=Option.some.inj H;clear H
 go_enter Tryz.func103,Tryz.ntmps103
 go_wp2
 go_ret
 exact⟨by first|rfl|(simp;done)|(simp[*];done),by repeat(first|exact Drawn0.refl _|apply Drawn0.step)⟩
end Go.Proofs.YteinbmkgenhocaaGreat.P
end
section
namespace Go.Proofs.YteinbmkgenhocaaGreat.P
open Go.RowKit Go.Proofs.YteinbmkgenhocaaGreatW.PrintWords Go.Proofs.YteinbmkgenhocaaGreatW.PrintLast Go.Proofs.YteinbmkgenhocaaGreatW.PrintMore
attribute [local go_sem] ah ai av ax af ag aj ak
set_option linter.unusedVariables false
set_option linter.unusedSimpArgs false
attribute [local go_sem high] uB
set_option maxHeartbeats 8000000 in
set_option maxRecDepth 100000 in
theorem ed.calls (k:Nat) (o:Option Addr) (p:Nat) (g:List (S91)) (q:Option Addr) (s:Nat) (d:List (S70)) (u:Option Addr) (v:Nat) (i:List Int) (m:Int) (c:Int) (l:Bool) (j:Int) (r:Bool) (w:World) (z:Kd.C k91 w o g.length g) (A:g.length≤p) (B:Kd.C k70 w q d.length d) (D:d.length≤s) (E:Kd.C (Kd.int .i64) w u i.length i) (G:i.length≤v) (h:ed.f k g d i m c l j=some r):
    Calls Tryz.prog 120 #[.agg #[.slice o g.length p, .slice q d.length s, .slice u i.length v, .int .i64 m, .int .i64 c, .bool l, .int .i64 j]] w fun e w' =>e= .returned (.bool r)∧Below w.heap.size w w' :=by
  have dl:=Tryz.underlying33
  have dp:=Tryz.underlying31
  have db:=Aside0.mk z
  have dc:=Aside0.mk A
  clear z A
  have dd:=Aside0.mk B
  have de:=Aside0.mk D
  clear B D
  have dg:=Aside0.mk E
  have dj:=Aside0.mk G
  clear E G
  have HB:=Aside0.mk (Below.refl w.heap.size w)
  have H:(if c=0 then(ed.j0 k c (c==0) g d i m c l j)else(ed.j0 k c (c==3) g d i m c l j))=some r:=h
  clear h
  have I:=Aside0.mk H
  clear H
  go_enter Tryz.func120,Tryz.ntmps120
  go_upto_if 5 with(first|((with_reducible refine ic (N:=1) rfl ?_);refine fT ?hg (N:=1) ?hd (cs:= #[.slice o g.length p, .slice q d.length s, .slice u i.length v, .int .i64 m, .int .i64 c, .bool l, .int .i64 j]) (t:=33) ?hr ?_;(case hd=>rfl);(case hg=>rfl);(case hr=>first|(go_simp;done)|(go_simp;rfl));intro b hg w3 hbox hb;have ar:=Aside0.mk (fC (by repeat(first|(with_reducible first|exact HB.out|apply aV|apply aI|apply ay)|exact HB.out)) hb);have aw:=Aside0.mk (hbox);have aB:=Aside0.mk ((by rw[hg];exact(aM (by repeat(first|(with_reducible first|exact HB.out|apply aV|apply aI|apply ay)|exact HB.out))):w.heap.size≤b));have aE:=Aside0.mk ((by rw[hg];exact(aM (by repeat(first|(with_reducible first|exact HB.out|apply aV|apply aI|apply ay)|exact HB.out))):w.heap.size≤b));clear HB;have HB:=ar;have a:=aw;have ct:=aB;have n:=aE;clear ar aw aB aE;clear hb hbox hg;have J:w3.cell? ⟨b,0,none⟩=some (.slice o g.length p):=(ae a.out 0).trans rfl;have K:w3.cell? ⟨b,1,none⟩=some (.slice q d.length s):=(ae a.out 1).trans rfl;have L:w3.cell? ⟨b,2,none⟩=some (.slice u i.length v):=(ae a.out 2).trans rfl;have M:w3.cell? ⟨b,3,none⟩=some (.int .i64 m):=(ae a.out 3).trans rfl;have O:w3.cell? ⟨b,4,none⟩=some (.int .i64 c):=(ae a.out 4).trans rfl;have P:w3.cell? ⟨b,5,none⟩=some (.bool l):=(ae a.out 5).trans rfl;have T:w3.cell? ⟨b,6,none⟩=some (.int .i64 j):=(ae a.out 6).trans rfl;have U:=aH a.out 0;have W:=aH a.out 1;have X:=aH a.out 2;have Y:=aH a.out 3;have Z:=aH a.out 4;have ab:=aH a.out 5;have ac:=aH a.out 6))
  (try simp only[Act.put,List.setIfInBounds_toArray,List.set_cons_zero,List.set_cons_succ])
  go_cut [5] (fun v5 wc=> ∃(kq:Nat) (y:Bool),v5= .bool y∧Aside0 (ed.j0 kq c y g d i m c l j=some r)∧Aside0 (kq≤k)∧Aside0 (wc.heap[b]? =some (.cells #[(.slice o g.length p),(.slice q d.length s),(.slice u i.length v), .int .i64 m, .int .i64 c, .bool l, .int .i64 j] 33 (0,0)))∧Aside0 (Below w.heap.size w wc))
  case first=>
    have H:=I.out
    clear I
    by_cases c5:c=0
    · rw[if_pos c5]at H
      have x:(c==0)=true:=beq_iff_eq.mpr c5
      have ad:(c !=0)=false:=bne_eq_false_iff_eq.mpr c5
      clear c5
      (first|rw[x]|(simp only[bq,bu];rw[x])|skip)
      have H' :=Aside0.mk H
      clear H
      go_wp2
      go_meet
      case rel=>exact⟨_,((c==0)),(by first|rfl|(simp;done)|(simp[*];done)),H',⟨by first|omega|exact Nat.le_refl _⟩,⟨by(with_reducible repeat(first|refine aC ?_ _|refine au ?_|refine aA ?_ _));exact a.out⟩,⟨by repeat(first|(with_reducible first|exact HB.out|apply aV|apply aI|apply ay|refine aZ ?_ n.out)|exact HB.out)⟩⟩
    rw[if_neg c5]at H
    have x:(c==0)=false:=beq_eq_false_iff_ne.mpr c5
    have ad:(c !=0)=true:=bne_iff_ne.mpr c5
    (first|rw[x]|(simp only[bq,bu];rw[x])|skip)
    have H' :=Aside0.mk H
    clear H
    go_wp2
    go_meet
    case rel=>exact⟨_,((c==3)),(by first|rfl|(simp;done)|(simp[*];done)),H',⟨by first|omega|exact Nat.le_refl _⟩,⟨by(with_reducible repeat(first|refine aC ?_ _|refine au ?_|refine aA ?_ _));exact a.out⟩,⟨by repeat(first|(with_reducible first|exact HB.out|apply aV|apply aI|apply ay|refine aZ ?_ n.out)|exact HB.out)⟩⟩
  case rest =>
    clear I
    try clear c1
    try clear p2
    try clear c5
    try clear x
    try clear ad
    try clear J
    try clear K
    try clear L
    try clear M
    try clear O
    try clear P
    try clear T
    try clear U
    try clear W
    try clear X
    try clear Y
    try clear Z
    try clear ab
    try clear ac
    obtain⟨kq,y,rfl,HA,dq,a,HB⟩:=hcut
    cases kq with
    |zero=>exact absurd HA.out (by simp[ed.j0])
    | succ dr=>
      have H:=HA.out
      clear HA
      simp only[ed.j0]at H
      by_cases c6:y=true
      · subst c6
        have H1:(if(d.length:Int)>0 then(some (!l && (j==0)))else(some false))=some r:=by rw[if_pos rfl]at H;exact H
        clear H
        have H:=H1
        clear H1
        by_cases c7:(d.length:Int)>0
        · rw[if_pos c7]at H
          have aF:decide (0<(d.length:Int))=true:=decide_eq_true c7
          have aL:decide (0<d.length)=true:=decide_eq_true (by omega)
          clear c7
          obtain rfl:=Option.some.inj H
          simp only[Option.some.injEq,Prod.mk.injEq]at H
          obtain⟨rfl⟩:=H
          have cv:wc.cell? ⟨b,0,none⟩=some (.slice o g.length p):=(ae a.out 0).trans rfl
          have cw:wc.cell? ⟨b,1,none⟩=some (.slice q d.length s):=(ae a.out 1).trans rfl
          have cx:wc.cell? ⟨b,2,none⟩=some (.slice u i.length v):=(ae a.out 2).trans rfl
          have cy:wc.cell? ⟨b,3,none⟩=some (.int .i64 m):=(ae a.out 3).trans rfl
          have cA:wc.cell? ⟨b,4,none⟩=some (.int .i64 c):=(ae a.out 4).trans rfl
          have cC:wc.cell? ⟨b,5,none⟩=some (.bool l):=(ae a.out 5).trans rfl
          have cD:wc.cell? ⟨b,6,none⟩=some (.int .i64 j):=(ae a.out 6).trans rfl
          have cE:=aH a.out 0
          have cF:=aH a.out 1
          have cG:=aH a.out 2
          have cH:=aH a.out 3
          have cI:=aH a.out 4
          have cJ:=aH a.out 5
          have cL:=aH a.out 6
          go_wp2
          go_ret
          exact⟨by first|rfl|(simp[aW,aX]<;>rfl)|(simp[*,aW,aX]<;>rfl),by repeat(first|(with_reducible first|exact HB.out|apply aV|apply aI|apply ay|refine aZ ?_ n.out)|exact HB.out)⟩
        rw[if_neg c7]at H
        have aF:decide (0<(d.length:Int))=false:=decide_eq_false c7
        have aL:decide (0<d.length)=false:=decide_eq_false (by omega)
        clear c7
        obtain rfl:=Option.some.inj H
        simp only[Option.some.injEq,Prod.mk.injEq]at H
        obtain⟨rfl⟩:=H
        have cM:wc.cell? ⟨b,0,none⟩=some (.slice o g.length p):=(ae a.out 0).trans rfl
        have cN:wc.cell? ⟨b,1,none⟩=some (.slice q d.length s):=(ae a.out 1).trans rfl
        have cP:wc.cell? ⟨b,2,none⟩=some (.slice u i.length v):=(ae a.out 2).trans rfl
        have cQ:wc.cell? ⟨b,3,none⟩=some (.int .i64 m):=(ae a.out 3).trans rfl
        have cR:wc.cell? ⟨b,4,none⟩=some (.int .i64 c):=(ae a.out 4).trans rfl
        have cS:wc.cell? ⟨b,5,none⟩=some (.bool l):=(ae a.out 5).trans rfl
        have cT:wc.cell? ⟨b,6,none⟩=some (.int .i64 j):=(ae a.out 6).trans rfl
        have cU:=aH a.out 0
        have cV:=aH a.out 1
        have cW:=aH a.out 2
        have cX:=aH a.out 3
        have cY:=aH a.out 4
        have c0:=aH a.out 5
        have da:=aH a.out 6
        go_wp2
        go_ret
        exact⟨by first|rfl|(simp[aW,aX]<;>rfl)|(simp[*,aW,aX]<;>rfl),by repeat(first|(with_reducible first|exact HB.out|apply aV|apply aI|apply ay|refine aZ ?_ n.out)|exact HB.out)⟩
      replace c6:=Bool.eq_false_iff.mpr c6
      subst c6
      have H1:(if c=1 then(some ((d.length:Int)==0))else(if c=2 then(if(d.length:Int)=0 then(if l=true then(some (decide (j≥1)))else(some false))else(some false))else(some false)))=some r:=by rw[if_neg (show¬(false=true) by decide)]at H;exact H
      clear H
      have H:=H1
      clear H1
      by_cases c10:c=1
      · rw[if_pos c10]at H
        have al:(c==1)=true:=beq_iff_eq.mpr c10
        have am:(c !=1)=false:=bne_eq_false_iff_eq.mpr c10
        clear c10
        obtain rfl:=Option.some.inj H
        simp only[Option.some.injEq,Prod.mk.injEq]at H
        obtain⟨rfl⟩:=H
        have aO:wc.cell? ⟨b,0,none⟩=some (.slice o g.length p):=(ae a.out 0).trans rfl
        have aP:wc.cell? ⟨b,1,none⟩=some (.slice q d.length s):=(ae a.out 1).trans rfl
        have aR:wc.cell? ⟨b,2,none⟩=some (.slice u i.length v):=(ae a.out 2).trans rfl
        have aS:wc.cell? ⟨b,3,none⟩=some (.int .i64 m):=(ae a.out 3).trans rfl
        have a0:wc.cell? ⟨b,4,none⟩=some (.int .i64 c):=(ae a.out 4).trans rfl
        have a1:wc.cell? ⟨b,5,none⟩=some (.bool l):=(ae a.out 5).trans rfl
        have a2:wc.cell? ⟨b,6,none⟩=some (.int .i64 j):=(ae a.out 6).trans rfl
        have a3:=aH a.out 0
        have a4:=aH a.out 1
        have a5:=aH a.out 2
        have a6:=aH a.out 3
        have a7:=aH a.out 4
        have a8:=aH a.out 5
        have a9:=aH a.out 6
        go_wp2
        go_ret
        exact⟨by first|rfl|(simp[aW,aX]<;>rfl)|(simp[*,aW,aX]<;>rfl),by repeat(first|(with_reducible first|exact HB.out|apply aV|apply aI|apply ay|refine aZ ?_ n.out)|exact HB.out)⟩
      rw[if_neg c10]at H
      have al:(c==1)=false:=beq_eq_false_iff_ne.mpr c10
      have am:(c !=1)=true:=bne_iff_ne.mpr c10
      by_cases c12:c=2
      · rw[if_pos c12]at H
        have an:(c==2)=true:=beq_iff_eq.mpr c12
        have ao:(c !=2)=false:=bne_eq_false_iff_eq.mpr c12
        clear c12
        by_cases c13:(d.length:Int)=0
        · rw[if_pos c13]at H
          have ap:((d.length:Int)==0)=true:=beq_iff_eq.mpr c13
          have aq:((d.length:Int) !=0)=false:=bne_eq_false_iff_eq.mpr c13
          clear c13
          by_cases c14:l=true
          · subst c14
            have H1:(some (decide (j≥1)))=some r:=by rw[if_pos rfl]at H;exact H
            clear H
            have H:=H1
            clear H1
            obtain rfl:=Option.some.inj H
            simp only[Option.some.injEq,Prod.mk.injEq]at H
            obtain⟨rfl⟩:=H
            have ba:wc.cell? ⟨b,0,none⟩=some (.slice o g.length p):=(ae a.out 0).trans rfl
            have bb:wc.cell? ⟨b,1,none⟩=some (.slice q d.length s):=(ae a.out 1).trans rfl
            have bc:wc.cell? ⟨b,2,none⟩=some (.slice u i.length v):=(ae a.out 2).trans rfl
            have bd:wc.cell? ⟨b,3,none⟩=some (.int .i64 m):=(ae a.out 3).trans rfl
            have be:wc.cell? ⟨b,4,none⟩=some (.int .i64 c):=(ae a.out 4).trans rfl
            have bh:wc.cell? ⟨b,5,none⟩=some (.bool true):=(ae a.out 5).trans rfl
            have bj:wc.cell? ⟨b,6,none⟩=some (.int .i64 j):=(ae a.out 6).trans rfl
            have bk:=aH a.out 0
            have bm:=aH a.out 1
            have bo:=aH a.out 2
            have bp:=aH a.out 3
            have br:=aH a.out 4
            have bs:=aH a.out 5
            have bt:=aH a.out 6
            go_wp2
            go_ret
            exact⟨by first|rfl|(simp[aW,aX]<;>rfl)|(simp[*,aW,aX]<;>rfl),by repeat(first|(with_reducible first|exact HB.out|apply aV|apply aI|apply ay|refine aZ ?_ n.out)|exact HB.out)⟩
          replace c14:=Bool.eq_false_iff.mpr c14
          subst c14
          have H1:(some false)=some r:=by rw[if_neg (show¬(false=true) by decide)]at H;exact H
          clear H
          have H:=H1
          clear H1
          obtain rfl:=Option.some.inj H
          simp only[Option.some.injEq,Prod.mk.injEq]at H
          obtain⟨rfl⟩:=H
          have bw:wc.cell? ⟨b,0,none⟩=some (.slice o g.length p):=(ae a.out 0).trans rfl
          have b0:wc.cell? ⟨b,1,none⟩=some (.slice q d.length s):=(ae a.out 1).trans rfl
          have b1:wc.cell? ⟨b,2,none⟩=some (.slice u i.length v):=(ae a.out 2).trans rfl
          have b2:wc.cell? ⟨b,3,none⟩=some (.int .i64 m):=(ae a.out 3).trans rfl
          have b3:wc.cell? ⟨b,4,none⟩=some (.int .i64 c):=(ae a.out 4).trans rfl
          have b4:wc.cell? ⟨b,5,none⟩=some (.bool false):=(ae a.out 5).trans rfl
          have b5:wc.cell? ⟨b,6,none⟩=some (.int .i64 j):=(ae a.out 6).trans rfl
          have b6:=aH a.out 0
          have b7:=aH a.out 1
          have b8:=aH a.out 2
          have b9:=aH a.out 3
          have ca:=aH a.out 4
          have cc:=aH a.out 5
          have cd:=aH a.out 6
          go_wp2
          go_ret
          exact⟨by first|rfl|(simp[aW,aX]<;>rfl)|(simp[*,aW,aX]<;>rfl),by repeat(first|(with_reducible first|exact HB.out|apply aV|apply aI|apply ay|refine aZ ?_ n.out)|exact HB.out)⟩
        rw[if_neg c13]at H
        have ap:((d.length:Int)==0)=false:=beq_eq_false_iff_ne.mpr c13
        have aq:((d.length:Int) !=0)=true:=bne_iff_ne.mpr c13
        have dk: ¬(d= []):=fun h_=>c13 (by rw[h_];rfl)
        obtain rfl:=Option.some.inj H
        simp only[Option.some.injEq,Prod.mk.injEq]at H
        obtain⟨rfl⟩:=H
        have ce:wc.cell? ⟨b,0,none⟩=some (.slice o g.length p):=(ae a.out 0).trans rfl
        have cf:wc.cell? ⟨b,1,none⟩=some (.slice q d.length s):=(ae a.out 1).trans rfl
        have cg:wc.cell? ⟨b,2,none⟩=some (.slice u i.length v):=(ae a.out 2).trans rfl
        have ch:wc.cell? ⟨b,3,none⟩=some (.int .i64 m):=(ae a.out 3).trans rfl
        have ci:wc.cell? ⟨b,4,none⟩=some (.int .i64 c):=(ae a.out 4).trans rfl
        have cj:wc.cell? ⟨b,5,none⟩=some (.bool l):=(ae a.out 5).trans rfl
        have ck:wc.cell? ⟨b,6,none⟩=some (.int .i64 j):=(ae a.out 6).trans rfl
        have cl:=aH a.out 0
        have cm:=aH a.out 1
        have cn:=aH a.out 2
        have co:=aH a.out 3
        have cp:=aH a.out 4
        have cq:=aH a.out 5
        have cr:=aH a.out 6
        go_wp2
        go_ret
        exact⟨by first|rfl|(simp[aW,aX]<;>rfl)|(simp[*,aW,aX]<;>rfl),by repeat(first|(with_reducible first|exact HB.out|apply aV|apply aI|apply ay|refine aZ ?_ n.out)|exact HB.out)⟩
      rw[if_neg c12]at H
      have an:(c==2)=false:=beq_eq_false_iff_ne.mpr c12
      have ao:(c !=2)=true:=bne_iff_ne.mpr c12
      obtain rfl:=Option.some.inj H
      simp only[Option.some.injEq,Prod.mk.injEq]at H
      obtain⟨rfl⟩:=H
      go_wp2
      go_ret
      exact⟨by first|rfl|(simp[aW,aX]<;>rfl)|(simp[*,aW,aX]<;>rfl),by repeat(first|(with_reducible first|exact HB.out|apply aV|apply aI|apply ay|refine aZ ?_ n.out)|exact HB.out)⟩
end Go.Proofs.YteinbmkgenhocaaGreat.P
end
section
namespace Go.Proofs.YteinbmkgenhocaaGreat.P
open Go.RowKit Go.Proofs.YteinbmkgenhocaaGreatW.PrintWords Go.Proofs.YteinbmkgenhocaaGreatW.PrintLast Go.Proofs.YteinbmkgenhocaaGreatW.PrintMore
attribute [local go_sem] ah ai av ax af ag aj ak
set_option linter.unusedVariables false
set_option linter.unusedSimpArgs false
def dn.T3:Bool×List (List Nat×List Nat):=(true, [([], []),([], []),([1], [1]),([0,2], [0,2]),([3,3], [3]),([4], [4]),([5,4], [4,5]),([6,4], [4,6]),([4], [4]),([4], [4]),([9,4], [4,9]),([8,10,4,4], [4,8,10]),([11,4], [4,11]),([7,12,4], [4,7,12]),([4,13], [4,13]),([14,11,0,1,2,3,4,5,6,7,8,9,10,11,12,13,14], [14])])
def dn.B3:List Nat:= [0,0,2,7,15,31,63,127,31,31,543,1823,3871,8191,16383,32767]
theorem dn.tab3:eU .any (opsOf Tryz.f116 3)=dn.T3:=by kernel_rfl
theorem dn.bits3:eQ dn.T3.2 dn.B3=true:=by kernel_rfl
set_option maxHeartbeats 8000000 in
set_option maxRecDepth 100000 in
theorem dn.calls (k:Nat) (A0:Option Addr) (c0:Nat) (l0:List (S126)) (b:Int) (m:Option Addr) (p:Nat) (d:List (S31)) (r:Bool) (w:World) (hr0:Kd.C eB w A0 l0.length l0) (hc0:l0.length≤c0) (A:Kd.C k31 w m d.length d) (B:d.length≤p) (h:dn.f k l0 b d=some r):
    Calls Tryz.prog 116 #[.slice A0 l0.length c0, .agg #[.int .i64 b, .slice m d.length p]] w fun e w' =>e= .returned (.bool r)∧Below w.heap.size w w' :=by
  have aS:=Tryz.underlying91
  have E:=Aside0.mk hr0
  have G:=Aside0.mk hc0
  clear hr0 hc0
  have aO:=Aside0.mk A
  have aP:=Aside0.mk B
  clear A B
  have HB:=Aside0.mk (Below.refl w.heap.size w)
  have H:(if b=(-1)then(dn.j0 k l0 true b d)else(dn.j0 k l0 (b==(-2)) b d))=some r:=h
  clear h
  have I:=Aside0.mk H
  clear H
  go_enter Tryz.func116,Tryz.ntmps116
  go_upto_region 1 with(first|((with_reducible refine ic (N:=3) rfl ?_);(try(refine aU (by rfl) ?_;dsimp only));refine fT ?hg (N:=3) ?hd (cs:= #[.int .i64 b, .slice m d.length p]) (t:=91) ?hr ?_;(case hd=>rfl);(case hg=>rfl);(case hr=>first|(go_simp;done)|(go_simp;rfl));intro c hg w4 hbox hb;have q:=Aside0.mk (fC (by repeat(first|(with_reducible first|exact HB.out|apply aV|apply aI|apply ay)|exact HB.out)) hb);have s:=Aside0.mk (hbox);have z:=Aside0.mk ((by rw[hg];exact(aM (by repeat(first|(with_reducible first|exact HB.out|apply aV|apply aI|apply ay)|exact HB.out))):w.heap.size≤c));have ad:=Aside0.mk ((by rw[hg];exact(aM (by repeat(first|(with_reducible first|exact HB.out|apply aV|apply aI|apply ay)|exact HB.out))):w.heap.size≤c));clear HB;have HB:=q;have a:=s;have ao:=z;have j:=ad;clear q s z ad;clear hb hbox hg))
  (try simp only[Act.put,List.setIfInBounds_toArray,List.set_cons_zero,List.set_cons_succ])
  go_cut [12] (fun v12 wc=> ∃(kq:Nat) (x:Bool),v12= .bool x∧Aside0 (dn.j0 kq l0 x b d=some r)∧Aside0 (kq≤k)∧Aside0 (wc.heap[c]? =some (.cells #[.int .i64 b,(.slice m d.length p)] 91 (0,0)))∧Aside0 (Below w.heap.size w wc))
  case first=>
    have H:=I.out
    clear I
    by_cases c5:b=(-1)
    · rw[if_pos c5]at H
      have u:(b==(-1))=true:=beq_iff_eq.mpr c5
      have J:(b !=(-1))=false:=bne_eq_false_iff_eq.mpr c5
      clear c5
      (first|rw[u]|(simp only[bq,bu];rw[u])|skip)
      have H' :=Aside0.mk H
      clear H
      have L:w4.cell? ⟨c,0,none⟩=some (.int .i64 b):=(ae a.out 0).trans rfl
      have M:w4.cell? ⟨c,1,none⟩=some (.slice m d.length p):=(ae a.out 1).trans rfl
      have O:=aH a.out 0
      have P:=aH a.out 1
      go_wp2
      go_meet
      case rel=>exact⟨_,(true),(by first|rfl|(simp;done)|(simp[*];done)),H',⟨by first|omega|exact Nat.le_refl _⟩,⟨by(with_reducible repeat(first|refine aC ?_ _|refine au ?_|refine aA ?_ _));exact a.out⟩,⟨by repeat(first|(with_reducible first|exact HB.out|apply aV|apply aI|apply ay|refine aZ ?_ j.out)|exact HB.out)⟩⟩
    rw[if_neg c5]at H
    have u:(b==(-1))=false:=beq_eq_false_iff_ne.mpr c5
    have J:(b !=(-1))=true:=bne_iff_ne.mpr c5
    (first|rw[u]|(simp only[bq,bu];rw[u])|skip)
    have H' :=Aside0.mk H
    clear H
    have T:w4.cell? ⟨c,0,none⟩=some (.int .i64 b):=(ae a.out 0).trans rfl
    have U:w4.cell? ⟨c,1,none⟩=some (.slice m d.length p):=(ae a.out 1).trans rfl
    have W:=aH a.out 0
    have X:=aH a.out 1
    go_wp2
    go_meet
    case rel=>exact⟨_,((b==(-2))),(by first|rfl|(simp;done)|(simp[*];done)),H',⟨by first|omega|exact Nat.le_refl _⟩,⟨by(with_reducible repeat(first|refine aC ?_ _|refine au ?_|refine aA ?_ _));exact a.out⟩,⟨by repeat(first|(with_reducible first|exact HB.out|apply aV|apply aI|apply ay|refine aZ ?_ j.out)|exact HB.out)⟩⟩
  case rest=>
    clear I
    try clear c1
    try clear p2
    try clear c5
    try clear u
    try clear J
    try clear L
    try clear M
    try clear T
    try clear U
    try clear O
    try clear P
    try clear W
    try clear X
    obtain⟨kq,x,rfl,HA,HJ2,a,HB⟩:=hcut
    cases kq with
    |zero=>exact absurd HA.out (by simp[dn.j0])
    | succ D=>
      have H:=HA.out
      clear HA
      simp only[dn.j0]at H
      by_cases c8:x=true
      · subst c8
        have H1:(some (decide ((d.length:Int)≤6)))=some r:=by rw[if_pos rfl]at H;exact H
        clear H
        have H:=H1
        clear H1
        obtain rfl:=Option.some.inj H
        simp only[Option.some.injEq,Prod.mk.injEq]at H
        obtain⟨rfl⟩:=H
        have ap:wc.cell? ⟨c,0,none⟩=some (.int .i64 b):=(ae a.out 0).trans rfl
        have aq:wc.cell? ⟨c,1,none⟩=some (.slice m d.length p):=(ae a.out 1).trans rfl
        have ar:=aH a.out 0
        have aw:=aH a.out 1
        go_wp2
        go_ret
        exact⟨by first|rfl|(simp[aW,aX]<;>rfl)|(simp[*,aW,aX]<;>rfl),by repeat(first|(with_reducible first|exact HB.out|apply aV|apply aI|apply ay|refine aZ ?_ j.out)|exact HB.out)⟩
      replace c8:=Bool.eq_false_iff.mpr c8
      subst c8
      have H1:((dK.f l0 b).bind fun y=>(if y=true then((bN.f D l0 b).bind fun l=>(some ((d.length:Int)==(l.length:Int))))else(some false)))=some r:=by rw[if_neg (show¬(false=true) by decide)]at H;exact H
      clear H
      have H:=H1
      clear H1
      replace H:=Option.bind_eq_some_iff.mp H
      obtain⟨y,Y,H⟩:=H
      replace H:(if y=true then((bN.f D l0 b).bind fun l=>(some ((d.length:Int)==(l.length:Int))))else(some false))=some r:=H
      have al:=Aside0.mk Y
      clear Y
      by_cases c11:y=true
      · subst c11
        have H1:((bN.f D l0 b).bind fun l=>(some ((d.length:Int)==(l.length:Int))))=some r:=by rw[if_pos rfl]at H;exact H
        clear H
        have H:=H1
        clear H1
        replace H:=Option.bind_eq_some_iff.mp H
        obtain⟨l,Z,H⟩:=H
        replace H:(some ((d.length:Int)==(l.length:Int)))=some r:=H
        have aB:=Aside0.mk Z
        clear Z
        obtain rfl:=Option.some.inj H
        simp only[Option.some.injEq,Prod.mk.injEq]at H
        obtain⟨rfl⟩:=H
        try go_wp2
        have q:=Aside0.mk (au a.out)
        have s:=Aside0.mk (ay HB.out)
        clear a
        clear HB
        have a:=q
        have HB:=s
        clear q s
        refine cB (n:=16) (S:=fun w' =>w'.cell? ⟨c,0,none⟩=some (.int .i64 b)∧w'.cell? ⟨c,1,none⟩=some (.slice m d.length p)) (ds:= []) #[false,false,false,false,false,false,false,false,false,false,false,false,false,false,false,false] (by kernel_rfl) rfl rfl ⟨(ae a.out 0).trans rfl,(ae a.out 1).trans rfl⟩ (fun hHeld=> ?_);refine bB dn.tab3 dn.bits3 (fun HT_ HW_=> ?_)
        generalize wc.drew=a2 at a HB hHeld⊢
        refine fw (i:=0) (N:=some 17) (v:= ?_) (a' := ?_) #[true,false,false,false,false,false,false,false,false,false,false,false,false,false,false,false] rfl rfl (fe HT_.out (by kernel_rfl)) (fun _ _ _ h=>h) (Or.inl ⟨by rfl, ?_⟩) ?_ ?_
        rotate_left
        · intro w'
          go_simp
          with_reducible rfl
        rotate_left
        · simp only[Act.put,List.setIfInBounds_toArray,List.set_cons_zero,List.set_cons_succ,bq,bu]
          rfl
        refine fw (i:=1) (N:=some 18) (v:= ?_) (a' := ?_) #[true,true,false,false,false,false,false,false,false,false,false,false,false,false,false,false] rfl rfl (fe HT_.out (by kernel_rfl)) (fun _ _ _ h=>h) (Or.inl ⟨by rfl, ?_⟩) ?_ ?_
        rotate_left
        · intro w'
          go_simp
          with_reducible rfl
        rotate_left
        · simp only[Act.put,List.setIfInBounds_toArray,List.set_cons_zero,List.set_cons_succ,bq,bu]
          rfl
        refine take_ (i:=2) (N:=some 19) (v:= ?_) (a' := ?_) #[true,true,true,false,false,false,false,false,false,false,false,false,false,false,false,false] rfl rfl (jK HT_.out HW_.out (by kernel_rfl)) (fun _ _ _ h=>h) (Or.inl ⟨by rfl, ?_⟩) hHeld ?_ ?_
        rotate_left
        · rintro w' ⟨s0,s1⟩
          go_simp
          with_reducible rfl
        rotate_left
        · simp only[Act.put,List.setIfInBounds_toArray,List.set_cons_zero,List.set_cons_succ,bq,bu]
          rfl
        refine cO (i:=3) (N:=some 20) #[true,true,true,true,false,false,false,false,false,false,false,false,false,false,false,false] rfl rfl (bI HT_.out (by kernel_rfl)) (by decide) (fun K hK=> ?_)
        refine gs Tryz.func146 #[.slice A0 l0.length c0, .int .i64 b] rfl rfl ?_
        with_reducible refine(dK.calls _ _ l0 b true _ ?side1 G.out al.out).mono ?_
        (case side1=>repeat(first|exact(Kd.C_below E.out HB.out)|(with_reducible refine Kd.C_alloc ?_ _)|(with_reducible refine Kd.C_drewN ?_ _)|(with_reducible refine Kd.C_drew ?_)))
        rintro e w' ⟨rfl,⟨nd,rfl⟩⟩
        refine⟨_,rfl, ?_⟩
        refine hK.out _ _ ⟨(ae a.out 0).trans rfl,(ae a.out 1).trans rfl⟩ (fun hHeld=> ?_)
        clear hK K
        refine ow (a' := ?_) ?_ ?_
        rotate_left
        · show Act.put _ (some 20) _=_
          simp only[Act.put,List.setIfInBounds_toArray,List.set_cons_zero,List.set_cons_succ,bq,bu]
          rfl
        refine fw (i:=4) (N:=some 21) (v:= ?_) (a' := ?_) #[true,true,true,true,true,false,false,false,false,false,false,false,false,false,false,false] rfl rfl (fe HT_.out (by kernel_rfl)) (fun _ _ _ h=>h) (Or.inl ⟨by rfl, ?_⟩) ?_ ?_
        rotate_left
        · intro w'
          go_simp
          with_reducible rfl
        rotate_left
        · simp only[Act.put,List.setIfInBounds_toArray,List.set_cons_zero,List.set_cons_succ,bq,bu]
          rfl
        refine fw (i:=5) (N:=some 22) (v:= ?_) (a' := ?_) #[true,true,true,true,true,true,false,false,false,false,false,false,false,false,false,false] rfl rfl (fe HT_.out (by kernel_rfl)) (fun _ _ _ h=>h) (Or.inl ⟨by rfl, ?_⟩) ?_ ?_
        rotate_left
        · intro w'
          go_simp
          with_reducible rfl
        rotate_left
        · simp only[Act.put,List.setIfInBounds_toArray,List.set_cons_zero,List.set_cons_succ,bq,bu]
          rfl
        refine fw (i:=8) (N:=some 25) (v:= ?_) (a' := ?_) #[true,true,true,true,true,true,false,false,true,false,false,false,false,false,false,false] rfl rfl (fe HT_.out (by kernel_rfl)) (fun _ _ _ h=>h) (Or.inl ⟨by rfl, ?_⟩) ?_ ?_
        rotate_left
        · intro w'
          go_simp
          with_reducible rfl
        rotate_left
        · simp only[Act.put,List.setIfInBounds_toArray,List.set_cons_zero,List.set_cons_succ,bq,bu]
          rfl
        refine fw (i:=9) (N:=some 26) (v:= ?_) (a' := ?_) #[true,true,true,true,true,true,false,false,true,true,false,false,false,false,false,false] rfl rfl (fe HT_.out (by kernel_rfl)) (fun _ _ _ h=>h) (Or.inl ⟨by rfl, ?_⟩) ?_ ?_
        rotate_left
        · intro w'
          go_simp
          with_reducible rfl
        rotate_left
        · simp only[Act.put,List.setIfInBounds_toArray,List.set_cons_zero,List.set_cons_succ,bq,bu]
          rfl
        refine take_ (i:=6) (N:=some 23) (v:= ?_) (a' := ?_) #[true,true,true,true,true,true,true,false,true,true,false,false,false,false,false,false] rfl rfl (jK HT_.out HW_.out (by kernel_rfl)) (fun _ _ _ h=>h) (Or.inl ⟨by rfl, ?_⟩) hHeld ?_ ?_
        rotate_left
        · rintro w' ⟨s0,s1⟩
          go_simp
          with_reducible rfl
        rotate_left
        · simp only[Act.put,List.setIfInBounds_toArray,List.set_cons_zero,List.set_cons_succ,bq,bu]
          rfl
        refine fw (i:=7) (N:=some 24) (v:= ?_) (a' := ?_) #[true,true,true,true,true,true,true,true,true,true,false,false,false,false,false,false] rfl rfl (fe HT_.out (by kernel_rfl)) (fun _ _ _ h=>h) (Or.inl ⟨by rfl, ?_⟩) ?_ ?_
        rotate_left
        · intro w'
          go_simp
          with_reducible rfl
        rotate_left
        · simp only[Act.put,List.setIfInBounds_toArray,List.set_cons_zero,List.set_cons_succ,bq,bu]
          rfl
        refine take_ (i:=10) (N:=some 27) (v:= ?_) (a' := ?_) #[true,true,true,true,true,true,true,true,true,true,true,false,false,false,false,false] rfl rfl (jK HT_.out HW_.out (by kernel_rfl)) (fun _ _ _ h=>h) (Or.inl ⟨by rfl, ?_⟩) hHeld ?_ ?_
        rotate_left
        · rintro w' ⟨s0,s1⟩
          go_simp
          with_reducible rfl
        rotate_left
        · simp only[Act.put,List.setIfInBounds_toArray,List.set_cons_zero,List.set_cons_succ,bq,bu]
          rfl
        refine cO (i:=11) (N:=some 28) #[true,true,true,true,true,true,true,true,true,true,true,true,false,false,false,false] rfl rfl (bI HT_.out (by kernel_rfl)) (by decide) (fun K hK=> ?_)
        refine gs Tryz.func157 #[.slice A0 l0.length c0, .int .i64 b] rfl rfl ?_
        with_reducible refine(bN.calls D _ _ l0 b l _ ?side1 G.out aB.out).mono ?_
        (case side1=>repeat(first|exact(Kd.C_below E.out (by repeat(first|(with_reducible first|exact HB.out|apply aV|apply aI|apply ay|refine aZ ?_ j.out)|exact HB.out)))|(with_reducible refine Kd.C_alloc ?_ _)|(with_reducible refine Kd.C_drewN ?_ _)|(with_reducible refine Kd.C_drew ?_)))
        rintro e a3 ⟨aR,rfl,ho0,hb⟩
        refine⟨_,rfl, ?_⟩
        have q:=Aside0.mk (Kd.R_lower ho0 (aM (by repeat(first|(with_reducible first|exact HB.out|apply aV|apply aI|apply ay|refine aZ ?_ j.out)|exact HB.out))))
        have s:=Aside0.mk (eY (g:=c) (o:= .cells #[.int .i64 b, .slice m d.length p] 91 (0,0)) (by(with_reducible repeat(first|refine aC ?_ _|refine au ?_|refine aA ?_ _));exact a.out) hb)
        have z:=Aside0.mk (fC (by repeat(first|(with_reducible first|exact HB.out|apply aV|apply aI|apply ay|refine aZ ?_ j.out)|exact HB.out)) hb)
        clear a
        clear HB
        have ab:=q
        have a:=s
        have HB:=z
        clear q s z
        obtain⟨a0,a1,ac⟩:=Kd.R_slice ab.out
        (first|subst ac|(injection ac with am aE an;have aF:=am.symm;have aL:=an.symm;clear am aE an;subst aF;subst aL))
        refine hK.out _ _ ⟨(ae a.out 0).trans rfl,(ae a.out 1).trans rfl⟩ (fun hHeld=> ?_)
        clear hK K
        refine ow (a' := ?_) ?_ ?_
        rotate_left
        · show Act.put _ (some 28) _=_
          simp only[Act.put,List.setIfInBounds_toArray,List.set_cons_zero,List.set_cons_succ,bq,bu]
          rfl
        refine fw (i:=12) (N:=some 29) (v:= ?_) (a' := ?_) #[true,true,true,true,true,true,true,true,true,true,true,true,true,false,false,false] rfl rfl (fe HT_.out (by kernel_rfl)) (fun _ _ _ h=>h) (Or.inl ⟨by rfl, ?_⟩) ?_ ?_
        rotate_left
        · intro w'
          go_simp
          with_reducible rfl
        rotate_left
        · simp only[Act.put,List.setIfInBounds_toArray,List.set_cons_zero,List.set_cons_succ,bq,bu]
          rfl
        refine fw (i:=13) (N:=some 30) (v:= ?_) (a' := ?_) #[true,true,true,true,true,true,true,true,true,true,true,true,true,true,false,false] rfl rfl (fe HT_.out (by kernel_rfl)) (fun _ _ _ h=>h) (Or.inl ⟨by rfl, ?_⟩) ?_ ?_
        rotate_left
        · intro w'
          go_simp
          with_reducible rfl
        rotate_left
        · simp only[Act.put,List.setIfInBounds_toArray,List.set_cons_zero,List.set_cons_succ,bq,bu]
          rfl
        refine fw (i:=14) (N:=some 31) (v:= ?_) (a' := ?_) #[true,true,true,true,true,true,true,true,true,true,true,true,true,true,true,false] rfl rfl (fe HT_.out (by kernel_rfl)) (fun _ _ _ h=>h) (Or.inl ⟨by rfl, ?_⟩) ?_ ?_
        rotate_left
        · intro w'
          go_simp
          with_reducible rfl
        rotate_left
        · simp only[Act.put,List.setIfInBounds_toArray,List.set_cons_zero,List.set_cons_succ,bq,bu]
          rfl
        refine fw (i:=15) (N:=some 4) (v:= ?_) (a' := ?_) #[true,true,true,true,true,true,true,true,true,true,true,true,true,true,true,true] rfl rfl (fe HT_.out (by kernel_rfl)) (fun _ _ _ h=>h) (Or.inl ⟨by rfl, ?_⟩) ?_ ?_
        rotate_left
        · intro w'
          go_simp
          with_reducible rfl
        rotate_left
        · simp only[Act.put,List.setIfInBounds_toArray,List.set_cons_zero,List.set_cons_succ,bq,bu]
          rfl
        refine dD (bX HT_.out (by kernel_rfl)) ?_
        try go_wp2
        go_ret
        exact⟨by first|rfl|(simp[aW,aX]<;>rfl)|(simp[*,aW,aX]<;>rfl),by repeat(first|(with_reducible first|exact HB.out|apply aV|apply aI|apply ay|refine aZ ?_ j.out)|exact HB.out)⟩
      replace c11:=Bool.eq_false_iff.mpr c11
      subst c11
      have H1:(some false)=some r:=by rw[if_neg (show¬(false=true) by decide)]at H;exact H
      clear H
      have H:=H1
      clear H1
      obtain rfl:=Option.some.inj H
      simp only[Option.some.injEq,Prod.mk.injEq]at H
      obtain⟨rfl⟩:=H
      try go_wp2
      have q:=Aside0.mk (au a.out)
      have s:=Aside0.mk (ay HB.out)
      clear a
      clear HB
      have a:=q
      have HB:=s
      clear q s
      refine cB (n:=16) (S:=fun w' =>w'.cell? ⟨c,0,none⟩=some (.int .i64 b)∧w'.cell? ⟨c,1,none⟩=some (.slice m d.length p)) (ds:= []) #[false,false,false,false,false,false,false,false,false,false,false,false,false,false,false,false] (by kernel_rfl) rfl rfl ⟨(ae a.out 0).trans rfl,(ae a.out 1).trans rfl⟩ (fun hHeld=> ?_);refine bB dn.tab3 dn.bits3 (fun HT_ HW_=> ?_)
      generalize wc.drew=w16 at a HB hHeld⊢
      refine fw (i:=0) (N:=some 17) (v:= ?_) (a' := ?_) #[true,false,false,false,false,false,false,false,false,false,false,false,false,false,false,false] rfl rfl (fe HT_.out (by kernel_rfl)) (fun _ _ _ h=>h) (Or.inl ⟨by rfl, ?_⟩) ?_ ?_
      rotate_left
      · intro w'
        go_simp
        with_reducible rfl
      rotate_left
      · simp only[Act.put,List.setIfInBounds_toArray,List.set_cons_zero,List.set_cons_succ,bq,bu]
        rfl
      refine fw (i:=1) (N:=some 18) (v:= ?_) (a' := ?_) #[true,true,false,false,false,false,false,false,false,false,false,false,false,false,false,false] rfl rfl (fe HT_.out (by kernel_rfl)) (fun _ _ _ h=>h) (Or.inl ⟨by rfl, ?_⟩) ?_ ?_
      rotate_left
      · intro w'
        go_simp
        with_reducible rfl
      rotate_left
      · simp only[Act.put,List.setIfInBounds_toArray,List.set_cons_zero,List.set_cons_succ,bq,bu]
        rfl
      refine take_ (i:=2) (N:=some 19) (v:= ?_) (a' := ?_) #[true,true,true,false,false,false,false,false,false,false,false,false,false,false,false,false] rfl rfl (jK HT_.out HW_.out (by kernel_rfl)) (fun _ _ _ h=>h) (Or.inl ⟨by rfl, ?_⟩) hHeld ?_ ?_
      rotate_left
      · rintro w' ⟨s0,s1⟩
        go_simp
        with_reducible rfl
      rotate_left
      · simp only[Act.put,List.setIfInBounds_toArray,List.set_cons_zero,List.set_cons_succ,bq,bu]
        rfl
      refine cO (i:=3) (N:=some 20) #[true,true,true,true,false,false,false,false,false,false,false,false,false,false,false,false] rfl rfl (bI HT_.out (by kernel_rfl)) (by decide) (fun K hK=> ?_)
      refine gs Tryz.func146 #[.slice A0 l0.length c0, .int .i64 b] rfl rfl ?_
      with_reducible refine(dK.calls _ _ l0 b false _ ?side1 G.out al.out).mono ?_
      (case side1=>repeat(first|exact(Kd.C_below E.out HB.out)|(with_reducible refine Kd.C_alloc ?_ _)|(with_reducible refine Kd.C_drewN ?_ _)|(with_reducible refine Kd.C_drew ?_)))
      rintro e w' ⟨rfl,⟨nd,rfl⟩⟩
      refine⟨_,rfl, ?_⟩
      refine hK.out _ _ ⟨(ae a.out 0).trans rfl,(ae a.out 1).trans rfl⟩ (fun hHeld=> ?_)
      clear hK K
      refine ow (a' := ?_) ?_ ?_
      rotate_left
      · show Act.put _ (some 20) _=_
        simp only[Act.put,List.setIfInBounds_toArray,List.set_cons_zero,List.set_cons_succ,bq,bu]
        rfl
      refine fw (i:=4) (N:=some 21) (v:= ?_) (a' := ?_) #[true,true,true,true,true,false,false,false,false,false,false,false,false,false,false,false] rfl rfl (fe HT_.out (by kernel_rfl)) (fun _ _ _ h=>h) (Or.inl ⟨by rfl, ?_⟩) ?_ ?_
      rotate_left
      · intro w'
        go_simp
        with_reducible rfl
      rotate_left
      · simp only[Act.put,List.setIfInBounds_toArray,List.set_cons_zero,List.set_cons_succ,bq,bu]
        rfl
      refine fw (i:=5) (N:=some 22) (v:=undef) (a' := ?_) #[true,true,true,true,true,true,false,false,false,false,false,false,false,false,false,false] rfl rfl (fe HT_.out (by kernel_rfl)) (fun _ _ _ h=>h) (Or.inr ⟨by rfl,rfl⟩) ?_ ?_
      rotate_left
      · simp only[Act.put,List.setIfInBounds_toArray,List.set_cons_zero,List.set_cons_succ,bq,bu]
        rfl
      refine fw (i:=6) (N:=some 23) (v:=undef) (a' := ?_) #[true,true,true,true,true,true,true,false,false,false,false,false,false,false,false,false] rfl rfl (fe HT_.out (by kernel_rfl)) (fun _ _ _ h=>h) (Or.inr ⟨by rfl,rfl⟩) ?_ ?_
      rotate_left
      · simp only[Act.put,List.setIfInBounds_toArray,List.set_cons_zero,List.set_cons_succ,bq,bu]
        rfl
      refine fw (i:=7) (N:=some 24) (v:=undef) (a' := ?_) #[true,true,true,true,true,true,true,true,false,false,false,false,false,false,false,false] rfl rfl (fe HT_.out (by kernel_rfl)) (fun _ _ _ h=>h) (Or.inr ⟨by rfl,rfl⟩) ?_ ?_
      rotate_left
      · simp only[Act.put,List.setIfInBounds_toArray,List.set_cons_zero,List.set_cons_succ,bq,bu]
        rfl
      refine fw (i:=8) (N:=some 25) (v:=undef) (a' := ?_) #[true,true,true,true,true,true,true,true,true,false,false,false,false,false,false,false] rfl rfl (fe HT_.out (by kernel_rfl)) (fun _ _ _ h=>h) (Or.inr ⟨by rfl,rfl⟩) ?_ ?_
      rotate_left
      · simp only[Act.put,List.setIfInBounds_toArray,List.set_cons_zero,List.set_cons_succ,bq,bu]
        rfl
      refine fw (i:=9) (N:=some 26) (v:=undef) (a' := ?_) #[true,true,true,true,true,true,true,true,true,true,false,false,false,false,false,false] rfl rfl (fe HT_.out (by kernel_rfl)) (fun _ _ _ h=>h) (Or.inr ⟨by rfl,rfl⟩) ?_ ?_
      rotate_left
      · simp only[Act.put,List.setIfInBounds_toArray,List.set_cons_zero,List.set_cons_succ,bq,bu]
        rfl
      refine fw (i:=10) (N:=some 27) (v:=undef) (a' := ?_) #[true,true,true,true,true,true,true,true,true,true,true,false,false,false,false,false] rfl rfl (fe HT_.out (by kernel_rfl)) (fun _ _ _ h=>h) (Or.inr ⟨by rfl,rfl⟩) ?_ ?_
      rotate_left
      · simp only[Act.put,List.setIfInBounds_toArray,List.set_cons_zero,List.set_cons_succ,bq,bu]
        rfl
      refine fw (i:=11) (N:=some 28) (v:=undef) (a' := ?_) #[true,true,true,true,true,true,true,true,true,true,true,true,false,false,false,false] rfl rfl (fe HT_.out (by kernel_rfl)) (fun _ _ _ h=>h) (Or.inr ⟨by rfl,rfl⟩) ?_ ?_
      rotate_left
      · simp only[Act.put,List.setIfInBounds_toArray,List.set_cons_zero,List.set_cons_succ,bq,bu]
        rfl
      refine fw (i:=12) (N:=some 29) (v:=undef) (a' := ?_) #[true,true,true,true,true,true,true,true,true,true,true,true,true,false,false,false] rfl rfl (fe HT_.out (by kernel_rfl)) (fun _ _ _ h=>h) (Or.inr ⟨by rfl,rfl⟩) ?_ ?_
      rotate_left
      · simp only[Act.put,List.setIfInBounds_toArray,List.set_cons_zero,List.set_cons_succ,bq,bu]
        rfl
      refine fw (i:=13) (N:=some 30) (v:=undef) (a' := ?_) #[true,true,true,true,true,true,true,true,true,true,true,true,true,true,false,false] rfl rfl (fe HT_.out (by kernel_rfl)) (fun _ _ _ h=>h) (Or.inr ⟨by rfl,rfl⟩) ?_ ?_
      rotate_left
      · simp only[Act.put,List.setIfInBounds_toArray,List.set_cons_zero,List.set_cons_succ,bq,bu]
        rfl
      refine fw (i:=14) (N:=some 31) (v:= ?_) (a' := ?_) #[true,true,true,true,true,true,true,true,true,true,true,true,true,true,true,false] rfl rfl (fe HT_.out (by kernel_rfl)) (fun _ _ _ h=>h) (Or.inl ⟨by rfl, ?_⟩) ?_ ?_
      rotate_left
      · intro w'
        go_simp
        with_reducible rfl
      rotate_left
      · simp only[Act.put,List.setIfInBounds_toArray,List.set_cons_zero,List.set_cons_succ,bq,bu]
        rfl
      refine fw (i:=15) (N:=some 4) (v:= ?_) (a' := ?_) #[true,true,true,true,true,true,true,true,true,true,true,true,true,true,true,true] rfl rfl (fe HT_.out (by kernel_rfl)) (fun _ _ _ h=>h) (Or.inl ⟨by rfl, ?_⟩) ?_ ?_
      rotate_left
      · intro w'
        go_simp
        with_reducible rfl
      rotate_left
      · simp only[Act.put,List.setIfInBounds_toArray,List.set_cons_zero,List.set_cons_succ,bq,bu]
        rfl
      refine dD (bX HT_.out (by kernel_rfl)) ?_
      try go_wp2
      go_ret
      exact⟨by first|rfl|(simp[aW,aX]<;>rfl)|(simp[*,aW,aX]<;>rfl),by repeat(first|(with_reducible first|exact HB.out|apply aV|apply aI|apply ay|refine aZ ?_ j.out)|exact HB.out)⟩
set_option maxHeartbeats 8000000 in
set_option maxRecDepth 100000 in
theorem fu.calls (g:Option Addr) (i:Nat) (c:List (S126)) (j:Option Addr) (k:Nat) (b:List (S104)) (a1:Int) (r:Bool) (w:World) (q:Kd.C eB w g c.length c) (s:c.length≤i) (u:Kd.C eD w j b.length b) (v:b.length≤k) (h:fu.f c b a1=some r):
    Calls Tryz.prog 67 #[.agg #[.slice g c.length i, .slice j b.length k], .int .i64 a1] w fun e w' =>e= .returned (.bool r)∧Below w.heap.size w w' :=by
  have K:=Tryz.underlying38
  have E:=Aside0.mk q
  have G:=Aside0.mk s
  clear q s
  have I:=Aside0.mk u
  have J:=Aside0.mk v
  clear u v
  have HB:=Aside0.mk (Below.refl w.heap.size w)
  have H:(if a1≥0 then(some (decide (a1<(b.length:Int))))else(some false))=some r:=h
  clear h
  by_cases c3:a1≥0
  · rw[if_pos c3]at H
    have y:decide (0≤a1)=true:=decide_eq_true c3
    clear c3
    obtain rfl:=Option.some.inj H
    simp only[Option.some.injEq,Prod.mk.injEq]at H
    obtain⟨rfl⟩:=H
    go_enter Tryz.func67,Tryz.ntmps67
    go_wp2_with (first|((with_reducible refine ic (N:=2) rfl ?_);(try(refine aU (by rfl) ?_;dsimp only));refine fT ?hg (N:=2) ?hd (cs:= #[.slice g c.length i, .slice j b.length k]) (t:=38) ?hr ?_;(case hd=>rfl);(case hg=>rfl);(case hr=>first|(go_simp;done)|(go_simp;rfl));intro a hg w4 hbox hb;have m:=Aside0.mk (fC (by repeat(first|(with_reducible first|exact HB.out|apply aV|apply aI|apply ay)|exact HB.out)) hb);have n:=Aside0.mk (hbox);have o:=Aside0.mk ((by rw[hg];exact(aM (by repeat(first|(with_reducible first|exact HB.out|apply aV|apply aI|apply ay)|exact HB.out))):w.heap.size≤a));have p:=Aside0.mk ((by rw[hg];exact(aM (by repeat(first|(with_reducible first|exact HB.out|apply aV|apply aI|apply ay)|exact HB.out))):w.heap.size≤a));clear HB;have HB:=m;have d:=n;have x:=o;have l:=p;clear m n o p;clear hb hbox hg;have z:w4.cell? ⟨a,0,none⟩=some (.slice g c.length i):=(ae d.out 0).trans rfl;have A:w4.cell? ⟨a,1,none⟩=some (.slice j b.length k):=(ae d.out 1).trans rfl;have B:=aH d.out 0;have D:=aH d.out 1))
    go_ret
    exact⟨by first|rfl|(simp[aW,aX]<;>rfl)|(simp[*,aW,aX]<;>rfl),by repeat(first|(with_reducible first|exact HB.out|apply aV|apply aI|apply ay|refine aZ ?_ l.out)|exact HB.out)⟩
  rw[if_neg c3]at H
  have y:decide (0≤a1)=false:=decide_eq_false c3
  clear c3
  obtain rfl:=Option.some.inj H
  simp only[Option.some.injEq,Prod.mk.injEq]at H
  obtain⟨rfl⟩:=H
  go_enter Tryz.func67,Tryz.ntmps67
  go_wp2_with (first|((with_reducible refine ic (N:=2) rfl ?_);(try(refine aU (by rfl) ?_;dsimp only));refine fT ?hg (N:=2) ?hd (cs:= #[.slice g c.length i, .slice j b.length k]) (t:=38) ?hr ?_;(case hd=>rfl);(case hg=>rfl);(case hr=>first|(go_simp;done)|(go_simp;rfl));intro a hg w6 hbox hb;have m:=Aside0.mk (fC (by repeat(first|(with_reducible first|exact HB.out|apply aV|apply aI|apply ay)|exact HB.out)) hb);have n:=Aside0.mk (hbox);have o:=Aside0.mk ((by rw[hg];exact(aM (by repeat(first|(with_reducible first|exact HB.out|apply aV|apply aI|apply ay)|exact HB.out))):w.heap.size≤a));have p:=Aside0.mk ((by rw[hg];exact(aM (by repeat(first|(with_reducible first|exact HB.out|apply aV|apply aI|apply ay)|exact HB.out))):w.heap.size≤a));clear HB;have HB:=m;have d:=n;have x:=o;have l:=p;clear m n o p;clear hb hbox hg))
  go_ret
  exact⟨by first|rfl|(simp[aW,aX]<;>rfl)|(simp[*,aW,aX]<;>rfl),by repeat(first|(with_reducible first|exact HB.out|apply aV|apply aI|apply ay|refine aZ ?_ l.out)|exact HB.out)⟩
end Go.Proofs.YteinbmkgenhocaaGreat.P
end
section
namespace Go.Proofs.YteinbmkgenhocaaGreat.P
open Go Go.RowKit Go.Proofs.YteinbmkgenhocaaGreatW.PrintWords Go.Proofs.YteinbmkgenhocaaGreatW.PrintLast Go.Proofs.YteinbmkgenhocaaGreatW.PrintMore
set_option linter.unusedVariables false
set_option linter.unusedSimpArgs false
attribute [local go_sem] ah ai av ax af ag aj ak
structure MD where
  A0:Option Addr
  c0:Nat
  cs:List S126
  A1:Option Addr
  c1:Nat
  ms:List S104
  B0:Option Addr
  d0:Nat
  objs:List S91
  B1:Option Addr
  d1:Nat
  frs:List S70
  B2:Option Addr
  d2:Nat
  said:List Int
  st:Int
  en:Int
  rf:Bool
  n:Int
  gu:Nat
  gm:Nat
  gv:Nat
  gf:Nat
structure MEnv (d:MD) (w:World):Prop where
  hu:w.heap[d.gu]? =some (.cells #[.slice d.A0 d.cs.length d.c0, .slice d.A1 d.ms.length d.c1] 38 (0,0))
  hm:w.heap[d.gm]? =some (.cells #[.slice d.B0 d.objs.length d.d0, .slice d.B1 d.frs.length d.d1, .slice d.B2 d.said.length d.d2, .int .i64 d.st, .int .i64 d.en, .bool d.rf, .int .i64 d.n] 33 (0,0))
  hv:w.heap[d.gv]? =some (.cells #[.func (.func 99) #[] #[.pointer (some ⟨d.gm,0,none⟩)]] 151 (0,0))
  hf:w.heap[d.gf]? =some (.cells #[.func (.func 102) #[] #[.pointer (some ⟨d.gu,0,none⟩), .pointer (some ⟨d.gv,0,none⟩)]] 153 (0,0))
  r0:Kd.C eB w d.A0 d.cs.length d.cs
  l0:d.cs.length≤d.c0
  r1:Kd.C eD w d.A1 d.ms.length d.ms
  l1:d.ms.length≤d.c1
  r2:Kd.C k91 w d.B0 d.objs.length d.objs
  l2:d.objs.length≤d.d0
  r3:Kd.C k70 w d.B1 d.frs.length d.frs
  l3:d.frs.length≤d.d1
  r4:Kd.C (Kd.int .i64) w d.B2 d.said.length d.said
  l4:d.said.length≤d.d2
theorem MEnv.below {d:MD} {w w1:World} (h:MEnv d w) (hb:Below w.heap.size w w1):MEnv d w1:=
  ⟨eY h.hu hb,eY h.hm hb,eY h.hv hb,eY h.hf hb,Kd.C_below h.r0 hb,h.l0,Kd.C_below h.r1 hb,h.l1,Kd.C_below h.r2 hb,h.l2,Kd.C_below h.r3 hb,h.l3,Kd.C_below h.r4 hb,h.l4⟩
def Ask (f:Nat) (args:Array Value) (w:World) (b:Bool):Prop:=Calls Tryz.prog f args w fun e w' =>e= .returned (.bool b)∧Below w.heap.size w w'
abbrev MD.pu (d:MD):Value:= .pointer (some ⟨d.gu,0,none⟩)
abbrev MD.pm (d:MD):Value:= .pointer (some ⟨d.gm,0,none⟩)
abbrev MD.pv (d:MD):Value:= .pointer (some ⟨d.gv,0,none⟩)
abbrev MD.pf (d:MD):Value:= .pointer (some ⟨d.gf,0,none⟩)
set_option maxHeartbeats 8000000 in
set_option maxRecDepth 100000 in
theorem lU {d:MD} {w:World} (hE:MEnv d w) (v:S31) (b:Bool) (h:jq (d.objs.length:Int) v=some b):Ask 99 #[.agg #[.bool v.f0, .int .i64 v.f1],d.pm] w b:=by
  have E:=Aside0.mk hE
  have HB:=Aside0.mk (Below.refl w.heap.size w)
  unfold Ask jq at *
  obtain⟨v0,v1⟩:=v
  have hu:=Tryz.underlying31
  have hu2:=Tryz.underlying33
  clear hE
  cases v0 with
  | true=>
    rw[if_pos rfl]at h
    have A1:=Aside0.mk h
    clear h
    go_enter Tryz.func99,Tryz.ntmps99
    go_wp2_with (first|((with_reducible refine gd 2 rfl ?_);refine bx 2 #[.bool true, .int .i64 v1] 31 ?_;intro gb hg w3 hbox hb;have BK:=Aside0.mk hbox;have hm_:=cz (E.out.below hb).hm 0 rfl;replace HB:=hs HB hb;clear hb hbox hg;have:=cf2 BK)|((with_reducible refine gc 100 rfl ?_);refine gl (some 10) Tryz.func100 #[.agg #[.bool true, .int .i64 v1], .int .i64 (d.objs.length:Int)] rfl ?_;(with_reducible refine(jd.calls true v1 _ b _ A1.out).mono ?_);rintro e w4 ⟨rfl,hb⟩;refine⟨_,rfl, ?_⟩;replace HB:=hs HB hb;clear hb))
    go_ret
    exact fin
  | false=>
    replace h:dU.f v1=some b:=h
    have A1:=Aside0.mk h
    clear h
    go_enter Tryz.func99,Tryz.ntmps99
    go_wp2_with (first|((with_reducible refine gd 2 rfl ?_);refine bx 2 #[.bool false, .int .i64 v1] 31 ?_;intro gb hg w3 hbox hb;have BK:=Aside0.mk hbox;replace HB:=hs HB hb;clear hb hbox hg;have:=cf2 BK)|((with_reducible refine gc 101 rfl ?_);refine gl (some 13) Tryz.func101 #[.int .i64 v1] rfl ?_;(with_reducible refine(dU.calls v1 b _ A1.out).mono ?_);rintro e w4 ⟨rfl,⟨nd,rfl⟩⟩;refine⟨_,rfl, ?_⟩))
    go_ret
    exact fin
set_option maxHeartbeats 8000000 in
set_option maxRecDepth 100000 in
theorem jV {d:MD} {w:World} (hE:MEnv d w) (A:Option Addr) (c:Nat) (xs:List S31) (hr:Kd.C k31 w A xs.length xs) (hc:xs.length≤c) (b:Bool) (h:everyG (jq (d.objs.length:Int)) xs=some b):Ask 104 #[.slice A xs.length c, .func (.func 99) #[] #[d.pm]] w b:=by
  have E:=Aside0.mk hE
  clear hE
  have HR:=Aside0.mk hr
  have HC:=Aside0.mk hc
  have HB:=Aside0.mk (Below.refl w.heap.size w)
  have HL:=Aside0.mk (gD h).1
  have H' :=Aside0.mk (gD h).2
  clear hr hc h
  unfold Ask
  go_enter Tryz.func104,Tryz.ntmps104
  go_wp2
  go_loopg [9] xs.length (fun kq v9 w' => ∃(x9:Int),v9= .int .i64 x9∧Aside0 (0≤x9∧x9+(kq:Int)=(xs.length:Int))∧Aside0 (everyB (jq (d.objs.length:Int)) (xs.drop x9.toNat)=some b)∧Aside0 (Below w.heap.size w w'))
  case atStart=>exact⟨0,rfl,⟨by omega,by omega⟩,H',⟨bl⟩⟩
  case round=>
    clear H'
    obtain⟨x9,rfl,HI,HA,HBn⟩:=hrel
    clear HB
    have HB:=HBn
    clear HBn
    by_cases c3:x9<(xs.length:Int)
    · have c4:0≤x9:=HI.out.1
      have HH:=HA.out
      rw[jr xs z31 (show x9.toNat<xs.length by omega)]at HH
      have HH:=gH HH
      have C3:=Aside0.mk c3
      have C4:=Aside0.mk c4
      obtain⟨ad,e,hx0,hx1⟩:=ku HR.out x9 C4.out C3.out
      cases e
      replace hx0:=hc HB hx0;replace hx1:=hc HB hx1
      have a:decide (x9<(xs.length:Int))=true:=decide_eq_true c3
      have g:decide (0≤x9)=true:=decide_eq_true c4
      cases gk with
      |zero=>exfalso;have:=HI.out.2;omega
      |succ k1=>
      replace c3:=eq_true c3
      replace c4:=eq_true c4
      rcases HH with⟨a1,a2⟩|⟨a1,rfl⟩
      · have A1:=Aside0.mk (show(jq (d.objs.length:Int)) (di xs x9)=some true from a1)
        have A2:=Aside0.mk a2
        clear a1 a2
        go_wp2_with (first|((with_reducible refine gd 6 rfl ?_);refine bx 6 #[.bool false, .int .i64 0] 31 ?_;intro gb hg w5 hbox hb;have BK:=Aside0.mk hbox;have GE:=hz HB hg;replace hx0:=hc (w:=wr) ⟨hb⟩ hx0;replace hx1:=hc (w:=wr) ⟨hb⟩ hx1;replace HB:=hs HB hb;clear hb hbox hg;have hcf:=cf2 BK)|(refine(lU (E.out.below bl) (di xs x9) true A1.out).mono ?_;rintro e w9 ⟨rfl,hb⟩;replace HB:=hs HB hb;clear hb))
        go_roundg k1
        case measure=>omega
        case rel=>
          have hw:wrap64 (x9+1)=x9+1:=by have:=C3.out;have:=C4.out;have:=HL.out;unfold wrap64;omega
          refine⟨x9+1,(by rw[hw]),⟨by have:=C4.out;omega,by have:=HI.out.2;omega⟩,⟨by rw[show(x9+1).toNat=x9.toNat+1 by have:=C4.out;omega];exact A2.out⟩,⟨bl⟩⟩
      · have A1:=Aside0.mk (show(jq (d.objs.length:Int)) (di xs x9)=some false from a1)
        clear a1
        go_wp2_with (first|((with_reducible refine gd 6 rfl ?_);refine bx 6 #[.bool false, .int .i64 0] 31 ?_;intro gb hg w5 hbox hb;have BK:=Aside0.mk hbox;have GE:=hz HB hg;replace hx0:=hc (w:=wr) ⟨hb⟩ hx0;replace hx1:=hc (w:=wr) ⟨hb⟩ hx1;replace HB:=hs HB hb;clear hb hbox hg;have hcf:=cf2 BK)|(refine(lU (E.out.below bl) (di xs x9) false A1.out).mono ?_;rintro e w9 ⟨rfl,hb⟩;replace HB:=hs HB hb;clear hb))
        go_ret
        exact fin
    · have a:decide (x9<(xs.length:Int))=false:=decide_eq_false c3
      have HH:=HA.out
      rw[List.drop_of_length_le (by have:=HI.out;omega)]at HH
      obtain rfl:=Option.some.inj HH
      go_wp2
      go_ret
      exact fin
set_option maxHeartbeats 8000000 in
set_option maxRecDepth 100000 in
theorem qK {w:World} (triv:True) (A:Option Addr) (c:Nat) (xs:List Int) (hr:Kd.C (Kd.int .i64) w A xs.length xs) (hc:xs.length≤c) (b:Bool) (h:everyG dU.f xs=some b):Ask 110 #[.slice A xs.length c, .func (.func 101) #[] #[]] w b:=by
  have HR:=Aside0.mk hr
  have HC:=Aside0.mk hc
  have HB:=Aside0.mk (Below.refl w.heap.size w)
  have HL:=Aside0.mk (gD h).1
  have H' :=Aside0.mk (gD h).2
  clear hr hc h
  unfold Ask
  go_enter Tryz.func110,Tryz.ntmps110
  go_wp2
  go_loopg [9] xs.length (fun kq v9 w' => ∃(x9:Int),v9= .int .i64 x9∧Aside0 (0≤x9∧x9+(kq:Int)=(xs.length:Int))∧Aside0 (everyB dU.f (xs.drop x9.toNat)=some b)∧Aside0 (Below w.heap.size w w'))
  case atStart=>exact⟨0,rfl,⟨by omega,by omega⟩,H',⟨bl⟩⟩
  case round=>
    clear H'
    obtain⟨x9,rfl,HI,HA,HBn⟩:=hrel
    clear HB
    have HB:=HBn
    clear HBn
    by_cases c3:x9<(xs.length:Int)
    · have c4:0≤x9:=HI.out.1
      have HH:=HA.out
      rw[jr xs 0 (show x9.toNat<xs.length by omega)]at HH
      have HH:=gH HH
      have C3:=Aside0.mk c3
      have C4:=Aside0.mk c4
      obtain⟨ad,e,hx0⟩:=Kd.at_int HR.out x9 C4.out C3.out
      cases e
      replace hx0:=hc HB hx0
      have a:decide (x9<(xs.length:Int))=true:=decide_eq_true c3
      have d:decide (0≤x9)=true:=decide_eq_true c4
      cases gk with
      |zero=>exfalso;have:=HI.out.2;omega
      |succ k1=>
      replace c3:=eq_true c3
      replace c4:=eq_true c4
      rcases HH with⟨a1,a2⟩|⟨a1,rfl⟩
      · have A1:=Aside0.mk (show dU.f (rd xs x9)=some true from a1)
        have A2:=Aside0.mk a2
        clear a1 a2
        go_wp2_with (first|(refine(dU.calls (rd xs x9) true _ A1.out).mono ?_;rintro e w9 ⟨rfl,⟨nd,rfl⟩⟩))
        go_roundg k1
        case measure=>omega
        case rel=>
          have hw:wrap64 (x9+1)=x9+1:=by have:=C3.out;have:=C4.out;have:=HL.out;unfold wrap64;omega
          refine⟨x9+1,(by rw[hw]),⟨by have:=C4.out;omega,by have:=HI.out.2;omega⟩,⟨by rw[show(x9+1).toNat=x9.toNat+1 by have:=C4.out;omega];exact A2.out⟩,⟨bl⟩⟩
      · have A1:=Aside0.mk (show dU.f (rd xs x9)=some false from a1)
        clear a1
        go_wp2_with (first|(refine(dU.calls (rd xs x9) false _ A1.out).mono ?_;rintro e w9 ⟨rfl,⟨nd,rfl⟩⟩))
        go_ret
        exact fin
    · have a:decide (x9<(xs.length:Int))=false:=decide_eq_false c3
      have HH:=HA.out
      rw[List.drop_of_length_le (by have:=HI.out;omega)]at HH
      obtain rfl:=Option.some.inj HH
      go_wp2
      go_ret
      exact fin
set_option maxHeartbeats 8000000 in
set_option maxRecDepth 100000 in
theorem nQ (w:World) (f0:Int) (A:Option Addr) (n c:Nat) (b:Bool) (h:(f0==1)=b):Ask 113 #[.agg #[.int .i64 f0, .slice A n c]] w b:=by
  have HB:=Aside0.mk (Below.refl w.heap.size w)
  unfold Ask
  have hu:=Tryz.underlying91
  subst h
  go_enter Tryz.func113,Tryz.ntmps113
  go_wp2_with (first|((with_reducible refine gd 1 rfl ?_);refine bx 1 #[.int .i64 f0, .slice A n c] 91 ?_;intro gb hg w3 hbox hb;have BK:=Aside0.mk hbox;replace HB:=hs HB hb;clear hb hbox hg;have:=cf2 BK))
  go_ret
  exact fin
set_option maxHeartbeats 8000000 in
set_option maxRecDepth 100000 in
theorem pX {w:World} (triv:True) (A:Option Addr) (c:Nat) (xs:List S91) (hr:Kd.C k91 w A xs.length xs) (hc:xs.length≤c) (b:Bool) (h:everyG (fun o=>some (o.f0==1)) xs=some b):Ask 112 #[.slice A xs.length c, .func (.func 113) #[] #[]] w b:=by
  have HR:=Aside0.mk hr
  have HC:=Aside0.mk hc
  have HB:=Aside0.mk (Below.refl w.heap.size w)
  have HL:=Aside0.mk (gD h).1
  have H' :=Aside0.mk (gD h).2
  clear hr hc h
  unfold Ask
  go_enter Tryz.func112,Tryz.ntmps112
  go_wp2
  go_loopg [9] xs.length (fun kq v9 w' => ∃(x9:Int),v9= .int .i64 x9∧Aside0 (0≤x9∧x9+(kq:Int)=(xs.length:Int))∧Aside0 (everyB (fun o=>some (o.f0==1)) (xs.drop x9.toNat)=some b)∧Aside0 (Below w.heap.size w w'))
  case atStart=>exact⟨0,rfl,⟨by omega,by omega⟩,H',⟨bl⟩⟩
  case round=>
    clear H'
    obtain⟨x9,rfl,HI,HA,HBn⟩:=hrel
    clear HB
    have HB:=HBn
    clear HBn
    by_cases c3:x9<(xs.length:Int)
    · have c4:0≤x9:=HI.out.1
      have HH:=HA.out
      rw[jr xs z91 (show x9.toNat<xs.length by omega)]at HH
      have HH:=gH HH
      have C3:=Aside0.mk c3
      have C4:=Aside0.mk c4
      obtain⟨ad,B1,e1,e,hx0,hx1,hl1,hk1⟩:=iX HR.out x9 C4.out C3.out;have g:=Aside0.mk hl1;have i:=Aside0.mk hk1;clear hl1 hk1
      cases e
      replace hx0:=hc HB hx0;replace hx1:=hc HB hx1
      have a:decide (x9<(xs.length:Int))=true:=decide_eq_true c3
      have d:decide (0≤x9)=true:=decide_eq_true c4
      cases gk with
      |zero=>exfalso;have:=HI.out.2;omega
      |succ k1=>
      replace c3:=eq_true c3
      replace c4:=eq_true c4
      rcases HH with⟨a1,a2⟩|⟨a1,rfl⟩
      · have A1:=Aside0.mk (show(fun o=>some (o.f0==1)) (bz xs x9)=some true from a1)
        have A2:=Aside0.mk a2
        clear a1 a2
        go_wp2_with (first|((with_reducible refine gd 6 rfl ?_);refine bx 6 #[.int .i64 0, .slice none 0 0] 91 ?_;intro gb hg w5 hbox hb;have BK:=Aside0.mk hbox;have GE:=hz HB hg;replace hx0:=hc (w:=wr) ⟨hb⟩ hx0;replace hx1:=hc (w:=wr) ⟨hb⟩ hx1;replace HB:=hs HB hb;clear hb hbox hg;have hcf:=cf2 BK)|(refine(nQ _ (bz xs x9).f0 _ _ _ true (Option.some.inj A1.out)).mono ?_;rintro e w9 ⟨rfl,hb⟩;replace HB:=hs HB hb;clear hb))
        go_roundg k1
        case measure=>omega
        case rel=>
          have hw:wrap64 (x9+1)=x9+1:=by have:=C3.out;have:=C4.out;have:=HL.out;unfold wrap64;omega
          refine⟨x9+1,(by rw[hw]),⟨by have:=C4.out;omega,by have:=HI.out.2;omega⟩,⟨by rw[show(x9+1).toNat=x9.toNat+1 by have:=C4.out;omega];exact A2.out⟩,⟨bl⟩⟩
      · have A1:=Aside0.mk (show(fun o=>some (o.f0==1)) (bz xs x9)=some false from a1)
        clear a1
        go_wp2_with (first|((with_reducible refine gd 6 rfl ?_);refine bx 6 #[.int .i64 0, .slice none 0 0] 91 ?_;intro gb hg w5 hbox hb;have BK:=Aside0.mk hbox;have GE:=hz HB hg;replace hx0:=hc (w:=wr) ⟨hb⟩ hx0;replace hx1:=hc (w:=wr) ⟨hb⟩ hx1;replace HB:=hs HB hb;clear hb hbox hg;have hcf:=cf2 BK)|(refine(nQ _ (bz xs x9).f0 _ _ _ false (Option.some.inj A1.out)).mono ?_;rintro e w9 ⟨rfl,hb⟩;replace HB:=hs HB hb;clear hb))
        go_ret
        exact fin
    · have a:decide (x9<(xs.length:Int))=false:=decide_eq_false c3
      have HH:=HA.out
      rw[List.drop_of_length_le (by have:=HI.out;omega)]at HH
      obtain rfl:=Option.some.inj HH
      go_wp2
      go_ret
      exact fin
set_option maxHeartbeats 8000000 in
set_option maxRecDepth 100000 in
theorem qm {d:MD} {w:World} (hE:MEnv d w) (k:Nat) (o:S91) (A:Option Addr) (c:Nat) (hr:Kd.C k31 w A o.f1.length o.f1) (hc:o.f1.length≤c) (b:Bool) (h:jX k d.cs (d.objs.length:Int) o=some b):Ask 115 #[.agg #[.int .i64 o.f0, .slice A o.f1.length c],d.pu,d.pv] w b:=by
  have E:=Aside0.mk hE
  have HR:=Aside0.mk hr
  have HC:=Aside0.mk hc
  have HB:=Aside0.mk (Below.refl w.heap.size w)
  unfold Ask jX at *
  have hu:=Tryz.underlying91
  have hu2:=Tryz.underlying38
  clear hE hr hc
  rcases gH h with⟨a1,a2⟩|⟨a1,rfl⟩
  · have A1:=Aside0.mk a1
    have A2:=Aside0.mk a2
    clear a1 a2 h
    go_enter Tryz.func115,Tryz.ntmps115
    go_wp2_with (first|((with_reducible refine gd 3 rfl ?_);refine bx 3 #[.int .i64 o.f0, .slice A o.f1.length c] 91 ?_;intro gb hg w3 hbox hb;have BK:=Aside0.mk hbox;have hm_:=cz (E.out.below hb).hu 0 rfl;have a:=cz (E.out.below hb).hv 0 rfl;replace HB:=hs HB hb;clear hb hbox hg;have:=cf2 BK)|((with_reducible refine gc 116 rfl ?_);refine gl (some 8) Tryz.func116 #[.slice d.A0 d.cs.length d.c0, .agg #[.int .i64 o.f0, .slice A o.f1.length c]] rfl ?_;(with_reducible refine(dn.calls k _ _ d.cs o.f0 _ _ o.f1 true _ (cb E.out.r0) E.out.l0 (cb HR.out) HC.out A1.out).mono ?_);rintro e w4 ⟨rfl,hb⟩;refine⟨_,rfl, ?_⟩;replace BK:=kb BK hb;replace HB:=hs HB hb;replace hm_:=cz (E.out.below HB.out).hu 0 rfl;replace a:=cz (E.out.below HB.out).hv 0 rfl;clear hb;have:=cf2 BK)|(refine(jV (E.out.below bl) A c o.f1 (cb HR.out) HC.out b A2.out).mono ?_;rintro e w9 ⟨rfl,hb⟩;refine⟨_,rfl, ?_⟩;replace HB:=hs HB hb;clear hb)|(refine(jV (E.out.below bl) A c o.f1 (cb HR.out) HC.out b A2.out).mono ?_;rintro e w9 ⟨rfl,hb⟩;replace HB:=hs HB hb;clear hb))
    go_ret
    exact fin
  · have A1:=Aside0.mk a1
    clear a1 h
    go_enter Tryz.func115,Tryz.ntmps115
    go_wp2_with (first|((with_reducible refine gd 3 rfl ?_);refine bx 3 #[.int .i64 o.f0, .slice A o.f1.length c] 91 ?_;intro gb hg w3 hbox hb;have BK:=Aside0.mk hbox;have hm_:=cz (E.out.below hb).hu 0 rfl;replace HB:=hs HB hb;clear hb hbox hg;have:=cf2 BK)|((with_reducible refine gc 116 rfl ?_);refine gl (some 8) Tryz.func116 #[.slice d.A0 d.cs.length d.c0, .agg #[.int .i64 o.f0, .slice A o.f1.length c]] rfl ?_;(with_reducible refine(dn.calls k _ _ d.cs o.f0 _ _ o.f1 false _ (cb E.out.r0) E.out.l0 (cb HR.out) HC.out A1.out).mono ?_);rintro e w4 ⟨rfl,hb⟩;refine⟨_,rfl, ?_⟩;replace BK:=kb BK hb;replace HB:=hs HB hb;clear hb;have:=cf2 BK))
    go_ret
    exact fin
set_option maxHeartbeats 8000000 in
set_option maxRecDepth 100000 in
theorem rW {d:MD} {w:World} (hE:MEnv d w) (k:Nat) (A:Option Addr) (c:Nat) (xs:List S91) (hr:Kd.C k91 w A xs.length xs) (hc:xs.length≤c) (b:Bool) (h:everyG (jX k d.cs (d.objs.length:Int)) xs=some b):Ask 112 #[.slice A xs.length c, .func (.func 115) #[] #[d.pu,d.pv]] w b:=by
  have E:=Aside0.mk hE
  clear hE
  have HR:=Aside0.mk hr
  have HC:=Aside0.mk hc
  have HB:=Aside0.mk (Below.refl w.heap.size w)
  have HL:=Aside0.mk (gD h).1
  have H' :=Aside0.mk (gD h).2
  clear hr hc h
  unfold Ask
  go_enter Tryz.func112,Tryz.ntmps112
  go_wp2
  go_loopg [9] xs.length (fun kq v9 w' => ∃(x9:Int),v9= .int .i64 x9∧Aside0 (0≤x9∧x9+(kq:Int)=(xs.length:Int))∧Aside0 (everyB (jX k d.cs (d.objs.length:Int)) (xs.drop x9.toNat)=some b)∧Aside0 (Below w.heap.size w w'))
  case atStart=>exact⟨0,rfl,⟨by omega,by omega⟩,H',⟨bl⟩⟩
  case round=>
    clear H'
    obtain⟨x9,rfl,HI,HA,HBn⟩:=hrel
    clear HB
    have HB:=HBn
    clear HBn
    by_cases c3:x9<(xs.length:Int)
    · have c4:0≤x9:=HI.out.1
      have HH:=HA.out
      rw[jr xs z91 (show x9.toNat<xs.length by omega)]at HH
      have HH:=gH HH
      have C3:=Aside0.mk c3
      have C4:=Aside0.mk c4
      obtain⟨ad,B1,e1,e,hx0,hx1,hl1,hk1⟩:=iX HR.out x9 C4.out C3.out;have a:=Aside0.mk hl1;have g:=Aside0.mk hk1;clear hl1 hk1
      cases e
      replace hx0:=hc HB hx0;replace hx1:=hc HB hx1
      have i:decide (x9<(xs.length:Int))=true:=decide_eq_true c3
      have j:decide (0≤x9)=true:=decide_eq_true c4
      cases gk with
      |zero=>exfalso;have:=HI.out.2;omega
      |succ k1=>
      replace c3:=eq_true c3
      replace c4:=eq_true c4
      rcases HH with⟨a1,a2⟩|⟨a1,rfl⟩
      · have A1:=Aside0.mk (show(jX k d.cs (d.objs.length:Int)) (bz xs x9)=some true from a1)
        have A2:=Aside0.mk a2
        clear a1 a2
        go_wp2_with (first|((with_reducible refine gd 6 rfl ?_);refine bx 6 #[.int .i64 0, .slice none 0 0] 91 ?_;intro gb hg w5 hbox hb;have BK:=Aside0.mk hbox;have GE:=hz HB hg;replace hx0:=hc (w:=wr) ⟨hb⟩ hx0;replace hx1:=hc (w:=wr) ⟨hb⟩ hx1;replace HB:=hs HB hb;clear hb hbox hg;have hcf:=cf2 BK)|(refine(qm (E.out.below bl) k (bz xs x9) _ _ (cb g.out) a.out true A1.out).mono ?_;rintro e w9 ⟨rfl,hb⟩;replace HB:=hs HB hb;clear hb))
        go_roundg k1
        case measure=>omega
        case rel=>
          have hw:wrap64 (x9+1)=x9+1:=by have:=C3.out;have:=C4.out;have:=HL.out;unfold wrap64;omega
          refine⟨x9+1,(by rw[hw]),⟨by have:=C4.out;omega,by have:=HI.out.2;omega⟩,⟨by rw[show(x9+1).toNat=x9.toNat+1 by have:=C4.out;omega];exact A2.out⟩,⟨bl⟩⟩
      · have A1:=Aside0.mk (show(jX k d.cs (d.objs.length:Int)) (bz xs x9)=some false from a1)
        clear a1
        go_wp2_with (first|((with_reducible refine gd 6 rfl ?_);refine bx 6 #[.int .i64 0, .slice none 0 0] 91 ?_;intro gb hg w5 hbox hb;have BK:=Aside0.mk hbox;have GE:=hz HB hg;replace hx0:=hc (w:=wr) ⟨hb⟩ hx0;replace hx1:=hc (w:=wr) ⟨hb⟩ hx1;replace HB:=hs HB hb;clear hb hbox hg;have hcf:=cf2 BK)|(refine(qm (E.out.below bl) k (bz xs x9) _ _ (cb g.out) a.out false A1.out).mono ?_;rintro e w9 ⟨rfl,hb⟩;replace HB:=hs HB hb;clear hb))
        go_ret
        exact fin
    · have i:decide (x9<(xs.length:Int))=false:=decide_eq_false c3
      have HH:=HA.out
      rw[List.drop_of_length_le (by have:=HI.out;omega)]at HH
      obtain rfl:=Option.some.inj HH
      go_wp2
      go_ret
      exact fin
end Go.Proofs.YteinbmkgenhocaaGreat.P
end
