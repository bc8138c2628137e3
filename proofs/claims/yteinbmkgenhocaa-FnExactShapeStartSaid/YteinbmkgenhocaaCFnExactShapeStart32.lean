/- A part of the claim FnExactShapeStart: texts of this session and texts that its program printed out of the translation, joined. -/
import Derived.Carry
import Derived.Laws.CopyRow
import Derived.Test.YteinbmkgenhocaaCFnExactShapeStart31
section
namespace Go.Proofs.Yteinbmkgenhocaa.P
open Go.RowKit Go.Proofs.YteinbmkgenhocaaW.PrintWords Go.Proofs.YteinbmkgenhocaaW.PrintLast Go.Proofs.YteinbmkgenhocaaW.PrintMore
attribute [local go_sem] ak au aA aC ai aj av ax
set_option linter.unusedVariables false
set_option linter.unusedSimpArgs false
set_option maxHeartbeats 8000000 in
set_option maxRecDepth 100000 in
theorem slices_Equal_int_int.calls (k:Nat) (A0:Option Addr) (c0:Nat) (l0:List Int) (A1:Option Addr) (c1:Nat) (l1:List Int) (r:Bool) (w:World) (hr0:Kd.C (Kd.int .i64) w A0 l0.length l0) (hc0:l0.length≤c0) (hr1:Kd.C (Kd.int .i64) w A1 l1.length l1) (hc1:l1.length≤c1) (h:slices_Equal_int_int.f k l0 l1=some r):
  Calls Try.prog 65 #[.slice A0 l0.length c0, .slice A1 l1.length c1] w fun e w' =>e= .returned (.bool r)∧Drawn0 w w' :=by
 have p:=Aside0.mk hr0
 have D:=Aside0.mk hc0
 clear hr0 hc0
 have HR1:=Aside0.mk hr1
 have E:=Aside0.mk hc1
 clear hr1 hc1
 have H:(if(l0.length:Int)=(l1.length:Int)then(slices_Equal_int_int.l0 k l0 l1 (l0.length:Int) 0)else(some false))=some r:=h
 clear h
 by_cases c3:(l0.length:Int)=(l1.length:Int)
 ·rw [if_pos c3]at H
  have s:=beq_iff_eq.mpr c3
  have t:=bne_eq_false_iff_eq.mpr c3
  have u:(l0.length==l1.length)=true:=by first|simpa using c3|(simp at c3⊢;omega)
  clear c3
  have H' :=Aside0.mk H
  clear H
  go_enter Try.func65,Try.ntmps65
  go_wp2
  repeat(go_quiet (fail);try go_wp2)
  go_loopg [13] k (fun kq v13 w' => ∃(a:Int),v13= .int .i64 a∧Aside0 (slices_Equal_int_int.l0 kq l0 l1 (l0.length:Int) a=some r)∧Aside0 (kq≤k)∧Drawn0 w w')
  case atStart=>exact⟨(0),(by first|rfl|(simp;done)|(simp[*];done)),H',⟨Nat.le_refl _⟩,by repeat(first|exact Drawn0.refl _|apply Drawn0.step)⟩
  case round=>
   clear H'
   obtain⟨a,rfl,HA,q,⟨m1,rfl⟩⟩:=hrel
   cases gk with
   |zero=>exact absurd HA.out (by simp[slices_Equal_int_int.l0])
   | succ k1=>
    have H:=HA.out
    clear HA
    simp only[slices_Equal_int_int.l0]at H
    by_cases c4:a<(l0.length:Int)
    ·rw [if_pos c4]at H
     have v:decide (a<(l0.length:Int))=true:=decide_eq_true c4
     clear c4
     by_cases c5:0≤a
     ·rw [if_pos c5]at H
      have z:decide (0≤a)=true:=decide_eq_true c5
      clear c5
      by_cases c6:a<(l0.length:Int)
      ·rw[if_pos c6]at H
       have A:decide (a<(l0.length:Int))=true:=decide_eq_true c6
       clear c6
       by_cases c7:a<(l1.length:Int)
       ·rw[if_pos c7]at H
        have B:decide (a<(l1.length:Int))=true:=decide_eq_true c7
        clear c7
        by_cases c8:(rd l0 a)=(rd l1 a)
        ·rw[if_pos c8]at H
         have x:=beq_iff_eq.mpr c8
         have y:=bne_eq_false_iff_eq.mpr c8
         clear c8
         have H' :=Aside0.mk H
         clear H
         have b:0≤(a:Int):=od
         have c:a<(l0.length:Int):=od
         obtain⟨n,i,l⟩:=Kd.at_int p.out a b c
         cases i
         replace b:=eq_true b
         replace c:=eq_true c
         have d:0≤(a:Int):=od
         have g:a<(l1.length:Int):=od
         obtain⟨o,j,m⟩:=Kd.at_int HR1.out a d g
         cases j
         replace d:=eq_true d
         replace g:=eq_true g
         go_wp2
         repeat(go_quiet (fail);try go_wp2)
         go_roundg k1
         case measure=>have:=q.out;omega
         case rel=>exact⟨(wrap64 (a+1)),(by first|rfl|(simp;done)|(simp[*];done)),H',⟨by have:=q.out;omega⟩,by repeat(first|exact Drawn0.refl _|apply Drawn0.step)⟩
        ·rw[if_neg c8]at H
         have x:=beq_eq_false_iff_ne.mpr c8
         have y:=bne_iff_ne.mpr c8
         obtain rfl:=Option.some.inj H;clear H
         have b:0≤(a:Int):=od
         have c:a<(l0.length:Int):=od
         obtain⟨n,i,l⟩:=Kd.at_int p.out a b c
         cases i
         replace b:=eq_true b
         replace c:=eq_true c
         have d:0≤(a:Int):=od
         have g:a<(l1.length:Int):=od
         obtain⟨o,j,m⟩:=Kd.at_int HR1.out a d g
         cases j
         replace d:=eq_true d
         replace g:=eq_true g
         go_wp2
         repeat(go_quiet (fail);try go_wp2)
         go_ret
         exact⟨by first|rfl|(simp;done)|(simp[*];done),by repeat(first|exact Drawn0.refl _|apply Drawn0.step)⟩
       ·rw[if_neg c7]at H
        exact absurd H (by simp)
      ·rw[if_neg c6]at H
       exact absurd H (by simp)
     ·rw[if_neg c5]at H
      exact absurd H (by simp)
    ·rw[if_neg c4]at H
     have v:decide (a<(l0.length:Int))=false:=decide_eq_false c4
     clear c4
     obtain rfl:=Option.some.inj H;clear H
     go_wp2
     repeat(go_quiet (fail);try go_wp2)
     go_ret
     exact⟨by first|rfl|(simp;done)|(simp[*];done),by repeat(first|exact Drawn0.refl _|apply Drawn0.step)⟩
 ·rw[if_neg c3]at H
  have s:=beq_eq_false_iff_ne.mpr c3
  have t:=bne_iff_ne.mpr c3
  have u:(l0.length==l1.length)=false:=by first|simpa using c3|(simp at c3⊢;omega)
  obtain rfl:=Option.some.inj H;clear H
  go_enter Try.func65,Try.ntmps65
  go_wp2
  repeat(go_quiet (fail);try go_wp2)
  go_ret
  exact⟨by first|rfl|(simp;done)|(simp[*];done),by repeat(first|exact Drawn0.refl _|apply Drawn0.step)⟩
set_option maxHeartbeats 8000000 in
set_option maxRecDepth 100000 in
theorem bA.calls (k:Nat) (s:Option Addr) (t:Nat) (n:List (S71)) (a5:Option Addr) (A:Nat) (a:List (S50)) (r:Bool) (w:World) (br:Kd.C k71 w s n.length n) (bs:n.length≤t) (bw:Kd.C k50 w a5 a.length a) (b0:a.length≤A) (h:bA.f k n a=some r):
  Calls Try.prog 42 #[.agg #[.slice s n.length t, .slice a5 a.length A]] w fun e w' =>e= .returned (.bool r)∧Below w.heap.size w w' :=by
 have et:=Try.underlying34
 have ev:=Try.underlying50
 have D:=Aside0.mk br
 have E:=Aside0.mk bs
 clear br bs
 have b1:=Aside0.mk bw
 have cL:=Aside0.mk b0
 clear bw b0
 have HB:=Aside0.mk (Below.refl w.heap.size w)
 have H:(bA.l0 k a (a.length:Int) 0 n a)=some r:=h
 clear h
 have H' :=Aside0.mk H
 clear H
 go_enter Try.func42,Try.ntmps42
 go_wp2_with (first|((with_reducible refine gd 1 rfl ?_);refine bx 1 #[.slice s n.length t, .slice a5 a.length A] 34 ?_;intro a6 hg w2 hbox hb;have d:=Aside0.mk hbox;have cM:=hz HB hg;have cN:=hz HB hg;replace HB:=hs HB hb;clear hb hbox hg;obtain⟨_,_,_,_⟩:=cf2 d))
 go_loopg [10] k (fun kq v10 w' => ∃(b:Int),v10= .int .i64 b∧Aside0 (bA.l0 kq a (a.length:Int) b n a=some r)∧Aside0 (kq≤k)∧Aside0 (w'.heap[a6]? =some (.cells #[(.slice s n.length t),(.slice a5 a.length A)] 34 (0,0)))∧Aside0 (Below w.heap.size w w'))
 case atStart=>exact⟨(0),(by first|rfl|(simp;done)|(simp[*];done)),H',⟨Nat.le_refl _⟩,kk d,⟨bl⟩⟩
 case round =>
  clear H'
  obtain⟨b,rfl,HA,v,d,HB⟩:=hrel
  cases gk with
  |zero=>exact absurd HA.out (by simp[bA.l0])
  | succ k1 =>
   have H:=HA.out
   clear HA
   simp only[bA.l0]at H
   by_cases c4:b<(a.length:Int)
   ·rw [if_pos c4]at H
    have cq:decide (b<(a.length:Int))=true:=decide_eq_true c4
    clear c4
    by_cases c5:0≤b
    ·rw [if_pos c5]at H
     have ew:decide (0≤b)=true:=decide_eq_true c5
     clear c5
     by_cases c6:b<(a.length:Int)
     ·rw [if_pos c6]at H
      have ex:decide (b<(a.length:Int))=true:=decide_eq_true c6
      clear c6
      have H' :=Aside0.mk H
      clear H
      have bj:0≤(b:Int):=od
      have bk:b<(a.length:Int):=od
      obtain⟨a7,a8,a9,ba,bb,bc,bd,be,bh,cr,J,K,L,M,O,P,T,U,W,X,Y,Z,ab,ac,ad,al⟩:=dx b1.out b bj bk
      cases cr
      obtain⟨J,K,L,M,O,P,T,U⟩:=hc8 HB J K L M O P T U
      have am:=Aside0.mk X
      have an:=Aside0.mk W
      clear X W
      have cw:=Aside0.mk Z
      have cx:=Aside0.mk Y
      clear Z Y
      have cy:=Aside0.mk ac
      have cA:=Aside0.mk ab
      clear ac ab
      have cC:=Aside0.mk al
      have cD:=Aside0.mk ad
      clear al ad
      replace bj:=eq_true bj
      replace bk:=eq_true bk
      go_wp2_with (first|((with_reducible refine gd 4 rfl ?_);refine bx 4 #[.int .i64 0, .int .i64 0, .slice none 0 0, .int .i64 0, .int .i64 0, .slice none 0 0, .slice none 0 0, .slice none 0 0] 50 ?_;intro b2 hg w7 hbox hb;have g:=Aside0.mk hbox;have cP:=hz HB hg;have cQ:=hz HB hg;have i:=nl d hg;have j:=ng d hg;replace d:=kb d hb;replace HB:=hs HB hb;clear hb hbox hg;have ey:=j.out;have ez:=i.out;obtain⟨_,_,_,_,_,_,_,_,_,_,_,_,_,_,_,_⟩:=cf8 g;obtain⟨_,_,_,_⟩:=cf2 d))
      go_loopg [18] k1 (fun kq v18 w' => ∃(c:Int),v18= .int .i64 c∧Aside0 (bA.l1 kq b a (a.length:Int) b a (a.length:Int) c n a ((aa a b).f0) ((aa a b).f1) ((aa a b).f2) ((aa a b).f3) ((aa a b).f4) ((aa a b).f5) ((aa a b).f6) ((aa a b).f7)=some r)∧Aside0 (kq≤k1)∧Aside0 (w'.heap[a6]? =some (.cells #[(.slice s n.length t),(.slice (some a7) a.length A)] 34 (0,0)))∧Aside0 (w'.heap[b2]? =some (.cells #[.int .i64 ((aa a b).f0), .int .i64 ((aa a b).f1),(.slice a8 ((aa a b).f2).length a9), .int .i64 ((aa a b).f3), .int .i64 ((aa a b).f4),(.slice ba ((aa a b).f5).length bb),(.slice bc ((aa a b).f6).length bd),(.slice be ((aa a b).f7).length bh)] 50 (0,0)))∧Aside0 (Below w.heap.size w w'))
      case atStart=>exact⟨(0),(by first|rfl|(simp;done)|(simp[*];done)),H',⟨Nat.le_refl _⟩,kf,kf,⟨bl⟩⟩
      case round =>
       clear H'
       obtain⟨c,rfl,HA,x,d,g,HB⟩:=hrel
       cases gk with
       |zero=>exact absurd HA.out (by simp[bA.l1])
       | succ k2 =>
        have H:=HA.out
        clear HA
        simp only[bA.l1]at H
        by_cases c11:c<(a.length:Int)
        ·rw [if_pos c11]at H
         have cf:decide (c<(a.length:Int))=true:=decide_eq_true c11
         clear c11
         by_cases c12:0≤c
         ·rw [if_pos c12]at H
          have cR:decide (0≤c)=true:=decide_eq_true c12
          clear c12
          by_cases c13:c<(a.length:Int)
          ·rw [if_pos c13]at H
           have cS:decide (c<(a.length:Int))=true:=decide_eq_true c13
           clear c13
           have bm:=Aside0.mk H
           clear H
           have bo:0≤(c:Int):=od
           have bp:c<(a.length:Int):=od
           obtain⟨cg,b6,b7,b8,b9,ca,cc,cd,ce,cs,ao,ap,aq,ar,aw,aB,aE,aF,aL,aO,aP,aR,aS,a0,a1,a2⟩:=dx b1.out c bo bp
           obtain rfl:a7=cg:=(by injection cs)
           obtain⟨ao,ap,aq,ar,aw,aB,aE,aF⟩:=hc8 HB ao ap aq ar aw aB aE aF
           have a3:=Aside0.mk aO
           have a4:=Aside0.mk aL
           clear aO aL
           have cE:=Aside0.mk aR
           have cF:=Aside0.mk aP
           clear aR aP
           have cG:=Aside0.mk a0
           have cH:=Aside0.mk aS
           clear a0 aS
           have cI:=Aside0.mk a2
           have cJ:=Aside0.mk a1
           clear a2 a1
           replace bo:=eq_true bo
           replace bp:=eq_true bp
           go_upto_region 7 with(first|((with_reducible refine gd 6 rfl ?_);refine bx 6 #[.int .i64 0, .int .i64 0, .slice none 0 0, .int .i64 0, .int .i64 0, .slice none 0 0, .slice none 0 0, .slice none 0 0] 50 ?_;intro ch hg eA hbox hb;have q:=Aside0.mk hbox;have cT:=hz HB hg;have cU:=hz HB hg;have o:=nl d hg;have p:=ng d hg;have l:=nl g hg;have m:=ng g hg;replace d:=kb d hb;replace g:=kb g hb;replace HB:=hs HB hb;clear hb hbox hg;have cV:=p.out;have cW:=o.out;have cX:=m.out;have cY:=l.out;obtain⟨_,_,_,_,_,_,_,_,_,_,_,_,_,_,_,_⟩:=cf8 q))
           (try simp only[Act.put,List.setIfInBounds_toArray,List.set_cons_zero,List.set_cons_succ])
           go_cut [42] (fun v42 wc=> ∃(kq:Nat) (y:Bool),v42= .bool y∧Aside0 (bA.j2 kq b a (a.length:Int) b a (a.length:Int) c y n a ((aa a b).f0) ((aa a b).f1) ((aa a b).f2) ((aa a b).f3) ((aa a b).f4) ((aa a b).f5) ((aa a b).f6) ((aa a b).f7) ((aa a c).f0) ((aa a c).f1) ((aa a c).f2) ((aa a c).f3) ((aa a c).f4) ((aa a c).f5) ((aa a c).f6) ((aa a c).f7)=some r)∧Aside0 (kq≤k2)∧Aside0 (wc.heap[a6]? =some (.cells #[(.slice s n.length t),(.slice (some a7) a.length A)] 34 (0,0)))∧Aside0 (wc.heap[b2]? =some (.cells #[.int .i64 ((aa a b).f0), .int .i64 ((aa a b).f1),(.slice a8 ((aa a b).f2).length a9), .int .i64 ((aa a b).f3), .int .i64 ((aa a b).f4),(.slice ba ((aa a b).f5).length bb),(.slice bc ((aa a b).f6).length bd),(.slice be ((aa a b).f7).length bh)] 50 (0,0)))∧Aside0 (wc.heap[ch]? =some (.cells #[.int .i64 ((aa a c).f0), .int .i64 ((aa a c).f1),(.slice b6 ((aa a c).f2).length b7), .int .i64 ((aa a c).f3), .int .i64 ((aa a c).f4),(.slice b8 ((aa a c).f5).length b9),(.slice ca ((aa a c).f6).length cc),(.slice cd ((aa a c).f7).length ce)] 50 (0,0)))∧Aside0 (Below w.heap.size w wc))
           case first=>
            have H:=bm.out
            clear bm
            by_cases c19:b=c
            ·rw[if_pos c19]at H
             have z:=beq_iff_eq.mpr c19
             have ci:=bne_eq_false_iff_eq.mpr c19
             clear c19
             (first|rw[z]|(simp only[bT,bU];rw[z])|skip)
             have H' :=Aside0.mk H
             clear H
             go_wp2
             go_meet
             case rel=>exact⟨_,(true),(by first|rfl|(simp;done)|(simp[*];done)),H',⟨by have:=v.out;have:=x.out;first|omega|exact Nat.le_refl _⟩,kf,kf,kf,⟨bl⟩⟩
            ·rw[if_neg c19]at H
             have z:=beq_eq_false_iff_ne.mpr c19
             have ci:=bne_iff_ne.mpr c19
             (first|rw[z]|(simp only[bT,bU];rw[z])|skip)
             by_cases c20:((aa a b).f0)<0
             ·rw[if_pos c20]at H
              have cj:decide (((aa a b).f0)<0)=true:=decide_eq_true c20
              clear c20
              have H' :=Aside0.mk H
              clear H
              have c0:=j.out
              have c1:=i.out
              have da:=l.out
              have db:=m.out
              obtain⟨_,_,_,_,_,_,_,_,_,_,_,_,_,_,_,_⟩:=cf8 g
              go_wp2
              go_meet
              case rel=>exact⟨_,(true),(by first|rfl|(simp;done)|(simp[*];done)),H',⟨by have:=v.out;have:=x.out;first|omega|exact Nat.le_refl _⟩,kf,kf,kf,⟨bl⟩⟩
             ·rw[if_neg c20]at H
              have cj:decide (((aa a b).f0)<0)=false:=decide_eq_false c20
              clear c20
              by_cases c24:((aa a c).f0)<0
              ·rw[if_pos c24]at H
               have ck:decide (((aa a c).f0)<0)=true:=decide_eq_true c24
               clear c24
               have H' :=Aside0.mk H
               clear H
               have dc:=j.out
               have dd:=i.out
               have de:=l.out
               have dg:=m.out
               obtain⟨_,_,_,_,_,_,_,_,_,_,_,_,_,_,_,_⟩:=cf8 g
               have dj:=p.out
               have dk:=o.out
               obtain⟨_,_,_,_,_,_,_,_,_,_,_,_,_,_,_,_⟩:=cf8 q
               go_wp2
               go_meet
               case rel=>exact⟨_,(true),(by first|rfl|(simp;done)|(simp[*];done)),H',⟨by have:=v.out;have:=x.out;first|omega|exact Nat.le_refl _⟩,kf,kf,kf,⟨bl⟩⟩
              ·rw[if_neg c24]at H
               have ck:decide (((aa a c).f0)<0)=false:=decide_eq_false c24
               clear c24
               have H' :=Aside0.mk H
               clear H
               have dl:=j.out
               have dp:=i.out
               have dq:=l.out
               have dr:=m.out
               obtain⟨_,_,_,_,_,_,_,_,_,_,_,_,_,_,_,_⟩:=cf8 g
               have ds:=p.out
               have dt:=o.out
               obtain⟨_,_,_,_,_,_,_,_,_,_,_,_,_,_,_,_⟩:=cf8 q
               go_wp2
               go_meet
               case rel=>exact⟨_,((((aa a b).f1) !=((aa a c).f1))),(by first|rfl|(simp;done)|(simp[*];done)),H',⟨by have:=v.out;have:=x.out;first|omega|exact Nat.le_refl _⟩,kf,kf,kf,⟨bl⟩⟩
           case rest=>
            clear bm
            obtain⟨kq,y,rfl,HA,B,d,g,q,HB⟩:=hcut
            cases kq with
            |zero=>exact absurd HA.out (by simp[bA.j2])
            | succ u=>
             have H:=HA.out
             clear HA
             simp only[bA.j2]at H
             by_cases b3:y=true
             ·subst b3
              replace H:=it H
              have H' :=Aside0.mk H
              clear H
              go_wp2
              go_roundg u
              case measure=>have:=v.out;have:=x.out;have:=B.out;omega
              case rel=>exact⟨(wrap64 (c+1)),(by first|rfl|(simp;done)|(simp[*];done)),H',⟨by have:=v.out;have:=x.out;have:=B.out;omega⟩,kk d,kk g,⟨bl⟩⟩
             ·replace b3:=Bool.eq_false_iff.mpr b3
              subst b3
              replace H:=ie H
              by_cases G:((aa a b).f0)=((aa a c).f0)
              ·rw[if_pos G]at H
               have cl:=beq_iff_eq.mpr G
               have cm:=bne_eq_false_iff_eq.mpr G
               clear G
               obtain rfl:=Option.some.inj H;clear H
               have du:=j.out
               have dv:=i.out
               have dy:=l.out
               have dT:=m.out
               obtain⟨_,_,_,_,_,_,_,_,_,_,_,_,_,_,_,_⟩:=cf8 g
               have d0:=p.out
               have d1:=o.out
               obtain⟨_,_,_,_,_,_,_,_,_,_,_,_,_,_,_,_⟩:=cf8 q
               go_wp2
               go_ret
               exact fin
              ·rw [if_neg G]at H
               have cl:=beq_eq_false_iff_ne.mpr G
               have cm:=bne_iff_ne.mpr G
               obtain⟨ct,b4,H⟩:=ob H
               by_cases b5:ct=true
               ·subst b5
                replace H:=it H
                by_cases I:((aa a b).f3)=((aa a c).f3)
                ·rw[if_pos I]at H
                 have cn:=beq_iff_eq.mpr I
                 have co:=bne_eq_false_iff_eq.mpr I
                 clear I
                 obtain⟨cv,cp,H⟩:=ob H
                 by_cases c46:cv=true
                 ·subst c46
                  replace H:=it H
                  have H' :=Aside0.mk H
                  clear H
                  have d2:=j.out
                  have d3:=i.out
                  have d4:=l.out
                  have d5:=m.out
                  obtain⟨_,_,_,_,_,_,_,_,_,_,_,_,_,_,_,_⟩:=cf8 g
                  have d6:=p.out
                  have d7:=o.out
                  obtain⟨_,_,_,_,_,_,_,_,_,_,_,_,_,_,_,_⟩:=cf8 q
                  obtain⟨_,_,_,_⟩:=cf2 d
                  go_wp2_with (first|((with_reducible refine gc 64 rfl ?_);refine gl (some 54) Try.func64 #[.slice s n.length t, .int .i64 ((aa a b).f0), .int .i64 ((aa a c).f0)] rfl ?_;(with_reducible refine(cO.calls u _ _ n ((aa a b).f0) ((aa a c).f0) true _ ?s1 ?s2 b4.out).mono ?_);(case s1=>exact cb D.out);(case s2=>exact E.out);rintro e w' ⟨rfl,⟨nd,rfl⟩⟩;refine⟨_,rfl, ?_⟩)|(go_at_call 65;(with_reducible refine(slices_Equal_int_int.calls u _ _ ((aa a b).f2) _ _ ((aa a c).f2) true _ ?s1 ?s2 ?s3 ?s4 cp.out).mono ?_);(case s1=>exact cb am.out);(case s2=>exact an.out);(case s3=>exact cb a3.out);(case s4=>exact a4.out);rintro e w' ⟨rfl,⟨nd,rfl⟩⟩))
                  go_roundg u
                  case measure=>have:=v.out;have:=x.out;have:=B.out;omega
                  case rel=>exact⟨(wrap64 (c+1)),(by first|rfl|(simp;done)|(simp[*];done)),H',⟨by have:=v.out;have:=x.out;have:=B.out;omega⟩,kk d,kk g,⟨bl⟩⟩
                 ·replace c46:=Bool.eq_false_iff.mpr c46
                  subst c46
                  replace H:=ie H
                  obtain rfl:=Option.some.inj H;clear H
                  have d8:=j.out
                  have ea:=i.out
                  have eb:=l.out
                  have ec:=m.out
                  obtain⟨_,_,_,_,_,_,_,_,_,_,_,_,_,_,_,_⟩:=cf8 g
                  have ee:=p.out
                  have ef:=o.out
                  obtain⟨_,_,_,_,_,_,_,_,_,_,_,_,_,_,_,_⟩:=cf8 q
                  obtain⟨_,_,_,_⟩:=cf2 d
                  go_wp2_with (first|((with_reducible refine gc 64 rfl ?_);refine gl (some 54) Try.func64 #[.slice s n.length t, .int .i64 ((aa a b).f0), .int .i64 ((aa a c).f0)] rfl ?_;(with_reducible refine(cO.calls u _ _ n ((aa a b).f0) ((aa a c).f0) true _ ?s1 ?s2 b4.out).mono ?_);(case s1=>exact cb D.out);(case s2=>exact E.out);rintro e w' ⟨rfl,⟨nd,rfl⟩⟩;refine⟨_,rfl, ?_⟩)|(go_at_call 65;(with_reducible refine(slices_Equal_int_int.calls u _ _ ((aa a b).f2) _ _ ((aa a c).f2) false _ ?s1 ?s2 ?s3 ?s4 cp.out).mono ?_);(case s1=>exact cb am.out);(case s2=>exact an.out);(case s3=>exact cb a3.out);(case s4=>exact a4.out);rintro e w' ⟨rfl,⟨nd,rfl⟩⟩))
                  go_ret
                  exact fin
                ·rw[if_neg I]at H
                 have cn:=beq_eq_false_iff_ne.mpr I
                 have co:=bne_iff_ne.mpr I
                 obtain rfl:=Option.some.inj H;clear H
                 have eg:=j.out
                 have eh:=i.out
                 have ei:=l.out
                 have ej:=m.out
                 obtain⟨_,_,_,_,_,_,_,_,_,_,_,_,_,_,_,_⟩:=cf8 g
                 have el:=p.out
                 have em:=o.out
                 obtain⟨_,_,_,_,_,_,_,_,_,_,_,_,_,_,_,_⟩:=cf8 q
                 obtain⟨_,_,_,_⟩:=cf2 d
                 go_wp2_with (first|((with_reducible refine gc 64 rfl ?_);refine gl (some 54) Try.func64 #[.slice s n.length t, .int .i64 ((aa a b).f0), .int .i64 ((aa a c).f0)] rfl ?_;(with_reducible refine(cO.calls u _ _ n ((aa a b).f0) ((aa a c).f0) true _ ?s1 ?s2 b4.out).mono ?_);(case s1=>exact cb D.out);(case s2=>exact E.out);rintro e w' ⟨rfl,⟨nd,rfl⟩⟩;refine⟨_,rfl, ?_⟩))
                 go_ret
                 exact fin
               ·replace b5:=Bool.eq_false_iff.mpr b5
                subst b5
                replace H:=ie H
                have H' :=Aside0.mk H
                clear H
                have en:=j.out
                have eo:=i.out
                have ep:=l.out
                have eq:=m.out
                obtain⟨_,_,_,_,_,_,_,_,_,_,_,_,_,_,_,_⟩:=cf8 g
                have er:=p.out
                have es:=o.out
                obtain⟨_,_,_,_,_,_,_,_,_,_,_,_,_,_,_,_⟩:=cf8 q
                obtain⟨_,_,_,_⟩:=cf2 d
                go_wp2_with (first|((with_reducible refine gc 64 rfl ?_);refine gl (some 54) Try.func64 #[.slice s n.length t, .int .i64 ((aa a b).f0), .int .i64 ((aa a c).f0)] rfl ?_;(with_reducible refine(cO.calls u _ _ n ((aa a b).f0) ((aa a c).f0) false _ ?s1 ?s2 b4.out).mono ?_);(case s1=>exact cb D.out);(case s2=>exact E.out);rintro e w' ⟨rfl,⟨nd,rfl⟩⟩;refine⟨_,rfl, ?_⟩))
                go_roundg u
                case measure=>have:=v.out;have:=x.out;have:=B.out;omega
                case rel=>exact⟨(wrap64 (c+1)),(by first|rfl|(simp;done)|(simp[*];done)),H',⟨by have:=v.out;have:=x.out;have:=B.out;omega⟩,kk d,kk g,⟨bl⟩⟩
          ·rw[if_neg c13]at H
           exact absurd H (by simp)
         ·rw[if_neg c12]at H
          exact absurd H (by simp)
        ·rw[if_neg c11]at H
         have cf:decide (c<(a.length:Int))=false:=decide_eq_false c11
         clear c11
         have H' :=Aside0.mk H
         clear H
         go_wp2
         go_roundg k2
         case measure=>have:=v.out;have:=x.out;omega
         case rel=>exact⟨(wrap64 (b+1)),(by first|rfl|(simp;done)|(simp[*];done)),H',⟨by have:=v.out;have:=x.out;omega⟩,kk d,⟨bl⟩⟩
     ·rw[if_neg c6]at H
      exact absurd H (by simp)
    ·rw[if_neg c5]at H
     exact absurd H (by simp)
   ·rw[if_neg c4]at H
    have cq:decide (b<(a.length:Int))=false:=decide_eq_false c4
    clear c4
    obtain rfl:=Option.some.inj H;clear H
    go_wp2
    go_ret
    exact fin
end Go.Proofs.Yteinbmkgenhocaa.P
end
section
namespace Go.Proofs.Yteinbmkgenhocaa.P
open Go Go.RowKit Go.Proofs.YteinbmkgenhocaaW.PrintWords Go.Proofs.YteinbmkgenhocaaW.PrintLast Go.Proofs.YteinbmkgenhocaaW.PrintMore
set_option linter.unusedVariables false
set_option linter.unusedSimpArgs false
theorem jZ (e:Int×Int×Int): ∀(l:List (Int×Int×Int)) (i:Nat),gF (l++ [e]) i=gF l i++ [jM e (i+l.length)]
  | [],i=>rfl
  | x::l,i=>by
    show jM x i::gF (l++ [e]) (i+1)=jM x i::(gF l (i+1)++ [jM e (i+(l.length+1))])
    rw[jZ e l (i+1),show i+1+l.length=i+(l.length+1) by omega]
section
variable {ops:Array Oper} {rest:List Oper} {o:Oper} {a:Act} {Q:Exit→Act→World→Prop} {W:World}
theorem oI (hgd:o.guard=none) (hop:o.op= .makeMap 75 none) {w:World} (hB:Below w.heap.size w W)
    (h: ∀g,g=W.heap.size→∀W1,W1.heap[g]? =some (ig 0)→Below w.heap.size w W1→w.heap.size≤g→wpList Try.prog ops Q rest (a.put o.dst (.map (some g))) W1):wpList Try.prog ops Q (o::rest) a W:=by
  refine Kd.event_run hgd ?_ (h _ rfl _ (nO W _) (bJ hB _) hB.size)
  unfold execOp
  rw[hop]
  simp only[Option.map,Sem.run_bind,run_makeMap,Result.andThen]
  rfl
theorem mY {g m:Nat} {e1 e2 e3:Int} {x k v:Operand} (hgd:o.guard=none) (hop:o.op= .insert 75 x k v) (hN:o.dst=none) (hx:a.eval x= .map (some g)) (hk:a.eval k= .int .i64 e1) (hv:a.eval v= .agg #[.int .i64 e2, .int .i64 e3])
    (hm:W.heap[g]? =some (ig m)) (hl:eU.take (m+1)=eU.take m++ [(e1,e2,e3)]) (hlen:(eU.take m).length=m) (hf:dP e1 (eU.take m)=none) {w:World} (hB:Below w.heap.size w W) (hg:w.heap.size≤g)
    (h: ∀W1,W1.heap[g]? =some (ig (m+1))→Below w.heap.size w W1→wpList Try.prog ops Q rest a W1):wpList Try.prog ops Q (o::rest) a W:=by
  have hm0:=hm
  unfold ig at hm
  obtain⟨j,hj⟩:=jm e1 (eU.take m) 0 0
  rw[hf]at hj
  have hkk:MapKept.IsKey (.int .i64) (.int .i64 e1):=by simp[MapKept.IsKey]
  have hu:=Try.underlying75
  have hu3:=Try.underlying3
  have e0:Obj.map ((gF (eU.take m) 0).toArray.push {key:= .int .i64 e1,val:= .agg #[.int .i64 e2, .int .i64 e3],born:=m}) (m+1)=ig (m+1):=by
    unfold ig
    rw[hl,jZ,hlen,Nat.zero_add,List.push_toArray]
    rfl
  have hrun:(Instr.mapUpdate 75 (.map (some g)) (.int .i64 e1) (.agg #[.int .i64 e2, .int .i64 e3])).run Try.prog W= .ok () {W with heap:=W.heap.setIfInBounds g (ig (m+1))}:=by
    rw[←e0]
    simp[Instr.mapUpdate,run_underlying hu,MapKept.run_getObj_map hm,MapKept.run_checkKey hu3 hkk,MapKept.run_findKey hu3 hj,MapKept.run_setObj_map _ hm,Result.andThen]
  have hh:=MapKept.heap_set (o' :=ig (m+1)) hm0
  refine wpList_plain hgd fun K hK=> ?_
  unfold Oper.wp
  have hex:(execOp a.eval o).run Try.prog W= .ok .skip {W with heap:=W.heap.setIfInBounds g (ig (m+1))}:=by
    unfold execOp
    rw[hop]
    dsimp only
    rw[hx,hk,hv]
    simp only[Sem.run_bind,hrun,Result.andThen]
    rfl
  rw[hex]
  show K (a.put o.dst undef) _
  rw[hN]
  exact hK _ _ (h _ hh.1 (hB.trans ⟨rfl,rfl,rfl,by simp,fun k_ hk_=>hh.2 k_ (by omega)⟩))
end
set_option maxHeartbeats 8000000 in
set_option maxRecDepth 100000 in
theorem nY.calls (w:World):Calls Try.prog 38 #[] w fun e w' => ∃g,e= .returned (.map (some g))∧g=w.heap.size∧w'.heap[g]? =some iN∧Below w.heap.size w w' :=by
  have HB:=Aside0.mk (Below.refl w.heap.size w)
  go_enter Try.func38,Try.ntmps38
  go_wp2_with (first|((with_reducible refine jk (N:=1) rfl ?_);refine oI rfl rfl HB.out ?_;intro gM hg W1 hm_ hb_ hs_;clear HB;have HM:=Aside0.mk hm_;have HB:=Aside0.mk hb_;have HS:=Aside0.mk hs_;have HG:=Aside0.mk hg;clear hm_ hb_ hs_ hg)|(refine mY rfl rfl rfl rfl rfl rfl HM.out rfl rfl rfl HB.out HS.out ?_;intro W1 hm_ hb_;clear HM HB;have HM:=Aside0.mk hm_;have HB:=Aside0.mk hb_;clear hm_ hb_))
  go_ret
  exact⟨_,rfl,HG.out,HM.out,HB.out⟩
end Go.Proofs.Yteinbmkgenhocaa.P
end
section
namespace Go.Proofs.Yteinbmkgenhocaa.P
open Go.RowKit Go.Proofs.YteinbmkgenhocaaW.PrintWords Go.Proofs.YteinbmkgenhocaaW.PrintLast Go.Proofs.YteinbmkgenhocaaW.PrintMore
attribute [local go_sem] ak au aA aC ai aj av ax
set_option linter.unusedVariables false
set_option linter.unusedSimpArgs false
set_option maxHeartbeats 8000000 in
set_option maxRecDepth 100000 in
theorem bg.calls (k:Nat) (aS:Option Addr) (a0:Nat) (l:List (S71)) (b6:Option Addr) (a3:Nat) (a:List (S50)) (r:Bool) (w:World) (co:Kd.C k71 w aS l.length l) (cp:l.length≤a0) (cq:Kd.C k50 w b6 a.length a) (cr:a.length≤a3) (h:bg.f k l a=some r):
  Calls Try.prog 20 #[.agg #[.slice aS l.length a0, .slice b6 a.length a3]] w fun e w' =>e= .returned (.bool r)∧Below w.heap.size w w' :=by
 have fa:=Try.underlying34
 have fb:=Try.underlying50
 have aE:=Aside0.mk co
 have aF:=Aside0.mk cp
 clear co cp
 have Y:=Aside0.mk cq
 have a2:=Aside0.mk cr
 clear cq cr
 have HB:=Aside0.mk (Below.refl w.heap.size w)
 have H:((aG.f k l).bind fun ck=>(if ck=true then(if(a.length:Int)<1 then(bg.j0 k true l a)else(bg.j0 k (decide ((a.length:Int)>4)) l a))else(bg.j0 k true l a)))=some r:=h
 clear h
 have cC:=Aside0.mk H
 clear H
 go_enter Try.func20,Try.ntmps20
 go_upto_region 1 with(first|((with_reducible refine gd 1 rfl ?_);(try(refine aN (by rfl) ?_;dsimp only));refine bx 1 #[.slice aS l.length a0, .slice b6 a.length a3] 34 ?_;intro b7 hg w3 hbox hb;have c:=Aside0.mk hbox;have dg:=hz HB hg;have dj:=hz HB hg;replace HB:=hs HB hb;clear hb hbox hg))
 (try simp only[Act.put,List.setIfInBounds_toArray,List.set_cons_zero,List.set_cons_succ])
 go_cut [22] (fun v22 wc=> ∃(kq:Nat) (bm:Bool),v22= .bool bm∧Aside0 (bg.j0 kq bm l a=some r)∧Aside0 (kq≤k)∧Aside0 (wc.heap[b7]? =some (.cells #[(.slice aS l.length a0),(.slice b6 a.length a3)] 34 (0,0)))∧Aside0 (Below w.heap.size w wc))
 case first=>
  have H:=cC.out
  clear cC
  obtain⟨ck,A4,H⟩:=ob H
  by_cases c5:ck=true
  ·subst c5
   replace H:=it H
   by_cases c6:(a.length:Int)<1
   ·rw[if_pos c6]at H
    have bo:decide ((a.length:Int)<1)=true:=decide_eq_true c6
    have cQ:decide (a.length<1)=true:=decide_eq_true (by omega)
    clear c6
    (first|rw[bo]|(simp only[bT,bU];rw[bo])|skip)
    have H' :=Aside0.mk H
    clear H
    obtain⟨_,_,_,_⟩:=cf2 c
    go_wp2_with (first|((with_reducible refine gc 37 rfl ?_);refine gl (some 9) Try.func37 #[.slice aS l.length a0] rfl ?_;(with_reducible refine(aG.calls k _ _ l true _ ?s1 ?s2 A4.out).mono ?_);(case s1=>exact cb aE.out);(case s2=>exact aF.out);rintro e w8 ⟨rfl,hb⟩;refine⟨_,rfl, ?_⟩;replace c:=kb c hb;replace HB:=hs HB hb;(try clear hb);obtain⟨_,_,_,_⟩:=cf2 c))
    go_meet
    case rel=>exact⟨_,(true),(by first|rfl|(simp;done)|(simp[*];done)),H',⟨by first|omega|exact Nat.le_refl _⟩,kk c,⟨bl⟩⟩
   ·rw[if_neg c6]at H
    have bo:decide ((a.length:Int)<1)=false:=decide_eq_false c6
    have cQ:decide (a.length<1)=false:=decide_eq_false (by omega)
    clear c6
    (first|rw[bo]|(simp only[bT,bU];rw[bo])|skip)
    have H' :=Aside0.mk H
    clear H
    obtain⟨_,_,_,_⟩:=cf2 c
    go_wp2_with (first|((with_reducible refine gc 37 rfl ?_);refine gl (some 9) Try.func37 #[.slice aS l.length a0] rfl ?_;(with_reducible refine(aG.calls k _ _ l true _ ?s1 ?s2 A4.out).mono ?_);(case s1=>exact cb aE.out);(case s2=>exact aF.out);rintro e fc ⟨rfl,hb⟩;refine⟨_,rfl, ?_⟩;replace c:=kb c hb;replace HB:=hs HB hb;(try clear hb);obtain⟨_,_,_,_⟩:=cf2 c))
    go_meet
    case rel=>exact⟨_,(decide ((a.length:Int)>4)),(by first|rfl|(simp;done)|(simp[*];done)),H',⟨by first|omega|exact Nat.le_refl _⟩,kk c,⟨bl⟩⟩
  ·replace c5:=Bool.eq_false_iff.mpr c5
   subst c5
   replace H:=ie H
   have H' :=Aside0.mk H
   clear H
   obtain⟨_,_,_,_⟩:=cf2 c
   go_wp2_with (first|((with_reducible refine gc 37 rfl ?_);refine gl (some 9) Try.func37 #[.slice aS l.length a0] rfl ?_;(with_reducible refine(aG.calls k _ _ l false _ ?s1 ?s2 A4.out).mono ?_);(case s1=>exact cb aE.out);(case s2=>exact aF.out);rintro e fd ⟨rfl,hb⟩;refine⟨_,rfl, ?_⟩;replace c:=kb c hb;replace HB:=hs HB hb;(try clear hb)))
   go_meet
   case rel=>exact⟨_,(true),(by first|rfl|(simp;done)|(simp[*];done)),H',⟨by first|omega|exact Nat.le_refl _⟩,kk c,⟨bl⟩⟩
 case rest =>
  clear cC
  obtain⟨kq,bm,rfl,HA,ca,c,HB⟩:=hcut
  cases kq with
  |zero=>exact absurd HA.out (by simp[bg.j0])
  | succ dd =>
   have H:=HA.out
   clear HA
   simp only[bg.j0]at H
   by_cases c15:bm=true
   ·subst c15
    replace H:=it H
    obtain rfl:=Option.some.inj H;clear H
    go_wp2
    go_ret
    exact fin
   ·replace c15 :=Bool.eq_false_iff.mpr c15
    subst c15
    replace H:=ie H
    by_cases c16:0<(a.length:Int)
    ·rw [if_pos c16]at H
     have dk:decide (0<(a.length:Int))=true:=decide_eq_true c16
     have dl:decide (0<a.length)=true:=decide_eq_true (by omega)
     clear c16
     have cl:=Aside0.mk H
     clear H
     obtain⟨_,_,_,_⟩:=cf2 c
     have cm:0≤(0:Int):=(by omega)
     have cn:0<(a.length:Int):=od
     obtain⟨a1,cc,cd,ce,cf,cg,ch,ci,cj,cR,a4,a5,a6,a7,a8,a9,ba,bb,br,bs,bw,b0,b1,b2,b3,b4⟩:=dx Y.out 0 cm cn
     cases cR
     have dp:(0<a.length)=True:=eq_true (by omega)
     (try rw[show((0:Int)).toNat=0 from rfl]at a4)
     (try rw[show 0 * 8=0 from rfl]at a4)
     (try rw[Addr.add_zero']at a4)
     (try rw[show((0:Int)).toNat=0 from rfl]at a5)
     (try rw[show 0 * 8=0 from rfl]at a5)
     (try rw[Addr.add_zero']at a5)
     (try rw[show((0:Int)).toNat=0 from rfl]at a6)
     (try rw[show 0 * 8=0 from rfl]at a6)
     (try rw[Addr.add_zero']at a6)
     (try rw[show((0:Int)).toNat=0 from rfl]at a7)
     (try rw[show 0 * 8=0 from rfl]at a7)
     (try rw[Addr.add_zero']at a7)
     (try rw[show((0:Int)).toNat=0 from rfl]at a8)
     (try rw[show 0 * 8=0 from rfl]at a8)
     (try rw[Addr.add_zero']at a8)
     (try rw[show((0:Int)).toNat=0 from rfl]at a9)
     (try rw[show 0 * 8=0 from rfl]at a9)
     (try rw[Addr.add_zero']at a9)
     (try rw[show((0:Int)).toNat=0 from rfl]at ba)
     (try rw[show 0 * 8=0 from rfl]at ba)
     (try rw[Addr.add_zero']at ba)
     (try rw[show((0:Int)).toNat=0 from rfl]at bb)
     (try rw[show 0 * 8=0 from rfl]at bb)
     (try rw[Addr.add_zero']at bb)
     obtain⟨a4,a5,a6,a7,a8,a9,ba,bb⟩:=hc8 HB a4 a5 a6 a7 a8 a9 ba bb
     have cW:=Aside0.mk bs
     have cX:=Aside0.mk br
     clear bs br
     have cY:=Aside0.mk b0
     have c0:=Aside0.mk bw
     clear b0 bw
     have c1:=Aside0.mk b2
     have da:=Aside0.mk b1
     clear b2 b1
     have db:=Aside0.mk b4
     have dc:=Aside0.mk b3
     clear b4 b3
     replace cm:=eq_true cm
     replace cn:=eq_true cn
     go_upto_region 4 with(first|((with_reducible refine gd 3 rfl ?_);(try(refine aN (by rfl) ?_;dsimp only));refine bx 3 #[.int .i64 0, .int .i64 0, .slice none 0 0, .int .i64 0, .int .i64 0, .slice none 0 0, .slice none 0 0, .slice none 0 0] 50 ?_;intro cs hg ff hbox hb;have i:=Aside0.mk hbox;have dq:=hz HB hg;have dr:=hz HB hg;have n:=nl c hg;have p:=ng c hg;replace c:=kb c hb;replace HB:=hs HB hb;clear hb hbox hg;have ds:=p.out;have dt:=n.out;obtain⟨_,_,_,_,_,_,_,_,_,_,_,_,_,_,_,_⟩:=cf8 i))
     (try simp only[Act.put,List.setIfInBounds_toArray,List.set_cons_zero,List.set_cons_succ])
     go_cut [40] (fun v40 wc=> ∃(kq:Nat) (bh:Bool),v40= .bool bh∧Aside0 (bg.j1 kq bh l a=some r)∧Aside0 (kq≤dd)∧Aside0 (wc.heap[b7]? =some (.cells #[(.slice aS l.length a0),(.slice (some a1) a.length a3)] 34 (0,0)))∧Aside0 (wc.heap[cs]? =some (.cells #[.int .i64 ((aa a 0).f0), .int .i64 ((aa a 0).f1),(.slice cc ((aa a 0).f2).length cd), .int .i64 ((aa a 0).f3), .int .i64 ((aa a 0).f4),(.slice ce ((aa a 0).f5).length cf),(.slice cg ((aa a 0).f6).length ch),(.slice ci ((aa a 0).f7).length cj)] 50 (0,0)))∧Aside0 (Below w.heap.size w wc))
     case first=>
      have H:=cl.out
      clear cl
      by_cases bp:((aa a 0).f0)=(-1)
      ·rw[if_pos bp]at H
       have bj:=beq_iff_eq.mpr bp
       have cG:=bne_eq_false_iff_eq.mpr bp
       clear bp
       (first|rw[bj]|(simp only[bT,bU];rw[bj])|skip)
       by_cases c23:(((aa a 0).f2).length:Int)=0
       ·rw[if_pos c23]at H
        have cH:=beq_iff_eq.mpr c23
        have cI:=bne_eq_false_iff_eq.mpr c23
        clear c23
        have H' :=Aside0.mk H
        clear H
        have du:=p.out
        have dv:=n.out
        obtain⟨_,_,_,_,_,_,_,_,_,_,_,_,_,_,_,_⟩:=cf8 i
        go_wp2
        go_meet
        case rel=>exact⟨_,((((aa a 0).f3) !=1)),(by first|rfl|(simp;done)|(simp[*];done)),H',⟨by have:=ca.out;first|omega|exact Nat.le_refl _⟩,kf,kf,⟨bl⟩⟩
       ·rw[if_neg c23]at H
        have cH:=beq_eq_false_iff_ne.mpr c23
        have cI:=bne_iff_ne.mpr c23
        have dy: ¬(((aa a 0).f2)= []):=fun h_=>c23 (by rw[h_];rfl)
        have H' :=Aside0.mk H
        clear H
        have dT:=p.out
        have d0:=n.out
        obtain⟨_,_,_,_,_,_,_,_,_,_,_,_,_,_,_,_⟩:=cf8 i
        go_wp2
        go_meet
        case rel=>exact⟨_,(true),(by first|rfl|(simp;done)|(simp[*];done)),H',⟨by have:=ca.out;first|omega|exact Nat.le_refl _⟩,kf,kf,⟨bl⟩⟩
      ·rw[if_neg bp]at H
       have bj:=beq_eq_false_iff_ne.mpr bp
       have cG:=bne_iff_ne.mpr bp
       (first|rw[bj]|(simp only[bT,bU];rw[bj])|skip)
       have H' :=Aside0.mk H
       clear H
       have d1:=p.out
       have d2:=n.out
       obtain⟨_,_,_,_,_,_,_,_,_,_,_,_,_,_,_,_⟩:=cf8 i
       go_wp2
       go_meet
       case rel=>exact⟨_,(true),(by first|rfl|(simp;done)|(simp[*];done)),H',⟨by have:=ca.out;first|omega|exact Nat.le_refl _⟩,kf,kf,⟨bl⟩⟩
     case rest =>
      clear cl
      obtain⟨kq,bh,rfl,HA,cD,c,i,HB⟩:=hcut
      cases kq with
      |zero=>exact absurd HA.out (by simp[bg.j1])
      | succ cE =>
       have H:=HA.out
       clear HA
       simp only[bg.j1]at H
       by_cases ct:bh=true
       ·subst ct
        replace H:=it H
        obtain rfl:=Option.some.inj H;clear H
        go_wp2
        go_ret
        exact fin
       ·replace ct:=Bool.eq_false_iff.mpr ct
        subst ct
        replace H:=ie H
        have H' :=Aside0.mk H
        clear H
        go_wp2_with (first|((with_reducible refine gc 38 rfl ?_);refine gT (some 41) rfl rfl Try.func38 (by kernel_rfl) rfl #[] rfl (by(try simp only[List.map_toArray,List.map_cons,List.map_nil]);first|done|rfl) ?_;(refine(nY.calls _).mono ?_);rintro e fg ⟨bk,rfl,hg,hbox,hb⟩;refine⟨_,rfl, ?_⟩;have j:=Aside0.mk hbox;have d3:=hz HB hg;have d4:=hz HB hg;have aP:=nl c hg;have aR:=ng c hg;have cL:=nl i hg;have cM:=ng i hg;replace c:=kb c hb;replace i:=kb i hb;replace HB:=hs HB hb;clear hb hbox hg;have d5:=n.out;have d6:=p.out;have d7:=aP.out;have d8:=aR.out;obtain⟨_,_,_,_⟩:=cf2 c))
        go_loopg [45] cE (fun kq v45 w' => ∃(b:Int),v45= .int .i64 b∧Aside0 (bg.l0 kq a (a.length:Int) b l a=some r)∧Aside0 (kq≤cE)∧Aside0 (w'.heap[b7]? =some (.cells #[(.slice aS l.length a0),(.slice (some a1) a.length a3)] 34 (0,0)))∧Aside0 (w'.heap[cs]? =some (.cells #[.int .i64 ((aa a 0).f0), .int .i64 ((aa a 0).f1),(.slice cc ((aa a 0).f2).length cd), .int .i64 ((aa a 0).f3), .int .i64 ((aa a 0).f4),(.slice ce ((aa a 0).f5).length cf),(.slice cg ((aa a 0).f6).length ch),(.slice ci ((aa a 0).f7).length cj)] 50 (0,0)))∧Aside0 (w'.heap[bk]? =some (iN))∧Aside0 (Below w.heap.size w w'))
        case atStart=>exact⟨(0),(by first|rfl|(simp;done)|(simp[*];done)),H',⟨Nat.le_refl _⟩,kk c,kk i,kk j,⟨bl⟩⟩
        case round=>
         clear H'
         obtain⟨b,rfl,HA,cN,c,i,j,HB⟩:=hrel
         cases gk with
         |zero=>exact absurd HA.out (by simp[bg.l0])
         | succ k3=>
          have H:=HA.out
          clear HA
          simp only[bg.l0]at H
          by_cases b5:b<(a.length:Int)
          ·rw [if_pos b5]at H
           have cJ:decide (b<(a.length:Int))=true:=decide_eq_true b5
           clear b5
           by_cases cv:0≤b
           ·rw [if_pos cv]at H
            have ea:decide (0≤b)=true:=decide_eq_true cv
            clear cv
            by_cases c37:b<(a.length:Int)
            ·rw [if_pos c37]at H
             have eb:decide (b<(a.length:Int))=true:=decide_eq_true c37
             clear c37
             obtain⟨cS,cw,H⟩:=ob H
             by_cases cx:cS=true
             ·subst cx
              replace H:=it H
              obtain⟨cT,cF,H⟩:=ob H
              by_cases cy:cT=true
              ·subst cy
               replace H:=it H
               obtain⟨cU,cP,H⟩:=ob H
               by_cases cA:cU=true
               ·subst cA
                replace H:=it H
                have H' :=Aside0.mk H
                clear H
                have aL:0≤(b:Int):=od
                have aO:b<(a.length:Int):=od
                obtain⟨bc,Z,ab,ac,ad,al,am,an,ao,be,A,B,D,E,G,I,J,K,L,M,O,P,T,U,W,X⟩:=dx Y.out b aL aO
                obtain rfl:a1=bc:=(by injection be)
                obtain⟨A,B,D,E,G,I,J,K⟩:=hc8 HB A B D E G I J K
                have q:=Aside0.mk M
                have s:=Aside0.mk L
                clear M L
                have t:=Aside0.mk P
                have u:=Aside0.mk O
                clear P O
                have v:=Aside0.mk U
                have x:=Aside0.mk T
                clear U T
                have y:=Aside0.mk X
                have z:=Aside0.mk W
                clear X W
                replace aL:=eq_true aL
                replace aO:=eq_true aO
                go_wp2_with (first|((with_reducible refine gd 6 rfl ?_);(try(refine aN (by rfl) ?_;dsimp only));refine bx 6 #[.int .i64 0, .int .i64 0, .slice none 0 0, .int .i64 0, .int .i64 0, .slice none 0 0, .slice none 0 0, .slice none 0 0] 50 ?_;intro bd hg fh hbox hb;have m:=Aside0.mk hbox;have b8:=hz HB hg;have b9:=hz HB hg;have ap:=nl c hg;have aq:=ng c hg;have ar:=nl i hg;have aw:=ng i hg;have d:=nl j hg;have aB:=ng j hg;replace c:=kb c hb;replace i:=kb i hb;replace j:=kb j hb;replace HB:=hs HB hb;clear hb hbox hg;have ec:=aq.out;have ee:=ap.out;have ef:=aw.out;have eg:=ar.out;have eh:=aB.out;have ei:=d.out;obtain⟨_,_,_,_,_,_,_,_,_,_,_,_,_,_,_,_⟩:=cf8 m;have ej:=n.out;have el:=p.out;have em:=aP.out;have en:=aR.out;obtain⟨_,_,_,_⟩:=cf2 c)|((with_reducible refine gc 39 rfl ?_);refine gl (some 51) Try.func39 #[.agg #[.slice aS l.length a0, .slice (some a1) a.length a3], .agg #[.int .i64 ((aa a b).f0), .int .i64 ((aa a b).f1), .slice Z ((aa a b).f2).length ab, .int .i64 ((aa a b).f3), .int .i64 ((aa a b).f4), .slice ac ((aa a b).f5).length ad, .slice al ((aa a b).f6).length am, .slice an ((aa a b).f7).length ao]] rfl ?_;(with_reducible refine(aU.calls k3 _ _ l _ _ a ((aa a b).f0) ((aa a b).f1) _ _ ((aa a b).f2) ((aa a b).f3) ((aa a b).f4) _ _ ((aa a b).f5) _ _ ((aa a b).f6) _ _ ((aa a b).f7) true _ ?s1 ?s2 ?s3 ?s4 ?s5 ?s6 ?s7 ?s8 ?s9 ?s10 ?s11 ?s12 cw.out).mono ?_);(case s1=>exact cb aE.out);(case s2=>exact aF.out);(case s3=>exact cb Y.out);(case s4=>exact a2.out);(case s5=>exact cb q.out);(case s6=>exact s.out);(case s7=>exact cb t.out);(case s8=>exact u.out);(case s9=>exact cb v.out);(case s10=>exact x.out);(case s11=>exact cb y.out);(case s12=>exact z.out);rintro e fi ⟨rfl,hb⟩;refine⟨_,rfl, ?_⟩;replace c:=kq c hb;replace i:=kq i hb;replace j:=Aside0.mk (d9 (g:=bk) (o:=iN) (by(with_reducible repeat(first|refine ah ?_ _|refine af ?_|refine ag ?_ _));refine dB ?_ d.out _;(with_reducible repeat(first|refine ah ?_ _|refine af ?_|refine ag ?_ _));refine dB ?_ d.out _;(with_reducible repeat(first|refine ah ?_ _|refine af ?_|refine ag ?_ _));refine dB ?_ d.out _;(with_reducible repeat(first|refine ah ?_ _|refine af ?_|refine ag ?_ _));refine dB ?_ d.out _;(with_reducible repeat(first|refine ah ?_ _|refine af ?_|refine ag ?_ _));refine dB ?_ d.out _;(with_reducible repeat(first|refine ah ?_ _|refine af ?_|refine ag ?_ _));refine dB ?_ d.out _;(with_reducible repeat(first|refine ah ?_ _|refine af ?_|refine ag ?_ _));refine dB ?_ d.out _;(with_reducible repeat(first|refine ah ?_ _|refine af ?_|refine ag ?_ _));refine dB ?_ d.out _;(with_reducible repeat(first|refine ah ?_ _|refine af ?_|refine ag ?_ _));exact j.out) hb);replace m:=kp bd #[.int .i64 ((aa a b).f0), .int .i64 ((aa a b).f1), .slice Z ((aa a b).f2).length ab, .int .i64 ((aa a b).f3), .int .i64 ((aa a b).f4), .slice ac ((aa a b).f5).length ad, .slice al ((aa a b).f6).length am, .slice an ((aa a b).f7).length ao] 50 hb;replace HB:=hs HB hb;(try clear hb);obtain⟨_,_,_,_⟩:=cf2 c;obtain⟨_,_,_,_,_,_,_,_,_,_,_,_,_,_,_,_⟩:=cf8 m)|(go_at_call 40;(with_reducible refine(bi.calls k3 _ _ l _ _ a ((aa a b).f0) ((aa a b).f1) _ _ ((aa a b).f2) ((aa a b).f3) ((aa a b).f4) _ _ ((aa a b).f5) _ _ ((aa a b).f6) _ _ ((aa a b).f7) 0 true _ ?s1 ?s2 ?s3 ?s4 ?s5 ?s6 ?s7 ?s8 ?s9 ?s10 ?s11 ?s12 ?sideM cF.out).mono ?_);(case sideM=>(with_reducible repeat(first|refine ah ?_ _|refine af ?_|refine ag ?_ _));exact j.out);(case s1=>exact cb aE.out);(case s2=>exact aF.out);(case s3=>exact cb Y.out);(case s4=>exact a2.out);(case s5=>exact cb q.out);(case s6=>exact s.out);(case s7=>exact cb t.out);(case s8=>exact u.out);(case s9=>exact cb v.out);(case s10=>exact x.out);(case s11=>exact cb y.out);(case s12=>exact z.out);rintro e fj ⟨rfl,hb⟩;replace c:=kb c hb;replace i:=kb i hb;replace j:=kb j hb;replace m:=kb m hb;replace HB:=hs HB hb;(try clear hb);obtain⟨_,_,_,_⟩:=cf2 c;obtain⟨_,_,_,_,_,_,_,_,_,_,_,_,_,_,_,_⟩:=cf8 m)|(go_at_call 41;(with_reducible refine(aV.calls k3 _ _ l _ _ a ((aa a b).f0) ((aa a b).f1) _ _ ((aa a b).f2) ((aa a b).f3) ((aa a b).f4) _ _ ((aa a b).f5) _ _ ((aa a b).f6) _ _ ((aa a b).f7) true _ ?s1 ?s2 ?s3 ?s4 ?s5 ?s6 ?s7 ?s8 ?s9 ?s10 ?s11 ?s12 cP.out).mono ?_);(case s1=>exact cb aE.out);(case s2=>exact aF.out);(case s3=>exact cb Y.out);(case s4=>exact a2.out);(case s5=>exact cb q.out);(case s6=>exact s.out);(case s7=>exact cb t.out);(case s8=>exact u.out);(case s9=>exact cb v.out);(case s10=>exact x.out);(case s11=>exact cb y.out);(case s12=>exact z.out);rintro e fk ⟨rfl,hb⟩;replace c:=kb c hb;replace i:=kb i hb;replace j:=kb j hb;replace m:=kb m hb;replace HB:=hs HB hb;(try clear hb)))
                go_roundg k3
                case measure=>have:=ca.out;have:=cD.out;have:=cN.out;omega
                case rel=>exact⟨(wrap64 (b+1)),(by first|rfl|(simp;done)|(simp[*];done)),H',⟨by have:=ca.out;have:=cD.out;have:=cN.out;omega⟩,kk c,kk i,kk j,⟨bl⟩⟩
               ·replace cA:=Bool.eq_false_iff.mpr cA
                subst cA
                replace H:=ie H
                obtain rfl:=Option.some.inj H;clear H
                have aL:0≤(b:Int):=od
                have aO:b<(a.length:Int):=od
                obtain⟨bc,Z,ab,ac,ad,al,am,an,ao,be,A,B,D,E,G,I,J,K,L,M,O,P,T,U,W,X⟩:=dx Y.out b aL aO
                obtain rfl:a1=bc:=(by injection be)
                obtain⟨A,B,D,E,G,I,J,K⟩:=hc8 HB A B D E G I J K
                have q:=Aside0.mk M
                have s:=Aside0.mk L
                clear M L
                have t:=Aside0.mk P
                have u:=Aside0.mk O
                clear P O
                have v:=Aside0.mk U
                have x:=Aside0.mk T
                clear U T
                have y:=Aside0.mk X
                have z:=Aside0.mk W
                clear X W
                replace aL:=eq_true aL
                replace aO:=eq_true aO
                go_wp2_with (first|((with_reducible refine gd 6 rfl ?_);(try(refine aN (by rfl) ?_;dsimp only));refine bx 6 #[.int .i64 0, .int .i64 0, .slice none 0 0, .int .i64 0, .int .i64 0, .slice none 0 0, .slice none 0 0, .slice none 0 0] 50 ?_;intro bd hg fl hbox hb;have m:=Aside0.mk hbox;have b8:=hz HB hg;have b9:=hz HB hg;have ap:=nl c hg;have aq:=ng c hg;have ar:=nl i hg;have aw:=ng i hg;have d:=nl j hg;have aB:=ng j hg;replace c:=kb c hb;replace i:=kb i hb;replace j:=kb j hb;replace HB:=hs HB hb;clear hb hbox hg;have eo:=aq.out;have ep:=ap.out;have eq:=aw.out;have er:=ar.out;have es:=aB.out;have et:=d.out;obtain⟨_,_,_,_,_,_,_,_,_,_,_,_,_,_,_,_⟩:=cf8 m;have ev:=n.out;have ew:=p.out;have ex:=aP.out;have ey:=aR.out;obtain⟨_,_,_,_⟩:=cf2 c)|((with_reducible refine gc 39 rfl ?_);refine gl (some 51) Try.func39 #[.agg #[.slice aS l.length a0, .slice (some a1) a.length a3], .agg #[.int .i64 ((aa a b).f0), .int .i64 ((aa a b).f1), .slice Z ((aa a b).f2).length ab, .int .i64 ((aa a b).f3), .int .i64 ((aa a b).f4), .slice ac ((aa a b).f5).length ad, .slice al ((aa a b).f6).length am, .slice an ((aa a b).f7).length ao]] rfl ?_;(with_reducible refine(aU.calls k3 _ _ l _ _ a ((aa a b).f0) ((aa a b).f1) _ _ ((aa a b).f2) ((aa a b).f3) ((aa a b).f4) _ _ ((aa a b).f5) _ _ ((aa a b).f6) _ _ ((aa a b).f7) true _ ?s1 ?s2 ?s3 ?s4 ?s5 ?s6 ?s7 ?s8 ?s9 ?s10 ?s11 ?s12 cw.out).mono ?_);(case s1=>exact cb aE.out);(case s2=>exact aF.out);(case s3=>exact cb Y.out);(case s4=>exact a2.out);(case s5=>exact cb q.out);(case s6=>exact s.out);(case s7=>exact cb t.out);(case s8=>exact u.out);(case s9=>exact cb v.out);(case s10=>exact x.out);(case s11=>exact cb y.out);(case s12=>exact z.out);rintro e fm ⟨rfl,hb⟩;refine⟨_,rfl, ?_⟩;replace c:=kq c hb;replace i:=kq i hb;replace j:=Aside0.mk (d9 (g:=bk) (o:=iN) (by(with_reducible repeat(first|refine ah ?_ _|refine af ?_|refine ag ?_ _));refine dB ?_ d.out _;(with_reducible repeat(first|refine ah ?_ _|refine af ?_|refine ag ?_ _));refine dB ?_ d.out _;(with_reducible repeat(first|refine ah ?_ _|refine af ?_|refine ag ?_ _));refine dB ?_ d.out _;(with_reducible repeat(first|refine ah ?_ _|refine af ?_|refine ag ?_ _));refine dB ?_ d.out _;(with_reducible repeat(first|refine ah ?_ _|refine af ?_|refine ag ?_ _));refine dB ?_ d.out _;(with_reducible repeat(first|refine ah ?_ _|refine af ?_|refine ag ?_ _));refine dB ?_ d.out _;(with_reducible repeat(first|refine ah ?_ _|refine af ?_|refine ag ?_ _));refine dB ?_ d.out _;(with_reducible repeat(first|refine ah ?_ _|refine af ?_|refine ag ?_ _));refine dB ?_ d.out _;(with_reducible repeat(first|refine ah ?_ _|refine af ?_|refine ag ?_ _));exact j.out) hb);replace m:=kp bd #[.int .i64 ((aa a b).f0), .int .i64 ((aa a b).f1), .slice Z ((aa a b).f2).length ab, .int .i64 ((aa a b).f3), .int .i64 ((aa a b).f4), .slice ac ((aa a b).f5).length ad, .slice al ((aa a b).f6).length am, .slice an ((aa a b).f7).length ao] 50 hb;replace HB:=hs HB hb;(try clear hb);obtain⟨_,_,_,_⟩:=cf2 c;obtain⟨_,_,_,_,_,_,_,_,_,_,_,_,_,_,_,_⟩:=cf8 m)|(go_at_call 40;(with_reducible refine(bi.calls k3 _ _ l _ _ a ((aa a b).f0) ((aa a b).f1) _ _ ((aa a b).f2) ((aa a b).f3) ((aa a b).f4) _ _ ((aa a b).f5) _ _ ((aa a b).f6) _ _ ((aa a b).f7) 0 true _ ?s1 ?s2 ?s3 ?s4 ?s5 ?s6 ?s7 ?s8 ?s9 ?s10 ?s11 ?s12 ?sideM cF.out).mono ?_);(case sideM=>(with_reducible repeat(first|refine ah ?_ _|refine af ?_|refine ag ?_ _));exact j.out);(case s1=>exact cb aE.out);(case s2=>exact aF.out);(case s3=>exact cb Y.out);(case s4=>exact a2.out);(case s5=>exact cb q.out);(case s6=>exact s.out);(case s7=>exact cb t.out);(case s8=>exact u.out);(case s9=>exact cb v.out);(case s10=>exact x.out);(case s11=>exact cb y.out);(case s12=>exact z.out);rintro e fp ⟨rfl,hb⟩;replace c:=kb c hb;replace i:=kb i hb;replace j:=kb j hb;replace m:=kb m hb;replace HB:=hs HB hb;(try clear hb);obtain⟨_,_,_,_⟩:=cf2 c;obtain⟨_,_,_,_,_,_,_,_,_,_,_,_,_,_,_,_⟩:=cf8 m)|(go_at_call 41;(with_reducible refine(aV.calls k3 _ _ l _ _ a ((aa a b).f0) ((aa a b).f1) _ _ ((aa a b).f2) ((aa a b).f3) ((aa a b).f4) _ _ ((aa a b).f5) _ _ ((aa a b).f6) _ _ ((aa a b).f7) false _ ?s1 ?s2 ?s3 ?s4 ?s5 ?s6 ?s7 ?s8 ?s9 ?s10 ?s11 ?s12 cP.out).mono ?_);(case s1=>exact cb aE.out);(case s2=>exact aF.out);(case s3=>exact cb Y.out);(case s4=>exact a2.out);(case s5=>exact cb q.out);(case s6=>exact s.out);(case s7=>exact cb t.out);(case s8=>exact u.out);(case s9=>exact cb v.out);(case s10=>exact x.out);(case s11=>exact cb y.out);(case s12=>exact z.out);rintro e fr ⟨rfl,hb⟩;replace c:=kb c hb;replace i:=kb i hb;replace j:=kb j hb;replace m:=kb m hb;replace HB:=hs HB hb;(try clear hb)))
                go_ret
                exact fin
              ·replace cy:=Bool.eq_false_iff.mpr cy
               subst cy
               replace H:=ie H
               obtain rfl:=Option.some.inj H;clear H
               have aL:0≤(b:Int):=od
               have aO:b<(a.length:Int):=od
               obtain⟨bc,Z,ab,ac,ad,al,am,an,ao,be,A,B,D,E,G,I,J,K,L,M,O,P,T,U,W,X⟩:=dx Y.out b aL aO
               obtain rfl:a1=bc:=(by injection be)
               obtain⟨A,B,D,E,G,I,J,K⟩:=hc8 HB A B D E G I J K
               have q:=Aside0.mk M
               have s:=Aside0.mk L
               clear M L
               have t:=Aside0.mk P
               have u:=Aside0.mk O
               clear P O
               have v:=Aside0.mk U
               have x:=Aside0.mk T
               clear U T
               have y:=Aside0.mk X
               have z:=Aside0.mk W
               clear X W
               replace aL:=eq_true aL
               replace aO:=eq_true aO
               go_wp2_with (first|((with_reducible refine gd 6 rfl ?_);(try(refine aN (by rfl) ?_;dsimp only));refine bx 6 #[.int .i64 0, .int .i64 0, .slice none 0 0, .int .i64 0, .int .i64 0, .slice none 0 0, .slice none 0 0, .slice none 0 0] 50 ?_;intro bd hg fs hbox hb;have m:=Aside0.mk hbox;have b8:=hz HB hg;have b9:=hz HB hg;have ap:=nl c hg;have aq:=ng c hg;have ar:=nl i hg;have aw:=ng i hg;have d:=nl j hg;have aB:=ng j hg;replace c:=kb c hb;replace i:=kb i hb;replace j:=kb j hb;replace HB:=hs HB hb;clear hb hbox hg;have ez:=aq.out;have eA:=ap.out;have eC:=aw.out;have eE:=ar.out;have eI:=aB.out;have eJ:=d.out;obtain⟨_,_,_,_,_,_,_,_,_,_,_,_,_,_,_,_⟩:=cf8 m;have eK:=n.out;have eL:=p.out;have eM:=aP.out;have eN:=aR.out;obtain⟨_,_,_,_⟩:=cf2 c)|((with_reducible refine gc 39 rfl ?_);refine gl (some 51) Try.func39 #[.agg #[.slice aS l.length a0, .slice (some a1) a.length a3], .agg #[.int .i64 ((aa a b).f0), .int .i64 ((aa a b).f1), .slice Z ((aa a b).f2).length ab, .int .i64 ((aa a b).f3), .int .i64 ((aa a b).f4), .slice ac ((aa a b).f5).length ad, .slice al ((aa a b).f6).length am, .slice an ((aa a b).f7).length ao]] rfl ?_;(with_reducible refine(aU.calls k3 _ _ l _ _ a ((aa a b).f0) ((aa a b).f1) _ _ ((aa a b).f2) ((aa a b).f3) ((aa a b).f4) _ _ ((aa a b).f5) _ _ ((aa a b).f6) _ _ ((aa a b).f7) true _ ?s1 ?s2 ?s3 ?s4 ?s5 ?s6 ?s7 ?s8 ?s9 ?s10 ?s11 ?s12 cw.out).mono ?_);(case s1=>exact cb aE.out);(case s2=>exact aF.out);(case s3=>exact cb Y.out);(case s4=>exact a2.out);(case s5=>exact cb q.out);(case s6=>exact s.out);(case s7=>exact cb t.out);(case s8=>exact u.out);(case s9=>exact cb v.out);(case s10=>exact x.out);(case s11=>exact cb y.out);(case s12=>exact z.out);rintro e ft ⟨rfl,hb⟩;refine⟨_,rfl, ?_⟩;replace c:=kq c hb;replace i:=kq i hb;replace j:=Aside0.mk (d9 (g:=bk) (o:=iN) (by(with_reducible repeat(first|refine ah ?_ _|refine af ?_|refine ag ?_ _));refine dB ?_ d.out _;(with_reducible repeat(first|refine ah ?_ _|refine af ?_|refine ag ?_ _));refine dB ?_ d.out _;(with_reducible repeat(first|refine ah ?_ _|refine af ?_|refine ag ?_ _));refine dB ?_ d.out _;(with_reducible repeat(first|refine ah ?_ _|refine af ?_|refine ag ?_ _));refine dB ?_ d.out _;(with_reducible repeat(first|refine ah ?_ _|refine af ?_|refine ag ?_ _));refine dB ?_ d.out _;(with_reducible repeat(first|refine ah ?_ _|refine af ?_|refine ag ?_ _));refine dB ?_ d.out _;(with_reducible repeat(first|refine ah ?_ _|refine af ?_|refine ag ?_ _));refine dB ?_ d.out _;(with_reducible repeat(first|refine ah ?_ _|refine af ?_|refine ag ?_ _));refine dB ?_ d.out _;(with_reducible repeat(first|refine ah ?_ _|refine af ?_|refine ag ?_ _));exact j.out) hb);replace m:=kp bd #[.int .i64 ((aa a b).f0), .int .i64 ((aa a b).f1), .slice Z ((aa a b).f2).length ab, .int .i64 ((aa a b).f3), .int .i64 ((aa a b).f4), .slice ac ((aa a b).f5).length ad, .slice al ((aa a b).f6).length am, .slice an ((aa a b).f7).length ao] 50 hb;replace HB:=hs HB hb;(try clear hb);obtain⟨_,_,_,_⟩:=cf2 c;obtain⟨_,_,_,_,_,_,_,_,_,_,_,_,_,_,_,_⟩:=cf8 m)|(go_at_call 40;(with_reducible refine(bi.calls k3 _ _ l _ _ a ((aa a b).f0) ((aa a b).f1) _ _ ((aa a b).f2) ((aa a b).f3) ((aa a b).f4) _ _ ((aa a b).f5) _ _ ((aa a b).f6) _ _ ((aa a b).f7) 0 false _ ?s1 ?s2 ?s3 ?s4 ?s5 ?s6 ?s7 ?s8 ?s9 ?s10 ?s11 ?s12 ?sideM cF.out).mono ?_);(case sideM=>(with_reducible repeat(first|refine ah ?_ _|refine af ?_|refine ag ?_ _));exact j.out);(case s1=>exact cb aE.out);(case s2=>exact aF.out);(case s3=>exact cb Y.out);(case s4=>exact a2.out);(case s5=>exact cb q.out);(case s6=>exact s.out);(case s7=>exact cb t.out);(case s8=>exact u.out);(case s9=>exact cb v.out);(case s10=>exact x.out);(case s11=>exact cb y.out);(case s12=>exact z.out);rintro e fv ⟨rfl,hb⟩;replace c:=kb c hb;replace i:=kb i hb;replace j:=kb j hb;replace m:=kb m hb;replace HB:=hs HB hb;(try clear hb)))
               go_ret
               exact fin
             ·replace cx:=Bool.eq_false_iff.mpr cx
              subst cx
              replace H:=ie H
              obtain rfl:=Option.some.inj H;clear H
              have aL:0≤(b:Int):=od
              have aO:b<(a.length:Int):=od
              obtain⟨bc,Z,ab,ac,ad,al,am,an,ao,be,A,B,D,E,G,I,J,K,L,M,O,P,T,U,W,X⟩:=dx Y.out b aL aO
              obtain rfl:a1=bc:=(by injection be)
              obtain⟨A,B,D,E,G,I,J,K⟩:=hc8 HB A B D E G I J K
              have q:=Aside0.mk M
              have s:=Aside0.mk L
              clear M L
              have t:=Aside0.mk P
              have u:=Aside0.mk O
              clear P O
              have v:=Aside0.mk U
              have x:=Aside0.mk T
              clear U T
              have y:=Aside0.mk X
              have z:=Aside0.mk W
              clear X W
              replace aL:=eq_true aL
              replace aO:=eq_true aO
              go_wp2_with (first|((with_reducible refine gd 6 rfl ?_);(try(refine aN (by rfl) ?_;dsimp only));refine bx 6 #[.int .i64 0, .int .i64 0, .slice none 0 0, .int .i64 0, .int .i64 0, .slice none 0 0, .slice none 0 0, .slice none 0 0] 50 ?_;intro bd hg fx hbox hb;have m:=Aside0.mk hbox;have b8:=hz HB hg;have b9:=hz HB hg;have ap:=nl c hg;have aq:=ng c hg;have ar:=nl i hg;have aw:=ng i hg;have d:=nl j hg;have aB:=ng j hg;replace c:=kb c hb;replace i:=kb i hb;replace j:=kb j hb;replace HB:=hs HB hb;clear hb hbox hg;have eR:=aq.out;have eS:=ap.out;have eV:=aw.out;have eW:=ar.out;have e0:=aB.out;have e1:=d.out;obtain⟨_,_,_,_,_,_,_,_,_,_,_,_,_,_,_,_⟩:=cf8 m;have e2:=n.out;have e3:=p.out;have e4:=aP.out;have e5:=aR.out;obtain⟨_,_,_,_⟩:=cf2 c)|((with_reducible refine gc 39 rfl ?_);refine gl (some 51) Try.func39 #[.agg #[.slice aS l.length a0, .slice (some a1) a.length a3], .agg #[.int .i64 ((aa a b).f0), .int .i64 ((aa a b).f1), .slice Z ((aa a b).f2).length ab, .int .i64 ((aa a b).f3), .int .i64 ((aa a b).f4), .slice ac ((aa a b).f5).length ad, .slice al ((aa a b).f6).length am, .slice an ((aa a b).f7).length ao]] rfl ?_;(with_reducible refine(aU.calls k3 _ _ l _ _ a ((aa a b).f0) ((aa a b).f1) _ _ ((aa a b).f2) ((aa a b).f3) ((aa a b).f4) _ _ ((aa a b).f5) _ _ ((aa a b).f6) _ _ ((aa a b).f7) false _ ?s1 ?s2 ?s3 ?s4 ?s5 ?s6 ?s7 ?s8 ?s9 ?s10 ?s11 ?s12 cw.out).mono ?_);(case s1=>exact cb aE.out);(case s2=>exact aF.out);(case s3=>exact cb Y.out);(case s4=>exact a2.out);(case s5=>exact cb q.out);(case s6=>exact s.out);(case s7=>exact cb t.out);(case s8=>exact u.out);(case s9=>exact cb v.out);(case s10=>exact x.out);(case s11=>exact cb y.out);(case s12=>exact z.out);rintro e fy ⟨rfl,hb⟩;refine⟨_,rfl, ?_⟩;replace c:=kq c hb;replace i:=kq i hb;replace j:=Aside0.mk (d9 (g:=bk) (o:=iN) (by(with_reducible repeat(first|refine ah ?_ _|refine af ?_|refine ag ?_ _));refine dB ?_ d.out _;(with_reducible repeat(first|refine ah ?_ _|refine af ?_|refine ag ?_ _));refine dB ?_ d.out _;(with_reducible repeat(first|refine ah ?_ _|refine af ?_|refine ag ?_ _));refine dB ?_ d.out _;(with_reducible repeat(first|refine ah ?_ _|refine af ?_|refine ag ?_ _));refine dB ?_ d.out _;(with_reducible repeat(first|refine ah ?_ _|refine af ?_|refine ag ?_ _));refine dB ?_ d.out _;(with_reducible repeat(first|refine ah ?_ _|refine af ?_|refine ag ?_ _));refine dB ?_ d.out _;(with_reducible repeat(first|refine ah ?_ _|refine af ?_|refine ag ?_ _));refine dB ?_ d.out _;(with_reducible repeat(first|refine ah ?_ _|refine af ?_|refine ag ?_ _));refine dB ?_ d.out _;(with_reducible repeat(first|refine ah ?_ _|refine af ?_|refine ag ?_ _));exact j.out) hb);replace m:=kp bd #[.int .i64 ((aa a b).f0), .int .i64 ((aa a b).f1), .slice Z ((aa a b).f2).length ab, .int .i64 ((aa a b).f3), .int .i64 ((aa a b).f4), .slice ac ((aa a b).f5).length ad, .slice al ((aa a b).f6).length am, .slice an ((aa a b).f7).length ao] 50 hb;replace HB:=hs HB hb;(try clear hb)))
              go_ret
              exact fin
            ·rw[if_neg c37]at H
             exact absurd H (by simp)
           ·rw[if_neg cv]at H
            exact absurd H (by simp)
          ·rw[if_neg b5]at H
           have cJ:decide (b<(a.length:Int))=false:=decide_eq_false b5
           clear b5
           obtain⟨cV,de,H⟩:=ob H
           obtain rfl:=Option.some.inj H;clear H
           have e6:=n.out
           have e7:=p.out
           have e8:=aP.out
           have e9:=aR.out
           obtain⟨_,_,_,_⟩:=cf2 c
           go_wp2_with (first|((with_reducible refine gc 42 rfl ?_);refine gl (some 68) Try.func42 #[.agg #[.slice aS l.length a0, .slice (some a1) a.length a3]] rfl ?_;(with_reducible refine(bA.calls k3 _ _ l _ _ a cV _ ?s1 ?s2 ?s3 ?s4 de.out).mono ?_);(case s1=>exact cb aE.out);(case s2=>exact aF.out);(case s3=>exact cb Y.out);(case s4=>exact a2.out);rintro e fz ⟨rfl,hb⟩;refine⟨_,rfl, ?_⟩;replace c:=kb c hb;replace i:=kb i hb;replace j:=kb j hb;replace HB:=hs HB hb;(try clear hb)))
           go_ret
           exact fin
    ·rw[if_neg c16]at H
     exact absurd H (by simp)
set_option maxHeartbeats 8000000 in
set_option maxRecDepth 100000 in
theorem fT.calls (j:Option Addr) (k:Nat) (b:List (S71)) (l:Option Addr) (m:Nat) (a:List (S50)) (a1:Int) (r:Bool) (w:World) (c:Kd.C k71 w j b.length b) (d:b.length≤k) (g:Kd.C k50 w l a.length a) (i:a.length≤m) (h:fT.f b a a1=some r):
  Calls Try.prog 21 #[.agg #[.slice j b.length k, .slice l a.length m], .int .i64 a1] w fun e w' =>e= .returned (.bool r)∧Below w.heap.size w w' :=by
 have t:=Try.underlying34
 have o:=Aside0.mk c
 have p:=Aside0.mk d
 clear c d
 have q:=Aside0.mk g
 have s:=Aside0.mk i
 clear g i
 have HB:=Aside0.mk (Below.refl w.heap.size w)
 have H:(if a1≥0 then(some (decide (a1<(a.length:Int))))else(some false))=some r:=h
 clear h
 by_cases c3:a1≥0
 ·rw[if_pos c3]at H
  have n:decide (0≤a1)=true:=decide_eq_true c3
  clear c3
  obtain rfl:=Option.some.inj H;clear H
  go_enter Try.func21,Try.ntmps21
  go_wp2
  go_ret
  exact fin
 ·rw[if_neg c3]at H
  have n:decide (0≤a1)=false:=decide_eq_false c3
  clear c3
  obtain rfl:=Option.some.inj H;clear H
  go_enter Try.func21,Try.ntmps21
  go_wp2
  go_ret
  exact fin
end Go.Proofs.Yteinbmkgenhocaa.P
end
section
namespace Go.Proofs.Yteinbmkgenhocaa.P
open Go Go.RowKit Go.Proofs.YteinbmkgenhocaaW.PrintWords Go.Proofs.YteinbmkgenhocaaW.PrintLast Go.Proofs.YteinbmkgenhocaaW.PrintMore
set_option linter.unusedVariables false
theorem qJ {P:Program} (w:World) (dT sT ty:TypeId) (hu:P.underlying dT=some (.slice 3)) (hs:(P.info? 3).map (·.size)=some 1)
    {base:Nat} {ok:Nat→Prop} {v1:Value} {xs ys:List Int} {A:Option Addr} {c:Nat}
    (h1:Kd.R (Kd.int .i64) 3 w base ok v1 xs) (h2:Kd.C (Kd.int .i64) w A ys.length ys):
    ∃N w',(Builtin.copy_ #[dT,sT] ty #[v1, .slice A ys.length c]).run P w= .ok (goInt N) w' ∧Kd.R (Kd.int .i64) 3 w' base ok v1 (iG xs ys)∧w.grownBy w' v1.ownBlock:=by
  have ho:=Kd.own_of_R h1
  obtain⟨hl,⟨rfl,hn⟩|⟨g,cap,cur,rfl,hg,hh,hc1,hc2,hsz,hcur⟩⟩:=id ho
  · have hx:xs= []:=List.eq_nil_of_length_eq_zero hn
    subst hx
    exact⟨0,w,run_copy_none w dT sT ty 3 none A 0 0 ys.length c hu hs (by simp),by simpa[iG] using h1,⟨rfl,rfl,rfl,Nat.le_refl _,fun _ _ _=>rfl⟩⟩
  · cases ys with
    |nil=>exact⟨0,w,run_copy_none w dT sT ty 3 _ A _ _ _ c hu hs (by simp),by simpa[iG] using h1,⟨rfl,rfl,rfl,Nat.le_refl _,fun _ _ _=>rfl⟩⟩
    | cons y ys=>
      obtain⟨ad,c0,rfl,_⟩:=Kd.C_get h2 0 0 (by omega) (by simp)
      have hsrc: ∀j v,(((y::ys).take xs.length).map (Value.int .i64))[j]? =some v→w.cell? (ad.add j)=some v:=by
        intro j v hj
        rw[List.getElem?_map,Option.map_eq_some_iff]at hj
        obtain⟨z,hz,rfl⟩:=hj
        have hz' :(y::ys)[j]? =some z:=by
          rw[List.getElem?_take]at hz
          split at hz
          ·exact hz
          ·cases hz
        have hjl:j<(y::ys).length:=(List.getElem?_eq_some_iff.1 hz').1
        obtain⟨ad',c',e,hcl,hK,hcc⟩:=Kd.C_get h2 0 (j:Int) (by omega) (by omega)
        cases e
        have hK' :c' = [.int .i64 ((y::ys).getD (j:Int).toNat 0)]:=hK
        have:=hcc 0 (.int .i64 ((y::ys).getD (j:Int).toNat 0)) (by rw[hK'];rfl)
        have e1:(Kd.int .i64).sz=1:=rfl
        rw[e1,Nat.mul_one,Nat.add_zero]at this
        rw[show((j:Int).toNat)=j by omega]at this
        rw[this,List.getD_eq_getElem?_getD,hz']
        rfl
      have hlen:(((y::ys).take xs.length).map (Value.int .i64)).length=Nat.min (y::ys).length xs.length:=by simp[Nat.min_comm]
      have hM:Nat.min (y::ys).length xs.length≤xs.length:=Nat.min_le_right _ _
      have hr:=run_copy_row P w dT sT ty 3 g 0 xs.length cap ad (y::ys).length c cur 3 _ hu hs hh hlen hsrc (by rw[hlen,hsz.trans (Nat.mul_one cap)];have:=hc1;have:=hM;omega) (by intro v hv;rw[List.mem_map]at hv;obtain⟨z,_,rfl⟩:=hv;rfl)
      refine⟨_,_,hr, ?_, ?_⟩
      · have hlt:g<w.heap.size:=fu hh
        refine Kd.R_of_own ⟨by simp[encs], .inr ⟨g,cap,_, ?_,hg,setRow_heap w g cur _ 3 (0,0) hh, ?_,hc2, ?_, ?_⟩⟩ h1.1
        ·rw[show(iG xs (y::ys)).length=xs.length by simp[iG];omega]
        ·simpa[iG] using (show min (xs.length) (ys.length+1)+(xs.length - (ys.length+1))≤cap by omega)
        · have hcs:cur.toList.length=cap:=hsz.trans (Nat.mul_one cap)
          simp only[List.take_zero,List.nil_append,Nat.zero_add,Nat.mul_one,List.size_toArray,List.length_append,List.length_drop,hcs]
          rw[hlen]
          have:=hM
          have:=hc1
          omega
        · have hcs:cur.toList.length=cap:=hsz.trans (Nat.mul_one cap)
          rw[Nat.mul_one]at hcur
          have hll:(iG xs (y::ys)).length=xs.length:=by simp[iG];omega
          rw[hll,Nat.mul_one,List.take_zero,List.nil_append,Nat.zero_add]
          rw[List.take_append,hlen]
          have hm:=Nat.min_le_right (y::ys).length xs.length
          rw[List.take_of_length_le (by rw[hlen];exact hm)]
          have e2:(cur.toList.drop (Nat.min (y::ys).length xs.length)).take (xs.length - Nat.min (y::ys).length xs.length)=(encs (Value.int .i64) xs).drop (Nat.min (y::ys).length xs.length):=by
            rw[←hcur,List.drop_take]
          rw[e2]
          simp only[encs,iG,List.map_append]
          congr 1
          rw[←List.map_drop]
          congr 1
          rcases Nat.le_total (y::ys).length xs.length with h|h
          ·rw[show Nat.min (y::ys).length xs.length=(y::ys).length from Nat.min_eq_left h]
          ·rw[show Nat.min (y::ys).length xs.length=xs.length from Nat.min_eq_right h,List.drop_of_length_le (Nat.le_refl _),List.drop_of_length_le h]
      · refine⟨rfl,rfl,rfl,by simp[World.setRow],fun k hk hne=> ?_⟩
        have:k≠g:=fun e=>hne (by rw[e];rfl)
        simp only[World.setRow]
        rw[Array.getElem?_modify,if_neg (fun e=>this e.symm)]
end Go.Proofs.Yteinbmkgenhocaa.P
end
section
namespace Go.Proofs.Yteinbmkgenhocaa.P
open Go Go.RowKit Go.Proofs.YteinbmkgenhocaaW.PrintWords Go.Proofs.YteinbmkgenhocaaW.PrintLast Go.Proofs.YteinbmkgenhocaaW.PrintMore
set_option linter.unusedVariables false
set_option linter.unusedSimpArgs false
theorem oJ {P:Program} {ops:Array Oper} {rest:List Oper} {o:Oper} {a:Act} {Q:Exit→Act→World→Prop} {W w' :World} (d s:Operand) (t t' :TypeId) {v u v' :Value} (hgd:o.guard=none)
    (ho:o.op= .call {callee:= .builtin .copy,args:= #[d,s],argTypes:= #[t,t']}) (hd:a.eval d=v) (hs:a.eval s=u)
    (hr:(Builtin.copy_ #[t,t'] o.type #[v,u]).run P W= .ok v' w') (h:wpList P ops Q rest (a.put o.dst v') w'):wpList P ops Q (o::rest) a W:=
  wpList_plain hgd fun K hK=>by
    unfold Oper.wp execOp
    simp only[ho,resolve,invoke,builtin,Sem.run_bind,Sem.run_pure,Result.andThen_ok,List.map_toArray,List.map_cons,List.map_nil,hd,hs,hr]
    exact hK _ _ h
set_option maxHeartbeats 8000000 in
set_option maxRecDepth 100000 in
theorem eH.calls (m:Int) (n:Int) (q:Option Addr) (r:Nat) (b:List Int) (o:Int) (a:Int) (s:Option Addr) (u:Nat) (d:List (S97)) (v:Option Addr) (x:Nat) (g:List (S29)) (y:Option Addr) (z:Nat) (i:List (S102)) (r1:Bool) (r2:List Int) (r3:List Int) (w:World) (A:Kd.C (Kd.int .i64) w q b.length b) (B:b.length≤r) (D:Kd.C k97 w s d.length d) (E:d.length≤u) (G:Kd.C k29 w v g.length g) (I:g.length≤x) (J:Kd.C dQ w y i.length i) (K:i.length≤z) (h:eH.f m n b o a d g i=some (r1,r2,r3)):
    Calls Try.prog 22 #[.agg #[.int .i64 m, .int .i64 n, .slice q b.length r, .int .i64 o, .int .i64 a, .slice s d.length u, .slice v g.length x, .slice y i.length z]] w fun e w' => ∃O T:Value,e= .returned (.agg #[.bool r1,O,T])∧Kd.R (Kd.int .i64) 3 w' w.heap.size (fun k_=>some k_≠(T:Value).ownBlock) O r2∧Kd.R (Kd.int .i64) 3 w' w.heap.size (fun k_=>some k_≠(O:Value).ownBlock) T r3∧Below w.heap.size w w' :=by
  have hu1:=Try.underlying50
  have hu2:=Try.underlying29
  have HR2:=Aside0.mk A
  have X:=Aside0.mk B
  have Y:=Aside0.mk D
  have Z:=Aside0.mk E
  have ab:=Aside0.mk G
  have ac:=Aside0.mk I
  have ad:=Aside0.mk J
  have al:=Aside0.mk K
  clear A B D E G I J K
  have HB:=Aside0.mk (Below.refl w.heap.size w)
  unfold eH.f at h
  by_cases c1:0≤a
  case neg=>rw[if_neg c1]at h;cases h
  by_cases c2:a.toNat≤35184372088832
  case neg=>rw[if_pos c1,if_neg c2]at h;cases h
  rw[if_pos c1,if_pos c2]at h
  obtain⟨t,A2,h⟩:=Option.bind_eq_some_iff.mp h
  simp only[Option.some.injEq,Prod.mk.injEq]at h
  obtain⟨rfl,rfl,rfl⟩:=h
  have A2:=Aside0.mk A2
  have C1:=Aside0.mk c1
  have C2:=Aside0.mk c2
  clear c1 c2
  go_enter Try.func22,Try.ntmps22
  go_wp2_with (first|((with_reducible refine gd 1 rfl ?_);refine bx 1 #[.int .i64 m, .int .i64 n, .slice q b.length r, .int .i64 o, .int .i64 a, .slice s d.length u, .slice v g.length x, .slice y i.length z] 50 ?_;intro ap hg w3 hbox hb;have j:=Aside0.mk hbox;have aq:=hz HB hg;replace HB:=hs HB hb;clear hb hbox hg)|((with_reducible refine gd 2 rfl ?_);refine bx 2 #[.bool false, .slice none 0 0, .slice none 0 0] 29 ?_;intro L hg w4 hbox hb;have l:=Aside0.mk hbox;have U:=hz HB hg;replace j:=kb j hb;replace HB:=hs HB hb;clear hb hbox hg;obtain⟨_,_,_,_,_,_,_,_,_,_,_,_,_,_,_,_⟩:=cf8 j)|((with_reducible refine gd 6 rfl ?_);refine Kd.R_make (Kd.int .i64) _ 3 rfl (N:=6) rfl 27 _ _ rfl a rfl rfl Try.underlying27 (.int .i64 0) 8 info3 rfl (by decide) (by omega) 0 (ok:=fun _=>True) (okp:=fun _=>True) rfl (fun _ hk=>hk) trivial C1.out (Nat.le_trans (Nat.mul_le_mul_right _ C2.out) (by omega)) (Below.refl _ _) (Nat.le_refl _) ?_;intro v5 w5 ho hb hg_ hnew_;clear hg_ hnew_;have HO:=Aside0.mk (Kd.R_lower ho (aK bl));replace j:=kb j hb;replace l:=kb l hb;replace HB:=hs HB hb;clear hb ho;obtain⟨_,_,_,_,_,_,_,_,_,_,_,_,_,_,_,_⟩:=cf8 j)|((with_reducible refine gc 43 rfl ?_);refine gl (some 9) Try.func43 #[.agg #[.int .i64 m, .int .i64 n, .slice q b.length r, .int .i64 o, .int .i64 a, .slice s d.length u, .slice v g.length x, .slice y i.length z]] rfl ?_;(with_reducible refine(fF.calls m n _ _ b o a _ _ d _ _ g _ _ i t _ (cb HR2.out) X.out (cb Y.out) Z.out (cb ab.out) ac.out (cb ad.out) al.out A2.out).mono ?_);rintro e w6 ⟨v6,rfl,ho,hb⟩;refine⟨_,rfl, ?_⟩;have am:=Aside0.mk ho;replace HO:=Aside0.mk (Kd.R_below HO.out hb);replace j:=kb j hb;replace l:=kb l hb;replace HB:=hs HB hb;clear hb ho)|((with_reducible refine gd 10 rfl ?_);have hX:=am.out;obtain⟨A6,c6,rfl,hc6,an⟩:=Kd.R_reads hX;obtain⟨N,w7,hrun,W,M⟩:=qJ (P:=Try.prog) _ 27 27 3 Try.underlying27 (by kernel_rfl) HO.out an (c:=c6);refine oJ (.tmp 7) (.tmp 9) 27 27 rfl rfl rfl rfl hrun ?_;replace j:=Aside0.mk (fI j.out M (Kd.R_ne HO.out j.out (by decide)));replace l:=Aside0.mk (fI l.out M (Kd.R_ne HO.out l.out (by decide)));have ao:=Aside0.mk W;replace HB:=Aside0.mk (Below.grown HB.out M (aK HB.out) (fun k hk=>Kd.R_base HO.out k hk));obtain⟨A5,c5,rfl⟩:=Kd.R_slice W;clear hX hrun W M;obtain⟨_,_,_,_,_,_⟩:=cf3 l))
  refine bodyPost_ret (results_cell_row rfl _ _ L 29 #[.bool true, .slice A5 (iG (List.replicate a.toNat 0) t).length c5, .slice none 0 0] (0,0) _ rfl (by(with_reducible repeat(first|refine ah ?_ _|refine af ?_|refine ag ?_ _));refine bH (cs:= #[.bool true, .slice A5 (iG (List.replicate a.toNat 0) t).length c5, .slice none 0 0]) ?_ 2 _ rfl;refine bH (cs:= #[.bool true, .slice none 0 0, .slice none 0 0]) ?_ 1 _ rfl;refine bH (cs:= #[.bool false, .slice none 0 0, .slice none 0 0]) ?_ 0 _ rfl;exact l.out) Try.underlying29 rfl (by kernel_rfl)) rfl ?_
  exact⟨_,_,rfl,Kd.R_mono (Kd.R_far (p:=⟨L,2,none⟩) (Kd.R_far (p:=⟨L,1,none⟩) (Kd.R_far (p:=⟨L,0,none⟩) (Kd.R_types ao.out l.out (by decide)) (fun _ hk=>hk.2) _) (fun _ hk=>hk.2) _) (fun _ hk=>hk.2) _) (fun _ _=>by simp[Value.ownBlock]),Kd.R_nil _ _ _ _ _,bn (bn (bn HB.out U.out) U.out) U.out⟩
end Go.Proofs.Yteinbmkgenhocaa.P
end
