/- A part of the claim FnExactShapeStart: texts of this session and texts that its program printed out of the translation, joined. -/
import Derived.Test.YteinbmkgenhocaaCFnExactShapeStart24
section
namespace Go.Proofs.Yteinbmkgenhocaa.P
open Go.RowKit Go.Proofs.YteinbmkgenhocaaW.PrintWords Go.Proofs.YteinbmkgenhocaaW.PrintLast Go.Proofs.YteinbmkgenhocaaW.PrintMore
attribute [local go_sem] ak au aA aC ai aj av ax
set_option linter.unusedVariables false
set_option linter.unusedSimpArgs false
def aI.T32:Bool×List (List Nat×List Nat):=(true, [([], []),([0], [0]),([1], [1]),([2,1], [1,2]),([1], [1]),([4,1], [1,4]),([1], [1]),([6,1], [1,6]),([5,7,1,1], [1,5,7]),([8,1], [1,8]),([9,1], [1,9]),([3,10,8,1], [1,3,10]),([1,11], [1,11]),([12,11,0,1,2,3,4,5,6,7,8,9,10,11,12], [12])])
def aI.B32:List Nat:= [0,1,3,7,3,19,3,67,243,499,1011,2047,4095,8191]
theorem aI.tab32:ed .any (opsOf Try.f72 32)=aI.T32:=by kernel_rfl
theorem aI.bits32:eP aI.T32.2 aI.B32=true:=by kernel_rfl
set_option maxHeartbeats 8000000 in
set_option maxRecDepth 100000 in
theorem aI.calls (k : Nat) (J:Option Addr) (L:Nat) (p:List (S71)) (P:Option Addr) (T:Nat) (q:List (S50)) (B:Int) (D:Int) (U:Option Addr) (W:Nat) (v:List Int) (E:Int) (u:Int) (X:Option Addr) (Y:Nat) (t:List (S97)) (Z:Option Addr) (ab:Nat) (x:List (S29)) (ac:Option Addr) (ad:Nat) (y:List (S102)) (a:Int) (c:Int) (s:Int) (r:Bool) (w:World) (ck:Kd.C k71 w J p.length p) (cl:p.length≤L) (cm:Kd.C k50 w P q.length q) (cn:q.length≤T) (co:Kd.C (Kd.int .i64) w U v.length v) (cp:v.length≤W) (cq:Kd.C k97 w X t.length t) (cr:t.length≤Y) (cs:Kd.C k29 w Z x.length x) (ct:x.length≤ab) (cv:Kd.C dQ w ac y.length y) (cw:y.length≤ad) (h:aI.f k p q B D v E u t x y a c s=some r):
  Calls Try.prog 72 #[.agg #[.slice J p.length L, .slice P q.length T], .agg #[.int .i64 B, .int .i64 D, .slice U v.length W, .int .i64 E, .int .i64 u, .slice X t.length Y, .slice Z x.length ab, .slice ac y.length ad], .agg #[.int .i64 a, .int .i64 c, .int .i64 s]] w fun e w' =>e= .returned (.bool r)∧Below w.heap.size w w' :=by
 have hu:=Try.underlying34
 have hv:=Try.underlying50
 have hw:=Try.underlying97
 have cN:=Aside0.mk ck
 have cP:=Aside0.mk cl
 clear ck cl
 have cQ:=Aside0.mk cm
 have ft:=Aside0.mk cn
 clear cm cn
 have fv:=Aside0.mk co
 have fx:=Aside0.mk cp
 clear co cp
 have fy:=Aside0.mk cq
 have fz:=Aside0.mk cr
 clear cq cr
 have fL:=Aside0.mk cs
 have fN:=Aside0.mk ct
 clear cs ct
 have fR:=Aside0.mk cv
 have fS:=Aside0.mk cw
 clear cv cw
 have HB:=Aside0.mk (Below.refl w.heap.size w)
 have H:((aH.f c 0 (wrap64 ((p.length:Int) - 1))).bind fun t152=>(if a=1 then((gJ.f c).bind fun b9=>(if b9=true then(some (s==0))else(some false)))else(if a=2 then(aI.j0 k t152 a (a==2) p q B D v E u t x y a c s)else(if a=5 then(aI.j0 k t152 a (a==5) p q B D v E u t x y a c s)else(if a=6 then(aI.j0 k t152 a (a==6) p q B D v E u t x y a c s)else(if a=14 then(aI.j0 k t152 a (a==14) p q B D v E u t x y a c s)else(if a=22 then(aI.j0 k t152 a (a==22) p q B D v E u t x y a c s)else(if a=23 then(aI.j0 k t152 a (a==23) p q B D v E u t x y a c s)else(aI.j0 k t152 a (a==24) p q B D v E u t x y a c s)))))))))=some r:=h
 clear h
 obtain⟨t152,A4,H⟩:=ob H
 by_cases c5:a=1
 ·rw[if_pos c5]at H
  have d6:=beq_iff_eq.mpr c5
  have d7:=bne_eq_false_iff_eq.mpr c5
  clear c5
  obtain⟨b9,A6,H⟩:=ob H
  by_cases c7:b9=true
  ·subst c7
   replace H:=it H
   obtain rfl:=Option.some.inj H;clear H
   go_enter Try.func72,Try.ntmps72
   go_wp2_with (first|((with_reducible refine gc 33 rfl ?_);refine gl (some 14) Try.func33 #[.int .i64 c, .int .i64 0, .int .i64 (wrap64 ((p.length:Int) - 1))] rfl ?_;(with_reducible refine(aH.calls c 0 (wrap64 ((p.length:Int) - 1)) t152 _ A4.out).mono ?_);rintro e w' ⟨rfl,⟨nd,rfl⟩⟩;refine⟨_,rfl, ?_⟩)|((with_reducible refine gc 86 rfl ?_);refine gl (some 21) Try.func86 #[.int .i64 c] rfl ?_;(with_reducible refine(gJ.calls c true _ A6.out).mono ?_);rintro e w' ⟨rfl,⟨nd,rfl⟩⟩;refine⟨_,rfl, ?_⟩))
   go_ret
   exact fin
  ·replace c7:=Bool.eq_false_iff.mpr c7
   subst c7
   replace H:=ie H
   obtain rfl:=Option.some.inj H;clear H
   go_enter Try.func72,Try.ntmps72
   go_wp2_with (first|((with_reducible refine gc 33 rfl ?_);refine gl (some 14) Try.func33 #[.int .i64 c, .int .i64 0, .int .i64 (wrap64 ((p.length:Int) - 1))] rfl ?_;(with_reducible refine(aH.calls c 0 (wrap64 ((p.length:Int) - 1)) t152 _ A4.out).mono ?_);rintro e w' ⟨rfl,⟨nd,rfl⟩⟩;refine⟨_,rfl, ?_⟩)|((with_reducible refine gc 86 rfl ?_);refine gl (some 21) Try.func86 #[.int .i64 c] rfl ?_;(with_reducible refine(gJ.calls c false _ A6.out).mono ?_);rintro e w' ⟨rfl,⟨nd,rfl⟩⟩;refine⟨_,rfl, ?_⟩))
   go_ret
   exact fin
 ·rw [if_neg c5] at H
  have d6:=beq_eq_false_iff_ne.mpr c5
  have d7:=bne_iff_ne.mpr c5
  have ca:=Aside0.mk H
  clear H
  go_enter Try.func72,Try.ntmps72
  go_upto_if 27 with(first|((with_reducible refine gd 3 rfl ?_);(try(refine aN (by rfl) ?_;dsimp only));refine bx 3 #[.slice J p.length L, .slice P q.length T] 34 ?_;intro O hg hB hbox hb;have d:=Aside0.mk hbox;have fW:=hz HB hg;have fX:=hz HB hg;replace HB:=hs HB hb;clear hb hbox hg)|((with_reducible refine gd 4 rfl ?_);(try(refine aN (by rfl) ?_;dsimp only));refine bx 4 #[.int .i64 B, .int .i64 D, .slice U v.length W, .int .i64 E, .int .i64 u, .slice X t.length Y, .slice Z x.length ab, .slice ac y.length ad] 50 ?_;intro an hg hC hbox hb;have g:=Aside0.mk hbox;have fY:=hz HB hg;have f0:=hz HB hg;have z:=nl d hg;have A:=ng d hg;replace d:=kb d hb;replace HB:=hs HB hb;clear hb hbox hg)|((with_reducible refine gd 5 rfl ?_);(try(refine aN (by rfl) ?_;dsimp only));refine bx 5 #[.int .i64 a, .int .i64 c, .int .i64 s] 97 ?_;intro I hg hD hbox hb;have b:=Aside0.mk hbox;have f1:=hz HB hg;have f2:=hz HB hg;have j:=nl d hg;have l:=ng d hg;have m:=nl g hg;have o:=ng g hg;replace d:=kb d hb;replace g:=kb g hb;replace HB:=hs HB hb;clear hb hbox hg;have f3:=l.out;have f4:=j.out;have f5:=o.out;have f6:=m.out;obtain⟨_,_,_,_,_,_⟩:=cf3 b;have f7:=z.out;have f8:=A.out;obtain⟨_,_,_,_⟩:=cf2 d)|((with_reducible refine gc 33 rfl ?_);refine gl (some 14) Try.func33 #[.int .i64 c, .int .i64 0, .int .i64 (wrap64 ((p.length:Int) - 1))] rfl ?_;(with_reducible refine(aH.calls c 0 (wrap64 ((p.length:Int) - 1)) t152 _ A4.out).mono ?_);rintro e w' ⟨rfl,⟨nd,rfl⟩⟩;refine⟨_,rfl, ?_⟩))
  (try simp only[Act.put,List.setIfInBounds_toArray,List.set_cons_zero,List.set_cons_succ])
  go_cut [27] (fun v27 wc=> ∃(kq:Nat) (ar:Bool),v27= .bool ar∧Aside0 (aI.j0 kq t152 a ar p q B D v E u t x y a c s=some r)∧Aside0 (kq≤k)∧Aside0 (wc.heap[O]? =some (.cells #[(.slice J p.length L),(.slice P q.length T)] 34 (0,0)))∧Aside0 (wc.heap[an]? =some (.cells #[.int .i64 B, .int .i64 D,(.slice U v.length W), .int .i64 E, .int .i64 u,(.slice X t.length Y),(.slice Z x.length ab),(.slice ac y.length ad)] 50 (0,0)))∧Aside0 (wc.heap[I]? =some (.cells #[.int .i64 a, .int .i64 c, .int .i64 s] 97 (0,0)))∧Aside0 (Below w.heap.size w wc))
  case first=>
   have H:=ca.out
   clear ca
   by_cases a0:a=2
   ·rw[if_pos a0]at H
    have aw:=beq_iff_eq.mpr a0
    have cR:=bne_eq_false_iff_eq.mpr a0
    clear a0
    (first|rw[aw]|(simp only[bT,bU];rw[aw])|skip)
    have H' :=Aside0.mk H
    clear H
    go_wp2
    go_meet
    case rel=>exact⟨_,((a==2)),(by first|rfl|(simp;done)|(simp[*];done)),H',⟨by first|omega|exact Nat.le_refl _⟩,kk d,kk g,kk b,⟨bl⟩⟩
   ·rw [if_neg a0]at H
    have aw:=beq_eq_false_iff_ne.mpr a0
    have cR:=bne_iff_ne.mpr a0
    (first|rw[aw]|(simp only[bT,bU];rw[aw])|skip)
    by_cases c34:a=5
    ·rw[if_pos c34]at H
     have cS:=beq_iff_eq.mpr c34
     have cT:=bne_eq_false_iff_eq.mpr c34
     clear c34
     have H' :=Aside0.mk H
     clear H
     go_wp2
     go_meet
     case rel=>exact⟨_,((a==5)),(by first|rfl|(simp;done)|(simp[*];done)),H',⟨by first|omega|exact Nat.le_refl _⟩,kk d,kk g,kk b,⟨bl⟩⟩
    ·rw [if_neg c34]at H
     have cS:=beq_eq_false_iff_ne.mpr c34
     have cT:=bne_iff_ne.mpr c34
     by_cases a1:a=6
     ·rw[if_pos a1]at H
      have cU:=beq_iff_eq.mpr a1
      have cV:=bne_eq_false_iff_eq.mpr a1
      clear a1
      have H' :=Aside0.mk H
      clear H
      go_wp2
      go_meet
      case rel=>exact⟨_,((a==6)),(by first|rfl|(simp;done)|(simp[*];done)),H',⟨by first|omega|exact Nat.le_refl _⟩,kk d,kk g,kk b,⟨bl⟩⟩
     ·rw [if_neg a1]at H
      have cU:=beq_eq_false_iff_ne.mpr a1
      have cV:=bne_iff_ne.mpr a1
      by_cases a2:a=14
      ·rw[if_pos a2]at H
       have cW:=beq_iff_eq.mpr a2
       have cX:=bne_eq_false_iff_eq.mpr a2
       clear a2
       have H' :=Aside0.mk H
       clear H
       go_wp2
       go_meet
       case rel=>exact⟨_,((a==14)),(by first|rfl|(simp;done)|(simp[*];done)),H',⟨by first|omega|exact Nat.le_refl _⟩,kk d,kk g,kk b,⟨bl⟩⟩
      ·rw[if_neg a2]at H
       have cW:=beq_eq_false_iff_ne.mpr a2
       have cX:=bne_iff_ne.mpr a2
       by_cases c37:a=22
       ·rw[if_pos c37]at H
        have cY:=beq_iff_eq.mpr c37
        have c0:=bne_eq_false_iff_eq.mpr c37
        clear c37
        have H' :=Aside0.mk H
        clear H
        go_wp2
        go_meet
        case rel=>exact⟨_,((a==22)),(by first|rfl|(simp;done)|(simp[*];done)),H',⟨by first|omega|exact Nat.le_refl _⟩,kk d,kk g,kk b,⟨bl⟩⟩
       ·rw[if_neg c37]at H
        have cY:=beq_eq_false_iff_ne.mpr c37
        have c0:=bne_iff_ne.mpr c37
        by_cases a3:a=23
        ·rw[if_pos a3]at H
         have c1:=beq_iff_eq.mpr a3
         have da:=bne_eq_false_iff_eq.mpr a3
         clear a3
         have H' :=Aside0.mk H
         clear H
         go_wp2
         go_meet
         case rel=>exact⟨_,((a==23)),(by first|rfl|(simp;done)|(simp[*];done)),H',⟨by first|omega|exact Nat.le_refl _⟩,kk d,kk g,kk b,⟨bl⟩⟩
        ·rw[if_neg a3]at H
         have c1:=beq_eq_false_iff_ne.mpr a3
         have da:=bne_iff_ne.mpr a3
         have H' :=Aside0.mk H
         clear H
         go_wp2
         go_meet
         case rel=>exact⟨_,((a==24)),(by first|rfl|(simp;done)|(simp[*];done)),H',⟨by first|omega|exact Nat.le_refl _⟩,kk d,kk g,kk b,⟨bl⟩⟩
  case rest =>
   clear ca
   obtain⟨kq,ar,rfl,HA,G,d,g,b,HB⟩:=hcut
   cases kq with
   |zero=>exact absurd HA.out (by simp[aI.j0])
   | succ d8 =>
    have H:=HA.out
    clear HA
    simp only[aI.j0]at H
    by_cases cx:ar=true
    ·subst cx
     replace H:=it H
     by_cases c40:c=0
     ·rw[if_pos c40]at H
      have db:=beq_iff_eq.mpr c40
      have dc:=bne_eq_false_iff_eq.mpr c40
      clear c40
      obtain rfl:=Option.some.inj H;clear H
      have f9:=l.out
      have ga:=j.out
      have gb:=o.out
      have ge:=m.out
      obtain⟨_,_,_,_,_,_⟩:=cf3 b
      go_wp2
      go_ret
      exact fin
     ·rw[if_neg c40]at H
      have db:=beq_eq_false_iff_ne.mpr c40
      have dc:=bne_iff_ne.mpr c40
      obtain rfl:=Option.some.inj H;clear H
      have gf:=l.out
      have gg:=j.out
      have gh:=o.out
      have gi:=m.out
      obtain⟨_,_,_,_,_,_⟩:=cf3 b
      go_wp2
      go_ret
      exact fin
    ·replace cx := Bool.eq_false_iff.mpr cx
     subst cx
     replace H:=ie H
     have cc:=Aside0.mk H
     clear H
     go_upto_if 43 with(fail)
     go_cut [43] (fun v43 wc=> ∃(kq:Nat) (aB:Bool),v43= .bool aB∧Aside0 (aI.j1 kq t152 a aB p q B D v E u t x y a c s=some r)∧Aside0 (kq≤d8)∧Aside0 (wc.heap[O]? =some (.cells #[(.slice J p.length L),(.slice P q.length T)] 34 (0,0)))∧Aside0 (wc.heap[an]? =some (.cells #[.int .i64 B, .int .i64 D,(.slice U v.length W), .int .i64 E, .int .i64 u,(.slice X t.length Y),(.slice Z x.length ab),(.slice ac y.length ad)] 50 (0,0)))∧Aside0 (wc.heap[I]? =some (.cells #[.int .i64 a, .int .i64 c, .int .i64 s] 97 (0,0)))∧Aside0 (Below w.heap.size w wc))
     case first=>
      have H:=cc.out
      clear cc
      by_cases a4:a=3
      ·rw[if_pos a4]at H
       have aE:=beq_iff_eq.mpr a4
       have dd:=bne_eq_false_iff_eq.mpr a4
       clear a4
       (first|rw[aE]|(simp only[bT,bU];rw[aE])|skip)
       have H' :=Aside0.mk H
       clear H
       go_wp2
       go_meet
       case rel=>exact⟨_,((a==3)),(by first|rfl|(simp;done)|(simp[*];done)),H',⟨by have:=G.out;first|omega|exact Nat.le_refl _⟩,kk d,kk g,kk b,⟨bl⟩⟩
      ·rw[if_neg a4]at H
       have aE:=beq_eq_false_iff_ne.mpr a4
       have dd:=bne_iff_ne.mpr a4
       (first|rw[aE]|(simp only[bT,bU];rw[aE])|skip)
       have H' :=Aside0.mk H
       clear H
       go_wp2
       go_meet
       case rel=>exact⟨_,((a==4)),(by first|rfl|(simp;done)|(simp[*];done)),H',⟨by have:=G.out;first|omega|exact Nat.le_refl _⟩,kk d,kk g,kk b,⟨bl⟩⟩
     case rest =>
      clear cc
      obtain⟨kq,aB,rfl,HA,M,d,g,b,HB⟩:=hcut
      cases kq with
      |zero=>exact absurd HA.out (by simp[aI.j1])
      | succ ea =>
       have H:=HA.out
       clear HA
       simp only[aI.j1]at H
       by_cases c49:aB=true
       ·subst c49
        replace H:=it H
        obtain⟨t154,d0,H⟩:=ob H
        by_cases c51:t154=true
        ·subst c51
         replace H:=it H
         obtain rfl:=Option.some.inj H;clear H
         have gj:=l.out
         have gk:=j.out
         have gn:=o.out
         have go:=m.out
         obtain⟨_,_,_,_,_,_⟩:=cf3 b
         have gr:=A.out
         have gt:=z.out
         obtain⟨_,_,_,_,_,_,_,_,_,_,_,_,_,_,_,_⟩:=cf8 g
         go_wp2_with (first|((with_reducible refine gc 33 rfl ?_);refine gl (some 51) Try.func33 #[.int .i64 c, .int .i64 0, .int .i64 (wrap64 (u - 1))] rfl ?_;(with_reducible refine(aH.calls c 0 (wrap64 (u - 1)) true _ d0.out).mono ?_);rintro e w' ⟨rfl,⟨nd,rfl⟩⟩;refine⟨_,rfl, ?_⟩))
         go_ret
         exact fin
        ·replace c51:=Bool.eq_false_iff.mpr c51
         subst c51
         replace H:=ie H
         obtain rfl:=Option.some.inj H;clear H
         have gv:=l.out
         have gw:=j.out
         have gx:=o.out
         have gA:=m.out
         obtain⟨_,_,_,_,_,_⟩:=cf3 b
         have gC:=A.out
         have gE:=z.out
         obtain⟨_,_,_,_,_,_,_,_,_,_,_,_,_,_,_,_⟩:=cf8 g
         go_wp2_with (first|((with_reducible refine gc 33 rfl ?_);refine gl (some 51) Try.func33 #[.int .i64 c, .int .i64 0, .int .i64 (wrap64 (u - 1))] rfl ?_;(with_reducible refine(aH.calls c 0 (wrap64 (u - 1)) false _ d0.out).mono ?_);rintro e w' ⟨rfl,⟨nd,rfl⟩⟩;refine⟨_,rfl, ?_⟩))
         go_ret
         exact fin
       ·replace c49 := Bool.eq_false_iff.mpr c49
        subst c49
        replace H:=ie H
        by_cases a5:a=7
        ·rw[if_pos a5]at H
         have de:=beq_iff_eq.mpr a5
         have dg:=bne_eq_false_iff_eq.mpr a5
         clear a5
         obtain⟨eb,d1,H⟩:=ob H
         by_cases c64:eb=true
         ·subst c64
          replace H:=it H
          obtain rfl:=Option.some.inj H;clear H
          have gM:=l.out
          have gO:=j.out
          have gR:=o.out
          have gS:=m.out
          obtain⟨_,_,_,_,_,_⟩:=cf3 b
          go_wp2_with (first|((with_reducible refine gc 33 rfl ?_);refine gl (some 61) Try.func33 #[.int .i64 c, .int .i64 1, .int .i64 4] rfl ?_;(with_reducible refine(aH.calls c 1 4 true _ d1.out).mono ?_);rintro e w' ⟨rfl,⟨nd,rfl⟩⟩;refine⟨_,rfl, ?_⟩))
          go_ret
          exact fin
         ·replace c64:=Bool.eq_false_iff.mpr c64
          subst c64
          replace H:=ie H
          obtain rfl:=Option.some.inj H;clear H
          have g0:=l.out
          have g1:=j.out
          have g2:=o.out
          have g3:=m.out
          obtain⟨_,_,_,_,_,_⟩:=cf3 b
          go_wp2_with (first|((with_reducible refine gc 33 rfl ?_);refine gl (some 61) Try.func33 #[.int .i64 c, .int .i64 1, .int .i64 4] rfl ?_;(with_reducible refine(aH.calls c 1 4 false _ d1.out).mono ?_);rintro e w' ⟨rfl,⟨nd,rfl⟩⟩;refine⟨_,rfl, ?_⟩))
          go_ret
          exact fin
        ·rw [if_neg a5] at H
         have de:=beq_eq_false_iff_ne.mpr a5
         have dg:=bne_iff_ne.mpr a5
         have cd:=Aside0.mk H
         clear H
         go_upto_if 67 with(fail)
         go_cut [67] (fun v67 wc=> ∃(kq:Nat) (aF:Bool),v67= .bool aF∧Aside0 (aI.j2 kq t152 a aF p q B D v E u t x y a c s=some r)∧Aside0 (kq≤ea)∧Aside0 (wc.heap[O]? =some (.cells #[(.slice J p.length L),(.slice P q.length T)] 34 (0,0)))∧Aside0 (wc.heap[an]? =some (.cells #[.int .i64 B, .int .i64 D,(.slice U v.length W), .int .i64 E, .int .i64 u,(.slice X t.length Y),(.slice Z x.length ab),(.slice ac y.length ad)] 50 (0,0)))∧Aside0 (wc.heap[I]? =some (.cells #[.int .i64 a, .int .i64 c, .int .i64 s] 97 (0,0)))∧Aside0 (Below w.heap.size w wc))
         case first=>
          have H:=cd.out
          clear cd
          by_cases c72:a=8
          ·rw[if_pos c72]at H
           have aL:=beq_iff_eq.mpr c72
           have dj:=bne_eq_false_iff_eq.mpr c72
           clear c72
           (first|rw[aL]|(simp only[bT,bU];rw[aL])|skip)
           have H' :=Aside0.mk H
           clear H
           go_wp2
           go_meet
           case rel=>exact⟨_,((a==8)),(by first|rfl|(simp;done)|(simp[*];done)),H',⟨by have:=G.out;have:=M.out;first|omega|exact Nat.le_refl _⟩,kk d,kk g,kk b,⟨bl⟩⟩
          ·rw[if_neg c72]at H
           have aL:=beq_eq_false_iff_ne.mpr c72
           have dj:=bne_iff_ne.mpr c72
           (first|rw[aL]|(simp only[bT,bU];rw[aL])|skip)
           by_cases a6:a=9
           ·rw[if_pos a6]at H
            have dk:=beq_iff_eq.mpr a6
            have dl:=bne_eq_false_iff_eq.mpr a6
            clear a6
            have H' :=Aside0.mk H
            clear H
            go_wp2
            go_meet
            case rel=>exact⟨_,((a==9)),(by first|rfl|(simp;done)|(simp[*];done)),H',⟨by have:=G.out;have:=M.out;first|omega|exact Nat.le_refl _⟩,kk d,kk g,kk b,⟨bl⟩⟩
           ·rw[if_neg a6]at H
            have dk:=beq_eq_false_iff_ne.mpr a6
            have dl:=bne_iff_ne.mpr a6
            by_cases a7:a=10
            ·rw[if_pos a7]at H
             have dp:=beq_iff_eq.mpr a7
             have dq:=bne_eq_false_iff_eq.mpr a7
             clear a7
             have H' :=Aside0.mk H
             clear H
             go_wp2
             go_meet
             case rel=>exact⟨_,((a==10)),(by first|rfl|(simp;done)|(simp[*];done)),H',⟨by have:=G.out;have:=M.out;first|omega|exact Nat.le_refl _⟩,kk d,kk g,kk b,⟨bl⟩⟩
            ·rw[if_neg a7]at H
             have dp:=beq_eq_false_iff_ne.mpr a7
             have dq:=bne_iff_ne.mpr a7
             have H' :=Aside0.mk H
             clear H
             go_wp2
             go_meet
             case rel=>exact⟨_,((a==11)),(by first|rfl|(simp;done)|(simp[*];done)),H',⟨by have:=G.out;have:=M.out;first|omega|exact Nat.le_refl _⟩,kk d,kk g,kk b,⟨bl⟩⟩
         case rest =>
          clear cd
          obtain⟨kq,aF,rfl,HA,ao,d,g,b,HB⟩:=hcut
          cases kq with
          |zero=>exact absurd HA.out (by simp[aI.j2])
          | succ ec =>
           have H:=HA.out
           clear HA
           simp only[aI.j2]at H
           by_cases c75:aF=true
           ·subst c75
            replace H:=it H
            obtain⟨t156,d2,H⟩:=ob H
            by_cases cy:t156=true
            ·subst cy
             replace H:=it H
             obtain rfl:=Option.some.inj H;clear H
             have g4:=l.out
             have g5:=j.out
             have g6:=o.out
             have g7:=m.out
             obtain⟨_,_,_,_,_,_⟩:=cf3 b
             have g8:=A.out
             have g9:=z.out
             obtain⟨_,_,_,_,_,_,_,_,_,_,_,_,_,_,_,_⟩:=cf8 g
             go_wp2_with (first|((with_reducible refine gc 33 rfl ?_);refine gl (some 78) Try.func33 #[.int .i64 c, .int .i64 0, .int .i64 (wrap64 ((t.length:Int) - 1))] rfl ?_;(with_reducible refine(aH.calls c 0 (wrap64 ((t.length:Int) - 1)) true _ d2.out).mono ?_);rintro e w' ⟨rfl,⟨nd,rfl⟩⟩;refine⟨_,rfl, ?_⟩))
             go_ret
             exact fin
            ·replace cy:=Bool.eq_false_iff.mpr cy
             subst cy
             replace H:=ie H
             obtain rfl:=Option.some.inj H;clear H
             have ha:=l.out
             have hd:=j.out
             have he:=o.out
             have hf:=m.out
             obtain⟨_,_,_,_,_,_⟩:=cf3 b
             have hh:=A.out
             have hj:=z.out
             obtain⟨_,_,_,_,_,_,_,_,_,_,_,_,_,_,_,_⟩:=cf8 g
             go_wp2_with (first|((with_reducible refine gc 33 rfl ?_);refine gl (some 78) Try.func33 #[.int .i64 c, .int .i64 0, .int .i64 (wrap64 ((t.length:Int) - 1))] rfl ?_;(with_reducible refine(aH.calls c 0 (wrap64 ((t.length:Int) - 1)) false _ d2.out).mono ?_);rintro e w' ⟨rfl,⟨nd,rfl⟩⟩;refine⟨_,rfl, ?_⟩))
             go_ret
             exact fin
           ·replace c75 :=Bool.eq_false_iff.mpr c75
            subst c75
            replace H:=ie H
            have ce:=Aside0.mk H
            clear H
            go_upto_if 84 with(fail)
            go_cut [84] (fun v84 wc=> ∃(kq:Nat) (aO:Bool),v84= .bool aO∧Aside0 (aI.j3 kq t152 a aO p q a c s=some r)∧Aside0 (kq≤ec)∧Aside0 (wc.heap[O]? =some (.cells #[(.slice J p.length L),(.slice P q.length T)] 34 (0,0)))∧Aside0 (wc.heap[an]? =some (.cells #[.int .i64 B, .int .i64 D,(.slice U v.length W), .int .i64 E, .int .i64 u,(.slice X t.length Y),(.slice Z x.length ab),(.slice ac y.length ad)] 50 (0,0)))∧Aside0 (wc.heap[I]? =some (.cells #[.int .i64 a, .int .i64 c, .int .i64 s] 97 (0,0)))∧Aside0 (Below w.heap.size w wc))
            case first=>
             have H:=ce.out
             clear ce
             by_cases a8:a=12
             ·rw[if_pos a8]at H
              have aP:=beq_iff_eq.mpr a8
              have dr:=bne_eq_false_iff_eq.mpr a8
              clear a8
              (first|rw[aP]|(simp only[bT,bU];rw[aP])|skip)
              have H' :=Aside0.mk H
              clear H
              go_wp2
              go_meet
              case rel=>exact⟨_,((a==12)),(by first|rfl|(simp;done)|(simp[*];done)),H',⟨by have:=G.out;have:=M.out;have:=ao.out;first|omega|exact Nat.le_refl _⟩,kk d,kk g,kk b,⟨bl⟩⟩
             ·rw[if_neg a8]at H
              have aP:=beq_eq_false_iff_ne.mpr a8
              have dr:=bne_iff_ne.mpr a8
              (first|rw[aP]|(simp only[bT,bU];rw[aP])|skip)
              have H' :=Aside0.mk H
              clear H
              go_wp2
              go_meet
              case rel=>exact⟨_,((a==19)),(by first|rfl|(simp;done)|(simp[*];done)),H',⟨by have:=G.out;have:=M.out;have:=ao.out;first|omega|exact Nat.le_refl _⟩,kk d,kk g,kk b,⟨bl⟩⟩
            case rest =>
             clear ce
             obtain⟨kq,aO,rfl,HA,a9,d,g,b,HB⟩:=hcut
             cases kq with
             |zero=>exact absurd HA.out (by simp[aI.j3])
             | succ ee =>
              have H:=HA.out
              clear HA
              simp only[aI.j3]at H
              by_cases cA:aO=true
              ·subst cA
               replace H:=it H
               by_cases c91:t152=true
               ·subst c91
                replace H:=it H
                obtain rfl:=Option.some.inj H;clear H
                have hl:=l.out
                have hm:=j.out
                have hn:=o.out
                have ho:=m.out
                obtain⟨_,_,_,_,_,_⟩:=cf3 b
                go_wp2
                go_ret
                exact fin
               ·replace c91:=Bool.eq_false_iff.mpr c91
                subst c91
                replace H:=ie H
                obtain rfl:=Option.some.inj H;clear H
                go_wp2
                go_ret
                exact fin
              ·replace cA :=Bool.eq_false_iff.mpr cA
               subst cA
               replace H:=ie H
               have cf:=Aside0.mk H
               clear H
               go_upto_if 93 with(fail)
               go_cut [93] (fun v93 wc=> ∃(kq:Nat) (aR:Bool),v93= .bool aR∧Aside0 (aI.j4 kq t152 a aR p q a c s=some r)∧Aside0 (kq≤ee)∧Aside0 (wc.heap[O]? =some (.cells #[(.slice J p.length L),(.slice P q.length T)] 34 (0,0)))∧Aside0 (wc.heap[an]? =some (.cells #[.int .i64 B, .int .i64 D,(.slice U v.length W), .int .i64 E, .int .i64 u,(.slice X t.length Y),(.slice Z x.length ab),(.slice ac y.length ad)] 50 (0,0)))∧Aside0 (wc.heap[I]? =some (.cells #[.int .i64 a, .int .i64 c, .int .i64 s] 97 (0,0)))∧Aside0 (Below w.heap.size w wc))
               case first=>
                have H:=cf.out
                clear cf
                by_cases ba:a=13
                ·rw[if_pos ba]at H
                 have aS:=beq_iff_eq.mpr ba
                 have dt:=bne_eq_false_iff_eq.mpr ba
                 clear ba
                 (first|rw[aS]|(simp only[bT,bU];rw[aS])|skip)
                 have H' :=Aside0.mk H
                 clear H
                 go_wp2
                 go_meet
                 case rel=>exact⟨_,((a==13)),(by first|rfl|(simp;done)|(simp[*];done)),H',⟨by have:=G.out;have:=M.out;have:=ao.out;have:=a9.out;first|omega|exact Nat.le_refl _⟩,kk d,kk g,kk b,⟨bl⟩⟩
                ·rw[if_neg ba]at H
                 have aS:=beq_eq_false_iff_ne.mpr ba
                 have dt:=bne_iff_ne.mpr ba
                 (first|rw[aS]|(simp only[bT,bU];rw[aS])|skip)
                 by_cases bb:a=15
                 ·rw[if_pos bb]at H
                  have du:=beq_iff_eq.mpr bb
                  have dv:=bne_eq_false_iff_eq.mpr bb
                  clear bb
                  have H' :=Aside0.mk H
                  clear H
                  go_wp2
                  go_meet
                  case rel=>exact⟨_,((a==15)),(by first|rfl|(simp;done)|(simp[*];done)),H',⟨by have:=G.out;have:=M.out;have:=ao.out;have:=a9.out;first|omega|exact Nat.le_refl _⟩,kk d,kk g,kk b,⟨bl⟩⟩
                 ·rw[if_neg bb]at H
                  have du:=beq_eq_false_iff_ne.mpr bb
                  have dv:=bne_iff_ne.mpr bb
                  have H' :=Aside0.mk H
                  clear H
                  go_wp2
                  go_meet
                  case rel=>exact⟨_,((a==16)),(by first|rfl|(simp;done)|(simp[*];done)),H',⟨by have:=G.out;have:=M.out;have:=ao.out;have:=a9.out;first|omega|exact Nat.le_refl _⟩,kk d,kk g,kk b,⟨bl⟩⟩
               case rest =>
                clear cf
                obtain⟨kq,aR,rfl,HA,cE,d,g,b,HB⟩:=hcut
                cases kq with
                |zero=>exact absurd HA.out (by simp[aI.j4])
                | succ ef =>
                 have H:=HA.out
                 clear HA
                 simp only[aI.j4]at H
                 by_cases cC:aR=true
                 ·subst cC
                  replace H:=it H
                  obtain⟨t157,d3,H⟩:=ob H
                  by_cases b4:t157=true
                  ·subst b4
                   replace H:=it H
                   obtain rfl:=Option.some.inj H;clear H
                   have ev:=l.out
                   have ew:=j.out
                   have ex:=o.out
                   have ey:=m.out
                   obtain⟨_,_,_,_,_,_⟩:=cf3 b
                   go_wp2_with (first|((with_reducible refine gc 33 rfl ?_);refine gl (some 99) Try.func33 #[.int .i64 c, .int .i64 0, .int .i64 1] rfl ?_;(with_reducible refine(aH.calls c 0 1 true _ d3.out).mono ?_);rintro e w' ⟨rfl,⟨nd,rfl⟩⟩;refine⟨_,rfl, ?_⟩))
                   go_ret
                   exact fin
                  ·replace b4:=Bool.eq_false_iff.mpr b4
                   subst b4
                   replace H:=ie H
                   obtain rfl:=Option.some.inj H;clear H
                   have ez:=l.out
                   have eA:=j.out
                   have eC:=o.out
                   have eE:=m.out
                   obtain⟨_,_,_,_,_,_⟩:=cf3 b
                   go_wp2_with (first|((with_reducible refine gc 33 rfl ?_);refine gl (some 99) Try.func33 #[.int .i64 c, .int .i64 0, .int .i64 1] rfl ?_;(with_reducible refine(aH.calls c 0 1 false _ d3.out).mono ?_);rintro e w' ⟨rfl,⟨nd,rfl⟩⟩;refine⟨_,rfl, ?_⟩))
                   go_ret
                   exact fin
                 ·replace cC:=Bool.eq_false_iff.mpr cC
                  subst cC
                  replace H:=ie H
                  have b5:=Aside0.mk H
                  clear H
                  go_upto_if 105 with(fail)
                  go_cut [105] (fun v105 wc=> ∃(kq:Nat) (al:Bool),v105= .bool al∧Aside0 (aI.j5 kq t152 a al p q a c s=some r)∧Aside0 (kq≤ef)∧Aside0 (wc.heap[O]? =some (.cells #[(.slice J p.length L),(.slice P q.length T)] 34 (0,0)))∧Aside0 (wc.heap[an]? =some (.cells #[.int .i64 B, .int .i64 D,(.slice U v.length W), .int .i64 E, .int .i64 u,(.slice X t.length Y),(.slice Z x.length ab),(.slice ac y.length ad)] 50 (0,0)))∧Aside0 (wc.heap[I]? =some (.cells #[.int .i64 a, .int .i64 c, .int .i64 s] 97 (0,0)))∧Aside0 (Below w.heap.size w wc))
                  case first=>
                   have H:=b5.out
                   clear b5
                   by_cases ap:a=17
                   ·rw[if_pos ap]at H
                    have am:=beq_iff_eq.mpr ap
                    have cF:=bne_eq_false_iff_eq.mpr ap
                    clear ap
                    (first|rw[am]|(simp only[bT,bU];rw[am])|skip)
                    have H' :=Aside0.mk H
                    clear H
                    go_wp2
                    go_meet
                    case rel=>exact⟨_,((a==17)),(by first|rfl|(simp;done)|(simp[*];done)),H',⟨by have:=G.out;have:=M.out;have:=ao.out;have:=a9.out;have:=cE.out;first|omega|exact Nat.le_refl _⟩,kk d,kk g,kk b,⟨bl⟩⟩
                   ·rw[if_neg ap]at H
                    have am:=beq_eq_false_iff_ne.mpr ap
                    have cF:=bne_iff_ne.mpr ap
                    (first|rw[am]|(simp only[bT,bU];rw[am])|skip)
                    have H' :=Aside0.mk H
                    clear H
                    go_wp2
                    go_meet
                    case rel=>exact⟨_,((a==18)),(by first|rfl|(simp;done)|(simp[*];done)),H',⟨by have:=G.out;have:=M.out;have:=ao.out;have:=a9.out;have:=cE.out;first|omega|exact Nat.le_refl _⟩,kk d,kk g,kk b,⟨bl⟩⟩
                  case rest=>
                   clear b5
                   obtain⟨kq,al,rfl,HA,hp,d,g,b,HB⟩:=hcut
                   cases kq with
                   |zero=>exact absurd HA.out (by simp[aI.j5])
                   | succ dy=>
                    have H:=HA.out
                    clear HA
                    simp only[aI.j5]at H
                    by_cases c109:al=true
                    ·subst c109
                     replace H:=it H
                     by_cases b6:t152=true
                     ·subst b6
                      replace H:=it H
                      obtain⟨cg,eg,H⟩:=ob H
                      obtain⟨eh,ei,H⟩:=ob H
                      obtain rfl:=Option.some.inj H;clear H
                      try go_wp2
                      replace d:=Aside0.mk (af d.out)
                      replace g:=Aside0.mk (af g.out)
                      replace b:=Aside0.mk (af b.out)
                      replace HB:=Aside0.mk (aW HB.out)
                      refine dX (n:=14) (S:=fun w' =>w'.cell? ⟨I,0,none⟩=some (.int .i64 a)∧w'.cell? ⟨I,1,none⟩=some (.int .i64 c)∧w'.cell? ⟨I,2,none⟩=some (.int .i64 s)∧w'.cell? ⟨O,0,none⟩=some (.slice J p.length L)∧w'.cell? ⟨O,1,none⟩=some (.slice P q.length T)) (ds:= []) #[false,false,false,false,false,false,false,false,false,false,false,false,false,false] (by kernel_rfl) rfl rfl ⟨(ae b.out 0).trans rfl,(ae b.out 1).trans rfl,(ae b.out 2).trans rfl,(ae d.out 0).trans rfl,(ae d.out 1).trans rfl⟩ (fun hHeld=> ?_);refine dH aI.tab32 aI.bits32 (fun HT_ HW_=> ?_)
                      generalize wc.drew=hx at d g b HB hHeld⊢
                      refine pu 0 108 #[true,false,false,false,false,false,false,false,false,false,false,false,false,false] HT_ rfl rfl ?_
                      refine pu 1 109 #[true,true,false,false,false,false,false,false,false,false,false,false,false,false] HT_ rfl rfl ?_
                      refine pu 2 110 #[true,true,true,false,false,false,false,false,false,false,false,false,false,false] HT_ rfl rfl ?_
                      refine pu 4 112 #[true,true,true,false,true,false,false,false,false,false,false,false,false,false] HT_ rfl rfl ?_
                      refine pu 6 114 #[true,true,true,false,true,false,true,false,false,false,false,false,false,false] HT_ rfl rfl ?_
                      refine ta 3 111 #[true,true,true,true,true,false,true,false,false,false,false,false,false,false] HT_ HW_ hHeld rfl rfl ?_
                      refine ta 5 113 #[true,true,true,true,true,true,true,false,false,false,false,false,false,false] HT_ HW_ hHeld rfl rfl ?_
                      refine ta 7 115 #[true,true,true,true,true,true,true,true,false,false,false,false,false,false] HT_ HW_ hHeld rfl rfl ?_
                      refine fo (i:=8) (N:=some 116) #[true,true,true,true,true,true,true,true,true,false,false,false,false,false] rfl rfl (dU HT_.out (by kernel_rfl)) (by decide) (fun K hK=> ?_)
                      refine gs Try.func87 #[.slice J p.length L, .int .i64 c] rfl rfl ?_
                      with_reducible refine(df.calls dy _ _ p c cg _ ?s1 ?s2 eg.out).mono ?_
                      (case s1=>exact cb cN.out)
                      (case s2=>exact cP.out)
                      rintro e hy ⟨v159,rfl,ho0,hb⟩
                      refine⟨_,rfl, ?_⟩
                      have dT:=Aside0.mk (Kd.R_lower ho0 (aK bl))
                      replace d:=kb d hb
                      replace g:=kb g hb
                      replace b:=kb b hb
                      replace HB:=hs HB hb
                      (try clear hb)
                      (try clear hb2)
                      (try clear hk)
                      (try clear hi)
                      (try clear ho0)
                      obtain⟨hq,hr,cD⟩:=Kd.R_slice dT.out
                      (first|subst cD|(injection cD with d4 eI d5;have eJ:=d4.symm;have eK:=d5.symm;clear d4 eI d5;subst eJ;subst eK))
                      refine hK.out _ _ ⟨(ae b.out 0).trans rfl,(ae b.out 1).trans rfl,(ae b.out 2).trans rfl,(ae d.out 0).trans rfl,(ae d.out 1).trans rfl⟩ (fun hHeld=> ?_)
                      clear hK K
                      refine no 116 ?_
                      refine pu 9 117 #[true,true,true,true,true,true,true,true,true,true,false,false,false,false] HT_ rfl rfl ?_
                      refine pu 10 118 #[true,true,true,true,true,true,true,true,true,true,true,false,false,false] HT_ rfl rfl ?_
                      refine fo (i:=11) (N:=some 119) #[true,true,true,true,true,true,true,true,true,true,true,true,false,false] rfl rfl (dU HT_.out (by kernel_rfl)) (by decide) (fun K hK=> ?_)
                      refine gs Try.func33 #[.int .i64 s, .int .i64 0, .int .i64 (wrap64 ((cg.length:Int) - 1))] rfl rfl ?_
                      with_reducible refine(aH.calls s 0 (wrap64 ((cg.length:Int) - 1)) eh _ ei.out).mono ?_
                      rintro e w' ⟨rfl,⟨nd,rfl⟩⟩
                      refine⟨_,rfl, ?_⟩
                      refine hK.out _ _ ⟨(ae b.out 0).trans rfl,(ae b.out 1).trans rfl,(ae b.out 2).trans rfl,(ae d.out 0).trans rfl,(ae d.out 1).trans rfl⟩ (fun hHeld=> ?_)
                      clear hK K
                      refine no 119 ?_
                      refine pu 12 120 #[true,true,true,true,true,true,true,true,true,true,true,true,true,false] HT_ rfl rfl ?_
                      refine pu 13 6 #[true,true,true,true,true,true,true,true,true,true,true,true,true,true] HT_ rfl rfl ?_
                      refine eT (dR HT_.out (by kernel_rfl)) ?_
                      try go_wp2
                      go_ret
                      exact fin
                     ·replace b6:=Bool.eq_false_iff.mpr b6
                      subst b6
                      replace H:=ie H
                      obtain rfl:=Option.some.inj H;clear H
                      try go_wp2
                      replace d:=Aside0.mk (af d.out)
                      replace g:=Aside0.mk (af g.out)
                      replace b:=Aside0.mk (af b.out)
                      replace HB:=Aside0.mk (aW HB.out)
                      refine dX (n:=14) (S:=fun w' =>True) (ds:= []) #[false,false,false,false,false,false,false,false,false,false,false,false,false,false] (by kernel_rfl) rfl rfl trivial (fun hHeld=> ?_);refine dH aI.tab32 aI.bits32 (fun HT_ HW_=> ?_)
                      generalize wc.drew=hA at d g b HB hHeld⊢
                      refine pu 0 108 #[true,false,false,false,false,false,false,false,false,false,false,false,false,false] HT_ rfl rfl ?_
                      refine pu 1 109 #[true,true,false,false,false,false,false,false,false,false,false,false,false,false] HT_ rfl rfl ?_
                      refine pv 2 110 #[true,true,true,false,false,false,false,false,false,false,false,false,false,false] HT_ rfl rfl ?_
                      refine pv 3 111 #[true,true,true,true,false,false,false,false,false,false,false,false,false,false] HT_ rfl rfl ?_
                      refine pv 4 112 #[true,true,true,true,true,false,false,false,false,false,false,false,false,false] HT_ rfl rfl ?_
                      refine pv 5 113 #[true,true,true,true,true,true,false,false,false,false,false,false,false,false] HT_ rfl rfl ?_
                      refine pv 6 114 #[true,true,true,true,true,true,true,false,false,false,false,false,false,false] HT_ rfl rfl ?_
                      refine pv 7 115 #[true,true,true,true,true,true,true,true,false,false,false,false,false,false] HT_ rfl rfl ?_
                      refine pv 8 116 #[true,true,true,true,true,true,true,true,true,false,false,false,false,false] HT_ rfl rfl ?_
                      refine pv 9 117 #[true,true,true,true,true,true,true,true,true,true,false,false,false,false] HT_ rfl rfl ?_
                      refine pv 10 118 #[true,true,true,true,true,true,true,true,true,true,true,false,false,false] HT_ rfl rfl ?_
                      refine pv 11 119 #[true,true,true,true,true,true,true,true,true,true,true,true,false,false] HT_ rfl rfl ?_
                      refine pu 12 120 #[true,true,true,true,true,true,true,true,true,true,true,true,true,false] HT_ rfl rfl ?_
                      refine pu 13 6 #[true,true,true,true,true,true,true,true,true,true,true,true,true,true] HT_ rfl rfl ?_
                      refine eT (dR HT_.out (by kernel_rfl)) ?_
                      try go_wp2
                      go_ret
                      exact fin
                    ·replace c109:=Bool.eq_false_iff.mpr c109
                     subst c109
                     replace H:=ie H
                     by_cases c117:a=20
                     ·rw [if_pos c117]at H
                      have cG:=beq_iff_eq.mpr c117
                      have cH:=bne_eq_false_iff_eq.mpr c117
                      clear c117
                      obtain⟨t162,ch,H⟩:=ob H
                      by_cases c119:t162=true
                      ·subst c119
                       replace H:=it H
                       by_cases aq:s=0
                       ·rw[if_pos aq]at H
                        have cI:=beq_iff_eq.mpr aq
                        have cJ:=bne_eq_false_iff_eq.mpr aq
                        clear aq
                        by_cases b7:0≤c
                        ·rw[if_pos b7]at H
                         have eL:decide (0≤c)=true:=decide_eq_true b7
                         clear b7
                         by_cases b8:c<(q.length:Int)
                         ·rw[if_pos b8]at H
                          have eM:decide (c<(q.length:Int))=true:=decide_eq_true b8
                          clear b8
                          obtain rfl:=Option.some.inj H;clear H
                          have eN:=l.out
                          have eR:=j.out
                          have eS:=o.out
                          have eV:=m.out
                          obtain⟨_,_,_,_,_,_⟩:=cf3 b
                          have eW:=z.out
                          have e0:=A.out
                          obtain⟨_,_,_,_⟩:=cf2 d
                          go_wp2_with (first|((with_reducible refine gc 33 rfl ?_);refine gl (some 129) Try.func33 #[.int .i64 c, .int .i64 0, .int .i64 (wrap64 ((q.length:Int) - 1))] rfl ?_;(with_reducible refine(aH.calls c 0 (wrap64 ((q.length:Int) - 1)) true _ ch.out).mono ?_);rintro e w' ⟨rfl,⟨nd,rfl⟩⟩;refine⟨_,rfl, ?_⟩;have ci:0≤(c:Int):=od;have cj:c<(q.length:Int):=od;obtain⟨ht,e1,e2,e3,e4,e5,e6,e7,e8,ej,bc,bd,be,bh,bj,bk,bm,bo,bp,br,bs,bw,b0,b1,b2,b3⟩:=dx cQ.out c ci cj;cases ej;obtain⟨bc,bd,be,bh,bj,bk,bm,bo⟩:=hc8 HB bc bd be bh bj bk bm bo;have em:=Aside0.mk br;have en:=Aside0.mk bp;clear br bp;have eo:=Aside0.mk bw;have ep:=Aside0.mk bs;clear bw bs;have eq:=Aside0.mk b1;have er:=Aside0.mk b0;clear b1 b0;have es:=Aside0.mk b3;have et:=Aside0.mk b2;clear b3 b2;replace ci:=eq_true ci;replace cj:=eq_true cj))
                          go_ret
                          exact fin
                         ·rw[if_neg b8]at H
                          exact absurd H (by simp)
                        ·rw[if_neg b7]at H
                         exact absurd H (by simp)
                       ·rw[if_neg aq]at H
                        have cI:=beq_eq_false_iff_ne.mpr aq
                        have cJ:=bne_iff_ne.mpr aq
                        obtain rfl:=Option.some.inj H;clear H
                        have e9:=l.out
                        have fa:=j.out
                        have fb:=o.out
                        have fc:=m.out
                        obtain⟨_,_,_,_,_,_⟩:=cf3 b
                        have fd:=z.out
                        have ff:=A.out
                        obtain⟨_,_,_,_⟩:=cf2 d
                        go_wp2_with (first|((with_reducible refine gc 33 rfl ?_);refine gl (some 129) Try.func33 #[.int .i64 c, .int .i64 0, .int .i64 (wrap64 ((q.length:Int) - 1))] rfl ?_;(with_reducible refine(aH.calls c 0 (wrap64 ((q.length:Int) - 1)) true _ ch.out).mono ?_);rintro e w' ⟨rfl,⟨nd,rfl⟩⟩;refine⟨_,rfl, ?_⟩))
                        go_ret
                        exact fin
                      ·replace c119:=Bool.eq_false_iff.mpr c119
                       subst c119
                       replace H:=ie H
                       obtain rfl:=Option.some.inj H;clear H
                       have fg:=l.out
                       have fh:=j.out
                       have fi:=o.out
                       have fj:=m.out
                       obtain⟨_,_,_,_,_,_⟩:=cf3 b
                       have fk:=z.out
                       have fl:=A.out
                       obtain⟨_,_,_,_⟩:=cf2 d
                       go_wp2_with (first|((with_reducible refine gc 33 rfl ?_);refine gl (some 129) Try.func33 #[.int .i64 c, .int .i64 0, .int .i64 (wrap64 ((q.length:Int) - 1))] rfl ?_;(with_reducible refine(aH.calls c 0 (wrap64 ((q.length:Int) - 1)) false _ ch.out).mono ?_);rintro e w' ⟨rfl,⟨nd,rfl⟩⟩;refine⟨_,rfl, ?_⟩))
                       go_ret
                       exact fin
                     ·rw[if_neg c117]at H
                      have cG:=beq_eq_false_iff_ne.mpr c117
                      have cH:=bne_iff_ne.mpr c117
                      by_cases c138:a=21
                      ·rw[if_pos c138]at H
                       have cL:=beq_iff_eq.mpr c138
                       have cM:=bne_eq_false_iff_eq.mpr c138
                       clear c138
                       by_cases c139:t152=true
                       ·subst c139
                        replace H:=it H
                        obtain⟨t164,el,H⟩:=ob H
                        obtain rfl:=Option.some.inj H;clear H
                        have fm:=l.out
                        have fp:=j.out
                        have fr:=o.out
                        have fs:=m.out
                        obtain⟨_,_,_,_,_,_⟩:=cf3 b
                        go_wp2_with (first|(go_at_call 33;(with_reducible refine(aH.calls s 0 2 t164 _ el.out).mono ?_);rintro e w' ⟨rfl,⟨nd,rfl⟩⟩))
                        go_ret
                        exact fin
                       ·replace c139:=Bool.eq_false_iff.mpr c139
                        subst c139
                        replace H:=ie H
                        obtain rfl:=Option.some.inj H;clear H
                        go_wp2
                        go_ret
                        exact fin
                      ·rw[if_neg c138]at H
                       have cL:=beq_eq_false_iff_ne.mpr c138
                       have cM:=bne_iff_ne.mpr c138
                       obtain rfl:=Option.some.inj H;clear H
                       go_wp2
                       go_ret
                       exact fin
set_option maxHeartbeats 8000000 in
set_option maxRecDepth 100000 in
theorem eO.calls (k:Nat) (A0:Option Addr) (c0:Nat) (l0:List (S71)) (a1:Int) (r:Bool) (w:World) (hr0:Kd.C k71 w A0 l0.length l0) (hc0:l0.length≤c0) (h:eO.f k l0 a1=some r):
  Calls Try.prog 88 #[.slice A0 l0.length c0, .int .i64 a1] w fun e w' =>e= .returned (.bool r)∧Below w.heap.size w w' :=by
 have a:=Aside0.mk hr0
 have b:=Aside0.mk hc0
 clear hr0 hc0
 have HB:=Aside0.mk (Below.refl w.heap.size w)
 have H:((bv.f k l0).bind fun c=>(if c=true then(if a1=0 then(some true)else(if a1=2 then(some true)else((bQ.f l0 a1).bind fun d=>(some d))))else(some false)))=some r:=h
 clear h
 obtain⟨c,A3,H⟩:=ob H
 by_cases c4:c=true
 ·subst c4
  replace H:=it H
  by_cases c5:a1=0
  ·rw[if_pos c5]at H
   have g:=beq_iff_eq.mpr c5
   have i:=bne_eq_false_iff_eq.mpr c5
   clear c5
   obtain rfl:=Option.some.inj H;clear H
   go_enter Try.func88,Try.ntmps88
   go_wp2_with (first|((with_reducible refine gc 53 rfl ?_);refine gl (some 6) Try.func53 #[.slice A0 l0.length c0] rfl ?_;(with_reducible refine(bv.calls k _ _ l0 true _ ?s1 ?s2 A3.out).mono ?_);(case s1=>repeat(first|exact a.out|(with_reducible refine Kd.C_alloc ?_ _)|(with_reducible refine Kd.C_drewN ?_ _)|(with_reducible refine Kd.C_drew ?_)));(case s2=>exact b.out);rintro e w6 ⟨rfl,hb⟩;refine⟨_,rfl, ?_⟩;replace HB:=hs HB hb;(try clear hb)))
   go_ret
   exact fin
  ·rw[if_neg c5]at H
   have g:=beq_eq_false_iff_ne.mpr c5
   have i:=bne_iff_ne.mpr c5
   by_cases c7:a1=2
   ·rw[if_pos c7]at H
    have j:=beq_iff_eq.mpr c7
    have l:=bne_eq_false_iff_eq.mpr c7
    clear c7
    obtain rfl:=Option.some.inj H;clear H
    go_enter Try.func88,Try.ntmps88
    go_wp2_with (first|((with_reducible refine gc 53 rfl ?_);refine gl (some 6) Try.func53 #[.slice A0 l0.length c0] rfl ?_;(with_reducible refine(bv.calls k _ _ l0 true _ ?s1 ?s2 A3.out).mono ?_);(case s1=>repeat(first|exact a.out|(with_reducible refine Kd.C_alloc ?_ _)|(with_reducible refine Kd.C_drewN ?_ _)|(with_reducible refine Kd.C_drew ?_)));(case s2=>exact b.out);rintro e w8 ⟨rfl,hb⟩;refine⟨_,rfl, ?_⟩;replace HB:=hs HB hb;(try clear hb)))
    go_ret
    exact fin
   ·rw[if_neg c7]at H
    have j:=beq_eq_false_iff_ne.mpr c7
    have l:=bne_iff_ne.mpr c7
    obtain⟨d,A9,H⟩:=ob H
    obtain rfl:=Option.some.inj H;clear H
    go_enter Try.func88,Try.ntmps88
    go_wp2_with (first|((with_reducible refine gc 53 rfl ?_);refine gl (some 6) Try.func53 #[.slice A0 l0.length c0] rfl ?_;(with_reducible refine(bv.calls k _ _ l0 true _ ?s1 ?s2 A3.out).mono ?_);(case s1=>repeat(first|exact a.out|(with_reducible refine Kd.C_alloc ?_ _)|(with_reducible refine Kd.C_drewN ?_ _)|(with_reducible refine Kd.C_drew ?_)));(case s2=>exact b.out);rintro e m ⟨rfl,hb⟩;refine⟨_,rfl, ?_⟩;replace HB:=hs HB hb;(try clear hb))|(go_at_call 85;(with_reducible refine(bQ.calls _ _ l0 a1 d _ ?s1 ?s2 A9.out).mono ?_);(case s1=>exact cb a.out);(case s2=>exact b.out);rintro e w' ⟨rfl,⟨nd,rfl⟩⟩))
    go_ret
    exact fin
 ·replace c4:=Bool.eq_false_iff.mpr c4
  subst c4
  replace H:=ie H
  obtain rfl:=Option.some.inj H;clear H
  go_enter Try.func88,Try.ntmps88
  go_wp2_with (first|((with_reducible refine gc 53 rfl ?_);refine gl (some 6) Try.func53 #[.slice A0 l0.length c0] rfl ?_;(with_reducible refine(bv.calls k _ _ l0 false _ ?s1 ?s2 A3.out).mono ?_);(case s1=>repeat(first|exact a.out|(with_reducible refine Kd.C_alloc ?_ _)|(with_reducible refine Kd.C_drewN ?_ _)|(with_reducible refine Kd.C_drew ?_)));(case s2=>exact b.out);rintro e n ⟨rfl,hb⟩;refine⟨_,rfl, ?_⟩;replace HB:=hs HB hb;(try clear hb)))
  go_ret
  exact fin
set_option maxHeartbeats 8000000 in
set_option maxRecDepth 100000 in
theorem bq.calls (k:Nat) (A0:Option Addr) (c0:Nat) (l0:List (S71)) (a1:Int) (u:Bool) (o:Option Addr) (p:Nat) (c:List Int) (q:Option Addr) (s:Nat) (b:List Int) (r:Bool) (w:World) (hr0:Kd.C k71 w A0 l0.length l0) (hc0:l0.length≤c0) (T:Kd.C (Kd.int .i64) w o c.length c) (U:c.length≤p) (W:Kd.C (Kd.int .i64) w q b.length b) (X:b.length≤s) (h:bq.f k l0 a1 u c b=some r):
  Calls Try.prog 73 #[.slice A0 l0.length c0, .int .i64 a1, .agg #[.bool u, .slice o c.length p, .slice q b.length s]] w fun e w' =>e= .returned (.bool r)∧Below w.heap.size w w' :=by
 have a5:=Try.underlying29
 have A:=Aside0.mk hr0
 have B:=Aside0.mk hc0
 clear hr0 hc0
 have Y:=Aside0.mk T
 have aS:=Aside0.mk U
 clear T U
 have D:=Aside0.mk W
 have a0:=Aside0.mk X
 clear W X
 have HB:=Aside0.mk (Below.refl w.heap.size w)
 have H:((bv.f k l0).bind fun t168=>(if t168=true then(if u=true then(if(c.length:Int)=a1 then(bq.j0 k l0 (decide ((b.length:Int)>4)) u c b)else(bq.j0 k l0 true u c b))else(if(c.length:Int)=0 then(some ((b.length:Int)==0))else(some false)))else(some false)))=some r:=h
 clear h
 obtain⟨t168,A4,H⟩:=ob H
 by_cases c5:t168=true
 ·subst c5
  replace H:=it H
  by_cases c6:u=true
  ·subst c6
   replace H:=it H
   have al:=Aside0.mk H
   clear H
   go_enter Try.func73,Try.ntmps73
   go_upto_region 5 with(first|((with_reducible refine gd 5 rfl ?_);(try(refine aN (by rfl) ?_;dsimp only));refine bx 5 #[.bool true, .slice o c.length p, .slice q b.length s] 29 ?_;intro t hg w8 hbox hb;have a:=Aside0.mk hbox;have L:=hz HB hg;have M:=hz HB hg;replace HB:=hs HB hb;clear hb hbox hg)|((with_reducible refine gc 53 rfl ?_);refine gl (some 10) Try.func53 #[.slice A0 l0.length c0] rfl ?_;(with_reducible refine(bv.calls k _ _ l0 true _ ?s1 ?s2 A4.out).mono ?_);(case s1=>exact cb A.out);(case s2=>exact B.out);rintro e w9 ⟨rfl,hb⟩;refine⟨_,rfl, ?_⟩;replace a:=kb a hb;replace HB:=hs HB hb;(try clear hb);obtain⟨_,_,_,_,_,_⟩:=cf3 a))
   (try simp only[Act.put,List.setIfInBounds_toArray,List.set_cons_zero,List.set_cons_succ])
   go_cut [35] (fun v35 wc=> ∃(kq:Nat) (I:Bool),v35= .bool I∧Aside0 (bq.j0 kq l0 I true c b=some r)∧Aside0 (kq≤k)∧Aside0 (wc.heap[t]? =some (.cells #[.bool true,(.slice o c.length p),(.slice q b.length s)] 29 (0,0)))∧Aside0 (Below w.heap.size w wc))
   case first=>
    have H:=al.out
    clear al
    by_cases c11:(c.length:Int)=a1
    ·rw[if_pos c11]at H
     have E:=beq_iff_eq.mpr c11
     have an:=bne_eq_false_iff_eq.mpr c11
     clear c11
     (first|rw[E]|(simp only[bT,bU];rw[E])|skip)
     have H' :=Aside0.mk H
     clear H
     obtain⟨_,_,_,_,_,_⟩:=cf3 a
     go_wp2
     go_meet
     case rel=>exact⟨_,(decide ((b.length:Int)>4)),(by first|rfl|(simp;done)|(simp[*];done)),H',⟨by first|omega|exact Nat.le_refl _⟩,kk a,⟨bl⟩⟩
    ·rw[if_neg c11]at H
     have E:=beq_eq_false_iff_ne.mpr c11
     have an:=bne_iff_ne.mpr c11
     (first|rw[E]|(simp only[bT,bU];rw[E])|skip)
     have H' :=Aside0.mk H
     clear H
     obtain⟨_,_,_,_,_,_⟩:=cf3 a
     go_wp2
     go_meet
     case rel=>exact⟨_,(true),(by first|rfl|(simp;done)|(simp[*];done)),H',⟨by first|omega|exact Nat.le_refl _⟩,kk a,⟨bl⟩⟩
   case rest =>
    clear al
    obtain⟨kq,I,rfl,HA,Z,a,HB⟩:=hcut
    cases kq with
    |zero=>exact absurd HA.out (by simp[bq.j0])
    | succ aF =>
     have H:=HA.out
     clear HA
     simp only[bq.j0]at H
     by_cases c14:I=true
     ·subst c14
      replace H:=it H
      obtain rfl:=Option.some.inj H;clear H
      go_wp2
      go_ret
      exact fin
     ·replace c14:=Bool.eq_false_iff.mpr c14
      subst c14
      replace H:=ie H
      have H' :=Aside0.mk H
      clear H
      go_wp2
      go_loopg [7] aF (fun kq v7 w' => ∃(g:Int),v7= .int .i64 g∧Aside0 (bq.l0 kq l0 g true c b=some r)∧Aside0 (kq≤aF)∧Aside0 (w'.heap[t]? =some (.cells #[.bool true,(.slice o c.length p),(.slice q b.length s)] 29 (0,0)))∧Aside0 (Below w.heap.size w w'))
      case atStart=>exact⟨(0),(by first|rfl|(simp;done)|(simp[*];done)),H',⟨Nat.le_refl _⟩,kk a,⟨bl⟩⟩
      case round=>
       clear H'
       obtain⟨g,rfl,HA,ab,a,HB⟩:=hrel
       cases gk with
       |zero=>exact absurd HA.out (by simp[bq.l0])
       | succ k2=>
        have H:=HA.out
        clear HA
        simp only[bq.l0]at H
        by_cases c15:g<(c.length:Int)
        ·rw[if_pos c15]at H
         have ao:decide (g<(c.length:Int))=true:=decide_eq_true c15
         clear c15
         by_cases c16:0≤g
         ·rw[if_pos c16]at H
          have a2:decide (0≤g)=true:=decide_eq_true c16
          clear c16
          obtain⟨aP,aL,H⟩:=ob H
          by_cases c18:aP=true
          ·subst c18
           replace H:=it H
           have H' :=Aside0.mk H
           clear H
           obtain⟨_,_,_,_,_,_⟩:=cf3 a
           have v:0≤(g:Int):=od
           have x:g<(c.length:Int):=od
           obtain⟨ap,e169,m⟩:=Kd.at_int Y.out g v x
           cases e169
           replace m:=hc HB m
           replace v:=eq_true v
           replace x:=eq_true x
           go_wp2_with (first|((with_reducible refine gc 88 rfl ?_);refine gl (some 49) Try.func88 #[.slice A0 l0.length c0, .int .i64 (rd c g)] rfl ?_;(with_reducible refine(eO.calls k2 _ _ l0 (rd c g) true _ ?s1 ?s2 aL.out).mono ?_);(case s1=>exact cb A.out);(case s2=>exact B.out);rintro e a6 ⟨rfl,hb⟩;refine⟨_,rfl, ?_⟩;replace a:=kb a hb;replace HB:=hs HB hb;(try clear hb)))
           go_roundg k2
           case measure=>have:=Z.out;have:=ab.out;omega
           case rel=>exact⟨(wrap64 (g+1)),(by first|rfl|(simp;done)|(simp[*];done)),H',⟨by have:=Z.out;have:=ab.out;omega⟩,kk a,⟨bl⟩⟩
          ·replace c18:=Bool.eq_false_iff.mpr c18
           subst c18
           replace H:=ie H
           obtain rfl:=Option.some.inj H;clear H
           obtain⟨_,_,_,_,_,_⟩:=cf3 a
           have v:0≤(g:Int):=od
           have x:g<(c.length:Int):=od
           obtain⟨ap,e169,m⟩:=Kd.at_int Y.out g v x
           cases e169
           replace m:=hc HB m
           replace v:=eq_true v
           replace x:=eq_true x
           go_wp2_with (first|((with_reducible refine gc 88 rfl ?_);refine gl (some 49) Try.func88 #[.slice A0 l0.length c0, .int .i64 (rd c g)] rfl ?_;(with_reducible refine(eO.calls k2 _ _ l0 (rd c g) false _ ?s1 ?s2 aL.out).mono ?_);(case s1=>exact cb A.out);(case s2=>exact B.out);rintro e a7 ⟨rfl,hb⟩;refine⟨_,rfl, ?_⟩;replace a:=kb a hb;replace HB:=hs HB hb;(try clear hb)))
           go_ret
           exact fin
         ·rw[if_neg c16]at H
          exact absurd H (by simp)
        ·rw [if_neg c15]at H
         have ao:decide (g<(c.length:Int))=false:=decide_eq_false c15
         clear c15
         have H' :=Aside0.mk H
         clear H
         obtain⟨_,_,_,_,_,_⟩:=cf3 a
         go_wp2
         go_loopg [8] k2 (fun kq v8 w' => ∃(d:Int),v8= .int .i64 d∧Aside0 (bq.l1 kq l0 d true c b=some r)∧Aside0 (kq≤k2)∧Aside0 (w'.heap[t]? =some (.cells #[.bool true,(.slice o c.length p),(.slice q b.length s)] 29 (0,0)))∧Aside0 (Below w.heap.size w w'))
         case atStart=>exact⟨(0),(by first|rfl|(simp;done)|(simp[*];done)),H',⟨Nat.le_refl _⟩,kk a,⟨bl⟩⟩
         case round=>
          clear H'
          obtain⟨d,rfl,HA,aO,a,HB⟩:=hrel
          cases gk with
          |zero=>exact absurd HA.out (by simp[bq.l1])
          | succ k3=>
           have H:=HA.out
           clear HA
           simp only[bq.l1]at H
           by_cases c24:d<(b.length:Int)
           ·rw [if_pos c24]at H
            have aq:decide (d<(b.length:Int))=true:=decide_eq_true c24
            clear c24
            by_cases ac:0≤d
            ·rw[if_pos ac]at H
             have a3:decide (0≤d)=true:=decide_eq_true ac
             clear ac
             obtain⟨aR,am,H⟩:=ob H
             by_cases ad:aR=true
             ·subst ad
              replace H:=it H
              by_cases c28:(rd b d)=0
              ·rw[if_pos c28]at H
               have ar:=beq_iff_eq.mpr c28
               have aw:=bne_eq_false_iff_eq.mpr c28
               clear c28
               obtain rfl:=Option.some.inj H;clear H
               obtain⟨_,_,_,_,_,_⟩:=cf3 a
               have j:0≤(d:Int):=od
               have l:d<(b.length:Int):=od
               obtain⟨J,K,i⟩:=Kd.at_int D.out d j l
               cases K
               replace i:=hc HB i
               replace j:=eq_true j
               replace l:=eq_true l
               go_wp2_with (first|((with_reducible refine gc 88 rfl ?_);refine gl (some 64) Try.func88 #[.slice A0 l0.length c0, .int .i64 (rd b d)] rfl ?_;(with_reducible refine(eO.calls k3 _ _ l0 (rd b d) true _ ?s1 ?s2 am.out).mono ?_);(case s1=>exact cb A.out);(case s2=>exact B.out);rintro e a8 ⟨rfl,hb⟩;refine⟨_,rfl, ?_⟩;replace a:=kb a hb;replace HB:=hs HB hb;(try clear hb);obtain⟨_,_,_,_,_,_⟩:=cf3 a;have y:0≤(d:Int):=od;have z:d<(b.length:Int):=od;obtain⟨O,P,n⟩:=Kd.at_int D.out d y z;obtain rfl:J=O:=(by injection P);replace n:=hc HB n;replace y:=eq_true y;replace z:=eq_true z))
               go_ret
               exact fin
              ·rw[if_neg c28]at H
               have ar:=beq_eq_false_iff_ne.mpr c28
               have aw:=bne_iff_ne.mpr c28
               have H' :=Aside0.mk H
               clear H
               obtain⟨_,_,_,_,_,_⟩:=cf3 a
               have j:0≤(d:Int):=od
               have l:d<(b.length:Int):=od
               obtain⟨J,K,i⟩:=Kd.at_int D.out d j l
               cases K
               replace i:=hc HB i
               replace j:=eq_true j
               replace l:=eq_true l
               go_wp2_with (first|((with_reducible refine gc 88 rfl ?_);refine gl (some 64) Try.func88 #[.slice A0 l0.length c0, .int .i64 (rd b d)] rfl ?_;(with_reducible refine(eO.calls k3 _ _ l0 (rd b d) true _ ?s1 ?s2 am.out).mono ?_);(case s1=>exact cb A.out);(case s2=>exact B.out);rintro e a9 ⟨rfl,hb⟩;refine⟨_,rfl, ?_⟩;replace a:=kb a hb;replace HB:=hs HB hb;(try clear hb);obtain⟨_,_,_,_,_,_⟩:=cf3 a;have y:0≤(d:Int):=od;have z:d<(b.length:Int):=od;obtain⟨O,P,n⟩:=Kd.at_int D.out d y z;obtain rfl:J=O:=(by injection P);replace n:=hc HB n;replace y:=eq_true y;replace z:=eq_true z))
               go_roundg k3
               case measure=>have:=Z.out;have:=ab.out;have:=aO.out;omega
               case rel=>exact⟨(wrap64 (d+1)),(by first|rfl|(simp;done)|(simp[*];done)),H',⟨by have:=Z.out;have:=ab.out;have:=aO.out;omega⟩,kk a,⟨bl⟩⟩
             ·replace ad:=Bool.eq_false_iff.mpr ad
              subst ad
              replace H:=ie H
              obtain rfl:=Option.some.inj H;clear H
              obtain⟨_,_,_,_,_,_⟩:=cf3 a
              have j:0≤(d:Int):=od
              have l:d<(b.length:Int):=od
              obtain⟨J,K,i⟩:=Kd.at_int D.out d j l
              cases K
              replace i:=hc HB i
              replace j:=eq_true j
              replace l:=eq_true l
              go_wp2_with (first|((with_reducible refine gc 88 rfl ?_);refine gl (some 64) Try.func88 #[.slice A0 l0.length c0, .int .i64 (rd b d)] rfl ?_;(with_reducible refine(eO.calls k3 _ _ l0 (rd b d) false _ ?s1 ?s2 am.out).mono ?_);(case s1=>exact cb A.out);(case s2=>exact B.out);rintro e ba ⟨rfl,hb⟩;refine⟨_,rfl, ?_⟩;replace a:=kb a hb;replace HB:=hs HB hb;(try clear hb)))
              go_ret
              exact fin
            ·rw[if_neg ac]at H
             exact absurd H (by simp)
           ·rw[if_neg c24]at H
            have aq:decide (d<(b.length:Int))=false:=decide_eq_false c24
            clear c24
            obtain rfl:=Option.some.inj H;clear H
            obtain⟨_,_,_,_,_,_⟩:=cf3 a
            go_wp2
            go_ret
            exact fin
  ·replace c6:=Bool.eq_false_iff.mpr c6
   subst c6
   replace H:=ie H
   by_cases G:(c.length:Int)=0
   ·rw[if_pos G]at H
    have aB:=beq_iff_eq.mpr G
    have aE:=bne_eq_false_iff_eq.mpr G
    clear G
    obtain rfl:=Option.some.inj H;clear H
    go_enter Try.func73,Try.ntmps73
    go_wp2_with (first|((with_reducible refine gd 5 rfl ?_);(try(refine aN (by rfl) ?_;dsimp only));refine bx 5 #[.bool false, .slice o c.length p, .slice q b.length s] 29 ?_;intro t hg bb hbox hb;have a:=Aside0.mk hbox;have L:=hz HB hg;have M:=hz HB hg;replace HB:=hs HB hb;clear hb hbox hg)|((with_reducible refine gc 53 rfl ?_);refine gl (some 10) Try.func53 #[.slice A0 l0.length c0] rfl ?_;(with_reducible refine(bv.calls k _ _ l0 true _ ?s1 ?s2 A4.out).mono ?_);(case s1=>exact cb A.out);(case s2=>exact B.out);rintro e bc ⟨rfl,hb⟩;refine⟨_,rfl, ?_⟩;replace a:=kb a hb;replace HB:=hs HB hb;(try clear hb);obtain⟨_,_,_,_,_,_⟩:=cf3 a))
    go_ret
    exact fin
   ·rw[if_neg G]at H
    have aB:=beq_eq_false_iff_ne.mpr G
    have aE:=bne_iff_ne.mpr G
    have a4: ¬(c= []):=fun h_=>G (by rw[h_];rfl)
    obtain rfl:=Option.some.inj H;clear H
    go_enter Try.func73,Try.ntmps73
    go_wp2_with (first|((with_reducible refine gd 5 rfl ?_);(try(refine aN (by rfl) ?_;dsimp only));refine bx 5 #[.bool false, .slice o c.length p, .slice q b.length s] 29 ?_;intro t hg bd hbox hb;have a:=Aside0.mk hbox;have L:=hz HB hg;have M:=hz HB hg;replace HB:=hs HB hb;clear hb hbox hg)|((with_reducible refine gc 53 rfl ?_);refine gl (some 10) Try.func53 #[.slice A0 l0.length c0] rfl ?_;(with_reducible refine(bv.calls k _ _ l0 true _ ?s1 ?s2 A4.out).mono ?_);(case s1=>exact cb A.out);(case s2=>exact B.out);rintro e be ⟨rfl,hb⟩;refine⟨_,rfl, ?_⟩;replace a:=kb a hb;replace HB:=hs HB hb;(try clear hb);obtain⟨_,_,_,_,_,_⟩:=cf3 a))
    go_ret
    exact fin
 ·replace c5:=Bool.eq_false_iff.mpr c5
  subst c5
  replace H:=ie H
  obtain rfl:=Option.some.inj H;clear H
  go_enter Try.func73,Try.ntmps73
  go_wp2_with (first|((with_reducible refine gd 5 rfl ?_);(try(refine aN (by rfl) ?_;dsimp only));refine bx 5 #[.bool u, .slice o c.length p, .slice q b.length s] 29 ?_;intro t hg bh hbox hb;have a:=Aside0.mk hbox;have L:=hz HB hg;have M:=hz HB hg;replace HB:=hs HB hb;clear hb hbox hg)|((with_reducible refine gc 53 rfl ?_);refine gl (some 10) Try.func53 #[.slice A0 l0.length c0] rfl ?_;(with_reducible refine(bv.calls k _ _ l0 false _ ?s1 ?s2 A4.out).mono ?_);(case s1=>exact cb A.out);(case s2=>exact B.out);rintro e bj ⟨rfl,hb⟩;refine⟨_,rfl, ?_⟩;replace a:=kb a hb;replace HB:=hs HB hb;(try clear hb)))
  go_ret
  exact fin
set_option maxHeartbeats 8000000 in
set_option maxRecDepth 100000 in
theorem dN.calls (k:Nat) (A0:Option Addr) (c0:Nat) (l0:List (S71)) (a1:Int) (a2:Int) (r:Bool) (w:World) (hr0:Kd.C k71 w A0 l0.length l0) (hc0:l0.length≤c0) (h:dN.f k l0 a1 a2=some r):
  Calls Try.prog 75 #[.slice A0 l0.length c0, .int .i64 a1, .int .i64 a2] w fun e w' =>e= .returned (.bool r)∧Drawn0 w w' :=by
 have q:=Aside0.mk hr0
 have y:=Aside0.mk hc0
 clear hr0 hc0
 have H:(dN.l0 k l0 a1 a2)=some r:=h
 clear h
 have H' :=Aside0.mk H
 clear H
 go_enter Try.func75,Try.ntmps75
 go_wp2
 go_loopg [1] k (fun kq v1 w' => ∃(a:Int),v1= .int .i64 a∧Aside0 (dN.l0 kq l0 a a2=some r)∧Aside0 (kq≤k)∧Drawn0 w w')
 case atStart=>exact⟨(a1),(by first|rfl|(simp;done)|(simp[*];done)),H',⟨Nat.le_refl _⟩,by repeat(first|exact Drawn0.refl _|apply Drawn0.step)⟩
 case round=>
  clear H'
  obtain⟨a,rfl,HA,i,⟨m1,rfl⟩⟩:=hrel
  cases gk with
  |zero=>exact absurd HA.out (by simp[dN.l0])
  | succ k1=>
   have H:=HA.out
   clear HA
   simp only[dN.l0]at H
   by_cases c4:a>a2
   ·rw[if_pos c4]at H
    have j:decide (a2<a)=true:=decide_eq_true c4
    clear c4
    by_cases c5:0≤a
    ·rw[if_pos c5]at H
     have v:decide (0≤a)=true:=decide_eq_true c5
     clear c5
     by_cases c6:a<(l0.length:Int)
     ·rw[if_pos c6]at H
      have x:decide (a<(l0.length:Int))=true:=decide_eq_true c6
      clear c6
      have H' :=Aside0.mk H
      clear H
      have d:0≤(a:Int):=od
      have g:a<(l0.length:Int):=od
      obtain⟨u,s,t,l,m,n,b,c⟩:=fV q.out a d g
      cases l
      have o:=Aside0.mk c
      have p:=Aside0.mk b
      clear c b
      replace d:=eq_true d
      replace g:=eq_true g
      go_wp2
      go_roundg k1
      case measure=>have:=i.out;omega
      case rel=>exact⟨((aD l0 a).f0),(by first|rfl|(simp;done)|(simp[*];done)),H',⟨by have:=i.out;omega⟩,by repeat(first|exact Drawn0.refl _|apply Drawn0.step)⟩
     ·rw[if_neg c6]at H
      exact absurd H (by simp)
    ·rw[if_neg c5]at H
     exact absurd H (by simp)
   ·rw[if_neg c4]at H
    have j:decide (a2<a)=false:=decide_eq_false c4
    clear c4
    obtain rfl:=Option.some.inj H;clear H
    go_wp2
    go_ret
    exact⟨by first|rfl|(simp;done)|(simp[*];done),by repeat(first|exact Drawn0.refl _|apply Drawn0.step)⟩
set_option maxHeartbeats 8000000 in
set_option maxRecDepth 100000 in
theorem gy.calls (k:Nat) (y:Option Addr) (z:Nat) (g:List (S71)) (A:Option Addr) (B:Nat) (t:List (S50)) (D:Int) (E:Int) (G:Option Addr) (I:Nat) (u:List Int) (J:Int) (K:Int) (L:Option Addr) (M:Nat) (a:List (S97)) (O:Option Addr) (P:Nat) (v:List (S29)) (T:Option Addr) (U:Nat) (x:List (S102)) (c:Int) (i:Int) (l:Int) (j:Int) (r:Bool) (w:World) (ac:Kd.C k71 w y g.length g) (ad:g.length≤z) (al:Kd.C k50 w A t.length t) (am:t.length≤B) (an:Kd.C (Kd.int .i64) w G u.length u) (ao:u.length≤I) (ap:Kd.C k97 w L a.length a) (aq:a.length≤M) (ar:Kd.C k29 w O v.length v) (aw:v.length≤P) (aB:Kd.C dQ w T x.length x) (aE:x.length≤U) (h:gy.f k g t D E u J K a v x c i l j=some r):
  Calls Try.prog 74 #[.agg #[.slice y g.length z, .slice A t.length B], .agg #[.int .i64 D, .int .i64 E, .slice G u.length I, .int .i64 J, .int .i64 K, .slice L a.length M, .slice O v.length P, .slice T x.length U], .agg #[.int .i64 c, .int .i64 i, .int .i64 l, .int .i64 j]] w fun e w' =>e= .returned (.bool r)∧Below w.heap.size w w' :=by
 have b6:=Try.underlying34
 have b7:=Try.underlying50
 have a7:=Try.underlying102
 have aF:=Aside0.mk ac
 have aL:=Aside0.mk ad
 clear ac ad
 have a8:=Aside0.mk al
 have a9:=Aside0.mk am
 clear al am
 have ba:=Aside0.mk an
 have bb:=Aside0.mk ao
 clear an ao
 have bc:=Aside0.mk ap
 have bd:=Aside0.mk aq
 clear ap aq
 have be:=Aside0.mk ar
 have bh:=Aside0.mk aw
 clear ar aw
 have bj:=Aside0.mk aB
 have bk:=Aside0.mk aE
 clear aB aE
 have HB:=Aside0.mk (Below.refl w.heap.size w)
 have H:((aH.f c 0 (wrap64 ((a.length:Int) - 1))).bind fun X=>(if X=true then((aH.f i (wrap64 (c+1)) (a.length:Int)).bind fun Y=>(if Y=true then((aH.f l 0 (wrap64 ((a.length:Int) - 1))).bind fun Z=>(if Z=true then((aH.f j 0 (wrap64 ((g.length:Int) - 1))).bind fun ab=>(if ab=true then((dN.f k g j 1).bind fun t182=>(some t182))else(some false)))else(some false)))else(some false)))else(some false)))=some r:=h
 clear h
 obtain⟨X,A4,H⟩:=ob H
 by_cases c5:X=true
 ·subst c5
  replace H:=it H
  obtain⟨Y,A6,H⟩:=ob H
  by_cases c7:Y=true
  ·subst c7
   replace H:=it H
   obtain⟨Z,A8,H⟩:=ob H
   by_cases c9:Z=true
   ·subst c9
    replace H:=it H
    obtain⟨ab,a5,H⟩:=ob H
    by_cases c11:ab=true
    ·subst c11
     replace H:=it H
     obtain⟨t182,a6,H⟩:=ob H
     obtain rfl:=Option.some.inj H;clear H
     go_enter Try.func74,Try.ntmps74
     go_wp2_with (first|((with_reducible refine gd 3 rfl ?_);(try(refine aN (by rfl) ?_;dsimp only));refine bx 3 #[.slice y g.length z, .slice A t.length B] 34 ?_;intro aO hg b8 hbox hb;have b:=Aside0.mk hbox;have aP:=hz HB hg;have aR:=hz HB hg;replace HB:=hs HB hb;clear hb hbox hg)|((with_reducible refine gd 4 rfl ?_);(try(refine aN (by rfl) ?_;dsimp only));refine bx 4 #[.int .i64 D, .int .i64 E, .slice G u.length I, .int .i64 J, .int .i64 K, .slice L a.length M, .slice O v.length P, .slice T x.length U] 50 ?_;intro aS hg b9 hbox hb;have d:=Aside0.mk hbox;have a0:=hz HB hg;have a1:=hz HB hg;have m:=nl b hg;have n:=ng b hg;replace b:=kb b hb;replace HB:=hs HB hb;clear hb hbox hg)|((with_reducible refine gd 5 rfl ?_);(try(refine aN (by rfl) ?_;dsimp only));refine bx 5 #[.int .i64 c, .int .i64 i, .int .i64 l, .int .i64 j] 102 ?_;intro a2 hg ca hbox hb;have W:=Aside0.mk hbox;have a3:=hz HB hg;have a4:=hz HB hg;have o:=nl b hg;have p:=ng b hg;have q:=nl d hg;have s:=ng d hg;replace b:=kb b hb;replace d:=kb d hb;replace HB:=hs HB hb;clear hb hbox hg;have bm:=p.out;have bo:=o.out;have bp:=s.out;have br:=q.out;obtain⟨_,_,_,_,_,_,_,_⟩:=cf4 W;have bs:=n.out;have bw:=m.out;obtain⟨_,_,_,_,_,_,_,_,_,_,_,_,_,_,_,_⟩:=cf8 d)|((with_reducible refine gc 33 rfl ?_);refine gl (some 13) Try.func33 #[.int .i64 c, .int .i64 0, .int .i64 (wrap64 ((a.length:Int) - 1))] rfl ?_;(with_reducible refine(aH.calls c 0 (wrap64 ((a.length:Int) - 1)) true _ A4.out).mono ?_);rintro e w' ⟨rfl,⟨nd,rfl⟩⟩;refine⟨_,rfl, ?_⟩)|(go_at_call 33;(with_reducible refine(aH.calls i (wrap64 (c+1)) (a.length:Int) true _ A6.out).mono ?_);rintro e w' ⟨rfl,⟨nd,rfl⟩⟩)|(go_at_call 33;(with_reducible refine(aH.calls l 0 (wrap64 ((a.length:Int) - 1)) true _ A8.out).mono ?_);rintro e w' ⟨rfl,⟨nd,rfl⟩⟩;obtain⟨_,_,_,_⟩:=cf2 b)|(go_at_call 33;(with_reducible refine(aH.calls j 0 (wrap64 ((g.length:Int) - 1)) true _ a5.out).mono ?_);rintro e w' ⟨rfl,⟨nd,rfl⟩⟩)|(go_at_call 75;(with_reducible refine(dN.calls k _ _ g j 1 t182 _ ?s1 ?s2 a6.out).mono ?_);(case s1=>exact cb aF.out);(case s2=>exact aL.out);rintro e w' ⟨rfl,⟨nd,rfl⟩⟩))
     go_ret
     exact fin
    ·replace c11:=Bool.eq_false_iff.mpr c11
     subst c11
     replace H:=ie H
     obtain rfl:=Option.some.inj H;clear H
     go_enter Try.func74,Try.ntmps74
     go_wp2_with (first|((with_reducible refine gd 3 rfl ?_);(try(refine aN (by rfl) ?_;dsimp only));refine bx 3 #[.slice y g.length z, .slice A t.length B] 34 ?_;intro aO hg cc hbox hb;have b:=Aside0.mk hbox;have aP:=hz HB hg;have aR:=hz HB hg;replace HB:=hs HB hb;clear hb hbox hg)|((with_reducible refine gd 4 rfl ?_);(try(refine aN (by rfl) ?_;dsimp only));refine bx 4 #[.int .i64 D, .int .i64 E, .slice G u.length I, .int .i64 J, .int .i64 K, .slice L a.length M, .slice O v.length P, .slice T x.length U] 50 ?_;intro aS hg cd hbox hb;have d:=Aside0.mk hbox;have a0:=hz HB hg;have a1:=hz HB hg;have m:=nl b hg;have n:=ng b hg;replace b:=kb b hb;replace HB:=hs HB hb;clear hb hbox hg)|((with_reducible refine gd 5 rfl ?_);(try(refine aN (by rfl) ?_;dsimp only));refine bx 5 #[.int .i64 c, .int .i64 i, .int .i64 l, .int .i64 j] 102 ?_;intro a2 hg ce hbox hb;have W:=Aside0.mk hbox;have a3:=hz HB hg;have a4:=hz HB hg;have o:=nl b hg;have p:=ng b hg;have q:=nl d hg;have s:=ng d hg;replace b:=kb b hb;replace d:=kb d hb;replace HB:=hs HB hb;clear hb hbox hg;have b0:=p.out;have b1:=o.out;have b2:=s.out;have b3:=q.out;obtain⟨_,_,_,_,_,_,_,_⟩:=cf4 W;have b4:=n.out;have b5:=m.out;obtain⟨_,_,_,_,_,_,_,_,_,_,_,_,_,_,_,_⟩:=cf8 d)|((with_reducible refine gc 33 rfl ?_);refine gl (some 13) Try.func33 #[.int .i64 c, .int .i64 0, .int .i64 (wrap64 ((a.length:Int) - 1))] rfl ?_;(with_reducible refine(aH.calls c 0 (wrap64 ((a.length:Int) - 1)) true _ A4.out).mono ?_);rintro e w' ⟨rfl,⟨nd,rfl⟩⟩;refine⟨_,rfl, ?_⟩)|(go_at_call 33;(with_reducible refine(aH.calls i (wrap64 (c+1)) (a.length:Int) true _ A6.out).mono ?_);rintro e w' ⟨rfl,⟨nd,rfl⟩⟩)|(go_at_call 33;(with_reducible refine(aH.calls l 0 (wrap64 ((a.length:Int) - 1)) true _ A8.out).mono ?_);rintro e w' ⟨rfl,⟨nd,rfl⟩⟩;obtain⟨_,_,_,_⟩:=cf2 b)|(go_at_call 33;(with_reducible refine(aH.calls j 0 (wrap64 ((g.length:Int) - 1)) false _ a5.out).mono ?_);rintro e w' ⟨rfl,⟨nd,rfl⟩⟩))
     go_ret
     exact fin
   ·replace c9:=Bool.eq_false_iff.mpr c9
    subst c9
    replace H:=ie H
    obtain rfl:=Option.some.inj H;clear H
    go_enter Try.func74,Try.ntmps74
    go_wp2_with (first|((with_reducible refine gc 33 rfl ?_);refine gl (some 13) Try.func33 #[.int .i64 c, .int .i64 0, .int .i64 (wrap64 ((a.length:Int) - 1))] rfl ?_;(with_reducible refine(aH.calls c 0 (wrap64 ((a.length:Int) - 1)) true _ A4.out).mono ?_);rintro e w' ⟨rfl,⟨nd,rfl⟩⟩;refine⟨_,rfl, ?_⟩)|(go_at_call 33;(with_reducible refine(aH.calls i (wrap64 (c+1)) (a.length:Int) true _ A6.out).mono ?_);rintro e w' ⟨rfl,⟨nd,rfl⟩⟩)|(go_at_call 33;(with_reducible refine(aH.calls l 0 (wrap64 ((a.length:Int) - 1)) false _ A8.out).mono ?_);rintro e w' ⟨rfl,⟨nd,rfl⟩⟩))
    go_ret
    exact fin
  ·replace c7:=Bool.eq_false_iff.mpr c7
   subst c7
   replace H:=ie H
   obtain rfl:=Option.some.inj H;clear H
   go_enter Try.func74,Try.ntmps74
   go_wp2_with (first|((with_reducible refine gc 33 rfl ?_);refine gl (some 13) Try.func33 #[.int .i64 c, .int .i64 0, .int .i64 (wrap64 ((a.length:Int) - 1))] rfl ?_;(with_reducible refine(aH.calls c 0 (wrap64 ((a.length:Int) - 1)) true _ A4.out).mono ?_);rintro e w' ⟨rfl,⟨nd,rfl⟩⟩;refine⟨_,rfl, ?_⟩)|(go_at_call 33;(with_reducible refine(aH.calls i (wrap64 (c+1)) (a.length:Int) false _ A6.out).mono ?_);rintro e w' ⟨rfl,⟨nd,rfl⟩⟩))
   go_ret
   exact fin
 ·replace c5:=Bool.eq_false_iff.mpr c5
  subst c5
  replace H:=ie H
  obtain rfl:=Option.some.inj H;clear H
  go_enter Try.func74,Try.ntmps74
  go_wp2_with (first|((with_reducible refine gc 33 rfl ?_);refine gl (some 13) Try.func33 #[.int .i64 c, .int .i64 0, .int .i64 (wrap64 ((a.length:Int) - 1))] rfl ?_;(with_reducible refine(aH.calls c 0 (wrap64 ((a.length:Int) - 1)) false _ A4.out).mono ?_);rintro e w' ⟨rfl,⟨nd,rfl⟩⟩;refine⟨_,rfl, ?_⟩))
  go_ret
  exact fin
end Go.Proofs.Yteinbmkgenhocaa.P
end
