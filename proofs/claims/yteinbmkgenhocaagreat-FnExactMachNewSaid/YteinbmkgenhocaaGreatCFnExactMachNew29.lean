/- A part of the claim FnExactMachNew. -/
import Derived.Test.YteinbmkgenhocaaGreatCFnExactMachNew28
section
namespace Go.Proofs.YteinbmkgenhocaaGreat.P
open Go.RowKit Go.Proofs.YteinbmkgenhocaaGreatW.PrintWords Go.Proofs.YteinbmkgenhocaaGreatW.PrintLast Go.Proofs.YteinbmkgenhocaaGreatW.PrintMore
attribute [local go_sem] ak au az aA ai aj av ax
set_option linter.unusedVariables false
set_option linter.unusedSimpArgs false
def aN.T32:Bool×List (List Nat×List Nat):=(true, [([], []),([0], [0]),([1], [1]),([2,1], [1,2]),([1], [1]),([4,1], [1,4]),([1], [1]),([6,1], [1,6]),([5,7,1,1], [1,5,7]),([8,1], [1,8]),([9,1], [1,9]),([3,10,8,1], [1,3,10]),([1,11], [1,11]),([12,11,0,1,2,3,4,5,6,7,8,9,10,11,12], [12])])
def aN.B32:List Nat:= [0,1,3,7,3,19,3,67,243,499,1011,2047,4095,8191]
theorem aN.tab32:dJ .any (opsOf Tryz.f138 32)=aN.T32:=by kernel_rfl
theorem aN.bits32:dY aN.T32.2 aN.B32=true:=by kernel_rfl
set_option maxHeartbeats 8000000 in
set_option maxRecDepth 100000 in
theorem aN.calls (k:Nat) (L:Option Addr) (M:Nat) (p:List (S126)) (T:Option Addr) (U:Nat) (q:List (S104)) (D:Int) (E:Int) (W:Option Addr) (X:Nat) (v:List Int) (G:Int) (u:Int) (Y:Option Addr) (Z:Nat) (t:List (S113)) (ab:Option Addr) (ac:Nat) (x:List (S57)) (ad:Option Addr) (al:Nat) (y:List (S181)) (a:Int) (c:Int) (s:Int) (r:Bool) (w:World) (ci:Kd.C eB w L p.length p) (cj:p.length≤M) (ck:Kd.C dV w T q.length q) (cl:q.length≤U) (cm:Kd.C (Kd.int .i64) w W v.length v) (cn:v.length≤X) (co:Kd.C fq w Y t.length t) (cp:t.length≤Z) (cq:Kd.C k57 w ab x.length x) (cr:x.length≤ac) (cs:Kd.C eZ w ad y.length y) (ct:y.length≤al) (h:aN.f k p q D E v G u t x y a c s=some r):
  Calls Tryz.prog 138 #[.agg #[.slice L p.length M, .slice T q.length U], .agg #[.int .i64 D, .int .i64 E, .slice W v.length X, .int .i64 G, .int .i64 u, .slice Y t.length Z, .slice ab x.length ac, .slice ad y.length al], .agg #[.int .i64 a, .int .i64 c, .int .i64 s]] w fun e w' =>e= .returned (.bool r)∧Below w.heap.size w w' :=by
 have hq:=Tryz.underlying38
 have ft:=Tryz.underlying104
 have fv:=Tryz.underlying113
 have cL:=Aside0.mk ci
 have cM:=Aside0.mk cj
 clear ci cj
 have cN:=Aside0.mk ck
 have fx:=Aside0.mk cl
 clear ck cl
 have fy:=Aside0.mk cm
 have fz:=Aside0.mk cn
 clear cm cn
 have fL:=Aside0.mk co
 have fN:=Aside0.mk cp
 clear co cp
 have fR:=Aside0.mk cq
 have fS:=Aside0.mk cr
 clear cq cr
 have fW:=Aside0.mk cs
 have fX:=Aside0.mk ct
 clear cs ct
 have HB:=Aside0.mk (Below.refl w.heap.size w)
 have H:((aM.f c 0 (wrap64 ((p.length:Int) - 1))).bind fun z=>(if a=1 then((ic.f c).bind fun t162=>(if t162=true then(some (s==0))else(some false)))else(if a=2 then(aN.j0 k z a (a==2) p q D E v G u t x y a c s)else(if a=5 then(aN.j0 k z a (a==5) p q D E v G u t x y a c s)else(if a=6 then(aN.j0 k z a (a==6) p q D E v G u t x y a c s)else(if a=14 then(aN.j0 k z a (a==14) p q D E v G u t x y a c s)else(if a=22 then(aN.j0 k z a (a==22) p q D E v G u t x y a c s)else(if a=23 then(aN.j0 k z a (a==23) p q D E v G u t x y a c s)else(aN.j0 k z a (a==24) p q D E v G u t x y a c s)))))))))=some r:=h
 clear h
 obtain⟨z,A4,H⟩:=ob H
 by_cases c5:a=1
 ·rw[if_pos c5]at H
  have d4:=beq_iff_eq.mpr c5
  have d5:=bne_eq_false_iff_eq.mpr c5
  clear c5
  obtain⟨t162,A6,H⟩:=ob H
  by_cases c7:t162=true
  ·subst c7
   replace H:=it H
   obtain rfl:=Option.some.inj H;clear H
   go_enter Tryz.func138,Tryz.ntmps138
   go_wp2_with (first|((with_reducible refine gc 52 rfl ?_);refine dH (some 14) rfl rfl Tryz.func52 (by kernel_rfl) rfl #[.int .i64 c, .int .i64 0, .int .i64 (wrap64 ((p.length:Int) - 1))] rfl (by(try simp only[List.map_toArray,List.map_cons,List.map_nil]);first|done|rfl|(simp only[List.length_drop,List.length_take];rfl)) ?_;(with_reducible refine(aM.calls c 0 (wrap64 ((p.length:Int) - 1)) z _ A4.out).mono ?_);rintro e w' ⟨rfl,⟨nd,rfl⟩⟩;refine⟨_,rfl, ?_⟩)|((with_reducible refine gc 56 rfl ?_);refine dH (some 21) rfl rfl Tryz.func56 (by kernel_rfl) rfl #[.int .i64 c] rfl (by(try simp only[List.map_toArray,List.map_cons,List.map_nil]);first|done|rfl|(simp only[List.length_drop,List.length_take];rfl)) ?_;(with_reducible refine(ic.calls c true _ A6.out).mono ?_);rintro e w' ⟨rfl,⟨nd,rfl⟩⟩;refine⟨_,rfl, ?_⟩))
   go_ret
   exact fin
  replace c7:=Bool.eq_false_iff.mpr c7
  subst c7
  replace H:=ie H
  obtain rfl:=Option.some.inj H;clear H
  go_enter Tryz.func138,Tryz.ntmps138
  go_wp2_with (first|((with_reducible refine gc 52 rfl ?_);refine dH (some 14) rfl rfl Tryz.func52 (by kernel_rfl) rfl #[.int .i64 c, .int .i64 0, .int .i64 (wrap64 ((p.length:Int) - 1))] rfl (by(try simp only[List.map_toArray,List.map_cons,List.map_nil]);first|done|rfl|(simp only[List.length_drop,List.length_take];rfl)) ?_;(with_reducible refine(aM.calls c 0 (wrap64 ((p.length:Int) - 1)) z _ A4.out).mono ?_);rintro e w' ⟨rfl,⟨nd,rfl⟩⟩;refine⟨_,rfl, ?_⟩)|((with_reducible refine gc 56 rfl ?_);refine dH (some 21) rfl rfl Tryz.func56 (by kernel_rfl) rfl #[.int .i64 c] rfl (by(try simp only[List.map_toArray,List.map_cons,List.map_nil]);first|done|rfl|(simp only[List.length_drop,List.length_take];rfl)) ?_;(with_reducible refine(ic.calls c false _ A6.out).mono ?_);rintro e w' ⟨rfl,⟨nd,rfl⟩⟩;refine⟨_,rfl, ?_⟩))
  go_ret
  exact fin
 rw[if_neg c5]at H
 have d4:=beq_eq_false_iff_ne.mpr c5
 have d5:=bne_iff_ne.mpr c5
 have b9:=Aside0.mk H
 clear H
 go_enter Tryz.func138,Tryz.ntmps138
 go_upto_if 27 with(first|((with_reducible refine gd 3 rfl ?_);(try(refine aW (by rfl) ?_;dsimp only));refine bx 3 #[.slice L p.length M, .slice T q.length U] 38 ?_;intro P hg hv hbox hb;have d:=Aside0.mk hbox;have fY:=hz HB hg;replace HB:=hs HB hb;clear hb hbox hg)|((with_reducible refine gd 4 rfl ?_);(try(refine aW (by rfl) ?_;dsimp only));refine bx 4 #[.int .i64 D, .int .i64 E, .slice W v.length X, .int .i64 G, .int .i64 u, .slice Y t.length Z, .slice ab x.length ac, .slice ad y.length al] 104 ?_;intro ao hg hw hbox hb;have g:=Aside0.mk hbox;have f0:=hz HB hg;have A:=nl d hg;have B:=ng d hg;replace d:=kb d hb;replace HB:=hs HB hb;clear hb hbox hg)|((with_reducible refine gd 5 rfl ?_);(try(refine aW (by rfl) ?_;dsimp only));refine bx 5 #[.int .i64 a, .int .i64 c, .int .i64 s] 113 ?_;intro J hg hx hbox hb;have b:=Aside0.mk hbox;have f1:=hz HB hg;have j:=nl d hg;have l:=ng d hg;have m:=nl g hg;have o:=ng g hg;replace d:=kb d hb;replace g:=kb g hb;replace HB:=hs HB hb;clear hb hbox hg;have f2:=l.out;have f3:=j.out;have f4:=o.out;have f5:=m.out;have:=cf3 b;have f6:=A.out;have f7:=B.out;have:=cf2 d)|((with_reducible refine gc 52 rfl ?_);refine dH (some 14) rfl rfl Tryz.func52 (by kernel_rfl) rfl #[.int .i64 c, .int .i64 0, .int .i64 (wrap64 ((p.length:Int) - 1))] rfl (by(try simp only[List.map_toArray,List.map_cons,List.map_nil]);first|done|rfl|(simp only[List.length_drop,List.length_take];rfl)) ?_;(with_reducible refine(aM.calls c 0 (wrap64 ((p.length:Int) - 1)) z _ A4.out).mono ?_);rintro e w' ⟨rfl,⟨nd,rfl⟩⟩;refine⟨_,rfl, ?_⟩))
 (try simp only[Act.put,List.setIfInBounds_toArray,List.set_cons_zero,List.set_cons_succ])
 go_cut [27] (fun v27 wc=> ∃(kq:Nat) (aw:Bool),v27= .bool aw∧Aside0 (aN.j0 kq z a aw p q D E v G u t x y a c s=some r)∧Aside0 (kq≤k)∧Aside0 (wc.heap[P]? =some (.cells #[(.slice L p.length M),(.slice T q.length U)] 38 (0,0)))∧Aside0 (wc.heap[ao]? =some (.cells #[.int .i64 D, .int .i64 E,(.slice W v.length X), .int .i64 G, .int .i64 u,(.slice Y t.length Z),(.slice ab x.length ac),(.slice ad y.length al)] 104 (0,0)))∧Aside0 (wc.heap[J]? =some (.cells #[.int .i64 a, .int .i64 c, .int .i64 s] 113 (0,0)))∧Aside0 (Below w.heap.size w wc))
 case first=>
  have H:=b9.out
  clear b9
  by_cases a1:a=2
  ·rw[if_pos a1]at H
   have aB:=beq_iff_eq.mpr a1
   have cP:=bne_eq_false_iff_eq.mpr a1
   clear a1
   (first|rw[aB]|(simp only[bX,bZ];rw[aB])|skip)
   have H' :=Aside0.mk H
   clear H
   go_wp2
   go_meet
   case rel=>exact⟨_,((a==2)),(by first|rfl|(simp;done)|(simp[*];done)),H',⟨by first|omega|exact Nat.le_refl _⟩,kk d,kk g,kk b,⟨bl⟩⟩
  rw[if_neg a1]at H
  have aB:=beq_eq_false_iff_ne.mpr a1
  have cP:=bne_iff_ne.mpr a1
  (first|rw[aB]|(simp only[bX,bZ];rw[aB])|skip)
  by_cases c34:a=5
  ·rw[if_pos c34]at H
   have cQ:=beq_iff_eq.mpr c34
   have cR:=bne_eq_false_iff_eq.mpr c34
   clear c34
   have H' :=Aside0.mk H
   clear H
   go_wp2
   go_meet
   case rel=>exact⟨_,((a==5)),(by first|rfl|(simp;done)|(simp[*];done)),H',⟨by first|omega|exact Nat.le_refl _⟩,kk d,kk g,kk b,⟨bl⟩⟩
  rw[if_neg c34]at H
  have cQ:=beq_eq_false_iff_ne.mpr c34
  have cR:=bne_iff_ne.mpr c34
  by_cases a2:a=6
  ·rw[if_pos a2]at H
   have cS:=beq_iff_eq.mpr a2
   have cT:=bne_eq_false_iff_eq.mpr a2
   clear a2
   have H' :=Aside0.mk H
   clear H
   go_wp2
   go_meet
   case rel=>exact⟨_,((a==6)),(by first|rfl|(simp;done)|(simp[*];done)),H',⟨by first|omega|exact Nat.le_refl _⟩,kk d,kk g,kk b,⟨bl⟩⟩
  rw[if_neg a2]at H
  have cS:=beq_eq_false_iff_ne.mpr a2
  have cT:=bne_iff_ne.mpr a2
  by_cases a3:a=14
  ·rw[if_pos a3]at H
   have cU:=beq_iff_eq.mpr a3
   have cV:=bne_eq_false_iff_eq.mpr a3
   clear a3
   have H' :=Aside0.mk H
   clear H
   go_wp2
   go_meet
   case rel=>exact⟨_,((a==14)),(by first|rfl|(simp;done)|(simp[*];done)),H',⟨by first|omega|exact Nat.le_refl _⟩,kk d,kk g,kk b,⟨bl⟩⟩
  rw[if_neg a3]at H
  have cU:=beq_eq_false_iff_ne.mpr a3
  have cV:=bne_iff_ne.mpr a3
  by_cases c37:a=22
  ·rw[if_pos c37]at H
   have cW:=beq_iff_eq.mpr c37
   have cX:=bne_eq_false_iff_eq.mpr c37
   clear c37
   have H' :=Aside0.mk H
   clear H
   go_wp2
   go_meet
   case rel=>exact⟨_,((a==22)),(by first|rfl|(simp;done)|(simp[*];done)),H',⟨by first|omega|exact Nat.le_refl _⟩,kk d,kk g,kk b,⟨bl⟩⟩
  rw[if_neg c37]at H
  have cW:=beq_eq_false_iff_ne.mpr c37
  have cX:=bne_iff_ne.mpr c37
  by_cases a4:a=23
  ·rw[if_pos a4]at H
   have cY:=beq_iff_eq.mpr a4
   have c0:=bne_eq_false_iff_eq.mpr a4
   clear a4
   have H' :=Aside0.mk H
   clear H
   go_wp2
   go_meet
   case rel=>exact⟨_,((a==23)),(by first|rfl|(simp;done)|(simp[*];done)),H',⟨by first|omega|exact Nat.le_refl _⟩,kk d,kk g,kk b,⟨bl⟩⟩
  rw[if_neg a4]at H
  have cY:=beq_eq_false_iff_ne.mpr a4
  have c0:=bne_iff_ne.mpr a4
  have H' :=Aside0.mk H
  clear H
  go_wp2
  go_meet
  case rel=>exact⟨_,((a==24)),(by first|rfl|(simp;done)|(simp[*];done)),H',⟨by first|omega|exact Nat.le_refl _⟩,kk d,kk g,kk b,⟨bl⟩⟩
 case rest =>
  clear b9
  obtain⟨kq,aw,rfl,HA,I,d,g,b,HB⟩:=hcut
  cases kq with
  |zero=>exact absurd HA.out (by simp[aN.j0])
  | succ d6 =>
   have H:=HA.out
   clear HA
   simp only[aN.j0]at H
   by_cases cv:aw=true
   ·subst cv
    replace H:=it H
    by_cases c40:c=0
    ·rw[if_pos c40]at H
     have c1:=beq_iff_eq.mpr c40
     have da:=bne_eq_false_iff_eq.mpr c40
     clear c40
     obtain rfl:=Option.some.inj H;clear H
     have f8:=l.out
     have f9:=j.out
     have ga:=o.out
     have gb:=m.out
     have:=cf3 b
     go_wp2
     go_ret
     exact fin
    rw[if_neg c40]at H
    have c1:=beq_eq_false_iff_ne.mpr c40
    have da:=bne_iff_ne.mpr c40
    obtain rfl:=Option.some.inj H;clear H
    have ge:=l.out
    have gf:=j.out
    have gg:=o.out
    have gh:=m.out
    have:=cf3 b
    go_wp2
    go_ret
    exact fin
   replace cv:=Bool.eq_false_iff.mpr cv
   subst cv
   replace H:=ie H
   have ca:=Aside0.mk H
   clear H
   go_upto_if 43 with(fail)
   go_cut [43] (fun v43 wc=> ∃(kq:Nat) (aE:Bool),v43= .bool aE∧Aside0 (aN.j1 kq z a aE p q D E v G u t x y a c s=some r)∧Aside0 (kq≤d6)∧Aside0 (wc.heap[P]? =some (.cells #[(.slice L p.length M),(.slice T q.length U)] 38 (0,0)))∧Aside0 (wc.heap[ao]? =some (.cells #[.int .i64 D, .int .i64 E,(.slice W v.length X), .int .i64 G, .int .i64 u,(.slice Y t.length Z),(.slice ab x.length ac),(.slice ad y.length al)] 104 (0,0)))∧Aside0 (wc.heap[J]? =some (.cells #[.int .i64 a, .int .i64 c, .int .i64 s] 113 (0,0)))∧Aside0 (Below w.heap.size w wc))
   case first=>
    have H:=ca.out
    clear ca
    by_cases a5:a=3
    ·rw[if_pos a5]at H
     have aF:=beq_iff_eq.mpr a5
     have db:=bne_eq_false_iff_eq.mpr a5
     clear a5
     (first|rw[aF]|(simp only[bX,bZ];rw[aF])|skip)
     have H' :=Aside0.mk H
     clear H
     go_wp2
     go_meet
     case rel=>exact⟨_,((a==3)),(by first|rfl|(simp;done)|(simp[*];done)),H',⟨by have:=I.out;first|omega|exact Nat.le_refl _⟩,kk d,kk g,kk b,⟨bl⟩⟩
    rw[if_neg a5]at H
    have aF:=beq_eq_false_iff_ne.mpr a5
    have db:=bne_iff_ne.mpr a5
    (first|rw[aF]|(simp only[bX,bZ];rw[aF])|skip)
    have H' :=Aside0.mk H
    clear H
    go_wp2
    go_meet
    case rel=>exact⟨_,((a==4)),(by first|rfl|(simp;done)|(simp[*];done)),H',⟨by have:=I.out;first|omega|exact Nat.le_refl _⟩,kk d,kk g,kk b,⟨bl⟩⟩
   case rest =>
    clear ca
    obtain⟨kq,aE,rfl,HA,O,d,g,b,HB⟩:=hcut
    cases kq with
    |zero=>exact absurd HA.out (by simp[aN.j1])
    | succ d7 =>
     have H:=HA.out
     clear HA
     simp only[aN.j1]at H
     by_cases c49:aE=true
     ·subst c49
      replace H:=it H
      obtain⟨d8,dy,H⟩:=ob H
      by_cases c51:d8=true
      ·subst c51
       replace H:=it H
       obtain rfl:=Option.some.inj H;clear H
       have gi:=l.out
       have gj:=j.out
       have gk:=o.out
       have gn:=m.out
       have:=cf3 b
       have go:=B.out
       have gr:=A.out
       have:=cf8 g
       go_wp2_with (first|((with_reducible refine gc 52 rfl ?_);refine dH (some 51) rfl rfl Tryz.func52 (by kernel_rfl) rfl #[.int .i64 c, .int .i64 0, .int .i64 (wrap64 (u - 1))] rfl (by(try simp only[List.map_toArray,List.map_cons,List.map_nil]);first|done|rfl|(simp only[List.length_drop,List.length_take];rfl)) ?_;(with_reducible refine(aM.calls c 0 (wrap64 (u - 1)) true _ dy.out).mono ?_);rintro e w' ⟨rfl,⟨nd,rfl⟩⟩;refine⟨_,rfl, ?_⟩))
       go_ret
       exact fin
      replace c51:=Bool.eq_false_iff.mpr c51
      subst c51
      replace H:=ie H
      obtain rfl:=Option.some.inj H;clear H
      have gt:=l.out
      have gv:=j.out
      have gw:=o.out
      have gx:=m.out
      have:=cf3 b
      have gA:=B.out
      have gC:=A.out
      have:=cf8 g
      go_wp2_with (first|((with_reducible refine gc 52 rfl ?_);refine dH (some 51) rfl rfl Tryz.func52 (by kernel_rfl) rfl #[.int .i64 c, .int .i64 0, .int .i64 (wrap64 (u - 1))] rfl (by(try simp only[List.map_toArray,List.map_cons,List.map_nil]);first|done|rfl|(simp only[List.length_drop,List.length_take];rfl)) ?_;(with_reducible refine(aM.calls c 0 (wrap64 (u - 1)) false _ dy.out).mono ?_);rintro e w' ⟨rfl,⟨nd,rfl⟩⟩;refine⟨_,rfl, ?_⟩))
      go_ret
      exact fin
     replace c49:=Bool.eq_false_iff.mpr c49
     subst c49
     replace H:=ie H
     by_cases a6:a=7
     ·rw[if_pos a6]at H
      have dc:=beq_iff_eq.mpr a6
      have dd:=bne_eq_false_iff_eq.mpr a6
      clear a6
      obtain⟨t164,dT,H⟩:=ob H
      by_cases c64:t164=true
      ·subst c64
       replace H:=it H
       obtain rfl:=Option.some.inj H;clear H
       have gE:=l.out
       have gM:=j.out
       have gO:=o.out
       have gR:=m.out
       have:=cf3 b
       go_wp2_with (first|((with_reducible refine gc 52 rfl ?_);refine dH (some 61) rfl rfl Tryz.func52 (by kernel_rfl) rfl #[.int .i64 c, .int .i64 1, .int .i64 4] rfl (by(try simp only[List.map_toArray,List.map_cons,List.map_nil]);first|done|rfl|(simp only[List.length_drop,List.length_take];rfl)) ?_;(with_reducible refine(aM.calls c 1 4 true _ dT.out).mono ?_);rintro e w' ⟨rfl,⟨nd,rfl⟩⟩;refine⟨_,rfl, ?_⟩))
       go_ret
       exact fin
      replace c64:=Bool.eq_false_iff.mpr c64
      subst c64
      replace H:=ie H
      obtain rfl:=Option.some.inj H;clear H
      have gS:=l.out
      have g0:=j.out
      have g1:=o.out
      have g2:=m.out
      have:=cf3 b
      go_wp2_with (first|((with_reducible refine gc 52 rfl ?_);refine dH (some 61) rfl rfl Tryz.func52 (by kernel_rfl) rfl #[.int .i64 c, .int .i64 1, .int .i64 4] rfl (by(try simp only[List.map_toArray,List.map_cons,List.map_nil]);first|done|rfl|(simp only[List.length_drop,List.length_take];rfl)) ?_;(with_reducible refine(aM.calls c 1 4 false _ dT.out).mono ?_);rintro e w' ⟨rfl,⟨nd,rfl⟩⟩;refine⟨_,rfl, ?_⟩))
      go_ret
      exact fin
     rw[if_neg a6]at H
     have dc:=beq_eq_false_iff_ne.mpr a6
     have dd:=bne_iff_ne.mpr a6
     have cc:=Aside0.mk H
     clear H
     go_upto_if 67 with(fail)
     go_cut [67] (fun v67 wc=> ∃(kq:Nat) (aL:Bool),v67= .bool aL∧Aside0 (aN.j2 kq z a aL p q D E v G u t x y a c s=some r)∧Aside0 (kq≤d7)∧Aside0 (wc.heap[P]? =some (.cells #[(.slice L p.length M),(.slice T q.length U)] 38 (0,0)))∧Aside0 (wc.heap[ao]? =some (.cells #[.int .i64 D, .int .i64 E,(.slice W v.length X), .int .i64 G, .int .i64 u,(.slice Y t.length Z),(.slice ab x.length ac),(.slice ad y.length al)] 104 (0,0)))∧Aside0 (wc.heap[J]? =some (.cells #[.int .i64 a, .int .i64 c, .int .i64 s] 113 (0,0)))∧Aside0 (Below w.heap.size w wc))
     case first=>
      have H:=cc.out
      clear cc
      by_cases c72:a=8
      ·rw[if_pos c72]at H
       have aO:=beq_iff_eq.mpr c72
       have de:=bne_eq_false_iff_eq.mpr c72
       clear c72
       (first|rw[aO]|(simp only[bX,bZ];rw[aO])|skip)
       have H' :=Aside0.mk H
       clear H
       go_wp2
       go_meet
       case rel=>exact⟨_,((a==8)),(by first|rfl|(simp;done)|(simp[*];done)),H',⟨by have:=I.out;have:=O.out;first|omega|exact Nat.le_refl _⟩,kk d,kk g,kk b,⟨bl⟩⟩
      rw[if_neg c72]at H
      have aO:=beq_eq_false_iff_ne.mpr c72
      have de:=bne_iff_ne.mpr c72
      (first|rw[aO]|(simp only[bX,bZ];rw[aO])|skip)
      by_cases a7:a=9
      ·rw[if_pos a7]at H
       have dg:=beq_iff_eq.mpr a7
       have dj:=bne_eq_false_iff_eq.mpr a7
       clear a7
       have H' :=Aside0.mk H
       clear H
       go_wp2
       go_meet
       case rel=>exact⟨_,((a==9)),(by first|rfl|(simp;done)|(simp[*];done)),H',⟨by have:=I.out;have:=O.out;first|omega|exact Nat.le_refl _⟩,kk d,kk g,kk b,⟨bl⟩⟩
      rw[if_neg a7]at H
      have dg:=beq_eq_false_iff_ne.mpr a7
      have dj:=bne_iff_ne.mpr a7
      by_cases a8:a=10
      ·rw[if_pos a8]at H
       have dk:=beq_iff_eq.mpr a8
       have dl:=bne_eq_false_iff_eq.mpr a8
       clear a8
       have H' :=Aside0.mk H
       clear H
       go_wp2
       go_meet
       case rel=>exact⟨_,((a==10)),(by first|rfl|(simp;done)|(simp[*];done)),H',⟨by have:=I.out;have:=O.out;first|omega|exact Nat.le_refl _⟩,kk d,kk g,kk b,⟨bl⟩⟩
      rw[if_neg a8]at H
      have dk:=beq_eq_false_iff_ne.mpr a8
      have dl:=bne_iff_ne.mpr a8
      have H' :=Aside0.mk H
      clear H
      go_wp2
      go_meet
      case rel=>exact⟨_,((a==11)),(by first|rfl|(simp;done)|(simp[*];done)),H',⟨by have:=I.out;have:=O.out;first|omega|exact Nat.le_refl _⟩,kk d,kk g,kk b,⟨bl⟩⟩
     case rest =>
      clear cc
      obtain⟨kq,aL,rfl,HA,ap,d,g,b,HB⟩:=hcut
      cases kq with
      |zero=>exact absurd HA.out (by simp[aN.j2])
      | succ ea =>
       have H:=HA.out
       clear HA
       simp only[aN.j2]at H
       by_cases c75:aL=true
       ·subst c75
        replace H:=it H
        obtain⟨eb,d0,H⟩:=ob H
        by_cases cw:eb=true
        ·subst cw
         replace H:=it H
         obtain rfl:=Option.some.inj H;clear H
         have g3:=l.out
         have g4:=j.out
         have g5:=o.out
         have g6:=m.out
         have:=cf3 b
         have g7:=B.out
         have g8:=A.out
         have:=cf8 g
         go_wp2_with (first|((with_reducible refine gc 52 rfl ?_);refine dH (some 78) rfl rfl Tryz.func52 (by kernel_rfl) rfl #[.int .i64 c, .int .i64 0, .int .i64 (wrap64 ((t.length:Int) - 1))] rfl (by(try simp only[List.map_toArray,List.map_cons,List.map_nil]);first|done|rfl|(simp only[List.length_drop,List.length_take];rfl)) ?_;(with_reducible refine(aM.calls c 0 (wrap64 ((t.length:Int) - 1)) true _ d0.out).mono ?_);rintro e w' ⟨rfl,⟨nd,rfl⟩⟩;refine⟨_,rfl, ?_⟩))
         go_ret
         exact fin
        replace cw:=Bool.eq_false_iff.mpr cw
        subst cw
        replace H:=ie H
        obtain rfl:=Option.some.inj H;clear H
        have g9:=l.out
        have ha:=j.out
        have hd:=o.out
        have he:=m.out
        have:=cf3 b
        have hf:=B.out
        have hh:=A.out
        have:=cf8 g
        go_wp2_with (first|((with_reducible refine gc 52 rfl ?_);refine dH (some 78) rfl rfl Tryz.func52 (by kernel_rfl) rfl #[.int .i64 c, .int .i64 0, .int .i64 (wrap64 ((t.length:Int) - 1))] rfl (by(try simp only[List.map_toArray,List.map_cons,List.map_nil]);first|done|rfl|(simp only[List.length_drop,List.length_take];rfl)) ?_;(with_reducible refine(aM.calls c 0 (wrap64 ((t.length:Int) - 1)) false _ d0.out).mono ?_);rintro e w' ⟨rfl,⟨nd,rfl⟩⟩;refine⟨_,rfl, ?_⟩))
        go_ret
        exact fin
       replace c75:=Bool.eq_false_iff.mpr c75
       subst c75
       replace H:=ie H
       have cd:=Aside0.mk H
       clear H
       go_upto_if 84 with(fail)
       go_cut [84] (fun v84 wc=> ∃(kq:Nat) (aP:Bool),v84= .bool aP∧Aside0 (aN.j3 kq z a aP p q a c s=some r)∧Aside0 (kq≤ea)∧Aside0 (wc.heap[P]? =some (.cells #[(.slice L p.length M),(.slice T q.length U)] 38 (0,0)))∧Aside0 (wc.heap[ao]? =some (.cells #[.int .i64 D, .int .i64 E,(.slice W v.length X), .int .i64 G, .int .i64 u,(.slice Y t.length Z),(.slice ab x.length ac),(.slice ad y.length al)] 104 (0,0)))∧Aside0 (wc.heap[J]? =some (.cells #[.int .i64 a, .int .i64 c, .int .i64 s] 113 (0,0)))∧Aside0 (Below w.heap.size w wc))
       case first=>
        have H:=cd.out
        clear cd
        by_cases a9:a=12
        ·rw[if_pos a9]at H
         have aR:=beq_iff_eq.mpr a9
         have dp:=bne_eq_false_iff_eq.mpr a9
         clear a9
         (first|rw[aR]|(simp only[bX,bZ];rw[aR])|skip)
         have H' :=Aside0.mk H
         clear H
         go_wp2
         go_meet
         case rel=>exact⟨_,((a==12)),(by first|rfl|(simp;done)|(simp[*];done)),H',⟨by have:=I.out;have:=O.out;have:=ap.out;first|omega|exact Nat.le_refl _⟩,kk d,kk g,kk b,⟨bl⟩⟩
        rw[if_neg a9]at H
        have aR:=beq_eq_false_iff_ne.mpr a9
        have dp:=bne_iff_ne.mpr a9
        (first|rw[aR]|(simp only[bX,bZ];rw[aR])|skip)
        have H' :=Aside0.mk H
        clear H
        go_wp2
        go_meet
        case rel=>exact⟨_,((a==19)),(by first|rfl|(simp;done)|(simp[*];done)),H',⟨by have:=I.out;have:=O.out;have:=ap.out;first|omega|exact Nat.le_refl _⟩,kk d,kk g,kk b,⟨bl⟩⟩
       case rest =>
        clear cd
        obtain⟨kq,aP,rfl,HA,ba,d,g,b,HB⟩:=hcut
        cases kq with
        |zero=>exact absurd HA.out (by simp[aN.j3])
        | succ ec =>
         have H:=HA.out
         clear HA
         simp only[aN.j3]at H
         by_cases cx:aP=true
         ·subst cx
          replace H:=it H
          by_cases c91:z=true
          ·subst c91
           replace H:=it H
           obtain rfl:=Option.some.inj H;clear H
           have hi:=l.out
           have hj:=j.out
           have hk:=o.out
           have hl:=m.out
           have:=cf3 b
           go_wp2
           go_ret
           exact fin
          replace c91:=Bool.eq_false_iff.mpr c91
          subst c91
          replace H:=ie H
          obtain rfl:=Option.some.inj H;clear H
          go_wp2
          go_ret
          exact fin
         replace cx:=Bool.eq_false_iff.mpr cx
         subst cx
         replace H:=ie H
         have ce:=Aside0.mk H
         clear H
         go_upto_if 93 with(fail)
         go_cut [93] (fun v93 wc=> ∃(kq:Nat) (aS:Bool),v93= .bool aS∧Aside0 (aN.j4 kq z a aS p q a c s=some r)∧Aside0 (kq≤ec)∧Aside0 (wc.heap[P]? =some (.cells #[(.slice L p.length M),(.slice T q.length U)] 38 (0,0)))∧Aside0 (wc.heap[ao]? =some (.cells #[.int .i64 D, .int .i64 E,(.slice W v.length X), .int .i64 G, .int .i64 u,(.slice Y t.length Z),(.slice ab x.length ac),(.slice ad y.length al)] 104 (0,0)))∧Aside0 (wc.heap[J]? =some (.cells #[.int .i64 a, .int .i64 c, .int .i64 s] 113 (0,0)))∧Aside0 (Below w.heap.size w wc))
         case first=>
          have H:=ce.out
          clear ce
          by_cases bb:a=13
          ·rw[if_pos bb]at H
           have a0:=beq_iff_eq.mpr bb
           have dq:=bne_eq_false_iff_eq.mpr bb
           clear bb
           (first|rw[a0]|(simp only[bX,bZ];rw[a0])|skip)
           have H' :=Aside0.mk H
           clear H
           go_wp2
           go_meet
           case rel=>exact⟨_,((a==13)),(by first|rfl|(simp;done)|(simp[*];done)),H',⟨by have:=I.out;have:=O.out;have:=ap.out;have:=ba.out;first|omega|exact Nat.le_refl _⟩,kk d,kk g,kk b,⟨bl⟩⟩
          rw[if_neg bb]at H
          have a0:=beq_eq_false_iff_ne.mpr bb
          have dq:=bne_iff_ne.mpr bb
          (first|rw[a0]|(simp only[bX,bZ];rw[a0])|skip)
          by_cases bc:a=15
          ·rw[if_pos bc]at H
           have dr:=beq_iff_eq.mpr bc
           have dt:=bne_eq_false_iff_eq.mpr bc
           clear bc
           have H' :=Aside0.mk H
           clear H
           go_wp2
           go_meet
           case rel=>exact⟨_,((a==15)),(by first|rfl|(simp;done)|(simp[*];done)),H',⟨by have:=I.out;have:=O.out;have:=ap.out;have:=ba.out;first|omega|exact Nat.le_refl _⟩,kk d,kk g,kk b,⟨bl⟩⟩
          rw[if_neg bc]at H
          have dr:=beq_eq_false_iff_ne.mpr bc
          have dt:=bne_iff_ne.mpr bc
          have H' :=Aside0.mk H
          clear H
          go_wp2
          go_meet
          case rel=>exact⟨_,((a==16)),(by first|rfl|(simp;done)|(simp[*];done)),H',⟨by have:=I.out;have:=O.out;have:=ap.out;have:=ba.out;first|omega|exact Nat.le_refl _⟩,kk d,kk g,kk b,⟨bl⟩⟩
         case rest=>
          clear ce
          obtain⟨kq,aS,rfl,HA,cC,d,g,b,HB⟩:=hcut
          cases kq with
          |zero=>exact absurd HA.out (by simp[aN.j4])
          | succ ee=>
           have H:=HA.out
           clear HA
           simp only[aN.j4]at H
           by_cases cy:aS=true
           ·subst cy
            replace H:=it H
            obtain⟨ef,d1,H⟩:=ob H
            by_cases b4:ef=true
            ·subst b4
             replace H:=it H
             obtain rfl:=Option.some.inj H;clear H
             have ev:=l.out
             have ew:=j.out
             have ex:=o.out
             have ey:=m.out
             have:=cf3 b
             go_wp2_with (first|((with_reducible refine gc 52 rfl ?_);refine dH (some 99) rfl rfl Tryz.func52 (by kernel_rfl) rfl #[.int .i64 c, .int .i64 0, .int .i64 1] rfl (by(try simp only[List.map_toArray,List.map_cons,List.map_nil]);first|done|rfl|(simp only[List.length_drop,List.length_take];rfl)) ?_;(with_reducible refine(aM.calls c 0 1 true _ d1.out).mono ?_);rintro e w' ⟨rfl,⟨nd,rfl⟩⟩;refine⟨_,rfl, ?_⟩))
             go_ret
             exact fin
            replace b4:=Bool.eq_false_iff.mpr b4
            subst b4
            replace H:=ie H
            obtain rfl:=Option.some.inj H;clear H
            have ez:=l.out
            have eA:=j.out
            have eC:=o.out
            have eE:=m.out
            have:=cf3 b
            go_wp2_with (first|((with_reducible refine gc 52 rfl ?_);refine dH (some 99) rfl rfl Tryz.func52 (by kernel_rfl) rfl #[.int .i64 c, .int .i64 0, .int .i64 1] rfl (by(try simp only[List.map_toArray,List.map_cons,List.map_nil]);first|done|rfl|(simp only[List.length_drop,List.length_take];rfl)) ?_;(with_reducible refine(aM.calls c 0 1 false _ d1.out).mono ?_);rintro e w' ⟨rfl,⟨nd,rfl⟩⟩;refine⟨_,rfl, ?_⟩))
            go_ret
            exact fin
           replace cy:=Bool.eq_false_iff.mpr cy
           subst cy
           replace H:=ie H
           have b5:=Aside0.mk H
           clear H
           go_upto_if 105 with(fail)
           go_cut [105] (fun v105 wc=> ∃(kq:Nat) (am:Bool),v105= .bool am∧Aside0 (aN.j5 kq z a am p q a c s=some r)∧Aside0 (kq≤ee)∧Aside0 (wc.heap[P]? =some (.cells #[(.slice L p.length M),(.slice T q.length U)] 38 (0,0)))∧Aside0 (wc.heap[ao]? =some (.cells #[.int .i64 D, .int .i64 E,(.slice W v.length X), .int .i64 G, .int .i64 u,(.slice Y t.length Z),(.slice ab x.length ac),(.slice ad y.length al)] 104 (0,0)))∧Aside0 (wc.heap[J]? =some (.cells #[.int .i64 a, .int .i64 c, .int .i64 s] 113 (0,0)))∧Aside0 (Below w.heap.size w wc))
           case first=>
            have H:=b5.out
            clear b5
            by_cases aq:a=17
            ·rw[if_pos aq]at H
             have an:=beq_iff_eq.mpr aq
             have cD:=bne_eq_false_iff_eq.mpr aq
             clear aq
             (first|rw[an]|(simp only[bX,bZ];rw[an])|skip)
             have H' :=Aside0.mk H
             clear H
             go_wp2
             go_meet
             case rel=>exact⟨_,((a==17)),(by first|rfl|(simp;done)|(simp[*];done)),H',⟨by have:=I.out;have:=O.out;have:=ap.out;have:=ba.out;have:=cC.out;first|omega|exact Nat.le_refl _⟩,kk d,kk g,kk b,⟨bl⟩⟩
            rw[if_neg aq]at H
            have an:=beq_eq_false_iff_ne.mpr aq
            have cD:=bne_iff_ne.mpr aq
            (first|rw[an]|(simp only[bX,bZ];rw[an])|skip)
            have H' :=Aside0.mk H
            clear H
            go_wp2
            go_meet
            case rel=>exact⟨_,((a==18)),(by first|rfl|(simp;done)|(simp[*];done)),H',⟨by have:=I.out;have:=O.out;have:=ap.out;have:=ba.out;have:=cC.out;first|omega|exact Nat.le_refl _⟩,kk d,kk g,kk b,⟨bl⟩⟩
           case rest=>
            clear b5
            obtain⟨kq,am,rfl,HA,hm,d,g,b,HB⟩:=hcut
            cases kq with
            |zero=>exact absurd HA.out (by simp[aN.j5])
            | succ du=>
             have H:=HA.out
             clear HA
             simp only[aN.j5]at H
             by_cases c109:am=true
             ·subst c109
              replace H:=it H
              by_cases b6:z=true
              ·subst b6
               replace H:=it H
               obtain⟨t167,eg,H⟩:=ob H
               obtain⟨eh,ei,H⟩:=ob H
               obtain rfl:=Option.some.inj H;clear H
               try go_wp2
               replace d:=Aside0.mk (af d.out)
               replace g:=Aside0.mk (af g.out)
               replace b:=Aside0.mk (af b.out)
               replace HB:=Aside0.mk (aC HB.out)
               refine dR (n:=14) (S:=fun w' =>w'.cell? ⟨J,0,none⟩=some (.int .i64 a)∧w'.cell? ⟨J,1,none⟩=some (.int .i64 c)∧w'.cell? ⟨J,2,none⟩=some (.int .i64 s)∧w'.cell? ⟨P,0,none⟩=some (.slice L p.length M)∧w'.cell? ⟨P,1,none⟩=some (.slice T q.length U)) (ds:= []) #[false,false,false,false,false,false,false,false,false,false,false,false,false,false] (by kernel_rfl) rfl rfl ⟨(ae b.out 0).trans rfl,(ae b.out 1).trans rfl,(ae b.out 2).trans rfl,(ae d.out 0).trans rfl,(ae d.out 1).trans rfl⟩ (fun hHeld=> ?_);refine cO aN.tab32 aN.bits32 (fun HT_ HW_=> ?_)
               generalize wc.drew=hr at d g b HB hHeld⊢
               refine pu 0 108 #[true,false,false,false,false,false,false,false,false,false,false,false,false,false] HT_ rfl rfl ?_
               refine pu 1 109 #[true,true,false,false,false,false,false,false,false,false,false,false,false,false] HT_ rfl rfl ?_
               refine pu 2 110 #[true,true,true,false,false,false,false,false,false,false,false,false,false,false] HT_ rfl rfl ?_
               refine pu 4 112 #[true,true,true,false,true,false,false,false,false,false,false,false,false,false] HT_ rfl rfl ?_
               refine pu 6 114 #[true,true,true,false,true,false,true,false,false,false,false,false,false,false] HT_ rfl rfl ?_
               refine ta 3 111 #[true,true,true,true,true,false,true,false,false,false,false,false,false,false] HT_ HW_ hHeld rfl rfl ?_
               refine ta 5 113 #[true,true,true,true,true,true,true,false,false,false,false,false,false,false] HT_ HW_ hHeld rfl rfl ?_
               refine ta 7 115 #[true,true,true,true,true,true,true,true,false,false,false,false,false,false] HT_ HW_ hHeld rfl rfl ?_
               refine fo (i:=8) (N:=some 116) #[true,true,true,true,true,true,true,true,true,false,false,false,false,false] rfl rfl (d9 HT_.out (by kernel_rfl)) (by decide) (fun K hK=> ?_)
               refine mO Tryz.func96 (by kernel_rfl) rfl #[.slice L p.length M, .int .i64 c] (by rfl) rfl rfl (by(try simp only[List.map_toArray,List.map_cons,List.map_nil]);first|done|rfl|(simp only[List.length_drop,List.length_take];rfl)) ?_
               with_reducible refine(dE.calls du _ _ p c t167 _ (cb cL.out) cM.out eg.out).mono ?_
               rintro e ht ⟨v168,rfl,ho0,hb⟩
               refine⟨_,rfl, ?_⟩
               have dv:=Aside0.mk (Kd.R_lower ho0 (aU bl))
               replace d:=kb d hb
               replace g:=kb g hb
               replace b:=kb b hb
               replace HB:=hs HB hb
               obtain⟨hn,ho,cA⟩:=Kd.R_slice dv.out
               (first|subst cA|(injection cA with d2 eI d3;have eJ:=d2.symm;have eK:=d3.symm;clear d2 eI d3;subst eJ;subst eK))
               refine hK.out _ _ ⟨(ae b.out 0).trans rfl,(ae b.out 1).trans rfl,(ae b.out 2).trans rfl,(ae d.out 0).trans rfl,(ae d.out 1).trans rfl⟩ (fun hHeld=> ?_)
               clear hK K
               refine no 116 ?_
               refine pu 9 117 #[true,true,true,true,true,true,true,true,true,true,false,false,false,false] HT_ rfl rfl ?_
               refine pu 10 118 #[true,true,true,true,true,true,true,true,true,true,true,false,false,false] HT_ rfl rfl ?_
               refine fo (i:=11) (N:=some 119) #[true,true,true,true,true,true,true,true,true,true,true,true,false,false] rfl rfl (d9 HT_.out (by kernel_rfl)) (by decide) (fun K hK=> ?_)
               refine mO Tryz.func52 (by kernel_rfl) rfl #[.int .i64 s, .int .i64 0, .int .i64 (wrap64 ((t167.length:Int) - 1))] (by rfl) rfl rfl (by(try simp only[List.map_toArray,List.map_cons,List.map_nil]);first|done|rfl|(simp only[List.length_drop,List.length_take];rfl)) ?_
               with_reducible refine(aM.calls s 0 (wrap64 ((t167.length:Int) - 1)) eh _ ei.out).mono ?_
               rintro e w' ⟨rfl,⟨nd,rfl⟩⟩
               refine⟨_,rfl, ?_⟩
               refine hK.out _ _ ⟨(ae b.out 0).trans rfl,(ae b.out 1).trans rfl,(ae b.out 2).trans rfl,(ae d.out 0).trans rfl,(ae d.out 1).trans rfl⟩ (fun hHeld=> ?_)
               clear hK K
               refine no 119 ?_
               refine pu 12 120 #[true,true,true,true,true,true,true,true,true,true,true,true,true,false] HT_ rfl rfl ?_
               refine pu 13 6 #[true,true,true,true,true,true,true,true,true,true,true,true,true,true] HT_ rfl rfl ?_
               refine eQ (dN HT_.out (by kernel_rfl)) ?_
               try go_wp2
               go_ret
               exact fin
              replace b6:=Bool.eq_false_iff.mpr b6
              subst b6
              replace H:=ie H
              obtain rfl:=Option.some.inj H;clear H
              try go_wp2
              replace d:=Aside0.mk (af d.out)
              replace g:=Aside0.mk (af g.out)
              replace b:=Aside0.mk (af b.out)
              replace HB:=Aside0.mk (aC HB.out)
              refine dR (n:=14) (S:=fun w' =>True) (ds:= []) (upto 14 0) (by kernel_rfl) rfl rfl trivial (fun hHeld=> ?_);refine cO aN.tab32 aN.bits32 (fun HT_ HW_=> ?_)
              generalize wc.drew=hu at d g b HB hHeld⊢
              repeat(first|refine vN ?_|refine pN ?_|refine tN ?_)
              refine eQ (dN HT_.out (by kernel_rfl)) ?_
              try go_wp2
              go_ret
              exact fin
             replace c109:=Bool.eq_false_iff.mpr c109
             subst c109
             replace H:=ie H
             by_cases c117:a=20
             ·rw [if_pos c117]at H
              have cE:=beq_iff_eq.mpr c117
              have cF:=bne_eq_false_iff_eq.mpr c117
              clear c117
              obtain⟨t171,cf,H⟩:=ob H
              by_cases c119:t171=true
              ·subst c119
               replace H:=it H
               by_cases ar:s=0
               ·rw[if_pos ar]at H
                have cG:=beq_iff_eq.mpr ar
                have cH:=bne_eq_false_iff_eq.mpr ar
                clear ar
                by_cases b7:0≤c
                ·rw[if_pos b7]at H
                 have eL:decide (0≤c)=true:=decide_eq_true b7
                 clear b7
                 by_cases b8:c<(q.length:Int)
                 ·rw[if_pos b8]at H
                  have eM:decide (c<(q.length:Int))=true:=decide_eq_true b8
                  clear b8
                  obtain rfl:=Option.some.inj H;clear H
                  have eN:=l.out
                  have eR:=j.out
                  have eS:=o.out
                  have eV:=m.out
                  have:=cf3 b
                  have eW:=A.out
                  have e0:=B.out
                  have:=cf2 d
                  go_wp2_with (first|((with_reducible refine gc 52 rfl ?_);refine dH (some 129) rfl rfl Tryz.func52 (by kernel_rfl) rfl #[.int .i64 c, .int .i64 0, .int .i64 (wrap64 ((q.length:Int) - 1))] rfl (by(try simp only[List.map_toArray,List.map_cons,List.map_nil]);first|done|rfl|(simp only[List.length_drop,List.length_take];rfl)) ?_;(with_reducible refine(aM.calls c 0 (wrap64 ((q.length:Int) - 1)) true _ cf.out).mono ?_);rintro e w' ⟨rfl,⟨nd,rfl⟩⟩;refine⟨_,rfl, ?_⟩;have cg:0≤(c:Int):=od;have ch:c<(q.length:Int):=od;obtain⟨hp,e1,e2,e3,e4,e5,e6,e7,e8,ej,bd,be,bh,bj,bk,bm,bo,bp,br,bs,bt,bw,b0,b1,b2,b3⟩:=di cN.out c cg ch;cases ej;obtain⟨bd,be,bh,bj,bk,bm,bo,bp⟩:=hc8 HB bd be bh bj bk bm bo bp;have em:=Aside0.mk bs;have en:=Aside0.mk br;clear bs br;have eo:=Aside0.mk bw;have ep:=Aside0.mk bt;clear bw bt;have eq:=Aside0.mk b1;have er:=Aside0.mk b0;clear b1 b0;have es:=Aside0.mk b3;have et:=Aside0.mk b2;clear b3 b2;replace cg:=eq_true cg;replace ch:=eq_true ch))
                  go_ret
                  exact fin
                 rw[if_neg b8]at H
                 exact absurd H (by simp)
                rw[if_neg b7]at H
                exact absurd H (by simp)
               rw[if_neg ar]at H
               have cG:=beq_eq_false_iff_ne.mpr ar
               have cH:=bne_iff_ne.mpr ar
               obtain rfl:=Option.some.inj H;clear H
               have e9:=l.out
               have fa:=j.out
               have fb:=o.out
               have fc:=m.out
               have:=cf3 b
               have fd:=A.out
               have ff:=B.out
               have:=cf2 d
               go_wp2_with (first|((with_reducible refine gc 52 rfl ?_);refine dH (some 129) rfl rfl Tryz.func52 (by kernel_rfl) rfl #[.int .i64 c, .int .i64 0, .int .i64 (wrap64 ((q.length:Int) - 1))] rfl (by(try simp only[List.map_toArray,List.map_cons,List.map_nil]);first|done|rfl|(simp only[List.length_drop,List.length_take];rfl)) ?_;(with_reducible refine(aM.calls c 0 (wrap64 ((q.length:Int) - 1)) true _ cf.out).mono ?_);rintro e w' ⟨rfl,⟨nd,rfl⟩⟩;refine⟨_,rfl, ?_⟩))
               go_ret
               exact fin
              replace c119:=Bool.eq_false_iff.mpr c119
              subst c119
              replace H:=ie H
              obtain rfl:=Option.some.inj H;clear H
              have fg:=l.out
              have fh:=j.out
              have fi:=o.out
              have fj:=m.out
              have:=cf3 b
              have fk:=A.out
              have fl:=B.out
              have:=cf2 d
              go_wp2_with (first|((with_reducible refine gc 52 rfl ?_);refine dH (some 129) rfl rfl Tryz.func52 (by kernel_rfl) rfl #[.int .i64 c, .int .i64 0, .int .i64 (wrap64 ((q.length:Int) - 1))] rfl (by(try simp only[List.map_toArray,List.map_cons,List.map_nil]);first|done|rfl|(simp only[List.length_drop,List.length_take];rfl)) ?_;(with_reducible refine(aM.calls c 0 (wrap64 ((q.length:Int) - 1)) false _ cf.out).mono ?_);rintro e w' ⟨rfl,⟨nd,rfl⟩⟩;refine⟨_,rfl, ?_⟩))
              go_ret
              exact fin
             rw[if_neg c117]at H
             have cE:=beq_eq_false_iff_ne.mpr c117
             have cF:=bne_iff_ne.mpr c117
             by_cases c138:a=21
             ·rw[if_pos c138]at H
              have cI:=beq_iff_eq.mpr c138
              have cJ:=bne_eq_false_iff_eq.mpr c138
              clear c138
              by_cases c139:z=true
              ·subst c139
               replace H:=it H
               obtain⟨t173,el,H⟩:=ob H
               obtain rfl:=Option.some.inj H;clear H
               have fm:=l.out
               have fp:=j.out
               have fr:=o.out
               have fs:=m.out
               have:=cf3 b
               go_wp2_with (first|(go_at_call 52;(with_reducible refine(aM.calls s 0 2 t173 _ el.out).mono ?_);rintro e w' ⟨rfl,⟨nd,rfl⟩⟩))
               go_ret
               exact fin
              replace c139:=Bool.eq_false_iff.mpr c139
              subst c139
              replace H:=ie H
              obtain rfl:=Option.some.inj H;clear H
              go_wp2
              go_ret
              exact fin
             rw[if_neg c138]at H
             have cI:=beq_eq_false_iff_ne.mpr c138
             have cJ:=bne_iff_ne.mpr c138
             obtain rfl:=Option.some.inj H;clear H
             go_wp2
             go_ret
             exact fin
set_option maxHeartbeats 8000000 in
set_option maxRecDepth 100000 in
theorem eG.calls (k:Nat) (A0:Option Addr) (c0:Nat) (l0:List (S126)) (a1:Int) (a2:Int) (r:Bool) (w:World) (hr0:Kd.C eB w A0 l0.length l0) (hc0:l0.length≤c0) (h:eG.f k l0 a1 a2=some r):
  Calls Tryz.prog 140 #[.slice A0 l0.length c0, .int .i64 a1, .int .i64 a2] w fun e w' =>e= .returned (.bool r)∧Drawn0 w w' :=by
 have q:=Aside0.mk hr0
 have y:=Aside0.mk hc0
 clear hr0 hc0
 have H:(eG.l0 k l0 a1 a2)=some r:=h
 clear h
 have H' :=Aside0.mk H
 clear H
 go_enter Tryz.func140,Tryz.ntmps140
 go_wp2
 go_loopg [1] k (fun kq v1 w' => ∃(a:Int),v1= .int .i64 a∧Aside0 (eG.l0 kq l0 a a2=some r)∧Aside0 (kq≤k)∧Drawn0 w w')
 case atStart=>exact⟨(a1),(by first|rfl|(simp;done)|(simp[*];done)),H',⟨Nat.le_refl _⟩,by repeat(first|exact Drawn0.refl _|apply Drawn0.step)⟩
 case round=>
  clear H'
  obtain⟨a,rfl,HA,i,⟨m1,rfl⟩⟩:=hrel
  cases gk with
  |zero=>exact absurd HA.out (by simp[eG.l0])
  | succ k1=>
   have H:=HA.out
   clear HA
   simp only[eG.l0]at H
   by_cases c4:a>a2
   ·rw[if_pos c4]at H
    have j:decide (a2<a)=true:=decide_eq_true c4
    clear c4
    by_cases c5:0≤a
    ·rw[if_pos c5]at H
     have v:decide (0≤a)=true:=decide_eq_true c5
     clear c5
     by_cases c6:a<(l0.length:Int)
     ·rw[if_pos c6]at H
      have x:decide (a<(l0.length:Int))=true:=decide_eq_true c6
      clear c6
      have H' :=Aside0.mk H
      clear H
      have d:0≤(a:Int):=od
      have g:a<(l0.length:Int):=od
      obtain⟨u,s,t,l,m,n,b,c⟩:=fP q.out a d g
      cases l
      have o:=Aside0.mk c
      have p:=Aside0.mk b
      clear c b
      replace d:=eq_true d
      replace g:=eq_true g
      go_wp2
      go_roundg k1
      case measure=>have:=i.out;omega
      case rel=>exact⟨((aD l0 a).f0),(by first|rfl|(simp;done)|(simp[*];done)),H',⟨by have:=i.out;omega⟩,by repeat(first|exact Drawn0.refl _|apply Drawn0.step)⟩
     rw[if_neg c6]at H
     exact absurd H (by simp)
    rw[if_neg c5]at H
    exact absurd H (by simp)
   rw[if_neg c4]at H
   have j:decide (a2<a)=false:=decide_eq_false c4
   clear c4
   obtain rfl:=Option.some.inj H;clear H
   go_wp2
   go_ret
   exact⟨by first|rfl|(simp;done)|(simp[*];done),by repeat(first|exact Drawn0.refl _|apply Drawn0.step)⟩
set_option maxHeartbeats 8000000 in
set_option maxRecDepth 100000 in
theorem gV.calls (k:Nat) (y:Option Addr) (z:Nat) (g:List (S126)) (A:Option Addr) (B:Nat) (t:List (S104)) (D:Int) (E:Int) (G:Option Addr) (I:Nat) (u:List Int) (J:Int) (K:Int) (L:Option Addr) (M:Nat) (a:List (S113)) (O:Option Addr) (P:Nat) (v:List (S57)) (T:Option Addr) (U:Nat) (x:List (S181)) (c:Int) (i:Int) (l:Int) (j:Int) (r:Bool) (w:World) (ac:Kd.C eB w y g.length g) (ad:g.length≤z) (al:Kd.C dV w A t.length t) (am:t.length≤B) (an:Kd.C (Kd.int .i64) w G u.length u) (ao:u.length≤I) (ap:Kd.C fq w L a.length a) (aq:a.length≤M) (ar:Kd.C k57 w O v.length v) (aw:v.length≤P) (aB:Kd.C eZ w T x.length x) (aE:x.length≤U) (h:gV.f k g t D E u J K a v x c i l j=some r):
  Calls Tryz.prog 139 #[.agg #[.slice y g.length z, .slice A t.length B], .agg #[.int .i64 D, .int .i64 E, .slice G u.length I, .int .i64 J, .int .i64 K, .slice L a.length M, .slice O v.length P, .slice T x.length U], .agg #[.int .i64 c, .int .i64 i, .int .i64 l, .int .i64 j]] w fun e w' =>e= .returned (.bool r)∧Below w.heap.size w w' :=by
 have b3:=Tryz.underlying38
 have a4:=Tryz.underlying104
 have a5:=Tryz.underlying181
 have aF:=Aside0.mk ac
 have aL:=Aside0.mk ad
 clear ac ad
 have a6:=Aside0.mk al
 have a7:=Aside0.mk am
 clear al am
 have a8:=Aside0.mk an
 have a9:=Aside0.mk ao
 clear an ao
 have ba:=Aside0.mk ap
 have bb:=Aside0.mk aq
 clear ap aq
 have bc:=Aside0.mk ar
 have bd:=Aside0.mk aw
 clear ar aw
 have be:=Aside0.mk aB
 have bh:=Aside0.mk aE
 clear aB aE
 have HB:=Aside0.mk (Below.refl w.heap.size w)
 have H:((aM.f c 0 (wrap64 ((a.length:Int) - 1))).bind fun X=>(if X=true then((aM.f i (wrap64 (c+1)) (a.length:Int)).bind fun Y=>(if Y=true then((aM.f l 0 (wrap64 ((a.length:Int) - 1))).bind fun Z=>(if Z=true then((aM.f j 0 (wrap64 ((g.length:Int) - 1))).bind fun ab=>(if ab=true then((eG.f k g j 1).bind fun t182=>(some t182))else(some false)))else(some false)))else(some false)))else(some false)))=some r:=h
 clear h
 obtain⟨X,A4,H⟩:=ob H
 by_cases c5:X=true
 ·subst c5
  replace H:=it H
  obtain⟨Y,A6,H⟩:=ob H
  by_cases c7:Y=true
  ·subst c7
   replace H:=it H
   obtain⟨Z,A8,H⟩:=ob H
   by_cases c9:Z=true
   ·subst c9
    replace H:=it H
    obtain⟨ab,a2,H⟩:=ob H
    by_cases c11:ab=true
    ·subst c11
     replace H:=it H
     obtain⟨t182,a3,H⟩:=ob H
     obtain rfl:=Option.some.inj H;clear H
     go_enter Tryz.func139,Tryz.ntmps139
     go_wp2_with (first|((with_reducible refine gd 3 rfl ?_);(try(refine aW (by rfl) ?_;dsimp only));refine bx 3 #[.slice y g.length z, .slice A t.length B] 38 ?_;intro aO hg b4 hbox hb;have b:=Aside0.mk hbox;have aP:=hz HB hg;replace HB:=hs HB hb;clear hb hbox hg)|((with_reducible refine gd 4 rfl ?_);(try(refine aW (by rfl) ?_;dsimp only));refine bx 4 #[.int .i64 D, .int .i64 E, .slice G u.length I, .int .i64 J, .int .i64 K, .slice L a.length M, .slice O v.length P, .slice T x.length U] 104 ?_;intro aR hg b5 hbox hb;have d:=Aside0.mk hbox;have aS:=hz HB hg;have m:=nl b hg;have n:=ng b hg;replace b:=kb b hb;replace HB:=hs HB hb;clear hb hbox hg)|((with_reducible refine gd 5 rfl ?_);(try(refine aW (by rfl) ?_;dsimp only));refine bx 5 #[.int .i64 c, .int .i64 i, .int .i64 l, .int .i64 j] 181 ?_;intro a0 hg b6 hbox hb;have W:=Aside0.mk hbox;have a1:=hz HB hg;have o:=nl b hg;have p:=ng b hg;have q:=nl d hg;have s:=ng d hg;replace b:=kb b hb;replace d:=kb d hb;replace HB:=hs HB hb;clear hb hbox hg;have bj:=p.out;have bk:=o.out;have bm:=s.out;have bo:=q.out;have:=cf4 W;have bp:=n.out;have br:=m.out;have:=cf8 d)|(refine gl (some 13) Tryz.func52 #[.int .i64 c, .int .i64 0, .int .i64 (wrap64 ((a.length:Int) - 1))] rfl ?_;(with_reducible refine(aM.calls c 0 (wrap64 ((a.length:Int) - 1)) true _ A4.out).mono ?_);rintro e w' ⟨rfl,⟨nd,rfl⟩⟩;refine⟨_,rfl, ?_⟩)|(go_at_call 52;(with_reducible refine(aM.calls i (wrap64 (c+1)) (a.length:Int) true _ A6.out).mono ?_);rintro e w' ⟨rfl,⟨nd,rfl⟩⟩)|(go_at_call 52;(with_reducible refine(aM.calls l 0 (wrap64 ((a.length:Int) - 1)) true _ A8.out).mono ?_);rintro e w' ⟨rfl,⟨nd,rfl⟩⟩;have:=cf2 b)|(go_at_call 52;(with_reducible refine(aM.calls j 0 (wrap64 ((g.length:Int) - 1)) true _ a2.out).mono ?_);rintro e w' ⟨rfl,⟨nd,rfl⟩⟩)|(go_at_call 140;(with_reducible refine(eG.calls k _ _ g j 1 t182 _ (cb aF.out) aL.out a3.out).mono ?_);rintro e w' ⟨rfl,⟨nd,rfl⟩⟩))
     go_ret
     exact fin
    replace c11:=Bool.eq_false_iff.mpr c11
    subst c11
    replace H:=ie H
    obtain rfl:=Option.some.inj H;clear H
    go_enter Tryz.func139,Tryz.ntmps139
    go_wp2_with (first|((with_reducible refine gd 3 rfl ?_);(try(refine aW (by rfl) ?_;dsimp only));refine bx 3 #[.slice y g.length z, .slice A t.length B] 38 ?_;intro aO hg b7 hbox hb;have b:=Aside0.mk hbox;have aP:=hz HB hg;replace HB:=hs HB hb;clear hb hbox hg)|((with_reducible refine gd 4 rfl ?_);(try(refine aW (by rfl) ?_;dsimp only));refine bx 4 #[.int .i64 D, .int .i64 E, .slice G u.length I, .int .i64 J, .int .i64 K, .slice L a.length M, .slice O v.length P, .slice T x.length U] 104 ?_;intro aR hg b8 hbox hb;have d:=Aside0.mk hbox;have aS:=hz HB hg;have m:=nl b hg;have n:=ng b hg;replace b:=kb b hb;replace HB:=hs HB hb;clear hb hbox hg)|((with_reducible refine gd 5 rfl ?_);(try(refine aW (by rfl) ?_;dsimp only));refine bx 5 #[.int .i64 c, .int .i64 i, .int .i64 l, .int .i64 j] 181 ?_;intro a0 hg b9 hbox hb;have W:=Aside0.mk hbox;have a1:=hz HB hg;have o:=nl b hg;have p:=ng b hg;have q:=nl d hg;have s:=ng d hg;replace b:=kb b hb;replace d:=kb d hb;replace HB:=hs HB hb;clear hb hbox hg;have bs:=p.out;have bt:=o.out;have bw:=s.out;have b0:=q.out;have:=cf4 W;have b1:=n.out;have b2:=m.out;have:=cf8 d)|(refine gl (some 13) Tryz.func52 #[.int .i64 c, .int .i64 0, .int .i64 (wrap64 ((a.length:Int) - 1))] rfl ?_;(with_reducible refine(aM.calls c 0 (wrap64 ((a.length:Int) - 1)) true _ A4.out).mono ?_);rintro e w' ⟨rfl,⟨nd,rfl⟩⟩;refine⟨_,rfl, ?_⟩)|(go_at_call 52;(with_reducible refine(aM.calls i (wrap64 (c+1)) (a.length:Int) true _ A6.out).mono ?_);rintro e w' ⟨rfl,⟨nd,rfl⟩⟩)|(go_at_call 52;(with_reducible refine(aM.calls l 0 (wrap64 ((a.length:Int) - 1)) true _ A8.out).mono ?_);rintro e w' ⟨rfl,⟨nd,rfl⟩⟩;have:=cf2 b)|(go_at_call 52;(with_reducible refine(aM.calls j 0 (wrap64 ((g.length:Int) - 1)) false _ a2.out).mono ?_);rintro e w' ⟨rfl,⟨nd,rfl⟩⟩))
    go_ret
    exact fin
   replace c9:=Bool.eq_false_iff.mpr c9
   subst c9
   replace H:=ie H
   obtain rfl:=Option.some.inj H;clear H
   go_enter Tryz.func139,Tryz.ntmps139
   go_wp2_with (first|(refine gl (some 13) Tryz.func52 #[.int .i64 c, .int .i64 0, .int .i64 (wrap64 ((a.length:Int) - 1))] rfl ?_;(with_reducible refine(aM.calls c 0 (wrap64 ((a.length:Int) - 1)) true _ A4.out).mono ?_);rintro e w' ⟨rfl,⟨nd,rfl⟩⟩;refine⟨_,rfl, ?_⟩)|(go_at_call 52;(with_reducible refine(aM.calls i (wrap64 (c+1)) (a.length:Int) true _ A6.out).mono ?_);rintro e w' ⟨rfl,⟨nd,rfl⟩⟩)|(go_at_call 52;(with_reducible refine(aM.calls l 0 (wrap64 ((a.length:Int) - 1)) false _ A8.out).mono ?_);rintro e w' ⟨rfl,⟨nd,rfl⟩⟩))
   go_ret
   exact fin
  replace c7:=Bool.eq_false_iff.mpr c7
  subst c7
  replace H:=ie H
  obtain rfl:=Option.some.inj H;clear H
  go_enter Tryz.func139,Tryz.ntmps139
  go_wp2_with (first|(refine gl (some 13) Tryz.func52 #[.int .i64 c, .int .i64 0, .int .i64 (wrap64 ((a.length:Int) - 1))] rfl ?_;(with_reducible refine(aM.calls c 0 (wrap64 ((a.length:Int) - 1)) true _ A4.out).mono ?_);rintro e w' ⟨rfl,⟨nd,rfl⟩⟩;refine⟨_,rfl, ?_⟩)|(go_at_call 52;(with_reducible refine(aM.calls i (wrap64 (c+1)) (a.length:Int) false _ A6.out).mono ?_);rintro e w' ⟨rfl,⟨nd,rfl⟩⟩))
  go_ret
  exact fin
 replace c5:=Bool.eq_false_iff.mpr c5
 subst c5
 replace H:=ie H
 obtain rfl:=Option.some.inj H;clear H
 go_enter Tryz.func139,Tryz.ntmps139
 go_wp2_with (first|(refine gl (some 13) Tryz.func52 #[.int .i64 c, .int .i64 0, .int .i64 (wrap64 ((a.length:Int) - 1))] rfl ?_;(with_reducible refine(aM.calls c 0 (wrap64 ((a.length:Int) - 1)) false _ A4.out).mono ?_);rintro e w' ⟨rfl,⟨nd,rfl⟩⟩;refine⟨_,rfl, ?_⟩))
 go_ret
 exact fin
set_option maxHeartbeats 8000000 in
set_option maxRecDepth 100000 in
theorem fE.calls (k:Nat) (A0:Option Addr) (c0:Nat) (l0:List (S126)) (a1:Int) (r:Bool) (w:World) (hr0:Kd.C eB w A0 l0.length l0) (hc0:l0.length≤c0) (h:fE.f k l0 a1=some r):
  Calls Tryz.prog 121 #[.slice A0 l0.length c0, .int .i64 a1] w fun e w' =>e= .returned (.bool r)∧Below w.heap.size w w' :=by
 have a:=Aside0.mk hr0
 have b:=Aside0.mk hc0
 clear hr0 hc0
 have HB:=Aside0.mk (Below.refl w.heap.size w)
 have H:((bG.f k l0).bind fun c=>(if c=true then(if a1=0 then(some true)else(if a1=2 then(some true)else((cu.f l0 a1).bind fun t130=>(some t130))))else(some false)))=some r:=h
 clear h
 obtain⟨c,A3,H⟩:=ob H
 by_cases c4:c=true
 ·subst c4
  replace H:=it H
  by_cases c5:a1=0
  ·rw[if_pos c5]at H
   have d:=beq_iff_eq.mpr c5
   have g:=bne_eq_false_iff_eq.mpr c5
   clear c5
   obtain rfl:=Option.some.inj H;clear H
   go_enter Tryz.func121,Tryz.ntmps121
   go_wp2_with (first|(refine gl (some 6) Tryz.func72 #[.slice A0 l0.length c0] rfl ?_;(with_reducible refine(bG.calls k _ _ l0 true _ ?s1 b.out A3.out).mono ?_);(case s1=>repeat(first|exact a.out|(with_reducible refine Kd.C_alloc ?_ _)|(with_reducible refine Kd.C_drewN ?_ _)|(with_reducible refine Kd.C_drew ?_)));rintro e w6 ⟨rfl,hb⟩;refine⟨_,rfl, ?_⟩;replace HB:=hs HB hb))
   go_ret
   exact fin
  rw[if_neg c5]at H
  have d:=beq_eq_false_iff_ne.mpr c5
  have g:=bne_iff_ne.mpr c5
  by_cases c7:a1=2
  ·rw[if_pos c7]at H
   have i:=beq_iff_eq.mpr c7
   have j:=bne_eq_false_iff_eq.mpr c7
   clear c7
   obtain rfl:=Option.some.inj H;clear H
   go_enter Tryz.func121,Tryz.ntmps121
   go_wp2_with (first|(refine gl (some 6) Tryz.func72 #[.slice A0 l0.length c0] rfl ?_;(with_reducible refine(bG.calls k _ _ l0 true _ ?s1 b.out A3.out).mono ?_);(case s1=>repeat(first|exact a.out|(with_reducible refine Kd.C_alloc ?_ _)|(with_reducible refine Kd.C_drewN ?_ _)|(with_reducible refine Kd.C_drew ?_)));rintro e w8 ⟨rfl,hb⟩;refine⟨_,rfl, ?_⟩;replace HB:=hs HB hb))
   go_ret
   exact fin
  rw[if_neg c7]at H
  have i:=beq_eq_false_iff_ne.mpr c7
  have j:=bne_iff_ne.mpr c7
  obtain⟨t130,A9,H⟩:=ob H
  obtain rfl:=Option.some.inj H;clear H
  go_enter Tryz.func121,Tryz.ntmps121
  go_wp2_with (first|(refine gl (some 6) Tryz.func72 #[.slice A0 l0.length c0] rfl ?_;(with_reducible refine(bG.calls k _ _ l0 true _ ?s1 b.out A3.out).mono ?_);(case s1=>repeat(first|exact a.out|(with_reducible refine Kd.C_alloc ?_ _)|(with_reducible refine Kd.C_drewN ?_ _)|(with_reducible refine Kd.C_drew ?_)));rintro e l ⟨rfl,hb⟩;refine⟨_,rfl, ?_⟩;replace HB:=hs HB hb)|(go_at_call 158;(with_reducible refine(cu.calls _ _ l0 a1 t130 _ (cb a.out) b.out A9.out).mono ?_);rintro e w' ⟨rfl,⟨nd,rfl⟩⟩))
  go_ret
  exact fin
 replace c4:=Bool.eq_false_iff.mpr c4
 subst c4
 replace H:=ie H
 obtain rfl:=Option.some.inj H;clear H
 go_enter Tryz.func121,Tryz.ntmps121
 go_wp2_with (first|(refine gl (some 6) Tryz.func72 #[.slice A0 l0.length c0] rfl ?_;(with_reducible refine(bG.calls k _ _ l0 false _ ?s1 b.out A3.out).mono ?_);(case s1=>repeat(first|exact a.out|(with_reducible refine Kd.C_alloc ?_ _)|(with_reducible refine Kd.C_drewN ?_ _)|(with_reducible refine Kd.C_drew ?_)));rintro e m ⟨rfl,hb⟩;refine⟨_,rfl, ?_⟩;replace HB:=hs HB hb))
 go_ret
 exact fin
set_option maxHeartbeats 8000000 in
set_option maxRecDepth 100000 in
theorem bD.calls (k:Nat) (A0:Option Addr) (c0:Nat) (l0:List (S126)) (a1:Int) (u:Bool) (o:Option Addr) (p:Nat) (c:List Int) (q:Option Addr) (s:Nat) (b:List Int) (r:Bool) (w:World) (hr0:Kd.C eB w A0 l0.length l0) (hc0:l0.length≤c0) (T:Kd.C (Kd.int .i64) w o c.length c) (U:c.length≤p) (W:Kd.C (Kd.int .i64) w q b.length b) (X:b.length≤s) (h:bD.f k l0 a1 u c b=some r):
  Calls Tryz.prog 64 #[.slice A0 l0.length c0, .int .i64 a1, .agg #[.bool u, .slice o c.length p, .slice q b.length s]] w fun e w' =>e= .returned (.bool r)∧Below w.heap.size w w' :=by
 have a5:=Tryz.underlying57
 have A:=Aside0.mk hr0
 have B:=Aside0.mk hc0
 clear hr0 hc0
 have Y:=Aside0.mk T
 have aS:=Aside0.mk U
 clear T U
 have D:=Aside0.mk W
 have a0:=Aside0.mk X
 clear W X
 have HB:=Aside0.mk (Below.refl w.heap.size w)
 have H:((bG.f k l0).bind fun O=>(if O=true then(if u=true then(if(c.length:Int)=a1 then(bD.j0 k l0 (decide ((b.length:Int)>4)) u c b)else(bD.j0 k l0 true u c b))else(if(c.length:Int)=0 then(some ((b.length:Int)==0))else(some false)))else(some false)))=some r:=h
 clear h
 obtain⟨O,A4,H⟩:=ob H
 by_cases c5:O=true
 ·subst c5
  replace H:=it H
  by_cases c6:u=true
  ·subst c6
   replace H:=it H
   have al:=Aside0.mk H
   clear H
   go_enter Tryz.func64,Tryz.ntmps64
   go_upto_region 5 with(first|((with_reducible refine gd 5 rfl ?_);(try(refine aW (by rfl) ?_;dsimp only));refine bx 5 #[.bool true, .slice o c.length p, .slice q b.length s] 57 ?_;intro t hg w8 hbox hb;have a:=Aside0.mk hbox;have L:=hz HB hg;replace HB:=hs HB hb;clear hb hbox hg)|(refine gl (some 10) Tryz.func72 #[.slice A0 l0.length c0] rfl ?_;(with_reducible refine(bG.calls k _ _ l0 true _ (cb A.out) B.out A4.out).mono ?_);rintro e w9 ⟨rfl,hb⟩;refine⟨_,rfl, ?_⟩;replace a:=kb a hb;replace HB:=hs HB hb;have:=cf3 a))
   (try simp only[Act.put,List.setIfInBounds_toArray,List.set_cons_zero,List.set_cons_succ])
   go_cut [35] (fun v35 wc=> ∃(kq:Nat) (I:Bool),v35= .bool I∧Aside0 (bD.j0 kq l0 I true c b=some r)∧Aside0 (kq≤k)∧Aside0 (wc.heap[t]? =some (.cells #[.bool true,(.slice o c.length p),(.slice q b.length s)] 57 (0,0)))∧Aside0 (Below w.heap.size w wc))
   case first=>
    have H:=al.out
    clear al
    by_cases c11:(c.length:Int)=a1
    ·rw[if_pos c11]at H
     have E:=beq_iff_eq.mpr c11
     have an:=bne_eq_false_iff_eq.mpr c11
     clear c11
     (first|rw[E]|(simp only[bX,bZ];rw[E])|skip)
     have H' :=Aside0.mk H
     clear H
     have:=cf3 a
     go_wp2
     go_meet
     case rel=>exact⟨_,(decide ((b.length:Int)>4)),(by first|rfl|(simp;done)|(simp[*];done)),H',⟨by first|omega|exact Nat.le_refl _⟩,kk a,⟨bl⟩⟩
    rw[if_neg c11]at H
    have E:=beq_eq_false_iff_ne.mpr c11
    have an:=bne_iff_ne.mpr c11
    (first|rw[E]|(simp only[bX,bZ];rw[E])|skip)
    have H' :=Aside0.mk H
    clear H
    have:=cf3 a
    go_wp2
    go_meet
    case rel=>exact⟨_,(true),(by first|rfl|(simp;done)|(simp[*];done)),H',⟨by first|omega|exact Nat.le_refl _⟩,kk a,⟨bl⟩⟩
   case rest =>
    clear al
    obtain⟨kq,I,rfl,HA,Z,a,HB⟩:=hcut
    cases kq with
    |zero=>exact absurd HA.out (by simp[bD.j0])
    | succ aF=>
     have H:=HA.out
     clear HA
     simp only[bD.j0]at H
     by_cases c14:I=true
     ·subst c14
      replace H:=it H
      obtain rfl:=Option.some.inj H;clear H
      go_wp2
      go_ret
      exact fin
     replace c14:=Bool.eq_false_iff.mpr c14
     subst c14
     replace H:=ie H
     have H' :=Aside0.mk H
     clear H
     go_wp2
     go_loopg [7] aF (fun kq v7 w' => ∃(g:Int),v7= .int .i64 g∧Aside0 (bD.l0 kq l0 g true c b=some r)∧Aside0 (kq≤aF)∧Aside0 (w'.heap[t]? =some (.cells #[.bool true,(.slice o c.length p),(.slice q b.length s)] 57 (0,0)))∧Aside0 (Below w.heap.size w w'))
     case atStart=>exact⟨(0),(by first|rfl|(simp;done)|(simp[*];done)),H',⟨Nat.le_refl _⟩,kk a,⟨bl⟩⟩
     case round=>
      clear H'
      obtain⟨g,rfl,HA,ab,a,HB⟩:=hrel
      cases gk with
      |zero=>exact absurd HA.out (by simp[bD.l0])
      | succ k2=>
       have H:=HA.out
       clear HA
       simp only[bD.l0]at H
       by_cases c15:g<(c.length:Int)
       ·rw[if_pos c15]at H
        have ao:decide (g<(c.length:Int))=true:=decide_eq_true c15
        clear c15
        by_cases c16:0≤g
        ·rw[if_pos c16]at H
         have a2:decide (0≤g)=true:=decide_eq_true c16
         clear c16
         obtain⟨aP,aL,H⟩:=ob H
         by_cases c18:aP=true
         ·subst c18
          replace H:=it H
          have H' :=Aside0.mk H
          clear H
          have:=cf3 a
          have v:0≤(g:Int):=od
          have x:g<(c.length:Int):=od
          obtain⟨ap,P,m⟩:=Kd.at_int Y.out g v x
          cases P
          replace m:=hc HB m
          replace v:=eq_true v
          replace x:=eq_true x
          go_wp2_with (first|(refine gl (some 49) Tryz.func121 #[.slice A0 l0.length c0, .int .i64 (rd c g)] rfl ?_;(with_reducible refine(fE.calls k2 _ _ l0 (rd c g) true _ (cb A.out) B.out aL.out).mono ?_);rintro e a6 ⟨rfl,hb⟩;refine⟨_,rfl, ?_⟩;replace a:=kb a hb;replace HB:=hs HB hb))
          go_roundg k2
          case measure=>have:=Z.out;have:=ab.out;omega
          case rel=>exact⟨(wrap64 (g+1)),(by first|rfl|(simp;done)|(simp[*];done)),H',⟨by have:=Z.out;have:=ab.out;omega⟩,kk a,⟨bl⟩⟩
         replace c18:=Bool.eq_false_iff.mpr c18
         subst c18
         replace H:=ie H
         obtain rfl:=Option.some.inj H;clear H
         have:=cf3 a
         have v:0≤(g:Int):=od
         have x:g<(c.length:Int):=od
         obtain⟨ap,P,m⟩:=Kd.at_int Y.out g v x
         cases P
         replace m:=hc HB m
         replace v:=eq_true v
         replace x:=eq_true x
         go_wp2_with (first|(refine gl (some 49) Tryz.func121 #[.slice A0 l0.length c0, .int .i64 (rd c g)] rfl ?_;(with_reducible refine(fE.calls k2 _ _ l0 (rd c g) false _ (cb A.out) B.out aL.out).mono ?_);rintro e a7 ⟨rfl,hb⟩;refine⟨_,rfl, ?_⟩;replace a:=kb a hb;replace HB:=hs HB hb))
         go_ret
         exact fin
        rw[if_neg c16]at H
        exact absurd H (by simp)
       rw[if_neg c15]at H
       have ao:decide (g<(c.length:Int))=false:=decide_eq_false c15
       clear c15
       have H' :=Aside0.mk H
       clear H
       have:=cf3 a
       go_wp2
       go_loopg [8] k2 (fun kq v8 w' => ∃(d:Int),v8= .int .i64 d∧Aside0 (bD.l1 kq l0 d true c b=some r)∧Aside0 (kq≤k2)∧Aside0 (w'.heap[t]? =some (.cells #[.bool true,(.slice o c.length p),(.slice q b.length s)] 57 (0,0)))∧Aside0 (Below w.heap.size w w'))
       case atStart=>exact⟨(0),(by first|rfl|(simp;done)|(simp[*];done)),H',⟨Nat.le_refl _⟩,kk a,⟨bl⟩⟩
       case round=>
        clear H'
        obtain⟨d,rfl,HA,aO,a,HB⟩:=hrel
        cases gk with
        |zero=>exact absurd HA.out (by simp[bD.l1])
        | succ k3=>
         have H:=HA.out
         clear HA
         simp only[bD.l1]at H
         by_cases c24:d<(b.length:Int)
         ·rw [if_pos c24]at H
          have aq:decide (d<(b.length:Int))=true:=decide_eq_true c24
          clear c24
          by_cases ac:0≤d
          ·rw[if_pos ac]at H
           have a3:decide (0≤d)=true:=decide_eq_true ac
           clear ac
           obtain⟨aR,am,H⟩:=ob H
           by_cases ad:aR=true
           ·subst ad
            replace H:=it H
            by_cases c28:(rd b d)=0
            ·rw[if_pos c28]at H
             have ar:=beq_iff_eq.mpr c28
             have aw:=bne_eq_false_iff_eq.mpr c28
             clear c28
             obtain rfl:=Option.some.inj H;clear H
             have:=cf3 a
             have j:0≤(d:Int):=od
             have l:d<(b.length:Int):=od
             obtain⟨J,K,i⟩:=Kd.at_int D.out d j l
             cases K
             replace i:=hc HB i
             replace j:=eq_true j
             replace l:=eq_true l
             go_wp2_with (first|(refine gl (some 64) Tryz.func121 #[.slice A0 l0.length c0, .int .i64 (rd b d)] rfl ?_;(with_reducible refine(fE.calls k3 _ _ l0 (rd b d) true _ (cb A.out) B.out am.out).mono ?_);rintro e a8 ⟨rfl,hb⟩;refine⟨_,rfl, ?_⟩;replace a:=kb a hb;replace HB:=hs HB hb;have:=cf3 a;have y:0≤(d:Int):=od;have z:d<(b.length:Int):=od;obtain⟨M,e137,n⟩:=Kd.at_int D.out d y z;obtain rfl:J=M:=(by injection e137);replace n:=hc HB n;replace y:=eq_true y;replace z:=eq_true z))
             go_ret
             exact fin
            rw[if_neg c28]at H
            have ar:=beq_eq_false_iff_ne.mpr c28
            have aw:=bne_iff_ne.mpr c28
            have H' :=Aside0.mk H
            clear H
            have:=cf3 a
            have j:0≤(d:Int):=od
            have l:d<(b.length:Int):=od
            obtain⟨J,K,i⟩:=Kd.at_int D.out d j l
            cases K
            replace i:=hc HB i
            replace j:=eq_true j
            replace l:=eq_true l
            go_wp2_with (first|(refine gl (some 64) Tryz.func121 #[.slice A0 l0.length c0, .int .i64 (rd b d)] rfl ?_;(with_reducible refine(fE.calls k3 _ _ l0 (rd b d) true _ (cb A.out) B.out am.out).mono ?_);rintro e a9 ⟨rfl,hb⟩;refine⟨_,rfl, ?_⟩;replace a:=kb a hb;replace HB:=hs HB hb;have:=cf3 a;have y:0≤(d:Int):=od;have z:d<(b.length:Int):=od;obtain⟨M,e137,n⟩:=Kd.at_int D.out d y z;obtain rfl:J=M:=(by injection e137);replace n:=hc HB n;replace y:=eq_true y;replace z:=eq_true z))
            go_roundg k3
            case measure=>have:=Z.out;have:=ab.out;have:=aO.out;omega
            case rel=>exact⟨(wrap64 (d+1)),(by first|rfl|(simp;done)|(simp[*];done)),H',⟨by have:=Z.out;have:=ab.out;have:=aO.out;omega⟩,kk a,⟨bl⟩⟩
           replace ad:=Bool.eq_false_iff.mpr ad
           subst ad
           replace H:=ie H
           obtain rfl:=Option.some.inj H;clear H
           have:=cf3 a
           have j:0≤(d:Int):=od
           have l:d<(b.length:Int):=od
           obtain⟨J,K,i⟩:=Kd.at_int D.out d j l
           cases K
           replace i:=hc HB i
           replace j:=eq_true j
           replace l:=eq_true l
           go_wp2_with (first|(refine gl (some 64) Tryz.func121 #[.slice A0 l0.length c0, .int .i64 (rd b d)] rfl ?_;(with_reducible refine(fE.calls k3 _ _ l0 (rd b d) false _ (cb A.out) B.out am.out).mono ?_);rintro e ba ⟨rfl,hb⟩;refine⟨_,rfl, ?_⟩;replace a:=kb a hb;replace HB:=hs HB hb))
           go_ret
           exact fin
          rw[if_neg ac]at H
          exact absurd H (by simp)
         rw[if_neg c24]at H
         have aq:decide (d<(b.length:Int))=false:=decide_eq_false c24
         clear c24
         obtain rfl:=Option.some.inj H;clear H
         have:=cf3 a
         go_wp2
         go_ret
         exact fin
  replace c6:=Bool.eq_false_iff.mpr c6
  subst c6
  replace H:=ie H
  by_cases G:(c.length:Int)=0
  ·rw[if_pos G]at H
   have aB:=beq_iff_eq.mpr G
   have aE:=bne_eq_false_iff_eq.mpr G
   clear G
   obtain rfl:=Option.some.inj H;clear H
   go_enter Tryz.func64,Tryz.ntmps64
   go_wp2_with (first|((with_reducible refine gd 5 rfl ?_);(try(refine aW (by rfl) ?_;dsimp only));refine bx 5 #[.bool false, .slice o c.length p, .slice q b.length s] 57 ?_;intro t hg bb hbox hb;have a:=Aside0.mk hbox;have L:=hz HB hg;replace HB:=hs HB hb;clear hb hbox hg)|(refine gl (some 10) Tryz.func72 #[.slice A0 l0.length c0] rfl ?_;(with_reducible refine(bG.calls k _ _ l0 true _ (cb A.out) B.out A4.out).mono ?_);rintro e bc ⟨rfl,hb⟩;refine⟨_,rfl, ?_⟩;replace a:=kb a hb;replace HB:=hs HB hb;have:=cf3 a))
   go_ret
   exact fin
  rw[if_neg G]at H
  have aB:=beq_eq_false_iff_ne.mpr G
  have aE:=bne_iff_ne.mpr G
  have a4: ¬(c= []):=fun h_=>G (by rw[h_];rfl)
  obtain rfl:=Option.some.inj H;clear H
  go_enter Tryz.func64,Tryz.ntmps64
  go_wp2_with (first|((with_reducible refine gd 5 rfl ?_);(try(refine aW (by rfl) ?_;dsimp only));refine bx 5 #[.bool false, .slice o c.length p, .slice q b.length s] 57 ?_;intro t hg bd hbox hb;have a:=Aside0.mk hbox;have L:=hz HB hg;replace HB:=hs HB hb;clear hb hbox hg)|(refine gl (some 10) Tryz.func72 #[.slice A0 l0.length c0] rfl ?_;(with_reducible refine(bG.calls k _ _ l0 true _ (cb A.out) B.out A4.out).mono ?_);rintro e be ⟨rfl,hb⟩;refine⟨_,rfl, ?_⟩;replace a:=kb a hb;replace HB:=hs HB hb;have:=cf3 a))
  go_ret
  exact fin
 replace c5:=Bool.eq_false_iff.mpr c5
 subst c5
 replace H:=ie H
 obtain rfl:=Option.some.inj H;clear H
 go_enter Tryz.func64,Tryz.ntmps64
 go_wp2_with (first|((with_reducible refine gd 5 rfl ?_);(try(refine aW (by rfl) ?_;dsimp only));refine bx 5 #[.bool u, .slice o c.length p, .slice q b.length s] 57 ?_;intro t hg bh hbox hb;have a:=Aside0.mk hbox;have L:=hz HB hg;replace HB:=hs HB hb;clear hb hbox hg)|(refine gl (some 10) Tryz.func72 #[.slice A0 l0.length c0] rfl ?_;(with_reducible refine(bG.calls k _ _ l0 false _ (cb A.out) B.out A4.out).mono ?_);rintro e bj ⟨rfl,hb⟩;refine⟨_,rfl, ?_⟩;replace a:=kb a hb;replace HB:=hs HB hb))
 go_ret
 exact fin
end Go.Proofs.YteinbmkgenhocaaGreat.P
end
