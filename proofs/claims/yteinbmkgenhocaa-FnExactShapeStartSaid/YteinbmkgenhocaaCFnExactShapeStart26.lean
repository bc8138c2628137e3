/- A part of the claim FnExactShapeStart: texts of this session and texts that its program printed out of the translation, joined. -/
import Derived.Test.YteinbmkgenhocaaCFnExactShapeStart25
section
namespace Go.Proofs.Yteinbmkgenhocaa.P
open Go.RowKit Go.Proofs.YteinbmkgenhocaaW.PrintWords Go.Proofs.YteinbmkgenhocaaW.PrintLast Go.Proofs.YteinbmkgenhocaaW.PrintMore
attribute [local go_sem] ak au aA aC ai aj av ax
set_option linter.unusedVariables false
set_option linter.unusedSimpArgs false
def aJ.T6:Bool×List (List Nat×List Nat):=(true, [([], []),([], []),([], []),([2], [2]),([], []),([3,4], [3,4]),([5], [5]),([0,1,6], [0,1,6]),([7], [7]),([8,7], [8]),([9], [9]),([10,9], [9,10]),([9], [9]),([12,9], [9,12]),([9], [9]),([14,9], [9,14]),([9], [9]),([15,16,9], [9,15,16]),([17,9], [9,17]),([11,13,18,9,9], [9,11,13,18]),([19,9], [9,19]),([9,20], [9,20])])
def aJ.B6:List Nat:= [0,0,0,4,0,28,60,127,255,511,1023,2047,1023,5119,1023,17407,1023,115711,246783,524287,1048575,2097151]
theorem aJ.tab6:ed .any (opsOf Try.f54 6)=aJ.T6:=by kernel_rfl
theorem aJ.bits6:eP aJ.T6.2 aJ.B6=true:=by kernel_rfl
def aJ.T11:Bool×List (List Nat×List Nat):=(true, [([], []),([], []),([], []),([2], [2]),([], []),([3,4], [3,4]),([5], [5]),([0,1,6], [0,1,6]),([7], [7])])
def aJ.B11:List Nat:= [0,0,0,4,0,28,60,127,255]
theorem aJ.tab11:ed .any (opsOf Try.f54 11)=aJ.T11:=by kernel_rfl
theorem aJ.bits11:eP aJ.T11.2 aJ.B11=true:=by kernel_rfl
set_option maxHeartbeats 8000000 in
set_option maxRecDepth 100000 in
theorem aJ.calls (k:Nat) (P:Option Addr) (T:Nat) (o:List (S71)) (U:Option Addr) (W:Nat) (q:List (S50)) (t:Int) (u:Int) (X:Option Addr) (Y:Nat) (s:List Int) (v:Int) (p:Int) (aS:Option Addr) (Z:Nat) (d:List (S97)) (aO:Option Addr) (ab:Nat) (j:List (S29)) (aP:Option Addr) (ac:Nat) (g:List (S102)) (r:Bool) (w:World) (cc:Kd.C k71 w P o.length o) (cd:o.length≤T) (ce:Kd.C k50 w U q.length q) (cf:q.length≤W) (cg:Kd.C (Kd.int .i64) w X s.length s) (ch:s.length≤Y) (ci:Kd.C k97 w aS d.length d) (cj:d.length≤Z) (ck:Kd.C k29 w aO j.length j) (cl:j.length≤ab) (cm:Kd.C dQ w aP g.length g) (cn:g.length≤ac) (h:aJ.f k o q t u s v p d j g=some r):
  Calls Try.prog 54 #[.agg #[.slice P o.length T, .slice U q.length W], .agg #[.int .i64 t, .int .i64 u, .slice X s.length Y, .int .i64 v, .int .i64 p, .slice aS d.length Z, .slice aO j.length ab, .slice aP g.length ac]] w fun e w' =>e= .returned (.bool r)∧Below w.heap.size w w' :=by
 have dv:=Try.underlying34
 have dy:=Try.underlying50
 have dT:=Try.underlying97
 have d0:=Try.underlying29
 have cJ:=Try.underlying102
 have a0:=Aside0.mk cc
 have a1:=Aside0.mk cd
 clear cc cd
 have a4:=Aside0.mk ce
 have a5:=Aside0.mk cf
 clear ce cf
 have a6:=Aside0.mk cg
 have a7:=Aside0.mk ch
 clear cg ch
 have aR:=Aside0.mk ci
 have a8:=Aside0.mk cj
 clear ci cj
 have a2:=Aside0.mk ck
 have a9:=Aside0.mk cl
 clear ck cl
 have a3:=Aside0.mk cm
 have ba:=Aside0.mk cn
 clear cm cn
 have HB:=Aside0.mk (Below.refl w.heap.size w)
 have H:((bf.f k o q t u s v p d j g).bind fun b8=>(if b8=true then((aH.f (d.length:Int) 1 12).bind fun b9=>(if b9=true then(if(j.length:Int)=(d.length:Int)then(aJ.j0 k (decide ((g.length:Int)>2)) o q t u s v p d j g)else(aJ.j0 k true o q t u s v p d j g))else(aJ.j0 k true o q t u s v p d j g)))else(aJ.j0 k true o q t u s v p d j g)))=some r:=h
 clear h
 have ct:=Aside0.mk H
 clear H
 go_enter Try.func54,Try.ntmps54
 go_upto_region 1 with(first|((with_reducible refine gd 2 rfl ?_);(try(refine aN (by rfl) ?_;dsimp only));refine bx 2 #[.slice P o.length T, .slice U q.length W] 34 ?_;intro al hg w4 hbox hb;have b:=Aside0.mk hbox;have cL:=hz HB hg;have cM:=hz HB hg;replace HB:=hs HB hb;clear hb hbox hg)|((with_reducible refine gd 3 rfl ?_);(try(refine aN (by rfl) ?_;dsimp only));refine bx 3 #[.int .i64 t, .int .i64 u, .slice X s.length Y, .int .i64 v, .int .i64 p, .slice aS d.length Z, .slice aO j.length ab, .slice aP g.length ac] 50 ?_;intro l hg w5 hbox hb;have a:=Aside0.mk hbox;have cN:=hz HB hg;have cP:=hz HB hg;have B:=nl b hg;have D:=ng b hg;replace b:=kb b hb;replace HB:=hs HB hb;clear hb hbox hg))
 (try simp only[Act.put,List.setIfInBounds_toArray,List.set_cons_zero,List.set_cons_succ])
 go_cut [32] (fun v32 wc=> ∃(kq:Nat) (b6:Bool),v32= .bool b6∧Aside0 (aJ.j0 kq b6 o q t u s v p d j g=some r)∧Aside0 (kq≤k)∧Aside0 (wc.heap[al]? =some (.cells #[(.slice P o.length T),(.slice U q.length W)] 34 (0,0)))∧Aside0 (wc.heap[l]? =some (.cells #[.int .i64 t, .int .i64 u,(.slice X s.length Y), .int .i64 v, .int .i64 p,(.slice aS d.length Z),(.slice aO j.length ab),(.slice aP g.length ac)] 50 (0,0)))∧Aside0 (Below w.heap.size w wc))
 case first=>
  have H:=ct.out
  clear ct
  obtain⟨b8,A6,H⟩:=ob H
  by_cases c7:b8=true
  ·subst c7
   replace H:=it H
   obtain⟨b9,A8,H⟩:=ob H
   by_cases c9:b9=true
   ·subst c9
    replace H:=it H
    by_cases c10:(j.length:Int)=(d.length:Int)
    ·rw[if_pos c10]at H
     have b3:=beq_iff_eq.mpr c10
     have cw:=bne_eq_false_iff_eq.mpr c10
     have cx:(j.length==d.length)=true:=by first|simpa using c10|(simp at c10⊢;omega)
     clear c10
     (first|rw[b3]|(simp only[bT,bU];rw[b3])|skip)
     have H' :=Aside0.mk H
     clear H
     have cQ:=B.out
     have cR:=D.out
     obtain⟨_,_,_,_⟩:=cf2 b
     obtain⟨_,_,_,_,_,_,_,_,_,_,_,_,_,_,_,_⟩:=cf8 a
     go_wp2_with (first|((with_reducible refine gc 71 rfl ?_);refine gl (some 9) Try.func71 #[.agg #[.slice P o.length T, .slice U q.length W], .agg #[.int .i64 t, .int .i64 u, .slice X s.length Y, .int .i64 v, .int .i64 p, .slice aS d.length Z, .slice aO j.length ab, .slice aP g.length ac]] rfl ?_;(with_reducible refine(bf.calls k _ _ o _ _ q t u _ _ s v p _ _ d _ _ j _ _ g true _ ?s1 ?s2 ?s3 ?s4 ?s5 ?s6 ?s7 ?s8 ?s9 ?s10 ?s11 ?s12 A6.out).mono ?_);(case s1=>exact cb a0.out);(case s2=>exact a1.out);(case s3=>exact cb a4.out);(case s4=>exact a5.out);(case s5=>exact cb a6.out);(case s6=>exact a7.out);(case s7=>exact cb aR.out);(case s8=>exact a8.out);(case s9=>exact cb a2.out);(case s10=>exact a9.out);(case s11=>exact cb a3.out);(case s12=>exact ba.out);rintro e d1 ⟨rfl,hb⟩;refine⟨_,rfl, ?_⟩;replace b:=kb b hb;replace a:=kb a hb;replace HB:=hs HB hb;(try clear hb);obtain⟨_,_,_,_,_,_,_,_,_,_,_,_,_,_,_,_⟩:=cf8 a)|(go_at_call 33;(with_reducible refine(aH.calls (d.length:Int) 1 12 true _ A8.out).mono ?_);rintro e w' ⟨rfl,⟨nd,rfl⟩⟩))
     go_meet
     case rel=>exact⟨_,(decide ((g.length:Int)>2)),(by first|rfl|(simp;done)|(simp[*];done)),H',⟨by first|omega|exact Nat.le_refl _⟩,kk b,kk a,⟨bl⟩⟩
    ·rw[if_neg c10]at H
     have b3:=beq_eq_false_iff_ne.mpr c10
     have cw:=bne_iff_ne.mpr c10
     have cx:(j.length==d.length)=false:=by first|simpa using c10|(simp at c10⊢;omega)
     (first|rw[b3]|(simp only[bT,bU];rw[b3])|skip)
     have H' :=Aside0.mk H
     clear H
     have cS:=B.out
     have cT:=D.out
     obtain⟨_,_,_,_⟩:=cf2 b
     obtain⟨_,_,_,_,_,_,_,_,_,_,_,_,_,_,_,_⟩:=cf8 a
     go_wp2_with (first|((with_reducible refine gc 71 rfl ?_);refine gl (some 9) Try.func71 #[.agg #[.slice P o.length T, .slice U q.length W], .agg #[.int .i64 t, .int .i64 u, .slice X s.length Y, .int .i64 v, .int .i64 p, .slice aS d.length Z, .slice aO j.length ab, .slice aP g.length ac]] rfl ?_;(with_reducible refine(bf.calls k _ _ o _ _ q t u _ _ s v p _ _ d _ _ j _ _ g true _ ?s1 ?s2 ?s3 ?s4 ?s5 ?s6 ?s7 ?s8 ?s9 ?s10 ?s11 ?s12 A6.out).mono ?_);(case s1=>exact cb a0.out);(case s2=>exact a1.out);(case s3=>exact cb a4.out);(case s4=>exact a5.out);(case s5=>exact cb a6.out);(case s6=>exact a7.out);(case s7=>exact cb aR.out);(case s8=>exact a8.out);(case s9=>exact cb a2.out);(case s10=>exact a9.out);(case s11=>exact cb a3.out);(case s12=>exact ba.out);rintro e d2 ⟨rfl,hb⟩;refine⟨_,rfl, ?_⟩;replace b:=kb b hb;replace a:=kb a hb;replace HB:=hs HB hb;(try clear hb);obtain⟨_,_,_,_,_,_,_,_,_,_,_,_,_,_,_,_⟩:=cf8 a)|(go_at_call 33;(with_reducible refine(aH.calls (d.length:Int) 1 12 true _ A8.out).mono ?_);rintro e w' ⟨rfl,⟨nd,rfl⟩⟩))
     go_meet
     case rel=>exact⟨_,(true),(by first|rfl|(simp;done)|(simp[*];done)),H',⟨by first|omega|exact Nat.le_refl _⟩,kk b,kk a,⟨bl⟩⟩
   ·replace c9:=Bool.eq_false_iff.mpr c9
    subst c9
    replace H:=ie H
    have H' :=Aside0.mk H
    clear H
    have cU:=B.out
    have cV:=D.out
    obtain⟨_,_,_,_⟩:=cf2 b
    obtain⟨_,_,_,_,_,_,_,_,_,_,_,_,_,_,_,_⟩:=cf8 a
    go_wp2_with (first|((with_reducible refine gc 71 rfl ?_);refine gl (some 9) Try.func71 #[.agg #[.slice P o.length T, .slice U q.length W], .agg #[.int .i64 t, .int .i64 u, .slice X s.length Y, .int .i64 v, .int .i64 p, .slice aS d.length Z, .slice aO j.length ab, .slice aP g.length ac]] rfl ?_;(with_reducible refine(bf.calls k _ _ o _ _ q t u _ _ s v p _ _ d _ _ j _ _ g true _ ?s1 ?s2 ?s3 ?s4 ?s5 ?s6 ?s7 ?s8 ?s9 ?s10 ?s11 ?s12 A6.out).mono ?_);(case s1=>exact cb a0.out);(case s2=>exact a1.out);(case s3=>exact cb a4.out);(case s4=>exact a5.out);(case s5=>exact cb a6.out);(case s6=>exact a7.out);(case s7=>exact cb aR.out);(case s8=>exact a8.out);(case s9=>exact cb a2.out);(case s10=>exact a9.out);(case s11=>exact cb a3.out);(case s12=>exact ba.out);rintro e d3 ⟨rfl,hb⟩;refine⟨_,rfl, ?_⟩;replace b:=kb b hb;replace a:=kb a hb;replace HB:=hs HB hb;(try clear hb);obtain⟨_,_,_,_,_,_,_,_,_,_,_,_,_,_,_,_⟩:=cf8 a)|(go_at_call 33;(with_reducible refine(aH.calls (d.length:Int) 1 12 false _ A8.out).mono ?_);rintro e w' ⟨rfl,⟨nd,rfl⟩⟩))
    go_meet
    case rel=>exact⟨_,(true),(by first|rfl|(simp;done)|(simp[*];done)),H',⟨by first|omega|exact Nat.le_refl _⟩,kk b,kk a,⟨bl⟩⟩
  ·replace c7:=Bool.eq_false_iff.mpr c7
   subst c7
   replace H:=ie H
   have H' :=Aside0.mk H
   clear H
   have cW:=B.out
   have cX:=D.out
   obtain⟨_,_,_,_⟩:=cf2 b
   obtain⟨_,_,_,_,_,_,_,_,_,_,_,_,_,_,_,_⟩:=cf8 a
   go_wp2_with (first|((with_reducible refine gc 71 rfl ?_);refine gl (some 9) Try.func71 #[.agg #[.slice P o.length T, .slice U q.length W], .agg #[.int .i64 t, .int .i64 u, .slice X s.length Y, .int .i64 v, .int .i64 p, .slice aS d.length Z, .slice aO j.length ab, .slice aP g.length ac]] rfl ?_;(with_reducible refine(bf.calls k _ _ o _ _ q t u _ _ s v p _ _ d _ _ j _ _ g false _ ?s1 ?s2 ?s3 ?s4 ?s5 ?s6 ?s7 ?s8 ?s9 ?s10 ?s11 ?s12 A6.out).mono ?_);(case s1=>exact cb a0.out);(case s2=>exact a1.out);(case s3=>exact cb a4.out);(case s4=>exact a5.out);(case s5=>exact cb a6.out);(case s6=>exact a7.out);(case s7=>exact cb aR.out);(case s8=>exact a8.out);(case s9=>exact cb a2.out);(case s10=>exact a9.out);(case s11=>exact cb a3.out);(case s12=>exact ba.out);rintro e d4 ⟨rfl,hb⟩;refine⟨_,rfl, ?_⟩;replace b:=kb b hb;replace a:=kb a hb;replace HB:=hs HB hb;(try clear hb)))
   go_meet
   case rel=>exact⟨_,(true),(by first|rfl|(simp;done)|(simp[*];done)),H',⟨by first|omega|exact Nat.le_refl _⟩,kk b,kk a,⟨bl⟩⟩
 case rest =>
  clear ct
  obtain⟨kq,b6,rfl,HA,HJ2,b,a,HB⟩:=hcut
  cases kq with
  |zero=>exact absurd HA.out (by simp[aJ.j0])
  | succ cC =>
   have H:=HA.out
   clear HA
   simp only[aJ.j0]at H
   by_cases co:b6=true
   ·subst co
    replace H:=it H
    obtain rfl:=Option.some.inj H;clear H
    go_wp2
    go_ret
    exact fin
   ·replace co:=Bool.eq_false_iff.mpr co
    subst co
    replace H:=ie H
    have H' :=Aside0.mk H
    clear H
    go_wp2
    go_loopg [5] cC (fun kq v5 w' => ∃(c:Int),v5= .int .i64 c∧Aside0 (aJ.l0 kq c o q t u s v p d j g=some r)∧Aside0 (kq≤cC)∧Aside0 (w'.heap[al]? =some (.cells #[(.slice P o.length T),(.slice U q.length W)] 34 (0,0)))∧Aside0 (w'.heap[l]? =some (.cells #[.int .i64 t, .int .i64 u,(.slice X s.length Y), .int .i64 v, .int .i64 p,(.slice aS d.length Z),(.slice aO j.length ab),(.slice aP g.length ac)] 50 (0,0)))∧Aside0 (Below w.heap.size w w'))
    case atStart=>exact⟨(0),(by first|rfl|(simp;done)|(simp[*];done)),H',⟨Nat.le_refl _⟩,kk b,kk a,⟨bl⟩⟩
    case round=>
     clear H'
     obtain⟨c,rfl,HA,cp,b,a,HB⟩:=hrel
     cases gk with
     |zero=>exact absurd HA.out (by simp[aJ.l0])
     | succ k2=>
      have H:=HA.out
      clear HA
      simp only[aJ.l0]at H
      by_cases c31:c<(d.length:Int)
      ·rw [if_pos c31]at H
       have cy:decide (c<(d.length:Int))=true:=decide_eq_true c31
       clear c31
       by_cases c32:0≤c
       ·rw [if_pos c32]at H
        have cY:decide (0≤c)=true:=decide_eq_true c32
        clear c32
        obtain⟨cG,cv,H⟩:=ob H
        by_cases c34:cG=true
        ·subst c34
         replace H:=it H
         by_cases cq:c<(j.length:Int)
         ·rw[if_pos cq]at H
          have c0:decide (c<(j.length:Int))=true:=decide_eq_true cq
          clear cq
          obtain⟨cH,cD,H⟩:=ob H
          by_cases c37:cH=true
          ·subst c37
           replace H:=it H
           have H' :=Aside0.mk H
           clear H
           have c1:=D.out
           have da:=B.out
           obtain⟨_,_,_,_,_,_,_,_,_,_,_,_,_,_,_,_⟩:=cf8 a
           try go_wp2
           replace b:=Aside0.mk (af b.out)
           replace a:=Aside0.mk (af a.out)
           replace HB:=Aside0.mk (aW HB.out)
           have bb:0≤(c:Int):=od
           have bc:c<(d.length:Int):=od
           obtain⟨A,e187,E,G,I⟩:=iA aR.out c bb bc
           have x:=I
           have y:=G
           have z:=E
           cases e187
           obtain⟨E,G,I⟩:=hc3 HB E G I
           replace bb:=eq_true bb
           replace bc:=eq_true bc
           have bw:0≤(c:Int):=od
           have b0:c<(j.length:Int):=od
           obtain⟨ad,bo,bp,br,bs,e189,am,an,ao,bd,be,bh,bj⟩:=iZ a2.out c bw b0
           have L:=ao
           have M:=an
           have O:=am
           cases e189
           obtain⟨am,an,ao⟩:=hc3 HB am an ao
           have bk:=Aside0.mk be
           have b4:=Aside0.mk bd
           clear be bd
           have bm:=Aside0.mk bj
           have b5:=Aside0.mk bh
           clear bj bh
           replace bw:=eq_true bw
           replace b0:=eq_true b0
           refine dX (n:=22) (S:=fun w' =>w'.cell? ⟨al,0,none⟩=some (.slice P o.length T)∧w'.cell? ⟨al,1,none⟩=some (.slice U q.length W)∧w'.cell? ⟨l,0,none⟩=some (.int .i64 t)∧w'.cell? ⟨l,1,none⟩=some (.int .i64 u)∧w'.cell? ⟨l,2,none⟩=some (.slice X s.length Y)∧w'.cell? ⟨l,3,none⟩=some (.int .i64 v)∧w'.cell? ⟨l,4,none⟩=some (.int .i64 p)∧w'.cell? ⟨l,5,none⟩=some (.slice (some A) d.length Z)∧w'.cell? ⟨l,6,none⟩=some (.slice (some ad) j.length ab)∧w'.cell? ⟨l,7,none⟩=some (.slice aP g.length ac)∧w'.cell? (A.add ((c).toNat * 3))=some (.int .i64 ((aM d c).f0))∧w'.cell? ⟨(A.add ((c).toNat * 3)).block,(A.add ((c).toNat * 3)).off+1,none⟩=some (.int .i64 ((aM d c).f1))∧w'.cell? ⟨(A.add ((c).toNat * 3)).block,(A.add ((c).toNat * 3)).off+2,none⟩=some (.int .i64 ((aM d c).f2))∧w'.cell? (ad.add ((c).toNat * 3))=some (.bool ((aQ j c).f0))∧w'.cell? ⟨(ad.add ((c).toNat * 3)).block,(ad.add ((c).toNat * 3)).off+1,none⟩=some (.slice bo ((aQ j c).f1).length bp)∧w'.cell? ⟨(ad.add ((c).toNat * 3)).block,(ad.add ((c).toNat * 3)).off+2,none⟩=some (.slice br ((aQ j c).f2).length bs)) (ds:= []) #[false,false,false,false,false,false,false,false,false,false,false,false,false,false,false,false,false,false,false,false,false,false] (by kernel_rfl) rfl rfl ⟨(ae b.out 0).trans rfl,(ae b.out 1).trans rfl,(ae a.out 0).trans rfl,(ae a.out 1).trans rfl,(ae a.out 2).trans rfl,(ae a.out 3).trans rfl,(ae a.out 4).trans rfl,(ae a.out 5).trans rfl,(ae a.out 6).trans rfl,(ae a.out 7).trans rfl,((HB.out.cell (World.block_lt_of_cell? w _ z)).trans z),((HB.out.cell (World.block_lt_of_cell? w _ y)).trans y),((HB.out.cell (World.block_lt_of_cell? w _ x)).trans x),((HB.out.cell (World.block_lt_of_cell? w _ O)).trans O),((HB.out.cell (World.block_lt_of_cell? w _ M)).trans M),((HB.out.cell (World.block_lt_of_cell? w _ L)).trans L)⟩ (fun hHeld=> ?_);refine dH aJ.tab6 aJ.bits6 (fun HT_ HW_=> ?_)
           generalize wr.drew=d5 at b a HB bk bm E G I am an ao hHeld⊢
           refine pu 2 42 #[false,false,true,false,false,false,false,false,false,false,false,false,false,false,false,false,false,false,false,false,false,false] HT_ rfl rfl ?_
           refine pu 4 44 #[false,false,true,false,true,false,false,false,false,false,false,false,false,false,false,false,false,false,false,false,false,false] HT_ rfl rfl ?_
           refine ta 0 40 #[true,false,true,false,true,false,false,false,false,false,false,false,false,false,false,false,false,false,false,false,false,false] HT_ HW_ hHeld rfl rfl ?_
           refine ta 1 41 #[true,true,true,false,true,false,false,false,false,false,false,false,false,false,false,false,false,false,false,false,false,false] HT_ HW_ hHeld rfl rfl ?_
           refine ta 3 43 #[true,true,true,true,true,false,false,false,false,false,false,false,false,false,false,false,false,false,false,false,false,false] HT_ HW_ hHeld rfl rfl ?_
           refine pu 5 45 #[true,true,true,true,true,true,false,false,false,false,false,false,false,false,false,false,false,false,false,false,false,false] HT_ rfl rfl ?_
           refine ta 6 46 #[true,true,true,true,true,true,true,false,false,false,false,false,false,false,false,false,false,false,false,false,false,false] HT_ HW_ hHeld rfl rfl ?_
           refine fo (i:=7) (N:=some 47) #[true,true,true,true,true,true,true,true,false,false,false,false,false,false,false,false,false,false,false,false,false,false] rfl rfl (dU HT_.out (by kernel_rfl)) (by decide) (fun K hK=> ?_)
           refine gs Try.func72 #[.agg #[.slice P o.length T, .slice U q.length W], .agg #[.int .i64 t, .int .i64 u, .slice X s.length Y, .int .i64 v, .int .i64 p, .slice (some A) d.length Z, .slice (some ad) j.length ab, .slice aP g.length ac], .agg #[.int .i64 ((aM d c).f0), .int .i64 ((aM d c).f1), .int .i64 ((aM d c).f2)]] rfl rfl ?_
           with_reducible refine(aI.calls k2 _ _ o _ _ q t u _ _ s v p _ _ d _ _ j _ _ g ((aM d c).f0) ((aM d c).f1) ((aM d c).f2) true _ ?s1 ?s2 ?s3 ?s4 ?s5 ?s6 ?s7 ?s8 ?s9 ?s10 ?s11 ?s12 cv.out).mono ?_
           (case s1=>exact cb a0.out)
           (case s2=>exact a1.out)
           (case s3=>exact cb a4.out)
           (case s4=>exact a5.out)
           (case s5=>exact cb a6.out)
           (case s6=>exact a7.out)
           (case s7=>exact cb aR.out)
           (case s8=>exact a8.out)
           (case s9=>exact cb a2.out)
           (case s10=>exact a9.out)
           (case s11=>exact cb a3.out)
           (case s12=>exact ba.out)
           rintro e d6 ⟨rfl,hb⟩
           refine⟨_,rfl, ?_⟩
           replace b:=kb b hb
           replace a:=kb a hb
           replace HB:=hs HB hb
           (try clear hb)
           (try clear hb2)
           (try clear hk)
           (try clear hi)
           refine hK.out _ _ ⟨(ae b.out 0).trans rfl,(ae b.out 1).trans rfl,(ae a.out 0).trans rfl,(ae a.out 1).trans rfl,(ae a.out 2).trans rfl,(ae a.out 3).trans rfl,(ae a.out 4).trans rfl,(ae a.out 5).trans rfl,(ae a.out 6).trans rfl,(ae a.out 7).trans rfl,((HB.out.cell (World.block_lt_of_cell? w _ z)).trans z),((HB.out.cell (World.block_lt_of_cell? w _ y)).trans y),((HB.out.cell (World.block_lt_of_cell? w _ x)).trans x),((HB.out.cell (World.block_lt_of_cell? w _ O)).trans O),((HB.out.cell (World.block_lt_of_cell? w _ M)).trans M),((HB.out.cell (World.block_lt_of_cell? w _ L)).trans L)⟩ (fun hHeld=> ?_)
           clear hK K
           refine no 47 ?_
           refine pu 8 48 #[true,true,true,true,true,true,true,true,true,false,false,false,false,false,false,false,false,false,false,false,false,false] HT_ rfl rfl ?_
           refine pu 9 49 #[true,true,true,true,true,true,true,true,true,true,false,false,false,false,false,false,false,false,false,false,false,false] HT_ rfl rfl ?_
           refine pu 10 50 #[true,true,true,true,true,true,true,true,true,true,true,false,false,false,false,false,false,false,false,false,false,false] HT_ rfl rfl ?_
           refine pu 12 52 #[true,true,true,true,true,true,true,true,true,true,true,false,true,false,false,false,false,false,false,false,false,false] HT_ rfl rfl ?_
           refine pu 14 54 #[true,true,true,true,true,true,true,true,true,true,true,false,true,false,true,false,false,false,false,false,false,false] HT_ rfl rfl ?_
           refine pu 16 56 #[true,true,true,true,true,true,true,true,true,true,true,false,true,false,true,false,true,false,false,false,false,false] HT_ rfl rfl ?_
           refine ta 11 51 #[true,true,true,true,true,true,true,true,true,true,true,true,true,false,true,false,true,false,false,false,false,false] HT_ HW_ hHeld rfl rfl ?_
           refine ta 13 53 #[true,true,true,true,true,true,true,true,true,true,true,true,true,true,true,false,true,false,false,false,false,false] HT_ HW_ hHeld rfl rfl ?_
           refine ta 15 55 #[true,true,true,true,true,true,true,true,true,true,true,true,true,true,true,true,true,false,false,false,false,false] HT_ HW_ hHeld rfl rfl ?_
           refine pu 17 57 #[true,true,true,true,true,true,true,true,true,true,true,true,true,true,true,true,true,true,false,false,false,false] HT_ rfl rfl ?_
           refine ta 18 58 #[true,true,true,true,true,true,true,true,true,true,true,true,true,true,true,true,true,true,true,false,false,false] HT_ HW_ hHeld rfl rfl ?_
           refine fo (i:=19) (N:=some 59) #[true,true,true,true,true,true,true,true,true,true,true,true,true,true,true,true,true,true,true,true,false,false] rfl rfl (dU HT_.out (by kernel_rfl)) (by decide) (fun K hK=> ?_)
           refine gs Try.func73 #[.slice P o.length T, .int .i64 p, .agg #[.bool ((aQ j c).f0), .slice bo ((aQ j c).f1).length bp, .slice br ((aQ j c).f2).length bs]] rfl rfl ?_
           with_reducible refine(bq.calls k2 _ _ o p ((aQ j c).f0) _ _ ((aQ j c).f1) _ _ ((aQ j c).f2) true _ ?s1 ?s2 ?s3 ?s4 ?s5 ?s6 cD.out).mono ?_
           (case s1=>exact cb a0.out)
           (case s2=>exact a1.out)
           (case s3=>exact cb bk.out)
           (case s4=>exact b4.out)
           (case s5=>exact cb bm.out)
           (case s6=>exact b5.out)
           rintro e d7 ⟨rfl,hb⟩
           refine⟨_,rfl, ?_⟩
           replace b:=kb b hb
           replace a:=kb a hb
           replace HB:=hs HB hb
           (try clear hb)
           (try clear hb2)
           (try clear hk)
           (try clear hi)
           refine hK.out _ _ ⟨(ae b.out 0).trans rfl,(ae b.out 1).trans rfl,(ae a.out 0).trans rfl,(ae a.out 1).trans rfl,(ae a.out 2).trans rfl,(ae a.out 3).trans rfl,(ae a.out 4).trans rfl,(ae a.out 5).trans rfl,(ae a.out 6).trans rfl,(ae a.out 7).trans rfl,((HB.out.cell (World.block_lt_of_cell? w _ z)).trans z),((HB.out.cell (World.block_lt_of_cell? w _ y)).trans y),((HB.out.cell (World.block_lt_of_cell? w _ x)).trans x),((HB.out.cell (World.block_lt_of_cell? w _ O)).trans O),((HB.out.cell (World.block_lt_of_cell? w _ M)).trans M),((HB.out.cell (World.block_lt_of_cell? w _ L)).trans L)⟩ (fun hHeld=> ?_)
           clear hK K
           refine no 59 ?_
           refine pu 20 60 #[true,true,true,true,true,true,true,true,true,true,true,true,true,true,true,true,true,true,true,true,true,false] HT_ rfl rfl ?_
           refine pu 21 61 #[true,true,true,true,true,true,true,true,true,true,true,true,true,true,true,true,true,true,true,true,true,true] HT_ rfl rfl ?_
           refine eT (dR HT_.out (by kernel_rfl)) ?_
           try go_wp2
           go_roundg k2
           case measure=>have:=HJ2.out;have:=cp.out;omega
           case rel=>exact⟨(wrap64 (c+1)),(by first|rfl|(simp;done)|(simp[*];done)),H',⟨by have:=HJ2.out;have:=cp.out;omega⟩,kk b,kk a,⟨bl⟩⟩
          ·replace c37:=Bool.eq_false_iff.mpr c37
           subst c37
           replace H:=ie H
           obtain rfl:=Option.some.inj H;clear H
           have db:=D.out
           have dc:=B.out
           obtain⟨_,_,_,_,_,_,_,_,_,_,_,_,_,_,_,_⟩:=cf8 a
           try go_wp2
           replace b:=Aside0.mk (af b.out)
           replace a:=Aside0.mk (af a.out)
           replace HB:=Aside0.mk (aW HB.out)
           have bb:0≤(c:Int):=od
           have bc:c<(d.length:Int):=od
           obtain⟨A,e187,E,G,I⟩:=iA aR.out c bb bc
           have x:=I
           have y:=G
           have z:=E
           cases e187
           obtain⟨E,G,I⟩:=hc3 HB E G I
           replace bb:=eq_true bb
           replace bc:=eq_true bc
           have bw:0≤(c:Int):=od
           have b0:c<(j.length:Int):=od
           obtain⟨ad,bo,bp,br,bs,e189,am,an,ao,bd,be,bh,bj⟩:=iZ a2.out c bw b0
           have L:=ao
           have M:=an
           have O:=am
           cases e189
           obtain⟨am,an,ao⟩:=hc3 HB am an ao
           have bk:=Aside0.mk be
           have b4:=Aside0.mk bd
           clear be bd
           have bm:=Aside0.mk bj
           have b5:=Aside0.mk bh
           clear bj bh
           replace bw:=eq_true bw
           replace b0:=eq_true b0
           refine dX (n:=22) (S:=fun w' =>w'.cell? ⟨al,0,none⟩=some (.slice P o.length T)∧w'.cell? ⟨al,1,none⟩=some (.slice U q.length W)∧w'.cell? ⟨l,0,none⟩=some (.int .i64 t)∧w'.cell? ⟨l,1,none⟩=some (.int .i64 u)∧w'.cell? ⟨l,2,none⟩=some (.slice X s.length Y)∧w'.cell? ⟨l,3,none⟩=some (.int .i64 v)∧w'.cell? ⟨l,4,none⟩=some (.int .i64 p)∧w'.cell? ⟨l,5,none⟩=some (.slice (some A) d.length Z)∧w'.cell? ⟨l,6,none⟩=some (.slice (some ad) j.length ab)∧w'.cell? ⟨l,7,none⟩=some (.slice aP g.length ac)∧w'.cell? (A.add ((c).toNat * 3))=some (.int .i64 ((aM d c).f0))∧w'.cell? ⟨(A.add ((c).toNat * 3)).block,(A.add ((c).toNat * 3)).off+1,none⟩=some (.int .i64 ((aM d c).f1))∧w'.cell? ⟨(A.add ((c).toNat * 3)).block,(A.add ((c).toNat * 3)).off+2,none⟩=some (.int .i64 ((aM d c).f2))∧w'.cell? (ad.add ((c).toNat * 3))=some (.bool ((aQ j c).f0))∧w'.cell? ⟨(ad.add ((c).toNat * 3)).block,(ad.add ((c).toNat * 3)).off+1,none⟩=some (.slice bo ((aQ j c).f1).length bp)∧w'.cell? ⟨(ad.add ((c).toNat * 3)).block,(ad.add ((c).toNat * 3)).off+2,none⟩=some (.slice br ((aQ j c).f2).length bs)) (ds:= []) #[false,false,false,false,false,false,false,false,false,false,false,false,false,false,false,false,false,false,false,false,false,false] (by kernel_rfl) rfl rfl ⟨(ae b.out 0).trans rfl,(ae b.out 1).trans rfl,(ae a.out 0).trans rfl,(ae a.out 1).trans rfl,(ae a.out 2).trans rfl,(ae a.out 3).trans rfl,(ae a.out 4).trans rfl,(ae a.out 5).trans rfl,(ae a.out 6).trans rfl,(ae a.out 7).trans rfl,((HB.out.cell (World.block_lt_of_cell? w _ z)).trans z),((HB.out.cell (World.block_lt_of_cell? w _ y)).trans y),((HB.out.cell (World.block_lt_of_cell? w _ x)).trans x),((HB.out.cell (World.block_lt_of_cell? w _ O)).trans O),((HB.out.cell (World.block_lt_of_cell? w _ M)).trans M),((HB.out.cell (World.block_lt_of_cell? w _ L)).trans L)⟩ (fun hHeld=> ?_);refine dH aJ.tab6 aJ.bits6 (fun HT_ HW_=> ?_)
           generalize wr.drew=d8 at b a HB bk bm E G I am an ao hHeld⊢
           refine pu 2 42 #[false,false,true,false,false,false,false,false,false,false,false,false,false,false,false,false,false,false,false,false,false,false] HT_ rfl rfl ?_
           refine pu 4 44 #[false,false,true,false,true,false,false,false,false,false,false,false,false,false,false,false,false,false,false,false,false,false] HT_ rfl rfl ?_
           refine ta 0 40 #[true,false,true,false,true,false,false,false,false,false,false,false,false,false,false,false,false,false,false,false,false,false] HT_ HW_ hHeld rfl rfl ?_
           refine ta 1 41 #[true,true,true,false,true,false,false,false,false,false,false,false,false,false,false,false,false,false,false,false,false,false] HT_ HW_ hHeld rfl rfl ?_
           refine ta 3 43 #[true,true,true,true,true,false,false,false,false,false,false,false,false,false,false,false,false,false,false,false,false,false] HT_ HW_ hHeld rfl rfl ?_
           refine pu 5 45 #[true,true,true,true,true,true,false,false,false,false,false,false,false,false,false,false,false,false,false,false,false,false] HT_ rfl rfl ?_
           refine ta 6 46 #[true,true,true,true,true,true,true,false,false,false,false,false,false,false,false,false,false,false,false,false,false,false] HT_ HW_ hHeld rfl rfl ?_
           refine fo (i:=7) (N:=some 47) #[true,true,true,true,true,true,true,true,false,false,false,false,false,false,false,false,false,false,false,false,false,false] rfl rfl (dU HT_.out (by kernel_rfl)) (by decide) (fun K hK=> ?_)
           refine gs Try.func72 #[.agg #[.slice P o.length T, .slice U q.length W], .agg #[.int .i64 t, .int .i64 u, .slice X s.length Y, .int .i64 v, .int .i64 p, .slice (some A) d.length Z, .slice (some ad) j.length ab, .slice aP g.length ac], .agg #[.int .i64 ((aM d c).f0), .int .i64 ((aM d c).f1), .int .i64 ((aM d c).f2)]] rfl rfl ?_
           with_reducible refine(aI.calls k2 _ _ o _ _ q t u _ _ s v p _ _ d _ _ j _ _ g ((aM d c).f0) ((aM d c).f1) ((aM d c).f2) true _ ?s1 ?s2 ?s3 ?s4 ?s5 ?s6 ?s7 ?s8 ?s9 ?s10 ?s11 ?s12 cv.out).mono ?_
           (case s1=>exact cb a0.out)
           (case s2=>exact a1.out)
           (case s3=>exact cb a4.out)
           (case s4=>exact a5.out)
           (case s5=>exact cb a6.out)
           (case s6=>exact a7.out)
           (case s7=>exact cb aR.out)
           (case s8=>exact a8.out)
           (case s9=>exact cb a2.out)
           (case s10=>exact a9.out)
           (case s11=>exact cb a3.out)
           (case s12=>exact ba.out)
           rintro e ea ⟨rfl,hb⟩
           refine⟨_,rfl, ?_⟩
           replace b:=kb b hb
           replace a:=kb a hb
           replace HB:=hs HB hb
           (try clear hb)
           (try clear hb2)
           (try clear hk)
           (try clear hi)
           refine hK.out _ _ ⟨(ae b.out 0).trans rfl,(ae b.out 1).trans rfl,(ae a.out 0).trans rfl,(ae a.out 1).trans rfl,(ae a.out 2).trans rfl,(ae a.out 3).trans rfl,(ae a.out 4).trans rfl,(ae a.out 5).trans rfl,(ae a.out 6).trans rfl,(ae a.out 7).trans rfl,((HB.out.cell (World.block_lt_of_cell? w _ z)).trans z),((HB.out.cell (World.block_lt_of_cell? w _ y)).trans y),((HB.out.cell (World.block_lt_of_cell? w _ x)).trans x),((HB.out.cell (World.block_lt_of_cell? w _ O)).trans O),((HB.out.cell (World.block_lt_of_cell? w _ M)).trans M),((HB.out.cell (World.block_lt_of_cell? w _ L)).trans L)⟩ (fun hHeld=> ?_)
           clear hK K
           refine no 47 ?_
           refine pu 8 48 #[true,true,true,true,true,true,true,true,true,false,false,false,false,false,false,false,false,false,false,false,false,false] HT_ rfl rfl ?_
           refine pu 9 49 #[true,true,true,true,true,true,true,true,true,true,false,false,false,false,false,false,false,false,false,false,false,false] HT_ rfl rfl ?_
           refine pu 10 50 #[true,true,true,true,true,true,true,true,true,true,true,false,false,false,false,false,false,false,false,false,false,false] HT_ rfl rfl ?_
           refine pu 12 52 #[true,true,true,true,true,true,true,true,true,true,true,false,true,false,false,false,false,false,false,false,false,false] HT_ rfl rfl ?_
           refine pu 14 54 #[true,true,true,true,true,true,true,true,true,true,true,false,true,false,true,false,false,false,false,false,false,false] HT_ rfl rfl ?_
           refine pu 16 56 #[true,true,true,true,true,true,true,true,true,true,true,false,true,false,true,false,true,false,false,false,false,false] HT_ rfl rfl ?_
           refine ta 11 51 #[true,true,true,true,true,true,true,true,true,true,true,true,true,false,true,false,true,false,false,false,false,false] HT_ HW_ hHeld rfl rfl ?_
           refine ta 13 53 #[true,true,true,true,true,true,true,true,true,true,true,true,true,true,true,false,true,false,false,false,false,false] HT_ HW_ hHeld rfl rfl ?_
           refine ta 15 55 #[true,true,true,true,true,true,true,true,true,true,true,true,true,true,true,true,true,false,false,false,false,false] HT_ HW_ hHeld rfl rfl ?_
           refine pu 17 57 #[true,true,true,true,true,true,true,true,true,true,true,true,true,true,true,true,true,true,false,false,false,false] HT_ rfl rfl ?_
           refine ta 18 58 #[true,true,true,true,true,true,true,true,true,true,true,true,true,true,true,true,true,true,true,false,false,false] HT_ HW_ hHeld rfl rfl ?_
           refine fo (i:=19) (N:=some 59) #[true,true,true,true,true,true,true,true,true,true,true,true,true,true,true,true,true,true,true,true,false,false] rfl rfl (dU HT_.out (by kernel_rfl)) (by decide) (fun K hK=> ?_)
           refine gs Try.func73 #[.slice P o.length T, .int .i64 p, .agg #[.bool ((aQ j c).f0), .slice bo ((aQ j c).f1).length bp, .slice br ((aQ j c).f2).length bs]] rfl rfl ?_
           with_reducible refine(bq.calls k2 _ _ o p ((aQ j c).f0) _ _ ((aQ j c).f1) _ _ ((aQ j c).f2) false _ ?s1 ?s2 ?s3 ?s4 ?s5 ?s6 cD.out).mono ?_
           (case s1=>exact cb a0.out)
           (case s2=>exact a1.out)
           (case s3=>exact cb bk.out)
           (case s4=>exact b4.out)
           (case s5=>exact cb bm.out)
           (case s6=>exact b5.out)
           rintro e eb ⟨rfl,hb⟩
           refine⟨_,rfl, ?_⟩
           replace b:=kb b hb
           replace a:=kb a hb
           replace HB:=hs HB hb
           (try clear hb)
           (try clear hb2)
           (try clear hk)
           (try clear hi)
           refine hK.out _ _ ⟨(ae b.out 0).trans rfl,(ae b.out 1).trans rfl,(ae a.out 0).trans rfl,(ae a.out 1).trans rfl,(ae a.out 2).trans rfl,(ae a.out 3).trans rfl,(ae a.out 4).trans rfl,(ae a.out 5).trans rfl,(ae a.out 6).trans rfl,(ae a.out 7).trans rfl,((HB.out.cell (World.block_lt_of_cell? w _ z)).trans z),((HB.out.cell (World.block_lt_of_cell? w _ y)).trans y),((HB.out.cell (World.block_lt_of_cell? w _ x)).trans x),((HB.out.cell (World.block_lt_of_cell? w _ O)).trans O),((HB.out.cell (World.block_lt_of_cell? w _ M)).trans M),((HB.out.cell (World.block_lt_of_cell? w _ L)).trans L)⟩ (fun hHeld=> ?_)
           clear hK K
           refine no 59 ?_
           refine pu 20 60 #[true,true,true,true,true,true,true,true,true,true,true,true,true,true,true,true,true,true,true,true,true,false] HT_ rfl rfl ?_
           refine pu 21 61 #[true,true,true,true,true,true,true,true,true,true,true,true,true,true,true,true,true,true,true,true,true,true] HT_ rfl rfl ?_
           refine eT (dR HT_.out (by kernel_rfl)) ?_
           try go_wp2
           go_ret
           exact fin
         ·rw[if_neg cq]at H
          exact absurd H (by simp)
        ·replace c34:=Bool.eq_false_iff.mpr c34
         subst c34
         replace H:=ie H
         obtain rfl:=Option.some.inj H;clear H
         have dd:=D.out
         have de:=B.out
         obtain⟨_,_,_,_,_,_,_,_,_,_,_,_,_,_,_,_⟩:=cf8 a
         try go_wp2
         replace b:=Aside0.mk (af b.out)
         replace a:=Aside0.mk (af a.out)
         replace HB:=Aside0.mk (aW HB.out)
         have bb:0≤(c:Int):=od
         have bc:c<(d.length:Int):=od
         obtain⟨A,e187,E,G,I⟩:=iA aR.out c bb bc
         have x:=I
         have y:=G
         have z:=E
         cases e187
         obtain⟨E,G,I⟩:=hc3 HB E G I
         replace bb:=eq_true bb
         replace bc:=eq_true bc
         refine dX (n:=22) (S:=fun w' =>w'.cell? ⟨al,0,none⟩=some (.slice P o.length T)∧w'.cell? ⟨al,1,none⟩=some (.slice U q.length W)∧w'.cell? ⟨l,0,none⟩=some (.int .i64 t)∧w'.cell? ⟨l,1,none⟩=some (.int .i64 u)∧w'.cell? ⟨l,2,none⟩=some (.slice X s.length Y)∧w'.cell? ⟨l,3,none⟩=some (.int .i64 v)∧w'.cell? ⟨l,4,none⟩=some (.int .i64 p)∧w'.cell? ⟨l,5,none⟩=some (.slice (some A) d.length Z)∧w'.cell? ⟨l,6,none⟩=some (.slice aO j.length ab)∧w'.cell? ⟨l,7,none⟩=some (.slice aP g.length ac)∧w'.cell? (A.add ((c).toNat * 3))=some (.int .i64 ((aM d c).f0))∧w'.cell? ⟨(A.add ((c).toNat * 3)).block,(A.add ((c).toNat * 3)).off+1,none⟩=some (.int .i64 ((aM d c).f1))∧w'.cell? ⟨(A.add ((c).toNat * 3)).block,(A.add ((c).toNat * 3)).off+2,none⟩=some (.int .i64 ((aM d c).f2))) (ds:= []) #[false,false,false,false,false,false,false,false,false,false,false,false,false,false,false,false,false,false,false,false,false,false] (by kernel_rfl) rfl rfl ⟨(ae b.out 0).trans rfl,(ae b.out 1).trans rfl,(ae a.out 0).trans rfl,(ae a.out 1).trans rfl,(ae a.out 2).trans rfl,(ae a.out 3).trans rfl,(ae a.out 4).trans rfl,(ae a.out 5).trans rfl,(ae a.out 6).trans rfl,(ae a.out 7).trans rfl,((HB.out.cell (World.block_lt_of_cell? w _ z)).trans z),((HB.out.cell (World.block_lt_of_cell? w _ y)).trans y),((HB.out.cell (World.block_lt_of_cell? w _ x)).trans x)⟩ (fun hHeld=> ?_);refine dH aJ.tab6 aJ.bits6 (fun HT_ HW_=> ?_)
         generalize wr.drew=ec at b a HB E G I hHeld⊢
         refine pu 2 42 #[false,false,true,false,false,false,false,false,false,false,false,false,false,false,false,false,false,false,false,false,false,false] HT_ rfl rfl ?_
         refine pu 4 44 #[false,false,true,false,true,false,false,false,false,false,false,false,false,false,false,false,false,false,false,false,false,false] HT_ rfl rfl ?_
         refine ta 0 40 #[true,false,true,false,true,false,false,false,false,false,false,false,false,false,false,false,false,false,false,false,false,false] HT_ HW_ hHeld rfl rfl ?_
         refine ta 1 41 #[true,true,true,false,true,false,false,false,false,false,false,false,false,false,false,false,false,false,false,false,false,false] HT_ HW_ hHeld rfl rfl ?_
         refine ta 3 43 #[true,true,true,true,true,false,false,false,false,false,false,false,false,false,false,false,false,false,false,false,false,false] HT_ HW_ hHeld rfl rfl ?_
         refine pu 5 45 #[true,true,true,true,true,true,false,false,false,false,false,false,false,false,false,false,false,false,false,false,false,false] HT_ rfl rfl ?_
         refine ta 6 46 #[true,true,true,true,true,true,true,false,false,false,false,false,false,false,false,false,false,false,false,false,false,false] HT_ HW_ hHeld rfl rfl ?_
         refine fo (i:=7) (N:=some 47) #[true,true,true,true,true,true,true,true,false,false,false,false,false,false,false,false,false,false,false,false,false,false] rfl rfl (dU HT_.out (by kernel_rfl)) (by decide) (fun K hK=> ?_)
         refine gs Try.func72 #[.agg #[.slice P o.length T, .slice U q.length W], .agg #[.int .i64 t, .int .i64 u, .slice X s.length Y, .int .i64 v, .int .i64 p, .slice (some A) d.length Z, .slice aO j.length ab, .slice aP g.length ac], .agg #[.int .i64 ((aM d c).f0), .int .i64 ((aM d c).f1), .int .i64 ((aM d c).f2)]] rfl rfl ?_
         with_reducible refine(aI.calls k2 _ _ o _ _ q t u _ _ s v p _ _ d _ _ j _ _ g ((aM d c).f0) ((aM d c).f1) ((aM d c).f2) false _ ?s1 ?s2 ?s3 ?s4 ?s5 ?s6 ?s7 ?s8 ?s9 ?s10 ?s11 ?s12 cv.out).mono ?_
         (case s1=>exact cb a0.out)
         (case s2=>exact a1.out)
         (case s3=>exact cb a4.out)
         (case s4=>exact a5.out)
         (case s5=>exact cb a6.out)
         (case s6=>exact a7.out)
         (case s7=>exact cb aR.out)
         (case s8=>exact a8.out)
         (case s9=>exact cb a2.out)
         (case s10=>exact a9.out)
         (case s11=>exact cb a3.out)
         (case s12=>exact ba.out)
         rintro e ee ⟨rfl,hb⟩
         refine⟨_,rfl, ?_⟩
         replace b:=kb b hb
         replace a:=kb a hb
         replace HB:=hs HB hb
         (try clear hb)
         (try clear hb2)
         (try clear hk)
         (try clear hi)
         refine hK.out _ _ ⟨(ae b.out 0).trans rfl,(ae b.out 1).trans rfl,(ae a.out 0).trans rfl,(ae a.out 1).trans rfl,(ae a.out 2).trans rfl,(ae a.out 3).trans rfl,(ae a.out 4).trans rfl,(ae a.out 5).trans rfl,(ae a.out 6).trans rfl,(ae a.out 7).trans rfl,((HB.out.cell (World.block_lt_of_cell? w _ z)).trans z),((HB.out.cell (World.block_lt_of_cell? w _ y)).trans y),((HB.out.cell (World.block_lt_of_cell? w _ x)).trans x)⟩ (fun hHeld=> ?_)
         clear hK K
         refine no 47 ?_
         refine pu 8 48 #[true,true,true,true,true,true,true,true,true,false,false,false,false,false,false,false,false,false,false,false,false,false] HT_ rfl rfl ?_
         refine pu 9 49 #[true,true,true,true,true,true,true,true,true,true,false,false,false,false,false,false,false,false,false,false,false,false] HT_ rfl rfl ?_
         refine pv 10 50 #[true,true,true,true,true,true,true,true,true,true,true,false,false,false,false,false,false,false,false,false,false,false] HT_ rfl rfl ?_
         refine pv 11 51 #[true,true,true,true,true,true,true,true,true,true,true,true,false,false,false,false,false,false,false,false,false,false] HT_ rfl rfl ?_
         refine pv 12 52 #[true,true,true,true,true,true,true,true,true,true,true,true,true,false,false,false,false,false,false,false,false,false] HT_ rfl rfl ?_
         refine pv 13 53 #[true,true,true,true,true,true,true,true,true,true,true,true,true,true,false,false,false,false,false,false,false,false] HT_ rfl rfl ?_
         refine pv 14 54 #[true,true,true,true,true,true,true,true,true,true,true,true,true,true,true,false,false,false,false,false,false,false] HT_ rfl rfl ?_
         refine pv 15 55 #[true,true,true,true,true,true,true,true,true,true,true,true,true,true,true,true,false,false,false,false,false,false] HT_ rfl rfl ?_
         refine pv 16 56 #[true,true,true,true,true,true,true,true,true,true,true,true,true,true,true,true,true,false,false,false,false,false] HT_ rfl rfl ?_
         refine pv 17 57 #[true,true,true,true,true,true,true,true,true,true,true,true,true,true,true,true,true,true,false,false,false,false] HT_ rfl rfl ?_
         refine pv 18 58 #[true,true,true,true,true,true,true,true,true,true,true,true,true,true,true,true,true,true,true,false,false,false] HT_ rfl rfl ?_
         refine pv 19 59 #[true,true,true,true,true,true,true,true,true,true,true,true,true,true,true,true,true,true,true,true,false,false] HT_ rfl rfl ?_
         refine pv 20 60 #[true,true,true,true,true,true,true,true,true,true,true,true,true,true,true,true,true,true,true,true,true,false] HT_ rfl rfl ?_
         refine pu 21 61 #[true,true,true,true,true,true,true,true,true,true,true,true,true,true,true,true,true,true,true,true,true,true] HT_ rfl rfl ?_
         refine eT (dR HT_.out (by kernel_rfl)) ?_
         try go_wp2
         go_ret
         exact fin
       ·rw[if_neg c32]at H
        exact absurd H (by simp)
      ·rw [if_neg c31]at H
       have cy:decide (c<(d.length:Int))=false:=decide_eq_false c31
       clear c31
       have H' :=Aside0.mk H
       clear H
       have dg:=D.out
       have dj:=B.out
       obtain⟨_,_,_,_,_,_,_,_,_,_,_,_,_,_,_,_⟩:=cf8 a
       go_wp2
       go_loopg [6] k2 (fun kq v6 w' => ∃(m:Int),v6= .int .i64 m∧Aside0 (aJ.l1 kq m o q t u s v p d j g=some r)∧Aside0 (kq≤k2)∧Aside0 (w'.heap[al]? =some (.cells #[(.slice P o.length T),(.slice U q.length W)] 34 (0,0)))∧Aside0 (w'.heap[l]? =some (.cells #[.int .i64 t, .int .i64 u,(.slice X s.length Y), .int .i64 v, .int .i64 p,(.slice aS d.length Z),(.slice aO j.length ab),(.slice aP g.length ac)] 50 (0,0)))∧Aside0 (Below w.heap.size w w'))
       case atStart=>exact⟨(0),(by first|rfl|(simp;done)|(simp[*];done)),H',⟨Nat.le_refl _⟩,kk b,kk a,⟨bl⟩⟩
       case round=>
        clear H'
        obtain⟨m,rfl,HA,cE,b,a,HB⟩:=hrel
        cases gk with
        |zero=>exact absurd HA.out (by simp[aJ.l1])
        | succ k3=>
         have H:=HA.out
         clear HA
         simp only[aJ.l1]at H
         by_cases b7:m<(g.length:Int)
         ·rw[if_pos b7]at H
          have cA:decide (m<(g.length:Int))=true:=decide_eq_true b7
          clear b7
          by_cases cr:0≤m
          ·rw[if_pos cr]at H
           have dk:decide (0≤m)=true:=decide_eq_true cr
           clear cr
           obtain⟨cI,cF,H⟩:=ob H
           by_cases cs:cI=true
           ·subst cs
            replace H:=it H
            have H' :=Aside0.mk H
            clear H
            have dl:=D.out
            have dp:=B.out
            obtain⟨_,_,_,_,_,_,_,_,_,_,_,_,_,_,_,_⟩:=cf8 a
            try go_wp2
            replace b:=Aside0.mk (af b.out)
            replace a:=Aside0.mk (af a.out)
            replace HB:=Aside0.mk (aW HB.out)
            have b1:0≤(m:Int):=od
            have b2:m<(g.length:Int):=od
            obtain⟨J,ca,ap,aq,ar,aw⟩:=iR a3.out m b1 b2
            have aB:=aw
            have aE:=ar
            have aF:=aq
            have aL:=ap
            cases ca
            obtain⟨ap,aq,ar,aw⟩:=hc4 HB ap aq ar aw
            replace b1:=eq_true b1
            replace b2:=eq_true b2
            refine dX (n:=9) (S:=fun w' =>w'.cell? ⟨al,0,none⟩=some (.slice P o.length T)∧w'.cell? ⟨al,1,none⟩=some (.slice U q.length W)∧w'.cell? ⟨l,0,none⟩=some (.int .i64 t)∧w'.cell? ⟨l,1,none⟩=some (.int .i64 u)∧w'.cell? ⟨l,2,none⟩=some (.slice X s.length Y)∧w'.cell? ⟨l,3,none⟩=some (.int .i64 v)∧w'.cell? ⟨l,4,none⟩=some (.int .i64 p)∧w'.cell? ⟨l,5,none⟩=some (.slice aS d.length Z)∧w'.cell? ⟨l,6,none⟩=some (.slice aO j.length ab)∧w'.cell? ⟨l,7,none⟩=some (.slice (some J) g.length ac)∧w'.cell? (J.add ((m).toNat * 4))=some (.int .i64 ((az g m).f0))∧w'.cell? ⟨(J.add ((m).toNat * 4)).block,(J.add ((m).toNat * 4)).off+1,none⟩=some (.int .i64 ((az g m).f1))∧w'.cell? ⟨(J.add ((m).toNat * 4)).block,(J.add ((m).toNat * 4)).off+2,none⟩=some (.int .i64 ((az g m).f2))∧w'.cell? ⟨(J.add ((m).toNat * 4)).block,(J.add ((m).toNat * 4)).off+3,none⟩=some (.int .i64 ((az g m).f3))) (ds:= []) #[false,false,false,false,false,false,false,false,false] (by kernel_rfl) rfl rfl ⟨(ae b.out 0).trans rfl,(ae b.out 1).trans rfl,(ae a.out 0).trans rfl,(ae a.out 1).trans rfl,(ae a.out 2).trans rfl,(ae a.out 3).trans rfl,(ae a.out 4).trans rfl,(ae a.out 5).trans rfl,(ae a.out 6).trans rfl,(ae a.out 7).trans rfl,((HB.out.cell (World.block_lt_of_cell? w _ aL)).trans aL),((HB.out.cell (World.block_lt_of_cell? w _ aF)).trans aF),((HB.out.cell (World.block_lt_of_cell? w _ aE)).trans aE),((HB.out.cell (World.block_lt_of_cell? w _ aB)).trans aB)⟩ (fun hHeld=> ?_);refine dH aJ.tab11 aJ.bits11 (fun HT_ HW_=> ?_)
            generalize wr.drew=ef at b a HB ap aq ar aw hHeld⊢
            refine pu 2 71 #[false,false,true,false,false,false,false,false,false] HT_ rfl rfl ?_
            refine pu 4 73 #[false,false,true,false,true,false,false,false,false] HT_ rfl rfl ?_
            refine ta 0 69 #[true,false,true,false,true,false,false,false,false] HT_ HW_ hHeld rfl rfl ?_
            refine ta 1 70 #[true,true,true,false,true,false,false,false,false] HT_ HW_ hHeld rfl rfl ?_
            refine ta 3 72 #[true,true,true,true,true,false,false,false,false] HT_ HW_ hHeld rfl rfl ?_
            refine pu 5 74 #[true,true,true,true,true,true,false,false,false] HT_ rfl rfl ?_
            refine ta 6 75 #[true,true,true,true,true,true,true,false,false] HT_ HW_ hHeld rfl rfl ?_
            refine fo (i:=7) (N:=some 76) #[true,true,true,true,true,true,true,true,false] rfl rfl (dU HT_.out (by kernel_rfl)) (by decide) (fun K hK=> ?_)
            refine gs Try.func74 #[.agg #[.slice P o.length T, .slice U q.length W], .agg #[.int .i64 t, .int .i64 u, .slice X s.length Y, .int .i64 v, .int .i64 p, .slice aS d.length Z, .slice aO j.length ab, .slice (some J) g.length ac], .agg #[.int .i64 ((az g m).f0), .int .i64 ((az g m).f1), .int .i64 ((az g m).f2), .int .i64 ((az g m).f3)]] rfl rfl ?_
            with_reducible refine(gy.calls k3 _ _ o _ _ q t u _ _ s v p _ _ d _ _ j _ _ g ((az g m).f0) ((az g m).f1) ((az g m).f2) ((az g m).f3) true _ ?s1 ?s2 ?s3 ?s4 ?s5 ?s6 ?s7 ?s8 ?s9 ?s10 ?s11 ?s12 cF.out).mono ?_
            (case s1=>exact cb a0.out)
            (case s2=>exact a1.out)
            (case s3=>exact cb a4.out)
            (case s4=>exact a5.out)
            (case s5=>exact cb a6.out)
            (case s6=>exact a7.out)
            (case s7=>exact cb aR.out)
            (case s8=>exact a8.out)
            (case s9=>exact cb a2.out)
            (case s10=>exact a9.out)
            (case s11=>exact cb a3.out)
            (case s12=>exact ba.out)
            rintro e eg ⟨rfl,hb⟩
            refine⟨_,rfl, ?_⟩
            replace b:=kb b hb
            replace a:=kb a hb
            replace HB:=hs HB hb
            (try clear hb)
            (try clear hb2)
            (try clear hk)
            (try clear hi)
            refine hK.out _ _ ⟨(ae b.out 0).trans rfl,(ae b.out 1).trans rfl,(ae a.out 0).trans rfl,(ae a.out 1).trans rfl,(ae a.out 2).trans rfl,(ae a.out 3).trans rfl,(ae a.out 4).trans rfl,(ae a.out 5).trans rfl,(ae a.out 6).trans rfl,(ae a.out 7).trans rfl,((HB.out.cell (World.block_lt_of_cell? w _ aL)).trans aL),((HB.out.cell (World.block_lt_of_cell? w _ aF)).trans aF),((HB.out.cell (World.block_lt_of_cell? w _ aE)).trans aE),((HB.out.cell (World.block_lt_of_cell? w _ aB)).trans aB)⟩ (fun hHeld=> ?_)
            clear hK K
            refine no 76 ?_
            refine pu 8 77 #[true,true,true,true,true,true,true,true,true] HT_ rfl rfl ?_
            refine eT (dR HT_.out (by kernel_rfl)) ?_
            try go_wp2
            go_roundg k3
            case measure=>have:=HJ2.out;have:=cp.out;have:=cE.out;omega
            case rel=>exact⟨(wrap64 (m+1)),(by first|rfl|(simp;done)|(simp[*];done)),H',⟨by have:=HJ2.out;have:=cp.out;have:=cE.out;omega⟩,kk b,kk a,⟨bl⟩⟩
           ·replace cs:=Bool.eq_false_iff.mpr cs
            subst cs
            replace H:=ie H
            obtain rfl:=Option.some.inj H;clear H
            have dq:=D.out
            have dr:=B.out
            obtain⟨_,_,_,_,_,_,_,_,_,_,_,_,_,_,_,_⟩:=cf8 a
            try go_wp2
            replace b:=Aside0.mk (af b.out)
            replace a:=Aside0.mk (af a.out)
            replace HB:=Aside0.mk (aW HB.out)
            have b1:0≤(m:Int):=od
            have b2:m<(g.length:Int):=od
            obtain⟨J,ca,ap,aq,ar,aw⟩:=iR a3.out m b1 b2
            have aB:=aw
            have aE:=ar
            have aF:=aq
            have aL:=ap
            cases ca
            obtain⟨ap,aq,ar,aw⟩:=hc4 HB ap aq ar aw
            replace b1:=eq_true b1
            replace b2:=eq_true b2
            refine dX (n:=9) (S:=fun w' =>w'.cell? ⟨al,0,none⟩=some (.slice P o.length T)∧w'.cell? ⟨al,1,none⟩=some (.slice U q.length W)∧w'.cell? ⟨l,0,none⟩=some (.int .i64 t)∧w'.cell? ⟨l,1,none⟩=some (.int .i64 u)∧w'.cell? ⟨l,2,none⟩=some (.slice X s.length Y)∧w'.cell? ⟨l,3,none⟩=some (.int .i64 v)∧w'.cell? ⟨l,4,none⟩=some (.int .i64 p)∧w'.cell? ⟨l,5,none⟩=some (.slice aS d.length Z)∧w'.cell? ⟨l,6,none⟩=some (.slice aO j.length ab)∧w'.cell? ⟨l,7,none⟩=some (.slice (some J) g.length ac)∧w'.cell? (J.add ((m).toNat * 4))=some (.int .i64 ((az g m).f0))∧w'.cell? ⟨(J.add ((m).toNat * 4)).block,(J.add ((m).toNat * 4)).off+1,none⟩=some (.int .i64 ((az g m).f1))∧w'.cell? ⟨(J.add ((m).toNat * 4)).block,(J.add ((m).toNat * 4)).off+2,none⟩=some (.int .i64 ((az g m).f2))∧w'.cell? ⟨(J.add ((m).toNat * 4)).block,(J.add ((m).toNat * 4)).off+3,none⟩=some (.int .i64 ((az g m).f3))) (ds:= []) #[false,false,false,false,false,false,false,false,false] (by kernel_rfl) rfl rfl ⟨(ae b.out 0).trans rfl,(ae b.out 1).trans rfl,(ae a.out 0).trans rfl,(ae a.out 1).trans rfl,(ae a.out 2).trans rfl,(ae a.out 3).trans rfl,(ae a.out 4).trans rfl,(ae a.out 5).trans rfl,(ae a.out 6).trans rfl,(ae a.out 7).trans rfl,((HB.out.cell (World.block_lt_of_cell? w _ aL)).trans aL),((HB.out.cell (World.block_lt_of_cell? w _ aF)).trans aF),((HB.out.cell (World.block_lt_of_cell? w _ aE)).trans aE),((HB.out.cell (World.block_lt_of_cell? w _ aB)).trans aB)⟩ (fun hHeld=> ?_);refine dH aJ.tab11 aJ.bits11 (fun HT_ HW_=> ?_)
            generalize wr.drew=w64 at b a HB ap aq ar aw hHeld⊢
            refine pu 2 71 #[false,false,true,false,false,false,false,false,false] HT_ rfl rfl ?_
            refine pu 4 73 #[false,false,true,false,true,false,false,false,false] HT_ rfl rfl ?_
            refine ta 0 69 #[true,false,true,false,true,false,false,false,false] HT_ HW_ hHeld rfl rfl ?_
            refine ta 1 70 #[true,true,true,false,true,false,false,false,false] HT_ HW_ hHeld rfl rfl ?_
            refine ta 3 72 #[true,true,true,true,true,false,false,false,false] HT_ HW_ hHeld rfl rfl ?_
            refine pu 5 74 #[true,true,true,true,true,true,false,false,false] HT_ rfl rfl ?_
            refine ta 6 75 #[true,true,true,true,true,true,true,false,false] HT_ HW_ hHeld rfl rfl ?_
            refine fo (i:=7) (N:=some 76) #[true,true,true,true,true,true,true,true,false] rfl rfl (dU HT_.out (by kernel_rfl)) (by decide) (fun K hK=> ?_)
            refine gs Try.func74 #[.agg #[.slice P o.length T, .slice U q.length W], .agg #[.int .i64 t, .int .i64 u, .slice X s.length Y, .int .i64 v, .int .i64 p, .slice aS d.length Z, .slice aO j.length ab, .slice (some J) g.length ac], .agg #[.int .i64 ((az g m).f0), .int .i64 ((az g m).f1), .int .i64 ((az g m).f2), .int .i64 ((az g m).f3)]] rfl rfl ?_
            with_reducible refine(gy.calls k3 _ _ o _ _ q t u _ _ s v p _ _ d _ _ j _ _ g ((az g m).f0) ((az g m).f1) ((az g m).f2) ((az g m).f3) false _ ?s1 ?s2 ?s3 ?s4 ?s5 ?s6 ?s7 ?s8 ?s9 ?s10 ?s11 ?s12 cF.out).mono ?_
            (case s1=>exact cb a0.out)
            (case s2=>exact a1.out)
            (case s3=>exact cb a4.out)
            (case s4=>exact a5.out)
            (case s5=>exact cb a6.out)
            (case s6=>exact a7.out)
            (case s7=>exact cb aR.out)
            (case s8=>exact a8.out)
            (case s9=>exact cb a2.out)
            (case s10=>exact a9.out)
            (case s11=>exact cb a3.out)
            (case s12=>exact ba.out)
            rintro e eh ⟨rfl,hb⟩
            refine⟨_,rfl, ?_⟩
            replace b:=kb b hb
            replace a:=kb a hb
            replace HB:=hs HB hb
            (try clear hb)
            (try clear hb2)
            (try clear hk)
            (try clear hi)
            refine hK.out _ _ ⟨(ae b.out 0).trans rfl,(ae b.out 1).trans rfl,(ae a.out 0).trans rfl,(ae a.out 1).trans rfl,(ae a.out 2).trans rfl,(ae a.out 3).trans rfl,(ae a.out 4).trans rfl,(ae a.out 5).trans rfl,(ae a.out 6).trans rfl,(ae a.out 7).trans rfl,((HB.out.cell (World.block_lt_of_cell? w _ aL)).trans aL),((HB.out.cell (World.block_lt_of_cell? w _ aF)).trans aF),((HB.out.cell (World.block_lt_of_cell? w _ aE)).trans aE),((HB.out.cell (World.block_lt_of_cell? w _ aB)).trans aB)⟩ (fun hHeld=> ?_)
            clear hK K
            refine no 76 ?_
            refine pu 8 77 #[true,true,true,true,true,true,true,true,true] HT_ rfl rfl ?_
            refine eT (dR HT_.out (by kernel_rfl)) ?_
            try go_wp2
            go_ret
            exact fin
          ·rw[if_neg cr]at H
           exact absurd H (by simp)
         ·rw[if_neg b7]at H
          have cA:decide (m<(g.length:Int))=false:=decide_eq_false b7
          clear b7
          obtain rfl:=Option.some.inj H;clear H
          have dt:=D.out
          have du:=B.out
          obtain⟨_,_,_,_,_,_,_,_,_,_,_,_,_,_,_,_⟩:=cf8 a
          go_wp2
          go_ret
          exact fin
set_option maxHeartbeats 8000000 in
set_option maxRecDepth 100000 in
theorem bP.calls (k:Nat) (p:Int) (q:Int) (D:Option Addr) (E:Nat) (b:List Int) (n:Int) (s:Int) (G:Option Addr) (I:Nat) (j:List (S97)) (J:Option Addr) (K:Nat) (l:List (S29)) (L:Option Addr) (M:Nat) (m:List (S102)) (P:Int) (T:Int) (Y:Option Addr) (Z:Nat) (d:List Int) (O:Int) (U:Int) (ab:Option Addr) (ac:Nat) (z:List (S97)) (ad:Option Addr) (al:Nat) (A:List (S29)) (am:Option Addr) (an:Nat) (B:List (S102)) (r:Bool) (w:World) (a2:Kd.C (Kd.int .i64) w D b.length b) (a3:b.length≤E) (a4:Kd.C k97 w G j.length j) (a5:j.length≤I) (a6:Kd.C k29 w J l.length l) (a7:l.length≤K) (a8:Kd.C dQ w L m.length m) (a9:m.length≤M) (ba:Kd.C (Kd.int .i64) w Y d.length d) (bb:d.length≤Z) (bc:Kd.C k97 w ab z.length z) (bd:z.length≤ac) (be:Kd.C k29 w ad A.length A) (bh:A.length≤al) (bj:Kd.C dQ w am B.length B) (bk:B.length≤an) (h:bP.f k p q b n s j l m P T d O U z A B=some r):
  Calls Try.prog 76 #[.agg #[.int .i64 p, .int .i64 q, .slice D b.length E, .int .i64 n, .int .i64 s, .slice G j.length I, .slice J l.length K, .slice L m.length M], .agg #[.int .i64 P, .int .i64 T, .slice Y d.length Z, .int .i64 O, .int .i64 U, .slice ab z.length ac, .slice ad A.length al, .slice am B.length an]] w fun e w' =>e= .returned (.bool r)∧Below w.heap.size w w' :=by
 have cA:=Try.underlying50
 have bm:=Aside0.mk a2
 have b8:=Aside0.mk a3
 clear a2 a3
 have b9:=Aside0.mk a4
 have ca:=Aside0.mk a5
 clear a4 a5
 have cc:=Aside0.mk a6
 have cd:=Aside0.mk a7
 clear a6 a7
 have ce:=Aside0.mk a8
 have cf:=Aside0.mk a9
 clear a8 a9
 have bo:=Aside0.mk ba
 have cg:=Aside0.mk bb
 clear ba bb
 have ch:=Aside0.mk bc
 have ci:=Aside0.mk bd
 clear bc bd
 have cj:=Aside0.mk be
 have ck:=Aside0.mk bh
 clear be bh
 have cl:=Aside0.mk bj
 have cm:=Aside0.mk bk
 clear bj bk
 have HB:=Aside0.mk (Below.refl w.heap.size w)
 have H:(if n=O then(bP.j0 k ((b.length:Int) !=(d.length:Int)) p q b n s j l m P T d O U z A B)else(bP.j0 k true p q b n s j l m P T d O U z A B))=some r:=h
 clear h
 have bw:=Aside0.mk H
 clear H
 go_enter Try.func76,Try.ntmps76
 go_upto_region 1 with(first|((with_reducible refine gd 2 rfl ?_);(try(refine aN (by rfl) ?_;dsimp only));refine bx 2 #[.int .i64 p, .int .i64 q, .slice D b.length E, .int .i64 n, .int .i64 s, .slice G j.length I, .slice J l.length K, .slice L m.length M] 50 ?_;intro i hg w4 hbox hb;have a:=Aside0.mk hbox;have bp:=hz HB hg;have aw:=hz HB hg;replace HB:=hs HB hb;clear hb hbox hg)|((with_reducible refine gd 3 rfl ?_);(try(refine aN (by rfl) ?_;dsimp only));refine bx 3 #[.int .i64 P, .int .i64 T, .slice Y d.length Z, .int .i64 O, .int .i64 U, .slice ab z.length ac, .slice ad A.length al, .slice am B.length an] 50 ?_;intro x hg w5 hbox hb;have y:=Aside0.mk hbox;have br:=hz HB hg;have bs:=hz HB hg;have u:=nl a hg;have v:=ng a hg;replace a:=kb a hb;replace HB:=hs HB hb;clear hb hbox hg))
 repeat(go_quiet (first|((with_reducible refine jk (N:=2) rfl ?_);(try(refine aN (by rfl) ?_;dsimp only));refine iy ?hg (N:=2) ?hd (cs:= #[.int .i64 p, .int .i64 q, .slice D b.length E, .int .i64 n, .int .i64 s, .slice G j.length I, .slice J l.length K, .slice L m.length M]) (t:=50) ?hr ?_;(case hd=>rfl);(case hg=>rfl);(case hr=>first|(go_simp;done)|(go_simp;rfl));intro i hg w4 hbox hb;have aB:=Aside0.mk (gH (by repeat(first|(with_reducible first|exact HB.out|apply bJ|apply bG|apply aW)|exact HB.out)) hb);have aE:=Aside0.mk (hbox);have aF:=Aside0.mk ((by rw[hg];exact(aK (by repeat(first|(with_reducible first|exact HB.out|apply bJ|apply bG|apply aW)|exact HB.out))):w.heap.size≤i));have aL:=Aside0.mk ((by rw[hg];exact(aK (by repeat(first|(with_reducible first|exact HB.out|apply bJ|apply bG|apply aW)|exact HB.out))):w.heap.size≤i));clear HB;have HB:=aB;have a:=aE;have bp:=aF;have aw:=aL;clear aB aE aF aL;clear hb hbox hg)|((with_reducible refine jk (N:=3) rfl ?_);(try(refine aN (by rfl) ?_;dsimp only));refine iy ?hg (N:=3) ?hd (cs:= #[.int .i64 P, .int .i64 T, .slice Y d.length Z, .int .i64 O, .int .i64 U, .slice ab z.length ac, .slice ad A.length al, .slice am B.length an]) (t:=50) ?hr ?_;(case hd=>rfl);(case hg=>rfl);(case hr=>first|(go_simp;done)|(go_simp;rfl));intro x hg w5 hbox hb;have aB:=Aside0.mk (d9 (g:=i) (o:= .cells #[.int .i64 p, .int .i64 q, .slice D b.length E, .int .i64 n, .int .i64 s, .slice G j.length I, .slice J l.length K, .slice L m.length M] 50 (0,0)) (by(with_reducible repeat(first|refine ah ?_ _|refine af ?_|refine ag ?_ _));exact a.out) hb);have aE:=Aside0.mk (gH (by repeat(first|(with_reducible first|exact HB.out|apply bJ|apply bG|apply aW|refine bn ?_ aw.out)|exact HB.out)) hb);have aF:=Aside0.mk (hbox);have aL:=Aside0.mk ((by rw[hg];exact(aK (by repeat(first|(with_reducible first|exact HB.out|apply bJ|apply bG|apply aW|refine bn ?_ aw.out)|exact HB.out))):w.heap.size≤x));have aR:=Aside0.mk ((by rw[hg];exact(aK (by repeat(first|(with_reducible first|exact HB.out|apply bJ|apply bG|apply aW|refine bn ?_ aw.out)|exact HB.out))):w.heap.size≤x));have aS:=Aside0.mk ((by rw[hg];exact Nat.ne_of_lt (fu (g:=i) (o:= .cells #[.int .i64 p, .int .i64 q, .slice D b.length E, .int .i64 n, .int .i64 s, .slice G j.length I, .slice J l.length K, .slice L m.length M] 50 (0,0)) (by(with_reducible repeat(first|refine ah ?_ _|refine af ?_|refine ag ?_ _));exact a.out)):i≠x));have a0:=Aside0.mk ((by rw[hg];exact Nat.ne_of_gt (fu (g:=i) (o:= .cells #[.int .i64 p, .int .i64 q, .slice D b.length E, .int .i64 n, .int .i64 s, .slice G j.length I, .slice J l.length K, .slice L m.length M] 50 (0,0)) (by(with_reducible repeat(first|refine ah ?_ _|refine af ?_|refine ag ?_ _));exact a.out)):x≠i));clear a;clear HB;have a:=aB;have HB:=aE;have y:=aF;have br:=aL;have bs:=aR;have u:=aS;have v:=a0;clear aB aE aF aL aR aS a0;clear hb hbox hg));go_upto_region 1 with(first|((with_reducible refine gd 2 rfl ?_);(try(refine aN (by rfl) ?_;dsimp only));refine bx 2 #[.int .i64 p, .int .i64 q, .slice D b.length E, .int .i64 n, .int .i64 s, .slice G j.length I, .slice J l.length K, .slice L m.length M] 50 ?_;intro i hg w4 hbox hb;have a:=Aside0.mk hbox;have bp:=hz HB hg;have aw:=hz HB hg;replace HB:=hs HB hb;clear hb hbox hg)|((with_reducible refine gd 3 rfl ?_);(try(refine aN (by rfl) ?_;dsimp only));refine iy ?hg (N:=3) ?hd (cs:= #[.int .i64 P, .int .i64 T, .slice Y d.length Z, .int .i64 O, .int .i64 U, .slice ab z.length ac, .slice ad A.length al, .slice am B.length an]) (t:=50) ?hr ?_;(case hd=>rfl);(case hg=>rfl);(case hr=>first|(go_simp;done)|(go_simp;rfl));intro x hg w5 hbox hb;have aB:=Aside0.mk (d9 (g:=i) (o:= .cells #[.int .i64 p, .int .i64 q, .slice D b.length E, .int .i64 n, .int .i64 s, .slice G j.length I, .slice J l.length K, .slice L m.length M] 50 (0,0)) (by(with_reducible repeat(first|refine ah ?_ _|refine af ?_|refine ag ?_ _));exact a.out) hb);have aE:=Aside0.mk (gH bl hb);have aF:=Aside0.mk (hbox);have aL:=Aside0.mk ((by rw[hg];exact(aK bl):w.heap.size≤x));have aR:=Aside0.mk ((by rw[hg];exact(aK bl):w.heap.size≤x));have aS:=Aside0.mk ((by rw[hg];exact Nat.ne_of_lt (fu (g:=i) (o:= .cells #[.int .i64 p, .int .i64 q, .slice D b.length E, .int .i64 n, .int .i64 s, .slice G j.length I, .slice J l.length K, .slice L m.length M] 50 (0,0)) (by(with_reducible repeat(first|refine ah ?_ _|refine af ?_|refine ag ?_ _));exact a.out)):i≠x));have a0:=Aside0.mk ((by rw[hg];exact Nat.ne_of_gt (fu (g:=i) (o:= .cells #[.int .i64 p, .int .i64 q, .slice D b.length E, .int .i64 n, .int .i64 s, .slice G j.length I, .slice J l.length K, .slice L m.length M] 50 (0,0)) (by(with_reducible repeat(first|refine ah ?_ _|refine af ?_|refine ag ?_ _));exact a.out)):x≠i));clear a;clear HB;have a:=aB;have HB:=aE;have y:=aF;have br:=aL;have bs:=aR;have u:=aS;have v:=a0;clear aB aE aF aL aR aS a0;clear hb hbox hg)))
 (try simp only[Act.put,List.setIfInBounds_toArray,List.set_cons_zero,List.set_cons_succ])
 go_cut [19] (fun v19 wc=> ∃(kq:Nat) (aO:Bool),v19= .bool aO∧Aside0 (bP.j0 kq aO p q b n s j l m P T d O U z A B=some r)∧Aside0 (kq≤k)∧Aside0 (wc.heap[i]? =some (.cells #[.int .i64 p, .int .i64 q,(.slice D b.length E), .int .i64 n, .int .i64 s,(.slice G j.length I),(.slice J l.length K),(.slice L m.length M)] 50 (0,0)))∧Aside0 (wc.heap[x]? =some (.cells #[.int .i64 P, .int .i64 T,(.slice Y d.length Z), .int .i64 O, .int .i64 U,(.slice ab z.length ac),(.slice ad A.length al),(.slice am B.length an)] 50 (0,0)))∧Aside0 (Below w.heap.size w wc))
 case first=>
  have H:=bw.out
  clear bw
  by_cases c6:n=O
  ·rw[if_pos c6]at H
   have aP:=beq_iff_eq.mpr c6
   have b7:=bne_eq_false_iff_eq.mpr c6
   clear c6
   (first|rw[aP]|(simp only[bT,bU];rw[aP])|skip)
   have H' :=Aside0.mk H
   clear H
   have cC:=u.out
   have cD:=v.out
   obtain⟨_,_,_,_,_,_,_,_,_,_,_,_,_,_,_,_⟩:=cf8 a
   obtain⟨_,_,_,_,_,_,_,_,_,_,_,_,_,_,_,_⟩:=cf8 y
   go_wp2
   repeat(go_quiet (fail);try go_wp2)
   go_meet
   case rel=>exact⟨_,(((b.length:Int) !=(d.length:Int))),(by first|rfl|(simp;done)|(simp[*];done)),H',⟨by first|omega|exact Nat.le_refl _⟩,kk a,kk y,⟨bl⟩⟩
  ·rw[if_neg c6]at H
   have aP:=beq_eq_false_iff_ne.mpr c6
   have b7:=bne_iff_ne.mpr c6
   (first|rw[aP]|(simp only[bT,bU];rw[aP])|skip)
   have H' :=Aside0.mk H
   clear H
   have cn:=u.out
   have co:=v.out
   obtain⟨_,_,_,_,_,_,_,_,_,_,_,_,_,_,_,_⟩:=cf8 a
   obtain⟨_,_,_,_,_,_,_,_,_,_,_,_,_,_,_,_⟩:=cf8 y
   go_wp2
   repeat(go_quiet (fail);try go_wp2)
   go_meet
   case rel=>exact⟨_,(true),(by first|rfl|(simp;done)|(simp[*];done)),H',⟨by first|omega|exact Nat.le_refl _⟩,kk a,kk y,⟨bl⟩⟩
 case rest=>
  clear bw
  obtain⟨kq,aO,rfl,HA,HJ2,a,y,HB⟩:=hcut
  cases kq with
  |zero=>exact absurd HA.out (by simp[bP.j0])
  | succ b5=>
   have H:=HA.out
   clear HA
   simp only[bP.j0]at H
   by_cases c13:aO=true
   ·subst c13
    replace H:=it H
    obtain rfl:=Option.some.inj H;clear H
    go_wp2
    repeat(go_quiet (fail);try go_wp2)
    go_ret
    exact fin
   ·replace c13:=Bool.eq_false_iff.mpr c13
    subst c13
    replace H:=ie H
    have H' :=Aside0.mk H
    clear H
    go_wp2
    repeat(go_quiet (fail);try go_wp2)
    go_loopg [5] b5 (fun kq v5 w' => ∃(c:Int),v5= .int .i64 c∧Aside0 (bP.l0 kq c p q b n s j l m P T d O U z A B=some r)∧Aside0 (kq≤b5)∧Aside0 (w'.heap[i]? =some (.cells #[.int .i64 p, .int .i64 q,(.slice D b.length E), .int .i64 n, .int .i64 s,(.slice G j.length I),(.slice J l.length K),(.slice L m.length M)] 50 (0,0)))∧Aside0 (w'.heap[x]? =some (.cells #[.int .i64 P, .int .i64 T,(.slice Y d.length Z), .int .i64 O, .int .i64 U,(.slice ab z.length ac),(.slice ad A.length al),(.slice am B.length an)] 50 (0,0)))∧Aside0 (Below w.heap.size w w'))
    case atStart=>exact⟨(0),(by first|rfl|(simp;done)|(simp[*];done)),H',⟨Nat.le_refl _⟩,kk a,kk y,⟨bl⟩⟩
    case round=>
     clear H'
     obtain⟨c,rfl,HA,b6,a,y,HB⟩:=hrel
     cases gk with
     |zero=>exact absurd HA.out (by simp[bP.l0])
     | succ k2=>
      have H:=HA.out
      clear HA
      simp only[bP.l0]at H
      by_cases c14:c<(b.length:Int)
      ·rw [if_pos c14]at H
       have b0:decide (c<(b.length:Int))=true:=decide_eq_true c14
       clear c14
       by_cases c15:0≤c
       ·rw[if_pos c15]at H
        have cp:decide (0≤c)=true:=decide_eq_true c15
        clear c15
        by_cases c16:c<(d.length:Int)
        ·rw[if_pos c16]at H
         have cq:decide (c<(d.length:Int))=true:=decide_eq_true c16
         clear c16
         by_cases c17:(rd b c)=(rd d c)
         ·rw[if_pos c17]at H
          have b1:=beq_iff_eq.mpr c17
          have b2:=bne_eq_false_iff_eq.mpr c17
          clear c17
          have H' :=Aside0.mk H
          clear H
          have cr:=u.out
          have ct:=v.out
          obtain⟨_,_,_,_,_,_,_,_,_,_,_,_,_,_,_,_⟩:=cf8 a
          have ao:0≤(c:Int):=od
          have ap:c<(b.length:Int):=od
          obtain⟨b3,e195,W⟩:=Kd.at_int bm.out c ao ap
          cases e195
          replace W:=hc HB W
          replace ao:=eq_true ao
          replace ap:=eq_true ap
          obtain⟨_,_,_,_,_,_,_,_,_,_,_,_,_,_,_,_⟩:=cf8 y
          have aq:0≤(c:Int):=od
          have ar:c<(d.length:Int):=od
          obtain⟨b4,a1,X⟩:=Kd.at_int bo.out c aq ar
          cases a1
          replace X:=hc HB X
          replace aq:=eq_true aq
          replace ar:=eq_true ar
          go_wp2
          repeat(go_quiet (fail);try go_wp2)
          go_roundg k2
          case measure=>have:=HJ2.out;have:=b6.out;omega
          case rel=>exact⟨(wrap64 (c+1)),(by first|rfl|(simp;done)|(simp[*];done)),H',⟨by have:=HJ2.out;have:=b6.out;omega⟩,kk a,kk y,⟨bl⟩⟩
         ·rw[if_neg c17]at H
          have b1:=beq_eq_false_iff_ne.mpr c17
          have b2:=bne_iff_ne.mpr c17
          obtain rfl:=Option.some.inj H;clear H
          have cv:=u.out
          have cw:=v.out
          obtain⟨_,_,_,_,_,_,_,_,_,_,_,_,_,_,_,_⟩:=cf8 a
          have ao:0≤(c:Int):=od
          have ap:c<(b.length:Int):=od
          obtain⟨b3,e195,W⟩:=Kd.at_int bm.out c ao ap
          cases e195
          replace W:=hc HB W
          replace ao:=eq_true ao
          replace ap:=eq_true ap
          obtain⟨_,_,_,_,_,_,_,_,_,_,_,_,_,_,_,_⟩:=cf8 y
          have aq:0≤(c:Int):=od
          have ar:c<(d.length:Int):=od
          obtain⟨b4,a1,X⟩:=Kd.at_int bo.out c aq ar
          cases a1
          replace X:=hc HB X
          replace aq:=eq_true aq
          replace ar:=eq_true ar
          go_wp2
          repeat(go_quiet (fail);try go_wp2)
          go_ret
          exact fin
        ·rw[if_neg c16]at H
         exact absurd H (by simp)
       ·rw[if_neg c15]at H
        exact absurd H (by simp)
      ·rw[if_neg c14]at H
       have b0:decide (c<(b.length:Int))=false:=decide_eq_false c14
       clear c14
       obtain rfl:=Option.some.inj H;clear H
       have cx:=u.out
       have cy:=v.out
       obtain⟨_,_,_,_,_,_,_,_,_,_,_,_,_,_,_,_⟩:=cf8 a
       go_wp2
       repeat(go_quiet (fail);try go_wp2)
       go_ret
       exact fin
end Go.Proofs.Yteinbmkgenhocaa.P
end
