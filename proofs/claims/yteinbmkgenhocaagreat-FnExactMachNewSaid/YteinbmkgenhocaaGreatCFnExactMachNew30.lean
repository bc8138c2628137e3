/- A part of the claim FnExactMachNew. -/
import Derived.Test.YteinbmkgenhocaaGreatCFnExactMachNew29
section
namespace Go.Proofs.YteinbmkgenhocaaGreat.P
open Go.RowKit Go.Proofs.YteinbmkgenhocaaGreatW.PrintWords Go.Proofs.YteinbmkgenhocaaGreatW.PrintLast Go.Proofs.YteinbmkgenhocaaGreatW.PrintMore
attribute [local go_sem] ak au az aA ai aj av ax
set_option linter.unusedVariables false
set_option linter.unusedSimpArgs false
def aT.T6:Bool×List (List Nat×List Nat):=(true, [([], []),([], []),([], []),([2], [2]),([], []),([3,4], [3,4]),([5], [5]),([0,1,6], [0,1,6]),([7], [7]),([8,7], [8]),([9], [9]),([10,9], [9,10]),([9], [9]),([12,9], [9,12]),([9], [9]),([14,9], [9,14]),([9], [9]),([15,16,9], [9,15,16]),([17,9], [9,17]),([11,13,18,9,9], [9,11,13,18]),([19,9], [9,19]),([9,20], [9,20])])
def aT.B6:List Nat:= [0,0,0,4,0,28,60,127,255,511,1023,2047,1023,5119,1023,17407,1023,115711,246783,524287,1048575,2097151]
theorem aT.tab6:dJ .any (opsOf Tryz.f73 6)=aT.T6:=by kernel_rfl
theorem aT.bits6:dY aT.T6.2 aT.B6=true:=by kernel_rfl
def aT.T11:Bool×List (List Nat×List Nat):=(true, [([], []),([], []),([], []),([2], [2]),([], []),([3,4], [3,4]),([5], [5]),([0,1,6], [0,1,6]),([7], [7])])
def aT.B11:List Nat:= [0,0,0,4,0,28,60,127,255]
theorem aT.tab11:dJ .any (opsOf Tryz.f73 11)=aT.T11:=by kernel_rfl
theorem aT.bits11:dY aT.T11.2 aT.B11=true:=by kernel_rfl
set_option maxHeartbeats 8000000 in
set_option maxRecDepth 100000 in
theorem aT.calls (k:Nat) (P:Option Addr) (T:Nat) (o:List (S126)) (U:Option Addr) (W:Nat) (q:List (S104)) (t:Int) (u:Int) (X:Option Addr) (Y:Nat) (s:List Int) (v:Int) (p:Int) (aS:Option Addr) (Z:Nat) (d:List (S113)) (aO:Option Addr) (ab:Nat) (j:List (S57)) (aP:Option Addr) (ac:Nat) (g:List (S181)) (r:Bool) (w:World) (ca:Kd.C eB w P o.length o) (cc:o.length≤T) (cd:Kd.C dV w U q.length q) (ce:q.length≤W) (cf:Kd.C (Kd.int .i64) w X s.length s) (cg:s.length≤Y) (ch:Kd.C fq w aS d.length d) (ci:d.length≤Z) (cj:Kd.C k57 w aO j.length j) (ck:j.length≤ab) (cl:Kd.C eZ w aP g.length g) (cm:g.length≤ac) (h:aT.f k o q t u s v p d j g=some r):
  Calls Tryz.prog 73 #[.agg #[.slice P o.length T, .slice U q.length W], .agg #[.int .i64 t, .int .i64 u, .slice X s.length Y, .int .i64 v, .int .i64 p, .slice aS d.length Z, .slice aO j.length ab, .slice aP g.length ac]] w fun e w' =>e= .returned (.bool r)∧Below w.heap.size w w' :=by
 have du:=Tryz.underlying38
 have cI:=Tryz.underlying104
 have cJ:=Tryz.underlying113
 have dv:=Tryz.underlying57
 have cL:=Tryz.underlying181
 have a0:=Aside0.mk ca
 have a1:=Aside0.mk cc
 clear ca cc
 have a4:=Aside0.mk cd
 have a5:=Aside0.mk ce
 clear cd ce
 have a6:=Aside0.mk cf
 have a7:=Aside0.mk cg
 clear cf cg
 have aR:=Aside0.mk ch
 have a8:=Aside0.mk ci
 clear ch ci
 have a2:=Aside0.mk cj
 have a9:=Aside0.mk ck
 clear cj ck
 have a3:=Aside0.mk cl
 have ba:=Aside0.mk cm
 clear cl cm
 have HB:=Aside0.mk (Below.refl w.heap.size w)
 have H:((bv.f k o q t u s v p d j g).bind fun b7=>(if b7=true then((aM.f (d.length:Int) 1 12).bind fun b8=>(if b8=true then(if(j.length:Int)=(d.length:Int)then(aT.j0 k (decide ((g.length:Int)>2)) o q t u s v p d j g)else(aT.j0 k true o q t u s v p d j g))else(aT.j0 k true o q t u s v p d j g)))else(aT.j0 k true o q t u s v p d j g)))=some r:=h
 clear h
 have cs:=Aside0.mk H
 clear H
 go_enter Tryz.func73,Tryz.ntmps73
 go_upto_region 1 with(first|((with_reducible refine gd 2 rfl ?_);(try(refine aW (by rfl) ?_;dsimp only));refine bx 2 #[.slice P o.length T, .slice U q.length W] 38 ?_;intro al hg w4 hbox hb;have b:=Aside0.mk hbox;have cM:=hz HB hg;replace HB:=hs HB hb;clear hb hbox hg)|((with_reducible refine gd 3 rfl ?_);(try(refine aW (by rfl) ?_;dsimp only));refine bx 3 #[.int .i64 t, .int .i64 u, .slice X s.length Y, .int .i64 v, .int .i64 p, .slice aS d.length Z, .slice aO j.length ab, .slice aP g.length ac] 104 ?_;intro l hg w5 hbox hb;have a:=Aside0.mk hbox;have cN:=hz HB hg;have B:=nl b hg;have D:=ng b hg;replace b:=kb b hb;replace HB:=hs HB hb;clear hb hbox hg))
 (try simp only[Act.put,List.setIfInBounds_toArray,List.set_cons_zero,List.set_cons_succ])
 go_cut [32] (fun v32 wc=> ∃(kq:Nat) (b5:Bool),v32= .bool b5∧Aside0 (aT.j0 kq b5 o q t u s v p d j g=some r)∧Aside0 (kq≤k)∧Aside0 (wc.heap[al]? =some (.cells #[(.slice P o.length T),(.slice U q.length W)] 38 (0,0)))∧Aside0 (wc.heap[l]? =some (.cells #[.int .i64 t, .int .i64 u,(.slice X s.length Y), .int .i64 v, .int .i64 p,(.slice aS d.length Z),(.slice aO j.length ab),(.slice aP g.length ac)] 104 (0,0)))∧Aside0 (Below w.heap.size w wc))
 case first=>
  have H:=cs.out
  clear cs
  obtain⟨b7,A6,H⟩:=ob H
  by_cases c7:b7=true
  ·subst c7
   replace H:=it H
   obtain⟨b8,A8,H⟩:=ob H
   by_cases c9:b8=true
   ·subst c9
    replace H:=it H
    by_cases c10:(j.length:Int)=(d.length:Int)
    ·rw[if_pos c10]at H
     have b2:=beq_iff_eq.mpr c10
     have cv:=bne_eq_false_iff_eq.mpr c10
     have cw:(j.length==d.length)=true:=by first|simpa using c10|(simp at c10⊢;omega)
     clear c10
     (first|rw[b2]|(simp only[bX,bZ];rw[b2])|skip)
     have H' :=Aside0.mk H
     clear H
     have cP:=B.out
     have cQ:=D.out
     have:=cf2 b
     have:=cf8 a
     go_wp2_with (first|(refine gl (some 9) Tryz.func137 #[.agg #[.slice P o.length T, .slice U q.length W], .agg #[.int .i64 t, .int .i64 u, .slice X s.length Y, .int .i64 v, .int .i64 p, .slice aS d.length Z, .slice aO j.length ab, .slice aP g.length ac]] rfl ?_;(with_reducible refine(bv.calls k _ _ o _ _ q t u _ _ s v p _ _ d _ _ j _ _ g true _ (cb a0.out) a1.out (cb a4.out) a5.out (cb a6.out) a7.out (cb aR.out) a8.out (cb a2.out) a9.out (cb a3.out) ba.out A6.out).mono ?_);rintro e dy ⟨rfl,hb⟩;refine⟨_,rfl, ?_⟩;replace b:=kb b hb;replace a:=kb a hb;replace HB:=hs HB hb;have:=cf8 a)|(go_at_call 52;(with_reducible refine(aM.calls (d.length:Int) 1 12 true _ A8.out).mono ?_);rintro e w' ⟨rfl,⟨nd,rfl⟩⟩))
     go_meet
     case rel=>exact⟨_,(decide ((g.length:Int)>2)),(by first|rfl|(simp;done)|(simp[*];done)),H',⟨by first|omega|exact Nat.le_refl _⟩,kk b,kk a,⟨bl⟩⟩
    rw[if_neg c10]at H
    have b2:=beq_eq_false_iff_ne.mpr c10
    have cv:=bne_iff_ne.mpr c10
    have cw:(j.length==d.length)=false:=by first|simpa using c10|(simp at c10⊢;omega)
    (first|rw[b2]|(simp only[bX,bZ];rw[b2])|skip)
    have H' :=Aside0.mk H
    clear H
    have cR:=B.out
    have cS:=D.out
    have:=cf2 b
    have:=cf8 a
    go_wp2_with (first|(refine gl (some 9) Tryz.func137 #[.agg #[.slice P o.length T, .slice U q.length W], .agg #[.int .i64 t, .int .i64 u, .slice X s.length Y, .int .i64 v, .int .i64 p, .slice aS d.length Z, .slice aO j.length ab, .slice aP g.length ac]] rfl ?_;(with_reducible refine(bv.calls k _ _ o _ _ q t u _ _ s v p _ _ d _ _ j _ _ g true _ (cb a0.out) a1.out (cb a4.out) a5.out (cb a6.out) a7.out (cb aR.out) a8.out (cb a2.out) a9.out (cb a3.out) ba.out A6.out).mono ?_);rintro e dT ⟨rfl,hb⟩;refine⟨_,rfl, ?_⟩;replace b:=kb b hb;replace a:=kb a hb;replace HB:=hs HB hb;have:=cf8 a)|(go_at_call 52;(with_reducible refine(aM.calls (d.length:Int) 1 12 true _ A8.out).mono ?_);rintro e w' ⟨rfl,⟨nd,rfl⟩⟩))
    go_meet
    case rel=>exact⟨_,(true),(by first|rfl|(simp;done)|(simp[*];done)),H',⟨by first|omega|exact Nat.le_refl _⟩,kk b,kk a,⟨bl⟩⟩
   replace c9:=Bool.eq_false_iff.mpr c9
   subst c9
   replace H:=ie H
   have H' :=Aside0.mk H
   clear H
   have cT:=B.out
   have cU:=D.out
   have:=cf2 b
   have:=cf8 a
   go_wp2_with (first|(refine gl (some 9) Tryz.func137 #[.agg #[.slice P o.length T, .slice U q.length W], .agg #[.int .i64 t, .int .i64 u, .slice X s.length Y, .int .i64 v, .int .i64 p, .slice aS d.length Z, .slice aO j.length ab, .slice aP g.length ac]] rfl ?_;(with_reducible refine(bv.calls k _ _ o _ _ q t u _ _ s v p _ _ d _ _ j _ _ g true _ (cb a0.out) a1.out (cb a4.out) a5.out (cb a6.out) a7.out (cb aR.out) a8.out (cb a2.out) a9.out (cb a3.out) ba.out A6.out).mono ?_);rintro e d0 ⟨rfl,hb⟩;refine⟨_,rfl, ?_⟩;replace b:=kb b hb;replace a:=kb a hb;replace HB:=hs HB hb;have:=cf8 a)|(go_at_call 52;(with_reducible refine(aM.calls (d.length:Int) 1 12 false _ A8.out).mono ?_);rintro e w' ⟨rfl,⟨nd,rfl⟩⟩))
   go_meet
   case rel=>exact⟨_,(true),(by first|rfl|(simp;done)|(simp[*];done)),H',⟨by first|omega|exact Nat.le_refl _⟩,kk b,kk a,⟨bl⟩⟩
  replace c7:=Bool.eq_false_iff.mpr c7
  subst c7
  replace H:=ie H
  have H' :=Aside0.mk H
  clear H
  have cV:=B.out
  have cW:=D.out
  have:=cf2 b
  have:=cf8 a
  go_wp2_with (first|(refine gl (some 9) Tryz.func137 #[.agg #[.slice P o.length T, .slice U q.length W], .agg #[.int .i64 t, .int .i64 u, .slice X s.length Y, .int .i64 v, .int .i64 p, .slice aS d.length Z, .slice aO j.length ab, .slice aP g.length ac]] rfl ?_;(with_reducible refine(bv.calls k _ _ o _ _ q t u _ _ s v p _ _ d _ _ j _ _ g false _ (cb a0.out) a1.out (cb a4.out) a5.out (cb a6.out) a7.out (cb aR.out) a8.out (cb a2.out) a9.out (cb a3.out) ba.out A6.out).mono ?_);rintro e d1 ⟨rfl,hb⟩;refine⟨_,rfl, ?_⟩;replace b:=kb b hb;replace a:=kb a hb;replace HB:=hs HB hb))
  go_meet
  case rel=>exact⟨_,(true),(by first|rfl|(simp;done)|(simp[*];done)),H',⟨by first|omega|exact Nat.le_refl _⟩,kk b,kk a,⟨bl⟩⟩
 case rest=>
  clear cs
  obtain⟨kq,b5,rfl,HA,HJ2,b,a,HB⟩:=hcut
  cases kq with
  |zero=>exact absurd HA.out (by simp[aT.j0])
  | succ cA=>
   have H:=HA.out
   clear HA
   simp only[aT.j0]at H
   by_cases cn:b5=true
   ·subst cn
    replace H:=it H
    obtain rfl:=Option.some.inj H;clear H
    go_wp2
    go_ret
    exact fin
   replace cn:=Bool.eq_false_iff.mpr cn
   subst cn
   replace H:=ie H
   have H' :=Aside0.mk H
   clear H
   go_wp2
   go_loopg [5] cA (fun kq v5 w' => ∃(c:Int),v5= .int .i64 c∧Aside0 (aT.l0 kq c o q t u s v p d j g=some r)∧Aside0 (kq≤cA)∧Aside0 (w'.heap[al]? =some (.cells #[(.slice P o.length T),(.slice U q.length W)] 38 (0,0)))∧Aside0 (w'.heap[l]? =some (.cells #[.int .i64 t, .int .i64 u,(.slice X s.length Y), .int .i64 v, .int .i64 p,(.slice aS d.length Z),(.slice aO j.length ab),(.slice aP g.length ac)] 104 (0,0)))∧Aside0 (Below w.heap.size w w'))
   case atStart=>exact⟨(0),(by first|rfl|(simp;done)|(simp[*];done)),H',⟨Nat.le_refl _⟩,kk b,kk a,⟨bl⟩⟩
   case round=>
    clear H'
    obtain⟨c,rfl,HA,co,b,a,HB⟩:=hrel
    cases gk with
    |zero=>exact absurd HA.out (by simp[aT.l0])
    | succ k2=>
     have H:=HA.out
     clear HA
     simp only[aT.l0]at H
     by_cases c31:c<(d.length:Int)
     ·rw [if_pos c31]at H
      have cx:decide (c<(d.length:Int))=true:=decide_eq_true c31
      clear c31
      by_cases c32:0≤c
      ·rw [if_pos c32]at H
       have cX:decide (0≤c)=true:=decide_eq_true c32
       clear c32
       obtain⟨cF,ct,H⟩:=ob H
       by_cases c34:cF=true
       ·subst c34
        replace H:=it H
        by_cases cp:c<(j.length:Int)
        ·rw[if_pos cp]at H
         have cY:decide (c<(j.length:Int))=true:=decide_eq_true cp
         clear cp
         obtain⟨cG,cC,H⟩:=ob H
         by_cases c37:cG=true
         ·subst c37
          replace H:=it H
          have H' :=Aside0.mk H
          clear H
          have c0:=D.out
          have c1:=B.out
          have:=cf8 a
          try go_wp2
          replace b:=Aside0.mk (af b.out)
          replace a:=Aside0.mk (af a.out)
          replace HB:=Aside0.mk (aC HB.out)
          have bb:0≤(c:Int):=od
          have bc:c<(d.length:Int):=od
          obtain⟨A,e187,E,G,I⟩:=iD aR.out c bb bc
          have x:=I
          have y:=G
          have z:=E
          cases e187
          obtain⟨E,G,I⟩:=hc3 HB E G I
          replace bb:=eq_true bb
          replace bc:=eq_true bc
          have bt:0≤(c:Int):=od
          have bw:c<(j.length:Int):=od
          obtain⟨ad,bo,bp,br,bs,e189,am,an,ao,bd,be,bh,bj⟩:=jO a2.out c bt bw
          have L:=ao
          have M:=an
          have O:=am
          cases e189
          obtain⟨am,an,ao⟩:=hc3 HB am an ao
          have bk:=Aside0.mk be
          have b3:=Aside0.mk bd
          clear be bd
          have bm:=Aside0.mk bj
          have b4:=Aside0.mk bh
          clear bj bh
          replace bt:=eq_true bt
          replace bw:=eq_true bw
          refine dR (n:=22) (S:=fun w' =>w'.cell? ⟨al,0,none⟩=some (.slice P o.length T)∧w'.cell? ⟨al,1,none⟩=some (.slice U q.length W)∧w'.cell? ⟨l,0,none⟩=some (.int .i64 t)∧w'.cell? ⟨l,1,none⟩=some (.int .i64 u)∧w'.cell? ⟨l,2,none⟩=some (.slice X s.length Y)∧w'.cell? ⟨l,3,none⟩=some (.int .i64 v)∧w'.cell? ⟨l,4,none⟩=some (.int .i64 p)∧w'.cell? ⟨l,5,none⟩=some (.slice (some A) d.length Z)∧w'.cell? ⟨l,6,none⟩=some (.slice (some ad) j.length ab)∧w'.cell? ⟨l,7,none⟩=some (.slice aP g.length ac)∧w'.cell? (A.add ((c).toNat * 3))=some (.int .i64 ((aQ d c).f0))∧w'.cell? ⟨(A.add ((c).toNat * 3)).block,(A.add ((c).toNat * 3)).off+1,none⟩=some (.int .i64 ((aQ d c).f1))∧w'.cell? ⟨(A.add ((c).toNat * 3)).block,(A.add ((c).toNat * 3)).off+2,none⟩=some (.int .i64 ((aQ d c).f2))∧w'.cell? (ad.add ((c).toNat * 3))=some (.bool ((aX j c).f0))∧w'.cell? ⟨(ad.add ((c).toNat * 3)).block,(ad.add ((c).toNat * 3)).off+1,none⟩=some (.slice bo ((aX j c).f1).length bp)∧w'.cell? ⟨(ad.add ((c).toNat * 3)).block,(ad.add ((c).toNat * 3)).off+2,none⟩=some (.slice br ((aX j c).f2).length bs)) (ds:= []) (upto 22 0) (by kernel_rfl) rfl rfl ⟨(ae b.out 0).trans rfl,(ae b.out 1).trans rfl,(ae a.out 0).trans rfl,(ae a.out 1).trans rfl,(ae a.out 2).trans rfl,(ae a.out 3).trans rfl,(ae a.out 4).trans rfl,(ae a.out 5).trans rfl,(ae a.out 6).trans rfl,(ae a.out 7).trans rfl,((HB.out.cell (World.block_lt_of_cell? w _ z)).trans z),((HB.out.cell (World.block_lt_of_cell? w _ y)).trans y),((HB.out.cell (World.block_lt_of_cell? w _ x)).trans x),((HB.out.cell (World.block_lt_of_cell? w _ O)).trans O),((HB.out.cell (World.block_lt_of_cell? w _ M)).trans M),((HB.out.cell (World.block_lt_of_cell? w _ L)).trans L)⟩ (fun hHeld=> ?_);refine cO aT.tab6 aT.bits6 (fun HT_ HW_=> ?_)
          generalize wr.drew=d2 at b a HB bk bm E G I am an ao hHeld⊢
          repeat(first|refine vN ?_|refine pN ?_|refine tN ?_)
          refine fo (i:=7) (N:=some 47) (upto 22 8) rfl rfl (d9 HT_.out (by kernel_rfl)) (by decide) (fun K hK=> ?_)
          refine gs Tryz.func138 #[.agg #[.slice P o.length T, .slice U q.length W], .agg #[.int .i64 t, .int .i64 u, .slice X s.length Y, .int .i64 v, .int .i64 p, .slice (some A) d.length Z, .slice (some ad) j.length ab, .slice aP g.length ac], .agg #[.int .i64 ((aQ d c).f0), .int .i64 ((aQ d c).f1), .int .i64 ((aQ d c).f2)]] rfl rfl ?_
          with_reducible refine(aN.calls k2 _ _ o _ _ q t u _ _ s v p _ _ d _ _ j _ _ g ((aQ d c).f0) ((aQ d c).f1) ((aQ d c).f2) true _ (cb a0.out) a1.out (cb a4.out) a5.out (cb a6.out) a7.out (cb aR.out) a8.out (cb a2.out) a9.out (cb a3.out) ba.out ct.out).mono ?_
          rintro e d3 ⟨rfl,hb⟩
          refine⟨_,rfl, ?_⟩
          replace b:=kb b hb
          replace a:=kb a hb
          replace HB:=hs HB hb
          refine hK.out _ _ ⟨(ae b.out 0).trans rfl,(ae b.out 1).trans rfl,(ae a.out 0).trans rfl,(ae a.out 1).trans rfl,(ae a.out 2).trans rfl,(ae a.out 3).trans rfl,(ae a.out 4).trans rfl,(ae a.out 5).trans rfl,(ae a.out 6).trans rfl,(ae a.out 7).trans rfl,((HB.out.cell (World.block_lt_of_cell? w _ z)).trans z),((HB.out.cell (World.block_lt_of_cell? w _ y)).trans y),((HB.out.cell (World.block_lt_of_cell? w _ x)).trans x),((HB.out.cell (World.block_lt_of_cell? w _ O)).trans O),((HB.out.cell (World.block_lt_of_cell? w _ M)).trans M),((HB.out.cell (World.block_lt_of_cell? w _ L)).trans L)⟩ (fun hHeld=> ?_)
          clear hK K
          refine no 47 ?_
          repeat(first|refine vN ?_|refine pN ?_|refine tN ?_)
          refine fo (i:=19) (N:=some 59) (upto 22 20) rfl rfl (d9 HT_.out (by kernel_rfl)) (by decide) (fun K hK=> ?_)
          refine gs Tryz.func64 #[.slice P o.length T, .int .i64 p, .agg #[.bool ((aX j c).f0), .slice bo ((aX j c).f1).length bp, .slice br ((aX j c).f2).length bs]] rfl rfl ?_
          with_reducible refine(bD.calls k2 _ _ o p ((aX j c).f0) _ _ ((aX j c).f1) _ _ ((aX j c).f2) true _ (cb a0.out) a1.out (cb bk.out) b3.out (cb bm.out) b4.out cC.out).mono ?_
          rintro e d4 ⟨rfl,hb⟩
          refine⟨_,rfl, ?_⟩
          replace b:=kb b hb
          replace a:=kb a hb
          replace HB:=hs HB hb
          refine hK.out _ _ ⟨(ae b.out 0).trans rfl,(ae b.out 1).trans rfl,(ae a.out 0).trans rfl,(ae a.out 1).trans rfl,(ae a.out 2).trans rfl,(ae a.out 3).trans rfl,(ae a.out 4).trans rfl,(ae a.out 5).trans rfl,(ae a.out 6).trans rfl,(ae a.out 7).trans rfl,((HB.out.cell (World.block_lt_of_cell? w _ z)).trans z),((HB.out.cell (World.block_lt_of_cell? w _ y)).trans y),((HB.out.cell (World.block_lt_of_cell? w _ x)).trans x),((HB.out.cell (World.block_lt_of_cell? w _ O)).trans O),((HB.out.cell (World.block_lt_of_cell? w _ M)).trans M),((HB.out.cell (World.block_lt_of_cell? w _ L)).trans L)⟩ (fun hHeld=> ?_)
          clear hK K
          refine no 59 ?_
          repeat(first|refine vN ?_|refine pN ?_|refine tN ?_)
          refine eQ (dN HT_.out (by kernel_rfl)) ?_
          try go_wp2
          go_roundg k2
          case measure=>have:=HJ2.out;have:=co.out;omega
          case rel=>exact⟨(wrap64 (c+1)),(by first|rfl|(simp;done)|(simp[*];done)),H',⟨by have:=HJ2.out;have:=co.out;omega⟩,kk b,kk a,⟨bl⟩⟩
         replace c37:=Bool.eq_false_iff.mpr c37
         subst c37
         replace H:=ie H
         obtain rfl:=Option.some.inj H;clear H
         have da:=D.out
         have db:=B.out
         have:=cf8 a
         try go_wp2
         replace b:=Aside0.mk (af b.out)
         replace a:=Aside0.mk (af a.out)
         replace HB:=Aside0.mk (aC HB.out)
         have bb:0≤(c:Int):=od
         have bc:c<(d.length:Int):=od
         obtain⟨A,e187,E,G,I⟩:=iD aR.out c bb bc
         have x:=I
         have y:=G
         have z:=E
         cases e187
         obtain⟨E,G,I⟩:=hc3 HB E G I
         replace bb:=eq_true bb
         replace bc:=eq_true bc
         have bt:0≤(c:Int):=od
         have bw:c<(j.length:Int):=od
         obtain⟨ad,bo,bp,br,bs,e189,am,an,ao,bd,be,bh,bj⟩:=jO a2.out c bt bw
         have L:=ao
         have M:=an
         have O:=am
         cases e189
         obtain⟨am,an,ao⟩:=hc3 HB am an ao
         have bk:=Aside0.mk be
         have b3:=Aside0.mk bd
         clear be bd
         have bm:=Aside0.mk bj
         have b4:=Aside0.mk bh
         clear bj bh
         replace bt:=eq_true bt
         replace bw:=eq_true bw
         refine dR (n:=22) (S:=fun w' =>w'.cell? ⟨al,0,none⟩=some (.slice P o.length T)∧w'.cell? ⟨al,1,none⟩=some (.slice U q.length W)∧w'.cell? ⟨l,0,none⟩=some (.int .i64 t)∧w'.cell? ⟨l,1,none⟩=some (.int .i64 u)∧w'.cell? ⟨l,2,none⟩=some (.slice X s.length Y)∧w'.cell? ⟨l,3,none⟩=some (.int .i64 v)∧w'.cell? ⟨l,4,none⟩=some (.int .i64 p)∧w'.cell? ⟨l,5,none⟩=some (.slice (some A) d.length Z)∧w'.cell? ⟨l,6,none⟩=some (.slice (some ad) j.length ab)∧w'.cell? ⟨l,7,none⟩=some (.slice aP g.length ac)∧w'.cell? (A.add ((c).toNat * 3))=some (.int .i64 ((aQ d c).f0))∧w'.cell? ⟨(A.add ((c).toNat * 3)).block,(A.add ((c).toNat * 3)).off+1,none⟩=some (.int .i64 ((aQ d c).f1))∧w'.cell? ⟨(A.add ((c).toNat * 3)).block,(A.add ((c).toNat * 3)).off+2,none⟩=some (.int .i64 ((aQ d c).f2))∧w'.cell? (ad.add ((c).toNat * 3))=some (.bool ((aX j c).f0))∧w'.cell? ⟨(ad.add ((c).toNat * 3)).block,(ad.add ((c).toNat * 3)).off+1,none⟩=some (.slice bo ((aX j c).f1).length bp)∧w'.cell? ⟨(ad.add ((c).toNat * 3)).block,(ad.add ((c).toNat * 3)).off+2,none⟩=some (.slice br ((aX j c).f2).length bs)) (ds:= []) (upto 22 0) (by kernel_rfl) rfl rfl ⟨(ae b.out 0).trans rfl,(ae b.out 1).trans rfl,(ae a.out 0).trans rfl,(ae a.out 1).trans rfl,(ae a.out 2).trans rfl,(ae a.out 3).trans rfl,(ae a.out 4).trans rfl,(ae a.out 5).trans rfl,(ae a.out 6).trans rfl,(ae a.out 7).trans rfl,((HB.out.cell (World.block_lt_of_cell? w _ z)).trans z),((HB.out.cell (World.block_lt_of_cell? w _ y)).trans y),((HB.out.cell (World.block_lt_of_cell? w _ x)).trans x),((HB.out.cell (World.block_lt_of_cell? w _ O)).trans O),((HB.out.cell (World.block_lt_of_cell? w _ M)).trans M),((HB.out.cell (World.block_lt_of_cell? w _ L)).trans L)⟩ (fun hHeld=> ?_);refine cO aT.tab6 aT.bits6 (fun HT_ HW_=> ?_)
         generalize wr.drew=d5 at b a HB bk bm E G I am an ao hHeld⊢
         repeat(first|refine vN ?_|refine pN ?_|refine tN ?_)
         refine fo (i:=7) (N:=some 47) (upto 22 8) rfl rfl (d9 HT_.out (by kernel_rfl)) (by decide) (fun K hK=> ?_)
         refine gs Tryz.func138 #[.agg #[.slice P o.length T, .slice U q.length W], .agg #[.int .i64 t, .int .i64 u, .slice X s.length Y, .int .i64 v, .int .i64 p, .slice (some A) d.length Z, .slice (some ad) j.length ab, .slice aP g.length ac], .agg #[.int .i64 ((aQ d c).f0), .int .i64 ((aQ d c).f1), .int .i64 ((aQ d c).f2)]] rfl rfl ?_
         with_reducible refine(aN.calls k2 _ _ o _ _ q t u _ _ s v p _ _ d _ _ j _ _ g ((aQ d c).f0) ((aQ d c).f1) ((aQ d c).f2) true _ (cb a0.out) a1.out (cb a4.out) a5.out (cb a6.out) a7.out (cb aR.out) a8.out (cb a2.out) a9.out (cb a3.out) ba.out ct.out).mono ?_
         rintro e d6 ⟨rfl,hb⟩
         refine⟨_,rfl, ?_⟩
         replace b:=kb b hb
         replace a:=kb a hb
         replace HB:=hs HB hb
         refine hK.out _ _ ⟨(ae b.out 0).trans rfl,(ae b.out 1).trans rfl,(ae a.out 0).trans rfl,(ae a.out 1).trans rfl,(ae a.out 2).trans rfl,(ae a.out 3).trans rfl,(ae a.out 4).trans rfl,(ae a.out 5).trans rfl,(ae a.out 6).trans rfl,(ae a.out 7).trans rfl,((HB.out.cell (World.block_lt_of_cell? w _ z)).trans z),((HB.out.cell (World.block_lt_of_cell? w _ y)).trans y),((HB.out.cell (World.block_lt_of_cell? w _ x)).trans x),((HB.out.cell (World.block_lt_of_cell? w _ O)).trans O),((HB.out.cell (World.block_lt_of_cell? w _ M)).trans M),((HB.out.cell (World.block_lt_of_cell? w _ L)).trans L)⟩ (fun hHeld=> ?_)
         clear hK K
         refine no 47 ?_
         repeat(first|refine vN ?_|refine pN ?_|refine tN ?_)
         refine fo (i:=19) (N:=some 59) (upto 22 20) rfl rfl (d9 HT_.out (by kernel_rfl)) (by decide) (fun K hK=> ?_)
         refine gs Tryz.func64 #[.slice P o.length T, .int .i64 p, .agg #[.bool ((aX j c).f0), .slice bo ((aX j c).f1).length bp, .slice br ((aX j c).f2).length bs]] rfl rfl ?_
         with_reducible refine(bD.calls k2 _ _ o p ((aX j c).f0) _ _ ((aX j c).f1) _ _ ((aX j c).f2) false _ (cb a0.out) a1.out (cb bk.out) b3.out (cb bm.out) b4.out cC.out).mono ?_
         rintro e d7 ⟨rfl,hb⟩
         refine⟨_,rfl, ?_⟩
         replace b:=kb b hb
         replace a:=kb a hb
         replace HB:=hs HB hb
         refine hK.out _ _ ⟨(ae b.out 0).trans rfl,(ae b.out 1).trans rfl,(ae a.out 0).trans rfl,(ae a.out 1).trans rfl,(ae a.out 2).trans rfl,(ae a.out 3).trans rfl,(ae a.out 4).trans rfl,(ae a.out 5).trans rfl,(ae a.out 6).trans rfl,(ae a.out 7).trans rfl,((HB.out.cell (World.block_lt_of_cell? w _ z)).trans z),((HB.out.cell (World.block_lt_of_cell? w _ y)).trans y),((HB.out.cell (World.block_lt_of_cell? w _ x)).trans x),((HB.out.cell (World.block_lt_of_cell? w _ O)).trans O),((HB.out.cell (World.block_lt_of_cell? w _ M)).trans M),((HB.out.cell (World.block_lt_of_cell? w _ L)).trans L)⟩ (fun hHeld=> ?_)
         clear hK K
         refine no 59 ?_
         repeat(first|refine vN ?_|refine pN ?_|refine tN ?_)
         refine eQ (dN HT_.out (by kernel_rfl)) ?_
         try go_wp2
         go_ret
         exact fin
        rw[if_neg cp]at H
        exact absurd H (by simp)
       replace c34:=Bool.eq_false_iff.mpr c34
       subst c34
       replace H:=ie H
       obtain rfl:=Option.some.inj H;clear H
       have dc:=D.out
       have dd:=B.out
       have:=cf8 a
       try go_wp2
       replace b:=Aside0.mk (af b.out)
       replace a:=Aside0.mk (af a.out)
       replace HB:=Aside0.mk (aC HB.out)
       have bb:0≤(c:Int):=od
       have bc:c<(d.length:Int):=od
       obtain⟨A,e187,E,G,I⟩:=iD aR.out c bb bc
       have x:=I
       have y:=G
       have z:=E
       cases e187
       obtain⟨E,G,I⟩:=hc3 HB E G I
       replace bb:=eq_true bb
       replace bc:=eq_true bc
       refine dR (n:=22) (S:=fun w' =>w'.cell? ⟨al,0,none⟩=some (.slice P o.length T)∧w'.cell? ⟨al,1,none⟩=some (.slice U q.length W)∧w'.cell? ⟨l,0,none⟩=some (.int .i64 t)∧w'.cell? ⟨l,1,none⟩=some (.int .i64 u)∧w'.cell? ⟨l,2,none⟩=some (.slice X s.length Y)∧w'.cell? ⟨l,3,none⟩=some (.int .i64 v)∧w'.cell? ⟨l,4,none⟩=some (.int .i64 p)∧w'.cell? ⟨l,5,none⟩=some (.slice (some A) d.length Z)∧w'.cell? ⟨l,6,none⟩=some (.slice aO j.length ab)∧w'.cell? ⟨l,7,none⟩=some (.slice aP g.length ac)∧w'.cell? (A.add ((c).toNat * 3))=some (.int .i64 ((aQ d c).f0))∧w'.cell? ⟨(A.add ((c).toNat * 3)).block,(A.add ((c).toNat * 3)).off+1,none⟩=some (.int .i64 ((aQ d c).f1))∧w'.cell? ⟨(A.add ((c).toNat * 3)).block,(A.add ((c).toNat * 3)).off+2,none⟩=some (.int .i64 ((aQ d c).f2))) (ds:= []) (upto 22 0) (by kernel_rfl) rfl rfl ⟨(ae b.out 0).trans rfl,(ae b.out 1).trans rfl,(ae a.out 0).trans rfl,(ae a.out 1).trans rfl,(ae a.out 2).trans rfl,(ae a.out 3).trans rfl,(ae a.out 4).trans rfl,(ae a.out 5).trans rfl,(ae a.out 6).trans rfl,(ae a.out 7).trans rfl,((HB.out.cell (World.block_lt_of_cell? w _ z)).trans z),((HB.out.cell (World.block_lt_of_cell? w _ y)).trans y),((HB.out.cell (World.block_lt_of_cell? w _ x)).trans x)⟩ (fun hHeld=> ?_);refine cO aT.tab6 aT.bits6 (fun HT_ HW_=> ?_)
       generalize wr.drew=d8 at b a HB E G I hHeld⊢
       repeat(first|refine vN ?_|refine pN ?_|refine tN ?_)
       refine fo (i:=7) (N:=some 47) (upto 22 8) rfl rfl (d9 HT_.out (by kernel_rfl)) (by decide) (fun K hK=> ?_)
       refine gs Tryz.func138 #[.agg #[.slice P o.length T, .slice U q.length W], .agg #[.int .i64 t, .int .i64 u, .slice X s.length Y, .int .i64 v, .int .i64 p, .slice (some A) d.length Z, .slice aO j.length ab, .slice aP g.length ac], .agg #[.int .i64 ((aQ d c).f0), .int .i64 ((aQ d c).f1), .int .i64 ((aQ d c).f2)]] rfl rfl ?_
       with_reducible refine(aN.calls k2 _ _ o _ _ q t u _ _ s v p _ _ d _ _ j _ _ g ((aQ d c).f0) ((aQ d c).f1) ((aQ d c).f2) false _ (cb a0.out) a1.out (cb a4.out) a5.out (cb a6.out) a7.out (cb aR.out) a8.out (cb a2.out) a9.out (cb a3.out) ba.out ct.out).mono ?_
       rintro e ea ⟨rfl,hb⟩
       refine⟨_,rfl, ?_⟩
       replace b:=kb b hb
       replace a:=kb a hb
       replace HB:=hs HB hb
       refine hK.out _ _ ⟨(ae b.out 0).trans rfl,(ae b.out 1).trans rfl,(ae a.out 0).trans rfl,(ae a.out 1).trans rfl,(ae a.out 2).trans rfl,(ae a.out 3).trans rfl,(ae a.out 4).trans rfl,(ae a.out 5).trans rfl,(ae a.out 6).trans rfl,(ae a.out 7).trans rfl,((HB.out.cell (World.block_lt_of_cell? w _ z)).trans z),((HB.out.cell (World.block_lt_of_cell? w _ y)).trans y),((HB.out.cell (World.block_lt_of_cell? w _ x)).trans x)⟩ (fun hHeld=> ?_)
       clear hK K
       refine no 47 ?_
       repeat(first|refine vN ?_|refine pN ?_|refine tN ?_)
       refine eQ (dN HT_.out (by kernel_rfl)) ?_
       try go_wp2
       go_ret
       exact fin
      rw[if_neg c32]at H
      exact absurd H (by simp)
     rw[if_neg c31]at H
     have cx:decide (c<(d.length:Int))=false:=decide_eq_false c31
     clear c31
     have H' :=Aside0.mk H
     clear H
     have de:=D.out
     have dg:=B.out
     have:=cf8 a
     go_wp2
     go_loopg [6] k2 (fun kq v6 w' => ∃(m:Int),v6= .int .i64 m∧Aside0 (aT.l1 kq m o q t u s v p d j g=some r)∧Aside0 (kq≤k2)∧Aside0 (w'.heap[al]? =some (.cells #[(.slice P o.length T),(.slice U q.length W)] 38 (0,0)))∧Aside0 (w'.heap[l]? =some (.cells #[.int .i64 t, .int .i64 u,(.slice X s.length Y), .int .i64 v, .int .i64 p,(.slice aS d.length Z),(.slice aO j.length ab),(.slice aP g.length ac)] 104 (0,0)))∧Aside0 (Below w.heap.size w w'))
     case atStart=>exact⟨(0),(by first|rfl|(simp;done)|(simp[*];done)),H',⟨Nat.le_refl _⟩,kk b,kk a,⟨bl⟩⟩
     case round=>
      clear H'
      obtain⟨m,rfl,HA,cD,b,a,HB⟩:=hrel
      cases gk with
      |zero=>exact absurd HA.out (by simp[aT.l1])
      | succ k3=>
       have H:=HA.out
       clear HA
       simp only[aT.l1]at H
       by_cases b6:m<(g.length:Int)
       ·rw[if_pos b6]at H
        have cy:decide (m<(g.length:Int))=true:=decide_eq_true b6
        clear b6
        by_cases cq:0≤m
        ·rw[if_pos cq]at H
         have dj:decide (0≤m)=true:=decide_eq_true cq
         clear cq
         obtain⟨cH,cE,H⟩:=ob H
         by_cases cr:cH=true
         ·subst cr
          replace H:=it H
          have H' :=Aside0.mk H
          clear H
          have dk:=D.out
          have dl:=B.out
          have:=cf8 a
          try go_wp2
          replace b:=Aside0.mk (af b.out)
          replace a:=Aside0.mk (af a.out)
          replace HB:=Aside0.mk (aC HB.out)
          have b0:0≤(m:Int):=od
          have b1:m<(g.length:Int):=od
          obtain⟨J,b9,ap,aq,ar,aw⟩:=jH a3.out m b0 b1
          have aB:=aw
          have aE:=ar
          have aF:=aq
          have aL:=ap
          cases b9
          obtain⟨ap,aq,ar,aw⟩:=hc4 HB ap aq ar aw
          replace b0:=eq_true b0
          replace b1:=eq_true b1
          refine dR (n:=9) (S:=fun w' =>w'.cell? ⟨al,0,none⟩=some (.slice P o.length T)∧w'.cell? ⟨al,1,none⟩=some (.slice U q.length W)∧w'.cell? ⟨l,0,none⟩=some (.int .i64 t)∧w'.cell? ⟨l,1,none⟩=some (.int .i64 u)∧w'.cell? ⟨l,2,none⟩=some (.slice X s.length Y)∧w'.cell? ⟨l,3,none⟩=some (.int .i64 v)∧w'.cell? ⟨l,4,none⟩=some (.int .i64 p)∧w'.cell? ⟨l,5,none⟩=some (.slice aS d.length Z)∧w'.cell? ⟨l,6,none⟩=some (.slice aO j.length ab)∧w'.cell? ⟨l,7,none⟩=some (.slice (some J) g.length ac)∧w'.cell? (J.add ((m).toNat * 4))=some (.int .i64 ((aH g m).f0))∧w'.cell? ⟨(J.add ((m).toNat * 4)).block,(J.add ((m).toNat * 4)).off+1,none⟩=some (.int .i64 ((aH g m).f1))∧w'.cell? ⟨(J.add ((m).toNat * 4)).block,(J.add ((m).toNat * 4)).off+2,none⟩=some (.int .i64 ((aH g m).f2))∧w'.cell? ⟨(J.add ((m).toNat * 4)).block,(J.add ((m).toNat * 4)).off+3,none⟩=some (.int .i64 ((aH g m).f3))) (ds:= []) (upto 9 0) (by kernel_rfl) rfl rfl ⟨(ae b.out 0).trans rfl,(ae b.out 1).trans rfl,(ae a.out 0).trans rfl,(ae a.out 1).trans rfl,(ae a.out 2).trans rfl,(ae a.out 3).trans rfl,(ae a.out 4).trans rfl,(ae a.out 5).trans rfl,(ae a.out 6).trans rfl,(ae a.out 7).trans rfl,((HB.out.cell (World.block_lt_of_cell? w _ aL)).trans aL),((HB.out.cell (World.block_lt_of_cell? w _ aF)).trans aF),((HB.out.cell (World.block_lt_of_cell? w _ aE)).trans aE),((HB.out.cell (World.block_lt_of_cell? w _ aB)).trans aB)⟩ (fun hHeld=> ?_);refine cO aT.tab11 aT.bits11 (fun HT_ HW_=> ?_)
          generalize wr.drew=eb at b a HB ap aq ar aw hHeld⊢
          repeat(first|refine vN ?_|refine pN ?_|refine tN ?_)
          refine fo (i:=7) (N:=some 76) (upto 9 8) rfl rfl (d9 HT_.out (by kernel_rfl)) (by decide) (fun K hK=> ?_)
          refine gs Tryz.func139 #[.agg #[.slice P o.length T, .slice U q.length W], .agg #[.int .i64 t, .int .i64 u, .slice X s.length Y, .int .i64 v, .int .i64 p, .slice aS d.length Z, .slice aO j.length ab, .slice (some J) g.length ac], .agg #[.int .i64 ((aH g m).f0), .int .i64 ((aH g m).f1), .int .i64 ((aH g m).f2), .int .i64 ((aH g m).f3)]] rfl rfl ?_
          with_reducible refine(gV.calls k3 _ _ o _ _ q t u _ _ s v p _ _ d _ _ j _ _ g ((aH g m).f0) ((aH g m).f1) ((aH g m).f2) ((aH g m).f3) true _ (cb a0.out) a1.out (cb a4.out) a5.out (cb a6.out) a7.out (cb aR.out) a8.out (cb a2.out) a9.out (cb a3.out) ba.out cE.out).mono ?_
          rintro e ec ⟨rfl,hb⟩
          refine⟨_,rfl, ?_⟩
          replace b:=kb b hb
          replace a:=kb a hb
          replace HB:=hs HB hb
          refine hK.out _ _ ⟨(ae b.out 0).trans rfl,(ae b.out 1).trans rfl,(ae a.out 0).trans rfl,(ae a.out 1).trans rfl,(ae a.out 2).trans rfl,(ae a.out 3).trans rfl,(ae a.out 4).trans rfl,(ae a.out 5).trans rfl,(ae a.out 6).trans rfl,(ae a.out 7).trans rfl,((HB.out.cell (World.block_lt_of_cell? w _ aL)).trans aL),((HB.out.cell (World.block_lt_of_cell? w _ aF)).trans aF),((HB.out.cell (World.block_lt_of_cell? w _ aE)).trans aE),((HB.out.cell (World.block_lt_of_cell? w _ aB)).trans aB)⟩ (fun hHeld=> ?_)
          clear hK K
          refine no 76 ?_
          repeat(first|refine vN ?_|refine pN ?_|refine tN ?_)
          refine eQ (dN HT_.out (by kernel_rfl)) ?_
          try go_wp2
          go_roundg k3
          case measure=>have:=HJ2.out;have:=co.out;have:=cD.out;omega
          case rel=>exact⟨(wrap64 (m+1)),(by first|rfl|(simp;done)|(simp[*];done)),H',⟨by have:=HJ2.out;have:=co.out;have:=cD.out;omega⟩,kk b,kk a,⟨bl⟩⟩
         replace cr:=Bool.eq_false_iff.mpr cr
         subst cr
         replace H:=ie H
         obtain rfl:=Option.some.inj H;clear H
         have dp:=D.out
         have dq:=B.out
         have:=cf8 a
         try go_wp2
         replace b:=Aside0.mk (af b.out)
         replace a:=Aside0.mk (af a.out)
         replace HB:=Aside0.mk (aC HB.out)
         have b0:0≤(m:Int):=od
         have b1:m<(g.length:Int):=od
         obtain⟨J,b9,ap,aq,ar,aw⟩:=jH a3.out m b0 b1
         have aB:=aw
         have aE:=ar
         have aF:=aq
         have aL:=ap
         cases b9
         obtain⟨ap,aq,ar,aw⟩:=hc4 HB ap aq ar aw
         replace b0:=eq_true b0
         replace b1:=eq_true b1
         refine dR (n:=9) (S:=fun w' =>w'.cell? ⟨al,0,none⟩=some (.slice P o.length T)∧w'.cell? ⟨al,1,none⟩=some (.slice U q.length W)∧w'.cell? ⟨l,0,none⟩=some (.int .i64 t)∧w'.cell? ⟨l,1,none⟩=some (.int .i64 u)∧w'.cell? ⟨l,2,none⟩=some (.slice X s.length Y)∧w'.cell? ⟨l,3,none⟩=some (.int .i64 v)∧w'.cell? ⟨l,4,none⟩=some (.int .i64 p)∧w'.cell? ⟨l,5,none⟩=some (.slice aS d.length Z)∧w'.cell? ⟨l,6,none⟩=some (.slice aO j.length ab)∧w'.cell? ⟨l,7,none⟩=some (.slice (some J) g.length ac)∧w'.cell? (J.add ((m).toNat * 4))=some (.int .i64 ((aH g m).f0))∧w'.cell? ⟨(J.add ((m).toNat * 4)).block,(J.add ((m).toNat * 4)).off+1,none⟩=some (.int .i64 ((aH g m).f1))∧w'.cell? ⟨(J.add ((m).toNat * 4)).block,(J.add ((m).toNat * 4)).off+2,none⟩=some (.int .i64 ((aH g m).f2))∧w'.cell? ⟨(J.add ((m).toNat * 4)).block,(J.add ((m).toNat * 4)).off+3,none⟩=some (.int .i64 ((aH g m).f3))) (ds:= []) (upto 9 0) (by kernel_rfl) rfl rfl ⟨(ae b.out 0).trans rfl,(ae b.out 1).trans rfl,(ae a.out 0).trans rfl,(ae a.out 1).trans rfl,(ae a.out 2).trans rfl,(ae a.out 3).trans rfl,(ae a.out 4).trans rfl,(ae a.out 5).trans rfl,(ae a.out 6).trans rfl,(ae a.out 7).trans rfl,((HB.out.cell (World.block_lt_of_cell? w _ aL)).trans aL),((HB.out.cell (World.block_lt_of_cell? w _ aF)).trans aF),((HB.out.cell (World.block_lt_of_cell? w _ aE)).trans aE),((HB.out.cell (World.block_lt_of_cell? w _ aB)).trans aB)⟩ (fun hHeld=> ?_);refine cO aT.tab11 aT.bits11 (fun HT_ HW_=> ?_)
         generalize wr.drew=w64 at b a HB ap aq ar aw hHeld⊢
         repeat(first|refine vN ?_|refine pN ?_|refine tN ?_)
         refine fo (i:=7) (N:=some 76) (upto 9 8) rfl rfl (d9 HT_.out (by kernel_rfl)) (by decide) (fun K hK=> ?_)
         refine gs Tryz.func139 #[.agg #[.slice P o.length T, .slice U q.length W], .agg #[.int .i64 t, .int .i64 u, .slice X s.length Y, .int .i64 v, .int .i64 p, .slice aS d.length Z, .slice aO j.length ab, .slice (some J) g.length ac], .agg #[.int .i64 ((aH g m).f0), .int .i64 ((aH g m).f1), .int .i64 ((aH g m).f2), .int .i64 ((aH g m).f3)]] rfl rfl ?_
         with_reducible refine(gV.calls k3 _ _ o _ _ q t u _ _ s v p _ _ d _ _ j _ _ g ((aH g m).f0) ((aH g m).f1) ((aH g m).f2) ((aH g m).f3) false _ (cb a0.out) a1.out (cb a4.out) a5.out (cb a6.out) a7.out (cb aR.out) a8.out (cb a2.out) a9.out (cb a3.out) ba.out cE.out).mono ?_
         rintro e ee ⟨rfl,hb⟩
         refine⟨_,rfl, ?_⟩
         replace b:=kb b hb
         replace a:=kb a hb
         replace HB:=hs HB hb
         refine hK.out _ _ ⟨(ae b.out 0).trans rfl,(ae b.out 1).trans rfl,(ae a.out 0).trans rfl,(ae a.out 1).trans rfl,(ae a.out 2).trans rfl,(ae a.out 3).trans rfl,(ae a.out 4).trans rfl,(ae a.out 5).trans rfl,(ae a.out 6).trans rfl,(ae a.out 7).trans rfl,((HB.out.cell (World.block_lt_of_cell? w _ aL)).trans aL),((HB.out.cell (World.block_lt_of_cell? w _ aF)).trans aF),((HB.out.cell (World.block_lt_of_cell? w _ aE)).trans aE),((HB.out.cell (World.block_lt_of_cell? w _ aB)).trans aB)⟩ (fun hHeld=> ?_)
         clear hK K
         refine no 76 ?_
         repeat(first|refine vN ?_|refine pN ?_|refine tN ?_)
         refine eQ (dN HT_.out (by kernel_rfl)) ?_
         try go_wp2
         go_ret
         exact fin
        rw[if_neg cq]at H
        exact absurd H (by simp)
       rw[if_neg b6]at H
       have cy:decide (m<(g.length:Int))=false:=decide_eq_false b6
       clear b6
       obtain rfl:=Option.some.inj H;clear H
       have dr:=D.out
       have dt:=B.out
       have:=cf8 a
       go_wp2
       go_ret
       exact fin
set_option maxHeartbeats 8000000 in
set_option maxRecDepth 100000 in
theorem bY.calls (k:Nat) (p:Int) (q:Int) (D:Option Addr) (E:Nat) (b:List Int) (n:Int) (s:Int) (G:Option Addr) (I:Nat) (j:List (S113)) (J:Option Addr) (K:Nat) (l:List (S57)) (L:Option Addr) (M:Nat) (m:List (S181)) (P:Int) (T:Int) (Y:Option Addr) (Z:Nat) (d:List Int) (O:Int) (U:Int) (ab:Option Addr) (ac:Nat) (z:List (S113)) (ad:Option Addr) (al:Nat) (A:List (S57)) (am:Option Addr) (an:Nat) (B:List (S181)) (r:Bool) (w:World) (a2:Kd.C (Kd.int .i64) w D b.length b) (a3:b.length≤E) (a4:Kd.C fq w G j.length j) (a5:j.length≤I) (a6:Kd.C k57 w J l.length l) (a7:l.length≤K) (a8:Kd.C eZ w L m.length m) (a9:m.length≤M) (ba:Kd.C (Kd.int .i64) w Y d.length d) (bb:d.length≤Z) (bc:Kd.C fq w ab z.length z) (bd:z.length≤ac) (be:Kd.C k57 w ad A.length A) (bh:A.length≤al) (bj:Kd.C eZ w am B.length B) (bk:B.length≤an) (h:bY.f k p q b n s j l m P T d O U z A B=some r):
  Calls Tryz.prog 141 #[.agg #[.int .i64 p, .int .i64 q, .slice D b.length E, .int .i64 n, .int .i64 s, .slice G j.length I, .slice J l.length K, .slice L m.length M], .agg #[.int .i64 P, .int .i64 T, .slice Y d.length Z, .int .i64 O, .int .i64 U, .slice ab z.length ac, .slice ad A.length al, .slice am B.length an]] w fun e w' =>e= .returned (.bool r)∧Below w.heap.size w w' :=by
 have b7:=Tryz.underlying104
 have bm:=Aside0.mk a2
 have b8:=Aside0.mk a3
 clear a2 a3
 have b9:=Aside0.mk a4
 have ca:=Aside0.mk a5
 clear a4 a5
 have cc:=Aside0.mk a6
 have cd:=Aside0.mk a7
 clear a6 a7
 have ce:=Aside0.mk a8
 have cf:=Aside0.mk a9
 clear a8 a9
 have bo:=Aside0.mk ba
 have cg:=Aside0.mk bb
 clear ba bb
 have ch:=Aside0.mk bc
 have ci:=Aside0.mk bd
 clear bc bd
 have cj:=Aside0.mk be
 have ck:=Aside0.mk bh
 clear be bh
 have cl:=Aside0.mk bj
 have cm:=Aside0.mk bk
 clear bj bk
 have HB:=Aside0.mk (Below.refl w.heap.size w)
 have H:(if n=O then(bY.j0 k ((b.length:Int) !=(d.length:Int)) p q b n s j l m P T d O U z A B)else(bY.j0 k true p q b n s j l m P T d O U z A B))=some r:=h
 clear h
 have bt:=Aside0.mk H
 clear H
 go_enter Tryz.func141,Tryz.ntmps141
 go_upto_region 1 with(first|((with_reducible refine gd 2 rfl ?_);(try(refine aW (by rfl) ?_;dsimp only));refine bx 2 #[.int .i64 p, .int .i64 q, .slice D b.length E, .int .i64 n, .int .i64 s, .slice G j.length I, .slice J l.length K, .slice L m.length M] 104 ?_;intro i hg w4 hbox hb;have a:=Aside0.mk hbox;have bp:=hz HB hg;have aw:=hz HB hg;replace HB:=hs HB hb;clear hb hbox hg)|((with_reducible refine gd 3 rfl ?_);(try(refine aW (by rfl) ?_;dsimp only));refine bx 3 #[.int .i64 P, .int .i64 T, .slice Y d.length Z, .int .i64 O, .int .i64 U, .slice ab z.length ac, .slice ad A.length al, .slice am B.length an] 104 ?_;intro x hg w5 hbox hb;have y:=Aside0.mk hbox;have br:=hz HB hg;have bs:=hz HB hg;have u:=nl a hg;have v:=ng a hg;replace a:=kb a hb;replace HB:=hs HB hb;clear hb hbox hg))
 repeat(go_quiet (first|((with_reducible refine iG (N:=2) rfl ?_);(try(refine aW (by rfl) ?_;dsimp only));refine gG ?hg (N:=2) ?hd (cs:= #[.int .i64 p, .int .i64 q, .slice D b.length E, .int .i64 n, .int .i64 s, .slice G j.length I, .slice J l.length K, .slice L m.length M]) (t:=104) ?hr ?_;(case hd=>rfl);(case hg=>rfl);(case hr=>first|(go_simp;done)|(go_simp;rfl));intro i hg w4 hbox hb;have aB:=Aside0.mk (bi (by repeat(first|(with_reducible first|exact HB.out|apply aI|apply aG|apply aC)|exact HB.out)) hb);have aE:=Aside0.mk (hbox);have aF:=Aside0.mk ((by rw[hg];exact(aU (by repeat(first|(with_reducible first|exact HB.out|apply aI|apply aG|apply aC)|exact HB.out))):w.heap.size≤i));have aL:=Aside0.mk ((by rw[hg];exact(aU (by repeat(first|(with_reducible first|exact HB.out|apply aI|apply aG|apply aC)|exact HB.out))):w.heap.size≤i));clear HB;have HB:=aB;have a:=aE;have bp:=aF;have aw:=aL;clear aB aE aF aL;clear hb hbox hg)|((with_reducible refine iG (N:=3) rfl ?_);(try(refine aW (by rfl) ?_;dsimp only));refine gG ?hg (N:=3) ?hd (cs:= #[.int .i64 P, .int .i64 T, .slice Y d.length Z, .int .i64 O, .int .i64 U, .slice ab z.length ac, .slice ad A.length al, .slice am B.length an]) (t:=104) ?hr ?_;(case hd=>rfl);(case hg=>rfl);(case hr=>first|(go_simp;done)|(go_simp;rfl));intro x hg w5 hbox hb;have aB:=Aside0.mk (cK (g:=i) (o:= .cells #[.int .i64 p, .int .i64 q, .slice D b.length E, .int .i64 n, .int .i64 s, .slice G j.length I, .slice J l.length K, .slice L m.length M] 104 (0,0)) (by(with_reducible repeat(first|refine ah ?_ _|refine af ?_|refine ag ?_ _));exact a.out) hb);have aE:=Aside0.mk (bi (by repeat(first|(with_reducible first|exact HB.out|apply aI|apply aG|apply aC|refine aK ?_ aw.out)|exact HB.out)) hb);have aF:=Aside0.mk (hbox);have aL:=Aside0.mk ((by rw[hg];exact(aU (by repeat(first|(with_reducible first|exact HB.out|apply aI|apply aG|apply aC|refine aK ?_ aw.out)|exact HB.out))):w.heap.size≤x));have aR:=Aside0.mk ((by rw[hg];exact(aU (by repeat(first|(with_reducible first|exact HB.out|apply aI|apply aG|apply aC|refine aK ?_ aw.out)|exact HB.out))):w.heap.size≤x));have aS:=Aside0.mk ((by rw[hg];exact Nat.ne_of_lt (fF (g:=i) (o:= .cells #[.int .i64 p, .int .i64 q, .slice D b.length E, .int .i64 n, .int .i64 s, .slice G j.length I, .slice J l.length K, .slice L m.length M] 104 (0,0)) (by(with_reducible repeat(first|refine ah ?_ _|refine af ?_|refine ag ?_ _));exact a.out)):i≠x));have a0:=Aside0.mk ((by rw[hg];exact Nat.ne_of_gt (fF (g:=i) (o:= .cells #[.int .i64 p, .int .i64 q, .slice D b.length E, .int .i64 n, .int .i64 s, .slice G j.length I, .slice J l.length K, .slice L m.length M] 104 (0,0)) (by(with_reducible repeat(first|refine ah ?_ _|refine af ?_|refine ag ?_ _));exact a.out)):x≠i));clear a;clear HB;have a:=aB;have HB:=aE;have y:=aF;have br:=aL;have bs:=aR;have u:=aS;have v:=a0;clear aB aE aF aL aR aS a0;clear hb hbox hg));go_upto_region 1 with(first|((with_reducible refine gd 2 rfl ?_);(try(refine aW (by rfl) ?_;dsimp only));refine bx 2 #[.int .i64 p, .int .i64 q, .slice D b.length E, .int .i64 n, .int .i64 s, .slice G j.length I, .slice J l.length K, .slice L m.length M] 104 ?_;intro i hg w4 hbox hb;have a:=Aside0.mk hbox;have bp:=hz HB hg;have aw:=hz HB hg;replace HB:=hs HB hb;clear hb hbox hg)|((with_reducible refine gd 3 rfl ?_);(try(refine aW (by rfl) ?_;dsimp only));refine gG ?hg (N:=3) ?hd (cs:= #[.int .i64 P, .int .i64 T, .slice Y d.length Z, .int .i64 O, .int .i64 U, .slice ab z.length ac, .slice ad A.length al, .slice am B.length an]) (t:=104) ?hr ?_;(case hd=>rfl);(case hg=>rfl);(case hr=>first|(go_simp;done)|(go_simp;rfl));intro x hg w5 hbox hb;have aB:=Aside0.mk (cK (g:=i) (o:= .cells #[.int .i64 p, .int .i64 q, .slice D b.length E, .int .i64 n, .int .i64 s, .slice G j.length I, .slice J l.length K, .slice L m.length M] 104 (0,0)) (by(with_reducible repeat(first|refine ah ?_ _|refine af ?_|refine ag ?_ _));exact a.out) hb);have aE:=Aside0.mk (bi bl hb);have aF:=Aside0.mk (hbox);have aL:=Aside0.mk ((by rw[hg];exact(aU bl):w.heap.size≤x));have aR:=Aside0.mk ((by rw[hg];exact(aU bl):w.heap.size≤x));have aS:=Aside0.mk ((by rw[hg];exact Nat.ne_of_lt (fF (g:=i) (o:= .cells #[.int .i64 p, .int .i64 q, .slice D b.length E, .int .i64 n, .int .i64 s, .slice G j.length I, .slice J l.length K, .slice L m.length M] 104 (0,0)) (by(with_reducible repeat(first|refine ah ?_ _|refine af ?_|refine ag ?_ _));exact a.out)):i≠x));have a0:=Aside0.mk ((by rw[hg];exact Nat.ne_of_gt (fF (g:=i) (o:= .cells #[.int .i64 p, .int .i64 q, .slice D b.length E, .int .i64 n, .int .i64 s, .slice G j.length I, .slice J l.length K, .slice L m.length M] 104 (0,0)) (by(with_reducible repeat(first|refine ah ?_ _|refine af ?_|refine ag ?_ _));exact a.out)):x≠i));clear a;clear HB;have a:=aB;have HB:=aE;have y:=aF;have br:=aL;have bs:=aR;have u:=aS;have v:=a0;clear aB aE aF aL aR aS a0;clear hb hbox hg)))
 (try simp only[Act.put,List.setIfInBounds_toArray,List.set_cons_zero,List.set_cons_succ])
 go_cut [19] (fun v19 wc=> ∃(kq:Nat) (aO:Bool),v19= .bool aO∧Aside0 (bY.j0 kq aO p q b n s j l m P T d O U z A B=some r)∧Aside0 (kq≤k)∧Aside0 (wc.heap[i]? =some (.cells #[.int .i64 p, .int .i64 q,(.slice D b.length E), .int .i64 n, .int .i64 s,(.slice G j.length I),(.slice J l.length K),(.slice L m.length M)] 104 (0,0)))∧Aside0 (wc.heap[x]? =some (.cells #[.int .i64 P, .int .i64 T,(.slice Y d.length Z), .int .i64 O, .int .i64 U,(.slice ab z.length ac),(.slice ad A.length al),(.slice am B.length an)] 104 (0,0)))∧Aside0 (Below w.heap.size w wc))
 case first=>
  have H:=bt.out
  clear bt
  by_cases c6:n=O
  ·rw[if_pos c6]at H
   have aP:=beq_iff_eq.mpr c6
   have b6:=bne_eq_false_iff_eq.mpr c6
   clear c6
   (first|rw[aP]|(simp only[bX,bZ];rw[aP])|skip)
   have H' :=Aside0.mk H
   clear H
   have cA:=u.out
   have cC:=v.out
   have:=cf8 a
   have:=cf8 y
   go_wp2
   repeat(go_quiet (fail);try go_wp2)
   go_meet
   case rel=>exact⟨_,(((b.length:Int) !=(d.length:Int))),(by first|rfl|(simp;done)|(simp[*];done)),H',⟨by first|omega|exact Nat.le_refl _⟩,kk a,kk y,⟨bl⟩⟩
  rw[if_neg c6]at H
  have aP:=beq_eq_false_iff_ne.mpr c6
  have b6:=bne_iff_ne.mpr c6
  (first|rw[aP]|(simp only[bX,bZ];rw[aP])|skip)
  have H' :=Aside0.mk H
  clear H
  have cn:=u.out
  have co:=v.out
  have:=cf8 a
  have:=cf8 y
  go_wp2
  repeat(go_quiet (fail);try go_wp2)
  go_meet
  case rel=>exact⟨_,(true),(by first|rfl|(simp;done)|(simp[*];done)),H',⟨by first|omega|exact Nat.le_refl _⟩,kk a,kk y,⟨bl⟩⟩
 case rest=>
  clear bt
  obtain⟨kq,aO,rfl,HA,HJ2,a,y,HB⟩:=hcut
  cases kq with
  |zero=>exact absurd HA.out (by simp[bY.j0])
  | succ b4=>
   have H:=HA.out
   clear HA
   simp only[bY.j0]at H
   by_cases c13:aO=true
   ·subst c13
    replace H:=it H
    obtain rfl:=Option.some.inj H;clear H
    go_wp2
    repeat(go_quiet (fail);try go_wp2)
    go_ret
    exact fin
   replace c13:=Bool.eq_false_iff.mpr c13
   subst c13
   replace H:=ie H
   have H' :=Aside0.mk H
   clear H
   go_wp2
   repeat(go_quiet (fail);try go_wp2)
   go_loopg [5] b4 (fun kq v5 w' => ∃(c:Int),v5= .int .i64 c∧Aside0 (bY.l0 kq c p q b n s j l m P T d O U z A B=some r)∧Aside0 (kq≤b4)∧Aside0 (w'.heap[i]? =some (.cells #[.int .i64 p, .int .i64 q,(.slice D b.length E), .int .i64 n, .int .i64 s,(.slice G j.length I),(.slice J l.length K),(.slice L m.length M)] 104 (0,0)))∧Aside0 (w'.heap[x]? =some (.cells #[.int .i64 P, .int .i64 T,(.slice Y d.length Z), .int .i64 O, .int .i64 U,(.slice ab z.length ac),(.slice ad A.length al),(.slice am B.length an)] 104 (0,0)))∧Aside0 (Below w.heap.size w w'))
   case atStart=>exact⟨(0),(by first|rfl|(simp;done)|(simp[*];done)),H',⟨Nat.le_refl _⟩,kk a,kk y,⟨bl⟩⟩
   case round=>
    clear H'
    obtain⟨c,rfl,HA,b5,a,y,HB⟩:=hrel
    cases gk with
    |zero=>exact absurd HA.out (by simp[bY.l0])
    | succ k2=>
     have H:=HA.out
     clear HA
     simp only[bY.l0]at H
     by_cases c14:c<(b.length:Int)
     ·rw [if_pos c14]at H
      have bw:decide (c<(b.length:Int))=true:=decide_eq_true c14
      clear c14
      by_cases c15:0≤c
      ·rw[if_pos c15]at H
       have cp:decide (0≤c)=true:=decide_eq_true c15
       clear c15
       by_cases c16:c<(d.length:Int)
       ·rw[if_pos c16]at H
        have cq:decide (c<(d.length:Int))=true:=decide_eq_true c16
        clear c16
        by_cases c17:(rd b c)=(rd d c)
        ·rw[if_pos c17]at H
         have b0:=beq_iff_eq.mpr c17
         have b1:=bne_eq_false_iff_eq.mpr c17
         clear c17
         have H' :=Aside0.mk H
         clear H
         have cr:=u.out
         have ct:=v.out
         have:=cf8 a
         have ao:0≤(c:Int):=od
         have ap:c<(b.length:Int):=od
         obtain⟨b2,e195,W⟩:=Kd.at_int bm.out c ao ap
         cases e195
         replace W:=hc HB W
         replace ao:=eq_true ao
         replace ap:=eq_true ap
         have:=cf8 y
         have aq:0≤(c:Int):=od
         have ar:c<(d.length:Int):=od
         obtain⟨b3,a1,X⟩:=Kd.at_int bo.out c aq ar
         cases a1
         replace X:=hc HB X
         replace aq:=eq_true aq
         replace ar:=eq_true ar
         go_wp2
         repeat(go_quiet (fail);try go_wp2)
         go_roundg k2
         case measure=>have:=HJ2.out;have:=b5.out;omega
         case rel=>exact⟨(wrap64 (c+1)),(by first|rfl|(simp;done)|(simp[*];done)),H',⟨by have:=HJ2.out;have:=b5.out;omega⟩,kk a,kk y,⟨bl⟩⟩
        rw[if_neg c17]at H
        have b0:=beq_eq_false_iff_ne.mpr c17
        have b1:=bne_iff_ne.mpr c17
        obtain rfl:=Option.some.inj H;clear H
        have cv:=u.out
        have cw:=v.out
        have:=cf8 a
        have ao:0≤(c:Int):=od
        have ap:c<(b.length:Int):=od
        obtain⟨b2,e195,W⟩:=Kd.at_int bm.out c ao ap
        cases e195
        replace W:=hc HB W
        replace ao:=eq_true ao
        replace ap:=eq_true ap
        have:=cf8 y
        have aq:0≤(c:Int):=od
        have ar:c<(d.length:Int):=od
        obtain⟨b3,a1,X⟩:=Kd.at_int bo.out c aq ar
        cases a1
        replace X:=hc HB X
        replace aq:=eq_true aq
        replace ar:=eq_true ar
        go_wp2
        repeat(go_quiet (fail);try go_wp2)
        go_ret
        exact fin
       rw[if_neg c16]at H
       exact absurd H (by simp)
      rw[if_neg c15]at H
      exact absurd H (by simp)
     rw[if_neg c14]at H
     have bw:decide (c<(b.length:Int))=false:=decide_eq_false c14
     clear c14
     obtain rfl:=Option.some.inj H;clear H
     have cx:=u.out
     have cy:=v.out
     have:=cf8 a
     go_wp2
     repeat(go_quiet (fail);try go_wp2)
     go_ret
     exact fin
end Go.Proofs.YteinbmkgenhocaaGreat.P
end
