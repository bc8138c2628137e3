/- A part of the claim FnExactShapeStart: texts of this session and texts that its program printed out of the translation, joined. -/
import Derived.Test.YteinbmkgenhocaaCFnExactShapeStart27
section
namespace Go.Proofs.Yteinbmkgenhocaa.P
open Go.RowKit Go.Proofs.YteinbmkgenhocaaW.PrintWords Go.Proofs.YteinbmkgenhocaaW.PrintLast Go.Proofs.YteinbmkgenhocaaW.PrintMore
attribute [local go_sem] ak au aA aC ai aj av ax
set_option linter.unusedVariables false
set_option linter.unusedSimpArgs false
def aT.T8:Bool×List (List Nat×List Nat):=(true, [([], []),([], []),([1], [1]),([], []),([2,3], [2,3]),([4], [4]),([0,5], [0,5]),([6], [6])])
def aT.B8:List Nat:= [0,0,2,0,14,30,63,127]
theorem aT.tab8:ed .any (opsOf Try.f32 8)=aT.T8:=by kernel_rfl
theorem aT.bits8:eP aT.T8.2 aT.B8=true:=by kernel_rfl
set_option maxHeartbeats 8000000 in
set_option maxRecDepth 100000 in
theorem aT.calls (k:Nat) (aB:Option Addr) (aE:Nat) (t:List (S71)) (ca:Option Addr) (aR:Nat) (a:List (S50)) (r:Bool) (w:World) (c0:Kd.C k71 w aB t.length t) (c1:t.length≤aE) (da:Kd.C k50 w ca a.length a) (db:a.length≤aR) (h:aT.f k t a=some r):
  Calls Try.prog 32 #[.agg #[.slice aB t.length aE, .slice ca a.length aR]] w fun e w' =>e= .returned (.bool r)∧Below w.heap.size w w' :=by
 have eN:=Try.underlying34
 have eR:=Try.underlying50
 have cg:=Aside0.mk c0
 have ch:=Aside0.mk c1
 clear c0 c1
 have aw:=Aside0.mk da
 have cI:=Aside0.mk db
 clear da db
 have HB:=Aside0.mk (Below.refl w.heap.size w)
 have H:((bv.f k t).bind fun cV=>(if cV=true then((aH.f (a.length:Int) 1 4).bind fun t206=>(aT.j0 k (!t206) t a))else(aT.j0 k true t a)))=some r:=h
 clear h
 have du:=Aside0.mk H
 clear H
 go_enter Try.func32,Try.ntmps32
 go_upto_region 1 with(first|((with_reducible refine gd 1 rfl ?_);(try(refine aN (by rfl) ?_;dsimp only));refine bx 1 #[.slice aB t.length aE, .slice ca a.length aR] 34 ?_;intro b1 hg w3 hbox hb;have c:=Aside0.mk hbox;have eI:=hz HB hg;have eJ:=hz HB hg;replace HB:=hs HB hb;clear hb hbox hg))
 (try simp only[Act.put,List.setIfInBounds_toArray,List.set_cons_zero,List.set_cons_succ])
 go_cut [14] (fun v14 wc=> ∃(kq:Nat) (co:Bool),v14= .bool co∧Aside0 (aT.j0 kq co t a=some r)∧Aside0 (kq≤k)∧Aside0 (wc.heap[b1]? =some (.cells #[(.slice aB t.length aE),(.slice ca a.length aR)] 34 (0,0)))∧Aside0 (Below w.heap.size w wc))
 case first=>
  have H:=du.out
  clear du
  obtain⟨cV,A4,H⟩:=ob H
  by_cases c5:cV=true
  ·subst c5
   replace H:=it H
   obtain⟨t206,A6,H⟩:=ob H
   have H' :=Aside0.mk H
   clear H
   obtain⟨_,_,_,_⟩:=cf2 c
   go_wp2_with (first|((with_reducible refine gc 53 rfl ?_);refine gl (some 6) Try.func53 #[.slice aB t.length aE] rfl ?_;(with_reducible refine(bv.calls k _ _ t true _ ?s1 ?s2 A4.out).mono ?_);(case s1=>exact cb cg.out);(case s2=>exact ch.out);rintro e w8 ⟨rfl,hb⟩;refine⟨_,rfl, ?_⟩;replace c:=kb c hb;replace HB:=hs HB hb;(try clear hb);obtain⟨_,_,_,_⟩:=cf2 c)|(go_at_call 33;(with_reducible refine(aH.calls (a.length:Int) 1 4 t206 _ A6.out).mono ?_);rintro e w' ⟨rfl,⟨nd,rfl⟩⟩))
   go_meet
   case rel=>exact⟨_,(!t206),(by first|rfl|(simp;done)|(simp[*];done)),H',⟨by first|omega|exact Nat.le_refl _⟩,kk c,⟨bl⟩⟩
  ·replace c5:=Bool.eq_false_iff.mpr c5
   subst c5
   replace H:=ie H
   have H' :=Aside0.mk H
   clear H
   obtain⟨_,_,_,_⟩:=cf2 c
   go_wp2_with (first|((with_reducible refine gc 53 rfl ?_);refine gl (some 6) Try.func53 #[.slice aB t.length aE] rfl ?_;(with_reducible refine(bv.calls k _ _ t false _ ?s1 ?s2 A4.out).mono ?_);(case s1=>exact cb cg.out);(case s2=>exact ch.out);rintro e eS ⟨rfl,hb⟩;refine⟨_,rfl, ?_⟩;replace c:=kb c hb;replace HB:=hs HB hb;(try clear hb)))
   go_meet
   case rel=>exact⟨_,(true),(by first|rfl|(simp;done)|(simp[*];done)),H',⟨by first|omega|exact Nat.le_refl _⟩,kk c,⟨bl⟩⟩
 case rest =>
  clear du
  obtain⟨kq,co,rfl,HA,cL,c,HB⟩:=hcut
  cases kq with
  |zero=>exact absurd HA.out (by simp[aT.j0])
  | succ es =>
   have H:=HA.out
   clear HA
   simp only[aT.j0]at H
   by_cases c12:co=true
   ·subst c12
    replace H:=it H
    obtain rfl:=Option.some.inj H;clear H
    go_wp2
    go_ret
    exact fin
   ·replace c12:=Bool.eq_false_iff.mpr c12
    subst c12
    replace H:=ie H
    have cW:=Aside0.mk H
    clear H
    go_upto_region 3 with(fail)
    go_cut [37] (fun v37 wc=> ∃(kq:Nat) (ci:Bool),v37= .bool ci∧Aside0 (aT.j1 kq ci t a=some r)∧Aside0 (kq≤es)∧Aside0 (wc.heap[b1]? =some (.cells #[(.slice aB t.length aE),(.slice ca a.length aR)] 34 (0,0)))∧Aside0 (Below w.heap.size w wc))
    case first=>
     have H:=cW.out
     clear cW
     by_cases c14:0<(a.length:Int)
     ·rw[if_pos c14]at H
      have dc:decide (0<(a.length:Int))=true:=decide_eq_true c14
      have eK:decide (0<a.length)=true:=decide_eq_true (by omega)
      clear c14
      (first|rw[dc]|(simp only[bT,bU];rw[dc])|skip)
      by_cases c15:((aa a 0).f0)=(-1)
      ·rw[if_pos c15]at H
       have d7:=beq_iff_eq.mpr c15
       have d8:=bne_eq_false_iff_eq.mpr c15
       clear c15
       by_cases c16:(((aa a 0).f2).length:Int)>0
       ·rw[if_pos c16]at H
        have ea:decide (0<(((aa a 0).f2).length:Int))=true:=decide_eq_true c16
        have eb:decide (0<((aa a 0).f2).length)=true:=decide_eq_true (by omega)
        clear c16
        have H' :=Aside0.mk H
        clear H
        obtain⟨_,_,_,_⟩:=cf2 c
        have aS:0≤(0:Int):=(by omega)
        have a0:0<(a.length:Int):=od
        obtain⟨cj,cM,cN,cP,cQ,cR,cS,cT,cU,e207,o,p,g,q,s,j,l,m,ad,al,am,an,ao,ap,aq,ar⟩:=dx aw.out 0 aS a0
        cases e207
        have dd:(0<a.length)=True:=eq_true (by omega)
        (try rw[show((0:Int)).toNat=0 from rfl]at o)
        (try rw[show 0 * 8=0 from rfl]at o)
        (try rw[Addr.add_zero']at o)
        (try rw[show((0:Int)).toNat=0 from rfl]at p)
        (try rw[show 0 * 8=0 from rfl]at p)
        (try rw[Addr.add_zero']at p)
        (try rw[show((0:Int)).toNat=0 from rfl]at g)
        (try rw[show 0 * 8=0 from rfl]at g)
        (try rw[Addr.add_zero']at g)
        (try rw[show((0:Int)).toNat=0 from rfl]at q)
        (try rw[show 0 * 8=0 from rfl]at q)
        (try rw[Addr.add_zero']at q)
        (try rw[show((0:Int)).toNat=0 from rfl]at s)
        (try rw[show 0 * 8=0 from rfl]at s)
        (try rw[Addr.add_zero']at s)
        (try rw[show((0:Int)).toNat=0 from rfl]at j)
        (try rw[show 0 * 8=0 from rfl]at j)
        (try rw[Addr.add_zero']at j)
        (try rw[show((0:Int)).toNat=0 from rfl]at l)
        (try rw[show 0 * 8=0 from rfl]at l)
        (try rw[Addr.add_zero']at l)
        (try rw[show((0:Int)).toNat=0 from rfl]at m)
        (try rw[show 0 * 8=0 from rfl]at m)
        (try rw[Addr.add_zero']at m)
        obtain⟨o,p,g,q,s,j,l,m⟩:=hc8 HB o p g q s j l m
        have cp:=Aside0.mk al
        have cq:=Aside0.mk ad
        clear al ad
        have cr:=Aside0.mk an
        have cs:=Aside0.mk am
        clear an am
        have ct:=Aside0.mk ap
        have cv:=Aside0.mk ao
        clear ap ao
        have cw:=Aside0.mk ar
        have cx:=Aside0.mk aq
        clear ar aq
        replace aS:=eq_true aS
        replace a0:=eq_true a0
        have cc:0≤(0:Int):=(by omega)
        have cd:0<(a.length:Int):=od
        obtain⟨cJ,dv,dy,dT,d0,d1,d2,d3,d4,e208,z,A,u,B,D,v,x,y,a1,a2,a3,a4,a5,a6,a7,a8⟩:=dx aw.out 0 cc cd
        obtain rfl:cj=cJ:=(by injection e208)
        have ec:(0<a.length)=True:=eq_true (by omega)
        (try rw[show((0:Int)).toNat=0 from rfl]at z)
        (try rw[show 0 * 8=0 from rfl]at z)
        (try rw[Addr.add_zero']at z)
        (try rw[show((0:Int)).toNat=0 from rfl]at A)
        (try rw[show 0 * 8=0 from rfl]at A)
        (try rw[Addr.add_zero']at A)
        (try rw[show((0:Int)).toNat=0 from rfl]at u)
        (try rw[show 0 * 8=0 from rfl]at u)
        (try rw[Addr.add_zero']at u)
        (try rw[show((0:Int)).toNat=0 from rfl]at B)
        (try rw[show 0 * 8=0 from rfl]at B)
        (try rw[Addr.add_zero']at B)
        (try rw[show((0:Int)).toNat=0 from rfl]at D)
        (try rw[show 0 * 8=0 from rfl]at D)
        (try rw[Addr.add_zero']at D)
        (try rw[show((0:Int)).toNat=0 from rfl]at v)
        (try rw[show 0 * 8=0 from rfl]at v)
        (try rw[Addr.add_zero']at v)
        (try rw[show((0:Int)).toNat=0 from rfl]at x)
        (try rw[show 0 * 8=0 from rfl]at x)
        (try rw[Addr.add_zero']at x)
        (try rw[show((0:Int)).toNat=0 from rfl]at y)
        (try rw[show 0 * 8=0 from rfl]at y)
        (try rw[Addr.add_zero']at y)
        obtain⟨z,A,u,B,D,v,x,y⟩:=hc8 HB z A u B D v x y
        have dg:=Aside0.mk a2
        have dj:=Aside0.mk a1
        clear a2 a1
        have dk:=Aside0.mk a4
        have dl:=Aside0.mk a3
        clear a4 a3
        have dp:=Aside0.mk a6
        have dq:=Aside0.mk a5
        clear a6 a5
        have dr:=Aside0.mk a8
        have dt:=Aside0.mk a7
        clear a8 a7
        replace cc:=eq_true cc
        replace cd:=eq_true cd
        have ea_:=Option.some.inj (g.symm.trans u)
        injection ea_ with ea_ en_ ec_
        subst ea_
        subst ec_
        clear en_
        have ea_:=Option.some.inj (j.symm.trans v)
        injection ea_ with ea_ en_ ec_
        subst ea_
        subst ec_
        clear en_
        have ea_:=Option.some.inj (l.symm.trans x)
        injection ea_ with ea_ en_ ec_
        subst ea_
        subst ec_
        clear en_
        have ea_:=Option.some.inj (m.symm.trans y)
        injection ea_ with ea_ en_ ec_
        subst ea_
        subst ec_
        clear en_
        go_wp2
        go_meet
        case rel=>exact⟨_,(true),(by first|rfl|(simp;done)|(simp[*];done)),H',⟨by have:=cL.out;first|omega|exact Nat.le_refl _⟩,kk c,⟨bl⟩⟩
       ·rw[if_neg c16]at H
        have ea:decide (0<(((aa a 0).f2).length:Int))=false:=decide_eq_false c16
        have eb:decide (0<((aa a 0).f2).length)=false:=decide_eq_false (by omega)
        clear c16
        have H' :=Aside0.mk H
        clear H
        obtain⟨_,_,_,_⟩:=cf2 c
        have aS:0≤(0:Int):=(by omega)
        have a0:0<(a.length:Int):=od
        obtain⟨cj,cM,cN,cP,cQ,cR,cS,cT,cU,e207,o,p,g,q,s,j,l,m,ad,al,am,an,ao,ap,aq,ar⟩:=dx aw.out 0 aS a0
        cases e207
        have dd:(0<a.length)=True:=eq_true (by omega)
        (try rw[show((0:Int)).toNat=0 from rfl]at o)
        (try rw[show 0 * 8=0 from rfl]at o)
        (try rw[Addr.add_zero']at o)
        (try rw[show((0:Int)).toNat=0 from rfl]at p)
        (try rw[show 0 * 8=0 from rfl]at p)
        (try rw[Addr.add_zero']at p)
        (try rw[show((0:Int)).toNat=0 from rfl]at g)
        (try rw[show 0 * 8=0 from rfl]at g)
        (try rw[Addr.add_zero']at g)
        (try rw[show((0:Int)).toNat=0 from rfl]at q)
        (try rw[show 0 * 8=0 from rfl]at q)
        (try rw[Addr.add_zero']at q)
        (try rw[show((0:Int)).toNat=0 from rfl]at s)
        (try rw[show 0 * 8=0 from rfl]at s)
        (try rw[Addr.add_zero']at s)
        (try rw[show((0:Int)).toNat=0 from rfl]at j)
        (try rw[show 0 * 8=0 from rfl]at j)
        (try rw[Addr.add_zero']at j)
        (try rw[show((0:Int)).toNat=0 from rfl]at l)
        (try rw[show 0 * 8=0 from rfl]at l)
        (try rw[Addr.add_zero']at l)
        (try rw[show((0:Int)).toNat=0 from rfl]at m)
        (try rw[show 0 * 8=0 from rfl]at m)
        (try rw[Addr.add_zero']at m)
        obtain⟨o,p,g,q,s,j,l,m⟩:=hc8 HB o p g q s j l m
        have cp:=Aside0.mk al
        have cq:=Aside0.mk ad
        clear al ad
        have cr:=Aside0.mk an
        have cs:=Aside0.mk am
        clear an am
        have ct:=Aside0.mk ap
        have cv:=Aside0.mk ao
        clear ap ao
        have cw:=Aside0.mk ar
        have cx:=Aside0.mk aq
        clear ar aq
        replace aS:=eq_true aS
        replace a0:=eq_true a0
        have cc:0≤(0:Int):=(by omega)
        have cd:0<(a.length:Int):=od
        obtain⟨cJ,dv,dy,dT,d0,d1,d2,d3,d4,e208,z,A,u,B,D,v,x,y,a1,a2,a3,a4,a5,a6,a7,a8⟩:=dx aw.out 0 cc cd
        obtain rfl:cj=cJ:=(by injection e208)
        have ec:(0<a.length)=True:=eq_true (by omega)
        (try rw[show((0:Int)).toNat=0 from rfl]at z)
        (try rw[show 0 * 8=0 from rfl]at z)
        (try rw[Addr.add_zero']at z)
        (try rw[show((0:Int)).toNat=0 from rfl]at A)
        (try rw[show 0 * 8=0 from rfl]at A)
        (try rw[Addr.add_zero']at A)
        (try rw[show((0:Int)).toNat=0 from rfl]at u)
        (try rw[show 0 * 8=0 from rfl]at u)
        (try rw[Addr.add_zero']at u)
        (try rw[show((0:Int)).toNat=0 from rfl]at B)
        (try rw[show 0 * 8=0 from rfl]at B)
        (try rw[Addr.add_zero']at B)
        (try rw[show((0:Int)).toNat=0 from rfl]at D)
        (try rw[show 0 * 8=0 from rfl]at D)
        (try rw[Addr.add_zero']at D)
        (try rw[show((0:Int)).toNat=0 from rfl]at v)
        (try rw[show 0 * 8=0 from rfl]at v)
        (try rw[Addr.add_zero']at v)
        (try rw[show((0:Int)).toNat=0 from rfl]at x)
        (try rw[show 0 * 8=0 from rfl]at x)
        (try rw[Addr.add_zero']at x)
        (try rw[show((0:Int)).toNat=0 from rfl]at y)
        (try rw[show 0 * 8=0 from rfl]at y)
        (try rw[Addr.add_zero']at y)
        obtain⟨z,A,u,B,D,v,x,y⟩:=hc8 HB z A u B D v x y
        have dg:=Aside0.mk a2
        have dj:=Aside0.mk a1
        clear a2 a1
        have dk:=Aside0.mk a4
        have dl:=Aside0.mk a3
        clear a4 a3
        have dp:=Aside0.mk a6
        have dq:=Aside0.mk a5
        clear a6 a5
        have dr:=Aside0.mk a8
        have dt:=Aside0.mk a7
        clear a8 a7
        replace cc:=eq_true cc
        replace cd:=eq_true cd
        have ea_:=Option.some.inj (g.symm.trans u)
        injection ea_ with ea_ en_ ec_
        subst ea_
        subst ec_
        clear en_
        have ea_:=Option.some.inj (j.symm.trans v)
        injection ea_ with ea_ en_ ec_
        subst ea_
        subst ec_
        clear en_
        have ea_:=Option.some.inj (l.symm.trans x)
        injection ea_ with ea_ en_ ec_
        subst ea_
        subst ec_
        clear en_
        have ea_:=Option.some.inj (m.symm.trans y)
        injection ea_ with ea_ en_ ec_
        subst ea_
        subst ec_
        clear en_
        have cX:0≤(0:Int):=(by omega)
        have cY:0<(a.length:Int):=od
        obtain⟨ee,et,ev,ew,ex,ey,ez,eA,eC,e209,a9,ba,aF,bb,bc,aL,aO,aP,cy,cA,cC,cD,cE,cF,cG,cH⟩:=dx aw.out 0 cX cY
        obtain rfl:cj=ee:=(by injection e209)
        have eL:(0<a.length)=True:=eq_true (by omega)
        (try rw[show((0:Int)).toNat=0 from rfl]at a9)
        (try rw[show 0 * 8=0 from rfl]at a9)
        (try rw[Addr.add_zero']at a9)
        (try rw[show((0:Int)).toNat=0 from rfl]at ba)
        (try rw[show 0 * 8=0 from rfl]at ba)
        (try rw[Addr.add_zero']at ba)
        (try rw[show((0:Int)).toNat=0 from rfl]at aF)
        (try rw[show 0 * 8=0 from rfl]at aF)
        (try rw[Addr.add_zero']at aF)
        (try rw[show((0:Int)).toNat=0 from rfl]at bb)
        (try rw[show 0 * 8=0 from rfl]at bb)
        (try rw[Addr.add_zero']at bb)
        (try rw[show((0:Int)).toNat=0 from rfl]at bc)
        (try rw[show 0 * 8=0 from rfl]at bc)
        (try rw[Addr.add_zero']at bc)
        (try rw[show((0:Int)).toNat=0 from rfl]at aL)
        (try rw[show 0 * 8=0 from rfl]at aL)
        (try rw[Addr.add_zero']at aL)
        (try rw[show((0:Int)).toNat=0 from rfl]at aO)
        (try rw[show 0 * 8=0 from rfl]at aO)
        (try rw[Addr.add_zero']at aO)
        (try rw[show((0:Int)).toNat=0 from rfl]at aP)
        (try rw[show 0 * 8=0 from rfl]at aP)
        (try rw[Addr.add_zero']at aP)
        obtain⟨a9,ba,aF,bb,bc,aL,aO,aP⟩:=hc8 HB a9 ba aF bb bc aL aO aP
        have ej:=Aside0.mk cA
        have el:=Aside0.mk cy
        clear cA cy
        have em:=Aside0.mk cD
        have en:=Aside0.mk cC
        clear cD cC
        have eo:=Aside0.mk cF
        have ep:=Aside0.mk cE
        clear cF cE
        have eq:=Aside0.mk cH
        have er:=Aside0.mk cG
        clear cH cG
        replace cX:=eq_true cX
        replace cY:=eq_true cY
        have ea_:=Option.some.inj (g.symm.trans aF)
        injection ea_ with ea_ en_ ec_
        subst ea_
        subst ec_
        clear en_
        have ea_:=Option.some.inj (j.symm.trans aL)
        injection ea_ with ea_ en_ ec_
        subst ea_
        subst ec_
        clear en_
        have ea_:=Option.some.inj (l.symm.trans aO)
        injection ea_ with ea_ en_ ec_
        subst ea_
        subst ec_
        clear en_
        have ea_:=Option.some.inj (m.symm.trans aP)
        injection ea_ with ea_ en_ ec_
        subst ea_
        subst ec_
        clear en_
        go_wp2
        go_meet
        case rel=>exact⟨_,((((aa a 0).f3) !=1)),(by first|rfl|(simp;done)|(simp[*];done)),H',⟨by have:=cL.out;first|omega|exact Nat.le_refl _⟩,kk c,⟨bl⟩⟩
      ·rw[if_neg c15]at H
       have d7:=beq_eq_false_iff_ne.mpr c15
       have d8:=bne_iff_ne.mpr c15
       have H' :=Aside0.mk H
       clear H
       obtain⟨_,_,_,_⟩:=cf2 c
       have aS:0≤(0:Int):=(by omega)
       have a0:0<(a.length:Int):=od
       obtain⟨cj,cM,cN,cP,cQ,cR,cS,cT,cU,e207,o,p,g,q,s,j,l,m,ad,al,am,an,ao,ap,aq,ar⟩:=dx aw.out 0 aS a0
       cases e207
       have dd:(0<a.length)=True:=eq_true (by omega)
       (try rw[show((0:Int)).toNat=0 from rfl]at o)
       (try rw[show 0 * 8=0 from rfl]at o)
       (try rw[Addr.add_zero']at o)
       (try rw[show((0:Int)).toNat=0 from rfl]at p)
       (try rw[show 0 * 8=0 from rfl]at p)
       (try rw[Addr.add_zero']at p)
       (try rw[show((0:Int)).toNat=0 from rfl]at g)
       (try rw[show 0 * 8=0 from rfl]at g)
       (try rw[Addr.add_zero']at g)
       (try rw[show((0:Int)).toNat=0 from rfl]at q)
       (try rw[show 0 * 8=0 from rfl]at q)
       (try rw[Addr.add_zero']at q)
       (try rw[show((0:Int)).toNat=0 from rfl]at s)
       (try rw[show 0 * 8=0 from rfl]at s)
       (try rw[Addr.add_zero']at s)
       (try rw[show((0:Int)).toNat=0 from rfl]at j)
       (try rw[show 0 * 8=0 from rfl]at j)
       (try rw[Addr.add_zero']at j)
       (try rw[show((0:Int)).toNat=0 from rfl]at l)
       (try rw[show 0 * 8=0 from rfl]at l)
       (try rw[Addr.add_zero']at l)
       (try rw[show((0:Int)).toNat=0 from rfl]at m)
       (try rw[show 0 * 8=0 from rfl]at m)
       (try rw[Addr.add_zero']at m)
       obtain⟨o,p,g,q,s,j,l,m⟩:=hc8 HB o p g q s j l m
       have cp:=Aside0.mk al
       have cq:=Aside0.mk ad
       clear al ad
       have cr:=Aside0.mk an
       have cs:=Aside0.mk am
       clear an am
       have ct:=Aside0.mk ap
       have cv:=Aside0.mk ao
       clear ap ao
       have cw:=Aside0.mk ar
       have cx:=Aside0.mk aq
       clear ar aq
       replace aS:=eq_true aS
       replace a0:=eq_true a0
       go_wp2
       go_meet
       case rel=>exact⟨_,(true),(by first|rfl|(simp;done)|(simp[*];done)),H',⟨by have:=cL.out;first|omega|exact Nat.le_refl _⟩,kk c,⟨bl⟩⟩
     ·rw[if_neg c14]at H
      exact absurd H (by simp)
    case rest=>
     clear cW
     obtain⟨kq,ci,rfl,HA,d5,c,HB⟩:=hcut
     cases kq with
     |zero=>exact absurd HA.out (by simp[aT.j1])
     | succ d6=>
      have H:=HA.out
      clear HA
      simp only[aT.j1]at H
      by_cases c20:ci=true
      ·subst c20
       replace H:=it H
       obtain rfl:=Option.some.inj H;clear H
       go_wp2
       go_ret
       exact fin
      ·replace c20:=Bool.eq_false_iff.mpr c20
       subst c20
       replace H:=ie H
       have H' :=Aside0.mk H
       clear H
       go_wp2
       go_loopg [3] d6 (fun kq v3 w' => ∃(b:Int),v3= .int .i64 b∧Aside0 (aT.l0 kq b t a=some r)∧Aside0 (kq≤d6)∧Aside0 (w'.heap[b1]? =some (.cells #[(.slice aB t.length aE),(.slice ca a.length aR)] 34 (0,0)))∧Aside0 (Below w.heap.size w w'))
       case atStart=>exact⟨(0),(by first|rfl|(simp;done)|(simp[*];done)),H',⟨Nat.le_refl _⟩,kk c,⟨bl⟩⟩
       case round=>
        clear H'
        obtain⟨b,rfl,HA,eg,c,HB⟩:=hrel
        cases gk with
        |zero=>exact absurd HA.out (by simp[aT.l0])
        | succ k3=>
         have H:=HA.out
         clear HA
         simp only[aT.l0]at H
         by_cases c21:b<(a.length:Int)
         ·rw[if_pos c21]at H
          have ef:decide (b<(a.length:Int))=true:=decide_eq_true c21
          clear c21
          by_cases de:0≤b
          ·rw[if_pos de]at H
           have eM:decide (0≤b)=true:=decide_eq_true de
           clear de
           obtain⟨ei,eh,H⟩:=ob H
           by_cases c24:ei=true
           ·subst c24
            replace H:=it H
            have H' :=Aside0.mk H
            clear H
            obtain⟨_,_,_,_⟩:=cf2 c
            try go_wp2
            replace c:=Aside0.mk (af c.out)
            replace HB:=Aside0.mk (aW HB.out)
            have ce:0≤(b:Int):=od
            have cf:b<(a.length:Int):=od
            obtain⟨d,b2,b3,b4,b5,b6,b7,b8,b9,e210,E,G,I,J,L,M,O,P,bd,be,bh,bj,bk,bm,bo,bp⟩:=dx aw.out b ce cf
            have T:=P
            have U:=O
            have W:=M
            have X:=L
            have Y:=J
            have Z:=I
            have ab:=G
            have ac:=E
            cases e210
            obtain⟨E,G,I,J,L,M,O,P⟩:=hc8 HB E G I J L M O P
            have br:=Aside0.mk be
            have ck:=Aside0.mk bd
            clear be bd
            have bs:=Aside0.mk bj
            have cl:=Aside0.mk bh
            clear bj bh
            have bw:=Aside0.mk bm
            have cm:=Aside0.mk bk
            clear bm bk
            have b0:=Aside0.mk bp
            have cn:=Aside0.mk bo
            clear bp bo
            replace ce:=eq_true ce
            replace cf:=eq_true cf
            refine dX (n:=8) (S:=fun w' =>w'.cell? ⟨b1,0,none⟩=some (.slice aB t.length aE)∧w'.cell? ⟨b1,1,none⟩=some (.slice (some d) a.length aR)∧w'.cell? (d.add ((b).toNat * 8))=some (.int .i64 ((aa a b).f0))∧w'.cell? ⟨(d.add ((b).toNat * 8)).block,(d.add ((b).toNat * 8)).off+1,none⟩=some (.int .i64 ((aa a b).f1))∧w'.cell? ⟨(d.add ((b).toNat * 8)).block,(d.add ((b).toNat * 8)).off+2,none⟩=some (.slice b2 ((aa a b).f2).length b3)∧w'.cell? ⟨(d.add ((b).toNat * 8)).block,(d.add ((b).toNat * 8)).off+3,none⟩=some (.int .i64 ((aa a b).f3))∧w'.cell? ⟨(d.add ((b).toNat * 8)).block,(d.add ((b).toNat * 8)).off+4,none⟩=some (.int .i64 ((aa a b).f4))∧w'.cell? ⟨(d.add ((b).toNat * 8)).block,(d.add ((b).toNat * 8)).off+5,none⟩=some (.slice b4 ((aa a b).f5).length b5)∧w'.cell? ⟨(d.add ((b).toNat * 8)).block,(d.add ((b).toNat * 8)).off+6,none⟩=some (.slice b6 ((aa a b).f6).length b7)∧w'.cell? ⟨(d.add ((b).toNat * 8)).block,(d.add ((b).toNat * 8)).off+7,none⟩=some (.slice b8 ((aa a b).f7).length b9)) (ds:= []) #[false,false,false,false,false,false,false,false] (by kernel_rfl) rfl rfl ⟨(ae c.out 0).trans rfl,(ae c.out 1).trans rfl,((HB.out.cell (World.block_lt_of_cell? w _ ac)).trans ac),((HB.out.cell (World.block_lt_of_cell? w _ ab)).trans ab),((HB.out.cell (World.block_lt_of_cell? w _ Z)).trans Z),((HB.out.cell (World.block_lt_of_cell? w _ Y)).trans Y),((HB.out.cell (World.block_lt_of_cell? w _ X)).trans X),((HB.out.cell (World.block_lt_of_cell? w _ W)).trans W),((HB.out.cell (World.block_lt_of_cell? w _ U)).trans U),((HB.out.cell (World.block_lt_of_cell? w _ T)).trans T)⟩ (fun hHeld=> ?_);refine dH aT.tab8 aT.bits8 (fun HT_ HW_=> ?_)
            generalize wr.drew=eV at c HB br bs bw b0 E G I J L M O P hHeld⊢
            refine pu 1 46 #[false,true,false,false,false,false,false,false] HT_ rfl rfl ?_
            refine pu 3 48 #[false,true,false,true,false,false,false,false] HT_ rfl rfl ?_
            refine ta 0 45 #[true,true,false,true,false,false,false,false] HT_ HW_ hHeld rfl rfl ?_
            refine ta 2 47 #[true,true,true,true,false,false,false,false] HT_ HW_ hHeld rfl rfl ?_
            refine pu 4 49 #[true,true,true,true,true,false,false,false] HT_ rfl rfl ?_
            refine ta 5 50 #[true,true,true,true,true,true,false,false] HT_ HW_ hHeld rfl rfl ?_
            refine fo (i:=6) (N:=some 51) #[true,true,true,true,true,true,true,false] rfl rfl (dU HT_.out (by kernel_rfl)) (by decide) (fun K hK=> ?_)
            refine gs Try.func54 #[.agg #[.slice aB t.length aE, .slice (some d) a.length aR], .agg #[.int .i64 ((aa a b).f0), .int .i64 ((aa a b).f1), .slice b2 ((aa a b).f2).length b3, .int .i64 ((aa a b).f3), .int .i64 ((aa a b).f4), .slice b4 ((aa a b).f5).length b5, .slice b6 ((aa a b).f6).length b7, .slice b8 ((aa a b).f7).length b9]] rfl rfl ?_
            with_reducible refine(aJ.calls k3 _ _ t _ _ a ((aa a b).f0) ((aa a b).f1) _ _ ((aa a b).f2) ((aa a b).f3) ((aa a b).f4) _ _ ((aa a b).f5) _ _ ((aa a b).f6) _ _ ((aa a b).f7) true _ ?s1 ?s2 ?s3 ?s4 ?s5 ?s6 ?s7 ?s8 ?s9 ?s10 ?s11 ?s12 eh.out).mono ?_
            (case s1=>exact cb cg.out)
            (case s2=>exact ch.out)
            (case s3=>exact cb aw.out)
            (case s4=>exact cI.out)
            (case s5=>exact cb br.out)
            (case s6=>exact ck.out)
            (case s7=>exact cb bs.out)
            (case s8=>exact cl.out)
            (case s9=>exact cb bw.out)
            (case s10=>exact cm.out)
            (case s11=>exact cb b0.out)
            (case s12=>exact cn.out)
            rintro e eW ⟨rfl,hb⟩
            refine⟨_,rfl, ?_⟩
            replace c:=kb c hb
            replace HB:=hs HB hb
            (try clear hb)
            (try clear hb2)
            (try clear hk)
            (try clear hi)
            refine hK.out _ _ ⟨(ae c.out 0).trans rfl,(ae c.out 1).trans rfl,((HB.out.cell (World.block_lt_of_cell? w _ ac)).trans ac),((HB.out.cell (World.block_lt_of_cell? w _ ab)).trans ab),((HB.out.cell (World.block_lt_of_cell? w _ Z)).trans Z),((HB.out.cell (World.block_lt_of_cell? w _ Y)).trans Y),((HB.out.cell (World.block_lt_of_cell? w _ X)).trans X),((HB.out.cell (World.block_lt_of_cell? w _ W)).trans W),((HB.out.cell (World.block_lt_of_cell? w _ U)).trans U),((HB.out.cell (World.block_lt_of_cell? w _ T)).trans T)⟩ (fun hHeld=> ?_)
            clear hK K
            refine no 51 ?_
            refine pu 7 52 #[true,true,true,true,true,true,true,true] HT_ rfl rfl ?_
            refine eT (dR HT_.out (by kernel_rfl)) ?_
            try go_wp2
            go_roundg k3
            case measure=>have:=cL.out;have:=d5.out;have:=eg.out;omega
            case rel=>exact⟨(wrap64 (b+1)),(by first|rfl|(simp;done)|(simp[*];done)),H',⟨by have:=cL.out;have:=d5.out;have:=eg.out;omega⟩,kk c,⟨bl⟩⟩
           ·replace c24:=Bool.eq_false_iff.mpr c24
            subst c24
            replace H:=ie H
            obtain rfl:=Option.some.inj H;clear H
            obtain⟨_,_,_,_⟩:=cf2 c
            try go_wp2
            replace c:=Aside0.mk (af c.out)
            replace HB:=Aside0.mk (aW HB.out)
            have ce:0≤(b:Int):=od
            have cf:b<(a.length:Int):=od
            obtain⟨d,b2,b3,b4,b5,b6,b7,b8,b9,e210,E,G,I,J,L,M,O,P,bd,be,bh,bj,bk,bm,bo,bp⟩:=dx aw.out b ce cf
            have T:=P
            have U:=O
            have W:=M
            have X:=L
            have Y:=J
            have Z:=I
            have ab:=G
            have ac:=E
            cases e210
            obtain⟨E,G,I,J,L,M,O,P⟩:=hc8 HB E G I J L M O P
            have br:=Aside0.mk be
            have ck:=Aside0.mk bd
            clear be bd
            have bs:=Aside0.mk bj
            have cl:=Aside0.mk bh
            clear bj bh
            have bw:=Aside0.mk bm
            have cm:=Aside0.mk bk
            clear bm bk
            have b0:=Aside0.mk bp
            have cn:=Aside0.mk bo
            clear bp bo
            replace ce:=eq_true ce
            replace cf:=eq_true cf
            refine dX (n:=8) (S:=fun w' =>w'.cell? ⟨b1,0,none⟩=some (.slice aB t.length aE)∧w'.cell? ⟨b1,1,none⟩=some (.slice (some d) a.length aR)∧w'.cell? (d.add ((b).toNat * 8))=some (.int .i64 ((aa a b).f0))∧w'.cell? ⟨(d.add ((b).toNat * 8)).block,(d.add ((b).toNat * 8)).off+1,none⟩=some (.int .i64 ((aa a b).f1))∧w'.cell? ⟨(d.add ((b).toNat * 8)).block,(d.add ((b).toNat * 8)).off+2,none⟩=some (.slice b2 ((aa a b).f2).length b3)∧w'.cell? ⟨(d.add ((b).toNat * 8)).block,(d.add ((b).toNat * 8)).off+3,none⟩=some (.int .i64 ((aa a b).f3))∧w'.cell? ⟨(d.add ((b).toNat * 8)).block,(d.add ((b).toNat * 8)).off+4,none⟩=some (.int .i64 ((aa a b).f4))∧w'.cell? ⟨(d.add ((b).toNat * 8)).block,(d.add ((b).toNat * 8)).off+5,none⟩=some (.slice b4 ((aa a b).f5).length b5)∧w'.cell? ⟨(d.add ((b).toNat * 8)).block,(d.add ((b).toNat * 8)).off+6,none⟩=some (.slice b6 ((aa a b).f6).length b7)∧w'.cell? ⟨(d.add ((b).toNat * 8)).block,(d.add ((b).toNat * 8)).off+7,none⟩=some (.slice b8 ((aa a b).f7).length b9)) (ds:= []) #[false,false,false,false,false,false,false,false] (by kernel_rfl) rfl rfl ⟨(ae c.out 0).trans rfl,(ae c.out 1).trans rfl,((HB.out.cell (World.block_lt_of_cell? w _ ac)).trans ac),((HB.out.cell (World.block_lt_of_cell? w _ ab)).trans ab),((HB.out.cell (World.block_lt_of_cell? w _ Z)).trans Z),((HB.out.cell (World.block_lt_of_cell? w _ Y)).trans Y),((HB.out.cell (World.block_lt_of_cell? w _ X)).trans X),((HB.out.cell (World.block_lt_of_cell? w _ W)).trans W),((HB.out.cell (World.block_lt_of_cell? w _ U)).trans U),((HB.out.cell (World.block_lt_of_cell? w _ T)).trans T)⟩ (fun hHeld=> ?_);refine dH aT.tab8 aT.bits8 (fun HT_ HW_=> ?_)
            generalize wr.drew=e0 at c HB br bs bw b0 E G I J L M O P hHeld⊢
            refine pu 1 46 #[false,true,false,false,false,false,false,false] HT_ rfl rfl ?_
            refine pu 3 48 #[false,true,false,true,false,false,false,false] HT_ rfl rfl ?_
            refine ta 0 45 #[true,true,false,true,false,false,false,false] HT_ HW_ hHeld rfl rfl ?_
            refine ta 2 47 #[true,true,true,true,false,false,false,false] HT_ HW_ hHeld rfl rfl ?_
            refine pu 4 49 #[true,true,true,true,true,false,false,false] HT_ rfl rfl ?_
            refine ta 5 50 #[true,true,true,true,true,true,false,false] HT_ HW_ hHeld rfl rfl ?_
            refine fo (i:=6) (N:=some 51) #[true,true,true,true,true,true,true,false] rfl rfl (dU HT_.out (by kernel_rfl)) (by decide) (fun K hK=> ?_)
            refine gs Try.func54 #[.agg #[.slice aB t.length aE, .slice (some d) a.length aR], .agg #[.int .i64 ((aa a b).f0), .int .i64 ((aa a b).f1), .slice b2 ((aa a b).f2).length b3, .int .i64 ((aa a b).f3), .int .i64 ((aa a b).f4), .slice b4 ((aa a b).f5).length b5, .slice b6 ((aa a b).f6).length b7, .slice b8 ((aa a b).f7).length b9]] rfl rfl ?_
            with_reducible refine(aJ.calls k3 _ _ t _ _ a ((aa a b).f0) ((aa a b).f1) _ _ ((aa a b).f2) ((aa a b).f3) ((aa a b).f4) _ _ ((aa a b).f5) _ _ ((aa a b).f6) _ _ ((aa a b).f7) false _ ?s1 ?s2 ?s3 ?s4 ?s5 ?s6 ?s7 ?s8 ?s9 ?s10 ?s11 ?s12 eh.out).mono ?_
            (case s1=>exact cb cg.out)
            (case s2=>exact ch.out)
            (case s3=>exact cb aw.out)
            (case s4=>exact cI.out)
            (case s5=>exact cb br.out)
            (case s6=>exact ck.out)
            (case s7=>exact cb bs.out)
            (case s8=>exact cl.out)
            (case s9=>exact cb bw.out)
            (case s10=>exact cm.out)
            (case s11=>exact cb b0.out)
            (case s12=>exact cn.out)
            rintro e e1 ⟨rfl,hb⟩
            refine⟨_,rfl, ?_⟩
            replace c:=kb c hb
            replace HB:=hs HB hb
            (try clear hb)
            (try clear hb2)
            (try clear hk)
            (try clear hi)
            refine hK.out _ _ ⟨(ae c.out 0).trans rfl,(ae c.out 1).trans rfl,((HB.out.cell (World.block_lt_of_cell? w _ ac)).trans ac),((HB.out.cell (World.block_lt_of_cell? w _ ab)).trans ab),((HB.out.cell (World.block_lt_of_cell? w _ Z)).trans Z),((HB.out.cell (World.block_lt_of_cell? w _ Y)).trans Y),((HB.out.cell (World.block_lt_of_cell? w _ X)).trans X),((HB.out.cell (World.block_lt_of_cell? w _ W)).trans W),((HB.out.cell (World.block_lt_of_cell? w _ U)).trans U),((HB.out.cell (World.block_lt_of_cell? w _ T)).trans T)⟩ (fun hHeld=> ?_)
            clear hK K
            refine no 51 ?_
            refine pu 7 52 #[true,true,true,true,true,true,true,true] HT_ rfl rfl ?_
            refine eT (dR HT_.out (by kernel_rfl)) ?_
            try go_wp2
            go_ret
            exact fin
          ·rw[if_neg de]at H
           exact absurd H (by simp)
         ·rw[if_neg c21]at H
          have ef:decide (b<(a.length:Int))=false:=decide_eq_false c21
          clear c21
          obtain⟨t212,eE,H⟩:=ob H
          obtain rfl:=Option.some.inj H;clear H
          obtain⟨_,_,_,_⟩:=cf2 c
          go_wp2_with (first|((with_reducible refine gc 55 rfl ?_);refine gl (some 54) Try.func55 #[.agg #[.slice aB t.length aE, .slice ca a.length aR]] rfl ?_;(with_reducible refine(bF.calls k3 _ _ t _ _ a t212 _ ?s1 ?s2 ?s3 ?s4 eE.out).mono ?_);(case s1=>exact cb cg.out);(case s2=>exact ch.out);(case s3=>exact cb aw.out);(case s4=>exact cI.out);rintro e e2 ⟨rfl,hb⟩;refine⟨_,rfl, ?_⟩;replace c:=kb c hb;replace HB:=hs HB hb;(try clear hb)))
          go_ret
          exact fin
set_option maxHeartbeats 8000000 in
set_option maxRecDepth 100000 in
theorem gW.calls (k:Nat) (d:Option Addr) (g:Nat) (b:List (S71)) (i:Option Addr) (j:Nat) (a:List (S50)) (a1:Int) (r:Bool) (w:World) (n:Kd.C k71 w d b.length b) (o:b.length≤g) (p:Kd.C k50 w i a.length a) (q:a.length≤j) (h:gW.f k b a a1=some r):
  Calls Try.prog 15 #[.agg #[.slice d b.length g, .slice i a.length j], .int .i64 a1] w fun e w' =>e= .returned (.bool r)∧Below w.heap.size w w' :=by
 have A:=Try.underlying34
 have s:=Aside0.mk n
 have t:=Aside0.mk o
 clear n o
 have u:=Aside0.mk p
 have v:=Aside0.mk q
 clear p q
 have HB:=Aside0.mk (Below.refl w.heap.size w)
 have H:((aT.f k b a).bind fun l=>(if l=true then((aH.f a1 0 (wrap64 ((a.length:Int) - 1))).bind fun m=>(some m))else(some false)))=some r:=h
 clear h
 obtain⟨l,A3,H⟩:=ob H
 by_cases c4:l=true
 ·subst c4
  replace H:=it H
  obtain⟨m,A5,H⟩:=ob H
  obtain rfl:=Option.some.inj H;clear H
  go_enter Try.func15,Try.ntmps15
  go_wp2_with (first|((with_reducible refine gd 2 rfl ?_);(try(refine aN (by rfl) ?_;dsimp only));refine bx 2 #[.slice d b.length g, .slice i a.length j] 34 ?_;intro x hg w6 hbox hb;have c:=Aside0.mk hbox;have y:=hz HB hg;have z:=hz HB hg;replace HB:=hs HB hb;clear hb hbox hg;obtain⟨_,_,_,_⟩:=cf2 c)|((with_reducible refine gc 32 rfl ?_);refine gl (some 6) Try.func32 #[.agg #[.slice d b.length g, .slice i a.length j]] rfl ?_;(with_reducible refine(aT.calls k _ _ b _ _ a true _ ?s1 ?s2 ?s3 ?s4 A3.out).mono ?_);(case s1=>exact cb s.out);(case s2=>exact t.out);(case s3=>exact cb u.out);(case s4=>exact v.out);rintro e w8 ⟨rfl,hb⟩;refine⟨_,rfl, ?_⟩;replace c:=kb c hb;replace HB:=hs HB hb;(try clear hb);obtain⟨_,_,_,_⟩:=cf2 c)|(go_at_call 33;(with_reducible refine(aH.calls a1 0 (wrap64 ((a.length:Int) - 1)) m _ A5.out).mono ?_);rintro e w' ⟨rfl,⟨nd,rfl⟩⟩))
  go_ret
  exact fin
 ·replace c4:=Bool.eq_false_iff.mpr c4
  subst c4
  replace H:=ie H
  obtain rfl:=Option.some.inj H;clear H
  go_enter Try.func15,Try.ntmps15
  go_wp2_with (first|((with_reducible refine gd 2 rfl ?_);(try(refine aN (by rfl) ?_;dsimp only));refine bx 2 #[.slice d b.length g, .slice i a.length j] 34 ?_;intro x hg B hbox hb;have c:=Aside0.mk hbox;have y:=hz HB hg;have z:=hz HB hg;replace HB:=hs HB hb;clear hb hbox hg;obtain⟨_,_,_,_⟩:=cf2 c)|((with_reducible refine gc 32 rfl ?_);refine gl (some 6) Try.func32 #[.agg #[.slice d b.length g, .slice i a.length j]] rfl ?_;(with_reducible refine(aT.calls k _ _ b _ _ a false _ ?s1 ?s2 ?s3 ?s4 A3.out).mono ?_);(case s1=>exact cb s.out);(case s2=>exact t.out);(case s3=>exact cb u.out);(case s4=>exact v.out);rintro e D ⟨rfl,hb⟩;refine⟨_,rfl, ?_⟩;replace c:=kb c hb;replace HB:=hs HB hb;(try clear hb)))
  go_ret
  exact fin
set_option maxHeartbeats 8000000 in
set_option maxRecDepth 100000 in
theorem gz.calls (r1:Bool) (r2:List Int) (r3:List Int) (w:World) (h:gz.f=some (r1,r2,r3)):
  Calls Try.prog 16 #[] w fun e w' => ∃s t:Value,e= .returned (.agg #[.bool r1,s,t])∧Kd.R (Kd.int .i64) 3 w' w.heap.size (fun k_=>some k_≠(t:Value).ownBlock) s r2∧Kd.R (Kd.int .i64) 3 w' w.heap.size (fun k_=>some k_≠(s:Value).ownBlock) t r3∧Below w.heap.size w w' :=by
 have B:=Try.underlying29
 have HB:=Aside0.mk (Below.refl w.heap.size w)
 have H:(some (false,(([]:List Int)),(([]:List Int))))=some (r1,r2,r3):=h
 clear h
 obtain⟨i,c⟩: ∃y_:List Int,y_=(([]:List Int)):=⟨_,rfl⟩
 replace H:(some (false,i,(([]:List Int))))=some (r1,r2,r3):=by first|(rw[c];with_reducible exact H)|(have j:=(Option.bind_some _ _).symm.trans H;rw[c];with_reducible exact j)|(have j:=(Option.bind_some _ _).symm.trans H;with_reducible exact j)|with_reducible exact H|(rw[c];exact H)|exact H
 have m:=Aside0.mk c
 clear c
 obtain⟨l,d⟩: ∃y_:List Int,y_=(([]:List Int)):=⟨_,rfl⟩
 replace H:(some (false,i,l))=some (r1,r2,r3):=by first|(rw[d];with_reducible exact H)|(have j:=(Option.bind_some _ _).symm.trans H;rw[d];with_reducible exact j)|(have j:=(Option.bind_some _ _).symm.trans H;with_reducible exact j)|with_reducible exact H|(rw[d];exact H)|exact H
 have n:=Aside0.mk d
 clear d
 simp only[Option.some.injEq,Prod.mk.injEq]at H
 obtain⟨rfl,rfl,rfl⟩:=H
 go_enter Try.func16,Try.ntmps16
 go_wp2_with (first|((with_reducible refine gd 0 rfl ?_);refine bx 0 #[.bool false, .slice none 0 0, .slice none 0 0] 29 ?_;intro b hg w1 hbox hb;have a:=Aside0.mk hbox;have z:=hz HB hg;have A:=hz HB hg;replace HB:=hs HB hb;clear hb hbox hg)|((with_reducible refine gd 1 rfl ?_);refine Kd.R_lit (Kd.int .i64) _ 3 ?hg (N:=1) ?hd (xs:=([]:List Int)) (inner:= []) (ok:=fun _=>True) (okp:=fun _=>True) ?hr ?hp (fun _ hk=>hk) trivial (Below.refl _ _) (Nat.le_refl _) (by simp) ?_;(case hd=>rfl);(case hg=>rfl);(case hr=>first|(go_simp;done)|(go_simp;rfl));(case hp=>exact(bV.none _ _));intro v218 w2 ho3 hb hg_ hnew_;clear hg_ hnew_;(first|rw[←m.out]at ho3|(simp only[Int.reduceToNat]at ho3;rw[←m.out]at ho3));have g:=Aside0.mk (Kd.R_lower ho3 (aK bl));replace a:=kb a hb;replace HB:=hs HB hb;clear hb ho3)|((with_reducible refine gd 2 rfl ?_);refine Kd.R_lit (Kd.int .i64) _ 3 ?hg (N:=2) ?hd (xs:=([]:List Int)) (inner:= []) (ok:=fun _=>True) (okp:=fun _=>True) ?hr ?hp (fun _ hk=>hk) trivial (Below.refl _ _) (Nat.le_refl _) (by simp) ?_;(case hd=>rfl);(case hg=>rfl);(case hr=>first|(go_simp;done)|(go_simp;rfl));(case hp=>exact(bV.none _ _));intro D w4 k hb hg_ hnew_;clear hg_ hnew_;(first|rw[←n.out]at k|(simp only[Int.reduceToNat]at k;rw[←n.out]at k));have o:=Aside0.mk (Kd.R_lower (Kd.R_new' k (Kd.R_lt (by(with_reducible repeat(first|apply Kd.R_alloc|apply Kd.R_drewN|apply Kd.R_drew));exact g.out))) (aK bl));replace g:=Aside0.mk (Kd.R_elder' (by(with_reducible repeat(first|apply Kd.R_alloc|apply Kd.R_drewN|apply Kd.R_drew));exact g.out) (Kd.R_base k) hb);replace a:=kb a hb;replace HB:=hs HB hb;clear hb k;obtain⟨u,v,x⟩:=Kd.R_slice o.out;subst x;obtain⟨q,r,y⟩:=Kd.R_slice g.out;subst y;obtain⟨_,_,_,_,_,_⟩:=cf3 a))
 refine bodyPost_ret (results_cell_row rfl _ _ b 29 #[.bool false, .slice q i.length r, .slice u l.length v] (0,0) _ rfl (by(with_reducible repeat(first|refine ah ?_ _|refine af ?_|refine ag ?_ _));refine bH (cs:= #[.bool false, .slice q i.length r, .slice none 0 0]) ?_ 2 _ rfl;(with_reducible repeat(first|refine ah ?_ _|refine af ?_|refine ag ?_ _));refine bH (cs:= #[.bool false, .slice none 0 0, .slice none 0 0]) ?_ 1 _ rfl;(with_reducible repeat(first|refine ah ?_ _|refine af ?_|refine ag ?_ _));refine bH (cs:= #[.bool false, .slice none 0 0, .slice none 0 0]) ?_ 0 _ rfl;(with_reducible repeat(first|refine ah ?_ _|refine af ?_|refine ag ?_ _));exact a.out) Try.underlying29 rfl (by kernel_rfl)) rfl ?_
 exact⟨_,_,by first|rfl|(simp[aY,aZ]<;>rfl)|(simp[*,aY,aZ]<;>rfl),by(with_reducible repeat(first|apply Kd.R_alloc|apply Kd.R_drewN|apply Kd.R_drew));exact Kd.R_mono (Kd.R_far (p:=⟨b,2,none⟩) (Kd.R_far (p:=⟨b,1,none⟩) (Kd.R_far (p:=⟨b,0,none⟩) (Kd.R_types g.out a.out (by decide)) (fun _ hk=>hk.2) (.bool false)) (fun _ hk=>hk.2) (.slice q i.length r)) (fun _ hk=>hk.2) (.slice u l.length v)) (fun _ hk=>hk.1.2),by(with_reducible repeat(first|apply Kd.R_alloc|apply Kd.R_drewN|apply Kd.R_drew));exact Kd.R_mono (Kd.R_far (p:=⟨b,2,none⟩) (Kd.R_far (p:=⟨b,1,none⟩) (Kd.R_far (p:=⟨b,0,none⟩) (Kd.R_types o.out a.out (by decide)) (fun _ hk=>hk.2) (.bool false)) (fun _ hk=>hk.2) (.slice q i.length r)) (fun _ hk=>hk.2) (.slice u l.length v)) (fun _ hk=>hk.1.2),bl⟩
set_option maxHeartbeats 8000000 in
set_option maxRecDepth 100000 in
theorem fQ.calls (d:Int) (q:Int) (s:Option Addr) (t:Nat) (a:List Int) (u:Int) (v:Int) (x:Option Addr) (y:Nat) (l:List (S97)) (z:Option Addr) (A:Nat) (m:List (S29)) (B:Option Addr) (D:Nat) (n:List (S102)) (r:List Int) (w:World) (Y:Kd.C (Kd.int .i64) w s a.length a) (Z:a.length≤t) (ab:Kd.C k97 w x l.length l) (ac:l.length≤y) (ad:Kd.C k29 w z m.length m) (al:m.length≤A) (am:Kd.C dQ w B n.length n) (an:n.length≤D) (h:fQ.f d q a u v l m n=some r):
  Calls Try.prog 34 #[.agg #[.int .i64 d, .int .i64 q, .slice s a.length t, .int .i64 u, .int .i64 v, .slice x l.length y, .slice z m.length A, .slice B n.length D]] w fun e w' => ∃a3:Value,e= .returned (a3)∧Kd.R (Kd.int .i64) 3 w' w.heap.size (fun _=>True) a3 r∧Below w.heap.size w w' :=by
 have bj:=Try.underlying50
 have ao:=Aside0.mk Y
 have a9:=Aside0.mk Z
 clear Y Z
 have ba:=Aside0.mk ab
 have bb:=Aside0.mk ac
 clear ab ac
 have bc:=Aside0.mk ad
 have bd:=Aside0.mk al
 clear ad al
 have be:=Aside0.mk am
 have bh:=Aside0.mk an
 clear am an
 have HB:=Aside0.mk (Below.refl w.heap.size w)
 have H:((some (([]:List Int):List Int)).bind fun i=>(if d≥0 then(if i.length<17592186044416 then((some (i++ [wrap64 (8+d)]:List Int)).bind fun j=>(if j.length+a.length<17592186044416 then(some (j++a))else(none)))else(none))else(if i.length+a.length<17592186044416 then(some (i++a))else(none))))=some r:=h
 clear h
 obtain⟨i,E⟩: ∃y_:List Int,y_=(([]:List Int)):=⟨_,rfl⟩
 replace H:(if d≥0 then(if i.length<17592186044416 then((some (i++ [wrap64 (8+d)]:List Int)).bind fun j=>(if j.length+a.length<17592186044416 then(some (j++a))else(none)))else(none))else(if i.length+a.length<17592186044416 then(some (i++a))else(none)))=some r:=by first|(rw[E];with_reducible exact H)|(have k:=(Option.bind_some _ _).symm.trans H;rw[E];with_reducible exact k)|(have k:=(Option.bind_some _ _).symm.trans H;with_reducible exact k)|with_reducible exact H|(rw[E];exact H)|exact H
 have O:=Aside0.mk E
 clear E
 by_cases c2:d≥0
 ·rw[if_pos c2]at H
  have a4:decide (0≤d)=true:=decide_eq_true c2
  clear c2
  by_cases c3:i.length<17592186044416
  ·rw[if_pos c3]at H
   have a5:=Aside0.mk c3
   clear c3
   obtain⟨j,G⟩: ∃y_:List Int,y_=(i++ [wrap64 (8+d)]):=⟨_,rfl⟩
   replace H:(if j.length+a.length<17592186044416 then(some (j++a))else(none))=some r:=by first|(rw[G];with_reducible exact H)|(have k:=(Option.bind_some _ _).symm.trans H;rw[G];with_reducible exact k)|(have k:=(Option.bind_some _ _).symm.trans H;with_reducible exact k)|with_reducible exact H|(rw[G];exact H)|exact H
   have ap:=Aside0.mk G
   clear G
   by_cases c4:j.length+a.length<17592186044416
   ·rw[if_pos c4]at H
    have a6:=Aside0.mk c4
    clear c4
    obtain⟨a7,I⟩: ∃y_:List Int,y_=(j++a):=⟨_,rfl⟩
    replace H:(some a7)=some r:=by first|(rw[I];with_reducible exact H)|(have k:=(Option.bind_some _ _).symm.trans H;rw[I];with_reducible exact k)|(have k:=(Option.bind_some _ _).symm.trans H;with_reducible exact k)|with_reducible exact H|(rw[I];exact H)|exact H
    have aq:=Aside0.mk I
    clear I
    obtain rfl:=Option.some.inj H;clear H
    go_enter Try.func34,Try.ntmps34
    go_wp2_with (first|((with_reducible refine gd 1 rfl ?_);refine bx 1 #[.int .i64 d, .int .i64 q, .slice s a.length t, .int .i64 u, .int .i64 v, .slice x l.length y, .slice z m.length A, .slice B n.length D] 50 ?_;intro P hg w5 hbox hb;have c:=Aside0.mk hbox;have ar:=hz HB hg;have aw:=hz HB hg;replace HB:=hs HB hb;clear hb hbox hg)|((with_reducible refine gd 4 rfl ?_);refine Kd.R_lit (Kd.int .i64) _ 3 ?hg (N:=4) ?hd (xs:=([]:List Int)) (inner:= []) (ok:=fun _=>True) (okp:=fun _=>True) ?hr ?hp (fun _ hk=>hk) trivial (Below.refl _ _) (Nat.le_refl _) (by simp) ?_;(case hd=>rfl);(case hg=>rfl);(case hr=>first|(go_simp;done)|(go_simp;rfl));(case hp=>exact(bV.none _ _));intro X w6 W hb hg_ hnew_;clear hg_ hnew_;(first|rw[←O.out]at W|(simp only[Int.reduceToNat]at W;rw[←O.out]at W));have p:=Aside0.mk (Kd.R_lower W (aK bl));replace c:=kb c hb;replace HB:=hs HB hb;clear hb W;obtain⟨_,_,_,_,_,_,_,_,_,_,_,_,_,_,_,_⟩:=cf8 c)|((with_reducible refine gD (b:= .append) (xs:= #[.tmp 8, .tmp 12]) rfl ?_);at_builtin;refine Kd.R_append (Kd.int .i64) (w0:=w) w.heap.size rfl (.tmp 8) (.tmp 12) 27 3 (.int .i64 0) 8 rfl Try.underlying27 info3 rfl (by decide) (by omega) X i (wrap64 (8+d)) [.int .i64 (wrap64 (8+d))] (fun _=>True) (fun _=>False) rfl rfl ?aP (fun _ hk=>hk.elim) ?aF ?aO ?aB ?aS ?aL ?_;(case aP=>exact rfl);(case aB=>exact bl);(case aF=>exact(fun _ _=>trivial));(case aO=>exact(by(with_reducible repeat(first|apply Kd.R_alloc|apply Kd.R_drewN|apply Kd.R_drew));exact p.out));(case aS=>exact(aK bl));(case aL=>have:=a5.out;omega);intro v228 w9 ho hb hg hat;rw[←ap.out]at ho;have K:=Aside0.mk (fI (g:=P) (o:= .cells #[.int .i64 d, .int .i64 q, .slice s a.length t, .int .i64 u, .int .i64 v, .slice x l.length y, .slice z m.length A, .slice B n.length D] 50 (0,0)) (by(with_reducible repeat(first|refine ah ?_ _|refine af ?_|refine ag ?_ _));exact c.out) hg (Kd.R_ne p.out c.out (by decide)));have L:=Aside0.mk (hb);have M:=Aside0.mk (ho);clear c;clear HB;clear p;have c:=K;have HB:=L;have U:=M;clear K L M;clear ho hb hg hat;obtain⟨_,_,_,_,_,_,_,_,_,_,_,_,_,_,_,_⟩:=cf8 c)|((with_reducible refine gD (b:= .append) (xs:= #[.tmp 14, .tmp 16]) rfl ?_);at_builtin;refine Kd.R_append_rows (Kd.int .i64) (w0:=w) w.heap.size rfl (.tmp 14) (.tmp 16) 27 3 (.int .i64 0) 8 rfl Try.underlying27 info3 rfl (by decide) (by omega) v228 j a _ _ _ (fun _=>True) (fun _=>False) rfl rfl ?aO ?aR (fun _ _ h=>h) (fun _ h=>h.elim) ?aF ?aB ?aS ?aL ?_;(case aR=>repeat(first|exact(Kd.C_below ao.out HB.out)|(with_reducible refine Kd.C_alloc ?_ _)|(with_reducible refine Kd.C_drewN ?_ _)|(with_reducible refine Kd.C_drew ?_)));(case aB=>exact bl);(case aF=>exact(fun _ _=>trivial));(case aO=>exact(by(with_reducible repeat(first|apply Kd.R_alloc|apply Kd.R_drewN|apply Kd.R_drew));exact U.out));(case aS=>exact(aK bl));(case aL=>have:=a6.out;omega);intro bk bm ho hb hg hat;rw[←aq.out]at ho;have K:=Aside0.mk (fI (g:=P) (o:= .cells #[.int .i64 d, .int .i64 q, .slice s a.length t, .int .i64 u, .int .i64 v, .slice x l.length y, .slice z m.length A, .slice B n.length D] 50 (0,0)) (by(with_reducible repeat(first|refine ah ?_ _|refine af ?_|refine ag ?_ _));exact c.out) hg (Kd.R_ne U.out c.out (by decide)));have L:=Aside0.mk (hb);have M:=Aside0.mk (ho);clear c;clear HB;clear U;have c:=K;have HB:=L;have aE:=M;clear K L M;clear ho hb hg hat))
    go_ret
    exact⟨_,by first|rfl|(simp[aY,aZ]<;>rfl)|(simp[*,aY,aZ]<;>rfl),by(with_reducible repeat(first|apply Kd.R_alloc|apply Kd.R_drewN|apply Kd.R_drew));exact aE.out,bl⟩
   ·rw[if_neg c4]at H
    exact absurd H (by simp)
  ·rw[if_neg c3]at H
   exact absurd H (by simp)
 ·rw[if_neg c2]at H
  have a4:decide (0≤d)=false:=decide_eq_false c2
  clear c2
  by_cases c12:i.length+a.length<17592186044416
  ·rw[if_pos c12]at H
   have a0:=Aside0.mk c12
   clear c12
   obtain⟨a8,J⟩: ∃y_:List Int,y_=(i++a):=⟨_,rfl⟩
   replace H:(some a8)=some r:=by first|(rw[J];with_reducible exact H)|(have k:=(Option.bind_some _ _).symm.trans H;rw[J];with_reducible exact k)|(have k:=(Option.bind_some _ _).symm.trans H;with_reducible exact k)|with_reducible exact H|(rw[J];exact H)|exact H
   have a1:=Aside0.mk J
   clear J
   obtain rfl:=Option.some.inj H;clear H
   go_enter Try.func34,Try.ntmps34
   go_wp2_with (first|((with_reducible refine gd 1 rfl ?_);refine bx 1 #[.int .i64 d, .int .i64 q, .slice s a.length t, .int .i64 u, .int .i64 v, .slice x l.length y, .slice z m.length A, .slice B n.length D] 50 ?_;intro P hg bo hbox hb;have c:=Aside0.mk hbox;have ar:=hz HB hg;have aw:=hz HB hg;replace HB:=hs HB hb;clear hb hbox hg)|((with_reducible refine gd 4 rfl ?_);refine Kd.R_lit (Kd.int .i64) _ 3 ?hg (N:=4) ?hd (xs:=([]:List Int)) (inner:= []) (ok:=fun _=>True) (okp:=fun _=>True) ?hr ?hp (fun _ hk=>hk) trivial (Below.refl _ _) (Nat.le_refl _) (by simp) ?_;(case hd=>rfl);(case hg=>rfl);(case hr=>first|(go_simp;done)|(go_simp;rfl));(case hp=>exact(bV.none _ _));intro X bp T hb hg_ hnew_;clear hg_ hnew_;(first|rw[←O.out]at T|(simp only[Int.reduceToNat]at T;rw[←O.out]at T));have p:=Aside0.mk (Kd.R_lower T (aK bl));replace c:=kb c hb;replace HB:=hs HB hb;clear hb T;obtain⟨_,_,_,_,_,_,_,_,_,_,_,_,_,_,_,_⟩:=cf8 c)|((with_reducible refine gD (b:= .append) (xs:= #[.tmp 14, .tmp 16]) rfl ?_);at_builtin;refine Kd.R_append_rows (Kd.int .i64) (w0:=w) w.heap.size rfl (.tmp 14) (.tmp 16) 27 3 (.int .i64 0) 8 rfl Try.underlying27 info3 rfl (by decide) (by omega) X i a _ _ _ (fun _=>True) (fun _=>False) rfl rfl ?aO ?aR (fun _ _ h=>h) (fun _ h=>h.elim) ?aF ?aB ?aS ?aL ?_;(case aR=>repeat(first|exact(Kd.C_below ao.out HB.out)|(with_reducible refine Kd.C_alloc ?_ _)|(with_reducible refine Kd.C_drewN ?_ _)|(with_reducible refine Kd.C_drew ?_)));(case aB=>exact bl);(case aF=>exact(fun _ _=>trivial));(case aO=>exact(by(with_reducible repeat(first|apply Kd.R_alloc|apply Kd.R_drewN|apply Kd.R_drew));exact p.out));(case aS=>exact(aK bl));(case aL=>have:=a0.out;omega);intro v234 br ho hb hg hat;rw[←a1.out]at ho;have K:=Aside0.mk (fI (g:=P) (o:= .cells #[.int .i64 d, .int .i64 q, .slice s a.length t, .int .i64 u, .int .i64 v, .slice x l.length y, .slice z m.length A, .slice B n.length D] 50 (0,0)) (by(with_reducible repeat(first|refine ah ?_ _|refine af ?_|refine ag ?_ _));exact c.out) hg (Kd.R_ne p.out c.out (by decide)));have L:=Aside0.mk (hb);have M:=Aside0.mk (ho);clear c;clear HB;clear p;have c:=K;have HB:=L;have a2:=M;clear K L M;clear ho hb hg hat))
   go_ret
   exact⟨_,by first|rfl|(simp[aY,aZ]<;>rfl)|(simp[*,aY,aZ]<;>rfl),by(with_reducible repeat(first|apply Kd.R_alloc|apply Kd.R_drewN|apply Kd.R_drew));exact a2.out,bl⟩
  ·rw[if_neg c12]at H
   exact absurd H (by simp)
set_option maxHeartbeats 8000000 in
set_option maxRecDepth 100000 in
theorem dh.calls (k:Nat) (v:Int) (x:Int) (T:Option Addr) (U:Nat) (l:List Int) (y:Int) (m:Int) (W:Option Addr) (X:Nat) (n:List (S97)) (Y:Option Addr) (Z:Nat) (q:List (S29)) (ab:Option Addr) (ac:Nat) (r:List (S102)) (r1:Bool) (r2:List Int) (r3:List Int) (w:World) (aR:Kd.C (Kd.int .i64) w T l.length l) (a0:l.length≤U) (a1:Kd.C k97 w W n.length n) (a2:n.length≤X) (a3:Kd.C k29 w Y q.length q) (a4:q.length≤Z) (a5:Kd.C dQ w ab r.length r) (a6:r.length≤ac) (h:dh.f k v x l y m n q r=some (r1,r2,r3)):
  Calls Try.prog 17 #[.agg #[.int .i64 v, .int .i64 x, .slice T l.length U, .int .i64 y, .int .i64 m, .slice W n.length X, .slice Y q.length Z, .slice ab r.length ac]] w fun e w' => ∃ba bb:Value,e= .returned (.agg #[.bool r1,ba,bb])∧Kd.R (Kd.int .i64) 3 w' w.heap.size (fun k_=>some k_≠(bb:Value).ownBlock) ba r2∧Kd.R (Kd.int .i64) 3 w' w.heap.size (fun k_=>some k_≠(ba:Value).ownBlock) bb r3∧Below w.heap.size w w' :=by
 have cE:=Try.underlying50
 have cF:=Try.underlying29
 have be:=Aside0.mk aR
 have bh:=Aside0.mk a0
 clear aR a0
 have bj:=Aside0.mk a1
 have bk:=Aside0.mk a2
 clear a1 a2
 have bm:=Aside0.mk a3
 have bo:=Aside0.mk a4
 clear a3 a4
 have bp:=Aside0.mk a5
 have br:=Aside0.mk a6
 clear a5 a6
 have HB:=Aside0.mk (Below.refl w.heap.size w)
 have H:((fQ.f v x l y m n q r).bind fun E=>(dh.l0 k v x l y m n q r true E (([]:List Int))))=some (r1,r2,r3):=h
 clear h
 obtain⟨E,A2,H⟩:=ob H
 obtain⟨t,O⟩: ∃y_:List Int,y_=(([]:List Int)):=⟨_,rfl⟩
 replace H:(dh.l0 k v x l y m n q r true E t)=some (r1,r2,r3):=by first|(rw[O];with_reducible exact H)|(have al:=(Option.bind_some _ _).symm.trans H;rw[O];with_reducible exact al)|(have al:=(Option.bind_some _ _).symm.trans H;with_reducible exact al)|with_reducible exact H|(rw[O];exact H)|exact H
 have a7:=Aside0.mk O
 clear O
 have H' :=Aside0.mk H
 clear H
 go_enter Try.func17,Try.ntmps17
 go_wp2_with (first|((with_reducible refine gd 1 rfl ?_);refine bx 1 #[.int .i64 v, .int .i64 x, .slice T l.length U, .int .i64 y, .int .i64 m, .slice W n.length X, .slice Y q.length Z, .slice ab r.length ac] 50 ?_;intro a8 hg w3 hbox hb;have c:=Aside0.mk hbox;have ce:=hz HB hg;have cf:=hz HB hg;replace HB:=hs HB hb;clear hb hbox hg)|((with_reducible refine gd 2 rfl ?_);refine bx 2 #[.bool false, .slice none 0 0, .slice none 0 0] 29 ?_;intro z hg w4 hbox hb;have d:=Aside0.mk hbox;have cg:=hz HB hg;have ch:=hz HB hg;have G:=nl c hg;have I:=ng c hg;replace c:=kb c hb;replace HB:=hs HB hb;clear hb hbox hg;have cG:=G.out;have cH:=I.out;obtain⟨_,_,_,_,_,_,_,_,_,_,_,_,_,_,_,_⟩:=cf8 c)|((with_reducible refine gc 34 rfl ?_);refine gl (some 5) Try.func34 #[.agg #[.int .i64 v, .int .i64 x, .slice T l.length U, .int .i64 y, .int .i64 m, .slice W n.length X, .slice Y q.length Z, .slice ab r.length ac]] rfl ?_;(with_reducible refine(fQ.calls v x _ _ l y m _ _ n _ _ q _ _ r E _ ?s1 ?s2 ?s3 ?s4 ?s5 ?s6 ?s7 ?s8 A2.out).mono ?_);(case s1=>exact cb be.out);(case s2=>exact bh.out);(case s3=>exact cb bj.out);(case s4=>exact bk.out);(case s5=>exact cb bm.out);(case s6=>exact bo.out);(case s7=>exact cb bp.out);(case s8=>exact br.out);rintro e w7 ⟨cI,rfl,ho0,hb⟩;refine⟨_,rfl, ?_⟩;have D:=Aside0.mk (Kd.R_lower ho0 (aK bl));replace c:=kb c hb;replace d:=kb d hb;replace HB:=hs HB hb;(try clear hb);(try clear ho0))|((with_reducible refine gd 6 rfl ?_);refine Kd.R_lit (Kd.int .i64) _ 3 ?hg (N:=6) ?hd (xs:=([]:List Int)) (inner:= []) (ok:=fun _=>True) (okp:=fun _=>True) ?hr ?hp (fun _ hk=>hk) trivial (Below.refl _ _) (Nat.le_refl _) (by simp) ?_;(case hd=>rfl);(case hg=>rfl);(case hr=>first|(go_simp;done)|(go_simp;rfl));(case hp=>exact(bV.none _ _));intro cJ w8 an hb hg_ hnew_;clear hg_ hnew_;(first|rw[←a7.out]at an|(simp only[Int.reduceToNat]at an;rw[←a7.out]at an));have ad:=Aside0.mk (Kd.R_lower (Kd.R_new' an (Kd.R_lt (by(with_reducible repeat(first|apply Kd.R_alloc|apply Kd.R_drewN|apply Kd.R_drew));exact D.out))) (aK bl));replace D:=Aside0.mk (Kd.R_elder' (by(with_reducible repeat(first|apply Kd.R_alloc|apply Kd.R_drewN|apply Kd.R_drew));exact D.out) (Kd.R_base an) hb);replace c:=kb c hb;replace d:=kb d hb;replace HB:=hs HB hb;clear hb an;obtain⟨A,B,b8⟩:=Kd.R_slice ad.out;subst b8;obtain⟨aq,ar,b9⟩:=Kd.R_slice D.out;subst b9)|((with_reducible refine gd 3 rfl ?_);refine bx 3 #[.bool false, .slice none 0 0, .slice none 0 0] 29 ?_;intro u hg cM hbox hb;have j:=Aside0.mk hbox;have ci:=hz HB hg;have cj:=hz HB hg;have J:=nl c hg;have K:=ng c hg;have L:=nl d hg;have M:=ng d hg;replace D:=Aside0.mk (Kd.R_below (by(with_reducible repeat(first|apply Kd.R_alloc|apply Kd.R_drewN|apply Kd.R_drew));exact D.out) hb);replace ad:=Aside0.mk (Kd.R_below (by(with_reducible repeat(first|apply Kd.R_alloc|apply Kd.R_drewN|apply Kd.R_drew));exact ad.out) hb);replace c:=kb c hb;replace d:=kb d hb;replace HB:=hs HB hb;clear hb hbox hg;have ck:=K.out;have cl:=J.out;have cm:=M.out;have cn:=L.out;obtain⟨_,_,_,_,_,_⟩:=cf3 j))
 go_loopg [] k (fun kq w' => ∃(a:List Int) (u245001:Value),Aside0 (dh.l0 kq v x l y m n q r true a t=some (r1,r2,r3))∧Aside0 (kq≤k)∧Aside0 (Kd.R (Kd.int .i64) 3 w' w.heap.size (fun k_=>some k_≠((.slice A t.length B):Value).ownBlock) u245001 a)∧Aside0 (Kd.R (Kd.int .i64) 3 w' w.heap.size (fun k_=>some k_≠(u245001:Value).ownBlock) (.slice A t.length B) t)∧Aside0 (w'.heap[a8]? =some (.cells #[.int .i64 v, .int .i64 x,(.slice T l.length U), .int .i64 y, .int .i64 m,(.slice W n.length X),(.slice Y q.length Z),(.slice ab r.length ac)] 50 (0,0)))∧Aside0 (w'.heap[z]? =some (.cells #[.bool false,(.slice none 0 0),(.slice none 0 0)] 29 (0,0)))∧Aside0 (w'.heap[u]? =some (.cells #[.bool true,u245001,(.slice A t.length B)] 29 (0,0)))∧Aside0 (Below w.heap.size w w'))
 case atStart=>exact⟨(E),(.slice aq E.length ar),H',⟨Nat.le_refl _⟩,⟨by(with_reducible repeat(first|apply Kd.R_alloc|apply Kd.R_drewN|apply Kd.R_drew));exact Kd.R_mono (Kd.R_far (p:=⟨u,2,none⟩) (Kd.R_far (p:=⟨u,1,none⟩) (Kd.R_far (p:=⟨u,0,none⟩) (Kd.R_types D.out j.out (by decide)) (fun _ hk=>hk.2) (.bool true)) (fun _ hk=>hk.2) (.slice aq E.length ar)) (fun _ hk=>hk.2) (.slice A t.length B)) (fun _ hk=>hk.1.2)⟩,⟨by(with_reducible repeat(first|apply Kd.R_alloc|apply Kd.R_drewN|apply Kd.R_drew));exact Kd.R_mono (Kd.R_far (p:=⟨u,2,none⟩) (Kd.R_far (p:=⟨u,1,none⟩) (Kd.R_far (p:=⟨u,0,none⟩) (Kd.R_types ad.out j.out (by decide)) (fun _ hk=>hk.2) (.bool true)) (fun _ hk=>hk.2) (.slice aq E.length ar)) (fun _ hk=>hk.2) (.slice A t.length B)) (fun _ hk=>hk.1.2)⟩,kf,kf,kf,⟨bl⟩⟩
 case round=>
  clear H'
  obtain⟨a,u245001,HA,b1,i,s,c,d,j,HB⟩:=hrel
  cases gk with
  |zero=>exact absurd HA.out (by simp[dh.l0])
  | succ k1=>
   have H:=HA.out
   clear HA
   simp only[dh.l0]at H
   by_cases c16:(a.length:Int)<m
   ·rw[if_pos c16]at H
    have bs:decide ((a.length:Int)<m)=true:=decide_eq_true c16
    clear c16
    by_cases c17:a.length<17592186044416
    ·rw[if_pos c17]at H
     have bw:=Aside0.mk c17
     clear c17
     obtain⟨am,P⟩: ∃y_:List Int,y_=(a++ [0]):=⟨_,rfl⟩
     replace H:(dh.l0 k1 v x l y m n q r true am t)=some (r1,r2,r3):=by first|(rw[P];with_reducible exact H)|(have al:=(Option.bind_some _ _).symm.trans H;rw[P];with_reducible exact al)|(have al:=(Option.bind_some _ _).symm.trans H;with_reducible exact al)|with_reducible exact H|(rw[P];exact H)|exact H
     have b0:=Aside0.mk P
     clear P
     have H' :=Aside0.mk H
     clear H
     have co:=K.out
     have cp:=J.out
     have cq:=M.out
     have cr:=L.out
     obtain⟨_,_,_,_,_,_⟩:=cf3 j
     obtain⟨bc,bd,ca⟩:=Kd.R_slice i.out
     subst ca
     have ct:=G.out
     have cv:=I.out
     obtain⟨_,_,_,_,_,_,_,_,_,_,_,_,_,_,_,_⟩:=cf8 c
     go_wp2_with (first|((with_reducible refine gD (b:= .append) (xs:= #[.tmp 15, .tmp 16]) rfl ?_);at_builtin;refine Kd.R_append (Kd.int .i64) (w0:=w) w.heap.size rfl (.tmp 15) (.tmp 16) 27 3 (.int .i64 0) 8 rfl Try.underlying27 info3 rfl (by decide) (by omega) (.slice bc a.length bd) a 0 [.int .i64 0] (fun k_=>some k_≠(.slice A t.length B:Value).ownBlock) (fun _=>False) rfl rfl ?aP (fun _ hk=>hk.elim) ?aF ?aO ?aB ?aS ?aL ?_;(case aP=>exact rfl);(case aB=>exact bl);(case aF=>exact(fun k_ hk=>Kd.fresh' (Kd.R_lt (by(with_reducible repeat(first|apply Kd.R_alloc|apply Kd.R_drewN|apply Kd.R_drew));exact s.out)) k_ hk));(case aO=>exact(by(with_reducible repeat(first|apply Kd.R_alloc|apply Kd.R_drewN|apply Kd.R_drew));exact i.out));(case aS=>exact(aK bl));(case aL=>have:=bw.out;omega);intro cL cN ho hb hg hat;rw[←b0.out]at ho;have b2:=Aside0.mk (Kd.R_after (ok:=(fun _=>True)) (by(with_reducible repeat(first|apply Kd.R_alloc|apply Kd.R_drewN|apply Kd.R_drew));exact Kd.R_mono s.out (fun _ hk=>⟨trivial,hk⟩)) hg hat);have b3:=Aside0.mk (fI (g:=a8) (o:= .cells #[.int .i64 v, .int .i64 x, .slice T l.length U, .int .i64 y, .int .i64 m, .slice W n.length X, .slice Y q.length Z, .slice ab r.length ac] 50 (0,0)) (by(with_reducible repeat(first|refine ah ?_ _|refine af ?_|refine ag ?_ _));exact c.out) hg (Kd.R_ne i.out c.out (by decide)));have b4:=Aside0.mk (fI (g:=z) (o:= .cells #[.bool false, .slice none 0 0, .slice none 0 0] 29 (0,0)) (by(with_reducible repeat(first|refine ah ?_ _|refine af ?_|refine ag ?_ _));exact d.out) hg (Kd.R_ne i.out d.out (by decide)));have b5:=Aside0.mk (fI (g:=u) (o:= .cells #[.bool true, .slice bc a.length bd, .slice A t.length B] 29 (0,0)) (by(with_reducible repeat(first|refine ah ?_ _|refine af ?_|refine ag ?_ _));exact j.out) hg (Kd.R_ne i.out j.out (by decide)));have b6:=Aside0.mk (hb);have b7:=Aside0.mk (ho);clear s;clear c;clear d;clear j;clear HB;clear i;have s:=b2;have c:=b3;have d:=b4;have j:=b5;have HB:=b6;have a9:=b7;clear b2 b3 b4 b5 b6 b7;clear ho hb hg hat;obtain⟨aw,aE,cc⟩:=Kd.R_slice a9.out;subst cc;obtain⟨_,_,_,_,_,_⟩:=cf3 j))
     go_roundg k1
     case measure=>have:=b1.out;omega
     case rel=>exact⟨(am),(.slice aw am.length aE),H',⟨by have:=b1.out;omega⟩,⟨by(with_reducible repeat(first|apply Kd.R_alloc|apply Kd.R_drewN|apply Kd.R_drew));exact Kd.R_mono (Kd.R_far (p:=⟨u,1,none⟩) (Kd.R_types a9.out j.out (by decide)) (fun _ hk=>hk.2) (.slice aw am.length aE)) (fun _ hk=>hk.1)⟩,⟨by(with_reducible repeat(first|apply Kd.R_alloc|apply Kd.R_drewN|apply Kd.R_drew));exact Kd.R_mono (Kd.R_far (p:=⟨u,1,none⟩) (Kd.R_types s.out j.out (by decide)) (fun _ hk=>hk.2) (.slice aw am.length aE)) (fun _ hk=>hk.1.2)⟩,kf,kf,kf,⟨bl⟩⟩
    ·rw[if_neg c17]at H
     exact absurd H (by simp)
   ·rw[if_neg c16]at H
    have bs:decide ((a.length:Int)<m)=false:=decide_eq_false c16
    clear c16
    simp only[Option.some.injEq,Prod.mk.injEq]at H
    obtain⟨rfl,rfl,rfl⟩:=H
    have cw:=K.out
    have cx:=J.out
    have cy:=M.out
    have cA:=L.out
    obtain⟨_,_,_,_,_,_⟩:=cf3 j
    obtain⟨ao,ap,cd⟩:=Kd.R_slice i.out
    subst cd
    have cC:=G.out
    have cD:=I.out
    obtain⟨_,_,_,_,_,_,_,_,_,_,_,_,_,_,_,_⟩:=cf8 c
    obtain⟨_,_,_,_,_,_⟩:=cf3 d
    go_wp2
    refine bodyPost_ret (results_cell_row rfl _ _ z 29 #[.bool true, .slice ao a.length ap, .slice A t.length B] (0,0) _ rfl (by(with_reducible repeat(first|refine ah ?_ _|refine af ?_|refine ag ?_ _));refine bH (cs:= #[.bool true, .slice ao a.length ap, .slice none 0 0]) ?_ 2 _ rfl;(with_reducible repeat(first|refine ah ?_ _|refine af ?_|refine ag ?_ _));refine bH (cs:= #[.bool true, .slice none 0 0, .slice none 0 0]) ?_ 1 _ rfl;(with_reducible repeat(first|refine ah ?_ _|refine af ?_|refine ag ?_ _));refine bH (cs:= #[.bool false, .slice none 0 0, .slice none 0 0]) ?_ 0 _ rfl;(with_reducible repeat(first|refine ah ?_ _|refine af ?_|refine ag ?_ _));exact d.out) Try.underlying29 rfl (by kernel_rfl)) rfl ?_
    exact⟨_,_,by first|rfl|(simp[aY,aZ]<;>rfl)|(simp[*,aY,aZ]<;>rfl),by(with_reducible repeat(first|apply Kd.R_alloc|apply Kd.R_drewN|apply Kd.R_drew));exact Kd.R_mono (Kd.R_far (p:=⟨z,2,none⟩) (Kd.R_far (p:=⟨z,1,none⟩) (Kd.R_far (p:=⟨z,0,none⟩) (Kd.R_types i.out d.out (by decide)) (fun _ hk=>hk.2) (.bool true)) (fun _ hk=>hk.2) (.slice ao a.length ap)) (fun _ hk=>hk.2) (.slice A t.length B)) (fun _ hk=>hk.1),by(with_reducible repeat(first|apply Kd.R_alloc|apply Kd.R_drewN|apply Kd.R_drew));exact Kd.R_mono (Kd.R_far (p:=⟨z,2,none⟩) (Kd.R_far (p:=⟨z,1,none⟩) (Kd.R_far (p:=⟨z,0,none⟩) (Kd.R_types s.out d.out (by decide)) (fun _ hk=>hk.2) (.bool true)) (fun _ hk=>hk.2) (.slice ao a.length ap)) (fun _ hk=>hk.2) (.slice A t.length B)) (fun _ hk=>hk.1),bl⟩
set_option maxHeartbeats 8000000 in
set_option maxRecDepth 100000 in
theorem eG.calls (k:Nat) (n:Option Addr) (o:Nat) (g:List (S71)) (q:Option Addr) (r:Nat) (a:List (S50)) (a1:Int) (r1:Bool) (r2:List Int) (r3:List Int) (w:World) (ar:Kd.C k71 w n g.length g) (aw:g.length≤o) (aB:Kd.C k50 w q a.length a) (aE:a.length≤r) (h:eG.f k g a a1=some (r1,r2,r3)):
  Calls Try.prog 5 #[.agg #[.slice n g.length o, .slice q a.length r], .int .i64 a1] w fun e w' => ∃ba bb:Value,e= .returned (.agg #[.bool r1,ba,bb])∧Kd.R (Kd.int .i64) 3 w' w.heap.size (fun k_=>some k_≠(bb:Value).ownBlock) ba r2∧Kd.R (Kd.int .i64) 3 w' w.heap.size (fun k_=>some k_≠(ba:Value).ownBlock) bb r3∧Below w.heap.size w w' :=by
 have ce:=Try.underlying34
 have cf:=Try.underlying29
 have cg:=Try.underlying50
 have aF:=Aside0.mk ar
 have aL:=Aside0.mk aw
 clear ar aw
 have U:=Aside0.mk aB
 have aO:=Aside0.mk aE
 clear aB aE
 have HB:=Aside0.mk (Below.refl w.heap.size w)
 have H:((gW.f k g a a1).bind fun ad=>(if ad=true then(if 0≤a1 then(if a1<(a.length:Int)then((dh.f k ((aa a a1).f0) ((aa a a1).f1) ((aa a a1).f2) ((aa a a1).f3) ((aa a a1).f4) ((aa a a1).f5) ((aa a a1).f6) ((aa a a1).f7)).bind fun W=>(some (W.1,W.2.1,W.2.2)))else(none))else(none))else((gz.f).bind fun X=>(some (X.1,X.2.1,X.2.2)))))=some (r1,r2,r3):=h
 clear h
 obtain⟨ad,A3,H⟩:=ob H
 by_cases c4:ad=true
 ·subst c4
  replace H:=it H
  by_cases c5:0≤a1
  ·rw[if_pos c5]at H
   have ch:decide (0≤a1)=true:=decide_eq_true c5
   clear c5
   by_cases c6:a1<(a.length:Int)
   ·rw[if_pos c6]at H
    have ci:decide (a1<(a.length:Int))=true:=decide_eq_true c6
    clear c6
    replace H:=Option.bind_eq_some_iff.mp H
    obtain⟨⟨l,s,u⟩,b2,H⟩:=H
    replace H:(some (l,s,u))=some (r1,r2,r3):=H
    have A7:=Aside0.mk b2
    clear b2
    simp only[Option.some.injEq,Prod.mk.injEq]at H
    obtain⟨rfl,rfl,rfl⟩:=H
    go_enter Try.func5,Try.ntmps5
    go_wp2_with (first|((with_reducible refine gd 2 rfl ?_);refine bx 2 #[.slice n g.length o, .slice q a.length r] 34 ?_;intro br hg w8 hbox hb;have b:=Aside0.mk hbox;have bs:=hz HB hg;have bw:=hz HB hg;replace HB:=hs HB hb;clear hb hbox hg)|((with_reducible refine gd 4 rfl ?_);refine bx 4 #[.bool false, .slice none 0 0, .slice none 0 0] 29 ?_;intro d hg w9 hbox hb;have c:=Aside0.mk hbox;have b0:=hz HB hg;have b1:=hz HB hg;have i:=nl b hg;have j:=ng b hg;replace b:=kb b hb;replace HB:=hs HB hb;clear hb hbox hg;have b8:=i.out;have b9:=j.out;obtain⟨_,_,_,_⟩:=cf2 b)|((with_reducible refine gc 15 rfl ?_);refine gl (some 7) Try.func15 #[.agg #[.slice n g.length o, .slice q a.length r], .int .i64 a1] rfl ?_;(with_reducible refine(gW.calls k _ _ g _ _ a a1 true _ ?s1 ?s2 ?s3 ?s4 A3.out).mono ?_);(case s1=>exact cb aF.out);(case s2=>exact aL.out);(case s3=>exact cb U.out);(case s4=>exact aO.out);rintro e cn ⟨rfl,hb⟩;refine⟨_,rfl, ?_⟩;replace b:=kb b hb;replace c:=kb c hb;replace HB:=hs HB hb;(try clear hb);obtain⟨_,_,_,_⟩:=cf2 b;have al:0≤(a1:Int):=od;have am:a1<(a.length:Int):=od;obtain⟨ca,bc,bd,be,bh,bj,bk,bm,bo,e251,x,y,z,A,B,D,E,G,I,J,K,L,M,O,P,T⟩:=dx U.out a1 al am;cases e251;obtain⟨x,y,z,A,B,D,E,G⟩:=hc8 HB x y z A B D E G;have a2:=Aside0.mk J;have a3:=Aside0.mk I;clear J I;have a4:=Aside0.mk L;have a5:=Aside0.mk K;clear L K;have a6:=Aside0.mk O;have a7:=Aside0.mk M;clear O M;have a8:=Aside0.mk T;have a9:=Aside0.mk P;clear T P;replace al:=eq_true al;replace am:=eq_true am)|((with_reducible refine gc 17 rfl ?_);refine gl (some 15) Try.func17 #[.agg #[.int .i64 ((aa a a1).f0), .int .i64 ((aa a a1).f1), .slice bc ((aa a a1).f2).length bd, .int .i64 ((aa a a1).f3), .int .i64 ((aa a a1).f4), .slice be ((aa a a1).f5).length bh, .slice bj ((aa a a1).f6).length bk, .slice bm ((aa a a1).f7).length bo]] rfl ?_;(with_reducible refine(dh.calls k ((aa a a1).f0) ((aa a a1).f1) _ _ ((aa a a1).f2) ((aa a a1).f3) ((aa a a1).f4) _ _ ((aa a a1).f5) _ _ ((aa a a1).f6) _ _ ((aa a a1).f7) l s u _ ?s1 ?s2 ?s3 ?s4 ?s5 ?s6 ?s7 ?s8 A7.out).mono ?_);(case s1=>exact cb a2.out);(case s2=>exact a3.out);(case s3=>exact cb a4.out);(case s4=>exact a5.out);(case s5=>exact cb a6.out);(case s6=>exact a7.out);(case s7=>exact cb a8.out);(case s8=>exact a9.out);rintro e co ⟨cj,ck,rfl,ho0,ho1,hb⟩;refine⟨_,rfl, ?_⟩;have aP:=Aside0.mk (Kd.R_lower ho0 (aK bl));have aR:=Aside0.mk (Kd.R_lower ho1 (aK bl));replace b:=kb b hb;replace c:=kb c hb;replace HB:=hs HB hb;(try clear hb);(try clear ho0);(try clear ho1);obtain⟨_,_,_,_,_,_⟩:=cf3 c;obtain⟨Y,Z,b3⟩:=Kd.R_slice aP.out;subst b3;obtain⟨an,ao,b4⟩:=Kd.R_slice aR.out;subst b4))
    refine bodyPost_ret (results_cell_row rfl _ _ d 29 #[.bool l, .slice Y s.length Z, .slice an u.length ao] (0,0) _ rfl (by(with_reducible repeat(first|refine ah ?_ _|refine af ?_|refine ag ?_ _));refine bH (cs:= #[.bool l, .slice Y s.length Z, .slice none 0 0]) ?_ 2 _ rfl;(with_reducible repeat(first|refine ah ?_ _|refine af ?_|refine ag ?_ _));refine bH (cs:= #[.bool l, .slice none 0 0, .slice none 0 0]) ?_ 1 _ rfl;(with_reducible repeat(first|refine ah ?_ _|refine af ?_|refine ag ?_ _));refine bH (cs:= #[.bool false, .slice none 0 0, .slice none 0 0]) ?_ 0 _ rfl;(with_reducible repeat(first|refine ah ?_ _|refine af ?_|refine ag ?_ _));exact c.out) Try.underlying29 rfl (by kernel_rfl)) rfl ?_
    exact⟨_,_,by first|rfl|(simp[aY,aZ]<;>rfl)|(simp[*,aY,aZ]<;>rfl),by(with_reducible repeat(first|apply Kd.R_alloc|apply Kd.R_drewN|apply Kd.R_drew));exact Kd.R_mono (Kd.R_far (p:=⟨d,2,none⟩) (Kd.R_far (p:=⟨d,1,none⟩) (Kd.R_far (p:=⟨d,0,none⟩) (Kd.R_types aP.out c.out (by decide)) (fun _ hk=>hk.2) (.bool l)) (fun _ hk=>hk.2) (.slice Y s.length Z)) (fun _ hk=>hk.2) (.slice an u.length ao)) (fun _ hk=>hk.1),by(with_reducible repeat(first|apply Kd.R_alloc|apply Kd.R_drewN|apply Kd.R_drew));exact Kd.R_mono (Kd.R_far (p:=⟨d,2,none⟩) (Kd.R_far (p:=⟨d,1,none⟩) (Kd.R_far (p:=⟨d,0,none⟩) (Kd.R_types aR.out c.out (by decide)) (fun _ hk=>hk.2) (.bool l)) (fun _ hk=>hk.2) (.slice Y s.length Z)) (fun _ hk=>hk.2) (.slice an u.length ao)) (fun _ hk=>hk.1),bl⟩
   ·rw[if_neg c6]at H
    exact absurd H (by simp)
  ·rw[if_neg c5]at H
   exact absurd H (by simp)
 ·replace c4:=Bool.eq_false_iff.mpr c4
  subst c4
  replace H:=ie H
  replace H:=Option.bind_eq_some_iff.mp H
  obtain⟨⟨m,t,v⟩,bp,H⟩:=H
  replace H:(some (m,t,v))=some (r1,r2,r3):=H
  have b7:=Aside0.mk bp
  clear bp
  simp only[Option.some.injEq,Prod.mk.injEq]at H
  obtain⟨rfl,rfl,rfl⟩:=H
  go_enter Try.func5,Try.ntmps5
  go_wp2_with (first|((with_reducible refine gd 2 rfl ?_);refine bx 2 #[.slice n g.length o, .slice q a.length r] 34 ?_;intro br hg cp hbox hb;have b:=Aside0.mk hbox;have bs:=hz HB hg;have bw:=hz HB hg;replace HB:=hs HB hb;clear hb hbox hg)|((with_reducible refine gd 4 rfl ?_);refine bx 4 #[.bool false, .slice none 0 0, .slice none 0 0] 29 ?_;intro d hg cq hbox hb;have c:=Aside0.mk hbox;have b0:=hz HB hg;have b1:=hz HB hg;have i:=nl b hg;have j:=ng b hg;replace b:=kb b hb;replace HB:=hs HB hb;clear hb hbox hg;have cc:=i.out;have cd:=j.out;obtain⟨_,_,_,_⟩:=cf2 b)|((with_reducible refine gc 15 rfl ?_);refine gl (some 7) Try.func15 #[.agg #[.slice n g.length o, .slice q a.length r], .int .i64 a1] rfl ?_;(with_reducible refine(gW.calls k _ _ g _ _ a a1 false _ ?s1 ?s2 ?s3 ?s4 A3.out).mono ?_);(case s1=>exact cb aF.out);(case s2=>exact aL.out);(case s3=>exact cb U.out);(case s4=>exact aO.out);rintro e cr ⟨rfl,hb⟩;refine⟨_,rfl, ?_⟩;replace b:=kb b hb;replace c:=kb c hb;replace HB:=hs HB hb;(try clear hb))|((with_reducible refine gc 16 rfl ?_);refine gl (some 9) Try.func16 #[] rfl ?_;(with_reducible refine(gz.calls m t v _ b7.out).mono ?_);rintro e ct ⟨cl,cm,rfl,ho0,ho1,hb⟩;refine⟨_,rfl, ?_⟩;have aS:=Aside0.mk (Kd.R_lower ho0 (aK bl));have a0:=Aside0.mk (Kd.R_lower ho1 (aK bl));replace b:=kb b hb;replace c:=kb c hb;replace HB:=hs HB hb;(try clear hb);(try clear ho0);(try clear ho1);obtain⟨_,_,_,_,_,_⟩:=cf3 c;obtain⟨ab,ac,b5⟩:=Kd.R_slice aS.out;subst b5;obtain⟨ap,aq,b6⟩:=Kd.R_slice a0.out;subst b6))
  refine bodyPost_ret (results_cell_row rfl _ _ d 29 #[.bool m, .slice ab t.length ac, .slice ap v.length aq] (0,0) _ rfl (by(with_reducible repeat(first|refine ah ?_ _|refine af ?_|refine ag ?_ _));refine bH (cs:= #[.bool m, .slice ab t.length ac, .slice none 0 0]) ?_ 2 _ rfl;(with_reducible repeat(first|refine ah ?_ _|refine af ?_|refine ag ?_ _));refine bH (cs:= #[.bool m, .slice none 0 0, .slice none 0 0]) ?_ 1 _ rfl;(with_reducible repeat(first|refine ah ?_ _|refine af ?_|refine ag ?_ _));refine bH (cs:= #[.bool false, .slice none 0 0, .slice none 0 0]) ?_ 0 _ rfl;(with_reducible repeat(first|refine ah ?_ _|refine af ?_|refine ag ?_ _));exact c.out) Try.underlying29 rfl (by kernel_rfl)) rfl ?_
  exact⟨_,_,by first|rfl|(simp[aY,aZ]<;>rfl)|(simp[*,aY,aZ]<;>rfl),by(with_reducible repeat(first|apply Kd.R_alloc|apply Kd.R_drewN|apply Kd.R_drew));exact Kd.R_mono (Kd.R_far (p:=⟨d,2,none⟩) (Kd.R_far (p:=⟨d,1,none⟩) (Kd.R_far (p:=⟨d,0,none⟩) (Kd.R_types aS.out c.out (by decide)) (fun _ hk=>hk.2) (.bool m)) (fun _ hk=>hk.2) (.slice ab t.length ac)) (fun _ hk=>hk.2) (.slice ap v.length aq)) (fun _ hk=>hk.1),by(with_reducible repeat(first|apply Kd.R_alloc|apply Kd.R_drewN|apply Kd.R_drew));exact Kd.R_mono (Kd.R_far (p:=⟨d,2,none⟩) (Kd.R_far (p:=⟨d,1,none⟩) (Kd.R_far (p:=⟨d,0,none⟩) (Kd.R_types a0.out c.out (by decide)) (fun _ hk=>hk.2) (.bool m)) (fun _ hk=>hk.2) (.slice ab t.length ac)) (fun _ hk=>hk.2) (.slice ap v.length aq)) (fun _ hk=>hk.1),bl⟩
end Go.Proofs.Yteinbmkgenhocaa.P
end
