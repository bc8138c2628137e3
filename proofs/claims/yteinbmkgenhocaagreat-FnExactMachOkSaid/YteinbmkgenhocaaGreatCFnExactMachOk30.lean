/- A part of the claim FnExactMachOk. -/
import Derived.Test.YteinbmkgenhocaaGreatCFnExactMachOk29
section
namespace Go.Proofs.YteinbmkgenhocaaGreat.P
open Go.RowKit Go.Proofs.YteinbmkgenhocaaGreatW.PrintWords Go.Proofs.YteinbmkgenhocaaGreatW.PrintLast Go.Proofs.YteinbmkgenhocaaGreatW.PrintMore
attribute [local go_sem] ah ai av ax af ag aj ak
set_option linter.unusedVariables false
set_option linter.unusedSimpArgs false
def aJ.T7:Bool×List (List Nat×List Nat):=(true, [([], []),([], []),([1], [1]),([], []),([2,3], [2,3]),([4], [4]),([], []),([0,5,6], [0,5,6]),([7], [7]),([8,7], [8]),([9], [9]),([10,9], [9,10]),([11,9,9], [9,11]),([12], [12]),([13,12], [12,13]),([12], [12]),([14,15,12], [12,14,15]),([16,12], [12,16]),([17,12], [12,17]),([18,12], [12,18]),([12,19,9], [9,12,19]),([9,20], [9,20])])
def aJ.B7:List Nat:= [0,0,2,0,14,30,0,127,255,511,1023,2047,4095,8191,16383,8191,65535,131071,262143,524287,1048575,2097151]
theorem aJ.tab7:eU .any (opsOf Tryz.f16 7)=aJ.T7:=by kernel_rfl
theorem aJ.bits7:eQ aJ.T7.2 aJ.B7=true:=by kernel_rfl
def aJ.T12:Bool×List (List Nat×List Nat):=(true, [([], []),([], []),([1], [1]),([], []),([2,3], [2,3]),([4], [4]),([], []),([0,5,6], [0,5,6]),([7], [7])])
def aJ.B12:List Nat:= [0,0,2,0,14,30,0,127,255]
theorem aJ.tab12:eU .any (opsOf Tryz.f16 12)=aJ.T12:=by kernel_rfl
theorem aJ.bits12:eQ aJ.T12.2 aJ.B12=true:=by kernel_rfl
set_option maxHeartbeats 8000000 in
set_option maxRecDepth 100000 in
theorem aJ.calls (k:Nat) (D:Option Addr) (E:Nat) (m:List (S126)) (G:Option Addr) (I:Nat) (o:List (S104)) (a3:Option Addr) (aP:Nat) (c:List (S91)) (a2:Option Addr) (aR:Nat) (g:List (S70)) (aS:Option Addr) (a0:Nat) (p:List Int) (x:Int) (J:Int) (A:Bool) (B:Int) (r:Bool) (w:World) (cp:Kd.C eB w D m.length m) (cq:m.length≤E) (cr:Kd.C eD w G o.length o) (cs:o.length≤I) (ct:Kd.C k91 w a3 c.length c) (cv:c.length≤aP) (cw:Kd.C k70 w a2 g.length g) (cx:g.length≤aR) (cy:Kd.C (Kd.int .i64) w aS p.length p) (cA:p.length≤a0) (h:aJ.f k m o c g p x J A B=some r):
  Calls Tryz.prog 16 #[.agg #[.slice D m.length E, .slice G o.length I], .agg #[.slice a3 c.length aP, .slice a2 g.length aR, .slice aS p.length a0, .int .i64 x, .int .i64 J, .bool A, .int .i64 B]] w fun e w' =>e= .returned (.bool r)∧Below w.heap.size w w' :=by
 have er:=Tryz.underlying38
 have es:=Tryz.underlying33
 have et:=Tryz.underlying31
 have ev:=Tryz.underlying91
 have ew:=Tryz.underlying70
 have aw:=Aside0.mk cp
 have aB:=Aside0.mk cq
 clear cp cq
 have aE:=Aside0.mk cr
 have aF:=Aside0.mk cs
 clear cr cs
 have bd:=Aside0.mk ct
 have cP:=Aside0.mk cv
 clear ct cv
 have ce:=Aside0.mk cw
 have cQ:=Aside0.mk cx
 clear cw cx
 have cf:=Aside0.mk cy
 have cR:=Aside0.mk cA
 clear cy cA
 have HB:=Aside0.mk (Below.refl w.heap.size w)
 have H:((bg.f k m o).bind fun cj=>(if cj=true then((az.f x 0 200).bind fun ck=>(if ck=true then((az.f (c.length:Int) 7 207).bind fun cl=>(if cl=true then(if(g.length:Int)>4 then(aJ.j0 k (c.length:Int) true m o c g p x J A B)else(if(p.length:Int)>200 then(aJ.j0 k (c.length:Int) true m o c g p x J A B)else((fV.f A B (c.length:Int)).bind fun cg=>(aJ.j0 k (c.length:Int) (!cg) m o c g p x J A B))))else(aJ.j0 k (c.length:Int) true m o c g p x J A B)))else(aJ.j0 k (c.length:Int) true m o c g p x J A B)))else(aJ.j0 k (c.length:Int) true m o c g p x J A B)))=some r:=h
 clear h
 have cN:=Aside0.mk H
 clear H
 go_enter Tryz.func16,Tryz.ntmps16
 go_upto_region 2 with(first|((with_reducible refine gd 2 rfl ?_);(try(refine aU (by rfl) ?_;dsimp only));refine bx 2 #[.slice D m.length E, .slice G o.length I] 38 ?_;intro M hg w4 hbox hb;have b:=Aside0.mk hbox;have dr:=hz HB hg;replace HB:=hs HB hb;clear hb hbox hg)|((with_reducible refine gd 3 rfl ?_);(try(refine aU (by rfl) ?_;dsimp only));refine bx 3 #[.slice a3 c.length aP, .slice a2 g.length aR, .slice aS p.length a0, .int .i64 x, .int .i64 J, .bool A, .int .i64 B] 33 ?_;intro j hg w5 hbox hb;have a:=Aside0.mk hbox;have dt:=hz HB hg;have y:=nl b hg;have z:=ng b hg;replace b:=kb b hb;replace HB:=hs HB hb;clear hb hbox hg;have ex:=z.out;have ey:=y.out;have:=cf7 a))
 (try simp only[Act.put,List.setIfInBounds_toArray,List.set_cons_zero,List.set_cons_succ])
 go_cut [44] (fun v44 wc=> ∃(kq:Nat) (b5:Bool),v44= .bool b5∧Aside0 (aJ.j0 kq (c.length:Int) b5 m o c g p x J A B=some r)∧Aside0 (kq≤k)∧Aside0 (wc.heap[M]? =some (.cells #[(.slice D m.length E),(.slice G o.length I)] 38 (0,0)))∧Aside0 (wc.heap[j]? =some (.cells #[(.slice a3 c.length aP),(.slice a2 g.length aR),(.slice aS p.length a0), .int .i64 x, .int .i64 J, .bool A, .int .i64 B] 33 (0,0)))∧Aside0 (Below w.heap.size w wc))
 case first=>
  have H:=cN.out
  clear cN
  obtain⟨cj,A8,H⟩:=ob H
  by_cases c9:cj=true
  ·subst c9
   replace H:=it H
   obtain⟨ck,ci,H⟩:=ob H
   by_cases c11:ck=true
   ·subst c11
    replace H:=it H
    obtain⟨cl,cC,H⟩:=ob H
    by_cases c13:cl=true
    ·subst c13
     replace H:=it H
     by_cases c14:(g.length:Int)>4
     ·rw[if_pos c14]at H
      have b0:decide (4<(g.length:Int))=true:=decide_eq_true c14
      have cS:decide (4<g.length)=true:=decide_eq_true (by omega)
      clear c14
      (first|rw[b0]|(simp only[bq,bu];rw[b0])|skip)
      have H' :=Aside0.mk H
      clear H
      have du:=y.out
      have dv:=z.out
      have:=cf2 b
      go_wp2_with (first|(refine gl (some 13) Tryz.func28 #[.agg #[.slice D m.length E, .slice G o.length I]] rfl ?_;(with_reducible refine(bg.calls k _ _ m _ _ o true _ (cb aw.out) aB.out (cb aE.out) aF.out A8.out).mono ?_);rintro e ez ⟨rfl,hb⟩;refine⟨_,rfl, ?_⟩;replace b:=kb b hb;replace a:=kb a hb;replace HB:=hs HB hb;have:=cf7 a)|(go_at_call 52;(with_reducible refine(az.calls x 0 200 true _ ci.out).mono ?_);rintro e w' ⟨rfl,⟨nd,rfl⟩⟩)|(go_at_call 52;(with_reducible refine(az.calls (c.length:Int) 7 207 true _ cC.out).mono ?_);rintro e w' ⟨rfl,⟨nd,rfl⟩⟩))
      go_meet
      case rel=>exact⟨_,(true),(by first|rfl|(simp;done)|(simp[*];done)),H',⟨by first|omega|exact Nat.le_refl _⟩,kk b,kk a,⟨bl⟩⟩
     rw[if_neg c14]at H
     have b0:decide (4<(g.length:Int))=false:=decide_eq_false c14
     have cS:decide (4<g.length)=false:=decide_eq_false (by omega)
     clear c14
     (first|rw[b0]|(simp only[bq,bu];rw[b0])|skip)
     by_cases c19:(p.length:Int)>200
     ·rw[if_pos c19]at H
      have cT:decide (200<(p.length:Int))=true:=decide_eq_true c19
      have cU:decide (200<p.length)=true:=decide_eq_true (by omega)
      clear c19
      have H' :=Aside0.mk H
      clear H
      have dy:=y.out
      have dT:=z.out
      have:=cf2 b
      go_wp2_with (first|(refine gl (some 13) Tryz.func28 #[.agg #[.slice D m.length E, .slice G o.length I]] rfl ?_;(with_reducible refine(bg.calls k _ _ m _ _ o true _ (cb aw.out) aB.out (cb aE.out) aF.out A8.out).mono ?_);rintro e eA ⟨rfl,hb⟩;refine⟨_,rfl, ?_⟩;replace b:=kb b hb;replace a:=kb a hb;replace HB:=hs HB hb;have:=cf7 a)|(go_at_call 52;(with_reducible refine(az.calls x 0 200 true _ ci.out).mono ?_);rintro e w' ⟨rfl,⟨nd,rfl⟩⟩)|(go_at_call 52;(with_reducible refine(az.calls (c.length:Int) 7 207 true _ cC.out).mono ?_);rintro e w' ⟨rfl,⟨nd,rfl⟩⟩))
      go_meet
      case rel=>exact⟨_,(true),(by first|rfl|(simp;done)|(simp[*];done)),H',⟨by first|omega|exact Nat.le_refl _⟩,kk b,kk a,⟨bl⟩⟩
     rw[if_neg c19]at H
     have cT:decide (200<(p.length:Int))=false:=decide_eq_false c19
     have cU:decide (200<p.length)=false:=decide_eq_false (by omega)
     clear c19
     obtain⟨cg,dp,H⟩:=ob H
     have H' :=Aside0.mk H
     clear H
     have d0:=y.out
     have d1:=z.out
     have:=cf2 b
     go_wp2_with (first|(refine gl (some 13) Tryz.func28 #[.agg #[.slice D m.length E, .slice G o.length I]] rfl ?_;(with_reducible refine(bg.calls k _ _ m _ _ o true _ (cb aw.out) aB.out (cb aE.out) aF.out A8.out).mono ?_);rintro e eC ⟨rfl,hb⟩;refine⟨_,rfl, ?_⟩;replace b:=kb b hb;replace a:=kb a hb;replace HB:=hs HB hb;have:=cf7 a)|(go_at_call 52;(with_reducible refine(az.calls x 0 200 true _ ci.out).mono ?_);rintro e w' ⟨rfl,⟨nd,rfl⟩⟩)|(go_at_call 52;(with_reducible refine(az.calls (c.length:Int) 7 207 true _ cC.out).mono ?_);rintro e w' ⟨rfl,⟨nd,rfl⟩⟩)|(go_at_call 53;(with_reducible refine(fV.calls A B (c.length:Int) cg _ dp.out).mono ?_);rintro e eE ⟨rfl,hb⟩;replace b:=kb b hb;replace a:=kb a hb;replace HB:=hs HB hb))
     go_meet
     case rel=>exact⟨_,(!cg),(by first|rfl|(simp;done)|(simp[*];done)),H',⟨by first|omega|exact Nat.le_refl _⟩,kk b,kk a,⟨bl⟩⟩
    replace c13:=Bool.eq_false_iff.mpr c13
    subst c13
    replace H:=ie H
    have H' :=Aside0.mk H
    clear H
    have d2:=y.out
    have d3:=z.out
    have:=cf2 b
    go_wp2_with (first|(refine gl (some 13) Tryz.func28 #[.agg #[.slice D m.length E, .slice G o.length I]] rfl ?_;(with_reducible refine(bg.calls k _ _ m _ _ o true _ (cb aw.out) aB.out (cb aE.out) aF.out A8.out).mono ?_);rintro e w32 ⟨rfl,hb⟩;refine⟨_,rfl, ?_⟩;replace b:=kb b hb;replace a:=kb a hb;replace HB:=hs HB hb;have:=cf7 a)|(go_at_call 52;(with_reducible refine(az.calls x 0 200 true _ ci.out).mono ?_);rintro e w' ⟨rfl,⟨nd,rfl⟩⟩)|(go_at_call 52;(with_reducible refine(az.calls (c.length:Int) 7 207 false _ cC.out).mono ?_);rintro e w' ⟨rfl,⟨nd,rfl⟩⟩))
    go_meet
    case rel=>exact⟨_,(true),(by first|rfl|(simp;done)|(simp[*];done)),H',⟨by first|omega|exact Nat.le_refl _⟩,kk b,kk a,⟨bl⟩⟩
   replace c11:=Bool.eq_false_iff.mpr c11
   subst c11
   replace H:=ie H
   have H' :=Aside0.mk H
   clear H
   have d4:=y.out
   have d5:=z.out
   have:=cf2 b
   go_wp2_with (first|(refine gl (some 13) Tryz.func28 #[.agg #[.slice D m.length E, .slice G o.length I]] rfl ?_;(with_reducible refine(bg.calls k _ _ m _ _ o true _ (cb aw.out) aB.out (cb aE.out) aF.out A8.out).mono ?_);rintro e eI ⟨rfl,hb⟩;refine⟨_,rfl, ?_⟩;replace b:=kb b hb;replace a:=kb a hb;replace HB:=hs HB hb;have:=cf7 a)|(go_at_call 52;(with_reducible refine(az.calls x 0 200 false _ ci.out).mono ?_);rintro e w' ⟨rfl,⟨nd,rfl⟩⟩))
   go_meet
   case rel=>exact⟨_,(true),(by first|rfl|(simp;done)|(simp[*];done)),H',⟨by first|omega|exact Nat.le_refl _⟩,kk b,kk a,⟨bl⟩⟩
  replace c9:=Bool.eq_false_iff.mpr c9
  subst c9
  replace H:=ie H
  have H' :=Aside0.mk H
  clear H
  have d6:=y.out
  have d7:=z.out
  have:=cf2 b
  go_wp2_with (first|(refine gl (some 13) Tryz.func28 #[.agg #[.slice D m.length E, .slice G o.length I]] rfl ?_;(with_reducible refine(bg.calls k _ _ m _ _ o false _ (cb aw.out) aB.out (cb aE.out) aF.out A8.out).mono ?_);rintro e eJ ⟨rfl,hb⟩;refine⟨_,rfl, ?_⟩;replace b:=kb b hb;replace a:=kb a hb;replace HB:=hs HB hb))
  go_meet
  case rel=>exact⟨_,(true),(by first|rfl|(simp;done)|(simp[*];done)),H',⟨by first|omega|exact Nat.le_refl _⟩,kk b,kk a,⟨bl⟩⟩
 case rest =>
  clear cN
  obtain⟨kq,b5,rfl,HA,HJ2,b,a,HB⟩:=hcut
  cases kq with
  |zero=>exact absurd HA.out (by simp[aJ.j0])
  | succ db =>
   have H:=HA.out
   clear HA
   simp only[aJ.j0]at H
   by_cases cD:b5=true
   ·subst cD
    replace H:=it H
    obtain rfl:=Option.some.inj H;clear H
    go_wp2
    go_ret
    exact fin
   replace cD:=Bool.eq_false_iff.mpr cD
   subst cD
   replace H:=ie H
   have H' :=Aside0.mk H
   clear H
   go_wp2
   go_loopg [6] db (fun kq v6 w' => ∃(d:Int),v6= .int .i64 d∧Aside0 (aJ.l0 kq (c.length:Int) d m o c g p x J A B=some r)∧Aside0 (kq≤db)∧Aside0 (w'.heap[M]? =some (.cells #[(.slice D m.length E),(.slice G o.length I)] 38 (0,0)))∧Aside0 (w'.heap[j]? =some (.cells #[(.slice a3 c.length aP),(.slice a2 g.length aR),(.slice aS p.length a0), .int .i64 x, .int .i64 J, .bool A, .int .i64 B] 33 (0,0)))∧Aside0 (Below w.heap.size w w'))
   case atStart=>exact⟨(0),(by first|rfl|(simp;done)|(simp[*];done)),H',⟨Nat.le_refl _⟩,kk b,kk a,⟨bl⟩⟩
   case round=>
    clear H'
    obtain⟨d,rfl,HA,b4,b,a,HB⟩:=hrel
    cases gk with
    |zero=>exact absurd HA.out (by simp[aJ.l0])
    | succ k2=>
     have H:=HA.out
     clear HA
     simp only[aJ.l0]at H
     by_cases b9:d<(c.length:Int)
     ·rw [if_pos b9]at H
      have cV:decide (d<(c.length:Int))=true:=decide_eq_true b9
      clear b9
      by_cases cE:0≤d
      ·rw [if_pos cE]at H
       have d8:decide (0≤d)=true:=decide_eq_true cE
       clear cE
       by_cases cF:d<(c.length:Int)
       ·rw [if_pos cF]at H
        have ea:decide (d<(c.length:Int))=true:=decide_eq_true cF
        clear cF
        obtain⟨dg,cG,H⟩:=ob H
        by_cases c46:dg=true
        ·subst c46
         replace H:=it H
         by_cases ca:d<7
         ·rw[if_pos ca]at H
          have cW:decide (d<7)=true:=decide_eq_true ca
          clear ca
          by_cases b6:((bz c d).f0)=1
          ·rw[if_pos b6]at H
           have cX:=beq_iff_eq.mpr b6
           have cY:=bne_eq_false_iff_eq.mpr b6
           clear b6
           have H' :=Aside0.mk H
           clear H
           try go_wp2
           replace b:=Aside0.mk (au b.out)
           replace a:=Aside0.mk (au a.out)
           replace HB:=Aside0.mk (ay HB.out)
           have aL:0≤(d:Int):=od
           have aO:d<(c.length:Int):=od
           obtain⟨q,W,X,bm,s,t,O,P⟩:=iX bd.out d aL aO
           have u:=t
           have v:=s
           cases bm
           obtain⟨s,t⟩:=hc2 HB s t
           have T:=Aside0.mk P
           have a1:=Aside0.mk O
           clear P O
           replace aL:=eq_true aL
           replace aO:=eq_true aO
           have bo:0≤(d:Int):=od
           have bp:d<(c.length:Int):=od
           obtain⟨ch,b7,b8,cm,Y,Z,a4,a5⟩:=iX bd.out d bo bp
           have ab:=Z
           have ac:=Y
           obtain rfl:q=ch:=(by injection cm)
           obtain⟨Y,Z⟩:=hc2 HB Y Z
           have b1:=Aside0.mk a5
           have cM:=Aside0.mk a4
           clear a5 a4
           replace bo:=eq_true bo
           replace bp:=eq_true bp
           refine cB (n:=22) (S:=fun w' =>w'.cell? ⟨M,0,none⟩=some (.slice D m.length E)∧w'.cell? ⟨M,1,none⟩=some (.slice G o.length I)∧w'.cell? ⟨j,0,none⟩=some (.slice (some q) c.length aP)∧w'.cell? ⟨j,1,none⟩=some (.slice a2 g.length aR)∧w'.cell? ⟨j,2,none⟩=some (.slice aS p.length a0)∧w'.cell? ⟨j,3,none⟩=some (.int .i64 x)∧w'.cell? ⟨j,4,none⟩=some (.int .i64 J)∧w'.cell? ⟨j,5,none⟩=some (.bool A)∧w'.cell? ⟨j,6,none⟩=some (.int .i64 B)∧w'.cell? (q.add ((d).toNat * 2))=some (.int .i64 ((bz c d).f0))∧w'.cell? ⟨(q.add ((d).toNat * 2)).block,(q.add ((d).toNat * 2)).off+1,none⟩=some (.slice W ((bz c d).f1).length X)∧w'.cell? (q.add ((d).toNat * 2))=some (.int .i64 ((bz c d).f0))∧w'.cell? ⟨(q.add ((d).toNat * 2)).block,(q.add ((d).toNat * 2)).off+1,none⟩=some (.slice b7 ((bz c d).f1).length b8)) (ds:= []) (upto 22 0) (by kernel_rfl) rfl rfl ⟨(ae b.out 0).trans rfl,(ae b.out 1).trans rfl,(ae a.out 0).trans rfl,(ae a.out 1).trans rfl,(ae a.out 2).trans rfl,(ae a.out 3).trans rfl,(ae a.out 4).trans rfl,(ae a.out 5).trans rfl,(ae a.out 6).trans rfl,((HB.out.cell (World.block_lt_of_cell? w _ v)).trans v),((HB.out.cell (World.block_lt_of_cell? w _ u)).trans u),((HB.out.cell (World.block_lt_of_cell? w _ ac)).trans ac),((HB.out.cell (World.block_lt_of_cell? w _ ab)).trans ab)⟩ (fun hHeld=> ?_);refine bB aJ.tab7 aJ.bits7 (fun HT_ HW_=> ?_)
           generalize wr.drew=eK at b a HB T b1 s t Y Z hHeld⊢
           repeat(first|refine vN ?_|refine pN ?_|refine tN ?_)
           refine cO (i:=7) (N:=some 57) (upto 22 8) rfl rfl (bI HT_.out (by kernel_rfl)) (by decide) (fun K hK=> ?_)
           refine gs Tryz.func54 #[.agg #[.slice D m.length E, .slice G o.length I], .agg #[.int .i64 ((bz c d).f0), .slice W ((bz c d).f1).length X], .int .i64 (c.length:Int)] rfl rfl ?_
           with_reducible refine(bP.calls k2 _ _ m _ _ o ((bz c d).f0) _ _ ((bz c d).f1) (c.length:Int) true _ (cb aw.out) aB.out (cb aE.out) aF.out (cb T.out) a1.out cG.out).mono ?_
           rintro e eL ⟨rfl,hb⟩
           refine⟨_,rfl, ?_⟩
           replace b:=kb b hb
           replace a:=kb a hb
           replace HB:=hs HB hb
           refine hK.out _ _ ⟨(ae b.out 0).trans rfl,(ae b.out 1).trans rfl,(ae a.out 0).trans rfl,(ae a.out 1).trans rfl,(ae a.out 2).trans rfl,(ae a.out 3).trans rfl,(ae a.out 4).trans rfl,(ae a.out 5).trans rfl,(ae a.out 6).trans rfl,((HB.out.cell (World.block_lt_of_cell? w _ v)).trans v),((HB.out.cell (World.block_lt_of_cell? w _ u)).trans u),((HB.out.cell (World.block_lt_of_cell? w _ ac)).trans ac),((HB.out.cell (World.block_lt_of_cell? w _ ab)).trans ab)⟩ (fun hHeld=> ?_)
           clear hK K
           refine no 57 ?_
           repeat(first|refine vN ?_|refine pN ?_|refine tN ?_)
           refine dD (bX HT_.out (by kernel_rfl)) ?_
           try go_wp2
           go_roundg k2
           case measure=>have:=HJ2.out;have:=b4.out;omega
           case rel=>exact⟨(wrap64 (d+1)),(by first|rfl|(simp;done)|(simp[*];done)),H',⟨by have:=HJ2.out;have:=b4.out;omega⟩,kk b,kk a,⟨bl⟩⟩
          rw[if_neg b6]at H
          have cX:=beq_eq_false_iff_ne.mpr b6
          have cY:=bne_iff_ne.mpr b6
          obtain rfl:=Option.some.inj H;clear H
          try go_wp2
          replace b:=Aside0.mk (au b.out)
          replace a:=Aside0.mk (au a.out)
          replace HB:=Aside0.mk (ay HB.out)
          have aL:0≤(d:Int):=od
          have aO:d<(c.length:Int):=od
          obtain⟨q,W,X,bm,s,t,O,P⟩:=iX bd.out d aL aO
          have u:=t
          have v:=s
          cases bm
          obtain⟨s,t⟩:=hc2 HB s t
          have T:=Aside0.mk P
          have a1:=Aside0.mk O
          clear P O
          replace aL:=eq_true aL
          replace aO:=eq_true aO
          have bo:0≤(d:Int):=od
          have bp:d<(c.length:Int):=od
          obtain⟨ch,b7,b8,cm,Y,Z,a4,a5⟩:=iX bd.out d bo bp
          have ab:=Z
          have ac:=Y
          obtain rfl:q=ch:=(by injection cm)
          obtain⟨Y,Z⟩:=hc2 HB Y Z
          have b1:=Aside0.mk a5
          have cM:=Aside0.mk a4
          clear a5 a4
          replace bo:=eq_true bo
          replace bp:=eq_true bp
          refine cB (n:=22) (S:=fun w' =>w'.cell? ⟨M,0,none⟩=some (.slice D m.length E)∧w'.cell? ⟨M,1,none⟩=some (.slice G o.length I)∧w'.cell? ⟨j,0,none⟩=some (.slice (some q) c.length aP)∧w'.cell? ⟨j,1,none⟩=some (.slice a2 g.length aR)∧w'.cell? ⟨j,2,none⟩=some (.slice aS p.length a0)∧w'.cell? ⟨j,3,none⟩=some (.int .i64 x)∧w'.cell? ⟨j,4,none⟩=some (.int .i64 J)∧w'.cell? ⟨j,5,none⟩=some (.bool A)∧w'.cell? ⟨j,6,none⟩=some (.int .i64 B)∧w'.cell? (q.add ((d).toNat * 2))=some (.int .i64 ((bz c d).f0))∧w'.cell? ⟨(q.add ((d).toNat * 2)).block,(q.add ((d).toNat * 2)).off+1,none⟩=some (.slice W ((bz c d).f1).length X)∧w'.cell? (q.add ((d).toNat * 2))=some (.int .i64 ((bz c d).f0))∧w'.cell? ⟨(q.add ((d).toNat * 2)).block,(q.add ((d).toNat * 2)).off+1,none⟩=some (.slice b7 ((bz c d).f1).length b8)) (ds:= []) (upto 22 0) (by kernel_rfl) rfl rfl ⟨(ae b.out 0).trans rfl,(ae b.out 1).trans rfl,(ae a.out 0).trans rfl,(ae a.out 1).trans rfl,(ae a.out 2).trans rfl,(ae a.out 3).trans rfl,(ae a.out 4).trans rfl,(ae a.out 5).trans rfl,(ae a.out 6).trans rfl,((HB.out.cell (World.block_lt_of_cell? w _ v)).trans v),((HB.out.cell (World.block_lt_of_cell? w _ u)).trans u),((HB.out.cell (World.block_lt_of_cell? w _ ac)).trans ac),((HB.out.cell (World.block_lt_of_cell? w _ ab)).trans ab)⟩ (fun hHeld=> ?_);refine bB aJ.tab7 aJ.bits7 (fun HT_ HW_=> ?_)
          generalize wr.drew=eM at b a HB T b1 s t Y Z hHeld⊢
          repeat(first|refine vN ?_|refine pN ?_|refine tN ?_)
          refine cO (i:=7) (N:=some 57) (upto 22 8) rfl rfl (bI HT_.out (by kernel_rfl)) (by decide) (fun K hK=> ?_)
          refine gs Tryz.func54 #[.agg #[.slice D m.length E, .slice G o.length I], .agg #[.int .i64 ((bz c d).f0), .slice W ((bz c d).f1).length X], .int .i64 (c.length:Int)] rfl rfl ?_
          with_reducible refine(bP.calls k2 _ _ m _ _ o ((bz c d).f0) _ _ ((bz c d).f1) (c.length:Int) true _ (cb aw.out) aB.out (cb aE.out) aF.out (cb T.out) a1.out cG.out).mono ?_
          rintro e eN ⟨rfl,hb⟩
          refine⟨_,rfl, ?_⟩
          replace b:=kb b hb
          replace a:=kb a hb
          replace HB:=hs HB hb
          refine hK.out _ _ ⟨(ae b.out 0).trans rfl,(ae b.out 1).trans rfl,(ae a.out 0).trans rfl,(ae a.out 1).trans rfl,(ae a.out 2).trans rfl,(ae a.out 3).trans rfl,(ae a.out 4).trans rfl,(ae a.out 5).trans rfl,(ae a.out 6).trans rfl,((HB.out.cell (World.block_lt_of_cell? w _ v)).trans v),((HB.out.cell (World.block_lt_of_cell? w _ u)).trans u),((HB.out.cell (World.block_lt_of_cell? w _ ac)).trans ac),((HB.out.cell (World.block_lt_of_cell? w _ ab)).trans ab)⟩ (fun hHeld=> ?_)
          clear hK K
          refine no 57 ?_
          repeat(first|refine vN ?_|refine pN ?_|refine tN ?_)
          refine dD (bX HT_.out (by kernel_rfl)) ?_
          try go_wp2
          go_ret
          exact fin
         rw[if_neg ca]at H
         have cW:decide (d<7)=false:=decide_eq_false ca
         clear ca
         have H' :=Aside0.mk H
         clear H
         try go_wp2
         replace b:=Aside0.mk (au b.out)
         replace a:=Aside0.mk (au a.out)
         replace HB:=Aside0.mk (ay HB.out)
         have aL:0≤(d:Int):=od
         have aO:d<(c.length:Int):=od
         obtain⟨q,W,X,bm,s,t,O,P⟩:=iX bd.out d aL aO
         have u:=t
         have v:=s
         cases bm
         obtain⟨s,t⟩:=hc2 HB s t
         have T:=Aside0.mk P
         have a1:=Aside0.mk O
         clear P O
         replace aL:=eq_true aL
         replace aO:=eq_true aO
         refine cB (n:=22) (S:=fun w' =>w'.cell? ⟨M,0,none⟩=some (.slice D m.length E)∧w'.cell? ⟨M,1,none⟩=some (.slice G o.length I)∧w'.cell? ⟨j,0,none⟩=some (.slice (some q) c.length aP)∧w'.cell? ⟨j,1,none⟩=some (.slice a2 g.length aR)∧w'.cell? ⟨j,2,none⟩=some (.slice aS p.length a0)∧w'.cell? ⟨j,3,none⟩=some (.int .i64 x)∧w'.cell? ⟨j,4,none⟩=some (.int .i64 J)∧w'.cell? ⟨j,5,none⟩=some (.bool A)∧w'.cell? ⟨j,6,none⟩=some (.int .i64 B)∧w'.cell? (q.add ((d).toNat * 2))=some (.int .i64 ((bz c d).f0))∧w'.cell? ⟨(q.add ((d).toNat * 2)).block,(q.add ((d).toNat * 2)).off+1,none⟩=some (.slice W ((bz c d).f1).length X)) (ds:= []) (upto 22 0) (by kernel_rfl) rfl rfl ⟨(ae b.out 0).trans rfl,(ae b.out 1).trans rfl,(ae a.out 0).trans rfl,(ae a.out 1).trans rfl,(ae a.out 2).trans rfl,(ae a.out 3).trans rfl,(ae a.out 4).trans rfl,(ae a.out 5).trans rfl,(ae a.out 6).trans rfl,((HB.out.cell (World.block_lt_of_cell? w _ v)).trans v),((HB.out.cell (World.block_lt_of_cell? w _ u)).trans u)⟩ (fun hHeld=> ?_);refine bB aJ.tab7 aJ.bits7 (fun HT_ HW_=> ?_)
         generalize wr.drew=eR at b a HB T s t hHeld⊢
         repeat(first|refine vN ?_|refine pN ?_|refine tN ?_)
         refine cO (i:=7) (N:=some 57) (upto 22 8) rfl rfl (bI HT_.out (by kernel_rfl)) (by decide) (fun K hK=> ?_)
         refine gs Tryz.func54 #[.agg #[.slice D m.length E, .slice G o.length I], .agg #[.int .i64 ((bz c d).f0), .slice W ((bz c d).f1).length X], .int .i64 (c.length:Int)] rfl rfl ?_
         with_reducible refine(bP.calls k2 _ _ m _ _ o ((bz c d).f0) _ _ ((bz c d).f1) (c.length:Int) true _ (cb aw.out) aB.out (cb aE.out) aF.out (cb T.out) a1.out cG.out).mono ?_
         rintro e eS ⟨rfl,hb⟩
         refine⟨_,rfl, ?_⟩
         replace b:=kb b hb
         replace a:=kb a hb
         replace HB:=hs HB hb
         refine hK.out _ _ ⟨(ae b.out 0).trans rfl,(ae b.out 1).trans rfl,(ae a.out 0).trans rfl,(ae a.out 1).trans rfl,(ae a.out 2).trans rfl,(ae a.out 3).trans rfl,(ae a.out 4).trans rfl,(ae a.out 5).trans rfl,(ae a.out 6).trans rfl,((HB.out.cell (World.block_lt_of_cell? w _ v)).trans v),((HB.out.cell (World.block_lt_of_cell? w _ u)).trans u)⟩ (fun hHeld=> ?_)
         clear hK K
         refine no 57 ?_
         repeat(first|refine vN ?_|refine pN ?_|refine tN ?_)
         refine dD (bX HT_.out (by kernel_rfl)) ?_
         try go_wp2
         go_roundg k2
         case measure=>have:=HJ2.out;have:=b4.out;omega
         case rel=>exact⟨(wrap64 (d+1)),(by first|rfl|(simp;done)|(simp[*];done)),H',⟨by have:=HJ2.out;have:=b4.out;omega⟩,kk b,kk a,⟨bl⟩⟩
        replace c46:=Bool.eq_false_iff.mpr c46
        subst c46
        replace H:=ie H
        obtain rfl:=Option.some.inj H;clear H
        try go_wp2
        replace b:=Aside0.mk (au b.out)
        replace a:=Aside0.mk (au a.out)
        replace HB:=Aside0.mk (ay HB.out)
        have aL:0≤(d:Int):=od
        have aO:d<(c.length:Int):=od
        obtain⟨q,W,X,bm,s,t,O,P⟩:=iX bd.out d aL aO
        have u:=t
        have v:=s
        cases bm
        obtain⟨s,t⟩:=hc2 HB s t
        have T:=Aside0.mk P
        have a1:=Aside0.mk O
        clear P O
        replace aL:=eq_true aL
        replace aO:=eq_true aO
        refine cB (n:=22) (S:=fun w' =>w'.cell? ⟨M,0,none⟩=some (.slice D m.length E)∧w'.cell? ⟨M,1,none⟩=some (.slice G o.length I)∧w'.cell? ⟨j,0,none⟩=some (.slice (some q) c.length aP)∧w'.cell? ⟨j,1,none⟩=some (.slice a2 g.length aR)∧w'.cell? ⟨j,2,none⟩=some (.slice aS p.length a0)∧w'.cell? ⟨j,3,none⟩=some (.int .i64 x)∧w'.cell? ⟨j,4,none⟩=some (.int .i64 J)∧w'.cell? ⟨j,5,none⟩=some (.bool A)∧w'.cell? ⟨j,6,none⟩=some (.int .i64 B)∧w'.cell? (q.add ((d).toNat * 2))=some (.int .i64 ((bz c d).f0))∧w'.cell? ⟨(q.add ((d).toNat * 2)).block,(q.add ((d).toNat * 2)).off+1,none⟩=some (.slice W ((bz c d).f1).length X)) (ds:= []) (upto 22 0) (by kernel_rfl) rfl rfl ⟨(ae b.out 0).trans rfl,(ae b.out 1).trans rfl,(ae a.out 0).trans rfl,(ae a.out 1).trans rfl,(ae a.out 2).trans rfl,(ae a.out 3).trans rfl,(ae a.out 4).trans rfl,(ae a.out 5).trans rfl,(ae a.out 6).trans rfl,((HB.out.cell (World.block_lt_of_cell? w _ v)).trans v),((HB.out.cell (World.block_lt_of_cell? w _ u)).trans u)⟩ (fun hHeld=> ?_);refine bB aJ.tab7 aJ.bits7 (fun HT_ HW_=> ?_)
        generalize wr.drew=eV at b a HB T s t hHeld⊢
        repeat(first|refine vN ?_|refine pN ?_|refine tN ?_)
        refine cO (i:=7) (N:=some 57) (upto 22 8) rfl rfl (bI HT_.out (by kernel_rfl)) (by decide) (fun K hK=> ?_)
        refine gs Tryz.func54 #[.agg #[.slice D m.length E, .slice G o.length I], .agg #[.int .i64 ((bz c d).f0), .slice W ((bz c d).f1).length X], .int .i64 (c.length:Int)] rfl rfl ?_
        with_reducible refine(bP.calls k2 _ _ m _ _ o ((bz c d).f0) _ _ ((bz c d).f1) (c.length:Int) false _ (cb aw.out) aB.out (cb aE.out) aF.out (cb T.out) a1.out cG.out).mono ?_
        rintro e eW ⟨rfl,hb⟩
        refine⟨_,rfl, ?_⟩
        replace b:=kb b hb
        replace a:=kb a hb
        replace HB:=hs HB hb
        refine hK.out _ _ ⟨(ae b.out 0).trans rfl,(ae b.out 1).trans rfl,(ae a.out 0).trans rfl,(ae a.out 1).trans rfl,(ae a.out 2).trans rfl,(ae a.out 3).trans rfl,(ae a.out 4).trans rfl,(ae a.out 5).trans rfl,(ae a.out 6).trans rfl,((HB.out.cell (World.block_lt_of_cell? w _ v)).trans v),((HB.out.cell (World.block_lt_of_cell? w _ u)).trans u)⟩ (fun hHeld=> ?_)
        clear hK K
        refine no 57 ?_
        repeat(first|refine vN ?_|refine pN ?_|refine tN ?_)
        refine dD (bX HT_.out (by kernel_rfl)) ?_
        try go_wp2
        go_ret
        exact fin
       rw[if_neg cF]at H
       exact absurd H (by simp)
      rw[if_neg cE]at H
      exact absurd H (by simp)
     rw[if_neg b9]at H
     have cV:decide (d<(c.length:Int))=false:=decide_eq_false b9
     clear b9
     have H' :=Aside0.mk H
     clear H
     go_wp2
     go_loopg [7] k2 (fun kq v7 w' => ∃(l:Int),v7= .int .i64 l∧Aside0 (aJ.l1 kq (c.length:Int) l m o c g p x J A B=some r)∧Aside0 (kq≤k2)∧Aside0 (w'.heap[M]? =some (.cells #[(.slice D m.length E),(.slice G o.length I)] 38 (0,0)))∧Aside0 (w'.heap[j]? =some (.cells #[(.slice a3 c.length aP),(.slice a2 g.length aR),(.slice aS p.length a0), .int .i64 x, .int .i64 J, .bool A, .int .i64 B] 33 (0,0)))∧Aside0 (Below w.heap.size w w'))
     case atStart=>exact⟨(0),(by first|rfl|(simp;done)|(simp[*];done)),H',⟨Nat.le_refl _⟩,kk b,kk a,⟨bl⟩⟩
     case round=>
      clear H'
      obtain⟨l,rfl,HA,cH,b,a,HB⟩:=hrel
      cases gk with
      |zero=>exact absurd HA.out (by simp[aJ.l1])
      | succ k3=>
       have H:=HA.out
       clear HA
       simp only[aJ.l1]at H
       by_cases cc:l<(g.length:Int)
       ·rw[if_pos cc]at H
        have c0:decide (l<(g.length:Int))=true:=decide_eq_true cc
        clear cc
        by_cases cI:0≤l
        ·rw[if_pos cI]at H
         have eb:decide (0≤l)=true:=decide_eq_true cI
         clear cI
         obtain⟨dj,dc,H⟩:=ob H
         by_cases cJ:dj=true
         ·subst cJ
          replace H:=it H
          have H' :=Aside0.mk H
          clear H
          have ec:=z.out
          have ee:=y.out
          have:=cf7 a
          try go_wp2
          replace b:=Aside0.mk (au b.out)
          replace a:=Aside0.mk (au a.out)
          replace HB:=Aside0.mk (ay HB.out)
          have br:0≤(l:Int):=od
          have bs:l<(g.length:Int):=od
          obtain⟨L,be,bh,bj,bk,cn,ad,al,am,an,a6,a7,a8,a9⟩:=kv ce.out l br bs
          have ao:=an
          have ap:=am
          have aq:=al
          have ar:=ad
          cases cn
          obtain⟨ad,al,am,an⟩:=hc4 HB ad al am an
          have ba:=Aside0.mk a7
          have b2:=Aside0.mk a6
          clear a7 a6
          have bb:=Aside0.mk a9
          have b3:=Aside0.mk a8
          clear a9 a8
          replace br:=eq_true br
          replace bs:=eq_true bs
          refine cB (n:=9) (S:=fun w' =>w'.cell? ⟨M,0,none⟩=some (.slice D m.length E)∧w'.cell? ⟨M,1,none⟩=some (.slice G o.length I)∧w'.cell? ⟨j,0,none⟩=some (.slice a3 c.length aP)∧w'.cell? ⟨j,1,none⟩=some (.slice (some L) g.length aR)∧w'.cell? ⟨j,2,none⟩=some (.slice aS p.length a0)∧w'.cell? ⟨j,3,none⟩=some (.int .i64 x)∧w'.cell? ⟨j,4,none⟩=some (.int .i64 J)∧w'.cell? ⟨j,5,none⟩=some (.bool A)∧w'.cell? ⟨j,6,none⟩=some (.int .i64 B)∧w'.cell? (L.add ((l).toNat * 4))=some (.int .i64 ((aY g l).f0))∧w'.cell? ⟨(L.add ((l).toNat * 4)).block,(L.add ((l).toNat * 4)).off+1,none⟩=some (.int .i64 ((aY g l).f1))∧w'.cell? ⟨(L.add ((l).toNat * 4)).block,(L.add ((l).toNat * 4)).off+2,none⟩=some (.slice be ((aY g l).f2).length bh)∧w'.cell? ⟨(L.add ((l).toNat * 4)).block,(L.add ((l).toNat * 4)).off+3,none⟩=some (.slice bj ((aY g l).f3).length bk)) (ds:= []) (upto 9 0) (by kernel_rfl) rfl rfl ⟨(ae b.out 0).trans rfl,(ae b.out 1).trans rfl,(ae a.out 0).trans rfl,(ae a.out 1).trans rfl,(ae a.out 2).trans rfl,(ae a.out 3).trans rfl,(ae a.out 4).trans rfl,(ae a.out 5).trans rfl,(ae a.out 6).trans rfl,((HB.out.cell (World.block_lt_of_cell? w _ ar)).trans ar),((HB.out.cell (World.block_lt_of_cell? w _ aq)).trans aq),((HB.out.cell (World.block_lt_of_cell? w _ ap)).trans ap),((HB.out.cell (World.block_lt_of_cell? w _ ao)).trans ao)⟩ (fun hHeld=> ?_);refine bB aJ.tab12 aJ.bits12 (fun HT_ HW_=> ?_)
          generalize wr.drew=e0 at b a HB ba bb ad al am an hHeld⊢
          repeat(first|refine vN ?_|refine pN ?_|refine tN ?_)
          refine cO (i:=7) (N:=some 86) (upto 9 8) rfl rfl (bI HT_.out (by kernel_rfl)) (by decide) (fun K hK=> ?_)
          refine gs Tryz.func55 #[.agg #[.slice D m.length E, .slice G o.length I], .agg #[.int .i64 ((aY g l).f0), .int .i64 ((aY g l).f1), .slice be ((aY g l).f2).length bh, .slice bj ((aY g l).f3).length bk], .int .i64 (c.length:Int)] rfl rfl ?_
          with_reducible refine(bM.calls k3 _ _ m _ _ o ((aY g l).f0) ((aY g l).f1) _ _ ((aY g l).f2) _ _ ((aY g l).f3) (c.length:Int) true _ (cb aw.out) aB.out (cb aE.out) aF.out (cb ba.out) b2.out (cb bb.out) b3.out dc.out).mono ?_
          rintro e w64 ⟨rfl,hb⟩
          refine⟨_,rfl, ?_⟩
          replace b:=kb b hb
          replace a:=kb a hb
          replace HB:=hs HB hb
          refine hK.out _ _ ⟨(ae b.out 0).trans rfl,(ae b.out 1).trans rfl,(ae a.out 0).trans rfl,(ae a.out 1).trans rfl,(ae a.out 2).trans rfl,(ae a.out 3).trans rfl,(ae a.out 4).trans rfl,(ae a.out 5).trans rfl,(ae a.out 6).trans rfl,((HB.out.cell (World.block_lt_of_cell? w _ ar)).trans ar),((HB.out.cell (World.block_lt_of_cell? w _ aq)).trans aq),((HB.out.cell (World.block_lt_of_cell? w _ ap)).trans ap),((HB.out.cell (World.block_lt_of_cell? w _ ao)).trans ao)⟩ (fun hHeld=> ?_)
          clear hK K
          refine no 86 ?_
          repeat(first|refine vN ?_|refine pN ?_|refine tN ?_)
          refine dD (bX HT_.out (by kernel_rfl)) ?_
          try go_wp2
          go_roundg k3
          case measure=>have:=HJ2.out;have:=b4.out;have:=cH.out;omega
          case rel=>exact⟨(wrap64 (l+1)),(by first|rfl|(simp;done)|(simp[*];done)),H',⟨by have:=HJ2.out;have:=b4.out;have:=cH.out;omega⟩,kk b,kk a,⟨bl⟩⟩
         replace cJ:=Bool.eq_false_iff.mpr cJ
         subst cJ
         replace H:=ie H
         obtain rfl:=Option.some.inj H;clear H
         have ef:=z.out
         have eg:=y.out
         have:=cf7 a
         try go_wp2
         replace b:=Aside0.mk (au b.out)
         replace a:=Aside0.mk (au a.out)
         replace HB:=Aside0.mk (ay HB.out)
         have br:0≤(l:Int):=od
         have bs:l<(g.length:Int):=od
         obtain⟨L,be,bh,bj,bk,cn,ad,al,am,an,a6,a7,a8,a9⟩:=kv ce.out l br bs
         have ao:=an
         have ap:=am
         have aq:=al
         have ar:=ad
         cases cn
         obtain⟨ad,al,am,an⟩:=hc4 HB ad al am an
         have ba:=Aside0.mk a7
         have b2:=Aside0.mk a6
         clear a7 a6
         have bb:=Aside0.mk a9
         have b3:=Aside0.mk a8
         clear a9 a8
         replace br:=eq_true br
         replace bs:=eq_true bs
         refine cB (n:=9) (S:=fun w' =>w'.cell? ⟨M,0,none⟩=some (.slice D m.length E)∧w'.cell? ⟨M,1,none⟩=some (.slice G o.length I)∧w'.cell? ⟨j,0,none⟩=some (.slice a3 c.length aP)∧w'.cell? ⟨j,1,none⟩=some (.slice (some L) g.length aR)∧w'.cell? ⟨j,2,none⟩=some (.slice aS p.length a0)∧w'.cell? ⟨j,3,none⟩=some (.int .i64 x)∧w'.cell? ⟨j,4,none⟩=some (.int .i64 J)∧w'.cell? ⟨j,5,none⟩=some (.bool A)∧w'.cell? ⟨j,6,none⟩=some (.int .i64 B)∧w'.cell? (L.add ((l).toNat * 4))=some (.int .i64 ((aY g l).f0))∧w'.cell? ⟨(L.add ((l).toNat * 4)).block,(L.add ((l).toNat * 4)).off+1,none⟩=some (.int .i64 ((aY g l).f1))∧w'.cell? ⟨(L.add ((l).toNat * 4)).block,(L.add ((l).toNat * 4)).off+2,none⟩=some (.slice be ((aY g l).f2).length bh)∧w'.cell? ⟨(L.add ((l).toNat * 4)).block,(L.add ((l).toNat * 4)).off+3,none⟩=some (.slice bj ((aY g l).f3).length bk)) (ds:= []) (upto 9 0) (by kernel_rfl) rfl rfl ⟨(ae b.out 0).trans rfl,(ae b.out 1).trans rfl,(ae a.out 0).trans rfl,(ae a.out 1).trans rfl,(ae a.out 2).trans rfl,(ae a.out 3).trans rfl,(ae a.out 4).trans rfl,(ae a.out 5).trans rfl,(ae a.out 6).trans rfl,((HB.out.cell (World.block_lt_of_cell? w _ ar)).trans ar),((HB.out.cell (World.block_lt_of_cell? w _ aq)).trans aq),((HB.out.cell (World.block_lt_of_cell? w _ ap)).trans ap),((HB.out.cell (World.block_lt_of_cell? w _ ao)).trans ao)⟩ (fun hHeld=> ?_);refine bB aJ.tab12 aJ.bits12 (fun HT_ HW_=> ?_)
         generalize wr.drew=e1 at b a HB ba bb ad al am an hHeld⊢
         repeat(first|refine vN ?_|refine pN ?_|refine tN ?_)
         refine cO (i:=7) (N:=some 86) (upto 9 8) rfl rfl (bI HT_.out (by kernel_rfl)) (by decide) (fun K hK=> ?_)
         refine gs Tryz.func55 #[.agg #[.slice D m.length E, .slice G o.length I], .agg #[.int .i64 ((aY g l).f0), .int .i64 ((aY g l).f1), .slice be ((aY g l).f2).length bh, .slice bj ((aY g l).f3).length bk], .int .i64 (c.length:Int)] rfl rfl ?_
         with_reducible refine(bM.calls k3 _ _ m _ _ o ((aY g l).f0) ((aY g l).f1) _ _ ((aY g l).f2) _ _ ((aY g l).f3) (c.length:Int) false _ (cb aw.out) aB.out (cb aE.out) aF.out (cb ba.out) b2.out (cb bb.out) b3.out dc.out).mono ?_
         rintro e e2 ⟨rfl,hb⟩
         refine⟨_,rfl, ?_⟩
         replace b:=kb b hb
         replace a:=kb a hb
         replace HB:=hs HB hb
         refine hK.out _ _ ⟨(ae b.out 0).trans rfl,(ae b.out 1).trans rfl,(ae a.out 0).trans rfl,(ae a.out 1).trans rfl,(ae a.out 2).trans rfl,(ae a.out 3).trans rfl,(ae a.out 4).trans rfl,(ae a.out 5).trans rfl,(ae a.out 6).trans rfl,((HB.out.cell (World.block_lt_of_cell? w _ ar)).trans ar),((HB.out.cell (World.block_lt_of_cell? w _ aq)).trans aq),((HB.out.cell (World.block_lt_of_cell? w _ ap)).trans ap),((HB.out.cell (World.block_lt_of_cell? w _ ao)).trans ao)⟩ (fun hHeld=> ?_)
         clear hK K
         refine no 86 ?_
         repeat(first|refine vN ?_|refine pN ?_|refine tN ?_)
         refine dD (bX HT_.out (by kernel_rfl)) ?_
         try go_wp2
         go_ret
         exact fin
        rw[if_neg cI]at H
        exact absurd H (by simp)
       rw[if_neg cc]at H
       have c0:decide (l<(g.length:Int))=false:=decide_eq_false cc
       clear cc
       have H' :=Aside0.mk H
       clear H
       have eh:=z.out
       have ei:=y.out
       have:=cf7 a
       go_wp2
       go_loopg [8] k3 (fun kq v8 w' => ∃(U:Int),v8= .int .i64 U∧Aside0 (aJ.l2 kq U c g p x J A B=some r)∧Aside0 (kq≤k3)∧Aside0 (w'.heap[M]? =some (.cells #[(.slice D m.length E),(.slice G o.length I)] 38 (0,0)))∧Aside0 (w'.heap[j]? =some (.cells #[(.slice a3 c.length aP),(.slice a2 g.length aR),(.slice aS p.length a0), .int .i64 x, .int .i64 J, .bool A, .int .i64 B] 33 (0,0)))∧Aside0 (Below w.heap.size w w'))
       case atStart=>exact⟨(0),(by first|rfl|(simp;done)|(simp[*];done)),H',⟨Nat.le_refl _⟩,kk b,kk a,⟨bl⟩⟩
       case round=>
        clear H'
        obtain⟨U,rfl,HA,dd,b,a,HB⟩:=hrel
        cases gk with
        |zero=>exact absurd HA.out (by simp[aJ.l2])
        | succ k4=>
         have H:=HA.out
         clear HA
         simp only[aJ.l2]at H
         by_cases cd:U<(p.length:Int)
         ·rw[if_pos cd]at H
          have c1:decide (U<(p.length:Int))=true:=decide_eq_true cd
          clear cd
          by_cases c72:0≤U
          ·rw[if_pos c72]at H
           have ej:decide (0≤U)=true:=decide_eq_true c72
           clear c72
           obtain⟨dk,de,H⟩:=ob H
           by_cases cL:dk=true
           ·subst cL
            replace H:=it H
            have H' :=Aside0.mk H
            clear H
            have el:=z.out
            have em:=y.out
            have:=cf7 a
            have bt:0≤(U:Int):=od
            have bw:U<(p.length:Int):=od
            obtain⟨da,co,bc⟩:=Kd.at_int cf.out U bt bw
            cases co
            replace bc:=hc HB bc
            replace bt:=eq_true bt
            replace bw:=eq_true bw
            go_wp2_with (first|(refine gl (some 100) Tryz.func56 #[.int .i64 (rd p U)] rfl ?_;(with_reducible refine(eZ.calls (rd p U) true _ de.out).mono ?_);rintro e w' ⟨rfl,⟨nd,rfl⟩⟩;refine⟨_,rfl, ?_⟩))
            go_roundg k4
            case measure=>have:=HJ2.out;have:=b4.out;have:=cH.out;have:=dd.out;omega
            case rel=>exact⟨(wrap64 (U+1)),(by first|rfl|(simp;done)|(simp[*];done)),H',⟨by have:=HJ2.out;have:=b4.out;have:=cH.out;have:=dd.out;omega⟩,kk b,kk a,⟨bl⟩⟩
           replace cL:=Bool.eq_false_iff.mpr cL
           subst cL
           replace H:=ie H
           obtain rfl:=Option.some.inj H;clear H
           have en:=z.out
           have eo:=y.out
           have:=cf7 a
           have bt:0≤(U:Int):=od
           have bw:U<(p.length:Int):=od
           obtain⟨da,co,bc⟩:=Kd.at_int cf.out U bt bw
           cases co
           replace bc:=hc HB bc
           replace bt:=eq_true bt
           replace bw:=eq_true bw
           go_wp2_with (first|(refine gl (some 100) Tryz.func56 #[.int .i64 (rd p U)] rfl ?_;(with_reducible refine(eZ.calls (rd p U) false _ de.out).mono ?_);rintro e w' ⟨rfl,⟨nd,rfl⟩⟩;refine⟨_,rfl, ?_⟩))
           go_ret
           exact fin
          rw[if_neg c72]at H
          exact absurd H (by simp)
         rw[if_neg cd]at H
         have c1:decide (U<(p.length:Int))=false:=decide_eq_false cd
         clear cd
         obtain⟨dl,dq,H⟩:=ob H
         obtain rfl:=Option.some.inj H;clear H
         have ep:=z.out
         have eq:=y.out
         have:=cf7 a
         go_wp2_with (first|(refine gl (some 103) Tryz.func57 #[.agg #[.slice a3 c.length aP, .slice a2 g.length aR, .slice aS p.length a0, .int .i64 x, .int .i64 J, .bool A, .int .i64 B]] rfl ?_;(with_reducible refine(eu.calls k4 _ _ c _ _ g _ _ p x J A B dl _ (cb bd.out) cP.out (cb ce.out) cQ.out (cb cf.out) cR.out dq.out).mono ?_);rintro e e3 ⟨rfl,hb⟩;refine⟨_,rfl, ?_⟩;replace b:=kb b hb;replace a:=kb a hb;replace HB:=hs HB hb))
         go_ret
         exact fin
set_option maxHeartbeats 8000000 in
set_option maxRecDepth 100000 in
theorem iq.calls (d:Bool) (g:Int) (r1:Bool) (r2:Int) (w:World) (h:iq.f d g=some (r1,r2)):
  Calls Tryz.prog 61 #[.agg #[.bool d, .int .i64 g]] w fun e w' =>e= .returned (.agg #[.bool r1, .int .i64 r2])∧Below w.heap.size w w' :=by
 have u:=Tryz.underlying47
 have v:=Tryz.underlying31
 have HB:=Aside0.mk (Below.refl w.heap.size w)
 have H:(some (d,g))=some (r1,r2):=h
 clear h
 simp only[Option.some.injEq,Prod.mk.injEq]at H
 obtain⟨rfl,rfl⟩:=H
 go_enter Tryz.func61,Tryz.ntmps61
 go_wp2_with (first|((with_reducible refine gd 1 rfl ?_);refine bx 1 #[.bool d, .int .i64 g] 47 ?_;intro p hg w2 hbox hb;have a:=Aside0.mk hbox;have q:=hz HB hg;replace HB:=hs HB hb;clear hb hbox hg)|((with_reducible refine gd 2 rfl ?_);refine bx 2 #[.bool false, .int .i64 0] 31 ?_;intro n hg w3 hbox hb;have c:=Aside0.mk hbox;have r:=hz HB hg;have i:=nl a hg;have j:=ng a hg;replace a:=kb a hb;replace HB:=hs HB hb;clear hb hbox hg)|((with_reducible refine gd 3 rfl ?_);refine bx 3 #[.bool false, .int .i64 0] 31 ?_;intro s hg w4 hbox hb;have o:=Aside0.mk hbox;have t:=hz HB hg;have k:=nl a hg;have l:=ng a hg;have b:=nl c hg;have m:=ng c hg;replace a:=kb a hb;replace c:=kb c hb;replace HB:=hs HB hb;clear hb hbox hg;have x:=i.out;have y:=j.out;have z:=k.out;have A:=l.out;have:=cf2 a;have B:=m.out;have D:=b.out;have:=cf2 o;have:=cf2 c))
 refine bodyPost_ret (results_cell_row rfl _ _ n 31 #[.bool d, .int .i64 g] (0,0) _ rfl (by(with_reducible repeat(first|refine aC ?_ _|refine au ?_|refine aA ?_ _));refine dC (cs:= #[.bool d, .int .i64 0]) ?_ 1 _ rfl;(with_reducible repeat(first|refine aC ?_ _|refine au ?_|refine aA ?_ _));refine dC (cs:= #[.bool false, .int .i64 0]) ?_ 0 _ rfl;(with_reducible repeat(first|refine aC ?_ _|refine au ?_|refine aA ?_ _));refine fH ?_ b.out _;(with_reducible repeat(first|refine aC ?_ _|refine au ?_|refine aA ?_ _));refine fH ?_ b.out _;(with_reducible repeat(first|refine aC ?_ _|refine au ?_|refine aA ?_ _));exact c.out) Tryz.underlying31 rfl (by kernel_rfl)) rfl ?_
 exact fin
set_option maxHeartbeats 8000000 in
set_option maxRecDepth 100000 in
theorem dw.calls (k:Nat) (A0:Option Addr) (c0:Nat) (l0:List (S47)) (r:List (S31)) (w:World) (hr0:Kd.C k47 w A0 l0.length l0) (hc0:l0.length≤c0) (h:dw.f k l0=some r):
  Calls Tryz.prog 156 #[.slice A0 l0.length c0] w fun e w' => ∃aq:Value,e= .returned (aq)∧Kd.R k31 31 w' w.heap.size (fun _=>True) aq r∧Below w.heap.size w w' :=by
 have a2:=Tryz.underlying47
 have a3:=Tryz.underlying31
 have aO:=Aside0.mk hr0
 have be:=Aside0.mk hc0
 clear hr0 hc0
 have HB:=Aside0.mk (Below.refl w.heap.size w)
 have H:(if 0≤(l0.length:Int)then(if((l0.length:Int):Int).toNat≤17592186044416 then(dw.l0 k l0 (List.replicate ((l0.length:Int):Int).toNat z31) 0)else(none))else(none))=some r:=h
 clear h
 by_cases c2:0≤(l0.length:Int)
 ·rw [if_pos c2]at H
  have a4:=eq_true c2
  have a5:decide (0≤(l0.length:Int))=true:=decide_eq_true c2
  clear c2
  by_cases c3:((l0.length:Int):Int).toNat≤17592186044416
  ·rw [if_pos c3]at H
   have a6:=eq_true c3
   have a7:decide (((l0.length:Int):Int).toNat≤17592186044416)=true:=decide_eq_true c3
   clear c3
   obtain⟨K,l⟩: ∃y_:List (S31),y_=(List.replicate ((l0.length:Int):Int).toNat z31):=⟨_,rfl⟩
   replace H:(dw.l0 k l0 K 0)=some r:=by first|(rw[l];with_reducible exact H)|(have o:=(Option.bind_some _ _).symm.trans H;rw[l];with_reducible exact o)|(have o:=(Option.bind_some _ _).symm.trans H;with_reducible exact o)|with_reducible exact H|(rw[l];exact H)|exact H
   have I:=Aside0.mk l
   clear l
   have H' :=Aside0.mk H
   clear H
   go_enter Tryz.func156,Tryz.ntmps156
   go_wp2_with (first|((with_reducible refine gd 7 rfl ?_);refine Kd.R_make k31 _ 31 rfl (N:=7) rfl 68 _ _ rfl (l0.length:Int) rfl rfl Tryz.underlying68 (.agg #[(.bool false),(.int .i64 0)]) 16 vz rfl (by decide) (by omega) z31 (ok:=fun _=>True) (okp:=fun _=>True) (qh _ _ _ z31) (fun _ hk=>hk) trivial (of_decide_eq_true (by first|(with_reducible assumption)|assumption)) (Nat.le_trans (Nat.mul_le_mul_right _ (of_decide_eq_true (by first|(with_reducible assumption)|assumption):(l0.length:Int).toNat≤17592186044416)) (by omega)) (Below.refl _ _) (Nat.le_refl _) ?_;intro aB w4 A hb hg_ hnew_;clear hg_ hnew_;(first|rw[←I.out]at A|(simp only[Int.reduceToNat]at A;rw[←I.out]at A));have an:=Aside0.mk (Kd.R_lower A (aM bl));replace HB:=hs HB hb;clear hb A))
   go_loopg [4] k (fun kq v4 w' => ∃(b:List (S31)) (a:Int),v4= .int .i64 a∧Aside0 (dw.l0 kq l0 b a=some r)∧Aside0 (kq≤k)∧Aside0 (Kd.R k31 31 w' w.heap.size (fun _=>True) aB b)∧Aside0 (Below w.heap.size w w'))
   case atStart=>exact⟨(K),(0),(by first|rfl|(simp;done)|(simp[*];done)),H',⟨Nat.le_refl _⟩,⟨by(with_reducible repeat(first|apply Kd.R_alloc|apply Kd.R_drewN|apply Kd.R_drew));exact an.out⟩,⟨bl⟩⟩
   case round=>
    clear H'
    obtain⟨b,a,rfl,HA,ar,c,HB⟩:=hrel
    cases gk with
    |zero=>exact absurd HA.out (by simp[dw.l0])
    | succ k1=>
     have H:=HA.out
     clear HA
     simp only[dw.l0]at H
     by_cases c6:a<(l0.length:Int)
     ·rw[if_pos c6]at H
      have aE:decide (a<(l0.length:Int))=true:=decide_eq_true c6
      clear c6
      by_cases c7:0≤a
      ·rw[if_pos c7]at H
       have a8:decide (0≤a)=true:=decide_eq_true c7
       clear c7
       replace H:=Option.bind_eq_some_iff.mp H
       obtain⟨⟨g,i⟩,aw,H⟩:=H
       replace H:(if a<(b.length:Int)then(dw.l0 k1 l0 (b.set (a:Int).toNat (⟨g,i⟩:S31)) (wrap64 (a+1)))else(none))=some r:=H
       have A8:=Aside0.mk aw
       clear aw
       by_cases c9:a<(b.length:Int)
       ·rw[if_pos c9]at H
        have a9:decide (a<(b.length:Int))=true:=decide_eq_true c9
        clear c9
        obtain⟨B,m⟩: ∃y_:List (S31),y_=(b.set (a:Int).toNat (⟨g,i⟩:S31)):=⟨_,rfl⟩
        replace H:(dw.l0 k1 l0 B (wrap64 (a+1)))=some r:=by first|(rw[m];with_reducible exact H)|(have o:=(Option.bind_some _ _).symm.trans H;rw[m];with_reducible exact o)|(have o:=(Option.bind_some _ _).symm.trans H;with_reducible exact o)|with_reducible exact H|(rw[m];exact H)|exact H
        have ao:=Aside0.mk m
        clear m
        have H' :=Aside0.mk H
        clear H
        have D:0≤(a:Int):=od
        have E:a<(l0.length:Int):=od
        obtain⟨a1,aF,s,u⟩:=vH aO.out a D E
        cases aF
        obtain⟨s,u⟩:=hc2 HB s u
        replace D:=eq_true D
        replace E:=eq_true E
        go_wp2_with (first|(refine gl (some 20) Tryz.func61 #[.agg #[.bool ((jD l0 a).f0), .int .i64 ((jD l0 a).f1)]] rfl ?_;(with_reducible refine(iq.calls ((jD l0 a).f0) ((jD l0 a).f1) g i _ A8.out).mono ?_);rintro e q ⟨rfl,hb⟩;refine⟨_,rfl, ?_⟩;replace c:=Aside0.mk (Kd.R_below (by(with_reducible repeat(first|apply Kd.R_alloc|apply Kd.R_drewN|apply Kd.R_drew));exact c.out) hb);replace HB:=hs HB hb;have L:0≤(a:Int):=od;have M:(a:Int)<((b.length:Int):Int):=od;obtain⟨d,O,P,T,aL,ba,U⟩:=Kd.R_form c.out (by omega);(first|cases P|(injection P with ea_ en_ ec_;(first|subst ea_|(injection ea_ with ea_;subst ea_));subst ec_;clear en_));have W:=Aside0.mk T;have bb:=Aside0.mk U;clear T aL U;obtain⟨bc,ap,X,x,y⟩:=Kd.R_elem c.out z31 (a:Int) L M;obtain rfl:=nM X;have aP:q.cell? ⟨d,(a:Int).toNat * 2,none⟩=some (.bool ((di b a).f0)):=x 0 _ rfl;have aR:q.cell? ⟨d,(a:Int).toNat * 2+1,none⟩=some (.int .i64 ((di b a).f1)):=x 1 _ rfl;have aS:q.frozen? ⟨d,(a:Int).toNat * 2,none⟩=false:=y 0;have a0:q.frozen? ⟨d,(a:Int).toNat * 2+1,none⟩=false:=y 1;clear ap x y X;replace L:=eq_true L;replace M:=eq_true M;have Y:=Aside0.mk (show Kd.R k31 31 q w.heap.size (fun _=>True) (.slice (some ⟨d,0,none⟩) b.length O) b from(by(with_reducible repeat(first|apply Kd.R_alloc|apply Kd.R_drewN|apply Kd.R_drew));exact c.out));obtain⟨bd,J,Z,n,z⟩:=Kd.R_elem Y.out z31 (a:Int) (of_decide_eq_true (by first|(with_reducible assumption)|assumption)) (by have h_:(a:Int)<((b.length:Int):Int):=of_decide_eq_true (by first|(with_reducible assumption)|assumption);first|exact h_|(have e_:=(Kd.R_reads' c.out).1;omega)|simpa using h_);obtain rfl:=nM Z;have G:=Kd.R_seg Y.out (a:Int) (of_decide_eq_true (by first|(with_reducible assumption)|assumption)) (by have h_:(a:Int)<((b.length:Int):Int):=of_decide_eq_true (by first|(with_reducible assumption)|assumption);first|exact h_|(have e_:=(Kd.R_reads' c.out).1;omega)|simpa using h_) (seg:= [.bool g, .int .i64 i]) (j:=0) J n (show 2≤2 from by decide) (x' :=(⟨g,i⟩:S31)) (qh _ _ _ (⟨g,i⟩:S31)) (fun _ hk=>hk);have ab:=n 0 _ rfl;(try simp only[show(k31).sz=2 from rfl,Nat.mul_one,Nat.add_zero]at ab);have ac:=z 0;(try simp only[show(k31).sz=2 from rfl,Nat.mul_one,Nat.add_zero]at ac);have ad:=n 1 _ rfl;(try simp only[show(k31).sz=2 from rfl,Nat.mul_one,Nat.add_zero]at ad);have al:=z 1;(try simp only[show(k31).sz=2 from rfl,Nat.mul_one,Nat.add_zero]at al);clear J n z Z)|((with_reducible refine iw (t:=31) (p:=21) rfl ?_);refine gT (t:=31) (p:=21) (v:= ?vo_w13) (w1:=((q.setCell ⟨d,(a:Int).toNat * 2,none⟩ (.bool g)).setCell ⟨d,(a:Int).toNat * 2+1,none⟩ (.int .i64 i))) ?hg ?ho ?hn ?hr ?_;(case ho=>rfl);(case hg=>rfl);(case hn=>rfl);(case hr=>first|(go_simp;done)|(go_simp;rfl));intro am hw;have hg:q.grownBy am (some d):=(by rw[hw];exact G.2);have hp_:Kd.R k31 31 am w.heap.size (fun _=>True) (.slice (some ⟨d,0,none⟩) b.length O) B:=(by rw[hw,ao.out];exact G.1);clear G;replace c:=Aside0.mk (hp_);replace HB:=Aside0.mk ((by rw[hw];exact aZ (aZ (HB.out) W.out) W.out:Below w.heap.size w am));clear hg hw hp_))
        go_roundg k1
        case measure=>have:=ar.out;omega
        case rel=>exact⟨(B),(wrap64 (a+1)),(by first|rfl|(simp;done)|(simp[*];done)),H',⟨by have:=ar.out;omega⟩,⟨by(with_reducible repeat(first|apply Kd.R_alloc|apply Kd.R_drewN|apply Kd.R_drew));exact c.out⟩,⟨bl⟩⟩
       rw[if_neg c9]at H
       exact absurd H (by simp)
      rw[if_neg c7]at H
      exact absurd H (by simp)
     rw[if_neg c6]at H
     have aE:decide (a<(l0.length:Int))=false:=decide_eq_false c6
     clear c6
     obtain rfl:=Option.some.inj H;clear H
     go_wp2
     go_ret
     exact⟨_,by first|rfl|(simp[aW,aX]<;>rfl)|(simp[*,aW,aX]<;>rfl),by(with_reducible repeat(first|apply Kd.R_alloc|apply Kd.R_drewN|apply Kd.R_drew));exact c.out,bl⟩
  rw[if_neg c3]at H
  exact absurd H (by simp)
 rw[if_neg c2]at H
 exact absurd H (by simp)
set_option maxHeartbeats 8000000 in
set_option maxRecDepth 100000 in
theorem jA.calls (k:Nat) (d:Int) (l:Option Addr) (m:Nat) (c:List (S47)) (r1:Int) (r2:List (S31)) (w:World) (x:Kd.C k47 w l c.length c) (y:c.length≤m) (h:jA.f k d c=some (r1,r2)):
  Calls Tryz.prog 97 #[.agg #[.int .i64 d, .slice l c.length m]] w fun e w' => ∃E:Value,e= .returned (.agg #[.int .i64 r1,E])∧Kd.R k31 31 w' w.heap.size (fun _=>True) E r2∧Below w.heap.size w w' :=by
 have I:=Tryz.underlying143
 have O:=Tryz.underlying91
 have B:=Aside0.mk x
 have D:=Aside0.mk y
 clear x y
 have HB:=Aside0.mk (Below.refl w.heap.size w)
 have H:((dw.f k c).bind fun g=>(some (d,g)))=some (r1,r2):=h
 clear h
 obtain⟨g,A2,H⟩:=ob H
 simp only[Option.some.injEq,Prod.mk.injEq]at H
 obtain⟨rfl,rfl⟩:=H
 go_enter Tryz.func97,Tryz.ntmps97
 go_wp2_with (first|((with_reducible refine gd 1 rfl ?_);refine bx 1 #[.int .i64 d, .slice l c.length m] 143 ?_;intro J hg w3 hbox hb;have a:=Aside0.mk hbox;have K:=hz HB hg;replace HB:=hs HB hb;clear hb hbox hg)|((with_reducible refine gd 2 rfl ?_);refine bx 2 #[.int .i64 0, .slice none 0 0] 91 ?_;intro n hg w4 hbox hb;have b:=Aside0.mk hbox;have L:=hz HB hg;have o:=nl a hg;have q:=ng a hg;replace a:=kb a hb;replace HB:=hs HB hb;clear hb hbox hg)|((with_reducible refine gd 3 rfl ?_);refine bx 3 #[.int .i64 0, .slice none 0 0] 91 ?_;intro z hg w5 hbox hb;have j:=Aside0.mk hbox;have M:=hz HB hg;have r:=nl a hg;have s:=ng a hg;have i:=nl b hg;have t:=ng b hg;replace a:=kb a hb;replace b:=kb b hb;replace HB:=hs HB hb;clear hb hbox hg;have P:=o.out;have T:=q.out;have U:=r.out;have W:=s.out;have:=cf2 a;have X:=t.out;have Y:=i.out;have:=cf2 j)|(refine gl (some 9) Tryz.func156 #[.slice l c.length m] rfl ?_;(with_reducible refine(dw.calls k _ _ c g _ (cb B.out) D.out A2.out).mono ?_);rintro e ab ⟨Z,rfl,ho0,hb⟩;refine⟨_,rfl, ?_⟩;have A:=Aside0.mk (Kd.R_lower ho0 (aM bl));replace a:=kq a hb;replace b:=kq b hb;replace j:=kp z #[.int .i64 d, .slice none 0 0] 91 hb;replace HB:=hs HB hb;obtain⟨u,v,G⟩:=Kd.R_slice A.out;subst G;have:=cf2 j;have:=cf2 b))
 refine bodyPost_ret (results_cell_row rfl _ _ n 91 #[.int .i64 d, .slice u g.length v] (0,0) _ rfl (by(with_reducible repeat(first|refine aC ?_ _|refine au ?_|refine aA ?_ _));refine dC (cs:= #[.int .i64 d, .slice none 0 0]) ?_ 1 _ rfl;(with_reducible repeat(first|refine aC ?_ _|refine au ?_|refine aA ?_ _));refine dC (cs:= #[.int .i64 0, .slice none 0 0]) ?_ 0 _ rfl;(with_reducible repeat(first|refine aC ?_ _|refine au ?_|refine aA ?_ _));refine fH ?_ i.out _;(with_reducible repeat(first|refine aC ?_ _|refine au ?_|refine aA ?_ _));exact b.out) Tryz.underlying91 rfl (by kernel_rfl)) rfl ?_
 exact⟨_,by first|rfl|(simp[aW,aX]<;>rfl)|(simp[*,aW,aX]<;>rfl),by(with_reducible repeat(first|apply Kd.R_alloc|apply Kd.R_drewN|apply Kd.R_drew));exact Kd.R_mono (Kd.R_far (p:=⟨n,1,none⟩) (Kd.R_far (p:=⟨n,0,none⟩) (Kd.R_far (p:=⟨z,1,none⟩) (Kd.R_types (Kd.R_types A.out j.out (by decide)) b.out (by decide)) (fun _ hk=>hk.1.2) (.slice u g.length v)) (fun _ hk=>hk.2) (.int .i64 d)) (fun _ hk=>hk.2) (.slice u g.length v)) (fun _ hk=>trivial),bl⟩
set_option maxHeartbeats 8000000 in
set_option maxRecDepth 100000 in
theorem dS.calls (k:Nat) (A0:Option Addr) (c0:Nat) (l0:List (S143)) (r:List (S91)) (w:World) (hr0:Kd.C kM w A0 l0.length l0) (hc0:l0.length≤c0) (h:dS.f k l0=some r):
  Calls Tryz.prog 58 #[.slice A0 l0.length c0] w fun e w' => ∃aS:Value,e= .returned (aS)∧Kd.S k91 91 w' w.heap.size (fun _=>True) aS r∧Below w.heap.size w w' :=by
 have bk:=Tryz.underlying143
 have bp:=Tryz.underlying91
 have a9:=Aside0.mk hr0
 have b6:=Aside0.mk hc0
 clear hr0 hc0
 have HB:=Aside0.mk (Below.refl w.heap.size w)
 have H:(if 0≤(l0.length:Int)then(if((l0.length:Int):Int).toNat≤8796093022208 then(dS.l0 k l0 (List.replicate ((l0.length:Int):Int).toNat z91) 0)else(none))else(none))=some r:=h
 clear h
 by_cases c2:0≤(l0.length:Int)
 ·rw [if_pos c2]at H
  have br:=eq_true c2
  have bs:decide (0≤(l0.length:Int))=true:=decide_eq_true c2
  clear c2
  by_cases c3:((l0.length:Int):Int).toNat≤8796093022208
  ·rw [if_pos c3]at H
   have bt:=eq_true c3
   have bw:decide (((l0.length:Int):Int).toNat≤8796093022208)=true:=decide_eq_true c3
   clear c3
   obtain⟨T,i⟩: ∃y_:List (S91),y_=(List.replicate ((l0.length:Int):Int).toNat z91):=⟨_,rfl⟩
   replace H:(dS.l0 k l0 T 0)=some r:=by first|(rw[i];with_reducible exact H)|(have n:=(Option.bind_some _ _).symm.trans H;rw[i];with_reducible exact n)|(have n:=(Option.bind_some _ _).symm.trans H;with_reducible exact n)|with_reducible exact H|(rw[i];exact H)|exact H
   have M:=Aside0.mk i
   clear i
   have H' :=Aside0.mk H
   clear H
   go_enter Tryz.func58,Tryz.ntmps58
   go_wp2_with (first|((with_reducible refine gd 7 rfl ?_);refine Kd.S_make k91 _ 91 rfl (N:=7) rfl 27 _ _ rfl (l0.length:Int) rfl rfl Tryz.underlying27 (.agg #[(.int .i64 0),(.slice none 0 0)]) 32 vD rfl (by decide) (by omega) z91 (ok:=fun _=>True) (okp:=fun _=>True) (qi _ _ _ z91 (Kd.R_nil _ _ _ _ _)) (fun _ hk=>hk) trivial (of_decide_eq_true (by first|(with_reducible assumption)|assumption)) (Nat.le_trans (Nat.mul_le_mul_right _ (of_decide_eq_true (by first|(with_reducible assumption)|assumption):(l0.length:Int).toNat≤8796093022208)) (by omega)) (Below.refl _ _) (Nat.le_refl _) ?_;intro a4 w4 G hb hg_ hnew_;clear hg_ hnew_;(first|rw[←M.out]at G|(simp only[Int.reduceToNat]at G;rw[←M.out]at G));have aL:=Aside0.mk (Kd.S_lower G (aM bl));replace HB:=hs HB hb;clear hb G))
   go_loopg [4] k (fun kq v4 w' => ∃(c:List (S91)) (a:Int),v4= .int .i64 a∧Aside0 (dS.l0 kq l0 c a=some r)∧Aside0 (kq≤k)∧Aside0 (Kd.S k91 91 w' w.heap.size (fun _=>True) a4 c)∧Aside0 (Below w.heap.size w w'))
   case atStart=>exact⟨(T),(0),(by first|rfl|(simp;done)|(simp[*];done)),H',⟨Nat.le_refl _⟩,⟨by(with_reducible repeat(first|apply Kd.S_alloc|apply Kd.S_drewN|apply Kd.S_drew));exact aL.out⟩,⟨bl⟩⟩
   case round=>
    clear H'
    obtain⟨c,a,rfl,HA,a0,b,HB⟩:=hrel
    cases gk with
    |zero=>exact absurd HA.out (by simp[dS.l0])
    | succ k1=>
     have H:=HA.out
     clear HA
     simp only[dS.l0]at H
     by_cases c6:a<(l0.length:Int)
     ·rw[if_pos c6]at H
      have a5:decide (a<(l0.length:Int))=true:=decide_eq_true c6
      clear c6
      by_cases c7:0≤a
      ·rw[if_pos c7]at H
       have b0:decide (0≤a)=true:=decide_eq_true c7
       clear c7
       replace H:=Option.bind_eq_some_iff.mp H
       obtain⟨⟨g,o⟩,a1,H⟩:=H
       replace H:(if a<(c.length:Int)then(dS.l0 k1 l0 (c.set (a:Int).toNat (⟨g,o⟩:S91)) (wrap64 (a+1)))else(none))=some r:=H
       have A8:=Aside0.mk a1
       clear a1
       by_cases c9:a<(c.length:Int)
       ·rw[if_pos c9]at H
        have b1:decide (a<(c.length:Int))=true:=decide_eq_true c9
        clear c9
        obtain⟨I,l⟩: ∃y_:List (S91),y_=(c.set (a:Int).toNat (⟨g,o⟩:S91)):=⟨_,rfl⟩
        replace H:(dS.l0 k1 l0 I (wrap64 (a+1)))=some r:=by first|(rw[l];with_reducible exact H)|(have n:=(Option.bind_some _ _).symm.trans H;rw[l];with_reducible exact n)|(have n:=(Option.bind_some _ _).symm.trans H;with_reducible exact n)|with_reducible exact H|(rw[l];exact H)|exact H
        have aO:=Aside0.mk l
        clear l
        have H' :=Aside0.mk H
        clear H
        have J:0≤(a:Int):=od
        have K:a<(l0.length:Int):=od
        obtain⟨bm,U,W,a6,s,u,x,y⟩:=mZ a9.out a J K
        cases a6
        obtain⟨s,u⟩:=hc2 HB s u
        have O:=Aside0.mk y
        have P:=Aside0.mk x
        clear y x
        replace J:=eq_true J
        replace K:=eq_true K
        go_wp2_with (first|(refine gl (some 20) Tryz.func97 #[.agg #[.int .i64 ((fB l0 a).f0), .slice U ((fB l0 a).f1).length W]] rfl ?_;(with_reducible refine(jA.calls k1 ((fB l0 a).f0) _ _ ((fB l0 a).f1) g o _ (cb O.out) P.out A8.out).mono ?_);rintro e q ⟨z,rfl,ho0,hb⟩;refine⟨_,rfl, ?_⟩;have m:=Aside0.mk (Kd.R_lower ho0 (aM bl));replace b:=Aside0.mk (Kd.S_elder' (by(with_reducible repeat(first|apply Kd.S_alloc|apply Kd.S_drewN|apply Kd.S_drew));exact b.out) (Kd.R_base ho0) hb);replace HB:=hs HB hb;have X:0≤(a:Int):=od;have Y:(a:Int)<((c.length:Int):Int):=od;obtain⟨d,Z,ab,ac,a7,b2,ad⟩:=Kd.S_form b.out (by omega);(first|cases ab|(injection ab with ea_ en_ ec_;(first|subst ea_|(injection ea_ with ea_;subst ea_));subst ec_;clear en_));have al:=Aside0.mk ac;have b3:=Aside0.mk ad;clear ac a7 ad;obtain⟨_,b4,aP,am,A,B,_,_⟩:=Kd.S_elem b.out z91 (a:Int) X Y;obtain⟨an,rfl,ba⟩:=nN am;have bb:q.cell? ⟨d,(a:Int).toNat * 2,none⟩=some (.int .i64 ((bz c a).f0)):=A 0 _ rfl;have bc:q.cell? ⟨d,(a:Int).toNat * 2+1,none⟩=some (an):=A 1 _ rfl;have bd:q.frozen? ⟨d,(a:Int).toNat * 2,none⟩=false:=B 0;have be:q.frozen? ⟨d,(a:Int).toNat * 2+1,none⟩=false:=B 1;clear aP A B am;replace X:=eq_true X;replace Y:=eq_true Y;have n_:=Aside0.mk (Kd.S_mono (ok' :=(fun k_=>some k_≠(z:Value).ownBlock)) b.out (fun k_ hk=>hk.2));clear b;have b:=n_;clear n_;have a8:=Aside0.mk (show Kd.S k91 91 q w.heap.size (fun k_=>((fun _=>True)) k_∧¬((fun k_=>some k_=(z:Value).ownBlock)) k_) (.slice (some ⟨d,0,none⟩) c.length Z) c from(by(with_reducible repeat(first|apply Kd.S_alloc|apply Kd.S_drewN|apply Kd.S_drew));exact Kd.S_mono b.out (fun k_ hk=>⟨trivial,fun e_=>hk e_⟩)));obtain⟨bo,b5,aR,ao,D,E,ap,aq⟩:=Kd.S_elem a8.out z91 (a:Int) (of_decide_eq_true (by first|(with_reducible assumption)|assumption)) (by have h_:(a:Int)<((c.length:Int):Int):=of_decide_eq_true (by first|(with_reducible assumption)|assumption);first|exact h_|(have e_:=(Kd.S_reads' b.out).1;omega)|simpa using h_);obtain⟨bh,rfl,bj⟩:=nN ao;have L:=Kd.S_seg aq (of_decide_eq_true (by first|(with_reducible assumption)|assumption)) (by have h_:(a:Int)<((c.length:Int):Int):=of_decide_eq_true (by first|(with_reducible assumption)|assumption);first|exact h_|(have e_:=(Kd.S_reads' b.out).1;omega)|simpa using h_) (seg:= [.int .i64 g,z]) (j:=0) (show 2≤2 from by decide) (x' :=(⟨g,o⟩:S91)) (qi _ _ _ (⟨g,o⟩:S91) (Kd.R_mono (Kd.R_tight rfl (Kd.R_mono (ok' :=fun k_=>((fun _=>True)) k_∧k_≠d) (Kd.R_apart' (m.out) (Kd.S_typed b.out) (by decide)) (fun k_ hk=>⟨trivial,fun e_=>(hk.2) (by rw[e_];rfl)⟩))) (fun _ h_=>Or.inr (h_)))) (fun _ hk=>hk) (fun k_ hk_=>((Kd.R_mono (ok' :=fun k_=>((fun _=>True)) k_∧k_≠d) (Kd.R_apart' (m.out) (Kd.S_typed b.out) (by decide)) (fun k_ hk=>⟨trivial,fun e_=>(hk.2) (by rw[e_];rfl)⟩))).1 k_ hk_.symm);have ar:=D 0 _ rfl;(try simp only[show(k91).sz=2 from rfl,Nat.mul_one,Nat.add_zero]at ar);have aw:=E 0;(try simp only[show(k91).sz=2 from rfl,Nat.mul_one,Nat.add_zero]at aw);have aB:=D 1 _ rfl;(try simp only[show(k91).sz=2 from rfl,Nat.mul_one,Nat.add_zero]at aB);have aE:=E 1;(try simp only[show(k91).sz=2 from rfl,Nat.mul_one,Nat.add_zero]at aE);clear aR D E ao ap aq)|((with_reducible refine iw (t:=91) (p:=21) rfl ?_);refine gT (t:=91) (p:=21) (v:= ?vo_w13) (w1:=((q.setCell ⟨d,(a:Int).toNat * 2,none⟩ (.int .i64 g)).setCell ⟨d,(a:Int).toNat * 2+1,none⟩ (z))) ?hg ?ho ?hn ?hr ?_;(case ho=>rfl);(case hg=>rfl);(case hn=>rfl);(case hr=>first|(go_simp;done)|(go_simp;rfl)|(obtain⟨_,_,rfl⟩:=Kd.R_slice m.out;first|(go_simp;done)|(go_simp;rfl)));intro aF hw;have hg:q.grownBy aF (some d):=(by rw[hw];exact L.2);have hp_:Kd.S k91 91 aF w.heap.size (fun _=>True) (.slice (some ⟨d,0,none⟩) c.length Z) I:=(by rw[hw,aO.out];exact L.1);clear L;have a2:=Aside0.mk (hp_);have a3:=Aside0.mk ((by rw[hw];exact aZ (aZ (HB.out) al.out) al.out:Below w.heap.size w aF));clear b;clear HB;clear m;have b:=a2;have HB:=a3;clear a2 a3;clear hg hw hp_))
        go_roundg k1
        case measure=>have:=a0.out;omega
        case rel=>exact⟨(I),(wrap64 (a+1)),(by first|rfl|(simp;done)|(simp[*];done)),H',⟨by have:=a0.out;omega⟩,⟨by(with_reducible repeat(first|apply Kd.S_alloc|apply Kd.S_drewN|apply Kd.S_drew));exact b.out⟩,⟨bl⟩⟩
       rw[if_neg c9]at H
       exact absurd H (by simp)
      rw[if_neg c7]at H
      exact absurd H (by simp)
     rw[if_neg c6]at H
     have a5:decide (a<(l0.length:Int))=false:=decide_eq_false c6
     clear c6
     obtain rfl:=Option.some.inj H;clear H
     go_wp2
     go_ret
     exact⟨_,by first|rfl|(simp[aW,aX]<;>rfl)|(simp[*,aW,aX]<;>rfl),by(with_reducible repeat(first|apply Kd.S_alloc|apply Kd.S_drewN|apply Kd.S_drew));exact b.out,bl⟩
  rw[if_neg c3]at H
  exact absurd H (by simp)
 rw[if_neg c2]at H
 exact absurd H (by simp)
set_option maxHeartbeats 8000000 in
set_option maxRecDepth 100000 in
theorem jc.calls (k:Nat) (c:Int) (i:Int) (x:Option Addr) (y:Nat) (l:List (S47)) (z:Option Addr) (A:Nat) (m:List (S47)) (r1:Int) (r2:Int) (r3:List (S31)) (r4:List (S31)) (w:World) (J:Kd.C k47 w x l.length l) (K:l.length≤y) (L:Kd.C k47 w z m.length m) (M:m.length≤A) (h:jc.f k c i l m=some (r1,r2,r3,r4)):
  Calls Tryz.prog 98 #[.agg #[.int .i64 c, .int .i64 i, .slice x l.length y, .slice z m.length A]] w fun e w' => ∃P T:Value,e= .returned (.agg #[.int .i64 r1, .int .i64 r2,P,T])∧Kd.R k31 31 w' w.heap.size (fun k_=>some k_≠(T:Value).ownBlock) P r3∧Kd.R k31 31 w' w.heap.size (fun k_=>some k_≠(P:Value).ownBlock) T r4∧Below w.heap.size w w' :=by
 have ac:=Tryz.underlying146
 have aq:=Tryz.underlying70
 have U:=Aside0.mk J
 have W:=Aside0.mk K
 clear J K
 have X:=Aside0.mk L
 have Y:=Aside0.mk M
 clear L M
 have HB:=Aside0.mk (Below.refl w.heap.size w)
 have H:((dw.f k l).bind fun j=>((dw.f k m).bind fun n=>(some (c,i,j,n))))=some (r1,r2,r3,r4):=h
 clear h
 obtain⟨j,A2,H⟩:=ob H
 obtain⟨n,A3,H⟩:=ob H
 simp only[Option.some.injEq,Prod.mk.injEq]at H
 obtain⟨rfl,rfl,rfl,rfl⟩:=H
 go_enter Tryz.func98,Tryz.ntmps98
 go_wp2_with (first|((with_reducible refine gd 1 rfl ?_);refine bx 1 #[.int .i64 c, .int .i64 i, .slice x l.length y, .slice z m.length A] 146 ?_;intro ad hg w4 hbox hb;have a:=Aside0.mk hbox;have al:=hz HB hg;replace HB:=hs HB hb;clear hb hbox hg)|((with_reducible refine gd 2 rfl ?_);refine bx 2 #[.int .i64 0, .int .i64 0, .slice none 0 0, .slice none 0 0] 70 ?_;intro d hg w5 hbox hb;have b:=Aside0.mk hbox;have am:=hz HB hg;have B:=nl a hg;have D:=ng a hg;replace a:=kb a hb;replace HB:=hs HB hb;clear hb hbox hg)|((with_reducible refine gd 3 rfl ?_);refine bx 3 #[.int .i64 0, .int .i64 0, .slice none 0 0, .slice none 0 0] 70 ?_;intro o hg w6 hbox hb;have g:=Aside0.mk hbox;have an:=hz HB hg;have E:=nl a hg;have G:=ng a hg;have t:=nl b hg;have I:=ng b hg;replace a:=kb a hb;replace b:=kb b hb;replace HB:=hs HB hb;clear hb hbox hg;have ar:=B.out;have aw:=D.out;have aB:=E.out;have aE:=G.out;have:=cf4 a;have ao:=I.out;have ap:=t.out;have:=cf4 g)|(refine gl (some 12) Tryz.func156 #[.slice x l.length y] rfl ?_;(with_reducible refine(dw.calls k _ _ l j _ (cb U.out) W.out A2.out).mono ?_);rintro e aO ⟨aF,rfl,ho0,hb⟩;refine⟨_,rfl, ?_⟩;have s:=Aside0.mk (Kd.R_lower ho0 (aM bl));replace a:=kq a hb;replace b:=kq b hb;replace g:=kp o #[.int .i64 c, .int .i64 i, .slice none 0 0, .slice none 0 0] 70 hb;replace HB:=hs HB hb;obtain⟨q,r,Z⟩:=Kd.R_slice s.out;subst Z;have:=cf4 g;have:=cf4 a)|(refine gl (some 16) Tryz.func156 #[.slice z m.length A] rfl ?_;(with_reducible refine(dw.calls k _ _ m n _ (cb X.out) Y.out A3.out).mono ?_);rintro e w16 ⟨aL,rfl,ho0,hb⟩;refine⟨_,rfl, ?_⟩;have O:=Aside0.mk (Kd.R_lower (Kd.R_new' ho0 (Kd.R_lt (by(with_reducible repeat(first|apply Kd.R_alloc|apply Kd.R_drewN|apply Kd.R_drew));exact(Kd.R_mono (Kd.R_far (p:=⟨o,2,none⟩) (Kd.R_types s.out g.out (by decide)) (fun _ hk=>hk.2) (.slice q j.length r)) (fun _ h_=>h_.1))))) (aM bl));replace s:=Aside0.mk (Kd.R_elder' (by(with_reducible repeat(first|apply Kd.R_alloc|apply Kd.R_drewN|apply Kd.R_drew));exact(Kd.R_mono (Kd.R_far (p:=⟨o,2,none⟩) (Kd.R_types s.out g.out (by decide)) (fun _ hk=>hk.2) (.slice q j.length r)) (fun _ h_=>h_.1))) (Kd.R_base ho0) hb);replace a:=kq a hb;replace b:=kq b hb;replace g:=kp o #[.int .i64 c, .int .i64 i, .slice q j.length r, .slice none 0 0] 70 hb;replace HB:=hs HB hb;obtain⟨u,v,ab⟩:=Kd.R_slice O.out;subst ab;have:=cf4 g;have:=cf4 b))
 refine bodyPost_ret (results_cell_row rfl _ _ d 70 #[.int .i64 c, .int .i64 i, .slice q j.length r, .slice u n.length v] (0,0) _ rfl (by(with_reducible repeat(first|refine aC ?_ _|refine au ?_|refine aA ?_ _));refine dC (cs:= #[.int .i64 c, .int .i64 i, .slice q j.length r, .slice none 0 0]) ?_ 3 _ rfl;(with_reducible repeat(first|refine aC ?_ _|refine au ?_|refine aA ?_ _));refine dC (cs:= #[.int .i64 c, .int .i64 i, .slice none 0 0, .slice none 0 0]) ?_ 2 _ rfl;(with_reducible repeat(first|refine aC ?_ _|refine au ?_|refine aA ?_ _));refine dC (cs:= #[.int .i64 c, .int .i64 0, .slice none 0 0, .slice none 0 0]) ?_ 1 _ rfl;(with_reducible repeat(first|refine aC ?_ _|refine au ?_|refine aA ?_ _));refine dC (cs:= #[.int .i64 0, .int .i64 0, .slice none 0 0, .slice none 0 0]) ?_ 0 _ rfl;(with_reducible repeat(first|refine aC ?_ _|refine au ?_|refine aA ?_ _));refine fH ?_ t.out _;(with_reducible repeat(first|refine aC ?_ _|refine au ?_|refine aA ?_ _));exact b.out) Tryz.underlying70 rfl (by kernel_rfl)) rfl ?_
 exact⟨_,_,by first|rfl|(simp[aW,aX]<;>rfl)|(simp[*,aW,aX]<;>rfl),by(with_reducible repeat(first|apply Kd.R_alloc|apply Kd.R_drewN|apply Kd.R_drew));exact Kd.R_mono (Kd.R_far (p:=⟨d,3,none⟩) (Kd.R_far (p:=⟨d,2,none⟩) (Kd.R_far (p:=⟨d,1,none⟩) (Kd.R_far (p:=⟨d,0,none⟩) (Kd.R_far (p:=⟨o,3,none⟩) (Kd.R_types (Kd.R_types s.out g.out (by decide)) b.out (by decide)) (fun _ hk=>hk.1.2) (.slice u n.length v)) (fun _ hk=>hk.2) (.int .i64 c)) (fun _ hk=>hk.2) (.int .i64 i)) (fun _ hk=>hk.2) (.slice q j.length r)) (fun _ hk=>hk.2) (.slice u n.length v)) (fun _ hk=>hk.1.1.2),by(with_reducible repeat(first|apply Kd.R_alloc|apply Kd.R_drewN|apply Kd.R_drew));exact Kd.R_mono (Kd.R_far (p:=⟨d,3,none⟩) (Kd.R_far (p:=⟨d,2,none⟩) (Kd.R_far (p:=⟨d,1,none⟩) (Kd.R_far (p:=⟨d,0,none⟩) (Kd.R_far (p:=⟨o,3,none⟩) (Kd.R_types (Kd.R_types O.out g.out (by decide)) b.out (by decide)) (fun _ hk=>hk.1.2) (.slice u n.length v)) (fun _ hk=>hk.2) (.int .i64 c)) (fun _ hk=>hk.2) (.int .i64 i)) (fun _ hk=>hk.2) (.slice q j.length r)) (fun _ hk=>hk.2) (.slice u n.length v)) (fun _ hk=>hk.1.1.2),bl⟩
end Go.Proofs.YteinbmkgenhocaaGreat.P
end
