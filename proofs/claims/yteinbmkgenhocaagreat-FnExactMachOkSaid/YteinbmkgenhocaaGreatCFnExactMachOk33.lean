/- A part of the claim FnExactMachOk. -/
import Derived.Carry
import Derived.Test.YteinbmkgenhocaaGreatCFnExactMachOk32
section
namespace Go.Proofs.YteinbmkgenhocaaGreat.P
open Go.RowKit Go.Proofs.YteinbmkgenhocaaGreatW.PrintWords Go.Proofs.YteinbmkgenhocaaGreatW.PrintLast Go.Proofs.YteinbmkgenhocaaGreatW.PrintMore
attribute [local go_sem] ah ai av ax af ag aj ak
set_option linter.unusedVariables false
set_option linter.unusedSimpArgs false
set_option maxHeartbeats 8000000 in
set_option maxRecDepth 100000 in
theorem bv.calls (k:Nat) (A:Option Addr) (B:Nat) (l:List (S126)) (L:Option Addr) (M:Nat) (s:List (S104)) (v:Int) (x:Int) (O:Option Addr) (P:Nat) (t:List Int) (y:Int) (z:Int) (T:Option Addr) (U:Nat) (p:List (S113)) (W:Option Addr) (X:Nat) (u:List (S57)) (ao:Option Addr) (Y:Nat) (a:List (S181)) (r:Bool) (w:World) (aO:Kd.C eB w A l.length l) (aP:l.length≤B) (aR:Kd.C eD w L s.length s) (aS:s.length≤M) (a0:Kd.C (Kd.int .i64) w O t.length t) (a1:t.length≤P) (a2:Kd.C fG w T p.length p) (a3:p.length≤U) (a4:Kd.C k57 w W u.length u) (a5:u.length≤X) (a6:Kd.C fD w ao a.length a) (a7:a.length≤Y) (h:bv.f k l s v x t y z p u a=some r):
  Calls Tryz.prog 82 #[.agg #[.slice A l.length B, .slice L s.length M], .agg #[.int .i64 v, .int .i64 x, .slice O t.length P, .int .i64 y, .int .i64 z, .slice T p.length U, .slice W u.length X, .slice ao a.length Y]] w fun e w' =>e= .returned (.bool r)∧Below w.heap.size w w' :=by
 have dT:=Tryz.underlying38
 have b2:=Tryz.underlying104
 have b3:=Tryz.underlying181
 have D:=Aside0.mk aO
 have E:=Aside0.mk aP
 clear aO aP
 have b4:=Aside0.mk aR
 have b5:=Aside0.mk aS
 clear aR aS
 have b6:=Aside0.mk a0
 have b7:=Aside0.mk a1
 clear a0 a1
 have b8:=Aside0.mk a2
 have b9:=Aside0.mk a3
 clear a2 a3
 have ca:=Aside0.mk a4
 have cc:=Aside0.mk a5
 clear a4 a5
 have bj:=Aside0.mk a6
 have cd:=Aside0.mk a7
 clear a6 a7
 have HB:=Aside0.mk (Below.refl w.heap.size w)
 have H:(if(a.length:Int)>2 then(some false)else(bv.l0 k a (a.length:Int) 0 l s v x t y z p u a))=some r:=h
 clear h
 by_cases c3:(a.length:Int)>2
 ·rw[if_pos c3]at H
  have br:decide (2<(a.length:Int))=true:=decide_eq_true c3
  have bs:decide (2<a.length)=true:=decide_eq_true (by omega)
  clear c3
  obtain rfl:=Option.some.inj H;clear H
  go_enter Tryz.func82,Tryz.ntmps82
  go_wp2
  go_ret
  exact fin
 rw[if_neg c3]at H
 have br:decide (2<(a.length:Int))=false:=decide_eq_false c3
 have bs:decide (2<a.length)=false:=decide_eq_false (by omega)
 clear c3
 have H' :=Aside0.mk H
 clear H
 go_enter Tryz.func82,Tryz.ntmps82
 go_wp2_with (first|((with_reducible refine gd 2 rfl ?_);(try(refine aU (by rfl) ?_;dsimp only));refine bx 2 #[.slice A l.length B, .slice L s.length M] 38 ?_;intro ap hg w8 hbox hb;have j:=Aside0.mk hbox;have ce:=hz HB hg;replace HB:=hs HB hb;clear hb hbox hg)|((with_reducible refine gd 3 rfl ?_);(try(refine aU (by rfl) ?_;dsimp only));refine bx 3 #[.int .i64 v, .int .i64 x, .slice O t.length P, .int .i64 y, .int .i64 z, .slice T p.length U, .slice W u.length X, .slice ao a.length Y] 104 ?_;intro aq hg w9 hbox hb;have m:=Aside0.mk hbox;have cf:=hz HB hg;have n:=nl j hg;have o:=ng j hg;replace j:=kb j hb;replace HB:=hs HB hb;clear hb hbox hg;have cg:=o.out;have ch:=n.out;have:=cf8 m))
 go_loopg [14] k (fun kq v14 w' => ∃(b:Int),v14= .int .i64 b∧Aside0 (bv.l0 kq a (a.length:Int) b l s v x t y z p u a=some r)∧Aside0 (kq≤k)∧Aside0 (w'.heap[ap]? =some (.cells #[(.slice A l.length B),(.slice L s.length M)] 38 (0,0)))∧Aside0 (w'.heap[aq]? =some (.cells #[.int .i64 v, .int .i64 x,(.slice O t.length P), .int .i64 y, .int .i64 z,(.slice T p.length U),(.slice W u.length X),(.slice ao a.length Y)] 104 (0,0)))∧Aside0 (Below w.heap.size w w'))
 case atStart=>exact⟨(0),(by first|rfl|(simp;done)|(simp[*];done)),H',⟨Nat.le_refl _⟩,kk j,kk m,⟨bl⟩⟩
 case round =>
  clear H'
  obtain⟨b,rfl,HA,Z,j,m,HB⟩:=hrel
  cases gk with
  |zero=>exact absurd HA.out (by simp[bv.l0])
  | succ k1 =>
   have H:=HA.out
   clear HA
   simp only[bv.l0]at H
   by_cases c12:b<(a.length:Int)
   ·rw [if_pos c12]at H
    have bk:decide (b<(a.length:Int))=true:=decide_eq_true c12
    clear c12
    by_cases c13:0≤b
    ·rw [if_pos c13]at H
     have ci:decide (0≤b)=true:=decide_eq_true c13
     clear c13
     by_cases c14:b<(a.length:Int)
     ·rw [if_pos c14]at H
      have cj:decide (b<(a.length:Int))=true:=decide_eq_true c14
      clear c14
      have aw:=Aside0.mk H
      clear H
      have aB:0≤(b:Int):=od
      have aE:b<(a.length:Int):=od
      obtain⟨a8,bt,ab,ac,ad,al⟩:=jL bj.out b aB aE
      cases bt
      obtain⟨ab,ac,ad,al⟩:=hc4 HB ab ac ad al
      replace aB:=eq_true aB
      replace aE:=eq_true aE
      go_upto_region 6 with(first|((with_reducible refine gd 6 rfl ?_);(try(refine aU (by rfl) ?_;dsimp only));refine bx 6 #[.int .i64 0, .int .i64 0, .int .i64 0, .int .i64 0] 181 ?_;intro a9 hg w16 hbox hb;have q:=Aside0.mk hbox;have ck:=hz HB hg;have c:=nl j hg;have d:=ng j hg;have g:=nl m hg;have i:=ng m hg;replace j:=kb j hb;replace m:=kb m hb;replace HB:=hs HB hb;clear hb hbox hg;have cl:=d.out;have cm:=c.out;have cn:=i.out;have co:=g.out;have:=cf4 q))
      (try simp only[Act.put,List.setIfInBounds_toArray,List.set_cons_zero,List.set_cons_succ])
      go_cut [41] (fun v41 wc=> ∃(kq:Nat) (G:Bool),v41= .bool G∧Aside0 (bv.j1 kq a (a.length:Int) b G l s v x t y z p u a ((aG a b).f0) ((aG a b).f1) ((aG a b).f2) ((aG a b).f3)=some r)∧Aside0 (kq≤k1)∧Aside0 (wc.heap[ap]? =some (.cells #[(.slice A l.length B),(.slice L s.length M)] 38 (0,0)))∧Aside0 (wc.heap[aq]? =some (.cells #[.int .i64 v, .int .i64 x,(.slice O t.length P), .int .i64 y, .int .i64 z,(.slice T p.length U),(.slice W u.length X),(.slice (some a8) a.length Y)] 104 (0,0)))∧Aside0 (wc.heap[a9]? =some (.cells #[.int .i64 ((aG a b).f0), .int .i64 ((aG a b).f1), .int .i64 ((aG a b).f2), .int .i64 ((aG a b).f3)] 181 (0,0)))∧Aside0 (Below w.heap.size w wc))
      case first=>
       have H:=aw.out
       clear aw
       by_cases c20:((aG a b).f0)<0
       ·rw[if_pos c20]at H
        have I:decide (((aG a b).f0)<0)=true:=decide_eq_true c20
        clear c20
        (first|rw[I]|(simp only[bq,bu];rw[I])|skip)
        have H' :=Aside0.mk H
        clear H
        have cp:=d.out
        have cq:=c.out
        have cr:=i.out
        have cs:=g.out
        have:=cf4 q
        go_wp2
        go_meet
        case rel=>exact⟨_,(true),(by first|rfl|(simp;done)|(simp[*];done)),H',⟨by have:=Z.out;first|omega|exact Nat.le_refl _⟩,kf,kf,kf,⟨bl⟩⟩
       rw[if_neg c20]at H
       have I:decide (((aG a b).f0)<0)=false:=decide_eq_false c20
       clear c20
       (first|rw[I]|(simp only[bq,bu];rw[I])|skip)
       by_cases c24:((aG a b).f0)≥(p.length:Int)
       ·rw[if_pos c24]at H
        have bm:decide ((p.length:Int)≤((aG a b).f0))=true:=decide_eq_true c24
        clear c24
        have H' :=Aside0.mk H
        clear H
        have ct:=d.out
        have cv:=c.out
        have cw:=i.out
        have cx:=g.out
        have:=cf4 q
        have cy:=o.out
        have cA:=n.out
        have:=cf8 m
        go_wp2
        go_meet
        case rel=>exact⟨_,(true),(by first|rfl|(simp;done)|(simp[*];done)),H',⟨by have:=Z.out;first|omega|exact Nat.le_refl _⟩,kf,kf,kf,⟨bl⟩⟩
       rw[if_neg c24]at H
       have bm:decide ((p.length:Int)≤((aG a b).f0))=false:=decide_eq_false c24
       clear c24
       by_cases am:((aG a b).f2)<0
       ·rw[if_pos am]at H
        have bo:decide (((aG a b).f2)<0)=true:=decide_eq_true am
        clear am
        have H' :=Aside0.mk H
        clear H
        have cC:=d.out
        have cD:=c.out
        have cE:=i.out
        have cF:=g.out
        have:=cf4 q
        have cG:=o.out
        have cH:=n.out
        have:=cf8 m
        go_wp2
        go_meet
        case rel=>exact⟨_,(true),(by first|rfl|(simp;done)|(simp[*];done)),H',⟨by have:=Z.out;first|omega|exact Nat.le_refl _⟩,kf,kf,kf,⟨bl⟩⟩
       rw[if_neg am]at H
       have bo:decide (((aG a b).f2)<0)=false:=decide_eq_false am
       clear am
       have H' :=Aside0.mk H
       clear H
       have cI:=d.out
       have cJ:=c.out
       have cL:=i.out
       have cM:=g.out
       have:=cf4 q
       have cN:=o.out
       have cP:=n.out
       have:=cf8 m
       go_wp2
       go_meet
       case rel=>exact⟨_,(decide (((aG a b).f2)≥(p.length:Int))),(by first|rfl|(simp;done)|(simp[*];done)),H',⟨by have:=Z.out;first|omega|exact Nat.le_refl _⟩,kf,kf,kf,⟨bl⟩⟩
      case rest=>
       clear aw
       obtain⟨kq,G,rfl,HA,ar,j,m,q,HB⟩:=hcut
       cases kq with
       |zero=>exact absurd HA.out (by simp[bv.j1])
       | succ bw=>
        have H:=HA.out
        clear HA
        simp only[bv.j1]at H
        by_cases ba:G=true
        ·subst ba
         replace H:=it H
         obtain rfl:=Option.some.inj H;clear H
         go_wp2
         go_ret
         exact fin
        replace ba:=Bool.eq_false_iff.mpr ba
        subst ba
        replace H:=ie H
        have aF:=Aside0.mk H
        clear H
        go_upto_region 8 with(fail)
        go_cut [54] (fun v54 wc=> ∃(kq:Nat) (J:Bool),v54= .bool J∧Aside0 (bv.j2 kq a (a.length:Int) b J l s v x t y z p u a ((aG a b).f0) ((aG a b).f1) ((aG a b).f2) ((aG a b).f3)=some r)∧Aside0 (kq≤bw)∧Aside0 (wc.heap[ap]? =some (.cells #[(.slice A l.length B),(.slice L s.length M)] 38 (0,0)))∧Aside0 (wc.heap[aq]? =some (.cells #[.int .i64 v, .int .i64 x,(.slice O t.length P), .int .i64 y, .int .i64 z,(.slice T p.length U),(.slice W u.length X),(.slice (some a8) a.length Y)] 104 (0,0)))∧Aside0 (wc.heap[a9]? =some (.cells #[.int .i64 ((aG a b).f0), .int .i64 ((aG a b).f1), .int .i64 ((aG a b).f2), .int .i64 ((aG a b).f3)] 181 (0,0)))∧Aside0 (Below w.heap.size w wc))
        case first=>
         have H:=aF.out
         clear aF
         by_cases an:((aG a b).f1)≤((aG a b).f0)
         ·rw[if_pos an]at H
          have K:decide (((aG a b).f1)≤((aG a b).f0))=true:=decide_eq_true an
          clear an
          (first|rw[K]|(simp only[bq,bu];rw[K])|skip)
          have H' :=Aside0.mk H
          clear H
          have cQ:=d.out
          have cR:=c.out
          have cS:=i.out
          have cT:=g.out
          have:=cf4 q
          go_wp2
          go_meet
          case rel=>exact⟨_,(true),(by first|rfl|(simp;done)|(simp[*];done)),H',⟨by have:=Z.out;have:=ar.out;first|omega|exact Nat.le_refl _⟩,kk j,kk m,kk q,⟨bl⟩⟩
         rw[if_neg an]at H
         have K:decide (((aG a b).f1)≤((aG a b).f0))=false:=decide_eq_false an
         clear an
         (first|rw[K]|(simp only[bq,bu];rw[K])|skip)
         have H' :=Aside0.mk H
         clear H
         have cU:=d.out
         have cV:=c.out
         have cW:=i.out
         have cX:=g.out
         have:=cf4 q
         have cY:=o.out
         have c0:=n.out
         have:=cf8 m
         go_wp2
         go_meet
         case rel=>exact⟨_,(decide (((aG a b).f1)>(p.length:Int))),(by first|rfl|(simp;done)|(simp[*];done)),H',⟨by have:=Z.out;have:=ar.out;first|omega|exact Nat.le_refl _⟩,kk j,kk m,kk q,⟨bl⟩⟩
        case rest=>
         clear aF
         obtain⟨kq,J,rfl,HA,be,j,m,q,HB⟩:=hcut
         cases kq with
         |zero=>exact absurd HA.out (by simp[bv.j2])
         | succ aL=>
          have H:=HA.out
          clear HA
          simp only[bv.j2]at H
          by_cases bb:J=true
          ·subst bb
           replace H:=it H
           obtain rfl:=Option.some.inj H;clear H
           go_wp2
           go_ret
           exact fin
          replace bb:=Bool.eq_false_iff.mpr bb
          subst bb
          replace H:=ie H
          obtain⟨b0,bh,H⟩:=ob H
          by_cases bc:b0=true
          ·subst bc
           replace H:=it H
           obtain⟨b1,bp,H⟩:=ob H
           by_cases bd:b1=true
           ·subst bd
            replace H:=it H
            have H' :=Aside0.mk H
            clear H
            have c1:=n.out
            have da:=o.out
            have db:=c.out
            have dc:=d.out
            have:=cf2 j
            have dd:=i.out
            have de:=g.out
            have:=cf4 q
            go_wp2_with (first|(refine gl (some 59) Tryz.func146 #[.slice A l.length B, .int .i64 ((aG a b).f3)] rfl ?_;(with_reducible refine(dK.calls _ _ l ((aG a b).f3) true _ (cb D.out) E.out bh.out).mono ?_);rintro e w' ⟨rfl,⟨nd,rfl⟩⟩;refine⟨_,rfl, ?_⟩)|(go_at_call 149;(with_reducible refine(dL.calls aL _ _ l ((aG a b).f3) 1 true _ (cb D.out) E.out bp.out).mono ?_);rintro e w' ⟨rfl,⟨nd,rfl⟩⟩))
            go_roundg aL
            case measure=>have:=Z.out;have:=ar.out;have:=be.out;omega
            case rel=>exact⟨(wrap64 (b+1)),(by first|rfl|(simp;done)|(simp[*];done)),H',⟨by have:=Z.out;have:=ar.out;have:=be.out;omega⟩,kk j,kk m,⟨bl⟩⟩
           replace bd:=Bool.eq_false_iff.mpr bd
           subst bd
           replace H:=ie H
           obtain rfl:=Option.some.inj H;clear H
           have dg:=n.out
           have dj:=o.out
           have dk:=c.out
           have dl:=d.out
           have:=cf2 j
           have dp:=i.out
           have dq:=g.out
           have:=cf4 q
           go_wp2_with (first|(refine gl (some 59) Tryz.func146 #[.slice A l.length B, .int .i64 ((aG a b).f3)] rfl ?_;(with_reducible refine(dK.calls _ _ l ((aG a b).f3) true _ (cb D.out) E.out bh.out).mono ?_);rintro e w' ⟨rfl,⟨nd,rfl⟩⟩;refine⟨_,rfl, ?_⟩)|(go_at_call 149;(with_reducible refine(dL.calls aL _ _ l ((aG a b).f3) 1 false _ (cb D.out) E.out bp.out).mono ?_);rintro e w' ⟨rfl,⟨nd,rfl⟩⟩))
           go_ret
           exact fin
          replace bc:=Bool.eq_false_iff.mpr bc
          subst bc
          replace H:=ie H
          obtain rfl:=Option.some.inj H;clear H
          have dr:=n.out
          have ds:=o.out
          have dt:=c.out
          have du:=d.out
          have:=cf2 j
          have dv:=i.out
          have dy:=g.out
          have:=cf4 q
          go_wp2_with (first|(refine gl (some 59) Tryz.func146 #[.slice A l.length B, .int .i64 ((aG a b).f3)] rfl ?_;(with_reducible refine(dK.calls _ _ l ((aG a b).f3) false _ (cb D.out) E.out bh.out).mono ?_);rintro e w' ⟨rfl,⟨nd,rfl⟩⟩;refine⟨_,rfl, ?_⟩))
          go_ret
          exact fin
     rw[if_neg c14]at H
     exact absurd H (by simp)
    rw[if_neg c13]at H
    exact absurd H (by simp)
   rw[if_neg c12]at H
   have bk:decide (b<(a.length:Int))=false:=decide_eq_false c12
   clear c12
   obtain rfl:=Option.some.inj H;clear H
   go_wp2
   go_ret
   exact fin
set_option maxHeartbeats 8000000 in
set_option maxRecDepth 100000 in
theorem slices_Equal_int_int.calls (k:Nat) (A0:Option Addr) (c0:Nat) (l0:List Int) (A1:Option Addr) (c1:Nat) (l1:List Int) (r:Bool) (w:World) (hr0:Kd.C (Kd.int .i64) w A0 l0.length l0) (hc0:l0.length≤c0) (hr1:Kd.C (Kd.int .i64) w A1 l1.length l1) (hc1:l1.length≤c1) (h:slices_Equal_int_int.f k l0 l1=some r):
  Calls Tryz.prog 150 #[.slice A0 l0.length c0, .slice A1 l1.length c1] w fun e w' =>e= .returned (.bool r)∧Drawn0 w w' :=by
 have p:=Aside0.mk hr0
 have D:=Aside0.mk hc0
 clear hr0 hc0
 have HR1:=Aside0.mk hr1
 have E:=Aside0.mk hc1
 clear hr1 hc1
 have H:(if(l0.length:Int)=(l1.length:Int)then(slices_Equal_int_int.l0 k l0 l1 (l0.length:Int) 0)else(some false))=some r:=h
 clear h
 by_cases c3:(l0.length:Int)=(l1.length:Int)
 ·rw [if_pos c3]at H
  have s:=beq_iff_eq.mpr c3
  have t:=bne_eq_false_iff_eq.mpr c3
  have u:(l0.length==l1.length)=true:=by first|simpa using c3|(simp at c3⊢;omega)
  clear c3
  have H' :=Aside0.mk H
  clear H
  go_enter Tryz.func150,Tryz.ntmps150
  go_wp2
  repeat(go_quiet (fail);try go_wp2)
  go_loopg [13] k (fun kq v13 w' => ∃(a:Int),v13= .int .i64 a∧Aside0 (slices_Equal_int_int.l0 kq l0 l1 (l0.length:Int) a=some r)∧Aside0 (kq≤k)∧Drawn0 w w')
  case atStart=>exact⟨(0),(by first|rfl|(simp;done)|(simp[*];done)),H',⟨Nat.le_refl _⟩,by repeat(first|exact Drawn0.refl _|apply Drawn0.step)⟩
  case round=>
   clear H'
   obtain⟨a,rfl,HA,q,⟨m1,rfl⟩⟩:=hrel
   cases gk with
   |zero=>exact absurd HA.out (by simp[slices_Equal_int_int.l0])
   | succ k1=>
    have H:=HA.out
    clear HA
    simp only[slices_Equal_int_int.l0]at H
    by_cases c4:a<(l0.length:Int)
    ·rw [if_pos c4]at H
     have v:decide (a<(l0.length:Int))=true:=decide_eq_true c4
     clear c4
     by_cases c5:0≤a
     ·rw [if_pos c5]at H
      have z:decide (0≤a)=true:=decide_eq_true c5
      clear c5
      by_cases c6:a<(l0.length:Int)
      ·rw[if_pos c6]at H
       have A:decide (a<(l0.length:Int))=true:=decide_eq_true c6
       clear c6
       by_cases c7:a<(l1.length:Int)
       ·rw[if_pos c7]at H
        have B:decide (a<(l1.length:Int))=true:=decide_eq_true c7
        clear c7
        by_cases c8:(rd l0 a)=(rd l1 a)
        ·rw[if_pos c8]at H
         have x:=beq_iff_eq.mpr c8
         have y:=bne_eq_false_iff_eq.mpr c8
         clear c8
         have H' :=Aside0.mk H
         clear H
         have b:0≤(a:Int):=od
         have c:a<(l0.length:Int):=od
         obtain⟨n,i,l⟩:=Kd.at_int p.out a b c
         cases i
         replace b:=eq_true b
         replace c:=eq_true c
         have d:0≤(a:Int):=od
         have g:a<(l1.length:Int):=od
         obtain⟨o,j,m⟩:=Kd.at_int HR1.out a d g
         cases j
         replace d:=eq_true d
         replace g:=eq_true g
         go_wp2
         repeat(go_quiet (fail);try go_wp2)
         go_roundg k1
         case measure=>have:=q.out;omega
         case rel=>exact⟨(wrap64 (a+1)),(by first|rfl|(simp;done)|(simp[*];done)),H',⟨by have:=q.out;omega⟩,by repeat(first|exact Drawn0.refl _|apply Drawn0.step)⟩
        rw[if_neg c8]at H
        have x:=beq_eq_false_iff_ne.mpr c8
        have y:=bne_iff_ne.mpr c8
        obtain rfl:=Option.some.inj H;clear H
        have b:0≤(a:Int):=od
        have c:a<(l0.length:Int):=od
        obtain⟨n,i,l⟩:=Kd.at_int p.out a b c
        cases i
        replace b:=eq_true b
        replace c:=eq_true c
        have d:0≤(a:Int):=od
        have g:a<(l1.length:Int):=od
        obtain⟨o,j,m⟩:=Kd.at_int HR1.out a d g
        cases j
        replace d:=eq_true d
        replace g:=eq_true g
        go_wp2
        repeat(go_quiet (fail);try go_wp2)
        go_ret
        exact⟨by first|rfl|(simp;done)|(simp[*];done),by repeat(first|exact Drawn0.refl _|apply Drawn0.step)⟩
       rw[if_neg c7]at H
       exact absurd H (by simp)
      rw[if_neg c6]at H
      exact absurd H (by simp)
     rw[if_neg c5]at H
     exact absurd H (by simp)
    rw[if_neg c4]at H
    have v:decide (a<(l0.length:Int))=false:=decide_eq_false c4
    clear c4
    obtain rfl:=Option.some.inj H;clear H
    go_wp2
    repeat(go_quiet (fail);try go_wp2)
    go_ret
    exact⟨by first|rfl|(simp;done)|(simp[*];done),by repeat(first|exact Drawn0.refl _|apply Drawn0.step)⟩
 rw[if_neg c3]at H
 have s:=beq_eq_false_iff_ne.mpr c3
 have t:=bne_iff_ne.mpr c3
 have u:(l0.length==l1.length)=false:=by first|simpa using c3|(simp at c3⊢;omega)
 obtain rfl:=Option.some.inj H;clear H
 go_enter Tryz.func150,Tryz.ntmps150
 go_wp2
 repeat(go_quiet (fail);try go_wp2)
 go_ret
 exact⟨by first|rfl|(simp;done)|(simp[*];done),by repeat(first|exact Drawn0.refl _|apply Drawn0.step)⟩
set_option maxHeartbeats 8000000 in
set_option maxRecDepth 100000 in
theorem bO.calls (k:Nat) (s:Option Addr) (t:Nat) (n:List (S126)) (a5:Option Addr) (A:Nat) (a:List (S104)) (r:Bool) (w:World) (br:Kd.C eB w s n.length n) (bs:n.length≤t) (bt:Kd.C eD w a5 a.length a) (bw:a.length≤A) (h:bO.f k n a=some r):
  Calls Tryz.prog 83 #[.agg #[.slice s n.length t, .slice a5 a.length A]] w fun e w' =>e= .returned (.bool r)∧Below w.heap.size w w' :=by
 have eq:=Tryz.underlying38
 have cJ:=Tryz.underlying104
 have D:=Aside0.mk br
 have E:=Aside0.mk bs
 clear br bs
 have b0:=Aside0.mk bt
 have cL:=Aside0.mk bw
 clear bt bw
 have HB:=Aside0.mk (Below.refl w.heap.size w)
 have H:(bO.l0 k a (a.length:Int) 0 n a)=some r:=h
 clear h
 have H' :=Aside0.mk H
 clear H
 go_enter Tryz.func83,Tryz.ntmps83
 go_wp2_with (first|((with_reducible refine gd 1 rfl ?_);refine bx 1 #[.slice s n.length t, .slice a5 a.length A] 38 ?_;intro a6 hg w2 hbox hb;have d:=Aside0.mk hbox;have cM:=hz HB hg;replace HB:=hs HB hb;clear hb hbox hg;have:=cf2 d))
 go_loopg [10] k (fun kq v10 w' => ∃(b:Int),v10= .int .i64 b∧Aside0 (bO.l0 kq a (a.length:Int) b n a=some r)∧Aside0 (kq≤k)∧Aside0 (w'.heap[a6]? =some (.cells #[(.slice s n.length t),(.slice a5 a.length A)] 38 (0,0)))∧Aside0 (Below w.heap.size w w'))
 case atStart=>exact⟨(0),(by first|rfl|(simp;done)|(simp[*];done)),H',⟨Nat.le_refl _⟩,kk d,⟨bl⟩⟩
 case round =>
  clear H'
  obtain⟨b,rfl,HA,v,d,HB⟩:=hrel
  cases gk with
  |zero=>exact absurd HA.out (by simp[bO.l0])
  | succ k1 =>
   have H:=HA.out
   clear HA
   simp only[bO.l0]at H
   by_cases c4:b<(a.length:Int)
   ·rw [if_pos c4]at H
    have cp:decide (b<(a.length:Int))=true:=decide_eq_true c4
    clear c4
    by_cases c5:0≤b
    ·rw [if_pos c5]at H
     have er:decide (0≤b)=true:=decide_eq_true c5
     clear c5
     by_cases c6:b<(a.length:Int)
     ·rw [if_pos c6]at H
      have es:decide (b<(a.length:Int))=true:=decide_eq_true c6
      clear c6
      have H' :=Aside0.mk H
      clear H
      have bj:0≤(b:Int):=od
      have bk:b<(a.length:Int):=od
      obtain⟨a7,a8,a9,ba,bb,bc,bd,be,bh,cq,J,K,L,M,O,P,T,U,W,X,Y,Z,ab,ac,ad,al⟩:=cu b0.out b bj bk
      cases cq
      obtain⟨J,K,L,M,O,P,T,U⟩:=hc8 HB J K L M O P T U
      have am:=Aside0.mk X
      have an:=Aside0.mk W
      clear X W
      have cv:=Aside0.mk Z
      have cw:=Aside0.mk Y
      clear Z Y
      have cx:=Aside0.mk ac
      have cy:=Aside0.mk ab
      clear ac ab
      have cA:=Aside0.mk al
      have cC:=Aside0.mk ad
      clear al ad
      replace bj:=eq_true bj
      replace bk:=eq_true bk
      go_wp2_with (first|((with_reducible refine gd 4 rfl ?_);refine bx 4 #[.int .i64 0, .int .i64 0, .slice none 0 0, .int .i64 0, .int .i64 0, .slice none 0 0, .slice none 0 0, .slice none 0 0] 104 ?_;intro b1 hg w7 hbox hb;have g:=Aside0.mk hbox;have cN:=hz HB hg;have i:=nl d hg;have j:=ng d hg;replace d:=kb d hb;replace HB:=hs HB hb;clear hb hbox hg;have et:=j.out;have ev:=i.out;have:=cf8 g;have:=cf2 d))
      go_loopg [18] k1 (fun kq v18 w' => ∃(c:Int),v18= .int .i64 c∧Aside0 (bO.l1 kq b a (a.length:Int) b a (a.length:Int) c n a ((aa a b).f0) ((aa a b).f1) ((aa a b).f2) ((aa a b).f3) ((aa a b).f4) ((aa a b).f5) ((aa a b).f6) ((aa a b).f7)=some r)∧Aside0 (kq≤k1)∧Aside0 (w'.heap[a6]? =some (.cells #[(.slice s n.length t),(.slice (some a7) a.length A)] 38 (0,0)))∧Aside0 (w'.heap[b1]? =some (.cells #[.int .i64 ((aa a b).f0), .int .i64 ((aa a b).f1),(.slice a8 ((aa a b).f2).length a9), .int .i64 ((aa a b).f3), .int .i64 ((aa a b).f4),(.slice ba ((aa a b).f5).length bb),(.slice bc ((aa a b).f6).length bd),(.slice be ((aa a b).f7).length bh)] 104 (0,0)))∧Aside0 (Below w.heap.size w w'))
      case atStart=>exact⟨(0),(by first|rfl|(simp;done)|(simp[*];done)),H',⟨Nat.le_refl _⟩,kf,kf,⟨bl⟩⟩
      case round=>
       clear H'
       obtain⟨c,rfl,HA,x,d,g,HB⟩:=hrel
       cases gk with
       |zero=>exact absurd HA.out (by simp[bO.l1])
       | succ k2=>
        have H:=HA.out
        clear HA
        simp only[bO.l1]at H
        by_cases c11:c<(a.length:Int)
        ·rw [if_pos c11]at H
         have ce:decide (c<(a.length:Int))=true:=decide_eq_true c11
         clear c11
         by_cases c12:0≤c
         ·rw [if_pos c12]at H
          have cP:decide (0≤c)=true:=decide_eq_true c12
          clear c12
          by_cases c13:c<(a.length:Int)
          ·rw [if_pos c13]at H
           have cQ:decide (c<(a.length:Int))=true:=decide_eq_true c13
           clear c13
           have bm:=Aside0.mk H
           clear H
           have bo:0≤(c:Int):=od
           have bp:c<(a.length:Int):=od
           obtain⟨cf,b5,b6,b7,b8,b9,ca,cc,cd,cr,ao,ap,aq,ar,aw,aB,aE,aF,aL,aO,aP,aR,aS,a0,a1,a2⟩:=cu b0.out c bo bp
           obtain rfl:a7=cf:=(by injection cr)
           obtain⟨ao,ap,aq,ar,aw,aB,aE,aF⟩:=hc8 HB ao ap aq ar aw aB aE aF
           have a3:=Aside0.mk aO
           have a4:=Aside0.mk aL
           clear aO aL
           have cD:=Aside0.mk aR
           have cE:=Aside0.mk aP
           clear aR aP
           have cF:=Aside0.mk a0
           have cG:=Aside0.mk aS
           clear a0 aS
           have cH:=Aside0.mk a2
           have cI:=Aside0.mk a1
           clear a2 a1
           replace bo:=eq_true bo
           replace bp:=eq_true bp
           go_upto_region 7 with(first|((with_reducible refine gd 6 rfl ?_);refine bx 6 #[.int .i64 0, .int .i64 0, .slice none 0 0, .int .i64 0, .int .i64 0, .slice none 0 0, .slice none 0 0, .slice none 0 0] 104 ?_;intro cg hg ew hbox hb;have q:=Aside0.mk hbox;have cR:=hz HB hg;have o:=nl d hg;have p:=ng d hg;have l:=nl g hg;have m:=ng g hg;replace d:=kb d hb;replace g:=kb g hb;replace HB:=hs HB hb;clear hb hbox hg;have cS:=p.out;have cT:=o.out;have cU:=m.out;have cV:=l.out;have:=cf8 q))
           (try simp only[Act.put,List.setIfInBounds_toArray,List.set_cons_zero,List.set_cons_succ])
           go_cut [42] (fun v42 wc=> ∃(kq:Nat) (y:Bool),v42= .bool y∧Aside0 (bO.j2 kq b a (a.length:Int) b a (a.length:Int) c y n a ((aa a b).f0) ((aa a b).f1) ((aa a b).f2) ((aa a b).f3) ((aa a b).f4) ((aa a b).f5) ((aa a b).f6) ((aa a b).f7) ((aa a c).f0) ((aa a c).f1) ((aa a c).f2) ((aa a c).f3) ((aa a c).f4) ((aa a c).f5) ((aa a c).f6) ((aa a c).f7)=some r)∧Aside0 (kq≤k2)∧Aside0 (wc.heap[a6]? =some (.cells #[(.slice s n.length t),(.slice (some a7) a.length A)] 38 (0,0)))∧Aside0 (wc.heap[b1]? =some (.cells #[.int .i64 ((aa a b).f0), .int .i64 ((aa a b).f1),(.slice a8 ((aa a b).f2).length a9), .int .i64 ((aa a b).f3), .int .i64 ((aa a b).f4),(.slice ba ((aa a b).f5).length bb),(.slice bc ((aa a b).f6).length bd),(.slice be ((aa a b).f7).length bh)] 104 (0,0)))∧Aside0 (wc.heap[cg]? =some (.cells #[.int .i64 ((aa a c).f0), .int .i64 ((aa a c).f1),(.slice b5 ((aa a c).f2).length b6), .int .i64 ((aa a c).f3), .int .i64 ((aa a c).f4),(.slice b7 ((aa a c).f5).length b8),(.slice b9 ((aa a c).f6).length ca),(.slice cc ((aa a c).f7).length cd)] 104 (0,0)))∧Aside0 (Below w.heap.size w wc))
           case first=>
            have H:=bm.out
            clear bm
            by_cases c19:b=c
            ·rw[if_pos c19]at H
             have z:=beq_iff_eq.mpr c19
             have ch:=bne_eq_false_iff_eq.mpr c19
             clear c19
             (first|rw[z]|(simp only[bq,bu];rw[z])|skip)
             have H' :=Aside0.mk H
             clear H
             go_wp2
             go_meet
             case rel=>exact⟨_,(true),(by first|rfl|(simp;done)|(simp[*];done)),H',⟨by have:=v.out;have:=x.out;first|omega|exact Nat.le_refl _⟩,kf,kf,kf,⟨bl⟩⟩
            rw[if_neg c19]at H
            have z:=beq_eq_false_iff_ne.mpr c19
            have ch:=bne_iff_ne.mpr c19
            (first|rw[z]|(simp only[bq,bu];rw[z])|skip)
            by_cases c20:((aa a b).f0)<0
            ·rw[if_pos c20]at H
             have ci:decide (((aa a b).f0)<0)=true:=decide_eq_true c20
             clear c20
             have H' :=Aside0.mk H
             clear H
             have cW:=j.out
             have cX:=i.out
             have cY:=l.out
             have c0:=m.out
             have:=cf8 g
             go_wp2
             go_meet
             case rel=>exact⟨_,(true),(by first|rfl|(simp;done)|(simp[*];done)),H',⟨by have:=v.out;have:=x.out;first|omega|exact Nat.le_refl _⟩,kf,kf,kf,⟨bl⟩⟩
            rw[if_neg c20]at H
            have ci:decide (((aa a b).f0)<0)=false:=decide_eq_false c20
            clear c20
            by_cases c24:((aa a c).f0)<0
            ·rw[if_pos c24]at H
             have cj:decide (((aa a c).f0)<0)=true:=decide_eq_true c24
             clear c24
             have H' :=Aside0.mk H
             clear H
             have c1:=j.out
             have da:=i.out
             have db:=l.out
             have dc:=m.out
             have:=cf8 g
             have dd:=p.out
             have de:=o.out
             have:=cf8 q
             go_wp2
             go_meet
             case rel=>exact⟨_,(true),(by first|rfl|(simp;done)|(simp[*];done)),H',⟨by have:=v.out;have:=x.out;first|omega|exact Nat.le_refl _⟩,kf,kf,kf,⟨bl⟩⟩
            rw[if_neg c24]at H
            have cj:decide (((aa a c).f0)<0)=false:=decide_eq_false c24
            clear c24
            have H' :=Aside0.mk H
            clear H
            have dg:=j.out
            have dj:=i.out
            have dk:=l.out
            have dl:=m.out
            have:=cf8 g
            have dp:=p.out
            have dq:=o.out
            have:=cf8 q
            go_wp2
            go_meet
            case rel=>exact⟨_,((((aa a b).f1) !=((aa a c).f1))),(by first|rfl|(simp;done)|(simp[*];done)),H',⟨by have:=v.out;have:=x.out;first|omega|exact Nat.le_refl _⟩,kf,kf,kf,⟨bl⟩⟩
           case rest=>
            clear bm
            obtain⟨kq,y,rfl,HA,B,d,g,q,HB⟩:=hcut
            cases kq with
            |zero=>exact absurd HA.out (by simp[bO.j2])
            | succ u=>
             have H:=HA.out
             clear HA
             simp only[bO.j2]at H
             by_cases b2:y=true
             ·subst b2
              replace H:=it H
              have H' :=Aside0.mk H
              clear H
              go_wp2
              go_roundg u
              case measure=>have:=v.out;have:=x.out;have:=B.out;omega
              case rel=>exact⟨(wrap64 (c+1)),(by first|rfl|(simp;done)|(simp[*];done)),H',⟨by have:=v.out;have:=x.out;have:=B.out;omega⟩,kk d,kk g,⟨bl⟩⟩
             replace b2:=Bool.eq_false_iff.mpr b2
             subst b2
             replace H:=ie H
             by_cases G:((aa a b).f0)=((aa a c).f0)
             ·rw[if_pos G]at H
              have ck:=beq_iff_eq.mpr G
              have cl:=bne_eq_false_iff_eq.mpr G
              clear G
              obtain rfl:=Option.some.inj H;clear H
              have dr:=j.out
              have ds:=i.out
              have dt:=l.out
              have du:=m.out
              have:=cf8 g
              have dv:=p.out
              have dy:=o.out
              have:=cf8 q
              go_wp2
              go_ret
              exact fin
             rw[if_neg G]at H
             have ck:=beq_eq_false_iff_ne.mpr G
             have cl:=bne_iff_ne.mpr G
             obtain⟨cs,b3,H⟩:=ob H
             by_cases b4:cs=true
             ·subst b4
              replace H:=it H
              by_cases I:((aa a b).f3)=((aa a c).f3)
              ·rw[if_pos I]at H
               have cm:=beq_iff_eq.mpr I
               have cn:=bne_eq_false_iff_eq.mpr I
               clear I
               obtain⟨ct,co,H⟩:=ob H
               by_cases c46:ct=true
               ·subst c46
                replace H:=it H
                have H' :=Aside0.mk H
                clear H
                have dT:=j.out
                have d0:=i.out
                have d1:=l.out
                have d2:=m.out
                have:=cf8 g
                have d3:=p.out
                have d4:=o.out
                have:=cf8 q
                have:=cf2 d
                go_wp2_with (first|((with_reducible refine gc 149 rfl ?_);refine fO (some 54) rfl rfl Tryz.func149 (by kernel_rfl) rfl #[.slice s n.length t, .int .i64 ((aa a b).f0), .int .i64 ((aa a c).f0)] rfl (by(try simp only[List.map_toArray,List.map_cons,List.map_nil]);first|done|rfl|(simp only[List.length_drop,List.length_take];rfl)) ?_;(with_reducible refine(dL.calls u _ _ n ((aa a b).f0) ((aa a c).f0) true _ (cb D.out) E.out b3.out).mono ?_);rintro e w' ⟨rfl,⟨nd,rfl⟩⟩;refine⟨_,rfl, ?_⟩)|(go_at_call 150;(with_reducible refine(slices_Equal_int_int.calls u _ _ ((aa a b).f2) _ _ ((aa a c).f2) true _ (cb am.out) an.out (cb a3.out) a4.out co.out).mono ?_);rintro e w' ⟨rfl,⟨nd,rfl⟩⟩))
                go_roundg u
                case measure=>have:=v.out;have:=x.out;have:=B.out;omega
                case rel=>exact⟨(wrap64 (c+1)),(by first|rfl|(simp;done)|(simp[*];done)),H',⟨by have:=v.out;have:=x.out;have:=B.out;omega⟩,kk d,kk g,⟨bl⟩⟩
               replace c46:=Bool.eq_false_iff.mpr c46
               subst c46
               replace H:=ie H
               obtain rfl:=Option.some.inj H;clear H
               have d5:=j.out
               have d6:=i.out
               have d7:=l.out
               have d8:=m.out
               have:=cf8 g
               have ea:=p.out
               have eb:=o.out
               have:=cf8 q
               have:=cf2 d
               go_wp2_with (first|((with_reducible refine gc 149 rfl ?_);refine fO (some 54) rfl rfl Tryz.func149 (by kernel_rfl) rfl #[.slice s n.length t, .int .i64 ((aa a b).f0), .int .i64 ((aa a c).f0)] rfl (by(try simp only[List.map_toArray,List.map_cons,List.map_nil]);first|done|rfl|(simp only[List.length_drop,List.length_take];rfl)) ?_;(with_reducible refine(dL.calls u _ _ n ((aa a b).f0) ((aa a c).f0) true _ (cb D.out) E.out b3.out).mono ?_);rintro e w' ⟨rfl,⟨nd,rfl⟩⟩;refine⟨_,rfl, ?_⟩)|(go_at_call 150;(with_reducible refine(slices_Equal_int_int.calls u _ _ ((aa a b).f2) _ _ ((aa a c).f2) false _ (cb am.out) an.out (cb a3.out) a4.out co.out).mono ?_);rintro e w' ⟨rfl,⟨nd,rfl⟩⟩))
               go_ret
               exact fin
              rw[if_neg I]at H
              have cm:=beq_eq_false_iff_ne.mpr I
              have cn:=bne_iff_ne.mpr I
              obtain rfl:=Option.some.inj H;clear H
              have ec:=j.out
              have ee:=i.out
              have ef:=l.out
              have eg:=m.out
              have:=cf8 g
              have eh:=p.out
              have ei:=o.out
              have:=cf8 q
              have:=cf2 d
              go_wp2_with (first|((with_reducible refine gc 149 rfl ?_);refine fO (some 54) rfl rfl Tryz.func149 (by kernel_rfl) rfl #[.slice s n.length t, .int .i64 ((aa a b).f0), .int .i64 ((aa a c).f0)] rfl (by(try simp only[List.map_toArray,List.map_cons,List.map_nil]);first|done|rfl|(simp only[List.length_drop,List.length_take];rfl)) ?_;(with_reducible refine(dL.calls u _ _ n ((aa a b).f0) ((aa a c).f0) true _ (cb D.out) E.out b3.out).mono ?_);rintro e w' ⟨rfl,⟨nd,rfl⟩⟩;refine⟨_,rfl, ?_⟩))
              go_ret
              exact fin
             replace b4:=Bool.eq_false_iff.mpr b4
             subst b4
             replace H:=ie H
             have H' :=Aside0.mk H
             clear H
             have ej:=j.out
             have el:=i.out
             have em:=l.out
             have en:=m.out
             have:=cf8 g
             have eo:=p.out
             have ep:=o.out
             have:=cf8 q
             have:=cf2 d
             go_wp2_with (first|((with_reducible refine gc 149 rfl ?_);refine fO (some 54) rfl rfl Tryz.func149 (by kernel_rfl) rfl #[.slice s n.length t, .int .i64 ((aa a b).f0), .int .i64 ((aa a c).f0)] rfl (by(try simp only[List.map_toArray,List.map_cons,List.map_nil]);first|done|rfl|(simp only[List.length_drop,List.length_take];rfl)) ?_;(with_reducible refine(dL.calls u _ _ n ((aa a b).f0) ((aa a c).f0) false _ (cb D.out) E.out b3.out).mono ?_);rintro e w' ⟨rfl,⟨nd,rfl⟩⟩;refine⟨_,rfl, ?_⟩))
             go_roundg u
             case measure=>have:=v.out;have:=x.out;have:=B.out;omega
             case rel=>exact⟨(wrap64 (c+1)),(by first|rfl|(simp;done)|(simp[*];done)),H',⟨by have:=v.out;have:=x.out;have:=B.out;omega⟩,kk d,kk g,⟨bl⟩⟩
          rw[if_neg c13]at H
          exact absurd H (by simp)
         rw[if_neg c12]at H
         exact absurd H (by simp)
        rw[if_neg c11]at H
        have ce:decide (c<(a.length:Int))=false:=decide_eq_false c11
        clear c11
        have H' :=Aside0.mk H
        clear H
        go_wp2
        go_roundg k2
        case measure=>have:=v.out;have:=x.out;omega
        case rel=>exact⟨(wrap64 (b+1)),(by first|rfl|(simp;done)|(simp[*];done)),H',⟨by have:=v.out;have:=x.out;omega⟩,kk d,⟨bl⟩⟩
     rw[if_neg c6]at H
     exact absurd H (by simp)
    rw[if_neg c5]at H
    exact absurd H (by simp)
   rw[if_neg c4]at H
   have cp:decide (b<(a.length:Int))=false:=decide_eq_false c4
   clear c4
   obtain rfl:=Option.some.inj H;clear H
   go_wp2
   go_ret
   exact fin
end Go.Proofs.YteinbmkgenhocaaGreat.P
end
section
namespace Go.Proofs.YteinbmkgenhocaaGreat.P
open Go Go.RowKit Go.Proofs.YteinbmkgenhocaaGreatW.PrintWords Go.Proofs.YteinbmkgenhocaaGreatW.PrintLast Go.Proofs.YteinbmkgenhocaaGreatW.PrintMore
set_option linter.unusedVariables false
set_option linter.unusedSimpArgs false
theorem ll (e:Int×Int×Int): ∀(l:List (Int×Int×Int)) (i:Nat),iF (l++ [e]) i=iF l i++ [kZ e (i+l.length)]
  | [],i=>rfl
  | x::l,i=>by
    show kZ x i::iF (l++ [e]) (i+1)=kZ x i::(iF l (i+1)++ [kZ e (i+(l.length+1))])
    rw[ll e l (i+1),show i+1+l.length=i+(l.length+1) by omega]
section
variable {ops:Array Oper} {rest:List Oper} {o:Oper} {a:Act} {Q:Exit→Act→World→Prop} {W:World}
theorem qJ (hgd:o.guard=none) (hop:o.op= .makeMap 129 none) {w:World} (hB:Below w.heap.size w W)
    (h: ∀g,g=W.heap.size→∀W1,W1.heap[g]? =some (ja 0)→Below w.heap.size w W1→w.heap.size≤g→wpList Tryz.prog ops Q rest (a.put o.dst (.map (some g))) W1):wpList Tryz.prog ops Q (o::rest) a W:=by
  refine Kd.event_run hgd ?_ (h _ rfl _ (qd W _) (aV hB _) hB.size)
  unfold execOp
  rw[hop]
  simp only[Option.map,Sem.run_bind,run_makeMap,Result.andThen]
  rfl
theorem o6 {g m:Nat} {e1 e2 e3:Int} {x k v:Operand} (hgd:o.guard=none) (hop:o.op= .insert 129 x k v) (hN:o.dst=none) (hx:a.eval x= .map (some g)) (hk:a.eval k= .int .i64 e1) (hv:a.eval v= .agg #[.int .i64 e2, .int .i64 e3])
    (hm:W.heap[g]? =some (ja m)) (hl:gz.take (m+1)=gz.take m++ [(e1,e2,e3)]) (hlen:(gz.take m).length=m) (hf:fo e1 (gz.take m)=none) {w:World} (hB:Below w.heap.size w W) (hg:w.heap.size≤g)
    (h: ∀W1,W1.heap[g]? =some (ja (m+1))→Below w.heap.size w W1→wpList Tryz.prog ops Q rest a W1):wpList Tryz.prog ops Q (o::rest) a W:=by
  have hm0:=hm
  unfold ja at hm
  obtain⟨j,hj⟩:=kw e1 (gz.take m) 0 0
  rw[hf]at hj
  have hkk:MapKept.IsKey (.int .i64) (.int .i64 e1):=by simp[MapKept.IsKey]
  have hu:=Tryz.underlying129
  have hu3:=Tryz.underlying3
  have e0:Obj.map ((iF (gz.take m) 0).toArray.push {key:= .int .i64 e1,val:= .agg #[.int .i64 e2, .int .i64 e3],born:=m}) (m+1)=ja (m+1):=by
    unfold ja
    rw[hl,ll,hlen,Nat.zero_add,List.push_toArray]
    rfl
  have hrun:(Instr.mapUpdate 129 (.map (some g)) (.int .i64 e1) (.agg #[.int .i64 e2, .int .i64 e3])).run Tryz.prog W= .ok () {W with heap:=W.heap.setIfInBounds g (ja (m+1))}:=by
    rw[←e0]
    simp[Instr.mapUpdate,run_underlying hu,MapKept.run_getObj_map hm,MapKept.run_checkKey hu3 hkk,MapKept.run_findKey hu3 hj,MapKept.run_setObj_map _ hm,Result.andThen]
  have hh:=MapKept.heap_set (o' :=ja (m+1)) hm0
  refine wpList_plain hgd fun K hK=> ?_
  unfold Oper.wp
  have hex:(execOp a.eval o).run Tryz.prog W= .ok .skip {W with heap:=W.heap.setIfInBounds g (ja (m+1))}:=by
    unfold execOp
    rw[hop]
    dsimp only
    rw[hx,hk,hv]
    simp only[Sem.run_bind,hrun,Result.andThen]
    rfl
  rw[hex]
  show K (a.put o.dst undef) _
  rw[hN]
  exact hK _ _ (h _ hh.1 (hB.trans ⟨rfl,rfl,rfl,by simp,fun k_ hk_=>hh.2 k_ (by omega)⟩))
end
set_option maxHeartbeats 8000000 in
set_option maxRecDepth 100000 in
theorem qw.calls (w:World):Calls Tryz.prog 79 #[] w fun e w' => ∃g,e= .returned (.map (some g))∧g=w.heap.size∧w'.heap[g]? =some jE∧Below w.heap.size w w' :=by
  have HB:=Aside0.mk (Below.refl w.heap.size w)
  go_enter Tryz.func79,Tryz.ntmps79
  go_wp2_with (first|((with_reducible refine ic (N:=1) rfl ?_);refine qJ rfl rfl HB.out ?_;intro gM hg W1 hm_ hb_ hs_;clear HB;have HM:=Aside0.mk hm_;have HB:=Aside0.mk hb_;have HS:=Aside0.mk hs_;have HG:=Aside0.mk hg;clear hm_ hb_ hs_ hg)|(refine o6 rfl rfl rfl rfl rfl rfl HM.out rfl rfl rfl HB.out HS.out ?_;intro W1 hm_ hb_;clear HM HB;have HM:=Aside0.mk hm_;have HB:=Aside0.mk hb_;clear hm_ hb_))
  go_ret
  exact⟨_,rfl,HG.out,HM.out,HB.out⟩
end Go.Proofs.YteinbmkgenhocaaGreat.P
end
section
namespace Go.Proofs.YteinbmkgenhocaaGreat.P
open Go.RowKit Go.Proofs.YteinbmkgenhocaaGreatW.PrintWords Go.Proofs.YteinbmkgenhocaaGreatW.PrintLast Go.Proofs.YteinbmkgenhocaaGreatW.PrintMore
attribute [local go_sem] ah ai av ax af ag aj ak
set_option linter.unusedVariables false
set_option linter.unusedSimpArgs false
set_option maxHeartbeats 8000000 in
set_option maxRecDepth 100000 in
theorem bE.calls (k:Nat) (aS:Option Addr) (a0:Nat) (l:List (S126)) (b5:Option Addr) (a3:Nat) (a:List (S104)) (r:Bool) (w:World) (cm:Kd.C eB w aS l.length l) (cn:l.length≤a0) (co:Kd.C eD w b5 a.length a) (cp:a.length≤a3) (h:bE.f k l a=some r):
  Calls Tryz.prog 33 #[.agg #[.slice aS l.length a0, .slice b5 a.length a3]] w fun e w' =>e= .returned (.bool r)∧Below w.heap.size w w' :=by
 have e6:=Tryz.underlying38
 have dd:=Tryz.underlying104
 have aE:=Aside0.mk cm
 have aF:=Aside0.mk cn
 clear cm cn
 have Y:=Aside0.mk co
 have a2:=Aside0.mk cp
 clear co cp
 have HB:=Aside0.mk (Below.refl w.heap.size w)
 have H:((aK.f k l).bind fun ci=>(if ci=true then(if(a.length:Int)<1 then(bE.j0 k true l a)else(bE.j0 k (decide ((a.length:Int)>4)) l a))else(bE.j0 k true l a)))=some r:=h
 clear h
 have cy:=Aside0.mk H
 clear H
 go_enter Tryz.func33,Tryz.ntmps33
 go_upto_region 1 with(first|((with_reducible refine gd 1 rfl ?_);(try(refine aU (by rfl) ?_;dsimp only));refine bx 1 #[.slice aS l.length a0, .slice b5 a.length a3] 38 ?_;intro b6 hg w3 hbox hb;have c:=Aside0.mk hbox;have de:=hz HB hg;replace HB:=hs HB hb;clear hb hbox hg))
 (try simp only[Act.put,List.setIfInBounds_toArray,List.set_cons_zero,List.set_cons_succ])
 go_cut [22] (fun v22 wc=> ∃(kq:Nat) (bm:Bool),v22= .bool bm∧Aside0 (bE.j0 kq bm l a=some r)∧Aside0 (kq≤k)∧Aside0 (wc.heap[b6]? =some (.cells #[(.slice aS l.length a0),(.slice b5 a.length a3)] 38 (0,0)))∧Aside0 (Below w.heap.size w wc))
 case first=>
  have H:=cy.out
  clear cy
  obtain⟨ci,A4,H⟩:=ob H
  by_cases c5:ci=true
  ·subst c5
   replace H:=it H
   by_cases c6:(a.length:Int)<1
   ·rw[if_pos c6]at H
    have bo:decide ((a.length:Int)<1)=true:=decide_eq_true c6
    have cN:decide (a.length<1)=true:=decide_eq_true (by omega)
    clear c6
    (first|rw[bo]|(simp only[bq,bu];rw[bo])|skip)
    have H' :=Aside0.mk H
    clear H
    have:=cf2 c
    go_wp2_with (first|(refine gl (some 9) Tryz.func78 #[.slice aS l.length a0] rfl ?_;(with_reducible refine(aK.calls k _ _ l true _ (cb aE.out) aF.out A4.out).mono ?_);rintro e w8 ⟨rfl,hb⟩;refine⟨_,rfl, ?_⟩;replace c:=kb c hb;replace HB:=hs HB hb;have:=cf2 c))
    go_meet
    case rel=>exact⟨_,(true),(by first|rfl|(simp;done)|(simp[*];done)),H',⟨by first|omega|exact Nat.le_refl _⟩,kk c,⟨bl⟩⟩
   rw[if_neg c6]at H
   have bo:decide ((a.length:Int)<1)=false:=decide_eq_false c6
   have cN:decide (a.length<1)=false:=decide_eq_false (by omega)
   clear c6
   (first|rw[bo]|(simp only[bq,bu];rw[bo])|skip)
   have H' :=Aside0.mk H
   clear H
   have:=cf2 c
   go_wp2_with (first|(refine gl (some 9) Tryz.func78 #[.slice aS l.length a0] rfl ?_;(with_reducible refine(aK.calls k _ _ l true _ (cb aE.out) aF.out A4.out).mono ?_);rintro e e7 ⟨rfl,hb⟩;refine⟨_,rfl, ?_⟩;replace c:=kb c hb;replace HB:=hs HB hb;have:=cf2 c))
   go_meet
   case rel=>exact⟨_,(decide ((a.length:Int)>4)),(by first|rfl|(simp;done)|(simp[*];done)),H',⟨by first|omega|exact Nat.le_refl _⟩,kk c,⟨bl⟩⟩
  replace c5:=Bool.eq_false_iff.mpr c5
  subst c5
  replace H:=ie H
  have H' :=Aside0.mk H
  clear H
  have:=cf2 c
  go_wp2_with (first|(refine gl (some 9) Tryz.func78 #[.slice aS l.length a0] rfl ?_;(with_reducible refine(aK.calls k _ _ l false _ (cb aE.out) aF.out A4.out).mono ?_);rintro e e8 ⟨rfl,hb⟩;refine⟨_,rfl, ?_⟩;replace c:=kb c hb;replace HB:=hs HB hb))
  go_meet
  case rel=>exact⟨_,(true),(by first|rfl|(simp;done)|(simp[*];done)),H',⟨by first|omega|exact Nat.le_refl _⟩,kk c,⟨bl⟩⟩
 case rest =>
  clear cy
  obtain⟨kq,bm,rfl,HA,b8,c,HB⟩:=hcut
  cases kq with
  |zero=>exact absurd HA.out (by simp[bE.j0])
  | succ db =>
   have H:=HA.out
   clear HA
   simp only[bE.j0]at H
   by_cases c15:bm=true
   ·subst c15
    replace H:=it H
    obtain rfl:=Option.some.inj H;clear H
    go_wp2
    go_ret
    exact fin
   replace c15:=Bool.eq_false_iff.mpr c15
   subst c15
   replace H:=ie H
   by_cases c16:0<(a.length:Int)
   ·rw [if_pos c16]at H
    have dg:decide (0<(a.length:Int))=true:=decide_eq_true c16
    have dj:decide (0<a.length)=true:=decide_eq_true (by omega)
    clear c16
    have cj:=Aside0.mk H
    clear H
    have:=cf2 c
    have ck:0≤(0:Int):=(by omega)
    have cl:0<(a.length:Int):=od
    obtain⟨a1,b9,ca,cc,cd,ce,cf,cg,ch,cP,a4,a5,a6,a7,a8,a9,ba,bb,br,bs,bt,bw,b0,b1,b2,b3⟩:=cu Y.out 0 ck cl
    cases cP
    have dk:(0<a.length)=True:=eq_true (by omega)
    (try rw[show((0:Int)).toNat=0 from rfl]at a4)
    (try rw[show 0 * 8=0 from rfl]at a4)
    (try rw[Addr.add_zero']at a4)
    (try rw[show((0:Int)).toNat=0 from rfl]at a5)
    (try rw[show 0 * 8=0 from rfl]at a5)
    (try rw[Addr.add_zero']at a5)
    (try rw[show((0:Int)).toNat=0 from rfl]at a6)
    (try rw[show 0 * 8=0 from rfl]at a6)
    (try rw[Addr.add_zero']at a6)
    (try rw[show((0:Int)).toNat=0 from rfl]at a7)
    (try rw[show 0 * 8=0 from rfl]at a7)
    (try rw[Addr.add_zero']at a7)
    (try rw[show((0:Int)).toNat=0 from rfl]at a8)
    (try rw[show 0 * 8=0 from rfl]at a8)
    (try rw[Addr.add_zero']at a8)
    (try rw[show((0:Int)).toNat=0 from rfl]at a9)
    (try rw[show 0 * 8=0 from rfl]at a9)
    (try rw[Addr.add_zero']at a9)
    (try rw[show((0:Int)).toNat=0 from rfl]at ba)
    (try rw[show 0 * 8=0 from rfl]at ba)
    (try rw[Addr.add_zero']at ba)
    (try rw[show((0:Int)).toNat=0 from rfl]at bb)
    (try rw[show 0 * 8=0 from rfl]at bb)
    (try rw[Addr.add_zero']at bb)
    obtain⟨a4,a5,a6,a7,a8,a9,ba,bb⟩:=hc8 HB a4 a5 a6 a7 a8 a9 ba bb
    have cU:=Aside0.mk bs
    have cV:=Aside0.mk br
    clear bs br
    have cW:=Aside0.mk bw
    have cX:=Aside0.mk bt
    clear bw bt
    have cY:=Aside0.mk b1
    have c0:=Aside0.mk b0
    clear b1 b0
    have c1:=Aside0.mk b3
    have da:=Aside0.mk b2
    clear b3 b2
    replace ck:=eq_true ck
    replace cl:=eq_true cl
    go_upto_region 4 with(first|((with_reducible refine gd 3 rfl ?_);(try(refine aU (by rfl) ?_;dsimp only));refine bx 3 #[.int .i64 0, .int .i64 0, .slice none 0 0, .int .i64 0, .int .i64 0, .slice none 0 0, .slice none 0 0, .slice none 0 0] 104 ?_;intro cq hg e9 hbox hb;have i:=Aside0.mk hbox;have dl:=hz HB hg;have n:=nl c hg;have p:=ng c hg;replace c:=kb c hb;replace HB:=hs HB hb;clear hb hbox hg;have dp:=p.out;have dq:=n.out;have:=cf8 i))
    (try simp only[Act.put,List.setIfInBounds_toArray,List.set_cons_zero,List.set_cons_succ])
    go_cut [40] (fun v40 wc=> ∃(kq:Nat) (bh:Bool),v40= .bool bh∧Aside0 (bE.j1 kq bh l a=some r)∧Aside0 (kq≤db)∧Aside0 (wc.heap[b6]? =some (.cells #[(.slice aS l.length a0),(.slice (some a1) a.length a3)] 38 (0,0)))∧Aside0 (wc.heap[cq]? =some (.cells #[.int .i64 ((aa a 0).f0), .int .i64 ((aa a 0).f1),(.slice b9 ((aa a 0).f2).length ca), .int .i64 ((aa a 0).f3), .int .i64 ((aa a 0).f4),(.slice cc ((aa a 0).f5).length cd),(.slice ce ((aa a 0).f6).length cf),(.slice cg ((aa a 0).f7).length ch)] 104 (0,0)))∧Aside0 (Below w.heap.size w wc))
    case first=>
     have H:=cj.out
     clear cj
     by_cases bp:((aa a 0).f0)=(-1)
     ·rw[if_pos bp]at H
      have bj:=beq_iff_eq.mpr bp
      have cE:=bne_eq_false_iff_eq.mpr bp
      clear bp
      (first|rw[bj]|(simp only[bq,bu];rw[bj])|skip)
      by_cases c23:(((aa a 0).f2).length:Int)=0
      ·rw[if_pos c23]at H
       have cF:=beq_iff_eq.mpr c23
       have cG:=bne_eq_false_iff_eq.mpr c23
       clear c23
       have H' :=Aside0.mk H
       clear H
       have dr:=p.out
       have ds:=n.out
       have:=cf8 i
       go_wp2
       go_meet
       case rel=>exact⟨_,((((aa a 0).f3) !=1)),(by first|rfl|(simp;done)|(simp[*];done)),H',⟨by have:=b8.out;first|omega|exact Nat.le_refl _⟩,kf,kf,⟨bl⟩⟩
      rw[if_neg c23]at H
      have cF:=beq_eq_false_iff_ne.mpr c23
      have cG:=bne_iff_ne.mpr c23
      have dt: ¬(((aa a 0).f2)= []):=fun h_=>c23 (by rw[h_];rfl)
      have H' :=Aside0.mk H
      clear H
      have du:=p.out
      have dv:=n.out
      have:=cf8 i
      go_wp2
      go_meet
      case rel=>exact⟨_,(true),(by first|rfl|(simp;done)|(simp[*];done)),H',⟨by have:=b8.out;first|omega|exact Nat.le_refl _⟩,kf,kf,⟨bl⟩⟩
     rw[if_neg bp]at H
     have bj:=beq_eq_false_iff_ne.mpr bp
     have cE:=bne_iff_ne.mpr bp
     (first|rw[bj]|(simp only[bq,bu];rw[bj])|skip)
     have H' :=Aside0.mk H
     clear H
     have dy:=p.out
     have dT:=n.out
     have:=cf8 i
     go_wp2
     go_meet
     case rel=>exact⟨_,(true),(by first|rfl|(simp;done)|(simp[*];done)),H',⟨by have:=b8.out;first|omega|exact Nat.le_refl _⟩,kf,kf,⟨bl⟩⟩
    case rest =>
     clear cj
     obtain⟨kq,bh,rfl,HA,cA,c,i,HB⟩:=hcut
     cases kq with
     |zero=>exact absurd HA.out (by simp[bE.j1])
     | succ cC=>
      have H:=HA.out
      clear HA
      simp only[bE.j1]at H
      by_cases cr:bh=true
      ·subst cr
       replace H:=it H
       obtain rfl:=Option.some.inj H;clear H
       go_wp2
       go_ret
       exact fin
      replace cr:=Bool.eq_false_iff.mpr cr
      subst cr
      replace H:=ie H
      have H' :=Aside0.mk H
      clear H
      go_wp2_with (first|((with_reducible refine gc 79 rfl ?_);refine fO (some 41) rfl rfl Tryz.func79 (by kernel_rfl) rfl #[] rfl (by(try simp only[List.map_toArray,List.map_cons,List.map_nil]);first|done|rfl) ?_;(refine(qw.calls _).mono ?_);rintro e fa ⟨bk,rfl,hg,hbox,hb⟩;refine⟨_,rfl, ?_⟩;have j:=Aside0.mk hbox;have d0:=hz HB hg;have aP:=nl c hg;have aR:=ng c hg;have cI:=nl i hg;have cJ:=ng i hg;replace c:=kb c hb;replace i:=kb i hb;replace HB:=hs HB hb;clear hb hbox hg;have d1:=n.out;have d2:=p.out;have d3:=aP.out;have d4:=aR.out;have:=cf2 c))
      go_loopg [45] cC (fun kq v45 w' => ∃(b:Int),v45= .int .i64 b∧Aside0 (bE.l0 kq a (a.length:Int) b l a=some r)∧Aside0 (kq≤cC)∧Aside0 (w'.heap[b6]? =some (.cells #[(.slice aS l.length a0),(.slice (some a1) a.length a3)] 38 (0,0)))∧Aside0 (w'.heap[cq]? =some (.cells #[.int .i64 ((aa a 0).f0), .int .i64 ((aa a 0).f1),(.slice b9 ((aa a 0).f2).length ca), .int .i64 ((aa a 0).f3), .int .i64 ((aa a 0).f4),(.slice cc ((aa a 0).f5).length cd),(.slice ce ((aa a 0).f6).length cf),(.slice cg ((aa a 0).f7).length ch)] 104 (0,0)))∧Aside0 (w'.heap[bk]? =some (jE))∧Aside0 (Below w.heap.size w w'))
      case atStart=>exact⟨(0),(by first|rfl|(simp;done)|(simp[*];done)),H',⟨Nat.le_refl _⟩,kk c,kk i,kk j,⟨bl⟩⟩
      case round=>
       clear H'
       obtain⟨b,rfl,HA,cL,c,i,j,HB⟩:=hrel
       cases gk with
       |zero=>exact absurd HA.out (by simp[bE.l0])
       | succ k3=>
        have H:=HA.out
        clear HA
        simp only[bE.l0]at H
        by_cases b4:b<(a.length:Int)
        ·rw [if_pos b4]at H
         have cH:decide (b<(a.length:Int))=true:=decide_eq_true b4
         clear b4
         by_cases cs:0≤b
         ·rw [if_pos cs]at H
          have d5:decide (0≤b)=true:=decide_eq_true cs
          clear cs
          by_cases c37:b<(a.length:Int)
          ·rw [if_pos c37]at H
           have d6:decide (b<(a.length:Int))=true:=decide_eq_true c37
           clear c37
           obtain⟨cQ,ct,H⟩:=ob H
           by_cases cv:cQ=true
           ·subst cv
            replace H:=it H
            obtain⟨cR,cD,H⟩:=ob H
            by_cases cw:cR=true
            ·subst cw
             replace H:=it H
             obtain⟨cS,cM,H⟩:=ob H
             by_cases cx:cS=true
             ·subst cx
              replace H:=it H
              have H' :=Aside0.mk H
              clear H
              have aL:0≤(b:Int):=od
              have aO:b<(a.length:Int):=od
              obtain⟨bc,Z,ab,ac,ad,al,am,an,ao,be,A,B,D,E,G,I,J,K,L,M,O,P,T,U,W,X⟩:=cu Y.out b aL aO
              obtain rfl:a1=bc:=(by injection be)
              obtain⟨A,B,D,E,G,I,J,K⟩:=hc8 HB A B D E G I J K
              have q:=Aside0.mk M
              have s:=Aside0.mk L
              clear M L
              have t:=Aside0.mk P
              have u:=Aside0.mk O
              clear P O
              have v:=Aside0.mk U
              have x:=Aside0.mk T
              clear U T
              have y:=Aside0.mk X
              have z:=Aside0.mk W
              clear X W
              replace aL:=eq_true aL
              replace aO:=eq_true aO
              go_wp2_with (first|((with_reducible refine gd 6 rfl ?_);(try(refine aU (by rfl) ?_;dsimp only));refine bx 6 #[.int .i64 0, .int .i64 0, .slice none 0 0, .int .i64 0, .int .i64 0, .slice none 0 0, .slice none 0 0, .slice none 0 0] 104 ?_;intro bd hg fb hbox hb;have m:=Aside0.mk hbox;have b7:=hz HB hg;have ap:=nl c hg;have aq:=ng c hg;have ar:=nl i hg;have aw:=ng i hg;have d:=nl j hg;have aB:=ng j hg;replace c:=kb c hb;replace i:=kb i hb;replace j:=kb j hb;replace HB:=hs HB hb;clear hb hbox hg;have d7:=aq.out;have d8:=ap.out;have ea:=aw.out;have eb:=ar.out;have ec:=aB.out;have ee:=d.out;have:=cf8 m;have ef:=n.out;have eg:=p.out;have eh:=aP.out;have ei:=aR.out;have:=cf2 c)|(refine gl (some 51) Tryz.func80 #[.agg #[.slice aS l.length a0, .slice (some a1) a.length a3], .agg #[.int .i64 ((aa a b).f0), .int .i64 ((aa a b).f1), .slice Z ((aa a b).f2).length ab, .int .i64 ((aa a b).f3), .int .i64 ((aa a b).f4), .slice ac ((aa a b).f5).length ad, .slice al ((aa a b).f6).length am, .slice an ((aa a b).f7).length ao]] rfl ?_;(with_reducible refine(bn.calls k3 _ _ l _ _ a ((aa a b).f0) ((aa a b).f1) _ _ ((aa a b).f2) ((aa a b).f3) ((aa a b).f4) _ _ ((aa a b).f5) _ _ ((aa a b).f6) _ _ ((aa a b).f7) true _ (cb aE.out) aF.out (cb Y.out) a2.out (cb q.out) s.out (cb t.out) u.out (cb v.out) x.out (cb y.out) z.out ct.out).mono ?_);rintro e fc ⟨rfl,hb⟩;refine⟨_,rfl, ?_⟩;replace c:=kq c hb;replace i:=kq i hb;replace j:=Aside0.mk (eY (g:=bk) (o:=jE) (by(with_reducible repeat(first|refine aC ?_ _|refine au ?_|refine aA ?_ _));refine dW ?_ d.out _;(with_reducible repeat(first|refine aC ?_ _|refine au ?_|refine aA ?_ _));refine dW ?_ d.out _;(with_reducible repeat(first|refine aC ?_ _|refine au ?_|refine aA ?_ _));refine dW ?_ d.out _;(with_reducible repeat(first|refine aC ?_ _|refine au ?_|refine aA ?_ _));refine dW ?_ d.out _;(with_reducible repeat(first|refine aC ?_ _|refine au ?_|refine aA ?_ _));refine dW ?_ d.out _;(with_reducible repeat(first|refine aC ?_ _|refine au ?_|refine aA ?_ _));refine dW ?_ d.out _;(with_reducible repeat(first|refine aC ?_ _|refine au ?_|refine aA ?_ _));refine dW ?_ d.out _;(with_reducible repeat(first|refine aC ?_ _|refine au ?_|refine aA ?_ _));refine dW ?_ d.out _;(with_reducible repeat(first|refine aC ?_ _|refine au ?_|refine aA ?_ _));exact j.out) hb);replace m:=kp bd #[.int .i64 ((aa a b).f0), .int .i64 ((aa a b).f1), .slice Z ((aa a b).f2).length ab, .int .i64 ((aa a b).f3), .int .i64 ((aa a b).f4), .slice ac ((aa a b).f5).length ad, .slice al ((aa a b).f6).length am, .slice an ((aa a b).f7).length ao] 104 hb;replace HB:=hs HB hb;have:=cf2 c;have:=cf8 m)|(go_at_call 81;(with_reducible refine(bD.calls k3 _ _ l _ _ a ((aa a b).f0) ((aa a b).f1) _ _ ((aa a b).f2) ((aa a b).f3) ((aa a b).f4) _ _ ((aa a b).f5) _ _ ((aa a b).f6) _ _ ((aa a b).f7) 0 true _ (cb aE.out) aF.out (cb Y.out) a2.out (cb q.out) s.out (cb t.out) u.out (cb v.out) x.out (cb y.out) z.out ?sideM cD.out).mono ?_);(case sideM=>(with_reducible repeat(first|refine aC ?_ _|refine au ?_|refine aA ?_ _));exact j.out);rintro e fd ⟨rfl,hb⟩;replace c:=kb c hb;replace i:=kb i hb;replace j:=kb j hb;replace m:=kb m hb;replace HB:=hs HB hb;have:=cf2 c;have:=cf8 m)|(go_at_call 82;(with_reducible refine(bv.calls k3 _ _ l _ _ a ((aa a b).f0) ((aa a b).f1) _ _ ((aa a b).f2) ((aa a b).f3) ((aa a b).f4) _ _ ((aa a b).f5) _ _ ((aa a b).f6) _ _ ((aa a b).f7) true _ (cb aE.out) aF.out (cb Y.out) a2.out (cb q.out) s.out (cb t.out) u.out (cb v.out) x.out (cb y.out) z.out cM.out).mono ?_);rintro e ff ⟨rfl,hb⟩;replace c:=kb c hb;replace i:=kb i hb;replace j:=kb j hb;replace m:=kb m hb;replace HB:=hs HB hb))
              go_roundg k3
              case measure=>have:=b8.out;have:=cA.out;have:=cL.out;omega
              case rel=>exact⟨(wrap64 (b+1)),(by first|rfl|(simp;done)|(simp[*];done)),H',⟨by have:=b8.out;have:=cA.out;have:=cL.out;omega⟩,kk c,kk i,kk j,⟨bl⟩⟩
             replace cx:=Bool.eq_false_iff.mpr cx
             subst cx
             replace H:=ie H
             obtain rfl:=Option.some.inj H;clear H
             have aL:0≤(b:Int):=od
             have aO:b<(a.length:Int):=od
             obtain⟨bc,Z,ab,ac,ad,al,am,an,ao,be,A,B,D,E,G,I,J,K,L,M,O,P,T,U,W,X⟩:=cu Y.out b aL aO
             obtain rfl:a1=bc:=(by injection be)
             obtain⟨A,B,D,E,G,I,J,K⟩:=hc8 HB A B D E G I J K
             have q:=Aside0.mk M
             have s:=Aside0.mk L
             clear M L
             have t:=Aside0.mk P
             have u:=Aside0.mk O
             clear P O
             have v:=Aside0.mk U
             have x:=Aside0.mk T
             clear U T
             have y:=Aside0.mk X
             have z:=Aside0.mk W
             clear X W
             replace aL:=eq_true aL
             replace aO:=eq_true aO
             go_wp2_with (first|((with_reducible refine gd 6 rfl ?_);(try(refine aU (by rfl) ?_;dsimp only));refine bx 6 #[.int .i64 0, .int .i64 0, .slice none 0 0, .int .i64 0, .int .i64 0, .slice none 0 0, .slice none 0 0, .slice none 0 0] 104 ?_;intro bd hg fg hbox hb;have m:=Aside0.mk hbox;have b7:=hz HB hg;have ap:=nl c hg;have aq:=ng c hg;have ar:=nl i hg;have aw:=ng i hg;have d:=nl j hg;have aB:=ng j hg;replace c:=kb c hb;replace i:=kb i hb;replace j:=kb j hb;replace HB:=hs HB hb;clear hb hbox hg;have ej:=aq.out;have el:=ap.out;have em:=aw.out;have en:=ar.out;have eo:=aB.out;have ep:=d.out;have:=cf8 m;have eq:=n.out;have er:=p.out;have es:=aP.out;have et:=aR.out;have:=cf2 c)|(refine gl (some 51) Tryz.func80 #[.agg #[.slice aS l.length a0, .slice (some a1) a.length a3], .agg #[.int .i64 ((aa a b).f0), .int .i64 ((aa a b).f1), .slice Z ((aa a b).f2).length ab, .int .i64 ((aa a b).f3), .int .i64 ((aa a b).f4), .slice ac ((aa a b).f5).length ad, .slice al ((aa a b).f6).length am, .slice an ((aa a b).f7).length ao]] rfl ?_;(with_reducible refine(bn.calls k3 _ _ l _ _ a ((aa a b).f0) ((aa a b).f1) _ _ ((aa a b).f2) ((aa a b).f3) ((aa a b).f4) _ _ ((aa a b).f5) _ _ ((aa a b).f6) _ _ ((aa a b).f7) true _ (cb aE.out) aF.out (cb Y.out) a2.out (cb q.out) s.out (cb t.out) u.out (cb v.out) x.out (cb y.out) z.out ct.out).mono ?_);rintro e fh ⟨rfl,hb⟩;refine⟨_,rfl, ?_⟩;replace c:=kq c hb;replace i:=kq i hb;replace j:=Aside0.mk (eY (g:=bk) (o:=jE) (by(with_reducible repeat(first|refine aC ?_ _|refine au ?_|refine aA ?_ _));refine dW ?_ d.out _;(with_reducible repeat(first|refine aC ?_ _|refine au ?_|refine aA ?_ _));refine dW ?_ d.out _;(with_reducible repeat(first|refine aC ?_ _|refine au ?_|refine aA ?_ _));refine dW ?_ d.out _;(with_reducible repeat(first|refine aC ?_ _|refine au ?_|refine aA ?_ _));refine dW ?_ d.out _;(with_reducible repeat(first|refine aC ?_ _|refine au ?_|refine aA ?_ _));refine dW ?_ d.out _;(with_reducible repeat(first|refine aC ?_ _|refine au ?_|refine aA ?_ _));refine dW ?_ d.out _;(with_reducible repeat(first|refine aC ?_ _|refine au ?_|refine aA ?_ _));refine dW ?_ d.out _;(with_reducible repeat(first|refine aC ?_ _|refine au ?_|refine aA ?_ _));refine dW ?_ d.out _;(with_reducible repeat(first|refine aC ?_ _|refine au ?_|refine aA ?_ _));exact j.out) hb);replace m:=kp bd #[.int .i64 ((aa a b).f0), .int .i64 ((aa a b).f1), .slice Z ((aa a b).f2).length ab, .int .i64 ((aa a b).f3), .int .i64 ((aa a b).f4), .slice ac ((aa a b).f5).length ad, .slice al ((aa a b).f6).length am, .slice an ((aa a b).f7).length ao] 104 hb;replace HB:=hs HB hb;have:=cf2 c;have:=cf8 m)|(go_at_call 81;(with_reducible refine(bD.calls k3 _ _ l _ _ a ((aa a b).f0) ((aa a b).f1) _ _ ((aa a b).f2) ((aa a b).f3) ((aa a b).f4) _ _ ((aa a b).f5) _ _ ((aa a b).f6) _ _ ((aa a b).f7) 0 true _ (cb aE.out) aF.out (cb Y.out) a2.out (cb q.out) s.out (cb t.out) u.out (cb v.out) x.out (cb y.out) z.out ?sideM cD.out).mono ?_);(case sideM=>(with_reducible repeat(first|refine aC ?_ _|refine au ?_|refine aA ?_ _));exact j.out);rintro e fi ⟨rfl,hb⟩;replace c:=kb c hb;replace i:=kb i hb;replace j:=kb j hb;replace m:=kb m hb;replace HB:=hs HB hb;have:=cf2 c;have:=cf8 m)|(go_at_call 82;(with_reducible refine(bv.calls k3 _ _ l _ _ a ((aa a b).f0) ((aa a b).f1) _ _ ((aa a b).f2) ((aa a b).f3) ((aa a b).f4) _ _ ((aa a b).f5) _ _ ((aa a b).f6) _ _ ((aa a b).f7) false _ (cb aE.out) aF.out (cb Y.out) a2.out (cb q.out) s.out (cb t.out) u.out (cb v.out) x.out (cb y.out) z.out cM.out).mono ?_);rintro e fj ⟨rfl,hb⟩;replace c:=kb c hb;replace i:=kb i hb;replace j:=kb j hb;replace m:=kb m hb;replace HB:=hs HB hb))
             go_ret
             exact fin
            replace cw:=Bool.eq_false_iff.mpr cw
            subst cw
            replace H:=ie H
            obtain rfl:=Option.some.inj H;clear H
            have aL:0≤(b:Int):=od
            have aO:b<(a.length:Int):=od
            obtain⟨bc,Z,ab,ac,ad,al,am,an,ao,be,A,B,D,E,G,I,J,K,L,M,O,P,T,U,W,X⟩:=cu Y.out b aL aO
            obtain rfl:a1=bc:=(by injection be)
            obtain⟨A,B,D,E,G,I,J,K⟩:=hc8 HB A B D E G I J K
            have q:=Aside0.mk M
            have s:=Aside0.mk L
            clear M L
            have t:=Aside0.mk P
            have u:=Aside0.mk O
            clear P O
            have v:=Aside0.mk U
            have x:=Aside0.mk T
            clear U T
            have y:=Aside0.mk X
            have z:=Aside0.mk W
            clear X W
            replace aL:=eq_true aL
            replace aO:=eq_true aO
            go_wp2_with (first|((with_reducible refine gd 6 rfl ?_);(try(refine aU (by rfl) ?_;dsimp only));refine bx 6 #[.int .i64 0, .int .i64 0, .slice none 0 0, .int .i64 0, .int .i64 0, .slice none 0 0, .slice none 0 0, .slice none 0 0] 104 ?_;intro bd hg fk hbox hb;have m:=Aside0.mk hbox;have b7:=hz HB hg;have ap:=nl c hg;have aq:=ng c hg;have ar:=nl i hg;have aw:=ng i hg;have d:=nl j hg;have aB:=ng j hg;replace c:=kb c hb;replace i:=kb i hb;replace j:=kb j hb;replace HB:=hs HB hb;clear hb hbox hg;have ev:=aq.out;have ew:=ap.out;have ex:=aw.out;have ey:=ar.out;have ez:=aB.out;have eA:=d.out;have:=cf8 m;have eC:=n.out;have eE:=p.out;have eI:=aP.out;have eJ:=aR.out;have:=cf2 c)|(refine gl (some 51) Tryz.func80 #[.agg #[.slice aS l.length a0, .slice (some a1) a.length a3], .agg #[.int .i64 ((aa a b).f0), .int .i64 ((aa a b).f1), .slice Z ((aa a b).f2).length ab, .int .i64 ((aa a b).f3), .int .i64 ((aa a b).f4), .slice ac ((aa a b).f5).length ad, .slice al ((aa a b).f6).length am, .slice an ((aa a b).f7).length ao]] rfl ?_;(with_reducible refine(bn.calls k3 _ _ l _ _ a ((aa a b).f0) ((aa a b).f1) _ _ ((aa a b).f2) ((aa a b).f3) ((aa a b).f4) _ _ ((aa a b).f5) _ _ ((aa a b).f6) _ _ ((aa a b).f7) true _ (cb aE.out) aF.out (cb Y.out) a2.out (cb q.out) s.out (cb t.out) u.out (cb v.out) x.out (cb y.out) z.out ct.out).mono ?_);rintro e fl ⟨rfl,hb⟩;refine⟨_,rfl, ?_⟩;replace c:=kq c hb;replace i:=kq i hb;replace j:=Aside0.mk (eY (g:=bk) (o:=jE) (by(with_reducible repeat(first|refine aC ?_ _|refine au ?_|refine aA ?_ _));refine dW ?_ d.out _;(with_reducible repeat(first|refine aC ?_ _|refine au ?_|refine aA ?_ _));refine dW ?_ d.out _;(with_reducible repeat(first|refine aC ?_ _|refine au ?_|refine aA ?_ _));refine dW ?_ d.out _;(with_reducible repeat(first|refine aC ?_ _|refine au ?_|refine aA ?_ _));refine dW ?_ d.out _;(with_reducible repeat(first|refine aC ?_ _|refine au ?_|refine aA ?_ _));refine dW ?_ d.out _;(with_reducible repeat(first|refine aC ?_ _|refine au ?_|refine aA ?_ _));refine dW ?_ d.out _;(with_reducible repeat(first|refine aC ?_ _|refine au ?_|refine aA ?_ _));refine dW ?_ d.out _;(with_reducible repeat(first|refine aC ?_ _|refine au ?_|refine aA ?_ _));refine dW ?_ d.out _;(with_reducible repeat(first|refine aC ?_ _|refine au ?_|refine aA ?_ _));exact j.out) hb);replace m:=kp bd #[.int .i64 ((aa a b).f0), .int .i64 ((aa a b).f1), .slice Z ((aa a b).f2).length ab, .int .i64 ((aa a b).f3), .int .i64 ((aa a b).f4), .slice ac ((aa a b).f5).length ad, .slice al ((aa a b).f6).length am, .slice an ((aa a b).f7).length ao] 104 hb;replace HB:=hs HB hb;have:=cf2 c;have:=cf8 m)|(go_at_call 81;(with_reducible refine(bD.calls k3 _ _ l _ _ a ((aa a b).f0) ((aa a b).f1) _ _ ((aa a b).f2) ((aa a b).f3) ((aa a b).f4) _ _ ((aa a b).f5) _ _ ((aa a b).f6) _ _ ((aa a b).f7) 0 false _ (cb aE.out) aF.out (cb Y.out) a2.out (cb q.out) s.out (cb t.out) u.out (cb v.out) x.out (cb y.out) z.out ?sideM cD.out).mono ?_);(case sideM=>(with_reducible repeat(first|refine aC ?_ _|refine au ?_|refine aA ?_ _));exact j.out);rintro e fm ⟨rfl,hb⟩;replace c:=kb c hb;replace i:=kb i hb;replace j:=kb j hb;replace m:=kb m hb;replace HB:=hs HB hb))
            go_ret
            exact fin
           replace cv:=Bool.eq_false_iff.mpr cv
           subst cv
           replace H:=ie H
           obtain rfl:=Option.some.inj H;clear H
           have aL:0≤(b:Int):=od
           have aO:b<(a.length:Int):=od
           obtain⟨bc,Z,ab,ac,ad,al,am,an,ao,be,A,B,D,E,G,I,J,K,L,M,O,P,T,U,W,X⟩:=cu Y.out b aL aO
           obtain rfl:a1=bc:=(by injection be)
           obtain⟨A,B,D,E,G,I,J,K⟩:=hc8 HB A B D E G I J K
           have q:=Aside0.mk M
           have s:=Aside0.mk L
           clear M L
           have t:=Aside0.mk P
           have u:=Aside0.mk O
           clear P O
           have v:=Aside0.mk U
           have x:=Aside0.mk T
           clear U T
           have y:=Aside0.mk X
           have z:=Aside0.mk W
           clear X W
           replace aL:=eq_true aL
           replace aO:=eq_true aO
           go_wp2_with (first|((with_reducible refine gd 6 rfl ?_);(try(refine aU (by rfl) ?_;dsimp only));refine bx 6 #[.int .i64 0, .int .i64 0, .slice none 0 0, .int .i64 0, .int .i64 0, .slice none 0 0, .slice none 0 0, .slice none 0 0] 104 ?_;intro bd hg fp hbox hb;have m:=Aside0.mk hbox;have b7:=hz HB hg;have ap:=nl c hg;have aq:=ng c hg;have ar:=nl i hg;have aw:=ng i hg;have d:=nl j hg;have aB:=ng j hg;replace c:=kb c hb;replace i:=kb i hb;replace j:=kb j hb;replace HB:=hs HB hb;clear hb hbox hg;have eK:=aq.out;have eL:=ap.out;have eM:=aw.out;have eN:=ar.out;have eR:=aB.out;have eS:=d.out;have:=cf8 m;have eV:=n.out;have eW:=p.out;have e0:=aP.out;have e1:=aR.out;have:=cf2 c)|(refine gl (some 51) Tryz.func80 #[.agg #[.slice aS l.length a0, .slice (some a1) a.length a3], .agg #[.int .i64 ((aa a b).f0), .int .i64 ((aa a b).f1), .slice Z ((aa a b).f2).length ab, .int .i64 ((aa a b).f3), .int .i64 ((aa a b).f4), .slice ac ((aa a b).f5).length ad, .slice al ((aa a b).f6).length am, .slice an ((aa a b).f7).length ao]] rfl ?_;(with_reducible refine(bn.calls k3 _ _ l _ _ a ((aa a b).f0) ((aa a b).f1) _ _ ((aa a b).f2) ((aa a b).f3) ((aa a b).f4) _ _ ((aa a b).f5) _ _ ((aa a b).f6) _ _ ((aa a b).f7) false _ (cb aE.out) aF.out (cb Y.out) a2.out (cb q.out) s.out (cb t.out) u.out (cb v.out) x.out (cb y.out) z.out ct.out).mono ?_);rintro e fr ⟨rfl,hb⟩;refine⟨_,rfl, ?_⟩;replace c:=kq c hb;replace i:=kq i hb;replace j:=Aside0.mk (eY (g:=bk) (o:=jE) (by(with_reducible repeat(first|refine aC ?_ _|refine au ?_|refine aA ?_ _));refine dW ?_ d.out _;(with_reducible repeat(first|refine aC ?_ _|refine au ?_|refine aA ?_ _));refine dW ?_ d.out _;(with_reducible repeat(first|refine aC ?_ _|refine au ?_|refine aA ?_ _));refine dW ?_ d.out _;(with_reducible repeat(first|refine aC ?_ _|refine au ?_|refine aA ?_ _));refine dW ?_ d.out _;(with_reducible repeat(first|refine aC ?_ _|refine au ?_|refine aA ?_ _));refine dW ?_ d.out _;(with_reducible repeat(first|refine aC ?_ _|refine au ?_|refine aA ?_ _));refine dW ?_ d.out _;(with_reducible repeat(first|refine aC ?_ _|refine au ?_|refine aA ?_ _));refine dW ?_ d.out _;(with_reducible repeat(first|refine aC ?_ _|refine au ?_|refine aA ?_ _));refine dW ?_ d.out _;(with_reducible repeat(first|refine aC ?_ _|refine au ?_|refine aA ?_ _));exact j.out) hb);replace m:=kp bd #[.int .i64 ((aa a b).f0), .int .i64 ((aa a b).f1), .slice Z ((aa a b).f2).length ab, .int .i64 ((aa a b).f3), .int .i64 ((aa a b).f4), .slice ac ((aa a b).f5).length ad, .slice al ((aa a b).f6).length am, .slice an ((aa a b).f7).length ao] 104 hb;replace HB:=hs HB hb))
           go_ret
           exact fin
          rw[if_neg c37]at H
          exact absurd H (by simp)
         rw[if_neg cs]at H
         exact absurd H (by simp)
        rw[if_neg b4]at H
        have cH:decide (b<(a.length:Int))=false:=decide_eq_false b4
        clear b4
        obtain⟨cT,dc,H⟩:=ob H
        obtain rfl:=Option.some.inj H;clear H
        have e2:=n.out
        have e3:=p.out
        have e4:=aP.out
        have e5:=aR.out
        have:=cf2 c
        go_wp2_with (first|(refine gl (some 68) Tryz.func83 #[.agg #[.slice aS l.length a0, .slice (some a1) a.length a3]] rfl ?_;(with_reducible refine(bO.calls k3 _ _ l _ _ a cT _ (cb aE.out) aF.out (cb Y.out) a2.out dc.out).mono ?_);rintro e fs ⟨rfl,hb⟩;refine⟨_,rfl, ?_⟩;replace c:=kb c hb;replace i:=kb i hb;replace j:=kb j hb;replace HB:=hs HB hb))
        go_ret
        exact fin
   rw[if_neg c16]at H
   exact absurd H (by simp)
end Go.Proofs.YteinbmkgenhocaaGreat.P
end
