/- A part of the claim FnExactMachNew. -/
import Derived.Carry
import Derived.Test.YteinbmkgenhocaaGreatCFnExactMachNew34
section
namespace Go.Proofs.YteinbmkgenhocaaGreat.P
open Go.RowKit Go.Proofs.YteinbmkgenhocaaGreatW.PrintWords Go.Proofs.YteinbmkgenhocaaGreatW.PrintLast Go.Proofs.YteinbmkgenhocaaGreatW.PrintMore
attribute [local go_sem] ak au az aA ai aj av ax
set_option linter.unusedVariables false
set_option linter.unusedSimpArgs false
set_option maxHeartbeats 8000000 in
set_option maxRecDepth 100000 in
theorem bB.calls (k:Nat) (ao:Option Addr) (ap:Nat) (l:List (S126)) (bd:Option Addr) (be:Nat) (p:List (S104)) (t:Int) (u:Int) (bh:Option Addr) (bj:Nat) (q:List Int) (v:Int) (m:Int) (bk:Option Addr) (bm:Nat) (a:List (S113)) (bo:Option Addr) (bp:Nat) (g:List (S57)) (br:Option Addr) (bs:Nat) (s:List (S181)) (a2:Int) (r:Bool) (w:World) (ce:Kd.C eB w ao l.length l) (cf:l.length≤ap) (cg:Kd.C dV w bd p.length p) (ch:p.length≤be) (ci:Kd.C (Kd.int .i64) w bh q.length q) (cj:q.length≤bj) (ck:Kd.C fq w bk a.length a) (cl:a.length≤bm) (cm:Kd.C k57 w bo g.length g) (cn:g.length≤bp) (co:Kd.C eZ w br s.length s) (cp:s.length≤bs) {gM:Nat} (hgm:w.heap[gM]? =some jB) (h:bB.f k l p t u q v m a g s a2=some r):
  Calls Tryz.prog 81 #[.agg #[.slice ao l.length ap, .slice bd p.length be], .agg #[.int .i64 t, .int .i64 u, .slice bh q.length bj, .int .i64 v, .int .i64 m, .slice bk a.length bm, .slice bo g.length bp, .slice br s.length bs], .map (some gM)] w fun e w' =>e= .returned (.bool r)∧Below w.heap.size w w' :=by
 have HGM:=Aside0.mk hgm
 clear hgm
 have eN:=Tryz.underlying38
 have c1:=Tryz.underlying104
 have da:=Tryz.underlying113
 have db:=Tryz.underlying188
 have eR:=Tryz.underlying57
 have al:=Aside0.mk ce
 have am:=Aside0.mk cf
 clear ce cf
 have a1:=Aside0.mk cg
 have a3:=Aside0.mk ch
 clear cg ch
 have a4:=Aside0.mk ci
 have a5:=Aside0.mk cj
 clear ci cj
 have U:=Aside0.mk ck
 have a6:=Aside0.mk cl
 clear ck cl
 have an:=Aside0.mk cm
 have a7:=Aside0.mk cn
 clear cm cn
 have a8:=Aside0.mk co
 have a9:=Aside0.mk cp
 clear co cp
 have HB:=Aside0.mk (Below.refl w.heap.size w)
 have H:(if(a.length:Int)<1 then(bB.j0 k true l p t u q v m a g s)else(if(a.length:Int)>12 then(bB.j0 k true l p t u q v m a g s)else(bB.j0 k ((g.length:Int) !=(a.length:Int)) l p t u q v m a g s)))=some r:=h
 clear h
 have cC:=Aside0.mk H
 clear H
 go_enter Tryz.func81,Tryz.ntmps81
 go_upto_region 1 with(first|((with_reducible refine gd 3 rfl ?_);(try(refine aW (by rfl) ?_;dsimp only));refine bx 3 #[.slice ao l.length ap, .slice bd p.length be] 38 ?_;intro b6 hg w5 hbox hb;have c:=Aside0.mk hbox;have dc:=hz HB hg;replace HB:=hs HB hb;clear hb hbox hg)|((with_reducible refine gd 4 rfl ?_);(try(refine aW (by rfl) ?_;dsimp only));refine bx 4 #[.int .i64 t, .int .i64 u, .slice bh q.length bj, .int .i64 v, .int .i64 m, .slice bk a.length bm, .slice bo g.length bp, .slice br s.length bs] 104 ?_;intro b7 hg w6 hbox hb;have b:=Aside0.mk hbox;have dd:=hz HB hg;have n:=nl c hg;have o:=ng c hg;replace c:=kb c hb;replace HB:=hs HB hb;clear hb hbox hg))
 (try simp only[Act.put,List.setIfInBounds_toArray,List.set_cons_zero,List.set_cons_succ])
 go_cut [31] (fun v31 wc=> ∃(kq:Nat) (b3:Bool),v31= .bool b3∧Aside0 (bB.j0 kq b3 l p t u q v m a g s=some r)∧Aside0 (kq≤k)∧Aside0 (wc.heap[b6]? =some (.cells #[(.slice ao l.length ap),(.slice bd p.length be)] 38 (0,0)))∧Aside0 (wc.heap[b7]? =some (.cells #[.int .i64 t, .int .i64 u,(.slice bh q.length bj), .int .i64 v, .int .i64 m,(.slice bk a.length bm),(.slice bo g.length bp),(.slice br s.length bs)] 104 (0,0)))∧Aside0 (Below w.heap.size w wc))
 case first=>
  have H:=cC.out
  clear cC
  by_cases c7:(a.length:Int)<1
  ·rw[if_pos c7]at H
   have b4:decide ((a.length:Int)<1)=true:=decide_eq_true c7
   have cS:decide (a.length<1)=true:=decide_eq_true (by omega)
   clear c7
   (first|rw[b4]|(simp only[bX,bZ];rw[b4])|skip)
   have H' :=Aside0.mk H
   clear H
   have eS:=o.out
   have eV:=n.out
   have:=cf8 b
   go_wp2
   go_meet
   case rel=>exact⟨_,(true),(by first|rfl|(simp;done)|(simp[*];done)),H',⟨by first|omega|exact Nat.le_refl _⟩,kk c,kk b,⟨bl⟩⟩
  rw[if_neg c7]at H
  have b4:decide ((a.length:Int)<1)=false:=decide_eq_false c7
  have cS:decide (a.length<1)=false:=decide_eq_false (by omega)
  clear c7
  (first|rw[b4]|(simp only[bX,bZ];rw[b4])|skip)
  by_cases c10:(a.length:Int)>12
  ·rw[if_pos c10]at H
   have cG:decide (12<(a.length:Int))=true:=decide_eq_true c10
   have cH:decide (12<a.length)=true:=decide_eq_true (by omega)
   clear c10
   have H' :=Aside0.mk H
   clear H
   have de:=o.out
   have dg:=n.out
   have:=cf8 b
   go_wp2
   go_meet
   case rel=>exact⟨_,(true),(by first|rfl|(simp;done)|(simp[*];done)),H',⟨by first|omega|exact Nat.le_refl _⟩,kk c,kk b,⟨bl⟩⟩
  rw[if_neg c10]at H
  have cG:decide (12<(a.length:Int))=false:=decide_eq_false c10
  have cH:decide (12<a.length)=false:=decide_eq_false (by omega)
  clear c10
  have H' :=Aside0.mk H
  clear H
  have dj:=o.out
  have dk:=n.out
  have:=cf8 b
  go_wp2
  go_meet
  case rel=>exact⟨_,(((g.length:Int) !=(a.length:Int))),(by first|rfl|(simp;done)|(simp[*];done)),H',⟨by first|omega|exact Nat.le_refl _⟩,kk c,kk b,⟨bl⟩⟩
 case rest =>
  clear cC
  obtain⟨kq,b3,rfl,HA,cq,c,b,HB⟩:=hcut
  cases kq with
  |zero=>exact absurd HA.out (by simp[bB.j0])
  | succ cN=>
   have H:=HA.out
   clear HA
   simp only[bB.j0]at H
   by_cases c15:b3=true
   ·subst c15
    replace H:=it H
    obtain rfl:=Option.some.inj H;clear H
    go_wp2
    go_ret
    exact fin
   replace c15:=Bool.eq_false_iff.mpr c15
   subst c15
   replace H:=ie H
   have H' :=Aside0.mk H
   clear H
   have dl:=o.out
   have dp:=n.out
   have:=cf8 b
   go_wp2
   go_loopg [35] cN (fun kq v35 w' => ∃(d:Int),v35= .int .i64 d∧Aside0 (bB.l0 kq a (a.length:Int) d l p t u q v m a g s=some r)∧Aside0 (kq≤cN)∧Aside0 (w'.heap[b6]? =some (.cells #[(.slice ao l.length ap),(.slice bd p.length be)] 38 (0,0)))∧Aside0 (w'.heap[b7]? =some (.cells #[.int .i64 t, .int .i64 u,(.slice bh q.length bj), .int .i64 v, .int .i64 m,(.slice bk a.length bm),(.slice bo g.length bp),(.slice br s.length bs)] 104 (0,0)))∧Aside0 (Below w.heap.size w w'))
   case atStart=>exact⟨(0),(by first|rfl|(simp;done)|(simp[*];done)),H',⟨Nat.le_refl _⟩,kk c,kk b,⟨bl⟩⟩
   case round=>
    clear H'
    obtain⟨d,rfl,HA,cr,c,b,HB⟩:=hrel
    cases gk with
    |zero=>exact absurd HA.out (by simp[bB.l0])
    | succ k2=>
     have H:=HA.out
     clear HA
     simp only[bB.l0]at H
     by_cases c18:d<(a.length:Int)
     ·rw [if_pos c18]at H
      have cI:decide (d<(a.length:Int))=true:=decide_eq_true c18
      clear c18
      by_cases c19:0≤d
      ·rw [if_pos c19]at H
       have dq:decide (0≤d)=true:=decide_eq_true c19
       clear c19
       by_cases c20:d<(a.length:Int)
       ·rw [if_pos c20]at H
        have dr:decide (d<(a.length:Int))=true:=decide_eq_true c20
        clear c20
        replace H:=Option.bind_eq_some_iff.mp H
        obtain⟨⟨aP,bt,cD⟩,cE,H⟩:=H
        replace H:(if cD=true then((eu.f k2 l p t u q v m a g s ((aQ a d).f0) ((aQ a d).f1) ((aQ a d).f2) aP ((aQ a d).f1)).bind fun ca=>(if ca=true then((eu.f k2 l p t u q v m a g s ((aQ a d).f0) ((aQ a d).f1) ((aQ a d).f2) bt ((aQ a d).f2)).bind fun cc=>(if cc=true then(bB.l0 k2 a (a.length:Int) (wrap64 (d+1)) l p t u q v m a g s)else(some false)))else(some false)))else(some false))=some r:=H
        have cs:=Aside0.mk cE
        clear cE
        by_cases ct:cD=true
        ·subst ct
         replace H:=it H
         obtain⟨ca,cF,H⟩:=ob H
         by_cases c24:ca=true
         ·subst c24
          replace H:=it H
          obtain⟨cc,cP,H⟩:=ob H
          by_cases cv:cc=true
          ·subst cv
           replace H:=it H
           have H' :=Aside0.mk H
           clear H
           have B:0≤(d:Int):=od
           have D:d<(a.length:Int):=od
           obtain⟨b8,aR,x,y,z⟩:=iD U.out d B D
           cases aR
           obtain⟨x,y,z⟩:=hc3 HB x y z
           replace B:=eq_true B
           replace D:=eq_true D
           go_wp2_with (first|((with_reducible refine gd 8 rfl ?_);(try(refine aW (by rfl) ?_;dsimp only));refine bx 8 #[.int .i64 0, .int .i64 0, .int .i64 0] 113 ?_;intro ba hg e2 hbox hb;have j:=Aside0.mk hbox;have cw:=hz HB hg;have E:=nl c hg;have G:=ng c hg;have I:=nl b hg;have J:=ng b hg;replace c:=kb c hb;replace b:=kb b hb;replace HB:=hs HB hb;clear hb hbox hg;have ds:=G.out;have dt:=E.out;have du:=J.out;have dv:=I.out;have:=cf3 j)|((with_reducible refine gd 43 rfl ?_);refine jR rfl rfl rfl rfl (cK HGM.out bl) cs.out ?_)|((with_reducible refine gd 9 rfl ?_);(try(refine aW (by rfl) ?_;dsimp only));refine bx 9 #[.int .i64 0, .int .i64 0] 188 ?_;intro bb hg e3 hbox hb;have A:=Aside0.mk hbox;have cx:=hz HB hg;have K:=nl c hg;have L:=ng c hg;have M:=nl b hg;have O:=ng b hg;have P:=nl j hg;have T:=ng j hg;replace c:=kq c hb;replace b:=kq b hb;replace j:=kp ba #[.int .i64 ((aQ a d).f0), .int .i64 ((aQ a d).f1), .int .i64 ((aQ a d).f2)] 113 hb;replace HB:=hs HB hb;clear hb hbox hg;have dy:=L.out;have dT:=K.out;have d0:=O.out;have d1:=M.out;have d2:=T.out;have d3:=P.out;have:=cf2 A;have d4:=n.out;have d5:=o.out;have:=cf2 c;have:=cf8 b;have:=cf3 j)|(go_at_call 148;(with_reducible refine(eu.calls k2 _ _ l _ _ p t u _ _ q v m _ _ a _ _ g _ _ s ((aQ a d).f0) ((aQ a d).f1) ((aQ a d).f2) aP ((aQ a d).f1) true _ (cb al.out) am.out (cb a1.out) a3.out (cb a4.out) a5.out (cb U.out) a6.out (cb an.out) a7.out (cb a8.out) a9.out cF.out).mono ?_);rintro e e4 ⟨rfl,hb⟩;replace c:=kq c hb;replace b:=kq b hb;replace j:=kq j hb;replace A:=kp bb #[.int .i64 aP, .int .i64 bt] 188 hb;replace HB:=hs HB hb;have:=cf2 c;have:=cf8 b;have:=cf3 j;have:=cf2 A)|(go_at_call 148;(with_reducible refine(eu.calls k2 _ _ l _ _ p t u _ _ q v m _ _ a _ _ g _ _ s ((aQ a d).f0) ((aQ a d).f1) ((aQ a d).f2) bt ((aQ a d).f2) true _ (cb al.out) am.out (cb a1.out) a3.out (cb a4.out) a5.out (cb U.out) a6.out (cb an.out) a7.out (cb a8.out) a9.out cP.out).mono ?_);rintro e e5 ⟨rfl,hb⟩;replace c:=kb c hb;replace b:=kb b hb;replace j:=kb j hb;replace A:=kb A hb;replace HB:=hs HB hb))
           go_roundg k2
           case measure=>have:=cq.out;have:=cr.out;omega
           case rel=>exact⟨(wrap64 (d+1)),(by first|rfl|(simp;done)|(simp[*];done)),H',⟨by have:=cq.out;have:=cr.out;omega⟩,kk c,kk b,⟨bl⟩⟩
          replace cv:=Bool.eq_false_iff.mpr cv
          subst cv
          replace H:=ie H
          obtain rfl:=Option.some.inj H;clear H
          have B:0≤(d:Int):=od
          have D:d<(a.length:Int):=od
          obtain⟨b8,aR,x,y,z⟩:=iD U.out d B D
          cases aR
          obtain⟨x,y,z⟩:=hc3 HB x y z
          replace B:=eq_true B
          replace D:=eq_true D
          go_wp2_with (first|((with_reducible refine gd 8 rfl ?_);(try(refine aW (by rfl) ?_;dsimp only));refine bx 8 #[.int .i64 0, .int .i64 0, .int .i64 0] 113 ?_;intro ba hg e6 hbox hb;have j:=Aside0.mk hbox;have cw:=hz HB hg;have E:=nl c hg;have G:=ng c hg;have I:=nl b hg;have J:=ng b hg;replace c:=kb c hb;replace b:=kb b hb;replace HB:=hs HB hb;clear hb hbox hg;have d6:=G.out;have d7:=E.out;have d8:=J.out;have ea:=I.out;have:=cf3 j)|((with_reducible refine gd 43 rfl ?_);refine jR rfl rfl rfl rfl (cK HGM.out bl) cs.out ?_)|((with_reducible refine gd 9 rfl ?_);(try(refine aW (by rfl) ?_;dsimp only));refine bx 9 #[.int .i64 0, .int .i64 0] 188 ?_;intro bb hg e7 hbox hb;have A:=Aside0.mk hbox;have cx:=hz HB hg;have K:=nl c hg;have L:=ng c hg;have M:=nl b hg;have O:=ng b hg;have P:=nl j hg;have T:=ng j hg;replace c:=kq c hb;replace b:=kq b hb;replace j:=kp ba #[.int .i64 ((aQ a d).f0), .int .i64 ((aQ a d).f1), .int .i64 ((aQ a d).f2)] 113 hb;replace HB:=hs HB hb;clear hb hbox hg;have eb:=L.out;have ec:=K.out;have ee:=O.out;have ef:=M.out;have eg:=T.out;have eh:=P.out;have:=cf2 A;have ei:=n.out;have ej:=o.out;have:=cf2 c;have:=cf8 b;have:=cf3 j)|(go_at_call 148;(with_reducible refine(eu.calls k2 _ _ l _ _ p t u _ _ q v m _ _ a _ _ g _ _ s ((aQ a d).f0) ((aQ a d).f1) ((aQ a d).f2) aP ((aQ a d).f1) true _ (cb al.out) am.out (cb a1.out) a3.out (cb a4.out) a5.out (cb U.out) a6.out (cb an.out) a7.out (cb a8.out) a9.out cF.out).mono ?_);rintro e e8 ⟨rfl,hb⟩;replace c:=kq c hb;replace b:=kq b hb;replace j:=kq j hb;replace A:=kp bb #[.int .i64 aP, .int .i64 bt] 188 hb;replace HB:=hs HB hb;have:=cf2 c;have:=cf8 b;have:=cf3 j;have:=cf2 A)|(go_at_call 148;(with_reducible refine(eu.calls k2 _ _ l _ _ p t u _ _ q v m _ _ a _ _ g _ _ s ((aQ a d).f0) ((aQ a d).f1) ((aQ a d).f2) bt ((aQ a d).f2) false _ (cb al.out) am.out (cb a1.out) a3.out (cb a4.out) a5.out (cb U.out) a6.out (cb an.out) a7.out (cb a8.out) a9.out cP.out).mono ?_);rintro e w64 ⟨rfl,hb⟩;replace c:=kb c hb;replace b:=kb b hb;replace j:=kb j hb;replace A:=kb A hb;replace HB:=hs HB hb))
          go_ret
          exact fin
         replace c24:=Bool.eq_false_iff.mpr c24
         subst c24
         replace H:=ie H
         obtain rfl:=Option.some.inj H;clear H
         have B:0≤(d:Int):=od
         have D:d<(a.length:Int):=od
         obtain⟨b8,aR,x,y,z⟩:=iD U.out d B D
         cases aR
         obtain⟨x,y,z⟩:=hc3 HB x y z
         replace B:=eq_true B
         replace D:=eq_true D
         go_wp2_with (first|((with_reducible refine gd 8 rfl ?_);(try(refine aW (by rfl) ?_;dsimp only));refine bx 8 #[.int .i64 0, .int .i64 0, .int .i64 0] 113 ?_;intro ba hg e9 hbox hb;have j:=Aside0.mk hbox;have cw:=hz HB hg;have E:=nl c hg;have G:=ng c hg;have I:=nl b hg;have J:=ng b hg;replace c:=kb c hb;replace b:=kb b hb;replace HB:=hs HB hb;clear hb hbox hg;have el:=G.out;have em:=E.out;have en:=J.out;have eo:=I.out;have:=cf3 j)|((with_reducible refine gd 43 rfl ?_);refine jR rfl rfl rfl rfl (cK HGM.out bl) cs.out ?_)|((with_reducible refine gd 9 rfl ?_);(try(refine aW (by rfl) ?_;dsimp only));refine bx 9 #[.int .i64 0, .int .i64 0] 188 ?_;intro bb hg fa hbox hb;have A:=Aside0.mk hbox;have cx:=hz HB hg;have K:=nl c hg;have L:=ng c hg;have M:=nl b hg;have O:=ng b hg;have P:=nl j hg;have T:=ng j hg;replace c:=kq c hb;replace b:=kq b hb;replace j:=kp ba #[.int .i64 ((aQ a d).f0), .int .i64 ((aQ a d).f1), .int .i64 ((aQ a d).f2)] 113 hb;replace HB:=hs HB hb;clear hb hbox hg;have ep:=L.out;have eq:=K.out;have er:=O.out;have es:=M.out;have et:=T.out;have ev:=P.out;have:=cf2 A;have ew:=n.out;have ex:=o.out;have:=cf2 c;have:=cf8 b;have:=cf3 j)|(go_at_call 148;(with_reducible refine(eu.calls k2 _ _ l _ _ p t u _ _ q v m _ _ a _ _ g _ _ s ((aQ a d).f0) ((aQ a d).f1) ((aQ a d).f2) aP ((aQ a d).f1) false _ (cb al.out) am.out (cb a1.out) a3.out (cb a4.out) a5.out (cb U.out) a6.out (cb an.out) a7.out (cb a8.out) a9.out cF.out).mono ?_);rintro e fb ⟨rfl,hb⟩;replace c:=kq c hb;replace b:=kq b hb;replace j:=kq j hb;replace A:=kp bb #[.int .i64 aP, .int .i64 bt] 188 hb;replace HB:=hs HB hb))
         go_ret
         exact fin
        replace ct:=Bool.eq_false_iff.mpr ct
        subst ct
        replace H:=ie H
        obtain rfl:=Option.some.inj H;clear H
        have B:0≤(d:Int):=od
        have D:d<(a.length:Int):=od
        obtain⟨b8,aR,x,y,z⟩:=iD U.out d B D
        cases aR
        obtain⟨x,y,z⟩:=hc3 HB x y z
        replace B:=eq_true B
        replace D:=eq_true D
        go_wp2_with (first|((with_reducible refine gd 43 rfl ?_);refine jR rfl rfl rfl rfl (cK HGM.out bl) cs.out ?_))
        go_ret
        exact fin
       rw[if_neg c20]at H
       exact absurd H (by simp)
      rw[if_neg c19]at H
      exact absurd H (by simp)
     rw[if_neg c18]at H
     have cI:decide (d<(a.length:Int))=false:=decide_eq_false c18
     clear c18
     have H' :=Aside0.mk H
     clear H
     have ey:=o.out
     have ez:=n.out
     have:=cf8 b
     go_wp2
     go_loopg [74] k2 (fun kq v74 w' => ∃(i:Int),v74= .int .i64 i∧Aside0 (bB.l1 kq g (g.length:Int) i l p t u q v m a g s=some r)∧Aside0 (kq≤k2)∧Aside0 (w'.heap[b6]? =some (.cells #[(.slice ao l.length ap),(.slice bd p.length be)] 38 (0,0)))∧Aside0 (w'.heap[b7]? =some (.cells #[.int .i64 t, .int .i64 u,(.slice bh q.length bj), .int .i64 v, .int .i64 m,(.slice bk a.length bm),(.slice bo g.length bp),(.slice br s.length bs)] 104 (0,0)))∧Aside0 (Below w.heap.size w w'))
     case atStart=>exact⟨(0),(by first|rfl|(simp;done)|(simp[*];done)),H',⟨Nat.le_refl _⟩,kk c,kk b,⟨bl⟩⟩
     case round=>
      clear H'
      obtain⟨i,rfl,HA,cQ,c,b,HB⟩:=hrel
      cases gk with
      |zero=>exact absurd HA.out (by simp[bB.l1])
      | succ k3=>
       have H:=HA.out
       clear HA
       simp only[bB.l1]at H
       by_cases b5:i<(g.length:Int)
       ·rw [if_pos b5]at H
        have cJ:decide (i<(g.length:Int))=true:=decide_eq_true b5
        clear b5
        by_cases c91:0≤i
        ·rw[if_pos c91]at H
         have eA:decide (0≤i)=true:=decide_eq_true c91
         clear c91
         by_cases cy:i<(g.length:Int)
         ·rw[if_pos cy]at H
          have eC:decide (i<(g.length:Int))=true:=decide_eq_true cy
          clear cy
          obtain⟨cT,cR,H⟩:=ob H
          by_cases cA:cT=true
          ·subst cA
           replace H:=it H
           have H' :=Aside0.mk H
           clear H
           have aS:0≤(i:Int):=od
           have a0:i<(g.length:Int):=od
           obtain⟨cL,aq,ar,aw,aB,cd,W,X,Y,Z,ab,ac,ad⟩:=jO an.out i aS a0
           cases cd
           obtain⟨W,X,Y⟩:=hc3 HB W X Y
           have bw:=Aside0.mk ab
           have b0:=Aside0.mk Z
           clear ab Z
           have b1:=Aside0.mk ad
           have b2:=Aside0.mk ac
           clear ad ac
           replace aS:=eq_true aS
           replace a0:=eq_true a0
           go_wp2_with (first|((with_reducible refine gd 12 rfl ?_);(try(refine aW (by rfl) ?_;dsimp only));refine bx 12 #[.bool false, .slice none 0 0, .slice none 0 0] 57 ?_;intro b9 hg fc hbox hb;have bc:=Aside0.mk hbox;have cM:=hz HB hg;have aE:=nl c hg;have aF:=ng c hg;have aL:=nl b hg;have aO:=ng b hg;replace c:=kb c hb;replace b:=kb b hb;replace HB:=hs HB hb;clear hb hbox hg;have eE:=aF.out;have eI:=aE.out;have eJ:=aO.out;have eK:=aL.out;have:=cf3 bc;have eL:=n.out;have eM:=o.out;have:=cf2 c;have:=cf8 b)|(refine gl (some 83) Tryz.func68 #[.slice ao l.length ap, .int .i64 m, .agg #[.bool ((aX g i).f0), .slice aq ((aX g i).f1).length ar, .slice aw ((aX g i).f2).length aB]] rfl ?_;(with_reducible refine(bE.calls k3 _ _ l m ((aX g i).f0) _ _ ((aX g i).f1) _ _ ((aX g i).f2) true _ (cb al.out) am.out (cb bw.out) b0.out (cb b1.out) b2.out cR.out).mono ?_);rintro e eW ⟨rfl,hb⟩;refine⟨_,rfl, ?_⟩;replace c:=kq c hb;replace b:=kq b hb;replace bc:=kp b9 #[.bool ((aX g i).f0), .slice aq ((aX g i).f1).length ar, .slice aw ((aX g i).f2).length aB] 57 hb;replace HB:=hs HB hb))
           go_roundg k3
           case measure=>have:=cq.out;have:=cr.out;have:=cQ.out;omega
           case rel=>exact⟨(wrap64 (i+1)),(by first|rfl|(simp;done)|(simp[*];done)),H',⟨by have:=cq.out;have:=cr.out;have:=cQ.out;omega⟩,kk c,kk b,⟨bl⟩⟩
          replace cA:=Bool.eq_false_iff.mpr cA
          subst cA
          replace H:=ie H
          obtain rfl:=Option.some.inj H;clear H
          have aS:0≤(i:Int):=od
          have a0:i<(g.length:Int):=od
          obtain⟨cL,aq,ar,aw,aB,cd,W,X,Y,Z,ab,ac,ad⟩:=jO an.out i aS a0
          cases cd
          obtain⟨W,X,Y⟩:=hc3 HB W X Y
          have bw:=Aside0.mk ab
          have b0:=Aside0.mk Z
          clear ab Z
          have b1:=Aside0.mk ad
          have b2:=Aside0.mk ac
          clear ad ac
          replace aS:=eq_true aS
          replace a0:=eq_true a0
          go_wp2_with (first|((with_reducible refine gd 12 rfl ?_);(try(refine aW (by rfl) ?_;dsimp only));refine bx 12 #[.bool false, .slice none 0 0, .slice none 0 0] 57 ?_;intro b9 hg e0 hbox hb;have bc:=Aside0.mk hbox;have cM:=hz HB hg;have aE:=nl c hg;have aF:=ng c hg;have aL:=nl b hg;have aO:=ng b hg;replace c:=kb c hb;replace b:=kb b hb;replace HB:=hs HB hb;clear hb hbox hg;have cU:=aF.out;have cV:=aE.out;have cW:=aO.out;have cX:=aL.out;have:=cf3 bc;have cY:=n.out;have c0:=o.out;have:=cf2 c;have:=cf8 b)|(refine gl (some 83) Tryz.func68 #[.slice ao l.length ap, .int .i64 m, .agg #[.bool ((aX g i).f0), .slice aq ((aX g i).f1).length ar, .slice aw ((aX g i).f2).length aB]] rfl ?_;(with_reducible refine(bE.calls k3 _ _ l m ((aX g i).f0) _ _ ((aX g i).f1) _ _ ((aX g i).f2) false _ (cb al.out) am.out (cb bw.out) b0.out (cb b1.out) b2.out cR.out).mono ?_);rintro e e1 ⟨rfl,hb⟩;refine⟨_,rfl, ?_⟩;replace c:=kq c hb;replace b:=kq b hb;replace bc:=kp b9 #[.bool ((aX g i).f0), .slice aq ((aX g i).f1).length ar, .slice aw ((aX g i).f2).length aB] 57 hb;replace HB:=hs HB hb))
          go_ret
          exact fin
         rw[if_neg cy]at H
         exact absurd H (by simp)
        rw[if_neg c91]at H
        exact absurd H (by simp)
       rw[if_neg b5]at H
       have cJ:decide (i<(g.length:Int))=false:=decide_eq_false b5
       clear b5
       obtain rfl:=Option.some.inj H;clear H
       go_wp2
       go_ret
       exact fin
set_option maxHeartbeats 8000000 in
set_option maxRecDepth 100000 in
theorem dB.calls (k:Nat) (A0:Option Addr) (c0:Nat) (l0:List (S126)) (a1:Int) (a2:Int) (r:Bool) (w:World) (hr0:Kd.C eB w A0 l0.length l0) (hc0:l0.length≤c0) (h:dB.f k l0 a1 a2=some r):
  Calls Tryz.prog 149 #[.slice A0 l0.length c0, .int .i64 a1, .int .i64 a2] w fun e w' =>e= .returned (.bool r)∧Drawn0 w w' :=by
 have t:=Aside0.mk hr0
 have A:=Aside0.mk hc0
 clear hr0 hc0
 have H:(dB.l0 k l0 a2 a1)=some r:=h
 clear h
 have H' :=Aside0.mk H
 clear H
 go_enter Tryz.func149,Tryz.ntmps149
 go_wp2
 go_loopg [7] k (fun kq v7 w' => ∃(a:Int),v7= .int .i64 a∧Aside0 (dB.l0 kq l0 a2 a=some r)∧Aside0 (kq≤k)∧Drawn0 w w')
 case atStart=>exact⟨(a1),(by first|rfl|(simp;done)|(simp[*];done)),H',⟨Nat.le_refl _⟩,by repeat(first|exact Drawn0.refl _|apply Drawn0.step)⟩
 case round=>
  clear H'
  obtain⟨a,rfl,HA,i,⟨m1,rfl⟩⟩:=hrel
  cases gk with
  |zero=>exact absurd HA.out (by simp[dB.l0])
  | succ k1=>
   have H:=HA.out
   clear HA
   simp only[dB.l0]at H
   by_cases c4:a≥0
   ·rw[if_pos c4]at H
    have j:decide (0≤a)=true:=decide_eq_true c4
    clear c4
    by_cases c5:a=a2
    ·rw[if_pos c5]at H
     have l:=beq_iff_eq.mpr c5
     have m:=bne_eq_false_iff_eq.mpr c5
     clear c5
     obtain rfl:=Option.some.inj H;clear H
     go_wp2
     go_ret
     exact⟨by first|rfl|(simp;done)|(simp[*];done),by repeat(first|exact Drawn0.refl _|apply Drawn0.step)⟩
    rw[if_neg c5]at H
    have l:=beq_eq_false_iff_ne.mpr c5
    have m:=bne_iff_ne.mpr c5
    by_cases c6:0≤a
    ·rw[if_pos c6]at H
     have y:decide (0≤a)=true:=decide_eq_true c6
     clear c6
     by_cases c7:a<(l0.length:Int)
     ·rw[if_pos c7]at H
      have z:decide (a<(l0.length:Int))=true:=decide_eq_true c7
      clear c7
      have H' :=Aside0.mk H
      clear H
      have d:0≤(a:Int):=od
      have g:a<(l0.length:Int):=od
      obtain⟨x,u,v,n,o,p,b,c⟩:=fP t.out a d g
      cases n
      have q:=Aside0.mk c
      have s:=Aside0.mk b
      clear c b
      replace d:=eq_true d
      replace g:=eq_true g
      go_wp2
      go_roundg k1
      case measure=>have:=i.out;omega
      case rel=>exact⟨((aD l0 a).f0),(by first|rfl|(simp;done)|(simp[*];done)),H',⟨by have:=i.out;omega⟩,by repeat(first|exact Drawn0.refl _|apply Drawn0.step)⟩
     rw[if_neg c7]at H
     exact absurd H (by simp)
    rw[if_neg c6]at H
    exact absurd H (by simp)
   rw[if_neg c4]at H
   have j:decide (0≤a)=false:=decide_eq_false c4
   clear c4
   obtain rfl:=Option.some.inj H;clear H
   go_wp2
   go_ret
   exact⟨by first|rfl|(simp;done)|(simp[*];done),by repeat(first|exact Drawn0.refl _|apply Drawn0.step)⟩
set_option maxHeartbeats 8000000 in
set_option maxRecDepth 100000 in
theorem bf.calls (k:Nat) (A:Option Addr) (B:Nat) (l:List (S126)) (L:Option Addr) (M:Nat) (s:List (S104)) (v:Int) (x:Int) (O:Option Addr) (P:Nat) (t:List Int) (y:Int) (z:Int) (T:Option Addr) (U:Nat) (p:List (S113)) (W:Option Addr) (X:Nat) (u:List (S57)) (ao:Option Addr) (Y:Nat) (a:List (S181)) (r:Bool) (w:World) (aO:Kd.C eB w A l.length l) (aP:l.length≤B) (aR:Kd.C dV w L s.length s) (aS:s.length≤M) (a0:Kd.C (Kd.int .i64) w O t.length t) (a1:t.length≤P) (a2:Kd.C fq w T p.length p) (a3:p.length≤U) (a4:Kd.C k57 w W u.length u) (a5:u.length≤X) (a6:Kd.C eZ w ao a.length a) (a7:a.length≤Y) (h:bf.f k l s v x t y z p u a=some r):
  Calls Tryz.prog 82 #[.agg #[.slice A l.length B, .slice L s.length M], .agg #[.int .i64 v, .int .i64 x, .slice O t.length P, .int .i64 y, .int .i64 z, .slice T p.length U, .slice W u.length X, .slice ao a.length Y]] w fun e w' =>e= .returned (.bool r)∧Below w.heap.size w w' :=by
 have dT:=Tryz.underlying38
 have b2:=Tryz.underlying104
 have b3:=Tryz.underlying181
 have D:=Aside0.mk aO
 have E:=Aside0.mk aP
 clear aO aP
 have b4:=Aside0.mk aR
 have b5:=Aside0.mk aS
 clear aR aS
 have b6:=Aside0.mk a0
 have b7:=Aside0.mk a1
 clear a0 a1
 have b8:=Aside0.mk a2
 have b9:=Aside0.mk a3
 clear a2 a3
 have ca:=Aside0.mk a4
 have cc:=Aside0.mk a5
 clear a4 a5
 have bj:=Aside0.mk a6
 have cd:=Aside0.mk a7
 clear a6 a7
 have HB:=Aside0.mk (Below.refl w.heap.size w)
 have H:(if(a.length:Int)>2 then(some false)else(bf.l0 k a (a.length:Int) 0 l s v x t y z p u a))=some r:=h
 clear h
 by_cases c3:(a.length:Int)>2
 ·rw[if_pos c3]at H
  have br:decide (2<(a.length:Int))=true:=decide_eq_true c3
  have bs:decide (2<a.length)=true:=decide_eq_true (by omega)
  clear c3
  obtain rfl:=Option.some.inj H;clear H
  go_enter Tryz.func82,Tryz.ntmps82
  go_wp2
  go_ret
  exact fin
 rw[if_neg c3]at H
 have br:decide (2<(a.length:Int))=false:=decide_eq_false c3
 have bs:decide (2<a.length)=false:=decide_eq_false (by omega)
 clear c3
 have H' :=Aside0.mk H
 clear H
 go_enter Tryz.func82,Tryz.ntmps82
 go_wp2_with (first|((with_reducible refine gd 2 rfl ?_);(try(refine aW (by rfl) ?_;dsimp only));refine bx 2 #[.slice A l.length B, .slice L s.length M] 38 ?_;intro ap hg w8 hbox hb;have j:=Aside0.mk hbox;have ce:=hz HB hg;replace HB:=hs HB hb;clear hb hbox hg)|((with_reducible refine gd 3 rfl ?_);(try(refine aW (by rfl) ?_;dsimp only));refine bx 3 #[.int .i64 v, .int .i64 x, .slice O t.length P, .int .i64 y, .int .i64 z, .slice T p.length U, .slice W u.length X, .slice ao a.length Y] 104 ?_;intro aq hg w9 hbox hb;have m:=Aside0.mk hbox;have cf:=hz HB hg;have n:=nl j hg;have o:=ng j hg;replace j:=kb j hb;replace HB:=hs HB hb;clear hb hbox hg;have cg:=o.out;have ch:=n.out;have:=cf8 m))
 go_loopg [14] k (fun kq v14 w' => ∃(b:Int),v14= .int .i64 b∧Aside0 (bf.l0 kq a (a.length:Int) b l s v x t y z p u a=some r)∧Aside0 (kq≤k)∧Aside0 (w'.heap[ap]? =some (.cells #[(.slice A l.length B),(.slice L s.length M)] 38 (0,0)))∧Aside0 (w'.heap[aq]? =some (.cells #[.int .i64 v, .int .i64 x,(.slice O t.length P), .int .i64 y, .int .i64 z,(.slice T p.length U),(.slice W u.length X),(.slice ao a.length Y)] 104 (0,0)))∧Aside0 (Below w.heap.size w w'))
 case atStart=>exact⟨(0),(by first|rfl|(simp;done)|(simp[*];done)),H',⟨Nat.le_refl _⟩,kk j,kk m,⟨bl⟩⟩
 case round =>
  clear H'
  obtain⟨b,rfl,HA,Z,j,m,HB⟩:=hrel
  cases gk with
  |zero=>exact absurd HA.out (by simp[bf.l0])
  | succ k1 =>
   have H:=HA.out
   clear HA
   simp only[bf.l0]at H
   by_cases c12:b<(a.length:Int)
   ·rw [if_pos c12]at H
    have bk:decide (b<(a.length:Int))=true:=decide_eq_true c12
    clear c12
    by_cases c13:0≤b
    ·rw [if_pos c13]at H
     have ci:decide (0≤b)=true:=decide_eq_true c13
     clear c13
     by_cases c14:b<(a.length:Int)
     ·rw [if_pos c14]at H
      have cj:decide (b<(a.length:Int))=true:=decide_eq_true c14
      clear c14
      have aw:=Aside0.mk H
      clear H
      have aB:0≤(b:Int):=od
      have aE:b<(a.length:Int):=od
      obtain⟨a8,bt,ab,ac,ad,al⟩:=jH bj.out b aB aE
      cases bt
      obtain⟨ab,ac,ad,al⟩:=hc4 HB ab ac ad al
      replace aB:=eq_true aB
      replace aE:=eq_true aE
      go_upto_region 6 with(first|((with_reducible refine gd 6 rfl ?_);(try(refine aW (by rfl) ?_;dsimp only));refine bx 6 #[.int .i64 0, .int .i64 0, .int .i64 0, .int .i64 0] 181 ?_;intro a9 hg w16 hbox hb;have q:=Aside0.mk hbox;have ck:=hz HB hg;have c:=nl j hg;have d:=ng j hg;have g:=nl m hg;have i:=ng m hg;replace j:=kb j hb;replace m:=kb m hb;replace HB:=hs HB hb;clear hb hbox hg;have cl:=d.out;have cm:=c.out;have cn:=i.out;have co:=g.out;have:=cf4 q))
      (try simp only[Act.put,List.setIfInBounds_toArray,List.set_cons_zero,List.set_cons_succ])
      go_cut [41] (fun v41 wc=> ∃(kq:Nat) (G:Bool),v41= .bool G∧Aside0 (bf.j1 kq a (a.length:Int) b G l s v x t y z p u a ((aH a b).f0) ((aH a b).f1) ((aH a b).f2) ((aH a b).f3)=some r)∧Aside0 (kq≤k1)∧Aside0 (wc.heap[ap]? =some (.cells #[(.slice A l.length B),(.slice L s.length M)] 38 (0,0)))∧Aside0 (wc.heap[aq]? =some (.cells #[.int .i64 v, .int .i64 x,(.slice O t.length P), .int .i64 y, .int .i64 z,(.slice T p.length U),(.slice W u.length X),(.slice (some a8) a.length Y)] 104 (0,0)))∧Aside0 (wc.heap[a9]? =some (.cells #[.int .i64 ((aH a b).f0), .int .i64 ((aH a b).f1), .int .i64 ((aH a b).f2), .int .i64 ((aH a b).f3)] 181 (0,0)))∧Aside0 (Below w.heap.size w wc))
      case first=>
       have H:=aw.out
       clear aw
       by_cases c20:((aH a b).f0)<0
       ·rw[if_pos c20]at H
        have I:decide (((aH a b).f0)<0)=true:=decide_eq_true c20
        clear c20
        (first|rw[I]|(simp only[bX,bZ];rw[I])|skip)
        have H' :=Aside0.mk H
        clear H
        have cp:=d.out
        have cq:=c.out
        have cr:=i.out
        have cs:=g.out
        have:=cf4 q
        go_wp2
        go_meet
        case rel=>exact⟨_,(true),(by first|rfl|(simp;done)|(simp[*];done)),H',⟨by have:=Z.out;first|omega|exact Nat.le_refl _⟩,kf,kf,kf,⟨bl⟩⟩
       rw[if_neg c20]at H
       have I:decide (((aH a b).f0)<0)=false:=decide_eq_false c20
       clear c20
       (first|rw[I]|(simp only[bX,bZ];rw[I])|skip)
       by_cases c24:((aH a b).f0)≥(p.length:Int)
       ·rw[if_pos c24]at H
        have bm:decide ((p.length:Int)≤((aH a b).f0))=true:=decide_eq_true c24
        clear c24
        have H' :=Aside0.mk H
        clear H
        have ct:=d.out
        have cv:=c.out
        have cw:=i.out
        have cx:=g.out
        have:=cf4 q
        have cy:=o.out
        have cA:=n.out
        have:=cf8 m
        go_wp2
        go_meet
        case rel=>exact⟨_,(true),(by first|rfl|(simp;done)|(simp[*];done)),H',⟨by have:=Z.out;first|omega|exact Nat.le_refl _⟩,kf,kf,kf,⟨bl⟩⟩
       rw[if_neg c24]at H
       have bm:decide ((p.length:Int)≤((aH a b).f0))=false:=decide_eq_false c24
       clear c24
       by_cases am:((aH a b).f2)<0
       ·rw[if_pos am]at H
        have bo:decide (((aH a b).f2)<0)=true:=decide_eq_true am
        clear am
        have H' :=Aside0.mk H
        clear H
        have cC:=d.out
        have cD:=c.out
        have cE:=i.out
        have cF:=g.out
        have:=cf4 q
        have cG:=o.out
        have cH:=n.out
        have:=cf8 m
        go_wp2
        go_meet
        case rel=>exact⟨_,(true),(by first|rfl|(simp;done)|(simp[*];done)),H',⟨by have:=Z.out;first|omega|exact Nat.le_refl _⟩,kf,kf,kf,⟨bl⟩⟩
       rw[if_neg am]at H
       have bo:decide (((aH a b).f2)<0)=false:=decide_eq_false am
       clear am
       have H' :=Aside0.mk H
       clear H
       have cI:=d.out
       have cJ:=c.out
       have cL:=i.out
       have cM:=g.out
       have:=cf4 q
       have cN:=o.out
       have cP:=n.out
       have:=cf8 m
       go_wp2
       go_meet
       case rel=>exact⟨_,(decide (((aH a b).f2)≥(p.length:Int))),(by first|rfl|(simp;done)|(simp[*];done)),H',⟨by have:=Z.out;first|omega|exact Nat.le_refl _⟩,kf,kf,kf,⟨bl⟩⟩
      case rest=>
       clear aw
       obtain⟨kq,G,rfl,HA,ar,j,m,q,HB⟩:=hcut
       cases kq with
       |zero=>exact absurd HA.out (by simp[bf.j1])
       | succ bw=>
        have H:=HA.out
        clear HA
        simp only[bf.j1]at H
        by_cases ba:G=true
        ·subst ba
         replace H:=it H
         obtain rfl:=Option.some.inj H;clear H
         go_wp2
         go_ret
         exact fin
        replace ba:=Bool.eq_false_iff.mpr ba
        subst ba
        replace H:=ie H
        have aF:=Aside0.mk H
        clear H
        go_upto_region 8 with(fail)
        go_cut [54] (fun v54 wc=> ∃(kq:Nat) (J:Bool),v54= .bool J∧Aside0 (bf.j2 kq a (a.length:Int) b J l s v x t y z p u a ((aH a b).f0) ((aH a b).f1) ((aH a b).f2) ((aH a b).f3)=some r)∧Aside0 (kq≤bw)∧Aside0 (wc.heap[ap]? =some (.cells #[(.slice A l.length B),(.slice L s.length M)] 38 (0,0)))∧Aside0 (wc.heap[aq]? =some (.cells #[.int .i64 v, .int .i64 x,(.slice O t.length P), .int .i64 y, .int .i64 z,(.slice T p.length U),(.slice W u.length X),(.slice (some a8) a.length Y)] 104 (0,0)))∧Aside0 (wc.heap[a9]? =some (.cells #[.int .i64 ((aH a b).f0), .int .i64 ((aH a b).f1), .int .i64 ((aH a b).f2), .int .i64 ((aH a b).f3)] 181 (0,0)))∧Aside0 (Below w.heap.size w wc))
        case first=>
         have H:=aF.out
         clear aF
         by_cases an:((aH a b).f1)≤((aH a b).f0)
         ·rw[if_pos an]at H
          have K:decide (((aH a b).f1)≤((aH a b).f0))=true:=decide_eq_true an
          clear an
          (first|rw[K]|(simp only[bX,bZ];rw[K])|skip)
          have H' :=Aside0.mk H
          clear H
          have cQ:=d.out
          have cR:=c.out
          have cS:=i.out
          have cT:=g.out
          have:=cf4 q
          go_wp2
          go_meet
          case rel=>exact⟨_,(true),(by first|rfl|(simp;done)|(simp[*];done)),H',⟨by have:=Z.out;have:=ar.out;first|omega|exact Nat.le_refl _⟩,kk j,kk m,kk q,⟨bl⟩⟩
         rw[if_neg an]at H
         have K:decide (((aH a b).f1)≤((aH a b).f0))=false:=decide_eq_false an
         clear an
         (first|rw[K]|(simp only[bX,bZ];rw[K])|skip)
         have H' :=Aside0.mk H
         clear H
         have cU:=d.out
         have cV:=c.out
         have cW:=i.out
         have cX:=g.out
         have:=cf4 q
         have cY:=o.out
         have c0:=n.out
         have:=cf8 m
         go_wp2
         go_meet
         case rel=>exact⟨_,(decide (((aH a b).f1)>(p.length:Int))),(by first|rfl|(simp;done)|(simp[*];done)),H',⟨by have:=Z.out;have:=ar.out;first|omega|exact Nat.le_refl _⟩,kk j,kk m,kk q,⟨bl⟩⟩
        case rest=>
         clear aF
         obtain⟨kq,J,rfl,HA,be,j,m,q,HB⟩:=hcut
         cases kq with
         |zero=>exact absurd HA.out (by simp[bf.j2])
         | succ aL=>
          have H:=HA.out
          clear HA
          simp only[bf.j2]at H
          by_cases bb:J=true
          ·subst bb
           replace H:=it H
           obtain rfl:=Option.some.inj H;clear H
           go_wp2
           go_ret
           exact fin
          replace bb:=Bool.eq_false_iff.mpr bb
          subst bb
          replace H:=ie H
          obtain⟨b0,bh,H⟩:=ob H
          by_cases bc:b0=true
          ·subst bc
           replace H:=it H
           obtain⟨b1,bp,H⟩:=ob H
           by_cases bd:b1=true
           ·subst bd
            replace H:=it H
            have H' :=Aside0.mk H
            clear H
            have c1:=n.out
            have da:=o.out
            have db:=c.out
            have dc:=d.out
            have:=cf2 j
            have dd:=i.out
            have de:=g.out
            have:=cf4 q
            go_wp2_with (first|(refine gl (some 59) Tryz.func146 #[.slice A l.length B, .int .i64 ((aH a b).f3)] rfl ?_;(with_reducible refine(dQ.calls _ _ l ((aH a b).f3) true _ (cb D.out) E.out bh.out).mono ?_);rintro e w' ⟨rfl,⟨nd,rfl⟩⟩;refine⟨_,rfl, ?_⟩)|(go_at_call 149;(with_reducible refine(dB.calls aL _ _ l ((aH a b).f3) 1 true _ (cb D.out) E.out bp.out).mono ?_);rintro e w' ⟨rfl,⟨nd,rfl⟩⟩))
            go_roundg aL
            case measure=>have:=Z.out;have:=ar.out;have:=be.out;omega
            case rel=>exact⟨(wrap64 (b+1)),(by first|rfl|(simp;done)|(simp[*];done)),H',⟨by have:=Z.out;have:=ar.out;have:=be.out;omega⟩,kk j,kk m,⟨bl⟩⟩
           replace bd:=Bool.eq_false_iff.mpr bd
           subst bd
           replace H:=ie H
           obtain rfl:=Option.some.inj H;clear H
           have dg:=n.out
           have dj:=o.out
           have dk:=c.out
           have dl:=d.out
           have:=cf2 j
           have dp:=i.out
           have dq:=g.out
           have:=cf4 q
           go_wp2_with (first|(refine gl (some 59) Tryz.func146 #[.slice A l.length B, .int .i64 ((aH a b).f3)] rfl ?_;(with_reducible refine(dQ.calls _ _ l ((aH a b).f3) true _ (cb D.out) E.out bh.out).mono ?_);rintro e w' ⟨rfl,⟨nd,rfl⟩⟩;refine⟨_,rfl, ?_⟩)|(go_at_call 149;(with_reducible refine(dB.calls aL _ _ l ((aH a b).f3) 1 false _ (cb D.out) E.out bp.out).mono ?_);rintro e w' ⟨rfl,⟨nd,rfl⟩⟩))
           go_ret
           exact fin
          replace bc:=Bool.eq_false_iff.mpr bc
          subst bc
          replace H:=ie H
          obtain rfl:=Option.some.inj H;clear H
          have dr:=n.out
          have ds:=o.out
          have dt:=c.out
          have du:=d.out
          have:=cf2 j
          have dv:=i.out
          have dy:=g.out
          have:=cf4 q
          go_wp2_with (first|(refine gl (some 59) Tryz.func146 #[.slice A l.length B, .int .i64 ((aH a b).f3)] rfl ?_;(with_reducible refine(dQ.calls _ _ l ((aH a b).f3) false _ (cb D.out) E.out bh.out).mono ?_);rintro e w' ⟨rfl,⟨nd,rfl⟩⟩;refine⟨_,rfl, ?_⟩))
          go_ret
          exact fin
     rw[if_neg c14]at H
     exact absurd H (by simp)
    rw[if_neg c13]at H
    exact absurd H (by simp)
   rw[if_neg c12]at H
   have bk:decide (b<(a.length:Int))=false:=decide_eq_false c12
   clear c12
   obtain rfl:=Option.some.inj H;clear H
   go_wp2
   go_ret
   exact fin
set_option maxHeartbeats 8000000 in
set_option maxRecDepth 100000 in
theorem slices_Equal_int_int.calls (k:Nat) (A0:Option Addr) (c0:Nat) (l0:List Int) (A1:Option Addr) (c1:Nat) (l1:List Int) (r:Bool) (w:World) (hr0:Kd.C (Kd.int .i64) w A0 l0.length l0) (hc0:l0.length≤c0) (hr1:Kd.C (Kd.int .i64) w A1 l1.length l1) (hc1:l1.length≤c1) (h:slices_Equal_int_int.f k l0 l1=some r):
  Calls Tryz.prog 150 #[.slice A0 l0.length c0, .slice A1 l1.length c1] w fun e w' =>e= .returned (.bool r)∧Drawn0 w w' :=by
 have p:=Aside0.mk hr0
 have D:=Aside0.mk hc0
 clear hr0 hc0
 have HR1:=Aside0.mk hr1
 have E:=Aside0.mk hc1
 clear hr1 hc1
 have H:(if(l0.length:Int)=(l1.length:Int)then(slices_Equal_int_int.l0 k l0 l1 (l0.length:Int) 0)else(some false))=some r:=h
 clear h
 by_cases c3:(l0.length:Int)=(l1.length:Int)
 ·rw [if_pos c3]at H
  have s:=beq_iff_eq.mpr c3
  have t:=bne_eq_false_iff_eq.mpr c3
  have u:(l0.length==l1.length)=true:=by first|simpa using c3|(simp at c3⊢;omega)
  clear c3
  have H' :=Aside0.mk H
  clear H
  go_enter Tryz.func150,Tryz.ntmps150
  go_wp2
  repeat(go_quiet (fail);try go_wp2)
  go_loopg [13] k (fun kq v13 w' => ∃(a:Int),v13= .int .i64 a∧Aside0 (slices_Equal_int_int.l0 kq l0 l1 (l0.length:Int) a=some r)∧Aside0 (kq≤k)∧Drawn0 w w')
  case atStart=>exact⟨(0),(by first|rfl|(simp;done)|(simp[*];done)),H',⟨Nat.le_refl _⟩,by repeat(first|exact Drawn0.refl _|apply Drawn0.step)⟩
  case round=>
   clear H'
   obtain⟨a,rfl,HA,q,⟨m1,rfl⟩⟩:=hrel
   cases gk with
   |zero=>exact absurd HA.out (by simp[slices_Equal_int_int.l0])
   | succ k1=>
    have H:=HA.out
    clear HA
    simp only[slices_Equal_int_int.l0]at H
    by_cases c4:a<(l0.length:Int)
    ·rw [if_pos c4]at H
     have v:decide (a<(l0.length:Int))=true:=decide_eq_true c4
     clear c4
     by_cases c5:0≤a
     ·rw [if_pos c5]at H
      have z:decide (0≤a)=true:=decide_eq_true c5
      clear c5
      by_cases c6:a<(l0.length:Int)
      ·rw[if_pos c6]at H
       have A:decide (a<(l0.length:Int))=true:=decide_eq_true c6
       clear c6
       by_cases c7:a<(l1.length:Int)
       ·rw[if_pos c7]at H
        have B:decide (a<(l1.length:Int))=true:=decide_eq_true c7
        clear c7
        by_cases c8:(rd l0 a)=(rd l1 a)
        ·rw[if_pos c8]at H
         have x:=beq_iff_eq.mpr c8
         have y:=bne_eq_false_iff_eq.mpr c8
         clear c8
         have H' :=Aside0.mk H
         clear H
         have b:0≤(a:Int):=od
         have c:a<(l0.length:Int):=od
         obtain⟨n,i,l⟩:=Kd.at_int p.out a b c
         cases i
         replace b:=eq_true b
         replace c:=eq_true c
         have d:0≤(a:Int):=od
         have g:a<(l1.length:Int):=od
         obtain⟨o,j,m⟩:=Kd.at_int HR1.out a d g
         cases j
         replace d:=eq_true d
         replace g:=eq_true g
         go_wp2
         repeat(go_quiet (fail);try go_wp2)
         go_roundg k1
         case measure=>have:=q.out;omega
         case rel=>exact⟨(wrap64 (a+1)),(by first|rfl|(simp;done)|(simp[*];done)),H',⟨by have:=q.out;omega⟩,by repeat(first|exact Drawn0.refl _|apply Drawn0.step)⟩
        rw[if_neg c8]at H
        have x:=beq_eq_false_iff_ne.mpr c8
        have y:=bne_iff_ne.mpr c8
        obtain rfl:=Option.some.inj H;clear H
        have b:0≤(a:Int):=od
        have c:a<(l0.length:Int):=od
        obtain⟨n,i,l⟩:=Kd.at_int p.out a b c
        cases i
        replace b:=eq_true b
        replace c:=eq_true c
        have d:0≤(a:Int):=od
        have g:a<(l1.length:Int):=od
        obtain⟨o,j,m⟩:=Kd.at_int HR1.out a d g
        cases j
        replace d:=eq_true d
        replace g:=eq_true g
        go_wp2
        repeat(go_quiet (fail);try go_wp2)
        go_ret
        exact⟨by first|rfl|(simp;done)|(simp[*];done),by repeat(first|exact Drawn0.refl _|apply Drawn0.step)⟩
       rw[if_neg c7]at H
       exact absurd H (by simp)
      rw[if_neg c6]at H
      exact absurd H (by simp)
     rw[if_neg c5]at H
     exact absurd H (by simp)
    rw[if_neg c4]at H
    have v:decide (a<(l0.length:Int))=false:=decide_eq_false c4
    clear c4
    obtain rfl:=Option.some.inj H;clear H
    go_wp2
    repeat(go_quiet (fail);try go_wp2)
    go_ret
    exact⟨by first|rfl|(simp;done)|(simp[*];done),by repeat(first|exact Drawn0.refl _|apply Drawn0.step)⟩
 rw[if_neg c3]at H
 have s:=beq_eq_false_iff_ne.mpr c3
 have t:=bne_iff_ne.mpr c3
 have u:(l0.length==l1.length)=false:=by first|simpa using c3|(simp at c3⊢;omega)
 obtain rfl:=Option.some.inj H;clear H
 go_enter Tryz.func150,Tryz.ntmps150
 go_wp2
 repeat(go_quiet (fail);try go_wp2)
 go_ret
 exact⟨by first|rfl|(simp;done)|(simp[*];done),by repeat(first|exact Drawn0.refl _|apply Drawn0.step)⟩
set_option maxHeartbeats 8000000 in
set_option maxRecDepth 100000 in
theorem bK.calls (k:Nat) (s:Option Addr) (t:Nat) (n:List (S126)) (a5:Option Addr) (A:Nat) (a:List (S104)) (r:Bool) (w:World) (br:Kd.C eB w s n.length n) (bs:n.length≤t) (bt:Kd.C dV w a5 a.length a) (bw:a.length≤A) (h:bK.f k n a=some r):
  Calls Tryz.prog 83 #[.agg #[.slice s n.length t, .slice a5 a.length A]] w fun e w' =>e= .returned (.bool r)∧Below w.heap.size w w' :=by
 have eq:=Tryz.underlying38
 have cJ:=Tryz.underlying104
 have D:=Aside0.mk br
 have E:=Aside0.mk bs
 clear br bs
 have b0:=Aside0.mk bt
 have cL:=Aside0.mk bw
 clear bt bw
 have HB:=Aside0.mk (Below.refl w.heap.size w)
 have H:(bK.l0 k a (a.length:Int) 0 n a)=some r:=h
 clear h
 have H' :=Aside0.mk H
 clear H
 go_enter Tryz.func83,Tryz.ntmps83
 go_wp2_with (first|((with_reducible refine gd 1 rfl ?_);refine bx 1 #[.slice s n.length t, .slice a5 a.length A] 38 ?_;intro a6 hg w2 hbox hb;have d:=Aside0.mk hbox;have cM:=hz HB hg;replace HB:=hs HB hb;clear hb hbox hg;have:=cf2 d))
 go_loopg [10] k (fun kq v10 w' => ∃(b:Int),v10= .int .i64 b∧Aside0 (bK.l0 kq a (a.length:Int) b n a=some r)∧Aside0 (kq≤k)∧Aside0 (w'.heap[a6]? =some (.cells #[(.slice s n.length t),(.slice a5 a.length A)] 38 (0,0)))∧Aside0 (Below w.heap.size w w'))
 case atStart=>exact⟨(0),(by first|rfl|(simp;done)|(simp[*];done)),H',⟨Nat.le_refl _⟩,kk d,⟨bl⟩⟩
 case round =>
  clear H'
  obtain⟨b,rfl,HA,v,d,HB⟩:=hrel
  cases gk with
  |zero=>exact absurd HA.out (by simp[bK.l0])
  | succ k1 =>
   have H:=HA.out
   clear HA
   simp only[bK.l0]at H
   by_cases c4:b<(a.length:Int)
   ·rw [if_pos c4]at H
    have cp:decide (b<(a.length:Int))=true:=decide_eq_true c4
    clear c4
    by_cases c5:0≤b
    ·rw [if_pos c5]at H
     have er:decide (0≤b)=true:=decide_eq_true c5
     clear c5
     by_cases c6:b<(a.length:Int)
     ·rw [if_pos c6]at H
      have es:decide (b<(a.length:Int))=true:=decide_eq_true c6
      clear c6
      have H' :=Aside0.mk H
      clear H
      have bj:0≤(b:Int):=od
      have bk:b<(a.length:Int):=od
      obtain⟨a7,a8,a9,ba,bb,bc,bd,be,bh,cq,J,K,L,M,O,P,T,U,W,X,Y,Z,ab,ac,ad,al⟩:=di b0.out b bj bk
      cases cq
      obtain⟨J,K,L,M,O,P,T,U⟩:=hc8 HB J K L M O P T U
      have am:=Aside0.mk X
      have an:=Aside0.mk W
      clear X W
      have cv:=Aside0.mk Z
      have cw:=Aside0.mk Y
      clear Z Y
      have cx:=Aside0.mk ac
      have cy:=Aside0.mk ab
      clear ac ab
      have cA:=Aside0.mk al
      have cC:=Aside0.mk ad
      clear al ad
      replace bj:=eq_true bj
      replace bk:=eq_true bk
      go_wp2_with (first|((with_reducible refine gd 4 rfl ?_);refine bx 4 #[.int .i64 0, .int .i64 0, .slice none 0 0, .int .i64 0, .int .i64 0, .slice none 0 0, .slice none 0 0, .slice none 0 0] 104 ?_;intro b1 hg w7 hbox hb;have g:=Aside0.mk hbox;have cN:=hz HB hg;have i:=nl d hg;have j:=ng d hg;replace d:=kb d hb;replace HB:=hs HB hb;clear hb hbox hg;have et:=j.out;have ev:=i.out;have:=cf8 g;have:=cf2 d))
      go_loopg [18] k1 (fun kq v18 w' => ∃(c:Int),v18= .int .i64 c∧Aside0 (bK.l1 kq b a (a.length:Int) b a (a.length:Int) c n a ((aa a b).f0) ((aa a b).f1) ((aa a b).f2) ((aa a b).f3) ((aa a b).f4) ((aa a b).f5) ((aa a b).f6) ((aa a b).f7)=some r)∧Aside0 (kq≤k1)∧Aside0 (w'.heap[a6]? =some (.cells #[(.slice s n.length t),(.slice (some a7) a.length A)] 38 (0,0)))∧Aside0 (w'.heap[b1]? =some (.cells #[.int .i64 ((aa a b).f0), .int .i64 ((aa a b).f1),(.slice a8 ((aa a b).f2).length a9), .int .i64 ((aa a b).f3), .int .i64 ((aa a b).f4),(.slice ba ((aa a b).f5).length bb),(.slice bc ((aa a b).f6).length bd),(.slice be ((aa a b).f7).length bh)] 104 (0,0)))∧Aside0 (Below w.heap.size w w'))
      case atStart=>exact⟨(0),(by first|rfl|(simp;done)|(simp[*];done)),H',⟨Nat.le_refl _⟩,kf,kf,⟨bl⟩⟩
      case round=>
       clear H'
       obtain⟨c,rfl,HA,x,d,g,HB⟩:=hrel
       cases gk with
       |zero=>exact absurd HA.out (by simp[bK.l1])
       | succ k2=>
        have H:=HA.out
        clear HA
        simp only[bK.l1]at H
        by_cases c11:c<(a.length:Int)
        ·rw [if_pos c11]at H
         have ce:decide (c<(a.length:Int))=true:=decide_eq_true c11
         clear c11
         by_cases c12:0≤c
         ·rw [if_pos c12]at H
          have cP:decide (0≤c)=true:=decide_eq_true c12
          clear c12
          by_cases c13:c<(a.length:Int)
          ·rw [if_pos c13]at H
           have cQ:decide (c<(a.length:Int))=true:=decide_eq_true c13
           clear c13
           have bm:=Aside0.mk H
           clear H
           have bo:0≤(c:Int):=od
           have bp:c<(a.length:Int):=od
           obtain⟨cf,b5,b6,b7,b8,b9,ca,cc,cd,cr,ao,ap,aq,ar,aw,aB,aE,aF,aL,aO,aP,aR,aS,a0,a1,a2⟩:=di b0.out c bo bp
           obtain rfl:a7=cf:=(by injection cr)
           obtain⟨ao,ap,aq,ar,aw,aB,aE,aF⟩:=hc8 HB ao ap aq ar aw aB aE aF
           have a3:=Aside0.mk aO
           have a4:=Aside0.mk aL
           clear aO aL
           have cD:=Aside0.mk aR
           have cE:=Aside0.mk aP
           clear aR aP
           have cF:=Aside0.mk a0
           have cG:=Aside0.mk aS
           clear a0 aS
           have cH:=Aside0.mk a2
           have cI:=Aside0.mk a1
           clear a2 a1
           replace bo:=eq_true bo
           replace bp:=eq_true bp
           go_upto_region 7 with(first|((with_reducible refine gd 6 rfl ?_);refine bx 6 #[.int .i64 0, .int .i64 0, .slice none 0 0, .int .i64 0, .int .i64 0, .slice none 0 0, .slice none 0 0, .slice none 0 0] 104 ?_;intro cg hg ew hbox hb;have q:=Aside0.mk hbox;have cR:=hz HB hg;have o:=nl d hg;have p:=ng d hg;have l:=nl g hg;have m:=ng g hg;replace d:=kb d hb;replace g:=kb g hb;replace HB:=hs HB hb;clear hb hbox hg;have cS:=p.out;have cT:=o.out;have cU:=m.out;have cV:=l.out;have:=cf8 q))
           (try simp only[Act.put,List.setIfInBounds_toArray,List.set_cons_zero,List.set_cons_succ])
           go_cut [42] (fun v42 wc=> ∃(kq:Nat) (y:Bool),v42= .bool y∧Aside0 (bK.j2 kq b a (a.length:Int) b a (a.length:Int) c y n a ((aa a b).f0) ((aa a b).f1) ((aa a b).f2) ((aa a b).f3) ((aa a b).f4) ((aa a b).f5) ((aa a b).f6) ((aa a b).f7) ((aa a c).f0) ((aa a c).f1) ((aa a c).f2) ((aa a c).f3) ((aa a c).f4) ((aa a c).f5) ((aa a c).f6) ((aa a c).f7)=some r)∧Aside0 (kq≤k2)∧Aside0 (wc.heap[a6]? =some (.cells #[(.slice s n.length t),(.slice (some a7) a.length A)] 38 (0,0)))∧Aside0 (wc.heap[b1]? =some (.cells #[.int .i64 ((aa a b).f0), .int .i64 ((aa a b).f1),(.slice a8 ((aa a b).f2).length a9), .int .i64 ((aa a b).f3), .int .i64 ((aa a b).f4),(.slice ba ((aa a b).f5).length bb),(.slice bc ((aa a b).f6).length bd),(.slice be ((aa a b).f7).length bh)] 104 (0,0)))∧Aside0 (wc.heap[cg]? =some (.cells #[.int .i64 ((aa a c).f0), .int .i64 ((aa a c).f1),(.slice b5 ((aa a c).f2).length b6), .int .i64 ((aa a c).f3), .int .i64 ((aa a c).f4),(.slice b7 ((aa a c).f5).length b8),(.slice b9 ((aa a c).f6).length ca),(.slice cc ((aa a c).f7).length cd)] 104 (0,0)))∧Aside0 (Below w.heap.size w wc))
           case first=>
            have H:=bm.out
            clear bm
            by_cases c19:b=c
            ·rw[if_pos c19]at H
             have z:=beq_iff_eq.mpr c19
             have ch:=bne_eq_false_iff_eq.mpr c19
             clear c19
             (first|rw[z]|(simp only[bX,bZ];rw[z])|skip)
             have H' :=Aside0.mk H
             clear H
             go_wp2
             go_meet
             case rel=>exact⟨_,(true),(by first|rfl|(simp;done)|(simp[*];done)),H',⟨by have:=v.out;have:=x.out;first|omega|exact Nat.le_refl _⟩,kf,kf,kf,⟨bl⟩⟩
            rw[if_neg c19]at H
            have z:=beq_eq_false_iff_ne.mpr c19
            have ch:=bne_iff_ne.mpr c19
            (first|rw[z]|(simp only[bX,bZ];rw[z])|skip)
            by_cases c20:((aa a b).f0)<0
            ·rw[if_pos c20]at H
             have ci:decide (((aa a b).f0)<0)=true:=decide_eq_true c20
             clear c20
             have H' :=Aside0.mk H
             clear H
             have cW:=j.out
             have cX:=i.out
             have cY:=l.out
             have c0:=m.out
             have:=cf8 g
             go_wp2
             go_meet
             case rel=>exact⟨_,(true),(by first|rfl|(simp;done)|(simp[*];done)),H',⟨by have:=v.out;have:=x.out;first|omega|exact Nat.le_refl _⟩,kf,kf,kf,⟨bl⟩⟩
            rw[if_neg c20]at H
            have ci:decide (((aa a b).f0)<0)=false:=decide_eq_false c20
            clear c20
            by_cases c24:((aa a c).f0)<0
            ·rw[if_pos c24]at H
             have cj:decide (((aa a c).f0)<0)=true:=decide_eq_true c24
             clear c24
             have H' :=Aside0.mk H
             clear H
             have c1:=j.out
             have da:=i.out
             have db:=l.out
             have dc:=m.out
             have:=cf8 g
             have dd:=p.out
             have de:=o.out
             have:=cf8 q
             go_wp2
             go_meet
             case rel=>exact⟨_,(true),(by first|rfl|(simp;done)|(simp[*];done)),H',⟨by have:=v.out;have:=x.out;first|omega|exact Nat.le_refl _⟩,kf,kf,kf,⟨bl⟩⟩
            rw[if_neg c24]at H
            have cj:decide (((aa a c).f0)<0)=false:=decide_eq_false c24
            clear c24
            have H' :=Aside0.mk H
            clear H
            have dg:=j.out
            have dj:=i.out
            have dk:=l.out
            have dl:=m.out
            have:=cf8 g
            have dp:=p.out
            have dq:=o.out
            have:=cf8 q
            go_wp2
            go_meet
            case rel=>exact⟨_,((((aa a b).f1) !=((aa a c).f1))),(by first|rfl|(simp;done)|(simp[*];done)),H',⟨by have:=v.out;have:=x.out;first|omega|exact Nat.le_refl _⟩,kf,kf,kf,⟨bl⟩⟩
           case rest=>
            clear bm
            obtain⟨kq,y,rfl,HA,B,d,g,q,HB⟩:=hcut
            cases kq with
            |zero=>exact absurd HA.out (by simp[bK.j2])
            | succ u=>
             have H:=HA.out
             clear HA
             simp only[bK.j2]at H
             by_cases b2:y=true
             ·subst b2
              replace H:=it H
              have H' :=Aside0.mk H
              clear H
              go_wp2
              go_roundg u
              case measure=>have:=v.out;have:=x.out;have:=B.out;omega
              case rel=>exact⟨(wrap64 (c+1)),(by first|rfl|(simp;done)|(simp[*];done)),H',⟨by have:=v.out;have:=x.out;have:=B.out;omega⟩,kk d,kk g,⟨bl⟩⟩
             replace b2:=Bool.eq_false_iff.mpr b2
             subst b2
             replace H:=ie H
             by_cases G:((aa a b).f0)=((aa a c).f0)
             ·rw[if_pos G]at H
              have ck:=beq_iff_eq.mpr G
              have cl:=bne_eq_false_iff_eq.mpr G
              clear G
              obtain rfl:=Option.some.inj H;clear H
              have dr:=j.out
              have ds:=i.out
              have dt:=l.out
              have du:=m.out
              have:=cf8 g
              have dv:=p.out
              have dy:=o.out
              have:=cf8 q
              go_wp2
              go_ret
              exact fin
             rw[if_neg G]at H
             have ck:=beq_eq_false_iff_ne.mpr G
             have cl:=bne_iff_ne.mpr G
             obtain⟨cs,b3,H⟩:=ob H
             by_cases b4:cs=true
             ·subst b4
              replace H:=it H
              by_cases I:((aa a b).f3)=((aa a c).f3)
              ·rw[if_pos I]at H
               have cm:=beq_iff_eq.mpr I
               have cn:=bne_eq_false_iff_eq.mpr I
               clear I
               obtain⟨ct,co,H⟩:=ob H
               by_cases c46:ct=true
               ·subst c46
                replace H:=it H
                have H' :=Aside0.mk H
                clear H
                have dT:=j.out
                have d0:=i.out
                have d1:=l.out
                have d2:=m.out
                have:=cf8 g
                have d3:=p.out
                have d4:=o.out
                have:=cf8 q
                have:=cf2 d
                go_wp2_with (first|((with_reducible refine gc 149 rfl ?_);refine dH (some 54) rfl rfl Tryz.func149 (by kernel_rfl) rfl #[.slice s n.length t, .int .i64 ((aa a b).f0), .int .i64 ((aa a c).f0)] rfl (by(try simp only[List.map_toArray,List.map_cons,List.map_nil]);first|done|rfl|(simp only[List.length_drop,List.length_take];rfl)) ?_;(with_reducible refine(dB.calls u _ _ n ((aa a b).f0) ((aa a c).f0) true _ (cb D.out) E.out b3.out).mono ?_);rintro e w' ⟨rfl,⟨nd,rfl⟩⟩;refine⟨_,rfl, ?_⟩)|(go_at_call 150;(with_reducible refine(slices_Equal_int_int.calls u _ _ ((aa a b).f2) _ _ ((aa a c).f2) true _ (cb am.out) an.out (cb a3.out) a4.out co.out).mono ?_);rintro e w' ⟨rfl,⟨nd,rfl⟩⟩))
                go_roundg u
                case measure=>have:=v.out;have:=x.out;have:=B.out;omega
                case rel=>exact⟨(wrap64 (c+1)),(by first|rfl|(simp;done)|(simp[*];done)),H',⟨by have:=v.out;have:=x.out;have:=B.out;omega⟩,kk d,kk g,⟨bl⟩⟩
               replace c46:=Bool.eq_false_iff.mpr c46
               subst c46
               replace H:=ie H
               obtain rfl:=Option.some.inj H;clear H
               have d5:=j.out
               have d6:=i.out
               have d7:=l.out
               have d8:=m.out
               have:=cf8 g
               have ea:=p.out
               have eb:=o.out
               have:=cf8 q
               have:=cf2 d
               go_wp2_with (first|((with_reducible refine gc 149 rfl ?_);refine dH (some 54) rfl rfl Tryz.func149 (by kernel_rfl) rfl #[.slice s n.length t, .int .i64 ((aa a b).f0), .int .i64 ((aa a c).f0)] rfl (by(try simp only[List.map_toArray,List.map_cons,List.map_nil]);first|done|rfl|(simp only[List.length_drop,List.length_take];rfl)) ?_;(with_reducible refine(dB.calls u _ _ n ((aa a b).f0) ((aa a c).f0) true _ (cb D.out) E.out b3.out).mono ?_);rintro e w' ⟨rfl,⟨nd,rfl⟩⟩;refine⟨_,rfl, ?_⟩)|(go_at_call 150;(with_reducible refine(slices_Equal_int_int.calls u _ _ ((aa a b).f2) _ _ ((aa a c).f2) false _ (cb am.out) an.out (cb a3.out) a4.out co.out).mono ?_);rintro e w' ⟨rfl,⟨nd,rfl⟩⟩))
               go_ret
               exact fin
              rw[if_neg I]at H
              have cm:=beq_eq_false_iff_ne.mpr I
              have cn:=bne_iff_ne.mpr I
              obtain rfl:=Option.some.inj H;clear H
              have ec:=j.out
              have ee:=i.out
              have ef:=l.out
              have eg:=m.out
              have:=cf8 g
              have eh:=p.out
              have ei:=o.out
              have:=cf8 q
              have:=cf2 d
              go_wp2_with (first|((with_reducible refine gc 149 rfl ?_);refine dH (some 54) rfl rfl Tryz.func149 (by kernel_rfl) rfl #[.slice s n.length t, .int .i64 ((aa a b).f0), .int .i64 ((aa a c).f0)] rfl (by(try simp only[List.map_toArray,List.map_cons,List.map_nil]);first|done|rfl|(simp only[List.length_drop,List.length_take];rfl)) ?_;(with_reducible refine(dB.calls u _ _ n ((aa a b).f0) ((aa a c).f0) true _ (cb D.out) E.out b3.out).mono ?_);rintro e w' ⟨rfl,⟨nd,rfl⟩⟩;refine⟨_,rfl, ?_⟩))
              go_ret
              exact fin
             replace b4:=Bool.eq_false_iff.mpr b4
             subst b4
             replace H:=ie H
             have H' :=Aside0.mk H
             clear H
             have ej:=j.out
             have el:=i.out
             have em:=l.out
             have en:=m.out
             have:=cf8 g
             have eo:=p.out
             have ep:=o.out
             have:=cf8 q
             have:=cf2 d
             go_wp2_with (first|((with_reducible refine gc 149 rfl ?_);refine dH (some 54) rfl rfl Tryz.func149 (by kernel_rfl) rfl #[.slice s n.length t, .int .i64 ((aa a b).f0), .int .i64 ((aa a c).f0)] rfl (by(try simp only[List.map_toArray,List.map_cons,List.map_nil]);first|done|rfl|(simp only[List.length_drop,List.length_take];rfl)) ?_;(with_reducible refine(dB.calls u _ _ n ((aa a b).f0) ((aa a c).f0) false _ (cb D.out) E.out b3.out).mono ?_);rintro e w' ⟨rfl,⟨nd,rfl⟩⟩;refine⟨_,rfl, ?_⟩))
             go_roundg u
             case measure=>have:=v.out;have:=x.out;have:=B.out;omega
             case rel=>exact⟨(wrap64 (c+1)),(by first|rfl|(simp;done)|(simp[*];done)),H',⟨by have:=v.out;have:=x.out;have:=B.out;omega⟩,kk d,kk g,⟨bl⟩⟩
          rw[if_neg c13]at H
          exact absurd H (by simp)
         rw[if_neg c12]at H
         exact absurd H (by simp)
        rw[if_neg c11]at H
        have ce:decide (c<(a.length:Int))=false:=decide_eq_false c11
        clear c11
        have H' :=Aside0.mk H
        clear H
        go_wp2
        go_roundg k2
        case measure=>have:=v.out;have:=x.out;omega
        case rel=>exact⟨(wrap64 (b+1)),(by first|rfl|(simp;done)|(simp[*];done)),H',⟨by have:=v.out;have:=x.out;omega⟩,kk d,⟨bl⟩⟩
     rw[if_neg c6]at H
     exact absurd H (by simp)
    rw[if_neg c5]at H
    exact absurd H (by simp)
   rw[if_neg c4]at H
   have cp:decide (b<(a.length:Int))=false:=decide_eq_false c4
   clear c4
   obtain rfl:=Option.some.inj H;clear H
   go_wp2
   go_ret
   exact fin
end Go.Proofs.YteinbmkgenhocaaGreat.P
end
section
namespace Go.Proofs.YteinbmkgenhocaaGreat.P
open Go Go.RowKit Go.Proofs.YteinbmkgenhocaaGreatW.PrintWords Go.Proofs.YteinbmkgenhocaaGreatW.PrintLast Go.Proofs.YteinbmkgenhocaaGreatW.PrintMore
set_option linter.unusedVariables false
set_option linter.unusedSimpArgs false
theorem lu (e:Int×Int×Int): ∀(l:List (Int×Int×Int)) (i:Nat),gX (l++ [e]) i=gX l i++ [kY e (i+l.length)]
  | [],i=>rfl
  | x::l,i=>by
    show kY x i::gX (l++ [e]) (i+1)=kY x i::(gX l (i+1)++ [kY e (i+(l.length+1))])
    rw[lu e l (i+1),show i+1+l.length=i+(l.length+1) by omega]
section
variable {ops:Array Oper} {rest:List Oper} {o:Oper} {a:Act} {Q:Exit→Act→World→Prop} {W:World}
theorem qm (hgd:o.guard=none) (hop:o.op= .makeMap 129 none) {w:World} (hB:Below w.heap.size w W)
    (h: ∀g,g=W.heap.size→∀W1,W1.heap[g]? =some (iP 0)→Below w.heap.size w W1→w.heap.size≤g→wpList Tryz.prog ops Q rest (a.put o.dst (.map (some g))) W1):wpList Tryz.prog ops Q (o::rest) a W:=by
  refine Kd.event_run hgd ?_ (h _ rfl _ (pM W _) (aI hB _) hB.size)
  unfold execOp
  rw[hop]
  simp only[Option.map,Sem.run_bind,run_makeMap,Result.andThen]
  rfl
theorem oU {g m:Nat} {e1 e2 e3:Int} {x k v:Operand} (hgd:o.guard=none) (hop:o.op= .insert 129 x k v) (hN:o.dst=none) (hx:a.eval x= .map (some g)) (hk:a.eval k= .int .i64 e1) (hv:a.eval v= .agg #[.int .i64 e2, .int .i64 e3])
    (hm:W.heap[g]? =some (iP m)) (hl:fJ.take (m+1)=fJ.take m++ [(e1,e2,e3)]) (hlen:(fJ.take m).length=m) (hf:eP e1 (fJ.take m)=none) {w:World} (hB:Below w.heap.size w W) (hg:w.heap.size≤g)
    (h: ∀W1,W1.heap[g]? =some (iP (m+1))→Below w.heap.size w W1→wpList Tryz.prog ops Q rest a W1):wpList Tryz.prog ops Q (o::rest) a W:=by
  have hm0:=hm
  unfold iP at hm
  obtain⟨j,hj⟩:=jY e1 (fJ.take m) 0 0
  rw[hf]at hj
  have hkk:MapKept.IsKey (.int .i64) (.int .i64 e1):=by simp[MapKept.IsKey]
  have hu:=Tryz.underlying129
  have hu3:=Tryz.underlying3
  have e0:Obj.map ((gX (fJ.take m) 0).toArray.push {key:= .int .i64 e1,val:= .agg #[.int .i64 e2, .int .i64 e3],born:=m}) (m+1)=iP (m+1):=by
    unfold iP
    rw[hl,lu,hlen,Nat.zero_add,List.push_toArray]
    rfl
  have hrun:(Instr.mapUpdate 129 (.map (some g)) (.int .i64 e1) (.agg #[.int .i64 e2, .int .i64 e3])).run Tryz.prog W= .ok () {W with heap:=W.heap.setIfInBounds g (iP (m+1))}:=by
    rw[←e0]
    simp[Instr.mapUpdate,run_underlying hu,MapKept.run_getObj_map hm,MapKept.run_checkKey hu3 hkk,MapKept.run_findKey hu3 hj,MapKept.run_setObj_map _ hm,Result.andThen]
  have hh:=MapKept.heap_set (o' :=iP (m+1)) hm0
  refine wpList_plain hgd fun K hK=> ?_
  unfold Oper.wp
  have hex:(execOp a.eval o).run Tryz.prog W= .ok .skip {W with heap:=W.heap.setIfInBounds g (iP (m+1))}:=by
    unfold execOp
    rw[hop]
    dsimp only
    rw[hx,hk,hv]
    simp only[Sem.run_bind,hrun,Result.andThen]
    rfl
  rw[hex]
  show K (a.put o.dst undef) _
  rw[hN]
  exact hK _ _ (h _ hh.1 (hB.trans ⟨rfl,rfl,rfl,by simp,fun k_ hk_=>hh.2 k_ (by omega)⟩))
end
set_option maxHeartbeats 8000000 in
set_option maxRecDepth 100000 in
theorem pW.calls (w:World):Calls Tryz.prog 79 #[] w fun e w' => ∃g,e= .returned (.map (some g))∧g=w.heap.size∧w'.heap[g]? =some jB∧Below w.heap.size w w' :=by
  have HB:=Aside0.mk (Below.refl w.heap.size w)
  go_enter Tryz.func79,Tryz.ntmps79
  go_wp2_with (first|((with_reducible refine iG (N:=1) rfl ?_);refine qm rfl rfl HB.out ?_;intro gM hg W1 hm_ hb_ hs_;clear HB;have HM:=Aside0.mk hm_;have HB:=Aside0.mk hb_;have HS:=Aside0.mk hs_;have HG:=Aside0.mk hg;clear hm_ hb_ hs_ hg)|(refine oU rfl rfl rfl rfl rfl rfl HM.out rfl rfl rfl HB.out HS.out ?_;intro W1 hm_ hb_;clear HM HB;have HM:=Aside0.mk hm_;have HB:=Aside0.mk hb_;clear hm_ hb_))
  go_ret
  exact⟨_,rfl,HG.out,HM.out,HB.out⟩
end Go.Proofs.YteinbmkgenhocaaGreat.P
end
