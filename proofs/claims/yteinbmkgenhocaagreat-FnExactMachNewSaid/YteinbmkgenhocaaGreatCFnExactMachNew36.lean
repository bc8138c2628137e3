/- A part of the claim FnExactMachNew. -/
import Derived.Test.YteinbmkgenhocaaGreatCFnExactMachNew35
section
namespace Go.Proofs.YteinbmkgenhocaaGreat.P
open Go.RowKit Go.Proofs.YteinbmkgenhocaaGreatW.PrintWords Go.Proofs.YteinbmkgenhocaaGreatW.PrintLast Go.Proofs.YteinbmkgenhocaaGreatW.PrintMore
attribute [local go_sem] ak au az aA ai aj av ax
set_option linter.unusedVariables false
set_option linter.unusedSimpArgs false
set_option maxHeartbeats 8000000 in
set_option maxRecDepth 100000 in
theorem bC.calls (k:Nat) (aS:Option Addr) (a0:Nat) (l:List (S126)) (b5:Option Addr) (a3:Nat) (a:List (S104)) (r:Bool) (w:World) (cm:Kd.C eB w aS l.length l) (cn:l.length≤a0) (co:Kd.C dV w b5 a.length a) (cp:a.length≤a3) (h:bC.f k l a=some r):
  Calls Tryz.prog 33 #[.agg #[.slice aS l.length a0, .slice b5 a.length a3]] w fun e w' =>e= .returned (.bool r)∧Below w.heap.size w w' :=by
 have e6:=Tryz.underlying38
 have dd:=Tryz.underlying104
 have aE:=Aside0.mk cm
 have aF:=Aside0.mk cn
 clear cm cn
 have Y:=Aside0.mk co
 have a2:=Aside0.mk cp
 clear co cp
 have HB:=Aside0.mk (Below.refl w.heap.size w)
 have H:((aJ.f k l).bind fun ci=>(if ci=true then(if(a.length:Int)<1 then(bC.j0 k true l a)else(bC.j0 k (decide ((a.length:Int)>4)) l a))else(bC.j0 k true l a)))=some r:=h
 clear h
 have cy:=Aside0.mk H
 clear H
 go_enter Tryz.func33,Tryz.ntmps33
 go_upto_region 1 with(first|((with_reducible refine gd 1 rfl ?_);(try(refine aW (by rfl) ?_;dsimp only));refine bx 1 #[.slice aS l.length a0, .slice b5 a.length a3] 38 ?_;intro b6 hg w3 hbox hb;have c:=Aside0.mk hbox;have de:=hz HB hg;replace HB:=hs HB hb;clear hb hbox hg))
 (try simp only[Act.put,List.setIfInBounds_toArray,List.set_cons_zero,List.set_cons_succ])
 go_cut [22] (fun v22 wc=> ∃(kq:Nat) (bm:Bool),v22= .bool bm∧Aside0 (bC.j0 kq bm l a=some r)∧Aside0 (kq≤k)∧Aside0 (wc.heap[b6]? =some (.cells #[(.slice aS l.length a0),(.slice b5 a.length a3)] 38 (0,0)))∧Aside0 (Below w.heap.size w wc))
 case first=>
  have H:=cy.out
  clear cy
  obtain⟨ci,A4,H⟩:=ob H
  by_cases c5:ci=true
  ·subst c5
   replace H:=it H
   by_cases c6:(a.length:Int)<1
   ·rw[if_pos c6]at H
    have bo:decide ((a.length:Int)<1)=true:=decide_eq_true c6
    have cN:decide (a.length<1)=true:=decide_eq_true (by omega)
    clear c6
    (first|rw[bo]|(simp only[bX,bZ];rw[bo])|skip)
    have H' :=Aside0.mk H
    clear H
    have:=cf2 c
    go_wp2_with (first|(refine gl (some 9) Tryz.func78 #[.slice aS l.length a0] rfl ?_;(with_reducible refine(aJ.calls k _ _ l true _ (cb aE.out) aF.out A4.out).mono ?_);rintro e w8 ⟨rfl,hb⟩;refine⟨_,rfl, ?_⟩;replace c:=kb c hb;replace HB:=hs HB hb;have:=cf2 c))
    go_meet
    case rel=>exact⟨_,(true),(by first|rfl|(simp;done)|(simp[*];done)),H',⟨by first|omega|exact Nat.le_refl _⟩,kk c,⟨bl⟩⟩
   rw[if_neg c6]at H
   have bo:decide ((a.length:Int)<1)=false:=decide_eq_false c6
   have cN:decide (a.length<1)=false:=decide_eq_false (by omega)
   clear c6
   (first|rw[bo]|(simp only[bX,bZ];rw[bo])|skip)
   have H' :=Aside0.mk H
   clear H
   have:=cf2 c
   go_wp2_with (first|(refine gl (some 9) Tryz.func78 #[.slice aS l.length a0] rfl ?_;(with_reducible refine(aJ.calls k _ _ l true _ (cb aE.out) aF.out A4.out).mono ?_);rintro e e7 ⟨rfl,hb⟩;refine⟨_,rfl, ?_⟩;replace c:=kb c hb;replace HB:=hs HB hb;have:=cf2 c))
   go_meet
   case rel=>exact⟨_,(decide ((a.length:Int)>4)),(by first|rfl|(simp;done)|(simp[*];done)),H',⟨by first|omega|exact Nat.le_refl _⟩,kk c,⟨bl⟩⟩
  replace c5:=Bool.eq_false_iff.mpr c5
  subst c5
  replace H:=ie H
  have H' :=Aside0.mk H
  clear H
  have:=cf2 c
  go_wp2_with (first|(refine gl (some 9) Tryz.func78 #[.slice aS l.length a0] rfl ?_;(with_reducible refine(aJ.calls k _ _ l false _ (cb aE.out) aF.out A4.out).mono ?_);rintro e e8 ⟨rfl,hb⟩;refine⟨_,rfl, ?_⟩;replace c:=kb c hb;replace HB:=hs HB hb))
  go_meet
  case rel=>exact⟨_,(true),(by first|rfl|(simp;done)|(simp[*];done)),H',⟨by first|omega|exact Nat.le_refl _⟩,kk c,⟨bl⟩⟩
 case rest =>
  clear cy
  obtain⟨kq,bm,rfl,HA,b8,c,HB⟩:=hcut
  cases kq with
  |zero=>exact absurd HA.out (by simp[bC.j0])
  | succ db =>
   have H:=HA.out
   clear HA
   simp only[bC.j0]at H
   by_cases c15:bm=true
   ·subst c15
    replace H:=it H
    obtain rfl:=Option.some.inj H;clear H
    go_wp2
    go_ret
    exact fin
   replace c15:=Bool.eq_false_iff.mpr c15
   subst c15
   replace H:=ie H
   by_cases c16:0<(a.length:Int)
   ·rw [if_pos c16]at H
    have dg:decide (0<(a.length:Int))=true:=decide_eq_true c16
    have dj:decide (0<a.length)=true:=decide_eq_true (by omega)
    clear c16
    have cj:=Aside0.mk H
    clear H
    have:=cf2 c
    have ck:0≤(0:Int):=(by omega)
    have cl:0<(a.length:Int):=od
    obtain⟨a1,b9,ca,cc,cd,ce,cf,cg,ch,cP,a4,a5,a6,a7,a8,a9,ba,bb,br,bs,bt,bw,b0,b1,b2,b3⟩:=di Y.out 0 ck cl
    cases cP
    have dk:(0<a.length)=True:=eq_true (by omega)
    (try rw[show((0:Int)).toNat=0 from rfl]at a4)
    (try rw[show 0 * 8=0 from rfl]at a4)
    (try rw[Addr.add_zero']at a4)
    (try rw[show((0:Int)).toNat=0 from rfl]at a5)
    (try rw[show 0 * 8=0 from rfl]at a5)
    (try rw[Addr.add_zero']at a5)
    (try rw[show((0:Int)).toNat=0 from rfl]at a6)
    (try rw[show 0 * 8=0 from rfl]at a6)
    (try rw[Addr.add_zero']at a6)
    (try rw[show((0:Int)).toNat=0 from rfl]at a7)
    (try rw[show 0 * 8=0 from rfl]at a7)
    (try rw[Addr.add_zero']at a7)
    (try rw[show((0:Int)).toNat=0 from rfl]at a8)
    (try rw[show 0 * 8=0 from rfl]at a8)
    (try rw[Addr.add_zero']at a8)
    (try rw[show((0:Int)).toNat=0 from rfl]at a9)
    (try rw[show 0 * 8=0 from rfl]at a9)
    (try rw[Addr.add_zero']at a9)
    (try rw[show((0:Int)).toNat=0 from rfl]at ba)
    (try rw[show 0 * 8=0 from rfl]at ba)
    (try rw[Addr.add_zero']at ba)
    (try rw[show((0:Int)).toNat=0 from rfl]at bb)
    (try rw[show 0 * 8=0 from rfl]at bb)
    (try rw[Addr.add_zero']at bb)
    obtain⟨a4,a5,a6,a7,a8,a9,ba,bb⟩:=hc8 HB a4 a5 a6 a7 a8 a9 ba bb
    have cU:=Aside0.mk bs
    have cV:=Aside0.mk br
    clear bs br
    have cW:=Aside0.mk bw
    have cX:=Aside0.mk bt
    clear bw bt
    have cY:=Aside0.mk b1
    have c0:=Aside0.mk b0
    clear b1 b0
    have c1:=Aside0.mk b3
    have da:=Aside0.mk b2
    clear b3 b2
    replace ck:=eq_true ck
    replace cl:=eq_true cl
    go_upto_region 4 with(first|((with_reducible refine gd 3 rfl ?_);(try(refine aW (by rfl) ?_;dsimp only));refine bx 3 #[.int .i64 0, .int .i64 0, .slice none 0 0, .int .i64 0, .int .i64 0, .slice none 0 0, .slice none 0 0, .slice none 0 0] 104 ?_;intro cq hg e9 hbox hb;have i:=Aside0.mk hbox;have dl:=hz HB hg;have n:=nl c hg;have p:=ng c hg;replace c:=kb c hb;replace HB:=hs HB hb;clear hb hbox hg;have dp:=p.out;have dq:=n.out;have:=cf8 i))
    (try simp only[Act.put,List.setIfInBounds_toArray,List.set_cons_zero,List.set_cons_succ])
    go_cut [40] (fun v40 wc=> ∃(kq:Nat) (bh:Bool),v40= .bool bh∧Aside0 (bC.j1 kq bh l a=some r)∧Aside0 (kq≤db)∧Aside0 (wc.heap[b6]? =some (.cells #[(.slice aS l.length a0),(.slice (some a1) a.length a3)] 38 (0,0)))∧Aside0 (wc.heap[cq]? =some (.cells #[.int .i64 ((aa a 0).f0), .int .i64 ((aa a 0).f1),(.slice b9 ((aa a 0).f2).length ca), .int .i64 ((aa a 0).f3), .int .i64 ((aa a 0).f4),(.slice cc ((aa a 0).f5).length cd),(.slice ce ((aa a 0).f6).length cf),(.slice cg ((aa a 0).f7).length ch)] 104 (0,0)))∧Aside0 (Below w.heap.size w wc))
    case first=>
     have H:=cj.out
     clear cj
     by_cases bp:((aa a 0).f0)=(-1)
     ·rw[if_pos bp]at H
      have bj:=beq_iff_eq.mpr bp
      have cE:=bne_eq_false_iff_eq.mpr bp
      clear bp
      (first|rw[bj]|(simp only[bX,bZ];rw[bj])|skip)
      by_cases c23:(((aa a 0).f2).length:Int)=0
      ·rw[if_pos c23]at H
       have cF:=beq_iff_eq.mpr c23
       have cG:=bne_eq_false_iff_eq.mpr c23
       clear c23
       have H' :=Aside0.mk H
       clear H
       have dr:=p.out
       have ds:=n.out
       have:=cf8 i
       go_wp2
       go_meet
       case rel=>exact⟨_,((((aa a 0).f3) !=1)),(by first|rfl|(simp;done)|(simp[*];done)),H',⟨by have:=b8.out;first|omega|exact Nat.le_refl _⟩,kf,kf,⟨bl⟩⟩
      rw[if_neg c23]at H
      have cF:=beq_eq_false_iff_ne.mpr c23
      have cG:=bne_iff_ne.mpr c23
      have dt: ¬(((aa a 0).f2)= []):=fun h_=>c23 (by rw[h_];rfl)
      have H' :=Aside0.mk H
      clear H
      have du:=p.out
      have dv:=n.out
      have:=cf8 i
      go_wp2
      go_meet
      case rel=>exact⟨_,(true),(by first|rfl|(simp;done)|(simp[*];done)),H',⟨by have:=b8.out;first|omega|exact Nat.le_refl _⟩,kf,kf,⟨bl⟩⟩
     rw[if_neg bp]at H
     have bj:=beq_eq_false_iff_ne.mpr bp
     have cE:=bne_iff_ne.mpr bp
     (first|rw[bj]|(simp only[bX,bZ];rw[bj])|skip)
     have H' :=Aside0.mk H
     clear H
     have dy:=p.out
     have dT:=n.out
     have:=cf8 i
     go_wp2
     go_meet
     case rel=>exact⟨_,(true),(by first|rfl|(simp;done)|(simp[*];done)),H',⟨by have:=b8.out;first|omega|exact Nat.le_refl _⟩,kf,kf,⟨bl⟩⟩
    case rest =>
     clear cj
     obtain⟨kq,bh,rfl,HA,cA,c,i,HB⟩:=hcut
     cases kq with
     |zero=>exact absurd HA.out (by simp[bC.j1])
     | succ cC=>
      have H:=HA.out
      clear HA
      simp only[bC.j1]at H
      by_cases cr:bh=true
      ·subst cr
       replace H:=it H
       obtain rfl:=Option.some.inj H;clear H
       go_wp2
       go_ret
       exact fin
      replace cr:=Bool.eq_false_iff.mpr cr
      subst cr
      replace H:=ie H
      have H' :=Aside0.mk H
      clear H
      go_wp2_with (first|((with_reducible refine gc 79 rfl ?_);refine dH (some 41) rfl rfl Tryz.func79 (by kernel_rfl) rfl #[] rfl (by(try simp only[List.map_toArray,List.map_cons,List.map_nil]);first|done|rfl) ?_;(refine(pW.calls _).mono ?_);rintro e fa ⟨bk,rfl,hg,hbox,hb⟩;refine⟨_,rfl, ?_⟩;have j:=Aside0.mk hbox;have d0:=hz HB hg;have aP:=nl c hg;have aR:=ng c hg;have cI:=nl i hg;have cJ:=ng i hg;replace c:=kb c hb;replace i:=kb i hb;replace HB:=hs HB hb;clear hb hbox hg;have d1:=n.out;have d2:=p.out;have d3:=aP.out;have d4:=aR.out;have:=cf2 c))
      go_loopg [45] cC (fun kq v45 w' => ∃(b:Int),v45= .int .i64 b∧Aside0 (bC.l0 kq a (a.length:Int) b l a=some r)∧Aside0 (kq≤cC)∧Aside0 (w'.heap[b6]? =some (.cells #[(.slice aS l.length a0),(.slice (some a1) a.length a3)] 38 (0,0)))∧Aside0 (w'.heap[cq]? =some (.cells #[.int .i64 ((aa a 0).f0), .int .i64 ((aa a 0).f1),(.slice b9 ((aa a 0).f2).length ca), .int .i64 ((aa a 0).f3), .int .i64 ((aa a 0).f4),(.slice cc ((aa a 0).f5).length cd),(.slice ce ((aa a 0).f6).length cf),(.slice cg ((aa a 0).f7).length ch)] 104 (0,0)))∧Aside0 (w'.heap[bk]? =some (jB))∧Aside0 (Below w.heap.size w w'))
      case atStart=>exact⟨(0),(by first|rfl|(simp;done)|(simp[*];done)),H',⟨Nat.le_refl _⟩,kk c,kk i,kk j,⟨bl⟩⟩
      case round=>
       clear H'
       obtain⟨b,rfl,HA,cL,c,i,j,HB⟩:=hrel
       cases gk with
       |zero=>exact absurd HA.out (by simp[bC.l0])
       | succ k3=>
        have H:=HA.out
        clear HA
        simp only[bC.l0]at H
        by_cases b4:b<(a.length:Int)
        ·rw [if_pos b4]at H
         have cH:decide (b<(a.length:Int))=true:=decide_eq_true b4
         clear b4
         by_cases cs:0≤b
         ·rw [if_pos cs]at H
          have d5:decide (0≤b)=true:=decide_eq_true cs
          clear cs
          by_cases c37:b<(a.length:Int)
          ·rw [if_pos c37]at H
           have d6:decide (b<(a.length:Int))=true:=decide_eq_true c37
           clear c37
           obtain⟨cQ,ct,H⟩:=ob H
           by_cases cv:cQ=true
           ·subst cv
            replace H:=it H
            obtain⟨cR,cD,H⟩:=ob H
            by_cases cw:cR=true
            ·subst cw
             replace H:=it H
             obtain⟨cS,cM,H⟩:=ob H
             by_cases cx:cS=true
             ·subst cx
              replace H:=it H
              have H' :=Aside0.mk H
              clear H
              have aL:0≤(b:Int):=od
              have aO:b<(a.length:Int):=od
              obtain⟨bc,Z,ab,ac,ad,al,am,an,ao,be,A,B,D,E,G,I,J,K,L,M,O,P,T,U,W,X⟩:=di Y.out b aL aO
              obtain rfl:a1=bc:=(by injection be)
              obtain⟨A,B,D,E,G,I,J,K⟩:=hc8 HB A B D E G I J K
              have q:=Aside0.mk M
              have s:=Aside0.mk L
              clear M L
              have t:=Aside0.mk P
              have u:=Aside0.mk O
              clear P O
              have v:=Aside0.mk U
              have x:=Aside0.mk T
              clear U T
              have y:=Aside0.mk X
              have z:=Aside0.mk W
              clear X W
              replace aL:=eq_true aL
              replace aO:=eq_true aO
              go_wp2_with (first|((with_reducible refine gd 6 rfl ?_);(try(refine aW (by rfl) ?_;dsimp only));refine bx 6 #[.int .i64 0, .int .i64 0, .slice none 0 0, .int .i64 0, .int .i64 0, .slice none 0 0, .slice none 0 0, .slice none 0 0] 104 ?_;intro bd hg fb hbox hb;have m:=Aside0.mk hbox;have b7:=hz HB hg;have ap:=nl c hg;have aq:=ng c hg;have ar:=nl i hg;have aw:=ng i hg;have d:=nl j hg;have aB:=ng j hg;replace c:=kb c hb;replace i:=kb i hb;replace j:=kb j hb;replace HB:=hs HB hb;clear hb hbox hg;have d7:=aq.out;have d8:=ap.out;have ea:=aw.out;have eb:=ar.out;have ec:=aB.out;have ee:=d.out;have:=cf8 m;have ef:=n.out;have eg:=p.out;have eh:=aP.out;have ei:=aR.out;have:=cf2 c)|(refine gl (some 51) Tryz.func80 #[.agg #[.slice aS l.length a0, .slice (some a1) a.length a3], .agg #[.int .i64 ((aa a b).f0), .int .i64 ((aa a b).f1), .slice Z ((aa a b).f2).length ab, .int .i64 ((aa a b).f3), .int .i64 ((aa a b).f4), .slice ac ((aa a b).f5).length ad, .slice al ((aa a b).f6).length am, .slice an ((aa a b).f7).length ao]] rfl ?_;(with_reducible refine(aZ.calls k3 _ _ l _ _ a ((aa a b).f0) ((aa a b).f1) _ _ ((aa a b).f2) ((aa a b).f3) ((aa a b).f4) _ _ ((aa a b).f5) _ _ ((aa a b).f6) _ _ ((aa a b).f7) true _ (cb aE.out) aF.out (cb Y.out) a2.out (cb q.out) s.out (cb t.out) u.out (cb v.out) x.out (cb y.out) z.out ct.out).mono ?_);rintro e fc ⟨rfl,hb⟩;refine⟨_,rfl, ?_⟩;replace c:=kq c hb;replace i:=kq i hb;replace j:=Aside0.mk (cK (g:=bk) (o:=jB) (by(with_reducible repeat(first|refine ah ?_ _|refine af ?_|refine ag ?_ _));refine dL ?_ d.out _;(with_reducible repeat(first|refine ah ?_ _|refine af ?_|refine ag ?_ _));refine dL ?_ d.out _;(with_reducible repeat(first|refine ah ?_ _|refine af ?_|refine ag ?_ _));refine dL ?_ d.out _;(with_reducible repeat(first|refine ah ?_ _|refine af ?_|refine ag ?_ _));refine dL ?_ d.out _;(with_reducible repeat(first|refine ah ?_ _|refine af ?_|refine ag ?_ _));refine dL ?_ d.out _;(with_reducible repeat(first|refine ah ?_ _|refine af ?_|refine ag ?_ _));refine dL ?_ d.out _;(with_reducible repeat(first|refine ah ?_ _|refine af ?_|refine ag ?_ _));refine dL ?_ d.out _;(with_reducible repeat(first|refine ah ?_ _|refine af ?_|refine ag ?_ _));refine dL ?_ d.out _;(with_reducible repeat(first|refine ah ?_ _|refine af ?_|refine ag ?_ _));exact j.out) hb);replace m:=kp bd #[.int .i64 ((aa a b).f0), .int .i64 ((aa a b).f1), .slice Z ((aa a b).f2).length ab, .int .i64 ((aa a b).f3), .int .i64 ((aa a b).f4), .slice ac ((aa a b).f5).length ad, .slice al ((aa a b).f6).length am, .slice an ((aa a b).f7).length ao] 104 hb;replace HB:=hs HB hb;have:=cf2 c;have:=cf8 m)|(go_at_call 81;(with_reducible refine(bB.calls k3 _ _ l _ _ a ((aa a b).f0) ((aa a b).f1) _ _ ((aa a b).f2) ((aa a b).f3) ((aa a b).f4) _ _ ((aa a b).f5) _ _ ((aa a b).f6) _ _ ((aa a b).f7) 0 true _ (cb aE.out) aF.out (cb Y.out) a2.out (cb q.out) s.out (cb t.out) u.out (cb v.out) x.out (cb y.out) z.out ?sideM cD.out).mono ?_);(case sideM=>(with_reducible repeat(first|refine ah ?_ _|refine af ?_|refine ag ?_ _));exact j.out);rintro e fd ⟨rfl,hb⟩;replace c:=kb c hb;replace i:=kb i hb;replace j:=kb j hb;replace m:=kb m hb;replace HB:=hs HB hb;have:=cf2 c;have:=cf8 m)|(go_at_call 82;(with_reducible refine(bf.calls k3 _ _ l _ _ a ((aa a b).f0) ((aa a b).f1) _ _ ((aa a b).f2) ((aa a b).f3) ((aa a b).f4) _ _ ((aa a b).f5) _ _ ((aa a b).f6) _ _ ((aa a b).f7) true _ (cb aE.out) aF.out (cb Y.out) a2.out (cb q.out) s.out (cb t.out) u.out (cb v.out) x.out (cb y.out) z.out cM.out).mono ?_);rintro e ff ⟨rfl,hb⟩;replace c:=kb c hb;replace i:=kb i hb;replace j:=kb j hb;replace m:=kb m hb;replace HB:=hs HB hb))
              go_roundg k3
              case measure=>have:=b8.out;have:=cA.out;have:=cL.out;omega
              case rel=>exact⟨(wrap64 (b+1)),(by first|rfl|(simp;done)|(simp[*];done)),H',⟨by have:=b8.out;have:=cA.out;have:=cL.out;omega⟩,kk c,kk i,kk j,⟨bl⟩⟩
             replace cx:=Bool.eq_false_iff.mpr cx
             subst cx
             replace H:=ie H
             obtain rfl:=Option.some.inj H;clear H
             have aL:0≤(b:Int):=od
             have aO:b<(a.length:Int):=od
             obtain⟨bc,Z,ab,ac,ad,al,am,an,ao,be,A,B,D,E,G,I,J,K,L,M,O,P,T,U,W,X⟩:=di Y.out b aL aO
             obtain rfl:a1=bc:=(by injection be)
             obtain⟨A,B,D,E,G,I,J,K⟩:=hc8 HB A B D E G I J K
             have q:=Aside0.mk M
             have s:=Aside0.mk L
             clear M L
             have t:=Aside0.mk P
             have u:=Aside0.mk O
             clear P O
             have v:=Aside0.mk U
             have x:=Aside0.mk T
             clear U T
             have y:=Aside0.mk X
             have z:=Aside0.mk W
             clear X W
             replace aL:=eq_true aL
             replace aO:=eq_true aO
             go_wp2_with (first|((with_reducible refine gd 6 rfl ?_);(try(refine aW (by rfl) ?_;dsimp only));refine bx 6 #[.int .i64 0, .int .i64 0, .slice none 0 0, .int .i64 0, .int .i64 0, .slice none 0 0, .slice none 0 0, .slice none 0 0] 104 ?_;intro bd hg fg hbox hb;have m:=Aside0.mk hbox;have b7:=hz HB hg;have ap:=nl c hg;have aq:=ng c hg;have ar:=nl i hg;have aw:=ng i hg;have d:=nl j hg;have aB:=ng j hg;replace c:=kb c hb;replace i:=kb i hb;replace j:=kb j hb;replace HB:=hs HB hb;clear hb hbox hg;have ej:=aq.out;have el:=ap.out;have em:=aw.out;have en:=ar.out;have eo:=aB.out;have ep:=d.out;have:=cf8 m;have eq:=n.out;have er:=p.out;have es:=aP.out;have et:=aR.out;have:=cf2 c)|(refine gl (some 51) Tryz.func80 #[.agg #[.slice aS l.length a0, .slice (some a1) a.length a3], .agg #[.int .i64 ((aa a b).f0), .int .i64 ((aa a b).f1), .slice Z ((aa a b).f2).length ab, .int .i64 ((aa a b).f3), .int .i64 ((aa a b).f4), .slice ac ((aa a b).f5).length ad, .slice al ((aa a b).f6).length am, .slice an ((aa a b).f7).length ao]] rfl ?_;(with_reducible refine(aZ.calls k3 _ _ l _ _ a ((aa a b).f0) ((aa a b).f1) _ _ ((aa a b).f2) ((aa a b).f3) ((aa a b).f4) _ _ ((aa a b).f5) _ _ ((aa a b).f6) _ _ ((aa a b).f7) true _ (cb aE.out) aF.out (cb Y.out) a2.out (cb q.out) s.out (cb t.out) u.out (cb v.out) x.out (cb y.out) z.out ct.out).mono ?_);rintro e fh ⟨rfl,hb⟩;refine⟨_,rfl, ?_⟩;replace c:=kq c hb;replace i:=kq i hb;replace j:=Aside0.mk (cK (g:=bk) (o:=jB) (by(with_reducible repeat(first|refine ah ?_ _|refine af ?_|refine ag ?_ _));refine dL ?_ d.out _;(with_reducible repeat(first|refine ah ?_ _|refine af ?_|refine ag ?_ _));refine dL ?_ d.out _;(with_reducible repeat(first|refine ah ?_ _|refine af ?_|refine ag ?_ _));refine dL ?_ d.out _;(with_reducible repeat(first|refine ah ?_ _|refine af ?_|refine ag ?_ _));refine dL ?_ d.out _;(with_reducible repeat(first|refine ah ?_ _|refine af ?_|refine ag ?_ _));refine dL ?_ d.out _;(with_reducible repeat(first|refine ah ?_ _|refine af ?_|refine ag ?_ _));refine dL ?_ d.out _;(with_reducible repeat(first|refine ah ?_ _|refine af ?_|refine ag ?_ _));refine dL ?_ d.out _;(with_reducible repeat(first|refine ah ?_ _|refine af ?_|refine ag ?_ _));refine dL ?_ d.out _;(with_reducible repeat(first|refine ah ?_ _|refine af ?_|refine ag ?_ _));exact j.out) hb);replace m:=kp bd #[.int .i64 ((aa a b).f0), .int .i64 ((aa a b).f1), .slice Z ((aa a b).f2).length ab, .int .i64 ((aa a b).f3), .int .i64 ((aa a b).f4), .slice ac ((aa a b).f5).length ad, .slice al ((aa a b).f6).length am, .slice an ((aa a b).f7).length ao] 104 hb;replace HB:=hs HB hb;have:=cf2 c;have:=cf8 m)|(go_at_call 81;(with_reducible refine(bB.calls k3 _ _ l _ _ a ((aa a b).f0) ((aa a b).f1) _ _ ((aa a b).f2) ((aa a b).f3) ((aa a b).f4) _ _ ((aa a b).f5) _ _ ((aa a b).f6) _ _ ((aa a b).f7) 0 true _ (cb aE.out) aF.out (cb Y.out) a2.out (cb q.out) s.out (cb t.out) u.out (cb v.out) x.out (cb y.out) z.out ?sideM cD.out).mono ?_);(case sideM=>(with_reducible repeat(first|refine ah ?_ _|refine af ?_|refine ag ?_ _));exact j.out);rintro e fi ⟨rfl,hb⟩;replace c:=kb c hb;replace i:=kb i hb;replace j:=kb j hb;replace m:=kb m hb;replace HB:=hs HB hb;have:=cf2 c;have:=cf8 m)|(go_at_call 82;(with_reducible refine(bf.calls k3 _ _ l _ _ a ((aa a b).f0) ((aa a b).f1) _ _ ((aa a b).f2) ((aa a b).f3) ((aa a b).f4) _ _ ((aa a b).f5) _ _ ((aa a b).f6) _ _ ((aa a b).f7) false _ (cb aE.out) aF.out (cb Y.out) a2.out (cb q.out) s.out (cb t.out) u.out (cb v.out) x.out (cb y.out) z.out cM.out).mono ?_);rintro e fj ⟨rfl,hb⟩;replace c:=kb c hb;replace i:=kb i hb;replace j:=kb j hb;replace m:=kb m hb;replace HB:=hs HB hb))
             go_ret
             exact fin
            replace cw:=Bool.eq_false_iff.mpr cw
            subst cw
            replace H:=ie H
            obtain rfl:=Option.some.inj H;clear H
            have aL:0≤(b:Int):=od
            have aO:b<(a.length:Int):=od
            obtain⟨bc,Z,ab,ac,ad,al,am,an,ao,be,A,B,D,E,G,I,J,K,L,M,O,P,T,U,W,X⟩:=di Y.out b aL aO
            obtain rfl:a1=bc:=(by injection be)
            obtain⟨A,B,D,E,G,I,J,K⟩:=hc8 HB A B D E G I J K
            have q:=Aside0.mk M
            have s:=Aside0.mk L
            clear M L
            have t:=Aside0.mk P
            have u:=Aside0.mk O
            clear P O
            have v:=Aside0.mk U
            have x:=Aside0.mk T
            clear U T
            have y:=Aside0.mk X
            have z:=Aside0.mk W
            clear X W
            replace aL:=eq_true aL
            replace aO:=eq_true aO
            go_wp2_with (first|((with_reducible refine gd 6 rfl ?_);(try(refine aW (by rfl) ?_;dsimp only));refine bx 6 #[.int .i64 0, .int .i64 0, .slice none 0 0, .int .i64 0, .int .i64 0, .slice none 0 0, .slice none 0 0, .slice none 0 0] 104 ?_;intro bd hg fk hbox hb;have m:=Aside0.mk hbox;have b7:=hz HB hg;have ap:=nl c hg;have aq:=ng c hg;have ar:=nl i hg;have aw:=ng i hg;have d:=nl j hg;have aB:=ng j hg;replace c:=kb c hb;replace i:=kb i hb;replace j:=kb j hb;replace HB:=hs HB hb;clear hb hbox hg;have ev:=aq.out;have ew:=ap.out;have ex:=aw.out;have ey:=ar.out;have ez:=aB.out;have eA:=d.out;have:=cf8 m;have eC:=n.out;have eE:=p.out;have eI:=aP.out;have eJ:=aR.out;have:=cf2 c)|(refine gl (some 51) Tryz.func80 #[.agg #[.slice aS l.length a0, .slice (some a1) a.length a3], .agg #[.int .i64 ((aa a b).f0), .int .i64 ((aa a b).f1), .slice Z ((aa a b).f2).length ab, .int .i64 ((aa a b).f3), .int .i64 ((aa a b).f4), .slice ac ((aa a b).f5).length ad, .slice al ((aa a b).f6).length am, .slice an ((aa a b).f7).length ao]] rfl ?_;(with_reducible refine(aZ.calls k3 _ _ l _ _ a ((aa a b).f0) ((aa a b).f1) _ _ ((aa a b).f2) ((aa a b).f3) ((aa a b).f4) _ _ ((aa a b).f5) _ _ ((aa a b).f6) _ _ ((aa a b).f7) true _ (cb aE.out) aF.out (cb Y.out) a2.out (cb q.out) s.out (cb t.out) u.out (cb v.out) x.out (cb y.out) z.out ct.out).mono ?_);rintro e fl ⟨rfl,hb⟩;refine⟨_,rfl, ?_⟩;replace c:=kq c hb;replace i:=kq i hb;replace j:=Aside0.mk (cK (g:=bk) (o:=jB) (by(with_reducible repeat(first|refine ah ?_ _|refine af ?_|refine ag ?_ _));refine dL ?_ d.out _;(with_reducible repeat(first|refine ah ?_ _|refine af ?_|refine ag ?_ _));refine dL ?_ d.out _;(with_reducible repeat(first|refine ah ?_ _|refine af ?_|refine ag ?_ _));refine dL ?_ d.out _;(with_reducible repeat(first|refine ah ?_ _|refine af ?_|refine ag ?_ _));refine dL ?_ d.out _;(with_reducible repeat(first|refine ah ?_ _|refine af ?_|refine ag ?_ _));refine dL ?_ d.out _;(with_reducible repeat(first|refine ah ?_ _|refine af ?_|refine ag ?_ _));refine dL ?_ d.out _;(with_reducible repeat(first|refine ah ?_ _|refine af ?_|refine ag ?_ _));refine dL ?_ d.out _;(with_reducible repeat(first|refine ah ?_ _|refine af ?_|refine ag ?_ _));refine dL ?_ d.out _;(with_reducible repeat(first|refine ah ?_ _|refine af ?_|refine ag ?_ _));exact j.out) hb);replace m:=kp bd #[.int .i64 ((aa a b).f0), .int .i64 ((aa a b).f1), .slice Z ((aa a b).f2).length ab, .int .i64 ((aa a b).f3), .int .i64 ((aa a b).f4), .slice ac ((aa a b).f5).length ad, .slice al ((aa a b).f6).length am, .slice an ((aa a b).f7).length ao] 104 hb;replace HB:=hs HB hb;have:=cf2 c;have:=cf8 m)|(go_at_call 81;(with_reducible refine(bB.calls k3 _ _ l _ _ a ((aa a b).f0) ((aa a b).f1) _ _ ((aa a b).f2) ((aa a b).f3) ((aa a b).f4) _ _ ((aa a b).f5) _ _ ((aa a b).f6) _ _ ((aa a b).f7) 0 false _ (cb aE.out) aF.out (cb Y.out) a2.out (cb q.out) s.out (cb t.out) u.out (cb v.out) x.out (cb y.out) z.out ?sideM cD.out).mono ?_);(case sideM=>(with_reducible repeat(first|refine ah ?_ _|refine af ?_|refine ag ?_ _));exact j.out);rintro e fm ⟨rfl,hb⟩;replace c:=kb c hb;replace i:=kb i hb;replace j:=kb j hb;replace m:=kb m hb;replace HB:=hs HB hb))
            go_ret
            exact fin
           replace cv:=Bool.eq_false_iff.mpr cv
           subst cv
           replace H:=ie H
           obtain rfl:=Option.some.inj H;clear H
           have aL:0≤(b:Int):=od
           have aO:b<(a.length:Int):=od
           obtain⟨bc,Z,ab,ac,ad,al,am,an,ao,be,A,B,D,E,G,I,J,K,L,M,O,P,T,U,W,X⟩:=di Y.out b aL aO
           obtain rfl:a1=bc:=(by injection be)
           obtain⟨A,B,D,E,G,I,J,K⟩:=hc8 HB A B D E G I J K
           have q:=Aside0.mk M
           have s:=Aside0.mk L
           clear M L
           have t:=Aside0.mk P
           have u:=Aside0.mk O
           clear P O
           have v:=Aside0.mk U
           have x:=Aside0.mk T
           clear U T
           have y:=Aside0.mk X
           have z:=Aside0.mk W
           clear X W
           replace aL:=eq_true aL
           replace aO:=eq_true aO
           go_wp2_with (first|((with_reducible refine gd 6 rfl ?_);(try(refine aW (by rfl) ?_;dsimp only));refine bx 6 #[.int .i64 0, .int .i64 0, .slice none 0 0, .int .i64 0, .int .i64 0, .slice none 0 0, .slice none 0 0, .slice none 0 0] 104 ?_;intro bd hg fp hbox hb;have m:=Aside0.mk hbox;have b7:=hz HB hg;have ap:=nl c hg;have aq:=ng c hg;have ar:=nl i hg;have aw:=ng i hg;have d:=nl j hg;have aB:=ng j hg;replace c:=kb c hb;replace i:=kb i hb;replace j:=kb j hb;replace HB:=hs HB hb;clear hb hbox hg;have eK:=aq.out;have eL:=ap.out;have eM:=aw.out;have eN:=ar.out;have eR:=aB.out;have eS:=d.out;have:=cf8 m;have eV:=n.out;have eW:=p.out;have e0:=aP.out;have e1:=aR.out;have:=cf2 c)|(refine gl (some 51) Tryz.func80 #[.agg #[.slice aS l.length a0, .slice (some a1) a.length a3], .agg #[.int .i64 ((aa a b).f0), .int .i64 ((aa a b).f1), .slice Z ((aa a b).f2).length ab, .int .i64 ((aa a b).f3), .int .i64 ((aa a b).f4), .slice ac ((aa a b).f5).length ad, .slice al ((aa a b).f6).length am, .slice an ((aa a b).f7).length ao]] rfl ?_;(with_reducible refine(aZ.calls k3 _ _ l _ _ a ((aa a b).f0) ((aa a b).f1) _ _ ((aa a b).f2) ((aa a b).f3) ((aa a b).f4) _ _ ((aa a b).f5) _ _ ((aa a b).f6) _ _ ((aa a b).f7) false _ (cb aE.out) aF.out (cb Y.out) a2.out (cb q.out) s.out (cb t.out) u.out (cb v.out) x.out (cb y.out) z.out ct.out).mono ?_);rintro e fr ⟨rfl,hb⟩;refine⟨_,rfl, ?_⟩;replace c:=kq c hb;replace i:=kq i hb;replace j:=Aside0.mk (cK (g:=bk) (o:=jB) (by(with_reducible repeat(first|refine ah ?_ _|refine af ?_|refine ag ?_ _));refine dL ?_ d.out _;(with_reducible repeat(first|refine ah ?_ _|refine af ?_|refine ag ?_ _));refine dL ?_ d.out _;(with_reducible repeat(first|refine ah ?_ _|refine af ?_|refine ag ?_ _));refine dL ?_ d.out _;(with_reducible repeat(first|refine ah ?_ _|refine af ?_|refine ag ?_ _));refine dL ?_ d.out _;(with_reducible repeat(first|refine ah ?_ _|refine af ?_|refine ag ?_ _));refine dL ?_ d.out _;(with_reducible repeat(first|refine ah ?_ _|refine af ?_|refine ag ?_ _));refine dL ?_ d.out _;(with_reducible repeat(first|refine ah ?_ _|refine af ?_|refine ag ?_ _));refine dL ?_ d.out _;(with_reducible repeat(first|refine ah ?_ _|refine af ?_|refine ag ?_ _));refine dL ?_ d.out _;(with_reducible repeat(first|refine ah ?_ _|refine af ?_|refine ag ?_ _));exact j.out) hb);replace m:=kp bd #[.int .i64 ((aa a b).f0), .int .i64 ((aa a b).f1), .slice Z ((aa a b).f2).length ab, .int .i64 ((aa a b).f3), .int .i64 ((aa a b).f4), .slice ac ((aa a b).f5).length ad, .slice al ((aa a b).f6).length am, .slice an ((aa a b).f7).length ao] 104 hb;replace HB:=hs HB hb))
           go_ret
           exact fin
          rw[if_neg c37]at H
          exact absurd H (by simp)
         rw[if_neg cs]at H
         exact absurd H (by simp)
        rw[if_neg b4]at H
        have cH:decide (b<(a.length:Int))=false:=decide_eq_false b4
        clear b4
        obtain⟨cT,dc,H⟩:=ob H
        obtain rfl:=Option.some.inj H;clear H
        have e2:=n.out
        have e3:=p.out
        have e4:=aP.out
        have e5:=aR.out
        have:=cf2 c
        go_wp2_with (first|(refine gl (some 68) Tryz.func83 #[.agg #[.slice aS l.length a0, .slice (some a1) a.length a3]] rfl ?_;(with_reducible refine(bK.calls k3 _ _ l _ _ a cT _ (cb aE.out) aF.out (cb Y.out) a2.out dc.out).mono ?_);rintro e fs ⟨rfl,hb⟩;refine⟨_,rfl, ?_⟩;replace c:=kb c hb;replace i:=kb i hb;replace j:=kb j hb;replace HB:=hs HB hb))
        go_ret
        exact fin
   rw[if_neg c16]at H
   exact absurd H (by simp)
set_option maxHeartbeats 8000000 in
set_option maxRecDepth 100000 in
theorem dX.calls (k:Nat) (Y:Option Addr) (Z:Nat) (q:List (S126)) (aq:Option Addr) (ab:Nat) (j:List (S104)) (r1:List (S91)) (r2:List (S70)) (r3:List Int) (r4:Int) (r5:Int) (r6:Bool) (r7:Int) (w:World) (bk:Kd.C eB w Y q.length q) (bm:q.length≤Z) (bo:Kd.C dV w aq j.length j) (bp:j.length≤ab) (h:dX.f k q j=some (r1,r2,r3,r4,r5,r6,r7)):
  Calls Tryz.prog 34 #[.agg #[.slice Y q.length Z, .slice aq j.length ab]] w fun e w' => ∃b9 ca cc:Value,e= .returned (.agg #[b9,ca,cc, .int .i64 r4, .int .i64 r5, .bool r6, .int .i64 r7])∧(∃P_:Nat→Prop,Kd.S k91 91 w' w.heap.size P_ b9 r1∧Kd.S k70 70 w' w.heap.size (fun k_=> ¬P_ k_) ca r2)∧Kd.R (Kd.int .i64) 3 w' w.heap.size (fun _=>True) cc r3∧Below w.heap.size w w' :=by
 have dj:=Tryz.underlying38
 have dk:=Tryz.underlying33
 have dl:=Tryz.underlying31
 have dp:=Tryz.underlying91
 have dq:=Tryz.underlying70
 have cJ:=Aside0.mk bk
 have cL:=Aside0.mk bm
 clear bk bm
 have b6:=Aside0.mk bo
 have cM:=Aside0.mk bp
 clear bo bp
 have HB:=Aside0.mk (Below.refl w.heap.size w)
 have H:(dX.l0 k 1 q j ([]:List (S91)) 0 0 false 0)=some (r1,r2,r3,r4,r5,r6,r7):=h
 clear h
 have H' :=Aside0.mk H
 clear H
 go_enter Tryz.func34,Tryz.ntmps34
 go_wp2_with (first|((with_reducible refine gd 1 rfl ?_);refine bx 1 #[.slice Y q.length Z, .slice aq j.length ab] 38 ?_;intro a5 hg w2 hbox hb;have d:=Aside0.mk hbox;have cN:=hz HB hg;have cP:=hz HB hg;replace HB:=hs HB hb;clear hb hbox hg)|((with_reducible refine gd 2 rfl ?_);refine bx 2 #[.slice none 0 0, .slice none 0 0, .slice none 0 0, .int .i64 0, .int .i64 0, .bool false, .int .i64 0] 33 ?_;intro m hg w3 hbox hb;have i:=Aside0.mk hbox;have cQ:=hz HB hg;have cR:=hz HB hg;have a8:=nl d hg;have a9:=ng d hg;replace d:=kb d hb;replace HB:=hs HB hb;clear hb hbox hg)|((with_reducible refine gd 3 rfl ?_);refine bx 3 #[.slice none 0 0, .slice none 0 0, .slice none 0 0, .int .i64 0, .int .i64 0, .bool false, .int .i64 0] 33 ?_;intro L hg w4 hbox hb;have l:=Aside0.mk hbox;have cS:=hz HB hg;have cT:=hz HB hg;have am:=nl d hg;have an:=ng d hg;have K:=nl i hg;have ao:=ng i hg;replace d:=kb d hb;replace i:=kb i hb;replace HB:=hs HB hb;clear hb hbox hg))
 go_loopg [4] k (fun kq v4 w' => ∃(n:Int) (a:List (S91)) (u465000:Value),v4= .int .i64 n∧Aside0 (dX.l0 kq n q j a 0 0 false 0=some (r1,r2,r3,r4,r5,r6,r7))∧Aside0 (kq≤k)∧Aside0 (Kd.S k91 91 w' w.heap.size (fun _=>True) u465000 a)∧Aside0 (w'.heap[a5]? =some (.cells #[(.slice Y q.length Z),(.slice aq j.length ab)] 38 (0,0)))∧Aside0 (w'.heap[m]? =some (.cells #[(.slice none 0 0),(.slice none 0 0),(.slice none 0 0), .int .i64 0, .int .i64 0, .bool false, .int .i64 0] 33 (0,0)))∧Aside0 (w'.heap[L]? =some (.cells #[u465000,(.slice none 0 0),(.slice none 0 0), .int .i64 0, .int .i64 0, .bool false, .int .i64 0] 33 (0,0)))∧Aside0 (Below w.heap.size w w'))
 case atStart=>exact⟨(1),(([]:List (S91))),(.slice none 0 0),(by first|rfl|(simp;done)|(simp[*];done)),H',⟨Nat.le_refl _⟩,⟨by first|exact Kd.S_nil _ _ _ _ _|exact Kd.N_nil _ _ _ _ _|exact Kd.V_nil _ _ _ _ _|exact Kd.Q_nil _ _ _ _ _|exact Kd.R_nil _ _ _ _ _⟩,kk d,kk i,kk l,⟨bl⟩⟩
 case round=>
  clear H'
  obtain⟨n,a,u465000,rfl,HA,cd,c,d,i,l,HB⟩:=hrel
  cases gk with
  |zero=>exact absurd HA.out (by simp[dX.l0])
  | succ k1=>
   have H:=HA.out
   clear HA
   simp only[dX.l0]at H
   by_cases c5:n≤7
   ·rw[if_pos c5]at H
    have cf:decide (n≤7)=true:=decide_eq_true c5
    clear c5
    obtain⟨ac,T⟩: ∃y_:List (S31),y_=(([(⟨false,n⟩:S31)]:List (S31))):=⟨_,rfl⟩
    replace H:(if a.length<4398046511104 then(dX.l0 k1 (wrap64 (n+1)) q j (a++ [(⟨1,ac⟩:S91)]) 0 0 false 0)else(none))=some (r1,r2,r3,r4,r5,r6,r7):=by first|(rw[T];with_reducible exact H)|(have s:=(Option.bind_some _ _).symm.trans H;rw[T];with_reducible exact s)|(have s:=(Option.bind_some _ _).symm.trans H;with_reducible exact s)|with_reducible exact H|(rw[T];exact H)|exact H
    have br:=Aside0.mk T
    clear T
    by_cases c6:a.length<4398046511104
    ·rw[if_pos c6]at H
     have cg:=Aside0.mk c6
     clear c6
     obtain⟨a6,U⟩: ∃y_:List (S91),y_=(a++ [(⟨1,ac⟩:S91)]):=⟨_,rfl⟩
     replace H:(dX.l0 k1 (wrap64 (n+1)) q j a6 0 0 false 0)=some (r1,r2,r3,r4,r5,r6,r7):=by first|(rw[U];with_reducible exact H)|(have s:=(Option.bind_some _ _).symm.trans H;rw[U];with_reducible exact s)|(have s:=(Option.bind_some _ _).symm.trans H;with_reducible exact s)|with_reducible exact H|(rw[U];exact H)|exact H
     have b7:=Aside0.mk U
     clear U
     have H' :=Aside0.mk H
     clear H
     have dr:=an.out
     have ds:=am.out
     have dt:=ao.out
     have du:=K.out
     have:=cf7 l
     go_wp2_with (first|((with_reducible refine gd 13 rfl ?_);refine Kd.R_lit k31 _ 31 ?hg (N:=13) ?hd (xs:=([(⟨false,n⟩:S31)]:List (S31))) (inner:= [.bool false, .int .i64 n]) (ok:=fun _=>True) (okp:=fun _=>True) ?hr ?hp (fun _ hk=>hk) trivial (Below.refl _ _) (Nat.le_refl _) (by simp) ?_;(case hd=>rfl);(case hg=>rfl);(case hr=>first|(go_simp;done)|(go_simp;rfl));(case hp=>exact(bV.c2 (show Kd.M k31 _ _ _ (⟨false,n⟩:S31) [.bool false, .int .i64 n] from(jT _ _ _ (⟨false,n⟩:S31))) (bV.none _ _)));intro dv d1 ad hb hg_ hnew_;clear hg_ hnew_;(first|rw[←br.out]at ad|(simp only[Int.reduceToNat]at ad;rw[←br.out]at ad));have ap:=Aside0.mk (Kd.R_lower ad (aU bl));replace c:=Aside0.mk (Kd.S_elder' (by(with_reducible repeat(first|apply Kd.S_alloc|apply Kd.S_drewN|apply Kd.S_drew));exact c.out) (Kd.R_base ad) hb);replace d:=kb d hb;replace i:=kb i hb;replace l:=kb l hb;replace HB:=hs HB hb;clear hb ad;obtain⟨b1,b2,ch⟩:=Kd.R_slice ap.out;subst ch)|((with_reducible refine iC (b:= .append) (xs:= #[.tmp 10, .tmp 15]) rfl ?_);at_builtin;refine Kd.S_append k91 (w0:=w) w.heap.size rfl (.tmp 10) (.tmp 15) 27 91 (.agg #[(.int .i64 0),(.slice none 0 0)]) 32 rfl Tryz.underlying27 qR rfl (by decide) (by omega) u465000 a (⟨1,ac⟩:S91) [.int .i64 1, .slice b1 ac.length b2] (fun _=>True) (fun k_=>some k_=(.slice b1 ac.length b2:Value).ownBlock) rfl rfl ?aP (fun k_ hk_=>((Kd.R_mono (ok' :=fun k_=>((fun _=>True)) k_∧some k_≠(u465000:Value).ownBlock) (Kd.R_apart' (ap.out) (Kd.S_typed c.out) (by decide)) (fun k_ hk=>⟨trivial,hk.2⟩))).1 k_ hk_.symm) ?aF ?aO ?aB ?aS ?aL ?_;(case aP=>exact lV _ _ _ (⟨1,ac⟩:S91) (Kd.R_mono (Kd.R_tight rfl (Kd.R_mono (ok' :=fun k_=>((fun _=>True)) k_∧some k_≠(u465000:Value).ownBlock) (Kd.R_apart' (ap.out) (Kd.S_typed c.out) (by decide)) (fun k_ hk=>⟨trivial,hk.2⟩))) (fun _ h_=>h_)));(case aB=>exact bl);(case aF=>exact(fun _ _=>trivial));(case aO=>exact(by(with_reducible repeat(first|apply Kd.S_alloc|apply Kd.S_drewN|apply Kd.S_drew));exact Kd.S_mono c.out (fun k_ hk=>⟨trivial,fun e_=>hk.2 e_⟩)));(case aS=>exact(aU bl));(case aL=>have:=cg.out;omega);intro dy d2 ho hb hg hat;rw[←b7.out]at ho;have ba:=Aside0.mk (gF (g:=a5) (o:= .cells #[.slice Y q.length Z, .slice aq j.length ab] 38 (0,0)) (by(with_reducible repeat(first|refine ah ?_ _|refine af ?_|refine ag ?_ _));exact d.out) hg (Kd.S_ne c.out d.out (by decide)));have bb:=Aside0.mk (gF (g:=m) (o:= .cells #[.slice none 0 0, .slice none 0 0, .slice none 0 0, .int .i64 0, .int .i64 0, .bool false, .int .i64 0] 33 (0,0)) (by(with_reducible repeat(first|refine ah ?_ _|refine af ?_|refine ag ?_ _));exact i.out) hg (Kd.S_ne c.out i.out (by decide)));have bc:=Aside0.mk (gF (g:=L) (o:= .cells #[u465000, .slice none 0 0, .slice none 0 0, .int .i64 0, .int .i64 0, .bool false, .int .i64 0] 33 (0,0)) (by(with_reducible repeat(first|refine ah ?_ _|refine af ?_|refine ag ?_ _));exact l.out) hg (Kd.S_ne c.out l.out (by decide)));have bd:=Aside0.mk (hb);have be:=Aside0.mk (ho);clear d;clear i;clear l;clear HB;clear c;clear ap;have d:=ba;have i:=bb;have l:=bc;have HB:=bd;have bs:=be;clear ba bb bc bd be;clear ho hb hg hat;obtain⟨b3,b4,ci⟩:=Kd.S_slice bs.out;subst ci;have:=cf7 l))
     go_roundg k1
     case measure=>have:=cd.out;omega
     case rel=>exact⟨(wrap64 (n+1)),(a6),(.slice b3 a6.length b4),(by first|rfl|(simp;done)|(simp[*];done)),H',⟨by have:=cd.out;omega⟩,⟨by(with_reducible repeat(first|apply Kd.S_alloc|apply Kd.S_drewN|apply Kd.S_drew));exact Kd.S_mono (Kd.S_far (p:=⟨L,0,none⟩) (Kd.S_types bs.out l.out (by decide)) (fun _ hk=>hk.2) (.slice b3 a6.length b4)) (fun _ hk=>trivial)⟩,kf,kf,kf,⟨bl⟩⟩
    ·rw[if_neg c6]at H
     exact absurd H (by simp)
   ·rw [if_neg c5]at H
    have cf:decide (n≤7)=false:=decide_eq_false c5
    clear c5
    by_cases c16:0<(j.length:Int)
    ·rw[if_pos c16]at H
     have cU:decide (0<(j.length:Int))=true:=decide_eq_true c16
     have cV:decide (0<j.length)=true:=decide_eq_true (by omega)
     clear c16
     by_cases c17:0≤((aa j 0).f4)
     ·rw[if_pos c17]at H
      have cW:=eq_true c17
      have cX:decide (0≤((aa j 0).f4))=true:=decide_eq_true c17
      clear c17
      by_cases c18:((aa j 0).f4:Int).toNat≤17592186044416
      ·rw[if_pos c18]at H
       have cY:=eq_true c18
       have c0:decide (((aa j 0).f4:Int).toNat≤17592186044416)=true:=decide_eq_true c18
       clear c18
       obtain⟨r,W⟩: ∃y_:List (S31),y_=(List.replicate ((aa j 0).f4:Int).toNat z31):=⟨_,rfl⟩
       replace H:(some (a,(([(⟨0,0,r,([]:List (S31))⟩:S70)]:List (S70))),([]:List Int),0,0,false,0))=some (r1,r2,r3,r4,r5,r6,r7):=by first|(rw[W];with_reducible exact H)|(have s:=(Option.bind_some _ _).symm.trans H;rw[W];with_reducible exact s)|(have s:=(Option.bind_some _ _).symm.trans H;with_reducible exact s)|with_reducible exact H|(rw[W];exact H)|exact H
       have bt:=Aside0.mk W
       clear W
       obtain⟨t,X⟩: ∃y_:List (S70),y_=(([(⟨0,0,r,([]:List (S31))⟩:S70)]:List (S70))):=⟨_,rfl⟩
       replace H:(some (a,t,([]:List Int),0,0,false,0))=some (r1,r2,r3,r4,r5,r6,r7):=by first|(rw[X];with_reducible exact H)|(have s:=(Option.bind_some _ _).symm.trans H;rw[X];with_reducible exact s)|(have s:=(Option.bind_some _ _).symm.trans H;with_reducible exact s)|with_reducible exact H|(rw[X];exact H)|exact H
       have bw:=Aside0.mk X
       clear X
       simp only[Option.some.injEq,Prod.mk.injEq]at H
       obtain⟨rfl,rfl,rfl,rfl,rfl,rfl,rfl⟩:=H
       have c1:=a8.out
       have da:=a9.out
       have db:=am.out
       have dc:=an.out
       have:=cf2 d
       have bh:0≤(0:Int):=(by omega)
       have bj:0<(j.length:Int):=od
       obtain⟨b8,cx,cy,cA,cC,cD,cE,cF,cG,cj,x,y,z,A,B,D,E,G,aw,aE,aR,a0,a1,a2,a3,a4⟩:=di b6.out 0 bh bj
       cases cj
       have dd:(0<j.length)=True:=eq_true (by omega)
       (try rw[show((0:Int)).toNat=0 from rfl]at x)
       (try rw[show 0 * 8=0 from rfl]at x)
       (try rw[Addr.add_zero']at x)
       (try rw[show((0:Int)).toNat=0 from rfl]at y)
       (try rw[show 0 * 8=0 from rfl]at y)
       (try rw[Addr.add_zero']at y)
       (try rw[show((0:Int)).toNat=0 from rfl]at z)
       (try rw[show 0 * 8=0 from rfl]at z)
       (try rw[Addr.add_zero']at z)
       (try rw[show((0:Int)).toNat=0 from rfl]at A)
       (try rw[show 0 * 8=0 from rfl]at A)
       (try rw[Addr.add_zero']at A)
       (try rw[show((0:Int)).toNat=0 from rfl]at B)
       (try rw[show 0 * 8=0 from rfl]at B)
       (try rw[Addr.add_zero']at B)
       (try rw[show((0:Int)).toNat=0 from rfl]at D)
       (try rw[show 0 * 8=0 from rfl]at D)
       (try rw[Addr.add_zero']at D)
       (try rw[show((0:Int)).toNat=0 from rfl]at E)
       (try rw[show 0 * 8=0 from rfl]at E)
       (try rw[Addr.add_zero']at E)
       (try rw[show((0:Int)).toNat=0 from rfl]at G)
       (try rw[show 0 * 8=0 from rfl]at G)
       (try rw[Addr.add_zero']at G)
       obtain⟨x,y,z,A,B,D,E,G⟩:=hc8 HB x y z A B D E G
       have cn:=Aside0.mk aE
       have co:=Aside0.mk aw
       clear aE aw
       have cp:=Aside0.mk a0
       have cq:=Aside0.mk aR
       clear a0 aR
       have cr:=Aside0.mk a2
       have ct:=Aside0.mk a1
       clear a2 a1
       have cv:=Aside0.mk a4
       have cw:=Aside0.mk a3
       clear a4 a3
       replace bh:=eq_true bh
       replace bj:=eq_true bj
       go_wp2_with (first|((with_reducible refine gd 23 rfl ?_);refine Kd.R_make k31 _ 31 rfl (N:=23) rfl 68 _ _ rfl ((aa j 0).f4) rfl rfl Tryz.underlying68 (.agg #[(.bool false),(.int .i64 0)]) 16 oI rfl (by decide) (by omega) z31 (ok:=fun _=>True) (okp:=fun _=>True) (jT _ _ _ z31) (fun _ hk=>hk) trivial (of_decide_eq_true (by first|(with_reducible assumption)|assumption)) (Nat.le_trans (Nat.mul_le_mul_right _ (of_decide_eq_true (by first|(with_reducible assumption)|assumption):((aa j 0).f4).toNat≤17592186044416)) (by omega)) (Below.refl _ _) (Nat.le_refl _) ?_;intro dT b5 al hb hg_ hnew_;clear hg_ hnew_;(first|rw[←bt.out]at al|(simp only[Int.reduceToNat]at al;rw[←bt.out]at al));have a7:=Aside0.mk (Kd.R_lower al (aU bl));replace c:=Aside0.mk (Kd.S_elder' (by(with_reducible repeat(first|apply Kd.S_alloc|apply Kd.S_drewN|apply Kd.S_drew));exact c.out) (Kd.R_base al) hb);replace d:=kb d hb;replace i:=kb i hb;replace l:=kb l hb;replace HB:=hs HB hb;clear hb al;obtain⟨O,P,ck⟩:=Kd.R_slice a7.out;subst ck)|((with_reducible refine gd 25 rfl ?_);replace c:=Aside0.mk (Kd.S_mono (Kd.S_bound c.out) (fun k_ hk=>(⟨hk.2.2.1,hk.1.2⟩:k_<b5.heap.size∧some k_≠(.slice O r.length P:Value).ownBlock)));refine Kd.S_lits k70 w.heap.size 70 ?hg (N:=25) ?hd (xs:=([(⟨0,0,r,([]:List (S31))⟩:S70)]:List (S70))) (inner:= [.int .i64 0, .int .i64 0, .slice O r.length P, .slice none 0 0]) (ok:=fun k_=>some k_=(.slice O r.length P:Value).ownBlock∨b5.heap.size≤k_) (fun j_ k_=>j_=0∧some k_=(.slice O r.length P:Value).ownBlock) ?hr rfl (by intro j_ x_ hx_;match j_,hx_ with|0,hx_=>obtain rfl:=Option.some.inj hx_;exact(show Kd.M k70 _ _ ((fun j_ k_=>j_=0∧some k_=(.slice O r.length P:Value).ownBlock) 0) (⟨0,0,r,([]:List (S31))⟩:S70) [.int .i64 0, .int .i64 0, .slice O r.length P, .slice none 0 0] from(ny _ _ _ (⟨0,0,r,([]:List (S31))⟩:S70) (Kd.R_mono (Kd.R_tight rfl a7.out) (fun k_ h_=>⟨rfl,h_⟩)) (Kd.R_nil _ _ _ _ _)))|n_+1,hx_=>exact absurd hx_ (by simp)) (fun _ _ _ cH cI=>cH.1.trans cI.1.symm) (fun _ _ h_=> .inl h_.2) (.inr (Nat.le_refl _)) (Below.refl _ _) ((aU bl)) (by simp) ?_;(case hd=>rfl);(case hg=>rfl);(case hr=>first|(go_simp;done)|(go_simp;rfl));intro d0 d3 ar hb hg_ hnew_;clear hb;have hb:=(Below.refl _ _).grown hg_ (Nat.le_refl _) (fun _ h_=>by cases h_);clear hg_ hnew_;(first|rw[←bw.out]at ar|(simp only[Int.reduceToNat]at ar;rw[←bw.out]at ar));have ba:=Aside0.mk (Kd.S_below (by(with_reducible repeat(first|apply Kd.S_alloc|apply Kd.S_drewN|apply Kd.S_drew));exact c.out) hb);have bb:=Aside0.mk (ar);have bc:=Aside0.mk (cK (g:=a5) (o:= .cells #[.slice Y q.length Z, .slice (some b8) j.length ab] 38 (0,0)) (by(with_reducible repeat(first|refine ah ?_ _|refine af ?_|refine ag ?_ _));exact d.out) hb);have bd:=Aside0.mk (cK (g:=m) (o:= .cells #[.slice none 0 0, .slice none 0 0, .slice none 0 0, .int .i64 0, .int .i64 0, .bool false, .int .i64 0] 33 (0,0)) (by(with_reducible repeat(first|refine ah ?_ _|refine af ?_|refine ag ?_ _));exact i.out) hb);have be:=Aside0.mk (cK (g:=L) (o:= .cells #[u465000, .slice none 0 0, .slice none 0 0, .int .i64 0, .int .i64 0, .bool false, .int .i64 0] 33 (0,0)) (by(with_reducible repeat(first|refine ah ?_ _|refine af ?_|refine ag ?_ _));exact l.out) hb);have ce:=Aside0.mk (bi bl hb);clear c;clear d;clear i;clear l;clear HB;clear a7;have c:=ba;have b0:=bb;have d:=bc;have i:=bd;have l:=be;have HB:=ce;clear ba bb bc bd be ce;clear hb ar;obtain⟨u,v,cl⟩:=Kd.S_slice b0.out;subst cl;have de:=ao.out;have dg:=K.out;have:=cf7 l;obtain⟨I,J,cm⟩:=Kd.S_slice c.out;subst cm;have:=cf7 i))
       refine bodyPost_ret (results_cell_row rfl _ _ m 33 #[.slice I a.length J, .slice u t.length v, .slice none 0 0, .int .i64 0, .int .i64 0, .bool false, .int .i64 0] (0,0) _ rfl (by(with_reducible repeat(first|refine ah ?_ _|refine af ?_|refine ag ?_ _));refine bg (cs:= #[.slice I a.length J, .slice u t.length v, .slice none 0 0, .int .i64 0, .int .i64 0, .bool false, .int .i64 0]) ?_ 6 _ rfl;(with_reducible repeat(first|refine ah ?_ _|refine af ?_|refine ag ?_ _));refine bg (cs:= #[.slice I a.length J, .slice u t.length v, .slice none 0 0, .int .i64 0, .int .i64 0, .bool false, .int .i64 0]) ?_ 5 _ rfl;(with_reducible repeat(first|refine ah ?_ _|refine af ?_|refine ag ?_ _));refine bg (cs:= #[.slice I a.length J, .slice u t.length v, .slice none 0 0, .int .i64 0, .int .i64 0, .bool false, .int .i64 0]) ?_ 4 _ rfl;(with_reducible repeat(first|refine ah ?_ _|refine af ?_|refine ag ?_ _));refine bg (cs:= #[.slice I a.length J, .slice u t.length v, .slice none 0 0, .int .i64 0, .int .i64 0, .bool false, .int .i64 0]) ?_ 3 _ rfl;(with_reducible repeat(first|refine ah ?_ _|refine af ?_|refine ag ?_ _));refine bg (cs:= #[.slice I a.length J, .slice u t.length v, .slice none 0 0, .int .i64 0, .int .i64 0, .bool false, .int .i64 0]) ?_ 2 _ rfl;(with_reducible repeat(first|refine ah ?_ _|refine af ?_|refine ag ?_ _));refine bg (cs:= #[.slice I a.length J, .slice none 0 0, .slice none 0 0, .int .i64 0, .int .i64 0, .bool false, .int .i64 0]) ?_ 1 _ rfl;(with_reducible repeat(first|refine ah ?_ _|refine af ?_|refine ag ?_ _));refine bg (cs:= #[.slice none 0 0, .slice none 0 0, .slice none 0 0, .int .i64 0, .int .i64 0, .bool false, .int .i64 0]) ?_ 0 _ rfl;(with_reducible repeat(first|refine ah ?_ _|refine af ?_|refine ag ?_ _));refine eX ?_ K.out _;(with_reducible repeat(first|refine ah ?_ _|refine af ?_|refine ag ?_ _));exact i.out) Tryz.underlying33 rfl (by kernel_rfl)) rfl ?_
       exact⟨_,_,_,by first|rfl|(simp[bz,bA]<;>rfl)|(simp[*,bz,bA]<;>rfl),⟨fun k_=>k_<b5.heap.size∧some k_≠(.slice O r.length P:Value).ownBlock,by(with_reducible repeat(first|apply Kd.S_alloc|apply Kd.S_drewN|apply Kd.S_drew));exact Kd.S_mono (Kd.S_far (p:=⟨m,6,none⟩) (Kd.S_far (p:=⟨m,5,none⟩) (Kd.S_far (p:=⟨m,4,none⟩) (Kd.S_far (p:=⟨m,3,none⟩) (Kd.S_far (p:=⟨m,2,none⟩) (Kd.S_far (p:=⟨m,1,none⟩) (Kd.S_far (p:=⟨m,0,none⟩) (Kd.S_far (p:=⟨L,1,none⟩) (Kd.S_types (Kd.S_types c.out l.out (by decide)) i.out (by decide)) (fun _ hk=>hk.1.2) (.slice u t.length v)) (fun _ hk=>hk.2) (.slice I a.length J)) (fun _ hk=>hk.2) (.slice u t.length v)) (fun _ hk=>hk.2) (.slice none 0 0)) (fun _ hk=>hk.2) (.int .i64 0)) (fun _ hk=>hk.2) (.int .i64 0)) (fun _ hk=>hk.2) (.bool false)) (fun _ hk=>hk.2) (.int .i64 0)) (fun _ hk=>hk.1.1),by(with_reducible repeat(first|apply Kd.S_alloc|apply Kd.S_drewN|apply Kd.S_drew));exact Kd.S_mono (Kd.S_far (p:=⟨m,6,none⟩) (Kd.S_far (p:=⟨m,5,none⟩) (Kd.S_far (p:=⟨m,4,none⟩) (Kd.S_far (p:=⟨m,3,none⟩) (Kd.S_far (p:=⟨m,2,none⟩) (Kd.S_far (p:=⟨m,1,none⟩) (Kd.S_far (p:=⟨m,0,none⟩) (Kd.S_far (p:=⟨L,1,none⟩) (Kd.S_types (Kd.S_types b0.out l.out (by decide)) i.out (by decide)) (fun _ hk=>hk.1.2) (.slice u t.length v)) (fun _ hk=>hk.2) (.slice I a.length J)) (fun _ hk=>hk.2) (.slice u t.length v)) (fun _ hk=>hk.2) (.slice none 0 0)) (fun _ hk=>hk.2) (.int .i64 0)) (fun _ hk=>hk.2) (.int .i64 0)) (fun _ hk=>hk.2) (.bool false)) (fun _ hk=>hk.2) (.int .i64 0)) (fun _ hk hp=>hk.1.1.elim (fun e_=>hp.2 e_) (fun l_=>absurd hp.1 (Nat.not_lt.2 l_)))⟩,by first|exact Kd.R_nil _ _ _ _ _|exact Kd.N_nil _ _ _ _ _|exact Kd.V_nil _ _ _ _ _|exact Kd.Q_nil _ _ _ _ _|exact Kd.S_nil _ _ _ _ _,bl⟩
      ·rw[if_neg c18]at H
       exact absurd H (by simp)
     ·rw[if_neg c17]at H
      exact absurd H (by simp)
    ·rw[if_neg c16]at H
     exact absurd H (by simp)
set_option maxHeartbeats 8000000 in
set_option maxRecDepth 100000 in
theorem gD.calls (k:Nat) (z:Option Addr) (A:Nat) (d:List (S126)) (B:Option Addr) (D:Nat) (g:List (S104)) (r1:List (S91)) (r2:List (S70)) (r3:List Int) (r4:Int) (r5:Int) (r6:Bool) (r7:Int) (w:World) (O:Kd.C eB w z d.length d) (P:d.length≤A) (T:Kd.C dV w B g.length g) (U:g.length≤D) (h:gD.f k d g=some (r1,r2,r3,r4,r5,r6,r7)):
  Calls Tryz.prog 9 #[.agg #[.slice z d.length A, .slice B g.length D]] w fun e w' => ∃am an ao:Value,e= .returned (.agg #[am,an,ao, .int .i64 r4, .int .i64 r5, .bool r6, .int .i64 r7])∧(∃P_:Nat→Prop,Kd.S k91 91 w' w.heap.size P_ am r1∧Kd.S k70 70 w' w.heap.size (fun k_=> ¬P_ k_) an r2)∧Kd.R (Kd.int .i64) 3 w' w.heap.size (fun _=>True) ao r3∧Below w.heap.size w w' :=by
 have aF:=Tryz.underlying38
 have aL:=Tryz.underlying33
 have I:=Aside0.mk O
 have J:=Aside0.mk P
 clear O P
 have K:=Aside0.mk T
 have L:=Aside0.mk U
 clear T U
 have HB:=Aside0.mk (Below.refl w.heap.size w)
 have H:((bC.f k d g).bind fun M=>(if M=true then((dX.f k d g).bind fun o=>(some (o.1,o.2.1,o.2.2.1,o.2.2.2.1,o.2.2.2.2.1,o.2.2.2.2.2.1,o.2.2.2.2.2.2)))else(some (([]:List (S91)),([]:List (S70)),([]:List Int),0,0,false,0))))=some (r1,r2,r3,r4,r5,r6,r7):=h
 clear h
 obtain⟨M,A2,H⟩:=ob H
 by_cases c3:M=true
 ·subst c3
  replace H:=it H
  replace H:=Option.bind_eq_some_iff.mp H
  obtain⟨⟨i,j,l,q,t,E,G⟩,ap,H⟩:=H
  replace H:(some (i,j,l,q,t,E,G))=some (r1,r2,r3,r4,r5,r6,r7):=H
  have A4:=Aside0.mk ap
  clear ap
  simp only[Option.some.injEq,Prod.mk.injEq]at H
  obtain⟨rfl,rfl,rfl,rfl,rfl,rfl,rfl⟩:=H
  go_enter Tryz.func9,Tryz.ntmps9
  go_wp2_with (first|((with_reducible refine gd 1 rfl ?_);refine bx 1 #[.slice z d.length A, .slice B g.length D] 38 ?_;intro Z hg w5 hbox hb;have b:=Aside0.mk hbox;have ab:=hz HB hg;have ac:=hz HB hg;replace HB:=hs HB hb;clear hb hbox hg)|((with_reducible refine gd 2 rfl ?_);refine bx 2 #[.slice none 0 0, .slice none 0 0, .slice none 0 0, .int .i64 0, .int .i64 0, .bool false, .int .i64 0] 33 ?_;intro a hg w6 hbox hb;have c:=Aside0.mk hbox;have ad:=hz HB hg;have al:=hz HB hg;have u:=nl b hg;have v:=ng b hg;replace b:=kb b hb;replace HB:=hs HB hb;clear hb hbox hg;have aO:=u.out;have aP:=v.out;have:=cf2 b)|((with_reducible refine gc 33 rfl ?_);refine gl (some 4) Tryz.func33 #[.agg #[.slice z d.length A, .slice B g.length D]] rfl ?_;(with_reducible refine(bC.calls k _ _ d _ _ g true _ ?s1 ?s2 ?s3 ?s4 A2.out).mono ?_);(case s1=>exact cb I.out);(case s2=>exact J.out);(case s3=>exact cb K.out);(case s4=>exact L.out);rintro e w9 ⟨rfl,hb⟩;refine⟨_,rfl, ?_⟩;replace b:=kb b hb;replace c:=kb c hb;replace HB:=hs HB hb;(try clear hb);have:=cf2 b)|((with_reducible refine gc 34 rfl ?_);refine gl (some 8) Tryz.func34 #[.agg #[.slice z d.length A, .slice B g.length D]] rfl ?_;(with_reducible refine(dX.calls k _ _ d _ _ g i j l q t E G _ ?s1 ?s2 ?s3 ?s4 A4.out).mono ?_);(case s1=>exact cb I.out);(case s2=>exact J.out);(case s3=>exact cb K.out);(case s4=>exact L.out);rintro e a1 ⟨aR,aS,a0,rfl,⟨PM,ho0,ho1⟩,ho2,hb⟩;refine⟨_,rfl, ?_⟩;have W:=Aside0.mk (Kd.S_lower ho0 (aU bl));have X:=Aside0.mk (Kd.S_lower ho1 (aU bl));have Y:=Aside0.mk (Kd.R_lower ho2 (aU bl));replace b:=kb b hb;replace c:=kb c hb;replace HB:=hs HB hb;(try clear hb);(try clear ho0);(try clear ho1);(try clear ho2);obtain⟨m,n,aq⟩:=Kd.S_slice W.out;subst aq;have:=cf7 c;obtain⟨r,s,ar⟩:=Kd.S_slice X.out;subst ar;obtain⟨x,y,aw⟩:=Kd.R_slice Y.out;subst aw))
  refine bodyPost_ret (results_cell_row rfl _ _ a 33 #[.slice m i.length n, .slice r j.length s, .slice x l.length y, .int .i64 q, .int .i64 t, .bool E, .int .i64 G] (0,0) _ rfl (by(with_reducible repeat(first|refine ah ?_ _|refine af ?_|refine ag ?_ _));refine bg (cs:= #[.slice m i.length n, .slice r j.length s, .slice x l.length y, .int .i64 q, .int .i64 t, .bool E, .int .i64 0]) ?_ 6 _ rfl;(with_reducible repeat(first|refine ah ?_ _|refine af ?_|refine ag ?_ _));refine bg (cs:= #[.slice m i.length n, .slice r j.length s, .slice x l.length y, .int .i64 q, .int .i64 t, .bool false, .int .i64 0]) ?_ 5 _ rfl;(with_reducible repeat(first|refine ah ?_ _|refine af ?_|refine ag ?_ _));refine bg (cs:= #[.slice m i.length n, .slice r j.length s, .slice x l.length y, .int .i64 q, .int .i64 0, .bool false, .int .i64 0]) ?_ 4 _ rfl;(with_reducible repeat(first|refine ah ?_ _|refine af ?_|refine ag ?_ _));refine bg (cs:= #[.slice m i.length n, .slice r j.length s, .slice x l.length y, .int .i64 0, .int .i64 0, .bool false, .int .i64 0]) ?_ 3 _ rfl;(with_reducible repeat(first|refine ah ?_ _|refine af ?_|refine ag ?_ _));refine bg (cs:= #[.slice m i.length n, .slice r j.length s, .slice none 0 0, .int .i64 0, .int .i64 0, .bool false, .int .i64 0]) ?_ 2 _ rfl;(with_reducible repeat(first|refine ah ?_ _|refine af ?_|refine ag ?_ _));refine bg (cs:= #[.slice m i.length n, .slice none 0 0, .slice none 0 0, .int .i64 0, .int .i64 0, .bool false, .int .i64 0]) ?_ 1 _ rfl;(with_reducible repeat(first|refine ah ?_ _|refine af ?_|refine ag ?_ _));refine bg (cs:= #[.slice none 0 0, .slice none 0 0, .slice none 0 0, .int .i64 0, .int .i64 0, .bool false, .int .i64 0]) ?_ 0 _ rfl;(with_reducible repeat(first|refine ah ?_ _|refine af ?_|refine ag ?_ _));exact c.out) Tryz.underlying33 rfl (by kernel_rfl)) rfl ?_
  exact⟨_,_,_,by first|rfl|(simp[bz,bA]<;>rfl)|(simp[*,bz,bA]<;>rfl),⟨PM,by(with_reducible repeat(first|apply Kd.S_alloc|apply Kd.S_drewN|apply Kd.S_drew));exact Kd.S_mono (Kd.S_far (p:=⟨a,6,none⟩) (Kd.S_far (p:=⟨a,5,none⟩) (Kd.S_far (p:=⟨a,4,none⟩) (Kd.S_far (p:=⟨a,3,none⟩) (Kd.S_far (p:=⟨a,2,none⟩) (Kd.S_far (p:=⟨a,1,none⟩) (Kd.S_far (p:=⟨a,0,none⟩) (Kd.S_types W.out c.out (by decide)) (fun _ hk=>hk.2) (.slice m i.length n)) (fun _ hk=>hk.2) (.slice r j.length s)) (fun _ hk=>hk.2) (.slice x l.length y)) (fun _ hk=>hk.2) (.int .i64 q)) (fun _ hk=>hk.2) (.int .i64 t)) (fun _ hk=>hk.2) (.bool E)) (fun _ hk=>hk.2) (.int .i64 G)) (fun _ hk=>hk.1),by(with_reducible repeat(first|apply Kd.S_alloc|apply Kd.S_drewN|apply Kd.S_drew));exact Kd.S_mono (Kd.S_far (p:=⟨a,6,none⟩) (Kd.S_far (p:=⟨a,5,none⟩) (Kd.S_far (p:=⟨a,4,none⟩) (Kd.S_far (p:=⟨a,3,none⟩) (Kd.S_far (p:=⟨a,2,none⟩) (Kd.S_far (p:=⟨a,1,none⟩) (Kd.S_far (p:=⟨a,0,none⟩) (Kd.S_types X.out c.out (by decide)) (fun _ hk=>hk.2) (.slice m i.length n)) (fun _ hk=>hk.2) (.slice r j.length s)) (fun _ hk=>hk.2) (.slice x l.length y)) (fun _ hk=>hk.2) (.int .i64 q)) (fun _ hk=>hk.2) (.int .i64 t)) (fun _ hk=>hk.2) (.bool E)) (fun _ hk=>hk.2) (.int .i64 G)) (fun _ hk=>hk.1)⟩,by(with_reducible repeat(first|apply Kd.R_alloc|apply Kd.R_drewN|apply Kd.R_drew));exact Kd.R_mono (Kd.R_far (p:=⟨a,6,none⟩) (Kd.R_far (p:=⟨a,5,none⟩) (Kd.R_far (p:=⟨a,4,none⟩) (Kd.R_far (p:=⟨a,3,none⟩) (Kd.R_far (p:=⟨a,2,none⟩) (Kd.R_far (p:=⟨a,1,none⟩) (Kd.R_far (p:=⟨a,0,none⟩) (Kd.R_types Y.out c.out (by decide)) (fun _ hk=>hk.2) (.slice m i.length n)) (fun _ hk=>hk.2) (.slice r j.length s)) (fun _ hk=>hk.2) (.slice x l.length y)) (fun _ hk=>hk.2) (.int .i64 q)) (fun _ hk=>hk.2) (.int .i64 t)) (fun _ hk=>hk.2) (.bool E)) (fun _ hk=>hk.2) (.int .i64 G)) (fun _ hk=>trivial),bl⟩
 ·replace c3:=Bool.eq_false_iff.mpr c3
  subst c3
  replace H:=ie H
  simp only[Option.some.injEq,Prod.mk.injEq]at H
  obtain⟨rfl,rfl,rfl,rfl,rfl,rfl,rfl⟩:=H
  go_enter Tryz.func9,Tryz.ntmps9
  go_wp2_with (first|((with_reducible refine gd 1 rfl ?_);refine bx 1 #[.slice z d.length A, .slice B g.length D] 38 ?_;intro Z hg w16 hbox hb;have b:=Aside0.mk hbox;have ab:=hz HB hg;have ac:=hz HB hg;replace HB:=hs HB hb;clear hb hbox hg)|((with_reducible refine gd 2 rfl ?_);refine bx 2 #[.slice none 0 0, .slice none 0 0, .slice none 0 0, .int .i64 0, .int .i64 0, .bool false, .int .i64 0] 33 ?_;intro a hg a2 hbox hb;have c:=Aside0.mk hbox;have ad:=hz HB hg;have al:=hz HB hg;have u:=nl b hg;have v:=ng b hg;replace b:=kb b hb;replace HB:=hs HB hb;clear hb hbox hg;have aB:=u.out;have aE:=v.out;have:=cf2 b)|((with_reducible refine gc 33 rfl ?_);refine gl (some 4) Tryz.func33 #[.agg #[.slice z d.length A, .slice B g.length D]] rfl ?_;(with_reducible refine(bC.calls k _ _ d _ _ g false _ ?s1 ?s2 ?s3 ?s4 A2.out).mono ?_);(case s1=>exact cb I.out);(case s2=>exact J.out);(case s3=>exact cb K.out);(case s4=>exact L.out);rintro e a3 ⟨rfl,hb⟩;refine⟨_,rfl, ?_⟩;replace b:=kb b hb;replace c:=kb c hb;replace HB:=hs HB hb;(try clear hb);have:=cf7 c))
  refine bodyPost_ret (results_cell_row rfl _ _ a 33 #[.slice none 0 0, .slice none 0 0, .slice none 0 0, .int .i64 0, .int .i64 0, .bool false, .int .i64 0] (0,0) _ rfl (by(with_reducible repeat(first|refine ah ?_ _|refine af ?_|refine ag ?_ _));refine bg (cs:= #[.slice none 0 0, .slice none 0 0, .slice none 0 0, .int .i64 0, .int .i64 0, .bool false, .int .i64 0]) ?_ 6 _ rfl;(with_reducible repeat(first|refine ah ?_ _|refine af ?_|refine ag ?_ _));refine bg (cs:= #[.slice none 0 0, .slice none 0 0, .slice none 0 0, .int .i64 0, .int .i64 0, .bool false, .int .i64 0]) ?_ 5 _ rfl;(with_reducible repeat(first|refine ah ?_ _|refine af ?_|refine ag ?_ _));refine bg (cs:= #[.slice none 0 0, .slice none 0 0, .slice none 0 0, .int .i64 0, .int .i64 0, .bool false, .int .i64 0]) ?_ 4 _ rfl;(with_reducible repeat(first|refine ah ?_ _|refine af ?_|refine ag ?_ _));refine bg (cs:= #[.slice none 0 0, .slice none 0 0, .slice none 0 0, .int .i64 0, .int .i64 0, .bool false, .int .i64 0]) ?_ 3 _ rfl;(with_reducible repeat(first|refine ah ?_ _|refine af ?_|refine ag ?_ _));refine bg (cs:= #[.slice none 0 0, .slice none 0 0, .slice none 0 0, .int .i64 0, .int .i64 0, .bool false, .int .i64 0]) ?_ 2 _ rfl;(with_reducible repeat(first|refine ah ?_ _|refine af ?_|refine ag ?_ _));refine bg (cs:= #[.slice none 0 0, .slice none 0 0, .slice none 0 0, .int .i64 0, .int .i64 0, .bool false, .int .i64 0]) ?_ 1 _ rfl;(with_reducible repeat(first|refine ah ?_ _|refine af ?_|refine ag ?_ _));refine bg (cs:= #[.slice none 0 0, .slice none 0 0, .slice none 0 0, .int .i64 0, .int .i64 0, .bool false, .int .i64 0]) ?_ 0 _ rfl;(with_reducible repeat(first|refine ah ?_ _|refine af ?_|refine ag ?_ _));exact c.out) Tryz.underlying33 rfl (by kernel_rfl)) rfl ?_
  exact⟨_,_,_,by first|rfl|(simp[bz,bA]<;>rfl)|(simp[*,bz,bA]<;>rfl),⟨fun _=>True,Kd.S_nil _ _ _ _ _,Kd.S_nil _ _ _ _ _⟩,by first|exact Kd.R_nil _ _ _ _ _|exact Kd.N_nil _ _ _ _ _|exact Kd.V_nil _ _ _ _ _|exact Kd.Q_nil _ _ _ _ _|exact Kd.S_nil _ _ _ _ _,bl⟩
end Go.Proofs.YteinbmkgenhocaaGreat.P
end
