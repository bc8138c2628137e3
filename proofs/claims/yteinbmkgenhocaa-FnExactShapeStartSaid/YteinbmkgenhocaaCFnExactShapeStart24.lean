/- A part of the claim FnExactShapeStart: texts of this session and texts that its program printed out of the translation, joined. -/
import Derived.Test.YteinbmkgenhocaaCFnExactShapeStart23
section
namespace Go.Proofs.Yteinbmkgenhocaa.P
open Go.RowKit Go.Proofs.YteinbmkgenhocaaW.PrintWords Go.Proofs.YteinbmkgenhocaaW.PrintLast Go.Proofs.YteinbmkgenhocaaW.PrintMore
attribute [local go_sem] ak au aA aC ai aj av ax
set_option linter.unusedVariables false
set_option linter.unusedSimpArgs false
set_option maxHeartbeats 8000000 in
set_option maxRecDepth 100000 in
theorem bf.calls (k:Nat) (D:Option Addr) (E:Nat) (b:List (S71)) (G:Option Addr) (I:Nat) (p:List (S50)) (d:Int) (n:Int) (J:Option Addr) (K:Nat) (l:List Int) (s:Int) (v:Int) (L:Option Addr) (M:Nat) (x:List (S97)) (O:Option Addr) (P:Nat) (y:List (S29)) (T:Option Addr) (U:Nat) (z:List (S102)) (r:Bool) (w:World) (a2:Kd.C k71 w D b.length b) (a3:b.length≤E) (a4:Kd.C k50 w G p.length p) (a5:p.length≤I) (a6:Kd.C (Kd.int .i64) w J l.length l) (a7:l.length≤K) (a8:Kd.C k97 w L x.length x) (a9:x.length≤M) (ba:Kd.C k29 w O y.length y) (bb:y.length≤P) (bc:Kd.C dQ w T z.length z) (bd:z.length≤U) (h:bf.f k b p d n l s v x y z=some r):
  Calls Try.prog 71 #[.agg #[.slice D b.length E, .slice G p.length I], .agg #[.int .i64 d, .int .i64 n, .slice J l.length K, .int .i64 s, .int .i64 v, .slice L x.length M, .slice O y.length P, .slice T z.length U]] w fun e w' =>e= .returned (.bool r)∧Below w.heap.size w w' :=by
 have dq:=Try.underlying34
 have dr:=Try.underlying50
 have A:=Aside0.mk a2
 have B:=Aside0.mk a3
 clear a2 a3
 have cA:=Aside0.mk a4
 have cC:=Aside0.mk a5
 clear a4 a5
 have be:=Aside0.mk a6
 have cD:=Aside0.mk a7
 clear a6 a7
 have cE:=Aside0.mk a8
 have cF:=Aside0.mk a9
 clear a8 a9
 have cG:=Aside0.mk ba
 have cH:=Aside0.mk bb
 clear ba bb
 have cI:=Aside0.mk bc
 have cJ:=Aside0.mk bd
 clear bc bd
 have HB:=Aside0.mk (Below.refl w.heap.size w)
 have H:(if d≥0 then(bf.j0 k 1 b p d n l s v x y z)else(bf.j0 k 0 b p d n l s v x y z))=some r:=h
 clear h
 have bp:=Aside0.mk H
 clear H
 go_enter Try.func71,Try.ntmps71
 go_upto_if 9 with(first|((with_reducible refine gd 2 rfl ?_);(try(refine aN (by rfl) ?_;dsimp only));refine bx 2 #[.slice D b.length E, .slice G p.length I] 34 ?_;intro q hg w4 hbox hb;have c:=Aside0.mk hbox;have bh:=hz HB hg;have X:=hz HB hg;replace HB:=hs HB hb;clear hb hbox hg)|((with_reducible refine gd 3 rfl ?_);(try(refine aN (by rfl) ?_;dsimp only));refine bx 3 #[.int .i64 d, .int .i64 n, .slice J l.length K, .int .i64 s, .int .i64 v, .slice L x.length M, .slice O y.length P, .slice T z.length U] 50 ?_;intro m hg w5 hbox hb;have a:=Aside0.mk hbox;have bj:=hz HB hg;have aq:=hz HB hg;have i:=nl c hg;have j:=ng c hg;replace c:=kb c hb;replace HB:=hs HB hb;clear hb hbox hg;have br:=j.out;have bs:=i.out;obtain⟨_,_,_,_,_,_,_,_,_,_,_,_,_,_,_,_⟩:=cf8 a))
 repeat(go_quiet (first|((with_reducible refine jk (N:=2) rfl ?_);(try(refine aN (by rfl) ?_;dsimp only));refine iy ?hg (N:=2) ?hd (cs:= #[.slice D b.length E, .slice G p.length I]) (t:=34) ?hr ?_;(case hd=>rfl);(case hg=>rfl);(case hr=>first|(go_simp;done)|(go_simp;rfl));intro q hg w4 hbox hb;have am:=Aside0.mk (gH (by repeat(first|(with_reducible first|exact HB.out|apply bJ|apply bG|apply aW)|exact HB.out)) hb);have an:=Aside0.mk (hbox);have ao:=Aside0.mk ((by rw[hg];exact(aK (by repeat(first|(with_reducible first|exact HB.out|apply bJ|apply bG|apply aW)|exact HB.out))):w.heap.size≤q));have ap:=Aside0.mk ((by rw[hg];exact(aK (by repeat(first|(with_reducible first|exact HB.out|apply bJ|apply bG|apply aW)|exact HB.out))):w.heap.size≤q));clear HB;have HB:=am;have c:=an;have bh:=ao;have X:=ap;clear am an ao ap;clear hb hbox hg)|((with_reducible refine jk (N:=3) rfl ?_);(try(refine aN (by rfl) ?_;dsimp only));refine iy ?hg (N:=3) ?hd (cs:= #[.int .i64 d, .int .i64 n, .slice J l.length K, .int .i64 s, .int .i64 v, .slice L x.length M, .slice O y.length P, .slice T z.length U]) (t:=50) ?hr ?_;(case hd=>rfl);(case hg=>rfl);(case hr=>first|(go_simp;done)|(go_simp;rfl));intro m hg w5 hbox hb;have am:=Aside0.mk (d9 (g:=q) (o:= .cells #[.slice D b.length E, .slice G p.length I] 34 (0,0)) (by(with_reducible repeat(first|refine ah ?_ _|refine af ?_|refine ag ?_ _));exact c.out) hb);have an:=Aside0.mk (gH (by repeat(first|(with_reducible first|exact HB.out|apply bJ|apply bG|apply aW|refine bn ?_ X.out)|exact HB.out)) hb);have ao:=Aside0.mk (hbox);have ap:=Aside0.mk ((by rw[hg];exact(aK (by repeat(first|(with_reducible first|exact HB.out|apply bJ|apply bG|apply aW|refine bn ?_ X.out)|exact HB.out))):w.heap.size≤m));have aR:=Aside0.mk ((by rw[hg];exact(aK (by repeat(first|(with_reducible first|exact HB.out|apply bJ|apply bG|apply aW|refine bn ?_ X.out)|exact HB.out))):w.heap.size≤m));have aS:=Aside0.mk ((by rw[hg];exact Nat.ne_of_lt (fu (g:=q) (o:= .cells #[.slice D b.length E, .slice G p.length I] 34 (0,0)) (by(with_reducible repeat(first|refine ah ?_ _|refine af ?_|refine ag ?_ _));exact c.out)):q≠m));have a0:=Aside0.mk ((by rw[hg];exact Nat.ne_of_gt (fu (g:=q) (o:= .cells #[.slice D b.length E, .slice G p.length I] 34 (0,0)) (by(with_reducible repeat(first|refine ah ?_ _|refine af ?_|refine ag ?_ _));exact c.out)):m≠q));clear c;clear HB;have c:=am;have HB:=an;have a:=ao;have bj:=ap;have aq:=aR;have i:=aS;have j:=a0;clear am an ao ap aR aS a0;clear hb hbox hg;have br:=j.out;have bs:=i.out;have bw:w5.cell? ⟨m,0,none⟩=some (.int .i64 d):=(ae a.out 0).trans rfl;have b0:w5.cell? ⟨m,1,none⟩=some (.int .i64 n):=(ae a.out 1).trans rfl;have b1:w5.cell? ⟨m,2,none⟩=some (.slice J l.length K):=(ae a.out 2).trans rfl;have b2:w5.cell? ⟨m,3,none⟩=some (.int .i64 s):=(ae a.out 3).trans rfl;have b3:w5.cell? ⟨m,4,none⟩=some (.int .i64 v):=(ae a.out 4).trans rfl;have b4:w5.cell? ⟨m,5,none⟩=some (.slice L x.length M):=(ae a.out 5).trans rfl;have b5:w5.cell? ⟨m,6,none⟩=some (.slice O y.length P):=(ae a.out 6).trans rfl;have b6:w5.cell? ⟨m,7,none⟩=some (.slice T z.length U):=(ae a.out 7).trans rfl;have b7:=ay a.out 0;have b8:=ay a.out 1;have b9:=ay a.out 2;have ca:=ay a.out 3;have cc:=ay a.out 4;have cd:=ay a.out 5;have ce:=ay a.out 6;have cf:=ay a.out 7));go_upto_if 9 with(first|((with_reducible refine gd 2 rfl ?_);(try(refine aN (by rfl) ?_;dsimp only));refine bx 2 #[.slice D b.length E, .slice G p.length I] 34 ?_;intro q hg w4 hbox hb;have c:=Aside0.mk hbox;have bh:=hz HB hg;have X:=hz HB hg;replace HB:=hs HB hb;clear hb hbox hg)|((with_reducible refine gd 3 rfl ?_);(try(refine aN (by rfl) ?_;dsimp only));refine iy ?hg (N:=3) ?hd (cs:= #[.int .i64 d, .int .i64 n, .slice J l.length K, .int .i64 s, .int .i64 v, .slice L x.length M, .slice O y.length P, .slice T z.length U]) (t:=50) ?hr ?_;(case hd=>rfl);(case hg=>rfl);(case hr=>first|(go_simp;done)|(go_simp;rfl));intro m hg w5 hbox hb;have am:=Aside0.mk (d9 (g:=q) (o:= .cells #[.slice D b.length E, .slice G p.length I] 34 (0,0)) (by(with_reducible repeat(first|refine ah ?_ _|refine af ?_|refine ag ?_ _));exact c.out) hb);have an:=Aside0.mk (gH bl hb);have ao:=Aside0.mk (hbox);have ap:=Aside0.mk ((by rw[hg];exact(aK bl):w.heap.size≤m));have aR:=Aside0.mk ((by rw[hg];exact(aK bl):w.heap.size≤m));have aS:=Aside0.mk ((by rw[hg];exact Nat.ne_of_lt (fu (g:=q) (o:= .cells #[.slice D b.length E, .slice G p.length I] 34 (0,0)) (by(with_reducible repeat(first|refine ah ?_ _|refine af ?_|refine ag ?_ _));exact c.out)):q≠m));have a0:=Aside0.mk ((by rw[hg];exact Nat.ne_of_gt (fu (g:=q) (o:= .cells #[.slice D b.length E, .slice G p.length I] 34 (0,0)) (by(with_reducible repeat(first|refine ah ?_ _|refine af ?_|refine ag ?_ _));exact c.out)):m≠q));clear c;clear HB;have c:=am;have HB:=an;have a:=ao;have bj:=ap;have aq:=aR;have i:=aS;have j:=a0;clear am an ao ap aR aS a0;clear hb hbox hg;have br:=j.out;have bs:=i.out;have bw:w5.cell? ⟨m,0,none⟩=some (.int .i64 d):=(ae a.out 0).trans rfl;have b0:w5.cell? ⟨m,1,none⟩=some (.int .i64 n):=(ae a.out 1).trans rfl;have b1:w5.cell? ⟨m,2,none⟩=some (.slice J l.length K):=(ae a.out 2).trans rfl;have b2:w5.cell? ⟨m,3,none⟩=some (.int .i64 s):=(ae a.out 3).trans rfl;have b3:w5.cell? ⟨m,4,none⟩=some (.int .i64 v):=(ae a.out 4).trans rfl;have b4:w5.cell? ⟨m,5,none⟩=some (.slice L x.length M):=(ae a.out 5).trans rfl;have b5:w5.cell? ⟨m,6,none⟩=some (.slice O y.length P):=(ae a.out 6).trans rfl;have b6:w5.cell? ⟨m,7,none⟩=some (.slice T z.length U):=(ae a.out 7).trans rfl;have b7:=ay a.out 0;have b8:=ay a.out 1;have b9:=ay a.out 2;have ca:=ay a.out 3;have cc:=ay a.out 4;have cd:=ay a.out 5;have ce:=ay a.out 6;have cf:=ay a.out 7)))
 (try simp only[Act.put,List.setIfInBounds_toArray,List.set_cons_zero,List.set_cons_succ])
 go_cut [5] (fun v5 wc=> ∃(kq:Nat) (al:Int),v5= .int .i64 al∧Aside0 (bf.j0 kq al b p d n l s v x y z=some r)∧Aside0 (kq≤k)∧Aside0 (wc.heap[q]? =some (.cells #[(.slice D b.length E),(.slice G p.length I)] 34 (0,0)))∧Aside0 (wc.heap[m]? =some (.cells #[.int .i64 d, .int .i64 n,(.slice J l.length K), .int .i64 s, .int .i64 v,(.slice L x.length M),(.slice O y.length P),(.slice T z.length U)] 50 (0,0)))∧Aside0 (Below w.heap.size w wc))
 case first=>
  have H:=bp.out
  clear bp
  by_cases c8:d≥0
  ·rw[if_pos c8]at H
   have aw:decide (0≤d)=true:=decide_eq_true c8
   clear c8
   (first|rw[aw]|(simp only[bT,bU];rw[aw])|skip)
   have H' :=Aside0.mk H
   clear H
   go_wp2
   repeat(go_quiet (fail);try go_wp2)
   go_meet
   case rel=>exact⟨_,(1),(by first|rfl|(simp;done)|(simp[*];done)),H',⟨by first|omega|exact Nat.le_refl _⟩,kk c,kk a,⟨bl⟩⟩
  ·rw[if_neg c8]at H
   have aw:decide (0≤d)=false:=decide_eq_false c8
   clear c8
   (first|rw[aw]|(simp only[bT,bU];rw[aw])|skip)
   have H' :=Aside0.mk H
   clear H
   go_wp2
   repeat(go_quiet (fail);try go_wp2)
   go_meet
   case rel=>exact⟨_,(0),(by first|rfl|(simp;done)|(simp[*];done)),H',⟨by first|omega|exact Nat.le_refl _⟩,kk c,kk a,⟨bl⟩⟩
 case rest =>
  clear bp
  obtain⟨kq,al,rfl,HA,HJ2,c,a,HB⟩:=hcut
  cases kq with
  |zero=>exact absurd HA.out (by simp[bf.j0])
  | succ cy =>
   have H:=HA.out
   clear HA
   simp only[bf.j0]at H
   have cg:=Aside0.mk H
   clear H
   go_upto_region 4 with(fail)
   repeat(go_quiet (fail);go_upto_region 4 with(fail))
   go_cut [47] (fun v47 wc=> ∃(kq:Nat) (ar:Bool),v47= .bool ar∧Aside0 (bf.j1 kq ar b p d n l s v x y z=some r)∧Aside0 (kq≤cy)∧Aside0 (wc.heap[q]? =some (.cells #[(.slice D b.length E),(.slice G p.length I)] 34 (0,0)))∧Aside0 (wc.heap[m]? =some (.cells #[.int .i64 d, .int .i64 n,(.slice J l.length K), .int .i64 s, .int .i64 v,(.slice L x.length M),(.slice O y.length P),(.slice T z.length U)] 50 (0,0)))∧Aside0 (Below w.heap.size w wc))
   case first=>
    have H:=cg.out
    clear cg
    by_cases c10:d=0
    ·rw[if_pos c10]at H
     have ac:=beq_iff_eq.mpr c10
     have ci:=bne_eq_false_iff_eq.mpr c10
     clear c10
     (first|rw[ac]|(simp only[bT,bU];rw[ac])|skip)
     have H' :=Aside0.mk H
     clear H
     have cL:=j.out
     have cM:=i.out
     obtain⟨_,_,_,_,_,_,_,_,_,_,_,_,_,_,_,_⟩:=cf8 a
     go_wp2
     repeat(go_quiet (fail);try go_wp2)
     go_meet
     case rel=>exact⟨_,(true),(by first|rfl|(simp;done)|(simp[*];done)),H',⟨by have:=HJ2.out;first|omega|exact Nat.le_refl _⟩,kk c,kk a,⟨bl⟩⟩
    ·rw [if_neg c10]at H
     have ac:=beq_eq_false_iff_ne.mpr c10
     have ci:=bne_iff_ne.mpr c10
     (first|rw[ac]|(simp only[bT,bU];rw[ac])|skip)
     obtain⟨t131,Y,H⟩:=ob H
     by_cases c14:t131=true
     ·subst c14
      replace H:=it H
      by_cases c15:(l.length:Int)>2
      ·rw[if_pos c15]at H
       have cj:decide (2<(l.length:Int))=true:=decide_eq_true c15
       have ck:decide (2<l.length)=true:=decide_eq_true (by omega)
       clear c15
       have H' :=Aside0.mk H
       clear H
       have cN:=j.out
       have cP:=i.out
       obtain⟨_,_,_,_,_,_,_,_,_,_,_,_,_,_,_,_⟩:=cf8 a
       obtain⟨_,_,_,_⟩:=cf2 c
       go_wp2_with (first|(go_at_call 33;(with_reducible refine(aH.calls d (-1) (wrap64 ((b.length:Int) - 1)) true _ Y.out).mono ?_);rintro e w' ⟨rfl,⟨nd,rfl⟩⟩;(try first|exact⟨rfl,_,World.drewN_drewN _ _ _⟩|exact⟨rfl,_,Eq.trans (World.drewN_drewN _ _ _) (congrArg (World.drewN _) (Nat.add_assoc _ _ _))⟩)))
       repeat(go_quiet (first|(go_at_call 33;(with_reducible refine(aH.calls d (-1) (wrap64 ((b.length:Int) - 1)) true _ Y.out).mono ?_);rintro e w' ⟨rfl,⟨nd,rfl⟩⟩;(try first|exact⟨rfl,_,World.drewN_drewN _ _ _⟩|exact⟨rfl,_,Eq.trans (World.drewN_drewN _ _ _) (congrArg (World.drewN _) (Nat.add_assoc _ _ _))⟩)));try go_wp2_with (first|(go_at_call 33;(with_reducible refine(aH.calls d (-1) (wrap64 ((b.length:Int) - 1)) true _ Y.out).mono ?_);rintro e w' ⟨rfl,⟨nd,rfl⟩⟩;(try first|exact⟨rfl,_,World.drewN_drewN _ _ _⟩|exact⟨rfl,_,Eq.trans (World.drewN_drewN _ _ _) (congrArg (World.drewN _) (Nat.add_assoc _ _ _))⟩))))
       go_meet
       case rel=>exact⟨_,(true),(by first|rfl|(simp;done)|(simp[*];done)),H',⟨by have:=HJ2.out;first|omega|exact Nat.le_refl _⟩,kk c,kk a,⟨bl⟩⟩
      ·rw[if_neg c15]at H
       have cj:decide (2<(l.length:Int))=false:=decide_eq_false c15
       have ck:decide (2<l.length)=false:=decide_eq_false (by omega)
       clear c15
       obtain⟨cv,aB,H⟩:=ob H
       by_cases c20:cv=true
       ·subst c20
        replace H:=it H
        obtain⟨aP,ch,H⟩:=ob H
        have H' :=Aside0.mk H
        clear H
        have cQ:=j.out
        have cR:=i.out
        obtain⟨_,_,_,_,_,_,_,_,_,_,_,_,_,_,_,_⟩:=cf8 a
        obtain⟨_,_,_,_⟩:=cf2 c
        go_wp2_with (first|(go_at_call 33;(with_reducible refine(aH.calls d (-1) (wrap64 ((b.length:Int) - 1)) true _ Y.out).mono ?_);rintro e w' ⟨rfl,⟨nd,rfl⟩⟩;(try first|exact⟨rfl,_,World.drewN_drewN _ _ _⟩|exact⟨rfl,_,Eq.trans (World.drewN_drewN _ _ _) (congrArg (World.drewN _) (Nat.add_assoc _ _ _))⟩))|(go_at_call 85;(with_reducible refine(bQ.calls _ _ b s true _ ?s1 ?s2 aB.out).mono ?_);(case s1=>exact cb A.out);(case s2=>exact B.out);rintro e w' ⟨rfl,⟨nd,rfl⟩⟩;(try first|exact⟨rfl,_,World.drewN_drewN _ _ _⟩|exact⟨rfl,_,Eq.trans (World.drewN_drewN _ _ _) (congrArg (World.drewN _) (Nat.add_assoc _ _ _))⟩))|(go_at_call 33;(with_reducible refine(aH.calls v (wrap64 (al+(l.length:Int))) 3 aP _ ch.out).mono ?_);rintro e w' ⟨rfl,⟨nd,rfl⟩⟩;(try first|exact⟨rfl,_,World.drewN_drewN _ _ _⟩|exact⟨rfl,_,Eq.trans (World.drewN_drewN _ _ _) (congrArg (World.drewN _) (Nat.add_assoc _ _ _))⟩)))
        repeat(go_quiet (first|(go_at_call 33;(with_reducible refine(aH.calls d (-1) (wrap64 ((b.length:Int) - 1)) true _ Y.out).mono ?_);rintro e w' ⟨rfl,⟨nd,rfl⟩⟩;(try first|exact⟨rfl,_,World.drewN_drewN _ _ _⟩|exact⟨rfl,_,Eq.trans (World.drewN_drewN _ _ _) (congrArg (World.drewN _) (Nat.add_assoc _ _ _))⟩))|(go_at_call 85;(with_reducible refine(bQ.calls _ _ b s true _ ?s1 ?s2 aB.out).mono ?_);(case s1=>repeat(first|exact(Kd.C_below A.out (by repeat(first|(with_reducible first|exact HB.out|apply bJ|apply bG|apply aW|refine bn ?_ X.out|refine bn ?_ aq.out)|exact HB.out)))|(with_reducible refine Kd.C_alloc ?_ _)|(with_reducible refine Kd.C_drewN ?_ _)|(with_reducible refine Kd.C_drew ?_)));(case s2=>exact B.out);rintro e w' ⟨rfl,⟨nd,rfl⟩⟩;(try first|exact⟨rfl,_,World.drewN_drewN _ _ _⟩|exact⟨rfl,_,Eq.trans (World.drewN_drewN _ _ _) (congrArg (World.drewN _) (Nat.add_assoc _ _ _))⟩))|(go_at_call 33;(with_reducible refine(aH.calls v (wrap64 (al+(l.length:Int))) 3 aP _ ch.out).mono ?_);rintro e w' ⟨rfl,⟨nd,rfl⟩⟩;(try first|exact⟨rfl,_,World.drewN_drewN _ _ _⟩|exact⟨rfl,_,Eq.trans (World.drewN_drewN _ _ _) (congrArg (World.drewN _) (Nat.add_assoc _ _ _))⟩)));try go_wp2_with (first|(go_at_call 33;(with_reducible refine(aH.calls d (-1) (wrap64 ((b.length:Int) - 1)) true _ Y.out).mono ?_);rintro e w' ⟨rfl,⟨nd,rfl⟩⟩;(try first|exact⟨rfl,_,World.drewN_drewN _ _ _⟩|exact⟨rfl,_,Eq.trans (World.drewN_drewN _ _ _) (congrArg (World.drewN _) (Nat.add_assoc _ _ _))⟩))|(go_at_call 85;(with_reducible refine(bQ.calls _ _ b s true _ ?s1 ?s2 aB.out).mono ?_);(case s1=>exact cb A.out);(case s2=>exact B.out);rintro e w' ⟨rfl,⟨nd,rfl⟩⟩;(try first|exact⟨rfl,_,World.drewN_drewN _ _ _⟩|exact⟨rfl,_,Eq.trans (World.drewN_drewN _ _ _) (congrArg (World.drewN _) (Nat.add_assoc _ _ _))⟩))|(go_at_call 33;(with_reducible refine(aH.calls v (wrap64 (al+(l.length:Int))) 3 aP _ ch.out).mono ?_);rintro e w' ⟨rfl,⟨nd,rfl⟩⟩;(try first|exact⟨rfl,_,World.drewN_drewN _ _ _⟩|exact⟨rfl,_,Eq.trans (World.drewN_drewN _ _ _) (congrArg (World.drewN _) (Nat.add_assoc _ _ _))⟩))))
        go_meet
        case rel=>exact⟨_,(!aP),(by first|rfl|(simp;done)|(simp[*];done)),H',⟨by have:=HJ2.out;first|omega|exact Nat.le_refl _⟩,kk c,kk a,⟨bl⟩⟩
       ·replace c20:=Bool.eq_false_iff.mpr c20
        subst c20
        replace H:=ie H
        have H' :=Aside0.mk H
        clear H
        have cS:=j.out
        have cT:=i.out
        obtain⟨_,_,_,_,_,_,_,_,_,_,_,_,_,_,_,_⟩:=cf8 a
        obtain⟨_,_,_,_⟩:=cf2 c
        go_wp2_with (first|(go_at_call 33;(with_reducible refine(aH.calls d (-1) (wrap64 ((b.length:Int) - 1)) true _ Y.out).mono ?_);rintro e w' ⟨rfl,⟨nd,rfl⟩⟩;(try first|exact⟨rfl,_,World.drewN_drewN _ _ _⟩|exact⟨rfl,_,Eq.trans (World.drewN_drewN _ _ _) (congrArg (World.drewN _) (Nat.add_assoc _ _ _))⟩))|(go_at_call 85;(with_reducible refine(bQ.calls _ _ b s false _ ?s1 ?s2 aB.out).mono ?_);(case s1=>exact cb A.out);(case s2=>exact B.out);rintro e w' ⟨rfl,⟨nd,rfl⟩⟩;(try first|exact⟨rfl,_,World.drewN_drewN _ _ _⟩|exact⟨rfl,_,Eq.trans (World.drewN_drewN _ _ _) (congrArg (World.drewN _) (Nat.add_assoc _ _ _))⟩)))
        repeat(go_quiet (first|(go_at_call 33;(with_reducible refine(aH.calls d (-1) (wrap64 ((b.length:Int) - 1)) true _ Y.out).mono ?_);rintro e w' ⟨rfl,⟨nd,rfl⟩⟩;(try first|exact⟨rfl,_,World.drewN_drewN _ _ _⟩|exact⟨rfl,_,Eq.trans (World.drewN_drewN _ _ _) (congrArg (World.drewN _) (Nat.add_assoc _ _ _))⟩))|(go_at_call 85;(with_reducible refine(bQ.calls _ _ b s false _ ?s1 ?s2 aB.out).mono ?_);(case s1=>repeat(first|exact(Kd.C_below A.out (by repeat(first|(with_reducible first|exact HB.out|apply bJ|apply bG|apply aW|refine bn ?_ X.out|refine bn ?_ aq.out)|exact HB.out)))|(with_reducible refine Kd.C_alloc ?_ _)|(with_reducible refine Kd.C_drewN ?_ _)|(with_reducible refine Kd.C_drew ?_)));(case s2=>exact B.out);rintro e w' ⟨rfl,⟨nd,rfl⟩⟩;(try first|exact⟨rfl,_,World.drewN_drewN _ _ _⟩|exact⟨rfl,_,Eq.trans (World.drewN_drewN _ _ _) (congrArg (World.drewN _) (Nat.add_assoc _ _ _))⟩)));try go_wp2_with (first|(go_at_call 33;(with_reducible refine(aH.calls d (-1) (wrap64 ((b.length:Int) - 1)) true _ Y.out).mono ?_);rintro e w' ⟨rfl,⟨nd,rfl⟩⟩;(try first|exact⟨rfl,_,World.drewN_drewN _ _ _⟩|exact⟨rfl,_,Eq.trans (World.drewN_drewN _ _ _) (congrArg (World.drewN _) (Nat.add_assoc _ _ _))⟩))|(go_at_call 85;(with_reducible refine(bQ.calls _ _ b s false _ ?s1 ?s2 aB.out).mono ?_);(case s1=>exact cb A.out);(case s2=>exact B.out);rintro e w' ⟨rfl,⟨nd,rfl⟩⟩;(try first|exact⟨rfl,_,World.drewN_drewN _ _ _⟩|exact⟨rfl,_,Eq.trans (World.drewN_drewN _ _ _) (congrArg (World.drewN _) (Nat.add_assoc _ _ _))⟩))))
        go_meet
        case rel=>exact⟨_,(true),(by first|rfl|(simp;done)|(simp[*];done)),H',⟨by have:=HJ2.out;first|omega|exact Nat.le_refl _⟩,kk c,kk a,⟨bl⟩⟩
     ·replace c14:=Bool.eq_false_iff.mpr c14
      subst c14
      replace H:=ie H
      have H' :=Aside0.mk H
      clear H
      have cU:=j.out
      have cV:=i.out
      obtain⟨_,_,_,_,_,_,_,_,_,_,_,_,_,_,_,_⟩:=cf8 a
      obtain⟨_,_,_,_⟩:=cf2 c
      go_wp2_with (first|(go_at_call 33;(with_reducible refine(aH.calls d (-1) (wrap64 ((b.length:Int) - 1)) false _ Y.out).mono ?_);rintro e w' ⟨rfl,⟨nd,rfl⟩⟩;(try first|exact⟨rfl,_,World.drewN_drewN _ _ _⟩|exact⟨rfl,_,Eq.trans (World.drewN_drewN _ _ _) (congrArg (World.drewN _) (Nat.add_assoc _ _ _))⟩)))
      repeat(go_quiet (first|(go_at_call 33;(with_reducible refine(aH.calls d (-1) (wrap64 ((b.length:Int) - 1)) false _ Y.out).mono ?_);rintro e w' ⟨rfl,⟨nd,rfl⟩⟩;(try first|exact⟨rfl,_,World.drewN_drewN _ _ _⟩|exact⟨rfl,_,Eq.trans (World.drewN_drewN _ _ _) (congrArg (World.drewN _) (Nat.add_assoc _ _ _))⟩)));try go_wp2_with (first|(go_at_call 33;(with_reducible refine(aH.calls d (-1) (wrap64 ((b.length:Int) - 1)) false _ Y.out).mono ?_);rintro e w' ⟨rfl,⟨nd,rfl⟩⟩;(try first|exact⟨rfl,_,World.drewN_drewN _ _ _⟩|exact⟨rfl,_,Eq.trans (World.drewN_drewN _ _ _) (congrArg (World.drewN _) (Nat.add_assoc _ _ _))⟩))))
      go_meet
      case rel=>exact⟨_,(true),(by first|rfl|(simp;done)|(simp[*];done)),H',⟨by have:=HJ2.out;first|omega|exact Nat.le_refl _⟩,kk c,kk a,⟨bl⟩⟩
   case rest=>
    clear cg
    obtain⟨kq,ar,rfl,HA,cq,c,a,HB⟩:=hcut
    cases kq with
    |zero=>exact absurd HA.out (by simp[bf.j1])
    | succ cr=>
     have H:=HA.out
     clear HA
     simp only[bf.j1]at H
     by_cases c31:ar=true
     ·subst c31
      replace H:=it H
      obtain rfl:=Option.some.inj H;clear H
      go_wp2
      repeat(go_quiet (fail);try go_wp2)
      go_ret
      exact fin
     ·replace c31:=Bool.eq_false_iff.mpr c31
      subst c31
      replace H:=ie H
      have H' :=Aside0.mk H
      clear H
      go_wp2
      repeat(go_quiet (fail);try go_wp2)
      go_loopg [6] cr (fun kq v6 w' => ∃(u:Int),v6= .int .i64 u∧Aside0 (bf.l0 kq u b p d n l s v x y z=some r)∧Aside0 (kq≤cr)∧Aside0 (w'.heap[q]? =some (.cells #[(.slice D b.length E),(.slice G p.length I)] 34 (0,0)))∧Aside0 (w'.heap[m]? =some (.cells #[.int .i64 d, .int .i64 n,(.slice J l.length K), .int .i64 s, .int .i64 v,(.slice L x.length M),(.slice O y.length P),(.slice T z.length U)] 50 (0,0)))∧Aside0 (Below w.heap.size w w'))
      case atStart=>exact⟨(0),(by first|rfl|(simp;done)|(simp[*];done)),H',⟨Nat.le_refl _⟩,kk c,kk a,⟨bl⟩⟩
      case round=>
       clear H'
       obtain⟨u,rfl,HA,ct,c,a,HB⟩:=hrel
       cases gk with
       |zero=>exact absurd HA.out (by simp[bf.l0])
       | succ k3=>
        have H:=HA.out
        clear HA
        simp only[bf.l0]at H
        by_cases c32:u<(l.length:Int)
        ·rw[if_pos c32]at H
         have cl:decide (u<(l.length:Int))=true:=decide_eq_true c32
         clear c32
         by_cases bk:0≤u
         ·rw[if_pos bk]at H
          have cW:decide (0≤u)=true:=decide_eq_true bk
          clear bk
          obtain⟨cw,aE,H⟩:=ob H
          by_cases bm:cw=true
          ·subst bm
           replace H:=it H
           have H' :=Aside0.mk H
           clear H
           have cX:=j.out
           have cY:=i.out
           obtain⟨_,_,_,_,_,_,_,_,_,_,_,_,_,_,_,_⟩:=cf8 a
           obtain⟨_,_,_,_⟩:=cf2 c
           have Z:0≤(u:Int):=od
           have ab:u<(l.length:Int):=od
           obtain⟨cm,a1,W⟩:=Kd.at_int be.out u Z ab
           cases a1
           replace W:=hc HB W
           replace Z:=eq_true Z
           replace ab:=eq_true ab
           go_wp2_with (first|(go_at_call 85;(with_reducible refine(bQ.calls _ _ b (rd l u) true _ ?s1 ?s2 aE.out).mono ?_);(case s1=>exact cb A.out);(case s2=>exact B.out);rintro e w' ⟨rfl,⟨nd,rfl⟩⟩;(try first|exact⟨rfl,_,World.drewN_drewN _ _ _⟩|exact⟨rfl,_,Eq.trans (World.drewN_drewN _ _ _) (congrArg (World.drewN _) (Nat.add_assoc _ _ _))⟩)))
           repeat(go_quiet (first|(go_at_call 85;(with_reducible refine(bQ.calls _ _ b (rd l u) true _ ?s1 ?s2 aE.out).mono ?_);(case s1=>repeat(first|exact(Kd.C_below A.out HB.out)|(with_reducible refine Kd.C_alloc ?_ _)|(with_reducible refine Kd.C_drewN ?_ _)|(with_reducible refine Kd.C_drew ?_)));(case s2=>exact B.out);rintro e w' ⟨rfl,⟨nd,rfl⟩⟩;(try first|exact⟨rfl,_,World.drewN_drewN _ _ _⟩|exact⟨rfl,_,Eq.trans (World.drewN_drewN _ _ _) (congrArg (World.drewN _) (Nat.add_assoc _ _ _))⟩)));try go_wp2_with (first|(go_at_call 85;(with_reducible refine(bQ.calls _ _ b (rd l u) true _ ?s1 ?s2 aE.out).mono ?_);(case s1=>exact cb A.out);(case s2=>exact B.out);rintro e w' ⟨rfl,⟨nd,rfl⟩⟩;(try first|exact⟨rfl,_,World.drewN_drewN _ _ _⟩|exact⟨rfl,_,Eq.trans (World.drewN_drewN _ _ _) (congrArg (World.drewN _) (Nat.add_assoc _ _ _))⟩))))
           go_roundg k3
           case measure=>have:=HJ2.out;have:=cq.out;have:=ct.out;omega
           case rel=>exact⟨(wrap64 (u+1)),(by first|rfl|(simp;done)|(simp[*];done)),H',⟨by have:=HJ2.out;have:=cq.out;have:=ct.out;omega⟩,kk c,kk a,⟨bl⟩⟩
          ·replace bm:=Bool.eq_false_iff.mpr bm
           subst bm
           replace H:=ie H
           obtain rfl:=Option.some.inj H;clear H
           have c0:=j.out
           have c1:=i.out
           obtain⟨_,_,_,_,_,_,_,_,_,_,_,_,_,_,_,_⟩:=cf8 a
           obtain⟨_,_,_,_⟩:=cf2 c
           have Z:0≤(u:Int):=od
           have ab:u<(l.length:Int):=od
           obtain⟨cm,a1,W⟩:=Kd.at_int be.out u Z ab
           cases a1
           replace W:=hc HB W
           replace Z:=eq_true Z
           replace ab:=eq_true ab
           go_wp2_with (first|(go_at_call 85;(with_reducible refine(bQ.calls _ _ b (rd l u) false _ ?s1 ?s2 aE.out).mono ?_);(case s1=>exact cb A.out);(case s2=>exact B.out);rintro e w' ⟨rfl,⟨nd,rfl⟩⟩;(try first|exact⟨rfl,_,World.drewN_drewN _ _ _⟩|exact⟨rfl,_,Eq.trans (World.drewN_drewN _ _ _) (congrArg (World.drewN _) (Nat.add_assoc _ _ _))⟩)))
           repeat(go_quiet (first|(go_at_call 85;(with_reducible refine(bQ.calls _ _ b (rd l u) false _ ?s1 ?s2 aE.out).mono ?_);(case s1=>repeat(first|exact(Kd.C_below A.out HB.out)|(with_reducible refine Kd.C_alloc ?_ _)|(with_reducible refine Kd.C_drewN ?_ _)|(with_reducible refine Kd.C_drew ?_)));(case s2=>exact B.out);rintro e w' ⟨rfl,⟨nd,rfl⟩⟩;(try first|exact⟨rfl,_,World.drewN_drewN _ _ _⟩|exact⟨rfl,_,Eq.trans (World.drewN_drewN _ _ _) (congrArg (World.drewN _) (Nat.add_assoc _ _ _))⟩)));try go_wp2_with (first|(go_at_call 85;(with_reducible refine(bQ.calls _ _ b (rd l u) false _ ?s1 ?s2 aE.out).mono ?_);(case s1=>exact cb A.out);(case s2=>exact B.out);rintro e w' ⟨rfl,⟨nd,rfl⟩⟩;(try first|exact⟨rfl,_,World.drewN_drewN _ _ _⟩|exact⟨rfl,_,Eq.trans (World.drewN_drewN _ _ _) (congrArg (World.drewN _) (Nat.add_assoc _ _ _))⟩))))
           go_ret
           exact fin
         ·rw[if_neg bk]at H
          exact absurd H (by simp)
        ·rw [if_neg c32]at H
         have cl:decide (u<(l.length:Int))=false:=decide_eq_false c32
         clear c32
         by_cases aF:d≥0
         ·rw[if_pos aF]at H
          have cn:decide (0≤d)=true:=decide_eq_true aF
          clear aF
          obtain⟨cx,ad,H⟩:=ob H
          by_cases bo:cx=true
          ·subst bo
           replace H:=it H
           obtain rfl:=Option.some.inj H;clear H
           have da:=j.out
           have db:=i.out
           obtain⟨_,_,_,_,_,_,_,_,_,_,_,_,_,_,_,_⟩:=cf8 a
           go_wp2_with (first|(go_at_call 33;(with_reducible refine(aH.calls n 0 2 true _ ad.out).mono ?_);rintro e w' ⟨rfl,⟨nd,rfl⟩⟩;(try first|exact⟨rfl,_,World.drewN_drewN _ _ _⟩|exact⟨rfl,_,Eq.trans (World.drewN_drewN _ _ _) (congrArg (World.drewN _) (Nat.add_assoc _ _ _))⟩)))
           repeat(go_quiet (first|(go_at_call 33;(with_reducible refine(aH.calls n 0 2 true _ ad.out).mono ?_);rintro e w' ⟨rfl,⟨nd,rfl⟩⟩;(try first|exact⟨rfl,_,World.drewN_drewN _ _ _⟩|exact⟨rfl,_,Eq.trans (World.drewN_drewN _ _ _) (congrArg (World.drewN _) (Nat.add_assoc _ _ _))⟩)));try go_wp2_with (first|(go_at_call 33;(with_reducible refine(aH.calls n 0 2 true _ ad.out).mono ?_);rintro e w' ⟨rfl,⟨nd,rfl⟩⟩;(try first|exact⟨rfl,_,World.drewN_drewN _ _ _⟩|exact⟨rfl,_,Eq.trans (World.drewN_drewN _ _ _) (congrArg (World.drewN _) (Nat.add_assoc _ _ _))⟩))))
           go_ret
           exact fin
          ·replace bo:=Bool.eq_false_iff.mpr bo
           subst bo
           replace H:=ie H
           by_cases aL:d<0
           ·rw[if_pos aL]at H
            have co:decide (d<0)=true:=decide_eq_true aL
            clear aL
            obtain rfl:=Option.some.inj H;clear H
            have dc:=j.out
            have dd:=i.out
            obtain⟨_,_,_,_,_,_,_,_,_,_,_,_,_,_,_,_⟩:=cf8 a
            go_wp2_with (first|(go_at_call 33;(with_reducible refine(aH.calls n 0 2 false _ ad.out).mono ?_);rintro e w' ⟨rfl,⟨nd,rfl⟩⟩;(try first|exact⟨rfl,_,World.drewN_drewN _ _ _⟩|exact⟨rfl,_,Eq.trans (World.drewN_drewN _ _ _) (congrArg (World.drewN _) (Nat.add_assoc _ _ _))⟩)))
            repeat(go_quiet (first|(go_at_call 33;(with_reducible refine(aH.calls n 0 2 false _ ad.out).mono ?_);rintro e w' ⟨rfl,⟨nd,rfl⟩⟩;(try first|exact⟨rfl,_,World.drewN_drewN _ _ _⟩|exact⟨rfl,_,Eq.trans (World.drewN_drewN _ _ _) (congrArg (World.drewN _) (Nat.add_assoc _ _ _))⟩)));try go_wp2_with (first|(go_at_call 33;(with_reducible refine(aH.calls n 0 2 false _ ad.out).mono ?_);rintro e w' ⟨rfl,⟨nd,rfl⟩⟩;(try first|exact⟨rfl,_,World.drewN_drewN _ _ _⟩|exact⟨rfl,_,Eq.trans (World.drewN_drewN _ _ _) (congrArg (World.drewN _) (Nat.add_assoc _ _ _))⟩))))
            go_ret
            exact fin
           ·rw[if_neg aL]at H
            have co:decide (d<0)=false:=decide_eq_false aL
            clear aL
            obtain rfl:=Option.some.inj H;clear H
            have de:=j.out
            have dg:=i.out
            obtain⟨_,_,_,_,_,_,_,_,_,_,_,_,_,_,_,_⟩:=cf8 a
            go_wp2_with (first|(go_at_call 33;(with_reducible refine(aH.calls n 0 2 false _ ad.out).mono ?_);rintro e w' ⟨rfl,⟨nd,rfl⟩⟩;(try first|exact⟨rfl,_,World.drewN_drewN _ _ _⟩|exact⟨rfl,_,Eq.trans (World.drewN_drewN _ _ _) (congrArg (World.drewN _) (Nat.add_assoc _ _ _))⟩)))
            repeat(go_quiet (first|(go_at_call 33;(with_reducible refine(aH.calls n 0 2 false _ ad.out).mono ?_);rintro e w' ⟨rfl,⟨nd,rfl⟩⟩;(try first|exact⟨rfl,_,World.drewN_drewN _ _ _⟩|exact⟨rfl,_,Eq.trans (World.drewN_drewN _ _ _) (congrArg (World.drewN _) (Nat.add_assoc _ _ _))⟩)));try go_wp2_with (first|(go_at_call 33;(with_reducible refine(aH.calls n 0 2 false _ ad.out).mono ?_);rintro e w' ⟨rfl,⟨nd,rfl⟩⟩;(try first|exact⟨rfl,_,World.drewN_drewN _ _ _⟩|exact⟨rfl,_,Eq.trans (World.drewN_drewN _ _ _) (congrArg (World.drewN _) (Nat.add_assoc _ _ _))⟩))))
            go_ret
            exact fin
         ·rw[if_neg aF]at H
          have cn:decide (0≤d)=false:=decide_eq_false aF
          clear aF
          by_cases aO:d<0
          ·rw[if_pos aO]at H
           have cp:decide (d<0)=true:=decide_eq_true aO
           clear aO
           obtain rfl:=Option.some.inj H;clear H
           have dj:=j.out
           have dk:=i.out
           obtain⟨_,_,_,_,_,_,_,_,_,_,_,_,_,_,_,_⟩:=cf8 a
           go_wp2
           repeat(go_quiet (fail);try go_wp2)
           go_ret
           exact fin
          ·rw[if_neg aO]at H
           have cp:decide (d<0)=false:=decide_eq_false aO
           clear aO
           obtain rfl:=Option.some.inj H;clear H
           have dl:=j.out
           have dp:=i.out
           obtain⟨_,_,_,_,_,_,_,_,_,_,_,_,_,_,_,_⟩:=cf8 a
           go_wp2
           repeat(go_quiet (fail);try go_wp2)
           go_ret
           exact fin
set_option maxHeartbeats 8000000 in
set_option maxRecDepth 100000 in
theorem gJ.calls (a0:Int) (r:Bool) (w:World) (h:gJ.f a0=some r):
  Calls Try.prog 86 #[.int .i64 a0] w fun e w' =>e= .returned (.bool r)∧Drawn0 w w' :=by
 have H:((aH.f a0 (-128) 127).bind fun a=>(some a))=some r:=h
 clear h
 obtain⟨a,A2,H⟩:=ob H
 obtain rfl:=Option.some.inj H;clear H
 go_enter Try.func86,Try.ntmps86
 go_wp2_with (first|((with_reducible refine gc 33 rfl ?_);refine gl (some 4) Try.func33 #[.int .i64 a0, .int .i64 (-128), .int .i64 127] rfl ?_;(with_reducible refine(aH.calls a0 (-128) 127 a _ A2.out).mono ?_);rintro e w' ⟨rfl,⟨nd,rfl⟩⟩;refine⟨_,rfl, ?_⟩))
 go_ret
 exact⟨by first|rfl|(simp;done)|(simp[*];done),by repeat(first|exact Drawn0.refl _|apply Drawn0.step)⟩
def df.T3:Bool×List (List Nat×List Nat):=(true, [([], []),([], []),([], []),([1,2], [1,2]),([3], [3]),([4], [4]),([0,5], [0,5]),([], []),([], []),([7,8], [7,8]),([9], [9]),([10], [10]),([6,11,6], [6,11]),([12,12,0,1,2,3,4,5,6,7,8,9,10,11,12], [12])])
def df.B3:List Nat:= [0,0,0,6,14,30,63,0,0,384,896,1920,4095,8191]
theorem df.tab3:ed .any (opsOf Try.f87 3)=df.T3:=by kernel_rfl
theorem df.bits3:eP df.T3.2 df.B3=true:=by kernel_rfl
set_option maxHeartbeats 8000000 in
set_option maxRecDepth 100000 in
theorem df.calls (k:Nat): ∀(A0:Option Addr) (c0:Nat) (l0:List (S71)) (a1:Int) (r:List Int) (w:World) (hr0:Kd.C k71 w A0 l0.length l0) (hc0:l0.length≤c0) (h:df.f k l0 a1=some r),
  Calls Try.prog 87 #[.slice A0 l0.length c0, .int .i64 a1] w fun e w' => ∃Y:Value,e= .returned (Y)∧Kd.R (Kd.int .i64) 3 w' w.heap.size (fun _=>True) Y r∧Below w.heap.size w w' :=by
 induction k using Nat.strongRecOn with
 |_ k ih=>
 intro A0 c0 l0 a1 r w hr0 hc0 h
 cases k with
 |zero=>exact absurd h (by simp[df.f])
 |succ k=>
 simp only[df.f]at h
 have P:=Aside0.mk hr0
 have aw:=Aside0.mk hc0
 clear hr0 hc0
 have HB:=Aside0.mk (Below.refl w.heap.size w)
 have H:(if a1=0 then(some (([]:List Int)))else(if 0≤a1 then(if a1<(l0.length:Int)then((df.f k l0 ((aD l0 a1).f0)).bind fun p=>(if p.length+((aD l0 a1).f1).length<17592186044416 then(some (p++((aD l0 a1).f1)))else(none)))else(none))else(none)))=some r:=h
 clear h
 by_cases c3:a1=0
 ·rw[if_pos c3]at H
  have ac:=beq_iff_eq.mpr c3
  have ad:=bne_eq_false_iff_eq.mpr c3
  clear c3
  obtain⟨al,q⟩: ∃y_:List Int,y_=(([]:List Int)):=⟨_,rfl⟩
  replace H:(some al)=some r:=by first|(rw[q];with_reducible exact H)|(have t:=(Option.bind_some _ _).symm.trans H;rw[q];with_reducible exact t)|(have t:=(Option.bind_some _ _).symm.trans H;with_reducible exact t)|with_reducible exact H|(rw[q];exact H)|exact H
  have L:=Aside0.mk q
  clear q
  obtain rfl:=Option.some.inj H;clear H
  go_enter Try.func87,Try.ntmps87
  go_wp2_with (first|((with_reducible refine gd 7 rfl ?_);refine Kd.R_lit (Kd.int .i64) _ 3 ?hg (N:=7) ?hd (xs:=([]:List Int)) (inner:= []) (ok:=fun _=>True) (okp:=fun _=>True) ?hr ?hp (fun _ hk=>hk) trivial (Below.refl _ _) (Nat.le_refl _) (by simp) ?_;(case hd=>rfl);(case hg=>rfl);(case hr=>first|(go_simp;done)|(go_simp;rfl));(case hp=>exact(bV.none _ _));intro v139 w4 A hb hg_ hnew_;clear hg_ hnew_;(first|rw[←L.out]at A|(simp only[Int.reduceToNat]at A;rw[←L.out]at A));have T:=Aside0.mk (Kd.R_lower A (aK bl));replace HB:=hs HB hb;clear hb A))
  go_ret
  exact⟨_,by first|rfl|(simp[aY,aZ]<;>rfl)|(simp[*,aY,aZ]<;>rfl),by(with_reducible repeat(first|apply Kd.R_alloc|apply Kd.R_drewN|apply Kd.R_drew));exact T.out,bl⟩
 ·rw [if_neg c3]at H
  have ac:=beq_eq_false_iff_ne.mpr c3
  have ad:=bne_iff_ne.mpr c3
  by_cases c6:0≤a1
  ·rw[if_pos c6]at H
   have a0:decide (0≤a1)=true:=decide_eq_true c6
   clear c6
   by_cases c7:a1<(l0.length:Int)
   ·rw[if_pos c7]at H
    have a2:decide (a1<(l0.length:Int))=true:=decide_eq_true c7
    clear c7
    obtain⟨p,A8,H⟩:=ob H
    by_cases c9:p.length+((aD l0 a1).f1).length<17592186044416
    ·rw[if_pos c9]at H
     have am:=Aside0.mk c9
     clear c9
     obtain⟨an,s⟩: ∃y_:List Int,y_=(p++((aD l0 a1).f1)):=⟨_,rfl⟩
     replace H:(some an)=some r:=by first|(rw[s];with_reducible exact H)|(have t:=(Option.bind_some _ _).symm.trans H;rw[s];with_reducible exact t)|(have t:=(Option.bind_some _ _).symm.trans H;with_reducible exact t)|with_reducible exact H|(rw[s];exact H)|exact H
     have U:=Aside0.mk s
     clear s
     obtain rfl:=Option.some.inj H;clear H
     go_enter Try.func87,Try.ntmps87
     try go_wp2
     replace HB:=Aside0.mk (aW HB.out)
     have E:0≤(a1:Int):=od
     have G:a1<(l0.length:Int):=od
     obtain⟨g,B,D,ao,m,j,u,v⟩:=fV P.out a1 E G
     have a:=j
     have b:=m
     cases ao
     obtain⟨m,j⟩:=hc2 HB m j
     have O:=Aside0.mk v
     have aq:=Aside0.mk u
     clear v u
     replace E:=eq_true E
     replace G:=eq_true G
     have I:0≤(a1:Int):=od
     have J:a1<(l0.length:Int):=od
     obtain⟨W,aE,aP,ap,o,l,x,y⟩:=fV P.out a1 I J
     have c:=l
     have d:=o
     obtain rfl:g=W:=(by injection ap)
     obtain⟨o,l⟩:=hc2 HB o l
     have z:=Aside0.mk y
     have ar:=Aside0.mk x
     clear y x
     replace I:=eq_true I
     replace J:=eq_true J
     have ea_:=Option.some.inj (j.symm.trans l)
     injection ea_ with ea_ en_ ec_
     subst ea_
     subst ec_
     clear en_
     refine dX (n:=14) (S:=fun w' =>w'.cell? (g.add ((a1).toNat * 2))=some (.int .i64 ((aD l0 a1).f0))∧w'.cell? ⟨(g.add ((a1).toNat * 2)).block,(g.add ((a1).toNat * 2)).off+1,none⟩=some (.slice B ((aD l0 a1).f1).length D)∧w'.cell? (g.add ((a1).toNat * 2))=some (.int .i64 ((aD l0 a1).f0))∧w'.cell? ⟨(g.add ((a1).toNat * 2)).block,(g.add ((a1).toNat * 2)).off+1,none⟩=some (.slice B ((aD l0 a1).f1).length D)) (ds:= []) #[false,false,false,false,false,false,false,false,false,false,false,false,false,false] (by kernel_rfl) rfl rfl ⟨((HB.out.cell (World.block_lt_of_cell? w _ b)).trans b),((HB.out.cell (World.block_lt_of_cell? w _ a)).trans a),((HB.out.cell (World.block_lt_of_cell? w _ d)).trans d),((HB.out.cell (World.block_lt_of_cell? w _ c)).trans c)⟩ (fun hHeld=> ?_);refine dH df.tab3 df.bits3 (fun HT_ HW_=> ?_)
     generalize w.drew=a4 at HB O z m j o l hHeld⊢
     refine pu 0 8 #[true,false,false,false,false,false,false,false,false,false,false,false,false,false] HT_ rfl rfl ?_
     refine pu 1 9 #[true,true,false,false,false,false,false,false,false,false,false,false,false,false] HT_ rfl rfl ?_
     refine pu 2 10 #[true,true,true,false,false,false,false,false,false,false,false,false,false,false] HT_ rfl rfl ?_
     refine pu 3 11 #[true,true,true,true,false,false,false,false,false,false,false,false,false,false] HT_ rfl rfl ?_
     refine pu 4 12 #[true,true,true,true,true,false,false,false,false,false,false,false,false,false] HT_ rfl rfl ?_
     refine pu 7 15 #[true,true,true,true,true,false,false,true,false,false,false,false,false,false] HT_ rfl rfl ?_
     refine pu 8 16 #[true,true,true,true,true,false,false,true,true,false,false,false,false,false] HT_ rfl rfl ?_
     refine pu 9 17 #[true,true,true,true,true,false,false,true,true,true,false,false,false,false] HT_ rfl rfl ?_
     refine pu 10 18 #[true,true,true,true,true,false,false,true,true,true,true,false,false,false] HT_ rfl rfl ?_
     refine ta 5 13 #[true,true,true,true,true,true,false,true,true,true,true,false,false,false] HT_ HW_ hHeld rfl rfl ?_
     refine ta 11 19 #[true,true,true,true,true,true,false,true,true,true,true,true,false,false] HT_ HW_ hHeld rfl rfl ?_
     refine fo (i:=6) (N:=some 14) #[true,true,true,true,true,true,true,true,true,true,true,true,false,false] rfl rfl (dU HT_.out (by kernel_rfl)) (by decide) (fun K hK=> ?_)
     refine gs Try.func87 #[.slice (some g) l0.length c0, .int .i64 ((aD l0 a1).f0)] rfl rfl ?_
     with_reducible refine(ih k (by omega) _ _ l0 ((aD l0 a1).f0) p _ ?s1 ?s2 A8.out).mono ?_
     (case s1=>exact cb P.out)
     (case s2=>exact aw.out)
     rintro e a5 ⟨v143,rfl,ho0,hb⟩
     refine⟨_,rfl, ?_⟩
     have M:=Aside0.mk (Kd.R_lower ho0 (aK bl))
     replace HB:=hs HB hb
     (try clear hb)
     (try clear hb2)
     (try clear hk)
     (try clear hi)
     (try clear ho0)
     refine hK.out _ _ ⟨((HB.out.cell (World.block_lt_of_cell? w _ b)).trans b),((HB.out.cell (World.block_lt_of_cell? w _ a)).trans a),((HB.out.cell (World.block_lt_of_cell? w _ d)).trans d),((HB.out.cell (World.block_lt_of_cell? w _ c)).trans c)⟩ (fun hHeld=> ?_)
     clear hK K
     refine no 14 ?_
     refine fo (i:=12) (N:=some 20) #[true,true,true,true,true,true,true,true,true,true,true,true,true,false] rfl rfl (dU HT_.out (by kernel_rfl)) (by decide) (fun K hK=> ?_)
     refine Kd.R_append_rows_step (Kd.int .i64) (w0:=w) w.heap.size (by rfl) (.tmp 14) (.tmp 19) 27 3 (.int .i64 0) 8 rfl Try.underlying27 info3 rfl (by decide) (by omega) v143 p ((aD l0 a1).f1) _ _ _ (fun _=>True) (fun _=>False) rfl rfl ?aO ?aR (fun _ _ h=>h) (fun _ h=>h.elim) ?aF ?aB ?aS ?aL ?_
     (case aR=>repeat(first|exact(Kd.C_below z.out HB.out)|(with_reducible refine Kd.C_alloc ?_ _)|(with_reducible refine Kd.C_drewN ?_ _)|(with_reducible refine Kd.C_drew ?_)))
     (case aB=>exact bl)
     (case aF=>exact(fun _ _=>trivial))
     (case aO=>exact(by(with_reducible repeat(first|apply Kd.R_alloc|apply Kd.R_drewN|apply Kd.R_drew));exact M.out))
     (case aS=>exact(aK bl))
     (case aL=>have:=am.out;omega)
     intro a3 a6 ho hb hg hat
     rw[←U.out]at ho
     have Z:=Aside0.mk (hb)
     have ab:=Aside0.mk (ho)
     clear HB
     clear M
     have HB:=Z
     have X:=ab
     clear Z ab
     clear ho hb hg hat
     refine hK.out _ _ ⟨((HB.out.cell (World.block_lt_of_cell? w _ b)).trans b),((HB.out.cell (World.block_lt_of_cell? w _ a)).trans a),((HB.out.cell (World.block_lt_of_cell? w _ d)).trans d),((HB.out.cell (World.block_lt_of_cell? w _ c)).trans c)⟩ (fun hHeld=> ?_)
     clear hK K
     refine no 20 ?_
     refine pu 13 4 #[true,true,true,true,true,true,true,true,true,true,true,true,true,true] HT_ rfl rfl ?_
     refine eT (dR HT_.out (by kernel_rfl)) ?_
     try go_wp2
     go_ret
     exact⟨_,by first|rfl|(simp[aY,aZ]<;>rfl)|(simp[*,aY,aZ]<;>rfl),by(with_reducible repeat(first|apply Kd.R_alloc|apply Kd.R_drewN|apply Kd.R_drew));exact X.out,bl⟩
    ·rw[if_neg c9]at H
     exact absurd H (by simp)
   ·rw[if_neg c7]at H
    exact absurd H (by simp)
  ·rw[if_neg c6]at H
   exact absurd H (by simp)
end Go.Proofs.Yteinbmkgenhocaa.P
end
