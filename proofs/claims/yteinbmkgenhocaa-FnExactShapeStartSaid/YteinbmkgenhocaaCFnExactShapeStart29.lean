/- A part of the claim FnExactShapeStart: texts of this session and texts that its program printed out of the translation, joined. -/
import Derived.Test.YteinbmkgenhocaaCFnExactShapeStart28
section
namespace Go.Proofs.Yteinbmkgenhocaa.P
open Go.RowKit Go.Proofs.YteinbmkgenhocaaW.PrintWords Go.Proofs.YteinbmkgenhocaaW.PrintLast Go.Proofs.YteinbmkgenhocaaW.PrintMore
attribute [local go_sem] ak au aA aC ai aj av ax
set_option linter.unusedVariables false
set_option linter.unusedSimpArgs false
set_option maxHeartbeats 8000000 in
set_option maxRecDepth 100000 in
theorem bM.calls (k:Nat) (A0:Option Addr) (c0:Nat) (l0:List Int) (r:List Int) (w:World) (hr0:Kd.C (Kd.int .i64) w A0 l0.length l0) (hc0:l0.length≤c0) (h:bM.f k l0=some r):
  Calls Try.prog 56 #[.slice A0 l0.length c0] w fun e w' => ∃B:Value,e= .returned (B)∧Kd.R (Kd.int .i64) 3 w' w.heap.size (fun _=>True) B r∧Below w.heap.size w w' :=by
 have L:=Aside0.mk hr0
 have al:=Aside0.mk hc0
 clear hr0 hc0
 have HB:=Aside0.mk (Below.refl w.heap.size w)
 have H:(if 0≤(l0.length:Int)then(if((l0.length:Int):Int).toNat≤35184372088832 then(bM.l0 k l0 (List.replicate ((l0.length:Int):Int).toNat 0) 0)else(none))else(none))=some r:=h
 clear h
 by_cases c2:0≤(l0.length:Int)
 ·rw [if_pos c2]at H
  have X:=eq_true c2
  have Y:decide (0≤(l0.length:Int))=true:=decide_eq_true c2
  clear c2
  by_cases c3:((l0.length:Int):Int).toNat≤35184372088832
  ·rw [if_pos c3]at H
   have Z:=eq_true c3
   have ab:decide (((l0.length:Int):Int).toNat≤35184372088832)=true:=decide_eq_true c3
   clear c3
   obtain⟨u,c⟩: ∃y_:List Int,y_=(List.replicate ((l0.length:Int):Int).toNat 0):=⟨_,rfl⟩
   replace H:(bM.l0 k l0 u 0)=some r:=by first|(rw[c];with_reducible exact H)|(have i:=(Option.bind_some _ _).symm.trans H;rw[c];with_reducible exact i)|(have i:=(Option.bind_some _ _).symm.trans H;with_reducible exact i)|with_reducible exact H|(rw[c];exact H)|exact H
   have s:=Aside0.mk c
   clear c
   have H' :=Aside0.mk H
   clear H
   go_enter Try.func56,Try.ntmps56
   go_wp2_with (first|((with_reducible refine gd 7 rfl ?_);refine Kd.R_make (Kd.int .i64) _ 3 rfl (N:=7) rfl 27 _ _ rfl (l0.length:Int) rfl rfl Try.underlying27 (.int .i64 0) 8 info3 rfl (by decide) (by omega) 0 (ok:=fun _=>True) (okp:=fun _=>True) rfl (fun _ hk=>hk) trivial (of_decide_eq_true (by first|(with_reducible assumption)|assumption)) (Nat.le_trans (Nat.mul_le_mul_right _ (of_decide_eq_true (by first|(with_reducible assumption)|assumption):(l0.length:Int).toNat≤35184372088832)) (by omega)) (Below.refl _ _) (Nat.le_refl _) ?_;intro J w4 l hb hg_ hnew_;clear hg_ hnew_;(first|rw[←s.out]at l|(simp only[Int.reduceToNat]at l;rw[←s.out]at l));have z:=Aside0.mk (Kd.R_lower l (aK bl));replace HB:=hs HB hb;clear hb l))
   go_loopg [4] k (fun kq v4 w' => ∃(b:List Int) (a:Int),v4= .int .i64 a∧Aside0 (bM.l0 kq l0 b a=some r)∧Aside0 (kq≤k)∧Aside0 (Kd.R (Kd.int .i64) 3 w' w.heap.size (fun _=>True) J b)∧Aside0 (Below w.heap.size w w'))
   case atStart=>exact⟨(u),(0),(by first|rfl|(simp;done)|(simp[*];done)),H',⟨Nat.le_refl _⟩,⟨by(with_reducible repeat(first|apply Kd.R_alloc|apply Kd.R_drewN|apply Kd.R_drew));exact z.out⟩,⟨bl⟩⟩
   case round=>
    clear H'
    obtain⟨b,a,rfl,HA,D,g,HB⟩:=hrel
    cases gk with
    |zero=>exact absurd HA.out (by simp[bM.l0])
    | succ k1=>
     have H:=HA.out
     clear HA
     simp only[bM.l0]at H
     by_cases c6:a<(l0.length:Int)
     ·rw[if_pos c6]at H
      have K:decide (a<(l0.length:Int))=true:=decide_eq_true c6
      clear c6
      by_cases c7:0≤a
      ·rw[if_pos c7]at H
       have ac:decide (0≤a)=true:=decide_eq_true c7
       clear c7
       by_cases c8:a<(b.length:Int)
       ·rw[if_pos c8]at H
        have ad:decide (a<(b.length:Int))=true:=decide_eq_true c8
        clear c8
        obtain⟨m,d⟩: ∃y_:List Int,y_=(b.set (a:Int).toNat (rd l0 a)):=⟨_,rfl⟩
        replace H:(bM.l0 k1 l0 m (wrap64 (a+1)))=some r:=by first|(rw[d];with_reducible exact H)|(have i:=(Option.bind_some _ _).symm.trans H;rw[d];with_reducible exact i)|(have i:=(Option.bind_some _ _).symm.trans H;with_reducible exact i)|with_reducible exact H|(rw[d];exact H)|exact H
        have A:=Aside0.mk d
        clear d
        have H' :=Aside0.mk H
        clear H
        have n:0≤(a:Int):=od
        have o:a<(l0.length:Int):=od
        obtain⟨T,e269,j⟩:=Kd.at_int L.out a n o
        cases e269
        replace j:=hc HB j
        replace n:=eq_true n
        replace o:=eq_true o
        have p9:0≤(a:Int):=od
        have q9:(a:Int)<((b.length:Int):Int):=od
        obtain⟨x,M,E,G,O,am,I⟩:=Kd.R_form g.out (by omega)
        (first|cases E|(injection E with ea_ en_ ec_;(first|subst ea_|(injection ea_ with ea_;subst ea_));subst ec_;clear en_))
        have P:=Aside0.mk G
        have an:=Aside0.mk I
        clear G O I
        obtain⟨U,W⟩:=Kd.R_celln 0 g.out (a:Int) p9 q9
        replace p9:=eq_true p9
        replace q9:=eq_true q9
        have q:=Kd.R_putg g.out (a:Int) (rd l0 a)
        go_wp2_with (first|((with_reducible refine dE (t:=3) (p:=20) rfl ?_);refine dw (t:=3) (p:=20) (v:= ?vo_w11) (w1:=(wr.setCell ⟨x,(a:Int).toNat,none⟩ (.int .i64 (rd l0 a)))) ?hg ?ho ?hn ?hr ?_;(case ho=>rfl);(case hg=>rfl);(case hn=>rfl);(case hr=>first|(go_simp;done)|(go_simp;rfl));intro y hw;have hg:wr.grownBy y (some x):=(by rw[hw];exact q.2);have hp_:Kd.R (Kd.int .i64) 3 y w.heap.size (fun _=>True) (.slice (some ⟨x,0,none⟩) b.length M) m:=(by rw[hw,A.out];exact q.1);clear q;replace g:=Aside0.mk (hp_);replace HB:=Aside0.mk ((by rw[hw];exact bn (HB.out) P.out:Below w.heap.size w y));clear hg hw hp_))
        go_roundg k1
        case measure=>have:=D.out;omega
        case rel=>exact⟨(m),(wrap64 (a+1)),(by first|rfl|(simp;done)|(simp[*];done)),H',⟨by have:=D.out;omega⟩,⟨by(with_reducible repeat(first|apply Kd.R_alloc|apply Kd.R_drewN|apply Kd.R_drew));exact g.out⟩,⟨bl⟩⟩
       ·rw[if_neg c8]at H
        exact absurd H (by simp)
      ·rw[if_neg c7]at H
       exact absurd H (by simp)
     ·rw[if_neg c6]at H
      have K:decide (a<(l0.length:Int))=false:=decide_eq_false c6
      clear c6
      obtain rfl:=Option.some.inj H;clear H
      go_wp2
      go_ret
      exact⟨_,by first|rfl|(simp[aY,aZ]<;>rfl)|(simp[*,aY,aZ]<;>rfl),by(with_reducible repeat(first|apply Kd.R_alloc|apply Kd.R_drewN|apply Kd.R_drew));exact g.out,bl⟩
  ·rw[if_neg c3]at H
   exact absurd H (by simp)
 ·rw[if_neg c2]at H
  exact absurd H (by simp)
set_option maxHeartbeats 8000000 in
set_option maxRecDepth 100000 in
theorem iq.calls (k:Nat) (d:Int) (l:Option Addr) (m:Nat) (c:List Int) (r1:Int) (r2:List Int) (w:World) (x:Kd.C (Kd.int .i64) w l c.length c) (y:c.length≤m) (h:iq.f k d c=some (r1,r2)):
  Calls Try.prog 35 #[.agg #[.int .i64 d, .slice l c.length m]] w fun e w' => ∃E:Value,e= .returned (.agg #[.int .i64 r1,E])∧Kd.R (Kd.int .i64) 3 w' w.heap.size (fun _=>True) E r2∧Below w.heap.size w w' :=by
 have T:=Try.underlying62
 have U:=Try.underlying71
 have B:=Aside0.mk x
 have D:=Aside0.mk y
 clear x y
 have HB:=Aside0.mk (Below.refl w.heap.size w)
 have H:((bM.f k c).bind fun g=>(some (d,g)))=some (r1,r2):=h
 clear h
 obtain⟨g,A2,H⟩:=ob H
 simp only[Option.some.injEq,Prod.mk.injEq]at H
 obtain⟨rfl,rfl⟩:=H
 go_enter Try.func35,Try.ntmps35
 go_wp2_with (first|((with_reducible refine gd 1 rfl ?_);refine bx 1 #[.int .i64 d, .slice l c.length m] 62 ?_;intro I hg w3 hbox hb;have a:=Aside0.mk hbox;have J:=hz HB hg;have K:=hz HB hg;replace HB:=hs HB hb;clear hb hbox hg)|((with_reducible refine gd 2 rfl ?_);refine bx 2 #[.int .i64 0, .slice none 0 0] 71 ?_;intro n hg w4 hbox hb;have b:=Aside0.mk hbox;have L:=hz HB hg;have M:=hz HB hg;have o:=nl a hg;have q:=ng a hg;replace a:=kb a hb;replace HB:=hs HB hb;clear hb hbox hg)|((with_reducible refine gd 3 rfl ?_);refine bx 3 #[.int .i64 0, .slice none 0 0] 71 ?_;intro z hg w5 hbox hb;have j:=Aside0.mk hbox;have O:=hz HB hg;have P:=hz HB hg;have r:=nl a hg;have s:=ng a hg;have i:=nl b hg;have t:=ng b hg;replace a:=kb a hb;replace b:=kb b hb;replace HB:=hs HB hb;clear hb hbox hg;have W:=o.out;have X:=q.out;have Y:=r.out;have Z:=s.out;obtain⟨_,_,_,_⟩:=cf2 a;have ab:=t.out;have ac:=i.out;obtain⟨_,_,_,_⟩:=cf2 j)|((with_reducible refine gc 56 rfl ?_);refine gl (some 9) Try.func56 #[.slice l c.length m] rfl ?_;(with_reducible refine(bM.calls k _ _ c g _ ?s1 ?s2 A2.out).mono ?_);(case s1=>exact cb B.out);(case s2=>exact D.out);rintro e al ⟨ad,rfl,ho0,hb⟩;refine⟨_,rfl, ?_⟩;have A:=Aside0.mk (Kd.R_lower ho0 (aK bl));replace a:=kq a hb;replace b:=kq b hb;replace j:=kp z #[.int .i64 d, .slice none 0 0] 71 hb;replace HB:=hs HB hb;(try clear hb);(try clear ho0);obtain⟨u,v,G⟩:=Kd.R_slice A.out;subst G;obtain⟨_,_,_,_⟩:=cf2 j;obtain⟨_,_,_,_⟩:=cf2 b))
 refine bodyPost_ret (results_cell_row rfl _ _ n 71 #[.int .i64 d, .slice u g.length v] (0,0) _ rfl (by(with_reducible repeat(first|refine ah ?_ _|refine af ?_|refine ag ?_ _));refine bH (cs:= #[.int .i64 d, .slice none 0 0]) ?_ 1 _ rfl;(with_reducible repeat(first|refine ah ?_ _|refine af ?_|refine ag ?_ _));refine bH (cs:= #[.int .i64 0, .slice none 0 0]) ?_ 0 _ rfl;(with_reducible repeat(first|refine ah ?_ _|refine af ?_|refine ag ?_ _));refine fJ ?_ i.out _;(with_reducible repeat(first|refine ah ?_ _|refine af ?_|refine ag ?_ _));exact b.out) Try.underlying71 rfl (by kernel_rfl)) rfl ?_
 exact⟨_,by first|rfl|(simp[aY,aZ]<;>rfl)|(simp[*,aY,aZ]<;>rfl),by(with_reducible repeat(first|apply Kd.R_alloc|apply Kd.R_drewN|apply Kd.R_drew));exact Kd.R_mono (Kd.R_far (p:=⟨n,1,none⟩) (Kd.R_far (p:=⟨n,0,none⟩) (Kd.R_far (p:=⟨z,1,none⟩) (Kd.R_types (Kd.R_types A.out j.out (by decide)) b.out (by decide)) (fun _ hk=>hk.1.2) (.slice u g.length v)) (fun _ hk=>hk.2) (.int .i64 d)) (fun _ hk=>hk.2) (.slice u g.length v)) (fun _ hk=>trivial),bl⟩
set_option maxHeartbeats 8000000 in
set_option maxRecDepth 100000 in
theorem bW.calls (k:Nat) (A0:Option Addr) (c0:Nat) (l0:List (S62)) (r:List (S71)) (w:World) (hr0:Kd.C k62 w A0 l0.length l0) (hc0:l0.length≤c0) (h:bW.f k l0=some r):
  Calls Try.prog 18 #[.slice A0 l0.length c0] w fun e w' => ∃aS:Value,e= .returned (aS)∧Kd.S k71 71 w' w.heap.size (fun _=>True) aS r∧Below w.heap.size w w' :=by
 have bm:=Try.underlying62
 have bo:=Try.underlying71
 have a8:=Aside0.mk hr0
 have b6:=Aside0.mk hc0
 clear hr0 hc0
 have HB:=Aside0.mk (Below.refl w.heap.size w)
 have H:(if 0≤(l0.length:Int)then(if((l0.length:Int):Int).toNat≤8796093022208 then(bW.l0 k l0 (List.replicate ((l0.length:Int):Int).toNat z71) 0)else(none))else(none))=some r:=h
 clear h
 by_cases c2:0≤(l0.length:Int)
 ·rw [if_pos c2]at H
  have bp:=eq_true c2
  have br:decide (0≤(l0.length:Int))=true:=decide_eq_true c2
  clear c2
  by_cases c3:((l0.length:Int):Int).toNat≤8796093022208
  ·rw [if_pos c3]at H
   have bs:=eq_true c3
   have bw:decide (((l0.length:Int):Int).toNat≤8796093022208)=true:=decide_eq_true c3
   clear c3
   obtain⟨T,i⟩: ∃y_:List (S71),y_=(List.replicate ((l0.length:Int):Int).toNat z71):=⟨_,rfl⟩
   replace H:(bW.l0 k l0 T 0)=some r:=by first|(rw[i];with_reducible exact H)|(have n:=(Option.bind_some _ _).symm.trans H;rw[i];with_reducible exact n)|(have n:=(Option.bind_some _ _).symm.trans H;with_reducible exact n)|with_reducible exact H|(rw[i];exact H)|exact H
   have M:=Aside0.mk i
   clear i
   have H' :=Aside0.mk H
   clear H
   go_enter Try.func18,Try.ntmps18
   go_wp2_with (first|((with_reducible refine gd 7 rfl ?_);refine Kd.S_make k71 _ 71 rfl (N:=7) rfl 31 _ _ rfl (l0.length:Int) rfl rfl Try.underlying31 (.agg #[(.int .i64 0),(.slice none 0 0)]) 32 rY rfl (by decide) (by omega) z71 (ok:=fun _=>True) (okp:=fun _=>True) (nR _ _ _ z71 (Kd.R_nil _ _ _ _ _)) (fun _ hk=>hk) trivial (of_decide_eq_true (by first|(with_reducible assumption)|assumption)) (Nat.le_trans (Nat.mul_le_mul_right _ (of_decide_eq_true (by first|(with_reducible assumption)|assumption):(l0.length:Int).toNat≤8796093022208)) (by omega)) (Below.refl _ _) (Nat.le_refl _) ?_;intro a4 w4 G hb hg_ hnew_;clear hg_ hnew_;(first|rw[←M.out]at G|(simp only[Int.reduceToNat]at G;rw[←M.out]at G));have aL:=Aside0.mk (Kd.S_lower G (aK bl));replace HB:=hs HB hb;clear hb G))
   go_loopg [4] k (fun kq v4 w' => ∃(c:List (S71)) (a:Int),v4= .int .i64 a∧Aside0 (bW.l0 kq l0 c a=some r)∧Aside0 (kq≤k)∧Aside0 (Kd.S k71 71 w' w.heap.size (fun _=>True) a4 c)∧Aside0 (Below w.heap.size w w'))
   case atStart=>exact⟨(T),(0),(by first|rfl|(simp;done)|(simp[*];done)),H',⟨Nat.le_refl _⟩,⟨by(with_reducible repeat(first|apply Kd.S_alloc|apply Kd.S_drewN|apply Kd.S_drew));exact aL.out⟩,⟨bl⟩⟩
   case round=>
    clear H'
    obtain⟨c,a,rfl,HA,a0,b,HB⟩:=hrel
    cases gk with
    |zero=>exact absurd HA.out (by simp[bW.l0])
    | succ k1=>
     have H:=HA.out
     clear HA
     simp only[bW.l0]at H
     by_cases c6:a<(l0.length:Int)
     ·rw[if_pos c6]at H
      have a5:decide (a<(l0.length:Int))=true:=decide_eq_true c6
      clear c6
      by_cases c7:0≤a
      ·rw[if_pos c7]at H
       have b0:decide (0≤a)=true:=decide_eq_true c7
       clear c7
       replace H:=Option.bind_eq_some_iff.mp H
       obtain⟨⟨g,o⟩,a1,H⟩:=H
       replace H:(if a<(c.length:Int)then(bW.l0 k1 l0 (c.set (a:Int).toNat (⟨g,o⟩:S71)) (wrap64 (a+1)))else(none))=some r:=H
       have A8:=Aside0.mk a1
       clear a1
       by_cases c9:a<(c.length:Int)
       ·rw[if_pos c9]at H
        have b1:decide (a<(c.length:Int))=true:=decide_eq_true c9
        clear c9
        obtain⟨I,l⟩: ∃y_:List (S71),y_=(c.set (a:Int).toNat (⟨g,o⟩:S71)):=⟨_,rfl⟩
        replace H:(bW.l0 k1 l0 I (wrap64 (a+1)))=some r:=by first|(rw[l];with_reducible exact H)|(have n:=(Option.bind_some _ _).symm.trans H;rw[l];with_reducible exact n)|(have n:=(Option.bind_some _ _).symm.trans H;with_reducible exact n)|with_reducible exact H|(rw[l];exact H)|exact H
        have aO:=Aside0.mk l
        clear l
        have H' :=Aside0.mk H
        clear H
        have J:0≤(a:Int):=od
        have K:a<(l0.length:Int):=od
        obtain⟨bj,U,W,e280,s,u,x,y⟩:=mQ a8.out a J K
        cases e280
        obtain⟨s,u⟩:=hc2 HB s u
        have O:=Aside0.mk y
        have P:=Aside0.mk x
        clear y x
        replace J:=eq_true J
        replace K:=eq_true K
        go_wp2_with (first|((with_reducible refine gc 35 rfl ?_);refine gl (some 20) Try.func35 #[.agg #[.int .i64 ((eB l0 a).f0), .slice U ((eB l0 a).f1).length W]] rfl ?_;(with_reducible refine(iq.calls k1 ((eB l0 a).f0) _ _ ((eB l0 a).f1) g o _ ?s1 ?s2 A8.out).mono ?_);(case s1=>exact cb O.out);(case s2=>exact P.out);rintro e q ⟨z,rfl,ho0,hb⟩;refine⟨_,rfl, ?_⟩;have m:=Aside0.mk (Kd.R_lower ho0 (aK bl));replace b:=Aside0.mk (Kd.S_elder' (by(with_reducible repeat(first|apply Kd.S_alloc|apply Kd.S_drewN|apply Kd.S_drew));exact b.out) (Kd.R_base ho0) hb);replace HB:=hs HB hb;(try clear hb);(try clear hk);(try clear ho0);have X:0≤(a:Int):=od;have Y:(a:Int)<((c.length:Int):Int):=od;obtain⟨d,Z,ab,ac,a6,b2,ad⟩:=Kd.S_form b.out (by omega);(first|cases ab|(injection ab with ea_ en_ ec_;(first|subst ea_|(injection ea_ with ea_;subst ea_));subst ec_;clear en_));have al:=Aside0.mk ac;have b3:=Aside0.mk ad;clear ac a6 ad;obtain⟨_,b4,aP,am,A,B,_,_⟩:=Kd.S_elem b.out z71 (a:Int) X Y;obtain⟨an,rfl,a9⟩:=kv am;have ba:q.cell? ⟨d,(a:Int).toNat * 2,none⟩=some (.int .i64 ((aD c a).f0)):=A 0 _ rfl;have bb:q.cell? ⟨d,(a:Int).toNat * 2+1,none⟩=some (an):=A 1 _ rfl;have bc:q.frozen? ⟨d,(a:Int).toNat * 2,none⟩=false:=B 0;have bd:q.frozen? ⟨d,(a:Int).toNat * 2+1,none⟩=false:=B 1;clear aP A B am;replace X:=eq_true X;replace Y:=eq_true Y;have n_:=Aside0.mk (Kd.S_mono (ok' :=(fun k_=>some k_≠(z:Value).ownBlock)) b.out (fun k_ hk=>hk.2));clear b;have b:=n_;clear n_;have a7:=Aside0.mk (show Kd.S k71 71 q w.heap.size (fun k_=>((fun _=>True)) k_∧¬((fun k_=>some k_=(z:Value).ownBlock)) k_) (.slice (some ⟨d,0,none⟩) c.length Z) c from(by(with_reducible repeat(first|apply Kd.S_alloc|apply Kd.S_drewN|apply Kd.S_drew));exact Kd.S_mono b.out (fun k_ hk=>⟨trivial,fun e_=>hk e_⟩)));obtain⟨bk,b5,aR,ao,D,E,ap,aq⟩:=Kd.S_elem a7.out z71 (a:Int) (of_decide_eq_true (by first|(with_reducible assumption)|assumption)) (by have h_:(a:Int)<((c.length:Int):Int):=of_decide_eq_true (by first|(with_reducible assumption)|assumption);first|exact h_|(have e_:=(Kd.S_reads' b.out).1;omega)|simpa using h_);obtain⟨be,rfl,bh⟩:=kv ao;have L:=Kd.S_seg aq (of_decide_eq_true (by first|(with_reducible assumption)|assumption)) (by have h_:(a:Int)<((c.length:Int):Int):=of_decide_eq_true (by first|(with_reducible assumption)|assumption);first|exact h_|(have e_:=(Kd.S_reads' b.out).1;omega)|simpa using h_) (seg:= [.int .i64 g,z]) (j:=0) (show 2≤2 from by decide) (x' :=(⟨g,o⟩:S71)) (nR _ _ _ (⟨g,o⟩:S71) (Kd.R_mono (Kd.R_tight rfl (Kd.R_mono (ok' :=fun k_=>((fun _=>True)) k_∧k_≠d) (Kd.R_apart' (m.out) (Kd.S_typed b.out) (by decide)) (fun k_ hk=>⟨trivial,fun e_=>(hk.2) (by rw[e_];rfl)⟩))) (fun _ h_=>Or.inr (h_)))) (fun _ hk=>hk) (fun k_ hk_=>((Kd.R_mono (ok' :=fun k_=>((fun _=>True)) k_∧k_≠d) (Kd.R_apart' (m.out) (Kd.S_typed b.out) (by decide)) (fun k_ hk=>⟨trivial,fun e_=>(hk.2) (by rw[e_];rfl)⟩))).1 k_ hk_.symm);have ar:=D 0 _ rfl;(try simp only[show(k71).sz=2 from rfl,Nat.mul_one,Nat.add_zero]at ar);have aw:=E 0;(try simp only[show(k71).sz=2 from rfl,Nat.mul_one,Nat.add_zero]at aw);have aB:=D 1 _ rfl;(try simp only[show(k71).sz=2 from rfl,Nat.mul_one,Nat.add_zero]at aB);have aE:=E 1;(try simp only[show(k71).sz=2 from rfl,Nat.mul_one,Nat.add_zero]at aE);clear aR D E ao ap aq)|((with_reducible refine dE (t:=71) (p:=21) rfl ?_);refine dw (t:=71) (p:=21) (v:= ?vo_w13) (w1:=((q.setCell ⟨d,(a:Int).toNat * 2,none⟩ (.int .i64 g)).setCell ⟨d,(a:Int).toNat * 2+1,none⟩ (z))) ?hg ?ho ?hn ?hr ?_;(case ho=>rfl);(case hg=>rfl);(case hn=>rfl);(case hr=>first|(go_simp;done)|(go_simp;rfl)|(obtain⟨_,_,rfl⟩:=Kd.R_slice m.out;first|(go_simp;done)|(go_simp;rfl)));intro aF hw;have hg:q.grownBy aF (some d):=(by rw[hw];exact L.2);have hp_:Kd.S k71 71 aF w.heap.size (fun _=>True) (.slice (some ⟨d,0,none⟩) c.length Z) I:=(by rw[hw,aO.out];exact L.1);clear L;have a2:=Aside0.mk (hp_);have a3:=Aside0.mk ((by rw[hw];exact bn (bn (HB.out) al.out) al.out:Below w.heap.size w aF));clear b;clear HB;clear m;have b:=a2;have HB:=a3;clear a2 a3;clear hg hw hp_))
        go_roundg k1
        case measure=>have:=a0.out;omega
        case rel=>exact⟨(I),(wrap64 (a+1)),(by first|rfl|(simp;done)|(simp[*];done)),H',⟨by have:=a0.out;omega⟩,⟨by(with_reducible repeat(first|apply Kd.S_alloc|apply Kd.S_drewN|apply Kd.S_drew));exact b.out⟩,⟨bl⟩⟩
       ·rw[if_neg c9]at H
        exact absurd H (by simp)
      ·rw[if_neg c7]at H
       exact absurd H (by simp)
     ·rw[if_neg c6]at H
      have a5:decide (a<(l0.length:Int))=false:=decide_eq_false c6
      clear c6
      obtain rfl:=Option.some.inj H;clear H
      go_wp2
      go_ret
      exact⟨_,by first|rfl|(simp[aY,aZ]<;>rfl)|(simp[*,aY,aZ]<;>rfl),by(with_reducible repeat(first|apply Kd.S_alloc|apply Kd.S_drewN|apply Kd.S_drew));exact b.out,bl⟩
  ·rw[if_neg c3]at H
   exact absurd H (by simp)
 ·rw[if_neg c2]at H
  exact absurd H (by simp)
set_option maxHeartbeats 8000000 in
set_option maxRecDepth 100000 in
theorem iL.calls (d:Int) (g:Int) (i:Int) (r1:Int) (r2:Int) (r3:Int) (w:World) (h:iL.f d g i=some (r1,r2,r3)):
  Calls Try.prog 77 #[.agg #[.int .i64 d, .int .i64 g, .int .i64 i]] w fun e w' =>e= .returned (.agg #[.int .i64 r1, .int .i64 r2, .int .i64 r3])∧Below w.heap.size w w' :=by
 have q:=Try.underlying112
 have A:=Try.underlying97
 have HB:=Aside0.mk (Below.refl w.heap.size w)
 have H:(some (d,g,i))=some (r1,r2,r3):=h
 clear h
 simp only[Option.some.injEq,Prod.mk.injEq]at H
 obtain⟨rfl,rfl,rfl⟩:=H
 go_enter Try.func77,Try.ntmps77
 go_wp2_with (first|((with_reducible refine gd 1 rfl ?_);refine bx 1 #[.int .i64 d, .int .i64 g, .int .i64 i] 112 ?_;intro r hg w2 hbox hb;have a:=Aside0.mk hbox;have s:=hz HB hg;have t:=hz HB hg;replace HB:=hs HB hb;clear hb hbox hg)|((with_reducible refine gd 2 rfl ?_);refine bx 2 #[.int .i64 0, .int .i64 0, .int .i64 0] 97 ?_;intro o hg w3 hbox hb;have c:=Aside0.mk hbox;have u:=hz HB hg;have v:=hz HB hg;have j:=nl a hg;have k:=ng a hg;replace a:=kb a hb;replace HB:=hs HB hb;clear hb hbox hg)|((with_reducible refine gd 3 rfl ?_);refine bx 3 #[.int .i64 0, .int .i64 0, .int .i64 0] 97 ?_;intro x hg w4 hbox hb;have p:=Aside0.mk hbox;have y:=hz HB hg;have z:=hz HB hg;have l:=nl a hg;have m:=ng a hg;have b:=nl c hg;have n:=ng c hg;replace a:=kb a hb;replace c:=kb c hb;replace HB:=hs HB hb;clear hb hbox hg;have B:=j.out;have D:=k.out;have E:=l.out;have G:=m.out;obtain⟨_,_,_,_,_,_⟩:=cf3 a;have I:=n.out;have J:=b.out;obtain⟨_,_,_,_,_,_⟩:=cf3 p;obtain⟨_,_,_,_,_,_⟩:=cf3 c))
 refine bodyPost_ret (results_cell_row rfl _ _ o 97 #[.int .i64 d, .int .i64 g, .int .i64 i] (0,0) _ rfl (by(with_reducible repeat(first|refine ah ?_ _|refine af ?_|refine ag ?_ _));refine bH (cs:= #[.int .i64 d, .int .i64 g, .int .i64 0]) ?_ 2 _ rfl;(with_reducible repeat(first|refine ah ?_ _|refine af ?_|refine ag ?_ _));refine bH (cs:= #[.int .i64 d, .int .i64 0, .int .i64 0]) ?_ 1 _ rfl;(with_reducible repeat(first|refine ah ?_ _|refine af ?_|refine ag ?_ _));refine bH (cs:= #[.int .i64 0, .int .i64 0, .int .i64 0]) ?_ 0 _ rfl;(with_reducible repeat(first|refine ah ?_ _|refine af ?_|refine ag ?_ _));refine fJ ?_ b.out _;(with_reducible repeat(first|refine ah ?_ _|refine af ?_|refine ag ?_ _));refine fJ ?_ b.out _;(with_reducible repeat(first|refine ah ?_ _|refine af ?_|refine ag ?_ _));refine fJ ?_ b.out _;(with_reducible repeat(first|refine ah ?_ _|refine af ?_|refine ag ?_ _));exact c.out) Try.underlying97 rfl (by kernel_rfl)) rfl ?_
 exact fin
set_option maxHeartbeats 8000000 in
set_option maxRecDepth 100000 in
theorem dA.calls (k:Nat) (A0:Option Addr) (c0:Nat) (l0:List (S112)) (r:List (S97)) (w:World) (hr0:Kd.C jC w A0 l0.length l0) (hc0:l0.length≤c0) (h:dA.f k l0=some r):
  Calls Try.prog 57 #[.slice A0 l0.length c0] w fun e w' => ∃aE:Value,e= .returned (aE)∧Kd.R k97 97 w' w.heap.size (fun _=>True) aE r∧Below w.heap.size w w' :=by
 have a7:=Try.underlying112
 have a9:=Try.underlying97
 have a0:=Aside0.mk hr0
 have bp:=Aside0.mk hc0
 clear hr0 hc0
 have HB:=Aside0.mk (Below.refl w.heap.size w)
 have H:(if 0≤(l0.length:Int)then(if((l0.length:Int):Int).toNat≤11728124029610 then(dA.l0 k l0 (List.replicate ((l0.length:Int):Int).toNat z97) 0)else(none))else(none))=some r:=h
 clear h
 by_cases c2:0≤(l0.length:Int)
 ·rw [if_pos c2]at H
  have ba:=eq_true c2
  have bb:decide (0≤(l0.length:Int))=true:=decide_eq_true c2
  clear c2
  by_cases c3:((l0.length:Int):Int).toNat≤11728124029610
  ·rw [if_pos c3]at H
   have bc:=eq_true c3
   have bd:decide (((l0.length:Int):Int).toNat≤11728124029610)=true:=decide_eq_true c3
   clear c3
   obtain⟨O,m⟩: ∃y_:List (S97),y_=(List.replicate ((l0.length:Int):Int).toNat z97):=⟨_,rfl⟩
   replace H:(dA.l0 k l0 O 0)=some r:=by first|(rw[m];with_reducible exact H)|(have y:=(Option.bind_some _ _).symm.trans H;rw[m];with_reducible exact y)|(have y:=(Option.bind_some _ _).symm.trans H;with_reducible exact y)|with_reducible exact H|(rw[m];exact H)|exact H
   have L:=Aside0.mk m
   clear m
   have H' :=Aside0.mk H
   clear H
   go_enter Try.func57,Try.ntmps57
   go_wp2_with (first|((with_reducible refine gd 7 rfl ?_);refine Kd.R_make k97 _ 97 rfl (N:=7) rfl 46 _ _ rfl (l0.length:Int) rfl rfl Try.underlying46 (.agg #[(.int .i64 0),(.int .i64 0),(.int .i64 0)]) 24 rZ rfl (by decide) (by omega) z97 (ok:=fun _=>True) (okp:=fun _=>True) (nS _ _ _ z97) (fun _ hk=>hk) trivial (of_decide_eq_true (by first|(with_reducible assumption)|assumption)) (Nat.le_trans (Nat.mul_le_mul_right _ (of_decide_eq_true (by first|(with_reducible assumption)|assumption):(l0.length:Int).toNat≤11728124029610)) (by omega)) (Below.refl _ _) (Nat.le_refl _) ?_;intro aO w4 D hb hg_ hnew_;clear hg_ hnew_;(first|rw[←L.out]at D|(simp only[Int.reduceToNat]at D;rw[←L.out]at D));have ar:=Aside0.mk (Kd.R_lower D (aK bl));replace HB:=hs HB hb;clear hb D))
   go_loopg [4] k (fun kq v4 w' => ∃(b:List (S97)) (a:Int),v4= .int .i64 a∧Aside0 (dA.l0 kq l0 b a=some r)∧Aside0 (kq≤k)∧Aside0 (Kd.R k97 97 w' w.heap.size (fun _=>True) aO b)∧Aside0 (Below w.heap.size w w'))
   case atStart=>exact⟨(O),(0),(by first|rfl|(simp;done)|(simp[*];done)),H',⟨Nat.le_refl _⟩,⟨by(with_reducible repeat(first|apply Kd.R_alloc|apply Kd.R_drewN|apply Kd.R_drew));exact ar.out⟩,⟨bl⟩⟩
   case round=>
    clear H'
    obtain⟨b,a,rfl,HA,aF,d,HB⟩:=hrel
    cases gk with
    |zero=>exact absurd HA.out (by simp[dA.l0])
    | succ k1=>
     have H:=HA.out
     clear HA
     simp only[dA.l0]at H
     by_cases c6:a<(l0.length:Int)
     ·rw[if_pos c6]at H
      have aP:decide (a<(l0.length:Int))=true:=decide_eq_true c6
      clear c6
      by_cases c7:0≤a
      ·rw[if_pos c7]at H
       have be:decide (0≤a)=true:=decide_eq_true c7
       clear c7
       replace H:=Option.bind_eq_some_iff.mp H
       obtain⟨⟨g,i,l⟩,aL,H⟩:=H
       replace H:(if a<(b.length:Int)then(dA.l0 k1 l0 (b.set (a:Int).toNat (⟨g,i,l⟩:S97)) (wrap64 (a+1)))else(none))=some r:=H
       have A8:=Aside0.mk aL
       clear aL
       by_cases c9:a<(b.length:Int)
       ·rw[if_pos c9]at H
        have bh:decide (a<(b.length:Int))=true:=decide_eq_true c9
        clear c9
        obtain⟨E,n⟩: ∃y_:List (S97),y_=(b.set (a:Int).toNat (⟨g,i,l⟩:S97)):=⟨_,rfl⟩
        replace H:(dA.l0 k1 l0 E (wrap64 (a+1)))=some r:=by first|(rw[n];with_reducible exact H)|(have y:=(Option.bind_some _ _).symm.trans H;rw[n];with_reducible exact y)|(have y:=(Option.bind_some _ _).symm.trans H;with_reducible exact y)|with_reducible exact H|(rw[n];exact H)|exact H
        have aw:=Aside0.mk n
        clear n
        have H' :=Aside0.mk H
        clear H
        have G:0≤(a:Int):=od
        have I:a<(l0.length:Int):=od
        obtain⟨a8,aR,z,A,B⟩:=rC a0.out a G I
        cases aR
        obtain⟨z,A,B⟩:=hc3 HB z A B
        replace G:=eq_true G
        replace I:=eq_true I
        go_wp2_with (first|((with_reducible refine gc 77 rfl ?_);refine gl (some 20) Try.func77 #[.agg #[.int .i64 ((gq l0 a).f0), .int .i64 ((gq l0 a).f1), .int .i64 ((gq l0 a).f2)]] rfl ?_;(with_reducible refine(iL.calls ((gq l0 a).f0) ((gq l0 a).f1) ((gq l0 a).f2) g i l _ A8.out).mono ?_);rintro e o ⟨rfl,hb⟩;refine⟨_,rfl, ?_⟩;replace d:=Aside0.mk (Kd.R_below (by(with_reducible repeat(first|apply Kd.R_alloc|apply Kd.R_drewN|apply Kd.R_drew));exact d.out) hb);replace HB:=hs HB hb;(try clear hb);(try clear hk);have P:0≤(a:Int):=od;have T:(a:Int)<((b.length:Int):Int):=od;obtain⟨c,U,W,X,aS,bj,Y⟩:=Kd.R_form d.out (by omega);(first|cases W|(injection W with ea_ en_ ec_;(first|subst ea_|(injection ea_ with ea_;subst ea_));subst ec_;clear en_));have J:=Aside0.mk X;have bk:=Aside0.mk Y;clear X aS Y;obtain⟨bm,aB,Z,s,u⟩:=Kd.R_elem d.out z97 (a:Int) P T;obtain rfl:=kw Z;have a1:o.cell? ⟨c,(a:Int).toNat * 3,none⟩=some (.int .i64 ((aM b a).f0)):=s 0 _ rfl;have a2:o.cell? ⟨c,(a:Int).toNat * 3+1,none⟩=some (.int .i64 ((aM b a).f1)):=s 1 _ rfl;have a3:o.cell? ⟨c,(a:Int).toNat * 3+2,none⟩=some (.int .i64 ((aM b a).f2)):=s 2 _ rfl;have a4:o.frozen? ⟨c,(a:Int).toNat * 3,none⟩=false:=u 0;have a5:o.frozen? ⟨c,(a:Int).toNat * 3+1,none⟩=false:=u 1;have a6:o.frozen? ⟨c,(a:Int).toNat * 3+2,none⟩=false:=u 2;clear aB s u Z;replace P:=eq_true P;replace T:=eq_true T;have ab:=Aside0.mk (show Kd.R k97 97 o w.heap.size (fun _=>True) (.slice (some ⟨c,0,none⟩) b.length U) b from(by(with_reducible repeat(first|apply Kd.R_alloc|apply Kd.R_drewN|apply Kd.R_drew));exact d.out));obtain⟨bo,M,ac,q,x⟩:=Kd.R_elem ab.out z97 (a:Int) (of_decide_eq_true (by first|(with_reducible assumption)|assumption)) (by have h_:(a:Int)<((b.length:Int):Int):=of_decide_eq_true (by first|(with_reducible assumption)|assumption);first|exact h_|(have e_:=(Kd.R_reads' d.out).1;omega)|simpa using h_);obtain rfl:=kw ac;have K:=Kd.R_seg ab.out (a:Int) (of_decide_eq_true (by first|(with_reducible assumption)|assumption)) (by have h_:(a:Int)<((b.length:Int):Int):=of_decide_eq_true (by first|(with_reducible assumption)|assumption);first|exact h_|(have e_:=(Kd.R_reads' d.out).1;omega)|simpa using h_) (seg:= [.int .i64 g, .int .i64 i, .int .i64 l]) (j:=0) M q (show 3≤3 from by decide) (x' :=(⟨g,i,l⟩:S97)) (nS _ _ _ (⟨g,i,l⟩:S97)) (fun _ hk=>hk);have ad:=q 0 _ rfl;(try simp only[show(k97).sz=3 from rfl,Nat.mul_one,Nat.add_zero]at ad);have al:=x 0;(try simp only[show(k97).sz=3 from rfl,Nat.mul_one,Nat.add_zero]at al);have am:=q 1 _ rfl;(try simp only[show(k97).sz=3 from rfl,Nat.mul_one,Nat.add_zero]at am);have an:=x 1;(try simp only[show(k97).sz=3 from rfl,Nat.mul_one,Nat.add_zero]at an);have ao:=q 2 _ rfl;(try simp only[show(k97).sz=3 from rfl,Nat.mul_one,Nat.add_zero]at ao);have ap:=x 2;(try simp only[show(k97).sz=3 from rfl,Nat.mul_one,Nat.add_zero]at ap);clear M q x ac)|((with_reducible refine dE (t:=97) (p:=21) rfl ?_);refine dw (t:=97) (p:=21) (v:= ?vo_w13) (w1:=(((o.setCell ⟨c,(a:Int).toNat * 3,none⟩ (.int .i64 g)).setCell ⟨c,(a:Int).toNat * 3+1,none⟩ (.int .i64 i)).setCell ⟨c,(a:Int).toNat * 3+2,none⟩ (.int .i64 l))) ?hg ?ho ?hn ?hr ?_;(case ho=>rfl);(case hg=>rfl);(case hn=>rfl);(case hr=>first|(go_simp;done)|(go_simp;rfl));intro aq hw;have hg:o.grownBy aq (some c):=(by rw[hw];exact K.2);have hp_:Kd.R k97 97 aq w.heap.size (fun _=>True) (.slice (some ⟨c,0,none⟩) b.length U) E:=(by rw[hw,aw.out];exact K.1);clear K;replace d:=Aside0.mk (hp_);replace HB:=Aside0.mk ((by rw[hw];exact bn (bn (bn (HB.out) J.out) J.out) J.out:Below w.heap.size w aq));clear hg hw hp_))
        go_roundg k1
        case measure=>have:=aF.out;omega
        case rel=>exact⟨(E),(wrap64 (a+1)),(by first|rfl|(simp;done)|(simp[*];done)),H',⟨by have:=aF.out;omega⟩,⟨by(with_reducible repeat(first|apply Kd.R_alloc|apply Kd.R_drewN|apply Kd.R_drew));exact d.out⟩,⟨bl⟩⟩
       ·rw[if_neg c9]at H
        exact absurd H (by simp)
      ·rw[if_neg c7]at H
       exact absurd H (by simp)
     ·rw[if_neg c6]at H
      have aP:decide (a<(l0.length:Int))=false:=decide_eq_false c6
      clear c6
      obtain rfl:=Option.some.inj H;clear H
      go_wp2
      go_ret
      exact⟨_,by first|rfl|(simp[aY,aZ]<;>rfl)|(simp[*,aY,aZ]<;>rfl),by(with_reducible repeat(first|apply Kd.R_alloc|apply Kd.R_drewN|apply Kd.R_drew));exact d.out,bl⟩
  ·rw[if_neg c3]at H
   exact absurd H (by simp)
 ·rw[if_neg c2]at H
  exact absurd H (by simp)
set_option maxHeartbeats 8000000 in
set_option maxRecDepth 100000 in
theorem gN.calls (k:Nat) (d:Bool) (v:Option Addr) (x:Nat) (i:List Int) (y:Option Addr) (z:Nat) (j:List Int) (r1:Bool) (r2:List Int) (r3:List Int) (w:World) (I:Kd.C (Kd.int .i64) w v i.length i) (J:i.length≤x) (K:Kd.C (Kd.int .i64) w y j.length j) (L:j.length≤z) (h:gN.f k d i j=some (r1,r2,r3)):
  Calls Try.prog 78 #[.agg #[.bool d, .slice v i.length x, .slice y j.length z]] w fun e w' => ∃O P:Value,e= .returned (.agg #[.bool r1,O,P])∧Kd.R (Kd.int .i64) 3 w' w.heap.size (fun k_=>some k_≠(P:Value).ownBlock) O r2∧Kd.R (Kd.int .i64) 3 w' w.heap.size (fun k_=>some k_≠(O:Value).ownBlock) P r3∧Below w.heap.size w w' :=by
 have ab:=Try.underlying108
 have aw:=Try.underlying29
 have T:=Aside0.mk I
 have U:=Aside0.mk J
 clear I J
 have W:=Aside0.mk K
 have X:=Aside0.mk L
 clear K L
 have HB:=Aside0.mk (Below.refl w.heap.size w)
 have H:((bM.f k i).bind fun g=>((bM.f k j).bind fun m=>(some (d,g,m))))=some (r1,r2,r3):=h
 clear h
 obtain⟨g,A2,H⟩:=ob H
 obtain⟨m,A3,H⟩:=ob H
 simp only[Option.some.injEq,Prod.mk.injEq]at H
 obtain⟨rfl,rfl,rfl⟩:=H
 go_enter Try.func78,Try.ntmps78
 go_wp2_with (first|((with_reducible refine gd 1 rfl ?_);refine bx 1 #[.bool d, .slice v i.length x, .slice y j.length z] 108 ?_;intro ac hg w4 hbox hb;have a:=Aside0.mk hbox;have ad:=hz HB hg;have al:=hz HB hg;replace HB:=hs HB hb;clear hb hbox hg)|((with_reducible refine gd 2 rfl ?_);refine bx 2 #[.bool false, .slice none 0 0, .slice none 0 0] 29 ?_;intro l hg w5 hbox hb;have b:=Aside0.mk hbox;have am:=hz HB hg;have an:=hz HB hg;have A:=nl a hg;have B:=ng a hg;replace a:=kb a hb;replace HB:=hs HB hb;clear hb hbox hg)|((with_reducible refine gd 3 rfl ?_);refine bx 3 #[.bool false, .slice none 0 0, .slice none 0 0] 29 ?_;intro n hg w6 hbox hb;have c:=Aside0.mk hbox;have ao:=hz HB hg;have ap:=hz HB hg;have D:=nl a hg;have E:=ng a hg;have s:=nl b hg;have G:=ng b hg;replace a:=kb a hb;replace b:=kb b hb;replace HB:=hs HB hb;clear hb hbox hg;have aB:=A.out;have aE:=B.out;have aF:=D.out;have aL:=E.out;obtain⟨_,_,_,_,_,_⟩:=cf3 a;have aq:=G.out;have ar:=s.out;obtain⟨_,_,_,_,_,_⟩:=cf3 c)|((with_reducible refine gc 56 rfl ?_);refine gl (some 9) Try.func56 #[.slice v i.length x] rfl ?_;(with_reducible refine(bM.calls k _ _ i g _ ?s1 ?s2 A2.out).mono ?_);(case s1=>exact cb T.out);(case s2=>exact U.out);rintro e aR ⟨aO,rfl,ho0,hb⟩;refine⟨_,rfl, ?_⟩;have r:=Aside0.mk (Kd.R_lower ho0 (aK bl));replace a:=kq a hb;replace b:=kq b hb;replace c:=kp n #[.bool d, .slice none 0 0, .slice none 0 0] 29 hb;replace HB:=hs HB hb;(try clear hb);(try clear ho0);obtain⟨o,q,Y⟩:=Kd.R_slice r.out;subst Y;obtain⟨_,_,_,_,_,_⟩:=cf3 c;obtain⟨_,_,_,_,_,_⟩:=cf3 a)|((with_reducible refine gc 56 rfl ?_);refine gl (some 13) Try.func56 #[.slice y j.length z] rfl ?_;(with_reducible refine(bM.calls k _ _ j m _ ?s1 ?s2 A3.out).mono ?_);(case s1=>exact cb W.out);(case s2=>exact X.out);rintro e w16 ⟨aP,rfl,ho0,hb⟩;refine⟨_,rfl, ?_⟩;have M:=Aside0.mk (Kd.R_lower (Kd.R_new' ho0 (Kd.R_lt (by(with_reducible repeat(first|apply Kd.R_alloc|apply Kd.R_drewN|apply Kd.R_drew));exact(Kd.R_mono (Kd.R_far (p:=⟨n,1,none⟩) (Kd.R_types r.out c.out (by decide)) (fun _ hk=>hk.2) (.slice o g.length q)) (fun _ h_=>h_.1))))) (aK bl));replace r:=Aside0.mk (Kd.R_elder' (by(with_reducible repeat(first|apply Kd.R_alloc|apply Kd.R_drewN|apply Kd.R_drew));exact(Kd.R_mono (Kd.R_far (p:=⟨n,1,none⟩) (Kd.R_types r.out c.out (by decide)) (fun _ hk=>hk.2) (.slice o g.length q)) (fun _ h_=>h_.1))) (Kd.R_base ho0) hb);replace a:=kq a hb;replace b:=kq b hb;replace c:=kp n #[.bool d, .slice o g.length q, .slice none 0 0] 29 hb;replace HB:=hs HB hb;(try clear hb);(try clear hk);(try clear ho0);obtain⟨t,u,Z⟩:=Kd.R_slice M.out;subst Z;obtain⟨_,_,_,_,_,_⟩:=cf3 c;obtain⟨_,_,_,_,_,_⟩:=cf3 b))
 refine bodyPost_ret (results_cell_row rfl _ _ l 29 #[.bool d, .slice o g.length q, .slice t m.length u] (0,0) _ rfl (by(with_reducible repeat(first|refine ah ?_ _|refine af ?_|refine ag ?_ _));refine bH (cs:= #[.bool d, .slice o g.length q, .slice none 0 0]) ?_ 2 _ rfl;(with_reducible repeat(first|refine ah ?_ _|refine af ?_|refine ag ?_ _));refine bH (cs:= #[.bool d, .slice none 0 0, .slice none 0 0]) ?_ 1 _ rfl;(with_reducible repeat(first|refine ah ?_ _|refine af ?_|refine ag ?_ _));refine bH (cs:= #[.bool false, .slice none 0 0, .slice none 0 0]) ?_ 0 _ rfl;(with_reducible repeat(first|refine ah ?_ _|refine af ?_|refine ag ?_ _));refine fJ ?_ s.out _;(with_reducible repeat(first|refine ah ?_ _|refine af ?_|refine ag ?_ _));exact b.out) Try.underlying29 rfl (by kernel_rfl)) rfl ?_
 exact⟨_,_,by first|rfl|(simp[aY,aZ]<;>rfl)|(simp[*,aY,aZ]<;>rfl),by(with_reducible repeat(first|apply Kd.R_alloc|apply Kd.R_drewN|apply Kd.R_drew));exact Kd.R_mono (Kd.R_far (p:=⟨l,2,none⟩) (Kd.R_far (p:=⟨l,1,none⟩) (Kd.R_far (p:=⟨l,0,none⟩) (Kd.R_far (p:=⟨n,2,none⟩) (Kd.R_types (Kd.R_types r.out c.out (by decide)) b.out (by decide)) (fun _ hk=>hk.1.2) (.slice t m.length u)) (fun _ hk=>hk.2) (.bool d)) (fun _ hk=>hk.2) (.slice o g.length q)) (fun _ hk=>hk.2) (.slice t m.length u)) (fun _ hk=>hk.1.1.2),by(with_reducible repeat(first|apply Kd.R_alloc|apply Kd.R_drewN|apply Kd.R_drew));exact Kd.R_mono (Kd.R_far (p:=⟨l,2,none⟩) (Kd.R_far (p:=⟨l,1,none⟩) (Kd.R_far (p:=⟨l,0,none⟩) (Kd.R_far (p:=⟨n,2,none⟩) (Kd.R_types (Kd.R_types M.out c.out (by decide)) b.out (by decide)) (fun _ hk=>hk.1.2) (.slice t m.length u)) (fun _ hk=>hk.2) (.bool d)) (fun _ hk=>hk.2) (.slice o g.length q)) (fun _ hk=>hk.2) (.slice t m.length u)) (fun _ hk=>hk.1.1.2),bl⟩
set_option maxHeartbeats 8000000 in
set_option maxRecDepth 100000 in
theorem cu.calls (k:Nat) (A0:Option Addr) (c0:Nat) (l0:List (S108)) (r:List (S29)) (w:World) (hr0:Kd.C jD w A0 l0.length l0) (hc0:l0.length≤c0) (h:cu.f k l0=some r):
  Calls Try.prog 58 #[.slice A0 l0.length c0] w fun e w' => ∃bc:Value,e= .returned (bc)∧Kd.S k29 29 w' w.heap.size (fun _=>True) bc r∧Below w.heap.size w w' :=by
 have ca:=Try.underlying108
 have ce:=Try.underlying29
 have br:=Aside0.mk hr0
 have cp:=Aside0.mk hc0
 clear hr0 hc0
 have HB:=Aside0.mk (Below.refl w.heap.size w)
 have H:(if 0≤(l0.length:Int)then(if((l0.length:Int):Int).toNat≤5026338869833 then(cu.l0 k l0 (List.replicate ((l0.length:Int):Int).toNat z29) 0)else(none))else(none))=some r:=h
 clear h
 by_cases c2:0≤(l0.length:Int)
 ·rw [if_pos c2]at H
  have cf:=eq_true c2
  have cg:decide (0≤(l0.length:Int))=true:=decide_eq_true c2
  clear c2
  by_cases c3:((l0.length:Int):Int).toNat≤5026338869833
  ·rw [if_pos c3]at H
   have ch:=eq_true c3
   have ci:decide (((l0.length:Int):Int).toNat≤5026338869833)=true:=decide_eq_true c3
   clear c3
   obtain⟨al,i⟩: ∃y_:List (S29),y_=(List.replicate ((l0.length:Int):Int).toNat z29):=⟨_,rfl⟩
   replace H:(cu.l0 k l0 al 0)=some r:=by first|(rw[i];with_reducible exact H)|(have y:=(Option.bind_some _ _).symm.trans H;rw[i];with_reducible exact y)|(have y:=(Option.bind_some _ _).symm.trans H;with_reducible exact y)|with_reducible exact H|(rw[i];exact H)|exact H
   have Y:=Aside0.mk i
   clear i
   have H' :=Aside0.mk H
   clear H
   go_enter Try.func58,Try.ntmps58
   go_wp2_with (first|((with_reducible refine gd 7 rfl ?_);refine Kd.S_make k29 _ 29 rfl (N:=7) rfl 47 _ _ rfl (l0.length:Int) rfl rfl Try.underlying47 (.agg #[(.bool false),(.slice none 0 0),(.slice none 0 0)]) 56 rW rfl (by decide) (by omega) z29 (ok:=fun _=>True) (okp:=fun _=>True) (nT _ _ _ z29 (Kd.R_nil _ _ _ _ _) (Kd.R_nil _ _ _ _ _)) (fun _ hk=>hk) trivial (of_decide_eq_true (by first|(with_reducible assumption)|assumption)) (Nat.le_trans (Nat.mul_le_mul_right _ (of_decide_eq_true (by first|(with_reducible assumption)|assumption):(l0.length:Int).toNat≤5026338869833)) (by omega)) (Below.refl _ _) (Nat.le_refl _) ?_;intro bk w4 O hb hg_ hnew_;clear hg_ hnew_;(first|rw[←Y.out]at O|(simp only[Int.reduceToNat]at O;rw[←Y.out]at O));have a8:=Aside0.mk (Kd.S_lower O (aK bl));replace HB:=hs HB hb;clear hb O))
   go_loopg [4] k (fun kq v4 w' => ∃(d:List (S29)) (a:Int),v4= .int .i64 a∧Aside0 (cu.l0 kq l0 d a=some r)∧Aside0 (kq≤k)∧Aside0 (Kd.S k29 29 w' w.heap.size (fun _=>True) bk d)∧Aside0 (Below w.heap.size w w'))
   case atStart=>exact⟨(al),(0),(by first|rfl|(simp;done)|(simp[*];done)),H',⟨Nat.le_refl _⟩,⟨by(with_reducible repeat(first|apply Kd.S_alloc|apply Kd.S_drewN|apply Kd.S_drew));exact a8.out⟩,⟨bl⟩⟩
   case round=>
    clear H'
    obtain⟨d,a,rfl,HA,bd,b,HB⟩:=hrel
    cases gk with
    |zero=>exact absurd HA.out (by simp[cu.l0])
    | succ k1=>
     have H:=HA.out
     clear HA
     simp only[cu.l0]at H
     by_cases c6:a<(l0.length:Int)
     ·rw[if_pos c6]at H
      have bm:decide (a<(l0.length:Int))=true:=decide_eq_true c6
      clear c6
      by_cases c7:0≤a
      ·rw[if_pos c7]at H
       have cj:decide (0≤a)=true:=decide_eq_true c7
       clear c7
       replace H:=Option.bind_eq_some_iff.mp H
       obtain⟨⟨g,z,A⟩,be,H⟩:=H
       replace H:(if a<(d.length:Int)then(cu.l0 k1 l0 (d.set (a:Int).toNat (⟨g,z,A⟩:S29)) (wrap64 (a+1)))else(none))=some r:=H
       have A8:=Aside0.mk be
       clear be
       by_cases c9:a<(d.length:Int)
       ·rw[if_pos c9]at H
        have ck:decide (a<(d.length:Int))=true:=decide_eq_true c9
        clear c9
        obtain⟨P,l⟩: ∃y_:List (S29),y_=(d.set (a:Int).toNat (⟨g,z,A⟩:S29)):=⟨_,rfl⟩
        replace H:(cu.l0 k1 l0 P (wrap64 (a+1)))=some r:=by first|(rw[l];with_reducible exact H)|(have y:=(Option.bind_some _ _).symm.trans H;rw[l];with_reducible exact y)|(have y:=(Option.bind_some _ _).symm.trans H;with_reducible exact y)|with_reducible exact H|(rw[l];exact H)|exact H
        have a9:=Aside0.mk l
        clear l
        have H' :=Aside0.mk H
        clear H
        have T:0≤(a:Int):=od
        have U:a<(l0.length:Int):=od
        obtain⟨cc,am,an,ao,ap,e309,B,D,E,G,I,J,K⟩:=lS br.out a T U
        cases e309
        obtain⟨B,D,E⟩:=hc3 HB B D E
        have Z:=Aside0.mk I
        have ab:=Aside0.mk G
        clear I G
        have ac:=Aside0.mk K
        have ad:=Aside0.mk J
        clear K J
        replace T:=eq_true T
        replace U:=eq_true U
        go_wp2_with (first|((with_reducible refine gc 78 rfl ?_);refine gl (some 20) Try.func78 #[.agg #[.bool ((dn l0 a).f0), .slice am ((dn l0 a).f1).length an, .slice ao ((dn l0 a).f2).length ap]] rfl ?_;(with_reducible refine(gN.calls k1 ((dn l0 a).f0) _ _ ((dn l0 a).f1) _ _ ((dn l0 a).f2) g z A _ ?s1 ?s2 ?s3 ?s4 A8.out).mono ?_);(case s1=>exact cb Z.out);(case s2=>exact ab.out);(case s3=>exact cb ac.out);(case s4=>exact ad.out);rintro e m ⟨L,M,rfl,ho0,ho1,hb⟩;refine⟨_,rfl, ?_⟩;have n:=Aside0.mk (Kd.R_lower ho0 (aK bl));have o:=Aside0.mk (Kd.R_lower ho1 (aK bl));replace b:=Aside0.mk (Kd.S_mono (Kd.S_told (Kd.S_told (Kd.S_old (by(with_reducible repeat(first|apply Kd.S_alloc|apply Kd.S_drewN|apply Kd.S_drew));exact b.out) hb) (Kd.R_base ho0)) (Kd.R_base ho1)) (fun _ h_=>h_.1));replace HB:=hs HB hb;(try clear hb);(try clear hk);(try clear ho0);(try clear ho1);have aq:0≤(a:Int):=od;have ar:(a:Int)<((d.length:Int):Int):=od;obtain⟨c,aw,aB,aE,bo,cl,aF⟩:=Kd.S_form b.out (by omega);(first|cases aB|(injection aB with ea_ en_ ec_;(first|subst ea_|(injection ea_ with ea_;subst ea_));subst ec_;clear en_));have W:=Aside0.mk aE;have cm:=Aside0.mk aF;clear aE bo aF;obtain⟨_,cn,ba,aL,q,s,_,_⟩:=Kd.S_elem b.out z29 (a:Int) aq ar;obtain⟨aO,aP,rfl,bs,bw⟩:=ky aL;have b0:m.cell? ⟨c,(a:Int).toNat * 3,none⟩=some (.bool ((aQ d a).f0)):=q 0 _ rfl;have b1:m.cell? ⟨c,(a:Int).toNat * 3+1,none⟩=some (aO):=q 1 _ rfl;have b2:m.cell? ⟨c,(a:Int).toNat * 3+2,none⟩=some (aP):=q 2 _ rfl;have b3:m.frozen? ⟨c,(a:Int).toNat * 3,none⟩=false:=s 0;have b4:m.frozen? ⟨c,(a:Int).toNat * 3+1,none⟩=false:=s 1;have b5:m.frozen? ⟨c,(a:Int).toNat * 3+2,none⟩=false:=s 2;clear ba q s aL;replace aq:=eq_true aq;replace ar:=eq_true ar;have n_:=Aside0.mk (Kd.S_mono (ok' :=(fun k_=>some k_≠(L:Value).ownBlock∧some k_≠(M:Value).ownBlock)) b.out (fun k_ hk=>⟨hk.1.2,hk.2⟩));clear b;have b:=n_;clear n_;have bp:=Aside0.mk (show Kd.S k29 29 m w.heap.size (fun k_=>((fun _=>True)) k_∧¬((fun k_=>some k_=(L:Value).ownBlock∨some k_=(M:Value).ownBlock)) k_) (.slice (some ⟨c,0,none⟩) d.length aw) d from(by(with_reducible repeat(first|apply Kd.S_alloc|apply Kd.S_drewN|apply Kd.S_drew));exact Kd.S_mono b.out (fun k_ hk=>⟨trivial,fun e_=>e_.elim (fun h_=>hk.1 h_) (fun h_=>hk.2 h_)⟩)));obtain⟨cd,co,bb,aR,u,x,aS,a0⟩:=Kd.S_elem bp.out z29 (a:Int) (of_decide_eq_true (by first|(with_reducible assumption)|assumption)) (by have h_:(a:Int)<((d.length:Int):Int):=of_decide_eq_true (by first|(with_reducible assumption)|assumption);first|exact h_|(have e_:=(Kd.S_reads' b.out).1;omega)|simpa using h_);obtain⟨b6,b7,rfl,b8,b9⟩:=ky aR;have X:=Kd.S_seg a0 (of_decide_eq_true (by first|(with_reducible assumption)|assumption)) (by have h_:(a:Int)<((d.length:Int):Int):=of_decide_eq_true (by first|(with_reducible assumption)|assumption);first|exact h_|(have e_:=(Kd.S_reads' b.out).1;omega)|simpa using h_) (seg:= [.bool g,L,M]) (j:=0) (show 3≤3 from by decide) (x' :=(⟨g,z,A⟩:S29)) (nT _ _ _ (⟨g,z,A⟩:S29) (Kd.R_mono (Kd.R_tight rfl (Kd.R_mono (ok' :=fun k_=>((fun _=>True)) k_∧k_≠c) (Kd.R_apart' (n.out) (Kd.S_typed b.out) (by decide)) (fun k_ hk=>⟨trivial,fun e_=>(hk.2) (by rw[e_];rfl)⟩))) (fun _ h_=>Or.inr (Or.inl h_))) (Kd.R_mono (Kd.R_tight rfl (Kd.R_mono (ok' :=fun k_=>((fun _=>True)) k_∧k_≠c) (Kd.R_apart' (o.out) (Kd.S_typed b.out) (by decide)) (fun k_ hk=>⟨trivial,fun e_=>(hk.2) (by rw[e_];rfl)⟩))) (fun _ h_=>Or.inr (Or.inr (h_))))) (fun _ hk=>hk) (fun k_ hk_=>hk_.elim (fun h_=>((Kd.R_mono (ok' :=fun k_=>((fun _=>True)) k_∧k_≠c) (Kd.R_apart' (n.out) (Kd.S_typed b.out) (by decide)) (fun k_ hk=>⟨trivial,fun e_=>(hk.2) (by rw[e_];rfl)⟩))).1 k_ h_.symm) (fun h_=>((Kd.R_mono (ok' :=fun k_=>((fun _=>True)) k_∧k_≠c) (Kd.R_apart' (o.out) (Kd.S_typed b.out) (by decide)) (fun k_ hk=>⟨trivial,fun e_=>(hk.2) (by rw[e_];rfl)⟩))).1 k_ h_.symm));have a1:=u 0 _ rfl;(try simp only[show(k29).sz=3 from rfl,Nat.mul_one,Nat.add_zero]at a1);have a2:=x 0;(try simp only[show(k29).sz=3 from rfl,Nat.mul_one,Nat.add_zero]at a2);have a3:=u 1 _ rfl;(try simp only[show(k29).sz=3 from rfl,Nat.mul_one,Nat.add_zero]at a3);have a4:=x 1;(try simp only[show(k29).sz=3 from rfl,Nat.mul_one,Nat.add_zero]at a4);have a5:=u 2 _ rfl;(try simp only[show(k29).sz=3 from rfl,Nat.mul_one,Nat.add_zero]at a5);have a6:=x 2;(try simp only[show(k29).sz=3 from rfl,Nat.mul_one,Nat.add_zero]at a6);clear bb u x aR aS a0)|((with_reducible refine dE (t:=29) (p:=21) rfl ?_);refine dw (t:=29) (p:=21) (v:= ?vo_w13) (w1:=(((m.setCell ⟨c,(a:Int).toNat * 3,none⟩ (.bool g)).setCell ⟨c,(a:Int).toNat * 3+1,none⟩ (L)).setCell ⟨c,(a:Int).toNat * 3+2,none⟩ (M))) ?hg ?ho ?hn ?hr ?_;(case ho=>rfl);(case hg=>rfl);(case hn=>rfl);(case hr=>first|(go_simp;done)|(go_simp;rfl)|(obtain⟨_,_,rfl⟩:=Kd.R_slice n.out;obtain⟨_,_,rfl⟩:=Kd.R_slice o.out;first|(go_simp;done)|(go_simp;rfl)));intro a7 hw;have hg:m.grownBy a7 (some c):=(by rw[hw];exact X.2);have hp_:Kd.S k29 29 a7 w.heap.size (fun _=>True) (.slice (some ⟨c,0,none⟩) d.length aw) P:=(by rw[hw,a9.out];exact X.1);clear X;have bh:=Aside0.mk (hp_);have bj:=Aside0.mk ((by rw[hw];exact bn (bn (bn (HB.out) W.out) W.out) W.out:Below w.heap.size w a7));clear b;clear HB;clear n;clear o;have b:=bh;have HB:=bj;clear bh bj;clear hg hw hp_))
        go_roundg k1
        case measure=>have:=bd.out;omega
        case rel=>exact⟨(P),(wrap64 (a+1)),(by first|rfl|(simp;done)|(simp[*];done)),H',⟨by have:=bd.out;omega⟩,⟨by(with_reducible repeat(first|apply Kd.S_alloc|apply Kd.S_drewN|apply Kd.S_drew));exact b.out⟩,⟨bl⟩⟩
       ·rw[if_neg c9]at H
        exact absurd H (by simp)
      ·rw[if_neg c7]at H
       exact absurd H (by simp)
     ·rw[if_neg c6]at H
      have bm:decide (a<(l0.length:Int))=false:=decide_eq_false c6
      clear c6
      obtain rfl:=Option.some.inj H;clear H
      go_wp2
      go_ret
      exact⟨_,by first|rfl|(simp[aY,aZ]<;>rfl)|(simp[*,aY,aZ]<;>rfl),by(with_reducible repeat(first|apply Kd.S_alloc|apply Kd.S_drewN|apply Kd.S_drew));exact b.out,bl⟩
  ·rw[if_neg c3]at H
   exact absurd H (by simp)
 ·rw[if_neg c2]at H
  exact absurd H (by simp)
set_option maxHeartbeats 8000000 in
set_option maxRecDepth 100000 in
theorem iw.calls (c:Int) (g:Int) (i:Int) (j:Int) (r1:Int) (r2:Int) (r3:Int) (r4:Int) (w:World) (h:iw.f c g i j=some (r1,r2,r3,r4)):
  Calls Try.prog 79 #[.agg #[.int .i64 c, .int .i64 g, .int .i64 i, .int .i64 j]] w fun e w' =>e= .returned (.agg #[.int .i64 r1, .int .i64 r2, .int .i64 r3, .int .i64 r4])∧Below w.heap.size w w' :=by
 have r:=Try.underlying115
 have s:=Try.underlying102
 have HB:=Aside0.mk (Below.refl w.heap.size w)
 have H:(some (c,g,i,j))=some (r1,r2,r3,r4):=h
 clear h
 simp only[Option.some.injEq,Prod.mk.injEq]at H
 obtain⟨rfl,rfl,rfl,rfl⟩:=H
 go_enter Try.func79,Try.ntmps79
 go_wp2_with (first|((with_reducible refine gd 1 rfl ?_);refine bx 1 #[.int .i64 c, .int .i64 g, .int .i64 i, .int .i64 j] 115 ?_;intro t hg w2 hbox hb;have b:=Aside0.mk hbox;have u:=hz HB hg;have v:=hz HB hg;replace HB:=hs HB hb;clear hb hbox hg)|((with_reducible refine gd 2 rfl ?_);refine bx 2 #[.int .i64 0, .int .i64 0, .int .i64 0, .int .i64 0] 102 ?_;intro p hg w3 hbox hb;have d:=Aside0.mk hbox;have x:=hz HB hg;have y:=hz HB hg;have k:=nl b hg;have l:=ng b hg;replace b:=kb b hb;replace HB:=hs HB hb;clear hb hbox hg)|((with_reducible refine gd 3 rfl ?_);refine bx 3 #[.int .i64 0, .int .i64 0, .int .i64 0, .int .i64 0] 102 ?_;intro z hg w4 hbox hb;have q:=Aside0.mk hbox;have A:=hz HB hg;have B:=hz HB hg;have m:=nl b hg;have n:=ng b hg;have a:=nl d hg;have o:=ng d hg;replace b:=kb b hb;replace d:=kb d hb;replace HB:=hs HB hb;clear hb hbox hg;have D:=k.out;have E:=l.out;have G:=m.out;have I:=n.out;obtain⟨_,_,_,_,_,_,_,_⟩:=cf4 b;have J:=o.out;have K:=a.out;obtain⟨_,_,_,_,_,_,_,_⟩:=cf4 q;obtain⟨_,_,_,_,_,_,_,_⟩:=cf4 d))
 refine bodyPost_ret (results_cell_row rfl _ _ p 102 #[.int .i64 c, .int .i64 g, .int .i64 i, .int .i64 j] (0,0) _ rfl (by(with_reducible repeat(first|refine ah ?_ _|refine af ?_|refine ag ?_ _));refine bH (cs:= #[.int .i64 c, .int .i64 g, .int .i64 i, .int .i64 0]) ?_ 3 _ rfl;(with_reducible repeat(first|refine ah ?_ _|refine af ?_|refine ag ?_ _));refine bH (cs:= #[.int .i64 c, .int .i64 g, .int .i64 0, .int .i64 0]) ?_ 2 _ rfl;(with_reducible repeat(first|refine ah ?_ _|refine af ?_|refine ag ?_ _));refine bH (cs:= #[.int .i64 c, .int .i64 0, .int .i64 0, .int .i64 0]) ?_ 1 _ rfl;(with_reducible repeat(first|refine ah ?_ _|refine af ?_|refine ag ?_ _));refine bH (cs:= #[.int .i64 0, .int .i64 0, .int .i64 0, .int .i64 0]) ?_ 0 _ rfl;(with_reducible repeat(first|refine ah ?_ _|refine af ?_|refine ag ?_ _));refine fJ ?_ a.out _;(with_reducible repeat(first|refine ah ?_ _|refine af ?_|refine ag ?_ _));refine fJ ?_ a.out _;(with_reducible repeat(first|refine ah ?_ _|refine af ?_|refine ag ?_ _));refine fJ ?_ a.out _;(with_reducible repeat(first|refine ah ?_ _|refine af ?_|refine ag ?_ _));refine fJ ?_ a.out _;(with_reducible repeat(first|refine ah ?_ _|refine af ?_|refine ag ?_ _));exact d.out) Try.underlying102 rfl (by kernel_rfl)) rfl ?_
 exact fin
set_option maxHeartbeats 8000000 in
set_option maxRecDepth 100000 in
theorem cB.calls (k:Nat) (A0:Option Addr) (c0:Nat) (l0:List (S115)) (r:List (S102)) (w:World) (hr0:Kd.C jE w A0 l0.length l0) (hc0:l0.length≤c0) (h:cB.f k l0=some r):
  Calls Try.prog 59 #[.slice A0 l0.length c0] w fun e w' => ∃aP:Value,e= .returned (aP)∧Kd.R dQ 102 w' w.heap.size (fun _=>True) aP r∧Below w.heap.size w w' :=by
 have bd:=Try.underlying115
 have be:=Try.underlying102
 have a4:=Aside0.mk hr0
 have b2:=Aside0.mk hc0
 clear hr0 hc0
 have HB:=Aside0.mk (Below.refl w.heap.size w)
 have H:(if 0≤(l0.length:Int)then(if((l0.length:Int):Int).toNat≤8796093022208 then(cB.l0 k l0 (List.replicate ((l0.length:Int):Int).toNat fB) 0)else(none))else(none))=some r:=h
 clear h
 by_cases c2:0≤(l0.length:Int)
 ·rw [if_pos c2]at H
  have bj:=eq_true c2
  have bk:decide (0≤(l0.length:Int))=true:=decide_eq_true c2
  clear c2
  by_cases c3:((l0.length:Int):Int).toNat≤8796093022208
  ·rw [if_pos c3]at H
   have bm:=eq_true c3
   have bo:decide (((l0.length:Int):Int).toNat≤8796093022208)=true:=decide_eq_true c3
   clear c3
   obtain⟨T,q⟩: ∃y_:List (S102),y_=(List.replicate ((l0.length:Int):Int).toNat fB):=⟨_,rfl⟩
   replace H:(cB.l0 k l0 T 0)=some r:=by first|(rw[q];with_reducible exact H)|(have z:=(Option.bind_some _ _).symm.trans H;rw[q];with_reducible exact z)|(have z:=(Option.bind_some _ _).symm.trans H;with_reducible exact z)|with_reducible exact H|(rw[q];exact H)|exact H
   have O:=Aside0.mk q
   clear q
   have H' :=Aside0.mk H
   clear H
   go_enter Try.func59,Try.ntmps59
   go_wp2_with (first|((with_reducible refine gd 7 rfl ?_);refine Kd.R_make dQ _ 102 rfl (N:=7) rfl 48 _ _ rfl (l0.length:Int) rfl rfl Try.underlying48 (.agg #[(.int .i64 0),(.int .i64 0),(.int .i64 0),(.int .i64 0)]) 32 rA rfl (by decide) (by omega) fB (ok:=fun _=>True) (okp:=fun _=>True) (mU _ _ _ fB) (fun _ hk=>hk) trivial (of_decide_eq_true (by first|(with_reducible assumption)|assumption)) (Nat.le_trans (Nat.mul_le_mul_right _ (of_decide_eq_true (by first|(with_reducible assumption)|assumption):(l0.length:Int).toNat≤8796093022208)) (by omega)) (Below.refl _ _) (Nat.le_refl _) ?_;intro a0 w4 I hb hg_ hnew_;clear hg_ hnew_;(first|rw[←O.out]at I|(simp only[Int.reduceToNat]at I;rw[←O.out]at I));have aF:=Aside0.mk (Kd.R_lower I (aK bl));replace HB:=hs HB hb;clear hb I))
   go_loopg [4] k (fun kq v4 w' => ∃(b:List (S102)) (a:Int),v4= .int .i64 a∧Aside0 (cB.l0 kq l0 b a=some r)∧Aside0 (kq≤k)∧Aside0 (Kd.R dQ 102 w' w.heap.size (fun _=>True) a0 b)∧Aside0 (Below w.heap.size w w'))
   case atStart=>exact⟨(T),(0),(by first|rfl|(simp;done)|(simp[*];done)),H',⟨Nat.le_refl _⟩,⟨by(with_reducible repeat(first|apply Kd.R_alloc|apply Kd.R_drewN|apply Kd.R_drew));exact aF.out⟩,⟨bl⟩⟩
   case round=>
    clear H'
    obtain⟨b,a,rfl,HA,aR,d,HB⟩:=hrel
    cases gk with
    |zero=>exact absurd HA.out (by simp[cB.l0])
    | succ k1=>
     have H:=HA.out
     clear HA
     simp only[cB.l0]at H
     by_cases c6:a<(l0.length:Int)
     ·rw[if_pos c6]at H
      have a1:decide (a<(l0.length:Int))=true:=decide_eq_true c6
      clear c6
      by_cases c7:0≤a
      ·rw[if_pos c7]at H
       have bp:decide (0≤a)=true:=decide_eq_true c7
       clear c7
       replace H:=Option.bind_eq_some_iff.mp H
       obtain⟨⟨l,m,n,o⟩,aS,H⟩:=H
       replace H:(if a<(b.length:Int)then(cB.l0 k1 l0 (b.set (a:Int).toNat (⟨l,m,n,o⟩:S102)) (wrap64 (a+1)))else(none))=some r:=H
       have A8:=Aside0.mk aS
       clear aS
       by_cases c9:a<(b.length:Int)
       ·rw[if_pos c9]at H
        have br:decide (a<(b.length:Int))=true:=decide_eq_true c9
        clear c9
        obtain⟨J,s⟩: ∃y_:List (S102),y_=(b.set (a:Int).toNat (⟨l,m,n,o⟩:S102)):=⟨_,rfl⟩
        replace H:(cB.l0 k1 l0 J (wrap64 (a+1)))=some r:=by first|(rw[s];with_reducible exact H)|(have z:=(Option.bind_some _ _).symm.trans H;rw[s];with_reducible exact z)|(have z:=(Option.bind_some _ _).symm.trans H;with_reducible exact z)|with_reducible exact H|(rw[s];exact H)|exact H
        have aL:=Aside0.mk s
        clear s
        have H' :=Aside0.mk H
        clear H
        have K:0≤(a:Int):=od
        have L:a<(l0.length:Int):=od
        obtain⟨bh,a2,A,B,D,E⟩:=rD a4.out a K L
        cases a2
        obtain⟨A,B,D,E⟩:=hc4 HB A B D E
        replace K:=eq_true K
        replace L:=eq_true L
        go_wp2_with (first|((with_reducible refine gc 79 rfl ?_);refine gl (some 20) Try.func79 #[.agg #[.int .i64 ((eQ l0 a).f0), .int .i64 ((eQ l0 a).f1), .int .i64 ((eQ l0 a).f2), .int .i64 ((eQ l0 a).f3)]] rfl ?_;(with_reducible refine(iw.calls ((eQ l0 a).f0) ((eQ l0 a).f1) ((eQ l0 a).f2) ((eQ l0 a).f3) l m n o _ A8.out).mono ?_);rintro e g ⟨rfl,hb⟩;refine⟨_,rfl, ?_⟩;replace d:=Aside0.mk (Kd.R_below (by(with_reducible repeat(first|apply Kd.R_alloc|apply Kd.R_drewN|apply Kd.R_drew));exact d.out) hb);replace HB:=hs HB hb;(try clear hb);(try clear hk);have U:0≤(a:Int):=od;have W:(a:Int)<((b.length:Int):Int):=od;obtain⟨c,X,Y,Z,a3,bs,ab⟩:=Kd.R_form d.out (by omega);(first|cases Y|(injection Y with ea_ en_ ec_;(first|subst ea_|(injection ea_ with ea_;subst ea_));subst ec_;clear en_));have G:=Aside0.mk Z;have bw:=Aside0.mk ab;clear Z a3 ab;obtain⟨b0,aO,ac,u,x⟩:=Kd.R_elem d.out fB (a:Int) U W;obtain rfl:=jL ac;have a5:g.cell? ⟨c,(a:Int).toNat * 4,none⟩=some (.int .i64 ((az b a).f0)):=u 0 _ rfl;have a6:g.cell? ⟨c,(a:Int).toNat * 4+1,none⟩=some (.int .i64 ((az b a).f1)):=u 1 _ rfl;have a7:g.cell? ⟨c,(a:Int).toNat * 4+2,none⟩=some (.int .i64 ((az b a).f2)):=u 2 _ rfl;have a8:g.cell? ⟨c,(a:Int).toNat * 4+3,none⟩=some (.int .i64 ((az b a).f3)):=u 3 _ rfl;have a9:g.frozen? ⟨c,(a:Int).toNat * 4,none⟩=false:=x 0;have ba:g.frozen? ⟨c,(a:Int).toNat * 4+1,none⟩=false:=x 1;have bb:g.frozen? ⟨c,(a:Int).toNat * 4+2,none⟩=false:=x 2;have bc:g.frozen? ⟨c,(a:Int).toNat * 4+3,none⟩=false:=x 3;clear aO u x ac;replace U:=eq_true U;replace W:=eq_true W;have ad:=Aside0.mk (show Kd.R dQ 102 g w.heap.size (fun _=>True) (.slice (some ⟨c,0,none⟩) b.length X) b from(by(with_reducible repeat(first|apply Kd.R_alloc|apply Kd.R_drewN|apply Kd.R_drew));exact d.out));obtain⟨b1,P,al,i,y⟩:=Kd.R_elem ad.out fB (a:Int) (of_decide_eq_true (by first|(with_reducible assumption)|assumption)) (by have h_:(a:Int)<((b.length:Int):Int):=of_decide_eq_true (by first|(with_reducible assumption)|assumption);first|exact h_|(have e_:=(Kd.R_reads' d.out).1;omega)|simpa using h_);obtain rfl:=jL al;have M:=Kd.R_seg ad.out (a:Int) (of_decide_eq_true (by first|(with_reducible assumption)|assumption)) (by have h_:(a:Int)<((b.length:Int):Int):=of_decide_eq_true (by first|(with_reducible assumption)|assumption);first|exact h_|(have e_:=(Kd.R_reads' d.out).1;omega)|simpa using h_) (seg:= [.int .i64 l, .int .i64 m, .int .i64 n, .int .i64 o]) (j:=0) P i (show 4≤4 from by decide) (x' :=(⟨l,m,n,o⟩:S102)) (mU _ _ _ (⟨l,m,n,o⟩:S102)) (fun _ hk=>hk);have am:=i 0 _ rfl;(try simp only[show(dQ).sz=4 from rfl,Nat.mul_one,Nat.add_zero]at am);have an:=y 0;(try simp only[show(dQ).sz=4 from rfl,Nat.mul_one,Nat.add_zero]at an);have ao:=i 1 _ rfl;(try simp only[show(dQ).sz=4 from rfl,Nat.mul_one,Nat.add_zero]at ao);have ap:=y 1;(try simp only[show(dQ).sz=4 from rfl,Nat.mul_one,Nat.add_zero]at ap);have aq:=i 2 _ rfl;(try simp only[show(dQ).sz=4 from rfl,Nat.mul_one,Nat.add_zero]at aq);have ar:=y 2;(try simp only[show(dQ).sz=4 from rfl,Nat.mul_one,Nat.add_zero]at ar);have aw:=i 3 _ rfl;(try simp only[show(dQ).sz=4 from rfl,Nat.mul_one,Nat.add_zero]at aw);have aB:=y 3;(try simp only[show(dQ).sz=4 from rfl,Nat.mul_one,Nat.add_zero]at aB);clear P i y al)|((with_reducible refine dE (t:=102) (p:=21) rfl ?_);refine dw (t:=102) (p:=21) (v:= ?vo_w13) (w1:=((((g.setCell ⟨c,(a:Int).toNat * 4,none⟩ (.int .i64 l)).setCell ⟨c,(a:Int).toNat * 4+1,none⟩ (.int .i64 m)).setCell ⟨c,(a:Int).toNat * 4+2,none⟩ (.int .i64 n)).setCell ⟨c,(a:Int).toNat * 4+3,none⟩ (.int .i64 o))) ?hg ?ho ?hn ?hr ?_;(case ho=>rfl);(case hg=>rfl);(case hn=>rfl);(case hr=>first|(go_simp;done)|(go_simp;rfl));intro aE hw;have hg:g.grownBy aE (some c):=(by rw[hw];exact M.2);have hp_:Kd.R dQ 102 aE w.heap.size (fun _=>True) (.slice (some ⟨c,0,none⟩) b.length X) J:=(by rw[hw,aL.out];exact M.1);clear M;replace d:=Aside0.mk (hp_);replace HB:=Aside0.mk ((by rw[hw];exact bn (bn (bn (bn (HB.out) G.out) G.out) G.out) G.out:Below w.heap.size w aE));clear hg hw hp_))
        go_roundg k1
        case measure=>have:=aR.out;omega
        case rel=>exact⟨(J),(wrap64 (a+1)),(by first|rfl|(simp;done)|(simp[*];done)),H',⟨by have:=aR.out;omega⟩,⟨by(with_reducible repeat(first|apply Kd.R_alloc|apply Kd.R_drewN|apply Kd.R_drew));exact d.out⟩,⟨bl⟩⟩
       ·rw[if_neg c9]at H
        exact absurd H (by simp)
      ·rw[if_neg c7]at H
       exact absurd H (by simp)
     ·rw[if_neg c6]at H
      have a1:decide (a<(l0.length:Int))=false:=decide_eq_false c6
      clear c6
      obtain rfl:=Option.some.inj H;clear H
      go_wp2
      go_ret
      exact⟨_,by first|rfl|(simp[aY,aZ]<;>rfl)|(simp[*,aY,aZ]<;>rfl),by(with_reducible repeat(first|apply Kd.R_alloc|apply Kd.R_drewN|apply Kd.R_drew));exact d.out,bl⟩
  ·rw[if_neg c3]at H
   exact absurd H (by simp)
 ·rw[if_neg c2]at H
  exact absurd H (by simp)
set_option maxHeartbeats 8000000 in
set_option maxRecDepth 100000 in
theorem gG.calls (k:Nat) (i:Int) (j:Int) (M:Option Addr) (O:Nat) (A:List Int) (l:Int) (n:Int) (P:Option Addr) (T:Nat) (B:List (S112)) (U:Option Addr) (W:Nat) (D:List (S108)) (X:Option Addr) (Y:Nat) (E:List (S115)) (r1:Int) (r2:Int) (r3:List Int) (r4:Int) (r5:Int) (r6:List (S97)) (r7:List (S29)) (r8:List (S102)) (w:World) (am:Kd.C (Kd.int .i64) w M A.length A) (an:A.length≤O) (ao:Kd.C jC w P B.length B) (ap:B.length≤T) (aq:Kd.C jD w U D.length D) (ar:D.length≤W) (aw:Kd.C jE w X E.length E) (aB:E.length≤Y) (h:gG.f k i j A l n B D E=some (r1,r2,r3,r4,r5,r6,r7,r8)):
  Calls Try.prog 36 #[.agg #[.int .i64 i, .int .i64 j, .slice M A.length O, .int .i64 l, .int .i64 n, .slice P B.length T, .slice U D.length W, .slice X E.length Y]] w fun e w' => ∃aF a3 a4 a5:Value,e= .returned (.agg #[.int .i64 r1, .int .i64 r2,aF, .int .i64 r4, .int .i64 r5,a3,a4,a5])∧Kd.R (Kd.int .i64) 3 w' w.heap.size (fun _=>True) aF r3∧Kd.R k97 97 w' w.heap.size (fun _=>True) a3 r6∧Kd.S k29 29 w' w.heap.size (fun k_=>some k_≠(aF:Value).ownBlock) a4 r7∧Kd.R dQ 102 w' w.heap.size (fun _=>True) a5 r8∧Below w.heap.size w w' :=by
 have br:=Try.underlying68
 have bs:=Try.underlying50
 have aL:=Aside0.mk am
 have aO:=Aside0.mk an
 clear am an
 have aP:=Aside0.mk ao
 have aR:=Aside0.mk ap
 clear ao ap
 have aS:=Aside0.mk aq
 have a0:=Aside0.mk ar
 clear aq ar
 have a1:=Aside0.mk aw
 have a2:=Aside0.mk aB
 clear aw aB
 have HB:=Aside0.mk (Below.refl w.heap.size w)
 have H:((bM.f k A).bind fun m=>((dA.f k B).bind fun o=>((cu.f k D).bind fun s=>((cB.f k E).bind fun t=>(some (i,j,m,l,n,o,s,t))))))=some (r1,r2,r3,r4,r5,r6,r7,r8):=h
 clear h
 obtain⟨m,A2,H⟩:=ob H
 obtain⟨o,A3,H⟩:=ob H
 obtain⟨s,A4,H⟩:=ob H
 obtain⟨t,A5,H⟩:=ob H
 simp only[Option.some.injEq,Prod.mk.injEq]at H
 obtain⟨rfl,rfl,rfl,rfl,rfl,rfl,rfl,rfl⟩:=H
 go_enter Try.func36,Try.ntmps36
 go_wp2_with (first|((with_reducible refine gd 1 rfl ?_);refine bx 1 #[.int .i64 i, .int .i64 j, .slice M A.length O, .int .i64 l, .int .i64 n, .slice P B.length T, .slice U D.length W, .slice X E.length Y] 68 ?_;intro ba hg w6 hbox hb;have b:=Aside0.mk hbox;have bb:=hz HB hg;have bc:=hz HB hg;replace HB:=hs HB hb;clear hb hbox hg)|((with_reducible refine gd 2 rfl ?_);refine bx 2 #[.int .i64 0, .int .i64 0, .slice none 0 0, .int .i64 0, .int .i64 0, .slice none 0 0, .slice none 0 0, .slice none 0 0] 50 ?_;intro a hg w7 hbox hb;have d:=Aside0.mk hbox;have bd:=hz HB hg;have be:=hz HB hg;have Z:=nl b hg;have ab:=ng b hg;replace b:=kb b hb;replace HB:=hs HB hb;clear hb hbox hg)|((with_reducible refine gd 3 rfl ?_);refine bx 3 #[.int .i64 0, .int .i64 0, .slice none 0 0, .int .i64 0, .int .i64 0, .slice none 0 0, .slice none 0 0, .slice none 0 0] 50 ?_;intro g hg w8 hbox hb;have c:=Aside0.mk hbox;have bh:=hz HB hg;have bj:=hz HB hg;have ac:=nl b hg;have ad:=ng b hg;have K:=nl d hg;have al:=ng d hg;replace b:=kb b hb;replace d:=kb d hb;replace HB:=hs HB hb;clear hb hbox hg;have bw:=Z.out;have b0:=ab.out;have bk:=ac.out;have bm:=ad.out;obtain⟨_,_,_,_,_,_,_,_,_,_,_,_,_,_,_,_⟩:=cf8 b;have bo:=al.out;have bp:=K.out;obtain⟨_,_,_,_,_,_,_,_,_,_,_,_,_,_,_,_⟩:=cf8 c)|((with_reducible refine gc 56 rfl ?_);refine gl (some 12) Try.func56 #[.slice M A.length O] rfl ?_;(with_reducible refine(bM.calls k _ _ A m _ ?s1 ?s2 A2.out).mono ?_);(case s1=>exact cb aL.out);(case s2=>exact aO.out);rintro e b5 ⟨b1,rfl,ho0,hb⟩;refine⟨_,rfl, ?_⟩;have x:=Aside0.mk (Kd.R_lower ho0 (aK bl));replace b:=kq b hb;replace d:=kq d hb;replace c:=kp g #[.int .i64 i, .int .i64 j, .slice none 0 0, .int .i64 0, .int .i64 0, .slice none 0 0, .slice none 0 0, .slice none 0 0] 50 hb;replace HB:=hs HB hb;(try clear hb);(try clear ho0);obtain⟨q,r,a6⟩:=Kd.R_slice x.out;subst a6;obtain⟨_,_,_,_,_,_,_,_,_,_,_,_,_,_,_,_⟩:=cf8 c;obtain⟨_,_,_,_,_,_,_,_,_,_,_,_,_,_,_,_⟩:=cf8 b)|((with_reducible refine gc 57 rfl ?_);refine gl (some 22) Try.func57 #[.slice P B.length T] rfl ?_;(with_reducible refine(dA.calls k _ _ B o _ ?s1 ?s2 A3.out).mono ?_);(case s1=>exact cb aP.out);(case s2=>exact aR.out);rintro e b6 ⟨b2,rfl,ho0,hb⟩;refine⟨_,rfl, ?_⟩;have J:=Aside0.mk (Kd.R_lower ho0 (aK bl));replace x:=Aside0.mk (Kd.R_below (by(with_reducible repeat(first|apply Kd.R_alloc|apply Kd.R_drewN|apply Kd.R_drew));exact(Kd.R_mono (Kd.R_far (p:=⟨g,4,none⟩) (Kd.R_far (p:=⟨g,3,none⟩) (Kd.R_far (p:=⟨g,2,none⟩) (Kd.R_types x.out c.out (by decide)) (fun _ hk=>hk.2) (.slice q m.length r)) (fun _ hk=>hk.2) (.int .i64 l)) (fun _ hk=>hk.2) (.int .i64 n)) (fun _ h_=>h_.1))) hb);replace b:=kq b hb;replace d:=kq d hb;replace c:=kp g #[.int .i64 i, .int .i64 j, .slice q m.length r, .int .i64 l, .int .i64 n, .slice none 0 0, .slice none 0 0, .slice none 0 0] 50 hb;replace HB:=hs HB hb;(try clear hb);(try clear hk);(try clear ho0);obtain⟨u,v,a7⟩:=Kd.R_slice J.out;subst a7;obtain⟨_,_,_,_,_,_,_,_,_,_,_,_,_,_,_,_⟩:=cf8 c;obtain⟨_,_,_,_,_,_,_,_,_,_,_,_,_,_,_,_⟩:=cf8 b)|((with_reducible refine gc 58 rfl ?_);refine gl (some 26) Try.func58 #[.slice U D.length W] rfl ?_;(with_reducible refine(cu.calls k _ _ D s _ ?s1 ?s2 A4.out).mono ?_);(case s1=>exact cb aS.out);(case s2=>exact a0.out);rintro e b7 ⟨b3,rfl,ho0,hb⟩;refine⟨_,rfl, ?_⟩;have L:=Aside0.mk (Kd.S_lower (Kd.S_new' ho0 (Kd.R_lt (by(with_reducible repeat(first|apply Kd.R_alloc|apply Kd.R_drewN|apply Kd.R_drew));exact(Kd.R_mono (Kd.R_far (p:=⟨g,5,none⟩) (Kd.R_types x.out c.out (by decide)) (fun _ hk=>hk.2) (.slice u o.length v)) (fun _ h_=>h_.1))))) (aK bl));replace x:=Aside0.mk (Kd.R_below (by(with_reducible repeat(first|apply Kd.R_alloc|apply Kd.R_drewN|apply Kd.R_drew));exact(Kd.R_mono (Kd.R_far (p:=⟨g,5,none⟩) (Kd.R_types x.out c.out (by decide)) (fun _ hk=>hk.2) (.slice u o.length v)) (fun _ h_=>h_.1))) hb);replace J:=Aside0.mk (Kd.R_below (by(with_reducible repeat(first|apply Kd.R_alloc|apply Kd.R_drewN|apply Kd.R_drew));exact(Kd.R_mono (Kd.R_far (p:=⟨g,5,none⟩) (Kd.R_types J.out c.out (by decide)) (fun _ hk=>hk.2) (.slice u o.length v)) (fun _ h_=>h_.1))) hb);replace b:=kq b hb;replace d:=kq d hb;replace c:=kp g #[.int .i64 i, .int .i64 j, .slice q m.length r, .int .i64 l, .int .i64 n, .slice u o.length v, .slice none 0 0, .slice none 0 0] 50 hb;replace HB:=hs HB hb;(try clear hb);(try clear hk);(try clear ho0);obtain⟨y,z,a8⟩:=Kd.S_slice L.out;subst a8;obtain⟨_,_,_,_,_,_,_,_,_,_,_,_,_,_,_,_⟩:=cf8 c;obtain⟨_,_,_,_,_,_,_,_,_,_,_,_,_,_,_,_⟩:=cf8 b)|((with_reducible refine gc 59 rfl ?_);refine gl (some 30) Try.func59 #[.slice X E.length Y] rfl ?_;(with_reducible refine(cB.calls k _ _ E t _ ?s1 ?s2 A5.out).mono ?_);(case s1=>exact cb a1.out);(case s2=>exact a2.out);rintro e b8 ⟨b4,rfl,ho0,hb⟩;refine⟨_,rfl, ?_⟩;have aE:=Aside0.mk (Kd.R_lower ho0 (aK bl));replace x:=Aside0.mk (Kd.R_below (by(with_reducible repeat(first|apply Kd.R_alloc|apply Kd.R_drewN|apply Kd.R_drew));exact(Kd.R_mono (Kd.R_far (p:=⟨g,6,none⟩) (Kd.R_types x.out c.out (by decide)) (fun _ hk=>hk.2) (.slice y s.length z)) (fun _ h_=>h_.1))) hb);replace J:=Aside0.mk (Kd.R_below (by(with_reducible repeat(first|apply Kd.R_alloc|apply Kd.R_drewN|apply Kd.R_drew));exact(Kd.R_mono (Kd.R_far (p:=⟨g,6,none⟩) (Kd.R_types J.out c.out (by decide)) (fun _ hk=>hk.2) (.slice y s.length z)) (fun _ h_=>h_.1))) hb);replace L:=Aside0.mk (Kd.S_below (by(with_reducible repeat(first|apply Kd.S_alloc|apply Kd.S_drewN|apply Kd.S_drew));exact(Kd.S_mono (Kd.S_far (p:=⟨g,6,none⟩) (Kd.S_types L.out c.out (by decide)) (fun _ hk=>hk.2) (.slice y s.length z)) (fun _ h_=>h_.1))) hb);replace b:=kq b hb;replace d:=kq d hb;replace c:=kp g #[.int .i64 i, .int .i64 j, .slice q m.length r, .int .i64 l, .int .i64 n, .slice u o.length v, .slice y s.length z, .slice none 0 0] 50 hb;replace HB:=hs HB hb;(try clear hb);(try clear hk);(try clear ho0);obtain⟨G,I,a9⟩:=Kd.R_slice aE.out;subst a9;obtain⟨_,_,_,_,_,_,_,_,_,_,_,_,_,_,_,_⟩:=cf8 c;obtain⟨_,_,_,_,_,_,_,_,_,_,_,_,_,_,_,_⟩:=cf8 d))
 refine bodyPost_ret (results_cell_row rfl _ _ a 50 #[.int .i64 i, .int .i64 j, .slice q m.length r, .int .i64 l, .int .i64 n, .slice u o.length v, .slice y s.length z, .slice G t.length I] (0,0) _ rfl (by(with_reducible repeat(first|refine ah ?_ _|refine af ?_|refine ag ?_ _));refine bH (cs:= #[.int .i64 i, .int .i64 j, .slice q m.length r, .int .i64 l, .int .i64 n, .slice u o.length v, .slice y s.length z, .slice none 0 0]) ?_ 7 _ rfl;(with_reducible repeat(first|refine ah ?_ _|refine af ?_|refine ag ?_ _));refine bH (cs:= #[.int .i64 i, .int .i64 j, .slice q m.length r, .int .i64 l, .int .i64 n, .slice u o.length v, .slice none 0 0, .slice none 0 0]) ?_ 6 _ rfl;(with_reducible repeat(first|refine ah ?_ _|refine af ?_|refine ag ?_ _));refine bH (cs:= #[.int .i64 i, .int .i64 j, .slice q m.length r, .int .i64 l, .int .i64 n, .slice none 0 0, .slice none 0 0, .slice none 0 0]) ?_ 5 _ rfl;(with_reducible repeat(first|refine ah ?_ _|refine af ?_|refine ag ?_ _));refine bH (cs:= #[.int .i64 i, .int .i64 j, .slice q m.length r, .int .i64 l, .int .i64 0, .slice none 0 0, .slice none 0 0, .slice none 0 0]) ?_ 4 _ rfl;(with_reducible repeat(first|refine ah ?_ _|refine af ?_|refine ag ?_ _));refine bH (cs:= #[.int .i64 i, .int .i64 j, .slice q m.length r, .int .i64 0, .int .i64 0, .slice none 0 0, .slice none 0 0, .slice none 0 0]) ?_ 3 _ rfl;(with_reducible repeat(first|refine ah ?_ _|refine af ?_|refine ag ?_ _));refine bH (cs:= #[.int .i64 i, .int .i64 j, .slice none 0 0, .int .i64 0, .int .i64 0, .slice none 0 0, .slice none 0 0, .slice none 0 0]) ?_ 2 _ rfl;(with_reducible repeat(first|refine ah ?_ _|refine af ?_|refine ag ?_ _));refine bH (cs:= #[.int .i64 i, .int .i64 0, .slice none 0 0, .int .i64 0, .int .i64 0, .slice none 0 0, .slice none 0 0, .slice none 0 0]) ?_ 1 _ rfl;(with_reducible repeat(first|refine ah ?_ _|refine af ?_|refine ag ?_ _));refine bH (cs:= #[.int .i64 0, .int .i64 0, .slice none 0 0, .int .i64 0, .int .i64 0, .slice none 0 0, .slice none 0 0, .slice none 0 0]) ?_ 0 _ rfl;(with_reducible repeat(first|refine ah ?_ _|refine af ?_|refine ag ?_ _));refine fJ ?_ K.out _;(with_reducible repeat(first|refine ah ?_ _|refine af ?_|refine ag ?_ _));exact d.out) Try.underlying50 rfl (by kernel_rfl)) rfl ?_
 exact⟨_,_,_,_,by first|rfl|(simp[aY,aZ]<;>rfl)|(simp[*,aY,aZ]<;>rfl),by(with_reducible repeat(first|apply Kd.R_alloc|apply Kd.R_drewN|apply Kd.R_drew));exact Kd.R_mono (Kd.R_far (p:=⟨a,7,none⟩) (Kd.R_far (p:=⟨a,6,none⟩) (Kd.R_far (p:=⟨a,5,none⟩) (Kd.R_far (p:=⟨a,4,none⟩) (Kd.R_far (p:=⟨a,3,none⟩) (Kd.R_far (p:=⟨a,2,none⟩) (Kd.R_far (p:=⟨a,1,none⟩) (Kd.R_far (p:=⟨a,0,none⟩) (Kd.R_far (p:=⟨g,7,none⟩) (Kd.R_types (Kd.R_types x.out c.out (by decide)) d.out (by decide)) (fun _ hk=>hk.1.2) (.slice G t.length I)) (fun _ hk=>hk.2) (.int .i64 i)) (fun _ hk=>hk.2) (.int .i64 j)) (fun _ hk=>hk.2) (.slice q m.length r)) (fun _ hk=>hk.2) (.int .i64 l)) (fun _ hk=>hk.2) (.int .i64 n)) (fun _ hk=>hk.2) (.slice u o.length v)) (fun _ hk=>hk.2) (.slice y s.length z)) (fun _ hk=>hk.2) (.slice G t.length I)) (fun _ hk=>trivial),by(with_reducible repeat(first|apply Kd.R_alloc|apply Kd.R_drewN|apply Kd.R_drew));exact Kd.R_mono (Kd.R_far (p:=⟨a,7,none⟩) (Kd.R_far (p:=⟨a,6,none⟩) (Kd.R_far (p:=⟨a,5,none⟩) (Kd.R_far (p:=⟨a,4,none⟩) (Kd.R_far (p:=⟨a,3,none⟩) (Kd.R_far (p:=⟨a,2,none⟩) (Kd.R_far (p:=⟨a,1,none⟩) (Kd.R_far (p:=⟨a,0,none⟩) (Kd.R_far (p:=⟨g,7,none⟩) (Kd.R_types (Kd.R_types J.out c.out (by decide)) d.out (by decide)) (fun _ hk=>hk.1.2) (.slice G t.length I)) (fun _ hk=>hk.2) (.int .i64 i)) (fun _ hk=>hk.2) (.int .i64 j)) (fun _ hk=>hk.2) (.slice q m.length r)) (fun _ hk=>hk.2) (.int .i64 l)) (fun _ hk=>hk.2) (.int .i64 n)) (fun _ hk=>hk.2) (.slice u o.length v)) (fun _ hk=>hk.2) (.slice y s.length z)) (fun _ hk=>hk.2) (.slice G t.length I)) (fun _ hk=>trivial),by(with_reducible repeat(first|apply Kd.S_alloc|apply Kd.S_drewN|apply Kd.S_drew));exact Kd.S_mono (Kd.S_far (p:=⟨a,7,none⟩) (Kd.S_far (p:=⟨a,6,none⟩) (Kd.S_far (p:=⟨a,5,none⟩) (Kd.S_far (p:=⟨a,4,none⟩) (Kd.S_far (p:=⟨a,3,none⟩) (Kd.S_far (p:=⟨a,2,none⟩) (Kd.S_far (p:=⟨a,1,none⟩) (Kd.S_far (p:=⟨a,0,none⟩) (Kd.S_far (p:=⟨g,7,none⟩) (Kd.S_types (Kd.S_types L.out c.out (by decide)) d.out (by decide)) (fun _ hk=>hk.1.2) (.slice G t.length I)) (fun _ hk=>hk.2) (.int .i64 i)) (fun _ hk=>hk.2) (.int .i64 j)) (fun _ hk=>hk.2) (.slice q m.length r)) (fun _ hk=>hk.2) (.int .i64 l)) (fun _ hk=>hk.2) (.int .i64 n)) (fun _ hk=>hk.2) (.slice u o.length v)) (fun _ hk=>hk.2) (.slice y s.length z)) (fun _ hk=>hk.2) (.slice G t.length I)) (fun _ hk=>hk.1.1.2),by(with_reducible repeat(first|apply Kd.R_alloc|apply Kd.R_drewN|apply Kd.R_drew));exact Kd.R_mono (Kd.R_far (p:=⟨a,7,none⟩) (Kd.R_far (p:=⟨a,6,none⟩) (Kd.R_far (p:=⟨a,5,none⟩) (Kd.R_far (p:=⟨a,4,none⟩) (Kd.R_far (p:=⟨a,3,none⟩) (Kd.R_far (p:=⟨a,2,none⟩) (Kd.R_far (p:=⟨a,1,none⟩) (Kd.R_far (p:=⟨a,0,none⟩) (Kd.R_far (p:=⟨g,7,none⟩) (Kd.R_types (Kd.R_types aE.out c.out (by decide)) d.out (by decide)) (fun _ hk=>hk.1.2) (.slice G t.length I)) (fun _ hk=>hk.2) (.int .i64 i)) (fun _ hk=>hk.2) (.int .i64 j)) (fun _ hk=>hk.2) (.slice q m.length r)) (fun _ hk=>hk.2) (.int .i64 l)) (fun _ hk=>hk.2) (.int .i64 n)) (fun _ hk=>hk.2) (.slice u o.length v)) (fun _ hk=>hk.2) (.slice y s.length z)) (fun _ hk=>hk.2) (.slice G t.length I)) (fun _ hk=>trivial),bl⟩
end Go.Proofs.Yteinbmkgenhocaa.P
end
