/- A part of the claim FnExactMachOk. -/
import Derived.WalkSpells
import Derived.WalkLawsBesides
import Derived.Test.YteinbmkgenhocaaGreatCFnExactMachOk30
section
namespace Go.Proofs.YteinbmkgenhocaaGreat.P
open Go.RowKit Go.Proofs.YteinbmkgenhocaaGreatW.PrintWords Go.Proofs.YteinbmkgenhocaaGreatW.PrintLast Go.Proofs.YteinbmkgenhocaaGreatW.PrintMore
attribute [local go_sem] ah ai av ax af ag aj ak
set_option linter.unusedVariables false
set_option linter.unusedSimpArgs false
set_option maxHeartbeats 8000000 in
set_option maxRecDepth 100000 in
theorem dE.calls (k:Nat) (A0:Option Addr) (c0:Nat) (l0:List (S146)) (r:List (S70)) (w:World) (hr0:Kd.C kN w A0 l0.length l0) (hc0:l0.length≤c0) (h:dE.f k l0=some r):
  Calls Tryz.prog 59 #[.slice A0 l0.length c0] w fun e w' => ∃bj:Value,e= .returned (bj)∧Kd.S k70 70 w' w.heap.size (fun _=>True) bj r∧Below w.heap.size w w' :=by
 have ch:=Tryz.underlying146
 have ck:=Tryz.underlying70
 have b1:=Aside0.mk hr0
 have cw:=Aside0.mk hc0
 clear hr0 hc0
 have HB:=Aside0.mk (Below.refl w.heap.size w)
 have H:(if 0≤(l0.length:Int)then(if((l0.length:Int):Int).toNat≤4398046511104 then(dE.l0 k l0 (List.replicate ((l0.length:Int):Int).toNat z70) 0)else(none))else(none))=some r:=h
 clear h
 by_cases c2:0≤(l0.length:Int)
 ·rw [if_pos c2]at H
  have cl:=eq_true c2
  have cm:decide (0≤(l0.length:Int))=true:=decide_eq_true c2
  clear c2
  by_cases c3:((l0.length:Int):Int).toNat≤4398046511104
  ·rw [if_pos c3]at H
   have cn:=eq_true c3
   have co:decide (((l0.length:Int):Int).toNat≤4398046511104)=true:=decide_eq_true c3
   clear c3
   obtain⟨an,m⟩: ∃y_:List (S70),y_=(List.replicate ((l0.length:Int):Int).toNat z70):=⟨_,rfl⟩
   replace H:(dE.l0 k l0 an 0)=some r:=by first|(rw[m];with_reducible exact H)|(have z:=(Option.bind_some _ _).symm.trans H;rw[m];with_reducible exact z)|(have z:=(Option.bind_some _ _).symm.trans H;with_reducible exact z)|with_reducible exact H|(rw[m];exact H)|exact H
   have ab:=Aside0.mk m
   clear m
   have H' :=Aside0.mk H
   clear H
   go_enter Tryz.func59,Tryz.ntmps59
   go_wp2_with (first|((with_reducible refine gd 7 rfl ?_);refine Kd.S_make k70 _ 70 rfl (N:=7) rfl 28 _ _ rfl (l0.length:Int) rfl rfl Tryz.underlying28 (.agg #[(.int .i64 0),(.int .i64 0),(.slice none 0 0),(.slice none 0 0)]) 64 vC rfl (by decide) (by omega) z70 (ok:=fun _=>True) (okp:=fun _=>True) (qj _ _ _ z70 (Kd.R_nil _ _ _ _ _) (Kd.R_nil _ _ _ _ _)) (fun _ hk=>hk) trivial (of_decide_eq_true (by first|(with_reducible assumption)|assumption)) (Nat.le_trans (Nat.mul_le_mul_right _ (of_decide_eq_true (by first|(with_reducible assumption)|assumption):(l0.length:Int).toNat≤4398046511104)) (by omega)) (Below.refl _ _) (Nat.le_refl _) ?_;intro br w4 U hb hg_ hnew_;clear hg_ hnew_;(first|rw[←ab.out]at U|(simp only[Int.reduceToNat]at U;rw[←ab.out]at U));have bc:=Aside0.mk (Kd.S_lower U (aM bl));replace HB:=hs HB hb;clear hb U))
   go_loopg [4] k (fun kq v4 w' => ∃(d:List (S70)) (a:Int),v4= .int .i64 a∧Aside0 (dE.l0 kq l0 d a=some r)∧Aside0 (kq≤k)∧Aside0 (Kd.S k70 70 w' w.heap.size (fun _=>True) br d)∧Aside0 (Below w.heap.size w w'))
   case atStart=>exact⟨(an),(0),(by first|rfl|(simp;done)|(simp[*];done)),H',⟨Nat.le_refl _⟩,⟨by(with_reducible repeat(first|apply Kd.S_alloc|apply Kd.S_drewN|apply Kd.S_drew));exact bc.out⟩,⟨bl⟩⟩
   case round=>
    clear H'
    obtain⟨d,a,rfl,HA,bk,c,HB⟩:=hrel
    cases gk with
    |zero=>exact absurd HA.out (by simp[dE.l0])
    | succ k1=>
     have H:=HA.out
     clear HA
     simp only[dE.l0]at H
     by_cases c6:a<(l0.length:Int)
     ·rw[if_pos c6]at H
      have bs:decide (a<(l0.length:Int))=true:=decide_eq_true c6
      clear c6
      by_cases c7:0≤a
      ·rw[if_pos c7]at H
       have cp:decide (0≤a)=true:=decide_eq_true c7
       clear c7
       replace H:=Option.bind_eq_some_iff.mp H
       obtain⟨⟨i,l,A,B⟩,bm,H⟩:=H
       replace H:(if a<(d.length:Int)then(dE.l0 k1 l0 (d.set (a:Int).toNat (⟨i,l,A,B⟩:S70)) (wrap64 (a+1)))else(none))=some r:=H
       have A8:=Aside0.mk bm
       clear bm
       by_cases c9:a<(d.length:Int)
       ·rw[if_pos c9]at H
        have cq:decide (a<(d.length:Int))=true:=decide_eq_true c9
        clear c9
        obtain⟨W,n⟩: ∃y_:List (S70),y_=(d.set (a:Int).toNat (⟨i,l,A,B⟩:S70)):=⟨_,rfl⟩
        replace H:(dE.l0 k1 l0 W (wrap64 (a+1)))=some r:=by first|(rw[n];with_reducible exact H)|(have z:=(Option.bind_some _ _).symm.trans H;rw[n];with_reducible exact z)|(have z:=(Option.bind_some _ _).symm.trans H;with_reducible exact z)|with_reducible exact H|(rw[n];exact H)|exact H
        have bd:=Aside0.mk n
        clear n
        have H' :=Aside0.mk H
        clear H
        have X:0≤(a:Int):=od
        have Y:a<(l0.length:Int):=od
        obtain⟨ci,ao,ap,aq,ar,bt,D,E,G,I,J,K,L,M⟩:=ni b1.out a X Y
        cases bt
        obtain⟨D,E,G,I⟩:=hc4 HB D E G I
        have ac:=Aside0.mk K
        have ad:=Aside0.mk J
        clear K J
        have al:=Aside0.mk M
        have am:=Aside0.mk L
        clear M L
        replace X:=eq_true X
        replace Y:=eq_true Y
        go_wp2_with (first|(refine gl (some 20) Tryz.func98 #[.agg #[.int .i64 ((dh l0 a).f0), .int .i64 ((dh l0 a).f1), .slice ao ((dh l0 a).f2).length ap, .slice aq ((dh l0 a).f3).length ar]] rfl ?_;(with_reducible refine(jc.calls k1 ((dh l0 a).f0) ((dh l0 a).f1) _ _ ((dh l0 a).f2) _ _ ((dh l0 a).f3) i l A B _ (cb ac.out) ad.out (cb al.out) am.out A8.out).mono ?_);rintro e g ⟨O,P,rfl,ho0,ho1,hb⟩;refine⟨_,rfl, ?_⟩;have x:=Aside0.mk (Kd.R_lower ho0 (aM bl));have y:=Aside0.mk (Kd.R_lower ho1 (aM bl));replace c:=Aside0.mk (Kd.S_mono (Kd.S_told (Kd.S_told (Kd.S_old (by(with_reducible repeat(first|apply Kd.S_alloc|apply Kd.S_drewN|apply Kd.S_drew));exact c.out) hb) (Kd.R_base ho0)) (Kd.R_base ho1)) (fun _ h_=>h_.1));replace HB:=hs HB hb;(try clear ho1);have aw:0≤(a:Int):=od;have aB:(a:Int)<((d.length:Int):Int):=od;obtain⟨b,aE,aF,aL,bw,cr,aO⟩:=Kd.S_form c.out (by omega);(first|cases aF|(injection aF with ea_ en_ ec_;(first|subst ea_|(injection ea_ with ea_;subst ea_));subst ec_;clear en_));have T:=Aside0.mk aL;have cs:=Aside0.mk aO;clear aL bw aO;obtain⟨_,ct,be,aP,o,q,_,_⟩:=Kd.S_elem c.out z70 (a:Int) aw aB;obtain⟨aR,aS,rfl,b2,b3⟩:=nO aP;have b4:g.cell? ⟨b,(a:Int).toNat * 4,none⟩=some (.int .i64 ((aY d a).f0)):=o 0 _ rfl;have b5:g.cell? ⟨b,(a:Int).toNat * 4+1,none⟩=some (.int .i64 ((aY d a).f1)):=o 1 _ rfl;have b6:g.cell? ⟨b,(a:Int).toNat * 4+2,none⟩=some (aR):=o 2 _ rfl;have b7:g.cell? ⟨b,(a:Int).toNat * 4+3,none⟩=some (aS):=o 3 _ rfl;have b8:g.frozen? ⟨b,(a:Int).toNat * 4,none⟩=false:=q 0;have b9:g.frozen? ⟨b,(a:Int).toNat * 4+1,none⟩=false:=q 1;have ca:g.frozen? ⟨b,(a:Int).toNat * 4+2,none⟩=false:=q 2;have cc:g.frozen? ⟨b,(a:Int).toNat * 4+3,none⟩=false:=q 3;clear be o q aP;replace aw:=eq_true aw;replace aB:=eq_true aB;have n_:=Aside0.mk (Kd.S_mono (ok' :=(fun k_=>some k_≠(O:Value).ownBlock∧some k_≠(P:Value).ownBlock)) c.out (fun k_ hk=>⟨hk.1.2,hk.2⟩));clear c;have c:=n_;clear n_;have b0:=Aside0.mk (show Kd.S k70 70 g w.heap.size (fun k_=>((fun _=>True)) k_∧¬((fun k_=>some k_=(O:Value).ownBlock∨some k_=(P:Value).ownBlock)) k_) (.slice (some ⟨b,0,none⟩) d.length aE) d from(by(with_reducible repeat(first|apply Kd.S_alloc|apply Kd.S_drewN|apply Kd.S_drew));exact Kd.S_mono c.out (fun k_ hk=>⟨trivial,fun e_=>e_.elim (fun h_=>hk.1 h_) (fun h_=>hk.2 h_)⟩)));obtain⟨cj,cv,bh,a0,s,u,a1,a2⟩:=Kd.S_elem b0.out z70 (a:Int) (of_decide_eq_true (by first|(with_reducible assumption)|assumption)) (by have h_:(a:Int)<((d.length:Int):Int):=of_decide_eq_true (by first|(with_reducible assumption)|assumption);first|exact h_|(have e_:=(Kd.S_reads' c.out).1;omega)|simpa using h_);obtain⟨cd,ce,rfl,cf,cg⟩:=nO a0;have Z:=Kd.S_seg a2 (of_decide_eq_true (by first|(with_reducible assumption)|assumption)) (by have h_:(a:Int)<((d.length:Int):Int):=of_decide_eq_true (by first|(with_reducible assumption)|assumption);first|exact h_|(have e_:=(Kd.S_reads' c.out).1;omega)|simpa using h_) (seg:= [.int .i64 i, .int .i64 l,O,P]) (j:=0) (show 4≤4 from by decide) (x' :=(⟨i,l,A,B⟩:S70)) (qj _ _ _ (⟨i,l,A,B⟩:S70) (Kd.R_mono (Kd.R_tight rfl (Kd.R_mono (ok' :=fun k_=>((fun _=>True)) k_∧k_≠b) (Kd.R_apart' (x.out) (Kd.S_typed c.out) (by decide)) (fun k_ hk=>⟨trivial,fun e_=>(hk.2) (by rw[e_];rfl)⟩))) (fun _ h_=>Or.inr (Or.inl h_))) (Kd.R_mono (Kd.R_tight rfl (Kd.R_mono (ok' :=fun k_=>((fun _=>True)) k_∧k_≠b) (Kd.R_apart' (y.out) (Kd.S_typed c.out) (by decide)) (fun k_ hk=>⟨trivial,fun e_=>(hk.2) (by rw[e_];rfl)⟩))) (fun _ h_=>Or.inr (Or.inr (h_))))) (fun _ hk=>hk) (fun k_ hk_=>hk_.elim (fun h_=>((Kd.R_mono (ok' :=fun k_=>((fun _=>True)) k_∧k_≠b) (Kd.R_apart' (x.out) (Kd.S_typed c.out) (by decide)) (fun k_ hk=>⟨trivial,fun e_=>(hk.2) (by rw[e_];rfl)⟩))).1 k_ h_.symm) (fun h_=>((Kd.R_mono (ok' :=fun k_=>((fun _=>True)) k_∧k_≠b) (Kd.R_apart' (y.out) (Kd.S_typed c.out) (by decide)) (fun k_ hk=>⟨trivial,fun e_=>(hk.2) (by rw[e_];rfl)⟩))).1 k_ h_.symm));have a3:=s 0 _ rfl;(try simp only[show(k70).sz=4 from rfl,Nat.mul_one,Nat.add_zero]at a3);have a4:=u 0;(try simp only[show(k70).sz=4 from rfl,Nat.mul_one,Nat.add_zero]at a4);have a5:=s 1 _ rfl;(try simp only[show(k70).sz=4 from rfl,Nat.mul_one,Nat.add_zero]at a5);have a6:=u 1;(try simp only[show(k70).sz=4 from rfl,Nat.mul_one,Nat.add_zero]at a6);have a7:=s 2 _ rfl;(try simp only[show(k70).sz=4 from rfl,Nat.mul_one,Nat.add_zero]at a7);have a8:=u 2;(try simp only[show(k70).sz=4 from rfl,Nat.mul_one,Nat.add_zero]at a8);have a9:=s 3 _ rfl;(try simp only[show(k70).sz=4 from rfl,Nat.mul_one,Nat.add_zero]at a9);have ba:=u 3;(try simp only[show(k70).sz=4 from rfl,Nat.mul_one,Nat.add_zero]at ba);clear bh s u a0 a1 a2)|((with_reducible refine iw (t:=70) (p:=21) rfl ?_);refine gT (t:=70) (p:=21) (v:= ?vo_w13) (w1:=((((g.setCell ⟨b,(a:Int).toNat * 4,none⟩ (.int .i64 i)).setCell ⟨b,(a:Int).toNat * 4+1,none⟩ (.int .i64 l)).setCell ⟨b,(a:Int).toNat * 4+2,none⟩ (O)).setCell ⟨b,(a:Int).toNat * 4+3,none⟩ (P))) ?hg ?ho ?hn ?hr ?_;(case ho=>rfl);(case hg=>rfl);(case hn=>rfl);(case hr=>first|(go_simp;done)|(go_simp;rfl)|(obtain⟨_,_,rfl⟩:=Kd.R_slice x.out;obtain⟨_,_,rfl⟩:=Kd.R_slice y.out;first|(go_simp;done)|(go_simp;rfl)));intro bb hw;have hg:g.grownBy bb (some b):=(by rw[hw];exact Z.2);have hp_:Kd.S k70 70 bb w.heap.size (fun _=>True) (.slice (some ⟨b,0,none⟩) d.length aE) W:=(by rw[hw,bd.out];exact Z.1);clear Z;have bo:=Aside0.mk (hp_);have bp:=Aside0.mk ((by rw[hw];exact aZ (aZ (aZ (aZ (HB.out) T.out) T.out) T.out) T.out:Below w.heap.size w bb));clear c;clear HB;clear x;clear y;have c:=bo;have HB:=bp;clear bo bp;clear hg hw hp_))
        go_roundg k1
        case measure=>have:=bk.out;omega
        case rel=>exact⟨(W),(wrap64 (a+1)),(by first|rfl|(simp;done)|(simp[*];done)),H',⟨by have:=bk.out;omega⟩,⟨by(with_reducible repeat(first|apply Kd.S_alloc|apply Kd.S_drewN|apply Kd.S_drew));exact c.out⟩,⟨bl⟩⟩
       rw[if_neg c9]at H
       exact absurd H (by simp)
      rw[if_neg c7]at H
      exact absurd H (by simp)
     rw[if_neg c6]at H
     have bs:decide (a<(l0.length:Int))=false:=decide_eq_false c6
     clear c6
     obtain rfl:=Option.some.inj H;clear H
     go_wp2
     go_ret
     exact⟨_,by first|rfl|(simp[aW,aX]<;>rfl)|(simp[*,aW,aX]<;>rfl),by(with_reducible repeat(first|apply Kd.S_alloc|apply Kd.S_drewN|apply Kd.S_drew));exact c.out,bl⟩
  rw[if_neg c3]at H
  exact absurd H (by simp)
 rw[if_neg c2]at H
 exact absurd H (by simp)
set_option maxHeartbeats 8000000 in
set_option maxRecDepth 100000 in
theorem bY.calls (k:Nat) (A0:Option Addr) (c0:Nat) (l0:List Int) (r:List Int) (w:World) (hr0:Kd.C (Kd.int .i64) w A0 l0.length l0) (hc0:l0.length≤c0) (h:bY.f k l0=some r):
  Calls Tryz.prog 60 #[.slice A0 l0.length c0] w fun e w' => ∃B:Value,e= .returned (B)∧Kd.R (Kd.int .i64) 3 w' w.heap.size (fun _=>True) B r∧Below w.heap.size w w' :=by
 have M:=Aside0.mk hr0
 have am:=Aside0.mk hc0
 clear hr0 hc0
 have HB:=Aside0.mk (Below.refl w.heap.size w)
 have H:(if 0≤(l0.length:Int)then(if((l0.length:Int):Int).toNat≤35184372088832 then(bY.l0 k l0 (List.replicate ((l0.length:Int):Int).toNat 0) 0)else(none))else(none))=some r:=h
 clear h
 by_cases c2:0≤(l0.length:Int)
 ·rw [if_pos c2]at H
  have Y:=eq_true c2
  have Z:decide (0≤(l0.length:Int))=true:=decide_eq_true c2
  clear c2
  by_cases c3:((l0.length:Int):Int).toNat≤35184372088832
  ·rw [if_pos c3]at H
   have ab:=eq_true c3
   have ac:decide (((l0.length:Int):Int).toNat≤35184372088832)=true:=decide_eq_true c3
   clear c3
   obtain⟨u,c⟩: ∃y_:List Int,y_=(List.replicate ((l0.length:Int):Int).toNat 0):=⟨_,rfl⟩
   replace H:(bY.l0 k l0 u 0)=some r:=by first|(rw[c];with_reducible exact H)|(have i:=(Option.bind_some _ _).symm.trans H;rw[c];with_reducible exact i)|(have i:=(Option.bind_some _ _).symm.trans H;with_reducible exact i)|with_reducible exact H|(rw[c];exact H)|exact H
   have s:=Aside0.mk c
   clear c
   have H' :=Aside0.mk H
   clear H
   go_enter Tryz.func60,Tryz.ntmps60
   go_wp2_with (first|((with_reducible refine gd 7 rfl ?_);refine Kd.R_make (Kd.int .i64) _ 3 rfl (N:=7) rfl 29 _ _ rfl (l0.length:Int) rfl rfl Tryz.underlying29 (.int .i64 0) 8 info3 rfl (by decide) (by omega) 0 (ok:=fun _=>True) (okp:=fun _=>True) rfl (fun _ hk=>hk) trivial (of_decide_eq_true (by first|(with_reducible assumption)|assumption)) (Nat.le_trans (Nat.mul_le_mul_right _ (of_decide_eq_true (by first|(with_reducible assumption)|assumption):(l0.length:Int).toNat≤35184372088832)) (by omega)) (Below.refl _ _) (Nat.le_refl _) ?_;intro J w4 l hb hg_ hnew_;clear hg_ hnew_;(first|rw[←s.out]at l|(simp only[Int.reduceToNat]at l;rw[←s.out]at l));have z:=Aside0.mk (Kd.R_lower l (aM bl));replace HB:=hs HB hb;clear hb l))
   go_loopg [4] k (fun kq v4 w' => ∃(b:List Int) (a:Int),v4= .int .i64 a∧Aside0 (bY.l0 kq l0 b a=some r)∧Aside0 (kq≤k)∧Aside0 (Kd.R (Kd.int .i64) 3 w' w.heap.size (fun _=>True) J b)∧Aside0 (Below w.heap.size w w'))
   case atStart=>exact⟨(u),(0),(by first|rfl|(simp;done)|(simp[*];done)),H',⟨Nat.le_refl _⟩,⟨by(with_reducible repeat(first|apply Kd.R_alloc|apply Kd.R_drewN|apply Kd.R_drew));exact z.out⟩,⟨bl⟩⟩
   case round=>
    clear H'
    obtain⟨b,a,rfl,HA,D,g,HB⟩:=hrel
    cases gk with
    |zero=>exact absurd HA.out (by simp[bY.l0])
    | succ k1=>
     have H:=HA.out
     clear HA
     simp only[bY.l0]at H
     by_cases c6:a<(l0.length:Int)
     ·rw[if_pos c6]at H
      have K:decide (a<(l0.length:Int))=true:=decide_eq_true c6
      clear c6
      by_cases c7:0≤a
      ·rw[if_pos c7]at H
       have ad:decide (0≤a)=true:=decide_eq_true c7
       clear c7
       by_cases c8:a<(b.length:Int)
       ·rw[if_pos c8]at H
        have al:decide (a<(b.length:Int))=true:=decide_eq_true c8
        clear c8
        obtain⟨m,d⟩: ∃y_:List Int,y_=(b.set (a:Int).toNat (rd l0 a)):=⟨_,rfl⟩
        replace H:(bY.l0 k1 l0 m (wrap64 (a+1)))=some r:=by first|(rw[d];with_reducible exact H)|(have i:=(Option.bind_some _ _).symm.trans H;rw[d];with_reducible exact i)|(have i:=(Option.bind_some _ _).symm.trans H;with_reducible exact i)|with_reducible exact H|(rw[d];exact H)|exact H
        have A:=Aside0.mk d
        clear d
        have H' :=Aside0.mk H
        clear H
        have n:0≤(a:Int):=od
        have o:a<(l0.length:Int):=od
        obtain⟨U,L,j⟩:=Kd.at_int M.out a n o
        cases L
        replace j:=hc HB j
        replace n:=eq_true n
        replace o:=eq_true o
        have p9:0≤(a:Int):=od
        have q9:(a:Int)<((b.length:Int):Int):=od
        obtain⟨x,O,E,G,P,an,I⟩:=Kd.R_form g.out (by omega)
        (first|cases E|(injection E with ea_ en_ ec_;(first|subst ea_|(injection ea_ with ea_;subst ea_));subst ec_;clear en_))
        have T:=Aside0.mk G
        have ao:=Aside0.mk I
        clear G P I
        obtain⟨W,X⟩:=Kd.R_celln 0 g.out (a:Int) p9 q9
        replace p9:=eq_true p9
        replace q9:=eq_true q9
        have q:=Kd.R_putg g.out (a:Int) (rd l0 a)
        go_wp2_with (first|((with_reducible refine iw (t:=3) (p:=20) rfl ?_);refine gT (t:=3) (p:=20) (v:= ?vo_w11) (w1:=(wr.setCell ⟨x,(a:Int).toNat,none⟩ (.int .i64 (rd l0 a)))) ?hg ?ho ?hn ?hr ?_;(case ho=>rfl);(case hg=>rfl);(case hn=>rfl);(case hr=>first|(go_simp;done)|(go_simp;rfl));intro y hw;have hg:wr.grownBy y (some x):=(by rw[hw];exact q.2);have hp_:Kd.R (Kd.int .i64) 3 y w.heap.size (fun _=>True) (.slice (some ⟨x,0,none⟩) b.length O) m:=(by rw[hw,A.out];exact q.1);clear q;replace g:=Aside0.mk (hp_);replace HB:=Aside0.mk ((by rw[hw];exact aZ (HB.out) T.out:Below w.heap.size w y));clear hg hw hp_))
        go_roundg k1
        case measure=>have:=D.out;omega
        case rel=>exact⟨(m),(wrap64 (a+1)),(by first|rfl|(simp;done)|(simp[*];done)),H',⟨by have:=D.out;omega⟩,⟨by(with_reducible repeat(first|apply Kd.R_alloc|apply Kd.R_drewN|apply Kd.R_drew));exact g.out⟩,⟨bl⟩⟩
       rw[if_neg c8]at H
       exact absurd H (by simp)
      rw[if_neg c7]at H
      exact absurd H (by simp)
     rw[if_neg c6]at H
     have K:decide (a<(l0.length:Int))=false:=decide_eq_false c6
     clear c6
     obtain rfl:=Option.some.inj H;clear H
     go_wp2
     go_ret
     exact⟨_,by first|rfl|(simp[aW,aX]<;>rfl)|(simp[*,aW,aX]<;>rfl),by(with_reducible repeat(first|apply Kd.R_alloc|apply Kd.R_drewN|apply Kd.R_drew));exact g.out,bl⟩
  rw[if_neg c3]at H
  exact absurd H (by simp)
 rw[if_neg c2]at H
 exact absurd H (by simp)
set_option maxHeartbeats 8000000 in
set_option maxRecDepth 100000 in
theorem dO.calls (k:Nat) (K:Option Addr) (L:Nat) (y:List (S143)) (M:Option Addr) (O:Nat) (z:List (S146)) (P:Option Addr) (T:Nat) (A:List Int) (l:Int) (n:Int) (G:Bool) (I:Int) (r1:List (S91)) (r2:List (S70)) (r3:List Int) (r4:Int) (r5:Int) (r6:Bool) (r7:Int) (w:World) (ab:Kd.C kM w K y.length y) (ac:y.length≤L) (ad:Kd.C kN w M z.length z) (al:z.length≤O) (am:Kd.C (Kd.int .i64) w P A.length A) (an:A.length≤T) (h:dO.f k y z A l n G I=some (r1,r2,r3,r4,r5,r6,r7)):
  Calls Tryz.prog 17 #[.agg #[.slice K y.length L, .slice M z.length O, .slice P A.length T, .int .i64 l, .int .i64 n, .bool G, .int .i64 I]] w fun e w' => ∃aF aL aO:Value,e= .returned (.agg #[aF,aL,aO, .int .i64 r4, .int .i64 r5, .bool r6, .int .i64 r7])∧Kd.S k91 91 w' w.heap.size (fun _=>True) aF r1∧Kd.S k70 70 w' w.heap.size (fun _=>True) aL r2∧Kd.R (Kd.int .i64) 3 w' w.heap.size (fun _=>True) aO r3∧Below w.heap.size w w' :=by
 have a9:=Tryz.underlying49
 have ba:=Tryz.underlying33
 have bb:=Tryz.underlying47
 have bc:=Tryz.underlying31
 have ap:=Aside0.mk ab
 have aq:=Aside0.mk ac
 clear ab ac
 have ar:=Aside0.mk ad
 have aw:=Aside0.mk al
 clear ad al
 have aB:=Aside0.mk am
 have aE:=Aside0.mk an
 clear am an
 have HB:=Aside0.mk (Below.refl w.heap.size w)
 have H:((dS.f k y).bind fun i=>((dE.f k z).bind fun j=>((bY.f k A).bind fun m=>((iq.f G I).bind fun ao=>(some (i,j,m,l,n,ao.1,ao.2))))))=some (r1,r2,r3,r4,r5,r6,r7):=h
 clear h
 obtain⟨i,A2,H⟩:=ob H
 obtain⟨j,A3,H⟩:=ob H
 obtain⟨m,A4,H⟩:=ob H
 replace H:=Option.bind_eq_some_iff.mp H
 obtain⟨⟨x,B⟩,aP,H⟩:=H
 replace H:(some (i,j,m,l,n,x,B))=some (r1,r2,r3,r4,r5,r6,r7):=H
 have A5:=Aside0.mk aP
 clear aP
 simp only[Option.some.injEq,Prod.mk.injEq]at H
 obtain⟨rfl,rfl,rfl,rfl,rfl,rfl,rfl⟩:=H
 go_enter Tryz.func17,Tryz.ntmps17
 go_wp2_with (first|((with_reducible refine gd 1 rfl ?_);refine bx 1 #[.slice K y.length L, .slice M z.length O, .slice P A.length T, .int .i64 l, .int .i64 n, .bool G, .int .i64 I] 49 ?_;intro a1 hg w6 hbox hb;have c:=Aside0.mk hbox;have a2:=hz HB hg;replace HB:=hs HB hb;clear hb hbox hg)|((with_reducible refine gd 2 rfl ?_);refine bx 2 #[.slice none 0 0, .slice none 0 0, .slice none 0 0, .int .i64 0, .int .i64 0, .bool false, .int .i64 0] 33 ?_;intro a hg w7 hbox hb;have g:=Aside0.mk hbox;have a3:=hz HB hg;have U:=nl c hg;have W:=ng c hg;replace c:=kb c hb;replace HB:=hs HB hb;clear hb hbox hg)|((with_reducible refine gd 3 rfl ?_);refine bx 3 #[.slice none 0 0, .slice none 0 0, .slice none 0 0, .int .i64 0, .int .i64 0, .bool false, .int .i64 0] 33 ?_;intro b hg w8 hbox hb;have d:=Aside0.mk hbox;have a4:=hz HB hg;have X:=nl c hg;have Y:=ng c hg;have D:=nl g hg;have Z:=ng g hg;replace c:=kb c hb;replace g:=kb g hb;replace HB:=hs HB hb;clear hb hbox hg;have bd:=U.out;have be:=W.out;have a5:=X.out;have a6:=Y.out;have:=cf7 c)|(refine gl (some 6) Tryz.func58 #[.slice K y.length L] rfl ?_;(with_reducible refine(dS.calls k _ _ y i _ (cb ap.out) aq.out A2.out).mono ?_);rintro e bm ⟨bh,rfl,ho0,hb⟩;refine⟨_,rfl, ?_⟩;have v:=Aside0.mk (Kd.S_lower ho0 (aM bl));replace c:=kb c hb;replace g:=kb g hb;replace d:=kb d hb;replace HB:=hs HB hb;obtain⟨o,q,aR⟩:=Kd.S_slice v.out;subst aR;have a7:=Z.out;have a8:=D.out;have:=cf7 d;have:=cf7 c)|(refine gl (some 10) Tryz.func59 #[.slice M z.length O] rfl ?_;(with_reducible refine(dE.calls k _ _ z j _ (cb ar.out) aw.out A3.out).mono ?_);rintro e bo ⟨bj,rfl,ho0,hb⟩;refine⟨_,rfl, ?_⟩;have E:=Aside0.mk (Kd.S_lower ho0 (aM bl));replace v:=Aside0.mk (Kd.S_below (by(with_reducible repeat(first|apply Kd.S_alloc|apply Kd.S_drewN|apply Kd.S_drew));exact(Kd.S_mono (Kd.S_far (p:=⟨b,0,none⟩) (Kd.S_types v.out d.out (by decide)) (fun _ hk=>hk.2) (.slice o i.length q)) (fun _ h_=>h_.1))) hb);replace c:=kq c hb;replace g:=kq g hb;replace d:=kp b #[.slice o i.length q, .slice none 0 0, .slice none 0 0, .int .i64 0, .int .i64 0, .bool false, .int .i64 0] 33 hb;replace HB:=hs HB hb;obtain⟨r,s,aS⟩:=Kd.S_slice E.out;subst aS;have:=cf7 d;have:=cf7 c)|(refine gl (some 14) Tryz.func60 #[.slice P A.length T] rfl ?_;(with_reducible refine(bY.calls k _ _ A m _ (cb aB.out) aE.out A4.out).mono ?_);rintro e bp ⟨bk,rfl,ho0,hb⟩;refine⟨_,rfl, ?_⟩;have J:=Aside0.mk (Kd.R_lower ho0 (aM bl));replace v:=Aside0.mk (Kd.S_below (by(with_reducible repeat(first|apply Kd.S_alloc|apply Kd.S_drewN|apply Kd.S_drew));exact(Kd.S_mono (Kd.S_far (p:=⟨b,1,none⟩) (Kd.S_types v.out d.out (by decide)) (fun _ hk=>hk.2) (.slice r j.length s)) (fun _ h_=>h_.1))) hb);replace E:=Aside0.mk (Kd.S_below (by(with_reducible repeat(first|apply Kd.S_alloc|apply Kd.S_drewN|apply Kd.S_drew));exact(Kd.S_mono (Kd.S_far (p:=⟨b,1,none⟩) (Kd.S_types E.out d.out (by decide)) (fun _ hk=>hk.2) (.slice r j.length s)) (fun _ h_=>h_.1))) hb);replace c:=kq c hb;replace g:=kq g hb;replace d:=kp b #[.slice o i.length q, .slice r j.length s, .slice none 0 0, .int .i64 0, .int .i64 0, .bool false, .int .i64 0] 33 hb;replace HB:=hs HB hb;obtain⟨t,u,a0⟩:=Kd.R_slice J.out;subst a0;have:=cf7 d;have:=cf7 c)|(refine gl (some 24) Tryz.func61 #[.agg #[.bool G, .int .i64 I]] rfl ?_;(with_reducible refine(iq.calls G I x B _ A5.out).mono ?_);rintro e br ⟨rfl,hb⟩;refine⟨_,rfl, ?_⟩;replace v:=Aside0.mk (Kd.S_below (by(with_reducible repeat(first|apply Kd.S_alloc|apply Kd.S_drewN|apply Kd.S_drew));exact(Kd.S_mono (Kd.S_far (p:=⟨b,4,none⟩) (Kd.S_far (p:=⟨b,3,none⟩) (Kd.S_far (p:=⟨b,2,none⟩) (Kd.S_types v.out d.out (by decide)) (fun _ hk=>hk.2) (.slice t m.length u)) (fun _ hk=>hk.2) (.int .i64 l)) (fun _ hk=>hk.2) (.int .i64 n)) (fun _ h_=>h_.1))) hb);replace E:=Aside0.mk (Kd.S_below (by(with_reducible repeat(first|apply Kd.S_alloc|apply Kd.S_drewN|apply Kd.S_drew));exact(Kd.S_mono (Kd.S_far (p:=⟨b,4,none⟩) (Kd.S_far (p:=⟨b,3,none⟩) (Kd.S_far (p:=⟨b,2,none⟩) (Kd.S_types E.out d.out (by decide)) (fun _ hk=>hk.2) (.slice t m.length u)) (fun _ hk=>hk.2) (.int .i64 l)) (fun _ hk=>hk.2) (.int .i64 n)) (fun _ h_=>h_.1))) hb);replace J:=Aside0.mk (Kd.R_below (by(with_reducible repeat(first|apply Kd.R_alloc|apply Kd.R_drewN|apply Kd.R_drew));exact(Kd.R_mono (Kd.R_far (p:=⟨b,4,none⟩) (Kd.R_far (p:=⟨b,3,none⟩) (Kd.R_far (p:=⟨b,2,none⟩) (Kd.R_types J.out d.out (by decide)) (fun _ hk=>hk.2) (.slice t m.length u)) (fun _ hk=>hk.2) (.int .i64 l)) (fun _ hk=>hk.2) (.int .i64 n)) (fun _ h_=>h_.1))) hb);replace c:=kq c hb;replace g:=kq g hb;replace d:=kp b #[.slice o i.length q, .slice r j.length s, .slice t m.length u, .int .i64 l, .int .i64 n, .bool false, .int .i64 0] 33 hb;replace HB:=hs HB hb;have:=cf7 d;have:=cf7 g))
 refine bodyPost_ret (results_cell_row rfl _ _ a 33 #[.slice o i.length q, .slice r j.length s, .slice t m.length u, .int .i64 l, .int .i64 n, .bool x, .int .i64 B] (0,0) _ rfl (by(with_reducible repeat(first|refine aC ?_ _|refine au ?_|refine aA ?_ _));refine dC (cs:= #[.slice o i.length q, .slice r j.length s, .slice t m.length u, .int .i64 l, .int .i64 n, .bool x, .int .i64 0]) ?_ 6 _ rfl;(with_reducible repeat(first|refine aC ?_ _|refine au ?_|refine aA ?_ _));refine dC (cs:= #[.slice o i.length q, .slice r j.length s, .slice t m.length u, .int .i64 l, .int .i64 n, .bool false, .int .i64 0]) ?_ 5 _ rfl;(with_reducible repeat(first|refine aC ?_ _|refine au ?_|refine aA ?_ _));refine dC (cs:= #[.slice o i.length q, .slice r j.length s, .slice t m.length u, .int .i64 l, .int .i64 0, .bool false, .int .i64 0]) ?_ 4 _ rfl;(with_reducible repeat(first|refine aC ?_ _|refine au ?_|refine aA ?_ _));refine dC (cs:= #[.slice o i.length q, .slice r j.length s, .slice t m.length u, .int .i64 0, .int .i64 0, .bool false, .int .i64 0]) ?_ 3 _ rfl;(with_reducible repeat(first|refine aC ?_ _|refine au ?_|refine aA ?_ _));refine dC (cs:= #[.slice o i.length q, .slice r j.length s, .slice none 0 0, .int .i64 0, .int .i64 0, .bool false, .int .i64 0]) ?_ 2 _ rfl;(with_reducible repeat(first|refine aC ?_ _|refine au ?_|refine aA ?_ _));refine dC (cs:= #[.slice o i.length q, .slice none 0 0, .slice none 0 0, .int .i64 0, .int .i64 0, .bool false, .int .i64 0]) ?_ 1 _ rfl;(with_reducible repeat(first|refine aC ?_ _|refine au ?_|refine aA ?_ _));refine dC (cs:= #[.slice none 0 0, .slice none 0 0, .slice none 0 0, .int .i64 0, .int .i64 0, .bool false, .int .i64 0]) ?_ 0 _ rfl;(with_reducible repeat(first|refine aC ?_ _|refine au ?_|refine aA ?_ _));refine fH ?_ D.out _;(with_reducible repeat(first|refine aC ?_ _|refine au ?_|refine aA ?_ _));refine fH ?_ D.out _;(with_reducible repeat(first|refine aC ?_ _|refine au ?_|refine aA ?_ _));exact g.out) Tryz.underlying33 rfl (by kernel_rfl)) rfl ?_
 exact⟨_,_,_,by first|rfl|(simp[aW,aX]<;>rfl)|(simp[*,aW,aX]<;>rfl),by(with_reducible repeat(first|apply Kd.S_alloc|apply Kd.S_drewN|apply Kd.S_drew));exact Kd.S_mono (Kd.S_far (p:=⟨a,6,none⟩) (Kd.S_far (p:=⟨a,5,none⟩) (Kd.S_far (p:=⟨a,4,none⟩) (Kd.S_far (p:=⟨a,3,none⟩) (Kd.S_far (p:=⟨a,2,none⟩) (Kd.S_far (p:=⟨a,1,none⟩) (Kd.S_far (p:=⟨a,0,none⟩) (Kd.S_far (p:=⟨b,6,none⟩) (Kd.S_far (p:=⟨b,5,none⟩) (Kd.S_types (Kd.S_types v.out d.out (by decide)) g.out (by decide)) (fun _ hk=>hk.1.2) (.bool x)) (fun _ hk=>hk.1.2) (.int .i64 B)) (fun _ hk=>hk.2) (.slice o i.length q)) (fun _ hk=>hk.2) (.slice r j.length s)) (fun _ hk=>hk.2) (.slice t m.length u)) (fun _ hk=>hk.2) (.int .i64 l)) (fun _ hk=>hk.2) (.int .i64 n)) (fun _ hk=>hk.2) (.bool x)) (fun _ hk=>hk.2) (.int .i64 B)) (fun _ hk=>trivial),by(with_reducible repeat(first|apply Kd.S_alloc|apply Kd.S_drewN|apply Kd.S_drew));exact Kd.S_mono (Kd.S_far (p:=⟨a,6,none⟩) (Kd.S_far (p:=⟨a,5,none⟩) (Kd.S_far (p:=⟨a,4,none⟩) (Kd.S_far (p:=⟨a,3,none⟩) (Kd.S_far (p:=⟨a,2,none⟩) (Kd.S_far (p:=⟨a,1,none⟩) (Kd.S_far (p:=⟨a,0,none⟩) (Kd.S_far (p:=⟨b,6,none⟩) (Kd.S_far (p:=⟨b,5,none⟩) (Kd.S_types (Kd.S_types E.out d.out (by decide)) g.out (by decide)) (fun _ hk=>hk.1.2) (.bool x)) (fun _ hk=>hk.1.2) (.int .i64 B)) (fun _ hk=>hk.2) (.slice o i.length q)) (fun _ hk=>hk.2) (.slice r j.length s)) (fun _ hk=>hk.2) (.slice t m.length u)) (fun _ hk=>hk.2) (.int .i64 l)) (fun _ hk=>hk.2) (.int .i64 n)) (fun _ hk=>hk.2) (.bool x)) (fun _ hk=>hk.2) (.int .i64 B)) (fun _ hk=>trivial),by(with_reducible repeat(first|apply Kd.R_alloc|apply Kd.R_drewN|apply Kd.R_drew));exact Kd.R_mono (Kd.R_far (p:=⟨a,6,none⟩) (Kd.R_far (p:=⟨a,5,none⟩) (Kd.R_far (p:=⟨a,4,none⟩) (Kd.R_far (p:=⟨a,3,none⟩) (Kd.R_far (p:=⟨a,2,none⟩) (Kd.R_far (p:=⟨a,1,none⟩) (Kd.R_far (p:=⟨a,0,none⟩) (Kd.R_far (p:=⟨b,6,none⟩) (Kd.R_far (p:=⟨b,5,none⟩) (Kd.R_types (Kd.R_types J.out d.out (by decide)) g.out (by decide)) (fun _ hk=>hk.1.2) (.bool x)) (fun _ hk=>hk.1.2) (.int .i64 B)) (fun _ hk=>hk.2) (.slice o i.length q)) (fun _ hk=>hk.2) (.slice r j.length s)) (fun _ hk=>hk.2) (.slice t m.length u)) (fun _ hk=>hk.2) (.int .i64 l)) (fun _ hk=>hk.2) (.int .i64 n)) (fun _ hk=>hk.2) (.bool x)) (fun _ hk=>hk.2) (.int .i64 B)) (fun _ hk=>trivial),bl⟩
end Go.Proofs.YteinbmkgenhocaaGreat.P
end
section
namespace Go.Proofs.YteinbmkgenhocaaGreat.P
open Go Go.RowKit Go.Proofs.YteinbmkgenhocaaGreatW.PrintWords
set_option linter.unusedVariables false
set_option maxRecDepth 100000
set_option linter.unusedSimpArgs false
theorem lT {r:Int} (h:8≤r):iV r= .iface 210 (.agg #[.int .i64 (r - 8)]):=by
  unfold iV
  rw[if_neg (by omega),if_neg (by omega),if_neg (by omega),if_neg (by omega),if_neg (by omega),if_neg (by omega)]
set_option maxHeartbeats 2000000 in
set_option maxRecDepth 100000 in
theorem dP.calls' (a0 a1 r:Int) (w:World) (h:dP.f a0 a1=some r):
    Calls Tryz.prog 127 #[.int .i64 a0, .int .i64 a1] w fun e w' =>e= .returned (iV r)∧w=w' :=by
  unfold dP.f at h
  split at h
  · rename_i hb
    obtain⟨h0,h1,h2,h3⟩:=hb
    by_cases c0:a1=0
    · subst c0
      obtain rfl:0=r:=by simpa using h
      go_enter Tryz.func127,Tryz.ntmps127
      go_wp2
      go_ret
      exact⟨rfl,rfl⟩
    by_cases c1:a1=1
    · subst c1
      obtain rfl:1=r:=by simpa using h
      go_enter Tryz.func127,Tryz.ntmps127
      go_wp2
      go_ret
      exact⟨rfl,rfl⟩
    by_cases c2:a1=2
    · subst c2
      obtain rfl:2=r:=by simpa using h
      go_enter Tryz.func127,Tryz.ntmps127
      go_wp2
      go_ret
      exact⟨rfl,rfl⟩
    by_cases c3:a1=3
    · subst c3
      obtain rfl:3=r:=by simpa using h
      go_enter Tryz.func127,Tryz.ntmps127
      go_wp2
      go_ret
      exact⟨rfl,rfl⟩
    by_cases c4:a1=4
    · subst c4
      obtain rfl:4=r:=by simpa using h
      go_enter Tryz.func127,Tryz.ntmps127
      go_wp2
      go_ret
      exact⟨rfl,rfl⟩
    rw[if_neg c0,if_neg c1,if_neg c2,if_neg c3,if_neg c4]at h
    have b0:(a1==0)=false:=by simpa using c0
    have b1:(a1==1)=false:=by simpa using c1
    have b2:(a1==2)=false:=by simpa using c2
    have b3:(a1==3)=false:=by simpa using c3
    have b4:(a1==4)=false:=by simpa using c4
    clear c0 c1 c2 c3 c4
    by_cases c5:8≤a1
    · by_cases c6:a1<8+a0
      · rw[if_pos ⟨c5,c6⟩]at h
        obtain rfl:=Option.some.inj h
        have H8:=Aside0.mk (lT c5)
        clear h
        go_enter Tryz.func127,Tryz.ntmps127
        go_wp2
        go_ret
        exact⟨by rw[H8.out];rfl,rfl⟩
      · rw[if_neg (by omega)]at h
        obtain rfl:=Option.some.inj h
        go_enter Tryz.func127,Tryz.ntmps127
        go_wp2
        go_ret
        exact⟨rfl,rfl⟩
    · rw[if_neg (by omega)]at h
      obtain rfl:=Option.some.inj h
      go_enter Tryz.func127,Tryz.ntmps127
      go_wp2
      go_ret
      exact⟨rfl,rfl⟩
  ·cases h
theorem dP.calls (a0 a1 r:Int) (w:World) (h:dP.f a0 a1=some r):
    Calls Tryz.prog 127 #[.int .i64 a0, .int .i64 a1] w fun e w' =>e= .returned (iV r)∧Drawn0 w w' :=
  (dP.calls' a0 a1 r w h).mono fun e w' ⟨he,hw⟩=>⟨he,hw▸Drawn0.refl w⟩
theorem o5 {c t r:Int} (h:dP.f c t=some r):r= -1∨r=0∨r=1∨r=2∨r=3∨r=4∨(8≤r∧r<8+c):=by
  unfold dP.f at h
  split at h
  · repeat' split at h
    all_goals (have:=Option.some.inj h;omega)
  ·cases h
set_option maxRecDepth 100000 in
theorem uN (r:Int) (W:World):(binOp .eql 167 (iV r) .nilIface).run Tryz.prog W= .ok (.bool (r== -1)) W:=by
  by_cases h:r= -1
  ·subst h;rfl
  · have e:(r== -1)=false:=by simpa using h
    rw[e]
    unfold iV
    rw[if_neg h]
    repeat' split
    all_goals rfl
set_option maxRecDepth 100000 in
theorem uO (r:Int) (W:World):(binOp .neq 167 (iV r) .nilIface).run Tryz.prog W= .ok (.bool (r != -1)) W:=by
  by_cases h:r= -1
  ·subst h;rfl
  · have e:(r != -1)=true:=by simpa using h
    rw[e]
    unfold iV
    rw[if_neg h]
    repeat' split
    all_goals rfl
theorem nP {r:Int} (h:r≠ -1): ∃u x,iV r= .iface u x:=by
  unfold iV
  rw[if_neg h]
  repeat' split
  all_goals exact⟨_,_,rfl⟩
theorem rT (r:Int) (t:TypeId) (o:Operand) (W:World):(eqGuard .eql t o (.const .nilIface) (iV r) .nilIface).run Tryz.prog W= .ok () W:=by
  by_cases h:r= -1
  · subst h
    cases o<;>rfl
  · obtain⟨u,x,e⟩:=nP h
    rw[e];rfl
theorem rU (r:Int) (t:TypeId) (o:Operand) (W:World):(eqGuard .neq t o (.const .nilIface) (iV r) .nilIface).run Tryz.prog W= .ok () W:=by
  by_cases h:r= -1
  · subst h
    cases o<;>rfl
  · obtain⟨u,x,e⟩:=nP h
    rw[e];rfl
def lF (r:Int):Prop:=r= -1∨r=0∨r=1∨r=2∨r=3∨r=4∨8≤r
theorem rV {r:Int} (h:lF r) (W:World):(Instr.typeAssert (iV r) 167 205 true).run Tryz.prog W= .ok (.tuple #[.agg #[], .bool (r==1)]) W:=by
  rcases h with rfl|rfl|rfl|rfl|rfl|rfl|h
  all_goals try rfl
  rw[lT h,show(r==1)=false by simp;omega];rfl
theorem pV {r:Int} (h:lF r) (W:World):(Instr.typeAssert (iV r) 167 208 true).run Tryz.prog W= .ok (.tuple #[.agg #[.bool (r==4)], .bool (r==3||r==4)]) W:=by
  rcases h with rfl|rfl|rfl|rfl|rfl|rfl|h
  all_goals try rfl
  rw[lT h,show(r==3)=false by simp;omega,show(r==4)=false by simp;omega];rfl
theorem pW {r:Int} (h:lF r) (W:World):(Instr.typeAssert (iV r) 167 210 true).run Tryz.prog W= .ok (.tuple #[.agg #[.int .i64 (if 8≤r then r - 8 else 0)], .bool (decide (8≤r))]) W:=by
  rcases h with rfl|rfl|rfl|rfl|rfl|rfl|h
  all_goals try rfl
  rw[lT h,if_pos h,decide_eq_true h];rfl
set_option maxHeartbeats 2000000 in
set_option maxRecDepth 100000 in
theorem eO.calls (a0 a1:Int) (r:Bool) (w:World) (h:eO.f a0 a1=some r):
    Calls Tryz.prog 145 #[.int .i64 a0, .int .i64 a1] w fun e w' =>e= .returned (.bool r)∧Drawn0 w w' :=by
  unfold eO.f at h
  obtain⟨q,hq,hr⟩:=Option.bind_eq_some_iff.1 h
  obtain rfl:=Option.some.inj hr
  clear h hr
  have hc:lF q:=by have:=o5 hq;unfold lF;omega
  have A:=Aside0.mk hq
  clear hq
  have s1:=rV hc
  have s2:=pV hc
  have s3:=pW hc
  have b:(q==1||(q==3||q==4)||decide (8≤q))=decide (q=1∨q=3∨q=4∨8≤q):=by
    rw[Bool.eq_iff_iff];simp;omega
  have B:=Aside0.mk b
  clear b hc
  rw[←B.out]
  clear B
  by_cases h1:q=1
  · subst h1
    go_enter Tryz.func145,Tryz.ntmps145
    go_wp2_with (go_at_call 127;refine(dP.calls' _ _ _ _ A.out).mono ?_;rintro e w' ⟨rfl,rfl⟩)
    go_ret
    exact⟨rfl,Drawn0.refl _⟩
  · have b1:(q==1)=false:=by simpa using h1
    by_cases h2:(q==3||q==4)=true
    · go_enter Tryz.func145,Tryz.ntmps145
      go_wp2_with (go_at_call 127;refine(dP.calls' _ _ _ _ A.out).mono ?_;rintro e w' ⟨rfl,rfl⟩)
      all_goals go_ret
      all_goals exact⟨by simp[h2],Drawn0.refl _⟩
    · have b2:(q==3||q==4)=false:=by simpa using h2
      by_cases h3:8≤q
      · have b3:decide (8≤q)=true:=decide_eq_true h3
        go_enter Tryz.func145,Tryz.ntmps145
        go_wp2_with (go_at_call 127;refine(dP.calls' _ _ _ _ A.out).mono ?_;rintro e w' ⟨rfl,rfl⟩)
        all_goals go_ret
        all_goals exact⟨by simp[*],Drawn0.refl _⟩
      · have b3:decide (8≤q)=false:=decide_eq_false h3
        go_enter Tryz.func145,Tryz.ntmps145
        go_wp2_with (go_at_call 127;refine(dP.calls' _ _ _ _ A.out).mono ?_;rintro e w' ⟨rfl,rfl⟩)
        all_goals go_ret
        all_goals exact⟨by simp[*],Drawn0.refl _⟩
end Go.Proofs.YteinbmkgenhocaaGreat.P
end
section
namespace Go.Proofs.YteinbmkgenhocaaGreat.P
open Go.RowKit Go.Proofs.YteinbmkgenhocaaGreatW.PrintWords Go.Proofs.YteinbmkgenhocaaGreatW.PrintLast Go.Proofs.YteinbmkgenhocaaGreatW.PrintMore
attribute [local go_sem] ah ai av ax af ag aj ak
set_option linter.unusedVariables false
set_option linter.unusedSimpArgs false
set_option maxHeartbeats 8000000 in
set_option maxRecDepth 100000 in
theorem aK.calls (k :Nat) (A0:Option Addr) (c0:Nat) (l0:List (S126)) (r:Bool) (w:World) (hr0:Kd.C eB w A0 l0.length l0) (hc0:l0.length≤c0) (h:aK.f k l0=some r):
  Calls Tryz.prog 78 #[.slice A0 l0.length c0] w fun e w' =>e= .returned (.bool r)∧Below w.heap.size w w' :=by
 have cx:=Tryz.underlying126
 have aE:=Aside0.mk hr0
 have da:=Aside0.mk hc0
 clear hr0 hc0
 have HB:=Aside0.mk (Below.refl w.heap.size w)
 have H:(if(l0.length:Int)<2 then(aK.j0 k l0 true)else(aK.j0 k l0 (decide ((l0.length:Int)>5))))=some r:=h
 clear h
 have bo:=Aside0.mk H
 clear H
 go_enter Tryz.func78,Tryz.ntmps78
 go_upto_region 1 with(fail)
 go_cut [15] (fun v15 wc=> ∃(kq:Nat) (P:Bool),v15= .bool P∧Aside0 (aK.j0 kq l0 P=some r)∧Aside0 (kq≤k)∧Aside0 (Below w.heap.size w wc))
 case first=>
  have H:=bo.out
  clear bo
  by_cases c3:(l0.length:Int)<2
  ·rw[if_pos c3]at H
   have W:decide ((l0.length:Int)<2)=true:=decide_eq_true c3
   have cg:decide (l0.length<2)=true:=decide_eq_true (by omega)
   clear c3
   (first|rw[W]|(simp only[bq,bu];rw[W])|skip)
   have H' :=Aside0.mk H
   clear H
   go_wp2
   go_meet
   case rel=>exact⟨_,(true),(by first|rfl|(simp;done)|(simp[*];done)),H',⟨by first|omega|exact Nat.le_refl _⟩,⟨bl⟩⟩
  rw[if_neg c3]at H
  have W:decide ((l0.length:Int)<2)=false:=decide_eq_false c3
  have cg:decide (l0.length<2)=false:=decide_eq_false (by omega)
  clear c3
  (first|rw[W]|(simp only[bq,bu];rw[W])|skip)
  have H' :=Aside0.mk H
  clear H
  go_wp2
  go_meet
  case rel=>exact⟨_,(decide ((l0.length:Int)>5)),(by first|rfl|(simp;done)|(simp[*];done)),H',⟨by first|omega|exact Nat.le_refl _⟩,⟨bl⟩⟩
 case rest =>
  clear bo
  obtain⟨kq,P,rfl,HA,y,HB⟩:=hcut
  cases kq with
  |zero=>exact absurd HA.out (by simp[aK.j0])
  | succ cs =>
   have H:=HA.out
   clear HA
   simp only[aK.j0]at H
   by_cases c4:P=true
   ·subst c4
    replace H:=it H
    obtain rfl:=Option.some.inj H;clear H
    go_wp2
    go_ret
    exact fin
   replace c4:=Bool.eq_false_iff.mpr c4
   subst c4
   replace H:=ie H
   have bp:=Aside0.mk H
   clear H
   go_upto_region 3 with(fail)
   go_cut [28] (fun v28 wc=> ∃(kq:Nat) (T:Bool),v28= .bool T∧Aside0 (aK.j1 kq l0 T=some r)∧Aside0 (kq≤cs)∧Aside0 (Below w.heap.size w wc))
   case first=>
    have H:=bp.out
    clear bp
    by_cases c6:0<(l0.length:Int)
    ·rw[if_pos c6]at H
     have br:decide (0<(l0.length:Int))=true:=decide_eq_true c6
     have cX:decide (0<l0.length)=true:=decide_eq_true (by omega)
     clear c6
     (first|rw[br]|(simp only[bq,bu];rw[br])|skip)
     by_cases c7:((aD l0 0).f0)=(-1)
     ·rw[if_pos c7]at H
      have ch:=beq_iff_eq.mpr c7
      have ci:=bne_eq_false_iff_eq.mpr c7
      clear c7
      have H' :=Aside0.mk H
      clear H
      have E:0≤(0:Int):=(by omega)
      have G:0<(l0.length:Int):=od
      obtain⟨a8,bs,bt,aO,g,c,q,s⟩:=gI aE.out 0 E G
      cases aO
      have b0:(0<l0.length)=True:=eq_true (by omega)
      (try rw[show((0:Int)).toNat=0 from rfl]at g)
      (try rw[show 0 * 2=0 from rfl]at g)
      (try rw[Addr.add_zero']at g)
      (try rw[show((0:Int)).toNat=0 from rfl]at c)
      (try rw[show 0 * 2=0 from rfl]at c)
      (try rw[Addr.add_zero']at c)
      obtain⟨g,c⟩:=hc2 HB g c
      have bj:=Aside0.mk s
      have bk:=Aside0.mk q
      clear s q
      replace E:=eq_true E
      replace G:=eq_true G
      have aP:0≤(0:Int):=(by omega)
      have aR:0<(l0.length:Int):=od
      obtain⟨b1,ct,cv,cj,t,n,Z,ab⟩:=gI aE.out 0 aP aR
      obtain rfl:a8=b1:=(by injection cj)
      have cy:(0<l0.length)=True:=eq_true (by omega)
      (try rw[show((0:Int)).toNat=0 from rfl]at t)
      (try rw[show 0 * 2=0 from rfl]at t)
      (try rw[Addr.add_zero']at t)
      (try rw[show((0:Int)).toNat=0 from rfl]at n)
      (try rw[show 0 * 2=0 from rfl]at n)
      (try rw[Addr.add_zero']at n)
      obtain⟨t,n⟩:=hc2 HB t n
      have co:=Aside0.mk ab
      have cp:=Aside0.mk Z
      clear ab Z
      replace aP:=eq_true aP
      replace aR:=eq_true aR
      have ea_:=Option.some.inj (c.symm.trans n)
      injection ea_ with ea_ en_ ec_
      subst ea_
      subst ec_
      clear en_
      go_wp2
      go_meet
      case rel=>exact⟨_,(((((aD l0 0).f1).length:Int) !=0)),(by first|rfl|(simp;done)|(simp[*];done)),H',⟨by have:=y.out;first|omega|exact Nat.le_refl _⟩,⟨bl⟩⟩
     rw[if_neg c7]at H
     have ch:=beq_eq_false_iff_ne.mpr c7
     have ci:=bne_iff_ne.mpr c7
     have H' :=Aside0.mk H
     clear H
     have E:0≤(0:Int):=(by omega)
     have G:0<(l0.length:Int):=od
     obtain⟨a8,bs,bt,aO,g,c,q,s⟩:=gI aE.out 0 E G
     cases aO
     have b0:(0<l0.length)=True:=eq_true (by omega)
     (try rw[show((0:Int)).toNat=0 from rfl]at g)
     (try rw[show 0 * 2=0 from rfl]at g)
     (try rw[Addr.add_zero']at g)
     (try rw[show((0:Int)).toNat=0 from rfl]at c)
     (try rw[show 0 * 2=0 from rfl]at c)
     (try rw[Addr.add_zero']at c)
     obtain⟨g,c⟩:=hc2 HB g c
     have bj:=Aside0.mk s
     have bk:=Aside0.mk q
     clear s q
     replace E:=eq_true E
     replace G:=eq_true G
     go_wp2
     go_meet
     case rel=>exact⟨_,(true),(by first|rfl|(simp;done)|(simp[*];done)),H',⟨by have:=y.out;first|omega|exact Nat.le_refl _⟩,⟨bl⟩⟩
    rw[if_neg c6]at H
    exact absurd H (by simp)
   case rest =>
    clear bp
    obtain⟨kq,T,rfl,HA,D,HB⟩:=hcut
    cases kq with
    |zero=>exact absurd HA.out (by simp[aK.j1])
    | succ cw =>
     have H:=HA.out
     clear HA
     simp only[aK.j1]at H
     by_cases c8:T=true
     ·subst c8
      replace H:=it H
      obtain rfl:=Option.some.inj H;clear H
      go_wp2
      go_ret
      exact fin
     replace c8:=Bool.eq_false_iff.mpr c8
     subst c8
     replace H:=ie H
     by_cases c9:1<(l0.length:Int)
     ·rw [if_pos c9] at H
      have cY:decide (1<(l0.length:Int))=true:=decide_eq_true c9
      have c1:decide (1<l0.length)=true:=decide_eq_true (by omega)
      clear c9
      have aS:=Aside0.mk H
      clear H
      have a0:0≤(1:Int):=(by omega)
      have a1:1<(l0.length:Int):=od
      obtain⟨b2,K,z,ck,u,v,ac,ad⟩:=gI aE.out 1 a0 a1
      cases ck
      (try simp only[show(1:Int).toNat=1 from rfl,Nat.reduceMul,Nat.reduceEqDiff,Go.Addr.add,↓reduceIte]at u)
      (try simp only[show(1:Int).toNat=1 from rfl,Nat.reduceMul,Nat.reduceEqDiff,Go.Addr.add,↓reduceIte]at v)
      have cA:(1<l0.length)=True:=eq_true (by omega)
      (try rw[show((1:Int)).toNat=1 from rfl]at u)
      (try rw[show 1 * 2=2 from rfl]at u)
      (try rw[show((1:Int)).toNat=1 from rfl]at v)
      (try rw[show 1 * 2=2 from rfl]at v)
      obtain⟨u,v⟩:=hc2 HB u v
      have bm:=Aside0.mk ad
      have cq:=Aside0.mk ac
      clear ad ac
      replace a0:=eq_true a0
      replace a1:=eq_true a1
      go_upto_region 6 with(first|((with_reducible refine gd 3 rfl ?_);(try(refine aU (by rfl) ?_;dsimp only));refine bx 3 #[.int .i64 0, .slice none 0 0] 126 ?_;intro o hg db hbox hb;have d:=Aside0.mk hbox;have a9:=hz HB hg;have cC:=hz HB hg;replace HB:=hs HB hb;clear hb hbox hg;have:=cf2 d))
      (try simp only[Act.put,List.setIfInBounds_toArray,List.set_cons_zero,List.set_cons_succ])
      go_cut [47] (fun v47 wc=> ∃(kq:Nat) (U:Bool),v47= .bool U∧Aside0 (aK.j2 kq l0 U=some r)∧Aside0 (kq≤cw)∧Aside0 (wc.heap[o]? =some (.cells #[.int .i64 ((aD l0 1).f0),(.slice K ((aD l0 1).f1).length z)] 126 (0,0)))∧Aside0 (Below w.heap.size w wc))
      case first=>
       have H:=aS.out
       clear aS
       by_cases c13:((aD l0 1).f0)=0
       ·rw[if_pos c13]at H
        have L:=beq_iff_eq.mpr c13
        have b3:=bne_eq_false_iff_eq.mpr c13
        clear c13
        (first|rw[L]|(simp only[bq,bu];rw[L])|skip)
        by_cases c14:(((aD l0 1).f1).length:Int)=1
        ·rw[if_pos c14]at H
         have b4:=beq_iff_eq.mpr c14
         have b5:=bne_eq_false_iff_eq.mpr c14
         clear c14
         by_cases c15:0<(((aD l0 1).f1).length:Int)
         ·rw[if_pos c15]at H
          have cD:decide (0<(((aD l0 1).f1).length:Int))=true:=decide_eq_true c15
          have cE:decide (0<((aD l0 1).f1).length)=true:=decide_eq_true (by omega)
          clear c15
          have H' :=Aside0.mk H
          clear H
          have:=cf2 d
          have a2:0≤(0:Int):=(by omega)
          have a3:0<(((aD l0 1).f1).length:Int):=od
          obtain⟨aw,cl,i⟩:=Kd.at_int bm.out 0 a2 a3
          cases cl
          have cF:(0<((aD l0 1).f1).length)=True:=eq_true (by omega)
          (try rw[show((0:Int)).toNat=0 from rfl]at i)
          (try rw[Addr.add_zero']at i)
          have A:aw.block≠o:=Nat.ne_of_lt (Nat.lt_of_lt_of_le (by have:=World.block_lt_of_cell? _ _ i;first|rwa [add_block]at this|exact this) a9.out)
          have B:aw.block≠o:=Nat.ne_of_lt (Nat.lt_of_lt_of_le (by have:=World.block_lt_of_cell? _ _ i;first|rwa [add_block]at this|exact this) a9.out)
          replace i:=hc HB i
          replace i:=(cell_far (p:=⟨o,0,none⟩) (by first|(rw[add_block];exact A)|(show(Addr.add _ _).block≠_;rw[add_block];exact A)|exact A) (.int .i64 ((aD l0 1).f0))).trans i
          replace i:=(cell_far (p:=⟨o,1,none⟩) (by first|(rw[add_block];exact B)|(show(Addr.add _ _).block≠_;rw[add_block];exact B)|exact B) (.slice (some aw) ((aD l0 1).f1).length z)).trans i
          clear A
          clear B
          replace a2:=eq_true a2
          replace a3:=eq_true a3
          go_wp2
          go_meet
          case rel=>exact⟨_,(((rd ((aD l0 1).f1) 0) !=1)),(by first|rfl|(simp;done)|(simp[*];done)),H',⟨by have:=y.out;have:=D.out;first|omega|exact Nat.le_refl _⟩,kf,⟨bl⟩⟩
         rw[if_neg c15]at H
         exact absurd H (by simp)
        rw[if_neg c14]at H
        have b4:=beq_eq_false_iff_ne.mpr c14
        have b5:=bne_iff_ne.mpr c14
        have H' :=Aside0.mk H
        clear H
        have:=cf2 d
        go_wp2
        go_meet
        case rel=>exact⟨_,(true),(by first|rfl|(simp;done)|(simp[*];done)),H',⟨by have:=y.out;have:=D.out;first|omega|exact Nat.le_refl _⟩,kf,⟨bl⟩⟩
       rw[if_neg c13]at H
       have L:=beq_eq_false_iff_ne.mpr c13
       have b3:=bne_iff_ne.mpr c13
       (first|rw[L]|(simp only[bq,bu];rw[L])|skip)
       have H' :=Aside0.mk H
       clear H
       have:=cf2 d
       go_wp2
       go_meet
       case rel=>exact⟨_,(true),(by first|rfl|(simp;done)|(simp[*];done)),H',⟨by have:=y.out;have:=D.out;first|omega|exact Nat.le_refl _⟩,kf,⟨bl⟩⟩
      case rest =>
       clear aS
       obtain⟨kq,U,rfl,HA,X,d,HB⟩:=hcut
       cases kq with
       |zero=>exact absurd HA.out (by simp[aK.j2])
       | succ ce =>
        have H:=HA.out
        clear HA
        simp only[aK.j2]at H
        by_cases c19:U=true
        ·subst c19
         replace H:=it H
         obtain rfl:=Option.some.inj H;clear H
         go_wp2
         go_ret
         exact fin
        replace c19:=Bool.eq_false_iff.mpr c19
        subst c19
        replace H:=ie H
        have H' :=Aside0.mk H
        clear H
        go_wp2
        go_loopg [50] ce (fun kq v50 w' => ∃(a:Int),v50= .int .i64 a∧Aside0 (aK.l0 kq l0 l0 (l0.length:Int) a=some r)∧Aside0 (kq≤ce)∧Aside0 (w'.heap[o]? =some (.cells #[.int .i64 ((aD l0 1).f0),(.slice K ((aD l0 1).f1).length z)] 126 (0,0)))∧Aside0 (Below w.heap.size w w'))
        case atStart=>exact⟨(0),(by first|rfl|(simp;done)|(simp[*];done)),H',⟨Nat.le_refl _⟩,kk d,⟨bl⟩⟩
        case round =>
         clear H'
         obtain⟨a,rfl,HA,Y,d,HB⟩:=hrel
         cases gk with
         |zero=>exact absurd HA.out (by simp[aK.l0])
         | succ k4 =>
          have H:=HA.out
          clear HA
          simp only[aK.l0]at H
          by_cases c20:a<(l0.length:Int)
          ·rw [if_pos c20]at H
           have b6:decide (a<(l0.length:Int))=true:=decide_eq_true c20
           clear c20
           by_cases c21:0≤a
           ·rw [if_pos c21]at H
            have cG:decide (0≤a)=true:=decide_eq_true c21
            clear c21
            by_cases ba:a<(l0.length:Int)
            ·rw [if_pos ba]at H
             have cH:decide (a<(l0.length:Int))=true:=decide_eq_true ba
             clear ba
             have a4:=Aside0.mk H
             clear H
             have a5:0≤(a:Int):=od
             have a6:a<(l0.length:Int):=od
             obtain⟨b7,aF,aL,cm,al,am,an,ao⟩:=gI aE.out a a5 a6
             obtain rfl:b2=b7:=(by injection cm)
             obtain⟨al,am⟩:=hc2 HB al am
             have ap:=Aside0.mk ao
             have cr:=Aside0.mk an
             clear ao an
             replace a5:=eq_true a5
             replace a6:=eq_true a6
             go_upto_region 11 with(first|((with_reducible refine gd 5 rfl ?_);(try(refine aU (by rfl) ?_;dsimp only));refine bx 5 #[.int .i64 0, .slice none 0 0] 126 ?_;intro bb hg dc hbox hb;have m:=Aside0.mk hbox;have cI:=hz HB hg;have j:=nl d hg;have l:=ng d hg;replace d:=kb d hb;replace HB:=hs HB hb;clear hb hbox hg;have cJ:=l.out;have cL:=j.out;have:=cf2 m))
             (try simp only[Act.put,List.setIfInBounds_toArray,List.set_cons_zero,List.set_cons_succ])
             go_cut [67] (fun v67 wc=> ∃(kq:Nat) (M:Bool),v67= .bool M∧Aside0 (aK.j4 kq l0 l0 (l0.length:Int) a M ((aD l0 a).f0) ((aD l0 a).f1)=some r)∧Aside0 (kq≤k4)∧Aside0 (wc.heap[o]? =some (.cells #[.int .i64 ((aD l0 1).f0),(.slice K ((aD l0 1).f1).length z)] 126 (0,0)))∧Aside0 (wc.heap[bb]? =some (.cells #[.int .i64 ((aD l0 a).f0),(.slice aF ((aD l0 a).f1).length aL)] 126 (0,0)))∧Aside0 (Below w.heap.size w wc))
             case first=>
              have H:=a4.out
              clear a4
              by_cases aq:a>1
              ·rw[if_pos aq]at H
               have O:decide (1<a)=true:=decide_eq_true aq
               clear aq
               (first|rw[O]|(simp only[bq,bu];rw[O])|skip)
               by_cases c28:((aD l0 a).f0)<0
               ·rw[if_pos c28]at H
                have b8:decide (((aD l0 a).f0)<0)=true:=decide_eq_true c28
                clear c28
                have H' :=Aside0.mk H
                clear H
                have cM:=l.out
                have cN:=j.out
                have:=cf2 m
                go_wp2
                go_meet
                case rel=>exact⟨_,(true),(by first|rfl|(simp;done)|(simp[*];done)),H',⟨by have:=y.out;have:=D.out;have:=X.out;have:=Y.out;first|omega|exact Nat.le_refl _⟩,kf,kf,⟨bl⟩⟩
               rw[if_neg c28]at H
               have b8:decide (((aD l0 a).f0)<0)=false:=decide_eq_false c28
               clear c28
               have H' :=Aside0.mk H
               clear H
               have cP:=l.out
               have cQ:=j.out
               have:=cf2 m
               go_wp2
               go_meet
               case rel=>exact⟨_,(decide (((aD l0 a).f0)≥a)),(by first|rfl|(simp;done)|(simp[*];done)),H',⟨by have:=y.out;have:=D.out;have:=X.out;have:=Y.out;first|omega|exact Nat.le_refl _⟩,kf,kf,⟨bl⟩⟩
              rw[if_neg aq]at H
              have O:decide (1<a)=false:=decide_eq_false aq
              clear aq
              (first|rw[O]|(simp only[bq,bu];rw[O])|skip)
              have H' :=Aside0.mk H
              clear H
              go_wp2
              go_meet
              case rel=>exact⟨_,(false),(by first|rfl|(simp;done)|(simp[*];done)),H',⟨by have:=y.out;have:=D.out;have:=X.out;have:=Y.out;first|omega|exact Nat.le_refl _⟩,kf,kf,⟨bl⟩⟩
             case rest=>
              clear a4
              obtain⟨kq,M,rfl,HA,aB,d,m,HB⟩:=hcut
              cases kq with
              |zero=>exact absurd HA.out (by simp[aK.j4])
              | succ bw=>
               have H:=HA.out
               clear HA
               simp only[aK.j4]at H
               by_cases bc:M=true
               ·subst bc
                replace H:=it H
                obtain rfl:=Option.some.inj H;clear H
                go_wp2
                go_ret
                exact fin
               replace bc:=Bool.eq_false_iff.mpr bc
               subst bc
               replace H:=ie H
               by_cases c34:(((aD l0 a).f1).length:Int)>2
               ·rw[if_pos c34]at H
                have b9:decide (2<(((aD l0 a).f1).length:Int))=true:=decide_eq_true c34
                have ca:decide (2<((aD l0 a).f1).length)=true:=decide_eq_true (by omega)
                clear c34
                obtain rfl:=Option.some.inj H;clear H
                have cR:=l.out
                have cS:=j.out
                have:=cf2 m
                go_wp2
                go_ret
                exact fin
               rw[if_neg c34]at H
               have b9:decide (2<(((aD l0 a).f1).length:Int))=false:=decide_eq_false c34
               have ca:decide (2<((aD l0 a).f1).length)=false:=decide_eq_false (by omega)
               clear c34
               have H' :=Aside0.mk H
               clear H
               have cT:=l.out
               have cU:=j.out
               have:=cf2 m
               go_wp2
               go_loopg [75] bw (fun kq v75 w' => ∃(b:Int),v75= .int .i64 b∧Aside0 (aK.l1 kq l0 l0 (l0.length:Int) a ((aD l0 a).f1) (((aD l0 a).f1).length:Int) b=some r)∧Aside0 (kq≤bw)∧Aside0 (w'.heap[o]? =some (.cells #[.int .i64 ((aD l0 1).f0),(.slice K ((aD l0 1).f1).length z)] 126 (0,0)))∧Aside0 (w'.heap[bb]? =some (.cells #[.int .i64 ((aD l0 a).f0),(.slice aF ((aD l0 a).f1).length aL)] 126 (0,0)))∧Aside0 (Below w.heap.size w w'))
               case atStart=>exact⟨(0),(by first|rfl|(simp;done)|(simp[*];done)),H',⟨Nat.le_refl _⟩,kk d,kk m,⟨bl⟩⟩
               case round=>
                clear H'
                obtain⟨b,rfl,HA,bd,d,m,HB⟩:=hrel
                cases gk with
                |zero=>exact absurd HA.out (by simp[aK.l1])
                | succ k6=>
                 have H:=HA.out
                 clear HA
                 simp only[aK.l1]at H
                 by_cases ar:b<(((aD l0 a).f1).length:Int)
                 ·rw [if_pos ar]at H
                  have cc:decide (b<(((aD l0 a).f1).length:Int))=true:=decide_eq_true ar
                  clear ar
                  by_cases c40:0≤b
                  ·rw[if_pos c40]at H
                   have cV:decide (0≤b)=true:=decide_eq_true c40
                   clear c40
                   by_cases be:b<(((aD l0 a).f1).length:Int)
                   ·rw[if_pos be]at H
                    have cW:decide (b<(((aD l0 a).f1).length:Int))=true:=decide_eq_true be
                    clear be
                    obtain⟨cn,cf,H⟩:=ob H
                    by_cases bh:cn=true
                    ·subst bh
                     replace H:=it H
                     have H' :=Aside0.mk H
                     clear H
                     have I:0≤(b:Int):=od
                     have J:b<(((aD l0 a).f1).length:Int):=od
                     obtain⟨cd,a7,x⟩:=Kd.at_int ap.out b I J
                     cases a7
                     replace x:=hc HB x
                     replace I:=eq_true I
                     replace J:=eq_true J
                     go_wp2_with (first|(refine gl (some 82) Tryz.func145 #[.int .i64 (l0.length:Int), .int .i64 (rd ((aD l0 a).f1) b)] rfl ?_;(with_reducible refine(eO.calls (l0.length:Int) (rd ((aD l0 a).f1) b) true _ cf.out).mono ?_);rintro e w' ⟨rfl,⟨nd,rfl⟩⟩;refine⟨_,rfl, ?_⟩))
                     go_roundg k6
                     case measure=>have:=y.out;have:=D.out;have:=X.out;have:=Y.out;have:=aB.out;have:=bd.out;omega
                     case rel=>exact⟨(wrap64 (b+1)),(by first|rfl|(simp;done)|(simp[*];done)),H',⟨by have:=y.out;have:=D.out;have:=X.out;have:=Y.out;have:=aB.out;have:=bd.out;omega⟩,kk d,kk m,⟨bl⟩⟩
                    replace bh:=Bool.eq_false_iff.mpr bh
                    subst bh
                    replace H:=ie H
                    obtain rfl:=Option.some.inj H;clear H
                    have I:0≤(b:Int):=od
                    have J:b<(((aD l0 a).f1).length:Int):=od
                    obtain⟨cd,a7,x⟩:=Kd.at_int ap.out b I J
                    cases a7
                    replace x:=hc HB x
                    replace I:=eq_true I
                    replace J:=eq_true J
                    go_wp2_with (first|(refine gl (some 82) Tryz.func145 #[.int .i64 (l0.length:Int), .int .i64 (rd ((aD l0 a).f1) b)] rfl ?_;(with_reducible refine(eO.calls (l0.length:Int) (rd ((aD l0 a).f1) b) false _ cf.out).mono ?_);rintro e w' ⟨rfl,⟨nd,rfl⟩⟩;refine⟨_,rfl, ?_⟩))
                    go_ret
                    exact fin
                   rw[if_neg be]at H
                   exact absurd H (by simp)
                  rw[if_neg c40]at H
                  exact absurd H (by simp)
                 rw[if_neg ar]at H
                 have cc:decide (b<(((aD l0 a).f1).length:Int))=false:=decide_eq_false ar
                 clear ar
                 have H' :=Aside0.mk H
                 clear H
                 go_wp2
                 go_roundg k6
                 case measure=>have:=y.out;have:=D.out;have:=X.out;have:=Y.out;have:=aB.out;have:=bd.out;omega
                 case rel=>exact⟨(wrap64 (a+1)),(by first|rfl|(simp;done)|(simp[*];done)),H',⟨by have:=y.out;have:=D.out;have:=X.out;have:=Y.out;have:=aB.out;have:=bd.out;omega⟩,kk d,⟨bl⟩⟩
            rw[if_neg ba]at H
            exact absurd H (by simp)
           rw[if_neg c21]at H
           exact absurd H (by simp)
          rw[if_neg c20]at H
          have b6:decide (a<(l0.length:Int))=false:=decide_eq_false c20
          clear c20
          obtain rfl:=Option.some.inj H;clear H
          go_wp2
          go_ret
          exact fin
     rw[if_neg c9]at H
     exact absurd H (by simp)
set_option maxHeartbeats 8000000 in
set_option maxRecDepth 100000 in
theorem dK.calls (A0:Option Addr) (c0:Nat) (l0:List (S126)) (a1:Int) (r:Bool) (w:World) (hr0:Kd.C eB w A0 l0.length l0) (hc0:l0.length≤c0) (h:dK.f l0 a1=some r):
  Calls Tryz.prog 146 #[.slice A0 l0.length c0, .int .i64 a1] w fun e w' =>e= .returned (.bool r)∧Drawn0 w w' :=by
 have b:=Aside0.mk hr0
 have c:=Aside0.mk hc0
 clear hr0 hc0
 have H:(if a1≥0 then(some (decide (a1<(l0.length:Int))))else(some false))=some r:=h
 clear h
 by_cases c3:a1≥0
 ·rw[if_pos c3]at H
  have a:decide (0≤a1)=true:=decide_eq_true c3
  clear c3
  obtain rfl:=Option.some.inj H;clear H
  go_enter Tryz.func146,Tryz.ntmps146
  go_wp2
  go_ret
  exact⟨by first|rfl|(simp;done)|(simp[*];done),by repeat(first|exact Drawn0.refl _|apply Drawn0.step)⟩
 rw[if_neg c3]at H
 have a:decide (0≤a1)=false:=decide_eq_false c3
 clear c3
 obtain rfl:=Option.some.inj H;clear H
 go_enter Tryz.func146,Tryz.ntmps146
 go_wp2
 go_ret
 exact⟨by first|rfl|(simp;done)|(simp[*];done),by repeat(first|exact Drawn0.refl _|apply Drawn0.step)⟩
set_option maxHeartbeats 8000000 in
set_option maxRecDepth 100000 in
theorem jm.calls (d:Int) (n:Int) (p:Option Addr) (q:Nat) (a:List Int) (s:Int) (t:Int) (u:Option Addr) (v:Nat) (i:List (S113)) (x:Option Addr) (y:Nat) (j:List (S57)) (z:Option Addr) (A:Nat) (k:List (S181)) (r:List Int) (w:World) (J:Kd.C (Kd.int .i64) w p a.length a) (K:a.length≤q) (L:Kd.C fG w u i.length i) (M:i.length≤v) (O:Kd.C k57 w x j.length j) (P:j.length≤y) (T:Kd.C fD w z k.length k) (U:k.length≤A) (h:jm.f d n a s t i j k=some r):
  Calls Tryz.prog 147 #[.agg #[.int .i64 d, .int .i64 n, .slice p a.length q, .int .i64 s, .int .i64 t, .slice u i.length v, .slice x j.length y, .slice z k.length A]] w fun e w' => ∃am:Value,e= .returned (am)∧Kd.R (Kd.int .i64) 3 w' w.heap.size (fun _=>True) am r∧Below w.heap.size w w' :=by
 have a2:=Tryz.underlying104
 have W:=Aside0.mk J
 have a3:=Aside0.mk K
 clear J K
 have a4:=Aside0.mk L
 have a5:=Aside0.mk M
 clear L M
 have a6:=Aside0.mk O
 have a7:=Aside0.mk P
 clear O P
 have a8:=Aside0.mk T
 have a9:=Aside0.mk U
 clear T U
 have HB:=Aside0.mk (Below.refl w.heap.size w)
 have H:(if d≥0 then(if([]:List Int).length<17592186044416 then((some (([]:List Int)++ [wrap64 (8+d)]:List Int)).bind fun l=>(if l.length+a.length<17592186044416 then(some (l++a))else(none)))else(none))else(if([]:List Int).length+a.length<17592186044416 then(some (([]:List Int)++a))else(none)))=some r:=h
 clear h
 by_cases c2:d≥0
 ·rw[if_pos c2]at H
  have aq:decide (0≤d)=true:=decide_eq_true c2
  clear c2
  by_cases c3:([]:List Int).length<17592186044416
  ·rw[if_pos c3]at H
   have ar:=Aside0.mk c3
   clear c3
   obtain⟨l,B⟩: ∃y_:List Int,y_=(([]:List Int)++ [wrap64 (8+d)]):=⟨_,rfl⟩
   replace H:(if l.length+a.length<17592186044416 then(some (l++a))else(none))=some r:=by first|(rw[B];with_reducible exact H)|(have m:=(Option.bind_some _ _).symm.trans H;rw[B];with_reducible exact m)|(have m:=(Option.bind_some _ _).symm.trans H;with_reducible exact m)|with_reducible exact H|(rw[B];exact H)|exact H
   have X:=Aside0.mk B
   clear B
   by_cases c4:l.length+a.length<17592186044416
   ·rw[if_pos c4]at H
    have aw:=Aside0.mk c4
    clear c4
    obtain⟨aE,D⟩: ∃y_:List Int,y_=(l++a):=⟨_,rfl⟩
    replace H:(some aE)=some r:=by first|(rw[D];with_reducible exact H)|(have m:=(Option.bind_some _ _).symm.trans H;rw[D];with_reducible exact m)|(have m:=(Option.bind_some _ _).symm.trans H;with_reducible exact m)|with_reducible exact H|(rw[D];exact H)|exact H
    have Y:=Aside0.mk D
    clear D
    obtain rfl:=Option.some.inj H;clear H
    go_enter Tryz.func147,Tryz.ntmps147
    go_wp2_with (first|((with_reducible refine gd 1 rfl ?_);refine bx 1 #[.int .i64 d, .int .i64 n, .slice p a.length q, .int .i64 s, .int .i64 t, .slice u i.length v, .slice x j.length y, .slice z k.length A] 104 ?_;intro G hg w5 hbox hb;have c:=Aside0.mk hbox;have Z:=hz HB hg;replace HB:=hs HB hb;clear hb hbox hg;have:=cf8 c)|((with_reducible refine kr (b:= .append) (xs:= #[.tmp 7, .tmp 11]) rfl ?_);at_builtin;refine Kd.R_append (Kd.int .i64) (w0:=w) w.heap.size rfl (.tmp 7) (.tmp 11) 29 3 (.int .i64 0) 8 rfl Tryz.underlying29 info3 rfl (by decide) (by omega) (.slice none 0 0) ([]:List Int) (wrap64 (8+d)) [.int .i64 (wrap64 (8+d))] (fun _=>True) (fun _=>False) rfl rfl ?aP (fun _ hk=>hk.elim) ?aF ?aO ?aB ?aS ?aL ?_;(case aP=>exact rfl);(case aB=>exact bl);(case aF=>exact(fun _ _=>trivial));(case aO=>exact((Kd.R_nil _ _ _ _ (fun _=>True))));(case aS=>exact(aM bl));(case aL=>have:=ar.out;omega);intro a0 w7 ho hb hg hat;rw[←X.out]at ho;have I:=Aside0.mk (ho);replace c:=Aside0.mk (lq (g:=G) (o:= .cells #[.int .i64 d, .int .i64 n, .slice p a.length q, .int .i64 s, .int .i64 t, .slice u i.length v, .slice x j.length y, .slice z k.length A] 104 (0,0)) (by(with_reducible repeat(first|refine aC ?_ _|refine au ?_|refine aA ?_ _));exact c.out) hg (by simp[Value.ownBlock]));replace HB:=Aside0.mk (hb);clear ho hb hg hat;have:=cf8 c)|((with_reducible refine kr (b:= .append) (xs:= #[.tmp 13, .tmp 15]) rfl ?_);at_builtin;refine Kd.R_append_rows (Kd.int .i64) (w0:=w) w.heap.size rfl (.tmp 13) (.tmp 15) 29 3 (.int .i64 0) 8 rfl Tryz.underlying29 info3 rfl (by decide) (by omega) a0 l a _ _ _ (fun _=>True) (fun _=>False) rfl rfl ?aO ?aR (fun _ _ h=>h) (fun _ h=>h.elim) ?aF ?aB ?aS ?aL ?_;(case aR=>repeat(first|exact(Kd.C_below W.out HB.out)|(with_reducible refine Kd.C_alloc ?_ _)|(with_reducible refine Kd.C_drewN ?_ _)|(with_reducible refine Kd.C_drew ?_)));(case aB=>exact bl);(case aF=>exact(fun _ _=>trivial));(case aO=>exact(by(with_reducible repeat(first|apply Kd.R_alloc|apply Kd.R_drewN|apply Kd.R_drew));exact I.out));(case aS=>exact(aM bl));(case aL=>have:=aw.out;omega);intro ba w9 ho hb hg hat;rw[←Y.out]at ho;have an:=Aside0.mk (lq (g:=G) (o:= .cells #[.int .i64 d, .int .i64 n, .slice p a.length q, .int .i64 s, .int .i64 t, .slice u i.length v, .slice x j.length y, .slice z k.length A] 104 (0,0)) (by(with_reducible repeat(first|refine aC ?_ _|refine au ?_|refine aA ?_ _));exact c.out) hg (Kd.R_ne I.out c.out (by decide)));have ao:=Aside0.mk (hb);have ap:=Aside0.mk (ho);clear c;clear HB;clear I;have c:=an;have HB:=ao;have ab:=ap;clear an ao ap;clear ho hb hg hat))
    go_ret
    exact⟨_,by first|rfl|(simp[aW,aX]<;>rfl)|(simp[*,aW,aX]<;>rfl),by(with_reducible repeat(first|apply Kd.R_alloc|apply Kd.R_drewN|apply Kd.R_drew));exact ab.out,bl⟩
   rw[if_neg c4]at H
   exact absurd H (by simp)
  rw[if_neg c3]at H
  exact absurd H (by simp)
 rw[if_neg c2]at H
 have aq:decide (0≤d)=false:=decide_eq_false c2
 clear c2
 by_cases c10:([]:List Int).length+a.length<17592186044416
 ·rw[if_pos c10]at H
  have ac:=Aside0.mk c10
  clear c10
  obtain⟨a1,E⟩: ∃y_:List Int,y_=(([]:List Int)++a):=⟨_,rfl⟩
  replace H:(some a1)=some r:=by first|(rw[E];with_reducible exact H)|(have m:=(Option.bind_some _ _).symm.trans H;rw[E];with_reducible exact m)|(have m:=(Option.bind_some _ _).symm.trans H;with_reducible exact m)|with_reducible exact H|(rw[E];exact H)|exact H
  have ad:=Aside0.mk E
  clear E
  obtain rfl:=Option.some.inj H;clear H
  go_enter Tryz.func147,Tryz.ntmps147
  go_wp2_with (first|((with_reducible refine gd 1 rfl ?_);refine bx 1 #[.int .i64 d, .int .i64 n, .slice p a.length q, .int .i64 s, .int .i64 t, .slice u i.length v, .slice x j.length y, .slice z k.length A] 104 ?_;intro G hg bc hbox hb;have c:=Aside0.mk hbox;have Z:=hz HB hg;replace HB:=hs HB hb;clear hb hbox hg;have:=cf8 c)|((with_reducible refine kr (b:= .append) (xs:= #[.tmp 13, .tmp 15]) rfl ?_);at_builtin;refine Kd.R_append_rows (Kd.int .i64) (w0:=w) w.heap.size rfl (.tmp 13) (.tmp 15) 29 3 (.int .i64 0) 8 rfl Tryz.underlying29 info3 rfl (by decide) (by omega) (.slice none 0 0) ([]:List Int) a _ _ _ (fun _=>True) (fun _=>False) rfl rfl ?aO ?aR (fun _ _ h=>h) (fun _ h=>h.elim) ?aF ?aB ?aS ?aL ?_;(case aR=>repeat(first|exact(Kd.C_below W.out HB.out)|(with_reducible refine Kd.C_alloc ?_ _)|(with_reducible refine Kd.C_drewN ?_ _)|(with_reducible refine Kd.C_drew ?_)));(case aB=>exact bl);(case aF=>exact(fun _ _=>trivial));(case aO=>exact((Kd.R_nil _ _ _ _ (fun _=>True))));(case aS=>exact(aM bl));(case aL=>have:=ac.out;omega);intro bb bd ho hb hg hat;rw[←ad.out]at ho;have al:=Aside0.mk (ho);replace c:=Aside0.mk (lq (g:=G) (o:= .cells #[.int .i64 d, .int .i64 n, .slice p a.length q, .int .i64 s, .int .i64 t, .slice u i.length v, .slice x j.length y, .slice z k.length A] 104 (0,0)) (by(with_reducible repeat(first|refine aC ?_ _|refine au ?_|refine aA ?_ _));exact c.out) hg (by simp[Value.ownBlock]));replace HB:=Aside0.mk (hb);clear ho hb hg hat))
  go_ret
  exact⟨_,by first|rfl|(simp[aW,aX]<;>rfl)|(simp[*,aW,aX]<;>rfl),by(with_reducible repeat(first|apply Kd.R_alloc|apply Kd.R_drewN|apply Kd.R_drew));exact al.out,bl⟩
 rw[if_neg c10]at H
 exact absurd H (by simp)
end Go.Proofs.YteinbmkgenhocaaGreat.P
end
