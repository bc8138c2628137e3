/- A part of the claim FnExactShapeStart: texts of this session and texts that its program printed out of the translation, joined. -/
import Derived.WalkSpells
import Derived.WalkLawsBesides
import Derived.Test.YteinbmkgenhocaaCFnExactShapeStart29
section
namespace Go.Proofs.Yteinbmkgenhocaa.P
open Go.RowKit Go.Proofs.YteinbmkgenhocaaW.PrintWords Go.Proofs.YteinbmkgenhocaaW.PrintLast Go.Proofs.YteinbmkgenhocaaW.PrintMore
attribute [local go_sem] ak au aA aC ai aj av ax
set_option linter.unusedVariables false
set_option linter.unusedSimpArgs false
set_option maxHeartbeats 8000000 in
set_option maxRecDepth 100000 in
theorem bS.calls (k:Nat) (A0:Option Addr) (c0:Nat) (l0:List (S68)) (r:List (S50)) (w:World) (hr0:Kd.C k68 w A0 l0.length l0) (hc0:l0.length≤c0) (h:bS.f k l0=some r):
  Calls Try.prog 19 #[.slice A0 l0.length c0] w fun e w' => ∃cq:Value,e= .returned (cq)∧Kd.R k50 50 w' w.heap.size (fun _=>True) cq r∧Below w.heap.size w w' :=by
 have dl:=Try.underlying68
 have dp:=Try.underlying50
 have cC:=Aside0.mk hr0
 have d2:=Aside0.mk hc0
 clear hr0 hc0
 have HB:=Aside0.mk (Below.refl w.heap.size w)
 have H:(if 0≤(l0.length:Int)then(if((l0.length:Int):Int).toNat≤2199023255552 then(bS.l0 k l0 (List.replicate ((l0.length:Int):Int).toNat z50) 0)else(none))else(none))=some r:=h
 clear h
 by_cases c2:0≤(l0.length:Int)
 ·rw [if_pos c2]at H
  have dq:=eq_true c2
  have dr:decide (0≤(l0.length:Int))=true:=decide_eq_true c2
  clear c2
  by_cases c3:((l0.length:Int):Int).toNat≤2199023255552
  ·rw [if_pos c3]at H
   have ds:=eq_true c3
   have dt:decide (((l0.length:Int):Int).toNat≤2199023255552)=true:=decide_eq_true c3
   clear c3
   obtain⟨a7,y⟩: ∃y_:List (S50),y_=(List.replicate ((l0.length:Int):Int).toNat z50):=⟨_,rfl⟩
   replace H:(bS.l0 k l0 a7 0)=some r:=by first|(rw[y];with_reducible exact H)|(have A:=(Option.bind_some _ _).symm.trans H;rw[y];with_reducible exact A)|(have A:=(Option.bind_some _ _).symm.trans H;with_reducible exact A)|with_reducible exact H|(rw[y];exact H)|exact H
   have aP:=Aside0.mk y
   clear y
   have H' :=Aside0.mk H
   clear H
   go_enter Try.func19,Try.ntmps19
   go_wp2_with (first|((with_reducible refine gd 7 rfl ?_);refine Kd.R_make k50 _ 50 rfl (N:=7) rfl 32 _ _ rfl (l0.length:Int) rfl rfl Try.underlying32 (.agg #[(.int .i64 0),(.int .i64 0),(.slice none 0 0),(.int .i64 0),(.int .i64 0),(.slice none 0 0),(.slice none 0 0),(.slice none 0 0)]) 128 rX rfl (by decide) (by omega) z50 (ok:=fun _=>True) (okp:=fun _=>True) (nU _ _ _ z50 (Kd.R_nil _ _ _ _ _) (Kd.R_nil _ _ _ _ _) (Kd.R_nil _ _ _ _ _) (Kd.R_nil _ _ _ _ _)) (fun _ hk=>hk) trivial (of_decide_eq_true (by first|(with_reducible assumption)|assumption)) (Nat.le_trans (Nat.mul_le_mul_right _ (of_decide_eq_true (by first|(with_reducible assumption)|assumption):(l0.length:Int).toNat≤2199023255552)) (by omega)) (Below.refl _ _) (Nat.le_refl _) ?_;intro cw w4 ap hb hg_ hnew_;clear hg_ hnew_;(first|rw[←aP.out]at ap|(simp only[Int.reduceToNat]at ap;rw[←aP.out]at ap));have cn:=Aside0.mk (Kd.R_lower ap (aK bl));replace HB:=hs HB hb;clear hb ap))
   go_loopg [4] k (fun kq v4 w' => ∃(c:List (S50)) (a:Int),v4= .int .i64 a∧Aside0 (bS.l0 kq l0 c a=some r)∧Aside0 (kq≤k)∧Aside0 (Kd.R k50 50 w' w.heap.size (fun _=>True) cw c)∧Aside0 (Below w.heap.size w w'))
   case atStart=>exact⟨(a7),(0),(by first|rfl|(simp;done)|(simp[*];done)),H',⟨Nat.le_refl _⟩,⟨by(with_reducible repeat(first|apply Kd.R_alloc|apply Kd.R_drewN|apply Kd.R_drew));exact cn.out⟩,⟨bl⟩⟩
   case round=>
    clear H'
    obtain⟨c,a,rfl,HA,cr,d,HB⟩:=hrel
    cases gk with
    |zero=>exact absurd HA.out (by simp[bS.l0])
    | succ k1=>
     have H:=HA.out
     clear HA
     simp only[bS.l0]at H
     by_cases c6:a<(l0.length:Int)
     ·rw[if_pos c6]at H
      have cx:decide (a<(l0.length:Int))=true:=decide_eq_true c6
      clear c6
      by_cases c7:0≤a
      ·rw[if_pos c7]at H
       have du:decide (0≤a)=true:=decide_eq_true c7
       clear c7
       replace H:=Option.bind_eq_some_iff.mp H
       obtain⟨⟨q,s,B,u,x,D,E,G⟩,cs,H⟩:=H
       replace H:(if a<(c.length:Int)then(bS.l0 k1 l0 (c.set (a:Int).toNat (⟨q,s,B,u,x,D,E,G⟩:S50)) (wrap64 (a+1)))else(none))=some r:=H
       have A8:=Aside0.mk cs
       clear cs
       by_cases c9:a<(c.length:Int)
       ·rw[if_pos c9]at H
        have dv:decide (a<(c.length:Int))=true:=decide_eq_true c9
        clear c9
        obtain⟨aq,z⟩: ∃y_:List (S50),y_=(c.set (a:Int).toNat (⟨q,s,B,u,x,D,E,G⟩:S50)):=⟨_,rfl⟩
        replace H:(bS.l0 k1 l0 aq (wrap64 (a+1)))=some r:=by first|(rw[z];with_reducible exact H)|(have A:=(Option.bind_some _ _).symm.trans H;rw[z];with_reducible exact A)|(have A:=(Option.bind_some _ _).symm.trans H;with_reducible exact A)|with_reducible exact H|(rw[z];exact H)|exact H
        have co:=Aside0.mk z
        clear z
        have H' :=Aside0.mk H
        clear H
        have ar:0≤(a:Int):=od
        have aw:a<(l0.length:Int):=od
        obtain⟨dk,a8,a9,ba,bb,bc,bd,be,bh,cy,I,J,K,L,M,O,P,T,U,W,X,Y,Z,ab,ac,ad⟩:=mR cC.out a ar aw
        cases cy
        obtain⟨I,J,K,L,M,O,P,T⟩:=hc8 HB I J K L M O P T
        have aS:=Aside0.mk W
        have a0:=Aside0.mk U
        clear W U
        have a1:=Aside0.mk Y
        have a2:=Aside0.mk X
        clear Y X
        have a3:=Aside0.mk ab
        have a4:=Aside0.mk Z
        clear ab Z
        have a5:=Aside0.mk ad
        have a6:=Aside0.mk ac
        clear ad ac
        replace ar:=eq_true ar
        replace aw:=eq_true aw
        go_wp2_with (first|((with_reducible refine gc 36 rfl ?_);refine gl (some 20) Try.func36 #[.agg #[.int .i64 ((aX l0 a).f0), .int .i64 ((aX l0 a).f1), .slice a8 ((aX l0 a).f2).length a9, .int .i64 ((aX l0 a).f3), .int .i64 ((aX l0 a).f4), .slice ba ((aX l0 a).f5).length bb, .slice bc ((aX l0 a).f6).length bd, .slice be ((aX l0 a).f7).length bh]] rfl ?_;(with_reducible refine(gG.calls k1 ((aX l0 a).f0) ((aX l0 a).f1) _ _ ((aX l0 a).f2) ((aX l0 a).f3) ((aX l0 a).f4) _ _ ((aX l0 a).f5) _ _ ((aX l0 a).f6) _ _ ((aX l0 a).f7) q s B u x D E G _ ?s1 ?s2 ?s3 ?s4 ?s5 ?s6 ?s7 ?s8 A8.out).mono ?_);(case s1=>exact cb aS.out);(case s2=>exact a0.out);(case s3=>exact cb a1.out);(case s4=>exact a2.out);(case s5=>exact cb a3.out);(case s6=>exact a4.out);(case s7=>exact cb a5.out);(case s8=>exact a6.out);rintro e g ⟨aB,aE,aF,aL,rfl,ho0,ho1,ho2,ho3,hb⟩;refine⟨_,rfl, ?_⟩;have al:=Aside0.mk (Kd.R_lower ho0 (aK bl));have am:=Aside0.mk (Kd.R_lower ho1 (aK bl));have an:=Aside0.mk (Kd.S_lower ho2 (aK bl));have ao:=Aside0.mk (Kd.R_lower ho3 (aK bl));replace d:=Aside0.mk (Kd.R_mono (Kd.R_told (Kd.R_told (Kd.R_told (Kd.R_told (Kd.R_old (by(with_reducible repeat(first|apply Kd.R_alloc|apply Kd.R_drewN|apply Kd.R_drew));exact d.out) hb) (Kd.R_base ho0)) (Kd.R_base ho1)) (Kd.S_base ho2)) (Kd.R_base ho3)) (fun _ h_=>h_.1));replace HB:=hs HB hb;(try clear hb);(try clear hk);(try clear ho0);(try clear ho1);(try clear ho2);(try clear ho3);have bj:0≤(a:Int):=od;have bk:(a:Int)<((c.length:Int):Int):=od;obtain⟨b,bm,bo,bp,cA,dy,br⟩:=Kd.R_form d.out (by omega);(first|cases bo|(injection bo with ea_ en_ ec_;(first|subst ea_|(injection ea_ with ea_;subst ea_));subst ec_;clear en_));have o:=Aside0.mk bp;have dT:=Aside0.mk br;clear bp cA br;obtain⟨d0,cp,bs,l,m⟩:=Kd.R_elem d.out z50 (a:Int) bj bk;obtain⟨bw,b0,b1,b2,rfl,cD,cE,cF,cG⟩:=kz bs;have cH:g.cell? ⟨b,(a:Int).toNat * 8,none⟩=some (.int .i64 ((aa c a).f0)):=l 0 _ rfl;have cI:g.cell? ⟨b,(a:Int).toNat * 8+1,none⟩=some (.int .i64 ((aa c a).f1)):=l 1 _ rfl;have cJ:g.cell? ⟨b,(a:Int).toNat * 8+2,none⟩=some (bw):=l 2 _ rfl;have cL:g.cell? ⟨b,(a:Int).toNat * 8+3,none⟩=some (.int .i64 ((aa c a).f3)):=l 3 _ rfl;have cM:g.cell? ⟨b,(a:Int).toNat * 8+4,none⟩=some (.int .i64 ((aa c a).f4)):=l 4 _ rfl;have cN:g.cell? ⟨b,(a:Int).toNat * 8+5,none⟩=some (b0):=l 5 _ rfl;have cP:g.cell? ⟨b,(a:Int).toNat * 8+6,none⟩=some (b1):=l 6 _ rfl;have cQ:g.cell? ⟨b,(a:Int).toNat * 8+7,none⟩=some (b2):=l 7 _ rfl;have cR:g.frozen? ⟨b,(a:Int).toNat * 8,none⟩=false:=m 0;have cS:g.frozen? ⟨b,(a:Int).toNat * 8+1,none⟩=false:=m 1;have cT:g.frozen? ⟨b,(a:Int).toNat * 8+2,none⟩=false:=m 2;have cU:g.frozen? ⟨b,(a:Int).toNat * 8+3,none⟩=false:=m 3;have cV:g.frozen? ⟨b,(a:Int).toNat * 8+4,none⟩=false:=m 4;have cW:g.frozen? ⟨b,(a:Int).toNat * 8+5,none⟩=false:=m 5;have cX:g.frozen? ⟨b,(a:Int).toNat * 8+6,none⟩=false:=m 6;have cY:g.frozen? ⟨b,(a:Int).toNat * 8+7,none⟩=false:=m 7;clear cp l m bs;replace bj:=eq_true bj;replace bk:=eq_true bk;have n_:=Aside0.mk (Kd.R_mono (ok' :=(fun k_=>some k_≠(aB:Value).ownBlock∧some k_≠(aE:Value).ownBlock∧some k_≠(aF:Value).ownBlock∧some k_≠(aL:Value).ownBlock)) d.out (fun k_ hk=>⟨hk.1.1.1.2,⟨hk.1.1.2,⟨hk.1.2,hk.2⟩⟩⟩));clear d;have d:=n_;clear n_;have b3:=Aside0.mk (show Kd.R k50 50 g w.heap.size (fun _=>True) (.slice (some ⟨b,0,none⟩) c.length bm) c from(by(with_reducible repeat(first|apply Kd.R_alloc|apply Kd.R_drewN|apply Kd.R_drew));exact Kd.R_mono d.out (fun _ hk=>trivial)));obtain⟨d1,aR,b4,i,n⟩:=Kd.R_elem b3.out z50 (a:Int) (of_decide_eq_true (by first|(with_reducible assumption)|assumption)) (by have h_:(a:Int)<((c.length:Int):Int):=of_decide_eq_true (by first|(with_reducible assumption)|assumption);first|exact h_|(have e_:=(Kd.R_reads' d.out).1;omega)|simpa using h_);obtain⟨c1,da,db,dc,rfl,dd,de,dg,dj⟩:=kz b4;have aO:=Kd.R_seg b3.out (a:Int) (of_decide_eq_true (by first|(with_reducible assumption)|assumption)) (by have h_:(a:Int)<((c.length:Int):Int):=of_decide_eq_true (by first|(with_reducible assumption)|assumption);first|exact h_|(have e_:=(Kd.R_reads' d.out).1;omega)|simpa using h_) (seg:= [.int .i64 q, .int .i64 s,aB, .int .i64 u, .int .i64 x,aE,aF,aL]) (j:=0) aR i (show 8≤8 from by decide) (x' :=(⟨q,s,B,u,x,D,E,G⟩:S50)) (nU _ _ _ (⟨q,s,B,u,x,D,E,G⟩:S50) (Kd.R_mono (Kd.R_apart' (al.out) (Kd.R_typed d.out) (by decide)) (fun k_ hk=>⟨trivial,fun e_=>(hk.2) (by rw[e_];rfl)⟩)) (Kd.R_mono (Kd.R_apart' (am.out) (Kd.R_typed d.out) (by decide)) (fun k_ hk=>⟨trivial,fun e_=>(hk.2) (by rw[e_];rfl)⟩)) (Kd.R_mono (Kd.R_apart' ((Kd.S_R an.out)) (Kd.R_typed d.out) (by decide)) (fun k_ hk=>⟨trivial,fun e_=>(hk.2) (by rw[e_];rfl)⟩)) (Kd.R_mono (Kd.R_apart' (ao.out) (Kd.R_typed d.out) (by decide)) (fun k_ hk=>⟨trivial,fun e_=>(hk.2) (by rw[e_];rfl)⟩))) (fun _ hk=>hk);have b5:=i 0 _ rfl;(try simp only[show(k50).sz=8 from rfl,Nat.mul_one,Nat.add_zero]at b5);have b6:=n 0;(try simp only[show(k50).sz=8 from rfl,Nat.mul_one,Nat.add_zero]at b6);have b7:=i 1 _ rfl;(try simp only[show(k50).sz=8 from rfl,Nat.mul_one,Nat.add_zero]at b7);have b8:=n 1;(try simp only[show(k50).sz=8 from rfl,Nat.mul_one,Nat.add_zero]at b8);have b9:=i 2 _ rfl;(try simp only[show(k50).sz=8 from rfl,Nat.mul_one,Nat.add_zero]at b9);have ca:=n 2;(try simp only[show(k50).sz=8 from rfl,Nat.mul_one,Nat.add_zero]at ca);have cc:=i 3 _ rfl;(try simp only[show(k50).sz=8 from rfl,Nat.mul_one,Nat.add_zero]at cc);have cd:=n 3;(try simp only[show(k50).sz=8 from rfl,Nat.mul_one,Nat.add_zero]at cd);have ce:=i 4 _ rfl;(try simp only[show(k50).sz=8 from rfl,Nat.mul_one,Nat.add_zero]at ce);have cf:=n 4;(try simp only[show(k50).sz=8 from rfl,Nat.mul_one,Nat.add_zero]at cf);have cg:=i 5 _ rfl;(try simp only[show(k50).sz=8 from rfl,Nat.mul_one,Nat.add_zero]at cg);have ch:=n 5;(try simp only[show(k50).sz=8 from rfl,Nat.mul_one,Nat.add_zero]at ch);have ci:=i 6 _ rfl;(try simp only[show(k50).sz=8 from rfl,Nat.mul_one,Nat.add_zero]at ci);have cj:=n 6;(try simp only[show(k50).sz=8 from rfl,Nat.mul_one,Nat.add_zero]at cj);have ck:=i 7 _ rfl;(try simp only[show(k50).sz=8 from rfl,Nat.mul_one,Nat.add_zero]at ck);have cl:=n 7;(try simp only[show(k50).sz=8 from rfl,Nat.mul_one,Nat.add_zero]at cl);clear aR i n b4)|((with_reducible refine dE (t:=50) (p:=21) rfl ?_);refine dw (t:=50) (p:=21) (v:= ?vo_w13) (w1:=((((((((g.setCell ⟨b,(a:Int).toNat * 8,none⟩ (.int .i64 q)).setCell ⟨b,(a:Int).toNat * 8+1,none⟩ (.int .i64 s)).setCell ⟨b,(a:Int).toNat * 8+2,none⟩ (aB)).setCell ⟨b,(a:Int).toNat * 8+3,none⟩ (.int .i64 u)).setCell ⟨b,(a:Int).toNat * 8+4,none⟩ (.int .i64 x)).setCell ⟨b,(a:Int).toNat * 8+5,none⟩ (aE)).setCell ⟨b,(a:Int).toNat * 8+6,none⟩ (aF)).setCell ⟨b,(a:Int).toNat * 8+7,none⟩ (aL))) ?hg ?ho ?hn ?hr ?_;(case ho=>rfl);(case hg=>rfl);(case hn=>rfl);(case hr=>first|(go_simp;done)|(go_simp;rfl)|(obtain⟨_,_,rfl⟩:=Kd.R_slice al.out;obtain⟨_,_,rfl⟩:=Kd.R_slice am.out;obtain⟨_,_,rfl⟩:=Kd.S_slice an.out;obtain⟨_,_,rfl⟩:=Kd.R_slice ao.out;first|(go_simp;done)|(go_simp;rfl)));intro cm hw;have hg:g.grownBy cm (some b):=(by rw[hw];exact aO.2);have hp_:Kd.R k50 50 cm w.heap.size (fun _=>True) (.slice (some ⟨b,0,none⟩) c.length bm) aq:=(by rw[hw,co.out];exact aO.1);clear aO;have ct:=Aside0.mk (hp_);have cv:=Aside0.mk ((by rw[hw];exact bn (bn (bn (bn (bn (bn (bn (bn (HB.out) o.out) o.out) o.out) o.out) o.out) o.out) o.out) o.out:Below w.heap.size w cm));clear d;clear HB;clear al;clear am;clear an;clear ao;have d:=ct;have HB:=cv;clear ct cv;clear hg hw hp_))
        go_roundg k1
        case measure=>have:=cr.out;omega
        case rel=>exact⟨(aq),(wrap64 (a+1)),(by first|rfl|(simp;done)|(simp[*];done)),H',⟨by have:=cr.out;omega⟩,⟨by(with_reducible repeat(first|apply Kd.R_alloc|apply Kd.R_drewN|apply Kd.R_drew));exact d.out⟩,⟨bl⟩⟩
       ·rw[if_neg c9]at H
        exact absurd H (by simp)
      ·rw[if_neg c7]at H
       exact absurd H (by simp)
     ·rw[if_neg c6]at H
      have cx:decide (a<(l0.length:Int))=false:=decide_eq_false c6
      clear c6
      obtain rfl:=Option.some.inj H;clear H
      go_wp2
      go_ret
      exact⟨_,by first|rfl|(simp[aY,aZ]<;>rfl)|(simp[*,aY,aZ]<;>rfl),by(with_reducible repeat(first|apply Kd.R_alloc|apply Kd.R_drewN|apply Kd.R_drew));exact d.out,bl⟩
  ·rw[if_neg c3]at H
   exact absurd H (by simp)
 ·rw[if_neg c2]at H
  exact absurd H (by simp)
set_option maxHeartbeats 8000000 in
set_option maxRecDepth 100000 in
theorem di.calls (k:Nat) (u:Option Addr) (v:Nat) (d:List (S62)) (x:Option Addr) (y:Nat) (g:List (S68)) (r1:List (S71)) (r2:List (S50)) (w:World) (G:Kd.C k62 w u d.length d) (I:d.length≤v) (J:Kd.C k68 w x g.length g) (K:g.length≤y) (h:di.f k d g=some (r1,r2)):
  Calls Try.prog 6 #[.agg #[.slice u d.length v, .slice x g.length y]] w fun e w' => ∃U W:Value,e= .returned (.agg #[U,W])∧Kd.S k71 71 w' w.heap.size (fun _=>True) U r1∧Kd.R k50 50 w' w.heap.size (fun _=>True) W r2∧Below w.heap.size w w' :=by
 have aq:=Try.underlying25
 have ar:=Try.underlying34
 have M:=Aside0.mk G
 have O:=Aside0.mk I
 clear G I
 have P:=Aside0.mk J
 have T:=Aside0.mk K
 clear J K
 have HB:=Aside0.mk (Below.refl w.heap.size w)
 have H:((bW.f k d).bind fun i=>((bS.f k g).bind fun j=>(some (i,j))))=some (r1,r2):=h
 clear h
 obtain⟨i,A2,H⟩:=ob H
 obtain⟨j,A3,H⟩:=ob H
 simp only[Option.some.injEq,Prod.mk.injEq]at H
 obtain⟨rfl,rfl⟩:=H
 go_enter Try.func6,Try.ntmps6
 go_wp2_with (first|((with_reducible refine gd 1 rfl ?_);refine bx 1 #[.slice u d.length v, .slice x g.length y] 25 ?_;intro Z hg w4 hbox hb;have a:=Aside0.mk hbox;have ab:=hz HB hg;have ac:=hz HB hg;replace HB:=hs HB hb;clear hb hbox hg)|((with_reducible refine gd 2 rfl ?_);refine bx 2 #[.slice none 0 0, .slice none 0 0] 34 ?_;intro l hg w5 hbox hb;have b:=Aside0.mk hbox;have ad:=hz HB hg;have al:=hz HB hg;have z:=nl a hg;have A:=ng a hg;replace a:=kb a hb;replace HB:=hs HB hb;clear hb hbox hg)|((with_reducible refine gd 3 rfl ?_);refine bx 3 #[.slice none 0 0, .slice none 0 0] 34 ?_;intro q hg w6 hbox hb;have c:=Aside0.mk hbox;have am:=hz HB hg;have an:=hz HB hg;have B:=nl a hg;have D:=ng a hg;have o:=nl b hg;have E:=ng b hg;replace a:=kb a hb;replace b:=kb b hb;replace HB:=hs HB hb;clear hb hbox hg;have aw:=z.out;have aB:=A.out;have aE:=B.out;have aF:=D.out;obtain⟨_,_,_,_⟩:=cf2 a)|((with_reducible refine gc 18 rfl ?_);refine gl (some 6) Try.func18 #[.slice u d.length v] rfl ?_;(with_reducible refine(bW.calls k _ _ d i _ ?s1 ?s2 A2.out).mono ?_);(case s1=>exact cb M.out);(case s2=>exact O.out);rintro e aP ⟨aL,rfl,ho0,hb⟩;refine⟨_,rfl, ?_⟩;have r:=Aside0.mk (Kd.S_lower ho0 (aK bl));replace a:=kb a hb;replace b:=kb b hb;replace c:=kb c hb;replace HB:=hs HB hb;(try clear hb);(try clear ho0);obtain⟨m,n,X⟩:=Kd.S_slice r.out;subst X;have ao:=E.out;have ap:=o.out;obtain⟨_,_,_,_⟩:=cf2 c;obtain⟨_,_,_,_⟩:=cf2 a)|((with_reducible refine gc 19 rfl ?_);refine gl (some 10) Try.func19 #[.slice x g.length y] rfl ?_;(with_reducible refine(bS.calls k _ _ g j _ ?s1 ?s2 A3.out).mono ?_);(case s1=>exact cb P.out);(case s2=>exact T.out);rintro e aR ⟨aO,rfl,ho0,hb⟩;refine⟨_,rfl, ?_⟩;have L:=Aside0.mk (Kd.R_lower ho0 (aK bl));replace r:=Aside0.mk (Kd.S_below (by(with_reducible repeat(first|apply Kd.S_alloc|apply Kd.S_drewN|apply Kd.S_drew));exact(Kd.S_mono (Kd.S_far (p:=⟨q,0,none⟩) (Kd.S_types r.out c.out (by decide)) (fun _ hk=>hk.2) (.slice m i.length n)) (fun _ h_=>h_.1))) hb);replace a:=kq a hb;replace b:=kq b hb;replace c:=kp q #[.slice m i.length n, .slice none 0 0] 34 hb;replace HB:=hs HB hb;(try clear hb);(try clear hk);(try clear ho0);obtain⟨s,t,Y⟩:=Kd.R_slice L.out;subst Y;obtain⟨_,_,_,_⟩:=cf2 c;obtain⟨_,_,_,_⟩:=cf2 b))
 refine bodyPost_ret (results_cell_row rfl _ _ l 34 #[.slice m i.length n, .slice s j.length t] (0,0) _ rfl (by(with_reducible repeat(first|refine ah ?_ _|refine af ?_|refine ag ?_ _));refine bH (cs:= #[.slice m i.length n, .slice none 0 0]) ?_ 1 _ rfl;(with_reducible repeat(first|refine ah ?_ _|refine af ?_|refine ag ?_ _));refine bH (cs:= #[.slice none 0 0, .slice none 0 0]) ?_ 0 _ rfl;(with_reducible repeat(first|refine ah ?_ _|refine af ?_|refine ag ?_ _));refine fJ ?_ o.out _;(with_reducible repeat(first|refine ah ?_ _|refine af ?_|refine ag ?_ _));exact b.out) Try.underlying34 rfl (by kernel_rfl)) rfl ?_
 exact⟨_,_,by first|rfl|(simp[aY,aZ]<;>rfl)|(simp[*,aY,aZ]<;>rfl),by(with_reducible repeat(first|apply Kd.S_alloc|apply Kd.S_drewN|apply Kd.S_drew));exact Kd.S_mono (Kd.S_far (p:=⟨l,1,none⟩) (Kd.S_far (p:=⟨l,0,none⟩) (Kd.S_far (p:=⟨q,1,none⟩) (Kd.S_types (Kd.S_types r.out c.out (by decide)) b.out (by decide)) (fun _ hk=>hk.1.2) (.slice s j.length t)) (fun _ hk=>hk.2) (.slice m i.length n)) (fun _ hk=>hk.2) (.slice s j.length t)) (fun _ hk=>trivial),by(with_reducible repeat(first|apply Kd.R_alloc|apply Kd.R_drewN|apply Kd.R_drew));exact Kd.R_mono (Kd.R_far (p:=⟨l,1,none⟩) (Kd.R_far (p:=⟨l,0,none⟩) (Kd.R_far (p:=⟨q,1,none⟩) (Kd.R_types (Kd.R_types L.out c.out (by decide)) b.out (by decide)) (fun _ hk=>hk.1.2) (.slice s j.length t)) (fun _ hk=>hk.2) (.slice m i.length n)) (fun _ hk=>hk.2) (.slice s j.length t)) (fun _ hk=>trivial),bl⟩
end Go.Proofs.Yteinbmkgenhocaa.P
end
section
namespace Go.Proofs.Yteinbmkgenhocaa.P
open Go Go.RowKit Go.Proofs.YteinbmkgenhocaaW.PrintWords
set_option linter.unusedVariables false
set_option maxRecDepth 100000
set_option linter.unusedSimpArgs false
theorem kN {r:Int} (h:8≤r):gY r= .iface 124 (.agg #[.int .i64 (r - 8)]):=by
  unfold gY
  rw[if_neg (by omega),if_neg (by omega),if_neg (by omega),if_neg (by omega),if_neg (by omega),if_neg (by omega)]
set_option maxHeartbeats 2000000 in
set_option maxRecDepth 100000 in
theorem dm.calls' (a0 a1 r:Int) (w:World) (h:dm.f a0 a1=some r):
    Calls Try.prog 80 #[.int .i64 a0, .int .i64 a1] w fun e w' =>e= .returned (gY r)∧w=w' :=by
  unfold dm.f at h
  split at h
  · rename_i hb
    obtain⟨h0,h1,h2,h3⟩:=hb
    by_cases c0:a1=0
    · subst c0
      obtain rfl:0=r:=by simpa using h
      go_enter Try.func80,Try.ntmps80
      go_wp2
      go_ret
      exact⟨rfl,rfl⟩
    by_cases c1:a1=1
    · subst c1
      obtain rfl:1=r:=by simpa using h
      go_enter Try.func80,Try.ntmps80
      go_wp2
      go_ret
      exact⟨rfl,rfl⟩
    by_cases c2:a1=2
    · subst c2
      obtain rfl:2=r:=by simpa using h
      go_enter Try.func80,Try.ntmps80
      go_wp2
      go_ret
      exact⟨rfl,rfl⟩
    by_cases c3:a1=3
    · subst c3
      obtain rfl:3=r:=by simpa using h
      go_enter Try.func80,Try.ntmps80
      go_wp2
      go_ret
      exact⟨rfl,rfl⟩
    by_cases c4:a1=4
    · subst c4
      obtain rfl:4=r:=by simpa using h
      go_enter Try.func80,Try.ntmps80
      go_wp2
      go_ret
      exact⟨rfl,rfl⟩
    rw[if_neg c0,if_neg c1,if_neg c2,if_neg c3,if_neg c4]at h
    have b0:(a1==0)=false:=by simpa using c0
    have b1:(a1==1)=false:=by simpa using c1
    have b2:(a1==2)=false:=by simpa using c2
    have b3:(a1==3)=false:=by simpa using c3
    have b4:(a1==4)=false:=by simpa using c4
    clear c0 c1 c2 c3 c4
    by_cases c5:8≤a1
    · by_cases c6:a1<8+a0
      · rw[if_pos ⟨c5,c6⟩]at h
        obtain rfl:=Option.some.inj h
        have H8:=Aside0.mk (kN c5)
        clear h
        go_enter Try.func80,Try.ntmps80
        go_wp2
        go_ret
        exact⟨by rw[H8.out];rfl,rfl⟩
      · rw[if_neg (by omega)]at h
        obtain rfl:=Option.some.inj h
        go_enter Try.func80,Try.ntmps80
        go_wp2
        go_ret
        exact⟨rfl,rfl⟩
    · rw[if_neg (by omega)]at h
      obtain rfl:=Option.some.inj h
      go_enter Try.func80,Try.ntmps80
      go_wp2
      go_ret
      exact⟨rfl,rfl⟩
  ·cases h
theorem dm.calls (a0 a1 r:Int) (w:World) (h:dm.f a0 a1=some r):
    Calls Try.prog 80 #[.int .i64 a0, .int .i64 a1] w fun e w' =>e= .returned (gY r)∧Drawn0 w w' :=
  (dm.calls' a0 a1 r w h).mono fun e w' ⟨he,hw⟩=>⟨he,hw▸Drawn0.refl w⟩
theorem mX {c t r:Int} (h:dm.f c t=some r):r= -1∨r=0∨r=1∨r=2∨r=3∨r=4∨(8≤r∧r<8+c):=by
  unfold dm.f at h
  split at h
  · repeat' split at h
    all_goals (have:=Option.some.inj h;omega)
  ·cases h
set_option maxRecDepth 100000 in
theorem rF (r:Int) (W:World):(binOp .eql 117 (gY r) .nilIface).run Try.prog W= .ok (.bool (r== -1)) W:=by
  by_cases h:r= -1
  ·subst h;rfl
  · have e:(r== -1)=false:=by simpa using h
    rw[e]
    unfold gY
    rw[if_neg h]
    repeat' split
    all_goals rfl
set_option maxRecDepth 100000 in
theorem rG (r:Int) (W:World):(binOp .neq 117 (gY r) .nilIface).run Try.prog W= .ok (.bool (r != -1)) W:=by
  by_cases h:r= -1
  ·subst h;rfl
  · have e:(r != -1)=true:=by simpa using h
    rw[e]
    unfold gY
    rw[if_neg h]
    repeat' split
    all_goals rfl
theorem lX {r:Int} (h:r≠ -1): ∃u x,gY r= .iface u x:=by
  unfold gY
  rw[if_neg h]
  repeat' split
  all_goals exact⟨_,_,rfl⟩
theorem pQ (r:Int) (t:TypeId) (o:Operand) (W:World):(eqGuard .eql t o (.const .nilIface) (gY r) .nilIface).run Try.prog W= .ok () W:=by
  by_cases h:r= -1
  · subst h
    cases o<;>rfl
  · obtain⟨u,x,e⟩:=lX h
    rw[e];rfl
theorem pR (r:Int) (t:TypeId) (o:Operand) (W:World):(eqGuard .neq t o (.const .nilIface) (gY r) .nilIface).run Try.prog W= .ok () W:=by
  by_cases h:r= -1
  · subst h
    cases o<;>rfl
  · obtain⟨u,x,e⟩:=lX h
    rw[e];rfl
def kH (r:Int):Prop:=r= -1∨r=0∨r=1∨r=2∨r=3∨r=4∨8≤r
theorem pU {r:Int} (h:kH r) (W:World):(Instr.typeAssert (gY r) 117 120 true).run Try.prog W= .ok (.tuple #[.agg #[], .bool (r==1)]) W:=by
  rcases h with rfl|rfl|rfl|rfl|rfl|rfl|h
  all_goals try rfl
  rw[kN h,show(r==1)=false by simp;omega];rfl
theorem nI {r:Int} (h:kH r) (W:World):(Instr.typeAssert (gY r) 117 122 true).run Try.prog W= .ok (.tuple #[.agg #[.bool (r==4)], .bool (r==3||r==4)]) W:=by
  rcases h with rfl|rfl|rfl|rfl|rfl|rfl|h
  all_goals try rfl
  rw[kN h,show(r==3)=false by simp;omega,show(r==4)=false by simp;omega];rfl
theorem nJ {r:Int} (h:kH r) (W:World):(Instr.typeAssert (gY r) 117 124 true).run Try.prog W= .ok (.tuple #[.agg #[.int .i64 (if 8≤r then r - 8 else 0)], .bool (decide (8≤r))]) W:=by
  rcases h with rfl|rfl|rfl|rfl|rfl|rfl|h
  all_goals try rfl
  rw[kN h,if_pos h,decide_eq_true h];rfl
set_option maxHeartbeats 2000000 in
set_option maxRecDepth 100000 in
theorem dK.calls (a0 a1:Int) (r:Bool) (w:World) (h:dK.f a0 a1=some r):
    Calls Try.prog 60 #[.int .i64 a0, .int .i64 a1] w fun e w' =>e= .returned (.bool r)∧Drawn0 w w' :=by
  unfold dK.f at h
  obtain⟨q,hq,hr⟩:=Option.bind_eq_some_iff.1 h
  obtain rfl:=Option.some.inj hr
  clear h hr
  have hc:kH q:=by have:=mX hq;unfold kH;omega
  have A:=Aside0.mk hq
  clear hq
  have s1:=pU hc
  have s2:=nI hc
  have s3:=nJ hc
  have b:(q==1||(q==3||q==4)||decide (8≤q))=decide (q=1∨q=3∨q=4∨8≤q):=by
    rw[Bool.eq_iff_iff];simp;omega
  have B:=Aside0.mk b
  clear b hc
  rw[←B.out]
  clear B
  by_cases h1:q=1
  · subst h1
    go_enter Try.func60,Try.ntmps60
    go_wp2_with (go_at_call 80;refine(dm.calls' _ _ _ _ A.out).mono ?_;rintro e w' ⟨rfl,rfl⟩)
    go_ret
    exact⟨rfl,Drawn0.refl _⟩
  · have b1:(q==1)=false:=by simpa using h1
    by_cases h2:(q==3||q==4)=true
    · go_enter Try.func60,Try.ntmps60
      go_wp2_with (go_at_call 80;refine(dm.calls' _ _ _ _ A.out).mono ?_;rintro e w' ⟨rfl,rfl⟩)
      all_goals go_ret
      all_goals exact⟨by simp[h2],Drawn0.refl _⟩
    · have b2:(q==3||q==4)=false:=by simpa using h2
      by_cases h3:8≤q
      · have b3:decide (8≤q)=true:=decide_eq_true h3
        go_enter Try.func60,Try.ntmps60
        go_wp2_with (go_at_call 80;refine(dm.calls' _ _ _ _ A.out).mono ?_;rintro e w' ⟨rfl,rfl⟩)
        all_goals go_ret
        all_goals exact⟨by simp[*],Drawn0.refl _⟩
      · have b3:decide (8≤q)=false:=decide_eq_false h3
        go_enter Try.func60,Try.ntmps60
        go_wp2_with (go_at_call 80;refine(dm.calls' _ _ _ _ A.out).mono ?_;rintro e w' ⟨rfl,rfl⟩)
        all_goals go_ret
        all_goals exact⟨by simp[*],Drawn0.refl _⟩
end Go.Proofs.Yteinbmkgenhocaa.P
end
section
namespace Go.Proofs.Yteinbmkgenhocaa.P
open Go.RowKit Go.Proofs.YteinbmkgenhocaaW.PrintWords Go.Proofs.YteinbmkgenhocaaW.PrintLast Go.Proofs.YteinbmkgenhocaaW.PrintMore
attribute [local go_sem] ak au aA aC ai aj av ax
set_option linter.unusedVariables false
set_option linter.unusedSimpArgs false
set_option maxHeartbeats 8000000 in
set_option maxRecDepth 100000 in
theorem aG.calls (k : Nat) (A0:Option Addr) (c0:Nat) (l0:List (S71)) (r:Bool) (w:World) (hr0:Kd.C k71 w A0 l0.length l0) (hc0:l0.length≤c0) (h:aG.f k l0=some r):
  Calls Try.prog 37 #[.slice A0 l0.length c0] w fun e w' =>e= .returned (.bool r)∧Below w.heap.size w w' :=by
 have cY:=Try.underlying71
 have aE:=Aside0.mk hr0
 have dc:=Aside0.mk hc0
 clear hr0 hc0
 have HB:=Aside0.mk (Below.refl w.heap.size w)
 have H:(if(l0.length:Int)<2 then(aG.j0 k l0 true)else(aG.j0 k l0 (decide ((l0.length:Int)>5))))=some r:=h
 clear h
 have bo:=Aside0.mk H
 clear H
 go_enter Try.func37,Try.ntmps37
 go_upto_region 1 with(fail)
 go_cut [15] (fun v15 wc=> ∃(kq:Nat) (P:Bool),v15= .bool P∧Aside0 (aG.j0 kq l0 P=some r)∧Aside0 (kq≤k)∧Aside0 (Below w.heap.size w wc))
 case first=>
  have H:=bo.out
  clear bo
  by_cases c3:(l0.length:Int)<2
  ·rw[if_pos c3]at H
   have W:decide ((l0.length:Int)<2)=true:=decide_eq_true c3
   have ch:decide (l0.length<2)=true:=decide_eq_true (by omega)
   clear c3
   (first|rw[W]|(simp only[bT,bU];rw[W])|skip)
   have H' :=Aside0.mk H
   clear H
   go_wp2
   go_meet
   case rel=>exact⟨_,(true),(by first|rfl|(simp;done)|(simp[*];done)),H',⟨by first|omega|exact Nat.le_refl _⟩,⟨bl⟩⟩
  ·rw[if_neg c3]at H
   have W:decide ((l0.length:Int)<2)=false:=decide_eq_false c3
   have ch:decide (l0.length<2)=false:=decide_eq_false (by omega)
   clear c3
   (first|rw[W]|(simp only[bT,bU];rw[W])|skip)
   have H' :=Aside0.mk H
   clear H
   go_wp2
   go_meet
   case rel=>exact⟨_,(decide ((l0.length:Int)>5)),(by first|rfl|(simp;done)|(simp[*];done)),H',⟨by first|omega|exact Nat.le_refl _⟩,⟨bl⟩⟩
 case rest =>
  clear bo
  obtain⟨kq,P,rfl,HA,y,HB⟩:=hcut
  cases kq with
  |zero=>exact absurd HA.out (by simp[aG.j0])
  | succ ct =>
   have H:=HA.out
   clear HA
   simp only[aG.j0]at H
   by_cases c4:P=true
   ·subst c4
    replace H:=it H
    obtain rfl:=Option.some.inj H;clear H
    go_wp2
    go_ret
    exact fin
   ·replace c4 := Bool.eq_false_iff.mpr c4
    subst c4
    replace H:=ie H
    have bp:=Aside0.mk H
    clear H
    go_upto_region 3 with(fail)
    go_cut [28] (fun v28 wc=> ∃(kq:Nat) (T:Bool),v28= .bool T∧Aside0 (aG.j1 kq l0 T=some r)∧Aside0 (kq≤ct)∧Aside0 (Below w.heap.size w wc))
    case first=>
     have H:=bp.out
     clear bp
     by_cases c6:0<(l0.length:Int)
     ·rw[if_pos c6]at H
      have br:decide (0<(l0.length:Int))=true:=decide_eq_true c6
      have c1:decide (0<l0.length)=true:=decide_eq_true (by omega)
      clear c6
      (first|rw[br]|(simp only[bT,bU];rw[br])|skip)
      by_cases c7:((aD l0 0).f0)=(-1)
      ·rw[if_pos c7]at H
       have ci:=beq_iff_eq.mpr c7
       have cj:=bne_eq_false_iff_eq.mpr c7
       clear c7
       have H' :=Aside0.mk H
       clear H
       have E:0≤(0:Int):=(by omega)
       have G:0<(l0.length:Int):=od
       obtain⟨a8,bs,bw,aO,g,c,q,s⟩:=fV aE.out 0 E G
       cases aO
       have b1:(0<l0.length)=True:=eq_true (by omega)
       (try rw[show((0:Int)).toNat=0 from rfl]at g)
       (try rw[show 0 * 2=0 from rfl]at g)
       (try rw[Addr.add_zero']at g)
       (try rw[show((0:Int)).toNat=0 from rfl]at c)
       (try rw[show 0 * 2=0 from rfl]at c)
       (try rw[Addr.add_zero']at c)
       obtain⟨g,c⟩:=hc2 HB g c
       have bj:=Aside0.mk s
       have bk:=Aside0.mk q
       clear s q
       replace E:=eq_true E
       replace G:=eq_true G
       have aP:0≤(0:Int):=(by omega)
       have aR:0<(l0.length:Int):=od
       obtain⟨b2,cv,cw,ck,t,n,Z,ab⟩:=fV aE.out 0 aP aR
       obtain rfl:a8=b2:=(by injection ck)
       have cy:(0<l0.length)=True:=eq_true (by omega)
       (try rw[show((0:Int)).toNat=0 from rfl]at t)
       (try rw[show 0 * 2=0 from rfl]at t)
       (try rw[Addr.add_zero']at t)
       (try rw[show((0:Int)).toNat=0 from rfl]at n)
       (try rw[show 0 * 2=0 from rfl]at n)
       (try rw[Addr.add_zero']at n)
       obtain⟨t,n⟩:=hc2 HB t n
       have cp:=Aside0.mk ab
       have cq:=Aside0.mk Z
       clear ab Z
       replace aP:=eq_true aP
       replace aR:=eq_true aR
       have ea_:=Option.some.inj (c.symm.trans n)
       injection ea_ with ea_ en_ ec_
       subst ea_
       subst ec_
       clear en_
       go_wp2
       go_meet
       case rel=>exact⟨_,(((((aD l0 0).f1).length:Int) !=0)),(by first|rfl|(simp;done)|(simp[*];done)),H',⟨by have:=y.out;first|omega|exact Nat.le_refl _⟩,⟨bl⟩⟩
      ·rw[if_neg c7]at H
       have ci:=beq_eq_false_iff_ne.mpr c7
       have cj:=bne_iff_ne.mpr c7
       have H' :=Aside0.mk H
       clear H
       have E:0≤(0:Int):=(by omega)
       have G:0<(l0.length:Int):=od
       obtain⟨a8,bs,bw,aO,g,c,q,s⟩:=fV aE.out 0 E G
       cases aO
       have b1:(0<l0.length)=True:=eq_true (by omega)
       (try rw[show((0:Int)).toNat=0 from rfl]at g)
       (try rw[show 0 * 2=0 from rfl]at g)
       (try rw[Addr.add_zero']at g)
       (try rw[show((0:Int)).toNat=0 from rfl]at c)
       (try rw[show 0 * 2=0 from rfl]at c)
       (try rw[Addr.add_zero']at c)
       obtain⟨g,c⟩:=hc2 HB g c
       have bj:=Aside0.mk s
       have bk:=Aside0.mk q
       clear s q
       replace E:=eq_true E
       replace G:=eq_true G
       go_wp2
       go_meet
       case rel=>exact⟨_,(true),(by first|rfl|(simp;done)|(simp[*];done)),H',⟨by have:=y.out;first|omega|exact Nat.le_refl _⟩,⟨bl⟩⟩
     ·rw[if_neg c6]at H
      exact absurd H (by simp)
    case rest =>
     clear bp
     obtain⟨kq,T,rfl,HA,D,HB⟩:=hcut
     cases kq with
     |zero=>exact absurd HA.out (by simp[aG.j1])
     | succ cx =>
      have H:=HA.out
      clear HA
      simp only[aG.j1]at H
      by_cases c8:T=true
      ·subst c8
       replace H:=it H
       obtain rfl:=Option.some.inj H;clear H
       go_wp2
       go_ret
       exact fin
      ·replace c8 := Bool.eq_false_iff.mpr c8
       subst c8
       replace H:=ie H
       by_cases c9:1<(l0.length:Int)
       ·rw [if_pos c9] at H
        have da:decide (1<(l0.length:Int))=true:=decide_eq_true c9
        have db:decide (1<l0.length)=true:=decide_eq_true (by omega)
        clear c9
        have aS:=Aside0.mk H
        clear H
        have a0:0≤(1:Int):=(by omega)
        have a1:1<(l0.length:Int):=od
        obtain⟨b3,K,z,cl,u,v,ac,ad⟩:=fV aE.out 1 a0 a1
        cases cl
        (try simp only[show(1:Int).toNat=1 from rfl,Nat.reduceMul,Nat.reduceEqDiff,Go.Addr.add,↓reduceIte]at u)
        (try simp only[show(1:Int).toNat=1 from rfl,Nat.reduceMul,Nat.reduceEqDiff,Go.Addr.add,↓reduceIte]at v)
        have cA:(1<l0.length)=True:=eq_true (by omega)
        (try rw[show((1:Int)).toNat=1 from rfl]at u)
        (try rw[show 1 * 2=2 from rfl]at u)
        (try rw[show((1:Int)).toNat=1 from rfl]at v)
        (try rw[show 1 * 2=2 from rfl]at v)
        obtain⟨u,v⟩:=hc2 HB u v
        have bm:=Aside0.mk ad
        have cr:=Aside0.mk ac
        clear ad ac
        replace a0:=eq_true a0
        replace a1:=eq_true a1
        go_upto_region 6 with(first|((with_reducible refine gd 3 rfl ?_);(try(refine aN (by rfl) ?_;dsimp only));refine bx 3 #[.int .i64 0, .slice none 0 0] 71 ?_;intro o hg dd hbox hb;have d:=Aside0.mk hbox;have a9:=hz HB hg;have cC:=hz HB hg;replace HB:=hs HB hb;clear hb hbox hg;obtain⟨_,_,_,_⟩:=cf2 d))
        (try simp only[Act.put,List.setIfInBounds_toArray,List.set_cons_zero,List.set_cons_succ])
        go_cut [47] (fun v47 wc=> ∃(kq:Nat) (U:Bool),v47= .bool U∧Aside0 (aG.j2 kq l0 U=some r)∧Aside0 (kq≤cx)∧Aside0 (wc.heap[o]? =some (.cells #[.int .i64 ((aD l0 1).f0),(.slice K ((aD l0 1).f1).length z)] 71 (0,0)))∧Aside0 (Below w.heap.size w wc))
        case first=>
         have H:=aS.out
         clear aS
         by_cases c13:((aD l0 1).f0)=0
         ·rw[if_pos c13]at H
          have L:=beq_iff_eq.mpr c13
          have b4:=bne_eq_false_iff_eq.mpr c13
          clear c13
          (first|rw[L]|(simp only[bT,bU];rw[L])|skip)
          by_cases c14:(((aD l0 1).f1).length:Int)=1
          ·rw[if_pos c14]at H
           have b5:=beq_iff_eq.mpr c14
           have b6:=bne_eq_false_iff_eq.mpr c14
           clear c14
           by_cases c15:0<(((aD l0 1).f1).length:Int)
           ·rw[if_pos c15]at H
            have cD:decide (0<(((aD l0 1).f1).length:Int))=true:=decide_eq_true c15
            have cE:decide (0<((aD l0 1).f1).length)=true:=decide_eq_true (by omega)
            clear c15
            have H' :=Aside0.mk H
            clear H
            obtain⟨_,_,_,_⟩:=cf2 d
            have a2:0≤(0:Int):=(by omega)
            have a3:0<(((aD l0 1).f1).length:Int):=od
            obtain⟨aw,cm,i⟩:=Kd.at_int bm.out 0 a2 a3
            cases cm
            have cF:(0<((aD l0 1).f1).length)=True:=eq_true (by omega)
            (try rw[show((0:Int)).toNat=0 from rfl]at i)
            (try rw[Addr.add_zero']at i)
            have A:aw.block≠o:=Nat.ne_of_lt (Nat.lt_of_lt_of_le (by have:=World.block_lt_of_cell? _ _ i;first|rwa [add_block]at this|exact this) a9.out)
            have B:aw.block≠o:=Nat.ne_of_lt (Nat.lt_of_lt_of_le (by have:=World.block_lt_of_cell? _ _ i;first|rwa [add_block]at this|exact this) a9.out)
            replace i:=hc HB i
            replace i:=(cell_far (p:=⟨o,0,none⟩) (by first|(rw[add_block];exact A)|(show(Addr.add _ _).block≠_;rw[add_block];exact A)|exact A) (.int .i64 ((aD l0 1).f0))).trans i
            replace i:=(cell_far (p:=⟨o,1,none⟩) (by first|(rw[add_block];exact B)|(show(Addr.add _ _).block≠_;rw[add_block];exact B)|exact B) (.slice (some aw) ((aD l0 1).f1).length z)).trans i
            clear A
            clear B
            replace a2:=eq_true a2
            replace a3:=eq_true a3
            go_wp2
            go_meet
            case rel=>exact⟨_,(((rd ((aD l0 1).f1) 0) !=1)),(by first|rfl|(simp;done)|(simp[*];done)),H',⟨by have:=y.out;have:=D.out;first|omega|exact Nat.le_refl _⟩,kf,⟨bl⟩⟩
           ·rw[if_neg c15]at H
            exact absurd H (by simp)
          ·rw[if_neg c14]at H
           have b5:=beq_eq_false_iff_ne.mpr c14
           have b6:=bne_iff_ne.mpr c14
           have H' :=Aside0.mk H
           clear H
           obtain⟨_,_,_,_⟩:=cf2 d
           go_wp2
           go_meet
           case rel=>exact⟨_,(true),(by first|rfl|(simp;done)|(simp[*];done)),H',⟨by have:=y.out;have:=D.out;first|omega|exact Nat.le_refl _⟩,kf,⟨bl⟩⟩
         ·rw[if_neg c13]at H
          have L:=beq_eq_false_iff_ne.mpr c13
          have b4:=bne_iff_ne.mpr c13
          (first|rw[L]|(simp only[bT,bU];rw[L])|skip)
          have H' :=Aside0.mk H
          clear H
          obtain⟨_,_,_,_⟩:=cf2 d
          go_wp2
          go_meet
          case rel=>exact⟨_,(true),(by first|rfl|(simp;done)|(simp[*];done)),H',⟨by have:=y.out;have:=D.out;first|omega|exact Nat.le_refl _⟩,kf,⟨bl⟩⟩
        case rest =>
         clear aS
         obtain⟨kq,U,rfl,HA,X,d,HB⟩:=hcut
         cases kq with
         |zero=>exact absurd HA.out (by simp[aG.j2])
         | succ cf =>
          have H:=HA.out
          clear HA
          simp only[aG.j2]at H
          by_cases c19:U=true
          ·subst c19
           replace H:=it H
           obtain rfl:=Option.some.inj H;clear H
           go_wp2
           go_ret
           exact fin
          ·replace c19 := Bool.eq_false_iff.mpr c19
           subst c19
           replace H:=ie H
           have H' :=Aside0.mk H
           clear H
           go_wp2
           go_loopg [50] cf (fun kq v50 w' => ∃(a:Int),v50= .int .i64 a∧Aside0 (aG.l0 kq l0 l0 (l0.length:Int) a=some r)∧Aside0 (kq≤cf)∧Aside0 (w'.heap[o]? =some (.cells #[.int .i64 ((aD l0 1).f0),(.slice K ((aD l0 1).f1).length z)] 71 (0,0)))∧Aside0 (Below w.heap.size w w'))
           case atStart=>exact⟨(0),(by first|rfl|(simp;done)|(simp[*];done)),H',⟨Nat.le_refl _⟩,kk d,⟨bl⟩⟩
           case round =>
            clear H'
            obtain⟨a,rfl,HA,Y,d,HB⟩:=hrel
            cases gk with
            |zero=>exact absurd HA.out (by simp[aG.l0])
            | succ k4 =>
             have H:=HA.out
             clear HA
             simp only[aG.l0]at H
             by_cases c20:a<(l0.length:Int)
             ·rw [if_pos c20]at H
              have b7:decide (a<(l0.length:Int))=true:=decide_eq_true c20
              clear c20
              by_cases c21:0≤a
              ·rw [if_pos c21]at H
               have cG:decide (0≤a)=true:=decide_eq_true c21
               clear c21
               by_cases ba:a<(l0.length:Int)
               ·rw [if_pos ba]at H
                have cH:decide (a<(l0.length:Int))=true:=decide_eq_true ba
                clear ba
                have a4:=Aside0.mk H
                clear H
                have a5:0≤(a:Int):=od
                have a6:a<(l0.length:Int):=od
                obtain⟨b8,aF,aL,cn,al,am,an,ao⟩:=fV aE.out a a5 a6
                obtain rfl:b3=b8:=(by injection cn)
                obtain⟨al,am⟩:=hc2 HB al am
                have ap:=Aside0.mk ao
                have cs:=Aside0.mk an
                clear ao an
                replace a5:=eq_true a5
                replace a6:=eq_true a6
                go_upto_region 11 with(first|((with_reducible refine gd 5 rfl ?_);(try(refine aN (by rfl) ?_;dsimp only));refine bx 5 #[.int .i64 0, .slice none 0 0] 71 ?_;intro bb hg de hbox hb;have m:=Aside0.mk hbox;have cI:=hz HB hg;have cJ:=hz HB hg;have j:=nl d hg;have l:=ng d hg;replace d:=kb d hb;replace HB:=hs HB hb;clear hb hbox hg;have cL:=l.out;have cM:=j.out;obtain⟨_,_,_,_⟩:=cf2 m))
                (try simp only[Act.put,List.setIfInBounds_toArray,List.set_cons_zero,List.set_cons_succ])
                go_cut [67] (fun v67 wc=> ∃(kq:Nat) (M:Bool),v67= .bool M∧Aside0 (aG.j4 kq l0 l0 (l0.length:Int) a M ((aD l0 a).f0) ((aD l0 a).f1)=some r)∧Aside0 (kq≤k4)∧Aside0 (wc.heap[o]? =some (.cells #[.int .i64 ((aD l0 1).f0),(.slice K ((aD l0 1).f1).length z)] 71 (0,0)))∧Aside0 (wc.heap[bb]? =some (.cells #[.int .i64 ((aD l0 a).f0),(.slice aF ((aD l0 a).f1).length aL)] 71 (0,0)))∧Aside0 (Below w.heap.size w wc))
                case first=>
                 have H:=a4.out
                 clear a4
                 by_cases aq:a>1
                 ·rw[if_pos aq]at H
                  have O:decide (1<a)=true:=decide_eq_true aq
                  clear aq
                  (first|rw[O]|(simp only[bT,bU];rw[O])|skip)
                  by_cases c28:((aD l0 a).f0)<0
                  ·rw[if_pos c28]at H
                   have b9:decide (((aD l0 a).f0)<0)=true:=decide_eq_true c28
                   clear c28
                   have H' :=Aside0.mk H
                   clear H
                   have cN:=l.out
                   have cP:=j.out
                   obtain⟨_,_,_,_⟩:=cf2 m
                   go_wp2
                   go_meet
                   case rel=>exact⟨_,(true),(by first|rfl|(simp;done)|(simp[*];done)),H',⟨by have:=y.out;have:=D.out;have:=X.out;have:=Y.out;first|omega|exact Nat.le_refl _⟩,kf,kf,⟨bl⟩⟩
                  ·rw[if_neg c28]at H
                   have b9:decide (((aD l0 a).f0)<0)=false:=decide_eq_false c28
                   clear c28
                   have H' :=Aside0.mk H
                   clear H
                   have cQ:=l.out
                   have cR:=j.out
                   obtain⟨_,_,_,_⟩:=cf2 m
                   go_wp2
                   go_meet
                   case rel=>exact⟨_,(decide (((aD l0 a).f0)≥a)),(by first|rfl|(simp;done)|(simp[*];done)),H',⟨by have:=y.out;have:=D.out;have:=X.out;have:=Y.out;first|omega|exact Nat.le_refl _⟩,kf,kf,⟨bl⟩⟩
                 ·rw[if_neg aq]at H
                  have O:decide (1<a)=false:=decide_eq_false aq
                  clear aq
                  (first|rw[O]|(simp only[bT,bU];rw[O])|skip)
                  have H' :=Aside0.mk H
                  clear H
                  go_wp2
                  go_meet
                  case rel=>exact⟨_,(false),(by first|rfl|(simp;done)|(simp[*];done)),H',⟨by have:=y.out;have:=D.out;have:=X.out;have:=Y.out;first|omega|exact Nat.le_refl _⟩,kf,kf,⟨bl⟩⟩
                case rest =>
                 clear a4
                 obtain⟨kq,M,rfl,HA,aB,d,m,HB⟩:=hcut
                 cases kq with
                 |zero=>exact absurd HA.out (by simp[aG.j4])
                 | succ b0=>
                  have H:=HA.out
                  clear HA
                  simp only[aG.j4]at H
                  by_cases bc:M=true
                  ·subst bc
                   replace H:=it H
                   obtain rfl:=Option.some.inj H;clear H
                   go_wp2
                   go_ret
                   exact fin
                  ·replace bc:=Bool.eq_false_iff.mpr bc
                   subst bc
                   replace H:=ie H
                   by_cases c34:(((aD l0 a).f1).length:Int)>2
                   ·rw[if_pos c34]at H
                    have ca:decide (2<(((aD l0 a).f1).length:Int))=true:=decide_eq_true c34
                    have cc:decide (2<((aD l0 a).f1).length)=true:=decide_eq_true (by omega)
                    clear c34
                    obtain rfl:=Option.some.inj H;clear H
                    have cS:=l.out
                    have cT:=j.out
                    obtain⟨_,_,_,_⟩:=cf2 m
                    go_wp2
                    go_ret
                    exact fin
                   ·rw [if_neg c34]at H
                    have ca:decide (2<(((aD l0 a).f1).length:Int))=false:=decide_eq_false c34
                    have cc:decide (2<((aD l0 a).f1).length)=false:=decide_eq_false (by omega)
                    clear c34
                    have H' :=Aside0.mk H
                    clear H
                    have cU:=l.out
                    have cV:=j.out
                    obtain⟨_,_,_,_⟩:=cf2 m
                    go_wp2
                    go_loopg [75] b0 (fun kq v75 w' => ∃(b:Int),v75= .int .i64 b∧Aside0 (aG.l1 kq l0 l0 (l0.length:Int) a ((aD l0 a).f1) (((aD l0 a).f1).length:Int) b=some r)∧Aside0 (kq≤b0)∧Aside0 (w'.heap[o]? =some (.cells #[.int .i64 ((aD l0 1).f0),(.slice K ((aD l0 1).f1).length z)] 71 (0,0)))∧Aside0 (w'.heap[bb]? =some (.cells #[.int .i64 ((aD l0 a).f0),(.slice aF ((aD l0 a).f1).length aL)] 71 (0,0)))∧Aside0 (Below w.heap.size w w'))
                    case atStart=>exact⟨(0),(by first|rfl|(simp;done)|(simp[*];done)),H',⟨Nat.le_refl _⟩,kk d,kk m,⟨bl⟩⟩
                    case round=>
                     clear H'
                     obtain⟨b,rfl,HA,bd,d,m,HB⟩:=hrel
                     cases gk with
                     |zero=>exact absurd HA.out (by simp[aG.l1])
                     | succ k6=>
                      have H:=HA.out
                      clear HA
                      simp only[aG.l1]at H
                      by_cases ar:b<(((aD l0 a).f1).length:Int)
                      ·rw [if_pos ar]at H
                       have cd:decide (b<(((aD l0 a).f1).length:Int))=true:=decide_eq_true ar
                       clear ar
                       by_cases c40:0≤b
                       ·rw[if_pos c40]at H
                        have cW:decide (0≤b)=true:=decide_eq_true c40
                        clear c40
                        by_cases be:b<(((aD l0 a).f1).length:Int)
                        ·rw[if_pos be]at H
                         have cX:decide (b<(((aD l0 a).f1).length:Int))=true:=decide_eq_true be
                         clear be
                         obtain⟨co,cg,H⟩:=ob H
                         by_cases bh:co=true
                         ·subst bh
                          replace H:=it H
                          have H' :=Aside0.mk H
                          clear H
                          have I:0≤(b:Int):=od
                          have J:b<(((aD l0 a).f1).length:Int):=od
                          obtain⟨ce,a7,x⟩:=Kd.at_int ap.out b I J
                          cases a7
                          replace x:=hc HB x
                          replace I:=eq_true I
                          replace J:=eq_true J
                          go_wp2_with (first|((with_reducible refine gc 60 rfl ?_);refine gl (some 82) Try.func60 #[.int .i64 (l0.length:Int), .int .i64 (rd ((aD l0 a).f1) b)] rfl ?_;(with_reducible refine(dK.calls (l0.length:Int) (rd ((aD l0 a).f1) b) true _ cg.out).mono ?_);rintro e w' ⟨rfl,⟨nd,rfl⟩⟩;refine⟨_,rfl, ?_⟩))
                          go_roundg k6
                          case measure=>have:=y.out;have:=D.out;have:=X.out;have:=Y.out;have:=aB.out;have:=bd.out;omega
                          case rel=>exact⟨(wrap64 (b+1)),(by first|rfl|(simp;done)|(simp[*];done)),H',⟨by have:=y.out;have:=D.out;have:=X.out;have:=Y.out;have:=aB.out;have:=bd.out;omega⟩,kk d,kk m,⟨bl⟩⟩
                         ·replace bh:=Bool.eq_false_iff.mpr bh
                          subst bh
                          replace H:=ie H
                          obtain rfl:=Option.some.inj H;clear H
                          have I:0≤(b:Int):=od
                          have J:b<(((aD l0 a).f1).length:Int):=od
                          obtain⟨ce,a7,x⟩:=Kd.at_int ap.out b I J
                          cases a7
                          replace x:=hc HB x
                          replace I:=eq_true I
                          replace J:=eq_true J
                          go_wp2_with (first|((with_reducible refine gc 60 rfl ?_);refine gl (some 82) Try.func60 #[.int .i64 (l0.length:Int), .int .i64 (rd ((aD l0 a).f1) b)] rfl ?_;(with_reducible refine(dK.calls (l0.length:Int) (rd ((aD l0 a).f1) b) false _ cg.out).mono ?_);rintro e w' ⟨rfl,⟨nd,rfl⟩⟩;refine⟨_,rfl, ?_⟩))
                          go_ret
                          exact fin
                        ·rw[if_neg be]at H
                         exact absurd H (by simp)
                       ·rw[if_neg c40]at H
                        exact absurd H (by simp)
                      ·rw[if_neg ar]at H
                       have cd:decide (b<(((aD l0 a).f1).length:Int))=false:=decide_eq_false ar
                       clear ar
                       have H' :=Aside0.mk H
                       clear H
                       go_wp2
                       go_roundg k6
                       case measure=>have:=y.out;have:=D.out;have:=X.out;have:=Y.out;have:=aB.out;have:=bd.out;omega
                       case rel=>exact⟨(wrap64 (a+1)),(by first|rfl|(simp;done)|(simp[*];done)),H',⟨by have:=y.out;have:=D.out;have:=X.out;have:=Y.out;have:=aB.out;have:=bd.out;omega⟩,kk d,⟨bl⟩⟩
               ·rw[if_neg ba]at H
                exact absurd H (by simp)
              ·rw[if_neg c21]at H
               exact absurd H (by simp)
             ·rw[if_neg c20]at H
              have b7:decide (a<(l0.length:Int))=false:=decide_eq_false c20
              clear c20
              obtain rfl:=Option.some.inj H;clear H
              go_wp2
              go_ret
              exact fin
       ·rw[if_neg c9]at H
        exact absurd H (by simp)
set_option maxHeartbeats 8000000 in
set_option maxRecDepth 100000 in
theorem fF.calls (d:Int) (n:Int) (p:Option Addr) (q:Nat) (a:List Int) (s:Int) (t:Int) (u:Option Addr) (v:Nat) (i:List (S97)) (x:Option Addr) (y:Nat) (j:List (S29)) (z:Option Addr) (A:Nat) (k:List (S102)) (r:List Int) (w:World) (J:Kd.C (Kd.int .i64) w p a.length a) (K:a.length≤q) (L:Kd.C k97 w u i.length i) (M:i.length≤v) (O:Kd.C k29 w x j.length j) (P:j.length≤y) (T:Kd.C dQ w z k.length k) (U:k.length≤A) (h:fF.f d n a s t i j k=some r):
  Calls Try.prog 43 #[.agg #[.int .i64 d, .int .i64 n, .slice p a.length q, .int .i64 s, .int .i64 t, .slice u i.length v, .slice x j.length y, .slice z k.length A]] w fun e w' => ∃an:Value,e= .returned (an)∧Kd.R (Kd.int .i64) 3 w' w.heap.size (fun _=>True) an r∧Below w.heap.size w w' :=by
 have ba:=Try.underlying50
 have W:=Aside0.mk J
 have a3:=Aside0.mk K
 clear J K
 have a4:=Aside0.mk L
 have a5:=Aside0.mk M
 clear L M
 have a6:=Aside0.mk O
 have a7:=Aside0.mk P
 clear O P
 have a8:=Aside0.mk T
 have a9:=Aside0.mk U
 clear T U
 have HB:=Aside0.mk (Below.refl w.heap.size w)
 have H:(if d≥0 then(if([]:List Int).length<17592186044416 then((some (([]:List Int)++ [wrap64 (8+d)]:List Int)).bind fun l=>(if l.length+a.length<17592186044416 then(some (l++a))else(none)))else(none))else(if([]:List Int).length+a.length<17592186044416 then(some (([]:List Int)++a))else(none)))=some r:=h
 clear h
 by_cases c2:d≥0
 ·rw[if_pos c2]at H
  have ar:decide (0≤d)=true:=decide_eq_true c2
  clear c2
  by_cases c3:([]:List Int).length<17592186044416
  ·rw[if_pos c3]at H
   have aw:=Aside0.mk c3
   clear c3
   obtain⟨l,B⟩: ∃y_:List Int,y_=(([]:List Int)++ [wrap64 (8+d)]):=⟨_,rfl⟩
   replace H:(if l.length+a.length<17592186044416 then(some (l++a))else(none))=some r:=by first|(rw[B];with_reducible exact H)|(have m:=(Option.bind_some _ _).symm.trans H;rw[B];with_reducible exact m)|(have m:=(Option.bind_some _ _).symm.trans H;with_reducible exact m)|with_reducible exact H|(rw[B];exact H)|exact H
   have X:=Aside0.mk B
   clear B
   by_cases c4:l.length+a.length<17592186044416
   ·rw[if_pos c4]at H
    have aE:=Aside0.mk c4
    clear c4
    obtain⟨a0,D⟩: ∃y_:List Int,y_=(l++a):=⟨_,rfl⟩
    replace H:(some a0)=some r:=by first|(rw[D];with_reducible exact H)|(have m:=(Option.bind_some _ _).symm.trans H;rw[D];with_reducible exact m)|(have m:=(Option.bind_some _ _).symm.trans H;with_reducible exact m)|with_reducible exact H|(rw[D];exact H)|exact H
    have Y:=Aside0.mk D
    clear D
    obtain rfl:=Option.some.inj H;clear H
    go_enter Try.func43,Try.ntmps43
    go_wp2_with (first|((with_reducible refine gd 1 rfl ?_);refine bx 1 #[.int .i64 d, .int .i64 n, .slice p a.length q, .int .i64 s, .int .i64 t, .slice u i.length v, .slice x j.length y, .slice z k.length A] 50 ?_;intro G hg w5 hbox hb;have c:=Aside0.mk hbox;have Z:=hz HB hg;have ab:=hz HB hg;replace HB:=hs HB hb;clear hb hbox hg;obtain⟨_,_,_,_,_,_,_,_,_,_,_,_,_,_,_,_⟩:=cf8 c)|((with_reducible refine gD (b:= .append) (xs:= #[.tmp 7, .tmp 11]) rfl ?_);at_builtin;refine Kd.R_append (Kd.int .i64) (w0:=w) w.heap.size rfl (.tmp 7) (.tmp 11) 27 3 (.int .i64 0) 8 rfl Try.underlying27 info3 rfl (by decide) (by omega) (.slice none 0 0) ([]:List Int) (wrap64 (8+d)) [.int .i64 (wrap64 (8+d))] (fun _=>True) (fun _=>False) rfl rfl ?aP (fun _ hk=>hk.elim) ?aF ?aO ?aB ?aS ?aL ?_;(case aP=>exact rfl);(case aB=>exact bl);(case aF=>exact(fun _ _=>trivial));(case aO=>exact((Kd.R_nil _ _ _ _ (fun _=>True))));(case aS=>exact(aK bl));(case aL=>have:=aw.out;omega);intro a1 w7 ho hb hg hat;rw[←X.out]at ho;have I:=Aside0.mk (ho);replace c:=Aside0.mk (fI (g:=G) (o:= .cells #[.int .i64 d, .int .i64 n, .slice p a.length q, .int .i64 s, .int .i64 t, .slice u i.length v, .slice x j.length y, .slice z k.length A] 50 (0,0)) (by(with_reducible repeat(first|refine ah ?_ _|refine af ?_|refine ag ?_ _));exact c.out) hg (by simp[Value.ownBlock]));replace HB:=Aside0.mk (hb);clear ho hb hg hat;obtain⟨_,_,_,_,_,_,_,_,_,_,_,_,_,_,_,_⟩:=cf8 c)|((with_reducible refine gD (b:= .append) (xs:= #[.tmp 13, .tmp 15]) rfl ?_);at_builtin;refine Kd.R_append_rows (Kd.int .i64) (w0:=w) w.heap.size rfl (.tmp 13) (.tmp 15) 27 3 (.int .i64 0) 8 rfl Try.underlying27 info3 rfl (by decide) (by omega) a1 l a _ _ _ (fun _=>True) (fun _=>False) rfl rfl ?aO ?aR (fun _ _ h=>h) (fun _ h=>h.elim) ?aF ?aB ?aS ?aL ?_;(case aR=>repeat(first|exact(Kd.C_below W.out HB.out)|(with_reducible refine Kd.C_alloc ?_ _)|(with_reducible refine Kd.C_drewN ?_ _)|(with_reducible refine Kd.C_drew ?_)));(case aB=>exact bl);(case aF=>exact(fun _ _=>trivial));(case aO=>exact(by(with_reducible repeat(first|apply Kd.R_alloc|apply Kd.R_drewN|apply Kd.R_drew));exact I.out));(case aS=>exact(aK bl));(case aL=>have:=aE.out;omega);intro bb w9 ho hb hg hat;rw[←Y.out]at ho;have ao:=Aside0.mk (fI (g:=G) (o:= .cells #[.int .i64 d, .int .i64 n, .slice p a.length q, .int .i64 s, .int .i64 t, .slice u i.length v, .slice x j.length y, .slice z k.length A] 50 (0,0)) (by(with_reducible repeat(first|refine ah ?_ _|refine af ?_|refine ag ?_ _));exact c.out) hg (Kd.R_ne I.out c.out (by decide)));have ap:=Aside0.mk (hb);have aq:=Aside0.mk (ho);clear c;clear HB;clear I;have c:=ao;have HB:=ap;have ac:=aq;clear ao ap aq;clear ho hb hg hat))
    go_ret
    exact⟨_,by first|rfl|(simp[aY,aZ]<;>rfl)|(simp[*,aY,aZ]<;>rfl),by(with_reducible repeat(first|apply Kd.R_alloc|apply Kd.R_drewN|apply Kd.R_drew));exact ac.out,bl⟩
   ·rw[if_neg c4]at H
    exact absurd H (by simp)
  ·rw[if_neg c3]at H
   exact absurd H (by simp)
 ·rw[if_neg c2]at H
  have ar:decide (0≤d)=false:=decide_eq_false c2
  clear c2
  by_cases c10:([]:List Int).length+a.length<17592186044416
  ·rw[if_pos c10]at H
   have ad:=Aside0.mk c10
   clear c10
   obtain⟨a2,E⟩: ∃y_:List Int,y_=(([]:List Int)++a):=⟨_,rfl⟩
   replace H:(some a2)=some r:=by first|(rw[E];with_reducible exact H)|(have m:=(Option.bind_some _ _).symm.trans H;rw[E];with_reducible exact m)|(have m:=(Option.bind_some _ _).symm.trans H;with_reducible exact m)|with_reducible exact H|(rw[E];exact H)|exact H
   have al:=Aside0.mk E
   clear E
   obtain rfl:=Option.some.inj H;clear H
   go_enter Try.func43,Try.ntmps43
   go_wp2_with (first|((with_reducible refine gd 1 rfl ?_);refine bx 1 #[.int .i64 d, .int .i64 n, .slice p a.length q, .int .i64 s, .int .i64 t, .slice u i.length v, .slice x j.length y, .slice z k.length A] 50 ?_;intro G hg bd hbox hb;have c:=Aside0.mk hbox;have Z:=hz HB hg;have ab:=hz HB hg;replace HB:=hs HB hb;clear hb hbox hg;obtain⟨_,_,_,_,_,_,_,_,_,_,_,_,_,_,_,_⟩:=cf8 c)|((with_reducible refine gD (b:= .append) (xs:= #[.tmp 13, .tmp 15]) rfl ?_);at_builtin;refine Kd.R_append_rows (Kd.int .i64) (w0:=w) w.heap.size rfl (.tmp 13) (.tmp 15) 27 3 (.int .i64 0) 8 rfl Try.underlying27 info3 rfl (by decide) (by omega) (.slice none 0 0) ([]:List Int) a _ _ _ (fun _=>True) (fun _=>False) rfl rfl ?aO ?aR (fun _ _ h=>h) (fun _ h=>h.elim) ?aF ?aB ?aS ?aL ?_;(case aR=>repeat(first|exact(Kd.C_below W.out HB.out)|(with_reducible refine Kd.C_alloc ?_ _)|(with_reducible refine Kd.C_drewN ?_ _)|(with_reducible refine Kd.C_drew ?_)));(case aB=>exact bl);(case aF=>exact(fun _ _=>trivial));(case aO=>exact((Kd.R_nil _ _ _ _ (fun _=>True))));(case aS=>exact(aK bl));(case aL=>have:=ad.out;omega);intro bc be ho hb hg hat;rw[←al.out]at ho;have am:=Aside0.mk (ho);replace c:=Aside0.mk (fI (g:=G) (o:= .cells #[.int .i64 d, .int .i64 n, .slice p a.length q, .int .i64 s, .int .i64 t, .slice u i.length v, .slice x j.length y, .slice z k.length A] 50 (0,0)) (by(with_reducible repeat(first|refine ah ?_ _|refine af ?_|refine ag ?_ _));exact c.out) hg (by simp[Value.ownBlock]));replace HB:=Aside0.mk (hb);clear ho hb hg hat))
   go_ret
   exact⟨_,by first|rfl|(simp[aY,aZ]<;>rfl)|(simp[*,aY,aZ]<;>rfl),by(with_reducible repeat(first|apply Kd.R_alloc|apply Kd.R_drewN|apply Kd.R_drew));exact am.out,bl⟩
  ·rw[if_neg c10]at H
   exact absurd H (by simp)
set_option maxHeartbeats 8000000 in
set_option maxRecDepth 100000 in
theorem dG.calls (A0:Option Addr) (c0:Nat) (l0:List (S71)) (a1:Int) (r:Bool) (w:World) (hr0:Kd.C k71 w A0 l0.length l0) (hc0:l0.length≤c0) (h:dG.f l0 a1=some r):
  Calls Try.prog 61 #[.slice A0 l0.length c0, .int .i64 a1] w fun e w' =>e= .returned (.bool r)∧Drawn0 w w' :=by
 have b:=Aside0.mk hr0
 have c:=Aside0.mk hc0
 clear hr0 hc0
 have H:(if a1≥0 then(some (decide (a1<(l0.length:Int))))else(some false))=some r:=h
 clear h
 by_cases c3:a1≥0
 ·rw[if_pos c3]at H
  have a:decide (0≤a1)=true:=decide_eq_true c3
  clear c3
  obtain rfl:=Option.some.inj H;clear H
  go_enter Try.func61,Try.ntmps61
  go_wp2
  go_ret
  exact⟨by first|rfl|(simp;done)|(simp[*];done),by repeat(first|exact Drawn0.refl _|apply Drawn0.step)⟩
 ·rw[if_neg c3]at H
  have a:decide (0≤a1)=false:=decide_eq_false c3
  clear c3
  obtain rfl:=Option.some.inj H;clear H
  go_enter Try.func61,Try.ntmps61
  go_wp2
  go_ret
  exact⟨by first|rfl|(simp;done)|(simp[*];done),by repeat(first|exact Drawn0.refl _|apply Drawn0.step)⟩
def aU.T14:Bool×List (List Nat×List Nat):=(true, [([], []),([0], [0]),([1], [1]),([2], [2]),([3], [3]),([4,3], [3,4]),([3], [3]),([6,3,3], [3,6]),([7,3], [3,7]),([5,8,3], [3,5,8]),([3,9], [3,9]),([10,7,0,1,2,3,4,5,6,7,8,9,10], [10])])
def aU.B14:List Nat:= [0,1,3,7,15,31,15,79,207,511,1023,2047]
theorem aU.tab14:ed .any (opsOf Try.f39 14)=aU.T14:=by kernel_rfl
theorem aU.bits14:eP aU.T14.2 aU.B14=true:=by kernel_rfl
set_option maxHeartbeats 8000000 in
set_option maxRecDepth 100000 in
theorem aU.calls (k:Nat) (T:Option Addr) (U:Nat) (m:List (S71)) (W:Option Addr) (X:Nat) (x:List (S50)) (o:Int) (l:Int) (z:Option Addr) (A:Nat) (b:List Int) (v:Int) (q:Int) (B:Option Addr) (D:Nat) (s:List (S97)) (E:Option Addr) (G:Nat) (t:List (S29)) (I:Option Addr) (J:Nat) (u:List (S102)) (r:Bool) (w:World) (ap:Kd.C k71 w T m.length m) (aq:m.length≤U) (ar:Kd.C k50 w W x.length x) (aw:x.length≤X) (aB:Kd.C (Kd.int .i64) w z b.length b) (aE:b.length≤A) (aF:Kd.C k97 w B s.length s) (aL:s.length≤D) (aO:Kd.C k29 w E t.length t) (aP:t.length≤G) (aR:Kd.C dQ w I u.length u) (aS:u.length≤J) (h:aU.f k m x o l b v q s t u=some r):
  Calls Try.prog 39 #[.agg #[.slice T m.length U, .slice W x.length X], .agg #[.int .i64 o, .int .i64 l, .slice z b.length A, .int .i64 v, .int .i64 q, .slice B s.length D, .slice E t.length G, .slice I u.length J]] w fun e w' =>e= .returned (.bool r)∧Below w.heap.size w w' :=by
 have cS:=Try.underlying34
 have cT:=Try.underlying50
 have Y:=Aside0.mk ap
 have Z:=Aside0.mk aq
 clear ap aq
 have ch:=Aside0.mk ar
 have ci:=Aside0.mk aw
 clear ar aw
 have ad:=Aside0.mk aB
 have a9:=Aside0.mk aE
 clear aB aE
 have ba:=Aside0.mk aF
 have bb:=Aside0.mk aL
 clear aF aL
 have bc:=Aside0.mk aO
 have bd:=Aside0.mk aP
 clear aO aP
 have be:=Aside0.mk aR
 have bh:=Aside0.mk aS
 clear aR aS
 have HB:=Aside0.mk (Below.refl w.heap.size w)
 have H:(if o=(-1)then(if l=0 then(aU.j0 k m x o l b v q s t u)else(some false))else(if o=0 then(some false)else((dG.f m o).bind fun am=>(if am=true then(if l<0 then(some false)else(if l≥3 then(some false)else(aU.j0 k m x o l b v q s t u)))else(some false)))))=some r:=h
 clear h
 have a4:=Aside0.mk H
 clear H
 go_enter Try.func39,Try.ntmps39
 go_upto_if 9 with(first|((with_reducible refine gd 2 rfl ?_);(try(refine aN (by rfl) ?_;dsimp only));refine bx 2 #[.slice T m.length U, .slice W x.length X] 34 ?_;intro al hg w4 hbox hb;have c:=Aside0.mk hbox;have cj:=hz HB hg;have ck:=hz HB hg;replace HB:=hs HB hb;clear hb hbox hg)|((with_reducible refine gd 3 rfl ?_);(try(refine aN (by rfl) ?_;dsimp only));refine bx 3 #[.int .i64 o, .int .i64 l, .slice z b.length A, .int .i64 v, .int .i64 q, .slice B s.length D, .slice E t.length G, .slice I u.length J] 50 ?_;intro p hg w5 hbox hb;have a:=Aside0.mk hbox;have cl:=hz HB hg;have cm:=hz HB hg;have d:=nl c hg;have g:=ng c hg;replace c:=kb c hb;replace HB:=hs HB hb;clear hb hbox hg;have cU:=g.out;have cV:=d.out;obtain⟨_,_,_,_,_,_,_,_,_,_,_,_,_,_,_,_⟩:=cf8 a))
 (try simp only[Act.put,List.setIfInBounds_toArray,List.set_cons_zero,List.set_cons_succ])
 go_cut [] (fun wc=> ∃(kq:Nat),Aside0 (aU.j0 kq m x o l b v q s t u=some r)∧Aside0 (kq≤k)∧Aside0 (wc.heap[al]? =some (.cells #[(.slice T m.length U),(.slice W x.length X)] 34 (0,0)))∧Aside0 (wc.heap[p]? =some (.cells #[.int .i64 o, .int .i64 l,(.slice z b.length A), .int .i64 v, .int .i64 q,(.slice B s.length D),(.slice E t.length G),(.slice I u.length J)] 50 (0,0)))∧Aside0 (Below w.heap.size w wc))
 case first=>
  have H:=a4.out
  clear a4
  by_cases c8:o=(-1)
  ·rw[if_pos c8]at H
   have ab:=beq_iff_eq.mpr c8
   have b5:=bne_eq_false_iff_eq.mpr c8
   clear c8
   (first|rw[ab]|(simp only[bT,bU];rw[ab])|skip)
   by_cases c9:l=0
   ·rw[if_pos c9]at H
    have b6:=beq_iff_eq.mpr c9
    have b7:=bne_eq_false_iff_eq.mpr c9
    clear c9
    have H' :=Aside0.mk H
    clear H
    have cn:=g.out
    have co:=d.out
    obtain⟨_,_,_,_,_,_,_,_,_,_,_,_,_,_,_,_⟩:=cf8 a
    go_wp2
    go_meet
    case rel=>exact⟨_,H',⟨by first|omega|exact Nat.le_refl _⟩,kk c,kk a,⟨bl⟩⟩
   ·rw[if_neg c9]at H
    have b6:=beq_eq_false_iff_ne.mpr c9
    have b7:=bne_iff_ne.mpr c9
    obtain rfl:=Option.some.inj H;clear H
    have cp:=g.out
    have cq:=d.out
    obtain⟨_,_,_,_,_,_,_,_,_,_,_,_,_,_,_,_⟩:=cf8 a
    go_wp2
    go_ret
    exact fin
  ·rw [if_neg c8]at H
   have ab:=beq_eq_false_iff_ne.mpr c8
   have b5:=bne_iff_ne.mpr c8
   (first|rw[ab]|(simp only[bT,bU];rw[ab])|skip)
   by_cases c14:o=0
   ·rw[if_pos c14]at H
    have bj:=beq_iff_eq.mpr c14
    have bk:=bne_eq_false_iff_eq.mpr c14
    clear c14
    obtain rfl:=Option.some.inj H;clear H
    have cr:=g.out
    have cs:=d.out
    obtain⟨_,_,_,_,_,_,_,_,_,_,_,_,_,_,_,_⟩:=cf8 a
    go_wp2
    go_ret
    exact fin
   ·rw [if_neg c14]at H
    have bj:=beq_eq_false_iff_ne.mpr c14
    have bk:=bne_iff_ne.mpr c14
    obtain⟨am,a0,H⟩:=ob H
    by_cases c18:am=true
    ·subst c18
     replace H:=it H
     by_cases c19:l<0
     ·rw[if_pos c19]at H
      have bm:decide (l<0)=true:=decide_eq_true c19
      clear c19
      obtain rfl:=Option.some.inj H;clear H
      have ct:=g.out
      have cv:=d.out
      obtain⟨_,_,_,_,_,_,_,_,_,_,_,_,_,_,_,_⟩:=cf8 a
      obtain⟨_,_,_,_⟩:=cf2 c
      go_wp2_with (first|(go_at_call 61;(with_reducible refine(dG.calls _ _ m o true _ ?s1 ?s2 a0.out).mono ?_);(case s1=>exact cb Y.out);(case s2=>exact Z.out);rintro e w' ⟨rfl,⟨nd,rfl⟩⟩))
      go_ret
      exact fin
     ·rw[if_neg c19]at H
      have bm:decide (l<0)=false:=decide_eq_false c19
      clear c19
      by_cases c23:l≥3
      ·rw[if_pos c23]at H
       have bo:decide (3≤l)=true:=decide_eq_true c23
       clear c23
       obtain rfl:=Option.some.inj H;clear H
       have cw:=g.out
       have cx:=d.out
       obtain⟨_,_,_,_,_,_,_,_,_,_,_,_,_,_,_,_⟩:=cf8 a
       obtain⟨_,_,_,_⟩:=cf2 c
       go_wp2_with (first|(go_at_call 61;(with_reducible refine(dG.calls _ _ m o true _ ?s1 ?s2 a0.out).mono ?_);(case s1=>exact cb Y.out);(case s2=>exact Z.out);rintro e w' ⟨rfl,⟨nd,rfl⟩⟩))
       go_ret
       exact fin
      ·rw[if_neg c23]at H
       have bo:decide (3≤l)=false:=decide_eq_false c23
       clear c23
       have H' :=Aside0.mk H
       clear H
       have cy:=g.out
       have cA:=d.out
       obtain⟨_,_,_,_,_,_,_,_,_,_,_,_,_,_,_,_⟩:=cf8 a
       obtain⟨_,_,_,_⟩:=cf2 c
       go_wp2_with (first|(go_at_call 61;(with_reducible refine(dG.calls _ _ m o true _ ?s1 ?s2 a0.out).mono ?_);(case s1=>exact cb Y.out);(case s2=>exact Z.out);rintro e w' ⟨rfl,⟨nd,rfl⟩⟩))
       go_meet
       case rel=>exact⟨_,H',⟨by first|omega|exact Nat.le_refl _⟩,kk c,kk a,⟨bl⟩⟩
    ·replace c18:=Bool.eq_false_iff.mpr c18
     subst c18
     replace H:=ie H
     obtain rfl:=Option.some.inj H;clear H
     have cC:=g.out
     have cD:=d.out
     obtain⟨_,_,_,_,_,_,_,_,_,_,_,_,_,_,_,_⟩:=cf8 a
     obtain⟨_,_,_,_⟩:=cf2 c
     go_wp2_with (first|(go_at_call 61;(with_reducible refine(dG.calls _ _ m o false _ ?s1 ?s2 a0.out).mono ?_);(case s1=>exact cb Y.out);(case s2=>exact Z.out);rintro e w' ⟨rfl,⟨nd,rfl⟩⟩))
     go_ret
     exact fin
 case rest =>
  clear a4
  obtain⟨kq,HA,HJ2,c,a,HB⟩:=hcut
  cases kq with
  |zero=>exact absurd HA.out (by simp[aU.j0])
  | succ ca =>
   have H:=HA.out
   clear HA
   simp only[aU.j0]at H
   have an:=Aside0.mk H
   clear H
   go_upto_region 6 with(fail)
   go_cut [46] (fun v46 wc=> ∃(kq:Nat) (O:Bool),v46= .bool O∧Aside0 (aU.j1 kq O m x o l b v q s t u=some r)∧Aside0 (kq≤ca)∧Aside0 (wc.heap[al]? =some (.cells #[(.slice T m.length U),(.slice W x.length X)] 34 (0,0)))∧Aside0 (wc.heap[p]? =some (.cells #[.int .i64 o, .int .i64 l,(.slice z b.length A), .int .i64 v, .int .i64 q,(.slice B s.length D),(.slice E t.length G),(.slice I u.length J)] 50 (0,0)))∧Aside0 (Below w.heap.size w wc))
   case first=>
    have H:=an.out
    clear an
    by_cases c34:(b.length:Int)>2
    ·rw[if_pos c34]at H
     have P:decide (2<(b.length:Int))=true:=decide_eq_true c34
     have bp:decide (2<b.length)=true:=decide_eq_true (by omega)
     clear c34
     (first|rw[P]|(simp only[bT,bU];rw[P])|skip)
     have H' :=Aside0.mk H
     clear H
     have cE:=g.out
     have cF:=d.out
     obtain⟨_,_,_,_,_,_,_,_,_,_,_,_,_,_,_,_⟩:=cf8 a
     go_wp2
     go_meet
     case rel=>exact⟨_,(true),(by first|rfl|(simp;done)|(simp[*];done)),H',⟨by have:=HJ2.out;first|omega|exact Nat.le_refl _⟩,kk c,kk a,⟨bl⟩⟩
    ·rw[if_neg c34]at H
     have P:decide (2<(b.length:Int))=false:=decide_eq_false c34
     have bp:decide (2<b.length)=false:=decide_eq_false (by omega)
     clear c34
     (first|rw[P]|(simp only[bT,bU];rw[P])|skip)
     obtain⟨a5,cc,H⟩:=ob H
     have H' :=Aside0.mk H
     clear H
     have cG:=g.out
     have cH:=d.out
     obtain⟨_,_,_,_,_,_,_,_,_,_,_,_,_,_,_,_⟩:=cf8 a
     obtain⟨_,_,_,_⟩:=cf2 c
     go_wp2_with (first|(go_at_call 60;(with_reducible refine(dK.calls (m.length:Int) v a5 _ cc.out).mono ?_);rintro e w' ⟨rfl,⟨nd,rfl⟩⟩))
     go_meet
     case rel=>exact⟨_,(!a5),(by first|rfl|(simp;done)|(simp[*];done)),H',⟨by have:=HJ2.out;first|omega|exact Nat.le_refl _⟩,kk c,kk a,⟨bl⟩⟩
   case rest=>
    clear an
    obtain⟨kq,O,rfl,HA,a6,c,a,HB⟩:=hcut
    cases kq with
    |zero=>exact absurd HA.out (by simp[aU.j1])
    | succ a7=>
     have H:=HA.out
     clear HA
     simp only[aU.j1]at H
     by_cases a1:O=true
     ·subst a1
      replace H:=it H
      obtain rfl:=Option.some.inj H;clear H
      go_wp2
      go_ret
      exact fin
     ·replace a1:=Bool.eq_false_iff.mpr a1
      subst a1
      replace H:=ie H
      have H' :=Aside0.mk H
      clear H
      have cI:=g.out
      have cJ:=d.out
      obtain⟨_,_,_,_,_,_,_,_,_,_,_,_,_,_,_,_⟩:=cf8 a
      go_wp2
      go_loopg [50] a7 (fun kq v50 w' => ∃(j:Int),v50= .int .i64 j∧Aside0 (aU.l0 kq b (b.length:Int) j m x o l b v q s t u=some r)∧Aside0 (kq≤a7)∧Aside0 (w'.heap[al]? =some (.cells #[(.slice T m.length U),(.slice W x.length X)] 34 (0,0)))∧Aside0 (w'.heap[p]? =some (.cells #[.int .i64 o, .int .i64 l,(.slice z b.length A), .int .i64 v, .int .i64 q,(.slice B s.length D),(.slice E t.length G),(.slice I u.length J)] 50 (0,0)))∧Aside0 (Below w.heap.size w w'))
      case atStart=>exact⟨(0),(by first|rfl|(simp;done)|(simp[*];done)),H',⟨Nat.le_refl _⟩,kk c,kk a,⟨bl⟩⟩
      case round=>
       clear H'
       obtain⟨j,rfl,HA,b1,c,a,HB⟩:=hrel
       cases gk with
       |zero=>exact absurd HA.out (by simp[aU.l0])
       | succ k3=>
        have H:=HA.out
        clear HA
        simp only[aU.l0]at H
        by_cases ac:j<(b.length:Int)
        ·rw [if_pos ac]at H
         have br:decide (j<(b.length:Int))=true:=decide_eq_true ac
         clear ac
         by_cases a2:0≤j
         ·rw[if_pos a2]at H
          have cL:decide (0≤j)=true:=decide_eq_true a2
          clear a2
          by_cases c46:j<(b.length:Int)
          ·rw[if_pos c46]at H
           have cM:decide (j<(b.length:Int))=true:=decide_eq_true c46
           clear c46
           obtain⟨b8,b2,H⟩:=ob H
           by_cases a3:b8=true
           ·subst a3
            replace H:=it H
            have H' :=Aside0.mk H
            clear H
            have L:0≤(j:Int):=od
            have M:j<(b.length:Int):=od
            obtain⟨bs,ao,y⟩:=Kd.at_int ad.out j L M
            cases ao
            replace y:=hc HB y
            replace L:=eq_true L
            replace M:=eq_true M
            have cN:=d.out
            have cP:=g.out
            obtain⟨_,_,_,_⟩:=cf2 c
            go_wp2_with (first|((with_reducible refine gc 60 rfl ?_);refine gl (some 58) Try.func60 #[.int .i64 (m.length:Int), .int .i64 (rd b j)] rfl ?_;(with_reducible refine(dK.calls (m.length:Int) (rd b j) true _ b2.out).mono ?_);rintro e w' ⟨rfl,⟨nd,rfl⟩⟩;refine⟨_,rfl, ?_⟩))
            go_roundg k3
            case measure=>have:=HJ2.out;have:=a6.out;have:=b1.out;omega
            case rel=>exact⟨(wrap64 (j+1)),(by first|rfl|(simp;done)|(simp[*];done)),H',⟨by have:=HJ2.out;have:=a6.out;have:=b1.out;omega⟩,kk c,kk a,⟨bl⟩⟩
           ·replace a3:=Bool.eq_false_iff.mpr a3
            subst a3
            replace H:=ie H
            obtain rfl:=Option.some.inj H;clear H
            have L:0≤(j:Int):=od
            have M:j<(b.length:Int):=od
            obtain⟨bs,ao,y⟩:=Kd.at_int ad.out j L M
            cases ao
            replace y:=hc HB y
            replace L:=eq_true L
            replace M:=eq_true M
            have cQ:=d.out
            have cR:=g.out
            obtain⟨_,_,_,_⟩:=cf2 c
            go_wp2_with (first|((with_reducible refine gc 60 rfl ?_);refine gl (some 58) Try.func60 #[.int .i64 (m.length:Int), .int .i64 (rd b j)] rfl ?_;(with_reducible refine(dK.calls (m.length:Int) (rd b j) false _ b2.out).mono ?_);rintro e w' ⟨rfl,⟨nd,rfl⟩⟩;refine⟨_,rfl, ?_⟩))
            go_ret
            exact fin
          ·rw[if_neg c46]at H
           exact absurd H (by simp)
         ·rw[if_neg a2]at H
          exact absurd H (by simp)
        ·rw[if_neg ac]at H
         have br:decide (j<(b.length:Int))=false:=decide_eq_false ac
         clear ac
         by_cases c53:q≤3
         ·rw[if_pos c53]at H
          have bw:decide (q≤3)=true:=decide_eq_true c53
          clear c53
          obtain⟨b9,cd,H⟩:=ob H
          obtain rfl:=Option.some.inj H;clear H
          try go_wp2
          replace c:=Aside0.mk (af c.out)
          replace a:=Aside0.mk (af a.out)
          replace HB:=Aside0.mk (aW HB.out)
          refine dX (n:=12) (S:=fun w' =>w'.cell? ⟨p,0,none⟩=some (.int .i64 o)∧w'.cell? ⟨p,1,none⟩=some (.int .i64 l)∧w'.cell? ⟨p,2,none⟩=some (.slice z b.length A)∧w'.cell? ⟨p,3,none⟩=some (.int .i64 v)∧w'.cell? ⟨p,4,none⟩=some (.int .i64 q)∧w'.cell? ⟨p,5,none⟩=some (.slice B s.length D)∧w'.cell? ⟨p,6,none⟩=some (.slice E t.length G)∧w'.cell? ⟨p,7,none⟩=some (.slice I u.length J)) (ds:= []) #[false,false,false,false,false,false,false,false,false,false,false,false] (by kernel_rfl) rfl rfl ⟨(ae a.out 0).trans rfl,(ae a.out 1).trans rfl,(ae a.out 2).trans rfl,(ae a.out 3).trans rfl,(ae a.out 4).trans rfl,(ae a.out 5).trans rfl,(ae a.out 6).trans rfl,(ae a.out 7).trans rfl⟩ (fun hHeld=> ?_);refine dH aU.tab14 aU.bits14 (fun HT_ HW_=> ?_)
          generalize wr.drew=c0 at c a HB hHeld⊢
          refine pu 0 61 #[true,false,false,false,false,false,false,false,false,false,false,false] HT_ rfl rfl ?_
          refine ta 1 62 #[true,true,false,false,false,false,false,false,false,false,false,false] HT_ HW_ hHeld rfl rfl ?_
          refine pu 2 63 #[true,true,true,false,false,false,false,false,false,false,false,false] HT_ rfl rfl ?_
          refine pu 3 64 #[true,true,true,true,false,false,false,false,false,false,false,false] HT_ rfl rfl ?_
          refine pu 4 65 #[true,true,true,true,true,false,false,false,false,false,false,false] HT_ rfl rfl ?_
          refine ta 5 66 #[true,true,true,true,true,true,false,false,false,false,false,false] HT_ HW_ hHeld rfl rfl ?_
          refine ta 6 67 #[true,true,true,true,true,true,true,false,false,false,false,false] HT_ HW_ hHeld rfl rfl ?_
          refine fo (i:=7) (N:=some 68) #[true,true,true,true,true,true,true,true,false,false,false,false] rfl rfl (dU HT_.out (by kernel_rfl)) (by decide) (fun K hK=> ?_)
          refine gs Try.func43 #[.agg #[.int .i64 o, .int .i64 l, .slice z b.length A, .int .i64 v, .int .i64 q, .slice B s.length D, .slice E t.length G, .slice I u.length J]] rfl rfl ?_
          with_reducible refine(fF.calls o l _ _ b v q _ _ s _ _ t _ _ u b9 _ ?s1 ?s2 ?s3 ?s4 ?s5 ?s6 ?s7 ?s8 cd.out).mono ?_
          (case s1=>exact cb ad.out)
          (case s2=>exact a9.out)
          (case s3=>exact cb ba.out)
          (case s4=>exact bb.out)
          (case s5=>exact cb bc.out)
          (case s6=>exact bd.out)
          (case s7=>exact cb be.out)
          (case s8=>exact bh.out)
          rintro e c1 ⟨cW,rfl,ho0,hb⟩
          refine⟨_,rfl, ?_⟩
          have b0:=Aside0.mk (Kd.R_lower ho0 (aK bl))
          replace c:=kb c hb
          replace a:=kb a hb
          replace HB:=hs HB hb
          (try clear hb)
          (try clear hb2)
          (try clear hk)
          (try clear hi)
          (try clear ho0)
          obtain⟨cX,cY,a8⟩:=Kd.R_slice b0.out
          (first|subst a8|(injection a8 with b3 ce b4;have cf:=b3.symm;have cg:=b4.symm;clear b3 ce b4;subst cf;subst cg))
          refine hK.out _ _ ⟨(ae a.out 0).trans rfl,(ae a.out 1).trans rfl,(ae a.out 2).trans rfl,(ae a.out 3).trans rfl,(ae a.out 4).trans rfl,(ae a.out 5).trans rfl,(ae a.out 6).trans rfl,(ae a.out 7).trans rfl⟩ (fun hHeld=> ?_)
          clear hK K
          refine no 68 ?_
          refine pu 8 69 #[true,true,true,true,true,true,true,true,true,false,false,false] HT_ rfl rfl ?_
          refine pu 9 70 #[true,true,true,true,true,true,true,true,true,true,false,false] HT_ rfl rfl ?_
          refine pu 10 71 #[true,true,true,true,true,true,true,true,true,true,true,false] HT_ rfl rfl ?_
          refine pu 11 4 #[true,true,true,true,true,true,true,true,true,true,true,true] HT_ rfl rfl ?_
          refine eT (dR HT_.out (by kernel_rfl)) ?_
          try go_wp2
          go_ret
          exact fin
         ·rw[if_neg c53]at H
          have bw:decide (q≤3)=false:=decide_eq_false c53
          clear c53
          obtain rfl:=Option.some.inj H;clear H
          try go_wp2
          replace c:=Aside0.mk (af c.out)
          replace a:=Aside0.mk (af a.out)
          replace HB:=Aside0.mk (aW HB.out)
          refine dX (n:=12) (S:=fun w' =>w'.cell? ⟨p,0,none⟩=some (.int .i64 o)∧w'.cell? ⟨p,1,none⟩=some (.int .i64 l)∧w'.cell? ⟨p,2,none⟩=some (.slice z b.length A)∧w'.cell? ⟨p,3,none⟩=some (.int .i64 v)∧w'.cell? ⟨p,4,none⟩=some (.int .i64 q)∧w'.cell? ⟨p,5,none⟩=some (.slice B s.length D)∧w'.cell? ⟨p,6,none⟩=some (.slice E t.length G)∧w'.cell? ⟨p,7,none⟩=some (.slice I u.length J)) (ds:= []) #[false,false,false,false,false,false,false,false,false,false,false,false] (by kernel_rfl) rfl rfl ⟨(ae a.out 0).trans rfl,(ae a.out 1).trans rfl,(ae a.out 2).trans rfl,(ae a.out 3).trans rfl,(ae a.out 4).trans rfl,(ae a.out 5).trans rfl,(ae a.out 6).trans rfl,(ae a.out 7).trans rfl⟩ (fun hHeld=> ?_);refine dH aU.tab14 aU.bits14 (fun HT_ HW_=> ?_)
          generalize wr.drew=da at c a HB hHeld⊢
          refine pu 0 61 #[true,false,false,false,false,false,false,false,false,false,false,false] HT_ rfl rfl ?_
          refine ta 1 62 #[true,true,false,false,false,false,false,false,false,false,false,false] HT_ HW_ hHeld rfl rfl ?_
          refine pu 2 63 #[true,true,true,false,false,false,false,false,false,false,false,false] HT_ rfl rfl ?_
          refine pu 3 64 #[true,true,true,true,false,false,false,false,false,false,false,false] HT_ rfl rfl ?_
          refine pv 4 65 #[true,true,true,true,true,false,false,false,false,false,false,false] HT_ rfl rfl ?_
          refine pv 5 66 #[true,true,true,true,true,true,false,false,false,false,false,false] HT_ rfl rfl ?_
          refine pv 6 67 #[true,true,true,true,true,true,true,false,false,false,false,false] HT_ rfl rfl ?_
          refine pv 7 68 #[true,true,true,true,true,true,true,true,false,false,false,false] HT_ rfl rfl ?_
          refine pv 8 69 #[true,true,true,true,true,true,true,true,true,false,false,false] HT_ rfl rfl ?_
          refine pv 9 70 #[true,true,true,true,true,true,true,true,true,true,false,false] HT_ rfl rfl ?_
          refine pu 10 71 #[true,true,true,true,true,true,true,true,true,true,true,false] HT_ rfl rfl ?_
          refine pu 11 4 #[true,true,true,true,true,true,true,true,true,true,true,true] HT_ rfl rfl ?_
          refine eT (dR HT_.out (by kernel_rfl)) ?_
          try go_wp2
          go_ret
          exact fin
set_option maxHeartbeats 8000000 in
set_option maxRecDepth 100000 in
theorem ic.calls (a0:Int) (r:Bool) (w:World) (h:ic.f a0=some r):
  Calls Try.prog 81 #[.int .i64 a0] w fun e w' =>e= .returned (.bool r)∧Drawn0 w w' :=by
 have H:(if a0≥(-128)then(some (decide (a0≤127)))else(some false))=some r:=h
 clear h
 by_cases c2:a0≥(-128)
 ·rw[if_pos c2]at H
  have a:decide ((-128)≤a0)=true:=decide_eq_true c2
  clear c2
  obtain rfl:=Option.some.inj H;clear H
  go_enter Try.func81,Try.ntmps81
  go_wp2
  go_ret
  exact⟨by first|rfl|(simp;done)|(simp[*];done),by repeat(first|exact Drawn0.refl _|apply Drawn0.step)⟩
 ·rw[if_neg c2]at H
  have a:decide ((-128)≤a0)=false:=decide_eq_false c2
  clear c2
  obtain rfl:=Option.some.inj H;clear H
  go_enter Try.func81,Try.ntmps81
  go_wp2
  go_ret
  exact⟨by first|rfl|(simp;done)|(simp[*];done),by repeat(first|exact Drawn0.refl _|apply Drawn0.step)⟩
end Go.Proofs.Yteinbmkgenhocaa.P
end
