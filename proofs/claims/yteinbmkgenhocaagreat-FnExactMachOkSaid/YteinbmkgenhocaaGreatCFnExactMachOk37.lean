/- A part of the claim FnExactMachOk. -/
import Derived.Test.YteinbmkgenhocaaGreatCFnExactMachOk36
section
namespace Go.Proofs.YteinbmkgenhocaaGreat.P
open Go.RowKit Go.Proofs.YteinbmkgenhocaaGreatW.PrintWords Go.Proofs.YteinbmkgenhocaaGreatW.PrintLast Go.Proofs.YteinbmkgenhocaaGreatW.PrintMore
attribute [local go_sem] ah ai av ax af ag aj ak
set_option linter.unusedVariables false
set_option linter.unusedSimpArgs false
set_option maxHeartbeats 8000000 in
set_option maxRecDepth 100000 in
theorem dz.calls (k:Nat) (A0:Option Addr) (c0:Nat) (l0:List (S122)) (r:List (S104)) (w:World) (hr0:Kd.C kL w A0 l0.length l0) (hc0:l0.length≤c0) (h:dz.f k l0=some r):
  Calls Tryz.prog 32 #[.slice A0 l0.length c0] w fun e w' => ∃cp:Value,e= .returned (cp)∧Kd.R eD 104 w' w.heap.size (fun _=>True) cp r∧Below w.heap.size w w' :=by
 have dg:=Tryz.underlying122
 have dj:=Tryz.underlying104
 have cy:=Aside0.mk hr0
 have d0:=Aside0.mk hc0
 clear hr0 hc0
 have HB:=Aside0.mk (Below.refl w.heap.size w)
 have H:(if 0≤(l0.length:Int)then(if((l0.length:Int):Int).toNat≤2199023255552 then(dz.l0 k l0 (List.replicate ((l0.length:Int):Int).toNat jM) 0)else(none))else(none))=some r:=h
 clear h
 by_cases c2:0≤(l0.length:Int)
 ·rw [if_pos c2]at H
  have dl:=eq_true c2
  have dp:decide (0≤(l0.length:Int))=true:=decide_eq_true c2
  clear c2
  by_cases c3:((l0.length:Int):Int).toNat≤2199023255552
  ·rw [if_pos c3]at H
   have dq:=eq_true c3
   have dr:decide (((l0.length:Int):Int).toNat≤2199023255552)=true:=decide_eq_true c3
   clear c3
   obtain⟨a7,y⟩: ∃y_:List (S104),y_=(List.replicate ((l0.length:Int):Int).toNat jM):=⟨_,rfl⟩
   replace H:(dz.l0 k l0 a7 0)=some r:=by first|(rw[y];with_reducible exact H)|(have A:=(Option.bind_some _ _).symm.trans H;rw[y];with_reducible exact A)|(have A:=(Option.bind_some _ _).symm.trans H;with_reducible exact A)|with_reducible exact H|(rw[y];exact H)|exact H
   have aP:=Aside0.mk y
   clear y
   have H' :=Aside0.mk H
   clear H
   go_enter Tryz.func32,Tryz.ntmps32
   go_wp2_with (first|((with_reducible refine gd 7 rfl ?_);refine Kd.R_make eD _ 104 rfl (N:=7) rfl 36 _ _ rfl (l0.length:Int) rfl rfl Tryz.underlying36 (.agg #[(.int .i64 0),(.int .i64 0),(.slice none 0 0),(.int .i64 0),(.int .i64 0),(.slice none 0 0),(.slice none 0 0),(.slice none 0 0)]) 128 uG rfl (by decide) (by omega) jM (ok:=fun _=>True) (okp:=fun _=>True) (oU _ _ _ jM (Kd.R_nil _ _ _ _ _) (Kd.R_nil _ _ _ _ _) (Kd.R_nil _ _ _ _ _) (Kd.R_nil _ _ _ _ _)) (fun _ hk=>hk) trivial (of_decide_eq_true (by first|(with_reducible assumption)|assumption)) (Nat.le_trans (Nat.mul_le_mul_right _ (of_decide_eq_true (by first|(with_reducible assumption)|assumption):(l0.length:Int).toNat≤2199023255552)) (by omega)) (Below.refl _ _) (Nat.le_refl _) ?_;intro cv w4 ap hb hg_ hnew_;clear hg_ hnew_;(first|rw[←aP.out]at ap|(simp only[Int.reduceToNat]at ap;rw[←aP.out]at ap));have cm:=Aside0.mk (Kd.R_lower ap (aM bl));replace HB:=hs HB hb;clear hb ap))
   go_loopg [4] k (fun kq v4 w' => ∃(c:List (S104)) (a:Int),v4= .int .i64 a∧Aside0 (dz.l0 kq l0 c a=some r)∧Aside0 (kq≤k)∧Aside0 (Kd.R eD 104 w' w.heap.size (fun _=>True) cv c)∧Aside0 (Below w.heap.size w w'))
   case atStart=>exact⟨(a7),(0),(by first|rfl|(simp;done)|(simp[*];done)),H',⟨Nat.le_refl _⟩,⟨by(with_reducible repeat(first|apply Kd.R_alloc|apply Kd.R_drewN|apply Kd.R_drew));exact cm.out⟩,⟨bl⟩⟩
   case round=>
    clear H'
    obtain⟨c,a,rfl,HA,cq,d,HB⟩:=hrel
    cases gk with
    |zero=>exact absurd HA.out (by simp[dz.l0])
    | succ k1=>
     have H:=HA.out
     clear HA
     simp only[dz.l0]at H
     by_cases c6:a<(l0.length:Int)
     ·rw[if_pos c6]at H
      have cw:decide (a<(l0.length:Int))=true:=decide_eq_true c6
      clear c6
      by_cases c7:0≤a
      ·rw[if_pos c7]at H
       have ds:decide (0≤a)=true:=decide_eq_true c7
       clear c7
       replace H:=Option.bind_eq_some_iff.mp H
       obtain⟨⟨q,s,B,u,x,D,E,G⟩,cr,H⟩:=H
       replace H:(if a<(c.length:Int)then(dz.l0 k1 l0 (c.set (a:Int).toNat (⟨q,s,B,u,x,D,E,G⟩:S104)) (wrap64 (a+1)))else(none))=some r:=H
       have A8:=Aside0.mk cr
       clear cr
       by_cases c9:a<(c.length:Int)
       ·rw[if_pos c9]at H
        have dt:decide (a<(c.length:Int))=true:=decide_eq_true c9
        clear c9
        obtain⟨aq,z⟩: ∃y_:List (S104),y_=(c.set (a:Int).toNat (⟨q,s,B,u,x,D,E,G⟩:S104)):=⟨_,rfl⟩
        replace H:(dz.l0 k1 l0 aq (wrap64 (a+1)))=some r:=by first|(rw[z];with_reducible exact H)|(have A:=(Option.bind_some _ _).symm.trans H;rw[z];with_reducible exact A)|(have A:=(Option.bind_some _ _).symm.trans H;with_reducible exact A)|with_reducible exact H|(rw[z];exact H)|exact H
        have cn:=Aside0.mk z
        clear z
        have H' :=Aside0.mk H
        clear H
        have ar:0≤(a:Int):=od
        have aw:a<(l0.length:Int):=od
        obtain⟨dk,a8,a9,ba,bb,bc,bd,be,bh,e345,I,J,K,L,M,O,P,T,U,W,X,Y,Z,ab,ac,ad⟩:=mY cy.out a ar aw
        cases e345
        obtain⟨I,J,K,L,M,O,P,T⟩:=hc8 HB I J K L M O P T
        have aS:=Aside0.mk W
        have a0:=Aside0.mk U
        clear W U
        have a1:=Aside0.mk Y
        have a2:=Aside0.mk X
        clear Y X
        have a3:=Aside0.mk ab
        have a4:=Aside0.mk Z
        clear ab Z
        have a5:=Aside0.mk ad
        have a6:=Aside0.mk ac
        clear ad ac
        replace ar:=eq_true ar
        replace aw:=eq_true aw
        go_wp2_with (first|(refine gl (some 20) Tryz.func77 #[.agg #[.int .i64 ((bf l0 a).f0), .int .i64 ((bf l0 a).f1), .slice a8 ((bf l0 a).f2).length a9, .int .i64 ((bf l0 a).f3), .int .i64 ((bf l0 a).f4), .slice ba ((bf l0 a).f5).length bb, .slice bc ((bf l0 a).f6).length bd, .slice be ((bf l0 a).f7).length bh]] rfl ?_;(with_reducible refine(iH.calls k1 ((bf l0 a).f0) ((bf l0 a).f1) _ _ ((bf l0 a).f2) ((bf l0 a).f3) ((bf l0 a).f4) _ _ ((bf l0 a).f5) _ _ ((bf l0 a).f6) _ _ ((bf l0 a).f7) q s B u x D E G _ (cb aS.out) a0.out (cb a1.out) a2.out (cb a3.out) a4.out (cb a5.out) a6.out A8.out).mono ?_);rintro e g ⟨aB,aE,aF,aL,rfl,ho0,ho1,ho2,ho3,hb⟩;refine⟨_,rfl, ?_⟩;have al:=Aside0.mk (Kd.R_lower ho0 (aM bl));have am:=Aside0.mk (Kd.R_lower ho1 (aM bl));have an:=Aside0.mk (Kd.S_lower ho2 (aM bl));have ao:=Aside0.mk (Kd.R_lower ho3 (aM bl));replace d:=Aside0.mk (Kd.R_mono (Kd.R_told (Kd.R_told (Kd.R_told (Kd.R_told (Kd.R_old (by(with_reducible repeat(first|apply Kd.R_alloc|apply Kd.R_drewN|apply Kd.R_drew));exact d.out) hb) (Kd.R_base ho0)) (Kd.R_base ho1)) (Kd.S_base ho2)) (Kd.R_base ho3)) (fun _ h_=>h_.1));replace HB:=hs HB hb;(try clear ho1);(try clear ho2);(try clear ho3);have bj:0≤(a:Int):=od;have bk:(a:Int)<((c.length:Int):Int):=od;obtain⟨b,bm,bo,bp,cx,du,br⟩:=Kd.R_form d.out (by omega);(first|cases bo|(injection bo with ea_ en_ ec_;(first|subst ea_|(injection ea_ with ea_;subst ea_));subst ec_;clear en_));have o:=Aside0.mk bp;have dv:=Aside0.mk br;clear bp cx br;obtain⟨dy,co,bs,l,m⟩:=Kd.R_elem d.out jM (a:Int) bj bk;obtain⟨bt,bw,b0,b1,rfl,cA,cC,cD,cE⟩:=mG bs;have cF:g.cell? ⟨b,(a:Int).toNat * 8,none⟩=some (.int .i64 ((aa c a).f0)):=l 0 _ rfl;have cG:g.cell? ⟨b,(a:Int).toNat * 8+1,none⟩=some (.int .i64 ((aa c a).f1)):=l 1 _ rfl;have cH:g.cell? ⟨b,(a:Int).toNat * 8+2,none⟩=some (bt):=l 2 _ rfl;have cI:g.cell? ⟨b,(a:Int).toNat * 8+3,none⟩=some (.int .i64 ((aa c a).f3)):=l 3 _ rfl;have cJ:g.cell? ⟨b,(a:Int).toNat * 8+4,none⟩=some (.int .i64 ((aa c a).f4)):=l 4 _ rfl;have cL:g.cell? ⟨b,(a:Int).toNat * 8+5,none⟩=some (bw):=l 5 _ rfl;have cM:g.cell? ⟨b,(a:Int).toNat * 8+6,none⟩=some (b0):=l 6 _ rfl;have cN:g.cell? ⟨b,(a:Int).toNat * 8+7,none⟩=some (b1):=l 7 _ rfl;have cP:g.frozen? ⟨b,(a:Int).toNat * 8,none⟩=false:=m 0;have cQ:g.frozen? ⟨b,(a:Int).toNat * 8+1,none⟩=false:=m 1;have cR:g.frozen? ⟨b,(a:Int).toNat * 8+2,none⟩=false:=m 2;have cS:g.frozen? ⟨b,(a:Int).toNat * 8+3,none⟩=false:=m 3;have cT:g.frozen? ⟨b,(a:Int).toNat * 8+4,none⟩=false:=m 4;have cU:g.frozen? ⟨b,(a:Int).toNat * 8+5,none⟩=false:=m 5;have cV:g.frozen? ⟨b,(a:Int).toNat * 8+6,none⟩=false:=m 6;have cW:g.frozen? ⟨b,(a:Int).toNat * 8+7,none⟩=false:=m 7;clear co l m bs;replace bj:=eq_true bj;replace bk:=eq_true bk;have n_:=Aside0.mk (Kd.R_mono (ok' :=(fun k_=>some k_≠(aB:Value).ownBlock∧some k_≠(aE:Value).ownBlock∧some k_≠(aF:Value).ownBlock∧some k_≠(aL:Value).ownBlock)) d.out (fun k_ hk=>⟨hk.1.1.1.2,⟨hk.1.1.2,⟨hk.1.2,hk.2⟩⟩⟩));clear d;have d:=n_;clear n_;have b2:=Aside0.mk (show Kd.R eD 104 g w.heap.size (fun _=>True) (.slice (some ⟨b,0,none⟩) c.length bm) c from(by(with_reducible repeat(first|apply Kd.R_alloc|apply Kd.R_drewN|apply Kd.R_drew));exact Kd.R_mono d.out (fun _ hk=>trivial)));obtain⟨dT,aR,b3,i,n⟩:=Kd.R_elem b2.out jM (a:Int) (of_decide_eq_true (by first|(with_reducible assumption)|assumption)) (by have h_:(a:Int)<((c.length:Int):Int):=of_decide_eq_true (by first|(with_reducible assumption)|assumption);first|exact h_|(have e_:=(Kd.R_reads' d.out).1;omega)|simpa using h_);obtain⟨cX,cY,c1,da,rfl,db,dc,dd,de⟩:=mG b3;have aO:=Kd.R_seg b2.out (a:Int) (of_decide_eq_true (by first|(with_reducible assumption)|assumption)) (by have h_:(a:Int)<((c.length:Int):Int):=of_decide_eq_true (by first|(with_reducible assumption)|assumption);first|exact h_|(have e_:=(Kd.R_reads' d.out).1;omega)|simpa using h_) (seg:= [.int .i64 q, .int .i64 s,aB, .int .i64 u, .int .i64 x,aE,aF,aL]) (j:=0) aR i (show 8≤8 from by decide) (x' :=(⟨q,s,B,u,x,D,E,G⟩:S104)) (oU _ _ _ (⟨q,s,B,u,x,D,E,G⟩:S104) (Kd.R_mono (Kd.R_apart' (al.out) (Kd.R_typed d.out) (by decide)) (fun k_ hk=>⟨trivial,fun e_=>(hk.2) (by rw[e_];rfl)⟩)) (Kd.R_mono (Kd.R_apart' (am.out) (Kd.R_typed d.out) (by decide)) (fun k_ hk=>⟨trivial,fun e_=>(hk.2) (by rw[e_];rfl)⟩)) (Kd.R_mono (Kd.R_apart' ((Kd.S_R an.out)) (Kd.R_typed d.out) (by decide)) (fun k_ hk=>⟨trivial,fun e_=>(hk.2) (by rw[e_];rfl)⟩)) (Kd.R_mono (Kd.R_apart' (ao.out) (Kd.R_typed d.out) (by decide)) (fun k_ hk=>⟨trivial,fun e_=>(hk.2) (by rw[e_];rfl)⟩))) (fun _ hk=>hk);have b4:=i 0 _ rfl;(try simp only[show(eD).sz=8 from rfl,Nat.mul_one,Nat.add_zero]at b4);have b5:=n 0;(try simp only[show(eD).sz=8 from rfl,Nat.mul_one,Nat.add_zero]at b5);have b6:=i 1 _ rfl;(try simp only[show(eD).sz=8 from rfl,Nat.mul_one,Nat.add_zero]at b6);have b7:=n 1;(try simp only[show(eD).sz=8 from rfl,Nat.mul_one,Nat.add_zero]at b7);have b8:=i 2 _ rfl;(try simp only[show(eD).sz=8 from rfl,Nat.mul_one,Nat.add_zero]at b8);have b9:=n 2;(try simp only[show(eD).sz=8 from rfl,Nat.mul_one,Nat.add_zero]at b9);have ca:=i 3 _ rfl;(try simp only[show(eD).sz=8 from rfl,Nat.mul_one,Nat.add_zero]at ca);have cc:=n 3;(try simp only[show(eD).sz=8 from rfl,Nat.mul_one,Nat.add_zero]at cc);have cd:=i 4 _ rfl;(try simp only[show(eD).sz=8 from rfl,Nat.mul_one,Nat.add_zero]at cd);have ce:=n 4;(try simp only[show(eD).sz=8 from rfl,Nat.mul_one,Nat.add_zero]at ce);have cf:=i 5 _ rfl;(try simp only[show(eD).sz=8 from rfl,Nat.mul_one,Nat.add_zero]at cf);have cg:=n 5;(try simp only[show(eD).sz=8 from rfl,Nat.mul_one,Nat.add_zero]at cg);have ch:=i 6 _ rfl;(try simp only[show(eD).sz=8 from rfl,Nat.mul_one,Nat.add_zero]at ch);have ci:=n 6;(try simp only[show(eD).sz=8 from rfl,Nat.mul_one,Nat.add_zero]at ci);have cj:=i 7 _ rfl;(try simp only[show(eD).sz=8 from rfl,Nat.mul_one,Nat.add_zero]at cj);have ck:=n 7;(try simp only[show(eD).sz=8 from rfl,Nat.mul_one,Nat.add_zero]at ck);clear aR i n b3)|((with_reducible refine iw (t:=104) (p:=21) rfl ?_);refine gT (t:=104) (p:=21) (v:= ?vo_w13) (w1:=((((((((g.setCell ⟨b,(a:Int).toNat * 8,none⟩ (.int .i64 q)).setCell ⟨b,(a:Int).toNat * 8+1,none⟩ (.int .i64 s)).setCell ⟨b,(a:Int).toNat * 8+2,none⟩ (aB)).setCell ⟨b,(a:Int).toNat * 8+3,none⟩ (.int .i64 u)).setCell ⟨b,(a:Int).toNat * 8+4,none⟩ (.int .i64 x)).setCell ⟨b,(a:Int).toNat * 8+5,none⟩ (aE)).setCell ⟨b,(a:Int).toNat * 8+6,none⟩ (aF)).setCell ⟨b,(a:Int).toNat * 8+7,none⟩ (aL))) ?hg ?ho ?hn ?hr ?_;(case ho=>rfl);(case hg=>rfl);(case hn=>rfl);(case hr=>first|(go_simp;done)|(go_simp;rfl)|(obtain⟨_,_,rfl⟩:=Kd.R_slice al.out;obtain⟨_,_,rfl⟩:=Kd.R_slice am.out;obtain⟨_,_,rfl⟩:=Kd.S_slice an.out;obtain⟨_,_,rfl⟩:=Kd.R_slice ao.out;first|(go_simp;done)|(go_simp;rfl)));intro cl hw;have hg:g.grownBy cl (some b):=(by rw[hw];exact aO.2);have hp_:Kd.R eD 104 cl w.heap.size (fun _=>True) (.slice (some ⟨b,0,none⟩) c.length bm) aq:=(by rw[hw,cn.out];exact aO.1);clear aO;have cs:=Aside0.mk (hp_);have ct:=Aside0.mk ((by rw[hw];exact aZ (aZ (aZ (aZ (aZ (aZ (aZ (aZ (HB.out) o.out) o.out) o.out) o.out) o.out) o.out) o.out) o.out:Below w.heap.size w cl));clear d;clear HB;clear al;clear am;clear an;clear ao;have d:=cs;have HB:=ct;clear cs ct;clear hg hw hp_))
        go_roundg k1
        case measure=>have:=cq.out;omega
        case rel=>exact⟨(aq),(wrap64 (a+1)),(by first|rfl|(simp;done)|(simp[*];done)),H',⟨by have:=cq.out;omega⟩,⟨by(with_reducible repeat(first|apply Kd.R_alloc|apply Kd.R_drewN|apply Kd.R_drew));exact d.out⟩,⟨bl⟩⟩
       rw[if_neg c9]at H
       exact absurd H (by simp)
      rw[if_neg c7]at H
      exact absurd H (by simp)
     rw[if_neg c6]at H
     have cw:decide (a<(l0.length:Int))=false:=decide_eq_false c6
     clear c6
     obtain rfl:=Option.some.inj H;clear H
     go_wp2
     go_ret
     exact⟨_,by first|rfl|(simp[aW,aX]<;>rfl)|(simp[*,aW,aX]<;>rfl),by(with_reducible repeat(first|apply Kd.R_alloc|apply Kd.R_drewN|apply Kd.R_drew));exact d.out,bl⟩
  rw[if_neg c3]at H
  exact absurd H (by simp)
 rw[if_neg c2]at H
 exact absurd H (by simp)
set_option maxHeartbeats 8000000 in
set_option maxRecDepth 100000 in
theorem dY.calls (k:Nat) (u:Option Addr) (v:Nat) (d:List (S116)) (x:Option Addr) (y:Nat) (g:List (S122)) (r1:List (S126)) (r2:List (S104)) (w:World) (G:Kd.C kI w u d.length d) (I:d.length≤v) (J:Kd.C kL w x g.length g) (K:g.length≤y) (h:dY.f k d g=some (r1,r2)):
  Calls Tryz.prog 8 #[.agg #[.slice u d.length v, .slice x g.length y]] w fun e w' => ∃U W:Value,e= .returned (.agg #[U,W])∧Kd.S eB 126 w' w.heap.size (fun _=>True) U r1∧Kd.R eD 104 w' w.heap.size (fun _=>True) W r2∧Below w.heap.size w w' :=by
 have an:=Tryz.underlying25
 have ao:=Tryz.underlying38
 have M:=Aside0.mk G
 have O:=Aside0.mk I
 clear G I
 have P:=Aside0.mk J
 have T:=Aside0.mk K
 clear J K
 have HB:=Aside0.mk (Below.refl w.heap.size w)
 have H:((dB.f k d).bind fun i=>((dz.f k g).bind fun j=>(some (i,j))))=some (r1,r2):=h
 clear h
 obtain⟨i,A2,H⟩:=ob H
 obtain⟨j,A3,H⟩:=ob H
 simp only[Option.some.injEq,Prod.mk.injEq]at H
 obtain⟨rfl,rfl⟩:=H
 go_enter Tryz.func8,Tryz.ntmps8
 go_wp2_with (first|((with_reducible refine gd 1 rfl ?_);refine bx 1 #[.slice u d.length v, .slice x g.length y] 25 ?_;intro Z hg w4 hbox hb;have a:=Aside0.mk hbox;have ab:=hz HB hg;replace HB:=hs HB hb;clear hb hbox hg)|((with_reducible refine gd 2 rfl ?_);refine bx 2 #[.slice none 0 0, .slice none 0 0] 38 ?_;intro l hg w5 hbox hb;have b:=Aside0.mk hbox;have ac:=hz HB hg;have z:=nl a hg;have A:=ng a hg;replace a:=kb a hb;replace HB:=hs HB hb;clear hb hbox hg)|((with_reducible refine gd 3 rfl ?_);refine bx 3 #[.slice none 0 0, .slice none 0 0] 38 ?_;intro q hg w6 hbox hb;have c:=Aside0.mk hbox;have ad:=hz HB hg;have B:=nl a hg;have D:=ng a hg;have o:=nl b hg;have E:=ng b hg;replace a:=kb a hb;replace b:=kb b hb;replace HB:=hs HB hb;clear hb hbox hg;have ap:=z.out;have aq:=A.out;have ar:=B.out;have aw:=D.out;have:=cf2 a)|(refine gl (some 6) Tryz.func31 #[.slice u d.length v] rfl ?_;(with_reducible refine(dB.calls k _ _ d i _ (cb M.out) O.out A2.out).mono ?_);rintro e aF ⟨aB,rfl,ho0,hb⟩;refine⟨_,rfl, ?_⟩;have r:=Aside0.mk (Kd.S_lower ho0 (aM bl));replace a:=kb a hb;replace b:=kb b hb;replace c:=kb c hb;replace HB:=hs HB hb;obtain⟨m,n,X⟩:=Kd.S_slice r.out;subst X;have al:=E.out;have am:=o.out;have:=cf2 c;have:=cf2 a)|(refine gl (some 10) Tryz.func32 #[.slice x g.length y] rfl ?_;(with_reducible refine(dz.calls k _ _ g j _ (cb P.out) T.out A3.out).mono ?_);rintro e aL ⟨aE,rfl,ho0,hb⟩;refine⟨_,rfl, ?_⟩;have L:=Aside0.mk (Kd.R_lower ho0 (aM bl));replace r:=Aside0.mk (Kd.S_below (by(with_reducible repeat(first|apply Kd.S_alloc|apply Kd.S_drewN|apply Kd.S_drew));exact(Kd.S_mono (Kd.S_far (p:=⟨q,0,none⟩) (Kd.S_types r.out c.out (by decide)) (fun _ hk=>hk.2) (.slice m i.length n)) (fun _ h_=>h_.1))) hb);replace a:=kq a hb;replace b:=kq b hb;replace c:=kp q #[.slice m i.length n, .slice none 0 0] 38 hb;replace HB:=hs HB hb;obtain⟨s,t,Y⟩:=Kd.R_slice L.out;subst Y;have:=cf2 c;have:=cf2 b))
 refine bodyPost_ret (results_cell_row rfl _ _ l 38 #[.slice m i.length n, .slice s j.length t] (0,0) _ rfl (by(with_reducible repeat(first|refine aC ?_ _|refine au ?_|refine aA ?_ _));refine dC (cs:= #[.slice m i.length n, .slice none 0 0]) ?_ 1 _ rfl;(with_reducible repeat(first|refine aC ?_ _|refine au ?_|refine aA ?_ _));refine dC (cs:= #[.slice none 0 0, .slice none 0 0]) ?_ 0 _ rfl;(with_reducible repeat(first|refine aC ?_ _|refine au ?_|refine aA ?_ _));refine fH ?_ o.out _;(with_reducible repeat(first|refine aC ?_ _|refine au ?_|refine aA ?_ _));exact b.out) Tryz.underlying38 rfl (by kernel_rfl)) rfl ?_
 exact⟨_,_,by first|rfl|(simp[aW,aX]<;>rfl)|(simp[*,aW,aX]<;>rfl),by(with_reducible repeat(first|apply Kd.S_alloc|apply Kd.S_drewN|apply Kd.S_drew));exact Kd.S_mono (Kd.S_far (p:=⟨l,1,none⟩) (Kd.S_far (p:=⟨l,0,none⟩) (Kd.S_far (p:=⟨q,1,none⟩) (Kd.S_types (Kd.S_types r.out c.out (by decide)) b.out (by decide)) (fun _ hk=>hk.1.2) (.slice s j.length t)) (fun _ hk=>hk.2) (.slice m i.length n)) (fun _ hk=>hk.2) (.slice s j.length t)) (fun _ hk=>trivial),by(with_reducible repeat(first|apply Kd.R_alloc|apply Kd.R_drewN|apply Kd.R_drew));exact Kd.R_mono (Kd.R_far (p:=⟨l,1,none⟩) (Kd.R_far (p:=⟨l,0,none⟩) (Kd.R_far (p:=⟨q,1,none⟩) (Kd.R_types (Kd.R_types L.out c.out (by decide)) b.out (by decide)) (fun _ hk=>hk.1.2) (.slice s j.length t)) (fun _ hk=>hk.2) (.slice m i.length n)) (fun _ hk=>hk.2) (.slice s j.length t)) (fun _ hk=>trivial),bl⟩
set_option maxHeartbeats 8000000 in
set_option maxRecDepth 100000 in
theorem laws_FnExactMachOk.calls (k:Nat) (a9:Option Addr) (ba:Nat) (E:List (S116)) (bb:Option Addr) (bc:Nat) (G:List (S122)) (bk:Option Addr) (bm:Nat) (z:List (S143)) (bo:Option Addr) (bp:Nat) (A:List (S146)) (br:Option Addr) (bs:Nat) (B:List Int) (L:Int) (M:Int) (O:Bool) (P:Int) (r:Bool) (w:World) (cN:Kd.C kI w a9 E.length E) (cP:E.length≤ba) (cQ:Kd.C kL w bb G.length G) (cR:G.length≤bc) (cS:Kd.C kM w bk z.length z) (cT:z.length≤bm) (cU:Kd.C kN w bo A.length A) (cV:A.length≤bp) (cW:Kd.C (Kd.int .i64) w br B.length B) (cX:B.length≤bs) (h:laws_FnExactMachOk.f k E G z A B L M O P=some r) (hr_:r=true):
  Calls Tryz.prog 4 #[.agg #[.slice a9 E.length ba, .slice bb G.length bc], .agg #[.slice bk z.length bm, .slice bo A.length bp, .slice br B.length bs, .int .i64 L, .int .i64 M, .bool O, .int .i64 P]] w fun e w' =>e= .returned (.bool r)∧Below w.heap.size w w' :=by
 have fd:=Tryz.underlying25
 have ff:=Tryz.underlying49
 have fg:=Tryz.underlying38
 have fh:=Tryz.underlying33
 have bw:=Aside0.mk cN
 have b0:=Aside0.mk cP
 clear cN cP
 have b1:=Aside0.mk cQ
 have b2:=Aside0.mk cR
 clear cQ cR
 have b6:=Aside0.mk cS
 have b7:=Aside0.mk cT
 clear cS cT
 have b8:=Aside0.mk cU
 have b9:=Aside0.mk cV
 clear cU cV
 have ca:=Aside0.mk cW
 have cc:=Aside0.mk cX
 clear cW cX
 have HB:=Aside0.mk (Below.refl w.heap.size w)
 have H:((gQ.f k E G 1048576).bind fun bd=>(if bd<0 then(some true)else((iy.f k z A B L M O P bd).bind fun b4=>(if b4<0 then(some true)else((dY.f k E G).bind fun cY=>((dO.f k z A B L M O P).bind fun aB=>((aJ.f k cY.1 cY.2 aB.1 aB.2.1 aB.2.2.1 aB.2.2.2.1 aB.2.2.2.2.1 aB.2.2.2.2.2.1 aB.2.2.2.2.2.2).bind fun aR=>((dY.f k E G).bind fun aO=>((dO.f k z A B L M O P).bind fun g=>((fZ.f k aO.1 aO.2 g.1 g.2.1 g.2.2.1 g.2.2.2.1 g.2.2.2.2.1 g.2.2.2.2.2.1 g.2.2.2.2.2.2).bind fun aE=>(if(aE !=aR)=true then(some false)else((dY.f k E G).bind fun aP=>((fM.f k aO.1 aO.2 aP.1 aP.2).bind fun be=>(if be=true then((dO.f k z A B L M O P).bind fun l=>((fE.f k g.1 g.2.1 g.2.2.1 g.2.2.2.1 g.2.2.2.2.1 g.2.2.2.2.2.1 g.2.2.2.2.2.2 l.1 l.2.1 l.2.2.1 l.2.2.2.1 l.2.2.2.2.1 l.2.2.2.2.2.1 l.2.2.2.2.2.2).bind fun a1=>(if a1=true then(some true)else(some false))))else(some false)))))))))))))))=some r:=h
 clear h
 obtain⟨bd,A3,H⟩:=ob H
 by_cases c4:bd<0
 ·rw[if_pos c4]at H
  have ee:decide (bd<0)=true:=decide_eq_true c4
  clear c4
  obtain rfl:=Option.some.inj H;clear H
  go_enter Tryz.func4,Tryz.ntmps4
  go_wp2_with (first|((with_reducible refine gd 2 rfl ?_);refine bx 2 #[.slice a9 E.length ba, .slice bb G.length bc] 25 ?_;intro b3 hg w5 hbox hb;have d:=Aside0.mk hbox;have c0:=hz HB hg;replace HB:=hs HB hb;clear hb hbox hg)|((with_reducible refine gd 3 rfl ?_);refine bx 3 #[.slice bk z.length bm, .slice bo A.length bp, .slice br B.length bs, .int .i64 L, .int .i64 M, .bool O, .int .i64 P] 49 ?_;intro aq hg w6 hbox hb;have b:=Aside0.mk hbox;have c1:=hz HB hg;have bh:=nl d hg;have bj:=ng d hg;replace d:=kb d hb;replace HB:=hs HB hb;clear hb hbox hg;have fi:=bh.out;have fj:=bj.out;have:=cf2 d)|(refine gl (some 12) Tryz.func6 #[.agg #[.slice a9 E.length ba, .slice bb G.length bc], .int .i64 1048576] rfl ?_;(with_reducible refine(gQ.calls k _ _ E _ _ G 1048576 bd _ (cb bw.out) b0.out (cb b1.out) b2.out A3.out).mono ?_);rintro e w9 ⟨rfl,hb⟩;refine⟨_,rfl, ?_⟩;replace d:=kb d hb;replace b:=kb b hb;replace HB:=hs HB hb))
  go_ret
  exact fin
 rw[if_neg c4]at H
 have ee:decide (bd<0)=false:=decide_eq_false c4
 clear c4
 obtain⟨b4,ec,H⟩:=ob H
 by_cases c11:b4<0
 ·rw[if_pos c11]at H
  have d7:decide (b4<0)=true:=decide_eq_true c11
  clear c11
  obtain rfl:=Option.some.inj H;clear H
  go_enter Tryz.func4,Tryz.ntmps4
  go_wp2_with (first|((with_reducible refine gd 2 rfl ?_);refine bx 2 #[.slice a9 E.length ba, .slice bb G.length bc] 25 ?_;intro b3 hg fW hbox hb;have d:=Aside0.mk hbox;have c0:=hz HB hg;replace HB:=hs HB hb;clear hb hbox hg)|((with_reducible refine gd 3 rfl ?_);refine bx 3 #[.slice bk z.length bm, .slice bo A.length bp, .slice br B.length bs, .int .i64 L, .int .i64 M, .bool O, .int .i64 P] 49 ?_;intro aq hg fX hbox hb;have b:=Aside0.mk hbox;have c1:=hz HB hg;have bh:=nl d hg;have bj:=ng d hg;replace d:=kb d hb;replace HB:=hs HB hb;clear hb hbox hg;have eR:=bh.out;have eS:=bj.out;have:=cf2 d)|(refine gl (some 12) Tryz.func6 #[.agg #[.slice a9 E.length ba, .slice bb G.length bc], .int .i64 1048576] rfl ?_;(with_reducible refine(gQ.calls k _ _ E _ _ G 1048576 bd _ (cb bw.out) b0.out (cb b1.out) b2.out A3.out).mono ?_);rintro e w16 ⟨rfl,hb⟩;refine⟨_,rfl, ?_⟩;replace d:=kb d hb;replace b:=kb b hb;replace HB:=hs HB hb;have:=cf7 b)|(refine gl (some 17) Tryz.func15 #[.agg #[.slice bk z.length bm, .slice bo A.length bp, .slice br B.length bs, .int .i64 L, .int .i64 M, .bool O, .int .i64 P], .int .i64 bd] rfl ?_;(with_reducible refine(iy.calls k _ _ z _ _ A _ _ B L M O P bd b4 _ (cb b6.out) b7.out (cb b8.out) b9.out (cb ca.out) cc.out ec.out).mono ?_);rintro e fY ⟨rfl,hb⟩;refine⟨_,rfl, ?_⟩;replace d:=kb d hb;replace b:=kb b hb;replace HB:=hs HB hb))
  go_ret
  exact fin
 rw[if_neg c11]at H
 have d7:decide (b4<0)=false:=decide_eq_false c11
 clear c11
 replace H:=Option.bind_eq_some_iff.mp H
 obtain⟨⟨cg,ch⟩,da,H⟩:=H
 replace H:((dO.f k z A B L M O P).bind fun aB=>((aJ.f k cg ch aB.1 aB.2.1 aB.2.2.1 aB.2.2.2.1 aB.2.2.2.2.1 aB.2.2.2.2.2.1 aB.2.2.2.2.2.2).bind fun aR=>((dY.f k E G).bind fun aO=>((dO.f k z A B L M O P).bind fun g=>((fZ.f k aO.1 aO.2 g.1 g.2.1 g.2.2.1 g.2.2.2.1 g.2.2.2.2.1 g.2.2.2.2.2.1 g.2.2.2.2.2.2).bind fun aE=>(if(aE !=aR)=true then(some false)else((dY.f k E G).bind fun aP=>((fM.f k aO.1 aO.2 aP.1 aP.2).bind fun be=>(if be=true then((dO.f k z A B L M O P).bind fun l=>((fE.f k g.1 g.2.1 g.2.2.1 g.2.2.2.1 g.2.2.2.2.1 g.2.2.2.2.2.1 g.2.2.2.2.2.2 l.1 l.2.1 l.2.2.1 l.2.2.2.1 l.2.2.2.2.1 l.2.2.2.2.2.1 l.2.2.2.2.2.2).bind fun a1=>(if a1=true then(some true)else(some false))))else(some false))))))))))=some r:=H
 have ew:=Aside0.mk da
 clear da
 replace H:=Option.bind_eq_some_iff.mp H
 obtain⟨⟨ci,cj,b5,ck,cl,cm,cn⟩,db,H⟩:=H
 replace H:((aJ.f k cg ch ci cj b5 ck cl cm cn).bind fun aR=>((dY.f k E G).bind fun aO=>((dO.f k z A B L M O P).bind fun g=>((fZ.f k aO.1 aO.2 g.1 g.2.1 g.2.2.1 g.2.2.2.1 g.2.2.2.2.1 g.2.2.2.2.2.1 g.2.2.2.2.2.2).bind fun aE=>(if(aE !=aR)=true then(some false)else((dY.f k E G).bind fun aP=>((fM.f k aO.1 aO.2 aP.1 aP.2).bind fun be=>(if be=true then((dO.f k z A B L M O P).bind fun l=>((fE.f k g.1 g.2.1 g.2.2.1 g.2.2.2.1 g.2.2.2.2.1 g.2.2.2.2.2.1 g.2.2.2.2.2.2 l.1 l.2.1 l.2.2.1 l.2.2.2.1 l.2.2.2.2.1 l.2.2.2.2.2.1 l.2.2.2.2.2.2).bind fun a1=>(if a1=true then(some true)else(some false))))else(some false)))))))))=some r:=H
 have ex:=Aside0.mk db
 clear db
 obtain⟨aR,ey,H⟩:=ob H
 replace H:=Option.bind_eq_some_iff.mp H
 obtain⟨⟨ad,al⟩,dc,H⟩:=H
 replace H:((dO.f k z A B L M O P).bind fun g=>((fZ.f k ad al g.1 g.2.1 g.2.2.1 g.2.2.2.1 g.2.2.2.2.1 g.2.2.2.2.2.1 g.2.2.2.2.2.2).bind fun aE=>(if(aE !=aR)=true then(some false)else((dY.f k E G).bind fun aP=>((fM.f k ad al aP.1 aP.2).bind fun be=>(if be=true then((dO.f k z A B L M O P).bind fun l=>((fE.f k g.1 g.2.1 g.2.2.1 g.2.2.2.1 g.2.2.2.2.1 g.2.2.2.2.2.1 g.2.2.2.2.2.2 l.1 l.2.1 l.2.2.1 l.2.2.2.1 l.2.2.2.2.1 l.2.2.2.2.2.1 l.2.2.2.2.2.2).bind fun a1=>(if a1=true then(some true)else(some false))))else(some false)))))))=some r:=H
 have ez:=Aside0.mk dc
 clear dc
 replace H:=Option.bind_eq_some_iff.mp H
 obtain⟨⟨W,X,T,Y,Z,ab,ac⟩,dd,H⟩:=H
 replace H:((fZ.f k ad al W X T Y Z ab ac).bind fun aE=>(if(aE !=aR)=true then(some false)else((dY.f k E G).bind fun aP=>((fM.f k ad al aP.1 aP.2).bind fun be=>(if be=true then((dO.f k z A B L M O P).bind fun l=>((fE.f k W X T Y Z ab ac l.1 l.2.1 l.2.2.1 l.2.2.2.1 l.2.2.2.2.1 l.2.2.2.2.2.1 l.2.2.2.2.2.2).bind fun a1=>(if a1=true then(some true)else(some false))))else(some false))))))=some r:=H
 have eA:=Aside0.mk dd
 clear dd
 obtain⟨aE,eC,H⟩:=ob H
 by_cases bt:(aE !=aR)=true
 ·rw[if_pos bt]at H
  have d8:(aE !=aR)=true:=bt
  (try(have ea:decide (aE=aR)=false:=by simpa using bt))
  (try(have eb:(aE==aR)=false:=by simpa using bt))
  (try(have eV: ¬(aE=aR):=by simpa using bt))
  clear bt
  obtain rfl:=Option.some.inj H
  exact absurd hr_ (by decide)
 rw[if_neg bt]at H
 have d8:(aE !=aR)=false:=by simpa using bt
 (try(have ea:decide (aE=aR)=true:=by simpa using bt))
 (try(have eb:(aE==aR)=true:=by simpa using bt))
 clear bt
 replace H:=Option.bind_eq_some_iff.mp H
 obtain⟨⟨co,cp⟩,de,H⟩:=H
 replace H:((fM.f k ad al co cp).bind fun be=>(if be=true then((dO.f k z A B L M O P).bind fun l=>((fE.f k W X T Y Z ab ac l.1 l.2.1 l.2.2.1 l.2.2.2.1 l.2.2.2.2.1 l.2.2.2.2.2.1 l.2.2.2.2.2.2).bind fun a1=>(if a1=true then(some true)else(some false))))else(some false)))=some r:=H
 have eE:=Aside0.mk de
 clear de
 obtain⟨be,eI,H⟩:=ob H
 by_cases c28:be=true
 ·subst c28
  replace H:=it H
  replace H:=Option.bind_eq_some_iff.mp H
  obtain⟨⟨cq,cr,cs,ct,cv,cw,cx⟩,dg,H⟩:=H
  replace H:((fE.f k W X T Y Z ab ac cq cr cs ct cv cw cx).bind fun a1=>(if a1=true then(some true)else(some false)))=some r:=H
  have eJ:=Aside0.mk dg
  clear dg
  obtain⟨a1,eK,H⟩:=ob H
  by_cases c31:a1=true
  ·subst c31
   replace H:=it H
   obtain rfl:=Option.some.inj H;clear H
   go_enter Tryz.func4,Tryz.ntmps4
   try go_wp2_with (first|((with_reducible refine gd 2 rfl ?_);refine bx 2 #[.slice a9 E.length ba, .slice bb G.length bc] 25 ?_;intro b3 hg w32 hbox hb;have d:=Aside0.mk hbox;have c0:=hz HB hg;replace HB:=hs HB hb;clear hb hbox hg)|((with_reducible refine gd 3 rfl ?_);refine bx 3 #[.slice bk z.length bm, .slice bo A.length bp, .slice br B.length bs, .int .i64 L, .int .i64 M, .bool O, .int .i64 P] 49 ?_;intro aq hg f0 hbox hb;have b:=Aside0.mk hbox;have c1:=hz HB hg;have bh:=nl d hg;have bj:=ng d hg;replace d:=kb d hb;replace HB:=hs HB hb;clear hb hbox hg;have eW:=bh.out;have e0:=bj.out;have:=cf2 d)|(refine gl (some 12) Tryz.func6 #[.agg #[.slice a9 E.length ba, .slice bb G.length bc], .int .i64 1048576] rfl ?_;(with_reducible refine(gQ.calls k _ _ E _ _ G 1048576 bd _ (cb bw.out) b0.out (cb b1.out) b2.out A3.out).mono ?_);rintro e f1 ⟨rfl,hb⟩;refine⟨_,rfl, ?_⟩;replace d:=kb d hb;replace b:=kb b hb;replace HB:=hs HB hb;have:=cf7 b)|(refine gl (some 17) Tryz.func15 #[.agg #[.slice bk z.length bm, .slice bo A.length bp, .slice br B.length bs, .int .i64 L, .int .i64 M, .bool O, .int .i64 P], .int .i64 bd] rfl ?_;(with_reducible refine(iy.calls k _ _ z _ _ A _ _ B L M O P bd b4 _ (cb b6.out) b7.out (cb b8.out) b9.out (cb ca.out) cc.out ec.out).mono ?_);rintro e eL ⟨rfl,hb⟩;refine⟨_,rfl, ?_⟩;replace d:=kb d hb;replace b:=kb b hb;replace HB:=hs HB hb))
   replace d:=Aside0.mk (au d.out)
   replace b:=Aside0.mk (au b.out)
   replace HB:=Aside0.mk (ay HB.out)
   refine cB (n:=6) (S:=fun w' =>w'.cell? ⟨b3,0,none⟩=some (.slice a9 E.length ba)∧w'.cell? ⟨b3,1,none⟩=some (.slice bb G.length bc)∧w'.cell? ⟨aq,0,none⟩=some (.slice bk z.length bm)∧w'.cell? ⟨aq,1,none⟩=some (.slice bo A.length bp)∧w'.cell? ⟨aq,2,none⟩=some (.slice br B.length bs)∧w'.cell? ⟨aq,3,none⟩=some (.int .i64 L)∧w'.cell? ⟨aq,4,none⟩=some (.int .i64 M)∧w'.cell? ⟨aq,5,none⟩=some (.bool O)∧w'.cell? ⟨aq,6,none⟩=some (.int .i64 P)) (ds:= []) #[false,false,false,false,false,false] (by kernel_rfl) rfl rfl ⟨(ae d.out 0).trans rfl,(ae d.out 1).trans rfl,(ae b.out 0).trans rfl,(ae b.out 1).trans rfl,(ae b.out 2).trans rfl,(ae b.out 3).trans rfl,(ae b.out 4).trans rfl,(ae b.out 5).trans rfl,(ae b.out 6).trans rfl⟩ (fun hHeld=> ?_)
   generalize eL.drew=f2 at d b HB hHeld⊢
   refine take_ (i:=0) (N:=some 20) (v:= ?_) (a' := ?_) #[true,false,false,false,false,false] rfl rfl (by kernel_rfl) (fun _ _ _ h=>h) (Or.inl ⟨by rfl, ?_⟩) hHeld ?_ ?_
   rotate_left
   ·rintro w' ⟨s0,s1,s2,s3,s4,s5,s6,s7,s8⟩
    go_simp
    with_reducible rfl
   rotate_left
   ·simp only[Act.put,List.setIfInBounds_toArray,List.set_cons_zero,List.set_cons_succ,bq,bu]
    rfl
   refine take_ (i:=2) (N:=some 22) (v:= ?_) (a' := ?_) #[true,false,true,false,false,false] rfl rfl (by kernel_rfl) (fun _ _ _ h=>h) (Or.inl ⟨by rfl, ?_⟩) hHeld ?_ ?_
   rotate_left
   ·rintro w' ⟨s0,s1,s2,s3,s4,s5,s6,s7,s8⟩
    go_simp
    with_reducible rfl
   rotate_left
   ·simp only[Act.put,List.setIfInBounds_toArray,List.set_cons_zero,List.set_cons_succ,bq,bu]
    rfl
   refine cO (i:=1) (N:=some 21) #[true,true,true,false,false,false] rfl rfl (by kernel_rfl) (by decide) (fun K hK=> ?_)
   refine gs Tryz.func8 #[.agg #[.slice a9 E.length ba, .slice bb G.length bc]] rfl rfl ?_
   with_reducible refine(dY.calls k _ _ E _ _ G cg ch _ (cb bw.out) b0.out (cb b1.out) b2.out ew.out).mono ?_
   rintro e f3 ⟨fk,fl,rfl,ho0,ho1,hb⟩
   refine⟨_,rfl, ?_⟩
   have q:=Aside0.mk (Kd.S_lower ho0 (aM bl))
   have s:=Aside0.mk (Kd.R_lower ho1 (aM bl))
   replace d:=kb d hb
   replace b:=kb b hb
   replace HB:=hs HB hb
   refine hK.out _ _ ⟨(ae d.out 0).trans rfl,(ae d.out 1).trans rfl,(ae b.out 0).trans rfl,(ae b.out 1).trans rfl,(ae b.out 2).trans rfl,(ae b.out 3).trans rfl,(ae b.out 4).trans rfl,(ae b.out 5).trans rfl,(ae b.out 6).trans rfl⟩ (fun hHeld=> ?_)
   clear hK K
   refine no 21 ?_
   refine cO (i:=3) (N:=some 23) #[true,true,true,true,false,false] rfl rfl (by kernel_rfl) (by decide) (fun K hK=> ?_)
   refine gs Tryz.func17 #[.agg #[.slice bk z.length bm, .slice bo A.length bp, .slice br B.length bs, .int .i64 L, .int .i64 M, .bool O, .int .i64 P]] rfl rfl ?_
   with_reducible refine(dO.calls k _ _ z _ _ A _ _ B L M O P ci cj b5 ck cl cm cn _ (cb b6.out) b7.out (cb b8.out) b9.out (cb ca.out) cc.out ex.out).mono ?_
   rintro e f4 ⟨fm,fp,fr,rfl,ho0,ho1,ho2,hb⟩
   refine⟨_,rfl, ?_⟩
   have t:=Aside0.mk (Kd.S_lower ho0 (aM bl))
   have u:=Aside0.mk (Kd.S_lower ho1 (aM bl))
   have o:=Aside0.mk (Kd.R_lower ho2 (aM bl))
   replace q:=Aside0.mk (Kd.S_elder' (by(with_reducible repeat(first|apply Kd.S_alloc|apply Kd.S_drewN|apply Kd.S_drew));exact q.out) (Kd.R_base ho2) hb)
   replace s:=Aside0.mk (Kd.R_elder' (by(with_reducible repeat(first|apply Kd.R_alloc|apply Kd.R_drewN|apply Kd.R_drew));exact s.out) (Kd.R_base ho2) hb)
   replace d:=kb d hb
   replace b:=kb b hb
   replace HB:=hs HB hb
   obtain⟨dj,dk,dl⟩:=Kd.S_slice q.out
   (first|subst dl|(injection dl with an a4 ao;have a5:=an.symm;have a6:=ao.symm;clear an a4 ao;subst a5;subst a6))
   obtain⟨dp,dq,dr⟩:=Kd.R_slice s.out
   (first|subst dr|(injection dr with an a4 ao;have a5:=an.symm;have a6:=ao.symm;clear an a4 ao;subst a5;subst a6))
   obtain⟨dt,du,dv⟩:=Kd.S_slice t.out
   (first|subst dv|(injection dv with an a4 ao;have a5:=an.symm;have a6:=ao.symm;clear an a4 ao;subst a5;subst a6))
   obtain⟨dy,dT,d0⟩:=Kd.S_slice u.out
   (first|subst d0|(injection d0 with an a4 ao;have a5:=an.symm;have a6:=ao.symm;clear an a4 ao;subst a5;subst a6))
   obtain⟨cy,cA,d1⟩:=Kd.R_slice o.out
   (first|subst d1|(injection d1 with an a4 ao;have a5:=an.symm;have a6:=ao.symm;clear an a4 ao;subst a5;subst a6))
   refine hK.out _ _ ⟨(ae d.out 0).trans rfl,(ae d.out 1).trans rfl,(ae b.out 0).trans rfl,(ae b.out 1).trans rfl,(ae b.out 2).trans rfl,(ae b.out 3).trans rfl,(ae b.out 4).trans rfl,(ae b.out 5).trans rfl,(ae b.out 6).trans rfl⟩ (fun hHeld=> ?_)
   clear hK K
   refine no 23 ?_
   refine cO (i:=4) (N:=some 24) #[true,true,true,true,true,false] rfl rfl (by kernel_rfl) (by decide) (fun K hK=> ?_)
   refine gs Tryz.func16 #[.agg #[.slice dj cg.length dk, .slice dp ch.length dq], .agg #[.slice dt ci.length du, .slice dy cj.length dT, .slice cy b5.length cA, .int .i64 ck, .int .i64 cl, .bool cm, .int .i64 cn]] rfl rfl ?_
   with_reducible refine(aJ.calls k _ _ cg _ _ ch _ _ ci _ _ cj _ _ b5 ck cl cm cn aR _ ?side1 ((Kd.S_reads' q.out).2.1) ?side3 ((Kd.R_reads' s.out).2.1) ?side5 ((Kd.S_reads' t.out).2.1) ?side7 ((Kd.S_reads' u.out).2.1) ?side9 ((Kd.R_reads' o.out).2.1) ey.out).mono ?_
   (case side1=>repeat(first|exact(Kd.S_reads' q.out).2.2|(with_reducible refine Kd.C_alloc ?_ _)|(with_reducible refine Kd.C_drewN ?_ _)|(with_reducible refine Kd.C_drew ?_)))
   (case side3=>repeat(first|exact(Kd.R_reads' s.out).2.2|(with_reducible refine Kd.C_alloc ?_ _)|(with_reducible refine Kd.C_drewN ?_ _)|(with_reducible refine Kd.C_drew ?_)))
   (case side5=>repeat(first|exact(Kd.S_reads' t.out).2.2|(with_reducible refine Kd.C_alloc ?_ _)|(with_reducible refine Kd.C_drewN ?_ _)|(with_reducible refine Kd.C_drew ?_)))
   (case side7=>repeat(first|exact(Kd.S_reads' u.out).2.2|(with_reducible refine Kd.C_alloc ?_ _)|(with_reducible refine Kd.C_drewN ?_ _)|(with_reducible refine Kd.C_drew ?_)))
   (case side9=>repeat(first|exact(Kd.R_reads' o.out).2.2|(with_reducible refine Kd.C_alloc ?_ _)|(with_reducible refine Kd.C_drewN ?_ _)|(with_reducible refine Kd.C_drew ?_)))
   rintro e f5 ⟨rfl,hb⟩
   refine⟨_,rfl, ?_⟩
   replace q:=Aside0.mk (Kd.S_below (by(with_reducible repeat(first|apply Kd.S_alloc|apply Kd.S_drewN|apply Kd.S_drew));exact q.out) hb)
   replace s:=Aside0.mk (Kd.R_below (by(with_reducible repeat(first|apply Kd.R_alloc|apply Kd.R_drewN|apply Kd.R_drew));exact s.out) hb)
   replace t:=Aside0.mk (Kd.S_below (by(with_reducible repeat(first|apply Kd.S_alloc|apply Kd.S_drewN|apply Kd.S_drew));exact t.out) hb)
   replace u:=Aside0.mk (Kd.S_below (by(with_reducible repeat(first|apply Kd.S_alloc|apply Kd.S_drewN|apply Kd.S_drew));exact u.out) hb)
   replace o:=Aside0.mk (Kd.R_below (by(with_reducible repeat(first|apply Kd.R_alloc|apply Kd.R_drewN|apply Kd.R_drew));exact o.out) hb)
   replace d:=kb d hb
   replace b:=kb b hb
   replace HB:=hs HB hb
   refine hK.out _ _ ⟨(ae d.out 0).trans rfl,(ae d.out 1).trans rfl,(ae b.out 0).trans rfl,(ae b.out 1).trans rfl,(ae b.out 2).trans rfl,(ae b.out 3).trans rfl,(ae b.out 4).trans rfl,(ae b.out 5).trans rfl,(ae b.out 6).trans rfl⟩ (fun hHeld=> ?_)
   clear hK K
   refine no 24 ?_
   refine fw (i:=5) (N:=some 6) (v:= ?_) (a' := ?_) #[true,true,true,true,true,true] rfl rfl (by kernel_rfl) (fun _ _ _ h=>h) (Or.inl ⟨by rfl, ?_⟩) ?_ ?_
   rotate_left
   ·intro w'
    go_simp
    with_reducible rfl
   rotate_left
   ·simp only[Act.put,List.setIfInBounds_toArray,List.set_cons_zero,List.set_cons_succ,bq,bu]
    rfl
   refine dD (by kernel_rfl) ?_
   have:=cf2 d
   try go_wp2_with (first|(refine gl (some 26) Tryz.func8 #[.agg #[.slice a9 E.length ba, .slice bb G.length bc]] rfl ?_;(with_reducible refine(dY.calls k _ _ E _ _ G ad al _ (cb bw.out) b0.out (cb b1.out) b2.out ez.out).mono ?_);rintro e f6 ⟨fs,ft,rfl,ho0,ho1,hb⟩;refine⟨_,rfl, ?_⟩;have x:=Aside0.mk (Kd.S_lower (Kd.S_new' (Kd.S_new' ho0 (Kd.S_lt (by(with_reducible repeat(first|apply Kd.S_alloc|apply Kd.S_drewN|apply Kd.S_drew));exact q.out))) (Kd.R_lt (by(with_reducible repeat(first|apply Kd.R_alloc|apply Kd.R_drewN|apply Kd.R_drew));exact o.out))) (aM bl));have y:=Aside0.mk (Kd.R_lower (Kd.R_new' (Kd.R_new' ho1 (Kd.R_lt (by(with_reducible repeat(first|apply Kd.R_alloc|apply Kd.R_drewN|apply Kd.R_drew));exact s.out))) (Kd.R_lt (by(with_reducible repeat(first|apply Kd.R_alloc|apply Kd.R_drewN|apply Kd.R_drew));exact o.out))) (aM bl));replace q:=Aside0.mk (Kd.S_elder' (by(with_reducible repeat(first|apply Kd.S_alloc|apply Kd.S_drewN|apply Kd.S_drew));exact q.out) (Kd.S_base ho0) hb);replace s:=Aside0.mk (Kd.R_elder' (by(with_reducible repeat(first|apply Kd.R_alloc|apply Kd.R_drewN|apply Kd.R_drew));exact s.out) (Kd.R_base ho1) hb);replace t:=Aside0.mk (Kd.S_below (by(with_reducible repeat(first|apply Kd.S_alloc|apply Kd.S_drewN|apply Kd.S_drew));exact t.out) hb);replace u:=Aside0.mk (Kd.S_below (by(with_reducible repeat(first|apply Kd.S_alloc|apply Kd.S_drewN|apply Kd.S_drew));exact u.out) hb);replace o:=Aside0.mk (Kd.R_below (by(with_reducible repeat(first|apply Kd.R_alloc|apply Kd.R_drewN|apply Kd.R_drew));exact o.out) hb);replace d:=kb d hb;replace b:=kb b hb;replace HB:=hs HB hb;(try clear ho1))|((with_reducible refine gd 7 rfl ?_);refine bx 7 #[.slice none 0 0, .slice none 0 0] 38 ?_;intro U hg f7 hbox hb;have m:=Aside0.mk hbox;have e1:=hz HB hg;have cC:=nl d hg;have cD:=ng d hg;have cE:=nl b hg;have cF:=ng b hg;replace q:=Aside0.mk (Kd.S_below (by(with_reducible repeat(first|apply Kd.S_alloc|apply Kd.S_drewN|apply Kd.S_drew));exact q.out) hb);replace s:=Aside0.mk (Kd.R_below (by(with_reducible repeat(first|apply Kd.R_alloc|apply Kd.R_drewN|apply Kd.R_drew));exact s.out) hb);replace t:=Aside0.mk (Kd.S_below (by(with_reducible repeat(first|apply Kd.S_alloc|apply Kd.S_drewN|apply Kd.S_drew));exact t.out) hb);replace u:=Aside0.mk (Kd.S_below (by(with_reducible repeat(first|apply Kd.S_alloc|apply Kd.S_drewN|apply Kd.S_drew));exact u.out) hb);replace o:=Aside0.mk (Kd.R_below (by(with_reducible repeat(first|apply Kd.R_alloc|apply Kd.R_drewN|apply Kd.R_drew));exact o.out) hb);replace x:=Aside0.mk (Kd.S_below (by(with_reducible repeat(first|apply Kd.S_alloc|apply Kd.S_drewN|apply Kd.S_drew));exact x.out) hb);replace y:=Aside0.mk (Kd.R_below (by(with_reducible repeat(first|apply Kd.R_alloc|apply Kd.R_drewN|apply Kd.R_drew));exact y.out) hb);replace d:=kb d hb;replace b:=kb b hb;replace HB:=hs HB hb;clear hb hbox hg;obtain⟨a7,a2,ef⟩:=Kd.S_slice x.out;subst ef;have e2:=cD.out;have e3:=cC.out;have e4:=cF.out;have e5:=cE.out;have:=cf2 m;obtain⟨a8,a3,eg⟩:=Kd.R_slice y.out;subst eg;have:=cf7 b)|(refine gl (some 28) Tryz.func17 #[.agg #[.slice bk z.length bm, .slice bo A.length bp, .slice br B.length bs, .int .i64 L, .int .i64 M, .bool O, .int .i64 P]] rfl ?_;(with_reducible refine(dO.calls k _ _ z _ _ A _ _ B L M O P W X T Y Z ab ac _ (cb b6.out) b7.out (cb b8.out) b9.out (cb ca.out) cc.out eA.out).mono ?_);rintro e f8 ⟨fv,fx,fy,rfl,ho0,ho1,ho2,hb⟩;refine⟨_,rfl, ?_⟩;have I:=Aside0.mk (Kd.S_lower (Kd.S_new' ho0 (Kd.S_lt (by(with_reducible repeat(first|apply Kd.S_alloc|apply Kd.S_drewN|apply Kd.S_drew));exact(Kd.S_mono (Kd.S_far (p:=⟨U,1,none⟩) (Kd.S_far (p:=⟨U,0,none⟩) (Kd.S_types t.out m.out (by decide)) (fun _ hk=>hk.2) (.slice a7 ad.length a2)) (fun _ hk=>hk.2) (.slice a8 al.length a3)) (fun _ h_=>h_.1))))) (aM bl));have J:=Aside0.mk (Kd.S_lower (Kd.S_new' ho1 (Kd.S_lt (by(with_reducible repeat(first|apply Kd.S_alloc|apply Kd.S_drewN|apply Kd.S_drew));exact(Kd.S_mono (Kd.S_far (p:=⟨U,1,none⟩) (Kd.S_far (p:=⟨U,0,none⟩) (Kd.S_types u.out m.out (by decide)) (fun _ hk=>hk.2) (.slice a7 ad.length a2)) (fun _ hk=>hk.2) (.slice a8 al.length a3)) (fun _ h_=>h_.1))))) (aM bl));have D:=Aside0.mk (Kd.R_lower (Kd.R_new' ho2 (Kd.R_lt (by(with_reducible repeat(first|apply Kd.R_alloc|apply Kd.R_drewN|apply Kd.R_drew));exact(Kd.R_mono (Kd.R_far (p:=⟨U,1,none⟩) (Kd.R_far (p:=⟨U,0,none⟩) (Kd.R_types o.out m.out (by decide)) (fun _ hk=>hk.2) (.slice a7 ad.length a2)) (fun _ hk=>hk.2) (.slice a8 al.length a3)) (fun _ h_=>h_.1))))) (aM bl));replace q:=Aside0.mk (Kd.S_elder' (by(with_reducible repeat(first|apply Kd.S_alloc|apply Kd.S_drewN|apply Kd.S_drew));exact(Kd.S_mono (Kd.S_far (p:=⟨U,1,none⟩) (Kd.S_far (p:=⟨U,0,none⟩) (Kd.S_types q.out m.out (by decide)) (fun _ hk=>hk.2) (.slice a7 ad.length a2)) (fun _ hk=>hk.2) (.slice a8 al.length a3)) (fun _ h_=>h_.1))) (Kd.R_base ho2) hb);replace s:=Aside0.mk (Kd.R_elder' (by(with_reducible repeat(first|apply Kd.R_alloc|apply Kd.R_drewN|apply Kd.R_drew));exact(Kd.R_mono (Kd.R_far (p:=⟨U,1,none⟩) (Kd.R_far (p:=⟨U,0,none⟩) (Kd.R_types s.out m.out (by decide)) (fun _ hk=>hk.2) (.slice a7 ad.length a2)) (fun _ hk=>hk.2) (.slice a8 al.length a3)) (fun _ h_=>h_.1))) (Kd.R_base ho2) hb);replace t:=Aside0.mk (Kd.S_elder' (by(with_reducible repeat(first|apply Kd.S_alloc|apply Kd.S_drewN|apply Kd.S_drew));exact(Kd.S_mono (Kd.S_far (p:=⟨U,1,none⟩) (Kd.S_far (p:=⟨U,0,none⟩) (Kd.S_types t.out m.out (by decide)) (fun _ hk=>hk.2) (.slice a7 ad.length a2)) (fun _ hk=>hk.2) (.slice a8 al.length a3)) (fun _ h_=>h_.1))) (Kd.S_base ho0) hb);replace u:=Aside0.mk (Kd.S_elder' (by(with_reducible repeat(first|apply Kd.S_alloc|apply Kd.S_drewN|apply Kd.S_drew));exact(Kd.S_mono (Kd.S_far (p:=⟨U,1,none⟩) (Kd.S_far (p:=⟨U,0,none⟩) (Kd.S_types u.out m.out (by decide)) (fun _ hk=>hk.2) (.slice a7 ad.length a2)) (fun _ hk=>hk.2) (.slice a8 al.length a3)) (fun _ h_=>h_.1))) (Kd.S_base ho1) hb);replace o:=Aside0.mk (Kd.R_elder' (by(with_reducible repeat(first|apply Kd.R_alloc|apply Kd.R_drewN|apply Kd.R_drew));exact(Kd.R_mono (Kd.R_far (p:=⟨U,1,none⟩) (Kd.R_far (p:=⟨U,0,none⟩) (Kd.R_types o.out m.out (by decide)) (fun _ hk=>hk.2) (.slice a7 ad.length a2)) (fun _ hk=>hk.2) (.slice a8 al.length a3)) (fun _ h_=>h_.1))) (Kd.R_base ho2) hb);replace x:=Aside0.mk (Kd.S_elder' (by(with_reducible repeat(first|apply Kd.S_alloc|apply Kd.S_drewN|apply Kd.S_drew));exact(Kd.S_mono (Kd.S_far (p:=⟨U,1,none⟩) (Kd.S_far (p:=⟨U,0,none⟩) (Kd.S_types x.out m.out (by decide)) (fun _ hk=>hk.2) (.slice a7 ad.length a2)) (fun _ hk=>hk.2) (.slice a8 al.length a3)) (fun _ h_=>h_.1))) (Kd.R_base ho2) hb);replace y:=Aside0.mk (Kd.R_elder' (by(with_reducible repeat(first|apply Kd.R_alloc|apply Kd.R_drewN|apply Kd.R_drew));exact(Kd.R_mono (Kd.R_far (p:=⟨U,1,none⟩) (Kd.R_far (p:=⟨U,0,none⟩) (Kd.R_types y.out m.out (by decide)) (fun _ hk=>hk.2) (.slice a7 ad.length a2)) (fun _ hk=>hk.2) (.slice a8 al.length a3)) (fun _ h_=>h_.1))) (Kd.R_base ho2) hb);replace d:=kq d hb;replace b:=kq b hb;replace m:=kp U #[.slice a7 ad.length a2, .slice a8 al.length a3] 38 hb;replace HB:=hs HB hb;(try clear ho1);(try clear ho2))|((with_reducible refine gd 8 rfl ?_);refine bx 8 #[.slice none 0 0, .slice none 0 0, .slice none 0 0, .int .i64 0, .int .i64 0, .bool false, .int .i64 0] 33 ?_;intro a hg f9 hbox hb;have j:=Aside0.mk hbox;have e6:=hz HB hg;have cG:=nl d hg;have cH:=ng d hg;have cI:=nl b hg;have cJ:=ng b hg;have cL:=nl m hg;have cM:=ng m hg;replace q:=Aside0.mk (Kd.S_below (by(with_reducible repeat(first|apply Kd.S_alloc|apply Kd.S_drewN|apply Kd.S_drew));exact q.out) hb);replace s:=Aside0.mk (Kd.R_below (by(with_reducible repeat(first|apply Kd.R_alloc|apply Kd.R_drewN|apply Kd.R_drew));exact s.out) hb);replace t:=Aside0.mk (Kd.S_below (by(with_reducible repeat(first|apply Kd.S_alloc|apply Kd.S_drewN|apply Kd.S_drew));exact t.out) hb);replace u:=Aside0.mk (Kd.S_below (by(with_reducible repeat(first|apply Kd.S_alloc|apply Kd.S_drewN|apply Kd.S_drew));exact u.out) hb);replace o:=Aside0.mk (Kd.R_below (by(with_reducible repeat(first|apply Kd.R_alloc|apply Kd.R_drewN|apply Kd.R_drew));exact o.out) hb);replace x:=Aside0.mk (Kd.S_below (by(with_reducible repeat(first|apply Kd.S_alloc|apply Kd.S_drewN|apply Kd.S_drew));exact x.out) hb);replace y:=Aside0.mk (Kd.R_below (by(with_reducible repeat(first|apply Kd.R_alloc|apply Kd.R_drewN|apply Kd.R_drew));exact y.out) hb);replace I:=Aside0.mk (Kd.S_below (by(with_reducible repeat(first|apply Kd.S_alloc|apply Kd.S_drewN|apply Kd.S_drew));exact I.out) hb);replace J:=Aside0.mk (Kd.S_below (by(with_reducible repeat(first|apply Kd.S_alloc|apply Kd.S_drewN|apply Kd.S_drew));exact J.out) hb);replace D:=Aside0.mk (Kd.R_below (by(with_reducible repeat(first|apply Kd.R_alloc|apply Kd.R_drewN|apply Kd.R_drew));exact D.out) hb);replace d:=kb d hb;replace b:=kb b hb;replace m:=kb m hb;replace HB:=hs HB hb;clear hb hbox hg;obtain⟨aF,ar,eh⟩:=Kd.S_slice I.out;subst eh;have e7:=cH.out;have e8:=cG.out;have e9:=cJ.out;have fa:=cI.out;have fb:=cM.out;have fc:=cL.out;have:=cf7 j;obtain⟨aL,aw,ei⟩:=Kd.S_slice J.out;subst ei;obtain⟨ap,am,ej⟩:=Kd.R_slice D.out;subst ej;have:=cf2 m)|(refine gl (some 31) Tryz.func18 #[.agg #[.slice a7 ad.length a2, .slice a8 al.length a3], .agg #[.slice aF W.length ar, .slice aL X.length aw, .slice ap T.length am, .int .i64 Y, .int .i64 Z, .bool ab, .int .i64 ac]] rfl ?_;(with_reducible refine(fZ.calls k _ _ ad _ _ al _ _ W _ _ X _ _ T Y Z ab ac aE _ ?side1 ((Kd.S_reads' x.out).2.1) ?side3 ((Kd.R_reads' y.out).2.1) ?side5 ((Kd.S_reads' I.out).2.1) ?side7 ((Kd.S_reads' J.out).2.1) ?side9 ((Kd.R_reads' D.out).2.1) eC.out).mono ?_);(case side1=>refine(Kd.S_reads' (e:=126) (base:=w.heap.size) (ok:=fun k_=>(((True∧some k_≠(.slice dj cg.length dk:Value).ownBlock)∧some k_≠(.slice cy b5.length cA:Value).ownBlock)∧some k_≠(.slice ap T.length am:Value).ownBlock)) (n:=ad.length) (c:=a2) ?_).2.2;exact(by(with_reducible repeat(first|apply Kd.S_alloc|apply Kd.S_drewN|apply Kd.S_drew));exact(Kd.S_mono (Kd.S_far (p:=⟨a,6,none⟩) (Kd.S_far (p:=⟨a,5,none⟩) (Kd.S_far (p:=⟨a,4,none⟩) (Kd.S_far (p:=⟨a,3,none⟩) (Kd.S_far (p:=⟨a,2,none⟩) (Kd.S_far (p:=⟨a,1,none⟩) (Kd.S_far (p:=⟨a,0,none⟩) (Kd.S_types x.out j.out (by decide)) (fun _ hk=>hk.2) (.slice aF W.length ar)) (fun _ hk=>hk.2) (.slice aL X.length aw)) (fun _ hk=>hk.2) (.slice ap T.length am)) (fun _ hk=>hk.2) (.int .i64 Y)) (fun _ hk=>hk.2) (.int .i64 Z)) (fun _ hk=>hk.2) (.bool ab)) (fun _ hk=>hk.2) (.int .i64 ac)) (fun _ h_=>h_.1))));(case side3=>refine(Kd.R_reads' (e:=104) (base:=w.heap.size) (ok:=fun k_=>(((True∧some k_≠(.slice dp ch.length dq:Value).ownBlock)∧some k_≠(.slice cy b5.length cA:Value).ownBlock)∧some k_≠(.slice ap T.length am:Value).ownBlock)) (n:=al.length) (c:=a3) ?_).2.2;exact(by(with_reducible repeat(first|apply Kd.R_alloc|apply Kd.R_drewN|apply Kd.R_drew));exact(Kd.R_mono (Kd.R_far (p:=⟨a,6,none⟩) (Kd.R_far (p:=⟨a,5,none⟩) (Kd.R_far (p:=⟨a,4,none⟩) (Kd.R_far (p:=⟨a,3,none⟩) (Kd.R_far (p:=⟨a,2,none⟩) (Kd.R_far (p:=⟨a,1,none⟩) (Kd.R_far (p:=⟨a,0,none⟩) (Kd.R_types y.out j.out (by decide)) (fun _ hk=>hk.2) (.slice aF W.length ar)) (fun _ hk=>hk.2) (.slice aL X.length aw)) (fun _ hk=>hk.2) (.slice ap T.length am)) (fun _ hk=>hk.2) (.int .i64 Y)) (fun _ hk=>hk.2) (.int .i64 Z)) (fun _ hk=>hk.2) (.bool ab)) (fun _ hk=>hk.2) (.int .i64 ac)) (fun _ h_=>h_.1))));(case side5=>refine(Kd.S_reads' (e:=91) (base:=w.heap.size) (ok:=fun k_=>(True∧some k_≠(.slice dt ci.length du:Value).ownBlock)) (n:=W.length) (c:=ar) ?_).2.2;exact(by(with_reducible repeat(first|apply Kd.S_alloc|apply Kd.S_drewN|apply Kd.S_drew));exact(Kd.S_mono (Kd.S_far (p:=⟨a,6,none⟩) (Kd.S_far (p:=⟨a,5,none⟩) (Kd.S_far (p:=⟨a,4,none⟩) (Kd.S_far (p:=⟨a,3,none⟩) (Kd.S_far (p:=⟨a,2,none⟩) (Kd.S_far (p:=⟨a,1,none⟩) (Kd.S_far (p:=⟨a,0,none⟩) (Kd.S_types I.out j.out (by decide)) (fun _ hk=>hk.2) (.slice aF W.length ar)) (fun _ hk=>hk.2) (.slice aL X.length aw)) (fun _ hk=>hk.2) (.slice ap T.length am)) (fun _ hk=>hk.2) (.int .i64 Y)) (fun _ hk=>hk.2) (.int .i64 Z)) (fun _ hk=>hk.2) (.bool ab)) (fun _ hk=>hk.2) (.int .i64 ac)) (fun _ h_=>h_.1))));(case side7=>refine(Kd.S_reads' (e:=70) (base:=w.heap.size) (ok:=fun k_=>(True∧some k_≠(.slice dy cj.length dT:Value).ownBlock)) (n:=X.length) (c:=aw) ?_).2.2;exact(by(with_reducible repeat(first|apply Kd.S_alloc|apply Kd.S_drewN|apply Kd.S_drew));exact(Kd.S_mono (Kd.S_far (p:=⟨a,6,none⟩) (Kd.S_far (p:=⟨a,5,none⟩) (Kd.S_far (p:=⟨a,4,none⟩) (Kd.S_far (p:=⟨a,3,none⟩) (Kd.S_far (p:=⟨a,2,none⟩) (Kd.S_far (p:=⟨a,1,none⟩) (Kd.S_far (p:=⟨a,0,none⟩) (Kd.S_types J.out j.out (by decide)) (fun _ hk=>hk.2) (.slice aF W.length ar)) (fun _ hk=>hk.2) (.slice aL X.length aw)) (fun _ hk=>hk.2) (.slice ap T.length am)) (fun _ hk=>hk.2) (.int .i64 Y)) (fun _ hk=>hk.2) (.int .i64 Z)) (fun _ hk=>hk.2) (.bool ab)) (fun _ hk=>hk.2) (.int .i64 ac)) (fun _ h_=>h_.1))));(case side9=>refine(Kd.R_reads' (e:=3) (base:=w.heap.size) (ok:=fun k_=>(True∧some k_≠(.slice cy b5.length cA:Value).ownBlock)) (n:=T.length) (c:=am) ?_).2.2;exact(by(with_reducible repeat(first|apply Kd.R_alloc|apply Kd.R_drewN|apply Kd.R_drew));exact(Kd.R_mono (Kd.R_far (p:=⟨a,6,none⟩) (Kd.R_far (p:=⟨a,5,none⟩) (Kd.R_far (p:=⟨a,4,none⟩) (Kd.R_far (p:=⟨a,3,none⟩) (Kd.R_far (p:=⟨a,2,none⟩) (Kd.R_far (p:=⟨a,1,none⟩) (Kd.R_far (p:=⟨a,0,none⟩) (Kd.R_types D.out j.out (by decide)) (fun _ hk=>hk.2) (.slice aF W.length ar)) (fun _ hk=>hk.2) (.slice aL X.length aw)) (fun _ hk=>hk.2) (.slice ap T.length am)) (fun _ hk=>hk.2) (.int .i64 Y)) (fun _ hk=>hk.2) (.int .i64 Z)) (fun _ hk=>hk.2) (.bool ab)) (fun _ hk=>hk.2) (.int .i64 ac)) (fun _ h_=>h_.1))));rintro e eM ⟨rfl,hb⟩;refine⟨_,rfl, ?_⟩;replace q:=Aside0.mk (Kd.S_below (by(with_reducible repeat(first|apply Kd.S_alloc|apply Kd.S_drewN|apply Kd.S_drew));exact(Kd.S_mono (Kd.S_far (p:=⟨a,6,none⟩) (Kd.S_far (p:=⟨a,5,none⟩) (Kd.S_far (p:=⟨a,4,none⟩) (Kd.S_far (p:=⟨a,3,none⟩) (Kd.S_far (p:=⟨a,2,none⟩) (Kd.S_far (p:=⟨a,1,none⟩) (Kd.S_far (p:=⟨a,0,none⟩) (Kd.S_types q.out j.out (by decide)) (fun _ hk=>hk.2) (.slice aF W.length ar)) (fun _ hk=>hk.2) (.slice aL X.length aw)) (fun _ hk=>hk.2) (.slice ap T.length am)) (fun _ hk=>hk.2) (.int .i64 Y)) (fun _ hk=>hk.2) (.int .i64 Z)) (fun _ hk=>hk.2) (.bool ab)) (fun _ hk=>hk.2) (.int .i64 ac)) (fun _ h_=>h_.1))) hb);replace s:=Aside0.mk (Kd.R_below (by(with_reducible repeat(first|apply Kd.R_alloc|apply Kd.R_drewN|apply Kd.R_drew));exact(Kd.R_mono (Kd.R_far (p:=⟨a,6,none⟩) (Kd.R_far (p:=⟨a,5,none⟩) (Kd.R_far (p:=⟨a,4,none⟩) (Kd.R_far (p:=⟨a,3,none⟩) (Kd.R_far (p:=⟨a,2,none⟩) (Kd.R_far (p:=⟨a,1,none⟩) (Kd.R_far (p:=⟨a,0,none⟩) (Kd.R_types s.out j.out (by decide)) (fun _ hk=>hk.2) (.slice aF W.length ar)) (fun _ hk=>hk.2) (.slice aL X.length aw)) (fun _ hk=>hk.2) (.slice ap T.length am)) (fun _ hk=>hk.2) (.int .i64 Y)) (fun _ hk=>hk.2) (.int .i64 Z)) (fun _ hk=>hk.2) (.bool ab)) (fun _ hk=>hk.2) (.int .i64 ac)) (fun _ h_=>h_.1))) hb);replace t:=Aside0.mk (Kd.S_below (by(with_reducible repeat(first|apply Kd.S_alloc|apply Kd.S_drewN|apply Kd.S_drew));exact(Kd.S_mono (Kd.S_far (p:=⟨a,6,none⟩) (Kd.S_far (p:=⟨a,5,none⟩) (Kd.S_far (p:=⟨a,4,none⟩) (Kd.S_far (p:=⟨a,3,none⟩) (Kd.S_far (p:=⟨a,2,none⟩) (Kd.S_far (p:=⟨a,1,none⟩) (Kd.S_far (p:=⟨a,0,none⟩) (Kd.S_types t.out j.out (by decide)) (fun _ hk=>hk.2) (.slice aF W.length ar)) (fun _ hk=>hk.2) (.slice aL X.length aw)) (fun _ hk=>hk.2) (.slice ap T.length am)) (fun _ hk=>hk.2) (.int .i64 Y)) (fun _ hk=>hk.2) (.int .i64 Z)) (fun _ hk=>hk.2) (.bool ab)) (fun _ hk=>hk.2) (.int .i64 ac)) (fun _ h_=>h_.1))) hb);replace u:=Aside0.mk (Kd.S_below (by(with_reducible repeat(first|apply Kd.S_alloc|apply Kd.S_drewN|apply Kd.S_drew));exact(Kd.S_mono (Kd.S_far (p:=⟨a,6,none⟩) (Kd.S_far (p:=⟨a,5,none⟩) (Kd.S_far (p:=⟨a,4,none⟩) (Kd.S_far (p:=⟨a,3,none⟩) (Kd.S_far (p:=⟨a,2,none⟩) (Kd.S_far (p:=⟨a,1,none⟩) (Kd.S_far (p:=⟨a,0,none⟩) (Kd.S_types u.out j.out (by decide)) (fun _ hk=>hk.2) (.slice aF W.length ar)) (fun _ hk=>hk.2) (.slice aL X.length aw)) (fun _ hk=>hk.2) (.slice ap T.length am)) (fun _ hk=>hk.2) (.int .i64 Y)) (fun _ hk=>hk.2) (.int .i64 Z)) (fun _ hk=>hk.2) (.bool ab)) (fun _ hk=>hk.2) (.int .i64 ac)) (fun _ h_=>h_.1))) hb);replace o:=Aside0.mk (Kd.R_below (by(with_reducible repeat(first|apply Kd.R_alloc|apply Kd.R_drewN|apply Kd.R_drew));exact(Kd.R_mono (Kd.R_far (p:=⟨a,6,none⟩) (Kd.R_far (p:=⟨a,5,none⟩) (Kd.R_far (p:=⟨a,4,none⟩) (Kd.R_far (p:=⟨a,3,none⟩) (Kd.R_far (p:=⟨a,2,none⟩) (Kd.R_far (p:=⟨a,1,none⟩) (Kd.R_far (p:=⟨a,0,none⟩) (Kd.R_types o.out j.out (by decide)) (fun _ hk=>hk.2) (.slice aF W.length ar)) (fun _ hk=>hk.2) (.slice aL X.length aw)) (fun _ hk=>hk.2) (.slice ap T.length am)) (fun _ hk=>hk.2) (.int .i64 Y)) (fun _ hk=>hk.2) (.int .i64 Z)) (fun _ hk=>hk.2) (.bool ab)) (fun _ hk=>hk.2) (.int .i64 ac)) (fun _ h_=>h_.1))) hb);replace x:=Aside0.mk (Kd.S_below (by(with_reducible repeat(first|apply Kd.S_alloc|apply Kd.S_drewN|apply Kd.S_drew));exact(Kd.S_mono (Kd.S_far (p:=⟨a,6,none⟩) (Kd.S_far (p:=⟨a,5,none⟩) (Kd.S_far (p:=⟨a,4,none⟩) (Kd.S_far (p:=⟨a,3,none⟩) (Kd.S_far (p:=⟨a,2,none⟩) (Kd.S_far (p:=⟨a,1,none⟩) (Kd.S_far (p:=⟨a,0,none⟩) (Kd.S_types x.out j.out (by decide)) (fun _ hk=>hk.2) (.slice aF W.length ar)) (fun _ hk=>hk.2) (.slice aL X.length aw)) (fun _ hk=>hk.2) (.slice ap T.length am)) (fun _ hk=>hk.2) (.int .i64 Y)) (fun _ hk=>hk.2) (.int .i64 Z)) (fun _ hk=>hk.2) (.bool ab)) (fun _ hk=>hk.2) (.int .i64 ac)) (fun _ h_=>h_.1))) hb);replace y:=Aside0.mk (Kd.R_below (by(with_reducible repeat(first|apply Kd.R_alloc|apply Kd.R_drewN|apply Kd.R_drew));exact(Kd.R_mono (Kd.R_far (p:=⟨a,6,none⟩) (Kd.R_far (p:=⟨a,5,none⟩) (Kd.R_far (p:=⟨a,4,none⟩) (Kd.R_far (p:=⟨a,3,none⟩) (Kd.R_far (p:=⟨a,2,none⟩) (Kd.R_far (p:=⟨a,1,none⟩) (Kd.R_far (p:=⟨a,0,none⟩) (Kd.R_types y.out j.out (by decide)) (fun _ hk=>hk.2) (.slice aF W.length ar)) (fun _ hk=>hk.2) (.slice aL X.length aw)) (fun _ hk=>hk.2) (.slice ap T.length am)) (fun _ hk=>hk.2) (.int .i64 Y)) (fun _ hk=>hk.2) (.int .i64 Z)) (fun _ hk=>hk.2) (.bool ab)) (fun _ hk=>hk.2) (.int .i64 ac)) (fun _ h_=>h_.1))) hb);replace I:=Aside0.mk (Kd.S_below (by(with_reducible repeat(first|apply Kd.S_alloc|apply Kd.S_drewN|apply Kd.S_drew));exact(Kd.S_mono (Kd.S_far (p:=⟨a,6,none⟩) (Kd.S_far (p:=⟨a,5,none⟩) (Kd.S_far (p:=⟨a,4,none⟩) (Kd.S_far (p:=⟨a,3,none⟩) (Kd.S_far (p:=⟨a,2,none⟩) (Kd.S_far (p:=⟨a,1,none⟩) (Kd.S_far (p:=⟨a,0,none⟩) (Kd.S_types I.out j.out (by decide)) (fun _ hk=>hk.2) (.slice aF W.length ar)) (fun _ hk=>hk.2) (.slice aL X.length aw)) (fun _ hk=>hk.2) (.slice ap T.length am)) (fun _ hk=>hk.2) (.int .i64 Y)) (fun _ hk=>hk.2) (.int .i64 Z)) (fun _ hk=>hk.2) (.bool ab)) (fun _ hk=>hk.2) (.int .i64 ac)) (fun _ h_=>h_.1))) hb);replace J:=Aside0.mk (Kd.S_below (by(with_reducible repeat(first|apply Kd.S_alloc|apply Kd.S_drewN|apply Kd.S_drew));exact(Kd.S_mono (Kd.S_far (p:=⟨a,6,none⟩) (Kd.S_far (p:=⟨a,5,none⟩) (Kd.S_far (p:=⟨a,4,none⟩) (Kd.S_far (p:=⟨a,3,none⟩) (Kd.S_far (p:=⟨a,2,none⟩) (Kd.S_far (p:=⟨a,1,none⟩) (Kd.S_far (p:=⟨a,0,none⟩) (Kd.S_types J.out j.out (by decide)) (fun _ hk=>hk.2) (.slice aF W.length ar)) (fun _ hk=>hk.2) (.slice aL X.length aw)) (fun _ hk=>hk.2) (.slice ap T.length am)) (fun _ hk=>hk.2) (.int .i64 Y)) (fun _ hk=>hk.2) (.int .i64 Z)) (fun _ hk=>hk.2) (.bool ab)) (fun _ hk=>hk.2) (.int .i64 ac)) (fun _ h_=>h_.1))) hb);replace D:=Aside0.mk (Kd.R_below (by(with_reducible repeat(first|apply Kd.R_alloc|apply Kd.R_drewN|apply Kd.R_drew));exact(Kd.R_mono (Kd.R_far (p:=⟨a,6,none⟩) (Kd.R_far (p:=⟨a,5,none⟩) (Kd.R_far (p:=⟨a,4,none⟩) (Kd.R_far (p:=⟨a,3,none⟩) (Kd.R_far (p:=⟨a,2,none⟩) (Kd.R_far (p:=⟨a,1,none⟩) (Kd.R_far (p:=⟨a,0,none⟩) (Kd.R_types D.out j.out (by decide)) (fun _ hk=>hk.2) (.slice aF W.length ar)) (fun _ hk=>hk.2) (.slice aL X.length aw)) (fun _ hk=>hk.2) (.slice ap T.length am)) (fun _ hk=>hk.2) (.int .i64 Y)) (fun _ hk=>hk.2) (.int .i64 Z)) (fun _ hk=>hk.2) (.bool ab)) (fun _ hk=>hk.2) (.int .i64 ac)) (fun _ h_=>h_.1))) hb);replace d:=kq d hb;replace b:=kq b hb;replace m:=kq m hb;replace j:=kp a #[.slice aF W.length ar, .slice aL X.length aw, .slice ap T.length am, .int .i64 Y, .int .i64 Z, .bool ab, .int .i64 ac] 33 hb;replace HB:=hs HB hb))
   replace q:=Aside0.mk (Kd.S_drew q.out)
   replace s:=Aside0.mk (Kd.R_drew s.out)
   replace t:=Aside0.mk (Kd.S_drew t.out)
   replace u:=Aside0.mk (Kd.S_drew u.out)
   replace o:=Aside0.mk (Kd.R_drew o.out)
   replace x:=Aside0.mk (Kd.S_drew x.out)
   replace y:=Aside0.mk (Kd.R_drew y.out)
   replace I:=Aside0.mk (Kd.S_drew I.out)
   replace J:=Aside0.mk (Kd.S_drew J.out)
   replace D:=Aside0.mk (Kd.R_drew D.out)
   replace d:=Aside0.mk (au d.out)
   replace b:=Aside0.mk (au b.out)
   replace m:=Aside0.mk (au m.out)
   replace j:=Aside0.mk (au j.out)
   replace HB:=Aside0.mk (ay HB.out)
   refine cB (n:=5) (S:=fun w' =>w'.cell? ⟨U,0,none⟩=some (.slice a7 ad.length a2)∧w'.cell? ⟨U,1,none⟩=some (.slice a8 al.length a3)∧w'.cell? ⟨b3,0,none⟩=some (.slice a9 E.length ba)∧w'.cell? ⟨b3,1,none⟩=some (.slice bb G.length bc)) (ds:= []) #[false,false,false,false,false] (by kernel_rfl) rfl rfl ⟨(ae m.out 0).trans rfl,(ae m.out 1).trans rfl,(ae d.out 0).trans rfl,(ae d.out 1).trans rfl⟩ (fun hHeld=> ?_)
   generalize eM.drew=ga at q s t u o x y I J D d b m j HB hHeld⊢
   refine take_ (i:=0) (N:=some 35) (v:= ?_) (a' := ?_) #[true,false,false,false,false] rfl rfl (by kernel_rfl) (fun _ _ _ h=>h) (Or.inl ⟨by rfl, ?_⟩) hHeld ?_ ?_
   rotate_left
   ·rintro w' ⟨s0,s1,s2,s3⟩
    go_simp
    with_reducible rfl
   rotate_left
   ·simp only[Act.put,List.setIfInBounds_toArray,List.set_cons_zero,List.set_cons_succ,bq,bu]
    rfl
   refine take_ (i:=1) (N:=some 36) (v:= ?_) (a' := ?_) #[true,true,false,false,false] rfl rfl (by kernel_rfl) (fun _ _ _ h=>h) (Or.inl ⟨by rfl, ?_⟩) hHeld ?_ ?_
   rotate_left
   ·rintro w' ⟨s0,s1,s2,s3⟩
    go_simp
    with_reducible rfl
   rotate_left
   ·simp only[Act.put,List.setIfInBounds_toArray,List.set_cons_zero,List.set_cons_succ,bq,bu]
    rfl
   refine cO (i:=2) (N:=some 37) #[true,true,true,false,false] rfl rfl (by kernel_rfl) (by decide) (fun K hK=> ?_)
   refine gs Tryz.func8 #[.agg #[.slice a9 E.length ba, .slice bb G.length bc]] rfl rfl ?_
   with_reducible refine(dY.calls k _ _ E _ _ G co cp _ (cb bw.out) b0.out (cb b1.out) b2.out eE.out).mono ?_
   rintro e gb ⟨fz,fL,rfl,ho0,ho1,hb⟩
   refine⟨_,rfl, ?_⟩
   have aS:=Aside0.mk (Kd.S_lower (Kd.S_new' (Kd.S_new' (Kd.S_new' (Kd.S_new' ho0 (Kd.S_lt (by(with_reducible repeat(first|apply Kd.S_alloc|apply Kd.S_drewN|apply Kd.S_drew));exact q.out))) (Kd.R_lt (by(with_reducible repeat(first|apply Kd.R_alloc|apply Kd.R_drewN|apply Kd.R_drew));exact o.out))) (Kd.S_lt (by(with_reducible repeat(first|apply Kd.S_alloc|apply Kd.S_drewN|apply Kd.S_drew));exact x.out))) (Kd.R_lt (by(with_reducible repeat(first|apply Kd.R_alloc|apply Kd.R_drewN|apply Kd.R_drew));exact D.out))) (aM bl))
   have a0:=Aside0.mk (Kd.R_lower (Kd.R_new' (Kd.R_new' (Kd.R_new' (Kd.R_new' ho1 (Kd.R_lt (by(with_reducible repeat(first|apply Kd.R_alloc|apply Kd.R_drewN|apply Kd.R_drew));exact s.out))) (Kd.R_lt (by(with_reducible repeat(first|apply Kd.R_alloc|apply Kd.R_drewN|apply Kd.R_drew));exact o.out))) (Kd.R_lt (by(with_reducible repeat(first|apply Kd.R_alloc|apply Kd.R_drewN|apply Kd.R_drew));exact y.out))) (Kd.R_lt (by(with_reducible repeat(first|apply Kd.R_alloc|apply Kd.R_drewN|apply Kd.R_drew));exact D.out))) (aM bl))
   replace q:=Aside0.mk (Kd.S_elder' (by(with_reducible repeat(first|apply Kd.S_alloc|apply Kd.S_drewN|apply Kd.S_drew));exact q.out) (Kd.S_base ho0) hb)
   replace s:=Aside0.mk (Kd.R_elder' (by(with_reducible repeat(first|apply Kd.R_alloc|apply Kd.R_drewN|apply Kd.R_drew));exact s.out) (Kd.R_base ho1) hb)
   replace t:=Aside0.mk (Kd.S_below (by(with_reducible repeat(first|apply Kd.S_alloc|apply Kd.S_drewN|apply Kd.S_drew));exact t.out) hb)
   replace u:=Aside0.mk (Kd.S_below (by(with_reducible repeat(first|apply Kd.S_alloc|apply Kd.S_drewN|apply Kd.S_drew));exact u.out) hb)
   replace o:=Aside0.mk (Kd.R_below (by(with_reducible repeat(first|apply Kd.R_alloc|apply Kd.R_drewN|apply Kd.R_drew));exact o.out) hb)
   replace x:=Aside0.mk (Kd.S_elder' (by(with_reducible repeat(first|apply Kd.S_alloc|apply Kd.S_drewN|apply Kd.S_drew));exact x.out) (Kd.S_base ho0) hb)
   replace y:=Aside0.mk (Kd.R_elder' (by(with_reducible repeat(first|apply Kd.R_alloc|apply Kd.R_drewN|apply Kd.R_drew));exact y.out) (Kd.R_base ho1) hb)
   replace I:=Aside0.mk (Kd.S_below (by(with_reducible repeat(first|apply Kd.S_alloc|apply Kd.S_drewN|apply Kd.S_drew));exact I.out) hb)
   replace J:=Aside0.mk (Kd.S_below (by(with_reducible repeat(first|apply Kd.S_alloc|apply Kd.S_drewN|apply Kd.S_drew));exact J.out) hb)
   replace D:=Aside0.mk (Kd.R_below (by(with_reducible repeat(first|apply Kd.R_alloc|apply Kd.R_drewN|apply Kd.R_drew));exact D.out) hb)
   replace d:=kb d hb
   replace b:=kb b hb
   replace m:=kb m hb
   replace j:=kb j hb
   replace HB:=hs HB hb
   obtain⟨el,em,d2⟩:=Kd.S_slice aS.out
   (first|subst d2|(injection d2 with an a4 ao;have a5:=an.symm;have a6:=ao.symm;clear an a4 ao;subst a5;subst a6))
   obtain⟨en,eo,d3⟩:=Kd.R_slice a0.out
   (first|subst d3|(injection d3 with an a4 ao;have a5:=an.symm;have a6:=ao.symm;clear an a4 ao;subst a5;subst a6))
   refine hK.out _ _ ⟨(ae m.out 0).trans rfl,(ae m.out 1).trans rfl,(ae d.out 0).trans rfl,(ae d.out 1).trans rfl⟩ (fun hHeld=> ?_)
   clear hK K
   refine no 37 ?_
   refine cO (i:=3) (N:=some 38) #[true,true,true,true,false] rfl rfl (by kernel_rfl) (by decide) (fun K hK=> ?_)
   refine gs Tryz.func11 #[.agg #[.slice a7 ad.length a2, .slice a8 al.length a3], .agg #[.slice el co.length em, .slice en cp.length eo]] rfl rfl ?_
   with_reducible refine(fM.calls k _ _ ad _ _ al _ _ co _ _ cp true _ ?side1 ((Kd.S_reads' x.out).2.1) ?side3 ((Kd.R_reads' y.out).2.1) ?side5 ((Kd.S_reads' aS.out).2.1) ?side7 ((Kd.R_reads' a0.out).2.1) eI.out).mono ?_
   (case side1=>repeat(first|exact(Kd.S_reads' x.out).2.2|(with_reducible refine Kd.C_alloc ?_ _)|(with_reducible refine Kd.C_drewN ?_ _)|(with_reducible refine Kd.C_drew ?_)))
   (case side3=>repeat(first|exact(Kd.R_reads' y.out).2.2|(with_reducible refine Kd.C_alloc ?_ _)|(with_reducible refine Kd.C_drewN ?_ _)|(with_reducible refine Kd.C_drew ?_)))
   (case side5=>repeat(first|exact(Kd.S_reads' aS.out).2.2|(with_reducible refine Kd.C_alloc ?_ _)|(with_reducible refine Kd.C_drewN ?_ _)|(with_reducible refine Kd.C_drew ?_)))
   (case side7=>repeat(first|exact(Kd.R_reads' a0.out).2.2|(with_reducible refine Kd.C_alloc ?_ _)|(with_reducible refine Kd.C_drewN ?_ _)|(with_reducible refine Kd.C_drew ?_)))
   rintro e eN ⟨rfl,hb⟩
   refine⟨_,rfl, ?_⟩
   replace q:=Aside0.mk (Kd.S_below (by(with_reducible repeat(first|apply Kd.S_alloc|apply Kd.S_drewN|apply Kd.S_drew));exact q.out) hb)
   replace s:=Aside0.mk (Kd.R_below (by(with_reducible repeat(first|apply Kd.R_alloc|apply Kd.R_drewN|apply Kd.R_drew));exact s.out) hb)
   replace t:=Aside0.mk (Kd.S_below (by(with_reducible repeat(first|apply Kd.S_alloc|apply Kd.S_drewN|apply Kd.S_drew));exact t.out) hb)
   replace u:=Aside0.mk (Kd.S_below (by(with_reducible repeat(first|apply Kd.S_alloc|apply Kd.S_drewN|apply Kd.S_drew));exact u.out) hb)
   replace o:=Aside0.mk (Kd.R_below (by(with_reducible repeat(first|apply Kd.R_alloc|apply Kd.R_drewN|apply Kd.R_drew));exact o.out) hb)
   replace x:=Aside0.mk (Kd.S_below (by(with_reducible repeat(first|apply Kd.S_alloc|apply Kd.S_drewN|apply Kd.S_drew));exact x.out) hb)
   replace y:=Aside0.mk (Kd.R_below (by(with_reducible repeat(first|apply Kd.R_alloc|apply Kd.R_drewN|apply Kd.R_drew));exact y.out) hb)
   replace I:=Aside0.mk (Kd.S_below (by(with_reducible repeat(first|apply Kd.S_alloc|apply Kd.S_drewN|apply Kd.S_drew));exact I.out) hb)
   replace J:=Aside0.mk (Kd.S_below (by(with_reducible repeat(first|apply Kd.S_alloc|apply Kd.S_drewN|apply Kd.S_drew));exact J.out) hb)
   replace D:=Aside0.mk (Kd.R_below (by(with_reducible repeat(first|apply Kd.R_alloc|apply Kd.R_drewN|apply Kd.R_drew));exact D.out) hb)
   replace aS:=Aside0.mk (Kd.S_below (by(with_reducible repeat(first|apply Kd.S_alloc|apply Kd.S_drewN|apply Kd.S_drew));exact aS.out) hb)
   replace a0:=Aside0.mk (Kd.R_below (by(with_reducible repeat(first|apply Kd.R_alloc|apply Kd.R_drewN|apply Kd.R_drew));exact a0.out) hb)
   replace d:=kb d hb
   replace b:=kb b hb
   replace m:=kb m hb
   replace j:=kb j hb
   replace HB:=hs HB hb
   refine hK.out _ _ ⟨(ae m.out 0).trans rfl,(ae m.out 1).trans rfl,(ae d.out 0).trans rfl,(ae d.out 1).trans rfl⟩ (fun hHeld=> ?_)
   clear hK K
   refine no 38 ?_
   refine fw (i:=4) (N:=some 39) (v:= ?_) (a' := ?_) #[true,true,true,true,true] rfl rfl (by kernel_rfl) (fun _ _ _ h=>h) (Or.inl ⟨by rfl, ?_⟩) ?_ ?_
   rotate_left
   ·intro w'
    go_simp
    with_reducible rfl
   rotate_left
   ·simp only[Act.put,List.setIfInBounds_toArray,List.set_cons_zero,List.set_cons_succ,bq,bu]
    rfl
   refine dD (by kernel_rfl) ?_
   try go_wp2
   replace q:=Aside0.mk (Kd.S_drew q.out)
   replace s:=Aside0.mk (Kd.R_drew s.out)
   replace t:=Aside0.mk (Kd.S_drew t.out)
   replace u:=Aside0.mk (Kd.S_drew u.out)
   replace o:=Aside0.mk (Kd.R_drew o.out)
   replace x:=Aside0.mk (Kd.S_drew x.out)
   replace y:=Aside0.mk (Kd.R_drew y.out)
   replace I:=Aside0.mk (Kd.S_drew I.out)
   replace J:=Aside0.mk (Kd.S_drew J.out)
   replace D:=Aside0.mk (Kd.R_drew D.out)
   replace aS:=Aside0.mk (Kd.S_drew aS.out)
   replace a0:=Aside0.mk (Kd.R_drew a0.out)
   replace d:=Aside0.mk (au d.out)
   replace b:=Aside0.mk (au b.out)
   replace m:=Aside0.mk (au m.out)
   replace j:=Aside0.mk (au j.out)
   replace HB:=Aside0.mk (ay HB.out)
   refine cB (n:=5) (S:=fun w' =>w'.cell? ⟨a,0,none⟩=some (.slice aF W.length ar)∧w'.cell? ⟨a,1,none⟩=some (.slice aL X.length aw)∧w'.cell? ⟨a,2,none⟩=some (.slice ap T.length am)∧w'.cell? ⟨a,3,none⟩=some (.int .i64 Y)∧w'.cell? ⟨a,4,none⟩=some (.int .i64 Z)∧w'.cell? ⟨a,5,none⟩=some (.bool ab)∧w'.cell? ⟨a,6,none⟩=some (.int .i64 ac)∧w'.cell? ⟨aq,0,none⟩=some (.slice bk z.length bm)∧w'.cell? ⟨aq,1,none⟩=some (.slice bo A.length bp)∧w'.cell? ⟨aq,2,none⟩=some (.slice br B.length bs)∧w'.cell? ⟨aq,3,none⟩=some (.int .i64 L)∧w'.cell? ⟨aq,4,none⟩=some (.int .i64 M)∧w'.cell? ⟨aq,5,none⟩=some (.bool O)∧w'.cell? ⟨aq,6,none⟩=some (.int .i64 P)) (ds:= []) #[false,false,false,false,false] (by kernel_rfl) rfl rfl ⟨(ae j.out 0).trans rfl,(ae j.out 1).trans rfl,(ae j.out 2).trans rfl,(ae j.out 3).trans rfl,(ae j.out 4).trans rfl,(ae j.out 5).trans rfl,(ae j.out 6).trans rfl,(ae b.out 0).trans rfl,(ae b.out 1).trans rfl,(ae b.out 2).trans rfl,(ae b.out 3).trans rfl,(ae b.out 4).trans rfl,(ae b.out 5).trans rfl,(ae b.out 6).trans rfl⟩ (fun hHeld=> ?_)
   generalize eN.drew=ge at q s t u o x y I J D aS a0 d b m j HB hHeld⊢
   refine take_ (i:=0) (N:=some 40) (v:= ?_) (a' := ?_) #[true,false,false,false,false] rfl rfl (by kernel_rfl) (fun _ _ _ h=>h) (Or.inl ⟨by rfl, ?_⟩) hHeld ?_ ?_
   rotate_left
   ·rintro w' ⟨s0,s1,s2,s3,s4,s5,s6,s7,s8,s9,s10,s11,s12,s13⟩
    go_simp
    with_reducible rfl
   rotate_left
   ·simp only[Act.put,List.setIfInBounds_toArray,List.set_cons_zero,List.set_cons_succ,bq,bu]
    rfl
   refine take_ (i:=1) (N:=some 41) (v:= ?_) (a' := ?_) #[true,true,false,false,false] rfl rfl (by kernel_rfl) (fun _ _ _ h=>h) (Or.inl ⟨by rfl, ?_⟩) hHeld ?_ ?_
   rotate_left
   ·rintro w' ⟨s0,s1,s2,s3,s4,s5,s6,s7,s8,s9,s10,s11,s12,s13⟩
    go_simp
    with_reducible rfl
   rotate_left
   ·simp only[Act.put,List.setIfInBounds_toArray,List.set_cons_zero,List.set_cons_succ,bq,bu]
    rfl
   refine cO (i:=2) (N:=some 42) #[true,true,true,false,false] rfl rfl (by kernel_rfl) (by decide) (fun K hK=> ?_)
   refine gs Tryz.func17 #[.agg #[.slice bk z.length bm, .slice bo A.length bp, .slice br B.length bs, .int .i64 L, .int .i64 M, .bool O, .int .i64 P]] rfl rfl ?_
   with_reducible refine(dO.calls k _ _ z _ _ A _ _ B L M O P cq cr cs ct cv cw cx _ (cb b6.out) b7.out (cb b8.out) b9.out (cb ca.out) cc.out eJ.out).mono ?_
   rintro e gf ⟨fN,fR,fS,rfl,ho0,ho1,ho2,hb⟩
   refine⟨_,rfl, ?_⟩
   have cd:=Aside0.mk (Kd.S_lower (Kd.S_new' (Kd.S_new' ho0 (Kd.S_lt (by(with_reducible repeat(first|apply Kd.S_alloc|apply Kd.S_drewN|apply Kd.S_drew));exact t.out))) (Kd.S_lt (by(with_reducible repeat(first|apply Kd.S_alloc|apply Kd.S_drewN|apply Kd.S_drew));exact I.out))) (aM bl))
   have ce:=Aside0.mk (Kd.S_lower (Kd.S_new' (Kd.S_new' ho1 (Kd.S_lt (by(with_reducible repeat(first|apply Kd.S_alloc|apply Kd.S_drewN|apply Kd.S_drew));exact u.out))) (Kd.S_lt (by(with_reducible repeat(first|apply Kd.S_alloc|apply Kd.S_drewN|apply Kd.S_drew));exact J.out))) (aM bl))
   have cf:=Aside0.mk (Kd.R_lower (Kd.R_new' (Kd.R_new' ho2 (Kd.R_lt (by(with_reducible repeat(first|apply Kd.R_alloc|apply Kd.R_drewN|apply Kd.R_drew));exact o.out))) (Kd.R_lt (by(with_reducible repeat(first|apply Kd.R_alloc|apply Kd.R_drewN|apply Kd.R_drew));exact D.out))) (aM bl))
   replace q:=Aside0.mk (Kd.S_elder' (by(with_reducible repeat(first|apply Kd.S_alloc|apply Kd.S_drewN|apply Kd.S_drew));exact q.out) (Kd.R_base ho2) hb)
   replace s:=Aside0.mk (Kd.R_elder' (by(with_reducible repeat(first|apply Kd.R_alloc|apply Kd.R_drewN|apply Kd.R_drew));exact s.out) (Kd.R_base ho2) hb)
   replace t:=Aside0.mk (Kd.S_elder' (by(with_reducible repeat(first|apply Kd.S_alloc|apply Kd.S_drewN|apply Kd.S_drew));exact t.out) (Kd.S_base ho0) hb)
   replace u:=Aside0.mk (Kd.S_elder' (by(with_reducible repeat(first|apply Kd.S_alloc|apply Kd.S_drewN|apply Kd.S_drew));exact u.out) (Kd.S_base ho1) hb)
   replace o:=Aside0.mk (Kd.R_elder' (by(with_reducible repeat(first|apply Kd.R_alloc|apply Kd.R_drewN|apply Kd.R_drew));exact o.out) (Kd.R_base ho2) hb)
   replace x:=Aside0.mk (Kd.S_elder' (by(with_reducible repeat(first|apply Kd.S_alloc|apply Kd.S_drewN|apply Kd.S_drew));exact x.out) (Kd.R_base ho2) hb)
   replace y:=Aside0.mk (Kd.R_elder' (by(with_reducible repeat(first|apply Kd.R_alloc|apply Kd.R_drewN|apply Kd.R_drew));exact y.out) (Kd.R_base ho2) hb)
   replace I:=Aside0.mk (Kd.S_elder' (by(with_reducible repeat(first|apply Kd.S_alloc|apply Kd.S_drewN|apply Kd.S_drew));exact I.out) (Kd.S_base ho0) hb)
   replace J:=Aside0.mk (Kd.S_elder' (by(with_reducible repeat(first|apply Kd.S_alloc|apply Kd.S_drewN|apply Kd.S_drew));exact J.out) (Kd.S_base ho1) hb)
   replace D:=Aside0.mk (Kd.R_elder' (by(with_reducible repeat(first|apply Kd.R_alloc|apply Kd.R_drewN|apply Kd.R_drew));exact D.out) (Kd.R_base ho2) hb)
   replace aS:=Aside0.mk (Kd.S_elder' (by(with_reducible repeat(first|apply Kd.S_alloc|apply Kd.S_drewN|apply Kd.S_drew));exact aS.out) (Kd.R_base ho2) hb)
   replace a0:=Aside0.mk (Kd.R_elder' (by(with_reducible repeat(first|apply Kd.R_alloc|apply Kd.R_drewN|apply Kd.R_drew));exact a0.out) (Kd.R_base ho2) hb)
   replace d:=kb d hb
   replace b:=kb b hb
   replace m:=kb m hb
   replace j:=kb j hb
   replace HB:=hs HB hb
   obtain⟨ep,eq,d4⟩:=Kd.S_slice cd.out
   (first|subst d4|(injection d4 with an a4 ao;have a5:=an.symm;have a6:=ao.symm;clear an a4 ao;subst a5;subst a6))
   obtain⟨er,es,d5⟩:=Kd.S_slice ce.out
   (first|subst d5|(injection d5 with an a4 ao;have a5:=an.symm;have a6:=ao.symm;clear an a4 ao;subst a5;subst a6))
   obtain⟨et,ev,d6⟩:=Kd.R_slice cf.out
   (first|subst d6|(injection d6 with an a4 ao;have a5:=an.symm;have a6:=ao.symm;clear an a4 ao;subst a5;subst a6))
   refine hK.out _ _ ⟨(ae j.out 0).trans rfl,(ae j.out 1).trans rfl,(ae j.out 2).trans rfl,(ae j.out 3).trans rfl,(ae j.out 4).trans rfl,(ae j.out 5).trans rfl,(ae j.out 6).trans rfl,(ae b.out 0).trans rfl,(ae b.out 1).trans rfl,(ae b.out 2).trans rfl,(ae b.out 3).trans rfl,(ae b.out 4).trans rfl,(ae b.out 5).trans rfl,(ae b.out 6).trans rfl⟩ (fun hHeld=> ?_)
   clear hK K
   refine no 42 ?_
   refine cO (i:=3) (N:=some 43) #[true,true,true,true,false] rfl rfl (by kernel_rfl) (by decide) (fun K hK=> ?_)
   refine gs Tryz.func10 #[.agg #[.slice aF W.length ar, .slice aL X.length aw, .slice ap T.length am, .int .i64 Y, .int .i64 Z, .bool ab, .int .i64 ac], .agg #[.slice ep cq.length eq, .slice er cr.length es, .slice et cs.length ev, .int .i64 ct, .int .i64 cv, .bool cw, .int .i64 cx]] rfl rfl ?_
   with_reducible refine(fE.calls k _ _ W _ _ X _ _ T Y Z ab ac _ _ cq _ _ cr _ _ cs ct cv cw cx true _ ?side1 ((Kd.S_reads' I.out).2.1) ?side3 ((Kd.S_reads' J.out).2.1) ?side5 ((Kd.R_reads' D.out).2.1) ?side7 ((Kd.S_reads' cd.out).2.1) ?side9 ((Kd.S_reads' ce.out).2.1) ?side11 ((Kd.R_reads' cf.out).2.1) eK.out).mono ?_
   (case side1=>repeat(first|exact(Kd.S_reads' I.out).2.2|(with_reducible refine Kd.C_alloc ?_ _)|(with_reducible refine Kd.C_drewN ?_ _)|(with_reducible refine Kd.C_drew ?_)))
   (case side3=>repeat(first|exact(Kd.S_reads' J.out).2.2|(with_reducible refine Kd.C_alloc ?_ _)|(with_reducible refine Kd.C_drewN ?_ _)|(with_reducible refine Kd.C_drew ?_)))
   (case side5=>repeat(first|exact(Kd.R_reads' D.out).2.2|(with_reducible refine Kd.C_alloc ?_ _)|(with_reducible refine Kd.C_drewN ?_ _)|(with_reducible refine Kd.C_drew ?_)))
   (case side7=>repeat(first|exact(Kd.S_reads' cd.out).2.2|(with_reducible refine Kd.C_alloc ?_ _)|(with_reducible refine Kd.C_drewN ?_ _)|(with_reducible refine Kd.C_drew ?_)))
   (case side9=>repeat(first|exact(Kd.S_reads' ce.out).2.2|(with_reducible refine Kd.C_alloc ?_ _)|(with_reducible refine Kd.C_drewN ?_ _)|(with_reducible refine Kd.C_drew ?_)))
   (case side11=>repeat(first|exact(Kd.R_reads' cf.out).2.2|(with_reducible refine Kd.C_alloc ?_ _)|(with_reducible refine Kd.C_drewN ?_ _)|(with_reducible refine Kd.C_drew ?_)))
   rintro e gg ⟨rfl,hb⟩
   refine⟨_,rfl, ?_⟩
   replace q:=Aside0.mk (Kd.S_below (by(with_reducible repeat(first|apply Kd.S_alloc|apply Kd.S_drewN|apply Kd.S_drew));exact q.out) hb)
   replace s:=Aside0.mk (Kd.R_below (by(with_reducible repeat(first|apply Kd.R_alloc|apply Kd.R_drewN|apply Kd.R_drew));exact s.out) hb)
   replace t:=Aside0.mk (Kd.S_below (by(with_reducible repeat(first|apply Kd.S_alloc|apply Kd.S_drewN|apply Kd.S_drew));exact t.out) hb)
   replace u:=Aside0.mk (Kd.S_below (by(with_reducible repeat(first|apply Kd.S_alloc|apply Kd.S_drewN|apply Kd.S_drew));exact u.out) hb)
   replace o:=Aside0.mk (Kd.R_below (by(with_reducible repeat(first|apply Kd.R_alloc|apply Kd.R_drewN|apply Kd.R_drew));exact o.out) hb)
   replace x:=Aside0.mk (Kd.S_below (by(with_reducible repeat(first|apply Kd.S_alloc|apply Kd.S_drewN|apply Kd.S_drew));exact x.out) hb)
   replace y:=Aside0.mk (Kd.R_below (by(with_reducible repeat(first|apply Kd.R_alloc|apply Kd.R_drewN|apply Kd.R_drew));exact y.out) hb)
   replace I:=Aside0.mk (Kd.S_below (by(with_reducible repeat(first|apply Kd.S_alloc|apply Kd.S_drewN|apply Kd.S_drew));exact I.out) hb)
   replace J:=Aside0.mk (Kd.S_below (by(with_reducible repeat(first|apply Kd.S_alloc|apply Kd.S_drewN|apply Kd.S_drew));exact J.out) hb)
   replace D:=Aside0.mk (Kd.R_below (by(with_reducible repeat(first|apply Kd.R_alloc|apply Kd.R_drewN|apply Kd.R_drew));exact D.out) hb)
   replace aS:=Aside0.mk (Kd.S_below (by(with_reducible repeat(first|apply Kd.S_alloc|apply Kd.S_drewN|apply Kd.S_drew));exact aS.out) hb)
   replace a0:=Aside0.mk (Kd.R_below (by(with_reducible repeat(first|apply Kd.R_alloc|apply Kd.R_drewN|apply Kd.R_drew));exact a0.out) hb)
   replace cd:=Aside0.mk (Kd.S_below (by(with_reducible repeat(first|apply Kd.S_alloc|apply Kd.S_drewN|apply Kd.S_drew));exact cd.out) hb)
   replace ce:=Aside0.mk (Kd.S_below (by(with_reducible repeat(first|apply Kd.S_alloc|apply Kd.S_drewN|apply Kd.S_drew));exact ce.out) hb)
   replace cf:=Aside0.mk (Kd.R_below (by(with_reducible repeat(first|apply Kd.R_alloc|apply Kd.R_drewN|apply Kd.R_drew));exact cf.out) hb)
   replace d:=kb d hb
   replace b:=kb b hb
   replace m:=kb m hb
   replace j:=kb j hb
   replace HB:=hs HB hb
   refine hK.out _ _ ⟨(ae j.out 0).trans rfl,(ae j.out 1).trans rfl,(ae j.out 2).trans rfl,(ae j.out 3).trans rfl,(ae j.out 4).trans rfl,(ae j.out 5).trans rfl,(ae j.out 6).trans rfl,(ae b.out 0).trans rfl,(ae b.out 1).trans rfl,(ae b.out 2).trans rfl,(ae b.out 3).trans rfl,(ae b.out 4).trans rfl,(ae b.out 5).trans rfl,(ae b.out 6).trans rfl⟩ (fun hHeld=> ?_)
   clear hK K
   refine no 43 ?_
   refine fw (i:=4) (N:=some 44) (v:= ?_) (a' := ?_) #[true,true,true,true,true] rfl rfl (by kernel_rfl) (fun _ _ _ h=>h) (Or.inl ⟨by rfl, ?_⟩) ?_ ?_
   rotate_left
   ·intro w'
    go_simp
    with_reducible rfl
   rotate_left
   ·simp only[Act.put,List.setIfInBounds_toArray,List.set_cons_zero,List.set_cons_succ,bq,bu]
    rfl
   refine dD (by kernel_rfl) ?_
   try go_wp2
   go_ret
   exact fin
  replace c31:=Bool.eq_false_iff.mpr c31
  subst c31
  replace H:=ie H
  obtain rfl:=Option.some.inj H
  exact absurd hr_ (by decide)
 replace c28:=Bool.eq_false_iff.mpr c28
 subst c28
 replace H:=ie H
 obtain rfl:=Option.some.inj H
 exact absurd hr_ (by decide)
end Go.Proofs.YteinbmkgenhocaaGreat.P
end
