/- A part of the claim FnExactMachOk. -/
import Derived.Test.YteinbmkgenhocaaGreatCFnExactMachOk35
section
namespace Go.Proofs.YteinbmkgenhocaaGreat.P
open Go.RowKit Go.Proofs.YteinbmkgenhocaaGreatW.PrintWords Go.Proofs.YteinbmkgenhocaaGreatW.PrintLast Go.Proofs.YteinbmkgenhocaaGreatW.PrintMore
attribute [local go_sem] ah ai av ax af ag aj ak
set_option linter.unusedVariables false
set_option linter.unusedSimpArgs false
set_option maxHeartbeats 8000000 in
set_option maxRecDepth 100000 in
theorem je.calls (k:Nat) (d:Int) (l:Option Addr) (m:Nat) (c:List Int) (r1:Int) (r2:List Int) (w:World) (x:Kd.C (Kd.int .i64) w l c.length c) (y:c.length≤m) (h:je.f k d c=some (r1,r2)):
  Calls Tryz.prog 76 #[.agg #[.int .i64 d, .slice l c.length m]] w fun e w' => ∃E:Value,e= .returned (.agg #[.int .i64 r1,E])∧Kd.R (Kd.int .i64) 3 w' w.heap.size (fun _=>True) E r2∧Below w.heap.size w w' :=by
 have I:=Tryz.underlying116
 have J:=Tryz.underlying126
 have B:=Aside0.mk x
 have D:=Aside0.mk y
 clear x y
 have HB:=Aside0.mk (Below.refl w.heap.size w)
 have H:((bY.f k c).bind fun g=>(some (d,g)))=some (r1,r2):=h
 clear h
 obtain⟨g,A2,H⟩:=ob H
 simp only[Option.some.injEq,Prod.mk.injEq]at H
 obtain⟨rfl,rfl⟩:=H
 go_enter Tryz.func76,Tryz.ntmps76
 go_wp2_with (first|((with_reducible refine gd 1 rfl ?_);refine bx 1 #[.int .i64 d, .slice l c.length m] 116 ?_;intro K hg w3 hbox hb;have a:=Aside0.mk hbox;have L:=hz HB hg;replace HB:=hs HB hb;clear hb hbox hg)|((with_reducible refine gd 2 rfl ?_);refine bx 2 #[.int .i64 0, .slice none 0 0] 126 ?_;intro n hg w4 hbox hb;have b:=Aside0.mk hbox;have M:=hz HB hg;have o:=nl a hg;have q:=ng a hg;replace a:=kb a hb;replace HB:=hs HB hb;clear hb hbox hg)|((with_reducible refine gd 3 rfl ?_);refine bx 3 #[.int .i64 0, .slice none 0 0] 126 ?_;intro z hg w5 hbox hb;have j:=Aside0.mk hbox;have O:=hz HB hg;have r:=nl a hg;have s:=ng a hg;have i:=nl b hg;have t:=ng b hg;replace a:=kb a hb;replace b:=kb b hb;replace HB:=hs HB hb;clear hb hbox hg;have P:=o.out;have T:=q.out;have U:=r.out;have W:=s.out;have:=cf2 a;have X:=t.out;have Y:=i.out;have:=cf2 j)|(refine gl (some 9) Tryz.func60 #[.slice l c.length m] rfl ?_;(with_reducible refine(bY.calls k _ _ c g _ (cb B.out) D.out A2.out).mono ?_);rintro e ab ⟨Z,rfl,ho0,hb⟩;refine⟨_,rfl, ?_⟩;have A:=Aside0.mk (Kd.R_lower ho0 (aM bl));replace a:=kq a hb;replace b:=kq b hb;replace j:=kp z #[.int .i64 d, .slice none 0 0] 126 hb;replace HB:=hs HB hb;obtain⟨u,v,G⟩:=Kd.R_slice A.out;subst G;have:=cf2 j;have:=cf2 b))
 refine bodyPost_ret (results_cell_row rfl _ _ n 126 #[.int .i64 d, .slice u g.length v] (0,0) _ rfl (by(with_reducible repeat(first|refine aC ?_ _|refine au ?_|refine aA ?_ _));refine dC (cs:= #[.int .i64 d, .slice none 0 0]) ?_ 1 _ rfl;(with_reducible repeat(first|refine aC ?_ _|refine au ?_|refine aA ?_ _));refine dC (cs:= #[.int .i64 0, .slice none 0 0]) ?_ 0 _ rfl;(with_reducible repeat(first|refine aC ?_ _|refine au ?_|refine aA ?_ _));refine fH ?_ i.out _;(with_reducible repeat(first|refine aC ?_ _|refine au ?_|refine aA ?_ _));exact b.out) Tryz.underlying126 rfl (by kernel_rfl)) rfl ?_
 exact⟨_,by first|rfl|(simp[aW,aX]<;>rfl)|(simp[*,aW,aX]<;>rfl),by(with_reducible repeat(first|apply Kd.R_alloc|apply Kd.R_drewN|apply Kd.R_drew));exact Kd.R_mono (Kd.R_far (p:=⟨n,1,none⟩) (Kd.R_far (p:=⟨n,0,none⟩) (Kd.R_far (p:=⟨z,1,none⟩) (Kd.R_types (Kd.R_types A.out j.out (by decide)) b.out (by decide)) (fun _ hk=>hk.1.2) (.slice u g.length v)) (fun _ hk=>hk.2) (.int .i64 d)) (fun _ hk=>hk.2) (.slice u g.length v)) (fun _ hk=>trivial),bl⟩
set_option maxHeartbeats 8000000 in
set_option maxRecDepth 100000 in
theorem dB.calls (k:Nat) (A0:Option Addr) (c0:Nat) (l0:List (S116)) (r:List (S126)) (w:World) (hr0:Kd.C kI w A0 l0.length l0) (hc0:l0.length≤c0) (h:dB.f k l0=some r):
  Calls Tryz.prog 31 #[.slice A0 l0.length c0] w fun e w' => ∃aS:Value,e= .returned (aS)∧Kd.S eB 126 w' w.heap.size (fun _=>True) aS r∧Below w.heap.size w w' :=by
 have bk:=Tryz.underlying116
 have bm:=Tryz.underlying126
 have a9:=Aside0.mk hr0
 have b6:=Aside0.mk hc0
 clear hr0 hc0
 have HB:=Aside0.mk (Below.refl w.heap.size w)
 have H:(if 0≤(l0.length:Int)then(if((l0.length:Int):Int).toNat≤8796093022208 then(dB.l0 k l0 (List.replicate ((l0.length:Int):Int).toNat jC) 0)else(none))else(none))=some r:=h
 clear h
 by_cases c2:0≤(l0.length:Int)
 ·rw [if_pos c2]at H
  have br:=eq_true c2
  have bs:decide (0≤(l0.length:Int))=true:=decide_eq_true c2
  clear c2
  by_cases c3:((l0.length:Int):Int).toNat≤8796093022208
  ·rw [if_pos c3]at H
   have bt:=eq_true c3
   have bw:decide (((l0.length:Int):Int).toNat≤8796093022208)=true:=decide_eq_true c3
   clear c3
   obtain⟨T,i⟩: ∃y_:List (S126),y_=(List.replicate ((l0.length:Int):Int).toNat jC):=⟨_,rfl⟩
   replace H:(dB.l0 k l0 T 0)=some r:=by first|(rw[i];with_reducible exact H)|(have n:=(Option.bind_some _ _).symm.trans H;rw[i];with_reducible exact n)|(have n:=(Option.bind_some _ _).symm.trans H;with_reducible exact n)|with_reducible exact H|(rw[i];exact H)|exact H
   have M:=Aside0.mk i
   clear i
   have H' :=Aside0.mk H
   clear H
   go_enter Tryz.func31,Tryz.ntmps31
   go_wp2_with (first|((with_reducible refine gd 7 rfl ?_);refine Kd.S_make eB _ 126 rfl (N:=7) rfl 35 _ _ rfl (l0.length:Int) rfl rfl Tryz.underlying35 (.agg #[(.int .i64 0),(.slice none 0 0)]) 32 uI rfl (by decide) (by omega) jC (ok:=fun _=>True) (okp:=fun _=>True) (oO _ _ _ jC (Kd.R_nil _ _ _ _ _)) (fun _ hk=>hk) trivial (of_decide_eq_true (by first|(with_reducible assumption)|assumption)) (Nat.le_trans (Nat.mul_le_mul_right _ (of_decide_eq_true (by first|(with_reducible assumption)|assumption):(l0.length:Int).toNat≤8796093022208)) (by omega)) (Below.refl _ _) (Nat.le_refl _) ?_;intro a4 w4 G hb hg_ hnew_;clear hg_ hnew_;(first|rw[←M.out]at G|(simp only[Int.reduceToNat]at G;rw[←M.out]at G));have aL:=Aside0.mk (Kd.S_lower G (aM bl));replace HB:=hs HB hb;clear hb G))
   go_loopg [4] k (fun kq v4 w' => ∃(c:List (S126)) (a:Int),v4= .int .i64 a∧Aside0 (dB.l0 kq l0 c a=some r)∧Aside0 (kq≤k)∧Aside0 (Kd.S eB 126 w' w.heap.size (fun _=>True) a4 c)∧Aside0 (Below w.heap.size w w'))
   case atStart=>exact⟨(T),(0),(by first|rfl|(simp;done)|(simp[*];done)),H',⟨Nat.le_refl _⟩,⟨by(with_reducible repeat(first|apply Kd.S_alloc|apply Kd.S_drewN|apply Kd.S_drew));exact aL.out⟩,⟨bl⟩⟩
   case round=>
    clear H'
    obtain⟨c,a,rfl,HA,a0,b,HB⟩:=hrel
    cases gk with
    |zero=>exact absurd HA.out (by simp[dB.l0])
    | succ k1=>
     have H:=HA.out
     clear HA
     simp only[dB.l0]at H
     by_cases c6:a<(l0.length:Int)
     ·rw[if_pos c6]at H
      have a5:decide (a<(l0.length:Int))=true:=decide_eq_true c6
      clear c6
      by_cases c7:0≤a
      ·rw[if_pos c7]at H
       have b0:decide (0≤a)=true:=decide_eq_true c7
       clear c7
       replace H:=Option.bind_eq_some_iff.mp H
       obtain⟨⟨g,o⟩,a1,H⟩:=H
       replace H:(if a<(c.length:Int)then(dB.l0 k1 l0 (c.set (a:Int).toNat (⟨g,o⟩:S126)) (wrap64 (a+1)))else(none))=some r:=H
       have A8:=Aside0.mk a1
       clear a1
       by_cases c9:a<(c.length:Int)
       ·rw[if_pos c9]at H
        have b1:decide (a<(c.length:Int))=true:=decide_eq_true c9
        clear c9
        obtain⟨I,l⟩: ∃y_:List (S126),y_=(c.set (a:Int).toNat (⟨g,o⟩:S126)):=⟨_,rfl⟩
        replace H:(dB.l0 k1 l0 I (wrap64 (a+1)))=some r:=by first|(rw[l];with_reducible exact H)|(have n:=(Option.bind_some _ _).symm.trans H;rw[l];with_reducible exact n)|(have n:=(Option.bind_some _ _).symm.trans H;with_reducible exact n)|with_reducible exact H|(rw[l];exact H)|exact H
        have aO:=Aside0.mk l
        clear l
        have H' :=Aside0.mk H
        clear H
        have J:0≤(a:Int):=od
        have K:a<(l0.length:Int):=od
        obtain⟨bo,U,W,a6,s,u,x,y⟩:=mX a9.out a J K
        cases a6
        obtain⟨s,u⟩:=hc2 HB s u
        have O:=Aside0.mk y
        have P:=Aside0.mk x
        clear y x
        replace J:=eq_true J
        replace K:=eq_true K
        go_wp2_with (first|(refine gl (some 20) Tryz.func76 #[.agg #[.int .i64 ((fA l0 a).f0), .slice U ((fA l0 a).f1).length W]] rfl ?_;(with_reducible refine(je.calls k1 ((fA l0 a).f0) _ _ ((fA l0 a).f1) g o _ (cb O.out) P.out A8.out).mono ?_);rintro e q ⟨z,rfl,ho0,hb⟩;refine⟨_,rfl, ?_⟩;have m:=Aside0.mk (Kd.R_lower ho0 (aM bl));replace b:=Aside0.mk (Kd.S_elder' (by(with_reducible repeat(first|apply Kd.S_alloc|apply Kd.S_drewN|apply Kd.S_drew));exact b.out) (Kd.R_base ho0) hb);replace HB:=hs HB hb;have X:0≤(a:Int):=od;have Y:(a:Int)<((c.length:Int):Int):=od;obtain⟨d,Z,ab,ac,a7,b2,ad⟩:=Kd.S_form b.out (by omega);(first|cases ab|(injection ab with ea_ en_ ec_;(first|subst ea_|(injection ea_ with ea_;subst ea_));subst ec_;clear en_));have al:=Aside0.mk ac;have b3:=Aside0.mk ad;clear ac a7 ad;obtain⟨_,b4,aP,am,A,B,_,_⟩:=Kd.S_elem b.out jC (a:Int) X Y;obtain⟨an,rfl,ba⟩:=mD am;have bb:q.cell? ⟨d,(a:Int).toNat * 2,none⟩=some (.int .i64 ((aD c a).f0)):=A 0 _ rfl;have bc:q.cell? ⟨d,(a:Int).toNat * 2+1,none⟩=some (an):=A 1 _ rfl;have bd:q.frozen? ⟨d,(a:Int).toNat * 2,none⟩=false:=B 0;have be:q.frozen? ⟨d,(a:Int).toNat * 2+1,none⟩=false:=B 1;clear aP A B am;replace X:=eq_true X;replace Y:=eq_true Y;have n_:=Aside0.mk (Kd.S_mono (ok' :=(fun k_=>some k_≠(z:Value).ownBlock)) b.out (fun k_ hk=>hk.2));clear b;have b:=n_;clear n_;have a8:=Aside0.mk (show Kd.S eB 126 q w.heap.size (fun k_=>((fun _=>True)) k_∧¬((fun k_=>some k_=(z:Value).ownBlock)) k_) (.slice (some ⟨d,0,none⟩) c.length Z) c from(by(with_reducible repeat(first|apply Kd.S_alloc|apply Kd.S_drewN|apply Kd.S_drew));exact Kd.S_mono b.out (fun k_ hk=>⟨trivial,fun e_=>hk e_⟩)));obtain⟨bp,b5,aR,ao,D,E,ap,aq⟩:=Kd.S_elem a8.out jC (a:Int) (of_decide_eq_true (by first|(with_reducible assumption)|assumption)) (by have h_:(a:Int)<((c.length:Int):Int):=of_decide_eq_true (by first|(with_reducible assumption)|assumption);first|exact h_|(have e_:=(Kd.S_reads' b.out).1;omega)|simpa using h_);obtain⟨bh,rfl,bj⟩:=mD ao;have L:=Kd.S_seg aq (of_decide_eq_true (by first|(with_reducible assumption)|assumption)) (by have h_:(a:Int)<((c.length:Int):Int):=of_decide_eq_true (by first|(with_reducible assumption)|assumption);first|exact h_|(have e_:=(Kd.S_reads' b.out).1;omega)|simpa using h_) (seg:= [.int .i64 g,z]) (j:=0) (show 2≤2 from by decide) (x' :=(⟨g,o⟩:S126)) (oO _ _ _ (⟨g,o⟩:S126) (Kd.R_mono (Kd.R_tight rfl (Kd.R_mono (ok' :=fun k_=>((fun _=>True)) k_∧k_≠d) (Kd.R_apart' (m.out) (Kd.S_typed b.out) (by decide)) (fun k_ hk=>⟨trivial,fun e_=>(hk.2) (by rw[e_];rfl)⟩))) (fun _ h_=>Or.inr (h_)))) (fun _ hk=>hk) (fun k_ hk_=>((Kd.R_mono (ok' :=fun k_=>((fun _=>True)) k_∧k_≠d) (Kd.R_apart' (m.out) (Kd.S_typed b.out) (by decide)) (fun k_ hk=>⟨trivial,fun e_=>(hk.2) (by rw[e_];rfl)⟩))).1 k_ hk_.symm);have ar:=D 0 _ rfl;(try simp only[show(eB).sz=2 from rfl,Nat.mul_one,Nat.add_zero]at ar);have aw:=E 0;(try simp only[show(eB).sz=2 from rfl,Nat.mul_one,Nat.add_zero]at aw);have aB:=D 1 _ rfl;(try simp only[show(eB).sz=2 from rfl,Nat.mul_one,Nat.add_zero]at aB);have aE:=E 1;(try simp only[show(eB).sz=2 from rfl,Nat.mul_one,Nat.add_zero]at aE);clear aR D E ao ap aq)|((with_reducible refine iw (t:=126) (p:=21) rfl ?_);refine gT (t:=126) (p:=21) (v:= ?vo_w13) (w1:=((q.setCell ⟨d,(a:Int).toNat * 2,none⟩ (.int .i64 g)).setCell ⟨d,(a:Int).toNat * 2+1,none⟩ (z))) ?hg ?ho ?hn ?hr ?_;(case ho=>rfl);(case hg=>rfl);(case hn=>rfl);(case hr=>first|(go_simp;done)|(go_simp;rfl)|(obtain⟨_,_,rfl⟩:=Kd.R_slice m.out;first|(go_simp;done)|(go_simp;rfl)));intro aF hw;have hg:q.grownBy aF (some d):=(by rw[hw];exact L.2);have hp_:Kd.S eB 126 aF w.heap.size (fun _=>True) (.slice (some ⟨d,0,none⟩) c.length Z) I:=(by rw[hw,aO.out];exact L.1);clear L;have a2:=Aside0.mk (hp_);have a3:=Aside0.mk ((by rw[hw];exact aZ (aZ (HB.out) al.out) al.out:Below w.heap.size w aF));clear b;clear HB;clear m;have b:=a2;have HB:=a3;clear a2 a3;clear hg hw hp_))
        go_roundg k1
        case measure=>have:=a0.out;omega
        case rel=>exact⟨(I),(wrap64 (a+1)),(by first|rfl|(simp;done)|(simp[*];done)),H',⟨by have:=a0.out;omega⟩,⟨by(with_reducible repeat(first|apply Kd.S_alloc|apply Kd.S_drewN|apply Kd.S_drew));exact b.out⟩,⟨bl⟩⟩
       rw[if_neg c9]at H
       exact absurd H (by simp)
      rw[if_neg c7]at H
      exact absurd H (by simp)
     rw[if_neg c6]at H
     have a5:decide (a<(l0.length:Int))=false:=decide_eq_false c6
     clear c6
     obtain rfl:=Option.some.inj H;clear H
     go_wp2
     go_ret
     exact⟨_,by first|rfl|(simp[aW,aX]<;>rfl)|(simp[*,aW,aX]<;>rfl),by(with_reducible repeat(first|apply Kd.S_alloc|apply Kd.S_drewN|apply Kd.S_drew));exact b.out,bl⟩
  rw[if_neg c3]at H
  exact absurd H (by simp)
 rw[if_neg c2]at H
 exact absurd H (by simp)
set_option maxHeartbeats 8000000 in
set_option maxRecDepth 100000 in
theorem jB.calls (d:Int) (g:Int) (i:Int) (r1:Int) (r2:Int) (r3:Int) (w:World) (h:jB.f d g i=some (r1,r2,r3)):
  Calls Tryz.prog 168 #[.agg #[.int .i64 d, .int .i64 g, .int .i64 i]] w fun e w' =>e= .returned (.agg #[.int .i64 r1, .int .i64 r2, .int .i64 r3])∧Below w.heap.size w w' :=by
 have q:=Tryz.underlying217
 have r:=Tryz.underlying113
 have HB:=Aside0.mk (Below.refl w.heap.size w)
 have H:(some (d,g,i))=some (r1,r2,r3):=h
 clear h
 simp only[Option.some.injEq,Prod.mk.injEq]at H
 obtain⟨rfl,rfl,rfl⟩:=H
 go_enter Tryz.func168,Tryz.ntmps168
 go_wp2_with (first|((with_reducible refine gd 1 rfl ?_);refine bx 1 #[.int .i64 d, .int .i64 g, .int .i64 i] 217 ?_;intro s hg w2 hbox hb;have a:=Aside0.mk hbox;have t:=hz HB hg;replace HB:=hs HB hb;clear hb hbox hg)|((with_reducible refine gd 2 rfl ?_);refine bx 2 #[.int .i64 0, .int .i64 0, .int .i64 0] 113 ?_;intro o hg w3 hbox hb;have c:=Aside0.mk hbox;have u:=hz HB hg;have j:=nl a hg;have k:=ng a hg;replace a:=kb a hb;replace HB:=hs HB hb;clear hb hbox hg)|((with_reducible refine gd 3 rfl ?_);refine bx 3 #[.int .i64 0, .int .i64 0, .int .i64 0] 113 ?_;intro v hg w4 hbox hb;have p:=Aside0.mk hbox;have x:=hz HB hg;have l:=nl a hg;have m:=ng a hg;have b:=nl c hg;have n:=ng c hg;replace a:=kb a hb;replace c:=kb c hb;replace HB:=hs HB hb;clear hb hbox hg;have y:=j.out;have z:=k.out;have A:=l.out;have B:=m.out;have:=cf3 a;have D:=n.out;have E:=b.out;have:=cf3 p;have:=cf3 c))
 refine bodyPost_ret (results_cell_row rfl _ _ o 113 #[.int .i64 d, .int .i64 g, .int .i64 i] (0,0) _ rfl (by(with_reducible repeat(first|refine aC ?_ _|refine au ?_|refine aA ?_ _));refine dC (cs:= #[.int .i64 d, .int .i64 g, .int .i64 0]) ?_ 2 _ rfl;(with_reducible repeat(first|refine aC ?_ _|refine au ?_|refine aA ?_ _));refine dC (cs:= #[.int .i64 d, .int .i64 0, .int .i64 0]) ?_ 1 _ rfl;(with_reducible repeat(first|refine aC ?_ _|refine au ?_|refine aA ?_ _));refine dC (cs:= #[.int .i64 0, .int .i64 0, .int .i64 0]) ?_ 0 _ rfl;(with_reducible repeat(first|refine aC ?_ _|refine au ?_|refine aA ?_ _));refine fH ?_ b.out _;(with_reducible repeat(first|refine aC ?_ _|refine au ?_|refine aA ?_ _));refine fH ?_ b.out _;(with_reducible repeat(first|refine aC ?_ _|refine au ?_|refine aA ?_ _));refine fH ?_ b.out _;(with_reducible repeat(first|refine aC ?_ _|refine au ?_|refine aA ?_ _));exact c.out) Tryz.underlying113 rfl (by kernel_rfl)) rfl ?_
 exact fin
set_option maxHeartbeats 8000000 in
set_option maxRecDepth 100000 in
theorem dV.calls (k:Nat) (A0:Option Addr) (c0:Nat) (l0:List (S217)) (r:List (S113)) (w:World) (hr0:Kd.C kJ w A0 l0.length l0) (hc0:l0.length≤c0) (h:dV.f k l0=some r):
  Calls Tryz.prog 142 #[.slice A0 l0.length c0] w fun e w' => ∃aE:Value,e= .returned (aE)∧Kd.R fG 113 w' w.heap.size (fun _=>True) aE r∧Below w.heap.size w w' :=by
 have a6:=Tryz.underlying217
 have a7:=Tryz.underlying113
 have aS:=Aside0.mk hr0
 have bo:=Aside0.mk hc0
 clear hr0 hc0
 have HB:=Aside0.mk (Below.refl w.heap.size w)
 have H:(if 0≤(l0.length:Int)then(if((l0.length:Int):Int).toNat≤11728124029610 then(dV.l0 k l0 (List.replicate ((l0.length:Int):Int).toNat iU) 0)else(none))else(none))=some r:=h
 clear h
 by_cases c2:0≤(l0.length:Int)
 ·rw [if_pos c2]at H
  have a9:=eq_true c2
  have ba:decide (0≤(l0.length:Int))=true:=decide_eq_true c2
  clear c2
  by_cases c3:((l0.length:Int):Int).toNat≤11728124029610
  ·rw [if_pos c3]at H
   have bb:=eq_true c3
   have bc:decide (((l0.length:Int):Int).toNat≤11728124029610)=true:=decide_eq_true c3
   clear c3
   obtain⟨O,m⟩: ∃y_:List (S113),y_=(List.replicate ((l0.length:Int):Int).toNat iU):=⟨_,rfl⟩
   replace H:(dV.l0 k l0 O 0)=some r:=by first|(rw[m];with_reducible exact H)|(have y:=(Option.bind_some _ _).symm.trans H;rw[m];with_reducible exact y)|(have y:=(Option.bind_some _ _).symm.trans H;with_reducible exact y)|with_reducible exact H|(rw[m];exact H)|exact H
   have L:=Aside0.mk m
   clear m
   have H' :=Aside0.mk H
   clear H
   go_enter Tryz.func142,Tryz.ntmps142
   go_wp2_with (first|((with_reducible refine gd 7 rfl ?_);refine Kd.R_make fG _ 113 rfl (N:=7) rfl 100 _ _ rfl (l0.length:Int) rfl rfl Tryz.underlying100 (.agg #[(.int .i64 0),(.int .i64 0),(.int .i64 0)]) 24 uH rfl (by decide) (by omega) iU (ok:=fun _=>True) (okp:=fun _=>True) (oP _ _ _ iU) (fun _ hk=>hk) trivial (of_decide_eq_true (by first|(with_reducible assumption)|assumption)) (Nat.le_trans (Nat.mul_le_mul_right _ (of_decide_eq_true (by first|(with_reducible assumption)|assumption):(l0.length:Int).toNat≤11728124029610)) (by omega)) (Below.refl _ _) (Nat.le_refl _) ?_;intro aO w4 D hb hg_ hnew_;clear hg_ hnew_;(first|rw[←L.out]at D|(simp only[Int.reduceToNat]at D;rw[←L.out]at D));have ar:=Aside0.mk (Kd.R_lower D (aM bl));replace HB:=hs HB hb;clear hb D))
   go_loopg [4] k (fun kq v4 w' => ∃(b:List (S113)) (a:Int),v4= .int .i64 a∧Aside0 (dV.l0 kq l0 b a=some r)∧Aside0 (kq≤k)∧Aside0 (Kd.R fG 113 w' w.heap.size (fun _=>True) aO b)∧Aside0 (Below w.heap.size w w'))
   case atStart=>exact⟨(O),(0),(by first|rfl|(simp;done)|(simp[*];done)),H',⟨Nat.le_refl _⟩,⟨by(with_reducible repeat(first|apply Kd.R_alloc|apply Kd.R_drewN|apply Kd.R_drew));exact ar.out⟩,⟨bl⟩⟩
   case round=>
    clear H'
    obtain⟨b,a,rfl,HA,aF,d,HB⟩:=hrel
    cases gk with
    |zero=>exact absurd HA.out (by simp[dV.l0])
    | succ k1=>
     have H:=HA.out
     clear HA
     simp only[dV.l0]at H
     by_cases c6:a<(l0.length:Int)
     ·rw[if_pos c6]at H
      have aP:decide (a<(l0.length:Int))=true:=decide_eq_true c6
      clear c6
      by_cases c7:0≤a
      ·rw[if_pos c7]at H
       have bd:decide (0≤a)=true:=decide_eq_true c7
       clear c7
       replace H:=Option.bind_eq_some_iff.mp H
       obtain⟨⟨g,i,l⟩,aL,H⟩:=H
       replace H:(if a<(b.length:Int)then(dV.l0 k1 l0 (b.set (a:Int).toNat (⟨g,i,l⟩:S113)) (wrap64 (a+1)))else(none))=some r:=H
       have A8:=Aside0.mk aL
       clear aL
       by_cases c9:a<(b.length:Int)
       ·rw[if_pos c9]at H
        have be:decide (a<(b.length:Int))=true:=decide_eq_true c9
        clear c9
        obtain⟨E,n⟩: ∃y_:List (S113),y_=(b.set (a:Int).toNat (⟨g,i,l⟩:S113)):=⟨_,rfl⟩
        replace H:(dV.l0 k1 l0 E (wrap64 (a+1)))=some r:=by first|(rw[n];with_reducible exact H)|(have y:=(Option.bind_some _ _).symm.trans H;rw[n];with_reducible exact y)|(have y:=(Option.bind_some _ _).symm.trans H;with_reducible exact y)|with_reducible exact H|(rw[n];exact H)|exact H
        have aw:=Aside0.mk n
        clear n
        have H' :=Aside0.mk H
        clear H
        have G:0≤(a:Int):=od
        have I:a<(l0.length:Int):=od
        obtain⟨a8,e289,z,A,B⟩:=uK aS.out a G I
        cases e289
        obtain⟨z,A,B⟩:=hc3 HB z A B
        replace G:=eq_true G
        replace I:=eq_true I
        go_wp2_with (first|(refine gl (some 20) Tryz.func168 #[.agg #[.int .i64 ((iA l0 a).f0), .int .i64 ((iA l0 a).f1), .int .i64 ((iA l0 a).f2)]] rfl ?_;(with_reducible refine(jB.calls ((iA l0 a).f0) ((iA l0 a).f1) ((iA l0 a).f2) g i l _ A8.out).mono ?_);rintro e o ⟨rfl,hb⟩;refine⟨_,rfl, ?_⟩;replace d:=Aside0.mk (Kd.R_below (by(with_reducible repeat(first|apply Kd.R_alloc|apply Kd.R_drewN|apply Kd.R_drew));exact d.out) hb);replace HB:=hs HB hb;have P:0≤(a:Int):=od;have T:(a:Int)<((b.length:Int):Int):=od;obtain⟨c,U,W,X,aR,bh,Y⟩:=Kd.R_form d.out (by omega);(first|cases W|(injection W with ea_ en_ ec_;(first|subst ea_|(injection ea_ with ea_;subst ea_));subst ec_;clear en_));have J:=Aside0.mk X;have bj:=Aside0.mk Y;clear X aR Y;obtain⟨bk,aB,Z,s,u⟩:=Kd.R_elem d.out iU (a:Int) P T;obtain rfl:=mE Z;have a0:o.cell? ⟨c,(a:Int).toNat * 3,none⟩=some (.int .i64 ((aQ b a).f0)):=s 0 _ rfl;have a1:o.cell? ⟨c,(a:Int).toNat * 3+1,none⟩=some (.int .i64 ((aQ b a).f1)):=s 1 _ rfl;have a2:o.cell? ⟨c,(a:Int).toNat * 3+2,none⟩=some (.int .i64 ((aQ b a).f2)):=s 2 _ rfl;have a3:o.frozen? ⟨c,(a:Int).toNat * 3,none⟩=false:=u 0;have a4:o.frozen? ⟨c,(a:Int).toNat * 3+1,none⟩=false:=u 1;have a5:o.frozen? ⟨c,(a:Int).toNat * 3+2,none⟩=false:=u 2;clear aB s u Z;replace P:=eq_true P;replace T:=eq_true T;have ab:=Aside0.mk (show Kd.R fG 113 o w.heap.size (fun _=>True) (.slice (some ⟨c,0,none⟩) b.length U) b from(by(with_reducible repeat(first|apply Kd.R_alloc|apply Kd.R_drewN|apply Kd.R_drew));exact d.out));obtain⟨bm,M,ac,q,x⟩:=Kd.R_elem ab.out iU (a:Int) (of_decide_eq_true (by first|(with_reducible assumption)|assumption)) (by have h_:(a:Int)<((b.length:Int):Int):=of_decide_eq_true (by first|(with_reducible assumption)|assumption);first|exact h_|(have e_:=(Kd.R_reads' d.out).1;omega)|simpa using h_);obtain rfl:=mE ac;have K:=Kd.R_seg ab.out (a:Int) (of_decide_eq_true (by first|(with_reducible assumption)|assumption)) (by have h_:(a:Int)<((b.length:Int):Int):=of_decide_eq_true (by first|(with_reducible assumption)|assumption);first|exact h_|(have e_:=(Kd.R_reads' d.out).1;omega)|simpa using h_) (seg:= [.int .i64 g, .int .i64 i, .int .i64 l]) (j:=0) M q (show 3≤3 from by decide) (x' :=(⟨g,i,l⟩:S113)) (oP _ _ _ (⟨g,i,l⟩:S113)) (fun _ hk=>hk);have ad:=q 0 _ rfl;(try simp only[show(fG).sz=3 from rfl,Nat.mul_one,Nat.add_zero]at ad);have al:=x 0;(try simp only[show(fG).sz=3 from rfl,Nat.mul_one,Nat.add_zero]at al);have am:=q 1 _ rfl;(try simp only[show(fG).sz=3 from rfl,Nat.mul_one,Nat.add_zero]at am);have an:=x 1;(try simp only[show(fG).sz=3 from rfl,Nat.mul_one,Nat.add_zero]at an);have ao:=q 2 _ rfl;(try simp only[show(fG).sz=3 from rfl,Nat.mul_one,Nat.add_zero]at ao);have ap:=x 2;(try simp only[show(fG).sz=3 from rfl,Nat.mul_one,Nat.add_zero]at ap);clear M q x ac)|((with_reducible refine iw (t:=113) (p:=21) rfl ?_);refine gT (t:=113) (p:=21) (v:= ?vo_w13) (w1:=(((o.setCell ⟨c,(a:Int).toNat * 3,none⟩ (.int .i64 g)).setCell ⟨c,(a:Int).toNat * 3+1,none⟩ (.int .i64 i)).setCell ⟨c,(a:Int).toNat * 3+2,none⟩ (.int .i64 l))) ?hg ?ho ?hn ?hr ?_;(case ho=>rfl);(case hg=>rfl);(case hn=>rfl);(case hr=>first|(go_simp;done)|(go_simp;rfl));intro aq hw;have hg:o.grownBy aq (some c):=(by rw[hw];exact K.2);have hp_:Kd.R fG 113 aq w.heap.size (fun _=>True) (.slice (some ⟨c,0,none⟩) b.length U) E:=(by rw[hw,aw.out];exact K.1);clear K;replace d:=Aside0.mk (hp_);replace HB:=Aside0.mk ((by rw[hw];exact aZ (aZ (aZ (HB.out) J.out) J.out) J.out:Below w.heap.size w aq));clear hg hw hp_))
        go_roundg k1
        case measure=>have:=aF.out;omega
        case rel=>exact⟨(E),(wrap64 (a+1)),(by first|rfl|(simp;done)|(simp[*];done)),H',⟨by have:=aF.out;omega⟩,⟨by(with_reducible repeat(first|apply Kd.R_alloc|apply Kd.R_drewN|apply Kd.R_drew));exact d.out⟩,⟨bl⟩⟩
       rw[if_neg c9]at H
       exact absurd H (by simp)
      rw[if_neg c7]at H
      exact absurd H (by simp)
     rw[if_neg c6]at H
     have aP:decide (a<(l0.length:Int))=false:=decide_eq_false c6
     clear c6
     obtain rfl:=Option.some.inj H;clear H
     go_wp2
     go_ret
     exact⟨_,by first|rfl|(simp[aW,aX]<;>rfl)|(simp[*,aW,aX]<;>rfl),by(with_reducible repeat(first|apply Kd.R_alloc|apply Kd.R_drewN|apply Kd.R_drew));exact d.out,bl⟩
  rw[if_neg c3]at H
  exact absurd H (by simp)
 rw[if_neg c2]at H
 exact absurd H (by simp)
set_option maxHeartbeats 8000000 in
set_option maxRecDepth 100000 in
theorem iQ.calls (k:Nat) (d:Bool) (v:Option Addr) (x:Nat) (i:List Int) (y:Option Addr) (z:Nat) (j:List Int) (r1:Bool) (r2:List Int) (r3:List Int) (w:World) (I:Kd.C (Kd.int .i64) w v i.length i) (J:i.length≤x) (K:Kd.C (Kd.int .i64) w y j.length j) (L:j.length≤z) (h:iQ.f k d i j=some (r1,r2,r3)):
  Calls Tryz.prog 21 #[.agg #[.bool d, .slice v i.length x, .slice y j.length z]] w fun e w' => ∃O P:Value,e= .returned (.agg #[.bool r1,O,P])∧Kd.R (Kd.int .i64) 3 w' w.heap.size (fun k_=>some k_≠(P:Value).ownBlock) O r2∧Kd.R (Kd.int .i64) 3 w' w.heap.size (fun k_=>some k_≠(O:Value).ownBlock) P r3∧Below w.heap.size w w' :=by
 have ao:=Tryz.underlying55
 have ap:=Tryz.underlying57
 have T:=Aside0.mk I
 have U:=Aside0.mk J
 clear I J
 have W:=Aside0.mk K
 have X:=Aside0.mk L
 clear K L
 have HB:=Aside0.mk (Below.refl w.heap.size w)
 have H:((bY.f k i).bind fun g=>((bY.f k j).bind fun m=>(some (d,g,m))))=some (r1,r2,r3):=h
 clear h
 obtain⟨g,A2,H⟩:=ob H
 obtain⟨m,A3,H⟩:=ob H
 simp only[Option.some.injEq,Prod.mk.injEq]at H
 obtain⟨rfl,rfl,rfl⟩:=H
 go_enter Tryz.func21,Tryz.ntmps21
 go_wp2_with (first|((with_reducible refine gd 1 rfl ?_);refine bx 1 #[.bool d, .slice v i.length x, .slice y j.length z] 55 ?_;intro ab hg w4 hbox hb;have a:=Aside0.mk hbox;have ac:=hz HB hg;replace HB:=hs HB hb;clear hb hbox hg)|((with_reducible refine gd 2 rfl ?_);refine bx 2 #[.bool false, .slice none 0 0, .slice none 0 0] 57 ?_;intro l hg w5 hbox hb;have b:=Aside0.mk hbox;have ad:=hz HB hg;have A:=nl a hg;have B:=ng a hg;replace a:=kb a hb;replace HB:=hs HB hb;clear hb hbox hg)|((with_reducible refine gd 3 rfl ?_);refine bx 3 #[.bool false, .slice none 0 0, .slice none 0 0] 57 ?_;intro n hg w6 hbox hb;have c:=Aside0.mk hbox;have al:=hz HB hg;have D:=nl a hg;have E:=ng a hg;have s:=nl b hg;have G:=ng b hg;replace a:=kb a hb;replace b:=kb b hb;replace HB:=hs HB hb;clear hb hbox hg;have aq:=A.out;have ar:=B.out;have aw:=D.out;have aB:=E.out;have:=cf3 a;have am:=G.out;have an:=s.out;have:=cf3 c)|(refine gl (some 9) Tryz.func60 #[.slice v i.length x] rfl ?_;(with_reducible refine(bY.calls k _ _ i g _ (cb T.out) U.out A2.out).mono ?_);rintro e aL ⟨aE,rfl,ho0,hb⟩;refine⟨_,rfl, ?_⟩;have r:=Aside0.mk (Kd.R_lower ho0 (aM bl));replace a:=kq a hb;replace b:=kq b hb;replace c:=kp n #[.bool d, .slice none 0 0, .slice none 0 0] 57 hb;replace HB:=hs HB hb;obtain⟨o,q,Y⟩:=Kd.R_slice r.out;subst Y;have:=cf3 c;have:=cf3 a)|(refine gl (some 13) Tryz.func60 #[.slice y j.length z] rfl ?_;(with_reducible refine(bY.calls k _ _ j m _ (cb W.out) X.out A3.out).mono ?_);rintro e w16 ⟨aF,rfl,ho0,hb⟩;refine⟨_,rfl, ?_⟩;have M:=Aside0.mk (Kd.R_lower (Kd.R_new' ho0 (Kd.R_lt (by(with_reducible repeat(first|apply Kd.R_alloc|apply Kd.R_drewN|apply Kd.R_drew));exact(Kd.R_mono (Kd.R_far (p:=⟨n,1,none⟩) (Kd.R_types r.out c.out (by decide)) (fun _ hk=>hk.2) (.slice o g.length q)) (fun _ h_=>h_.1))))) (aM bl));replace r:=Aside0.mk (Kd.R_elder' (by(with_reducible repeat(first|apply Kd.R_alloc|apply Kd.R_drewN|apply Kd.R_drew));exact(Kd.R_mono (Kd.R_far (p:=⟨n,1,none⟩) (Kd.R_types r.out c.out (by decide)) (fun _ hk=>hk.2) (.slice o g.length q)) (fun _ h_=>h_.1))) (Kd.R_base ho0) hb);replace a:=kq a hb;replace b:=kq b hb;replace c:=kp n #[.bool d, .slice o g.length q, .slice none 0 0] 57 hb;replace HB:=hs HB hb;obtain⟨t,u,Z⟩:=Kd.R_slice M.out;subst Z;have:=cf3 c;have:=cf3 b))
 refine bodyPost_ret (results_cell_row rfl _ _ l 57 #[.bool d, .slice o g.length q, .slice t m.length u] (0,0) _ rfl (by(with_reducible repeat(first|refine aC ?_ _|refine au ?_|refine aA ?_ _));refine dC (cs:= #[.bool d, .slice o g.length q, .slice none 0 0]) ?_ 2 _ rfl;(with_reducible repeat(first|refine aC ?_ _|refine au ?_|refine aA ?_ _));refine dC (cs:= #[.bool d, .slice none 0 0, .slice none 0 0]) ?_ 1 _ rfl;(with_reducible repeat(first|refine aC ?_ _|refine au ?_|refine aA ?_ _));refine dC (cs:= #[.bool false, .slice none 0 0, .slice none 0 0]) ?_ 0 _ rfl;(with_reducible repeat(first|refine aC ?_ _|refine au ?_|refine aA ?_ _));refine fH ?_ s.out _;(with_reducible repeat(first|refine aC ?_ _|refine au ?_|refine aA ?_ _));exact b.out) Tryz.underlying57 rfl (by kernel_rfl)) rfl ?_
 exact⟨_,_,by first|rfl|(simp[aW,aX]<;>rfl)|(simp[*,aW,aX]<;>rfl),by(with_reducible repeat(first|apply Kd.R_alloc|apply Kd.R_drewN|apply Kd.R_drew));exact Kd.R_mono (Kd.R_far (p:=⟨l,2,none⟩) (Kd.R_far (p:=⟨l,1,none⟩) (Kd.R_far (p:=⟨l,0,none⟩) (Kd.R_far (p:=⟨n,2,none⟩) (Kd.R_types (Kd.R_types r.out c.out (by decide)) b.out (by decide)) (fun _ hk=>hk.1.2) (.slice t m.length u)) (fun _ hk=>hk.2) (.bool d)) (fun _ hk=>hk.2) (.slice o g.length q)) (fun _ hk=>hk.2) (.slice t m.length u)) (fun _ hk=>hk.1.1.2),by(with_reducible repeat(first|apply Kd.R_alloc|apply Kd.R_drewN|apply Kd.R_drew));exact Kd.R_mono (Kd.R_far (p:=⟨l,2,none⟩) (Kd.R_far (p:=⟨l,1,none⟩) (Kd.R_far (p:=⟨l,0,none⟩) (Kd.R_far (p:=⟨n,2,none⟩) (Kd.R_types (Kd.R_types M.out c.out (by decide)) b.out (by decide)) (fun _ hk=>hk.1.2) (.slice t m.length u)) (fun _ hk=>hk.2) (.bool d)) (fun _ hk=>hk.2) (.slice o g.length q)) (fun _ hk=>hk.2) (.slice t m.length u)) (fun _ hk=>hk.1.1.2),bl⟩
set_option maxHeartbeats 8000000 in
set_option maxRecDepth 100000 in
theorem dG.calls (k:Nat) (A0:Option Addr) (c0:Nat) (l0:List (S55)) (r:List (S57)) (w:World) (hr0:Kd.C k55 w A0 l0.length l0) (hc0:l0.length≤c0) (h:dG.f k l0=some r):
  Calls Tryz.prog 143 #[.slice A0 l0.length c0] w fun e w' => ∃bc:Value,e= .returned (bc)∧Kd.S k57 57 w' w.heap.size (fun _=>True) bc r∧Below w.heap.size w w' :=by
 have cc:=Tryz.underlying55
 have cd:=Tryz.underlying57
 have br:=Aside0.mk hr0
 have co:=Aside0.mk hc0
 clear hr0 hc0
 have HB:=Aside0.mk (Below.refl w.heap.size w)
 have H:(if 0≤(l0.length:Int)then(if((l0.length:Int):Int).toNat≤5026338869833 then(dG.l0 k l0 (List.replicate ((l0.length:Int):Int).toNat z57) 0)else(none))else(none))=some r:=h
 clear h
 by_cases c2:0≤(l0.length:Int)
 ·rw [if_pos c2]at H
  have ce:=eq_true c2
  have cf:decide (0≤(l0.length:Int))=true:=decide_eq_true c2
  clear c2
  by_cases c3:((l0.length:Int):Int).toNat≤5026338869833
  ·rw [if_pos c3]at H
   have cg:=eq_true c3
   have ch:decide (((l0.length:Int):Int).toNat≤5026338869833)=true:=decide_eq_true c3
   clear c3
   obtain⟨al,i⟩: ∃y_:List (S57),y_=(List.replicate ((l0.length:Int):Int).toNat z57):=⟨_,rfl⟩
   replace H:(dG.l0 k l0 al 0)=some r:=by first|(rw[i];with_reducible exact H)|(have y:=(Option.bind_some _ _).symm.trans H;rw[i];with_reducible exact y)|(have y:=(Option.bind_some _ _).symm.trans H;with_reducible exact y)|with_reducible exact H|(rw[i];exact H)|exact H
   have Y:=Aside0.mk i
   clear i
   have H' :=Aside0.mk H
   clear H
   go_enter Tryz.func143,Tryz.ntmps143
   go_wp2_with (first|((with_reducible refine gd 7 rfl ?_);refine Kd.S_make k57 _ 57 rfl (N:=7) rfl 101 _ _ rfl (l0.length:Int) rfl rfl Tryz.underlying101 (.agg #[(.bool false),(.slice none 0 0),(.slice none 0 0)]) 56 vB rfl (by decide) (by omega) z57 (ok:=fun _=>True) (okp:=fun _=>True) (qg _ _ _ z57 (Kd.R_nil _ _ _ _ _) (Kd.R_nil _ _ _ _ _)) (fun _ hk=>hk) trivial (of_decide_eq_true (by first|(with_reducible assumption)|assumption)) (Nat.le_trans (Nat.mul_le_mul_right _ (of_decide_eq_true (by first|(with_reducible assumption)|assumption):(l0.length:Int).toNat≤5026338869833)) (by omega)) (Below.refl _ _) (Nat.le_refl _) ?_;intro bk w4 O hb hg_ hnew_;clear hg_ hnew_;(first|rw[←Y.out]at O|(simp only[Int.reduceToNat]at O;rw[←Y.out]at O));have a8:=Aside0.mk (Kd.S_lower O (aM bl));replace HB:=hs HB hb;clear hb O))
   go_loopg [4] k (fun kq v4 w' => ∃(d:List (S57)) (a:Int),v4= .int .i64 a∧Aside0 (dG.l0 kq l0 d a=some r)∧Aside0 (kq≤k)∧Aside0 (Kd.S k57 57 w' w.heap.size (fun _=>True) bk d)∧Aside0 (Below w.heap.size w w'))
   case atStart=>exact⟨(al),(0),(by first|rfl|(simp;done)|(simp[*];done)),H',⟨Nat.le_refl _⟩,⟨by(with_reducible repeat(first|apply Kd.S_alloc|apply Kd.S_drewN|apply Kd.S_drew));exact a8.out⟩,⟨bl⟩⟩
   case round=>
    clear H'
    obtain⟨d,a,rfl,HA,bd,b,HB⟩:=hrel
    cases gk with
    |zero=>exact absurd HA.out (by simp[dG.l0])
    | succ k1=>
     have H:=HA.out
     clear HA
     simp only[dG.l0]at H
     by_cases c6:a<(l0.length:Int)
     ·rw[if_pos c6]at H
      have bm:decide (a<(l0.length:Int))=true:=decide_eq_true c6
      clear c6
      by_cases c7:0≤a
      ·rw[if_pos c7]at H
       have ci:decide (0≤a)=true:=decide_eq_true c7
       clear c7
       replace H:=Option.bind_eq_some_iff.mp H
       obtain⟨⟨g,z,A⟩,be,H⟩:=H
       replace H:(if a<(d.length:Int)then(dG.l0 k1 l0 (d.set (a:Int).toNat (⟨g,z,A⟩:S57)) (wrap64 (a+1)))else(none))=some r:=H
       have A8:=Aside0.mk be
       clear be
       by_cases c9:a<(d.length:Int)
       ·rw[if_pos c9]at H
        have cj:decide (a<(d.length:Int))=true:=decide_eq_true c9
        clear c9
        obtain⟨P,l⟩: ∃y_:List (S57),y_=(d.set (a:Int).toNat (⟨g,z,A⟩:S57)):=⟨_,rfl⟩
        replace H:(dG.l0 k1 l0 P (wrap64 (a+1)))=some r:=by first|(rw[l];with_reducible exact H)|(have y:=(Option.bind_some _ _).symm.trans H;rw[l];with_reducible exact y)|(have y:=(Option.bind_some _ _).symm.trans H;with_reducible exact y)|with_reducible exact H|(rw[l];exact H)|exact H
        have a9:=Aside0.mk l
        clear l
        have H' :=Aside0.mk H
        clear H
        have T:0≤(a:Int):=od
        have U:a<(l0.length:Int):=od
        obtain⟨b9,am,an,ao,ap,e306,B,D,E,G,I,J,K⟩:=oN br.out a T U
        cases e306
        obtain⟨B,D,E⟩:=hc3 HB B D E
        have Z:=Aside0.mk I
        have ab:=Aside0.mk G
        clear I G
        have ac:=Aside0.mk K
        have ad:=Aside0.mk J
        clear K J
        replace T:=eq_true T
        replace U:=eq_true U
        go_wp2_with (first|(refine gl (some 20) Tryz.func21 #[.agg #[.bool ((ek l0 a).f0), .slice am ((ek l0 a).f1).length an, .slice ao ((ek l0 a).f2).length ap]] rfl ?_;(with_reducible refine(iQ.calls k1 ((ek l0 a).f0) _ _ ((ek l0 a).f1) _ _ ((ek l0 a).f2) g z A _ (cb Z.out) ab.out (cb ac.out) ad.out A8.out).mono ?_);rintro e m ⟨L,M,rfl,ho0,ho1,hb⟩;refine⟨_,rfl, ?_⟩;have n:=Aside0.mk (Kd.R_lower ho0 (aM bl));have o:=Aside0.mk (Kd.R_lower ho1 (aM bl));replace b:=Aside0.mk (Kd.S_mono (Kd.S_told (Kd.S_told (Kd.S_old (by(with_reducible repeat(first|apply Kd.S_alloc|apply Kd.S_drewN|apply Kd.S_drew));exact b.out) hb) (Kd.R_base ho0)) (Kd.R_base ho1)) (fun _ h_=>h_.1));replace HB:=hs HB hb;(try clear ho1);have aq:0≤(a:Int):=od;have ar:(a:Int)<((d.length:Int):Int):=od;obtain⟨c,aw,aB,aE,bo,ck,aF⟩:=Kd.S_form b.out (by omega);(first|cases aB|(injection aB with ea_ en_ ec_;(first|subst ea_|(injection ea_ with ea_;subst ea_));subst ec_;clear en_));have W:=Aside0.mk aE;have cl:=Aside0.mk aF;clear aE bo aF;obtain⟨_,cm,ba,aL,q,s,_,_⟩:=Kd.S_elem b.out z57 (a:Int) aq ar;obtain⟨aO,aP,rfl,bs,bt⟩:=nL aL;have bw:m.cell? ⟨c,(a:Int).toNat * 3,none⟩=some (.bool ((bi d a).f0)):=q 0 _ rfl;have b0:m.cell? ⟨c,(a:Int).toNat * 3+1,none⟩=some (aO):=q 1 _ rfl;have b1:m.cell? ⟨c,(a:Int).toNat * 3+2,none⟩=some (aP):=q 2 _ rfl;have b2:m.frozen? ⟨c,(a:Int).toNat * 3,none⟩=false:=s 0;have b3:m.frozen? ⟨c,(a:Int).toNat * 3+1,none⟩=false:=s 1;have b4:m.frozen? ⟨c,(a:Int).toNat * 3+2,none⟩=false:=s 2;clear ba q s aL;replace aq:=eq_true aq;replace ar:=eq_true ar;have n_:=Aside0.mk (Kd.S_mono (ok' :=(fun k_=>some k_≠(L:Value).ownBlock∧some k_≠(M:Value).ownBlock)) b.out (fun k_ hk=>⟨hk.1.2,hk.2⟩));clear b;have b:=n_;clear n_;have bp:=Aside0.mk (show Kd.S k57 57 m w.heap.size (fun k_=>((fun _=>True)) k_∧¬((fun k_=>some k_=(L:Value).ownBlock∨some k_=(M:Value).ownBlock)) k_) (.slice (some ⟨c,0,none⟩) d.length aw) d from(by(with_reducible repeat(first|apply Kd.S_alloc|apply Kd.S_drewN|apply Kd.S_drew));exact Kd.S_mono b.out (fun k_ hk=>⟨trivial,fun e_=>e_.elim (fun h_=>hk.1 h_) (fun h_=>hk.2 h_)⟩)));obtain⟨ca,cn,bb,aR,u,x,aS,a0⟩:=Kd.S_elem bp.out z57 (a:Int) (of_decide_eq_true (by first|(with_reducible assumption)|assumption)) (by have h_:(a:Int)<((d.length:Int):Int):=of_decide_eq_true (by first|(with_reducible assumption)|assumption);first|exact h_|(have e_:=(Kd.S_reads' b.out).1;omega)|simpa using h_);obtain⟨b5,b6,rfl,b7,b8⟩:=nL aR;have X:=Kd.S_seg a0 (of_decide_eq_true (by first|(with_reducible assumption)|assumption)) (by have h_:(a:Int)<((d.length:Int):Int):=of_decide_eq_true (by first|(with_reducible assumption)|assumption);first|exact h_|(have e_:=(Kd.S_reads' b.out).1;omega)|simpa using h_) (seg:= [.bool g,L,M]) (j:=0) (show 3≤3 from by decide) (x' :=(⟨g,z,A⟩:S57)) (qg _ _ _ (⟨g,z,A⟩:S57) (Kd.R_mono (Kd.R_tight rfl (Kd.R_mono (ok' :=fun k_=>((fun _=>True)) k_∧k_≠c) (Kd.R_apart' (n.out) (Kd.S_typed b.out) (by decide)) (fun k_ hk=>⟨trivial,fun e_=>(hk.2) (by rw[e_];rfl)⟩))) (fun _ h_=>Or.inr (Or.inl h_))) (Kd.R_mono (Kd.R_tight rfl (Kd.R_mono (ok' :=fun k_=>((fun _=>True)) k_∧k_≠c) (Kd.R_apart' (o.out) (Kd.S_typed b.out) (by decide)) (fun k_ hk=>⟨trivial,fun e_=>(hk.2) (by rw[e_];rfl)⟩))) (fun _ h_=>Or.inr (Or.inr (h_))))) (fun _ hk=>hk) (fun k_ hk_=>hk_.elim (fun h_=>((Kd.R_mono (ok' :=fun k_=>((fun _=>True)) k_∧k_≠c) (Kd.R_apart' (n.out) (Kd.S_typed b.out) (by decide)) (fun k_ hk=>⟨trivial,fun e_=>(hk.2) (by rw[e_];rfl)⟩))).1 k_ h_.symm) (fun h_=>((Kd.R_mono (ok' :=fun k_=>((fun _=>True)) k_∧k_≠c) (Kd.R_apart' (o.out) (Kd.S_typed b.out) (by decide)) (fun k_ hk=>⟨trivial,fun e_=>(hk.2) (by rw[e_];rfl)⟩))).1 k_ h_.symm));have a1:=u 0 _ rfl;(try simp only[show(k57).sz=3 from rfl,Nat.mul_one,Nat.add_zero]at a1);have a2:=x 0;(try simp only[show(k57).sz=3 from rfl,Nat.mul_one,Nat.add_zero]at a2);have a3:=u 1 _ rfl;(try simp only[show(k57).sz=3 from rfl,Nat.mul_one,Nat.add_zero]at a3);have a4:=x 1;(try simp only[show(k57).sz=3 from rfl,Nat.mul_one,Nat.add_zero]at a4);have a5:=u 2 _ rfl;(try simp only[show(k57).sz=3 from rfl,Nat.mul_one,Nat.add_zero]at a5);have a6:=x 2;(try simp only[show(k57).sz=3 from rfl,Nat.mul_one,Nat.add_zero]at a6);clear bb u x aR aS a0)|((with_reducible refine iw (t:=57) (p:=21) rfl ?_);refine gT (t:=57) (p:=21) (v:= ?vo_w13) (w1:=(((m.setCell ⟨c,(a:Int).toNat * 3,none⟩ (.bool g)).setCell ⟨c,(a:Int).toNat * 3+1,none⟩ (L)).setCell ⟨c,(a:Int).toNat * 3+2,none⟩ (M))) ?hg ?ho ?hn ?hr ?_;(case ho=>rfl);(case hg=>rfl);(case hn=>rfl);(case hr=>first|(go_simp;done)|(go_simp;rfl)|(obtain⟨_,_,rfl⟩:=Kd.R_slice n.out;obtain⟨_,_,rfl⟩:=Kd.R_slice o.out;first|(go_simp;done)|(go_simp;rfl)));intro a7 hw;have hg:m.grownBy a7 (some c):=(by rw[hw];exact X.2);have hp_:Kd.S k57 57 a7 w.heap.size (fun _=>True) (.slice (some ⟨c,0,none⟩) d.length aw) P:=(by rw[hw,a9.out];exact X.1);clear X;have bh:=Aside0.mk (hp_);have bj:=Aside0.mk ((by rw[hw];exact aZ (aZ (aZ (HB.out) W.out) W.out) W.out:Below w.heap.size w a7));clear b;clear HB;clear n;clear o;have b:=bh;have HB:=bj;clear bh bj;clear hg hw hp_))
        go_roundg k1
        case measure=>have:=bd.out;omega
        case rel=>exact⟨(P),(wrap64 (a+1)),(by first|rfl|(simp;done)|(simp[*];done)),H',⟨by have:=bd.out;omega⟩,⟨by(with_reducible repeat(first|apply Kd.S_alloc|apply Kd.S_drewN|apply Kd.S_drew));exact b.out⟩,⟨bl⟩⟩
       rw[if_neg c9]at H
       exact absurd H (by simp)
      rw[if_neg c7]at H
      exact absurd H (by simp)
     rw[if_neg c6]at H
     have bm:decide (a<(l0.length:Int))=false:=decide_eq_false c6
     clear c6
     obtain rfl:=Option.some.inj H;clear H
     go_wp2
     go_ret
     exact⟨_,by first|rfl|(simp[aW,aX]<;>rfl)|(simp[*,aW,aX]<;>rfl),by(with_reducible repeat(first|apply Kd.S_alloc|apply Kd.S_drewN|apply Kd.S_drew));exact b.out,bl⟩
  rw[if_neg c3]at H
  exact absurd H (by simp)
 rw[if_neg c2]at H
 exact absurd H (by simp)
set_option maxHeartbeats 8000000 in
set_option maxRecDepth 100000 in
theorem jf.calls (c:Int) (g:Int) (i:Int) (j:Int) (r1:Int) (r2:Int) (r3:Int) (r4:Int) (w:World) (h:jf.f c g i j=some (r1,r2,r3,r4)):
  Calls Tryz.prog 169 #[.agg #[.int .i64 c, .int .i64 g, .int .i64 i, .int .i64 j]] w fun e w' =>e= .returned (.agg #[.int .i64 r1, .int .i64 r2, .int .i64 r3, .int .i64 r4])∧Below w.heap.size w w' :=by
 have r:=Tryz.underlying219
 have s:=Tryz.underlying181
 have HB:=Aside0.mk (Below.refl w.heap.size w)
 have H:(some (c,g,i,j))=some (r1,r2,r3,r4):=h
 clear h
 simp only[Option.some.injEq,Prod.mk.injEq]at H
 obtain⟨rfl,rfl,rfl,rfl⟩:=H
 go_enter Tryz.func169,Tryz.ntmps169
 go_wp2_with (first|((with_reducible refine gd 1 rfl ?_);refine bx 1 #[.int .i64 c, .int .i64 g, .int .i64 i, .int .i64 j] 219 ?_;intro t hg w2 hbox hb;have b:=Aside0.mk hbox;have u:=hz HB hg;replace HB:=hs HB hb;clear hb hbox hg)|((with_reducible refine gd 2 rfl ?_);refine bx 2 #[.int .i64 0, .int .i64 0, .int .i64 0, .int .i64 0] 181 ?_;intro p hg w3 hbox hb;have d:=Aside0.mk hbox;have v:=hz HB hg;have k:=nl b hg;have l:=ng b hg;replace b:=kb b hb;replace HB:=hs HB hb;clear hb hbox hg)|((with_reducible refine gd 3 rfl ?_);refine bx 3 #[.int .i64 0, .int .i64 0, .int .i64 0, .int .i64 0] 181 ?_;intro x hg w4 hbox hb;have q:=Aside0.mk hbox;have y:=hz HB hg;have m:=nl b hg;have n:=ng b hg;have a:=nl d hg;have o:=ng d hg;replace b:=kb b hb;replace d:=kb d hb;replace HB:=hs HB hb;clear hb hbox hg;have z:=k.out;have A:=l.out;have B:=m.out;have D:=n.out;have:=cf4 b;have E:=o.out;have G:=a.out;have:=cf4 q;have:=cf4 d))
 refine bodyPost_ret (results_cell_row rfl _ _ p 181 #[.int .i64 c, .int .i64 g, .int .i64 i, .int .i64 j] (0,0) _ rfl (by(with_reducible repeat(first|refine aC ?_ _|refine au ?_|refine aA ?_ _));refine dC (cs:= #[.int .i64 c, .int .i64 g, .int .i64 i, .int .i64 0]) ?_ 3 _ rfl;(with_reducible repeat(first|refine aC ?_ _|refine au ?_|refine aA ?_ _));refine dC (cs:= #[.int .i64 c, .int .i64 g, .int .i64 0, .int .i64 0]) ?_ 2 _ rfl;(with_reducible repeat(first|refine aC ?_ _|refine au ?_|refine aA ?_ _));refine dC (cs:= #[.int .i64 c, .int .i64 0, .int .i64 0, .int .i64 0]) ?_ 1 _ rfl;(with_reducible repeat(first|refine aC ?_ _|refine au ?_|refine aA ?_ _));refine dC (cs:= #[.int .i64 0, .int .i64 0, .int .i64 0, .int .i64 0]) ?_ 0 _ rfl;(with_reducible repeat(first|refine aC ?_ _|refine au ?_|refine aA ?_ _));refine fH ?_ a.out _;(with_reducible repeat(first|refine aC ?_ _|refine au ?_|refine aA ?_ _));refine fH ?_ a.out _;(with_reducible repeat(first|refine aC ?_ _|refine au ?_|refine aA ?_ _));refine fH ?_ a.out _;(with_reducible repeat(first|refine aC ?_ _|refine au ?_|refine aA ?_ _));refine fH ?_ a.out _;(with_reducible repeat(first|refine aC ?_ _|refine au ?_|refine aA ?_ _));exact d.out) Tryz.underlying181 rfl (by kernel_rfl)) rfl ?_
 exact fin
set_option maxHeartbeats 8000000 in
set_option maxRecDepth 100000 in
theorem dH.calls (k:Nat) (A0:Option Addr) (c0:Nat) (l0:List (S219)) (r:List (S181)) (w:World) (hr0:Kd.C kK w A0 l0.length l0) (hc0:l0.length≤c0) (h:dH.f k l0=some r):
  Calls Tryz.prog 144 #[.slice A0 l0.length c0] w fun e w' => ∃aP:Value,e= .returned (aP)∧Kd.R fD 181 w' w.heap.size (fun _=>True) aP r∧Below w.heap.size w w' :=by
 have bc:=Tryz.underlying219
 have bd:=Tryz.underlying181
 have a3:=Aside0.mk hr0
 have b0:=Aside0.mk hc0
 clear hr0 hc0
 have HB:=Aside0.mk (Below.refl w.heap.size w)
 have H:(if 0≤(l0.length:Int)then(if((l0.length:Int):Int).toNat≤8796093022208 then(dH.l0 k l0 (List.replicate ((l0.length:Int):Int).toNat ig) 0)else(none))else(none))=some r:=h
 clear h
 by_cases c2:0≤(l0.length:Int)
 ·rw [if_pos c2]at H
  have bh:=eq_true c2
  have bj:decide (0≤(l0.length:Int))=true:=decide_eq_true c2
  clear c2
  by_cases c3:((l0.length:Int):Int).toNat≤8796093022208
  ·rw [if_pos c3]at H
   have bk:=eq_true c3
   have bm:decide (((l0.length:Int):Int).toNat≤8796093022208)=true:=decide_eq_true c3
   clear c3
   obtain⟨T,q⟩: ∃y_:List (S181),y_=(List.replicate ((l0.length:Int):Int).toNat ig):=⟨_,rfl⟩
   replace H:(dH.l0 k l0 T 0)=some r:=by first|(rw[q];with_reducible exact H)|(have z:=(Option.bind_some _ _).symm.trans H;rw[q];with_reducible exact z)|(have z:=(Option.bind_some _ _).symm.trans H;with_reducible exact z)|with_reducible exact H|(rw[q];exact H)|exact H
   have O:=Aside0.mk q
   clear q
   have H' :=Aside0.mk H
   clear H
   go_enter Tryz.func144,Tryz.ntmps144
   go_wp2_with (first|((with_reducible refine gd 7 rfl ?_);refine Kd.R_make fD _ 181 rfl (N:=7) rfl 102 _ _ rfl (l0.length:Int) rfl rfl Tryz.underlying102 (.agg #[(.int .i64 0),(.int .i64 0),(.int .i64 0),(.int .i64 0)]) 32 uJ rfl (by decide) (by omega) ig (ok:=fun _=>True) (okp:=fun _=>True) (oQ _ _ _ ig) (fun _ hk=>hk) trivial (of_decide_eq_true (by first|(with_reducible assumption)|assumption)) (Nat.le_trans (Nat.mul_le_mul_right _ (of_decide_eq_true (by first|(with_reducible assumption)|assumption):(l0.length:Int).toNat≤8796093022208)) (by omega)) (Below.refl _ _) (Nat.le_refl _) ?_;intro a0 w4 I hb hg_ hnew_;clear hg_ hnew_;(first|rw[←O.out]at I|(simp only[Int.reduceToNat]at I;rw[←O.out]at I));have aF:=Aside0.mk (Kd.R_lower I (aM bl));replace HB:=hs HB hb;clear hb I))
   go_loopg [4] k (fun kq v4 w' => ∃(b:List (S181)) (a:Int),v4= .int .i64 a∧Aside0 (dH.l0 kq l0 b a=some r)∧Aside0 (kq≤k)∧Aside0 (Kd.R fD 181 w' w.heap.size (fun _=>True) a0 b)∧Aside0 (Below w.heap.size w w'))
   case atStart=>exact⟨(T),(0),(by first|rfl|(simp;done)|(simp[*];done)),H',⟨Nat.le_refl _⟩,⟨by(with_reducible repeat(first|apply Kd.R_alloc|apply Kd.R_drewN|apply Kd.R_drew));exact aF.out⟩,⟨bl⟩⟩
   case round=>
    clear H'
    obtain⟨b,a,rfl,HA,aR,d,HB⟩:=hrel
    cases gk with
    |zero=>exact absurd HA.out (by simp[dH.l0])
    | succ k1=>
     have H:=HA.out
     clear HA
     simp only[dH.l0]at H
     by_cases c6:a<(l0.length:Int)
     ·rw[if_pos c6]at H
      have a1:decide (a<(l0.length:Int))=true:=decide_eq_true c6
      clear c6
      by_cases c7:0≤a
      ·rw[if_pos c7]at H
       have bo:decide (0≤a)=true:=decide_eq_true c7
       clear c7
       replace H:=Option.bind_eq_some_iff.mp H
       obtain⟨⟨l,m,n,o⟩,aS,H⟩:=H
       replace H:(if a<(b.length:Int)then(dH.l0 k1 l0 (b.set (a:Int).toNat (⟨l,m,n,o⟩:S181)) (wrap64 (a+1)))else(none))=some r:=H
       have A8:=Aside0.mk aS
       clear aS
       by_cases c9:a<(b.length:Int)
       ·rw[if_pos c9]at H
        have bp:decide (a<(b.length:Int))=true:=decide_eq_true c9
        clear c9
        obtain⟨J,s⟩: ∃y_:List (S181),y_=(b.set (a:Int).toNat (⟨l,m,n,o⟩:S181)):=⟨_,rfl⟩
        replace H:(dH.l0 k1 l0 J (wrap64 (a+1)))=some r:=by first|(rw[s];with_reducible exact H)|(have z:=(Option.bind_some _ _).symm.trans H;rw[s];with_reducible exact z)|(have z:=(Option.bind_some _ _).symm.trans H;with_reducible exact z)|with_reducible exact H|(rw[s];exact H)|exact H
        have aL:=Aside0.mk s
        clear s
        have H' :=Aside0.mk H
        clear H
        have K:0≤(a:Int):=od
        have L:a<(l0.length:Int):=od
        obtain⟨be,e321,A,B,D,E⟩:=uL a3.out a K L
        cases e321
        obtain⟨A,B,D,E⟩:=hc4 HB A B D E
        replace K:=eq_true K
        replace L:=eq_true L
        go_wp2_with (first|(refine gl (some 20) Tryz.func169 #[.agg #[.int .i64 ((gy l0 a).f0), .int .i64 ((gy l0 a).f1), .int .i64 ((gy l0 a).f2), .int .i64 ((gy l0 a).f3)]] rfl ?_;(with_reducible refine(jf.calls ((gy l0 a).f0) ((gy l0 a).f1) ((gy l0 a).f2) ((gy l0 a).f3) l m n o _ A8.out).mono ?_);rintro e g ⟨rfl,hb⟩;refine⟨_,rfl, ?_⟩;replace d:=Aside0.mk (Kd.R_below (by(with_reducible repeat(first|apply Kd.R_alloc|apply Kd.R_drewN|apply Kd.R_drew));exact d.out) hb);replace HB:=hs HB hb;have U:0≤(a:Int):=od;have W:(a:Int)<((b.length:Int):Int):=od;obtain⟨c,X,Y,Z,a2,br,ab⟩:=Kd.R_form d.out (by omega);(first|cases Y|(injection Y with ea_ en_ ec_;(first|subst ea_|(injection ea_ with ea_;subst ea_));subst ec_;clear en_));have G:=Aside0.mk Z;have bs:=Aside0.mk ab;clear Z a2 ab;obtain⟨bt,aO,ac,u,x⟩:=Kd.R_elem d.out ig (a:Int) U W;obtain rfl:=mF ac;have a4:g.cell? ⟨c,(a:Int).toNat * 4,none⟩=some (.int .i64 ((aG b a).f0)):=u 0 _ rfl;have a5:g.cell? ⟨c,(a:Int).toNat * 4+1,none⟩=some (.int .i64 ((aG b a).f1)):=u 1 _ rfl;have a6:g.cell? ⟨c,(a:Int).toNat * 4+2,none⟩=some (.int .i64 ((aG b a).f2)):=u 2 _ rfl;have a7:g.cell? ⟨c,(a:Int).toNat * 4+3,none⟩=some (.int .i64 ((aG b a).f3)):=u 3 _ rfl;have a8:g.frozen? ⟨c,(a:Int).toNat * 4,none⟩=false:=x 0;have a9:g.frozen? ⟨c,(a:Int).toNat * 4+1,none⟩=false:=x 1;have ba:g.frozen? ⟨c,(a:Int).toNat * 4+2,none⟩=false:=x 2;have bb:g.frozen? ⟨c,(a:Int).toNat * 4+3,none⟩=false:=x 3;clear aO u x ac;replace U:=eq_true U;replace W:=eq_true W;have ad:=Aside0.mk (show Kd.R fD 181 g w.heap.size (fun _=>True) (.slice (some ⟨c,0,none⟩) b.length X) b from(by(with_reducible repeat(first|apply Kd.R_alloc|apply Kd.R_drewN|apply Kd.R_drew));exact d.out));obtain⟨bw,P,al,i,y⟩:=Kd.R_elem ad.out ig (a:Int) (of_decide_eq_true (by first|(with_reducible assumption)|assumption)) (by have h_:(a:Int)<((b.length:Int):Int):=of_decide_eq_true (by first|(with_reducible assumption)|assumption);first|exact h_|(have e_:=(Kd.R_reads' d.out).1;omega)|simpa using h_);obtain rfl:=mF al;have M:=Kd.R_seg ad.out (a:Int) (of_decide_eq_true (by first|(with_reducible assumption)|assumption)) (by have h_:(a:Int)<((b.length:Int):Int):=of_decide_eq_true (by first|(with_reducible assumption)|assumption);first|exact h_|(have e_:=(Kd.R_reads' d.out).1;omega)|simpa using h_) (seg:= [.int .i64 l, .int .i64 m, .int .i64 n, .int .i64 o]) (j:=0) P i (show 4≤4 from by decide) (x' :=(⟨l,m,n,o⟩:S181)) (oQ _ _ _ (⟨l,m,n,o⟩:S181)) (fun _ hk=>hk);have am:=i 0 _ rfl;(try simp only[show(fD).sz=4 from rfl,Nat.mul_one,Nat.add_zero]at am);have an:=y 0;(try simp only[show(fD).sz=4 from rfl,Nat.mul_one,Nat.add_zero]at an);have ao:=i 1 _ rfl;(try simp only[show(fD).sz=4 from rfl,Nat.mul_one,Nat.add_zero]at ao);have ap:=y 1;(try simp only[show(fD).sz=4 from rfl,Nat.mul_one,Nat.add_zero]at ap);have aq:=i 2 _ rfl;(try simp only[show(fD).sz=4 from rfl,Nat.mul_one,Nat.add_zero]at aq);have ar:=y 2;(try simp only[show(fD).sz=4 from rfl,Nat.mul_one,Nat.add_zero]at ar);have aw:=i 3 _ rfl;(try simp only[show(fD).sz=4 from rfl,Nat.mul_one,Nat.add_zero]at aw);have aB:=y 3;(try simp only[show(fD).sz=4 from rfl,Nat.mul_one,Nat.add_zero]at aB);clear P i y al)|((with_reducible refine iw (t:=181) (p:=21) rfl ?_);refine gT (t:=181) (p:=21) (v:= ?vo_w13) (w1:=((((g.setCell ⟨c,(a:Int).toNat * 4,none⟩ (.int .i64 l)).setCell ⟨c,(a:Int).toNat * 4+1,none⟩ (.int .i64 m)).setCell ⟨c,(a:Int).toNat * 4+2,none⟩ (.int .i64 n)).setCell ⟨c,(a:Int).toNat * 4+3,none⟩ (.int .i64 o))) ?hg ?ho ?hn ?hr ?_;(case ho=>rfl);(case hg=>rfl);(case hn=>rfl);(case hr=>first|(go_simp;done)|(go_simp;rfl));intro aE hw;have hg:g.grownBy aE (some c):=(by rw[hw];exact M.2);have hp_:Kd.R fD 181 aE w.heap.size (fun _=>True) (.slice (some ⟨c,0,none⟩) b.length X) J:=(by rw[hw,aL.out];exact M.1);clear M;replace d:=Aside0.mk (hp_);replace HB:=Aside0.mk ((by rw[hw];exact aZ (aZ (aZ (aZ (HB.out) G.out) G.out) G.out) G.out:Below w.heap.size w aE));clear hg hw hp_))
        go_roundg k1
        case measure=>have:=aR.out;omega
        case rel=>exact⟨(J),(wrap64 (a+1)),(by first|rfl|(simp;done)|(simp[*];done)),H',⟨by have:=aR.out;omega⟩,⟨by(with_reducible repeat(first|apply Kd.R_alloc|apply Kd.R_drewN|apply Kd.R_drew));exact d.out⟩,⟨bl⟩⟩
       rw[if_neg c9]at H
       exact absurd H (by simp)
      rw[if_neg c7]at H
      exact absurd H (by simp)
     rw[if_neg c6]at H
     have a1:decide (a<(l0.length:Int))=false:=decide_eq_false c6
     clear c6
     obtain rfl:=Option.some.inj H;clear H
     go_wp2
     go_ret
     exact⟨_,by first|rfl|(simp[aW,aX]<;>rfl)|(simp[*,aW,aX]<;>rfl),by(with_reducible repeat(first|apply Kd.R_alloc|apply Kd.R_drewN|apply Kd.R_drew));exact d.out,bl⟩
  rw[if_neg c3]at H
  exact absurd H (by simp)
 rw[if_neg c2]at H
 exact absurd H (by simp)
set_option maxHeartbeats 8000000 in
set_option maxRecDepth 100000 in
theorem iH.calls (k:Nat) (i:Int) (j:Int) (M:Option Addr) (O:Nat) (A:List Int) (l:Int) (n:Int) (P:Option Addr) (T:Nat) (B:List (S217)) (U:Option Addr) (W:Nat) (D:List (S55)) (X:Option Addr) (Y:Nat) (E:List (S219)) (r1:Int) (r2:Int) (r3:List Int) (r4:Int) (r5:Int) (r6:List (S113)) (r7:List (S57)) (r8:List (S181)) (w:World) (am:Kd.C (Kd.int .i64) w M A.length A) (an:A.length≤O) (ao:Kd.C kJ w P B.length B) (ap:B.length≤T) (aq:Kd.C k55 w U D.length D) (ar:D.length≤W) (aw:Kd.C kK w X E.length E) (aB:E.length≤Y) (h:iH.f k i j A l n B D E=some (r1,r2,r3,r4,r5,r6,r7,r8)):
  Calls Tryz.prog 77 #[.agg #[.int .i64 i, .int .i64 j, .slice M A.length O, .int .i64 l, .int .i64 n, .slice P B.length T, .slice U D.length W, .slice X E.length Y]] w fun e w' => ∃aF a3 a4 a5:Value,e= .returned (.agg #[.int .i64 r1, .int .i64 r2,aF, .int .i64 r4, .int .i64 r5,a3,a4,a5])∧Kd.R (Kd.int .i64) 3 w' w.heap.size (fun _=>True) aF r3∧Kd.R fG 113 w' w.heap.size (fun _=>True) a3 r6∧Kd.S k57 57 w' w.heap.size (fun k_=>some k_≠(aF:Value).ownBlock) a4 r7∧Kd.R fD 181 w' w.heap.size (fun _=>True) a5 r8∧Below w.heap.size w w' :=by
 have ba:=Tryz.underlying122
 have bb:=Tryz.underlying104
 have aL:=Aside0.mk am
 have aO:=Aside0.mk an
 clear am an
 have aP:=Aside0.mk ao
 have aR:=Aside0.mk ap
 clear ao ap
 have aS:=Aside0.mk aq
 have a0:=Aside0.mk ar
 clear aq ar
 have a1:=Aside0.mk aw
 have a2:=Aside0.mk aB
 clear aw aB
 have HB:=Aside0.mk (Below.refl w.heap.size w)
 have H:((bY.f k A).bind fun m=>((dV.f k B).bind fun o=>((dG.f k D).bind fun s=>((dH.f k E).bind fun t=>(some (i,j,m,l,n,o,s,t))))))=some (r1,r2,r3,r4,r5,r6,r7,r8):=h
 clear h
 obtain⟨m,A2,H⟩:=ob H
 obtain⟨o,A3,H⟩:=ob H
 obtain⟨s,A4,H⟩:=ob H
 obtain⟨t,A5,H⟩:=ob H
 simp only[Option.some.injEq,Prod.mk.injEq]at H
 obtain⟨rfl,rfl,rfl,rfl,rfl,rfl,rfl,rfl⟩:=H
 go_enter Tryz.func77,Tryz.ntmps77
 go_wp2_with (first|((with_reducible refine gd 1 rfl ?_);refine bx 1 #[.int .i64 i, .int .i64 j, .slice M A.length O, .int .i64 l, .int .i64 n, .slice P B.length T, .slice U D.length W, .slice X E.length Y] 122 ?_;intro bc hg w6 hbox hb;have b:=Aside0.mk hbox;have bd:=hz HB hg;replace HB:=hs HB hb;clear hb hbox hg)|((with_reducible refine gd 2 rfl ?_);refine bx 2 #[.int .i64 0, .int .i64 0, .slice none 0 0, .int .i64 0, .int .i64 0, .slice none 0 0, .slice none 0 0, .slice none 0 0] 104 ?_;intro a hg w7 hbox hb;have d:=Aside0.mk hbox;have be:=hz HB hg;have Z:=nl b hg;have ab:=ng b hg;replace b:=kb b hb;replace HB:=hs HB hb;clear hb hbox hg)|((with_reducible refine gd 3 rfl ?_);refine bx 3 #[.int .i64 0, .int .i64 0, .slice none 0 0, .int .i64 0, .int .i64 0, .slice none 0 0, .slice none 0 0, .slice none 0 0] 104 ?_;intro g hg w8 hbox hb;have c:=Aside0.mk hbox;have bh:=hz HB hg;have ac:=nl b hg;have ad:=ng b hg;have K:=nl d hg;have al:=ng d hg;replace b:=kb b hb;replace d:=kb d hb;replace HB:=hs HB hb;clear hb hbox hg;have bp:=Z.out;have br:=ab.out;have bj:=ac.out;have bk:=ad.out;have:=cf8 b;have bm:=al.out;have bo:=K.out;have:=cf8 c)|(refine gl (some 12) Tryz.func60 #[.slice M A.length O] rfl ?_;(with_reducible refine(bY.calls k _ _ A m _ (cb aL.out) aO.out A2.out).mono ?_);rintro e b1 ⟨bs,rfl,ho0,hb⟩;refine⟨_,rfl, ?_⟩;have x:=Aside0.mk (Kd.R_lower ho0 (aM bl));replace b:=kq b hb;replace d:=kq d hb;replace c:=kp g #[.int .i64 i, .int .i64 j, .slice none 0 0, .int .i64 0, .int .i64 0, .slice none 0 0, .slice none 0 0, .slice none 0 0] 104 hb;replace HB:=hs HB hb;obtain⟨q,r,a6⟩:=Kd.R_slice x.out;subst a6;have:=cf8 c;have:=cf8 b)|(refine gl (some 22) Tryz.func142 #[.slice P B.length T] rfl ?_;(with_reducible refine(dV.calls k _ _ B o _ (cb aP.out) aR.out A3.out).mono ?_);rintro e b2 ⟨bt,rfl,ho0,hb⟩;refine⟨_,rfl, ?_⟩;have J:=Aside0.mk (Kd.R_lower ho0 (aM bl));replace x:=Aside0.mk (Kd.R_below (by(with_reducible repeat(first|apply Kd.R_alloc|apply Kd.R_drewN|apply Kd.R_drew));exact(Kd.R_mono (Kd.R_far (p:=⟨g,4,none⟩) (Kd.R_far (p:=⟨g,3,none⟩) (Kd.R_far (p:=⟨g,2,none⟩) (Kd.R_types x.out c.out (by decide)) (fun _ hk=>hk.2) (.slice q m.length r)) (fun _ hk=>hk.2) (.int .i64 l)) (fun _ hk=>hk.2) (.int .i64 n)) (fun _ h_=>h_.1))) hb);replace b:=kq b hb;replace d:=kq d hb;replace c:=kp g #[.int .i64 i, .int .i64 j, .slice q m.length r, .int .i64 l, .int .i64 n, .slice none 0 0, .slice none 0 0, .slice none 0 0] 104 hb;replace HB:=hs HB hb;obtain⟨u,v,a7⟩:=Kd.R_slice J.out;subst a7;have:=cf8 c;have:=cf8 b)|(refine gl (some 26) Tryz.func143 #[.slice U D.length W] rfl ?_;(with_reducible refine(dG.calls k _ _ D s _ (cb aS.out) a0.out A4.out).mono ?_);rintro e b3 ⟨bw,rfl,ho0,hb⟩;refine⟨_,rfl, ?_⟩;have L:=Aside0.mk (Kd.S_lower (Kd.S_new' ho0 (Kd.R_lt (by(with_reducible repeat(first|apply Kd.R_alloc|apply Kd.R_drewN|apply Kd.R_drew));exact(Kd.R_mono (Kd.R_far (p:=⟨g,5,none⟩) (Kd.R_types x.out c.out (by decide)) (fun _ hk=>hk.2) (.slice u o.length v)) (fun _ h_=>h_.1))))) (aM bl));replace x:=Aside0.mk (Kd.R_below (by(with_reducible repeat(first|apply Kd.R_alloc|apply Kd.R_drewN|apply Kd.R_drew));exact(Kd.R_mono (Kd.R_far (p:=⟨g,5,none⟩) (Kd.R_types x.out c.out (by decide)) (fun _ hk=>hk.2) (.slice u o.length v)) (fun _ h_=>h_.1))) hb);replace J:=Aside0.mk (Kd.R_below (by(with_reducible repeat(first|apply Kd.R_alloc|apply Kd.R_drewN|apply Kd.R_drew));exact(Kd.R_mono (Kd.R_far (p:=⟨g,5,none⟩) (Kd.R_types J.out c.out (by decide)) (fun _ hk=>hk.2) (.slice u o.length v)) (fun _ h_=>h_.1))) hb);replace b:=kq b hb;replace d:=kq d hb;replace c:=kp g #[.int .i64 i, .int .i64 j, .slice q m.length r, .int .i64 l, .int .i64 n, .slice u o.length v, .slice none 0 0, .slice none 0 0] 104 hb;replace HB:=hs HB hb;obtain⟨y,z,a8⟩:=Kd.S_slice L.out;subst a8;have:=cf8 c;have:=cf8 b)|(refine gl (some 30) Tryz.func144 #[.slice X E.length Y] rfl ?_;(with_reducible refine(dH.calls k _ _ E t _ (cb a1.out) a2.out A5.out).mono ?_);rintro e b4 ⟨b0,rfl,ho0,hb⟩;refine⟨_,rfl, ?_⟩;have aE:=Aside0.mk (Kd.R_lower ho0 (aM bl));replace x:=Aside0.mk (Kd.R_below (by(with_reducible repeat(first|apply Kd.R_alloc|apply Kd.R_drewN|apply Kd.R_drew));exact(Kd.R_mono (Kd.R_far (p:=⟨g,6,none⟩) (Kd.R_types x.out c.out (by decide)) (fun _ hk=>hk.2) (.slice y s.length z)) (fun _ h_=>h_.1))) hb);replace J:=Aside0.mk (Kd.R_below (by(with_reducible repeat(first|apply Kd.R_alloc|apply Kd.R_drewN|apply Kd.R_drew));exact(Kd.R_mono (Kd.R_far (p:=⟨g,6,none⟩) (Kd.R_types J.out c.out (by decide)) (fun _ hk=>hk.2) (.slice y s.length z)) (fun _ h_=>h_.1))) hb);replace L:=Aside0.mk (Kd.S_below (by(with_reducible repeat(first|apply Kd.S_alloc|apply Kd.S_drewN|apply Kd.S_drew));exact(Kd.S_mono (Kd.S_far (p:=⟨g,6,none⟩) (Kd.S_types L.out c.out (by decide)) (fun _ hk=>hk.2) (.slice y s.length z)) (fun _ h_=>h_.1))) hb);replace b:=kq b hb;replace d:=kq d hb;replace c:=kp g #[.int .i64 i, .int .i64 j, .slice q m.length r, .int .i64 l, .int .i64 n, .slice u o.length v, .slice y s.length z, .slice none 0 0] 104 hb;replace HB:=hs HB hb;obtain⟨G,I,a9⟩:=Kd.R_slice aE.out;subst a9;have:=cf8 c;have:=cf8 d))
 refine bodyPost_ret (results_cell_row rfl _ _ a 104 #[.int .i64 i, .int .i64 j, .slice q m.length r, .int .i64 l, .int .i64 n, .slice u o.length v, .slice y s.length z, .slice G t.length I] (0,0) _ rfl (by(with_reducible repeat(first|refine aC ?_ _|refine au ?_|refine aA ?_ _));refine dC (cs:= #[.int .i64 i, .int .i64 j, .slice q m.length r, .int .i64 l, .int .i64 n, .slice u o.length v, .slice y s.length z, .slice none 0 0]) ?_ 7 _ rfl;(with_reducible repeat(first|refine aC ?_ _|refine au ?_|refine aA ?_ _));refine dC (cs:= #[.int .i64 i, .int .i64 j, .slice q m.length r, .int .i64 l, .int .i64 n, .slice u o.length v, .slice none 0 0, .slice none 0 0]) ?_ 6 _ rfl;(with_reducible repeat(first|refine aC ?_ _|refine au ?_|refine aA ?_ _));refine dC (cs:= #[.int .i64 i, .int .i64 j, .slice q m.length r, .int .i64 l, .int .i64 n, .slice none 0 0, .slice none 0 0, .slice none 0 0]) ?_ 5 _ rfl;(with_reducible repeat(first|refine aC ?_ _|refine au ?_|refine aA ?_ _));refine dC (cs:= #[.int .i64 i, .int .i64 j, .slice q m.length r, .int .i64 l, .int .i64 0, .slice none 0 0, .slice none 0 0, .slice none 0 0]) ?_ 4 _ rfl;(with_reducible repeat(first|refine aC ?_ _|refine au ?_|refine aA ?_ _));refine dC (cs:= #[.int .i64 i, .int .i64 j, .slice q m.length r, .int .i64 0, .int .i64 0, .slice none 0 0, .slice none 0 0, .slice none 0 0]) ?_ 3 _ rfl;(with_reducible repeat(first|refine aC ?_ _|refine au ?_|refine aA ?_ _));refine dC (cs:= #[.int .i64 i, .int .i64 j, .slice none 0 0, .int .i64 0, .int .i64 0, .slice none 0 0, .slice none 0 0, .slice none 0 0]) ?_ 2 _ rfl;(with_reducible repeat(first|refine aC ?_ _|refine au ?_|refine aA ?_ _));refine dC (cs:= #[.int .i64 i, .int .i64 0, .slice none 0 0, .int .i64 0, .int .i64 0, .slice none 0 0, .slice none 0 0, .slice none 0 0]) ?_ 1 _ rfl;(with_reducible repeat(first|refine aC ?_ _|refine au ?_|refine aA ?_ _));refine dC (cs:= #[.int .i64 0, .int .i64 0, .slice none 0 0, .int .i64 0, .int .i64 0, .slice none 0 0, .slice none 0 0, .slice none 0 0]) ?_ 0 _ rfl;(with_reducible repeat(first|refine aC ?_ _|refine au ?_|refine aA ?_ _));refine fH ?_ K.out _;(with_reducible repeat(first|refine aC ?_ _|refine au ?_|refine aA ?_ _));exact d.out) Tryz.underlying104 rfl (by kernel_rfl)) rfl ?_
 exact⟨_,_,_,_,by first|rfl|(simp[aW,aX]<;>rfl)|(simp[*,aW,aX]<;>rfl),by(with_reducible repeat(first|apply Kd.R_alloc|apply Kd.R_drewN|apply Kd.R_drew));exact Kd.R_mono (Kd.R_far (p:=⟨a,7,none⟩) (Kd.R_far (p:=⟨a,6,none⟩) (Kd.R_far (p:=⟨a,5,none⟩) (Kd.R_far (p:=⟨a,4,none⟩) (Kd.R_far (p:=⟨a,3,none⟩) (Kd.R_far (p:=⟨a,2,none⟩) (Kd.R_far (p:=⟨a,1,none⟩) (Kd.R_far (p:=⟨a,0,none⟩) (Kd.R_far (p:=⟨g,7,none⟩) (Kd.R_types (Kd.R_types x.out c.out (by decide)) d.out (by decide)) (fun _ hk=>hk.1.2) (.slice G t.length I)) (fun _ hk=>hk.2) (.int .i64 i)) (fun _ hk=>hk.2) (.int .i64 j)) (fun _ hk=>hk.2) (.slice q m.length r)) (fun _ hk=>hk.2) (.int .i64 l)) (fun _ hk=>hk.2) (.int .i64 n)) (fun _ hk=>hk.2) (.slice u o.length v)) (fun _ hk=>hk.2) (.slice y s.length z)) (fun _ hk=>hk.2) (.slice G t.length I)) (fun _ hk=>trivial),by(with_reducible repeat(first|apply Kd.R_alloc|apply Kd.R_drewN|apply Kd.R_drew));exact Kd.R_mono (Kd.R_far (p:=⟨a,7,none⟩) (Kd.R_far (p:=⟨a,6,none⟩) (Kd.R_far (p:=⟨a,5,none⟩) (Kd.R_far (p:=⟨a,4,none⟩) (Kd.R_far (p:=⟨a,3,none⟩) (Kd.R_far (p:=⟨a,2,none⟩) (Kd.R_far (p:=⟨a,1,none⟩) (Kd.R_far (p:=⟨a,0,none⟩) (Kd.R_far (p:=⟨g,7,none⟩) (Kd.R_types (Kd.R_types J.out c.out (by decide)) d.out (by decide)) (fun _ hk=>hk.1.2) (.slice G t.length I)) (fun _ hk=>hk.2) (.int .i64 i)) (fun _ hk=>hk.2) (.int .i64 j)) (fun _ hk=>hk.2) (.slice q m.length r)) (fun _ hk=>hk.2) (.int .i64 l)) (fun _ hk=>hk.2) (.int .i64 n)) (fun _ hk=>hk.2) (.slice u o.length v)) (fun _ hk=>hk.2) (.slice y s.length z)) (fun _ hk=>hk.2) (.slice G t.length I)) (fun _ hk=>trivial),by(with_reducible repeat(first|apply Kd.S_alloc|apply Kd.S_drewN|apply Kd.S_drew));exact Kd.S_mono (Kd.S_far (p:=⟨a,7,none⟩) (Kd.S_far (p:=⟨a,6,none⟩) (Kd.S_far (p:=⟨a,5,none⟩) (Kd.S_far (p:=⟨a,4,none⟩) (Kd.S_far (p:=⟨a,3,none⟩) (Kd.S_far (p:=⟨a,2,none⟩) (Kd.S_far (p:=⟨a,1,none⟩) (Kd.S_far (p:=⟨a,0,none⟩) (Kd.S_far (p:=⟨g,7,none⟩) (Kd.S_types (Kd.S_types L.out c.out (by decide)) d.out (by decide)) (fun _ hk=>hk.1.2) (.slice G t.length I)) (fun _ hk=>hk.2) (.int .i64 i)) (fun _ hk=>hk.2) (.int .i64 j)) (fun _ hk=>hk.2) (.slice q m.length r)) (fun _ hk=>hk.2) (.int .i64 l)) (fun _ hk=>hk.2) (.int .i64 n)) (fun _ hk=>hk.2) (.slice u o.length v)) (fun _ hk=>hk.2) (.slice y s.length z)) (fun _ hk=>hk.2) (.slice G t.length I)) (fun _ hk=>hk.1.1.2),by(with_reducible repeat(first|apply Kd.R_alloc|apply Kd.R_drewN|apply Kd.R_drew));exact Kd.R_mono (Kd.R_far (p:=⟨a,7,none⟩) (Kd.R_far (p:=⟨a,6,none⟩) (Kd.R_far (p:=⟨a,5,none⟩) (Kd.R_far (p:=⟨a,4,none⟩) (Kd.R_far (p:=⟨a,3,none⟩) (Kd.R_far (p:=⟨a,2,none⟩) (Kd.R_far (p:=⟨a,1,none⟩) (Kd.R_far (p:=⟨a,0,none⟩) (Kd.R_far (p:=⟨g,7,none⟩) (Kd.R_types (Kd.R_types aE.out c.out (by decide)) d.out (by decide)) (fun _ hk=>hk.1.2) (.slice G t.length I)) (fun _ hk=>hk.2) (.int .i64 i)) (fun _ hk=>hk.2) (.int .i64 j)) (fun _ hk=>hk.2) (.slice q m.length r)) (fun _ hk=>hk.2) (.int .i64 l)) (fun _ hk=>hk.2) (.int .i64 n)) (fun _ hk=>hk.2) (.slice u o.length v)) (fun _ hk=>hk.2) (.slice y s.length z)) (fun _ hk=>hk.2) (.slice G t.length I)) (fun _ hk=>trivial),bl⟩
end Go.Proofs.YteinbmkgenhocaaGreat.P
end
