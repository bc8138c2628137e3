/- A part of the claim FnExactMachNew. -/
import Derived.Test.YteinbmkgenhocaaGreatCFnExactMachNew24
section
namespace Go.Proofs.YteinbmkgenhocaaGreat.P
open Go.RowKit Go.Proofs.YteinbmkgenhocaaGreatW.PrintWords Go.Proofs.YteinbmkgenhocaaGreatW.PrintLast Go.Proofs.YteinbmkgenhocaaGreatW.PrintMore
attribute [local go_sem] ak au az aA ai aj av ax
set_option linter.unusedVariables false
set_option linter.unusedSimpArgs false
set_option maxHeartbeats 8000000 in
set_option maxRecDepth 100000 in
theorem dx.calls (k:Nat) (A0:Option Addr) (c0:Nat) (l0:List (S55)) (r:List (S57)) (w:World) (hr0:Kd.C k55 w A0 l0.length l0) (hc0:l0.length≤c0) (h:dx.f k l0=some r):
  Calls Tryz.prog 143 #[.slice A0 l0.length c0] w fun e w' => ∃bc:Value,e= .returned (bc)∧Kd.S k57 57 w' w.heap.size (fun _=>True) bc r∧Below w.heap.size w w' :=by
 have cc:=Tryz.underlying55
 have cd:=Tryz.underlying57
 have br:=Aside0.mk hr0
 have co:=Aside0.mk hc0
 clear hr0 hc0
 have HB:=Aside0.mk (Below.refl w.heap.size w)
 have H:(if 0≤(l0.length:Int)then(if((l0.length:Int):Int).toNat≤5026338869833 then(dx.l0 k l0 (List.replicate ((l0.length:Int):Int).toNat z57) 0)else(none))else(none))=some r:=h
 clear h
 by_cases c2:0≤(l0.length:Int)
 ·rw [if_pos c2]at H
  have ce:=eq_true c2
  have cf:decide (0≤(l0.length:Int))=true:=decide_eq_true c2
  clear c2
  by_cases c3:((l0.length:Int):Int).toNat≤5026338869833
  ·rw [if_pos c3]at H
   have cg:=eq_true c3
   have ch:decide (((l0.length:Int):Int).toNat≤5026338869833)=true:=decide_eq_true c3
   clear c3
   obtain⟨al,i⟩: ∃y_:List (S57),y_=(List.replicate ((l0.length:Int):Int).toNat z57):=⟨_,rfl⟩
   replace H:(dx.l0 k l0 al 0)=some r:=by first|(rw[i];with_reducible exact H)|(have y:=(Option.bind_some _ _).symm.trans H;rw[i];with_reducible exact y)|(have y:=(Option.bind_some _ _).symm.trans H;with_reducible exact y)|with_reducible exact H|(rw[i];exact H)|exact H
   have Y:=Aside0.mk i
   clear i
   have H' :=Aside0.mk H
   clear H
   go_enter Tryz.func143,Tryz.ntmps143
   go_wp2_with (first|((with_reducible refine gd 7 rfl ?_);refine Kd.S_make k57 _ 57 rfl (N:=7) rfl 101 _ _ rfl (l0.length:Int) rfl rfl Tryz.underlying101 (.agg #[(.bool false),(.slice none 0 0),(.slice none 0 0)]) 56 uT rfl (by decide) (by omega) z57 (ok:=fun _=>True) (okp:=fun _=>True) (pQ _ _ _ z57 (Kd.R_nil _ _ _ _ _) (Kd.R_nil _ _ _ _ _)) (fun _ hk=>hk) trivial (of_decide_eq_true (by first|(with_reducible assumption)|assumption)) (Nat.le_trans (Nat.mul_le_mul_right _ (of_decide_eq_true (by first|(with_reducible assumption)|assumption):(l0.length:Int).toNat≤5026338869833)) (by omega)) (Below.refl _ _) (Nat.le_refl _) ?_;intro bk w4 O hb hg_ hnew_;clear hg_ hnew_;(first|rw[←Y.out]at O|(simp only[Int.reduceToNat]at O;rw[←Y.out]at O));have a8:=Aside0.mk (Kd.S_lower O (aU bl));replace HB:=hs HB hb;clear hb O))
   go_loopg [4] k (fun kq v4 w' => ∃(d:List (S57)) (a:Int),v4= .int .i64 a∧Aside0 (dx.l0 kq l0 d a=some r)∧Aside0 (kq≤k)∧Aside0 (Kd.S k57 57 w' w.heap.size (fun _=>True) bk d)∧Aside0 (Below w.heap.size w w'))
   case atStart=>exact⟨(al),(0),(by first|rfl|(simp;done)|(simp[*];done)),H',⟨Nat.le_refl _⟩,⟨by(with_reducible repeat(first|apply Kd.S_alloc|apply Kd.S_drewN|apply Kd.S_drew));exact a8.out⟩,⟨bl⟩⟩
   case round=>
    clear H'
    obtain⟨d,a,rfl,HA,bd,b,HB⟩:=hrel
    cases gk with
    |zero=>exact absurd HA.out (by simp[dx.l0])
    | succ k1=>
     have H:=HA.out
     clear HA
     simp only[dx.l0]at H
     by_cases c6:a<(l0.length:Int)
     ·rw[if_pos c6]at H
      have bm:decide (a<(l0.length:Int))=true:=decide_eq_true c6
      clear c6
      by_cases c7:0≤a
      ·rw[if_pos c7]at H
       have ci:decide (0≤a)=true:=decide_eq_true c7
       clear c7
       replace H:=Option.bind_eq_some_iff.mp H
       obtain⟨⟨g,z,A⟩,be,H⟩:=H
       replace H:(if a<(d.length:Int)then(dx.l0 k1 l0 (d.set (a:Int).toNat (⟨g,z,A⟩:S57)) (wrap64 (a+1)))else(none))=some r:=H
       have A8:=Aside0.mk be
       clear be
       by_cases c9:a<(d.length:Int)
       ·rw[if_pos c9]at H
        have cj:decide (a<(d.length:Int))=true:=decide_eq_true c9
        clear c9
        obtain⟨P,l⟩: ∃y_:List (S57),y_=(d.set (a:Int).toNat (⟨g,z,A⟩:S57)):=⟨_,rfl⟩
        replace H:(dx.l0 k1 l0 P (wrap64 (a+1)))=some r:=by first|(rw[l];with_reducible exact H)|(have y:=(Option.bind_some _ _).symm.trans H;rw[l];with_reducible exact y)|(have y:=(Option.bind_some _ _).symm.trans H;with_reducible exact y)|with_reducible exact H|(rw[l];exact H)|exact H
        have a9:=Aside0.mk l
        clear l
        have H' :=Aside0.mk H
        clear H
        have T:0≤(a:Int):=od
        have U:a<(l0.length:Int):=od
        obtain⟨b9,am,an,ao,ap,e306,B,D,E,G,I,J,K⟩:=oJ br.out a T U
        cases e306
        obtain⟨B,D,E⟩:=hc3 HB B D E
        have Z:=Aside0.mk I
        have ab:=Aside0.mk G
        clear I G
        have ac:=Aside0.mk K
        have ad:=Aside0.mk J
        clear K J
        replace T:=eq_true T
        replace U:=eq_true U
        go_wp2_with (first|(refine gl (some 20) Tryz.func21 #[.agg #[.bool ((dS l0 a).f0), .slice am ((dS l0 a).f1).length an, .slice ao ((dS l0 a).f2).length ap]] rfl ?_;(with_reducible refine(iw.calls k1 ((dS l0 a).f0) _ _ ((dS l0 a).f1) _ _ ((dS l0 a).f2) g z A _ (cb Z.out) ab.out (cb ac.out) ad.out A8.out).mono ?_);rintro e m ⟨L,M,rfl,ho0,ho1,hb⟩;refine⟨_,rfl, ?_⟩;have n:=Aside0.mk (Kd.R_lower ho0 (aU bl));have o:=Aside0.mk (Kd.R_lower ho1 (aU bl));replace b:=Aside0.mk (Kd.S_mono (Kd.S_told (Kd.S_told (Kd.S_old (by(with_reducible repeat(first|apply Kd.S_alloc|apply Kd.S_drewN|apply Kd.S_drew));exact b.out) hb) (Kd.R_base ho0)) (Kd.R_base ho1)) (fun _ h_=>h_.1));replace HB:=hs HB hb;(try clear ho1);have aq:0≤(a:Int):=od;have ar:(a:Int)<((d.length:Int):Int):=od;obtain⟨c,aw,aB,aE,bo,ck,aF⟩:=Kd.S_form b.out (by omega);(first|cases aB|(injection aB with ea_ en_ ec_;(first|subst ea_|(injection ea_ with ea_;subst ea_));subst ec_;clear en_));have W:=Aside0.mk aE;have cl:=Aside0.mk aF;clear aE bo aF;obtain⟨_,cm,ba,aL,q,s,_,_⟩:=Kd.S_elem b.out z57 (a:Int) aq ar;obtain⟨aO,aP,rfl,bs,bt⟩:=lD aL;have bw:m.cell? ⟨c,(a:Int).toNat * 3,none⟩=some (.bool ((aX d a).f0)):=q 0 _ rfl;have b0:m.cell? ⟨c,(a:Int).toNat * 3+1,none⟩=some (aO):=q 1 _ rfl;have b1:m.cell? ⟨c,(a:Int).toNat * 3+2,none⟩=some (aP):=q 2 _ rfl;have b2:m.frozen? ⟨c,(a:Int).toNat * 3,none⟩=false:=s 0;have b3:m.frozen? ⟨c,(a:Int).toNat * 3+1,none⟩=false:=s 1;have b4:m.frozen? ⟨c,(a:Int).toNat * 3+2,none⟩=false:=s 2;clear ba q s aL;replace aq:=eq_true aq;replace ar:=eq_true ar;have n_:=Aside0.mk (Kd.S_mono (ok' :=(fun k_=>some k_≠(L:Value).ownBlock∧some k_≠(M:Value).ownBlock)) b.out (fun k_ hk=>⟨hk.1.2,hk.2⟩));clear b;have b:=n_;clear n_;have bp:=Aside0.mk (show Kd.S k57 57 m w.heap.size (fun k_=>((fun _=>True)) k_∧¬((fun k_=>some k_=(L:Value).ownBlock∨some k_=(M:Value).ownBlock)) k_) (.slice (some ⟨c,0,none⟩) d.length aw) d from(by(with_reducible repeat(first|apply Kd.S_alloc|apply Kd.S_drewN|apply Kd.S_drew));exact Kd.S_mono b.out (fun k_ hk=>⟨trivial,fun e_=>e_.elim (fun h_=>hk.1 h_) (fun h_=>hk.2 h_)⟩)));obtain⟨ca,cn,bb,aR,u,x,aS,a0⟩:=Kd.S_elem bp.out z57 (a:Int) (of_decide_eq_true (by first|(with_reducible assumption)|assumption)) (by have h_:(a:Int)<((d.length:Int):Int):=of_decide_eq_true (by first|(with_reducible assumption)|assumption);first|exact h_|(have e_:=(Kd.S_reads' b.out).1;omega)|simpa using h_);obtain⟨b5,b6,rfl,b7,b8⟩:=lD aR;have X:=Kd.S_seg a0 (of_decide_eq_true (by first|(with_reducible assumption)|assumption)) (by have h_:(a:Int)<((d.length:Int):Int):=of_decide_eq_true (by first|(with_reducible assumption)|assumption);first|exact h_|(have e_:=(Kd.S_reads' b.out).1;omega)|simpa using h_) (seg:= [.bool g,L,M]) (j:=0) (show 3≤3 from by decide) (x' :=(⟨g,z,A⟩:S57)) (pQ _ _ _ (⟨g,z,A⟩:S57) (Kd.R_mono (Kd.R_tight rfl (Kd.R_mono (ok' :=fun k_=>((fun _=>True)) k_∧k_≠c) (Kd.R_apart' (n.out) (Kd.S_typed b.out) (by decide)) (fun k_ hk=>⟨trivial,fun e_=>(hk.2) (by rw[e_];rfl)⟩))) (fun _ h_=>Or.inr (Or.inl h_))) (Kd.R_mono (Kd.R_tight rfl (Kd.R_mono (ok' :=fun k_=>((fun _=>True)) k_∧k_≠c) (Kd.R_apart' (o.out) (Kd.S_typed b.out) (by decide)) (fun k_ hk=>⟨trivial,fun e_=>(hk.2) (by rw[e_];rfl)⟩))) (fun _ h_=>Or.inr (Or.inr (h_))))) (fun _ hk=>hk) (fun k_ hk_=>hk_.elim (fun h_=>((Kd.R_mono (ok' :=fun k_=>((fun _=>True)) k_∧k_≠c) (Kd.R_apart' (n.out) (Kd.S_typed b.out) (by decide)) (fun k_ hk=>⟨trivial,fun e_=>(hk.2) (by rw[e_];rfl)⟩))).1 k_ h_.symm) (fun h_=>((Kd.R_mono (ok' :=fun k_=>((fun _=>True)) k_∧k_≠c) (Kd.R_apart' (o.out) (Kd.S_typed b.out) (by decide)) (fun k_ hk=>⟨trivial,fun e_=>(hk.2) (by rw[e_];rfl)⟩))).1 k_ h_.symm));have a1:=u 0 _ rfl;(try simp only[show(k57).sz=3 from rfl,Nat.mul_one,Nat.add_zero]at a1);have a2:=x 0;(try simp only[show(k57).sz=3 from rfl,Nat.mul_one,Nat.add_zero]at a2);have a3:=u 1 _ rfl;(try simp only[show(k57).sz=3 from rfl,Nat.mul_one,Nat.add_zero]at a3);have a4:=x 1;(try simp only[show(k57).sz=3 from rfl,Nat.mul_one,Nat.add_zero]at a4);have a5:=u 2 _ rfl;(try simp only[show(k57).sz=3 from rfl,Nat.mul_one,Nat.add_zero]at a5);have a6:=x 2;(try simp only[show(k57).sz=3 from rfl,Nat.mul_one,Nat.add_zero]at a6);clear bb u x aR aS a0)|((with_reducible refine cB (t:=57) (p:=21) rfl ?_);refine bT (t:=57) (p:=21) (v:= ?vo_w13) (w1:=(((m.setCell ⟨c,(a:Int).toNat * 3,none⟩ (.bool g)).setCell ⟨c,(a:Int).toNat * 3+1,none⟩ (L)).setCell ⟨c,(a:Int).toNat * 3+2,none⟩ (M))) ?hg ?ho ?hn ?hr ?_;(case ho=>rfl);(case hg=>rfl);(case hn=>rfl);(case hr=>first|(go_simp;done)|(go_simp;rfl)|(obtain⟨_,_,rfl⟩:=Kd.R_slice n.out;obtain⟨_,_,rfl⟩:=Kd.R_slice o.out;first|(go_simp;done)|(go_simp;rfl)));intro a7 hw;have hg:m.grownBy a7 (some c):=(by rw[hw];exact X.2);have hp_:Kd.S k57 57 a7 w.heap.size (fun _=>True) (.slice (some ⟨c,0,none⟩) d.length aw) P:=(by rw[hw,a9.out];exact X.1);clear X;have bh:=Aside0.mk (hp_);have bj:=Aside0.mk ((by rw[hw];exact aK (aK (aK (HB.out) W.out) W.out) W.out:Below w.heap.size w a7));clear b;clear HB;clear n;clear o;have b:=bh;have HB:=bj;clear bh bj;clear hg hw hp_))
        go_roundg k1
        case measure=>have:=bd.out;omega
        case rel=>exact⟨(P),(wrap64 (a+1)),(by first|rfl|(simp;done)|(simp[*];done)),H',⟨by have:=bd.out;omega⟩,⟨by(with_reducible repeat(first|apply Kd.S_alloc|apply Kd.S_drewN|apply Kd.S_drew));exact b.out⟩,⟨bl⟩⟩
       rw[if_neg c9]at H
       exact absurd H (by simp)
      rw[if_neg c7]at H
      exact absurd H (by simp)
     rw[if_neg c6]at H
     have bm:decide (a<(l0.length:Int))=false:=decide_eq_false c6
     clear c6
     obtain rfl:=Option.some.inj H;clear H
     go_wp2
     go_ret
     exact⟨_,by first|rfl|(simp[bz,bA]<;>rfl)|(simp[*,bz,bA]<;>rfl),by(with_reducible repeat(first|apply Kd.S_alloc|apply Kd.S_drewN|apply Kd.S_drew));exact b.out,bl⟩
  rw[if_neg c3]at H
  exact absurd H (by simp)
 rw[if_neg c2]at H
 exact absurd H (by simp)
set_option maxHeartbeats 8000000 in
set_option maxRecDepth 100000 in
theorem iU.calls (c:Int) (g:Int) (i:Int) (j:Int) (r1:Int) (r2:Int) (r3:Int) (r4:Int) (w:World) (h:iU.f c g i j=some (r1,r2,r3,r4)):
  Calls Tryz.prog 169 #[.agg #[.int .i64 c, .int .i64 g, .int .i64 i, .int .i64 j]] w fun e w' =>e= .returned (.agg #[.int .i64 r1, .int .i64 r2, .int .i64 r3, .int .i64 r4])∧Below w.heap.size w w' :=by
 have r:=Tryz.underlying219
 have s:=Tryz.underlying181
 have HB:=Aside0.mk (Below.refl w.heap.size w)
 have H:(some (c,g,i,j))=some (r1,r2,r3,r4):=h
 clear h
 simp only[Option.some.injEq,Prod.mk.injEq]at H
 obtain⟨rfl,rfl,rfl,rfl⟩:=H
 go_enter Tryz.func169,Tryz.ntmps169
 go_wp2_with (first|((with_reducible refine gd 1 rfl ?_);refine bx 1 #[.int .i64 c, .int .i64 g, .int .i64 i, .int .i64 j] 219 ?_;intro t hg w2 hbox hb;have b:=Aside0.mk hbox;have u:=hz HB hg;replace HB:=hs HB hb;clear hb hbox hg)|((with_reducible refine gd 2 rfl ?_);refine bx 2 #[.int .i64 0, .int .i64 0, .int .i64 0, .int .i64 0] 181 ?_;intro p hg w3 hbox hb;have d:=Aside0.mk hbox;have v:=hz HB hg;have k:=nl b hg;have l:=ng b hg;replace b:=kb b hb;replace HB:=hs HB hb;clear hb hbox hg)|((with_reducible refine gd 3 rfl ?_);refine bx 3 #[.int .i64 0, .int .i64 0, .int .i64 0, .int .i64 0] 181 ?_;intro x hg w4 hbox hb;have q:=Aside0.mk hbox;have y:=hz HB hg;have m:=nl b hg;have n:=ng b hg;have a:=nl d hg;have o:=ng d hg;replace b:=kb b hb;replace d:=kb d hb;replace HB:=hs HB hb;clear hb hbox hg;have z:=k.out;have A:=l.out;have B:=m.out;have D:=n.out;have:=cf4 b;have E:=o.out;have G:=a.out;have:=cf4 q;have:=cf4 d))
 refine bodyPost_ret (results_cell_row rfl _ _ p 181 #[.int .i64 c, .int .i64 g, .int .i64 i, .int .i64 j] (0,0) _ rfl (by(with_reducible repeat(first|refine ah ?_ _|refine af ?_|refine ag ?_ _));refine bg (cs:= #[.int .i64 c, .int .i64 g, .int .i64 i, .int .i64 0]) ?_ 3 _ rfl;(with_reducible repeat(first|refine ah ?_ _|refine af ?_|refine ag ?_ _));refine bg (cs:= #[.int .i64 c, .int .i64 g, .int .i64 0, .int .i64 0]) ?_ 2 _ rfl;(with_reducible repeat(first|refine ah ?_ _|refine af ?_|refine ag ?_ _));refine bg (cs:= #[.int .i64 c, .int .i64 0, .int .i64 0, .int .i64 0]) ?_ 1 _ rfl;(with_reducible repeat(first|refine ah ?_ _|refine af ?_|refine ag ?_ _));refine bg (cs:= #[.int .i64 0, .int .i64 0, .int .i64 0, .int .i64 0]) ?_ 0 _ rfl;(with_reducible repeat(first|refine ah ?_ _|refine af ?_|refine ag ?_ _));refine eX ?_ a.out _;(with_reducible repeat(first|refine ah ?_ _|refine af ?_|refine ag ?_ _));refine eX ?_ a.out _;(with_reducible repeat(first|refine ah ?_ _|refine af ?_|refine ag ?_ _));refine eX ?_ a.out _;(with_reducible repeat(first|refine ah ?_ _|refine af ?_|refine ag ?_ _));refine eX ?_ a.out _;(with_reducible repeat(first|refine ah ?_ _|refine af ?_|refine ag ?_ _));exact d.out) Tryz.underlying181 rfl (by kernel_rfl)) rfl ?_
 exact fin
set_option maxHeartbeats 8000000 in
set_option maxRecDepth 100000 in
theorem dz.calls (k:Nat) (A0:Option Addr) (c0:Nat) (l0:List (S219)) (r:List (S181)) (w:World) (hr0:Kd.C kG w A0 l0.length l0) (hc0:l0.length≤c0) (h:dz.f k l0=some r):
  Calls Tryz.prog 144 #[.slice A0 l0.length c0] w fun e w' => ∃aP:Value,e= .returned (aP)∧Kd.R eZ 181 w' w.heap.size (fun _=>True) aP r∧Below w.heap.size w w' :=by
 have bc:=Tryz.underlying219
 have bd:=Tryz.underlying181
 have a3:=Aside0.mk hr0
 have b0:=Aside0.mk hc0
 clear hr0 hc0
 have HB:=Aside0.mk (Below.refl w.heap.size w)
 have H:(if 0≤(l0.length:Int)then(if((l0.length:Int):Int).toNat≤8796093022208 then(dz.l0 k l0 (List.replicate ((l0.length:Int):Int).toNat gm) 0)else(none))else(none))=some r:=h
 clear h
 by_cases c2:0≤(l0.length:Int)
 ·rw [if_pos c2]at H
  have bh:=eq_true c2
  have bj:decide (0≤(l0.length:Int))=true:=decide_eq_true c2
  clear c2
  by_cases c3:((l0.length:Int):Int).toNat≤8796093022208
  ·rw [if_pos c3]at H
   have bk:=eq_true c3
   have bm:decide (((l0.length:Int):Int).toNat≤8796093022208)=true:=decide_eq_true c3
   clear c3
   obtain⟨T,q⟩: ∃y_:List (S181),y_=(List.replicate ((l0.length:Int):Int).toNat gm):=⟨_,rfl⟩
   replace H:(dz.l0 k l0 T 0)=some r:=by first|(rw[q];with_reducible exact H)|(have z:=(Option.bind_some _ _).symm.trans H;rw[q];with_reducible exact z)|(have z:=(Option.bind_some _ _).symm.trans H;with_reducible exact z)|with_reducible exact H|(rw[q];exact H)|exact H
   have O:=Aside0.mk q
   clear q
   have H' :=Aside0.mk H
   clear H
   go_enter Tryz.func144,Tryz.ntmps144
   go_wp2_with (first|((with_reducible refine gd 7 rfl ?_);refine Kd.R_make eZ _ 181 rfl (N:=7) rfl 102 _ _ rfl (l0.length:Int) rfl rfl Tryz.underlying102 (.agg #[(.int .i64 0),(.int .i64 0),(.int .i64 0),(.int .i64 0)]) 32 uu rfl (by decide) (by omega) gm (ok:=fun _=>True) (okp:=fun _=>True) (oM _ _ _ gm) (fun _ hk=>hk) trivial (of_decide_eq_true (by first|(with_reducible assumption)|assumption)) (Nat.le_trans (Nat.mul_le_mul_right _ (of_decide_eq_true (by first|(with_reducible assumption)|assumption):(l0.length:Int).toNat≤8796093022208)) (by omega)) (Below.refl _ _) (Nat.le_refl _) ?_;intro a0 w4 I hb hg_ hnew_;clear hg_ hnew_;(first|rw[←O.out]at I|(simp only[Int.reduceToNat]at I;rw[←O.out]at I));have aF:=Aside0.mk (Kd.R_lower I (aU bl));replace HB:=hs HB hb;clear hb I))
   go_loopg [4] k (fun kq v4 w' => ∃(b:List (S181)) (a:Int),v4= .int .i64 a∧Aside0 (dz.l0 kq l0 b a=some r)∧Aside0 (kq≤k)∧Aside0 (Kd.R eZ 181 w' w.heap.size (fun _=>True) a0 b)∧Aside0 (Below w.heap.size w w'))
   case atStart=>exact⟨(T),(0),(by first|rfl|(simp;done)|(simp[*];done)),H',⟨Nat.le_refl _⟩,⟨by(with_reducible repeat(first|apply Kd.R_alloc|apply Kd.R_drewN|apply Kd.R_drew));exact aF.out⟩,⟨bl⟩⟩
   case round=>
    clear H'
    obtain⟨b,a,rfl,HA,aR,d,HB⟩:=hrel
    cases gk with
    |zero=>exact absurd HA.out (by simp[dz.l0])
    | succ k1=>
     have H:=HA.out
     clear HA
     simp only[dz.l0]at H
     by_cases c6:a<(l0.length:Int)
     ·rw[if_pos c6]at H
      have a1:decide (a<(l0.length:Int))=true:=decide_eq_true c6
      clear c6
      by_cases c7:0≤a
      ·rw[if_pos c7]at H
       have bo:decide (0≤a)=true:=decide_eq_true c7
       clear c7
       replace H:=Option.bind_eq_some_iff.mp H
       obtain⟨⟨l,m,n,o⟩,aS,H⟩:=H
       replace H:(if a<(b.length:Int)then(dz.l0 k1 l0 (b.set (a:Int).toNat (⟨l,m,n,o⟩:S181)) (wrap64 (a+1)))else(none))=some r:=H
       have A8:=Aside0.mk aS
       clear aS
       by_cases c9:a<(b.length:Int)
       ·rw[if_pos c9]at H
        have bp:decide (a<(b.length:Int))=true:=decide_eq_true c9
        clear c9
        obtain⟨J,s⟩: ∃y_:List (S181),y_=(b.set (a:Int).toNat (⟨l,m,n,o⟩:S181)):=⟨_,rfl⟩
        replace H:(dz.l0 k1 l0 J (wrap64 (a+1)))=some r:=by first|(rw[s];with_reducible exact H)|(have z:=(Option.bind_some _ _).symm.trans H;rw[s];with_reducible exact z)|(have z:=(Option.bind_some _ _).symm.trans H;with_reducible exact z)|with_reducible exact H|(rw[s];exact H)|exact H
        have aL:=Aside0.mk s
        clear s
        have H' :=Aside0.mk H
        clear H
        have K:0≤(a:Int):=od
        have L:a<(l0.length:Int):=od
        obtain⟨be,e321,A,B,D,E⟩:=uy a3.out a K L
        cases e321
        obtain⟨A,B,D,E⟩:=hc4 HB A B D E
        replace K:=eq_true K
        replace L:=eq_true L
        go_wp2_with (first|(refine gl (some 20) Tryz.func169 #[.agg #[.int .i64 ((fI l0 a).f0), .int .i64 ((fI l0 a).f1), .int .i64 ((fI l0 a).f2), .int .i64 ((fI l0 a).f3)]] rfl ?_;(with_reducible refine(iU.calls ((fI l0 a).f0) ((fI l0 a).f1) ((fI l0 a).f2) ((fI l0 a).f3) l m n o _ A8.out).mono ?_);rintro e g ⟨rfl,hb⟩;refine⟨_,rfl, ?_⟩;replace d:=Aside0.mk (Kd.R_below (by(with_reducible repeat(first|apply Kd.R_alloc|apply Kd.R_drewN|apply Kd.R_drew));exact d.out) hb);replace HB:=hs HB hb;have U:0≤(a:Int):=od;have W:(a:Int)<((b.length:Int):Int):=od;obtain⟨c,X,Y,Z,a2,br,ab⟩:=Kd.R_form d.out (by omega);(first|cases Y|(injection Y with ea_ en_ ec_;(first|subst ea_|(injection ea_ with ea_;subst ea_));subst ec_;clear en_));have G:=Aside0.mk Z;have bs:=Aside0.mk ab;clear Z a2 ab;obtain⟨bt,aO,ac,u,x⟩:=Kd.R_elem d.out gm (a:Int) U W;obtain rfl:=kU ac;have a4:g.cell? ⟨c,(a:Int).toNat * 4,none⟩=some (.int .i64 ((aH b a).f0)):=u 0 _ rfl;have a5:g.cell? ⟨c,(a:Int).toNat * 4+1,none⟩=some (.int .i64 ((aH b a).f1)):=u 1 _ rfl;have a6:g.cell? ⟨c,(a:Int).toNat * 4+2,none⟩=some (.int .i64 ((aH b a).f2)):=u 2 _ rfl;have a7:g.cell? ⟨c,(a:Int).toNat * 4+3,none⟩=some (.int .i64 ((aH b a).f3)):=u 3 _ rfl;have a8:g.frozen? ⟨c,(a:Int).toNat * 4,none⟩=false:=x 0;have a9:g.frozen? ⟨c,(a:Int).toNat * 4+1,none⟩=false:=x 1;have ba:g.frozen? ⟨c,(a:Int).toNat * 4+2,none⟩=false:=x 2;have bb:g.frozen? ⟨c,(a:Int).toNat * 4+3,none⟩=false:=x 3;clear aO u x ac;replace U:=eq_true U;replace W:=eq_true W;have ad:=Aside0.mk (show Kd.R eZ 181 g w.heap.size (fun _=>True) (.slice (some ⟨c,0,none⟩) b.length X) b from(by(with_reducible repeat(first|apply Kd.R_alloc|apply Kd.R_drewN|apply Kd.R_drew));exact d.out));obtain⟨bw,P,al,i,y⟩:=Kd.R_elem ad.out gm (a:Int) (of_decide_eq_true (by first|(with_reducible assumption)|assumption)) (by have h_:(a:Int)<((b.length:Int):Int):=of_decide_eq_true (by first|(with_reducible assumption)|assumption);first|exact h_|(have e_:=(Kd.R_reads' d.out).1;omega)|simpa using h_);obtain rfl:=kU al;have M:=Kd.R_seg ad.out (a:Int) (of_decide_eq_true (by first|(with_reducible assumption)|assumption)) (by have h_:(a:Int)<((b.length:Int):Int):=of_decide_eq_true (by first|(with_reducible assumption)|assumption);first|exact h_|(have e_:=(Kd.R_reads' d.out).1;omega)|simpa using h_) (seg:= [.int .i64 l, .int .i64 m, .int .i64 n, .int .i64 o]) (j:=0) P i (show 4≤4 from by decide) (x' :=(⟨l,m,n,o⟩:S181)) (oM _ _ _ (⟨l,m,n,o⟩:S181)) (fun _ hk=>hk);have am:=i 0 _ rfl;(try simp only[show(eZ).sz=4 from rfl,Nat.mul_one,Nat.add_zero]at am);have an:=y 0;(try simp only[show(eZ).sz=4 from rfl,Nat.mul_one,Nat.add_zero]at an);have ao:=i 1 _ rfl;(try simp only[show(eZ).sz=4 from rfl,Nat.mul_one,Nat.add_zero]at ao);have ap:=y 1;(try simp only[show(eZ).sz=4 from rfl,Nat.mul_one,Nat.add_zero]at ap);have aq:=i 2 _ rfl;(try simp only[show(eZ).sz=4 from rfl,Nat.mul_one,Nat.add_zero]at aq);have ar:=y 2;(try simp only[show(eZ).sz=4 from rfl,Nat.mul_one,Nat.add_zero]at ar);have aw:=i 3 _ rfl;(try simp only[show(eZ).sz=4 from rfl,Nat.mul_one,Nat.add_zero]at aw);have aB:=y 3;(try simp only[show(eZ).sz=4 from rfl,Nat.mul_one,Nat.add_zero]at aB);clear P i y al)|((with_reducible refine cB (t:=181) (p:=21) rfl ?_);refine bT (t:=181) (p:=21) (v:= ?vo_w13) (w1:=((((g.setCell ⟨c,(a:Int).toNat * 4,none⟩ (.int .i64 l)).setCell ⟨c,(a:Int).toNat * 4+1,none⟩ (.int .i64 m)).setCell ⟨c,(a:Int).toNat * 4+2,none⟩ (.int .i64 n)).setCell ⟨c,(a:Int).toNat * 4+3,none⟩ (.int .i64 o))) ?hg ?ho ?hn ?hr ?_;(case ho=>rfl);(case hg=>rfl);(case hn=>rfl);(case hr=>first|(go_simp;done)|(go_simp;rfl));intro aE hw;have hg:g.grownBy aE (some c):=(by rw[hw];exact M.2);have hp_:Kd.R eZ 181 aE w.heap.size (fun _=>True) (.slice (some ⟨c,0,none⟩) b.length X) J:=(by rw[hw,aL.out];exact M.1);clear M;replace d:=Aside0.mk (hp_);replace HB:=Aside0.mk ((by rw[hw];exact aK (aK (aK (aK (HB.out) G.out) G.out) G.out) G.out:Below w.heap.size w aE));clear hg hw hp_))
        go_roundg k1
        case measure=>have:=aR.out;omega
        case rel=>exact⟨(J),(wrap64 (a+1)),(by first|rfl|(simp;done)|(simp[*];done)),H',⟨by have:=aR.out;omega⟩,⟨by(with_reducible repeat(first|apply Kd.R_alloc|apply Kd.R_drewN|apply Kd.R_drew));exact d.out⟩,⟨bl⟩⟩
       rw[if_neg c9]at H
       exact absurd H (by simp)
      rw[if_neg c7]at H
      exact absurd H (by simp)
     rw[if_neg c6]at H
     have a1:decide (a<(l0.length:Int))=false:=decide_eq_false c6
     clear c6
     obtain rfl:=Option.some.inj H;clear H
     go_wp2
     go_ret
     exact⟨_,by first|rfl|(simp[bz,bA]<;>rfl)|(simp[*,bz,bA]<;>rfl),by(with_reducible repeat(first|apply Kd.R_alloc|apply Kd.R_drewN|apply Kd.R_drew));exact d.out,bl⟩
  rw[if_neg c3]at H
  exact absurd H (by simp)
 rw[if_neg c2]at H
 exact absurd H (by simp)
set_option maxHeartbeats 8000000 in
set_option maxRecDepth 100000 in
theorem gY.calls (k:Nat) (i:Int) (j:Int) (M:Option Addr) (O:Nat) (A:List Int) (l:Int) (n:Int) (P:Option Addr) (T:Nat) (B:List (S217)) (U:Option Addr) (W:Nat) (D:List (S55)) (X:Option Addr) (Y:Nat) (E:List (S219)) (r1:Int) (r2:Int) (r3:List Int) (r4:Int) (r5:Int) (r6:List (S113)) (r7:List (S57)) (r8:List (S181)) (w:World) (am:Kd.C (Kd.int .i64) w M A.length A) (an:A.length≤O) (ao:Kd.C kF w P B.length B) (ap:B.length≤T) (aq:Kd.C k55 w U D.length D) (ar:D.length≤W) (aw:Kd.C kG w X E.length E) (aB:E.length≤Y) (h:gY.f k i j A l n B D E=some (r1,r2,r3,r4,r5,r6,r7,r8)):
  Calls Tryz.prog 77 #[.agg #[.int .i64 i, .int .i64 j, .slice M A.length O, .int .i64 l, .int .i64 n, .slice P B.length T, .slice U D.length W, .slice X E.length Y]] w fun e w' => ∃aF a3 a4 a5:Value,e= .returned (.agg #[.int .i64 r1, .int .i64 r2,aF, .int .i64 r4, .int .i64 r5,a3,a4,a5])∧Kd.R (Kd.int .i64) 3 w' w.heap.size (fun _=>True) aF r3∧Kd.R fq 113 w' w.heap.size (fun _=>True) a3 r6∧Kd.S k57 57 w' w.heap.size (fun k_=>some k_≠(aF:Value).ownBlock) a4 r7∧Kd.R eZ 181 w' w.heap.size (fun _=>True) a5 r8∧Below w.heap.size w w' :=by
 have ba:=Tryz.underlying122
 have bb:=Tryz.underlying104
 have aL:=Aside0.mk am
 have aO:=Aside0.mk an
 clear am an
 have aP:=Aside0.mk ao
 have aR:=Aside0.mk ap
 clear ao ap
 have aS:=Aside0.mk aq
 have a0:=Aside0.mk ar
 clear aq ar
 have a1:=Aside0.mk aw
 have a2:=Aside0.mk aB
 clear aw aB
 have HB:=Aside0.mk (Below.refl w.heap.size w)
 have H:((bS.f k A).bind fun m=>((dK.f k B).bind fun o=>((dx.f k D).bind fun s=>((dz.f k E).bind fun t=>(some (i,j,m,l,n,o,s,t))))))=some (r1,r2,r3,r4,r5,r6,r7,r8):=h
 clear h
 obtain⟨m,A2,H⟩:=ob H
 obtain⟨o,A3,H⟩:=ob H
 obtain⟨s,A4,H⟩:=ob H
 obtain⟨t,A5,H⟩:=ob H
 simp only[Option.some.injEq,Prod.mk.injEq]at H
 obtain⟨rfl,rfl,rfl,rfl,rfl,rfl,rfl,rfl⟩:=H
 go_enter Tryz.func77,Tryz.ntmps77
 go_wp2_with (first|((with_reducible refine gd 1 rfl ?_);refine bx 1 #[.int .i64 i, .int .i64 j, .slice M A.length O, .int .i64 l, .int .i64 n, .slice P B.length T, .slice U D.length W, .slice X E.length Y] 122 ?_;intro bc hg w6 hbox hb;have b:=Aside0.mk hbox;have bd:=hz HB hg;replace HB:=hs HB hb;clear hb hbox hg)|((with_reducible refine gd 2 rfl ?_);refine bx 2 #[.int .i64 0, .int .i64 0, .slice none 0 0, .int .i64 0, .int .i64 0, .slice none 0 0, .slice none 0 0, .slice none 0 0] 104 ?_;intro a hg w7 hbox hb;have d:=Aside0.mk hbox;have be:=hz HB hg;have Z:=nl b hg;have ab:=ng b hg;replace b:=kb b hb;replace HB:=hs HB hb;clear hb hbox hg)|((with_reducible refine gd 3 rfl ?_);refine bx 3 #[.int .i64 0, .int .i64 0, .slice none 0 0, .int .i64 0, .int .i64 0, .slice none 0 0, .slice none 0 0, .slice none 0 0] 104 ?_;intro g hg w8 hbox hb;have c:=Aside0.mk hbox;have bh:=hz HB hg;have ac:=nl b hg;have ad:=ng b hg;have K:=nl d hg;have al:=ng d hg;replace b:=kb b hb;replace d:=kb d hb;replace HB:=hs HB hb;clear hb hbox hg;have bp:=Z.out;have br:=ab.out;have bj:=ac.out;have bk:=ad.out;have:=cf8 b;have bm:=al.out;have bo:=K.out;have:=cf8 c)|(refine gl (some 12) Tryz.func60 #[.slice M A.length O] rfl ?_;(with_reducible refine(bS.calls k _ _ A m _ (cb aL.out) aO.out A2.out).mono ?_);rintro e b1 ⟨bs,rfl,ho0,hb⟩;refine⟨_,rfl, ?_⟩;have x:=Aside0.mk (Kd.R_lower ho0 (aU bl));replace b:=kq b hb;replace d:=kq d hb;replace c:=kp g #[.int .i64 i, .int .i64 j, .slice none 0 0, .int .i64 0, .int .i64 0, .slice none 0 0, .slice none 0 0, .slice none 0 0] 104 hb;replace HB:=hs HB hb;obtain⟨q,r,a6⟩:=Kd.R_slice x.out;subst a6;have:=cf8 c;have:=cf8 b)|(refine gl (some 22) Tryz.func142 #[.slice P B.length T] rfl ?_;(with_reducible refine(dK.calls k _ _ B o _ (cb aP.out) aR.out A3.out).mono ?_);rintro e b2 ⟨bt,rfl,ho0,hb⟩;refine⟨_,rfl, ?_⟩;have J:=Aside0.mk (Kd.R_lower ho0 (aU bl));replace x:=Aside0.mk (Kd.R_below (by(with_reducible repeat(first|apply Kd.R_alloc|apply Kd.R_drewN|apply Kd.R_drew));exact(Kd.R_mono (Kd.R_far (p:=⟨g,4,none⟩) (Kd.R_far (p:=⟨g,3,none⟩) (Kd.R_far (p:=⟨g,2,none⟩) (Kd.R_types x.out c.out (by decide)) (fun _ hk=>hk.2) (.slice q m.length r)) (fun _ hk=>hk.2) (.int .i64 l)) (fun _ hk=>hk.2) (.int .i64 n)) (fun _ h_=>h_.1))) hb);replace b:=kq b hb;replace d:=kq d hb;replace c:=kp g #[.int .i64 i, .int .i64 j, .slice q m.length r, .int .i64 l, .int .i64 n, .slice none 0 0, .slice none 0 0, .slice none 0 0] 104 hb;replace HB:=hs HB hb;obtain⟨u,v,a7⟩:=Kd.R_slice J.out;subst a7;have:=cf8 c;have:=cf8 b)|(refine gl (some 26) Tryz.func143 #[.slice U D.length W] rfl ?_;(with_reducible refine(dx.calls k _ _ D s _ (cb aS.out) a0.out A4.out).mono ?_);rintro e b3 ⟨bw,rfl,ho0,hb⟩;refine⟨_,rfl, ?_⟩;have L:=Aside0.mk (Kd.S_lower (Kd.S_new' ho0 (Kd.R_lt (by(with_reducible repeat(first|apply Kd.R_alloc|apply Kd.R_drewN|apply Kd.R_drew));exact(Kd.R_mono (Kd.R_far (p:=⟨g,5,none⟩) (Kd.R_types x.out c.out (by decide)) (fun _ hk=>hk.2) (.slice u o.length v)) (fun _ h_=>h_.1))))) (aU bl));replace x:=Aside0.mk (Kd.R_below (by(with_reducible repeat(first|apply Kd.R_alloc|apply Kd.R_drewN|apply Kd.R_drew));exact(Kd.R_mono (Kd.R_far (p:=⟨g,5,none⟩) (Kd.R_types x.out c.out (by decide)) (fun _ hk=>hk.2) (.slice u o.length v)) (fun _ h_=>h_.1))) hb);replace J:=Aside0.mk (Kd.R_below (by(with_reducible repeat(first|apply Kd.R_alloc|apply Kd.R_drewN|apply Kd.R_drew));exact(Kd.R_mono (Kd.R_far (p:=⟨g,5,none⟩) (Kd.R_types J.out c.out (by decide)) (fun _ hk=>hk.2) (.slice u o.length v)) (fun _ h_=>h_.1))) hb);replace b:=kq b hb;replace d:=kq d hb;replace c:=kp g #[.int .i64 i, .int .i64 j, .slice q m.length r, .int .i64 l, .int .i64 n, .slice u o.length v, .slice none 0 0, .slice none 0 0] 104 hb;replace HB:=hs HB hb;obtain⟨y,z,a8⟩:=Kd.S_slice L.out;subst a8;have:=cf8 c;have:=cf8 b)|(refine gl (some 30) Tryz.func144 #[.slice X E.length Y] rfl ?_;(with_reducible refine(dz.calls k _ _ E t _ (cb a1.out) a2.out A5.out).mono ?_);rintro e b4 ⟨b0,rfl,ho0,hb⟩;refine⟨_,rfl, ?_⟩;have aE:=Aside0.mk (Kd.R_lower ho0 (aU bl));replace x:=Aside0.mk (Kd.R_below (by(with_reducible repeat(first|apply Kd.R_alloc|apply Kd.R_drewN|apply Kd.R_drew));exact(Kd.R_mono (Kd.R_far (p:=⟨g,6,none⟩) (Kd.R_types x.out c.out (by decide)) (fun _ hk=>hk.2) (.slice y s.length z)) (fun _ h_=>h_.1))) hb);replace J:=Aside0.mk (Kd.R_below (by(with_reducible repeat(first|apply Kd.R_alloc|apply Kd.R_drewN|apply Kd.R_drew));exact(Kd.R_mono (Kd.R_far (p:=⟨g,6,none⟩) (Kd.R_types J.out c.out (by decide)) (fun _ hk=>hk.2) (.slice y s.length z)) (fun _ h_=>h_.1))) hb);replace L:=Aside0.mk (Kd.S_below (by(with_reducible repeat(first|apply Kd.S_alloc|apply Kd.S_drewN|apply Kd.S_drew));exact(Kd.S_mono (Kd.S_far (p:=⟨g,6,none⟩) (Kd.S_types L.out c.out (by decide)) (fun _ hk=>hk.2) (.slice y s.length z)) (fun _ h_=>h_.1))) hb);replace b:=kq b hb;replace d:=kq d hb;replace c:=kp g #[.int .i64 i, .int .i64 j, .slice q m.length r, .int .i64 l, .int .i64 n, .slice u o.length v, .slice y s.length z, .slice none 0 0] 104 hb;replace HB:=hs HB hb;obtain⟨G,I,a9⟩:=Kd.R_slice aE.out;subst a9;have:=cf8 c;have:=cf8 d))
 refine bodyPost_ret (results_cell_row rfl _ _ a 104 #[.int .i64 i, .int .i64 j, .slice q m.length r, .int .i64 l, .int .i64 n, .slice u o.length v, .slice y s.length z, .slice G t.length I] (0,0) _ rfl (by(with_reducible repeat(first|refine ah ?_ _|refine af ?_|refine ag ?_ _));refine bg (cs:= #[.int .i64 i, .int .i64 j, .slice q m.length r, .int .i64 l, .int .i64 n, .slice u o.length v, .slice y s.length z, .slice none 0 0]) ?_ 7 _ rfl;(with_reducible repeat(first|refine ah ?_ _|refine af ?_|refine ag ?_ _));refine bg (cs:= #[.int .i64 i, .int .i64 j, .slice q m.length r, .int .i64 l, .int .i64 n, .slice u o.length v, .slice none 0 0, .slice none 0 0]) ?_ 6 _ rfl;(with_reducible repeat(first|refine ah ?_ _|refine af ?_|refine ag ?_ _));refine bg (cs:= #[.int .i64 i, .int .i64 j, .slice q m.length r, .int .i64 l, .int .i64 n, .slice none 0 0, .slice none 0 0, .slice none 0 0]) ?_ 5 _ rfl;(with_reducible repeat(first|refine ah ?_ _|refine af ?_|refine ag ?_ _));refine bg (cs:= #[.int .i64 i, .int .i64 j, .slice q m.length r, .int .i64 l, .int .i64 0, .slice none 0 0, .slice none 0 0, .slice none 0 0]) ?_ 4 _ rfl;(with_reducible repeat(first|refine ah ?_ _|refine af ?_|refine ag ?_ _));refine bg (cs:= #[.int .i64 i, .int .i64 j, .slice q m.length r, .int .i64 0, .int .i64 0, .slice none 0 0, .slice none 0 0, .slice none 0 0]) ?_ 3 _ rfl;(with_reducible repeat(first|refine ah ?_ _|refine af ?_|refine ag ?_ _));refine bg (cs:= #[.int .i64 i, .int .i64 j, .slice none 0 0, .int .i64 0, .int .i64 0, .slice none 0 0, .slice none 0 0, .slice none 0 0]) ?_ 2 _ rfl;(with_reducible repeat(first|refine ah ?_ _|refine af ?_|refine ag ?_ _));refine bg (cs:= #[.int .i64 i, .int .i64 0, .slice none 0 0, .int .i64 0, .int .i64 0, .slice none 0 0, .slice none 0 0, .slice none 0 0]) ?_ 1 _ rfl;(with_reducible repeat(first|refine ah ?_ _|refine af ?_|refine ag ?_ _));refine bg (cs:= #[.int .i64 0, .int .i64 0, .slice none 0 0, .int .i64 0, .int .i64 0, .slice none 0 0, .slice none 0 0, .slice none 0 0]) ?_ 0 _ rfl;(with_reducible repeat(first|refine ah ?_ _|refine af ?_|refine ag ?_ _));refine eX ?_ K.out _;(with_reducible repeat(first|refine ah ?_ _|refine af ?_|refine ag ?_ _));exact d.out) Tryz.underlying104 rfl (by kernel_rfl)) rfl ?_
 exact⟨_,_,_,_,by first|rfl|(simp[bz,bA]<;>rfl)|(simp[*,bz,bA]<;>rfl),by(with_reducible repeat(first|apply Kd.R_alloc|apply Kd.R_drewN|apply Kd.R_drew));exact Kd.R_mono (Kd.R_far (p:=⟨a,7,none⟩) (Kd.R_far (p:=⟨a,6,none⟩) (Kd.R_far (p:=⟨a,5,none⟩) (Kd.R_far (p:=⟨a,4,none⟩) (Kd.R_far (p:=⟨a,3,none⟩) (Kd.R_far (p:=⟨a,2,none⟩) (Kd.R_far (p:=⟨a,1,none⟩) (Kd.R_far (p:=⟨a,0,none⟩) (Kd.R_far (p:=⟨g,7,none⟩) (Kd.R_types (Kd.R_types x.out c.out (by decide)) d.out (by decide)) (fun _ hk=>hk.1.2) (.slice G t.length I)) (fun _ hk=>hk.2) (.int .i64 i)) (fun _ hk=>hk.2) (.int .i64 j)) (fun _ hk=>hk.2) (.slice q m.length r)) (fun _ hk=>hk.2) (.int .i64 l)) (fun _ hk=>hk.2) (.int .i64 n)) (fun _ hk=>hk.2) (.slice u o.length v)) (fun _ hk=>hk.2) (.slice y s.length z)) (fun _ hk=>hk.2) (.slice G t.length I)) (fun _ hk=>trivial),by(with_reducible repeat(first|apply Kd.R_alloc|apply Kd.R_drewN|apply Kd.R_drew));exact Kd.R_mono (Kd.R_far (p:=⟨a,7,none⟩) (Kd.R_far (p:=⟨a,6,none⟩) (Kd.R_far (p:=⟨a,5,none⟩) (Kd.R_far (p:=⟨a,4,none⟩) (Kd.R_far (p:=⟨a,3,none⟩) (Kd.R_far (p:=⟨a,2,none⟩) (Kd.R_far (p:=⟨a,1,none⟩) (Kd.R_far (p:=⟨a,0,none⟩) (Kd.R_far (p:=⟨g,7,none⟩) (Kd.R_types (Kd.R_types J.out c.out (by decide)) d.out (by decide)) (fun _ hk=>hk.1.2) (.slice G t.length I)) (fun _ hk=>hk.2) (.int .i64 i)) (fun _ hk=>hk.2) (.int .i64 j)) (fun _ hk=>hk.2) (.slice q m.length r)) (fun _ hk=>hk.2) (.int .i64 l)) (fun _ hk=>hk.2) (.int .i64 n)) (fun _ hk=>hk.2) (.slice u o.length v)) (fun _ hk=>hk.2) (.slice y s.length z)) (fun _ hk=>hk.2) (.slice G t.length I)) (fun _ hk=>trivial),by(with_reducible repeat(first|apply Kd.S_alloc|apply Kd.S_drewN|apply Kd.S_drew));exact Kd.S_mono (Kd.S_far (p:=⟨a,7,none⟩) (Kd.S_far (p:=⟨a,6,none⟩) (Kd.S_far (p:=⟨a,5,none⟩) (Kd.S_far (p:=⟨a,4,none⟩) (Kd.S_far (p:=⟨a,3,none⟩) (Kd.S_far (p:=⟨a,2,none⟩) (Kd.S_far (p:=⟨a,1,none⟩) (Kd.S_far (p:=⟨a,0,none⟩) (Kd.S_far (p:=⟨g,7,none⟩) (Kd.S_types (Kd.S_types L.out c.out (by decide)) d.out (by decide)) (fun _ hk=>hk.1.2) (.slice G t.length I)) (fun _ hk=>hk.2) (.int .i64 i)) (fun _ hk=>hk.2) (.int .i64 j)) (fun _ hk=>hk.2) (.slice q m.length r)) (fun _ hk=>hk.2) (.int .i64 l)) (fun _ hk=>hk.2) (.int .i64 n)) (fun _ hk=>hk.2) (.slice u o.length v)) (fun _ hk=>hk.2) (.slice y s.length z)) (fun _ hk=>hk.2) (.slice G t.length I)) (fun _ hk=>hk.1.1.2),by(with_reducible repeat(first|apply Kd.R_alloc|apply Kd.R_drewN|apply Kd.R_drew));exact Kd.R_mono (Kd.R_far (p:=⟨a,7,none⟩) (Kd.R_far (p:=⟨a,6,none⟩) (Kd.R_far (p:=⟨a,5,none⟩) (Kd.R_far (p:=⟨a,4,none⟩) (Kd.R_far (p:=⟨a,3,none⟩) (Kd.R_far (p:=⟨a,2,none⟩) (Kd.R_far (p:=⟨a,1,none⟩) (Kd.R_far (p:=⟨a,0,none⟩) (Kd.R_far (p:=⟨g,7,none⟩) (Kd.R_types (Kd.R_types aE.out c.out (by decide)) d.out (by decide)) (fun _ hk=>hk.1.2) (.slice G t.length I)) (fun _ hk=>hk.2) (.int .i64 i)) (fun _ hk=>hk.2) (.int .i64 j)) (fun _ hk=>hk.2) (.slice q m.length r)) (fun _ hk=>hk.2) (.int .i64 l)) (fun _ hk=>hk.2) (.int .i64 n)) (fun _ hk=>hk.2) (.slice u o.length v)) (fun _ hk=>hk.2) (.slice y s.length z)) (fun _ hk=>hk.2) (.slice G t.length I)) (fun _ hk=>trivial),bl⟩
set_option maxHeartbeats 8000000 in
set_option maxRecDepth 100000 in
theorem cZ.calls (k:Nat) (A0:Option Addr) (c0:Nat) (l0:List (S122)) (r:List (S104)) (w:World) (hr0:Kd.C kH w A0 l0.length l0) (hc0:l0.length≤c0) (h:cZ.f k l0=some r):
  Calls Tryz.prog 32 #[.slice A0 l0.length c0] w fun e w' => ∃cp:Value,e= .returned (cp)∧Kd.R dV 104 w' w.heap.size (fun _=>True) cp r∧Below w.heap.size w w' :=by
 have dg:=Tryz.underlying122
 have dj:=Tryz.underlying104
 have cy:=Aside0.mk hr0
 have d0:=Aside0.mk hc0
 clear hr0 hc0
 have HB:=Aside0.mk (Below.refl w.heap.size w)
 have H:(if 0≤(l0.length:Int)then(if((l0.length:Int):Int).toNat≤2199023255552 then(cZ.l0 k l0 (List.replicate ((l0.length:Int):Int).toNat iQ) 0)else(none))else(none))=some r:=h
 clear h
 by_cases c2:0≤(l0.length:Int)
 ·rw [if_pos c2]at H
  have dl:=eq_true c2
  have dp:decide (0≤(l0.length:Int))=true:=decide_eq_true c2
  clear c2
  by_cases c3:((l0.length:Int):Int).toNat≤2199023255552
  ·rw [if_pos c3]at H
   have dq:=eq_true c3
   have dr:decide (((l0.length:Int):Int).toNat≤2199023255552)=true:=decide_eq_true c3
   clear c3
   obtain⟨a7,y⟩: ∃y_:List (S104),y_=(List.replicate ((l0.length:Int):Int).toNat iQ):=⟨_,rfl⟩
   replace H:(cZ.l0 k l0 a7 0)=some r:=by first|(rw[y];with_reducible exact H)|(have A:=(Option.bind_some _ _).symm.trans H;rw[y];with_reducible exact A)|(have A:=(Option.bind_some _ _).symm.trans H;with_reducible exact A)|with_reducible exact H|(rw[y];exact H)|exact H
   have aP:=Aside0.mk y
   clear y
   have H' :=Aside0.mk H
   clear H
   go_enter Tryz.func32,Tryz.ntmps32
   go_wp2_with (first|((with_reducible refine gd 7 rfl ?_);refine Kd.R_make dV _ 104 rfl (N:=7) rfl 36 _ _ rfl (l0.length:Int) rfl rfl Tryz.underlying36 (.agg #[(.int .i64 0),(.int .i64 0),(.slice none 0 0),(.int .i64 0),(.int .i64 0),(.slice none 0 0),(.slice none 0 0),(.slice none 0 0)]) 128 uo rfl (by decide) (by omega) iQ (ok:=fun _=>True) (okp:=fun _=>True) (oN _ _ _ iQ (Kd.R_nil _ _ _ _ _) (Kd.R_nil _ _ _ _ _) (Kd.R_nil _ _ _ _ _) (Kd.R_nil _ _ _ _ _)) (fun _ hk=>hk) trivial (of_decide_eq_true (by first|(with_reducible assumption)|assumption)) (Nat.le_trans (Nat.mul_le_mul_right _ (of_decide_eq_true (by first|(with_reducible assumption)|assumption):(l0.length:Int).toNat≤2199023255552)) (by omega)) (Below.refl _ _) (Nat.le_refl _) ?_;intro cv w4 ap hb hg_ hnew_;clear hg_ hnew_;(first|rw[←aP.out]at ap|(simp only[Int.reduceToNat]at ap;rw[←aP.out]at ap));have cm:=Aside0.mk (Kd.R_lower ap (aU bl));replace HB:=hs HB hb;clear hb ap))
   go_loopg [4] k (fun kq v4 w' => ∃(c:List (S104)) (a:Int),v4= .int .i64 a∧Aside0 (cZ.l0 kq l0 c a=some r)∧Aside0 (kq≤k)∧Aside0 (Kd.R dV 104 w' w.heap.size (fun _=>True) cv c)∧Aside0 (Below w.heap.size w w'))
   case atStart=>exact⟨(a7),(0),(by first|rfl|(simp;done)|(simp[*];done)),H',⟨Nat.le_refl _⟩,⟨by(with_reducible repeat(first|apply Kd.R_alloc|apply Kd.R_drewN|apply Kd.R_drew));exact cm.out⟩,⟨bl⟩⟩
   case round=>
    clear H'
    obtain⟨c,a,rfl,HA,cq,d,HB⟩:=hrel
    cases gk with
    |zero=>exact absurd HA.out (by simp[cZ.l0])
    | succ k1=>
     have H:=HA.out
     clear HA
     simp only[cZ.l0]at H
     by_cases c6:a<(l0.length:Int)
     ·rw[if_pos c6]at H
      have cw:decide (a<(l0.length:Int))=true:=decide_eq_true c6
      clear c6
      by_cases c7:0≤a
      ·rw[if_pos c7]at H
       have ds:decide (0≤a)=true:=decide_eq_true c7
       clear c7
       replace H:=Option.bind_eq_some_iff.mp H
       obtain⟨⟨q,s,B,u,x,D,E,G⟩,cr,H⟩:=H
       replace H:(if a<(c.length:Int)then(cZ.l0 k1 l0 (c.set (a:Int).toNat (⟨q,s,B,u,x,D,E,G⟩:S104)) (wrap64 (a+1)))else(none))=some r:=H
       have A8:=Aside0.mk cr
       clear cr
       by_cases c9:a<(c.length:Int)
       ·rw[if_pos c9]at H
        have dt:decide (a<(c.length:Int))=true:=decide_eq_true c9
        clear c9
        obtain⟨aq,z⟩: ∃y_:List (S104),y_=(c.set (a:Int).toNat (⟨q,s,B,u,x,D,E,G⟩:S104)):=⟨_,rfl⟩
        replace H:(cZ.l0 k1 l0 aq (wrap64 (a+1)))=some r:=by first|(rw[z];with_reducible exact H)|(have A:=(Option.bind_some _ _).symm.trans H;rw[z];with_reducible exact A)|(have A:=(Option.bind_some _ _).symm.trans H;with_reducible exact A)|with_reducible exact H|(rw[z];exact H)|exact H
        have cn:=Aside0.mk z
        clear z
        have H' :=Aside0.mk H
        clear H
        have ar:0≤(a:Int):=od
        have aw:a<(l0.length:Int):=od
        obtain⟨dk,a8,a9,ba,bb,bc,bd,be,bh,e345,I,J,K,L,M,O,P,T,U,W,X,Y,Z,ab,ac,ad⟩:=nu cy.out a ar aw
        cases e345
        obtain⟨I,J,K,L,M,O,P,T⟩:=hc8 HB I J K L M O P T
        have aS:=Aside0.mk W
        have a0:=Aside0.mk U
        clear W U
        have a1:=Aside0.mk Y
        have a2:=Aside0.mk X
        clear Y X
        have a3:=Aside0.mk ab
        have a4:=Aside0.mk Z
        clear ab Z
        have a5:=Aside0.mk ad
        have a6:=Aside0.mk ac
        clear ad ac
        replace ar:=eq_true ar
        replace aw:=eq_true aw
        go_wp2_with (first|(refine gl (some 20) Tryz.func77 #[.agg #[.int .i64 ((aV l0 a).f0), .int .i64 ((aV l0 a).f1), .slice a8 ((aV l0 a).f2).length a9, .int .i64 ((aV l0 a).f3), .int .i64 ((aV l0 a).f4), .slice ba ((aV l0 a).f5).length bb, .slice bc ((aV l0 a).f6).length bd, .slice be ((aV l0 a).f7).length bh]] rfl ?_;(with_reducible refine(gY.calls k1 ((aV l0 a).f0) ((aV l0 a).f1) _ _ ((aV l0 a).f2) ((aV l0 a).f3) ((aV l0 a).f4) _ _ ((aV l0 a).f5) _ _ ((aV l0 a).f6) _ _ ((aV l0 a).f7) q s B u x D E G _ (cb aS.out) a0.out (cb a1.out) a2.out (cb a3.out) a4.out (cb a5.out) a6.out A8.out).mono ?_);rintro e g ⟨aB,aE,aF,aL,rfl,ho0,ho1,ho2,ho3,hb⟩;refine⟨_,rfl, ?_⟩;have al:=Aside0.mk (Kd.R_lower ho0 (aU bl));have am:=Aside0.mk (Kd.R_lower ho1 (aU bl));have an:=Aside0.mk (Kd.S_lower ho2 (aU bl));have ao:=Aside0.mk (Kd.R_lower ho3 (aU bl));replace d:=Aside0.mk (Kd.R_mono (Kd.R_told (Kd.R_told (Kd.R_told (Kd.R_told (Kd.R_old (by(with_reducible repeat(first|apply Kd.R_alloc|apply Kd.R_drewN|apply Kd.R_drew));exact d.out) hb) (Kd.R_base ho0)) (Kd.R_base ho1)) (Kd.S_base ho2)) (Kd.R_base ho3)) (fun _ h_=>h_.1));replace HB:=hs HB hb;(try clear ho1);(try clear ho2);(try clear ho3);have bj:0≤(a:Int):=od;have bk:(a:Int)<((c.length:Int):Int):=od;obtain⟨b,bm,bo,bp,cx,du,br⟩:=Kd.R_form d.out (by omega);(first|cases bo|(injection bo with ea_ en_ ec_;(first|subst ea_|(injection ea_ with ea_;subst ea_));subst ec_;clear en_));have o:=Aside0.mk bp;have dv:=Aside0.mk br;clear bp cx br;obtain⟨dy,co,bs,l,m⟩:=Kd.R_elem d.out iQ (a:Int) bj bk;obtain⟨bt,bw,b0,b1,rfl,cA,cC,cD,cE⟩:=kV bs;have cF:g.cell? ⟨b,(a:Int).toNat * 8,none⟩=some (.int .i64 ((aa c a).f0)):=l 0 _ rfl;have cG:g.cell? ⟨b,(a:Int).toNat * 8+1,none⟩=some (.int .i64 ((aa c a).f1)):=l 1 _ rfl;have cH:g.cell? ⟨b,(a:Int).toNat * 8+2,none⟩=some (bt):=l 2 _ rfl;have cI:g.cell? ⟨b,(a:Int).toNat * 8+3,none⟩=some (.int .i64 ((aa c a).f3)):=l 3 _ rfl;have cJ:g.cell? ⟨b,(a:Int).toNat * 8+4,none⟩=some (.int .i64 ((aa c a).f4)):=l 4 _ rfl;have cL:g.cell? ⟨b,(a:Int).toNat * 8+5,none⟩=some (bw):=l 5 _ rfl;have cM:g.cell? ⟨b,(a:Int).toNat * 8+6,none⟩=some (b0):=l 6 _ rfl;have cN:g.cell? ⟨b,(a:Int).toNat * 8+7,none⟩=some (b1):=l 7 _ rfl;have cP:g.frozen? ⟨b,(a:Int).toNat * 8,none⟩=false:=m 0;have cQ:g.frozen? ⟨b,(a:Int).toNat * 8+1,none⟩=false:=m 1;have cR:g.frozen? ⟨b,(a:Int).toNat * 8+2,none⟩=false:=m 2;have cS:g.frozen? ⟨b,(a:Int).toNat * 8+3,none⟩=false:=m 3;have cT:g.frozen? ⟨b,(a:Int).toNat * 8+4,none⟩=false:=m 4;have cU:g.frozen? ⟨b,(a:Int).toNat * 8+5,none⟩=false:=m 5;have cV:g.frozen? ⟨b,(a:Int).toNat * 8+6,none⟩=false:=m 6;have cW:g.frozen? ⟨b,(a:Int).toNat * 8+7,none⟩=false:=m 7;clear co l m bs;replace bj:=eq_true bj;replace bk:=eq_true bk;have n_:=Aside0.mk (Kd.R_mono (ok' :=(fun k_=>some k_≠(aB:Value).ownBlock∧some k_≠(aE:Value).ownBlock∧some k_≠(aF:Value).ownBlock∧some k_≠(aL:Value).ownBlock)) d.out (fun k_ hk=>⟨hk.1.1.1.2,⟨hk.1.1.2,⟨hk.1.2,hk.2⟩⟩⟩));clear d;have d:=n_;clear n_;have b2:=Aside0.mk (show Kd.R dV 104 g w.heap.size (fun _=>True) (.slice (some ⟨b,0,none⟩) c.length bm) c from(by(with_reducible repeat(first|apply Kd.R_alloc|apply Kd.R_drewN|apply Kd.R_drew));exact Kd.R_mono d.out (fun _ hk=>trivial)));obtain⟨dT,aR,b3,i,n⟩:=Kd.R_elem b2.out iQ (a:Int) (of_decide_eq_true (by first|(with_reducible assumption)|assumption)) (by have h_:(a:Int)<((c.length:Int):Int):=of_decide_eq_true (by first|(with_reducible assumption)|assumption);first|exact h_|(have e_:=(Kd.R_reads' d.out).1;omega)|simpa using h_);obtain⟨cX,cY,c1,da,rfl,db,dc,dd,de⟩:=kV b3;have aO:=Kd.R_seg b2.out (a:Int) (of_decide_eq_true (by first|(with_reducible assumption)|assumption)) (by have h_:(a:Int)<((c.length:Int):Int):=of_decide_eq_true (by first|(with_reducible assumption)|assumption);first|exact h_|(have e_:=(Kd.R_reads' d.out).1;omega)|simpa using h_) (seg:= [.int .i64 q, .int .i64 s,aB, .int .i64 u, .int .i64 x,aE,aF,aL]) (j:=0) aR i (show 8≤8 from by decide) (x' :=(⟨q,s,B,u,x,D,E,G⟩:S104)) (oN _ _ _ (⟨q,s,B,u,x,D,E,G⟩:S104) (Kd.R_mono (Kd.R_apart' (al.out) (Kd.R_typed d.out) (by decide)) (fun k_ hk=>⟨trivial,fun e_=>(hk.2) (by rw[e_];rfl)⟩)) (Kd.R_mono (Kd.R_apart' (am.out) (Kd.R_typed d.out) (by decide)) (fun k_ hk=>⟨trivial,fun e_=>(hk.2) (by rw[e_];rfl)⟩)) (Kd.R_mono (Kd.R_apart' ((Kd.S_R an.out)) (Kd.R_typed d.out) (by decide)) (fun k_ hk=>⟨trivial,fun e_=>(hk.2) (by rw[e_];rfl)⟩)) (Kd.R_mono (Kd.R_apart' (ao.out) (Kd.R_typed d.out) (by decide)) (fun k_ hk=>⟨trivial,fun e_=>(hk.2) (by rw[e_];rfl)⟩))) (fun _ hk=>hk);have b4:=i 0 _ rfl;(try simp only[show(dV).sz=8 from rfl,Nat.mul_one,Nat.add_zero]at b4);have b5:=n 0;(try simp only[show(dV).sz=8 from rfl,Nat.mul_one,Nat.add_zero]at b5);have b6:=i 1 _ rfl;(try simp only[show(dV).sz=8 from rfl,Nat.mul_one,Nat.add_zero]at b6);have b7:=n 1;(try simp only[show(dV).sz=8 from rfl,Nat.mul_one,Nat.add_zero]at b7);have b8:=i 2 _ rfl;(try simp only[show(dV).sz=8 from rfl,Nat.mul_one,Nat.add_zero]at b8);have b9:=n 2;(try simp only[show(dV).sz=8 from rfl,Nat.mul_one,Nat.add_zero]at b9);have ca:=i 3 _ rfl;(try simp only[show(dV).sz=8 from rfl,Nat.mul_one,Nat.add_zero]at ca);have cc:=n 3;(try simp only[show(dV).sz=8 from rfl,Nat.mul_one,Nat.add_zero]at cc);have cd:=i 4 _ rfl;(try simp only[show(dV).sz=8 from rfl,Nat.mul_one,Nat.add_zero]at cd);have ce:=n 4;(try simp only[show(dV).sz=8 from rfl,Nat.mul_one,Nat.add_zero]at ce);have cf:=i 5 _ rfl;(try simp only[show(dV).sz=8 from rfl,Nat.mul_one,Nat.add_zero]at cf);have cg:=n 5;(try simp only[show(dV).sz=8 from rfl,Nat.mul_one,Nat.add_zero]at cg);have ch:=i 6 _ rfl;(try simp only[show(dV).sz=8 from rfl,Nat.mul_one,Nat.add_zero]at ch);have ci:=n 6;(try simp only[show(dV).sz=8 from rfl,Nat.mul_one,Nat.add_zero]at ci);have cj:=i 7 _ rfl;(try simp only[show(dV).sz=8 from rfl,Nat.mul_one,Nat.add_zero]at cj);have ck:=n 7;(try simp only[show(dV).sz=8 from rfl,Nat.mul_one,Nat.add_zero]at ck);clear aR i n b3)|((with_reducible refine cB (t:=104) (p:=21) rfl ?_);refine bT (t:=104) (p:=21) (v:= ?vo_w13) (w1:=((((((((g.setCell ⟨b,(a:Int).toNat * 8,none⟩ (.int .i64 q)).setCell ⟨b,(a:Int).toNat * 8+1,none⟩ (.int .i64 s)).setCell ⟨b,(a:Int).toNat * 8+2,none⟩ (aB)).setCell ⟨b,(a:Int).toNat * 8+3,none⟩ (.int .i64 u)).setCell ⟨b,(a:Int).toNat * 8+4,none⟩ (.int .i64 x)).setCell ⟨b,(a:Int).toNat * 8+5,none⟩ (aE)).setCell ⟨b,(a:Int).toNat * 8+6,none⟩ (aF)).setCell ⟨b,(a:Int).toNat * 8+7,none⟩ (aL))) ?hg ?ho ?hn ?hr ?_;(case ho=>rfl);(case hg=>rfl);(case hn=>rfl);(case hr=>first|(go_simp;done)|(go_simp;rfl)|(obtain⟨_,_,rfl⟩:=Kd.R_slice al.out;obtain⟨_,_,rfl⟩:=Kd.R_slice am.out;obtain⟨_,_,rfl⟩:=Kd.S_slice an.out;obtain⟨_,_,rfl⟩:=Kd.R_slice ao.out;first|(go_simp;done)|(go_simp;rfl)));intro cl hw;have hg:g.grownBy cl (some b):=(by rw[hw];exact aO.2);have hp_:Kd.R dV 104 cl w.heap.size (fun _=>True) (.slice (some ⟨b,0,none⟩) c.length bm) aq:=(by rw[hw,cn.out];exact aO.1);clear aO;have cs:=Aside0.mk (hp_);have ct:=Aside0.mk ((by rw[hw];exact aK (aK (aK (aK (aK (aK (aK (aK (HB.out) o.out) o.out) o.out) o.out) o.out) o.out) o.out) o.out:Below w.heap.size w cl));clear d;clear HB;clear al;clear am;clear an;clear ao;have d:=cs;have HB:=ct;clear cs ct;clear hg hw hp_))
        go_roundg k1
        case measure=>have:=cq.out;omega
        case rel=>exact⟨(aq),(wrap64 (a+1)),(by first|rfl|(simp;done)|(simp[*];done)),H',⟨by have:=cq.out;omega⟩,⟨by(with_reducible repeat(first|apply Kd.R_alloc|apply Kd.R_drewN|apply Kd.R_drew));exact d.out⟩,⟨bl⟩⟩
       rw[if_neg c9]at H
       exact absurd H (by simp)
      rw[if_neg c7]at H
      exact absurd H (by simp)
     rw[if_neg c6]at H
     have cw:decide (a<(l0.length:Int))=false:=decide_eq_false c6
     clear c6
     obtain rfl:=Option.some.inj H;clear H
     go_wp2
     go_ret
     exact⟨_,by first|rfl|(simp[bz,bA]<;>rfl)|(simp[*,bz,bA]<;>rfl),by(with_reducible repeat(first|apply Kd.R_alloc|apply Kd.R_drewN|apply Kd.R_drew));exact d.out,bl⟩
  rw[if_neg c3]at H
  exact absurd H (by simp)
 rw[if_neg c2]at H
 exact absurd H (by simp)
set_option maxHeartbeats 8000000 in
set_option maxRecDepth 100000 in
theorem gu.calls (k:Nat) (u:Option Addr) (v:Nat) (d:List (S116)) (x:Option Addr) (y:Nat) (g:List (S122)) (r1:List (S126)) (r2:List (S104)) (w:World) (G:Kd.C kE w u d.length d) (I:d.length≤v) (J:Kd.C kH w x g.length g) (K:g.length≤y) (h:gu.f k d g=some (r1,r2)):
  Calls Tryz.prog 8 #[.agg #[.slice u d.length v, .slice x g.length y]] w fun e w' => ∃U W:Value,e= .returned (.agg #[U,W])∧Kd.S eB 126 w' w.heap.size (fun _=>True) U r1∧Kd.R dV 104 w' w.heap.size (fun _=>True) W r2∧Below w.heap.size w w' :=by
 have an:=Tryz.underlying25
 have ao:=Tryz.underlying38
 have M:=Aside0.mk G
 have O:=Aside0.mk I
 clear G I
 have P:=Aside0.mk J
 have T:=Aside0.mk K
 clear J K
 have HB:=Aside0.mk (Below.refl w.heap.size w)
 have H:((dm.f k d).bind fun i=>((cZ.f k g).bind fun j=>(some (i,j))))=some (r1,r2):=h
 clear h
 obtain⟨i,A2,H⟩:=ob H
 obtain⟨j,A3,H⟩:=ob H
 simp only[Option.some.injEq,Prod.mk.injEq]at H
 obtain⟨rfl,rfl⟩:=H
 go_enter Tryz.func8,Tryz.ntmps8
 go_wp2_with (first|((with_reducible refine gd 1 rfl ?_);refine bx 1 #[.slice u d.length v, .slice x g.length y] 25 ?_;intro Z hg w4 hbox hb;have a:=Aside0.mk hbox;have ab:=hz HB hg;replace HB:=hs HB hb;clear hb hbox hg)|((with_reducible refine gd 2 rfl ?_);refine bx 2 #[.slice none 0 0, .slice none 0 0] 38 ?_;intro l hg w5 hbox hb;have b:=Aside0.mk hbox;have ac:=hz HB hg;have z:=nl a hg;have A:=ng a hg;replace a:=kb a hb;replace HB:=hs HB hb;clear hb hbox hg)|((with_reducible refine gd 3 rfl ?_);refine bx 3 #[.slice none 0 0, .slice none 0 0] 38 ?_;intro q hg w6 hbox hb;have c:=Aside0.mk hbox;have ad:=hz HB hg;have B:=nl a hg;have D:=ng a hg;have o:=nl b hg;have E:=ng b hg;replace a:=kb a hb;replace b:=kb b hb;replace HB:=hs HB hb;clear hb hbox hg;have ap:=z.out;have aq:=A.out;have ar:=B.out;have aw:=D.out;have:=cf2 a)|(refine gl (some 6) Tryz.func31 #[.slice u d.length v] rfl ?_;(with_reducible refine(dm.calls k _ _ d i _ (cb M.out) O.out A2.out).mono ?_);rintro e aF ⟨aB,rfl,ho0,hb⟩;refine⟨_,rfl, ?_⟩;have r:=Aside0.mk (Kd.S_lower ho0 (aU bl));replace a:=kb a hb;replace b:=kb b hb;replace c:=kb c hb;replace HB:=hs HB hb;obtain⟨m,n,X⟩:=Kd.S_slice r.out;subst X;have al:=E.out;have am:=o.out;have:=cf2 c;have:=cf2 a)|(refine gl (some 10) Tryz.func32 #[.slice x g.length y] rfl ?_;(with_reducible refine(cZ.calls k _ _ g j _ (cb P.out) T.out A3.out).mono ?_);rintro e aL ⟨aE,rfl,ho0,hb⟩;refine⟨_,rfl, ?_⟩;have L:=Aside0.mk (Kd.R_lower ho0 (aU bl));replace r:=Aside0.mk (Kd.S_below (by(with_reducible repeat(first|apply Kd.S_alloc|apply Kd.S_drewN|apply Kd.S_drew));exact(Kd.S_mono (Kd.S_far (p:=⟨q,0,none⟩) (Kd.S_types r.out c.out (by decide)) (fun _ hk=>hk.2) (.slice m i.length n)) (fun _ h_=>h_.1))) hb);replace a:=kq a hb;replace b:=kq b hb;replace c:=kp q #[.slice m i.length n, .slice none 0 0] 38 hb;replace HB:=hs HB hb;obtain⟨s,t,Y⟩:=Kd.R_slice L.out;subst Y;have:=cf2 c;have:=cf2 b))
 refine bodyPost_ret (results_cell_row rfl _ _ l 38 #[.slice m i.length n, .slice s j.length t] (0,0) _ rfl (by(with_reducible repeat(first|refine ah ?_ _|refine af ?_|refine ag ?_ _));refine bg (cs:= #[.slice m i.length n, .slice none 0 0]) ?_ 1 _ rfl;(with_reducible repeat(first|refine ah ?_ _|refine af ?_|refine ag ?_ _));refine bg (cs:= #[.slice none 0 0, .slice none 0 0]) ?_ 0 _ rfl;(with_reducible repeat(first|refine ah ?_ _|refine af ?_|refine ag ?_ _));refine eX ?_ o.out _;(with_reducible repeat(first|refine ah ?_ _|refine af ?_|refine ag ?_ _));exact b.out) Tryz.underlying38 rfl (by kernel_rfl)) rfl ?_
 exact⟨_,_,by first|rfl|(simp[bz,bA]<;>rfl)|(simp[*,bz,bA]<;>rfl),by(with_reducible repeat(first|apply Kd.S_alloc|apply Kd.S_drewN|apply Kd.S_drew));exact Kd.S_mono (Kd.S_far (p:=⟨l,1,none⟩) (Kd.S_far (p:=⟨l,0,none⟩) (Kd.S_far (p:=⟨q,1,none⟩) (Kd.S_types (Kd.S_types r.out c.out (by decide)) b.out (by decide)) (fun _ hk=>hk.1.2) (.slice s j.length t)) (fun _ hk=>hk.2) (.slice m i.length n)) (fun _ hk=>hk.2) (.slice s j.length t)) (fun _ hk=>trivial),by(with_reducible repeat(first|apply Kd.R_alloc|apply Kd.R_drewN|apply Kd.R_drew));exact Kd.R_mono (Kd.R_far (p:=⟨l,1,none⟩) (Kd.R_far (p:=⟨l,0,none⟩) (Kd.R_far (p:=⟨q,1,none⟩) (Kd.R_types (Kd.R_types L.out c.out (by decide)) b.out (by decide)) (fun _ hk=>hk.1.2) (.slice s j.length t)) (fun _ hk=>hk.2) (.slice m i.length n)) (fun _ hk=>hk.2) (.slice s j.length t)) (fun _ hk=>trivial),bl⟩
set_option maxHeartbeats 8000000 in
set_option maxRecDepth 100000 in
theorem fM.calls (a:Bool) (c:Int) (b:Bool) (d:Int) (r:Bool) (w:World) (h:fM.f a c b d=some r):
  Calls Tryz.prog 38 #[.agg #[.bool a, .int .i64 c], .agg #[.bool b, .int .i64 d]] w fun e w' =>e= .returned (.bool r)∧Below w.heap.size w w' :=by
 have m:=Tryz.underlying31
 have HB:=Aside0.mk (Below.refl w.heap.size w)
 have H:(if(a !=b)=true then(some false)else(if c=d then(some true)else(some false)))=some r:=h
 clear h
 by_cases c3:(a !=b)=true
 ·rw[if_pos c3]at H
  have g:(a !=b)=true:=c3
  (try(have i:decide (a=b)=false:=by simpa using c3))
  (try(have j:(a==b)=false:=by simpa using c3))
  (try(have n: ¬(a=b):=by simpa using c3))
  clear c3
  obtain rfl:=Option.some.inj H;clear H
  go_enter Tryz.func38,Tryz.ntmps38
  go_wp2
  go_ret
  exact fin
 rw[if_neg c3]at H
 have g:(a !=b)=false:=by simpa using c3
 (try(have i:decide (a=b)=true:=by simpa using c3))
 (try(have j:(a==b)=true:=by simpa using c3))
 clear c3
 by_cases c9:c=d
 ·rw[if_pos c9]at H
  have k:=beq_iff_eq.mpr c9
  have l:=bne_eq_false_iff_eq.mpr c9
  clear c9
  obtain rfl:=Option.some.inj H;clear H
  go_enter Tryz.func38,Tryz.ntmps38
  go_wp2
  go_ret
  exact fin
 rw[if_neg c9]at H
 have k:=beq_eq_false_iff_ne.mpr c9
 have l:=bne_iff_ne.mpr c9
 obtain rfl:=Option.some.inj H;clear H
 go_enter Tryz.func38,Tryz.ntmps38
 go_wp2
 go_ret
 exact fin
def bH.T6:Bool×List (List Nat×List Nat):=(true, [([], []),([], []),([0,1], [0,1]),([2], [2]),([], []),([], []),([4,5], [4,5]),([6], [6]),([3,7], [3,7]),([8], [8])])
def bH.B6:List Nat:= [0,0,3,7,0,0,48,112,255,511]
theorem bH.tab6:dJ .any (opsOf Tryz.f151 6)=bH.T6:=by kernel_rfl
theorem bH.bits6:dY bH.T6.2 bH.B6=true:=by kernel_rfl
set_option maxHeartbeats 8000000 in
set_option maxRecDepth 100000 in
theorem bH.calls (k:Nat) (A0:Option Addr) (c0:Nat) (l0:List (S31)) (A1:Option Addr) (c1:Nat) (l1:List (S31)) (r:Bool) (w:World) (hr0:Kd.C k31 w A0 l0.length l0) (hc0:l0.length≤c0) (hr1:Kd.C k31 w A1 l1.length l1) (hc1:l1.length≤c1) (h:bH.f k l0 l1=some r):
  Calls Tryz.prog 151 #[.slice A0 l0.length c0, .slice A1 l1.length c1] w fun e w' =>e= .returned (.bool r)∧Below w.heap.size w w' :=by
 have J:=Tryz.underlying31
 have z:=Aside0.mk hr0
 have O:=Aside0.mk hc0
 clear hr0 hc0
 have HR1:=Aside0.mk hr1
 have P:=Aside0.mk hc1
 clear hr1 hc1
 have HB:=Aside0.mk (Below.refl w.heap.size w)
 have H:(if(l0.length:Int)=(l1.length:Int)then(bH.l0 k l0 l1 0)else(some false))=some r:=h
 clear h
 by_cases c3:(l0.length:Int)=(l1.length:Int)
 ·rw [if_pos c3]at H
  have B:=beq_iff_eq.mpr c3
  have D:=bne_eq_false_iff_eq.mpr c3
  have E:(l0.length==l1.length)=true:=by first|simpa using c3|(simp at c3⊢;omega)
  clear c3
  have H' :=Aside0.mk H
  clear H
  go_enter Tryz.func151,Tryz.ntmps151
  go_wp2
  go_loopg [5] k (fun kq v5 w' => ∃(a:Int),v5= .int .i64 a∧Aside0 (bH.l0 kq l0 l1 a=some r)∧Aside0 (kq≤k)∧Aside0 (Below w.heap.size w w'))
  case atStart=>exact⟨(0),(by first|rfl|(simp;done)|(simp[*];done)),H',⟨Nat.le_refl _⟩,⟨bl⟩⟩
  case round=>
   clear H'
   obtain⟨a,rfl,HA,A,HB⟩:=hrel
   cases gk with
   |zero=>exact absurd HA.out (by simp[bH.l0])
   | succ k1=>
    have H:=HA.out
    clear HA
    simp only[bH.l0]at H
    by_cases c4:a<(l0.length:Int)
    ·rw [if_pos c4]at H
     have G:decide (a<(l0.length:Int))=true:=decide_eq_true c4
     clear c4
     by_cases c5:0≤a
     ·rw[if_pos c5]at H
      have L:decide (0≤a)=true:=decide_eq_true c5
      clear c5
      by_cases c6:a<(l1.length:Int)
      ·rw[if_pos c6]at H
       have M:decide (a<(l1.length:Int))=true:=decide_eq_true c6
       clear c6
       obtain⟨I,A7,H⟩:=ob H
       by_cases c8:I=true
       ·subst c8
        replace H:=it H
        have H' :=Aside0.mk H
        clear H
        try go_wp2
        replace HB:=Aside0.mk (aC HB.out)
        have s:0≤(a:Int):=od
        have t:a<(l0.length:Int):=od
        obtain⟨p,x,b,c⟩:=jv z.out a s t
        have d:=c
        have g:=b
        cases x
        obtain⟨b,c⟩:=hc2 HB b c
        replace s:=eq_true s
        replace t:=eq_true t
        have u:0≤(a:Int):=od
        have v:a<(l1.length:Int):=od
        obtain⟨q,y,j,l⟩:=jv HR1.out a u v
        have m:=l
        have o:=j
        cases y
        obtain⟨j,l⟩:=hc2 HB j l
        replace u:=eq_true u
        replace v:=eq_true v
        refine dR (n:=10) (S:=fun w' =>w'.cell? (p.add ((a).toNat * 2))=some (.bool ((bU l0 a).f0))∧w'.cell? ⟨(p.add ((a).toNat * 2)).block,(p.add ((a).toNat * 2)).off+1,none⟩=some (.int .i64 ((bU l0 a).f1))∧w'.cell? (q.add ((a).toNat * 2))=some (.bool ((bU l1 a).f0))∧w'.cell? ⟨(q.add ((a).toNat * 2)).block,(q.add ((a).toNat * 2)).off+1,none⟩=some (.int .i64 ((bU l1 a).f1))) (ds:= []) (upto 10 0) (by kernel_rfl) rfl rfl ⟨((HB.out.cell (World.block_lt_of_cell? w _ g)).trans g),((HB.out.cell (World.block_lt_of_cell? w _ d)).trans d),((HB.out.cell (World.block_lt_of_cell? w _ o)).trans o),((HB.out.cell (World.block_lt_of_cell? w _ m)).trans m)⟩ (fun hHeld=> ?_);refine cO bH.tab6 bH.bits6 (fun HT_ HW_=> ?_)
        generalize wr.drew=w9 at HB b c j l hHeld⊢
        repeat(first|refine vN ?_|refine pN ?_|refine tN ?_)
        refine fo (i:=8) (N:=some 25) (upto 10 9) rfl rfl (d9 HT_.out (by kernel_rfl)) (by decide) (fun K hK=> ?_)
        refine gs Tryz.func38 #[.agg #[.bool ((bU l0 a).f0), .int .i64 ((bU l0 a).f1)], .agg #[.bool ((bU l1 a).f0), .int .i64 ((bU l1 a).f1)]] rfl rfl ?_
        with_reducible refine(fM.calls ((bU l0 a).f0) ((bU l0 a).f1) ((bU l1 a).f0) ((bU l1 a).f1) true _ A7.out).mono ?_
        rintro e T ⟨rfl,hb⟩
        refine⟨_,rfl, ?_⟩
        replace HB:=hs HB hb
        refine hK.out _ _ ⟨((HB.out.cell (World.block_lt_of_cell? w _ g)).trans g),((HB.out.cell (World.block_lt_of_cell? w _ d)).trans d),((HB.out.cell (World.block_lt_of_cell? w _ o)).trans o),((HB.out.cell (World.block_lt_of_cell? w _ m)).trans m)⟩ (fun hHeld=> ?_)
        clear hK K
        refine no 25 ?_
        repeat(first|refine vN ?_|refine pN ?_|refine tN ?_)
        refine eQ (dN HT_.out (by kernel_rfl)) ?_
        try go_wp2
        go_roundg k1
        case measure=>have:=A.out;omega
        case rel=>exact⟨(wrap64 (a+1)),(by first|rfl|(simp;done)|(simp[*];done)),H',⟨by have:=A.out;omega⟩,⟨bl⟩⟩
       replace c8:=Bool.eq_false_iff.mpr c8
       subst c8
       replace H:=ie H
       obtain rfl:=Option.some.inj H;clear H
       try go_wp2
       replace HB:=Aside0.mk (aC HB.out)
       have s:0≤(a:Int):=od
       have t:a<(l0.length:Int):=od
       obtain⟨p,x,b,c⟩:=jv z.out a s t
       have d:=c
       have g:=b
       cases x
       obtain⟨b,c⟩:=hc2 HB b c
       replace s:=eq_true s
       replace t:=eq_true t
       have u:0≤(a:Int):=od
       have v:a<(l1.length:Int):=od
       obtain⟨q,y,j,l⟩:=jv HR1.out a u v
       have m:=l
       have o:=j
       cases y
       obtain⟨j,l⟩:=hc2 HB j l
       replace u:=eq_true u
       replace v:=eq_true v
       refine dR (n:=10) (S:=fun w' =>w'.cell? (p.add ((a).toNat * 2))=some (.bool ((bU l0 a).f0))∧w'.cell? ⟨(p.add ((a).toNat * 2)).block,(p.add ((a).toNat * 2)).off+1,none⟩=some (.int .i64 ((bU l0 a).f1))∧w'.cell? (q.add ((a).toNat * 2))=some (.bool ((bU l1 a).f0))∧w'.cell? ⟨(q.add ((a).toNat * 2)).block,(q.add ((a).toNat * 2)).off+1,none⟩=some (.int .i64 ((bU l1 a).f1))) (ds:= []) (upto 10 0) (by kernel_rfl) rfl rfl ⟨((HB.out.cell (World.block_lt_of_cell? w _ g)).trans g),((HB.out.cell (World.block_lt_of_cell? w _ d)).trans d),((HB.out.cell (World.block_lt_of_cell? w _ o)).trans o),((HB.out.cell (World.block_lt_of_cell? w _ m)).trans m)⟩ (fun hHeld=> ?_);refine cO bH.tab6 bH.bits6 (fun HT_ HW_=> ?_)
       generalize wr.drew=U at HB b c j l hHeld⊢
       repeat(first|refine vN ?_|refine pN ?_|refine tN ?_)
       refine fo (i:=8) (N:=some 25) (upto 10 9) rfl rfl (d9 HT_.out (by kernel_rfl)) (by decide) (fun K hK=> ?_)
       refine gs Tryz.func38 #[.agg #[.bool ((bU l0 a).f0), .int .i64 ((bU l0 a).f1)], .agg #[.bool ((bU l1 a).f0), .int .i64 ((bU l1 a).f1)]] rfl rfl ?_
       with_reducible refine(fM.calls ((bU l0 a).f0) ((bU l0 a).f1) ((bU l1 a).f0) ((bU l1 a).f1) false _ A7.out).mono ?_
       rintro e W ⟨rfl,hb⟩
       refine⟨_,rfl, ?_⟩
       replace HB:=hs HB hb
       refine hK.out _ _ ⟨((HB.out.cell (World.block_lt_of_cell? w _ g)).trans g),((HB.out.cell (World.block_lt_of_cell? w _ d)).trans d),((HB.out.cell (World.block_lt_of_cell? w _ o)).trans o),((HB.out.cell (World.block_lt_of_cell? w _ m)).trans m)⟩ (fun hHeld=> ?_)
       clear hK K
       refine no 25 ?_
       repeat(first|refine vN ?_|refine pN ?_|refine tN ?_)
       refine eQ (dN HT_.out (by kernel_rfl)) ?_
       try go_wp2
       go_ret
       exact fin
      rw[if_neg c6]at H
      exact absurd H (by simp)
     rw[if_neg c5]at H
     exact absurd H (by simp)
    rw[if_neg c4]at H
    have G:decide (a<(l0.length:Int))=false:=decide_eq_false c4
    clear c4
    obtain rfl:=Option.some.inj H;clear H
    go_wp2
    go_ret
    exact fin
 rw[if_neg c3]at H
 have B:=beq_eq_false_iff_ne.mpr c3
 have D:=bne_iff_ne.mpr c3
 have E:(l0.length==l1.length)=false:=by first|simpa using c3|(simp at c3⊢;omega)
 obtain rfl:=Option.some.inj H;clear H
 go_enter Tryz.func151,Tryz.ntmps151
 go_wp2
 go_ret
 exact fin
set_option maxHeartbeats 8000000 in
set_option maxRecDepth 100000 in
theorem jc.calls (k:Nat) (j:Int) (l:Option Addr) (m:Nat) (b:List (S31)) (n:Int) (o:Option Addr) (p:Nat) (c:List (S31)) (r:Bool) (w:World) (s:Kd.C k31 w l b.length b) (t:b.length≤m) (u:Kd.C k31 w o c.length c) (v:c.length≤p) (h:jc.f k j b n c=some r):
  Calls Tryz.prog 84 #[.agg #[.int .i64 j, .slice l b.length m], .agg #[.int .i64 n, .slice o c.length p]] w fun e w' =>e= .returned (.bool r)∧Below w.heap.size w w' :=by
 have M:=Tryz.underlying91
 have x:=Aside0.mk s
 have y:=Aside0.mk t
 clear s t
 have z:=Aside0.mk u
 have A:=Aside0.mk v
 clear u v
 have HB:=Aside0.mk (Below.refl w.heap.size w)
 have H:(if j=n then((bH.f k b c).bind fun q=>(if q=true then(some true)else(some false)))else(some false))=some r:=h
 clear h
 by_cases c3:j=n
 ·rw[if_pos c3]at H
  have I:=beq_iff_eq.mpr c3
  have J:=bne_eq_false_iff_eq.mpr c3
  clear c3
  obtain⟨q,A4,H⟩:=ob H
  by_cases c5:q=true
  ·subst c5
   replace H:=it H
   obtain rfl:=Option.some.inj H;clear H
   go_enter Tryz.func84,Tryz.ntmps84
   go_wp2_with (first|((with_reducible refine gd 2 rfl ?_);refine bx 2 #[.int .i64 j, .slice l b.length m] 91 ?_;intro B hg w6 hbox hb;have a:=Aside0.mk hbox;have D:=hz HB hg;replace HB:=hs HB hb;clear hb hbox hg)|((with_reducible refine gd 3 rfl ?_);refine bx 3 #[.int .i64 n, .slice o c.length p] 91 ?_;intro E hg w7 hbox hb;have d:=Aside0.mk hbox;have G:=hz HB hg;have g:=nl a hg;have i:=ng a hg;replace a:=kb a hb;replace HB:=hs HB hb;clear hb hbox hg;have O:=g.out;have P:=i.out;have:=cf2 a;have:=cf2 d)|(refine gl (some 14) Tryz.func151 #[.slice l b.length m, .slice o c.length p] rfl ?_;(with_reducible refine(bH.calls k _ _ b _ _ c true _ (cb x.out) y.out (cb z.out) A.out A4.out).mono ?_);rintro e T ⟨rfl,hb⟩;refine⟨_,rfl, ?_⟩;replace a:=kb a hb;replace d:=kb d hb;replace HB:=hs HB hb))
   go_ret
   exact fin
  replace c5:=Bool.eq_false_iff.mpr c5
  subst c5
  replace H:=ie H
  obtain rfl:=Option.some.inj H;clear H
  go_enter Tryz.func84,Tryz.ntmps84
  go_wp2_with (first|((with_reducible refine gd 2 rfl ?_);refine bx 2 #[.int .i64 j, .slice l b.length m] 91 ?_;intro B hg U hbox hb;have a:=Aside0.mk hbox;have D:=hz HB hg;replace HB:=hs HB hb;clear hb hbox hg)|((with_reducible refine gd 3 rfl ?_);refine bx 3 #[.int .i64 n, .slice o c.length p] 91 ?_;intro E hg W hbox hb;have d:=Aside0.mk hbox;have G:=hz HB hg;have g:=nl a hg;have i:=ng a hg;replace a:=kb a hb;replace HB:=hs HB hb;clear hb hbox hg;have K:=g.out;have L:=i.out;have:=cf2 a;have:=cf2 d)|(refine gl (some 14) Tryz.func151 #[.slice l b.length m, .slice o c.length p] rfl ?_;(with_reducible refine(bH.calls k _ _ b _ _ c false _ (cb x.out) y.out (cb z.out) A.out A4.out).mono ?_);rintro e X ⟨rfl,hb⟩;refine⟨_,rfl, ?_⟩;replace a:=kb a hb;replace d:=kb d hb;replace HB:=hs HB hb))
  go_ret
  exact fin
 rw[if_neg c3]at H
 have I:=beq_eq_false_iff_ne.mpr c3
 have J:=bne_iff_ne.mpr c3
 obtain rfl:=Option.some.inj H;clear H
 go_enter Tryz.func84,Tryz.ntmps84
 go_wp2
 go_ret
 exact fin
def bO.T6:Bool×List (List Nat×List Nat):=(true, [([], []),([], []),([0,1], [0,1]),([2], [2]),([], []),([], []),([4,5], [4,5]),([6], [6]),([3,7], [3,7]),([8], [8])])
def bO.B6:List Nat:= [0,0,3,7,0,0,48,112,255,511]
theorem bO.tab6:dJ .any (opsOf Tryz.f35 6)=bO.T6:=by kernel_rfl
theorem bO.bits6:dY bO.T6.2 bO.B6=true:=by kernel_rfl
set_option maxHeartbeats 8000000 in
set_option maxRecDepth 100000 in
theorem bO.calls (k:Nat) (A0:Option Addr) (c0:Nat) (l0:List (S91)) (A1:Option Addr) (c1:Nat) (l1:List (S91)) (r:Bool) (w:World) (hr0:Kd.C k91 w A0 l0.length l0) (hc0:l0.length≤c0) (hr1:Kd.C k91 w A1 l1.length l1) (hc1:l1.length≤c1) (h:bO.f k l0 l1=some r):
  Calls Tryz.prog 35 #[.slice A0 l0.length c0, .slice A1 l1.length c1] w fun e w' =>e= .returned (.bool r)∧Below w.heap.size w w' :=by
 have ac:=Tryz.underlying91
 have T:=Aside0.mk hr0
 have am:=Aside0.mk hc0
 clear hr0 hc0
 have HR1:=Aside0.mk hr1
 have an:=Aside0.mk hc1
 clear hr1 hc1
 have HB:=Aside0.mk (Below.refl w.heap.size w)
 have H:(if(l0.length:Int)=(l1.length:Int)then(bO.l0 k l0 l1 0)else(some false))=some r:=h
 clear h
 by_cases c3:(l0.length:Int)=(l1.length:Int)
 ·rw [if_pos c3]at H
  have W:=beq_iff_eq.mpr c3
  have X:=bne_eq_false_iff_eq.mpr c3
  have Y:(l0.length==l1.length)=true:=by first|simpa using c3|(simp at c3⊢;omega)
  clear c3
  have H' :=Aside0.mk H
  clear H
  go_enter Tryz.func35,Tryz.ntmps35
  go_wp2
  go_loopg [5] k (fun kq v5 w' => ∃(a:Int),v5= .int .i64 a∧Aside0 (bO.l0 kq l0 l1 a=some r)∧Aside0 (kq≤k)∧Aside0 (Below w.heap.size w w'))
  case atStart=>exact⟨(0),(by first|rfl|(simp;done)|(simp[*];done)),H',⟨Nat.le_refl _⟩,⟨bl⟩⟩
  case round=>
   clear H'
   obtain⟨a,rfl,HA,U,HB⟩:=hrel
   cases gk with
   |zero=>exact absurd HA.out (by simp[bO.l0])
   | succ k1=>
    have H:=HA.out
    clear HA
    simp only[bO.l0]at H
    by_cases c4:a<(l0.length:Int)
    ·rw [if_pos c4]at H
     have Z:decide (a<(l0.length:Int))=true:=decide_eq_true c4
     clear c4
     by_cases c5:0≤a
     ·rw[if_pos c5]at H
      have ad:decide (0≤a)=true:=decide_eq_true c5
      clear c5
      by_cases c6:a<(l1.length:Int)
      ·rw[if_pos c6]at H
       have al:decide (a<(l1.length:Int))=true:=decide_eq_true c6
       clear c6
       obtain⟨ab,A7,H⟩:=ob H
       by_cases c8:ab=true
       ·subst c8
        replace H:=it H
        have H' :=Aside0.mk H
        clear H
        try go_wp2
        replace HB:=Aside0.mk (aC HB.out)
        have E:0≤(a:Int):=od
        have G:a<(l0.length:Int):=od
        obtain⟨x,z,A,O,b,c,p,q⟩:=jw T.out a E G
        have d:=c
        have g:=b
        cases O
        obtain⟨b,c⟩:=hc2 HB b c
        have s:=Aside0.mk q
        have L:=Aside0.mk p
        clear q p
        replace E:=eq_true E
        replace G:=eq_true G
        have I:0≤(a:Int):=od
        have J:a<(l1.length:Int):=od
        obtain⟨y,B,D,P,j,l,t,u⟩:=jw HR1.out a I J
        have m:=l
        have o:=j
        cases P
        obtain⟨j,l⟩:=hc2 HB j l
        have v:=Aside0.mk u
        have M:=Aside0.mk t
        clear u t
        replace I:=eq_true I
        replace J:=eq_true J
        refine dR (n:=10) (S:=fun w' =>w'.cell? (x.add ((a).toNat * 2))=some (.int .i64 ((dh l0 a).f0))∧w'.cell? ⟨(x.add ((a).toNat * 2)).block,(x.add ((a).toNat * 2)).off+1,none⟩=some (.slice z ((dh l0 a).f1).length A)∧w'.cell? (y.add ((a).toNat * 2))=some (.int .i64 ((dh l1 a).f0))∧w'.cell? ⟨(y.add ((a).toNat * 2)).block,(y.add ((a).toNat * 2)).off+1,none⟩=some (.slice B ((dh l1 a).f1).length D)) (ds:= []) (upto 10 0) (by kernel_rfl) rfl rfl ⟨((HB.out.cell (World.block_lt_of_cell? w _ g)).trans g),((HB.out.cell (World.block_lt_of_cell? w _ d)).trans d),((HB.out.cell (World.block_lt_of_cell? w _ o)).trans o),((HB.out.cell (World.block_lt_of_cell? w _ m)).trans m)⟩ (fun hHeld=> ?_);refine cO bO.tab6 bO.bits6 (fun HT_ HW_=> ?_)
        generalize wr.drew=w9 at HB s v b c j l hHeld⊢
        repeat(first|refine vN ?_|refine pN ?_|refine tN ?_)
        refine fo (i:=8) (N:=some 25) (upto 10 9) rfl rfl (d9 HT_.out (by kernel_rfl)) (by decide) (fun K hK=> ?_)
        refine gs Tryz.func84 #[.agg #[.int .i64 ((dh l0 a).f0), .slice z ((dh l0 a).f1).length A], .agg #[.int .i64 ((dh l1 a).f0), .slice B ((dh l1 a).f1).length D]] rfl rfl ?_
        with_reducible refine(jc.calls k1 ((dh l0 a).f0) _ _ ((dh l0 a).f1) ((dh l1 a).f0) _ _ ((dh l1 a).f1) true _ (cb s.out) L.out (cb v.out) M.out A7.out).mono ?_
        rintro e ao ⟨rfl,hb⟩
        refine⟨_,rfl, ?_⟩
        replace HB:=hs HB hb
        refine hK.out _ _ ⟨((HB.out.cell (World.block_lt_of_cell? w _ g)).trans g),((HB.out.cell (World.block_lt_of_cell? w _ d)).trans d),((HB.out.cell (World.block_lt_of_cell? w _ o)).trans o),((HB.out.cell (World.block_lt_of_cell? w _ m)).trans m)⟩ (fun hHeld=> ?_)
        clear hK K
        refine no 25 ?_
        repeat(first|refine vN ?_|refine pN ?_|refine tN ?_)
        refine eQ (dN HT_.out (by kernel_rfl)) ?_
        try go_wp2
        go_roundg k1
        case measure=>have:=U.out;omega
        case rel=>exact⟨(wrap64 (a+1)),(by first|rfl|(simp;done)|(simp[*];done)),H',⟨by have:=U.out;omega⟩,⟨bl⟩⟩
       replace c8:=Bool.eq_false_iff.mpr c8
       subst c8
       replace H:=ie H
       obtain rfl:=Option.some.inj H;clear H
       try go_wp2
       replace HB:=Aside0.mk (aC HB.out)
       have E:0≤(a:Int):=od
       have G:a<(l0.length:Int):=od
       obtain⟨x,z,A,O,b,c,p,q⟩:=jw T.out a E G
       have d:=c
       have g:=b
       cases O
       obtain⟨b,c⟩:=hc2 HB b c
       have s:=Aside0.mk q
       have L:=Aside0.mk p
       clear q p
       replace E:=eq_true E
       replace G:=eq_true G
       have I:0≤(a:Int):=od
       have J:a<(l1.length:Int):=od
       obtain⟨y,B,D,P,j,l,t,u⟩:=jw HR1.out a I J
       have m:=l
       have o:=j
       cases P
       obtain⟨j,l⟩:=hc2 HB j l
       have v:=Aside0.mk u
       have M:=Aside0.mk t
       clear u t
       replace I:=eq_true I
       replace J:=eq_true J
       refine dR (n:=10) (S:=fun w' =>w'.cell? (x.add ((a).toNat * 2))=some (.int .i64 ((dh l0 a).f0))∧w'.cell? ⟨(x.add ((a).toNat * 2)).block,(x.add ((a).toNat * 2)).off+1,none⟩=some (.slice z ((dh l0 a).f1).length A)∧w'.cell? (y.add ((a).toNat * 2))=some (.int .i64 ((dh l1 a).f0))∧w'.cell? ⟨(y.add ((a).toNat * 2)).block,(y.add ((a).toNat * 2)).off+1,none⟩=some (.slice B ((dh l1 a).f1).length D)) (ds:= []) (upto 10 0) (by kernel_rfl) rfl rfl ⟨((HB.out.cell (World.block_lt_of_cell? w _ g)).trans g),((HB.out.cell (World.block_lt_of_cell? w _ d)).trans d),((HB.out.cell (World.block_lt_of_cell? w _ o)).trans o),((HB.out.cell (World.block_lt_of_cell? w _ m)).trans m)⟩ (fun hHeld=> ?_);refine cO bO.tab6 bO.bits6 (fun HT_ HW_=> ?_)
       generalize wr.drew=ap at HB s v b c j l hHeld⊢
       repeat(first|refine vN ?_|refine pN ?_|refine tN ?_)
       refine fo (i:=8) (N:=some 25) (upto 10 9) rfl rfl (d9 HT_.out (by kernel_rfl)) (by decide) (fun K hK=> ?_)
       refine gs Tryz.func84 #[.agg #[.int .i64 ((dh l0 a).f0), .slice z ((dh l0 a).f1).length A], .agg #[.int .i64 ((dh l1 a).f0), .slice B ((dh l1 a).f1).length D]] rfl rfl ?_
       with_reducible refine(jc.calls k1 ((dh l0 a).f0) _ _ ((dh l0 a).f1) ((dh l1 a).f0) _ _ ((dh l1 a).f1) false _ (cb s.out) L.out (cb v.out) M.out A7.out).mono ?_
       rintro e aq ⟨rfl,hb⟩
       refine⟨_,rfl, ?_⟩
       replace HB:=hs HB hb
       refine hK.out _ _ ⟨((HB.out.cell (World.block_lt_of_cell? w _ g)).trans g),((HB.out.cell (World.block_lt_of_cell? w _ d)).trans d),((HB.out.cell (World.block_lt_of_cell? w _ o)).trans o),((HB.out.cell (World.block_lt_of_cell? w _ m)).trans m)⟩ (fun hHeld=> ?_)
       clear hK K
       refine no 25 ?_
       repeat(first|refine vN ?_|refine pN ?_|refine tN ?_)
       refine eQ (dN HT_.out (by kernel_rfl)) ?_
       try go_wp2
       go_ret
       exact fin
      rw[if_neg c6]at H
      exact absurd H (by simp)
     rw[if_neg c5]at H
     exact absurd H (by simp)
    rw[if_neg c4]at H
    have Z:decide (a<(l0.length:Int))=false:=decide_eq_false c4
    clear c4
    obtain rfl:=Option.some.inj H;clear H
    go_wp2
    go_ret
    exact fin
 rw[if_neg c3]at H
 have W:=beq_eq_false_iff_ne.mpr c3
 have X:=bne_iff_ne.mpr c3
 have Y:(l0.length==l1.length)=false:=by first|simpa using c3|(simp at c3⊢;omega)
 obtain rfl:=Option.some.inj H;clear H
 go_enter Tryz.func35,Tryz.ntmps35
 go_wp2
 go_ret
 exact fin
end Go.Proofs.YteinbmkgenhocaaGreat.P
end
