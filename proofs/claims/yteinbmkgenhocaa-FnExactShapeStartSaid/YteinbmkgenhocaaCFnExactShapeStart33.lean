/- A part of the claim FnExactShapeStart: texts of this session and texts that its program printed out of the translation, joined. -/
import Derived.Test.YteinbmkgenhocaaCFnExactShapeStart32
section
namespace Go.Proofs.Yteinbmkgenhocaa.P
open Go.RowKit Go.Proofs.YteinbmkgenhocaaW.PrintWords Go.Proofs.YteinbmkgenhocaaW.PrintLast Go.Proofs.YteinbmkgenhocaaW.PrintMore
attribute [local go_sem] ak au aA aC ai aj av ax
set_option linter.unusedVariables false
set_option linter.unusedSimpArgs false
set_option maxHeartbeats 8000000 in
set_option maxRecDepth 100000 in
theorem dC.calls (k:Nat) (l:Option Addr) (m:Nat) (d:List (S71)) (n:Option Addr) (o:Nat) (a:List (S50)) (a1:Int) (r1:Bool) (r2:List Int) (r3:List Int) (w:World) (an:Kd.C k71 w l d.length d) (ao:d.length≤m) (ap:Kd.C k50 w n a.length a) (aq:a.length≤o) (h:dC.f k d a a1=some (r1,r2,r3)):
  Calls Try.prog 7 #[.agg #[.slice l d.length m, .slice n a.length o], .int .i64 a1] w fun e w' => ∃a6 a7:Value,e= .returned (.agg #[.bool r1,a6,a7])∧Kd.R (Kd.int .i64) 3 w' w.heap.size (fun k_=>some k_≠(a7:Value).ownBlock) a6 r2∧Kd.R (Kd.int .i64) 3 w' w.heap.size (fun k_=>some k_≠(a6:Value).ownBlock) a7 r3∧Below w.heap.size w w' :=by
 have b3:=Try.underlying34
 have b4:=Try.underlying29
 have b5:=Try.underlying50
 have s:=Aside0.mk an
 have t:=Aside0.mk ao
 clear an ao
 have q:=Aside0.mk ap
 have u:=Aside0.mk aq
 clear ap aq
 have HB:=Aside0.mk (Below.refl w.heap.size w)
 have H:((bg.f k d a).bind fun Z=>(if Z=true then((fT.f d a a1).bind fun ab=>(if ab=true then(if 0≤a1 then(if a1<(a.length:Int)then((eH.f ((aa a a1).f0) ((aa a a1).f1) ((aa a a1).f2) ((aa a a1).f3) ((aa a a1).f4) ((aa a a1).f5) ((aa a a1).f6) ((aa a a1).f7)).bind fun W=>(some (W.1,W.2.1,W.2.2)))else(none))else(none))else(some (false,([]:List Int),([]:List Int)))))else(some (false,([]:List Int),([]:List Int)))))=some (r1,r2,r3):=h
 clear h
 obtain⟨Z,A3,H⟩:=ob H
 by_cases c4:Z=true
 ·subst c4
  replace H:=it H
  obtain⟨ab,A5,H⟩:=ob H
  by_cases c6:ab=true
  ·subst c6
   replace H:=it H
   by_cases c7:0≤a1
   ·rw[if_pos c7]at H
    have b6:decide (0≤a1)=true:=decide_eq_true c7
    clear c7
    by_cases c8:a1<(a.length:Int)
    ·rw[if_pos c8]at H
     have b7:decide (a1<(a.length:Int))=true:=decide_eq_true c8
     clear c8
     replace H:=Option.bind_eq_some_iff.mp H
     obtain⟨⟨r,v,x⟩,bj,H⟩:=H
     replace H:(some (r,v,x))=some (r1,r2,r3):=H
     have A9:=Aside0.mk bj
     clear bj
     simp only[Option.some.injEq,Prod.mk.injEq]at H
     obtain⟨rfl,rfl,rfl⟩:=H
     go_enter Try.func7,Try.ntmps7
     go_wp2_with (first|((with_reducible refine gd 2 rfl ?_);refine bx 2 #[.slice l d.length m, .slice n a.length o] 34 ?_;intro ar hg ca hbox hb;have b:=Aside0.mk hbox;have aw:=hz HB hg;have aB:=hz HB hg;replace HB:=hs HB hb;clear hb hbox hg)|((with_reducible refine gd 4 rfl ?_);refine bx 4 #[.bool false, .slice none 0 0, .slice none 0 0] 29 ?_;intro g hg cc hbox hb;have c:=Aside0.mk hbox;have aE:=hz HB hg;have aF:=hz HB hg;have i:=nl b hg;have j:=ng b hg;replace b:=kb b hb;replace HB:=hs HB hb;clear hb hbox hg;have bp:=i.out;have br:=j.out;obtain⟨_,_,_,_⟩:=cf2 b)|((with_reducible refine gc 20 rfl ?_);refine gl (some 6) Try.func20 #[.agg #[.slice l d.length m, .slice n a.length o]] rfl ?_;(with_reducible refine(bg.calls k _ _ d _ _ a true _ ?s1 ?s2 ?s3 ?s4 A3.out).mono ?_);(case s1=>exact cb s.out);(case s2=>exact t.out);(case s3=>exact cb q.out);(case s4=>exact u.out);rintro e cd ⟨rfl,hb⟩;refine⟨_,rfl, ?_⟩;replace b:=kb b hb;replace c:=kb c hb;replace HB:=hs HB hb;(try clear hb);obtain⟨_,_,_,_⟩:=cf2 b)|(go_at_call 21;(with_reducible refine(fT.calls _ _ d _ _ a a1 true _ ?s1 ?s2 ?s3 ?s4 A5.out).mono ?_);(case s1=>exact cb s.out);(case s2=>exact t.out);(case s3=>exact cb q.out);(case s4=>exact u.out);rintro e w16 ⟨rfl,hb⟩;replace b:=kb b hb;replace c:=kb c hb;replace HB:=hs HB hb;(try clear hb);obtain⟨_,_,_,_⟩:=cf2 b;have ac:0≤(a1:Int):=od;have ad:a1<(a.length:Int):=od;obtain⟨bs,a8,a9,ba,bb,bc,bd,be,bh,bk,y,z,A,B,D,E,G,I,J,K,L,M,O,P,T,U⟩:=dx q.out a1 ac ad;cases bk;obtain⟨y,z,A,B,D,E,G,I⟩:=hc8 HB y z A B D E G I;have aP:=Aside0.mk K;have aR:=Aside0.mk J;clear K J;have aS:=Aside0.mk M;have a0:=Aside0.mk L;clear M L;have a2:=Aside0.mk P;have a3:=Aside0.mk O;clear P O;have a4:=Aside0.mk U;have a5:=Aside0.mk T;clear U T;replace ac:=eq_true ac;replace ad:=eq_true ad)|((with_reducible refine gc 22 rfl ?_);refine gl (some 20) Try.func22 #[.agg #[.int .i64 ((aa a a1).f0), .int .i64 ((aa a a1).f1), .slice a8 ((aa a a1).f2).length a9, .int .i64 ((aa a a1).f3), .int .i64 ((aa a a1).f4), .slice ba ((aa a a1).f5).length bb, .slice bc ((aa a a1).f6).length bd, .slice be ((aa a a1).f7).length bh]] rfl ?_;(with_reducible refine(eH.calls ((aa a a1).f0) ((aa a a1).f1) _ _ ((aa a a1).f2) ((aa a a1).f3) ((aa a a1).f4) _ _ ((aa a a1).f5) _ _ ((aa a a1).f6) _ _ ((aa a a1).f7) r v x _ ?s1 ?s2 ?s3 ?s4 ?s5 ?s6 ?s7 ?s8 A9.out).mono ?_);(case s1=>exact cb aP.out);(case s2=>exact aR.out);(case s3=>exact cb aS.out);(case s4=>exact a0.out);(case s5=>exact cb a2.out);(case s6=>exact a3.out);(case s7=>exact cb a4.out);(case s8=>exact a5.out);rintro e ce ⟨b8,b9,rfl,ho0,ho1,hb⟩;refine⟨_,rfl, ?_⟩;have aL:=Aside0.mk (Kd.R_lower ho0 (aK bl));have aO:=Aside0.mk (Kd.R_lower ho1 (aK bl));replace b:=kb b hb;replace c:=kb c hb;replace HB:=hs HB hb;(try clear hb);(try clear ho0);(try clear ho1);obtain⟨_,_,_,_,_,_⟩:=cf3 c;obtain⟨X,Y,bm⟩:=Kd.R_slice aL.out;subst bm;obtain⟨al,am,bo⟩:=Kd.R_slice aO.out;subst bo))
     refine bodyPost_ret (results_cell_row rfl _ _ g 29 #[.bool r, .slice X v.length Y, .slice al x.length am] (0,0) _ rfl (by(with_reducible repeat(first|refine ah ?_ _|refine af ?_|refine ag ?_ _));refine bH (cs:= #[.bool r, .slice X v.length Y, .slice none 0 0]) ?_ 2 _ rfl;(with_reducible repeat(first|refine ah ?_ _|refine af ?_|refine ag ?_ _));refine bH (cs:= #[.bool r, .slice none 0 0, .slice none 0 0]) ?_ 1 _ rfl;(with_reducible repeat(first|refine ah ?_ _|refine af ?_|refine ag ?_ _));refine bH (cs:= #[.bool false, .slice none 0 0, .slice none 0 0]) ?_ 0 _ rfl;(with_reducible repeat(first|refine ah ?_ _|refine af ?_|refine ag ?_ _));exact c.out) Try.underlying29 rfl (by kernel_rfl)) rfl ?_
     exact⟨_,_,by first|rfl|(simp[aY,aZ]<;>rfl)|(simp[*,aY,aZ]<;>rfl),by(with_reducible repeat(first|apply Kd.R_alloc|apply Kd.R_drewN|apply Kd.R_drew));exact Kd.R_mono (Kd.R_far (p:=⟨g,2,none⟩) (Kd.R_far (p:=⟨g,1,none⟩) (Kd.R_far (p:=⟨g,0,none⟩) (Kd.R_types aL.out c.out (by decide)) (fun _ hk=>hk.2) (.bool r)) (fun _ hk=>hk.2) (.slice X v.length Y)) (fun _ hk=>hk.2) (.slice al x.length am)) (fun _ hk=>hk.1),by(with_reducible repeat(first|apply Kd.R_alloc|apply Kd.R_drewN|apply Kd.R_drew));exact Kd.R_mono (Kd.R_far (p:=⟨g,2,none⟩) (Kd.R_far (p:=⟨g,1,none⟩) (Kd.R_far (p:=⟨g,0,none⟩) (Kd.R_types aO.out c.out (by decide)) (fun _ hk=>hk.2) (.bool r)) (fun _ hk=>hk.2) (.slice X v.length Y)) (fun _ hk=>hk.2) (.slice al x.length am)) (fun _ hk=>hk.1),bl⟩
    ·rw[if_neg c8]at H
     exact absurd H (by simp)
   ·rw[if_neg c7]at H
    exact absurd H (by simp)
  ·replace c6:=Bool.eq_false_iff.mpr c6
   subst c6
   replace H:=ie H
   simp only[Option.some.injEq,Prod.mk.injEq]at H
   obtain⟨rfl,rfl,rfl⟩:=H
   go_enter Try.func7,Try.ntmps7
   go_wp2_with (first|((with_reducible refine gd 2 rfl ?_);refine bx 2 #[.slice l d.length m, .slice n a.length o] 34 ?_;intro ar hg cf hbox hb;have b:=Aside0.mk hbox;have aw:=hz HB hg;have aB:=hz HB hg;replace HB:=hs HB hb;clear hb hbox hg)|((with_reducible refine gd 4 rfl ?_);refine bx 4 #[.bool false, .slice none 0 0, .slice none 0 0] 29 ?_;intro g hg cg hbox hb;have c:=Aside0.mk hbox;have aE:=hz HB hg;have aF:=hz HB hg;have i:=nl b hg;have j:=ng b hg;replace b:=kb b hb;replace HB:=hs HB hb;clear hb hbox hg;have bw:=i.out;have b0:=j.out;obtain⟨_,_,_,_⟩:=cf2 b)|((with_reducible refine gc 20 rfl ?_);refine gl (some 6) Try.func20 #[.agg #[.slice l d.length m, .slice n a.length o]] rfl ?_;(with_reducible refine(bg.calls k _ _ d _ _ a true _ ?s1 ?s2 ?s3 ?s4 A3.out).mono ?_);(case s1=>exact cb s.out);(case s2=>exact t.out);(case s3=>exact cb q.out);(case s4=>exact u.out);rintro e ch ⟨rfl,hb⟩;refine⟨_,rfl, ?_⟩;replace b:=kb b hb;replace c:=kb c hb;replace HB:=hs HB hb;(try clear hb);obtain⟨_,_,_,_⟩:=cf2 b)|(go_at_call 21;(with_reducible refine(fT.calls _ _ d _ _ a a1 false _ ?s1 ?s2 ?s3 ?s4 A5.out).mono ?_);(case s1=>exact cb s.out);(case s2=>exact t.out);(case s3=>exact cb q.out);(case s4=>exact u.out);rintro e ci ⟨rfl,hb⟩;replace b:=kb b hb;replace c:=kb c hb;replace HB:=hs HB hb;(try clear hb);obtain⟨_,_,_,_,_,_⟩:=cf3 c))
   refine bodyPost_ret (results_cell_row rfl _ _ g 29 #[.bool false, .slice none 0 0, .slice none 0 0] (0,0) _ rfl (by(with_reducible repeat(first|refine ah ?_ _|refine af ?_|refine ag ?_ _));refine bH (cs:= #[.bool false, .slice none 0 0, .slice none 0 0]) ?_ 2 _ rfl;(with_reducible repeat(first|refine ah ?_ _|refine af ?_|refine ag ?_ _));refine bH (cs:= #[.bool false, .slice none 0 0, .slice none 0 0]) ?_ 1 _ rfl;(with_reducible repeat(first|refine ah ?_ _|refine af ?_|refine ag ?_ _));refine bH (cs:= #[.bool false, .slice none 0 0, .slice none 0 0]) ?_ 0 _ rfl;(with_reducible repeat(first|refine ah ?_ _|refine af ?_|refine ag ?_ _));exact c.out) Try.underlying29 rfl (by kernel_rfl)) rfl ?_
   exact⟨_,_,by first|rfl|(simp[aY,aZ]<;>rfl)|(simp[*,aY,aZ]<;>rfl),by first|exact Kd.R_nil _ _ _ _ _|exact Kd.N_nil _ _ _ _ _|exact Kd.V_nil _ _ _ _ _|exact Kd.Q_nil _ _ _ _ _|exact Kd.S_nil _ _ _ _ _,by first|exact Kd.R_nil _ _ _ _ _|exact Kd.N_nil _ _ _ _ _|exact Kd.V_nil _ _ _ _ _|exact Kd.Q_nil _ _ _ _ _|exact Kd.S_nil _ _ _ _ _,bl⟩
 ·replace c4:=Bool.eq_false_iff.mpr c4
  subst c4
  replace H:=ie H
  simp only[Option.some.injEq,Prod.mk.injEq]at H
  obtain⟨rfl,rfl,rfl⟩:=H
  go_enter Try.func7,Try.ntmps7
  go_wp2_with (first|((with_reducible refine gd 2 rfl ?_);refine bx 2 #[.slice l d.length m, .slice n a.length o] 34 ?_;intro ar hg cj hbox hb;have b:=Aside0.mk hbox;have aw:=hz HB hg;have aB:=hz HB hg;replace HB:=hs HB hb;clear hb hbox hg)|((with_reducible refine gd 4 rfl ?_);refine bx 4 #[.bool false, .slice none 0 0, .slice none 0 0] 29 ?_;intro g hg ck hbox hb;have c:=Aside0.mk hbox;have aE:=hz HB hg;have aF:=hz HB hg;have i:=nl b hg;have j:=ng b hg;replace b:=kb b hb;replace HB:=hs HB hb;clear hb hbox hg;have b1:=i.out;have b2:=j.out;obtain⟨_,_,_,_⟩:=cf2 b)|((with_reducible refine gc 20 rfl ?_);refine gl (some 6) Try.func20 #[.agg #[.slice l d.length m, .slice n a.length o]] rfl ?_;(with_reducible refine(bg.calls k _ _ d _ _ a false _ ?s1 ?s2 ?s3 ?s4 A3.out).mono ?_);(case s1=>exact cb s.out);(case s2=>exact t.out);(case s3=>exact cb q.out);(case s4=>exact u.out);rintro e cl ⟨rfl,hb⟩;refine⟨_,rfl, ?_⟩;replace b:=kb b hb;replace c:=kb c hb;replace HB:=hs HB hb;(try clear hb);obtain⟨_,_,_,_,_,_⟩:=cf3 c))
  refine bodyPost_ret (results_cell_row rfl _ _ g 29 #[.bool false, .slice none 0 0, .slice none 0 0] (0,0) _ rfl (by(with_reducible repeat(first|refine ah ?_ _|refine af ?_|refine ag ?_ _));refine bH (cs:= #[.bool false, .slice none 0 0, .slice none 0 0]) ?_ 2 _ rfl;(with_reducible repeat(first|refine ah ?_ _|refine af ?_|refine ag ?_ _));refine bH (cs:= #[.bool false, .slice none 0 0, .slice none 0 0]) ?_ 1 _ rfl;(with_reducible repeat(first|refine ah ?_ _|refine af ?_|refine ag ?_ _));refine bH (cs:= #[.bool false, .slice none 0 0, .slice none 0 0]) ?_ 0 _ rfl;(with_reducible repeat(first|refine ah ?_ _|refine af ?_|refine ag ?_ _));exact c.out) Try.underlying29 rfl (by kernel_rfl)) rfl ?_
  exact⟨_,_,by first|rfl|(simp[aY,aZ]<;>rfl)|(simp[*,aY,aZ]<;>rfl),by first|exact Kd.R_nil _ _ _ _ _|exact Kd.N_nil _ _ _ _ _|exact Kd.V_nil _ _ _ _ _|exact Kd.Q_nil _ _ _ _ _|exact Kd.S_nil _ _ _ _ _,by first|exact Kd.R_nil _ _ _ _ _|exact Kd.N_nil _ _ _ _ _|exact Kd.V_nil _ _ _ _ _|exact Kd.Q_nil _ _ _ _ _|exact Kd.S_nil _ _ _ _ _,bl⟩
set_option maxHeartbeats 8000000 in
set_option maxRecDepth 100000 in
theorem bB.calls (k:Nat) (A0:Option Addr) (c0:Nat) (l0:List Int) (A1:Option Addr) (c1:Nat) (l1:List Int) (r:Bool) (w:World) (hr0:Kd.C (Kd.int .i64) w A0 l0.length l0) (hc0:l0.length≤c0) (hr1:Kd.C (Kd.int .i64) w A1 l1.length l1) (hc1:l1.length≤c1) (h:bB.f k l0 l1=some r):
  Calls Try.prog 23 #[.slice A0 l0.length c0, .slice A1 l1.length c1] w fun e w' =>e= .returned (.bool r)∧Drawn0 w w' :=by
 have p:=Aside0.mk hr0
 have B:=Aside0.mk hc0
 clear hr0 hc0
 have HR1:=Aside0.mk hr1
 have D:=Aside0.mk hc1
 clear hr1 hc1
 have H:(if(l0.length:Int)=(l1.length:Int)then(bB.l0 k l0 l1 0)else(some false))=some r:=h
 clear h
 by_cases c3:(l0.length:Int)=(l1.length:Int)
 ·rw [if_pos c3]at H
  have s:=beq_iff_eq.mpr c3
  have t:=bne_eq_false_iff_eq.mpr c3
  have u:(l0.length==l1.length)=true:=by first|simpa using c3|(simp at c3⊢;omega)
  clear c3
  have H' :=Aside0.mk H
  clear H
  go_enter Try.func23,Try.ntmps23
  go_wp2
  repeat(go_quiet (fail);try go_wp2)
  go_loopg [5] k (fun kq v5 w' => ∃(a:Int),v5= .int .i64 a∧Aside0 (bB.l0 kq l0 l1 a=some r)∧Aside0 (kq≤k)∧Drawn0 w w')
  case atStart=>exact⟨(0),(by first|rfl|(simp;done)|(simp[*];done)),H',⟨Nat.le_refl _⟩,by repeat(first|exact Drawn0.refl _|apply Drawn0.step)⟩
  case round=>
   clear H'
   obtain⟨a,rfl,HA,q,⟨m1,rfl⟩⟩:=hrel
   cases gk with
   |zero=>exact absurd HA.out (by simp[bB.l0])
   | succ k1=>
    have H:=HA.out
    clear HA
    simp only[bB.l0]at H
    by_cases c4:a<(l0.length:Int)
    ·rw [if_pos c4]at H
     have v:decide (a<(l0.length:Int))=true:=decide_eq_true c4
     clear c4
     by_cases c5:0≤a
     ·rw[if_pos c5]at H
      have z:decide (0≤a)=true:=decide_eq_true c5
      clear c5
      by_cases c6:a<(l1.length:Int)
      ·rw[if_pos c6]at H
       have A:decide (a<(l1.length:Int))=true:=decide_eq_true c6
       clear c6
       by_cases c7:(rd l0 a)=(rd l1 a)
       ·rw[if_pos c7]at H
        have x:=beq_iff_eq.mpr c7
        have y:=bne_eq_false_iff_eq.mpr c7
        clear c7
        have H' :=Aside0.mk H
        clear H
        have b:0≤(a:Int):=od
        have c:a<(l0.length:Int):=od
        obtain⟨n,i,l⟩:=Kd.at_int p.out a b c
        cases i
        replace b:=eq_true b
        replace c:=eq_true c
        have d:0≤(a:Int):=od
        have g:a<(l1.length:Int):=od
        obtain⟨o,j,m⟩:=Kd.at_int HR1.out a d g
        cases j
        replace d:=eq_true d
        replace g:=eq_true g
        go_wp2
        repeat(go_quiet (fail);try go_wp2)
        go_roundg k1
        case measure=>have:=q.out;omega
        case rel=>exact⟨(wrap64 (a+1)),(by first|rfl|(simp;done)|(simp[*];done)),H',⟨by have:=q.out;omega⟩,by repeat(first|exact Drawn0.refl _|apply Drawn0.step)⟩
       ·rw[if_neg c7]at H
        have x:=beq_eq_false_iff_ne.mpr c7
        have y:=bne_iff_ne.mpr c7
        obtain rfl:=Option.some.inj H;clear H
        have b:0≤(a:Int):=od
        have c:a<(l0.length:Int):=od
        obtain⟨n,i,l⟩:=Kd.at_int p.out a b c
        cases i
        replace b:=eq_true b
        replace c:=eq_true c
        have d:0≤(a:Int):=od
        have g:a<(l1.length:Int):=od
        obtain⟨o,j,m⟩:=Kd.at_int HR1.out a d g
        cases j
        replace d:=eq_true d
        replace g:=eq_true g
        go_wp2
        repeat(go_quiet (fail);try go_wp2)
        go_ret
        exact⟨by first|rfl|(simp;done)|(simp[*];done),by repeat(first|exact Drawn0.refl _|apply Drawn0.step)⟩
      ·rw[if_neg c6]at H
       exact absurd H (by simp)
     ·rw[if_neg c5]at H
      exact absurd H (by simp)
    ·rw[if_neg c4]at H
     have v:decide (a<(l0.length:Int))=false:=decide_eq_false c4
     clear c4
     obtain rfl:=Option.some.inj H;clear H
     go_wp2
     repeat(go_quiet (fail);try go_wp2)
     go_ret
     exact⟨by first|rfl|(simp;done)|(simp[*];done),by repeat(first|exact Drawn0.refl _|apply Drawn0.step)⟩
 ·rw[if_neg c3]at H
  have s:=beq_eq_false_iff_ne.mpr c3
  have t:=bne_iff_ne.mpr c3
  have u:(l0.length==l1.length)=false:=by first|simpa using c3|(simp at c3⊢;omega)
  obtain rfl:=Option.some.inj H;clear H
  go_enter Try.func23,Try.ntmps23
  go_wp2
  repeat(go_quiet (fail);try go_wp2)
  go_ret
  exact⟨by first|rfl|(simp;done)|(simp[*];done),by repeat(first|exact Drawn0.refl _|apply Drawn0.step)⟩
set_option maxHeartbeats 8000000 in
set_option maxRecDepth 100000 in
theorem bL.calls (k:Nat) (c:Bool) (j:Option Addr) (l:Nat) (a:List Int) (o:Option Addr) (p:Nat) (g:List Int) (d:Bool) (m:Option Addr) (n:Nat) (b:List Int) (q:Option Addr) (s:Nat) (i:List Int) (r:Bool) (w:World) (A:Kd.C (Kd.int .i64) w j a.length a) (B:a.length≤l) (D:Kd.C (Kd.int .i64) w o g.length g) (E:g.length≤p) (G:Kd.C (Kd.int .i64) w m b.length b) (I:b.length≤n) (J:Kd.C (Kd.int .i64) w q i.length i) (K:i.length≤s) (h:bL.f k c a g d b i=some r):
  Calls Try.prog 8 #[.agg #[.bool c, .slice j a.length l, .slice o g.length p], .agg #[.bool d, .slice m b.length n, .slice q i.length s]] w fun e w' =>e= .returned (.bool r)∧Below w.heap.size w w' :=by
 have Y:=Try.underlying29
 have t:=Aside0.mk A
 have u:=Aside0.mk B
 clear A B
 have L:=Aside0.mk D
 have M:=Aside0.mk E
 clear D E
 have v:=Aside0.mk G
 have x:=Aside0.mk I
 clear G I
 have O:=Aside0.mk J
 have P:=Aside0.mk K
 clear J K
 have HB:=Aside0.mk (Below.refl w.heap.size w)
 have H:(if(c !=d)=true then(some false)else((bB.f k a b).bind fun y=>(if y=true then((bB.f k g i).bind fun z=>(if z=true then(some true)else(some false)))else(some false))))=some r:=h
 clear h
 by_cases c3:(c !=d)=true
 ·rw[if_pos c3]at H
  have U:(c !=d)=true:=c3
  (try(have W:decide (c=d)=false:=by simpa using c3))
  (try(have X:(c==d)=false:=by simpa using c3))
  (try(have Z: ¬(c=d):=by simpa using c3))
  clear c3
  obtain rfl:=Option.some.inj H;clear H
  go_enter Try.func8,Try.ntmps8
  go_wp2
  go_ret
  exact fin
 ·rw[if_neg c3]at H
  have U:(c !=d)=false:=by simpa using c3
  (try(have W:decide (c=d)=true:=by simpa using c3))
  (try(have X:(c==d)=true:=by simpa using c3))
  clear c3
  obtain⟨y,A9,H⟩:=ob H
  by_cases c10:y=true
  ·subst c10
   replace H:=it H
   obtain⟨z,T,H⟩:=ob H
   by_cases c12:z=true
   ·subst c12
    replace H:=it H
    obtain rfl:=Option.some.inj H;clear H
    go_enter Try.func8,Try.ntmps8
    go_wp2_with (first|((with_reducible refine gc 23 rfl ?_);refine gl (some 14) Try.func23 #[.slice j a.length l, .slice m b.length n] rfl ?_;(with_reducible refine(bB.calls k _ _ a _ _ b true _ ?s1 ?s2 ?s3 ?s4 A9.out).mono ?_);(case s1=>exact cb t.out);(case s2=>exact u.out);(case s3=>exact cb v.out);(case s4=>exact x.out);rintro e w' ⟨rfl,⟨nd,rfl⟩⟩;refine⟨_,rfl, ?_⟩)|((with_reducible refine gc 23 rfl ?_);refine gl (some 20) Try.func23 #[.slice o g.length p, .slice q i.length s] rfl ?_;(with_reducible refine(bB.calls k _ _ g _ _ i true _ ?s1 ?s2 ?s3 ?s4 T.out).mono ?_);(case s1=>exact cb L.out);(case s2=>exact M.out);(case s3=>exact cb O.out);(case s4=>exact P.out);rintro e w' ⟨rfl,⟨nd,rfl⟩⟩;refine⟨_,rfl, ?_⟩))
    go_ret
    exact fin
   ·replace c12:=Bool.eq_false_iff.mpr c12
    subst c12
    replace H:=ie H
    obtain rfl:=Option.some.inj H;clear H
    go_enter Try.func8,Try.ntmps8
    go_wp2_with (first|((with_reducible refine gc 23 rfl ?_);refine gl (some 14) Try.func23 #[.slice j a.length l, .slice m b.length n] rfl ?_;(with_reducible refine(bB.calls k _ _ a _ _ b true _ ?s1 ?s2 ?s3 ?s4 A9.out).mono ?_);(case s1=>exact cb t.out);(case s2=>exact u.out);(case s3=>exact cb v.out);(case s4=>exact x.out);rintro e w' ⟨rfl,⟨nd,rfl⟩⟩;refine⟨_,rfl, ?_⟩)|((with_reducible refine gc 23 rfl ?_);refine gl (some 20) Try.func23 #[.slice o g.length p, .slice q i.length s] rfl ?_;(with_reducible refine(bB.calls k _ _ g _ _ i false _ ?s1 ?s2 ?s3 ?s4 T.out).mono ?_);(case s1=>exact cb L.out);(case s2=>exact M.out);(case s3=>exact cb O.out);(case s4=>exact P.out);rintro e w' ⟨rfl,⟨nd,rfl⟩⟩;refine⟨_,rfl, ?_⟩))
    go_ret
    exact fin
  ·replace c10:=Bool.eq_false_iff.mpr c10
   subst c10
   replace H:=ie H
   obtain rfl:=Option.some.inj H;clear H
   go_enter Try.func8,Try.ntmps8
   go_wp2_with (first|((with_reducible refine gc 23 rfl ?_);refine gl (some 14) Try.func23 #[.slice j a.length l, .slice m b.length n] rfl ?_;(with_reducible refine(bB.calls k _ _ a _ _ b false _ ?s1 ?s2 ?s3 ?s4 A9.out).mono ?_);(case s1=>exact cb t.out);(case s2=>exact u.out);(case s3=>exact cb v.out);(case s4=>exact x.out);rintro e w' ⟨rfl,⟨nd,rfl⟩⟩;refine⟨_,rfl, ?_⟩))
   go_ret
   exact fin
set_option maxHeartbeats 8000000 in
set_option maxRecDepth 100000 in
theorem gP.calls (k:Nat) (c:Int) (d:Option Addr) (g:Nat) (a:List Int) (i:Int) (j:Option Addr) (l:Nat) (b:List Int) (r:Bool) (w:World) (n:Kd.C (Kd.int .i64) w d a.length a) (o:a.length≤g) (p:Kd.C (Kd.int .i64) w j b.length b) (q:b.length≤l) (h:gP.f k c a i b=some r):
  Calls Try.prog 44 #[.agg #[.int .i64 c, .slice d a.length g], .agg #[.int .i64 i, .slice j b.length l]] w fun e w' =>e= .returned (.bool r)∧Below w.heap.size w w' :=by
 have z:=Try.underlying71
 have s:=Aside0.mk n
 have t:=Aside0.mk o
 clear n o
 have u:=Aside0.mk p
 have v:=Aside0.mk q
 clear p q
 have HB:=Aside0.mk (Below.refl w.heap.size w)
 have H:(if c=i then((bB.f k a b).bind fun m=>(if m=true then(some true)else(some false)))else(some false))=some r:=h
 clear h
 by_cases c3:c=i
 ·rw[if_pos c3]at H
  have x:=beq_iff_eq.mpr c3
  have y:=bne_eq_false_iff_eq.mpr c3
  clear c3
  obtain⟨m,A4,H⟩:=ob H
  by_cases c5:m=true
  ·subst c5
   replace H:=it H
   obtain rfl:=Option.some.inj H;clear H
   go_enter Try.func44,Try.ntmps44
   go_wp2_with (first|((with_reducible refine gc 23 rfl ?_);refine gl (some 14) Try.func23 #[.slice d a.length g, .slice j b.length l] rfl ?_;(with_reducible refine(bB.calls k _ _ a _ _ b true _ ?s1 ?s2 ?s3 ?s4 A4.out).mono ?_);(case s1=>exact cb s.out);(case s2=>exact t.out);(case s3=>exact cb u.out);(case s4=>exact v.out);rintro e w' ⟨rfl,⟨nd,rfl⟩⟩;refine⟨_,rfl, ?_⟩))
   go_ret
   exact fin
  ·replace c5:=Bool.eq_false_iff.mpr c5
   subst c5
   replace H:=ie H
   obtain rfl:=Option.some.inj H;clear H
   go_enter Try.func44,Try.ntmps44
   go_wp2_with (first|((with_reducible refine gc 23 rfl ?_);refine gl (some 14) Try.func23 #[.slice d a.length g, .slice j b.length l] rfl ?_;(with_reducible refine(bB.calls k _ _ a _ _ b false _ ?s1 ?s2 ?s3 ?s4 A4.out).mono ?_);(case s1=>exact cb s.out);(case s2=>exact t.out);(case s3=>exact cb u.out);(case s4=>exact v.out);rintro e w' ⟨rfl,⟨nd,rfl⟩⟩;refine⟨_,rfl, ?_⟩))
   go_ret
   exact fin
 ·rw[if_neg c3]at H
  have x:=beq_eq_false_iff_ne.mpr c3
  have y:=bne_iff_ne.mpr c3
  obtain rfl:=Option.some.inj H;clear H
  go_enter Try.func44,Try.ntmps44
  go_wp2
  go_ret
  exact fin
def bC.T6:Bool×List (List Nat×List Nat):=(true, [([], []),([], []),([0,1], [0,1]),([2], [2]),([], []),([], []),([4,5], [4,5]),([6], [6]),([3,7], [3,7]),([8], [8])])
def bC.B6:List Nat:= [0,0,3,7,0,0,48,112,255,511]
theorem bC.tab6:ed .any (opsOf Try.f24 6)=bC.T6:=by kernel_rfl
theorem bC.bits6:eP bC.T6.2 bC.B6=true:=by kernel_rfl
set_option maxHeartbeats 8000000 in
set_option maxRecDepth 100000 in
theorem bC.calls (k:Nat) (A0:Option Addr) (c0:Nat) (l0:List (S71)) (A1:Option Addr) (c1:Nat) (l1:List (S71)) (r:Bool) (w:World) (hr0:Kd.C k71 w A0 l0.length l0) (hc0:l0.length≤c0) (hr1:Kd.C k71 w A1 l1.length l1) (hc1:l1.length≤c1) (h:bC.f k l0 l1=some r):
  Calls Try.prog 24 #[.slice A0 l0.length c0, .slice A1 l1.length c1] w fun e w' =>e= .returned (.bool r)∧Below w.heap.size w w' :=by
 have ac:=Try.underlying71
 have T:=Aside0.mk hr0
 have am:=Aside0.mk hc0
 clear hr0 hc0
 have HR1:=Aside0.mk hr1
 have an:=Aside0.mk hc1
 clear hr1 hc1
 have HB:=Aside0.mk (Below.refl w.heap.size w)
 have H:(if(l0.length:Int)=(l1.length:Int)then(bC.l0 k l0 l1 0)else(some false))=some r:=h
 clear h
 by_cases c3:(l0.length:Int)=(l1.length:Int)
 ·rw [if_pos c3]at H
  have W:=beq_iff_eq.mpr c3
  have X:=bne_eq_false_iff_eq.mpr c3
  have Y:(l0.length==l1.length)=true:=by first|simpa using c3|(simp at c3⊢;omega)
  clear c3
  have H' :=Aside0.mk H
  clear H
  go_enter Try.func24,Try.ntmps24
  go_wp2
  go_loopg [5] k (fun kq v5 w' => ∃(a:Int),v5= .int .i64 a∧Aside0 (bC.l0 kq l0 l1 a=some r)∧Aside0 (kq≤k)∧Aside0 (Below w.heap.size w w'))
  case atStart=>exact⟨(0),(by first|rfl|(simp;done)|(simp[*];done)),H',⟨Nat.le_refl _⟩,⟨bl⟩⟩
  case round=>
   clear H'
   obtain⟨a,rfl,HA,U,HB⟩:=hrel
   cases gk with
   |zero=>exact absurd HA.out (by simp[bC.l0])
   | succ k1=>
    have H:=HA.out
    clear HA
    simp only[bC.l0]at H
    by_cases c4:a<(l0.length:Int)
    ·rw [if_pos c4]at H
     have Z:decide (a<(l0.length:Int))=true:=decide_eq_true c4
     clear c4
     by_cases c5:0≤a
     ·rw[if_pos c5]at H
      have ad:decide (0≤a)=true:=decide_eq_true c5
      clear c5
      by_cases c6:a<(l1.length:Int)
      ·rw[if_pos c6]at H
       have al:decide (a<(l1.length:Int))=true:=decide_eq_true c6
       clear c6
       obtain⟨ab,A7,H⟩:=ob H
       by_cases c8:ab=true
       ·subst c8
        replace H:=it H
        have H' :=Aside0.mk H
        clear H
        try go_wp2
        replace HB:=Aside0.mk (aW HB.out)
        have E:0≤(a:Int):=od
        have G:a<(l0.length:Int):=od
        obtain⟨x,z,A,O,b,c,p,q⟩:=fV T.out a E G
        have d:=c
        have g:=b
        cases O
        obtain⟨b,c⟩:=hc2 HB b c
        have s:=Aside0.mk q
        have L:=Aside0.mk p
        clear q p
        replace E:=eq_true E
        replace G:=eq_true G
        have I:0≤(a:Int):=od
        have J:a<(l1.length:Int):=od
        obtain⟨y,B,D,P,j,l,t,u⟩:=fV HR1.out a I J
        have m:=l
        have o:=j
        cases P
        obtain⟨j,l⟩:=hc2 HB j l
        have v:=Aside0.mk u
        have M:=Aside0.mk t
        clear u t
        replace I:=eq_true I
        replace J:=eq_true J
        refine dX (n:=10) (S:=fun w' =>w'.cell? (x.add ((a).toNat * 2))=some (.int .i64 ((aD l0 a).f0))∧w'.cell? ⟨(x.add ((a).toNat * 2)).block,(x.add ((a).toNat * 2)).off+1,none⟩=some (.slice z ((aD l0 a).f1).length A)∧w'.cell? (y.add ((a).toNat * 2))=some (.int .i64 ((aD l1 a).f0))∧w'.cell? ⟨(y.add ((a).toNat * 2)).block,(y.add ((a).toNat * 2)).off+1,none⟩=some (.slice B ((aD l1 a).f1).length D)) (ds:= []) #[false,false,false,false,false,false,false,false,false,false] (by kernel_rfl) rfl rfl ⟨((HB.out.cell (World.block_lt_of_cell? w _ g)).trans g),((HB.out.cell (World.block_lt_of_cell? w _ d)).trans d),((HB.out.cell (World.block_lt_of_cell? w _ o)).trans o),((HB.out.cell (World.block_lt_of_cell? w _ m)).trans m)⟩ (fun hHeld=> ?_);refine dH bC.tab6 bC.bits6 (fun HT_ HW_=> ?_)
        generalize wr.drew=w9 at HB s v b c j l hHeld⊢
        refine pu 0 17 #[true,false,false,false,false,false,false,false,false,false] HT_ rfl rfl ?_
        refine pu 1 18 #[true,true,false,false,false,false,false,false,false,false] HT_ rfl rfl ?_
        refine pu 2 19 #[true,true,true,false,false,false,false,false,false,false] HT_ rfl rfl ?_
        refine pu 4 21 #[true,true,true,false,true,false,false,false,false,false] HT_ rfl rfl ?_
        refine pu 5 22 #[true,true,true,false,true,true,false,false,false,false] HT_ rfl rfl ?_
        refine pu 6 23 #[true,true,true,false,true,true,true,false,false,false] HT_ rfl rfl ?_
        refine ta 3 20 #[true,true,true,true,true,true,true,false,false,false] HT_ HW_ hHeld rfl rfl ?_
        refine ta 7 24 #[true,true,true,true,true,true,true,true,false,false] HT_ HW_ hHeld rfl rfl ?_
        refine fo (i:=8) (N:=some 25) #[true,true,true,true,true,true,true,true,true,false] rfl rfl (dU HT_.out (by kernel_rfl)) (by decide) (fun K hK=> ?_)
        refine gs Try.func44 #[.agg #[.int .i64 ((aD l0 a).f0), .slice z ((aD l0 a).f1).length A], .agg #[.int .i64 ((aD l1 a).f0), .slice B ((aD l1 a).f1).length D]] rfl rfl ?_
        with_reducible refine(gP.calls k1 ((aD l0 a).f0) _ _ ((aD l0 a).f1) ((aD l1 a).f0) _ _ ((aD l1 a).f1) true _ ?s1 ?s2 ?s3 ?s4 A7.out).mono ?_
        (case s1=>exact cb s.out)
        (case s2=>exact L.out)
        (case s3=>exact cb v.out)
        (case s4=>exact M.out)
        rintro e ao ⟨rfl,hb⟩
        refine⟨_,rfl, ?_⟩
        replace HB:=hs HB hb
        (try clear hb)
        (try clear hb2)
        (try clear hk)
        (try clear hi)
        refine hK.out _ _ ⟨((HB.out.cell (World.block_lt_of_cell? w _ g)).trans g),((HB.out.cell (World.block_lt_of_cell? w _ d)).trans d),((HB.out.cell (World.block_lt_of_cell? w _ o)).trans o),((HB.out.cell (World.block_lt_of_cell? w _ m)).trans m)⟩ (fun hHeld=> ?_)
        clear hK K
        refine no 25 ?_
        refine pu 9 26 #[true,true,true,true,true,true,true,true,true,true] HT_ rfl rfl ?_
        refine eT (dR HT_.out (by kernel_rfl)) ?_
        try go_wp2
        go_roundg k1
        case measure=>have:=U.out;omega
        case rel=>exact⟨(wrap64 (a+1)),(by first|rfl|(simp;done)|(simp[*];done)),H',⟨by have:=U.out;omega⟩,⟨bl⟩⟩
       ·replace c8:=Bool.eq_false_iff.mpr c8
        subst c8
        replace H:=ie H
        obtain rfl:=Option.some.inj H;clear H
        try go_wp2
        replace HB:=Aside0.mk (aW HB.out)
        have E:0≤(a:Int):=od
        have G:a<(l0.length:Int):=od
        obtain⟨x,z,A,O,b,c,p,q⟩:=fV T.out a E G
        have d:=c
        have g:=b
        cases O
        obtain⟨b,c⟩:=hc2 HB b c
        have s:=Aside0.mk q
        have L:=Aside0.mk p
        clear q p
        replace E:=eq_true E
        replace G:=eq_true G
        have I:0≤(a:Int):=od
        have J:a<(l1.length:Int):=od
        obtain⟨y,B,D,P,j,l,t,u⟩:=fV HR1.out a I J
        have m:=l
        have o:=j
        cases P
        obtain⟨j,l⟩:=hc2 HB j l
        have v:=Aside0.mk u
        have M:=Aside0.mk t
        clear u t
        replace I:=eq_true I
        replace J:=eq_true J
        refine dX (n:=10) (S:=fun w' =>w'.cell? (x.add ((a).toNat * 2))=some (.int .i64 ((aD l0 a).f0))∧w'.cell? ⟨(x.add ((a).toNat * 2)).block,(x.add ((a).toNat * 2)).off+1,none⟩=some (.slice z ((aD l0 a).f1).length A)∧w'.cell? (y.add ((a).toNat * 2))=some (.int .i64 ((aD l1 a).f0))∧w'.cell? ⟨(y.add ((a).toNat * 2)).block,(y.add ((a).toNat * 2)).off+1,none⟩=some (.slice B ((aD l1 a).f1).length D)) (ds:= []) #[false,false,false,false,false,false,false,false,false,false] (by kernel_rfl) rfl rfl ⟨((HB.out.cell (World.block_lt_of_cell? w _ g)).trans g),((HB.out.cell (World.block_lt_of_cell? w _ d)).trans d),((HB.out.cell (World.block_lt_of_cell? w _ o)).trans o),((HB.out.cell (World.block_lt_of_cell? w _ m)).trans m)⟩ (fun hHeld=> ?_);refine dH bC.tab6 bC.bits6 (fun HT_ HW_=> ?_)
        generalize wr.drew=ap at HB s v b c j l hHeld⊢
        refine pu 0 17 #[true,false,false,false,false,false,false,false,false,false] HT_ rfl rfl ?_
        refine pu 1 18 #[true,true,false,false,false,false,false,false,false,false] HT_ rfl rfl ?_
        refine pu 2 19 #[true,true,true,false,false,false,false,false,false,false] HT_ rfl rfl ?_
        refine pu 4 21 #[true,true,true,false,true,false,false,false,false,false] HT_ rfl rfl ?_
        refine pu 5 22 #[true,true,true,false,true,true,false,false,false,false] HT_ rfl rfl ?_
        refine pu 6 23 #[true,true,true,false,true,true,true,false,false,false] HT_ rfl rfl ?_
        refine ta 3 20 #[true,true,true,true,true,true,true,false,false,false] HT_ HW_ hHeld rfl rfl ?_
        refine ta 7 24 #[true,true,true,true,true,true,true,true,false,false] HT_ HW_ hHeld rfl rfl ?_
        refine fo (i:=8) (N:=some 25) #[true,true,true,true,true,true,true,true,true,false] rfl rfl (dU HT_.out (by kernel_rfl)) (by decide) (fun K hK=> ?_)
        refine gs Try.func44 #[.agg #[.int .i64 ((aD l0 a).f0), .slice z ((aD l0 a).f1).length A], .agg #[.int .i64 ((aD l1 a).f0), .slice B ((aD l1 a).f1).length D]] rfl rfl ?_
        with_reducible refine(gP.calls k1 ((aD l0 a).f0) _ _ ((aD l0 a).f1) ((aD l1 a).f0) _ _ ((aD l1 a).f1) false _ ?s1 ?s2 ?s3 ?s4 A7.out).mono ?_
        (case s1=>exact cb s.out)
        (case s2=>exact L.out)
        (case s3=>exact cb v.out)
        (case s4=>exact M.out)
        rintro e aq ⟨rfl,hb⟩
        refine⟨_,rfl, ?_⟩
        replace HB:=hs HB hb
        (try clear hb)
        (try clear hb2)
        (try clear hk)
        (try clear hi)
        refine hK.out _ _ ⟨((HB.out.cell (World.block_lt_of_cell? w _ g)).trans g),((HB.out.cell (World.block_lt_of_cell? w _ d)).trans d),((HB.out.cell (World.block_lt_of_cell? w _ o)).trans o),((HB.out.cell (World.block_lt_of_cell? w _ m)).trans m)⟩ (fun hHeld=> ?_)
        clear hK K
        refine no 25 ?_
        refine pu 9 26 #[true,true,true,true,true,true,true,true,true,true] HT_ rfl rfl ?_
        refine eT (dR HT_.out (by kernel_rfl)) ?_
        try go_wp2
        go_ret
        exact fin
      ·rw[if_neg c6]at H
       exact absurd H (by simp)
     ·rw[if_neg c5]at H
      exact absurd H (by simp)
    ·rw[if_neg c4]at H
     have Z:decide (a<(l0.length:Int))=false:=decide_eq_false c4
     clear c4
     obtain rfl:=Option.some.inj H;clear H
     go_wp2
     go_ret
     exact fin
 ·rw[if_neg c3]at H
  have W:=beq_eq_false_iff_ne.mpr c3
  have X:=bne_iff_ne.mpr c3
  have Y:(l0.length==l1.length)=false:=by first|simpa using c3|(simp at c3⊢;omega)
  obtain rfl:=Option.some.inj H;clear H
  go_enter Try.func24,Try.ntmps24
  go_wp2
  go_ret
  exact fin
set_option maxHeartbeats 8000000 in
set_option maxRecDepth 100000 in
theorem iF.calls (a:Int) (b:Int) (c:Int) (d:Int) (g:Int) (i:Int) (r:Bool) (w:World) (h:iF.f a b c d g i=some r):
  Calls Try.prog 83 #[.agg #[.int .i64 a, .int .i64 b, .int .i64 c], .agg #[.int .i64 d, .int .i64 g, .int .i64 i]] w fun e w' =>e= .returned (.bool r)∧Below w.heap.size w w' :=by
 have p:=Try.underlying97
 have HB:=Aside0.mk (Below.refl w.heap.size w)
 have H:(if a=d then(if b=g then(if c=i then(some true)else(some false))else(some false))else(some false))=some r:=h
 clear h
 by_cases c3:a=d
 ·rw[if_pos c3]at H
  have j:=beq_iff_eq.mpr c3
  have k:=bne_eq_false_iff_eq.mpr c3
  clear c3
  by_cases c4:b=g
  ·rw[if_pos c4]at H
   have l:=beq_iff_eq.mpr c4
   have m:=bne_eq_false_iff_eq.mpr c4
   clear c4
   by_cases c5:c=i
   ·rw[if_pos c5]at H
    have n:=beq_iff_eq.mpr c5
    have o:=bne_eq_false_iff_eq.mpr c5
    clear c5
    obtain rfl:=Option.some.inj H;clear H
    go_enter Try.func83,Try.ntmps83
    go_wp2
    go_ret
    exact fin
   ·rw[if_neg c5]at H
    have n:=beq_eq_false_iff_ne.mpr c5
    have o:=bne_iff_ne.mpr c5
    obtain rfl:=Option.some.inj H;clear H
    go_enter Try.func83,Try.ntmps83
    go_wp2
    go_ret
    exact fin
  ·rw[if_neg c4]at H
   have l:=beq_eq_false_iff_ne.mpr c4
   have m:=bne_iff_ne.mpr c4
   obtain rfl:=Option.some.inj H;clear H
   go_enter Try.func83,Try.ntmps83
   go_wp2
   go_ret
   exact fin
 ·rw[if_neg c3]at H
  have j:=beq_eq_false_iff_ne.mpr c3
  have k:=bne_iff_ne.mpr c3
  obtain rfl:=Option.some.inj H;clear H
  go_enter Try.func83,Try.ntmps83
  go_wp2
  go_ret
  exact fin
def bI.T6:Bool×List (List Nat×List Nat):=(true, [([], []),([], []),([0,1], [0,1]),([2], [2]),([], []),([], []),([4,5], [4,5]),([6], [6]),([3,7], [3,7]),([8], [8])])
def bI.B6:List Nat:= [0,0,3,7,0,0,48,112,255,511]
theorem bI.tab6:ed .any (opsOf Try.f66 6)=bI.T6:=by kernel_rfl
theorem bI.bits6:eP bI.T6.2 bI.B6=true:=by kernel_rfl
set_option maxHeartbeats 8000000 in
set_option maxRecDepth 100000 in
theorem bI.calls (k:Nat) (A0:Option Addr) (c0:Nat) (l0:List (S97)) (A1:Option Addr) (c1:Nat) (l1:List (S97)) (r:Bool) (w:World) (hr0:Kd.C k97 w A0 l0.length l0) (hc0:l0.length≤c0) (hr1:Kd.C k97 w A1 l1.length l1) (hc1:l1.length≤c1) (h:bI.f k l0 l1=some r):
  Calls Try.prog 66 #[.slice A0 l0.length c0, .slice A1 l1.length c1] w fun e w' =>e= .returned (.bool r)∧Below w.heap.size w w' :=by
 have P:=Try.underlying97
 have E:=Aside0.mk hr0
 have W:=Aside0.mk hc0
 clear hr0 hc0
 have HR1:=Aside0.mk hr1
 have X:=Aside0.mk hc1
 clear hr1 hc1
 have HB:=Aside0.mk (Below.refl w.heap.size w)
 have H:(if(l0.length:Int)=(l1.length:Int)then(bI.l0 k l0 l1 0)else(some false))=some r:=h
 clear h
 by_cases c3:(l0.length:Int)=(l1.length:Int)
 ·rw [if_pos c3]at H
  have I:=beq_iff_eq.mpr c3
  have J:=bne_eq_false_iff_eq.mpr c3
  have L:(l0.length==l1.length)=true:=by first|simpa using c3|(simp at c3⊢;omega)
  clear c3
  have H' :=Aside0.mk H
  clear H
  go_enter Try.func66,Try.ntmps66
  go_wp2
  go_loopg [5] k (fun kq v5 w' => ∃(a:Int),v5= .int .i64 a∧Aside0 (bI.l0 kq l0 l1 a=some r)∧Aside0 (kq≤k)∧Aside0 (Below w.heap.size w w'))
  case atStart=>exact⟨(0),(by first|rfl|(simp;done)|(simp[*];done)),H',⟨Nat.le_refl _⟩,⟨bl⟩⟩
  case round=>
   clear H'
   obtain⟨a,rfl,HA,G,HB⟩:=hrel
   cases gk with
   |zero=>exact absurd HA.out (by simp[bI.l0])
   | succ k1=>
    have H:=HA.out
    clear HA
    simp only[bI.l0]at H
    by_cases c4:a<(l0.length:Int)
    ·rw [if_pos c4]at H
     have M:decide (a<(l0.length:Int))=true:=decide_eq_true c4
     clear c4
     by_cases c5:0≤a
     ·rw[if_pos c5]at H
      have T:decide (0≤a)=true:=decide_eq_true c5
      clear c5
      by_cases c6:a<(l1.length:Int)
      ·rw[if_pos c6]at H
       have U:decide (a<(l1.length:Int))=true:=decide_eq_true c6
       clear c6
       obtain⟨O,A7,H⟩:=ob H
       by_cases c8:O=true
       ·subst c8
        replace H:=it H
        have H' :=Aside0.mk H
        clear H
        try go_wp2
        replace HB:=Aside0.mk (aW HB.out)
        have x:0≤(a:Int):=od
        have y:a<(l0.length:Int):=od
        obtain⟨u,B,b,c,d⟩:=iA E.out a x y
        have g:=d
        have j:=c
        have l:=b
        cases B
        obtain⟨b,c,d⟩:=hc3 HB b c d
        replace x:=eq_true x
        replace y:=eq_true y
        have z:0≤(a:Int):=od
        have A:a<(l1.length:Int):=od
        obtain⟨v,D,m,o,p⟩:=iA HR1.out a z A
        have q:=p
        have s:=o
        have t:=m
        cases D
        obtain⟨m,o,p⟩:=hc3 HB m o p
        replace z:=eq_true z
        replace A:=eq_true A
        refine dX (n:=10) (S:=fun w' =>w'.cell? (u.add ((a).toNat * 3))=some (.int .i64 ((aM l0 a).f0))∧w'.cell? ⟨(u.add ((a).toNat * 3)).block,(u.add ((a).toNat * 3)).off+1,none⟩=some (.int .i64 ((aM l0 a).f1))∧w'.cell? ⟨(u.add ((a).toNat * 3)).block,(u.add ((a).toNat * 3)).off+2,none⟩=some (.int .i64 ((aM l0 a).f2))∧w'.cell? (v.add ((a).toNat * 3))=some (.int .i64 ((aM l1 a).f0))∧w'.cell? ⟨(v.add ((a).toNat * 3)).block,(v.add ((a).toNat * 3)).off+1,none⟩=some (.int .i64 ((aM l1 a).f1))∧w'.cell? ⟨(v.add ((a).toNat * 3)).block,(v.add ((a).toNat * 3)).off+2,none⟩=some (.int .i64 ((aM l1 a).f2))) (ds:= []) #[false,false,false,false,false,false,false,false,false,false] (by kernel_rfl) rfl rfl ⟨((HB.out.cell (World.block_lt_of_cell? w _ l)).trans l),((HB.out.cell (World.block_lt_of_cell? w _ j)).trans j),((HB.out.cell (World.block_lt_of_cell? w _ g)).trans g),((HB.out.cell (World.block_lt_of_cell? w _ t)).trans t),((HB.out.cell (World.block_lt_of_cell? w _ s)).trans s),((HB.out.cell (World.block_lt_of_cell? w _ q)).trans q)⟩ (fun hHeld=> ?_);refine dH bI.tab6 bI.bits6 (fun HT_ HW_=> ?_)
        generalize wr.drew=w9 at HB b c d m o p hHeld⊢
        refine pu 0 17 #[true,false,false,false,false,false,false,false,false,false] HT_ rfl rfl ?_
        refine pu 1 18 #[true,true,false,false,false,false,false,false,false,false] HT_ rfl rfl ?_
        refine pu 2 19 #[true,true,true,false,false,false,false,false,false,false] HT_ rfl rfl ?_
        refine pu 4 21 #[true,true,true,false,true,false,false,false,false,false] HT_ rfl rfl ?_
        refine pu 5 22 #[true,true,true,false,true,true,false,false,false,false] HT_ rfl rfl ?_
        refine pu 6 23 #[true,true,true,false,true,true,true,false,false,false] HT_ rfl rfl ?_
        refine ta 3 20 #[true,true,true,true,true,true,true,false,false,false] HT_ HW_ hHeld rfl rfl ?_
        refine ta 7 24 #[true,true,true,true,true,true,true,true,false,false] HT_ HW_ hHeld rfl rfl ?_
        refine fo (i:=8) (N:=some 25) #[true,true,true,true,true,true,true,true,true,false] rfl rfl (dU HT_.out (by kernel_rfl)) (by decide) (fun K hK=> ?_)
        refine gs Try.func83 #[.agg #[.int .i64 ((aM l0 a).f0), .int .i64 ((aM l0 a).f1), .int .i64 ((aM l0 a).f2)], .agg #[.int .i64 ((aM l1 a).f0), .int .i64 ((aM l1 a).f1), .int .i64 ((aM l1 a).f2)]] rfl rfl ?_
        with_reducible refine(iF.calls ((aM l0 a).f0) ((aM l0 a).f1) ((aM l0 a).f2) ((aM l1 a).f0) ((aM l1 a).f1) ((aM l1 a).f2) true _ A7.out).mono ?_
        rintro e Y ⟨rfl,hb⟩
        refine⟨_,rfl, ?_⟩
        replace HB:=hs HB hb
        (try clear hb)
        (try clear hb2)
        (try clear hk)
        (try clear hi)
        refine hK.out _ _ ⟨((HB.out.cell (World.block_lt_of_cell? w _ l)).trans l),((HB.out.cell (World.block_lt_of_cell? w _ j)).trans j),((HB.out.cell (World.block_lt_of_cell? w _ g)).trans g),((HB.out.cell (World.block_lt_of_cell? w _ t)).trans t),((HB.out.cell (World.block_lt_of_cell? w _ s)).trans s),((HB.out.cell (World.block_lt_of_cell? w _ q)).trans q)⟩ (fun hHeld=> ?_)
        clear hK K
        refine no 25 ?_
        refine pu 9 26 #[true,true,true,true,true,true,true,true,true,true] HT_ rfl rfl ?_
        refine eT (dR HT_.out (by kernel_rfl)) ?_
        try go_wp2
        go_roundg k1
        case measure=>have:=G.out;omega
        case rel=>exact⟨(wrap64 (a+1)),(by first|rfl|(simp;done)|(simp[*];done)),H',⟨by have:=G.out;omega⟩,⟨bl⟩⟩
       ·replace c8:=Bool.eq_false_iff.mpr c8
        subst c8
        replace H:=ie H
        obtain rfl:=Option.some.inj H;clear H
        try go_wp2
        replace HB:=Aside0.mk (aW HB.out)
        have x:0≤(a:Int):=od
        have y:a<(l0.length:Int):=od
        obtain⟨u,B,b,c,d⟩:=iA E.out a x y
        have g:=d
        have j:=c
        have l:=b
        cases B
        obtain⟨b,c,d⟩:=hc3 HB b c d
        replace x:=eq_true x
        replace y:=eq_true y
        have z:0≤(a:Int):=od
        have A:a<(l1.length:Int):=od
        obtain⟨v,D,m,o,p⟩:=iA HR1.out a z A
        have q:=p
        have s:=o
        have t:=m
        cases D
        obtain⟨m,o,p⟩:=hc3 HB m o p
        replace z:=eq_true z
        replace A:=eq_true A
        refine dX (n:=10) (S:=fun w' =>w'.cell? (u.add ((a).toNat * 3))=some (.int .i64 ((aM l0 a).f0))∧w'.cell? ⟨(u.add ((a).toNat * 3)).block,(u.add ((a).toNat * 3)).off+1,none⟩=some (.int .i64 ((aM l0 a).f1))∧w'.cell? ⟨(u.add ((a).toNat * 3)).block,(u.add ((a).toNat * 3)).off+2,none⟩=some (.int .i64 ((aM l0 a).f2))∧w'.cell? (v.add ((a).toNat * 3))=some (.int .i64 ((aM l1 a).f0))∧w'.cell? ⟨(v.add ((a).toNat * 3)).block,(v.add ((a).toNat * 3)).off+1,none⟩=some (.int .i64 ((aM l1 a).f1))∧w'.cell? ⟨(v.add ((a).toNat * 3)).block,(v.add ((a).toNat * 3)).off+2,none⟩=some (.int .i64 ((aM l1 a).f2))) (ds:= []) #[false,false,false,false,false,false,false,false,false,false] (by kernel_rfl) rfl rfl ⟨((HB.out.cell (World.block_lt_of_cell? w _ l)).trans l),((HB.out.cell (World.block_lt_of_cell? w _ j)).trans j),((HB.out.cell (World.block_lt_of_cell? w _ g)).trans g),((HB.out.cell (World.block_lt_of_cell? w _ t)).trans t),((HB.out.cell (World.block_lt_of_cell? w _ s)).trans s),((HB.out.cell (World.block_lt_of_cell? w _ q)).trans q)⟩ (fun hHeld=> ?_);refine dH bI.tab6 bI.bits6 (fun HT_ HW_=> ?_)
        generalize wr.drew=Z at HB b c d m o p hHeld⊢
        refine pu 0 17 #[true,false,false,false,false,false,false,false,false,false] HT_ rfl rfl ?_
        refine pu 1 18 #[true,true,false,false,false,false,false,false,false,false] HT_ rfl rfl ?_
        refine pu 2 19 #[true,true,true,false,false,false,false,false,false,false] HT_ rfl rfl ?_
        refine pu 4 21 #[true,true,true,false,true,false,false,false,false,false] HT_ rfl rfl ?_
        refine pu 5 22 #[true,true,true,false,true,true,false,false,false,false] HT_ rfl rfl ?_
        refine pu 6 23 #[true,true,true,false,true,true,true,false,false,false] HT_ rfl rfl ?_
        refine ta 3 20 #[true,true,true,true,true,true,true,false,false,false] HT_ HW_ hHeld rfl rfl ?_
        refine ta 7 24 #[true,true,true,true,true,true,true,true,false,false] HT_ HW_ hHeld rfl rfl ?_
        refine fo (i:=8) (N:=some 25) #[true,true,true,true,true,true,true,true,true,false] rfl rfl (dU HT_.out (by kernel_rfl)) (by decide) (fun K hK=> ?_)
        refine gs Try.func83 #[.agg #[.int .i64 ((aM l0 a).f0), .int .i64 ((aM l0 a).f1), .int .i64 ((aM l0 a).f2)], .agg #[.int .i64 ((aM l1 a).f0), .int .i64 ((aM l1 a).f1), .int .i64 ((aM l1 a).f2)]] rfl rfl ?_
        with_reducible refine(iF.calls ((aM l0 a).f0) ((aM l0 a).f1) ((aM l0 a).f2) ((aM l1 a).f0) ((aM l1 a).f1) ((aM l1 a).f2) false _ A7.out).mono ?_
        rintro e ab ⟨rfl,hb⟩
        refine⟨_,rfl, ?_⟩
        replace HB:=hs HB hb
        (try clear hb)
        (try clear hb2)
        (try clear hk)
        (try clear hi)
        refine hK.out _ _ ⟨((HB.out.cell (World.block_lt_of_cell? w _ l)).trans l),((HB.out.cell (World.block_lt_of_cell? w _ j)).trans j),((HB.out.cell (World.block_lt_of_cell? w _ g)).trans g),((HB.out.cell (World.block_lt_of_cell? w _ t)).trans t),((HB.out.cell (World.block_lt_of_cell? w _ s)).trans s),((HB.out.cell (World.block_lt_of_cell? w _ q)).trans q)⟩ (fun hHeld=> ?_)
        clear hK K
        refine no 25 ?_
        refine pu 9 26 #[true,true,true,true,true,true,true,true,true,true] HT_ rfl rfl ?_
        refine eT (dR HT_.out (by kernel_rfl)) ?_
        try go_wp2
        go_ret
        exact fin
      ·rw[if_neg c6]at H
       exact absurd H (by simp)
     ·rw[if_neg c5]at H
      exact absurd H (by simp)
    ·rw[if_neg c4]at H
     have M:decide (a<(l0.length:Int))=false:=decide_eq_false c4
     clear c4
     obtain rfl:=Option.some.inj H;clear H
     go_wp2
     go_ret
     exact fin
 ·rw[if_neg c3]at H
  have I:=beq_eq_false_iff_ne.mpr c3
  have J:=bne_iff_ne.mpr c3
  have L:(l0.length==l1.length)=false:=by first|simpa using c3|(simp at c3⊢;omega)
  obtain rfl:=Option.some.inj H;clear H
  go_enter Try.func66,Try.ntmps66
  go_wp2
  go_ret
  exact fin
def bD.T6:Bool×List (List Nat×List Nat):=(true, [([], []),([], []),([0,1], [0,1]),([2], [2]),([], []),([], []),([4,5], [4,5]),([6], [6]),([3,7], [3,7]),([8], [8])])
def bD.B6:List Nat:= [0,0,3,7,0,0,48,112,255,511]
theorem bD.tab6:ed .any (opsOf Try.f67 6)=bD.T6:=by kernel_rfl
theorem bD.bits6:eP bD.T6.2 bD.B6=true:=by kernel_rfl
set_option maxHeartbeats 8000000 in
set_option maxRecDepth 100000 in
theorem bD.calls (k:Nat) (A0:Option Addr) (c0:Nat) (l0:List (S29)) (A1:Option Addr) (c1:Nat) (l1:List (S29)) (r:Bool) (w:World) (hr0:Kd.C k29 w A0 l0.length l0) (hc0:l0.length≤c0) (hr1:Kd.C k29 w A1 l1.length l1) (hc1:l1.length≤c1) (h:bD.f k l0 l1=some r):
  Calls Try.prog 67 #[.slice A0 l0.length c0, .slice A1 l1.length c1] w fun e w' =>e= .returned (.bool r)∧Below w.heap.size w w' :=by
 have aR:=Try.underlying29
 have aw:=Aside0.mk hr0
 have a1:=Aside0.mk hc0
 clear hr0 hc0
 have HR1:=Aside0.mk hr1
 have a2:=Aside0.mk hc1
 clear hr1 hc1
 have HB:=Aside0.mk (Below.refl w.heap.size w)
 have H:(if(l0.length:Int)=(l1.length:Int)then(bD.l0 k l0 l1 0)else(some false))=some r:=h
 clear h
 by_cases c3:(l0.length:Int)=(l1.length:Int)
 ·rw [if_pos c3]at H
  have aE:=beq_iff_eq.mpr c3
  have aF:=bne_eq_false_iff_eq.mpr c3
  have aL:(l0.length==l1.length)=true:=by first|simpa using c3|(simp at c3⊢;omega)
  clear c3
  have H' :=Aside0.mk H
  clear H
  go_enter Try.func67,Try.ntmps67
  go_wp2
  go_loopg [5] k (fun kq v5 w' => ∃(a:Int),v5= .int .i64 a∧Aside0 (bD.l0 kq l0 l1 a=some r)∧Aside0 (kq≤k)∧Aside0 (Below w.heap.size w w'))
  case atStart=>exact⟨(0),(by first|rfl|(simp;done)|(simp[*];done)),H',⟨Nat.le_refl _⟩,⟨bl⟩⟩
  case round=>
   clear H'
   obtain⟨a,rfl,HA,aB,HB⟩:=hrel
   cases gk with
   |zero=>exact absurd HA.out (by simp[bD.l0])
   | succ k1=>
    have H:=HA.out
    clear HA
    simp only[bD.l0]at H
    by_cases c4:a<(l0.length:Int)
    ·rw [if_pos c4]at H
     have aO:decide (a<(l0.length:Int))=true:=decide_eq_true c4
     clear c4
     by_cases c5:0≤a
     ·rw[if_pos c5]at H
      have aS:decide (0≤a)=true:=decide_eq_true c5
      clear c5
      by_cases c6:a<(l1.length:Int)
      ·rw[if_pos c6]at H
       have a0:decide (a<(l1.length:Int))=true:=decide_eq_true c6
       clear c6
       obtain⟨aP,A7,H⟩:=ob H
       by_cases c8:aP=true
       ·subst c8
        replace H:=it H
        have H' :=Aside0.mk H
        clear H
        try go_wp2
        replace HB:=Aside0.mk (aW HB.out)
        have ab:0≤(a:Int):=od
        have ac:a<(l0.length:Int):=od
        obtain⟨u,O,P,T,U,aq,b,c,d,x,y,z,A⟩:=iZ aw.out a ab ac
        have g:=d
        have j:=c
        have l:=b
        cases aq
        obtain⟨b,c,d⟩:=hc3 HB b c d
        have B:=Aside0.mk y
        have am:=Aside0.mk x
        clear y x
        have D:=Aside0.mk A
        have an:=Aside0.mk z
        clear A z
        replace ab:=eq_true ab
        replace ac:=eq_true ac
        have ad:0≤(a:Int):=od
        have al:a<(l1.length:Int):=od
        obtain⟨v,W,X,Y,Z,ar,m,o,p,E,G,I,J⟩:=iZ HR1.out a ad al
        have q:=p
        have s:=o
        have t:=m
        cases ar
        obtain⟨m,o,p⟩:=hc3 HB m o p
        have L:=Aside0.mk G
        have ao:=Aside0.mk E
        clear G E
        have M:=Aside0.mk J
        have ap:=Aside0.mk I
        clear J I
        replace ad:=eq_true ad
        replace al:=eq_true al
        refine dX (n:=10) (S:=fun w' =>w'.cell? (u.add ((a).toNat * 3))=some (.bool ((aQ l0 a).f0))∧w'.cell? ⟨(u.add ((a).toNat * 3)).block,(u.add ((a).toNat * 3)).off+1,none⟩=some (.slice O ((aQ l0 a).f1).length P)∧w'.cell? ⟨(u.add ((a).toNat * 3)).block,(u.add ((a).toNat * 3)).off+2,none⟩=some (.slice T ((aQ l0 a).f2).length U)∧w'.cell? (v.add ((a).toNat * 3))=some (.bool ((aQ l1 a).f0))∧w'.cell? ⟨(v.add ((a).toNat * 3)).block,(v.add ((a).toNat * 3)).off+1,none⟩=some (.slice W ((aQ l1 a).f1).length X)∧w'.cell? ⟨(v.add ((a).toNat * 3)).block,(v.add ((a).toNat * 3)).off+2,none⟩=some (.slice Y ((aQ l1 a).f2).length Z)) (ds:= []) #[false,false,false,false,false,false,false,false,false,false] (by kernel_rfl) rfl rfl ⟨((HB.out.cell (World.block_lt_of_cell? w _ l)).trans l),((HB.out.cell (World.block_lt_of_cell? w _ j)).trans j),((HB.out.cell (World.block_lt_of_cell? w _ g)).trans g),((HB.out.cell (World.block_lt_of_cell? w _ t)).trans t),((HB.out.cell (World.block_lt_of_cell? w _ s)).trans s),((HB.out.cell (World.block_lt_of_cell? w _ q)).trans q)⟩ (fun hHeld=> ?_);refine dH bD.tab6 bD.bits6 (fun HT_ HW_=> ?_)
        generalize wr.drew=w9 at HB B D L M b c d m o p hHeld⊢
        refine pu 0 17 #[true,false,false,false,false,false,false,false,false,false] HT_ rfl rfl ?_
        refine pu 1 18 #[true,true,false,false,false,false,false,false,false,false] HT_ rfl rfl ?_
        refine pu 2 19 #[true,true,true,false,false,false,false,false,false,false] HT_ rfl rfl ?_
        refine pu 4 21 #[true,true,true,false,true,false,false,false,false,false] HT_ rfl rfl ?_
        refine pu 5 22 #[true,true,true,false,true,true,false,false,false,false] HT_ rfl rfl ?_
        refine pu 6 23 #[true,true,true,false,true,true,true,false,false,false] HT_ rfl rfl ?_
        refine ta 3 20 #[true,true,true,true,true,true,true,false,false,false] HT_ HW_ hHeld rfl rfl ?_
        refine ta 7 24 #[true,true,true,true,true,true,true,true,false,false] HT_ HW_ hHeld rfl rfl ?_
        refine fo (i:=8) (N:=some 25) #[true,true,true,true,true,true,true,true,true,false] rfl rfl (dU HT_.out (by kernel_rfl)) (by decide) (fun K hK=> ?_)
        refine gs Try.func8 #[.agg #[.bool ((aQ l0 a).f0), .slice O ((aQ l0 a).f1).length P, .slice T ((aQ l0 a).f2).length U], .agg #[.bool ((aQ l1 a).f0), .slice W ((aQ l1 a).f1).length X, .slice Y ((aQ l1 a).f2).length Z]] rfl rfl ?_
        with_reducible refine(bL.calls k1 ((aQ l0 a).f0) _ _ ((aQ l0 a).f1) _ _ ((aQ l0 a).f2) ((aQ l1 a).f0) _ _ ((aQ l1 a).f1) _ _ ((aQ l1 a).f2) true _ ?s1 ?s2 ?s3 ?s4 ?s5 ?s6 ?s7 ?s8 A7.out).mono ?_
        (case s1=>exact cb B.out)
        (case s2=>exact am.out)
        (case s3=>exact cb D.out)
        (case s4=>exact an.out)
        (case s5=>exact cb L.out)
        (case s6=>exact ao.out)
        (case s7=>exact cb M.out)
        (case s8=>exact ap.out)
        rintro e a3 ⟨rfl,hb⟩
        refine⟨_,rfl, ?_⟩
        replace HB:=hs HB hb
        (try clear hb)
        (try clear hb2)
        (try clear hk)
        (try clear hi)
        refine hK.out _ _ ⟨((HB.out.cell (World.block_lt_of_cell? w _ l)).trans l),((HB.out.cell (World.block_lt_of_cell? w _ j)).trans j),((HB.out.cell (World.block_lt_of_cell? w _ g)).trans g),((HB.out.cell (World.block_lt_of_cell? w _ t)).trans t),((HB.out.cell (World.block_lt_of_cell? w _ s)).trans s),((HB.out.cell (World.block_lt_of_cell? w _ q)).trans q)⟩ (fun hHeld=> ?_)
        clear hK K
        refine no 25 ?_
        refine pu 9 26 #[true,true,true,true,true,true,true,true,true,true] HT_ rfl rfl ?_
        refine eT (dR HT_.out (by kernel_rfl)) ?_
        try go_wp2
        go_roundg k1
        case measure=>have:=aB.out;omega
        case rel=>exact⟨(wrap64 (a+1)),(by first|rfl|(simp;done)|(simp[*];done)),H',⟨by have:=aB.out;omega⟩,⟨bl⟩⟩
       ·replace c8:=Bool.eq_false_iff.mpr c8
        subst c8
        replace H:=ie H
        obtain rfl:=Option.some.inj H;clear H
        try go_wp2
        replace HB:=Aside0.mk (aW HB.out)
        have ab:0≤(a:Int):=od
        have ac:a<(l0.length:Int):=od
        obtain⟨u,O,P,T,U,aq,b,c,d,x,y,z,A⟩:=iZ aw.out a ab ac
        have g:=d
        have j:=c
        have l:=b
        cases aq
        obtain⟨b,c,d⟩:=hc3 HB b c d
        have B:=Aside0.mk y
        have am:=Aside0.mk x
        clear y x
        have D:=Aside0.mk A
        have an:=Aside0.mk z
        clear A z
        replace ab:=eq_true ab
        replace ac:=eq_true ac
        have ad:0≤(a:Int):=od
        have al:a<(l1.length:Int):=od
        obtain⟨v,W,X,Y,Z,ar,m,o,p,E,G,I,J⟩:=iZ HR1.out a ad al
        have q:=p
        have s:=o
        have t:=m
        cases ar
        obtain⟨m,o,p⟩:=hc3 HB m o p
        have L:=Aside0.mk G
        have ao:=Aside0.mk E
        clear G E
        have M:=Aside0.mk J
        have ap:=Aside0.mk I
        clear J I
        replace ad:=eq_true ad
        replace al:=eq_true al
        refine dX (n:=10) (S:=fun w' =>w'.cell? (u.add ((a).toNat * 3))=some (.bool ((aQ l0 a).f0))∧w'.cell? ⟨(u.add ((a).toNat * 3)).block,(u.add ((a).toNat * 3)).off+1,none⟩=some (.slice O ((aQ l0 a).f1).length P)∧w'.cell? ⟨(u.add ((a).toNat * 3)).block,(u.add ((a).toNat * 3)).off+2,none⟩=some (.slice T ((aQ l0 a).f2).length U)∧w'.cell? (v.add ((a).toNat * 3))=some (.bool ((aQ l1 a).f0))∧w'.cell? ⟨(v.add ((a).toNat * 3)).block,(v.add ((a).toNat * 3)).off+1,none⟩=some (.slice W ((aQ l1 a).f1).length X)∧w'.cell? ⟨(v.add ((a).toNat * 3)).block,(v.add ((a).toNat * 3)).off+2,none⟩=some (.slice Y ((aQ l1 a).f2).length Z)) (ds:= []) #[false,false,false,false,false,false,false,false,false,false] (by kernel_rfl) rfl rfl ⟨((HB.out.cell (World.block_lt_of_cell? w _ l)).trans l),((HB.out.cell (World.block_lt_of_cell? w _ j)).trans j),((HB.out.cell (World.block_lt_of_cell? w _ g)).trans g),((HB.out.cell (World.block_lt_of_cell? w _ t)).trans t),((HB.out.cell (World.block_lt_of_cell? w _ s)).trans s),((HB.out.cell (World.block_lt_of_cell? w _ q)).trans q)⟩ (fun hHeld=> ?_);refine dH bD.tab6 bD.bits6 (fun HT_ HW_=> ?_)
        generalize wr.drew=a4 at HB B D L M b c d m o p hHeld⊢
        refine pu 0 17 #[true,false,false,false,false,false,false,false,false,false] HT_ rfl rfl ?_
        refine pu 1 18 #[true,true,false,false,false,false,false,false,false,false] HT_ rfl rfl ?_
        refine pu 2 19 #[true,true,true,false,false,false,false,false,false,false] HT_ rfl rfl ?_
        refine pu 4 21 #[true,true,true,false,true,false,false,false,false,false] HT_ rfl rfl ?_
        refine pu 5 22 #[true,true,true,false,true,true,false,false,false,false] HT_ rfl rfl ?_
        refine pu 6 23 #[true,true,true,false,true,true,true,false,false,false] HT_ rfl rfl ?_
        refine ta 3 20 #[true,true,true,true,true,true,true,false,false,false] HT_ HW_ hHeld rfl rfl ?_
        refine ta 7 24 #[true,true,true,true,true,true,true,true,false,false] HT_ HW_ hHeld rfl rfl ?_
        refine fo (i:=8) (N:=some 25) #[true,true,true,true,true,true,true,true,true,false] rfl rfl (dU HT_.out (by kernel_rfl)) (by decide) (fun K hK=> ?_)
        refine gs Try.func8 #[.agg #[.bool ((aQ l0 a).f0), .slice O ((aQ l0 a).f1).length P, .slice T ((aQ l0 a).f2).length U], .agg #[.bool ((aQ l1 a).f0), .slice W ((aQ l1 a).f1).length X, .slice Y ((aQ l1 a).f2).length Z]] rfl rfl ?_
        with_reducible refine(bL.calls k1 ((aQ l0 a).f0) _ _ ((aQ l0 a).f1) _ _ ((aQ l0 a).f2) ((aQ l1 a).f0) _ _ ((aQ l1 a).f1) _ _ ((aQ l1 a).f2) false _ ?s1 ?s2 ?s3 ?s4 ?s5 ?s6 ?s7 ?s8 A7.out).mono ?_
        (case s1=>exact cb B.out)
        (case s2=>exact am.out)
        (case s3=>exact cb D.out)
        (case s4=>exact an.out)
        (case s5=>exact cb L.out)
        (case s6=>exact ao.out)
        (case s7=>exact cb M.out)
        (case s8=>exact ap.out)
        rintro e a5 ⟨rfl,hb⟩
        refine⟨_,rfl, ?_⟩
        replace HB:=hs HB hb
        (try clear hb)
        (try clear hb2)
        (try clear hk)
        (try clear hi)
        refine hK.out _ _ ⟨((HB.out.cell (World.block_lt_of_cell? w _ l)).trans l),((HB.out.cell (World.block_lt_of_cell? w _ j)).trans j),((HB.out.cell (World.block_lt_of_cell? w _ g)).trans g),((HB.out.cell (World.block_lt_of_cell? w _ t)).trans t),((HB.out.cell (World.block_lt_of_cell? w _ s)).trans s),((HB.out.cell (World.block_lt_of_cell? w _ q)).trans q)⟩ (fun hHeld=> ?_)
        clear hK K
        refine no 25 ?_
        refine pu 9 26 #[true,true,true,true,true,true,true,true,true,true] HT_ rfl rfl ?_
        refine eT (dR HT_.out (by kernel_rfl)) ?_
        try go_wp2
        go_ret
        exact fin
      ·rw[if_neg c6]at H
       exact absurd H (by simp)
     ·rw[if_neg c5]at H
      exact absurd H (by simp)
    ·rw[if_neg c4]at H
     have aO:decide (a<(l0.length:Int))=false:=decide_eq_false c4
     clear c4
     obtain rfl:=Option.some.inj H;clear H
     go_wp2
     go_ret
     exact fin
 ·rw[if_neg c3]at H
  have aE:=beq_eq_false_iff_ne.mpr c3
  have aF:=bne_iff_ne.mpr c3
  have aL:(l0.length==l1.length)=false:=by first|simpa using c3|(simp at c3⊢;omega)
  obtain rfl:=Option.some.inj H;clear H
  go_enter Try.func67,Try.ntmps67
  go_wp2
  go_ret
  exact fin
set_option maxHeartbeats 8000000 in
set_option maxRecDepth 100000 in
theorem gQ.calls (a:Int) (b:Int) (c:Int) (d:Int) (g:Int) (i:Int) (j:Int) (k:Int) (r:Bool) (w:World) (h:gQ.f a b c d g i j k=some r):
  Calls Try.prog 84 #[.agg #[.int .i64 a, .int .i64 b, .int .i64 c, .int .i64 d], .agg #[.int .i64 g, .int .i64 i, .int .i64 j, .int .i64 k]] w fun e w' =>e= .returned (.bool r)∧Below w.heap.size w w' :=by
 have u:=Try.underlying102
 have HB:=Aside0.mk (Below.refl w.heap.size w)
 have H:(if a=g then(if b=i then(if c=j then(if d=k then(some true)else(some false))else(some false))else(some false))else(some false))=some r:=h
 clear h
 by_cases c3:a=g
 ·rw [if_pos c3]at H
  have l:=beq_iff_eq.mpr c3
  have m:=bne_eq_false_iff_eq.mpr c3
  clear c3
  by_cases c4:b=i
  ·rw[if_pos c4]at H
   have n:=beq_iff_eq.mpr c4
   have o:=bne_eq_false_iff_eq.mpr c4
   clear c4
   by_cases c5:c=j
   ·rw[if_pos c5]at H
    have p:=beq_iff_eq.mpr c5
    have q:=bne_eq_false_iff_eq.mpr c5
    clear c5
    by_cases c6:d=k
    ·rw[if_pos c6]at H
     have s:=beq_iff_eq.mpr c6
     have t:=bne_eq_false_iff_eq.mpr c6
     clear c6
     obtain rfl:=Option.some.inj H;clear H
     go_enter Try.func84,Try.ntmps84
     go_wp2
     go_ret
     exact fin
    ·rw[if_neg c6]at H
     have s:=beq_eq_false_iff_ne.mpr c6
     have t:=bne_iff_ne.mpr c6
     obtain rfl:=Option.some.inj H;clear H
     go_enter Try.func84,Try.ntmps84
     go_wp2
     go_ret
     exact fin
   ·rw[if_neg c5]at H
    have p:=beq_eq_false_iff_ne.mpr c5
    have q:=bne_iff_ne.mpr c5
    obtain rfl:=Option.some.inj H;clear H
    go_enter Try.func84,Try.ntmps84
    go_wp2
    go_ret
    exact fin
  ·rw[if_neg c4]at H
   have n:=beq_eq_false_iff_ne.mpr c4
   have o:=bne_iff_ne.mpr c4
   obtain rfl:=Option.some.inj H;clear H
   go_enter Try.func84,Try.ntmps84
   go_wp2
   go_ret
   exact fin
 ·rw[if_neg c3]at H
  have l:=beq_eq_false_iff_ne.mpr c3
  have m:=bne_iff_ne.mpr c3
  obtain rfl:=Option.some.inj H;clear H
  go_enter Try.func84,Try.ntmps84
  go_wp2
  go_ret
  exact fin
def bE.T6:Bool×List (List Nat×List Nat):=(true, [([], []),([], []),([0,1], [0,1]),([2], [2]),([], []),([], []),([4,5], [4,5]),([6], [6]),([3,7], [3,7]),([8], [8])])
def bE.B6:List Nat:= [0,0,3,7,0,0,48,112,255,511]
theorem bE.tab6:ed .any (opsOf Try.f68 6)=bE.T6:=by kernel_rfl
theorem bE.bits6:eP bE.T6.2 bE.B6=true:=by kernel_rfl
set_option maxHeartbeats 8000000 in
set_option maxRecDepth 100000 in
theorem bE.calls (k:Nat) (A0:Option Addr) (c0:Nat) (l0:List (S102)) (A1:Option Addr) (c1:Nat) (l1:List (S102)) (r:Bool) (w:World) (hr0:Kd.C dQ w A0 l0.length l0) (hc0:l0.length≤c0) (hr1:Kd.C dQ w A1 l1.length l1) (hc1:l1.length≤c1) (h:bE.f k l0 l1=some r):
  Calls Try.prog 68 #[.slice A0 l0.length c0, .slice A1 l1.length c1] w fun e w' =>e= .returned (.bool r)∧Below w.heap.size w w' :=by
 have X:=Try.underlying102
 have L:=Aside0.mk hr0
 have ab:=Aside0.mk hc0
 clear hr0 hc0
 have HR1:=Aside0.mk hr1
 have ac:=Aside0.mk hc1
 clear hr1 hc1
 have HB:=Aside0.mk (Below.refl w.heap.size w)
 have H:(if(l0.length:Int)=(l1.length:Int)then(bE.l0 k l0 l1 0)else(some false))=some r:=h
 clear h
 by_cases c3:(l0.length:Int)=(l1.length:Int)
 ·rw [if_pos c3]at H
  have O:=beq_iff_eq.mpr c3
  have P:=bne_eq_false_iff_eq.mpr c3
  have T:(l0.length==l1.length)=true:=by first|simpa using c3|(simp at c3⊢;omega)
  clear c3
  have H' :=Aside0.mk H
  clear H
  go_enter Try.func68,Try.ntmps68
  go_wp2
  go_loopg [5] k (fun kq v5 w' => ∃(a:Int),v5= .int .i64 a∧Aside0 (bE.l0 kq l0 l1 a=some r)∧Aside0 (kq≤k)∧Aside0 (Below w.heap.size w w'))
  case atStart=>exact⟨(0),(by first|rfl|(simp;done)|(simp[*];done)),H',⟨Nat.le_refl _⟩,⟨bl⟩⟩
  case round=>
   clear H'
   obtain⟨a,rfl,HA,M,HB⟩:=hrel
   cases gk with
   |zero=>exact absurd HA.out (by simp[bE.l0])
   | succ k1=>
    have H:=HA.out
    clear HA
    simp only[bE.l0]at H
    by_cases c4:a<(l0.length:Int)
    ·rw [if_pos c4]at H
     have U:decide (a<(l0.length:Int))=true:=decide_eq_true c4
     clear c4
     by_cases c5:0≤a
     ·rw[if_pos c5]at H
      have Y:decide (0≤a)=true:=decide_eq_true c5
      clear c5
      by_cases c6:a<(l1.length:Int)
      ·rw[if_pos c6]at H
       have Z:decide (a<(l1.length:Int))=true:=decide_eq_true c6
       clear c6
       obtain⟨W,A7,H⟩:=ob H
       by_cases c8:W=true
       ·subst c8
        replace H:=it H
        have H' :=Aside0.mk H
        clear H
        try go_wp2
        replace HB:=Aside0.mk (aW HB.out)
        have B:0≤(a:Int):=od
        have D:a<(l0.length:Int):=od
        obtain⟨b,I,d,g,j,l⟩:=iR L.out a B D
        have m:=l
        have o:=j
        have p:=g
        have q:=d
        cases I
        obtain⟨d,g,j,l⟩:=hc4 HB d g j l
        replace B:=eq_true B
        replace D:=eq_true D
        have E:0≤(a:Int):=od
        have G:a<(l1.length:Int):=od
        obtain⟨c,J,s,t,u,v⟩:=iR HR1.out a E G
        have x:=v
        have y:=u
        have z:=t
        have A:=s
        cases J
        obtain⟨s,t,u,v⟩:=hc4 HB s t u v
        replace E:=eq_true E
        replace G:=eq_true G
        refine dX (n:=10) (S:=fun w' =>w'.cell? (b.add ((a).toNat * 4))=some (.int .i64 ((az l0 a).f0))∧w'.cell? ⟨(b.add ((a).toNat * 4)).block,(b.add ((a).toNat * 4)).off+1,none⟩=some (.int .i64 ((az l0 a).f1))∧w'.cell? ⟨(b.add ((a).toNat * 4)).block,(b.add ((a).toNat * 4)).off+2,none⟩=some (.int .i64 ((az l0 a).f2))∧w'.cell? ⟨(b.add ((a).toNat * 4)).block,(b.add ((a).toNat * 4)).off+3,none⟩=some (.int .i64 ((az l0 a).f3))∧w'.cell? (c.add ((a).toNat * 4))=some (.int .i64 ((az l1 a).f0))∧w'.cell? ⟨(c.add ((a).toNat * 4)).block,(c.add ((a).toNat * 4)).off+1,none⟩=some (.int .i64 ((az l1 a).f1))∧w'.cell? ⟨(c.add ((a).toNat * 4)).block,(c.add ((a).toNat * 4)).off+2,none⟩=some (.int .i64 ((az l1 a).f2))∧w'.cell? ⟨(c.add ((a).toNat * 4)).block,(c.add ((a).toNat * 4)).off+3,none⟩=some (.int .i64 ((az l1 a).f3))) (ds:= []) #[false,false,false,false,false,false,false,false,false,false] (by kernel_rfl) rfl rfl ⟨((HB.out.cell (World.block_lt_of_cell? w _ q)).trans q),((HB.out.cell (World.block_lt_of_cell? w _ p)).trans p),((HB.out.cell (World.block_lt_of_cell? w _ o)).trans o),((HB.out.cell (World.block_lt_of_cell? w _ m)).trans m),((HB.out.cell (World.block_lt_of_cell? w _ A)).trans A),((HB.out.cell (World.block_lt_of_cell? w _ z)).trans z),((HB.out.cell (World.block_lt_of_cell? w _ y)).trans y),((HB.out.cell (World.block_lt_of_cell? w _ x)).trans x)⟩ (fun hHeld=> ?_);refine dH bE.tab6 bE.bits6 (fun HT_ HW_=> ?_)
        generalize wr.drew=w9 at HB d g j l s t u v hHeld⊢
        refine pu 0 17 #[true,false,false,false,false,false,false,false,false,false] HT_ rfl rfl ?_
        refine pu 1 18 #[true,true,false,false,false,false,false,false,false,false] HT_ rfl rfl ?_
        refine pu 2 19 #[true,true,true,false,false,false,false,false,false,false] HT_ rfl rfl ?_
        refine pu 4 21 #[true,true,true,false,true,false,false,false,false,false] HT_ rfl rfl ?_
        refine pu 5 22 #[true,true,true,false,true,true,false,false,false,false] HT_ rfl rfl ?_
        refine pu 6 23 #[true,true,true,false,true,true,true,false,false,false] HT_ rfl rfl ?_
        refine ta 3 20 #[true,true,true,true,true,true,true,false,false,false] HT_ HW_ hHeld rfl rfl ?_
        refine ta 7 24 #[true,true,true,true,true,true,true,true,false,false] HT_ HW_ hHeld rfl rfl ?_
        refine fo (i:=8) (N:=some 25) #[true,true,true,true,true,true,true,true,true,false] rfl rfl (dU HT_.out (by kernel_rfl)) (by decide) (fun K hK=> ?_)
        refine gs Try.func84 #[.agg #[.int .i64 ((az l0 a).f0), .int .i64 ((az l0 a).f1), .int .i64 ((az l0 a).f2), .int .i64 ((az l0 a).f3)], .agg #[.int .i64 ((az l1 a).f0), .int .i64 ((az l1 a).f1), .int .i64 ((az l1 a).f2), .int .i64 ((az l1 a).f3)]] rfl rfl ?_
        with_reducible refine(gQ.calls ((az l0 a).f0) ((az l0 a).f1) ((az l0 a).f2) ((az l0 a).f3) ((az l1 a).f0) ((az l1 a).f1) ((az l1 a).f2) ((az l1 a).f3) true _ A7.out).mono ?_
        rintro e ad ⟨rfl,hb⟩
        refine⟨_,rfl, ?_⟩
        replace HB:=hs HB hb
        (try clear hb)
        (try clear hb2)
        (try clear hk)
        (try clear hi)
        refine hK.out _ _ ⟨((HB.out.cell (World.block_lt_of_cell? w _ q)).trans q),((HB.out.cell (World.block_lt_of_cell? w _ p)).trans p),((HB.out.cell (World.block_lt_of_cell? w _ o)).trans o),((HB.out.cell (World.block_lt_of_cell? w _ m)).trans m),((HB.out.cell (World.block_lt_of_cell? w _ A)).trans A),((HB.out.cell (World.block_lt_of_cell? w _ z)).trans z),((HB.out.cell (World.block_lt_of_cell? w _ y)).trans y),((HB.out.cell (World.block_lt_of_cell? w _ x)).trans x)⟩ (fun hHeld=> ?_)
        clear hK K
        refine no 25 ?_
        refine pu 9 26 #[true,true,true,true,true,true,true,true,true,true] HT_ rfl rfl ?_
        refine eT (dR HT_.out (by kernel_rfl)) ?_
        try go_wp2
        go_roundg k1
        case measure=>have:=M.out;omega
        case rel=>exact⟨(wrap64 (a+1)),(by first|rfl|(simp;done)|(simp[*];done)),H',⟨by have:=M.out;omega⟩,⟨bl⟩⟩
       ·replace c8:=Bool.eq_false_iff.mpr c8
        subst c8
        replace H:=ie H
        obtain rfl:=Option.some.inj H;clear H
        try go_wp2
        replace HB:=Aside0.mk (aW HB.out)
        have B:0≤(a:Int):=od
        have D:a<(l0.length:Int):=od
        obtain⟨b,I,d,g,j,l⟩:=iR L.out a B D
        have m:=l
        have o:=j
        have p:=g
        have q:=d
        cases I
        obtain⟨d,g,j,l⟩:=hc4 HB d g j l
        replace B:=eq_true B
        replace D:=eq_true D
        have E:0≤(a:Int):=od
        have G:a<(l1.length:Int):=od
        obtain⟨c,J,s,t,u,v⟩:=iR HR1.out a E G
        have x:=v
        have y:=u
        have z:=t
        have A:=s
        cases J
        obtain⟨s,t,u,v⟩:=hc4 HB s t u v
        replace E:=eq_true E
        replace G:=eq_true G
        refine dX (n:=10) (S:=fun w' =>w'.cell? (b.add ((a).toNat * 4))=some (.int .i64 ((az l0 a).f0))∧w'.cell? ⟨(b.add ((a).toNat * 4)).block,(b.add ((a).toNat * 4)).off+1,none⟩=some (.int .i64 ((az l0 a).f1))∧w'.cell? ⟨(b.add ((a).toNat * 4)).block,(b.add ((a).toNat * 4)).off+2,none⟩=some (.int .i64 ((az l0 a).f2))∧w'.cell? ⟨(b.add ((a).toNat * 4)).block,(b.add ((a).toNat * 4)).off+3,none⟩=some (.int .i64 ((az l0 a).f3))∧w'.cell? (c.add ((a).toNat * 4))=some (.int .i64 ((az l1 a).f0))∧w'.cell? ⟨(c.add ((a).toNat * 4)).block,(c.add ((a).toNat * 4)).off+1,none⟩=some (.int .i64 ((az l1 a).f1))∧w'.cell? ⟨(c.add ((a).toNat * 4)).block,(c.add ((a).toNat * 4)).off+2,none⟩=some (.int .i64 ((az l1 a).f2))∧w'.cell? ⟨(c.add ((a).toNat * 4)).block,(c.add ((a).toNat * 4)).off+3,none⟩=some (.int .i64 ((az l1 a).f3))) (ds:= []) #[false,false,false,false,false,false,false,false,false,false] (by kernel_rfl) rfl rfl ⟨((HB.out.cell (World.block_lt_of_cell? w _ q)).trans q),((HB.out.cell (World.block_lt_of_cell? w _ p)).trans p),((HB.out.cell (World.block_lt_of_cell? w _ o)).trans o),((HB.out.cell (World.block_lt_of_cell? w _ m)).trans m),((HB.out.cell (World.block_lt_of_cell? w _ A)).trans A),((HB.out.cell (World.block_lt_of_cell? w _ z)).trans z),((HB.out.cell (World.block_lt_of_cell? w _ y)).trans y),((HB.out.cell (World.block_lt_of_cell? w _ x)).trans x)⟩ (fun hHeld=> ?_);refine dH bE.tab6 bE.bits6 (fun HT_ HW_=> ?_)
        generalize wr.drew=al at HB d g j l s t u v hHeld⊢
        refine pu 0 17 #[true,false,false,false,false,false,false,false,false,false] HT_ rfl rfl ?_
        refine pu 1 18 #[true,true,false,false,false,false,false,false,false,false] HT_ rfl rfl ?_
        refine pu 2 19 #[true,true,true,false,false,false,false,false,false,false] HT_ rfl rfl ?_
        refine pu 4 21 #[true,true,true,false,true,false,false,false,false,false] HT_ rfl rfl ?_
        refine pu 5 22 #[true,true,true,false,true,true,false,false,false,false] HT_ rfl rfl ?_
        refine pu 6 23 #[true,true,true,false,true,true,true,false,false,false] HT_ rfl rfl ?_
        refine ta 3 20 #[true,true,true,true,true,true,true,false,false,false] HT_ HW_ hHeld rfl rfl ?_
        refine ta 7 24 #[true,true,true,true,true,true,true,true,false,false] HT_ HW_ hHeld rfl rfl ?_
        refine fo (i:=8) (N:=some 25) #[true,true,true,true,true,true,true,true,true,false] rfl rfl (dU HT_.out (by kernel_rfl)) (by decide) (fun K hK=> ?_)
        refine gs Try.func84 #[.agg #[.int .i64 ((az l0 a).f0), .int .i64 ((az l0 a).f1), .int .i64 ((az l0 a).f2), .int .i64 ((az l0 a).f3)], .agg #[.int .i64 ((az l1 a).f0), .int .i64 ((az l1 a).f1), .int .i64 ((az l1 a).f2), .int .i64 ((az l1 a).f3)]] rfl rfl ?_
        with_reducible refine(gQ.calls ((az l0 a).f0) ((az l0 a).f1) ((az l0 a).f2) ((az l0 a).f3) ((az l1 a).f0) ((az l1 a).f1) ((az l1 a).f2) ((az l1 a).f3) false _ A7.out).mono ?_
        rintro e am ⟨rfl,hb⟩
        refine⟨_,rfl, ?_⟩
        replace HB:=hs HB hb
        (try clear hb)
        (try clear hb2)
        (try clear hk)
        (try clear hi)
        refine hK.out _ _ ⟨((HB.out.cell (World.block_lt_of_cell? w _ q)).trans q),((HB.out.cell (World.block_lt_of_cell? w _ p)).trans p),((HB.out.cell (World.block_lt_of_cell? w _ o)).trans o),((HB.out.cell (World.block_lt_of_cell? w _ m)).trans m),((HB.out.cell (World.block_lt_of_cell? w _ A)).trans A),((HB.out.cell (World.block_lt_of_cell? w _ z)).trans z),((HB.out.cell (World.block_lt_of_cell? w _ y)).trans y),((HB.out.cell (World.block_lt_of_cell? w _ x)).trans x)⟩ (fun hHeld=> ?_)
        clear hK K
        refine no 25 ?_
        refine pu 9 26 #[true,true,true,true,true,true,true,true,true,true] HT_ rfl rfl ?_
        refine eT (dR HT_.out (by kernel_rfl)) ?_
        try go_wp2
        go_ret
        exact fin
      ·rw[if_neg c6]at H
       exact absurd H (by simp)
     ·rw[if_neg c5]at H
      exact absurd H (by simp)
    ·rw[if_neg c4]at H
     have U:decide (a<(l0.length:Int))=false:=decide_eq_false c4
     clear c4
     obtain rfl:=Option.some.inj H;clear H
     go_wp2
     go_ret
     exact fin
 ·rw[if_neg c3]at H
  have O:=beq_eq_false_iff_ne.mpr c3
  have P:=bne_iff_ne.mpr c3
  have T:(l0.length==l1.length)=false:=by first|simpa using c3|(simp at c3⊢;omega)
  obtain rfl:=Option.some.inj H;clear H
  go_enter Try.func68,Try.ntmps68
  go_wp2
  go_ret
  exact fin
end Go.Proofs.Yteinbmkgenhocaa.P
end
