/- A part of the claim FnExactShapeStart: texts of this session and texts that its program printed out of the translation, joined. -/
import Derived.Deep.Slices
import Derived.Lib.SmallJoins
import Derived.DataReads
import Derived.WideShapes
import Derived.Test.YteinbmkgenhocaaCFnExactShapeStart34
section
namespace Go.Proofs.Yteinbmkgenhocaa.P
open Go.RowKit Go.Proofs.YteinbmkgenhocaaW.PrintWords Go.Proofs.YteinbmkgenhocaaW.PrintLast Go.Proofs.YteinbmkgenhocaaW.PrintMore
attribute [local go_sem] ak au aA aC ai aj av ax
set_option linter.unusedVariables false
set_option linter.unusedSimpArgs false
set_option maxHeartbeats 8000000 in
set_option maxRecDepth 100000 in
theorem laws_FnExactShapeStart.calls (k:Nat) (bh:Option Addr) (bj:Nat) (I:List (S62)) (bk:Option Addr) (bm:Nat) (J:List (S68)) (a1:Int) (r:Bool) (w:World) (cP:Kd.C k62 w bh I.length I) (cQ:I.length≤bj) (cR:Kd.C k68 w bk J.length J) (cS:J.length≤bm) (h:laws_FnExactShapeStart.f k I J a1=some r) (hr_:r=true):
  Calls Try.prog 3 #[.agg #[.slice bh I.length bj, .slice bk J.length bm], .int .i64 a1] w fun e w' =>e= .returned (.bool r)∧Below w.heap.size w w' :=by
 have f6:=Try.underlying25
 have f7:=Try.underlying29
 have f8:=Try.underlying34
 have b6:=Aside0.mk cP
 have b7:=Aside0.mk cQ
 clear cP cQ
 have b8:=Aside0.mk cR
 have b9:=Aside0.mk cS
 clear cR cS
 have HB:=Aside0.mk (Below.refl w.heap.size w)
 have H:((gm.f k I J 1048576).bind fun cc=>(if cc<0 then(some true)else((di.f k I J).bind fun cT=>((eG.f k cT.1 cT.2 a1).bind fun al=>((di.f k I J).bind fun aw=>((dC.f k aw.1 aw.2 a1).bind fun m=>((bL.f k m.1 m.2.1 m.2.2 al.1 al.2.1 al.2.2).bind fun br=>(if br=true then((di.f k I J).bind fun a2=>((eu.f k aw.1 aw.2 a2.1 a2.2).bind fun bc=>(if bc=true then((dV.f aw.1 aw.2 1).bind fun a6=>(if a6<0 then(laws_FnExactShapeStart.j0 k a1 true I J al.1 al.2.1 al.2.2 m.1 m.2.1 m.2.2)else((bL.f k m.1 m.2.1 m.2.2 al.1 al.2.1 al.2.2).bind fun a8=>(laws_FnExactShapeStart.j0 k a1 (!a8) I J al.1 al.2.1 al.2.2 m.1 m.2.1 m.2.2))))else(some false))))else(some false)))))))))=some r:=h
 clear h
 obtain⟨cc,A3,H⟩:=ob H
 by_cases c4:cc<0
 ·rw[if_pos c4]at H
  have eg:decide (cc<0)=true:=decide_eq_true c4
  clear c4
  obtain rfl:=Option.some.inj H;clear H
  go_enter Try.func3,Try.ntmps3
  go_wp2_with (first|((with_reducible refine gd 2 rfl ?_);refine bx 2 #[.slice bh I.length bj, .slice bk J.length bm] 25 ?_;intro ca hg w5 hbox hb;have a:=Aside0.mk hbox;have dt:=hz HB hg;have cv:=hz HB hg;replace HB:=hs HB hb;clear hb hbox hg;obtain⟨_,_,_,_⟩:=cf2 a)|((with_reducible refine gc 4 rfl ?_);refine gl (some 15) Try.func4 #[.agg #[.slice bh I.length bj, .slice bk J.length bm], .int .i64 1048576] rfl ?_;(with_reducible refine(gm.calls k _ _ I _ _ J 1048576 cc _ ?side1 ?side2 ?side3 ?s4 A3.out).mono ?_);(case side1=>exact cb b6.out);(case side2=>exact b7.out);(case side3=>exact cb b8.out);(case s4=>exact b9.out);rintro e w7 ⟨rfl,hb⟩;refine⟨_,rfl, ?_⟩;replace a:=kb a hb;replace HB:=hs HB hb;(try clear hb)))
  go_ret
  exact fin
 ·rw [if_neg c4]at H
  have eg:decide (cc<0)=false:=decide_eq_false c4
  clear c4
  replace H:=Option.bind_eq_some_iff.mp H
  obtain⟨⟨cn,co⟩,d3,H⟩:=H
  replace H:((eG.f k cn co a1).bind fun al=>((di.f k I J).bind fun aw=>((dC.f k aw.1 aw.2 a1).bind fun m=>((bL.f k m.1 m.2.1 m.2.2 al.1 al.2.1 al.2.2).bind fun br=>(if br=true then((di.f k I J).bind fun a2=>((eu.f k aw.1 aw.2 a2.1 a2.2).bind fun bc=>(if bc=true then((dV.f aw.1 aw.2 1).bind fun a6=>(if a6<0 then(laws_FnExactShapeStart.j0 k a1 true I J al.1 al.2.1 al.2.2 m.1 m.2.1 m.2.2)else((bL.f k m.1 m.2.1 m.2.2 al.1 al.2.1 al.2.2).bind fun a8=>(laws_FnExactShapeStart.j0 k a1 (!a8) I J al.1 al.2.1 al.2.2 m.1 m.2.1 m.2.2))))else(some false))))else(some false))))))=some r:=H
  have A8:=Aside0.mk d3
  clear d3
  replace H:=Option.bind_eq_some_iff.mp H
  obtain⟨⟨L,q,s⟩,d4,H⟩:=H
  replace H:((di.f k I J).bind fun aw=>((dC.f k aw.1 aw.2 a1).bind fun m=>((bL.f k m.1 m.2.1 m.2.2 L q s).bind fun br=>(if br=true then((di.f k I J).bind fun a2=>((eu.f k aw.1 aw.2 a2.1 a2.2).bind fun bc=>(if bc=true then((dV.f aw.1 aw.2 1).bind fun a6=>(if a6<0 then(laws_FnExactShapeStart.j0 k a1 true I J L q s m.1 m.2.1 m.2.2)else((bL.f k m.1 m.2.1 m.2.2 L q s).bind fun a8=>(laws_FnExactShapeStart.j0 k a1 (!a8) I J L q s m.1 m.2.1 m.2.2))))else(some false))))else(some false)))))=some r:=H
  have A9:=Aside0.mk d4
  clear d4
  replace H:=Option.bind_eq_some_iff.mp H
  obtain⟨⟨ao,ap⟩,cY,H⟩:=H
  replace H:((dC.f k ao ap a1).bind fun m=>((bL.f k m.1 m.2.1 m.2.2 L q s).bind fun br=>(if br=true then((di.f k I J).bind fun a2=>((eu.f k ao ap a2.1 a2.2).bind fun bc=>(if bc=true then((dV.f ao ap 1).bind fun a6=>(if a6<0 then(laws_FnExactShapeStart.j0 k a1 true I J L q s m.1 m.2.1 m.2.2)else((bL.f k m.1 m.2.1 m.2.2 L q s).bind fun a8=>(laws_FnExactShapeStart.j0 k a1 (!a8) I J L q s m.1 m.2.1 m.2.2))))else(some false))))else(some false))))=some r:=H
  have eI:=Aside0.mk cY
  clear cY
  replace H:=Option.bind_eq_some_iff.mp H
  obtain⟨⟨U,u,x⟩,c0,H⟩:=H
  replace H:((bL.f k U u x L q s).bind fun br=>(if br=true then((di.f k I J).bind fun a2=>((eu.f k ao ap a2.1 a2.2).bind fun bc=>(if bc=true then((dV.f ao ap 1).bind fun a6=>(if a6<0 then(laws_FnExactShapeStart.j0 k a1 true I J L q s U u x)else((bL.f k U u x L q s).bind fun a8=>(laws_FnExactShapeStart.j0 k a1 (!a8) I J L q s U u x))))else(some false))))else(some false)))=some r:=H
  have eJ:=Aside0.mk c0
  clear c0
  obtain⟨br,eK,H⟩:=ob H
  by_cases c13:br=true
  ·subst c13
   replace H:=it H
   replace H:=Option.bind_eq_some_iff.mp H
   obtain⟨⟨cw,cx⟩,c1,H⟩:=H
   replace H:((eu.f k ao ap cw cx).bind fun bc=>(if bc=true then((dV.f ao ap 1).bind fun a6=>(if a6<0 then(laws_FnExactShapeStart.j0 k a1 true I J L q s U u x)else((bL.f k U u x L q s).bind fun a8=>(laws_FnExactShapeStart.j0 k a1 (!a8) I J L q s U u x))))else(some false)))=some r:=H
   have eL:=Aside0.mk c1
   clear c1
   obtain⟨bc,eM,H⟩:=ob H
   by_cases c16:bc=true
   ·subst c16
    replace H:=it H
    obtain⟨a6,eN,H⟩:=ob H
    have cN:=Aside0.mk H
    clear H
    go_enter Try.func3,Try.ntmps3
    try go_wp2_with (first|((with_reducible refine gd 2 rfl ?_);refine bx 2 #[.slice bh I.length bj, .slice bk J.length bm] 25 ?_;intro ca hg gx hbox hb;have a:=Aside0.mk hbox;have dt:=hz HB hg;have cv:=hz HB hg;replace HB:=hs HB hb;clear hb hbox hg;obtain⟨_,_,_,_⟩:=cf2 a)|((with_reducible refine gc 4 rfl ?_);refine gl (some 15) Try.func4 #[.agg #[.slice bh I.length bj, .slice bk J.length bm], .int .i64 1048576] rfl ?_;(with_reducible refine(gm.calls k _ _ I _ _ J 1048576 cc _ ?side1 ?side2 ?side3 ?s4 A3.out).mono ?_);(case side1=>exact cb b6.out);(case side2=>exact b7.out);(case side3=>exact cb b8.out);(case s4=>exact b9.out);rintro e gA ⟨rfl,hb⟩;refine⟨_,rfl, ?_⟩;replace a:=kb a hb;replace HB:=hs HB hb;(try clear hb);obtain⟨_,_,_,_⟩:=cf2 a)|((with_reducible refine gc 6 rfl ?_);refine gl (some 19) Try.func6 #[.agg #[.slice bh I.length bj, .slice bk J.length bm]] rfl ?_;(with_reducible refine(di.calls k _ _ I _ _ J cn co _ ?side1 ?side2 ?side3 ?s4 A8.out).mono ?_);(case side1=>exact cb b6.out);(case side2=>exact b7.out);(case side3=>exact cb b8.out);(case s4=>exact b9.out);rintro e gC ⟨f9,ga,rfl,ho0,ho1,hb⟩;refine⟨_,rfl, ?_⟩;have ac:=Aside0.mk (Kd.S_lower ho0 (aK bl));have ad:=Aside0.mk (Kd.R_lower ho1 (aK bl));replace a:=kb a hb;replace HB:=hs HB hb;(try clear hb);(try clear ho0);(try clear ho1);obtain⟨da,db,eh⟩:=Kd.S_slice ac.out;subst eh;obtain⟨dc,dd,ei⟩:=Kd.R_slice ad.out;subst ei)|((with_reducible refine gc 5 rfl ?_);refine gl (some 21) Try.func5 #[.agg #[.slice da cn.length db, .slice dc co.length dd], .int .i64 a1] rfl ?_;(with_reducible refine(eG.calls k _ _ cn _ _ co a1 L q s _ ?side1 ?side2 ?side3 ?s4 A9.out).mono ?_);(case side1=>repeat(first|exact(Kd.S_reads' ac.out).2.2|(with_reducible refine Kd.C_alloc ?_ _)|(with_reducible refine Kd.C_drewN ?_ _)|(with_reducible refine Kd.C_drew ?_)));(case side2=>exact(Kd.S_reads' ac.out).2.1);(case side3=>repeat(first|exact(Kd.R_reads' ad.out).2.2|(with_reducible refine Kd.C_alloc ?_ _)|(with_reducible refine Kd.C_drewN ?_ _)|(with_reducible refine Kd.C_drew ?_)));(case s4=>exact(Kd.R_reads' ad.out).2.1);rintro e gE ⟨gb,ge,rfl,ho0,ho1,hb⟩;refine⟨_,rfl, ?_⟩;have B:=Aside0.mk (Kd.R_lower ho0 (aK bl));have D:=Aside0.mk (Kd.R_lower ho1 (aK bl));replace ac:=Aside0.mk (Kd.S_mono (Kd.S_told (Kd.S_told (Kd.S_old (by(with_reducible repeat(first|apply Kd.S_alloc|apply Kd.S_drewN|apply Kd.S_drew));exact ac.out) hb) (Kd.R_base ho0)) (Kd.R_base ho1)) (fun _ h_=>h_.1));replace ad:=Aside0.mk (Kd.R_mono (Kd.R_told (Kd.R_told (Kd.R_old (by(with_reducible repeat(first|apply Kd.R_alloc|apply Kd.R_drewN|apply Kd.R_drew));exact ad.out) hb) (Kd.R_base ho0)) (Kd.R_base ho1)) (fun _ h_=>h_.1));replace a:=kb a hb;replace HB:=hs HB hb;(try clear hb);(try clear ho0);(try clear ho1))|((with_reducible refine gd 6 rfl ?_);refine bx 6 #[.bool false, .slice none 0 0, .slice none 0 0] 29 ?_;intro y hg gM hbox hb;have b:=Aside0.mk hbox;have e4:=hz HB hg;have cU:=hz HB hg;have bw:=nl a hg;have b0:=ng a hg;replace ac:=Aside0.mk (Kd.S_below (by(with_reducible repeat(first|apply Kd.S_alloc|apply Kd.S_drewN|apply Kd.S_drew));exact ac.out) hb);replace ad:=Aside0.mk (Kd.R_below (Kd.R_elderB (by(with_reducible repeat(first|apply Kd.R_alloc|apply Kd.R_drewN|apply Kd.R_drew));exact ad.out) y (Nat.le_of_eq hg.symm)) hb);replace B:=Aside0.mk (Kd.R_below (by(with_reducible repeat(first|apply Kd.R_alloc|apply Kd.R_drewN|apply Kd.R_drew));exact B.out) hb);replace D:=Aside0.mk (Kd.R_below (by(with_reducible repeat(first|apply Kd.R_alloc|apply Kd.R_drewN|apply Kd.R_drew));exact D.out) hb);replace a:=kb a hb;replace HB:=hs HB hb;clear hb hbox hg;have e5:=b0.out;have e6:=bw.out;obtain⟨_,_,_,_,_,_⟩:=cf3 b;obtain⟨Z,W,ej⟩:=Kd.R_slice B.out;subst ej;obtain⟨ab,X,el⟩:=Kd.R_slice D.out;subst el;obtain⟨_,_,_,_⟩:=cf2 a)|((with_reducible refine gc 6 rfl ?_);refine gl (some 23) Try.func6 #[.agg #[.slice bh I.length bj, .slice bk J.length bm]] rfl ?_;(with_reducible refine(di.calls k _ _ I _ _ J ao ap _ ?side1 ?side2 ?side3 ?s4 eI.out).mono ?_);(case side1=>exact cb b6.out);(case side2=>exact b7.out);(case side3=>exact cb b8.out);(case s4=>exact b9.out);rintro e gO ⟨gf,gg,rfl,ho0,ho1,hb⟩;refine⟨_,rfl, ?_⟩;have aq:=Aside0.mk (Kd.S_lower (Kd.S_new' (Kd.S_new' (Kd.S_new' ho0 (Kd.S_lt (by(with_reducible repeat(first|apply Kd.S_alloc|apply Kd.S_drewN|apply Kd.S_drew));exact(Kd.S_mono (Kd.S_far (p:=⟨y,2,none⟩) (Kd.S_far (p:=⟨y,1,none⟩) (Kd.S_far (p:=⟨y,0,none⟩) (Kd.S_types ac.out b.out (by decide)) (fun _ hk=>hk.2) (.bool L)) (fun _ hk=>hk.2) (.slice Z q.length W)) (fun _ hk=>hk.2) (.slice ab s.length X)) (fun _ h_=>h_.1))))) (Kd.R_lt (by(with_reducible repeat(first|apply Kd.R_alloc|apply Kd.R_drewN|apply Kd.R_drew));exact(Kd.R_mono (Kd.R_far (p:=⟨y,2,none⟩) (Kd.R_far (p:=⟨y,1,none⟩) (Kd.R_far (p:=⟨y,0,none⟩) (Kd.R_types B.out b.out (by decide)) (fun _ hk=>hk.2) (.bool L)) (fun _ hk=>hk.2) (.slice Z q.length W)) (fun _ hk=>hk.2) (.slice ab s.length X)) (fun _ h_=>h_.1))))) (Kd.R_lt (by(with_reducible repeat(first|apply Kd.R_alloc|apply Kd.R_drewN|apply Kd.R_drew));exact(Kd.R_mono (Kd.R_far (p:=⟨y,2,none⟩) (Kd.R_far (p:=⟨y,1,none⟩) (Kd.R_far (p:=⟨y,0,none⟩) (Kd.R_types D.out b.out (by decide)) (fun _ hk=>hk.2) (.bool L)) (fun _ hk=>hk.2) (.slice Z q.length W)) (fun _ hk=>hk.2) (.slice ab s.length X)) (fun _ h_=>h_.1))))) (aK bl));have ar:=Aside0.mk (Kd.R_lower (Kd.R_newB (Kd.R_new' (Kd.R_new' (Kd.R_new' ho1 (Kd.R_lt (by(with_reducible repeat(first|apply Kd.R_alloc|apply Kd.R_drewN|apply Kd.R_drew));exact(Kd.R_mono (Kd.R_far (p:=⟨y,2,none⟩) (Kd.R_far (p:=⟨y,1,none⟩) (Kd.R_far (p:=⟨y,0,none⟩) (Kd.R_mono ad.out (fun k_ hk=>(⟨hk,hk.2⟩:_∧k_≠y))) (fun _ hk=>hk.2) (.bool L)) (fun _ hk=>hk.2) (.slice Z q.length W)) (fun _ hk=>hk.2) (.slice ab s.length X)) (fun _ h_=>h_.1))))) (Kd.R_lt (by(with_reducible repeat(first|apply Kd.R_alloc|apply Kd.R_drewN|apply Kd.R_drew));exact(Kd.R_mono (Kd.R_far (p:=⟨y,2,none⟩) (Kd.R_far (p:=⟨y,1,none⟩) (Kd.R_far (p:=⟨y,0,none⟩) (Kd.R_types B.out b.out (by decide)) (fun _ hk=>hk.2) (.bool L)) (fun _ hk=>hk.2) (.slice Z q.length W)) (fun _ hk=>hk.2) (.slice ab s.length X)) (fun _ h_=>h_.1))))) (Kd.R_lt (by(with_reducible repeat(first|apply Kd.R_alloc|apply Kd.R_drewN|apply Kd.R_drew));exact(Kd.R_mono (Kd.R_far (p:=⟨y,2,none⟩) (Kd.R_far (p:=⟨y,1,none⟩) (Kd.R_far (p:=⟨y,0,none⟩) (Kd.R_types D.out b.out (by decide)) (fun _ hk=>hk.2) (.bool L)) (fun _ hk=>hk.2) (.slice Z q.length W)) (fun _ hk=>hk.2) (.slice ab s.length X)) (fun _ h_=>h_.1))))) (g:=y) (o:= .cells #[.bool L, .slice Z q.length W, .slice ab s.length X] 29 (0,0)) (by(with_reducible repeat(first|refine ah ?_ _|refine af ?_|refine ag ?_ _));refine bH (cs:= #[.bool L, .slice Z q.length W, .slice none 0 0]) ?_ 2 _ rfl;(with_reducible repeat(first|refine ah ?_ _|refine af ?_|refine ag ?_ _));refine bH (cs:= #[.bool L, .slice none 0 0, .slice none 0 0]) ?_ 1 _ rfl;(with_reducible repeat(first|refine ah ?_ _|refine af ?_|refine ag ?_ _));refine bH (cs:= #[.bool false, .slice none 0 0, .slice none 0 0]) ?_ 0 _ rfl;(with_reducible repeat(first|refine ah ?_ _|refine af ?_|refine ag ?_ _));exact b.out)) (aK bl));replace ac:=Aside0.mk (Kd.S_elder' (by(with_reducible repeat(first|apply Kd.S_alloc|apply Kd.S_drewN|apply Kd.S_drew));exact(Kd.S_mono (Kd.S_far (p:=⟨y,2,none⟩) (Kd.S_far (p:=⟨y,1,none⟩) (Kd.S_far (p:=⟨y,0,none⟩) (Kd.S_types ac.out b.out (by decide)) (fun _ hk=>hk.2) (.bool L)) (fun _ hk=>hk.2) (.slice Z q.length W)) (fun _ hk=>hk.2) (.slice ab s.length X)) (fun _ h_=>h_.1))) (Kd.S_base ho0) hb);replace ad:=Aside0.mk (Kd.R_elder' (by(with_reducible repeat(first|apply Kd.R_alloc|apply Kd.R_drewN|apply Kd.R_drew));exact(Kd.R_mono (Kd.R_far (p:=⟨y,2,none⟩) (Kd.R_far (p:=⟨y,1,none⟩) (Kd.R_far (p:=⟨y,0,none⟩) (Kd.R_mono ad.out (fun k_ hk=>(⟨hk,hk.2⟩:_∧k_≠y))) (fun _ hk=>hk.2) (.bool L)) (fun _ hk=>hk.2) (.slice Z q.length W)) (fun _ hk=>hk.2) (.slice ab s.length X)) (fun _ h_=>h_.1))) (Kd.R_base ho1) hb);replace B:=Aside0.mk (Kd.R_below (by(with_reducible repeat(first|apply Kd.R_alloc|apply Kd.R_drewN|apply Kd.R_drew));exact(Kd.R_mono (Kd.R_far (p:=⟨y,2,none⟩) (Kd.R_far (p:=⟨y,1,none⟩) (Kd.R_far (p:=⟨y,0,none⟩) (Kd.R_types B.out b.out (by decide)) (fun _ hk=>hk.2) (.bool L)) (fun _ hk=>hk.2) (.slice Z q.length W)) (fun _ hk=>hk.2) (.slice ab s.length X)) (fun _ h_=>h_.1))) hb);replace D:=Aside0.mk (Kd.R_below (by(with_reducible repeat(first|apply Kd.R_alloc|apply Kd.R_drewN|apply Kd.R_drew));exact(Kd.R_mono (Kd.R_far (p:=⟨y,2,none⟩) (Kd.R_far (p:=⟨y,1,none⟩) (Kd.R_far (p:=⟨y,0,none⟩) (Kd.R_types D.out b.out (by decide)) (fun _ hk=>hk.2) (.bool L)) (fun _ hk=>hk.2) (.slice Z q.length W)) (fun _ hk=>hk.2) (.slice ab s.length X)) (fun _ h_=>h_.1))) hb);replace a:=kq a hb;replace b:=kp y #[.bool L, .slice Z q.length W, .slice ab s.length X] 29 hb;replace HB:=hs HB hb;(try clear hb);(try clear hk);(try clear ho0);(try clear ho1))|((with_reducible refine gd 7 rfl ?_);refine bx 7 #[.slice none 0 0, .slice none 0 0] 34 ?_;intro Y hg gR hbox hb;have z:=Aside0.mk hbox;have e7:=hz HB hg;have du:=hz HB hg;have cC:=nl a hg;have cD:=ng a hg;have cj:=nl b hg;have ck:=ng b hg;replace ac:=Aside0.mk (Kd.S_below (by(with_reducible repeat(first|apply Kd.S_alloc|apply Kd.S_drewN|apply Kd.S_drew));exact ac.out) hb);replace ad:=Aside0.mk (Kd.R_below (by(with_reducible repeat(first|apply Kd.R_alloc|apply Kd.R_drewN|apply Kd.R_drew));exact ad.out) hb);replace B:=Aside0.mk (Kd.R_below (by(with_reducible repeat(first|apply Kd.R_alloc|apply Kd.R_drewN|apply Kd.R_drew));exact B.out) hb);replace D:=Aside0.mk (Kd.R_below (by(with_reducible repeat(first|apply Kd.R_alloc|apply Kd.R_drewN|apply Kd.R_drew));exact D.out) hb);replace aq:=Aside0.mk (Kd.S_below (by(with_reducible repeat(first|apply Kd.S_alloc|apply Kd.S_drewN|apply Kd.S_drew));exact aq.out) hb);replace ar:=Aside0.mk (Kd.R_below (by(with_reducible repeat(first|apply Kd.R_alloc|apply Kd.R_drewN|apply Kd.R_drew));exact ar.out) hb);replace a:=kb a hb;replace b:=kb b hb;replace HB:=hs HB hb;clear hb hbox hg;obtain⟨aP,aF,em⟩:=Kd.S_slice aq.out;subst em;have e8:=cD.out;have e9:=cC.out;have fa:=ck.out;have fb:=cj.out;obtain⟨_,_,_,_⟩:=cf2 z;obtain⟨aR,aL,en⟩:=Kd.R_slice ar.out;subst en)|((with_reducible refine gc 7 rfl ?_);refine gl (some 26) Try.func7 #[.agg #[.slice aP ao.length aF, .slice aR ap.length aL], .int .i64 a1] rfl ?_;(with_reducible refine(dC.calls k _ _ ao _ _ ap a1 U u x _ ?side1 ?side2 ?side3 ?s4 eJ.out).mono ?_);(case side1=>refine(Kd.S_reads' (e:=71) (base:=w.heap.size) (ok:=fun k_=>(((True∧some k_≠(.slice da cn.length db:Value).ownBlock)∧some k_≠(.slice Z q.length W:Value).ownBlock)∧some k_≠(.slice ab s.length X:Value).ownBlock)) (n:=ao.length) (c:=aF) ?_).2.2;exact(by(with_reducible repeat(first|apply Kd.S_alloc|apply Kd.S_drewN|apply Kd.S_drew));exact(Kd.S_mono (Kd.S_far (p:=⟨Y,1,none⟩) (Kd.S_far (p:=⟨Y,0,none⟩) (Kd.S_types aq.out z.out (by decide)) (fun _ hk=>hk.2) (.slice aP ao.length aF)) (fun _ hk=>hk.2) (.slice aR ap.length aL)) (fun _ h_=>h_.1))));(case side2=>exact(Kd.S_reads' aq.out).2.1);(case side3=>refine(Kd.R_reads' (e:=50) (base:=w.heap.size) (ok:=fun k_=>((((True∧some k_≠(.slice dc co.length dd:Value).ownBlock)∧some k_≠(.slice Z q.length W:Value).ownBlock)∧some k_≠(.slice ab s.length X:Value).ownBlock)∧k_≠y)) (n:=ap.length) (c:=aL) ?_).2.2;exact(by(with_reducible repeat(first|apply Kd.R_alloc|apply Kd.R_drewN|apply Kd.R_drew));exact(Kd.R_mono (Kd.R_far (p:=⟨Y,1,none⟩) (Kd.R_far (p:=⟨Y,0,none⟩) (Kd.R_types ar.out z.out (by decide)) (fun _ hk=>hk.2) (.slice aP ao.length aF)) (fun _ hk=>hk.2) (.slice aR ap.length aL)) (fun _ h_=>h_.1))));(case s4=>exact(Kd.R_reads' ar.out).2.1);rintro e gS ⟨gh,gi,rfl,ho0,ho1,hb⟩;refine⟨_,rfl, ?_⟩;have am:=Aside0.mk (Kd.R_lower (Kd.R_new' (Kd.R_new' ho0 (Kd.R_lt (by(with_reducible repeat(first|apply Kd.R_alloc|apply Kd.R_drewN|apply Kd.R_drew));exact(Kd.R_mono (Kd.R_far (p:=⟨Y,1,none⟩) (Kd.R_far (p:=⟨Y,0,none⟩) (Kd.R_types B.out z.out (by decide)) (fun _ hk=>hk.2) (.slice aP ao.length aF)) (fun _ hk=>hk.2) (.slice aR ap.length aL)) (fun _ h_=>h_.1))))) (Kd.R_lt (by(with_reducible repeat(first|apply Kd.R_alloc|apply Kd.R_drewN|apply Kd.R_drew));exact(Kd.R_mono (Kd.R_far (p:=⟨Y,1,none⟩) (Kd.R_far (p:=⟨Y,0,none⟩) (Kd.R_types D.out z.out (by decide)) (fun _ hk=>hk.2) (.slice aP ao.length aF)) (fun _ hk=>hk.2) (.slice aR ap.length aL)) (fun _ h_=>h_.1))))) (aK bl));have an:=Aside0.mk (Kd.R_lower (Kd.R_new' (Kd.R_new' ho1 (Kd.R_lt (by(with_reducible repeat(first|apply Kd.R_alloc|apply Kd.R_drewN|apply Kd.R_drew));exact(Kd.R_mono (Kd.R_far (p:=⟨Y,1,none⟩) (Kd.R_far (p:=⟨Y,0,none⟩) (Kd.R_types B.out z.out (by decide)) (fun _ hk=>hk.2) (.slice aP ao.length aF)) (fun _ hk=>hk.2) (.slice aR ap.length aL)) (fun _ h_=>h_.1))))) (Kd.R_lt (by(with_reducible repeat(first|apply Kd.R_alloc|apply Kd.R_drewN|apply Kd.R_drew));exact(Kd.R_mono (Kd.R_far (p:=⟨Y,1,none⟩) (Kd.R_far (p:=⟨Y,0,none⟩) (Kd.R_types D.out z.out (by decide)) (fun _ hk=>hk.2) (.slice aP ao.length aF)) (fun _ hk=>hk.2) (.slice aR ap.length aL)) (fun _ h_=>h_.1))))) (aK bl));replace ac:=Aside0.mk (Kd.S_mono (Kd.S_told (Kd.S_told (Kd.S_old (by(with_reducible repeat(first|apply Kd.S_alloc|apply Kd.S_drewN|apply Kd.S_drew));exact(Kd.S_mono (Kd.S_far (p:=⟨Y,1,none⟩) (Kd.S_far (p:=⟨Y,0,none⟩) (Kd.S_types ac.out z.out (by decide)) (fun _ hk=>hk.2) (.slice aP ao.length aF)) (fun _ hk=>hk.2) (.slice aR ap.length aL)) (fun _ h_=>h_.1))) hb) (Kd.R_base ho0)) (Kd.R_base ho1)) (fun _ h_=>h_.1));replace ad:=Aside0.mk (Kd.R_mono (Kd.R_told (Kd.R_told (Kd.R_old (by(with_reducible repeat(first|apply Kd.R_alloc|apply Kd.R_drewN|apply Kd.R_drew));exact(Kd.R_mono (Kd.R_far (p:=⟨Y,1,none⟩) (Kd.R_far (p:=⟨Y,0,none⟩) (Kd.R_types ad.out z.out (by decide)) (fun _ hk=>hk.2) (.slice aP ao.length aF)) (fun _ hk=>hk.2) (.slice aR ap.length aL)) (fun _ h_=>h_.1))) hb) (Kd.R_base ho0)) (Kd.R_base ho1)) (fun _ h_=>h_.1));replace B:=Aside0.mk (Kd.R_mono (Kd.R_told (Kd.R_told (Kd.R_old (by(with_reducible repeat(first|apply Kd.R_alloc|apply Kd.R_drewN|apply Kd.R_drew));exact(Kd.R_mono (Kd.R_far (p:=⟨Y,1,none⟩) (Kd.R_far (p:=⟨Y,0,none⟩) (Kd.R_types B.out z.out (by decide)) (fun _ hk=>hk.2) (.slice aP ao.length aF)) (fun _ hk=>hk.2) (.slice aR ap.length aL)) (fun _ h_=>h_.1))) hb) (Kd.R_base ho0)) (Kd.R_base ho1)) (fun _ h_=>h_.1));replace D:=Aside0.mk (Kd.R_mono (Kd.R_told (Kd.R_told (Kd.R_old (by(with_reducible repeat(first|apply Kd.R_alloc|apply Kd.R_drewN|apply Kd.R_drew));exact(Kd.R_mono (Kd.R_far (p:=⟨Y,1,none⟩) (Kd.R_far (p:=⟨Y,0,none⟩) (Kd.R_types D.out z.out (by decide)) (fun _ hk=>hk.2) (.slice aP ao.length aF)) (fun _ hk=>hk.2) (.slice aR ap.length aL)) (fun _ h_=>h_.1))) hb) (Kd.R_base ho0)) (Kd.R_base ho1)) (fun _ h_=>h_.1));replace aq:=Aside0.mk (Kd.S_mono (Kd.S_told (Kd.S_told (Kd.S_old (by(with_reducible repeat(first|apply Kd.S_alloc|apply Kd.S_drewN|apply Kd.S_drew));exact(Kd.S_mono (Kd.S_far (p:=⟨Y,1,none⟩) (Kd.S_far (p:=⟨Y,0,none⟩) (Kd.S_types aq.out z.out (by decide)) (fun _ hk=>hk.2) (.slice aP ao.length aF)) (fun _ hk=>hk.2) (.slice aR ap.length aL)) (fun _ h_=>h_.1))) hb) (Kd.R_base ho0)) (Kd.R_base ho1)) (fun _ h_=>h_.1));replace ar:=Aside0.mk (Kd.R_mono (Kd.R_told (Kd.R_told (Kd.R_old (by(with_reducible repeat(first|apply Kd.R_alloc|apply Kd.R_drewN|apply Kd.R_drew));exact(Kd.R_mono (Kd.R_far (p:=⟨Y,1,none⟩) (Kd.R_far (p:=⟨Y,0,none⟩) (Kd.R_types ar.out z.out (by decide)) (fun _ hk=>hk.2) (.slice aP ao.length aF)) (fun _ hk=>hk.2) (.slice aR ap.length aL)) (fun _ h_=>h_.1))) hb) (Kd.R_base ho0)) (Kd.R_base ho1)) (fun _ h_=>h_.1));replace a:=kq a hb;replace b:=kq b hb;replace z:=kp Y #[.slice aP ao.length aF, .slice aR ap.length aL] 34 hb;replace HB:=hs HB hb;(try clear hb);(try clear hk);(try clear ho0);(try clear ho1))|((with_reducible refine gd 8 rfl ?_);refine bx 8 #[.bool false, .slice none 0 0, .slice none 0 0] 29 ?_;intro t hg g0 hbox hb;have l:=Aside0.mk hbox;have fc:=hz HB hg;have cV:=hz HB hg;have b1:=nl a hg;have b2:=ng a hg;have b3:=nl b hg;have b4:=ng b hg;have cl:=nl z hg;have cm:=ng z hg;replace ac:=Aside0.mk (Kd.S_below (by(with_reducible repeat(first|apply Kd.S_alloc|apply Kd.S_drewN|apply Kd.S_drew));exact ac.out) hb);replace ad:=Aside0.mk (Kd.R_below (Kd.R_elderB (by(with_reducible repeat(first|apply Kd.R_alloc|apply Kd.R_drewN|apply Kd.R_drew));exact ad.out) t (Nat.le_of_eq hg.symm)) hb);replace B:=Aside0.mk (Kd.R_below (by(with_reducible repeat(first|apply Kd.R_alloc|apply Kd.R_drewN|apply Kd.R_drew));exact B.out) hb);replace D:=Aside0.mk (Kd.R_below (by(with_reducible repeat(first|apply Kd.R_alloc|apply Kd.R_drewN|apply Kd.R_drew));exact D.out) hb);replace aq:=Aside0.mk (Kd.S_below (by(with_reducible repeat(first|apply Kd.S_alloc|apply Kd.S_drewN|apply Kd.S_drew));exact aq.out) hb);replace ar:=Aside0.mk (Kd.R_below (Kd.R_elderB (by(with_reducible repeat(first|apply Kd.R_alloc|apply Kd.R_drewN|apply Kd.R_drew));exact ar.out) t (Nat.le_of_eq hg.symm)) hb);replace am:=Aside0.mk (Kd.R_below (by(with_reducible repeat(first|apply Kd.R_alloc|apply Kd.R_drewN|apply Kd.R_drew));exact am.out) hb);replace an:=Aside0.mk (Kd.R_below (by(with_reducible repeat(first|apply Kd.R_alloc|apply Kd.R_drewN|apply Kd.R_drew));exact an.out) hb);replace a:=kb a hb;replace b:=kb b hb;replace z:=kb z hb;replace HB:=hs HB hb;clear hb hbox hg;have fd:=b2.out;have ff:=b1.out;have fg:=b4.out;have fh:=b3.out;have fi:=cm.out;have fj:=cl.out;obtain⟨_,_,_,_,_,_⟩:=cf3 l;obtain⟨P,M,eo⟩:=Kd.R_slice am.out;subst eo;obtain⟨T,O,ep⟩:=Kd.R_slice an.out;subst ep;obtain⟨_,_,_,_,_,_⟩:=cf3 b)|((with_reducible refine gc 8 rfl ?_);refine gl (some 29) Try.func8 #[.agg #[.bool U, .slice P u.length M, .slice T x.length O], .agg #[.bool L, .slice Z q.length W, .slice ab s.length X]] rfl ?_;(with_reducible refine(bL.calls k U _ _ u _ _ x L _ _ q _ _ s true _ ?side1 ?side2 ?side3 ?s4 ?s5 ?s6 ?s7 ?s8 eK.out).mono ?_);(case side1=>refine(Kd.R_reads' (e:=3) (base:=w.heap.size) (ok:=fun k_=>((some k_≠(.slice T x.length O:Value).ownBlock∧some k_≠(.slice Z q.length W:Value).ownBlock)∧some k_≠(.slice ab s.length X:Value).ownBlock)) (n:=u.length) (c:=M) ?_).2.2;exact(by(with_reducible repeat(first|apply Kd.R_alloc|apply Kd.R_drewN|apply Kd.R_drew));exact(Kd.R_mono (Kd.R_far (p:=⟨t,2,none⟩) (Kd.R_far (p:=⟨t,1,none⟩) (Kd.R_far (p:=⟨t,0,none⟩) (Kd.R_types am.out l.out (by decide)) (fun _ hk=>hk.2) (.bool U)) (fun _ hk=>hk.2) (.slice P u.length M)) (fun _ hk=>hk.2) (.slice T x.length O)) (fun _ h_=>h_.1))));(case side2=>exact(Kd.R_reads' am.out).2.1);(case side3=>refine(Kd.R_reads' (e:=3) (base:=w.heap.size) (ok:=fun k_=>((some k_≠(.slice P u.length M:Value).ownBlock∧some k_≠(.slice Z q.length W:Value).ownBlock)∧some k_≠(.slice ab s.length X:Value).ownBlock)) (n:=x.length) (c:=O) ?_).2.2;exact(by(with_reducible repeat(first|apply Kd.R_alloc|apply Kd.R_drewN|apply Kd.R_drew));exact(Kd.R_mono (Kd.R_far (p:=⟨t,2,none⟩) (Kd.R_far (p:=⟨t,1,none⟩) (Kd.R_far (p:=⟨t,0,none⟩) (Kd.R_types an.out l.out (by decide)) (fun _ hk=>hk.2) (.bool U)) (fun _ hk=>hk.2) (.slice P u.length M)) (fun _ hk=>hk.2) (.slice T x.length O)) (fun _ h_=>h_.1))));(case s4=>exact(Kd.R_reads' an.out).2.1);(case s5=>refine(Kd.R_reads' (e:=3) (base:=w.heap.size) (ok:=fun k_=>((some k_≠(.slice ab s.length X:Value).ownBlock∧some k_≠(.slice P u.length M:Value).ownBlock)∧some k_≠(.slice T x.length O:Value).ownBlock)) (n:=q.length) (c:=W) ?_).2.2;exact(by(with_reducible repeat(first|apply Kd.R_alloc|apply Kd.R_drewN|apply Kd.R_drew));exact(Kd.R_mono (Kd.R_far (p:=⟨t,2,none⟩) (Kd.R_far (p:=⟨t,1,none⟩) (Kd.R_far (p:=⟨t,0,none⟩) (Kd.R_types B.out l.out (by decide)) (fun _ hk=>hk.2) (.bool U)) (fun _ hk=>hk.2) (.slice P u.length M)) (fun _ hk=>hk.2) (.slice T x.length O)) (fun _ h_=>h_.1))));(case s6=>exact(Kd.R_reads' B.out).2.1);(case s7=>refine(Kd.R_reads' (e:=3) (base:=w.heap.size) (ok:=fun k_=>((some k_≠(.slice Z q.length W:Value).ownBlock∧some k_≠(.slice P u.length M:Value).ownBlock)∧some k_≠(.slice T x.length O:Value).ownBlock)) (n:=s.length) (c:=X) ?_).2.2;exact(by(with_reducible repeat(first|apply Kd.R_alloc|apply Kd.R_drewN|apply Kd.R_drew));exact(Kd.R_mono (Kd.R_far (p:=⟨t,2,none⟩) (Kd.R_far (p:=⟨t,1,none⟩) (Kd.R_far (p:=⟨t,0,none⟩) (Kd.R_types D.out l.out (by decide)) (fun _ hk=>hk.2) (.bool U)) (fun _ hk=>hk.2) (.slice P u.length M)) (fun _ hk=>hk.2) (.slice T x.length O)) (fun _ h_=>h_.1))));(case s8=>exact(Kd.R_reads' D.out).2.1);rintro e eR ⟨rfl,hb⟩;refine⟨_,rfl, ?_⟩;replace ac:=Aside0.mk (Kd.S_below (by(with_reducible repeat(first|apply Kd.S_alloc|apply Kd.S_drewN|apply Kd.S_drew));exact(Kd.S_mono (Kd.S_far (p:=⟨t,2,none⟩) (Kd.S_far (p:=⟨t,1,none⟩) (Kd.S_far (p:=⟨t,0,none⟩) (Kd.S_types ac.out l.out (by decide)) (fun _ hk=>hk.2) (.bool U)) (fun _ hk=>hk.2) (.slice P u.length M)) (fun _ hk=>hk.2) (.slice T x.length O)) (fun _ h_=>h_.1))) hb);replace ad:=Aside0.mk (Kd.R_below (by(with_reducible repeat(first|apply Kd.R_alloc|apply Kd.R_drewN|apply Kd.R_drew));exact(Kd.R_mono (Kd.R_far (p:=⟨t,2,none⟩) (Kd.R_far (p:=⟨t,1,none⟩) (Kd.R_far (p:=⟨t,0,none⟩) (Kd.R_mono ad.out (fun k_ hk=>(⟨hk,hk.2⟩:_∧k_≠t))) (fun _ hk=>hk.2) (.bool U)) (fun _ hk=>hk.2) (.slice P u.length M)) (fun _ hk=>hk.2) (.slice T x.length O)) (fun _ h_=>h_.1))) hb);replace B:=Aside0.mk (Kd.R_below (by(with_reducible repeat(first|apply Kd.R_alloc|apply Kd.R_drewN|apply Kd.R_drew));exact(Kd.R_mono (Kd.R_far (p:=⟨t,2,none⟩) (Kd.R_far (p:=⟨t,1,none⟩) (Kd.R_far (p:=⟨t,0,none⟩) (Kd.R_types B.out l.out (by decide)) (fun _ hk=>hk.2) (.bool U)) (fun _ hk=>hk.2) (.slice P u.length M)) (fun _ hk=>hk.2) (.slice T x.length O)) (fun _ h_=>h_.1))) hb);replace D:=Aside0.mk (Kd.R_below (by(with_reducible repeat(first|apply Kd.R_alloc|apply Kd.R_drewN|apply Kd.R_drew));exact(Kd.R_mono (Kd.R_far (p:=⟨t,2,none⟩) (Kd.R_far (p:=⟨t,1,none⟩) (Kd.R_far (p:=⟨t,0,none⟩) (Kd.R_types D.out l.out (by decide)) (fun _ hk=>hk.2) (.bool U)) (fun _ hk=>hk.2) (.slice P u.length M)) (fun _ hk=>hk.2) (.slice T x.length O)) (fun _ h_=>h_.1))) hb);replace aq:=Aside0.mk (Kd.S_below (by(with_reducible repeat(first|apply Kd.S_alloc|apply Kd.S_drewN|apply Kd.S_drew));exact(Kd.S_mono (Kd.S_far (p:=⟨t,2,none⟩) (Kd.S_far (p:=⟨t,1,none⟩) (Kd.S_far (p:=⟨t,0,none⟩) (Kd.S_types aq.out l.out (by decide)) (fun _ hk=>hk.2) (.bool U)) (fun _ hk=>hk.2) (.slice P u.length M)) (fun _ hk=>hk.2) (.slice T x.length O)) (fun _ h_=>h_.1))) hb);replace ar:=Aside0.mk (Kd.R_below (by(with_reducible repeat(first|apply Kd.R_alloc|apply Kd.R_drewN|apply Kd.R_drew));exact(Kd.R_mono (Kd.R_far (p:=⟨t,2,none⟩) (Kd.R_far (p:=⟨t,1,none⟩) (Kd.R_far (p:=⟨t,0,none⟩) (Kd.R_mono ar.out (fun k_ hk=>(⟨hk,hk.2⟩:_∧k_≠t))) (fun _ hk=>hk.2) (.bool U)) (fun _ hk=>hk.2) (.slice P u.length M)) (fun _ hk=>hk.2) (.slice T x.length O)) (fun _ h_=>h_.1))) hb);replace am:=Aside0.mk (Kd.R_below (by(with_reducible repeat(first|apply Kd.R_alloc|apply Kd.R_drewN|apply Kd.R_drew));exact(Kd.R_mono (Kd.R_far (p:=⟨t,2,none⟩) (Kd.R_far (p:=⟨t,1,none⟩) (Kd.R_far (p:=⟨t,0,none⟩) (Kd.R_types am.out l.out (by decide)) (fun _ hk=>hk.2) (.bool U)) (fun _ hk=>hk.2) (.slice P u.length M)) (fun _ hk=>hk.2) (.slice T x.length O)) (fun _ h_=>h_.1))) hb);replace an:=Aside0.mk (Kd.R_below (by(with_reducible repeat(first|apply Kd.R_alloc|apply Kd.R_drewN|apply Kd.R_drew));exact(Kd.R_mono (Kd.R_far (p:=⟨t,2,none⟩) (Kd.R_far (p:=⟨t,1,none⟩) (Kd.R_far (p:=⟨t,0,none⟩) (Kd.R_types an.out l.out (by decide)) (fun _ hk=>hk.2) (.bool U)) (fun _ hk=>hk.2) (.slice P u.length M)) (fun _ hk=>hk.2) (.slice T x.length O)) (fun _ h_=>h_.1))) hb);replace a:=kq a hb;replace b:=kq b hb;replace z:=kq z hb;replace l:=kp t #[.bool U, .slice P u.length M, .slice T x.length O] 29 hb;replace HB:=hs HB hb;(try clear hb);(try clear hk)))
    replace ac:=Aside0.mk (Kd.S_drew ac.out)
    replace ad:=Aside0.mk (Kd.R_drew ad.out)
    replace B:=Aside0.mk (Kd.R_drew B.out)
    replace D:=Aside0.mk (Kd.R_drew D.out)
    replace aq:=Aside0.mk (Kd.S_drew aq.out)
    replace ar:=Aside0.mk (Kd.R_drew ar.out)
    replace am:=Aside0.mk (Kd.R_drew am.out)
    replace an:=Aside0.mk (Kd.R_drew an.out)
    replace a:=Aside0.mk (af a.out)
    replace b:=Aside0.mk (af b.out)
    replace z:=Aside0.mk (af z.out)
    replace l:=Aside0.mk (af l.out)
    replace HB:=Aside0.mk (aW HB.out)
    refine dX (n:=5) (S:=fun w' =>w'.cell? ⟨Y,0,none⟩=some (.slice aP ao.length aF)∧w'.cell? ⟨Y,1,none⟩=some (.slice aR ap.length aL)∧w'.cell? ⟨ca,0,none⟩=some (.slice bh I.length bj)∧w'.cell? ⟨ca,1,none⟩=some (.slice bk J.length bm)) (ds:= []) #[false,false,false,false,false] (by kernel_rfl) rfl rfl ⟨(ae z.out 0).trans rfl,(ae z.out 1).trans rfl,(ae a.out 0).trans rfl,(ae a.out 1).trans rfl⟩ (fun hHeld=> ?_)
    generalize eR.drew=g1 at ac ad B D aq ar am an a b z l HB hHeld⊢
    refine take_ (i:=0) (N:=some 31) (v:= ?_) (a' := ?_) #[true,false,false,false,false] rfl rfl (by kernel_rfl) (fun _ _ _ h=>h) (Or.inl ⟨by rfl, ?_⟩) hHeld ?_ ?_
    rotate_left
    ·rintro w' ⟨s0,s1,s2,s3⟩
     go_simp
     with_reducible rfl
    rotate_left
    ·simp only[Act.put,List.setIfInBounds_toArray,List.set_cons_zero,List.set_cons_succ,bT,bU]
     rfl
    refine take_ (i:=1) (N:=some 32) (v:= ?_) (a' := ?_) #[true,true,false,false,false] rfl rfl (by kernel_rfl) (fun _ _ _ h=>h) (Or.inl ⟨by rfl, ?_⟩) hHeld ?_ ?_
    rotate_left
    ·rintro w' ⟨s0,s1,s2,s3⟩
     go_simp
     with_reducible rfl
    rotate_left
    ·simp only[Act.put,List.setIfInBounds_toArray,List.set_cons_zero,List.set_cons_succ,bT,bU]
     rfl
    refine fo (i:=2) (N:=some 33) #[true,true,true,false,false] rfl rfl (by kernel_rfl) (by decide) (fun K hK=> ?_)
    refine gs Try.func6 #[.agg #[.slice bh I.length bj, .slice bk J.length bm]] rfl rfl ?_
    with_reducible refine(di.calls k _ _ I _ _ J cw cx _ ?side1 ?side2 ?side3 ?s4 eL.out).mono ?_
    (case side1=>exact cb b6.out)
    (case side2=>exact b7.out)
    (case side3=>exact cb b8.out)
    (case s4=>exact b9.out)
    rintro e g2 ⟨gj,gk,rfl,ho0,ho1,hb⟩
    refine⟨_,rfl, ?_⟩
    have cf:=Aside0.mk (Kd.S_lower (Kd.S_new' (Kd.S_new' (Kd.S_new' (Kd.S_new' (Kd.S_new' (Kd.S_new' ho0 (Kd.S_lt (by(with_reducible repeat(first|apply Kd.S_alloc|apply Kd.S_drewN|apply Kd.S_drew));exact ac.out))) (Kd.R_lt (by(with_reducible repeat(first|apply Kd.R_alloc|apply Kd.R_drewN|apply Kd.R_drew));exact B.out))) (Kd.R_lt (by(with_reducible repeat(first|apply Kd.R_alloc|apply Kd.R_drewN|apply Kd.R_drew));exact D.out))) (Kd.S_lt (by(with_reducible repeat(first|apply Kd.S_alloc|apply Kd.S_drewN|apply Kd.S_drew));exact aq.out))) (Kd.R_lt (by(with_reducible repeat(first|apply Kd.R_alloc|apply Kd.R_drewN|apply Kd.R_drew));exact am.out))) (Kd.R_lt (by(with_reducible repeat(first|apply Kd.R_alloc|apply Kd.R_drewN|apply Kd.R_drew));exact an.out))) (aK bl))
    have cg:=Aside0.mk (Kd.R_lower (Kd.R_newB (Kd.R_newB (Kd.R_new' (Kd.R_new' (Kd.R_new' (Kd.R_new' (Kd.R_new' (Kd.R_new' ho1 (Kd.R_lt (by(with_reducible repeat(first|apply Kd.R_alloc|apply Kd.R_drewN|apply Kd.R_drew));exact ad.out))) (Kd.R_lt (by(with_reducible repeat(first|apply Kd.R_alloc|apply Kd.R_drewN|apply Kd.R_drew));exact B.out))) (Kd.R_lt (by(with_reducible repeat(first|apply Kd.R_alloc|apply Kd.R_drewN|apply Kd.R_drew));exact D.out))) (Kd.R_lt (by(with_reducible repeat(first|apply Kd.R_alloc|apply Kd.R_drewN|apply Kd.R_drew));exact ar.out))) (Kd.R_lt (by(with_reducible repeat(first|apply Kd.R_alloc|apply Kd.R_drewN|apply Kd.R_drew));exact am.out))) (Kd.R_lt (by(with_reducible repeat(first|apply Kd.R_alloc|apply Kd.R_drewN|apply Kd.R_drew));exact an.out))) (g:=y) (o:= .cells #[.bool L, .slice Z q.length W, .slice ab s.length X] 29 (0,0)) (by(with_reducible repeat(first|refine ah ?_ _|refine af ?_|refine ag ?_ _));exact b.out)) (g:=t) (o:= .cells #[.bool U, .slice P u.length M, .slice T x.length O] 29 (0,0)) (by(with_reducible repeat(first|refine ah ?_ _|refine af ?_|refine ag ?_ _));exact l.out)) (aK bl))
    replace ac:=Aside0.mk (Kd.S_elder' (by(with_reducible repeat(first|apply Kd.S_alloc|apply Kd.S_drewN|apply Kd.S_drew));exact ac.out) (Kd.S_base ho0) hb)
    replace ad:=Aside0.mk (Kd.R_elder' (by(with_reducible repeat(first|apply Kd.R_alloc|apply Kd.R_drewN|apply Kd.R_drew));exact ad.out) (Kd.R_base ho1) hb)
    replace B:=Aside0.mk (Kd.R_below (by(with_reducible repeat(first|apply Kd.R_alloc|apply Kd.R_drewN|apply Kd.R_drew));exact B.out) hb)
    replace D:=Aside0.mk (Kd.R_below (by(with_reducible repeat(first|apply Kd.R_alloc|apply Kd.R_drewN|apply Kd.R_drew));exact D.out) hb)
    replace aq:=Aside0.mk (Kd.S_elder' (by(with_reducible repeat(first|apply Kd.S_alloc|apply Kd.S_drewN|apply Kd.S_drew));exact aq.out) (Kd.S_base ho0) hb)
    replace ar:=Aside0.mk (Kd.R_elder' (by(with_reducible repeat(first|apply Kd.R_alloc|apply Kd.R_drewN|apply Kd.R_drew));exact ar.out) (Kd.R_base ho1) hb)
    replace am:=Aside0.mk (Kd.R_below (by(with_reducible repeat(first|apply Kd.R_alloc|apply Kd.R_drewN|apply Kd.R_drew));exact am.out) hb)
    replace an:=Aside0.mk (Kd.R_below (by(with_reducible repeat(first|apply Kd.R_alloc|apply Kd.R_drewN|apply Kd.R_drew));exact an.out) hb)
    replace a:=kb a hb
    replace b:=kb b hb
    replace z:=kb z hb
    replace l:=kb l hb
    replace HB:=hs HB hb
    (try clear hb)
    (try clear hb2)
    (try clear hk)
    (try clear hi)
    (try clear ho0)
    (try clear ho1)
    obtain⟨eq,er,de⟩:=Kd.S_slice cf.out
    (first|subst de|(injection de with cE dg cF;have dj:=cE.symm;have dk:=cF.symm;clear cE dg cF;subst dj;subst dk))
    obtain⟨es,et,dl⟩:=Kd.R_slice cg.out
    (first|subst dl|(injection dl with cE dg cF;have dj:=cE.symm;have dk:=cF.symm;clear cE dg cF;subst dj;subst dk))
    refine hK.out _ _ ⟨(ae z.out 0).trans rfl,(ae z.out 1).trans rfl,(ae a.out 0).trans rfl,(ae a.out 1).trans rfl⟩ (fun hHeld=> ?_)
    clear hK K
    refine no 33 ?_
    refine fo (i:=3) (N:=some 34) #[true,true,true,true,false] rfl rfl (by kernel_rfl) (by decide) (fun K hK=> ?_)
    refine gs Try.func9 #[.agg #[.slice aP ao.length aF, .slice aR ap.length aL], .agg #[.slice eq cw.length er, .slice es cx.length et]] rfl rfl ?_
    with_reducible refine(eu.calls k _ _ ao _ _ ap _ _ cw _ _ cx true _ ?side1 ?side2 ?side3 ?s4 ?s5 ?s6 ?s7 ?s8 eM.out).mono ?_
    (case side1=>repeat(first|exact(Kd.S_reads' aq.out).2.2|(with_reducible refine Kd.C_alloc ?_ _)|(with_reducible refine Kd.C_drewN ?_ _)|(with_reducible refine Kd.C_drew ?_)))
    (case side2=>exact(Kd.S_reads' aq.out).2.1)
    (case side3=>repeat(first|exact(Kd.R_reads' ar.out).2.2|(with_reducible refine Kd.C_alloc ?_ _)|(with_reducible refine Kd.C_drewN ?_ _)|(with_reducible refine Kd.C_drew ?_)))
    (case s4=>exact(Kd.R_reads' ar.out).2.1)
    (case s5=>repeat(first|exact(Kd.S_reads' cf.out).2.2|(with_reducible refine Kd.C_alloc ?_ _)|(with_reducible refine Kd.C_drewN ?_ _)|(with_reducible refine Kd.C_drew ?_)))
    (case s6=>exact(Kd.S_reads' cf.out).2.1)
    (case s7=>repeat(first|exact(Kd.R_reads' cg.out).2.2|(with_reducible refine Kd.C_alloc ?_ _)|(with_reducible refine Kd.C_drewN ?_ _)|(with_reducible refine Kd.C_drew ?_)))
    (case s8=>exact(Kd.R_reads' cg.out).2.1)
    rintro e g3 ⟨rfl,hb⟩
    refine⟨_,rfl, ?_⟩
    replace ac:=Aside0.mk (Kd.S_below (by(with_reducible repeat(first|apply Kd.S_alloc|apply Kd.S_drewN|apply Kd.S_drew));exact ac.out) hb)
    replace ad:=Aside0.mk (Kd.R_below (by(with_reducible repeat(first|apply Kd.R_alloc|apply Kd.R_drewN|apply Kd.R_drew));exact ad.out) hb)
    replace B:=Aside0.mk (Kd.R_below (by(with_reducible repeat(first|apply Kd.R_alloc|apply Kd.R_drewN|apply Kd.R_drew));exact B.out) hb)
    replace D:=Aside0.mk (Kd.R_below (by(with_reducible repeat(first|apply Kd.R_alloc|apply Kd.R_drewN|apply Kd.R_drew));exact D.out) hb)
    replace aq:=Aside0.mk (Kd.S_below (by(with_reducible repeat(first|apply Kd.S_alloc|apply Kd.S_drewN|apply Kd.S_drew));exact aq.out) hb)
    replace ar:=Aside0.mk (Kd.R_below (by(with_reducible repeat(first|apply Kd.R_alloc|apply Kd.R_drewN|apply Kd.R_drew));exact ar.out) hb)
    replace am:=Aside0.mk (Kd.R_below (by(with_reducible repeat(first|apply Kd.R_alloc|apply Kd.R_drewN|apply Kd.R_drew));exact am.out) hb)
    replace an:=Aside0.mk (Kd.R_below (by(with_reducible repeat(first|apply Kd.R_alloc|apply Kd.R_drewN|apply Kd.R_drew));exact an.out) hb)
    replace cf:=Aside0.mk (Kd.S_below (by(with_reducible repeat(first|apply Kd.S_alloc|apply Kd.S_drewN|apply Kd.S_drew));exact cf.out) hb)
    replace cg:=Aside0.mk (Kd.R_below (by(with_reducible repeat(first|apply Kd.R_alloc|apply Kd.R_drewN|apply Kd.R_drew));exact cg.out) hb)
    replace a:=kb a hb
    replace b:=kb b hb
    replace z:=kb z hb
    replace l:=kb l hb
    replace HB:=hs HB hb
    (try clear hb)
    (try clear hb2)
    (try clear hk)
    (try clear hi)
    refine hK.out _ _ ⟨(ae z.out 0).trans rfl,(ae z.out 1).trans rfl,(ae a.out 0).trans rfl,(ae a.out 1).trans rfl⟩ (fun hHeld=> ?_)
    clear hK K
    refine no 34 ?_
    refine ow (i:=4) (N:=some 35) (v:= ?_) (a' := ?_) #[true,true,true,true,true] rfl rfl (by kernel_rfl) (fun _ _ _ h=>h) (Or.inl ⟨by rfl, ?_⟩) ?_ ?_
    rotate_left
    ·intro w'
     go_simp
     with_reducible rfl
    rotate_left
    ·simp only[Act.put,List.setIfInBounds_toArray,List.set_cons_zero,List.set_cons_succ,bT,bU]
     rfl
    refine eT (by kernel_rfl) ?_
    obtain⟨_,_,_,_⟩:=cf2 z
    go_upto_region 14 with(first|((with_reducible refine gc 10 rfl ?_);refine gl (some 38) Try.func10 #[.agg #[.slice aP ao.length aF, .slice aR ap.length aL], .int .i64 1] rfl ?_;(with_reducible refine(dV.calls (fun k_=>some k_≠(.slice Z q.length W:Value).ownBlock∧some k_≠(.slice ab s.length X:Value).ownBlock∧some k_≠(.slice P u.length M:Value).ownBlock∧some k_≠(.slice T x.length O:Value).ownBlock∧k_≠ca∧k_≠y∧k_≠Y∧k_≠t) (.slice aP ao.length aF) ao (fun k_=>some k_≠(.slice Z q.length W:Value).ownBlock∧some k_≠(.slice ab s.length X:Value).ownBlock∧some k_≠(.slice P u.length M:Value).ownBlock∧some k_≠(.slice T x.length O:Value).ownBlock∧k_≠ca∧k_≠y∧k_≠Y∧k_≠t) (.slice aR ap.length aL) ap 1 a6 w _ ?side1 ?side2 ?side3 eN.out).mono ?_);(case side1=>repeat(first|(with_reducible first|exact HB.out|apply bJ|apply bG|apply aW|refine bn ?_ cv.out|refine bn ?_ cU.out|refine bn ?_ du.out|refine bn ?_ cV.out)|exact HB.out));(case side2=>exact Kd.S_mono ((Kd.S_types ((Kd.S_types ((Kd.S_types ((Kd.S_types (aq.out) (by(with_reducible repeat(first|refine ah ?_ _|refine af ?_|refine ag ?_ _));exact a.out) (by decide))) (by(with_reducible repeat(first|refine ah ?_ _|refine af ?_|refine ag ?_ _));exact b.out) (by decide))) (by(with_reducible repeat(first|refine ah ?_ _|refine af ?_|refine ag ?_ _));exact z.out) (by decide))) (by(with_reducible repeat(first|refine ah ?_ _|refine af ?_|refine ag ?_ _));exact l.out) (by decide))) (fun k_ hk=>⟨hk.1.1.1.1.1.1.1.1.2,hk.1.1.1.1.1.1.1.2,hk.1.1.1.1.1.1.2,hk.1.1.1.1.1.2,hk.1.1.1.2,hk.1.1.2,hk.1.2,hk.2⟩));(case side3=>exact Kd.R_mono ((Kd.R_types ((Kd.R_types (ar.out) (by(with_reducible repeat(first|refine ah ?_ _|refine af ?_|refine ag ?_ _));exact a.out) (by decide))) (by(with_reducible repeat(first|refine ah ?_ _|refine af ?_|refine ag ?_ _));exact z.out) (by decide))) (fun k_ hk=>⟨hk.1.1.1.1.1.1.1.1.2,hk.1.1.1.1.1.1.1.2,hk.1.1.1.1.1.2,hk.1.1.1.1.2,hk.1.2,hk.1.1.1.1.1.1.2,hk.2,hk.1.1.1.2⟩));rintro e g4 ⟨rfl,hb,hkp⟩;refine⟨_,rfl, ?_⟩;have d5:=Aside0.mk (gX (by(with_reducible repeat(first|refine ah ?_ _|refine af ?_|refine ag ?_ _));exact a.out) hkp (fun hs_=>Or.elim hs_ (fun e_=>e_.2.2.2.2.1 rfl) (fun e_=>e_.2.2.2.2.1 rfl)));have d6:=Aside0.mk (Kd.R_mono (ok' :=fun k_=>some k_≠(.slice ab s.length X:Value).ownBlock∧some k_≠(.slice P u.length M:Value).ownBlock∧some k_≠(.slice T x.length O:Value).ownBlock) (Kd.R_keptB (Kd.R_tight2 rfl (B.out)) hkp (fun k_ hk_ hs_=>Or.elim hs_ (fun e_=>e_.1 hk_.1) (fun e_=>e_.1 hk_.1))) (fun k_ hk_=>⟨hk_.1.2.1.1,hk_.1.2.1.2,hk_.1.2.2⟩));have d7:=Aside0.mk (Kd.R_mono (ok' :=fun k_=>some k_≠(.slice Z q.length W:Value).ownBlock∧some k_≠(.slice P u.length M:Value).ownBlock∧some k_≠(.slice T x.length O:Value).ownBlock) (Kd.R_keptB (Kd.R_tight2 rfl (D.out)) hkp (fun k_ hk_ hs_=>Or.elim hs_ (fun e_=>e_.2.1 hk_.1) (fun e_=>e_.2.1 hk_.1))) (fun k_ hk_=>⟨hk_.1.2.1.1,hk_.1.2.1.2,hk_.1.2.2⟩));have d8:=Aside0.mk (gX (by(with_reducible repeat(first|refine ah ?_ _|refine af ?_|refine ag ?_ _));exact b.out) hkp (fun hs_=>Or.elim hs_ (fun e_=>e_.2.2.2.2.2.1 rfl) (fun e_=>e_.2.2.2.2.2.1 rfl)));have ea:=Aside0.mk (gX (by(with_reducible repeat(first|refine ah ?_ _|refine af ?_|refine ag ?_ _));exact z.out) hkp (fun hs_=>Or.elim hs_ (fun e_=>e_.2.2.2.2.2.2.1 rfl) (fun e_=>e_.2.2.2.2.2.2.1 rfl)));have eb:=Aside0.mk (Kd.R_mono (ok' :=fun k_=>some k_≠(.slice Z q.length W:Value).ownBlock∧some k_≠(.slice ab s.length X:Value).ownBlock∧some k_≠(.slice T x.length O:Value).ownBlock) (Kd.R_keptB (Kd.R_tight2 rfl (am.out)) hkp (fun k_ hk_ hs_=>Or.elim hs_ (fun e_=>e_.2.2.1 hk_.1) (fun e_=>e_.2.2.1 hk_.1))) (fun k_ hk_=>⟨hk_.1.2.1.2,hk_.1.2.2,hk_.1.2.1.1⟩));have ec:=Aside0.mk (Kd.R_mono (ok' :=fun k_=>some k_≠(.slice Z q.length W:Value).ownBlock∧some k_≠(.slice ab s.length X:Value).ownBlock∧some k_≠(.slice P u.length M:Value).ownBlock) (Kd.R_keptB (Kd.R_tight2 rfl (an.out)) hkp (fun k_ hk_ hs_=>Or.elim hs_ (fun e_=>e_.2.2.2.1 hk_.1) (fun e_=>e_.2.2.2.1 hk_.1))) (fun k_ hk_=>⟨hk_.1.2.1.2,hk_.1.2.2,hk_.1.2.1.1⟩));have ee:=Aside0.mk (gX (by(with_reducible repeat(first|refine ah ?_ _|refine af ?_|refine ag ?_ _));exact l.out) hkp (fun hs_=>Or.elim hs_ (fun e_=>e_.2.2.2.2.2.2.2 rfl) (fun e_=>e_.2.2.2.2.2.2.2 rfl)));have ef:=Aside0.mk (hb);clear a;clear B;clear D;clear b;clear z;clear am;clear an;clear l;clear HB;clear aq;clear ar;have a:=d5;have B:=d6;have D:=d7;have b:=d8;have z:=ea;have am:=eb;have an:=ec;have l:=ee;have HB:=ef;clear d5 d6 d7 d8 ea eb ec ee ef;(try clear hb);(try clear hkp)))
    (try simp only[Act.put,List.setIfInBounds_toArray,List.set_cons_zero,List.set_cons_succ])
    go_cut [46] (fun v46 wc=> ∃(kq:Nat) (ch:Bool),v46= .bool ch∧Aside0 (laws_FnExactShapeStart.j0 kq a1 ch I J L q s U u x=some r)∧Aside0 (kq≤k)∧Aside0 (Kd.R (Kd.int .i64) 3 wc w.heap.size (fun k_=>some k_≠((.slice ab s.length X):Value).ownBlock∧some k_≠((.slice P u.length M):Value).ownBlock∧some k_≠((.slice T x.length O):Value).ownBlock) (.slice Z q.length W) q)∧Aside0 (Kd.R (Kd.int .i64) 3 wc w.heap.size (fun k_=>some k_≠((.slice Z q.length W):Value).ownBlock∧some k_≠((.slice P u.length M):Value).ownBlock∧some k_≠((.slice T x.length O):Value).ownBlock) (.slice ab s.length X) s)∧Aside0 (Kd.R (Kd.int .i64) 3 wc w.heap.size (fun k_=>some k_≠((.slice Z q.length W):Value).ownBlock∧some k_≠((.slice ab s.length X):Value).ownBlock∧some k_≠((.slice T x.length O):Value).ownBlock) (.slice P u.length M) u)∧Aside0 (Kd.R (Kd.int .i64) 3 wc w.heap.size (fun k_=>some k_≠((.slice Z q.length W):Value).ownBlock∧some k_≠((.slice ab s.length X):Value).ownBlock∧some k_≠((.slice P u.length M):Value).ownBlock) (.slice T x.length O) x)∧Aside0 (wc.heap[ca]? =some (.cells #[(.slice bh I.length bj),(.slice bk J.length bm)] 25 (0,0)))∧Aside0 (wc.heap[y]? =some (.cells #[.bool L,(.slice Z q.length W),(.slice ab s.length X)] 29 (0,0)))∧Aside0 (wc.heap[t]? =some (.cells #[.bool U,(.slice P u.length M),(.slice T x.length O)] 29 (0,0)))∧Aside0 (Below w.heap.size w wc))
    case first=>
     have H:=cN.out
     clear cN
     by_cases cr:a6<0
     ·rw[if_pos cr]at H
      have ci:decide (a6<0)=true:=decide_eq_true cr
      clear cr
      (first|rw[ci]|(simp only[bT,bU];rw[ci])|skip)
      have H' :=Aside0.mk H
      clear H
      go_wp2
      go_meet
      case rel=>exact⟨_,(true),(by first|rfl|(simp;done)|(simp[*];done)),H',⟨by first|omega|exact Nat.le_refl _⟩,⟨by(with_reducible repeat(first|apply Kd.R_alloc|apply Kd.R_drewN|apply Kd.R_drew));exact B.out⟩,⟨by(with_reducible repeat(first|apply Kd.R_alloc|apply Kd.R_drewN|apply Kd.R_drew));exact D.out⟩,⟨by(with_reducible repeat(first|apply Kd.R_alloc|apply Kd.R_drewN|apply Kd.R_drew));exact am.out⟩,⟨by(with_reducible repeat(first|apply Kd.R_alloc|apply Kd.R_drewN|apply Kd.R_drew));exact an.out⟩,kk a,kk b,kk l,⟨bl⟩⟩
     ·rw[if_neg cr]at H
      have ci:decide (a6<0)=false:=decide_eq_false cr
      clear cr
      (first|rw[ci]|(simp only[bT,bU];rw[ci])|skip)
      obtain⟨a8,eS,H⟩:=ob H
      have H' :=Aside0.mk H
      clear H
      have fk:=b2.out
      have fl:=b1.out
      have fm:=b4.out
      have fp:=b3.out
      have fr:=cm.out
      have fs:=cl.out
      obtain⟨_,_,_,_,_,_⟩:=cf3 l
      have ft:=b0.out
      have fv:=bw.out
      have fx:=cj.out
      have fy:=ck.out
      obtain⟨_,_,_,_,_,_⟩:=cf3 b
      go_wp2_with (first|(go_at_call 8;(with_reducible refine(bL.calls k U _ _ u _ _ x L _ _ q _ _ s a8 _ ?side1 ?side2 ?side3 ?s4 ?s5 ?s6 ?s7 ?s8 eS.out).mono ?_);(case side1=>repeat(first|exact(Kd.R_reads' am.out).2.2|(with_reducible refine Kd.C_alloc ?_ _)|(with_reducible refine Kd.C_drewN ?_ _)|(with_reducible refine Kd.C_drew ?_)));(case side2=>exact(Kd.R_reads' am.out).2.1);(case side3=>repeat(first|exact(Kd.R_reads' an.out).2.2|(with_reducible refine Kd.C_alloc ?_ _)|(with_reducible refine Kd.C_drewN ?_ _)|(with_reducible refine Kd.C_drew ?_)));(case s4=>exact(Kd.R_reads' an.out).2.1);(case s5=>repeat(first|exact(Kd.R_reads' B.out).2.2|(with_reducible refine Kd.C_alloc ?_ _)|(with_reducible refine Kd.C_drewN ?_ _)|(with_reducible refine Kd.C_drew ?_)));(case s6=>exact(Kd.R_reads' B.out).2.1);(case s7=>repeat(first|exact(Kd.R_reads' D.out).2.2|(with_reducible refine Kd.C_alloc ?_ _)|(with_reducible refine Kd.C_drewN ?_ _)|(with_reducible refine Kd.C_drew ?_)));(case s8=>exact(Kd.R_reads' D.out).2.1);rintro e g5 ⟨rfl,hb⟩;replace B:=Aside0.mk (Kd.R_below (by(with_reducible repeat(first|apply Kd.R_alloc|apply Kd.R_drewN|apply Kd.R_drew));exact B.out) hb);replace D:=Aside0.mk (Kd.R_below (by(with_reducible repeat(first|apply Kd.R_alloc|apply Kd.R_drewN|apply Kd.R_drew));exact D.out) hb);replace am:=Aside0.mk (Kd.R_below (by(with_reducible repeat(first|apply Kd.R_alloc|apply Kd.R_drewN|apply Kd.R_drew));exact am.out) hb);replace an:=Aside0.mk (Kd.R_below (by(with_reducible repeat(first|apply Kd.R_alloc|apply Kd.R_drewN|apply Kd.R_drew));exact an.out) hb);replace a:=kb a hb;replace b:=kb b hb;replace z:=kb z hb;replace l:=kb l hb;replace HB:=hs HB hb;(try clear hb)))
      go_meet
      case rel=>exact⟨_,(!a8),(by first|rfl|(simp;done)|(simp[*];done)),H',⟨by first|omega|exact Nat.le_refl _⟩,⟨by(with_reducible repeat(first|apply Kd.R_alloc|apply Kd.R_drewN|apply Kd.R_drew));exact B.out⟩,⟨by(with_reducible repeat(first|apply Kd.R_alloc|apply Kd.R_drewN|apply Kd.R_drew));exact D.out⟩,⟨by(with_reducible repeat(first|apply Kd.R_alloc|apply Kd.R_drewN|apply Kd.R_drew));exact am.out⟩,⟨by(with_reducible repeat(first|apply Kd.R_alloc|apply Kd.R_drewN|apply Kd.R_drew));exact an.out⟩,kk a,kk b,kk l,⟨bl⟩⟩
    case rest=>
     clear cN
     obtain⟨kq,ch,rfl,HA,gn,E,G,d,j,a,b,l,HB⟩:=hcut
     cases kq with
     |zero=>exact absurd HA.out (by simp[laws_FnExactShapeStart.j0])
     | succ a7=>
      have H:=HA.out
      clear HA
      simp only[laws_FnExactShapeStart.j0]at H
      by_cases cW:ch=true
      ·subst cW
       replace H:=it H
       obtain rfl:=Option.some.inj H
       exact absurd hr_ (by decide)
      ·replace cW:=Bool.eq_false_iff.mpr cW
       subst cW
       replace H:=ie H
       replace H:=Option.bind_eq_some_iff.mp H
       obtain⟨⟨cd,bd,be⟩,dp,H⟩:=H
       replace H:((dJ.f a7 U bd be 1).bind fun b5=>(if b5<0 then(some false)else(if b5=cd then((di.f a7 I J).bind fun cX=>((dC.f a7 cX.1 cX.2 a1).bind fun bs=>((bL.f a7 bs.1 bs.2.1 bs.2.2 L q s).bind fun ce=>(if ce=true then((dJ.f a7 U bd be 1).bind fun a9=>(if a9<0 then(some false)else(if a9=cd then(some true)else(some false))))else(some false)))))else(some false))))=some r:=H
       have eV:=Aside0.mk dp
       clear dp
       obtain⟨b5,eW,H⟩:=ob H
       by_cases c70:b5<0
       ·rw[if_pos c70]at H
        have dv:decide (b5<0)=true:=decide_eq_true c70
        clear c70
        obtain rfl:=Option.some.inj H
        exact absurd hr_ (by decide)
       ·rw [if_neg c70]at H
        have dv:decide (b5<0)=false:=decide_eq_false c70
        clear c70
        by_cases cp:b5=cd
        ·rw [if_pos cp]at H
         have dy:=beq_iff_eq.mpr cp
         have dT:=bne_eq_false_iff_eq.mpr cp
         clear cp
         replace H:=Option.bind_eq_some_iff.mp H
         obtain⟨⟨cy,cA⟩,dq,H⟩:=H
         replace H:((dC.f a7 cy cA a1).bind fun bs=>((bL.f a7 bs.1 bs.2.1 bs.2.2 L q s).bind fun ce=>(if ce=true then((dJ.f a7 U bd be 1).bind fun a9=>(if a9<0 then(some false)else(if a9=cd then(some true)else(some false))))else(some false))))=some r:=H
         have e0:=Aside0.mk dq
         clear dq
         replace H:=Option.bind_eq_some_iff.mp H
         obtain⟨⟨a3,aB,aE⟩,dr,H⟩:=H
         replace H:((bL.f a7 a3 aB aE L q s).bind fun ce=>(if ce=true then((dJ.f a7 U bd be 1).bind fun a9=>(if a9<0 then(some false)else(if a9=cd then(some true)else(some false))))else(some false)))=some r:=H
         have e1:=Aside0.mk dr
         clear dr
         obtain⟨ce,e2,H⟩:=ob H
         by_cases c75:ce=true
         ·subst c75
          replace H:=it H
          obtain⟨a9,e3,H⟩:=ob H
          by_cases ct:a9<0
          ·rw[if_pos ct]at H
           have d0:decide (a9<0)=true:=decide_eq_true ct
           clear ct
           obtain rfl:=Option.some.inj H
           exact absurd hr_ (by decide)
          ·rw[if_neg ct]at H
           have d0:decide (a9<0)=false:=decide_eq_false ct
           clear ct
           by_cases cq:a9=cd
           ·rw[if_pos cq]at H
            have d1:=beq_iff_eq.mpr cq
            have d2:=bne_eq_false_iff_eq.mpr cq
            clear cq
            obtain rfl:=Option.some.inj H;clear H
            have fz:=b2.out
            have fL:=b1.out
            have fN:=b4.out
            have fR:=b3.out
            obtain⟨_,_,_,_,_,_⟩:=cf3 l
            go_wp2_with (first|((with_reducible refine gc 11 rfl ?_);refine gl (some 49) Try.func11 #[.agg #[.bool U, .slice P u.length M, .slice T x.length O], .int .i64 1] rfl ?_;(with_reducible refine(gp.calls a7 U (fun k_=>some k_=(.slice P u.length M:Value).ownBlock) (.slice P u.length M) u (fun k_=>some k_=(.slice T x.length O:Value).ownBlock) (.slice T x.length O) x 1 cd bd be w _ ?side1 ?side2 ?side3 ?s4 ?s5 eV.out).mono ?_);(case side1=>repeat(first|(with_reducible first|exact HB.out|apply bJ|apply bG|apply aW|refine bn ?_ cv.out|refine bn ?_ cU.out|refine bn ?_ cV.out)|exact HB.out));(case side2=>exact Kd.R_tight rfl d.out);(case side3=>exact fun k_ e_=>(d.out.1 k_ e_.symm).2.2);(case s4=>exact Kd.R_tight rfl j.out);(case s5=>exact fun k_ e_=>(j.out.1 k_ e_.symm).2.2);rintro e g6 ⟨rfl,hy0,hy1,hb,hkp⟩;refine⟨_,rfl, ?_⟩;replace E:=Aside0.mk (Kd.R_mono (ok' :=fun k_=>some k_≠(.slice ab s.length X:Value).ownBlock∧some k_≠(.slice P u.length M:Value).ownBlock∧some k_≠(.slice T x.length O:Value).ownBlock) (Kd.R_keptB (E.out) hkp (fun k_ hk_ hs_=>Or.elim hs_ (fun e_=>(hk_.2.1) e_) (fun e_=>(hk_.2.2) e_))) (fun k_ hk_=>⟨hk_.1.1,hk_.1.2.1,hk_.1.2.2⟩));replace G:=Aside0.mk (Kd.R_mono (ok' :=fun k_=>some k_≠(.slice Z q.length W:Value).ownBlock∧some k_≠(.slice P u.length M:Value).ownBlock∧some k_≠(.slice T x.length O:Value).ownBlock) (Kd.R_keptB (G.out) hkp (fun k_ hk_ hs_=>Or.elim hs_ (fun e_=>(hk_.2.1) e_) (fun e_=>(hk_.2.2) e_))) (fun k_ hk_=>⟨hk_.1.1,hk_.1.2.1,hk_.1.2.2⟩));replace a:=Aside0.mk (gX (by(with_reducible repeat(first|refine ah ?_ _|refine af ?_|refine ag ?_ _));exact a.out) hkp (fun hs_=>Or.elim hs_ (fun e_=>(fun e_=>(Kd.R_ne d.out a.out (by decide)) e_) e_) (fun e_=>(fun e_=>(Kd.R_ne j.out a.out (by decide)) e_) e_)));replace b:=Aside0.mk (gX (by(with_reducible repeat(first|refine ah ?_ _|refine af ?_|refine ag ?_ _));exact b.out) hkp (fun hs_=>Or.elim hs_ (fun e_=>(fun e_=>(Kd.R_ne d.out b.out (by decide)) e_) e_) (fun e_=>(fun e_=>(Kd.R_ne j.out b.out (by decide)) e_) e_)));replace l:=Aside0.mk (gX (by(with_reducible repeat(first|refine ah ?_ _|refine af ?_|refine ag ?_ _));exact l.out) hkp (fun hs_=>Or.elim hs_ (fun e_=>(fun e_=>(Kd.R_ne d.out l.out (by decide)) e_) e_) (fun e_=>(fun e_=>(Kd.R_ne j.out l.out (by decide)) e_) e_)));replace d:=Aside0.mk (Kd.R_reok rfl hy0 (fun k_ e_=>d.out.1 k_ e_));replace j:=Aside0.mk (Kd.R_reok rfl hy1 (fun k_ e_=>j.out.1 k_ e_));replace HB:=Aside0.mk (hb);(try clear hb);(try clear hkp);(try clear hy0);(try clear hy1);obtain⟨_,_,_,_,_,_⟩:=cf3 l)|((with_reducible refine gc 12 rfl ?_);refine gT (some 52) rfl rfl Try.func12 (by kernel_rfl) rfl #[.agg #[.bool U, .slice P bd.length M, .slice T be.length O], .int .i64 1] rfl (by(try simp only[List.map_toArray,List.map_cons,List.map_nil]);first|done|(rw[show bd.length=u.length from(Kd.R_reads' d.out).1.symm,show be.length=x.length from(Kd.R_reads' j.out).1.symm]<;>rfl)|rfl|(simp only[List.length_drop,List.length_take];rfl)) ?_;(with_reducible refine(dJ.calls a7 U _ _ bd _ _ be 1 b5 _ ?side1 ?side2 ?side3 ?s4 eW.out).mono ?_);(case side1=>repeat(first|exact(Kd.R_reads' d.out).2.2|(with_reducible refine Kd.C_alloc ?_ _)|(with_reducible refine Kd.C_drewN ?_ _)|(with_reducible refine Kd.C_drew ?_)));(case side2=>rw[show bd.length=u.length from(Kd.R_reads' d.out).1.symm];exact(Kd.R_reads' d.out).2.1);(case side3=>repeat(first|exact(Kd.R_reads' j.out).2.2|(with_reducible refine Kd.C_alloc ?_ _)|(with_reducible refine Kd.C_drewN ?_ _)|(with_reducible refine Kd.C_drew ?_)));(case s4=>rw[show be.length=x.length from(Kd.R_reads' j.out).1.symm];exact(Kd.R_reads' j.out).2.1);rintro e g7 ⟨rfl,hb⟩;refine⟨_,rfl, ?_⟩;replace E:=Aside0.mk (Kd.R_below (by(with_reducible repeat(first|apply Kd.R_alloc|apply Kd.R_drewN|apply Kd.R_drew));exact E.out) hb);replace G:=Aside0.mk (Kd.R_below (by(with_reducible repeat(first|apply Kd.R_alloc|apply Kd.R_drewN|apply Kd.R_drew));exact G.out) hb);replace d:=Aside0.mk (Kd.R_below (by(with_reducible repeat(first|apply Kd.R_alloc|apply Kd.R_drewN|apply Kd.R_drew));exact d.out) hb);replace j:=Aside0.mk (Kd.R_below (by(with_reducible repeat(first|apply Kd.R_alloc|apply Kd.R_drewN|apply Kd.R_drew));exact j.out) hb);replace a:=kb a hb;replace b:=kb b hb;replace l:=kb l hb;replace HB:=hs HB hb;(try clear hb);have fS:=bw.out;have fW:=b0.out;obtain⟨_,_,_,_⟩:=cf2 a)|((with_reducible refine gc 6 rfl ?_);refine gl (some 59) Try.func6 #[.agg #[.slice bh I.length bj, .slice bk J.length bm]] rfl ?_;(with_reducible refine(di.calls a7 _ _ I _ _ J cy cA _ ?side1 ?side2 ?side3 ?s4 e0.out).mono ?_);(case side1=>exact cb b6.out);(case side2=>exact b7.out);(case side3=>exact cb b8.out);(case s4=>exact b9.out);rintro e g8 ⟨go,gr,rfl,ho0,ho1,hb⟩;refine⟨_,rfl, ?_⟩;have ba:=Aside0.mk (Kd.S_lower (Kd.S_new' (Kd.S_new' (Kd.S_new' (Kd.S_new' ho0 (Kd.R_lt (by(with_reducible repeat(first|apply Kd.R_alloc|apply Kd.R_drewN|apply Kd.R_drew));exact E.out))) (Kd.R_lt (by(with_reducible repeat(first|apply Kd.R_alloc|apply Kd.R_drewN|apply Kd.R_drew));exact G.out))) (Kd.R_lt (by(with_reducible repeat(first|apply Kd.R_alloc|apply Kd.R_drewN|apply Kd.R_drew));exact d.out))) (Kd.R_lt (by(with_reducible repeat(first|apply Kd.R_alloc|apply Kd.R_drewN|apply Kd.R_drew));exact j.out))) (aK bl));have bb:=Aside0.mk (Kd.R_lower (Kd.R_newB (Kd.R_newB (Kd.R_new' (Kd.R_new' (Kd.R_new' (Kd.R_new' ho1 (Kd.R_lt (by(with_reducible repeat(first|apply Kd.R_alloc|apply Kd.R_drewN|apply Kd.R_drew));exact E.out))) (Kd.R_lt (by(with_reducible repeat(first|apply Kd.R_alloc|apply Kd.R_drewN|apply Kd.R_drew));exact G.out))) (Kd.R_lt (by(with_reducible repeat(first|apply Kd.R_alloc|apply Kd.R_drewN|apply Kd.R_drew));exact d.out))) (Kd.R_lt (by(with_reducible repeat(first|apply Kd.R_alloc|apply Kd.R_drewN|apply Kd.R_drew));exact j.out))) (g:=y) (o:= .cells #[.bool L, .slice Z q.length W, .slice ab s.length X] 29 (0,0)) (by(with_reducible repeat(first|refine ah ?_ _|refine af ?_|refine ag ?_ _));exact b.out)) (g:=t) (o:= .cells #[.bool U, .slice P u.length M, .slice T x.length O] 29 (0,0)) (by(with_reducible repeat(first|refine ah ?_ _|refine af ?_|refine ag ?_ _));exact l.out)) (aK bl));replace E:=Aside0.mk (Kd.R_below (by(with_reducible repeat(first|apply Kd.R_alloc|apply Kd.R_drewN|apply Kd.R_drew));exact E.out) hb);replace G:=Aside0.mk (Kd.R_below (by(with_reducible repeat(first|apply Kd.R_alloc|apply Kd.R_drewN|apply Kd.R_drew));exact G.out) hb);replace d:=Aside0.mk (Kd.R_below (by(with_reducible repeat(first|apply Kd.R_alloc|apply Kd.R_drewN|apply Kd.R_drew));exact d.out) hb);replace j:=Aside0.mk (Kd.R_below (by(with_reducible repeat(first|apply Kd.R_alloc|apply Kd.R_drewN|apply Kd.R_drew));exact j.out) hb);replace a:=kb a hb;replace b:=kb b hb;replace l:=kb l hb;replace HB:=hs HB hb;(try clear hb);(try clear ho0);(try clear ho1);obtain⟨ev,ew,ex⟩:=Kd.S_slice ba.out;subst ex;obtain⟨ey,ez,eA⟩:=Kd.R_slice bb.out;subst eA)|((with_reducible refine gc 7 rfl ?_);refine gl (some 61) Try.func7 #[.agg #[.slice ev cy.length ew, .slice ey cA.length ez], .int .i64 a1] rfl ?_;(with_reducible refine(dC.calls a7 _ _ cy _ _ cA a1 a3 aB aE _ ?side1 ?side2 ?side3 ?s4 e1.out).mono ?_);(case side1=>repeat(first|exact(Kd.S_reads' ba.out).2.2|(with_reducible refine Kd.C_alloc ?_ _)|(with_reducible refine Kd.C_drewN ?_ _)|(with_reducible refine Kd.C_drew ?_)));(case side2=>exact(Kd.S_reads' ba.out).2.1);(case side3=>repeat(first|exact(Kd.R_reads' bb.out).2.2|(with_reducible refine Kd.C_alloc ?_ _)|(with_reducible refine Kd.C_drewN ?_ _)|(with_reducible refine Kd.C_drew ?_)));(case s4=>exact(Kd.R_reads' bb.out).2.1);rintro e g9 ⟨gt,gv,rfl,ho0,ho1,hb⟩;refine⟨_,rfl, ?_⟩;have bo:=Aside0.mk (Kd.R_lower (Kd.R_new' (Kd.R_new' (Kd.R_new' (Kd.R_new' ho0 (Kd.R_lt (by(with_reducible repeat(first|apply Kd.R_alloc|apply Kd.R_drewN|apply Kd.R_drew));exact E.out))) (Kd.R_lt (by(with_reducible repeat(first|apply Kd.R_alloc|apply Kd.R_drewN|apply Kd.R_drew));exact G.out))) (Kd.R_lt (by(with_reducible repeat(first|apply Kd.R_alloc|apply Kd.R_drewN|apply Kd.R_drew));exact d.out))) (Kd.R_lt (by(with_reducible repeat(first|apply Kd.R_alloc|apply Kd.R_drewN|apply Kd.R_drew));exact j.out))) (aK bl));have bp:=Aside0.mk (Kd.R_lower (Kd.R_new' (Kd.R_new' (Kd.R_new' (Kd.R_new' ho1 (Kd.R_lt (by(with_reducible repeat(first|apply Kd.R_alloc|apply Kd.R_drewN|apply Kd.R_drew));exact E.out))) (Kd.R_lt (by(with_reducible repeat(first|apply Kd.R_alloc|apply Kd.R_drewN|apply Kd.R_drew));exact G.out))) (Kd.R_lt (by(with_reducible repeat(first|apply Kd.R_alloc|apply Kd.R_drewN|apply Kd.R_drew));exact d.out))) (Kd.R_lt (by(with_reducible repeat(first|apply Kd.R_alloc|apply Kd.R_drewN|apply Kd.R_drew));exact j.out))) (aK bl));replace E:=Aside0.mk (Kd.R_mono (Kd.R_told (Kd.R_told (Kd.R_old (by(with_reducible repeat(first|apply Kd.R_alloc|apply Kd.R_drewN|apply Kd.R_drew));exact E.out) hb) (Kd.R_base ho0)) (Kd.R_base ho1)) (fun _ h_=>h_.1));replace G:=Aside0.mk (Kd.R_mono (Kd.R_told (Kd.R_told (Kd.R_old (by(with_reducible repeat(first|apply Kd.R_alloc|apply Kd.R_drewN|apply Kd.R_drew));exact G.out) hb) (Kd.R_base ho0)) (Kd.R_base ho1)) (fun _ h_=>h_.1));replace d:=Aside0.mk (Kd.R_mono (Kd.R_told (Kd.R_told (Kd.R_old (by(with_reducible repeat(first|apply Kd.R_alloc|apply Kd.R_drewN|apply Kd.R_drew));exact d.out) hb) (Kd.R_base ho0)) (Kd.R_base ho1)) (fun _ h_=>h_.1));replace j:=Aside0.mk (Kd.R_mono (Kd.R_told (Kd.R_told (Kd.R_old (by(with_reducible repeat(first|apply Kd.R_alloc|apply Kd.R_drewN|apply Kd.R_drew));exact j.out) hb) (Kd.R_base ho0)) (Kd.R_base ho1)) (fun _ h_=>h_.1));replace ba:=Aside0.mk (Kd.S_mono (Kd.S_told (Kd.S_told (Kd.S_old (by(with_reducible repeat(first|apply Kd.S_alloc|apply Kd.S_drewN|apply Kd.S_drew));exact ba.out) hb) (Kd.R_base ho0)) (Kd.R_base ho1)) (fun _ h_=>h_.1));replace bb:=Aside0.mk (Kd.R_mono (Kd.R_told (Kd.R_told (Kd.R_old (by(with_reducible repeat(first|apply Kd.R_alloc|apply Kd.R_drewN|apply Kd.R_drew));exact bb.out) hb) (Kd.R_base ho0)) (Kd.R_base ho1)) (fun _ h_=>h_.1));replace a:=kb a hb;replace b:=kb b hb;replace l:=kb l hb;replace HB:=hs HB hb;(try clear hb);(try clear ho0);(try clear ho1))|((with_reducible refine gd 12 rfl ?_);refine bx 12 #[.bool false, .slice none 0 0, .slice none 0 0] 29 ?_;intro A hg ha hbox hb;have aO:=Aside0.mk hbox;have fX:=hz HB hg;have fY:=hz HB hg;have cG:=nl a hg;have cH:=ng a hg;have cI:=nl b hg;have cJ:=ng b hg;have cL:=nl l hg;have cM:=ng l hg;replace E:=Aside0.mk (Kd.R_below (by(with_reducible repeat(first|apply Kd.R_alloc|apply Kd.R_drewN|apply Kd.R_drew));exact E.out) hb);replace G:=Aside0.mk (Kd.R_below (by(with_reducible repeat(first|apply Kd.R_alloc|apply Kd.R_drewN|apply Kd.R_drew));exact G.out) hb);replace d:=Aside0.mk (Kd.R_below (by(with_reducible repeat(first|apply Kd.R_alloc|apply Kd.R_drewN|apply Kd.R_drew));exact d.out) hb);replace j:=Aside0.mk (Kd.R_below (by(with_reducible repeat(first|apply Kd.R_alloc|apply Kd.R_drewN|apply Kd.R_drew));exact j.out) hb);replace ba:=Aside0.mk (Kd.S_below (by(with_reducible repeat(first|apply Kd.S_alloc|apply Kd.S_drewN|apply Kd.S_drew));exact ba.out) hb);replace bb:=Aside0.mk (Kd.R_below (Kd.R_elderB (by(with_reducible repeat(first|apply Kd.R_alloc|apply Kd.R_drewN|apply Kd.R_drew));exact bb.out) A (Nat.le_of_eq hg.symm)) hb);replace bo:=Aside0.mk (Kd.R_below (by(with_reducible repeat(first|apply Kd.R_alloc|apply Kd.R_drewN|apply Kd.R_drew));exact bo.out) hb);replace bp:=Aside0.mk (Kd.R_below (by(with_reducible repeat(first|apply Kd.R_alloc|apply Kd.R_drewN|apply Kd.R_drew));exact bp.out) hb);replace a:=kb a hb;replace b:=kb b hb;replace l:=kb l hb;replace HB:=hs HB hb;clear hb hbox hg;have f0:=cH.out;have f1:=cG.out;have f2:=cJ.out;have f3:=cI.out;have f4:=cM.out;have f5:=cL.out;obtain⟨_,_,_,_,_,_⟩:=cf3 aO;obtain⟨a4,aS,eC⟩:=Kd.R_slice bo.out;subst eC;obtain⟨a5,a0,eE⟩:=Kd.R_slice bp.out;subst eE;obtain⟨_,_,_,_,_,_⟩:=cf3 b)|((with_reducible refine gc 8 rfl ?_);refine gl (some 64) Try.func8 #[.agg #[.bool a3, .slice a4 aB.length aS, .slice a5 aE.length a0], .agg #[.bool L, .slice Z q.length W, .slice ab s.length X]] rfl ?_;(with_reducible refine(bL.calls a7 a3 _ _ aB _ _ aE L _ _ q _ _ s true _ ?side1 ?side2 ?side3 ?s4 ?s5 ?s6 ?s7 ?s8 e2.out).mono ?_);(case side1=>refine(Kd.R_reads' (e:=3) (base:=w.heap.size) (ok:=fun k_=>((((some k_≠(.slice a5 aE.length a0:Value).ownBlock∧some k_≠(.slice Z q.length W:Value).ownBlock)∧some k_≠(.slice ab s.length X:Value).ownBlock)∧some k_≠(.slice P u.length M:Value).ownBlock)∧some k_≠(.slice T x.length O:Value).ownBlock)) (n:=aB.length) (c:=aS) ?_).2.2;exact(by(with_reducible repeat(first|apply Kd.R_alloc|apply Kd.R_drewN|apply Kd.R_drew));exact(Kd.R_mono (Kd.R_far (p:=⟨A,2,none⟩) (Kd.R_far (p:=⟨A,1,none⟩) (Kd.R_far (p:=⟨A,0,none⟩) (Kd.R_types bo.out aO.out (by decide)) (fun _ hk=>hk.2) (.bool a3)) (fun _ hk=>hk.2) (.slice a4 aB.length aS)) (fun _ hk=>hk.2) (.slice a5 aE.length a0)) (fun _ h_=>h_.1))));(case side2=>exact(Kd.R_reads' bo.out).2.1);(case side3=>refine(Kd.R_reads' (e:=3) (base:=w.heap.size) (ok:=fun k_=>((((some k_≠(.slice a4 aB.length aS:Value).ownBlock∧some k_≠(.slice Z q.length W:Value).ownBlock)∧some k_≠(.slice ab s.length X:Value).ownBlock)∧some k_≠(.slice P u.length M:Value).ownBlock)∧some k_≠(.slice T x.length O:Value).ownBlock)) (n:=aE.length) (c:=a0) ?_).2.2;exact(by(with_reducible repeat(first|apply Kd.R_alloc|apply Kd.R_drewN|apply Kd.R_drew));exact(Kd.R_mono (Kd.R_far (p:=⟨A,2,none⟩) (Kd.R_far (p:=⟨A,1,none⟩) (Kd.R_far (p:=⟨A,0,none⟩) (Kd.R_types bp.out aO.out (by decide)) (fun _ hk=>hk.2) (.bool a3)) (fun _ hk=>hk.2) (.slice a4 aB.length aS)) (fun _ hk=>hk.2) (.slice a5 aE.length a0)) (fun _ h_=>h_.1))));(case s4=>exact(Kd.R_reads' bp.out).2.1);(case s5=>refine(Kd.R_reads' (e:=3) (base:=w.heap.size) (ok:=fun k_=>(((some k_≠(.slice ab s.length X:Value).ownBlock∧(some k_≠(.slice P u.length M:Value).ownBlock∧some k_≠(.slice T x.length O:Value).ownBlock))∧some k_≠(.slice a4 aB.length aS:Value).ownBlock)∧some k_≠(.slice a5 aE.length a0:Value).ownBlock)) (n:=q.length) (c:=W) ?_).2.2;exact(by(with_reducible repeat(first|apply Kd.R_alloc|apply Kd.R_drewN|apply Kd.R_drew));exact(Kd.R_mono (Kd.R_far (p:=⟨A,2,none⟩) (Kd.R_far (p:=⟨A,1,none⟩) (Kd.R_far (p:=⟨A,0,none⟩) (Kd.R_types E.out aO.out (by decide)) (fun _ hk=>hk.2) (.bool a3)) (fun _ hk=>hk.2) (.slice a4 aB.length aS)) (fun _ hk=>hk.2) (.slice a5 aE.length a0)) (fun _ h_=>h_.1))));(case s6=>exact(Kd.R_reads' E.out).2.1);(case s7=>refine(Kd.R_reads' (e:=3) (base:=w.heap.size) (ok:=fun k_=>(((some k_≠(.slice Z q.length W:Value).ownBlock∧(some k_≠(.slice P u.length M:Value).ownBlock∧some k_≠(.slice T x.length O:Value).ownBlock))∧some k_≠(.slice a4 aB.length aS:Value).ownBlock)∧some k_≠(.slice a5 aE.length a0:Value).ownBlock)) (n:=s.length) (c:=X) ?_).2.2;exact(by(with_reducible repeat(first|apply Kd.R_alloc|apply Kd.R_drewN|apply Kd.R_drew));exact(Kd.R_mono (Kd.R_far (p:=⟨A,2,none⟩) (Kd.R_far (p:=⟨A,1,none⟩) (Kd.R_far (p:=⟨A,0,none⟩) (Kd.R_types G.out aO.out (by decide)) (fun _ hk=>hk.2) (.bool a3)) (fun _ hk=>hk.2) (.slice a4 aB.length aS)) (fun _ hk=>hk.2) (.slice a5 aE.length a0)) (fun _ h_=>h_.1))));(case s8=>exact(Kd.R_reads' G.out).2.1);rintro e hd ⟨rfl,hb⟩;refine⟨_,rfl, ?_⟩;replace E:=Aside0.mk (Kd.R_below (by(with_reducible repeat(first|apply Kd.R_alloc|apply Kd.R_drewN|apply Kd.R_drew));exact(Kd.R_mono (Kd.R_far (p:=⟨A,2,none⟩) (Kd.R_far (p:=⟨A,1,none⟩) (Kd.R_far (p:=⟨A,0,none⟩) (Kd.R_types E.out aO.out (by decide)) (fun _ hk=>hk.2) (.bool a3)) (fun _ hk=>hk.2) (.slice a4 aB.length aS)) (fun _ hk=>hk.2) (.slice a5 aE.length a0)) (fun _ h_=>h_.1))) hb);replace G:=Aside0.mk (Kd.R_below (by(with_reducible repeat(first|apply Kd.R_alloc|apply Kd.R_drewN|apply Kd.R_drew));exact(Kd.R_mono (Kd.R_far (p:=⟨A,2,none⟩) (Kd.R_far (p:=⟨A,1,none⟩) (Kd.R_far (p:=⟨A,0,none⟩) (Kd.R_types G.out aO.out (by decide)) (fun _ hk=>hk.2) (.bool a3)) (fun _ hk=>hk.2) (.slice a4 aB.length aS)) (fun _ hk=>hk.2) (.slice a5 aE.length a0)) (fun _ h_=>h_.1))) hb);replace d:=Aside0.mk (Kd.R_below (by(with_reducible repeat(first|apply Kd.R_alloc|apply Kd.R_drewN|apply Kd.R_drew));exact(Kd.R_mono (Kd.R_far (p:=⟨A,2,none⟩) (Kd.R_far (p:=⟨A,1,none⟩) (Kd.R_far (p:=⟨A,0,none⟩) (Kd.R_types d.out aO.out (by decide)) (fun _ hk=>hk.2) (.bool a3)) (fun _ hk=>hk.2) (.slice a4 aB.length aS)) (fun _ hk=>hk.2) (.slice a5 aE.length a0)) (fun _ h_=>h_.1))) hb);replace j:=Aside0.mk (Kd.R_below (by(with_reducible repeat(first|apply Kd.R_alloc|apply Kd.R_drewN|apply Kd.R_drew));exact(Kd.R_mono (Kd.R_far (p:=⟨A,2,none⟩) (Kd.R_far (p:=⟨A,1,none⟩) (Kd.R_far (p:=⟨A,0,none⟩) (Kd.R_types j.out aO.out (by decide)) (fun _ hk=>hk.2) (.bool a3)) (fun _ hk=>hk.2) (.slice a4 aB.length aS)) (fun _ hk=>hk.2) (.slice a5 aE.length a0)) (fun _ h_=>h_.1))) hb);replace ba:=Aside0.mk (Kd.S_below (by(with_reducible repeat(first|apply Kd.S_alloc|apply Kd.S_drewN|apply Kd.S_drew));exact(Kd.S_mono (Kd.S_far (p:=⟨A,2,none⟩) (Kd.S_far (p:=⟨A,1,none⟩) (Kd.S_far (p:=⟨A,0,none⟩) (Kd.S_types ba.out aO.out (by decide)) (fun _ hk=>hk.2) (.bool a3)) (fun _ hk=>hk.2) (.slice a4 aB.length aS)) (fun _ hk=>hk.2) (.slice a5 aE.length a0)) (fun _ h_=>h_.1))) hb);replace bb:=Aside0.mk (Kd.R_below (by(with_reducible repeat(first|apply Kd.R_alloc|apply Kd.R_drewN|apply Kd.R_drew));exact(Kd.R_mono (Kd.R_far (p:=⟨A,2,none⟩) (Kd.R_far (p:=⟨A,1,none⟩) (Kd.R_far (p:=⟨A,0,none⟩) (Kd.R_mono bb.out (fun k_ hk=>(⟨hk,hk.2⟩:_∧k_≠A))) (fun _ hk=>hk.2) (.bool a3)) (fun _ hk=>hk.2) (.slice a4 aB.length aS)) (fun _ hk=>hk.2) (.slice a5 aE.length a0)) (fun _ h_=>h_.1))) hb);replace bo:=Aside0.mk (Kd.R_below (by(with_reducible repeat(first|apply Kd.R_alloc|apply Kd.R_drewN|apply Kd.R_drew));exact(Kd.R_mono (Kd.R_far (p:=⟨A,2,none⟩) (Kd.R_far (p:=⟨A,1,none⟩) (Kd.R_far (p:=⟨A,0,none⟩) (Kd.R_types bo.out aO.out (by decide)) (fun _ hk=>hk.2) (.bool a3)) (fun _ hk=>hk.2) (.slice a4 aB.length aS)) (fun _ hk=>hk.2) (.slice a5 aE.length a0)) (fun _ h_=>h_.1))) hb);replace bp:=Aside0.mk (Kd.R_below (by(with_reducible repeat(first|apply Kd.R_alloc|apply Kd.R_drewN|apply Kd.R_drew));exact(Kd.R_mono (Kd.R_far (p:=⟨A,2,none⟩) (Kd.R_far (p:=⟨A,1,none⟩) (Kd.R_far (p:=⟨A,0,none⟩) (Kd.R_types bp.out aO.out (by decide)) (fun _ hk=>hk.2) (.bool a3)) (fun _ hk=>hk.2) (.slice a4 aB.length aS)) (fun _ hk=>hk.2) (.slice a5 aE.length a0)) (fun _ h_=>h_.1))) hb);replace a:=kq a hb;replace b:=kq b hb;replace l:=kq l hb;replace aO:=kp A #[.bool a3, .slice a4 aB.length aS, .slice a5 aE.length a0] 29 hb;replace HB:=hs HB hb;(try clear hb);(try clear hk);obtain⟨_,_,_,_,_,_⟩:=cf3 l)|((with_reducible refine gc 12 rfl ?_);refine gT (some 68) rfl rfl Try.func12 (by kernel_rfl) rfl #[.agg #[.bool U, .slice P bd.length M, .slice T be.length O], .int .i64 1] rfl (by(try simp only[List.map_toArray,List.map_cons,List.map_nil]);first|done|(rw[show bd.length=u.length from(Kd.R_reads' d.out).1.symm,show be.length=x.length from(Kd.R_reads' j.out).1.symm]<;>rfl)|rfl|(simp only[List.length_drop,List.length_take];rfl)) ?_;(with_reducible refine(dJ.calls a7 U _ _ bd _ _ be 1 a9 _ ?side1 ?side2 ?side3 ?s4 e3.out).mono ?_);(case side1=>repeat(first|exact(Kd.R_reads' d.out).2.2|(with_reducible refine Kd.C_alloc ?_ _)|(with_reducible refine Kd.C_drewN ?_ _)|(with_reducible refine Kd.C_drew ?_)));(case side2=>rw[show bd.length=u.length from(Kd.R_reads' d.out).1.symm];exact(Kd.R_reads' d.out).2.1);(case side3=>repeat(first|exact(Kd.R_reads' j.out).2.2|(with_reducible refine Kd.C_alloc ?_ _)|(with_reducible refine Kd.C_drewN ?_ _)|(with_reducible refine Kd.C_drew ?_)));(case s4=>rw[show be.length=x.length from(Kd.R_reads' j.out).1.symm];exact(Kd.R_reads' j.out).2.1);rintro e gw ⟨rfl,hb⟩;refine⟨_,rfl, ?_⟩;replace E:=Aside0.mk (Kd.R_below (by(with_reducible repeat(first|apply Kd.R_alloc|apply Kd.R_drewN|apply Kd.R_drew));exact E.out) hb);replace G:=Aside0.mk (Kd.R_below (by(with_reducible repeat(first|apply Kd.R_alloc|apply Kd.R_drewN|apply Kd.R_drew));exact G.out) hb);replace d:=Aside0.mk (Kd.R_below (by(with_reducible repeat(first|apply Kd.R_alloc|apply Kd.R_drewN|apply Kd.R_drew));exact d.out) hb);replace j:=Aside0.mk (Kd.R_below (by(with_reducible repeat(first|apply Kd.R_alloc|apply Kd.R_drewN|apply Kd.R_drew));exact j.out) hb);replace ba:=Aside0.mk (Kd.S_below (by(with_reducible repeat(first|apply Kd.S_alloc|apply Kd.S_drewN|apply Kd.S_drew));exact ba.out) hb);replace bb:=Aside0.mk (Kd.R_below (by(with_reducible repeat(first|apply Kd.R_alloc|apply Kd.R_drewN|apply Kd.R_drew));exact bb.out) hb);replace bo:=Aside0.mk (Kd.R_below (by(with_reducible repeat(first|apply Kd.R_alloc|apply Kd.R_drewN|apply Kd.R_drew));exact bo.out) hb);replace bp:=Aside0.mk (Kd.R_below (by(with_reducible repeat(first|apply Kd.R_alloc|apply Kd.R_drewN|apply Kd.R_drew));exact bp.out) hb);replace a:=kb a hb;replace b:=kb b hb;replace l:=kb l hb;replace aO:=kb aO hb;replace HB:=hs HB hb;(try clear hb)))
            go_ret
            exact fin
           ·rw[if_neg cq]at H
            have d1:=beq_eq_false_iff_ne.mpr cq
            have d2:=bne_iff_ne.mpr cq
            obtain rfl:=Option.some.inj H
            exact absurd hr_ (by decide)
         ·replace c75:=Bool.eq_false_iff.mpr c75
          subst c75
          replace H:=ie H
          obtain rfl:=Option.some.inj H
          exact absurd hr_ (by decide)
        ·rw[if_neg cp]at H
         have dy:=beq_eq_false_iff_ne.mpr cp
         have dT:=bne_iff_ne.mpr cp
         obtain rfl:=Option.some.inj H
         exact absurd hr_ (by decide)
   ·replace c16:=Bool.eq_false_iff.mpr c16
    subst c16
    replace H:=ie H
    obtain rfl:=Option.some.inj H
    exact absurd hr_ (by decide)
  ·replace c13:=Bool.eq_false_iff.mpr c13
   subst c13
   replace H:=ie H
   obtain rfl:=Option.some.inj H
   exact absurd hr_ (by decide)
end Go.Proofs.Yteinbmkgenhocaa.P
end
section
namespace Go.Proofs.Yteinbmkgenhocaa.Open
open Go Go.RowKit Go.ChangeShapes Go.WideShapes Go.Deep Go.Proofs.YteinbmkgenhocaaW.PrintWords
set_option linter.unusedVariables false
set_option linter.unusedSectionVars false
theorem rH {α:Type} {n:Nat} {p:Nat→α→Prop} (h: ∀i,i<n→∃x,p i x): ∃xs:List α,xs.length=n∧∀i y,xs[i]? =some y→p i y:=by
  induction n with
  |zero=>exact⟨[],rfl,fun i y hy=>by simp at hy⟩
  | succ q ih=>
    obtain⟨xs,hl,hxs⟩:=ih (fun i hi=>h i (by omega))
    obtain⟨z,hz⟩:=h q (by omega)
    refine⟨xs++ [z],by simp[hl],fun i y hy=> ?_⟩
    by_cases hi:i<xs.length
    · rw[List.getElem?_append_left hi]at hy
      exact hxs i y hy
    · rw[List.getElem?_append_right (by omega)]at hy
      have hi2:i=xs.length:=by
        have:=(List.getElem?_eq_some_iff.1 hy).1
        simp at this
        omega
      subst hi2
      simp at hy
      subst hy
      rw[hl]
      exact hz
section
variable {H:Type} {enc:TypeId×Value→H} {P:Program} {w:World} {base:Nat} {spare:Nat→Bool} {held:Bool}
def ik {H:Type} (enc:TypeId×Value→H) (P:Program) (w:World) (base:Nat) (spare:Nat→Bool) (held:Bool) {α:Type} (t:TypeId) (d:Kd α) (wf:α→Prop):Prop:=
  ∀(fuel:Nat) (cs:List Value) (x:DataW H×List MemPlace),DataW.trod enc P w base spare held fuel t cs=some x→∃a,d.K w a cs∧wf a
theorem dW {k:IntKind} {t:TypeId} (hu:P.underlying t=some (.int k)):ik enc P w base spare held t (Kd.int k) (fun n=>(Lit.int k n).wf=true):=by
  intro fuel cs x h
  obtain⟨n,rfl,_,hw⟩:=DataW.trod_int hu h
  exact⟨n,rfl,hw⟩
theorem oK {t:TypeId} (hu:P.underlying t=some .bool):ik enc P w base spare held t Kd.bool (fun _=>True):=by
  intro fuel cs x h
  obtain⟨b,rfl,_⟩:=DataW.trod_bool hu h
  exact⟨b,rfl,trivial⟩
theorem pV {base n:Nat} {a:Addr} {cs:List Value} (h:w.cells? base a n=some cs):cs.length=n∧∀i u,cs[i]? =some u→w.cell? (a.add i)=some u:=by
  obtain⟨hb,hl,hc⟩:=World.cells?_some h
  refine⟨hl,fun i u hu=> ?_⟩
  have hi:i<cs.length:=(List.getElem?_eq_some_iff.1 hu).1
  rw[hc i (by omega),hu]
theorem fH {α:Type} {d:Kd α} {wf:α→Prop} {t e:TypeId} (hu:P.underlying t=some (.slice e)) (hc:P.cellsOf e=d.sz) (ho:ik enc P w base spare held e d wf):
    ik enc P w base spare held t (Kd.slice e d) (fun xs=>xs.length≤9223372036854775807∧∀x∈xs,wf x):=by
  intro fuel cs x h
  rcases open_slice hu h with⟨rfl,_⟩|⟨a,len,cap,m,n,D,Pl,rfl,_,hlc,hcm,hm,_,hel⟩
  ·exact⟨[],⟨none,0,rfl,Nat.le_refl 0,rfl,Nat.zero_le _,fun hp=>absurd hp (Nat.lt_irrefl 0)⟩,Nat.zero_le _,fun x hx=>by cases hx⟩
  · have hlm:len≤m:=by rw[hm];split<;>omega
    obtain⟨xs,hxl,hxs⟩:=rH (p:=fun i y=> ∃c,w.cells? base (a.add (i * P.cellsOf e)) (P.cellsOf e)=some c∧d.K w y c∧wf y) (fun i hi=>by
      obtain⟨cs',h1,h2⟩:=hel i (by omega)
      obtain⟨y,hy,hw⟩:=ho n cs' _ h2
      exact⟨y,cs',h1,hy,hw⟩: ∀i,i<len→_)
    have hmax:len≤9223372036854775807:=by unfold maxLen at hcm;omega
    subst hxl
    refine⟨xs,⟨some a,cap,rfl,hlc,rfl,hmax,fun _=>⟨a,rfl,fun j p hj=> ?_⟩⟩,hmax,fun y hy=> ?_⟩
    · obtain⟨c,h1,h2,_⟩:=hxs j p hj
      rw[hc]at h1
      obtain⟨h3,h4⟩:=pV h1
      exact⟨c,h3,h2,fun i u hu=>by rw[←Go.Deep.add_add];exact h4 i u hu⟩
    · obtain⟨i,hi⟩:=List.getElem?_of_mem hy
      obtain⟨_,_,_,h3⟩:=hxs i y hi
      exact h3
def lF {H:Type} (enc:TypeId×Value→H) (P:Program) (w:World) (base:Nat) (spare:Nat→Bool) (held:Bool) {β:Type} (fs:List Field) (off:Nat) (d:Kd β) (wf:β→Prop):Prop:=
  ∀(fuel:Nat) (cs:List Value),cs.length=off+d.sz→(∀f∈fs,∃y,DataW.trod enc P w base spare held fuel f.type ((cs.drop f.offset).take (P.cellsOf f.type))=some y)→∃b,d.K w b (cs.drop off)∧wf b
theorem iH {α:Type} {d:Kd α} {wf:α→Prop} {f:Field} {off:Nat} (ho:f.offset=off) (hc:P.cellsOf f.type=d.sz) (h:ik enc P w base spare held f.type d wf):lF enc P w base spare held [f] off d wf:=by
  intro fuel cs hl hf
  obtain⟨y,hy⟩:=hf f (by simp)
  rw[ho,hc,List.take_of_length_le (by simp;omega)]at hy
  exact h fuel _ _ hy
theorem dO {α β:Type} {d:Kd α} {d2:Kd β} {wf:α→Prop} {wf2:β→Prop} {f:Field} {fs:List Field} {off c:Nat} (ho:f.offset=off) (hc:P.cellsOf f.type=d.sz) (h2:c=off+d.sz)
    (h:ik enc P w base spare held f.type d wf) (hr:lF enc P w base spare held fs c d2 wf2):lF enc P w base spare held (f::fs) off (Kd.pair d d2) (fun p=>wf p.1∧wf2 p.2):=by
  intro fuel cs hl hf
  have hl' :cs.length=off+(d.sz+d2.sz):=hl
  obtain⟨y,hy⟩:=hf f (by simp)
  rw[ho,hc]at hy
  obtain⟨a,ha,hwa⟩:=h fuel _ _ hy
  obtain⟨b,hb,hwb⟩:=hr fuel cs (by omega) (fun g hg=>hf g (by simp[hg]))
  refine⟨(a,b),⟨_,_, ?_,ha,hb⟩,hwa,hwb⟩
  rw[h2,←List.drop_drop]
  exact(List.take_append_drop d.sz (cs.drop off)).symm
theorem gU {α β:Type} {d:Kd β} {wf:β→Prop} {t:TypeId} {fs:Array Field} (hu:P.underlying t=some (.struct fs)) (hc:P.cellsOf t=d.sz) (h:lF enc P w base spare held fs.toList 0 d wf) (f:α→β) (g:β→α) (hfg: ∀b,f (g b)=b):
    ik enc P w base spare held t (Kd.iso d f) (fun a=>wf (f a)):=by
  intro fuel cs x hx
  obtain⟨xs,n,_,_,hl,hxl,hfs⟩:=DataW.trod_struct hu hx
  obtain⟨b,hb,hwb⟩:=h n cs (by omega) (fun q hq=>by
    obtain⟨i,hi⟩:=List.getElem?_of_mem hq
    rw[Array.getElem?_toList]at hi
    have hlt:i<xs.length:=by rw[hxl];exact(Array.getElem?_eq_some_iff.1 hi).1
    rw[hfs i q hi,List.getElem?_eq_getElem hlt]
    exact⟨_,rfl⟩)
  exact⟨g b,by show d.K w (f (g b)) cs;rw[hfg];exact hb,by show wf (f (g b));rw[hfg];exact hwb⟩
theorem pW {α:Type} {d:Kd α} {wf:α→Prop} {t:TypeId} {v:Value} {x:DataW H} {ps:List MemPlace} (h:DataW.Trod enc P w base spare held t v x ps) (ho:ik enc P w base spare held t d wf): ∃a,d.K w a v.cells.toList∧wf a:=by
  obtain⟨fuel,hf⟩:=h
  exact ho fuel _ _ hf
end
end Go.Proofs.Yteinbmkgenhocaa.Open
end
