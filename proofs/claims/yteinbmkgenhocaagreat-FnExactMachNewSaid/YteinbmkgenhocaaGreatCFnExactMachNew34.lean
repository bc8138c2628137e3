/- A part of the claim FnExactMachNew. -/
import Derived.Test.YteinbmkgenhocaaGreatCFnExactMachNew33
section
namespace Go.Proofs.YteinbmkgenhocaaGreat.P
open Go.RowKit Go.Proofs.YteinbmkgenhocaaGreatW.PrintWords Go.Proofs.YteinbmkgenhocaaGreatW.PrintLast Go.Proofs.YteinbmkgenhocaaGreatW.PrintMore
attribute [local go_sem] ak au az aA ai aj av ax
set_option linter.unusedVariables false
set_option linter.unusedSimpArgs false
set_option maxHeartbeats 8000000 in
set_option maxRecDepth 100000 in
theorem dQ.calls (A0:Option Addr) (c0:Nat) (l0:List (S126)) (a1:Int) (r:Bool) (w:World) (hr0:Kd.C eB w A0 l0.length l0) (hc0:l0.length≤c0) (h:dQ.f l0 a1=some r):
  Calls Tryz.prog 146 #[.slice A0 l0.length c0, .int .i64 a1] w fun e w' =>e= .returned (.bool r)∧Drawn0 w w' :=by
 have b:=Aside0.mk hr0
 have c:=Aside0.mk hc0
 clear hr0 hc0
 have H:(if a1≥0 then(some (decide (a1<(l0.length:Int))))else(some false))=some r:=h
 clear h
 by_cases c3:a1≥0
 ·rw[if_pos c3]at H
  have a:decide (0≤a1)=true:=decide_eq_true c3
  clear c3
  obtain rfl:=Option.some.inj H;clear H
  go_enter Tryz.func146,Tryz.ntmps146
  go_wp2
  go_ret
  exact⟨by first|rfl|(simp;done)|(simp[*];done),by repeat(first|exact Drawn0.refl _|apply Drawn0.step)⟩
 rw[if_neg c3]at H
 have a:decide (0≤a1)=false:=decide_eq_false c3
 clear c3
 obtain rfl:=Option.some.inj H;clear H
 go_enter Tryz.func146,Tryz.ntmps146
 go_wp2
 go_ret
 exact⟨by first|rfl|(simp;done)|(simp[*];done),by repeat(first|exact Drawn0.refl _|apply Drawn0.step)⟩
set_option maxHeartbeats 8000000 in
set_option maxRecDepth 100000 in
theorem je.calls (d:Int) (n:Int) (p:Option Addr) (q:Nat) (a:List Int) (s:Int) (t:Int) (u:Option Addr) (v:Nat) (i:List (S113)) (x:Option Addr) (y:Nat) (j:List (S57)) (z:Option Addr) (A:Nat) (k:List (S181)) (r:List Int) (w:World) (J:Kd.C (Kd.int .i64) w p a.length a) (K:a.length≤q) (L:Kd.C fq w u i.length i) (M:i.length≤v) (O:Kd.C k57 w x j.length j) (P:j.length≤y) (T:Kd.C eZ w z k.length k) (U:k.length≤A) (h:je.f d n a s t i j k=some r):
  Calls Tryz.prog 147 #[.agg #[.int .i64 d, .int .i64 n, .slice p a.length q, .int .i64 s, .int .i64 t, .slice u i.length v, .slice x j.length y, .slice z k.length A]] w fun e w' => ∃am:Value,e= .returned (am)∧Kd.R (Kd.int .i64) 3 w' w.heap.size (fun _=>True) am r∧Below w.heap.size w w' :=by
 have a2:=Tryz.underlying104
 have W:=Aside0.mk J
 have a3:=Aside0.mk K
 clear J K
 have a4:=Aside0.mk L
 have a5:=Aside0.mk M
 clear L M
 have a6:=Aside0.mk O
 have a7:=Aside0.mk P
 clear O P
 have a8:=Aside0.mk T
 have a9:=Aside0.mk U
 clear T U
 have HB:=Aside0.mk (Below.refl w.heap.size w)
 have H:(if d≥0 then(if([]:List Int).length<17592186044416 then((some (([]:List Int)++ [wrap64 (8+d)]:List Int)).bind fun l=>(if l.length+a.length<17592186044416 then(some (l++a))else(none)))else(none))else(if([]:List Int).length+a.length<17592186044416 then(some (([]:List Int)++a))else(none)))=some r:=h
 clear h
 by_cases c2:d≥0
 ·rw[if_pos c2]at H
  have aq:decide (0≤d)=true:=decide_eq_true c2
  clear c2
  by_cases c3:([]:List Int).length<17592186044416
  ·rw[if_pos c3]at H
   have ar:=Aside0.mk c3
   clear c3
   obtain⟨l,B⟩: ∃y_:List Int,y_=(([]:List Int)++ [wrap64 (8+d)]):=⟨_,rfl⟩
   replace H:(if l.length+a.length<17592186044416 then(some (l++a))else(none))=some r:=by first|(rw[B];with_reducible exact H)|(have m:=(Option.bind_some _ _).symm.trans H;rw[B];with_reducible exact m)|(have m:=(Option.bind_some _ _).symm.trans H;with_reducible exact m)|with_reducible exact H|(rw[B];exact H)|exact H
   have X:=Aside0.mk B
   clear B
   by_cases c4:l.length+a.length<17592186044416
   ·rw[if_pos c4]at H
    have aw:=Aside0.mk c4
    clear c4
    obtain⟨aE,D⟩: ∃y_:List Int,y_=(l++a):=⟨_,rfl⟩
    replace H:(some aE)=some r:=by first|(rw[D];with_reducible exact H)|(have m:=(Option.bind_some _ _).symm.trans H;rw[D];with_reducible exact m)|(have m:=(Option.bind_some _ _).symm.trans H;with_reducible exact m)|with_reducible exact H|(rw[D];exact H)|exact H
    have Y:=Aside0.mk D
    clear D
    obtain rfl:=Option.some.inj H;clear H
    go_enter Tryz.func147,Tryz.ntmps147
    go_wp2_with (first|((with_reducible refine gd 1 rfl ?_);refine bx 1 #[.int .i64 d, .int .i64 n, .slice p a.length q, .int .i64 s, .int .i64 t, .slice u i.length v, .slice x j.length y, .slice z k.length A] 104 ?_;intro G hg w5 hbox hb;have c:=Aside0.mk hbox;have Z:=hz HB hg;replace HB:=hs HB hb;clear hb hbox hg;have:=cf8 c)|((with_reducible refine iC (b:= .append) (xs:= #[.tmp 7, .tmp 11]) rfl ?_);at_builtin;refine Kd.R_append (Kd.int .i64) (w0:=w) w.heap.size rfl (.tmp 7) (.tmp 11) 29 3 (.int .i64 0) 8 rfl Tryz.underlying29 info3 rfl (by decide) (by omega) (.slice none 0 0) ([]:List Int) (wrap64 (8+d)) [.int .i64 (wrap64 (8+d))] (fun _=>True) (fun _=>False) rfl rfl ?aP (fun _ hk=>hk.elim) ?aF ?aO ?aB ?aS ?aL ?_;(case aP=>exact rfl);(case aB=>exact bl);(case aF=>exact(fun _ _=>trivial));(case aO=>exact((Kd.R_nil _ _ _ _ (fun _=>True))));(case aS=>exact(aU bl));(case aL=>have:=ar.out;omega);intro a0 w7 ho hb hg hat;rw[←X.out]at ho;have I:=Aside0.mk (ho);replace c:=Aside0.mk (gF (g:=G) (o:= .cells #[.int .i64 d, .int .i64 n, .slice p a.length q, .int .i64 s, .int .i64 t, .slice u i.length v, .slice x j.length y, .slice z k.length A] 104 (0,0)) (by(with_reducible repeat(first|refine ah ?_ _|refine af ?_|refine ag ?_ _));exact c.out) hg (by simp[Value.ownBlock]));replace HB:=Aside0.mk (hb);clear ho hb hg hat;have:=cf8 c)|((with_reducible refine iC (b:= .append) (xs:= #[.tmp 13, .tmp 15]) rfl ?_);at_builtin;refine Kd.R_append_rows (Kd.int .i64) (w0:=w) w.heap.size rfl (.tmp 13) (.tmp 15) 29 3 (.int .i64 0) 8 rfl Tryz.underlying29 info3 rfl (by decide) (by omega) a0 l a _ _ _ (fun _=>True) (fun _=>False) rfl rfl ?aO ?aR (fun _ _ h=>h) (fun _ h=>h.elim) ?aF ?aB ?aS ?aL ?_;(case aR=>repeat(first|exact(Kd.C_below W.out HB.out)|(with_reducible refine Kd.C_alloc ?_ _)|(with_reducible refine Kd.C_drewN ?_ _)|(with_reducible refine Kd.C_drew ?_)));(case aB=>exact bl);(case aF=>exact(fun _ _=>trivial));(case aO=>exact(by(with_reducible repeat(first|apply Kd.R_alloc|apply Kd.R_drewN|apply Kd.R_drew));exact I.out));(case aS=>exact(aU bl));(case aL=>have:=aw.out;omega);intro ba w9 ho hb hg hat;rw[←Y.out]at ho;have an:=Aside0.mk (gF (g:=G) (o:= .cells #[.int .i64 d, .int .i64 n, .slice p a.length q, .int .i64 s, .int .i64 t, .slice u i.length v, .slice x j.length y, .slice z k.length A] 104 (0,0)) (by(with_reducible repeat(first|refine ah ?_ _|refine af ?_|refine ag ?_ _));exact c.out) hg (Kd.R_ne I.out c.out (by decide)));have ao:=Aside0.mk (hb);have ap:=Aside0.mk (ho);clear c;clear HB;clear I;have c:=an;have HB:=ao;have ab:=ap;clear an ao ap;clear ho hb hg hat))
    go_ret
    exact⟨_,by first|rfl|(simp[bz,bA]<;>rfl)|(simp[*,bz,bA]<;>rfl),by(with_reducible repeat(first|apply Kd.R_alloc|apply Kd.R_drewN|apply Kd.R_drew));exact ab.out,bl⟩
   rw[if_neg c4]at H
   exact absurd H (by simp)
  rw[if_neg c3]at H
  exact absurd H (by simp)
 rw[if_neg c2]at H
 have aq:decide (0≤d)=false:=decide_eq_false c2
 clear c2
 by_cases c10:([]:List Int).length+a.length<17592186044416
 ·rw[if_pos c10]at H
  have ac:=Aside0.mk c10
  clear c10
  obtain⟨a1,E⟩: ∃y_:List Int,y_=(([]:List Int)++a):=⟨_,rfl⟩
  replace H:(some a1)=some r:=by first|(rw[E];with_reducible exact H)|(have m:=(Option.bind_some _ _).symm.trans H;rw[E];with_reducible exact m)|(have m:=(Option.bind_some _ _).symm.trans H;with_reducible exact m)|with_reducible exact H|(rw[E];exact H)|exact H
  have ad:=Aside0.mk E
  clear E
  obtain rfl:=Option.some.inj H;clear H
  go_enter Tryz.func147,Tryz.ntmps147
  go_wp2_with (first|((with_reducible refine gd 1 rfl ?_);refine bx 1 #[.int .i64 d, .int .i64 n, .slice p a.length q, .int .i64 s, .int .i64 t, .slice u i.length v, .slice x j.length y, .slice z k.length A] 104 ?_;intro G hg bc hbox hb;have c:=Aside0.mk hbox;have Z:=hz HB hg;replace HB:=hs HB hb;clear hb hbox hg;have:=cf8 c)|((with_reducible refine iC (b:= .append) (xs:= #[.tmp 13, .tmp 15]) rfl ?_);at_builtin;refine Kd.R_append_rows (Kd.int .i64) (w0:=w) w.heap.size rfl (.tmp 13) (.tmp 15) 29 3 (.int .i64 0) 8 rfl Tryz.underlying29 info3 rfl (by decide) (by omega) (.slice none 0 0) ([]:List Int) a _ _ _ (fun _=>True) (fun _=>False) rfl rfl ?aO ?aR (fun _ _ h=>h) (fun _ h=>h.elim) ?aF ?aB ?aS ?aL ?_;(case aR=>repeat(first|exact(Kd.C_below W.out HB.out)|(with_reducible refine Kd.C_alloc ?_ _)|(with_reducible refine Kd.C_drewN ?_ _)|(with_reducible refine Kd.C_drew ?_)));(case aB=>exact bl);(case aF=>exact(fun _ _=>trivial));(case aO=>exact((Kd.R_nil _ _ _ _ (fun _=>True))));(case aS=>exact(aU bl));(case aL=>have:=ac.out;omega);intro bb bd ho hb hg hat;rw[←ad.out]at ho;have al:=Aside0.mk (ho);replace c:=Aside0.mk (gF (g:=G) (o:= .cells #[.int .i64 d, .int .i64 n, .slice p a.length q, .int .i64 s, .int .i64 t, .slice u i.length v, .slice x j.length y, .slice z k.length A] 104 (0,0)) (by(with_reducible repeat(first|refine ah ?_ _|refine af ?_|refine ag ?_ _));exact c.out) hg (by simp[Value.ownBlock]));replace HB:=Aside0.mk (hb);clear ho hb hg hat))
  go_ret
  exact⟨_,by first|rfl|(simp[bz,bA]<;>rfl)|(simp[*,bz,bA]<;>rfl),by(with_reducible repeat(first|apply Kd.R_alloc|apply Kd.R_drewN|apply Kd.R_drew));exact al.out,bl⟩
 rw[if_neg c10]at H
 exact absurd H (by simp)
def aZ.T14:Bool×List (List Nat×List Nat):=(true, [([], []),([0], [0]),([1], [1]),([2], [2]),([3], [3]),([4,3], [3,4]),([3], [3]),([6,3,3], [3,6]),([7,3], [3,7]),([5,8,3], [3,5,8]),([3,9], [3,9]),([10,7,0,1,2,3,4,5,6,7,8,9,10], [10])])
def aZ.B14:List Nat:= [0,1,3,7,15,31,15,79,207,511,1023,2047]
theorem aZ.tab14:dJ .any (opsOf Tryz.f80 14)=aZ.T14:=by kernel_rfl
theorem aZ.bits14:dY aZ.T14.2 aZ.B14=true:=by kernel_rfl
set_option maxHeartbeats 8000000 in
set_option maxRecDepth 100000 in
theorem aZ.calls (k:Nat) (T:Option Addr) (U:Nat) (m:List (S126)) (W:Option Addr) (X:Nat) (x:List (S104)) (o:Int) (l:Int) (z:Option Addr) (A:Nat) (b:List Int) (v:Int) (q:Int) (B:Option Addr) (D:Nat) (s:List (S113)) (E:Option Addr) (G:Nat) (t:List (S57)) (I:Option Addr) (J:Nat) (u:List (S181)) (r:Bool) (w:World) (ap:Kd.C eB w T m.length m) (aq:m.length≤U) (ar:Kd.C dV w W x.length x) (aw:x.length≤X) (aB:Kd.C (Kd.int .i64) w z b.length b) (aE:b.length≤A) (aF:Kd.C fq w B s.length s) (aL:s.length≤D) (aO:Kd.C k57 w E t.length t) (aP:t.length≤G) (aR:Kd.C eZ w I u.length u) (aS:u.length≤J) (h:aZ.f k m x o l b v q s t u=some r):
  Calls Tryz.prog 80 #[.agg #[.slice T m.length U, .slice W x.length X], .agg #[.int .i64 o, .int .i64 l, .slice z b.length A, .int .i64 v, .int .i64 q, .slice B s.length D, .slice E t.length G, .slice I u.length J]] w fun e w' =>e= .returned (.bool r)∧Below w.heap.size w w' :=by
 have cQ:=Tryz.underlying38
 have cg:=Tryz.underlying104
 have Y:=Aside0.mk ap
 have Z:=Aside0.mk aq
 clear ap aq
 have ch:=Aside0.mk ar
 have ci:=Aside0.mk aw
 clear ar aw
 have ad:=Aside0.mk aB
 have a9:=Aside0.mk aE
 clear aB aE
 have ba:=Aside0.mk aF
 have bb:=Aside0.mk aL
 clear aF aL
 have bc:=Aside0.mk aO
 have bd:=Aside0.mk aP
 clear aO aP
 have be:=Aside0.mk aR
 have bh:=Aside0.mk aS
 clear aR aS
 have HB:=Aside0.mk (Below.refl w.heap.size w)
 have H:(if o=(-1)then(if l=0 then(aZ.j0 k m x o l b v q s t u)else(some false))else(if o=0 then(some false)else((dQ.f m o).bind fun am=>(if am=true then(if l<0 then(some false)else(if l≥3 then(some false)else(aZ.j0 k m x o l b v q s t u)))else(some false)))))=some r:=h
 clear h
 have a4:=Aside0.mk H
 clear H
 go_enter Tryz.func80,Tryz.ntmps80
 go_upto_if 9 with(first|((with_reducible refine gd 2 rfl ?_);(try(refine aW (by rfl) ?_;dsimp only));refine bx 2 #[.slice T m.length U, .slice W x.length X] 38 ?_;intro al hg w4 hbox hb;have c:=Aside0.mk hbox;have cj:=hz HB hg;replace HB:=hs HB hb;clear hb hbox hg)|((with_reducible refine gd 3 rfl ?_);(try(refine aW (by rfl) ?_;dsimp only));refine bx 3 #[.int .i64 o, .int .i64 l, .slice z b.length A, .int .i64 v, .int .i64 q, .slice B s.length D, .slice E t.length G, .slice I u.length J] 104 ?_;intro p hg w5 hbox hb;have a:=Aside0.mk hbox;have ck:=hz HB hg;have d:=nl c hg;have g:=ng c hg;replace c:=kb c hb;replace HB:=hs HB hb;clear hb hbox hg;have cR:=g.out;have cS:=d.out;have:=cf8 a))
 (try simp only[Act.put,List.setIfInBounds_toArray,List.set_cons_zero,List.set_cons_succ])
 go_cut [] (fun wc=> ∃(kq:Nat),Aside0 (aZ.j0 kq m x o l b v q s t u=some r)∧Aside0 (kq≤k)∧Aside0 (wc.heap[al]? =some (.cells #[(.slice T m.length U),(.slice W x.length X)] 38 (0,0)))∧Aside0 (wc.heap[p]? =some (.cells #[.int .i64 o, .int .i64 l,(.slice z b.length A), .int .i64 v, .int .i64 q,(.slice B s.length D),(.slice E t.length G),(.slice I u.length J)] 104 (0,0)))∧Aside0 (Below w.heap.size w wc))
 case first=>
  have H:=a4.out
  clear a4
  by_cases c8:o=(-1)
  ·rw[if_pos c8]at H
   have ab:=beq_iff_eq.mpr c8
   have b4:=bne_eq_false_iff_eq.mpr c8
   clear c8
   (first|rw[ab]|(simp only[bX,bZ];rw[ab])|skip)
   by_cases c9:l=0
   ·rw[if_pos c9]at H
    have b5:=beq_iff_eq.mpr c9
    have b6:=bne_eq_false_iff_eq.mpr c9
    clear c9
    have H' :=Aside0.mk H
    clear H
    have cl:=g.out
    have cm:=d.out
    have:=cf8 a
    go_wp2
    go_meet
    case rel=>exact⟨_,H',⟨by first|omega|exact Nat.le_refl _⟩,kk c,kk a,⟨bl⟩⟩
   rw[if_neg c9]at H
   have b5:=beq_eq_false_iff_ne.mpr c9
   have b6:=bne_iff_ne.mpr c9
   obtain rfl:=Option.some.inj H;clear H
   have cn:=g.out
   have co:=d.out
   have:=cf8 a
   go_wp2
   go_ret
   exact fin
  rw[if_neg c8]at H
  have ab:=beq_eq_false_iff_ne.mpr c8
  have b4:=bne_iff_ne.mpr c8
  (first|rw[ab]|(simp only[bX,bZ];rw[ab])|skip)
  by_cases c14:o=0
  ·rw[if_pos c14]at H
   have bj:=beq_iff_eq.mpr c14
   have bk:=bne_eq_false_iff_eq.mpr c14
   clear c14
   obtain rfl:=Option.some.inj H;clear H
   have cp:=g.out
   have cq:=d.out
   have:=cf8 a
   go_wp2
   go_ret
   exact fin
  rw[if_neg c14]at H
  have bj:=beq_eq_false_iff_ne.mpr c14
  have bk:=bne_iff_ne.mpr c14
  obtain⟨am,a0,H⟩:=ob H
  by_cases c18:am=true
  ·subst c18
   replace H:=it H
   by_cases c19:l<0
   ·rw[if_pos c19]at H
    have bm:decide (l<0)=true:=decide_eq_true c19
    clear c19
    obtain rfl:=Option.some.inj H;clear H
    have cr:=g.out
    have cs:=d.out
    have:=cf8 a
    have:=cf2 c
    go_wp2_with (first|(go_at_call 146;(with_reducible refine(dQ.calls _ _ m o true _ (cb Y.out) Z.out a0.out).mono ?_);rintro e w' ⟨rfl,⟨nd,rfl⟩⟩))
    go_ret
    exact fin
   rw[if_neg c19]at H
   have bm:decide (l<0)=false:=decide_eq_false c19
   clear c19
   by_cases c23:l≥3
   ·rw[if_pos c23]at H
    have bo:decide (3≤l)=true:=decide_eq_true c23
    clear c23
    obtain rfl:=Option.some.inj H;clear H
    have ct:=g.out
    have cv:=d.out
    have:=cf8 a
    have:=cf2 c
    go_wp2_with (first|(go_at_call 146;(with_reducible refine(dQ.calls _ _ m o true _ (cb Y.out) Z.out a0.out).mono ?_);rintro e w' ⟨rfl,⟨nd,rfl⟩⟩))
    go_ret
    exact fin
   rw[if_neg c23]at H
   have bo:decide (3≤l)=false:=decide_eq_false c23
   clear c23
   have H' :=Aside0.mk H
   clear H
   have cw:=g.out
   have cx:=d.out
   have:=cf8 a
   have:=cf2 c
   go_wp2_with (first|(go_at_call 146;(with_reducible refine(dQ.calls _ _ m o true _ (cb Y.out) Z.out a0.out).mono ?_);rintro e w' ⟨rfl,⟨nd,rfl⟩⟩))
   go_meet
   case rel=>exact⟨_,H',⟨by first|omega|exact Nat.le_refl _⟩,kk c,kk a,⟨bl⟩⟩
  replace c18:=Bool.eq_false_iff.mpr c18
  subst c18
  replace H:=ie H
  obtain rfl:=Option.some.inj H;clear H
  have cy:=g.out
  have cA:=d.out
  have:=cf8 a
  have:=cf2 c
  go_wp2_with (first|(go_at_call 146;(with_reducible refine(dQ.calls _ _ m o false _ (cb Y.out) Z.out a0.out).mono ?_);rintro e w' ⟨rfl,⟨nd,rfl⟩⟩))
  go_ret
  exact fin
 case rest =>
  clear a4
  obtain⟨kq,HA,HJ2,c,a,HB⟩:=hcut
  cases kq with
  |zero=>exact absurd HA.out (by simp[aZ.j0])
  | succ b9=>
   have H:=HA.out
   clear HA
   simp only[aZ.j0]at H
   have an:=Aside0.mk H
   clear H
   go_upto_region 6 with(fail)
   go_cut [46] (fun v46 wc=> ∃(kq:Nat) (O:Bool),v46= .bool O∧Aside0 (aZ.j1 kq O m x o l b v q s t u=some r)∧Aside0 (kq≤b9)∧Aside0 (wc.heap[al]? =some (.cells #[(.slice T m.length U),(.slice W x.length X)] 38 (0,0)))∧Aside0 (wc.heap[p]? =some (.cells #[.int .i64 o, .int .i64 l,(.slice z b.length A), .int .i64 v, .int .i64 q,(.slice B s.length D),(.slice E t.length G),(.slice I u.length J)] 104 (0,0)))∧Aside0 (Below w.heap.size w wc))
   case first=>
    have H:=an.out
    clear an
    by_cases c34:(b.length:Int)>2
    ·rw[if_pos c34]at H
     have P:decide (2<(b.length:Int))=true:=decide_eq_true c34
     have bp:decide (2<b.length)=true:=decide_eq_true (by omega)
     clear c34
     (first|rw[P]|(simp only[bX,bZ];rw[P])|skip)
     have H' :=Aside0.mk H
     clear H
     have cC:=g.out
     have cD:=d.out
     have:=cf8 a
     go_wp2
     go_meet
     case rel=>exact⟨_,(true),(by first|rfl|(simp;done)|(simp[*];done)),H',⟨by have:=HJ2.out;first|omega|exact Nat.le_refl _⟩,kk c,kk a,⟨bl⟩⟩
    rw[if_neg c34]at H
    have P:decide (2<(b.length:Int))=false:=decide_eq_false c34
    have bp:decide (2<b.length)=false:=decide_eq_false (by omega)
    clear c34
    (first|rw[P]|(simp only[bX,bZ];rw[P])|skip)
    obtain⟨a5,ca,H⟩:=ob H
    have H' :=Aside0.mk H
    clear H
    have cE:=g.out
    have cF:=d.out
    have:=cf8 a
    have:=cf2 c
    go_wp2_with (first|(go_at_call 145;(with_reducible refine(ek.calls (m.length:Int) v a5 _ ca.out).mono ?_);rintro e w' ⟨rfl,⟨nd,rfl⟩⟩))
    go_meet
    case rel=>exact⟨_,(!a5),(by first|rfl|(simp;done)|(simp[*];done)),H',⟨by have:=HJ2.out;first|omega|exact Nat.le_refl _⟩,kk c,kk a,⟨bl⟩⟩
   case rest=>
    clear an
    obtain⟨kq,O,rfl,HA,a6,c,a,HB⟩:=hcut
    cases kq with
    |zero=>exact absurd HA.out (by simp[aZ.j1])
    | succ a7=>
     have H:=HA.out
     clear HA
     simp only[aZ.j1]at H
     by_cases a1:O=true
     ·subst a1
      replace H:=it H
      obtain rfl:=Option.some.inj H;clear H
      go_wp2
      go_ret
      exact fin
     replace a1:=Bool.eq_false_iff.mpr a1
     subst a1
     replace H:=ie H
     have H' :=Aside0.mk H
     clear H
     have cG:=g.out
     have cH:=d.out
     have:=cf8 a
     go_wp2
     go_loopg [50] a7 (fun kq v50 w' => ∃(j:Int),v50= .int .i64 j∧Aside0 (aZ.l0 kq b (b.length:Int) j m x o l b v q s t u=some r)∧Aside0 (kq≤a7)∧Aside0 (w'.heap[al]? =some (.cells #[(.slice T m.length U),(.slice W x.length X)] 38 (0,0)))∧Aside0 (w'.heap[p]? =some (.cells #[.int .i64 o, .int .i64 l,(.slice z b.length A), .int .i64 v, .int .i64 q,(.slice B s.length D),(.slice E t.length G),(.slice I u.length J)] 104 (0,0)))∧Aside0 (Below w.heap.size w w'))
     case atStart=>exact⟨(0),(by first|rfl|(simp;done)|(simp[*];done)),H',⟨Nat.le_refl _⟩,kk c,kk a,⟨bl⟩⟩
     case round=>
      clear H'
      obtain⟨j,rfl,HA,b0,c,a,HB⟩:=hrel
      cases gk with
      |zero=>exact absurd HA.out (by simp[aZ.l0])
      | succ k3=>
       have H:=HA.out
       clear HA
       simp only[aZ.l0]at H
       by_cases ac:j<(b.length:Int)
       ·rw [if_pos ac]at H
        have br:decide (j<(b.length:Int))=true:=decide_eq_true ac
        clear ac
        by_cases a2:0≤j
        ·rw[if_pos a2]at H
         have cI:decide (0≤j)=true:=decide_eq_true a2
         clear a2
         by_cases c46:j<(b.length:Int)
         ·rw[if_pos c46]at H
          have cJ:decide (j<(b.length:Int))=true:=decide_eq_true c46
          clear c46
          obtain⟨b7,b1,H⟩:=ob H
          by_cases a3:b7=true
          ·subst a3
           replace H:=it H
           have H' :=Aside0.mk H
           clear H
           have L:0≤(j:Int):=od
           have M:j<(b.length:Int):=od
           obtain⟨bs,ao,y⟩:=Kd.at_int ad.out j L M
           cases ao
           replace y:=hc HB y
           replace L:=eq_true L
           replace M:=eq_true M
           have cL:=d.out
           have cM:=g.out
           have:=cf2 c
           go_wp2_with (first|(refine gl (some 58) Tryz.func145 #[.int .i64 (m.length:Int), .int .i64 (rd b j)] rfl ?_;(with_reducible refine(ek.calls (m.length:Int) (rd b j) true _ b1.out).mono ?_);rintro e w' ⟨rfl,⟨nd,rfl⟩⟩;refine⟨_,rfl, ?_⟩))
           go_roundg k3
           case measure=>have:=HJ2.out;have:=a6.out;have:=b0.out;omega
           case rel=>exact⟨(wrap64 (j+1)),(by first|rfl|(simp;done)|(simp[*];done)),H',⟨by have:=HJ2.out;have:=a6.out;have:=b0.out;omega⟩,kk c,kk a,⟨bl⟩⟩
          replace a3:=Bool.eq_false_iff.mpr a3
          subst a3
          replace H:=ie H
          obtain rfl:=Option.some.inj H;clear H
          have L:0≤(j:Int):=od
          have M:j<(b.length:Int):=od
          obtain⟨bs,ao,y⟩:=Kd.at_int ad.out j L M
          cases ao
          replace y:=hc HB y
          replace L:=eq_true L
          replace M:=eq_true M
          have cN:=d.out
          have cP:=g.out
          have:=cf2 c
          go_wp2_with (first|(refine gl (some 58) Tryz.func145 #[.int .i64 (m.length:Int), .int .i64 (rd b j)] rfl ?_;(with_reducible refine(ek.calls (m.length:Int) (rd b j) false _ b1.out).mono ?_);rintro e w' ⟨rfl,⟨nd,rfl⟩⟩;refine⟨_,rfl, ?_⟩))
          go_ret
          exact fin
         rw[if_neg c46]at H
         exact absurd H (by simp)
        rw[if_neg a2]at H
        exact absurd H (by simp)
       rw[if_neg ac]at H
       have br:decide (j<(b.length:Int))=false:=decide_eq_false ac
       clear ac
       by_cases c53:q≤3
       ·rw[if_pos c53]at H
        have bt:decide (q≤3)=true:=decide_eq_true c53
        clear c53
        obtain⟨b8,cc,H⟩:=ob H
        obtain rfl:=Option.some.inj H;clear H
        try go_wp2
        replace c:=Aside0.mk (af c.out)
        replace a:=Aside0.mk (af a.out)
        replace HB:=Aside0.mk (aC HB.out)
        refine dR (n:=12) (S:=fun w' =>w'.cell? ⟨p,0,none⟩=some (.int .i64 o)∧w'.cell? ⟨p,1,none⟩=some (.int .i64 l)∧w'.cell? ⟨p,2,none⟩=some (.slice z b.length A)∧w'.cell? ⟨p,3,none⟩=some (.int .i64 v)∧w'.cell? ⟨p,4,none⟩=some (.int .i64 q)∧w'.cell? ⟨p,5,none⟩=some (.slice B s.length D)∧w'.cell? ⟨p,6,none⟩=some (.slice E t.length G)∧w'.cell? ⟨p,7,none⟩=some (.slice I u.length J)) (ds:= []) (upto 12 0) (by kernel_rfl) rfl rfl ⟨(ae a.out 0).trans rfl,(ae a.out 1).trans rfl,(ae a.out 2).trans rfl,(ae a.out 3).trans rfl,(ae a.out 4).trans rfl,(ae a.out 5).trans rfl,(ae a.out 6).trans rfl,(ae a.out 7).trans rfl⟩ (fun hHeld=> ?_);refine cO aZ.tab14 aZ.bits14 (fun HT_ HW_=> ?_)
        generalize wr.drew=cW at c a HB hHeld⊢
        repeat(first|refine vN ?_|refine pN ?_|refine tN ?_)
        refine fo (i:=7) (N:=some 68) (upto 12 8) rfl rfl (d9 HT_.out (by kernel_rfl)) (by decide) (fun K hK=> ?_)
        refine gs Tryz.func147 #[.agg #[.int .i64 o, .int .i64 l, .slice z b.length A, .int .i64 v, .int .i64 q, .slice B s.length D, .slice E t.length G, .slice I u.length J]] rfl rfl ?_
        with_reducible refine(je.calls o l _ _ b v q _ _ s _ _ t _ _ u b8 _ (cb ad.out) a9.out (cb ba.out) bb.out (cb bc.out) bd.out (cb be.out) bh.out cc.out).mono ?_
        rintro e cX ⟨cT,rfl,ho0,hb⟩
        refine⟨_,rfl, ?_⟩
        have bw:=Aside0.mk (Kd.R_lower ho0 (aU bl))
        replace c:=kb c hb
        replace a:=kb a hb
        replace HB:=hs HB hb
        obtain⟨cU,cV,a8⟩:=Kd.R_slice bw.out
        (first|subst a8|(injection a8 with b2 cd b3;have ce:=b2.symm;have cf:=b3.symm;clear b2 cd b3;subst ce;subst cf))
        refine hK.out _ _ ⟨(ae a.out 0).trans rfl,(ae a.out 1).trans rfl,(ae a.out 2).trans rfl,(ae a.out 3).trans rfl,(ae a.out 4).trans rfl,(ae a.out 5).trans rfl,(ae a.out 6).trans rfl,(ae a.out 7).trans rfl⟩ (fun hHeld=> ?_)
        clear hK K
        refine no 68 ?_
        repeat(first|refine vN ?_|refine pN ?_|refine tN ?_)
        refine eQ (dN HT_.out (by kernel_rfl)) ?_
        try go_wp2
        go_ret
        exact fin
       rw[if_neg c53]at H
       have bt:decide (q≤3)=false:=decide_eq_false c53
       clear c53
       obtain rfl:=Option.some.inj H;clear H
       try go_wp2
       replace c:=Aside0.mk (af c.out)
       replace a:=Aside0.mk (af a.out)
       replace HB:=Aside0.mk (aC HB.out)
       refine dR (n:=12) (S:=fun w' =>w'.cell? ⟨p,0,none⟩=some (.int .i64 o)∧w'.cell? ⟨p,1,none⟩=some (.int .i64 l)∧w'.cell? ⟨p,2,none⟩=some (.slice z b.length A)∧w'.cell? ⟨p,3,none⟩=some (.int .i64 v)∧w'.cell? ⟨p,4,none⟩=some (.int .i64 q)∧w'.cell? ⟨p,5,none⟩=some (.slice B s.length D)∧w'.cell? ⟨p,6,none⟩=some (.slice E t.length G)∧w'.cell? ⟨p,7,none⟩=some (.slice I u.length J)) (ds:= []) (upto 12 0) (by kernel_rfl) rfl rfl ⟨(ae a.out 0).trans rfl,(ae a.out 1).trans rfl,(ae a.out 2).trans rfl,(ae a.out 3).trans rfl,(ae a.out 4).trans rfl,(ae a.out 5).trans rfl,(ae a.out 6).trans rfl,(ae a.out 7).trans rfl⟩ (fun hHeld=> ?_);refine cO aZ.tab14 aZ.bits14 (fun HT_ HW_=> ?_)
       generalize wr.drew=cY at c a HB hHeld⊢
       repeat(first|refine vN ?_|refine pN ?_|refine tN ?_)
       refine eQ (dN HT_.out (by kernel_rfl)) ?_
       try go_wp2
       go_ret
       exact fin
set_option maxHeartbeats 8000000 in
set_option maxRecDepth 100000 in
theorem iN.calls (a0:Int) (r:Bool) (w:World) (h:iN.f a0=some r):
  Calls Tryz.prog 101 #[.int .i64 a0] w fun e w' =>e= .returned (.bool r)∧Drawn0 w w' :=by
 have H:(if a0≥(-128)then(some (decide (a0≤127)))else(some false))=some r:=h
 clear h
 by_cases c2:a0≥(-128)
 ·rw[if_pos c2]at H
  have a:decide ((-128)≤a0)=true:=decide_eq_true c2
  clear c2
  obtain rfl:=Option.some.inj H;clear H
  go_enter Tryz.func101,Tryz.ntmps101
  go_wp2
  go_ret
  exact⟨by first|rfl|(simp;done)|(simp[*];done),by repeat(first|exact Drawn0.refl _|apply Drawn0.step)⟩
 ·rw[if_neg c2]at H
  have a:decide ((-128)≤a0)=false:=decide_eq_false c2
  clear c2
  obtain rfl:=Option.some.inj H;clear H
  go_enter Tryz.func101,Tryz.ntmps101
  go_wp2
  go_ret
  exact⟨by first|rfl|(simp;done)|(simp[*];done),by repeat(first|exact Drawn0.refl _|apply Drawn0.step)⟩
def bR.T3:Bool×List (List Nat×List Nat):=(true, [([], []),([], []),([], []),([1,2], [1,2]),([3], [3]),([4], [4]),([0,5], [0,5]),([], []),([], []),([7,8], [7,8]),([9], [9]),([10], [10]),([6,11,6], [6,11]),([12,12,0,1,2,3,4,5,6,7,8,9,10,11,12], [12])])
def bR.B3:List Nat:= [0,0,0,6,14,30,63,0,0,384,896,1920,4095,8191]
theorem bR.tab3:dJ .any (opsOf Tryz.f157 3)=bR.T3:=by kernel_rfl
theorem bR.bits3:dY bR.T3.2 bR.B3=true:=by kernel_rfl
set_option maxHeartbeats 8000000 in
set_option maxRecDepth 100000 in
theorem bR.calls (k:Nat): ∀(A0:Option Addr) (c0:Nat) (l0:List (S126)) (a1:Int) (r:List Int) (w:World) (hr0:Kd.C eB w A0 l0.length l0) (hc0:l0.length≤c0) (h:bR.f k l0 a1=some r),
  Calls Tryz.prog 157 #[.slice A0 l0.length c0, .int .i64 a1] w fun e w' => ∃T:Value,e= .returned (T)∧Kd.R (Kd.int .i64) 3 w' w.heap.size (fun _=>True) T r∧Below w.heap.size w w' :=by
 induction k using Nat.strongRecOn with
 |_ k ih=>
 intro A0 c0 l0 a1 r w hr0 hc0 h
 cases k with
 |zero=>exact absurd h (by simp[bR.f])
 |succ k=>
 simp only[bR.f]at h
 have J:=Aside0.mk hr0
 have ao:=Aside0.mk hc0
 clear hr0 hc0
 have HB:=Aside0.mk (Below.refl w.heap.size w)
 have H:(if a1=0 then(some ([]:List Int))else(if 0≤a1 then(if a1<(l0.length:Int)then((bR.f k l0 ((aD l0 a1).f0)).bind fun p=>(if p.length+((aD l0 a1).f1).length<17592186044416 then(some (p++((aD l0 a1).f1)))else(none)))else(none))else(none)))=some r:=h
 clear h
 by_cases c3:a1=0
 ·rw[if_pos c3]at H
  have X:=beq_iff_eq.mpr c3
  have Y:=bne_eq_false_iff_eq.mpr c3
  clear c3
  obtain rfl:=Option.some.inj H;clear H
  go_enter Tryz.func157,Tryz.ntmps157
  go_wp2
  go_ret
  exact⟨_,by first|rfl|(simp[bz,bA]<;>rfl)|(simp[*,bz,bA]<;>rfl),by first|exact Kd.R_nil _ _ _ _ _|exact Kd.N_nil _ _ _ _ _|exact Kd.V_nil _ _ _ _ _|exact Kd.Q_nil _ _ _ _ _|exact Kd.S_nil _ _ _ _ _,bl⟩
 rw[if_neg c3]at H
 have X:=beq_eq_false_iff_ne.mpr c3
 have Y:=bne_iff_ne.mpr c3
 by_cases c4:0≤a1
 ·rw[if_pos c4]at H
  have ar:decide (0≤a1)=true:=decide_eq_true c4
  clear c4
  by_cases c5:a1<(l0.length:Int)
  ·rw[if_pos c5]at H
   have aw:decide (a1<(l0.length:Int))=true:=decide_eq_true c5
   clear c5
   obtain⟨p,A6,H⟩:=ob H
   by_cases c7:p.length+((aD l0 a1).f1).length<17592186044416
   ·rw[if_pos c7]at H
    have Z:=Aside0.mk c7
    clear c7
    obtain⟨ab,q⟩: ∃y_:List Int,y_=(p++((aD l0 a1).f1)):=⟨_,rfl⟩
    replace H:(some ab)=some r:=by first|(rw[q];with_reducible exact H)|(have L:=(Option.bind_some _ _).symm.trans H;rw[q];with_reducible exact L)|(have L:=(Option.bind_some _ _).symm.trans H;with_reducible exact L)|with_reducible exact H|(rw[q];exact H)|exact H
    have M:=Aside0.mk q
    clear q
    obtain rfl:=Option.some.inj H;clear H
    go_enter Tryz.func157,Tryz.ntmps157
    try go_wp2
    replace HB:=Aside0.mk (aC HB.out)
    have A:0≤(a1:Int):=od
    have B:a1<(l0.length:Int):=od
    obtain⟨g,y,z,ac,m,j,s,t⟩:=fP J.out a1 A B
    have a:=j
    have b:=m
    cases ac
    obtain⟨m,j⟩:=hc2 HB m j
    have I:=Aside0.mk t
    have am:=Aside0.mk s
    clear t s
    replace A:=eq_true A
    replace B:=eq_true B
    have D:0≤(a1:Int):=od
    have E:a1<(l0.length:Int):=od
    obtain⟨O,ap,aq,ad,o,l,u,v⟩:=fP J.out a1 D E
    have c:=l
    have d:=o
    obtain rfl:g=O:=(by injection ad)
    obtain⟨o,l⟩:=hc2 HB o l
    have x:=Aside0.mk v
    have an:=Aside0.mk u
    clear v u
    replace D:=eq_true D
    replace E:=eq_true E
    have ea_:=Option.some.inj (j.symm.trans l)
    injection ea_ with ea_ en_ ec_
    subst ea_
    subst ec_
    clear en_
    refine dR (n:=14) (S:=fun w' =>w'.cell? (g.add ((a1).toNat * 2))=some (.int .i64 ((aD l0 a1).f0))∧w'.cell? ⟨(g.add ((a1).toNat * 2)).block,(g.add ((a1).toNat * 2)).off+1,none⟩=some (.slice y ((aD l0 a1).f1).length z)∧w'.cell? (g.add ((a1).toNat * 2))=some (.int .i64 ((aD l0 a1).f0))∧w'.cell? ⟨(g.add ((a1).toNat * 2)).block,(g.add ((a1).toNat * 2)).off+1,none⟩=some (.slice y ((aD l0 a1).f1).length z)) (ds:= []) #[false,false,false,false,false,false,false,false,false,false,false,false,false,false] (by kernel_rfl) rfl rfl ⟨((HB.out.cell (World.block_lt_of_cell? w _ b)).trans b),((HB.out.cell (World.block_lt_of_cell? w _ a)).trans a),((HB.out.cell (World.block_lt_of_cell? w _ d)).trans d),((HB.out.cell (World.block_lt_of_cell? w _ c)).trans c)⟩ (fun hHeld=> ?_);refine cO bR.tab3 bR.bits3 (fun HT_ HW_=> ?_)
    generalize w.drew=w8 at HB I x m j o l hHeld⊢
    refine pu 0 7 #[true,false,false,false,false,false,false,false,false,false,false,false,false,false] HT_ rfl rfl ?_
    refine pu 1 8 #[true,true,false,false,false,false,false,false,false,false,false,false,false,false] HT_ rfl rfl ?_
    refine pu 2 9 #[true,true,true,false,false,false,false,false,false,false,false,false,false,false] HT_ rfl rfl ?_
    refine pu 3 10 #[true,true,true,true,false,false,false,false,false,false,false,false,false,false] HT_ rfl rfl ?_
    refine pu 4 11 #[true,true,true,true,true,false,false,false,false,false,false,false,false,false] HT_ rfl rfl ?_
    refine pu 7 14 #[true,true,true,true,true,false,false,true,false,false,false,false,false,false] HT_ rfl rfl ?_
    refine pu 8 15 #[true,true,true,true,true,false,false,true,true,false,false,false,false,false] HT_ rfl rfl ?_
    refine pu 9 16 #[true,true,true,true,true,false,false,true,true,true,false,false,false,false] HT_ rfl rfl ?_
    refine pu 10 17 #[true,true,true,true,true,false,false,true,true,true,true,false,false,false] HT_ rfl rfl ?_
    refine ta 5 12 #[true,true,true,true,true,true,false,true,true,true,true,false,false,false] HT_ HW_ hHeld rfl rfl ?_
    refine ta 11 18 #[true,true,true,true,true,true,false,true,true,true,true,true,false,false] HT_ HW_ hHeld rfl rfl ?_
    refine fo (i:=6) (N:=some 13) #[true,true,true,true,true,true,true,true,true,true,true,true,false,false] rfl rfl (d9 HT_.out (by kernel_rfl)) (by decide) (fun K hK=> ?_)
    refine gs Tryz.func157 #[.slice (some g) l0.length c0, .int .i64 ((aD l0 a1).f0)] rfl rfl ?_
    with_reducible refine(ih k (by omega) _ _ l0 ((aD l0 a1).f0) p _ (cb J.out) ao.out A6.out).mono ?_
    rintro e w9 ⟨al,rfl,ho0,hb⟩
    refine⟨_,rfl, ?_⟩
    have G:=Aside0.mk (Kd.R_lower ho0 (aU bl))
    replace HB:=hs HB hb
    refine hK.out _ _ ⟨((HB.out.cell (World.block_lt_of_cell? w _ b)).trans b),((HB.out.cell (World.block_lt_of_cell? w _ a)).trans a),((HB.out.cell (World.block_lt_of_cell? w _ d)).trans d),((HB.out.cell (World.block_lt_of_cell? w _ c)).trans c)⟩ (fun hHeld=> ?_)
    clear hK K
    refine no 13 ?_
    refine fo (i:=12) (N:=some 19) #[true,true,true,true,true,true,true,true,true,true,true,true,true,false] rfl rfl (d9 HT_.out (by kernel_rfl)) (by decide) (fun K hK=> ?_)
    refine Kd.R_append_rows_step (Kd.int .i64) (w0:=w) w.heap.size (by rfl) (.tmp 13) (.tmp 18) 29 3 (.int .i64 0) 8 rfl Tryz.underlying29 info3 rfl (by decide) (by omega) al p ((aD l0 a1).f1) _ _ _ (fun _=>True) (fun _=>False) rfl rfl ?aO ?aR (fun _ _ h=>h) (fun _ h=>h.elim) ?aF ?aB ?aS ?aL ?_
    (case aR=>repeat(first|exact(Kd.C_below x.out HB.out)|(with_reducible refine Kd.C_alloc ?_ _)|(with_reducible refine Kd.C_drewN ?_ _)|(with_reducible refine Kd.C_drew ?_)))
    (case aB=>exact bl)
    (case aF=>exact(fun _ _=>trivial))
    (case aO=>exact(by(with_reducible repeat(first|apply Kd.R_alloc|apply Kd.R_drewN|apply Kd.R_drew));exact G.out))
    (case aS=>exact(aU bl))
    (case aL=>have:=Z.out;omega)
    intro aE aP ho hb hg hat
    rw[←M.out]at ho
    have U:=Aside0.mk (hb)
    have W:=Aside0.mk (ho)
    clear HB
    clear G
    have HB:=U
    have P:=W
    clear U W
    clear ho hb hg hat
    refine hK.out _ _ ⟨((HB.out.cell (World.block_lt_of_cell? w _ b)).trans b),((HB.out.cell (World.block_lt_of_cell? w _ a)).trans a),((HB.out.cell (World.block_lt_of_cell? w _ d)).trans d),((HB.out.cell (World.block_lt_of_cell? w _ c)).trans c)⟩ (fun hHeld=> ?_)
    clear hK K
    refine no 19 ?_
    refine pu 13 4 #[true,true,true,true,true,true,true,true,true,true,true,true,true,true] HT_ rfl rfl ?_
    refine eQ (dN HT_.out (by kernel_rfl)) ?_
    try go_wp2
    go_ret
    exact⟨_,by first|rfl|(simp[bz,bA]<;>rfl)|(simp[*,bz,bA]<;>rfl),by(with_reducible repeat(first|apply Kd.R_alloc|apply Kd.R_drewN|apply Kd.R_drew));exact P.out,bl⟩
   rw[if_neg c7]at H
   exact absurd H (by simp)
  rw[if_neg c5]at H
  exact absurd H (by simp)
 rw[if_neg c4]at H
 exact absurd H (by simp)
set_option maxHeartbeats 8000000 in
set_option maxRecDepth 100000 in
theorem eu.calls (k:Nat) (v:Option Addr) (x:Nat) (d:List (S126)) (an:Option Addr) (ao:Nat) (c:List (S104)) (ap:Int) (aq:Int) (ar:Option Addr) (aw:Nat) (n:List Int) (aB:Int) (y:Int) (aE:Option Addr) (aF:Nat) (g:List (S113)) (aL:Option Addr) (aO:Nat) (o:List (S57)) (aP:Option Addr) (aR:Nat) (p:List (S181)) (aS:Int) (q:Int) (a0:Int) (a3:Int) (a4:Int) (r:Bool) (w:World) (a8:Kd.C eB w v d.length d) (a9:d.length≤x) (ba:Kd.C dV w an c.length c) (bb:c.length≤ao) (bc:Kd.C (Kd.int .i64) w ar n.length n) (bd:n.length≤aw) (be:Kd.C fq w aE g.length g) (bh:g.length≤aF) (bj:Kd.C k57 w aL o.length o) (bk:o.length≤aO) (bm:Kd.C eZ w aP p.length p) (bo:p.length≤aR) (h:eu.f k d c ap aq n aB y g o p aS q a0 a3 a4=some r):
  Calls Tryz.prog 148 #[.agg #[.slice v d.length x, .slice an c.length ao], .agg #[.int .i64 ap, .int .i64 aq, .slice ar n.length aw, .int .i64 aB, .int .i64 y, .slice aE g.length aF, .slice aL o.length aO, .slice aP p.length aR], .agg #[.int .i64 aS, .int .i64 q, .int .i64 a0], .int .i64 a3, .int .i64 a4] w fun e w' =>e= .returned (.bool r)∧Below w.heap.size w w' :=by
 have d1:=Tryz.underlying38
 have cX:=Tryz.underlying104
 have cY:=Tryz.underlying113
 have bp:=Aside0.mk a8
 have br:=Aside0.mk a9
 clear a8 a9
 have bt:=Aside0.mk ba
 have c0:=Aside0.mk bb
 clear ba bb
 have c1:=Aside0.mk bc
 have da:=Aside0.mk bd
 clear bc bd
 have db:=Aside0.mk be
 have dc:=Aside0.mk bh
 clear be bh
 have dd:=Aside0.mk bj
 have de:=Aside0.mk bk
 clear bj bk
 have dg:=Aside0.mk bm
 have dj:=Aside0.mk bo
 clear bm bo
 have HB:=Aside0.mk (Below.refl w.heap.size w)
 have H:(if a3=1 then((iN.f a4).bind fun a1=>(some a1))else(if a3=2 then(if a4≥0 then(some (decide (a4<y)))else(some false))else(if a3=3 then(if a4≥1 then(some (decide (a4≤4)))else(some false))else(if a3=4 then(if a4≥0 then(some (decide (a4<(g.length:Int))))else(some false))else(if a3=5 then((dQ.f d a4).bind fun a2=>(some a2))else(if a3=6 then(if a4=0 then(some true)else(some (a4==1)))else(if a3=7 then(if a4≥0 then(if a4<(c.length:Int)then(if 0≤a4 then(some (((aa c a4).f0)==(-1)))else(none))else(some false))else(some false))else(if a3=8 then(if a4≥0 then((bR.f k d q).bind fun a5=>(some (decide (a4<(a5.length:Int)))))else(some false))else(if a3=9 then(if a4≥0 then(some (decide (a4<3)))else(some false))else(some (a4==0)))))))))))=some r:=h
 clear h
 by_cases c6:a3=1
 ·rw[if_pos c6]at H
  have cx:=beq_iff_eq.mpr c6
  have cy:=bne_eq_false_iff_eq.mpr c6
  clear c6
  obtain⟨a1,A7,H⟩:=ob H
  obtain rfl:=Option.some.inj H;clear H
  go_enter Tryz.func148,Tryz.ntmps148
  go_wp2_with (first|(refine gl (some 15) Tryz.func101 #[.int .i64 a4] rfl ?_;(with_reducible refine(iN.calls a4 a1 _ A7.out).mono ?_);rintro e w' ⟨rfl,⟨nd,rfl⟩⟩;refine⟨_,rfl, ?_⟩))
  go_ret
  exact fin
 rw[if_neg c6]at H
 have cx:=beq_eq_false_iff_ne.mpr c6
 have cy:=bne_iff_ne.mpr c6
 by_cases c11:a3=2
 ·rw[if_pos c11]at H
  have bw:=beq_iff_eq.mpr c11
  have b0:=bne_eq_false_iff_eq.mpr c11
  clear c11
  by_cases c12:a4≥0
  ·rw[if_pos c12]at H
   have b1:decide (0≤a4)=true:=decide_eq_true c12
   clear c12
   obtain rfl:=Option.some.inj H;clear H
   go_enter Tryz.func148,Tryz.ntmps148
   go_wp2
   go_ret
   exact fin
  rw[if_neg c12]at H
  have b1:decide (0≤a4)=false:=decide_eq_false c12
  clear c12
  obtain rfl:=Option.some.inj H;clear H
  go_enter Tryz.func148,Tryz.ntmps148
  go_wp2
  go_ret
  exact fin
 rw[if_neg c11]at H
 have bw:=beq_eq_false_iff_ne.mpr c11
 have b0:=bne_iff_ne.mpr c11
 by_cases z:a3=3
 ·rw[if_pos z]at H
  have b2:=beq_iff_eq.mpr z
  have b3:=bne_eq_false_iff_eq.mpr z
  clear z
  by_cases c23:a4≥1
  ·rw[if_pos c23]at H
   have b4:decide (1≤a4)=true:=decide_eq_true c23
   clear c23
   obtain rfl:=Option.some.inj H;clear H
   go_enter Tryz.func148,Tryz.ntmps148
   go_wp2
   go_ret
   exact fin
  rw[if_neg c23]at H
  have b4:decide (1≤a4)=false:=decide_eq_false c23
  clear c23
  obtain rfl:=Option.some.inj H;clear H
  go_enter Tryz.func148,Tryz.ntmps148
  go_wp2
  go_ret
  exact fin
 rw[if_neg z]at H
 have b2:=beq_eq_false_iff_ne.mpr z
 have b3:=bne_iff_ne.mpr z
 by_cases A:a3=4
 ·rw[if_pos A]at H
  have b5:=beq_iff_eq.mpr A
  have b6:=bne_eq_false_iff_eq.mpr A
  clear A
  by_cases c31:a4≥0
  ·rw[if_pos c31]at H
   have b7:decide (0≤a4)=true:=decide_eq_true c31
   clear c31
   obtain rfl:=Option.some.inj H;clear H
   go_enter Tryz.func148,Tryz.ntmps148
   go_wp2
   go_ret
   exact fin
  rw[if_neg c31]at H
  have b7:decide (0≤a4)=false:=decide_eq_false c31
  clear c31
  obtain rfl:=Option.some.inj H;clear H
  go_enter Tryz.func148,Tryz.ntmps148
  go_wp2
  go_ret
  exact fin
 rw[if_neg A]at H
 have b5:=beq_eq_false_iff_ne.mpr A
 have b6:=bne_iff_ne.mpr A
 by_cases B:a3=5
 ·rw[if_pos B]at H
  have b8:=beq_iff_eq.mpr B
  have b9:=bne_eq_false_iff_eq.mpr B
  clear B
  obtain⟨a2,cM,H⟩:=ob H
  obtain rfl:=Option.some.inj H;clear H
  go_enter Tryz.func148,Tryz.ntmps148
  go_wp2_with (first|(refine gl (some 50) Tryz.func146 #[.slice v d.length x, .int .i64 a4] rfl ?_;(with_reducible refine(dQ.calls _ _ d a4 a2 _ (cb bp.out) br.out cM.out).mono ?_);rintro e w' ⟨rfl,⟨nd,rfl⟩⟩;refine⟨_,rfl, ?_⟩))
  go_ret
  exact fin
 rw[if_neg B]at H
 have b8:=beq_eq_false_iff_ne.mpr B
 have b9:=bne_iff_ne.mpr B
 by_cases c49:a3=6
 ·rw[if_pos c49]at H
  have ca:=beq_iff_eq.mpr c49
  have cc:=bne_eq_false_iff_eq.mpr c49
  clear c49
  by_cases D:a4=0
  ·rw[if_pos D]at H
   have cd:=beq_iff_eq.mpr D
   have ce:=bne_eq_false_iff_eq.mpr D
   clear D
   obtain rfl:=Option.some.inj H;clear H
   go_enter Tryz.func148,Tryz.ntmps148
   go_wp2
   go_ret
   exact fin
  rw[if_neg D]at H
  have cd:=beq_eq_false_iff_ne.mpr D
  have ce:=bne_iff_ne.mpr D
  obtain rfl:=Option.some.inj H;clear H
  go_enter Tryz.func148,Tryz.ntmps148
  go_wp2
  go_ret
  exact fin
 rw[if_neg c49]at H
 have ca:=beq_eq_false_iff_ne.mpr c49
 have cc:=bne_iff_ne.mpr c49
 by_cases E:a3=7
 ·rw [if_pos E]at H
  have cf:=beq_iff_eq.mpr E
  have cg:=bne_eq_false_iff_eq.mpr E
  clear E
  by_cases I:a4≥0
  ·rw[if_pos I]at H
   have ch:decide (0≤a4)=true:=decide_eq_true I
   clear I
   by_cases c59:a4<(c.length:Int)
   ·rw[if_pos c59]at H
    have ci:decide (a4<(c.length:Int))=true:=decide_eq_true c59
    clear c59
    by_cases bs:0≤a4
    ·rw[if_pos bs]at H
     have dk:decide (0≤a4)=true:=decide_eq_true bs
     clear bs
     obtain rfl:=Option.some.inj H;clear H
     go_enter Tryz.func148,Tryz.ntmps148
     go_wp2_with (first|((with_reducible refine gd 5 rfl ?_);(try(refine aW (by rfl) ?_;dsimp only));refine bx 5 #[.slice v d.length x, .slice an c.length ao] 38 ?_;intro cj hg d5 hbox hb;have a:=Aside0.mk hbox;have ck:=hz HB hg;replace HB:=hs HB hb;clear hb hbox hg)|((with_reducible refine gd 6 rfl ?_);(try(refine aW (by rfl) ?_;dsimp only));refine bx 6 #[.int .i64 ap, .int .i64 aq, .slice ar n.length aw, .int .i64 aB, .int .i64 y, .slice aE g.length aF, .slice aL o.length aO, .slice aP p.length aR] 104 ?_;intro cl hg d6 hbox hb;have b:=Aside0.mk hbox;have cm:=hz HB hg;have i:=nl a hg;have j:=ng a hg;replace a:=kb a hb;replace HB:=hs HB hb;clear hb hbox hg)|((with_reducible refine gd 7 rfl ?_);(try(refine aW (by rfl) ?_;dsimp only));refine bx 7 #[.int .i64 aS, .int .i64 q, .int .i64 a0] 113 ?_;intro cn hg d7 hbox hb;have u:=Aside0.mk hbox;have co:=hz HB hg;have l:=nl a hg;have m:=ng a hg;have s:=nl b hg;have t:=ng b hg;replace a:=kb a hb;replace b:=kb b hb;replace HB:=hs HB hb;clear hb hbox hg;have dl:=i.out;have dp:=j.out;have dq:=l.out;have dr:=m.out;have:=cf2 a;have a6:0≤(a4:Int):=od;have a7:a4<(c.length:Int):=od;obtain⟨ds,cN,cP,cQ,cR,cS,cT,cU,cV,cA,J,K,L,M,O,P,T,U,W,X,Y,Z,ab,ac,ad,al⟩:=di bt.out a4 a6 a7;cases cA;obtain⟨J,K,L,M,O,P,T,U⟩:=hc8 HB J K L M O P T U;have cD:=Aside0.mk X;have cE:=Aside0.mk W;clear X W;have cF:=Aside0.mk Z;have cG:=Aside0.mk Y;clear Z Y;have cH:=Aside0.mk ac;have cI:=Aside0.mk ab;clear ac ab;have cJ:=Aside0.mk al;have cL:=Aside0.mk ad;clear al ad;replace a6:=eq_true a6;replace a7:=eq_true a7))
     go_ret
     exact fin
    rw[if_neg bs]at H
    exact absurd H (by simp)
   rw[if_neg c59]at H
   have ci:decide (a4<(c.length:Int))=false:=decide_eq_false c59
   clear c59
   obtain rfl:=Option.some.inj H;clear H
   go_enter Tryz.func148,Tryz.ntmps148
   go_wp2
   go_ret
   exact fin
  rw[if_neg I]at H
  have ch:decide (0≤a4)=false:=decide_eq_false I
  clear I
  obtain rfl:=Option.some.inj H;clear H
  go_enter Tryz.func148,Tryz.ntmps148
  go_wp2
  go_ret
  exact fin
 rw[if_neg E]at H
 have cf:=beq_eq_false_iff_ne.mpr E
 have cg:=bne_iff_ne.mpr E
 by_cases c76:a3=8
 ·rw[if_pos c76]at H
  have cp:=beq_iff_eq.mpr c76
  have cq:=bne_eq_false_iff_eq.mpr c76
  clear c76
  by_cases am:a4≥0
  ·rw[if_pos am]at H
   have cr:decide (0≤a4)=true:=decide_eq_true am
   clear am
   obtain⟨a5,cW,H⟩:=ob H
   obtain rfl:=Option.some.inj H;clear H
   go_enter Tryz.func148,Tryz.ntmps148
   go_wp2_with (first|((with_reducible refine gd 5 rfl ?_);(try(refine aW (by rfl) ?_;dsimp only));refine bx 5 #[.slice v d.length x, .slice an c.length ao] 38 ?_;intro cj hg d8 hbox hb;have a:=Aside0.mk hbox;have ck:=hz HB hg;replace HB:=hs HB hb;clear hb hbox hg)|((with_reducible refine gd 6 rfl ?_);(try(refine aW (by rfl) ?_;dsimp only));refine bx 6 #[.int .i64 ap, .int .i64 aq, .slice ar n.length aw, .int .i64 aB, .int .i64 y, .slice aE g.length aF, .slice aL o.length aO, .slice aP p.length aR] 104 ?_;intro cl hg ea hbox hb;have b:=Aside0.mk hbox;have cm:=hz HB hg;have i:=nl a hg;have j:=ng a hg;replace a:=kb a hb;replace HB:=hs HB hb;clear hb hbox hg)|((with_reducible refine gd 7 rfl ?_);(try(refine aW (by rfl) ?_;dsimp only));refine bx 7 #[.int .i64 aS, .int .i64 q, .int .i64 a0] 113 ?_;intro cn hg eb hbox hb;have u:=Aside0.mk hbox;have co:=hz HB hg;have l:=nl a hg;have m:=ng a hg;have s:=nl b hg;have t:=ng b hg;replace a:=kb a hb;replace b:=kb b hb;replace HB:=hs HB hb;clear hb hbox hg;have dt:=i.out;have du:=j.out;have dv:=l.out;have dy:=m.out;have:=cf2 a;have dT:=t.out;have d0:=s.out;have:=cf3 u)|(go_at_call 157;(with_reducible refine(bR.calls k _ _ d q a5 _ (cb bp.out) br.out cW.out).mono ?_);rintro e ec ⟨d2,rfl,ho0,hb⟩;have cs:=Aside0.mk (Kd.R_lower ho0 (aU bl));replace a:=kb a hb;replace b:=kb b hb;replace u:=kb u hb;replace HB:=hs HB hb;obtain⟨d3,d4,cC⟩:=Kd.R_slice cs.out;subst cC))
   go_ret
   exact fin
  rw[if_neg am]at H
  have cr:decide (0≤a4)=false:=decide_eq_false am
  clear am
  obtain rfl:=Option.some.inj H;clear H
  go_enter Tryz.func148,Tryz.ntmps148
  go_wp2
  go_ret
  exact fin
 rw[if_neg c76]at H
 have cp:=beq_eq_false_iff_ne.mpr c76
 have cq:=bne_iff_ne.mpr c76
 by_cases G:a3=9
 ·rw[if_pos G]at H
  have ct:=beq_iff_eq.mpr G
  have cv:=bne_eq_false_iff_eq.mpr G
  clear G
  by_cases c93:a4≥0
  ·rw[if_pos c93]at H
   have cw:decide (0≤a4)=true:=decide_eq_true c93
   clear c93
   obtain rfl:=Option.some.inj H;clear H
   go_enter Tryz.func148,Tryz.ntmps148
   go_wp2
   go_ret
   exact fin
  rw[if_neg c93]at H
  have cw:decide (0≤a4)=false:=decide_eq_false c93
  clear c93
  obtain rfl:=Option.some.inj H;clear H
  go_enter Tryz.func148,Tryz.ntmps148
  go_wp2
  go_ret
  exact fin
 rw[if_neg G]at H
 have ct:=beq_eq_false_iff_ne.mpr G
 have cv:=bne_iff_ne.mpr G
 obtain rfl:=Option.some.inj H;clear H
 go_enter Tryz.func148,Tryz.ntmps148
 go_wp2
 go_ret
 exact fin
set_option maxHeartbeats 8000000 in
set_option maxRecDepth 100000 in
theorem bE.calls (k:Nat) (A0:Option Addr) (c0:Nat) (l0:List (S126)) (a1:Int) (p:Bool) (q:Option Addr) (s:Nat) (a:List Int) (t:Option Addr) (u:Nat) (b:List Int) (r:Bool) (w:World) (hr0:Kd.C eB w A0 l0.length l0) (hc0:l0.length≤c0) (J:Kd.C (Kd.int .i64) w q a.length a) (K:a.length≤s) (L:Kd.C (Kd.int .i64) w t b.length b) (M:b.length≤u) (h:bE.f k l0 a1 p a b=some r):
  Calls Tryz.prog 68 #[.slice A0 l0.length c0, .int .i64 a1, .agg #[.bool p, .slice q a.length s, .slice t b.length u]] w fun e w' =>e= .returned (.bool r)∧Below w.heap.size w w' :=by
 have a3:=Tryz.underlying57
 have hkq:=uB
 have hkn:=uC
 have hkp:=rC
 have hkr:=rD
 have a4:=Aside0.mk hr0
 have a5:=Aside0.mk hc0
 clear hr0 hc0
 have O:=Aside0.mk J
 have aF:=Aside0.mk K
 clear J K
 have B:=Aside0.mk L
 have aL:=Aside0.mk M
 clear L M
 have HB:=Aside0.mk (Below.refl w.heap.size w)
 have H:(if p=true then(if(a.length:Int)=a1 then(bE.j0 k l0 (decide ((b.length:Int)>4)) p a b)else(bE.j0 k l0 true p a b))else(if(a.length:Int)=0 then(some ((b.length:Int)==0))else(some false)))=some r:=h
 clear h
 by_cases c4:p=true
 ·subst c4
  replace H:=it H
  have W:=Aside0.mk H
  clear H
  go_enter Tryz.func68,Tryz.ntmps68
  go_upto_region 3 with(first|((with_reducible refine gd 5 rfl ?_);(try(refine aW (by rfl) ?_;dsimp only));refine bx 5 #[.bool true, .slice q a.length s, .slice t b.length u] 57 ?_;intro D hg w6 hbox hb;have g:=Aside0.mk hbox;have aO:=hz HB hg;replace HB:=hs HB hb;clear hb hbox hg;have:=cf3 g))
  (try simp only[Act.put,List.setIfInBounds_toArray,List.set_cons_zero,List.set_cons_succ])
  go_cut [34] (fun v34 wc=> ∃(kq:Nat) (x:Bool),v34= .bool x∧Aside0 (bE.j0 kq l0 x true a b=some r)∧Aside0 (kq≤k)∧Aside0 (wc.heap[D]? =some (.cells #[.bool true,(.slice q a.length s),(.slice t b.length u)] 57 (0,0)))∧Aside0 (Below w.heap.size w wc))
  case first=>
   have H:=W.out
   clear W
   by_cases c8:(a.length:Int)=a1
   ·rw[if_pos c8]at H
    have y:=beq_iff_eq.mpr c8
    have aE:=bne_eq_false_iff_eq.mpr c8
    clear c8
    (first|rw[y]|(simp only[bX,bZ];rw[y])|skip)
    have H' :=Aside0.mk H
    clear H
    have:=cf3 g
    go_wp2
    go_meet
    case rel=>exact⟨_,(decide ((b.length:Int)>4)),(by first|rfl|(simp;done)|(simp[*];done)),H',⟨by first|omega|exact Nat.le_refl _⟩,kk g,⟨bl⟩⟩
   rw[if_neg c8]at H
   have y:=beq_eq_false_iff_ne.mpr c8
   have aE:=bne_iff_ne.mpr c8
   (first|rw[y]|(simp only[bX,bZ];rw[y])|skip)
   have H' :=Aside0.mk H
   clear H
   have:=cf3 g
   go_wp2
   go_meet
   case rel=>exact⟨_,(true),(by first|rfl|(simp;done)|(simp[*];done)),H',⟨by first|omega|exact Nat.le_refl _⟩,kk g,⟨bl⟩⟩
  case rest =>
   clear W
   obtain⟨kq,x,rfl,HA,P,g,HB⟩:=hcut
   cases kq with
   |zero=>exact absurd HA.out (by simp[bE.j0])
   | succ aq=>
    have H:=HA.out
    clear HA
    simp only[bE.j0]at H
    by_cases c11:x=true
    ·subst c11
     replace H:=it H
     obtain rfl:=Option.some.inj H;clear H
     go_wp2
     go_ret
     exact fin
    replace c11:=Bool.eq_false_iff.mpr c11
    subst c11
    replace H:=ie H
    have H' :=Aside0.mk H
    clear H
    have:=cf3 g
    go_wp2
    go_loopg [38] aq (fun kq v38 w' => ∃(d:Int),v38= .int .i64 d∧Aside0 (bE.l0 kq l0 a (a.length:Int) d true a b=some r)∧Aside0 (kq≤aq)∧Aside0 (w'.heap[D]? =some (.cells #[.bool true,(.slice q a.length s),(.slice t b.length u)] 57 (0,0)))∧Aside0 (Below w.heap.size w w'))
    case atStart=>exact⟨(0),(by first|rfl|(simp;done)|(simp[*];done)),H',⟨Nat.le_refl _⟩,kk g,⟨bl⟩⟩
    case round=>
     clear H'
     obtain⟨d,rfl,HA,T,g,HB⟩:=hrel
     cases gk with
     |zero=>exact absurd HA.out (by simp[bE.l0])
     | succ k2=>
      have H:=HA.out
      clear HA
      simp only[bE.l0]at H
      by_cases c13:d<(a.length:Int)
      ·rw [if_pos c13]at H
       have X:decide (d<(a.length:Int))=true:=decide_eq_true c13
       clear c13
       by_cases c14:0≤d
       ·rw[if_pos c14]at H
        have aP:decide (0≤d)=true:=decide_eq_true c14
        clear c14
        by_cases c15:d<(a.length:Int)
        ·rw[if_pos c15]at H
         have aR:decide (d<(a.length:Int))=true:=decide_eq_true c15
         clear c15
         obtain⟨E,ar,H⟩:=ob H
         by_cases c17:E=(-1)
         ·rw[if_pos c17]at H
          have Y:=beq_iff_eq.mpr c17
          have Z:=bne_eq_false_iff_eq.mpr c17
          clear c17
          obtain rfl:=Option.some.inj H;clear H
          have n:0≤(d:Int):=od
          have o:d<(a.length:Int):=od
          obtain⟨ab,G,m⟩:=Kd.at_int O.out d n o
          cases G
          replace m:=hc HB m
          replace n:=eq_true n
          replace o:=eq_true o
          go_wp2_with (first|(refine gl (some 45) Tryz.func127 #[.int .i64 (l0.length:Int), .int .i64 (rd a d)] rfl ?_;(with_reducible refine(dF.calls (l0.length:Int) (rd a d) E _ ar.out).mono ?_);rintro e w' ⟨rfl,⟨nd,rfl⟩⟩;refine⟨_,rfl, ?_⟩))
          go_ret
          exact fin
         rw[if_neg c17]at H
         have Y:=beq_eq_false_iff_ne.mpr c17
         have Z:=bne_iff_ne.mpr c17
         have H' :=Aside0.mk H
         clear H
         have n:0≤(d:Int):=od
         have o:d<(a.length:Int):=od
         obtain⟨ab,G,m⟩:=Kd.at_int O.out d n o
         cases G
         replace m:=hc HB m
         replace n:=eq_true n
         replace o:=eq_true o
         go_wp2_with (first|(refine gl (some 45) Tryz.func127 #[.int .i64 (l0.length:Int), .int .i64 (rd a d)] rfl ?_;(with_reducible refine(dF.calls (l0.length:Int) (rd a d) E _ ar.out).mono ?_);rintro e w' ⟨rfl,⟨nd,rfl⟩⟩;refine⟨_,rfl, ?_⟩))
         go_roundg k2
         case measure=>have:=P.out;have:=T.out;omega
         case rel=>exact⟨(wrap64 (d+1)),(by first|rfl|(simp;done)|(simp[*];done)),H',⟨by have:=P.out;have:=T.out;omega⟩,kk g,⟨bl⟩⟩
        rw[if_neg c15]at H
        exact absurd H (by simp)
       rw[if_neg c14]at H
       exact absurd H (by simp)
      rw[if_neg c13]at H
      have X:decide (d<(a.length:Int))=false:=decide_eq_false c13
      clear c13
      have H' :=Aside0.mk H
      clear H
      have:=cf3 g
      go_wp2
      go_loopg [51] k2 (fun kq v51 w' => ∃(c:Int),v51= .int .i64 c∧Aside0 (bE.l1 kq l0 b (b.length:Int) c=some r)∧Aside0 (kq≤k2)∧Aside0 (w'.heap[D]? =some (.cells #[.bool true,(.slice q a.length s),(.slice t b.length u)] 57 (0,0)))∧Aside0 (Below w.heap.size w w'))
      case atStart=>exact⟨(0),(by first|rfl|(simp;done)|(simp[*];done)),H',⟨Nat.le_refl _⟩,kk g,⟨bl⟩⟩
      case round=>
       clear H'
       obtain⟨c,rfl,HA,aw,g,HB⟩:=hrel
       cases gk with
       |zero=>exact absurd HA.out (by simp[bE.l1])
       | succ k3=>
        have H:=HA.out
        clear HA
        simp only[bE.l1]at H
        by_cases c19:c<(b.length:Int)
        ·rw [if_pos c19]at H
         have ac:decide (c<(b.length:Int))=true:=decide_eq_true c19
         clear c19
         by_cases c20:0≤c
         ·rw[if_pos c20]at H
          have aS:decide (0≤c)=true:=decide_eq_true c20
          clear c20
          by_cases c21:c<(b.length:Int)
          ·rw[if_pos c21]at H
           have a0:decide (c<(b.length:Int))=true:=decide_eq_true c21
           clear c21
           by_cases z:(rd b c)=0
           ·rw[if_pos z]at H
            have ad:=beq_iff_eq.mpr z
            have al:=bne_eq_false_iff_eq.mpr z
            clear z
            obtain rfl:=Option.some.inj H;clear H
            have j:0≤(c:Int):=od
            have l:c<(b.length:Int):=od
            obtain⟨U,A,i⟩:=Kd.at_int B.out c j l
            cases A
            replace i:=hc HB i
            replace j:=eq_true j
            replace l:=eq_true l
            go_wp2
            go_ret
            exact fin
           rw[if_neg z]at H
           have ad:=beq_eq_false_iff_ne.mpr z
           have al:=bne_iff_ne.mpr z
           obtain⟨I,aB,H⟩:=ob H
           by_cases c24:I=(-1)
           ·rw[if_pos c24]at H
            have am:=beq_iff_eq.mpr c24
            have an:=bne_eq_false_iff_eq.mpr c24
            clear c24
            obtain rfl:=Option.some.inj H;clear H
            have j:0≤(c:Int):=od
            have l:c<(b.length:Int):=od
            obtain⟨U,A,i⟩:=Kd.at_int B.out c j l
            cases A
            replace i:=hc HB i
            replace j:=eq_true j
            replace l:=eq_true l
            go_wp2_with (first|(go_at_call 127;(with_reducible refine(dF.calls (l0.length:Int) (rd b c) I _ aB.out).mono ?_);rintro e w' ⟨rfl,⟨nd,rfl⟩⟩))
            go_ret
            exact fin
           rw[if_neg c24]at H
           have am:=beq_eq_false_iff_ne.mpr c24
           have an:=bne_iff_ne.mpr c24
           have H' :=Aside0.mk H
           clear H
           have j:0≤(c:Int):=od
           have l:c<(b.length:Int):=od
           obtain⟨U,A,i⟩:=Kd.at_int B.out c j l
           cases A
           replace i:=hc HB i
           replace j:=eq_true j
           replace l:=eq_true l
           go_wp2_with (first|(go_at_call 127;(with_reducible refine(dF.calls (l0.length:Int) (rd b c) I _ aB.out).mono ?_);rintro e w' ⟨rfl,⟨nd,rfl⟩⟩))
           go_roundg k3
           case measure=>have:=P.out;have:=T.out;have:=aw.out;omega
           case rel=>exact⟨(wrap64 (c+1)),(by first|rfl|(simp;done)|(simp[*];done)),H',⟨by have:=P.out;have:=T.out;have:=aw.out;omega⟩,kk g,⟨bl⟩⟩
          rw[if_neg c21]at H
          exact absurd H (by simp)
         rw[if_neg c20]at H
         exact absurd H (by simp)
        rw[if_neg c19]at H
        have ac:decide (c<(b.length:Int))=false:=decide_eq_false c19
        clear c19
        obtain rfl:=Option.some.inj H;clear H
        go_wp2
        go_ret
        exact fin
 replace c4:=Bool.eq_false_iff.mpr c4
 subst c4
 replace H:=ie H
 by_cases v:(a.length:Int)=0
 ·rw[if_pos v]at H
  have ao:=beq_iff_eq.mpr v
  have ap:=bne_eq_false_iff_eq.mpr v
  clear v
  obtain rfl:=Option.some.inj H;clear H
  go_enter Tryz.func68,Tryz.ntmps68
  go_wp2
  go_ret
  exact fin
 rw[if_neg v]at H
 have ao:=beq_eq_false_iff_ne.mpr v
 have ap:=bne_iff_ne.mpr v
 have a2: ¬(a= []):=fun h_=>v (by rw[h_];rfl)
 obtain rfl:=Option.some.inj H;clear H
 go_enter Tryz.func68,Tryz.ntmps68
 go_wp2
 go_ret
 exact fin
end Go.Proofs.YteinbmkgenhocaaGreat.P
end
