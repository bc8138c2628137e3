/- A part of the claim FnExactShapeStart: texts of this session and texts that its program printed out of the translation, joined. -/
import Derived.Test.YteinbmkgenhocaaCFnExactShapeStart30
section
namespace Go.Proofs.Yteinbmkgenhocaa.P
open Go.RowKit Go.Proofs.YteinbmkgenhocaaW.PrintWords Go.Proofs.YteinbmkgenhocaaW.PrintLast Go.Proofs.YteinbmkgenhocaaW.PrintMore
attribute [local go_sem] ak au aA aC ai aj av ax
set_option linter.unusedVariables false
set_option linter.unusedSimpArgs false
def bK.T3:Bool×List (List Nat×List Nat):=(true, [([], []),([], []),([], []),([1,2], [1,2]),([3], [3]),([4], [4]),([0,5], [0,5]),([], []),([], []),([7,8], [7,8]),([9], [9]),([10], [10]),([6,11,6], [6,11]),([12,12,0,1,2,3,4,5,6,7,8,9,10,11,12], [12])])
def bK.B3:List Nat:= [0,0,0,6,14,30,63,0,0,384,896,1920,4095,8191]
theorem bK.tab3:ed .any (opsOf Try.f82 3)=bK.T3:=by kernel_rfl
theorem bK.bits3:eP bK.T3.2 bK.B3=true:=by kernel_rfl
set_option maxHeartbeats 8000000 in
set_option maxRecDepth 100000 in
theorem bK.calls (k:Nat): ∀(A0:Option Addr) (c0:Nat) (l0:List (S71)) (a1:Int) (r:List Int) (w:World) (hr0:Kd.C k71 w A0 l0.length l0) (hc0:l0.length≤c0) (h:bK.f k l0 a1=some r),
  Calls Try.prog 82 #[.slice A0 l0.length c0, .int .i64 a1] w fun e w' => ∃T:Value,e= .returned (T)∧Kd.R (Kd.int .i64) 3 w' w.heap.size (fun _=>True) T r∧Below w.heap.size w w' :=by
 induction k using Nat.strongRecOn with
 |_ k ih=>
 intro A0 c0 l0 a1 r w hr0 hc0 h
 cases k with
 |zero=>exact absurd h (by simp[bK.f])
 |succ k=>
 simp only[bK.f]at h
 have J:=Aside0.mk hr0
 have ao:=Aside0.mk hc0
 clear hr0 hc0
 have HB:=Aside0.mk (Below.refl w.heap.size w)
 have H:(if a1=0 then(some ([]:List Int))else(if 0≤a1 then(if a1<(l0.length:Int)then((bK.f k l0 ((aD l0 a1).f0)).bind fun p=>(if p.length+((aD l0 a1).f1).length<17592186044416 then(some (p++((aD l0 a1).f1)))else(none)))else(none))else(none)))=some r:=h
 clear h
 by_cases c3:a1=0
 ·rw[if_pos c3]at H
  have X:=beq_iff_eq.mpr c3
  have Y:=bne_eq_false_iff_eq.mpr c3
  clear c3
  obtain rfl:=Option.some.inj H;clear H
  go_enter Try.func82,Try.ntmps82
  go_wp2
  go_ret
  exact⟨_,by first|rfl|(simp[aY,aZ]<;>rfl)|(simp[*,aY,aZ]<;>rfl),by first|exact Kd.R_nil _ _ _ _ _|exact Kd.N_nil _ _ _ _ _|exact Kd.V_nil _ _ _ _ _|exact Kd.Q_nil _ _ _ _ _|exact Kd.S_nil _ _ _ _ _,bl⟩
 ·rw [if_neg c3]at H
  have X:=beq_eq_false_iff_ne.mpr c3
  have Y:=bne_iff_ne.mpr c3
  by_cases c4:0≤a1
  ·rw[if_pos c4]at H
   have ar:decide (0≤a1)=true:=decide_eq_true c4
   clear c4
   by_cases c5:a1<(l0.length:Int)
   ·rw[if_pos c5]at H
    have aw:decide (a1<(l0.length:Int))=true:=decide_eq_true c5
    clear c5
    obtain⟨p,A6,H⟩:=ob H
    by_cases c7:p.length+((aD l0 a1).f1).length<17592186044416
    ·rw[if_pos c7]at H
     have Z:=Aside0.mk c7
     clear c7
     obtain⟨ab,q⟩: ∃y_:List Int,y_=(p++((aD l0 a1).f1)):=⟨_,rfl⟩
     replace H:(some ab)=some r:=by first|(rw[q];with_reducible exact H)|(have L:=(Option.bind_some _ _).symm.trans H;rw[q];with_reducible exact L)|(have L:=(Option.bind_some _ _).symm.trans H;with_reducible exact L)|with_reducible exact H|(rw[q];exact H)|exact H
     have M:=Aside0.mk q
     clear q
     obtain rfl:=Option.some.inj H;clear H
     go_enter Try.func82,Try.ntmps82
     try go_wp2
     replace HB:=Aside0.mk (aW HB.out)
     have A:0≤(a1:Int):=od
     have B:a1<(l0.length:Int):=od
     obtain⟨g,y,z,ac,m,j,s,t⟩:=fV J.out a1 A B
     have a:=j
     have b:=m
     cases ac
     obtain⟨m,j⟩:=hc2 HB m j
     have I:=Aside0.mk t
     have am:=Aside0.mk s
     clear t s
     replace A:=eq_true A
     replace B:=eq_true B
     have D:0≤(a1:Int):=od
     have E:a1<(l0.length:Int):=od
     obtain⟨O,ap,aq,ad,o,l,u,v⟩:=fV J.out a1 D E
     have c:=l
     have d:=o
     obtain rfl:g=O:=(by injection ad)
     obtain⟨o,l⟩:=hc2 HB o l
     have x:=Aside0.mk v
     have an:=Aside0.mk u
     clear v u
     replace D:=eq_true D
     replace E:=eq_true E
     have ea_:=Option.some.inj (j.symm.trans l)
     injection ea_ with ea_ en_ ec_
     subst ea_
     subst ec_
     clear en_
     refine dX (n:=14) (S:=fun w' =>w'.cell? (g.add ((a1).toNat * 2))=some (.int .i64 ((aD l0 a1).f0))∧w'.cell? ⟨(g.add ((a1).toNat * 2)).block,(g.add ((a1).toNat * 2)).off+1,none⟩=some (.slice y ((aD l0 a1).f1).length z)∧w'.cell? (g.add ((a1).toNat * 2))=some (.int .i64 ((aD l0 a1).f0))∧w'.cell? ⟨(g.add ((a1).toNat * 2)).block,(g.add ((a1).toNat * 2)).off+1,none⟩=some (.slice y ((aD l0 a1).f1).length z)) (ds:= []) #[false,false,false,false,false,false,false,false,false,false,false,false,false,false] (by kernel_rfl) rfl rfl ⟨((HB.out.cell (World.block_lt_of_cell? w _ b)).trans b),((HB.out.cell (World.block_lt_of_cell? w _ a)).trans a),((HB.out.cell (World.block_lt_of_cell? w _ d)).trans d),((HB.out.cell (World.block_lt_of_cell? w _ c)).trans c)⟩ (fun hHeld=> ?_);refine dH bK.tab3 bK.bits3 (fun HT_ HW_=> ?_)
     generalize w.drew=w8 at HB I x m j o l hHeld⊢
     refine pu 0 7 #[true,false,false,false,false,false,false,false,false,false,false,false,false,false] HT_ rfl rfl ?_
     refine pu 1 8 #[true,true,false,false,false,false,false,false,false,false,false,false,false,false] HT_ rfl rfl ?_
     refine pu 2 9 #[true,true,true,false,false,false,false,false,false,false,false,false,false,false] HT_ rfl rfl ?_
     refine pu 3 10 #[true,true,true,true,false,false,false,false,false,false,false,false,false,false] HT_ rfl rfl ?_
     refine pu 4 11 #[true,true,true,true,true,false,false,false,false,false,false,false,false,false] HT_ rfl rfl ?_
     refine pu 7 14 #[true,true,true,true,true,false,false,true,false,false,false,false,false,false] HT_ rfl rfl ?_
     refine pu 8 15 #[true,true,true,true,true,false,false,true,true,false,false,false,false,false] HT_ rfl rfl ?_
     refine pu 9 16 #[true,true,true,true,true,false,false,true,true,true,false,false,false,false] HT_ rfl rfl ?_
     refine pu 10 17 #[true,true,true,true,true,false,false,true,true,true,true,false,false,false] HT_ rfl rfl ?_
     refine ta 5 12 #[true,true,true,true,true,true,false,true,true,true,true,false,false,false] HT_ HW_ hHeld rfl rfl ?_
     refine ta 11 18 #[true,true,true,true,true,true,false,true,true,true,true,true,false,false] HT_ HW_ hHeld rfl rfl ?_
     refine fo (i:=6) (N:=some 13) #[true,true,true,true,true,true,true,true,true,true,true,true,false,false] rfl rfl (dU HT_.out (by kernel_rfl)) (by decide) (fun K hK=> ?_)
     refine gs Try.func82 #[.slice (some g) l0.length c0, .int .i64 ((aD l0 a1).f0)] rfl rfl ?_
     with_reducible refine(ih k (by omega) _ _ l0 ((aD l0 a1).f0) p _ ?s1 ?s2 A6.out).mono ?_
     (case s1=>exact cb J.out)
     (case s2=>exact ao.out)
     rintro e w9 ⟨al,rfl,ho0,hb⟩
     refine⟨_,rfl, ?_⟩
     have G:=Aside0.mk (Kd.R_lower ho0 (aK bl))
     replace HB:=hs HB hb
     (try clear hb)
     (try clear hb2)
     (try clear hk)
     (try clear hi)
     (try clear ho0)
     refine hK.out _ _ ⟨((HB.out.cell (World.block_lt_of_cell? w _ b)).trans b),((HB.out.cell (World.block_lt_of_cell? w _ a)).trans a),((HB.out.cell (World.block_lt_of_cell? w _ d)).trans d),((HB.out.cell (World.block_lt_of_cell? w _ c)).trans c)⟩ (fun hHeld=> ?_)
     clear hK K
     refine no 13 ?_
     refine fo (i:=12) (N:=some 19) #[true,true,true,true,true,true,true,true,true,true,true,true,true,false] rfl rfl (dU HT_.out (by kernel_rfl)) (by decide) (fun K hK=> ?_)
     refine Kd.R_append_rows_step (Kd.int .i64) (w0:=w) w.heap.size (by rfl) (.tmp 13) (.tmp 18) 27 3 (.int .i64 0) 8 rfl Try.underlying27 info3 rfl (by decide) (by omega) al p ((aD l0 a1).f1) _ _ _ (fun _=>True) (fun _=>False) rfl rfl ?aO ?aR (fun _ _ h=>h) (fun _ h=>h.elim) ?aF ?aB ?aS ?aL ?_
     (case aR=>repeat(first|exact(Kd.C_below x.out HB.out)|(with_reducible refine Kd.C_alloc ?_ _)|(with_reducible refine Kd.C_drewN ?_ _)|(with_reducible refine Kd.C_drew ?_)))
     (case aB=>exact bl)
     (case aF=>exact(fun _ _=>trivial))
     (case aO=>exact(by(with_reducible repeat(first|apply Kd.R_alloc|apply Kd.R_drewN|apply Kd.R_drew));exact G.out))
     (case aS=>exact(aK bl))
     (case aL=>have:=Z.out;omega)
     intro aE aP ho hb hg hat
     rw[←M.out]at ho
     have U:=Aside0.mk (hb)
     have W:=Aside0.mk (ho)
     clear HB
     clear G
     have HB:=U
     have P:=W
     clear U W
     clear ho hb hg hat
     refine hK.out _ _ ⟨((HB.out.cell (World.block_lt_of_cell? w _ b)).trans b),((HB.out.cell (World.block_lt_of_cell? w _ a)).trans a),((HB.out.cell (World.block_lt_of_cell? w _ d)).trans d),((HB.out.cell (World.block_lt_of_cell? w _ c)).trans c)⟩ (fun hHeld=> ?_)
     clear hK K
     refine no 19 ?_
     refine pu 13 4 #[true,true,true,true,true,true,true,true,true,true,true,true,true,true] HT_ rfl rfl ?_
     refine eT (dR HT_.out (by kernel_rfl)) ?_
     try go_wp2
     go_ret
     exact⟨_,by first|rfl|(simp[aY,aZ]<;>rfl)|(simp[*,aY,aZ]<;>rfl),by(with_reducible repeat(first|apply Kd.R_alloc|apply Kd.R_drewN|apply Kd.R_drew));exact P.out,bl⟩
    ·rw[if_neg c7]at H
     exact absurd H (by simp)
   ·rw[if_neg c5]at H
    exact absurd H (by simp)
  ·rw[if_neg c4]at H
   exact absurd H (by simp)
set_option maxHeartbeats 8000000 in
set_option maxRecDepth 100000 in
theorem dL.calls (k:Nat) (v:Option Addr) (x:Nat) (d:List (S71)) (an:Option Addr) (ao:Nat) (c:List (S50)) (ap:Int) (aq:Int) (ar:Option Addr) (aw:Nat) (n:List Int) (aB:Int) (y:Int) (aE:Option Addr) (aF:Nat) (g:List (S97)) (aL:Option Addr) (aO:Nat) (o:List (S29)) (aP:Option Addr) (aR:Nat) (p:List (S102)) (aS:Int) (q:Int) (a0:Int) (a3:Int) (a4:Int) (r:Bool) (w:World) (a8:Kd.C k71 w v d.length d) (a9:d.length≤x) (ba:Kd.C k50 w an c.length c) (bb:c.length≤ao) (bc:Kd.C (Kd.int .i64) w ar n.length n) (bd:n.length≤aw) (be:Kd.C k97 w aE g.length g) (bh:g.length≤aF) (bj:Kd.C k29 w aL o.length o) (bk:o.length≤aO) (bm:Kd.C dQ w aP p.length p) (bo:p.length≤aR) (h:dL.f k d c ap aq n aB y g o p aS q a0 a3 a4=some r):
  Calls Try.prog 62 #[.agg #[.slice v d.length x, .slice an c.length ao], .agg #[.int .i64 ap, .int .i64 aq, .slice ar n.length aw, .int .i64 aB, .int .i64 y, .slice aE g.length aF, .slice aL o.length aO, .slice aP p.length aR], .agg #[.int .i64 aS, .int .i64 q, .int .i64 a0], .int .i64 a3, .int .i64 a4] w fun e w' =>e= .returned (.bool r)∧Below w.heap.size w w' :=by
 have d3:=Try.underlying34
 have d4:=Try.underlying50
 have d5:=Try.underlying97
 have bp:=Aside0.mk a8
 have br:=Aside0.mk a9
 clear a8 a9
 have bw:=Aside0.mk ba
 have da:=Aside0.mk bb
 clear ba bb
 have db:=Aside0.mk bc
 have dc:=Aside0.mk bd
 clear bc bd
 have dd:=Aside0.mk be
 have de:=Aside0.mk bh
 clear be bh
 have dg:=Aside0.mk bj
 have dj:=Aside0.mk bk
 clear bj bk
 have dk:=Aside0.mk bm
 have dl:=Aside0.mk bo
 clear bm bo
 have HB:=Aside0.mk (Below.refl w.heap.size w)
 have H:(if a3=1 then((ic.f a4).bind fun a1=>(some a1))else(if a3=2 then(if a4≥0 then(some (decide (a4<y)))else(some false))else(if a3=3 then(if a4≥1 then(some (decide (a4≤4)))else(some false))else(if a3=4 then(if a4≥0 then(some (decide (a4<(g.length:Int))))else(some false))else(if a3=5 then((dG.f d a4).bind fun a2=>(some a2))else(if a3=6 then(if a4=0 then(some true)else(some (a4==1)))else(if a3=7 then(if a4≥0 then(if a4<(c.length:Int)then(if 0≤a4 then(some (((aa c a4).f0)==(-1)))else(none))else(some false))else(some false))else(if a3=8 then(if a4≥0 then((bK.f k d q).bind fun a5=>(some (decide (a4<(a5.length:Int)))))else(some false))else(if a3=9 then(if a4≥0 then(some (decide (a4<3)))else(some false))else(some (a4==0)))))))))))=some r:=h
 clear h
 by_cases c6:a3=1
 ·rw[if_pos c6]at H
  have cD:=beq_iff_eq.mpr c6
  have cE:=bne_eq_false_iff_eq.mpr c6
  clear c6
  obtain⟨a1,A7,H⟩:=ob H
  obtain rfl:=Option.some.inj H;clear H
  go_enter Try.func62,Try.ntmps62
  go_wp2_with (first|((with_reducible refine gc 81 rfl ?_);refine gl (some 15) Try.func81 #[.int .i64 a4] rfl ?_;(with_reducible refine(ic.calls a4 a1 _ A7.out).mono ?_);rintro e w' ⟨rfl,⟨nd,rfl⟩⟩;refine⟨_,rfl, ?_⟩))
  go_ret
  exact fin
 ·rw [if_neg c6]at H
  have cD:=beq_eq_false_iff_ne.mpr c6
  have cE:=bne_iff_ne.mpr c6
  by_cases c11:a3=2
  ·rw[if_pos c11]at H
   have b0:=beq_iff_eq.mpr c11
   have b1:=bne_eq_false_iff_eq.mpr c11
   clear c11
   by_cases c12:a4≥0
   ·rw[if_pos c12]at H
    have b2:decide (0≤a4)=true:=decide_eq_true c12
    clear c12
    obtain rfl:=Option.some.inj H;clear H
    go_enter Try.func62,Try.ntmps62
    go_wp2
    go_ret
    exact fin
   ·rw[if_neg c12]at H
    have b2:decide (0≤a4)=false:=decide_eq_false c12
    clear c12
    obtain rfl:=Option.some.inj H;clear H
    go_enter Try.func62,Try.ntmps62
    go_wp2
    go_ret
    exact fin
  ·rw [if_neg c11]at H
   have b0:=beq_eq_false_iff_ne.mpr c11
   have b1:=bne_iff_ne.mpr c11
   by_cases z:a3=3
   ·rw[if_pos z]at H
    have b3:=beq_iff_eq.mpr z
    have b4:=bne_eq_false_iff_eq.mpr z
    clear z
    by_cases c23:a4≥1
    ·rw[if_pos c23]at H
     have b5:decide (1≤a4)=true:=decide_eq_true c23
     clear c23
     obtain rfl:=Option.some.inj H;clear H
     go_enter Try.func62,Try.ntmps62
     go_wp2
     go_ret
     exact fin
    ·rw[if_neg c23]at H
     have b5:decide (1≤a4)=false:=decide_eq_false c23
     clear c23
     obtain rfl:=Option.some.inj H;clear H
     go_enter Try.func62,Try.ntmps62
     go_wp2
     go_ret
     exact fin
   ·rw [if_neg z]at H
    have b3:=beq_eq_false_iff_ne.mpr z
    have b4:=bne_iff_ne.mpr z
    by_cases A:a3=4
    ·rw[if_pos A]at H
     have b6:=beq_iff_eq.mpr A
     have b7:=bne_eq_false_iff_eq.mpr A
     clear A
     by_cases c31:a4≥0
     ·rw[if_pos c31]at H
      have b8:decide (0≤a4)=true:=decide_eq_true c31
      clear c31
      obtain rfl:=Option.some.inj H;clear H
      go_enter Try.func62,Try.ntmps62
      go_wp2
      go_ret
      exact fin
     ·rw[if_neg c31]at H
      have b8:decide (0≤a4)=false:=decide_eq_false c31
      clear c31
      obtain rfl:=Option.some.inj H;clear H
      go_enter Try.func62,Try.ntmps62
      go_wp2
      go_ret
      exact fin
    ·rw [if_neg A]at H
     have b6:=beq_eq_false_iff_ne.mpr A
     have b7:=bne_iff_ne.mpr A
     by_cases B:a3=5
     ·rw[if_pos B]at H
      have b9:=beq_iff_eq.mpr B
      have ca:=bne_eq_false_iff_eq.mpr B
      clear B
      obtain⟨a2,cR,H⟩:=ob H
      obtain rfl:=Option.some.inj H;clear H
      go_enter Try.func62,Try.ntmps62
      go_wp2_with (first|((with_reducible refine gc 61 rfl ?_);refine gl (some 50) Try.func61 #[.slice v d.length x, .int .i64 a4] rfl ?_;(with_reducible refine(dG.calls _ _ d a4 a2 _ ?s1 ?s2 cR.out).mono ?_);(case s1=>exact cb bp.out);(case s2=>exact br.out);rintro e w' ⟨rfl,⟨nd,rfl⟩⟩;refine⟨_,rfl, ?_⟩))
      go_ret
      exact fin
     ·rw [if_neg B]at H
      have b9:=beq_eq_false_iff_ne.mpr B
      have ca:=bne_iff_ne.mpr B
      by_cases c49:a3=6
      ·rw[if_pos c49]at H
       have cc:=beq_iff_eq.mpr c49
       have cd:=bne_eq_false_iff_eq.mpr c49
       clear c49
       by_cases D:a4=0
       ·rw[if_pos D]at H
        have ce:=beq_iff_eq.mpr D
        have cf:=bne_eq_false_iff_eq.mpr D
        clear D
        obtain rfl:=Option.some.inj H;clear H
        go_enter Try.func62,Try.ntmps62
        go_wp2
        go_ret
        exact fin
       ·rw[if_neg D]at H
        have ce:=beq_eq_false_iff_ne.mpr D
        have cf:=bne_iff_ne.mpr D
        obtain rfl:=Option.some.inj H;clear H
        go_enter Try.func62,Try.ntmps62
        go_wp2
        go_ret
        exact fin
      ·rw [if_neg c49]at H
       have cc:=beq_eq_false_iff_ne.mpr c49
       have cd:=bne_iff_ne.mpr c49
       by_cases E:a3=7
       ·rw [if_pos E]at H
        have cg:=beq_iff_eq.mpr E
        have ch:=bne_eq_false_iff_eq.mpr E
        clear E
        by_cases I:a4≥0
        ·rw[if_pos I]at H
         have ci:decide (0≤a4)=true:=decide_eq_true I
         clear I
         by_cases c59:a4<(c.length:Int)
         ·rw[if_pos c59]at H
          have cj:decide (a4<(c.length:Int))=true:=decide_eq_true c59
          clear c59
          by_cases bs:0≤a4
          ·rw[if_pos bs]at H
           have dp:decide (0≤a4)=true:=decide_eq_true bs
           clear bs
           obtain rfl:=Option.some.inj H;clear H
           go_enter Try.func62,Try.ntmps62
           go_wp2_with (first|((with_reducible refine gd 5 rfl ?_);(try(refine aN (by rfl) ?_;dsimp only));refine bx 5 #[.slice v d.length x, .slice an c.length ao] 34 ?_;intro ck hg ea hbox hb;have a:=Aside0.mk hbox;have cl:=hz HB hg;have cm:=hz HB hg;replace HB:=hs HB hb;clear hb hbox hg)|((with_reducible refine gd 6 rfl ?_);(try(refine aN (by rfl) ?_;dsimp only));refine bx 6 #[.int .i64 ap, .int .i64 aq, .slice ar n.length aw, .int .i64 aB, .int .i64 y, .slice aE g.length aF, .slice aL o.length aO, .slice aP p.length aR] 50 ?_;intro cn hg eb hbox hb;have b:=Aside0.mk hbox;have co:=hz HB hg;have cp:=hz HB hg;have i:=nl a hg;have j:=ng a hg;replace a:=kb a hb;replace HB:=hs HB hb;clear hb hbox hg)|((with_reducible refine gd 7 rfl ?_);(try(refine aN (by rfl) ?_;dsimp only));refine bx 7 #[.int .i64 aS, .int .i64 q, .int .i64 a0] 97 ?_;intro cq hg ec hbox hb;have u:=Aside0.mk hbox;have cr:=hz HB hg;have cs:=hz HB hg;have l:=nl a hg;have m:=ng a hg;have s:=nl b hg;have t:=ng b hg;replace a:=kb a hb;replace b:=kb b hb;replace HB:=hs HB hb;clear hb hbox hg;have dq:=i.out;have dr:=j.out;have ds:=l.out;have dt:=m.out;obtain⟨_,_,_,_⟩:=cf2 a;have a6:0≤(a4:Int):=od;have a7:a4<(c.length:Int):=od;obtain⟨du,cS,cT,cU,cV,cW,cX,cY,c0,cF,J,K,L,M,O,P,T,U,W,X,Y,Z,ab,ac,ad,al⟩:=dx bw.out a4 a6 a7;cases cF;obtain⟨J,K,L,M,O,P,T,U⟩:=hc8 HB J K L M O P T U;have cH:=Aside0.mk X;have cI:=Aside0.mk W;clear X W;have cJ:=Aside0.mk Z;have cL:=Aside0.mk Y;clear Z Y;have cM:=Aside0.mk ac;have cN:=Aside0.mk ab;clear ac ab;have cP:=Aside0.mk al;have cQ:=Aside0.mk ad;clear al ad;replace a6:=eq_true a6;replace a7:=eq_true a7))
           go_ret
           exact fin
          ·rw[if_neg bs]at H
           exact absurd H (by simp)
         ·rw[if_neg c59]at H
          have cj:decide (a4<(c.length:Int))=false:=decide_eq_false c59
          clear c59
          obtain rfl:=Option.some.inj H;clear H
          go_enter Try.func62,Try.ntmps62
          go_wp2
          go_ret
          exact fin
        ·rw[if_neg I]at H
         have ci:decide (0≤a4)=false:=decide_eq_false I
         clear I
         obtain rfl:=Option.some.inj H;clear H
         go_enter Try.func62,Try.ntmps62
         go_wp2
         go_ret
         exact fin
       ·rw [if_neg E]at H
        have cg:=beq_eq_false_iff_ne.mpr E
        have ch:=bne_iff_ne.mpr E
        by_cases c76:a3=8
        ·rw[if_pos c76]at H
         have ct:=beq_iff_eq.mpr c76
         have cv:=bne_eq_false_iff_eq.mpr c76
         clear c76
         by_cases am:a4≥0
         ·rw[if_pos am]at H
          have cw:decide (0≤a4)=true:=decide_eq_true am
          clear am
          obtain⟨a5,c1,H⟩:=ob H
          obtain rfl:=Option.some.inj H;clear H
          go_enter Try.func62,Try.ntmps62
          go_wp2_with (first|((with_reducible refine gd 5 rfl ?_);(try(refine aN (by rfl) ?_;dsimp only));refine bx 5 #[.slice v d.length x, .slice an c.length ao] 34 ?_;intro ck hg ee hbox hb;have a:=Aside0.mk hbox;have cl:=hz HB hg;have cm:=hz HB hg;replace HB:=hs HB hb;clear hb hbox hg)|((with_reducible refine gd 6 rfl ?_);(try(refine aN (by rfl) ?_;dsimp only));refine bx 6 #[.int .i64 ap, .int .i64 aq, .slice ar n.length aw, .int .i64 aB, .int .i64 y, .slice aE g.length aF, .slice aL o.length aO, .slice aP p.length aR] 50 ?_;intro cn hg ef hbox hb;have b:=Aside0.mk hbox;have co:=hz HB hg;have cp:=hz HB hg;have i:=nl a hg;have j:=ng a hg;replace a:=kb a hb;replace HB:=hs HB hb;clear hb hbox hg)|((with_reducible refine gd 7 rfl ?_);(try(refine aN (by rfl) ?_;dsimp only));refine bx 7 #[.int .i64 aS, .int .i64 q, .int .i64 a0] 97 ?_;intro cq hg eg hbox hb;have u:=Aside0.mk hbox;have cr:=hz HB hg;have cs:=hz HB hg;have l:=nl a hg;have m:=ng a hg;have s:=nl b hg;have t:=ng b hg;replace a:=kb a hb;replace b:=kb b hb;replace HB:=hs HB hb;clear hb hbox hg;have dv:=i.out;have dy:=j.out;have dT:=l.out;have d0:=m.out;obtain⟨_,_,_,_⟩:=cf2 a;have d1:=t.out;have d2:=s.out;obtain⟨_,_,_,_,_,_⟩:=cf3 u)|(go_at_call 82;(with_reducible refine(bK.calls k _ _ d q a5 _ ?s1 ?s2 c1.out).mono ?_);(case s1=>exact cb bp.out);(case s2=>exact br.out);rintro e eh ⟨d6,rfl,ho0,hb⟩;have cx:=Aside0.mk (Kd.R_lower ho0 (aK bl));replace a:=kb a hb;replace b:=kb b hb;replace u:=kb u hb;replace HB:=hs HB hb;(try clear hb);(try clear ho0);obtain⟨d7,d8,cG⟩:=Kd.R_slice cx.out;subst cG))
          go_ret
          exact fin
         ·rw[if_neg am]at H
          have cw:decide (0≤a4)=false:=decide_eq_false am
          clear am
          obtain rfl:=Option.some.inj H;clear H
          go_enter Try.func62,Try.ntmps62
          go_wp2
          go_ret
          exact fin
        ·rw[if_neg c76]at H
         have ct:=beq_eq_false_iff_ne.mpr c76
         have cv:=bne_iff_ne.mpr c76
         by_cases G:a3=9
         ·rw[if_pos G]at H
          have cy:=beq_iff_eq.mpr G
          have cA:=bne_eq_false_iff_eq.mpr G
          clear G
          by_cases c93:a4≥0
          ·rw[if_pos c93]at H
           have cC:decide (0≤a4)=true:=decide_eq_true c93
           clear c93
           obtain rfl:=Option.some.inj H;clear H
           go_enter Try.func62,Try.ntmps62
           go_wp2
           go_ret
           exact fin
          ·rw[if_neg c93]at H
           have cC:decide (0≤a4)=false:=decide_eq_false c93
           clear c93
           obtain rfl:=Option.some.inj H;clear H
           go_enter Try.func62,Try.ntmps62
           go_wp2
           go_ret
           exact fin
         ·rw[if_neg G]at H
          have cy:=beq_eq_false_iff_ne.mpr G
          have cA:=bne_iff_ne.mpr G
          obtain rfl:=Option.some.inj H;clear H
          go_enter Try.func62,Try.ntmps62
          go_wp2
          go_ret
          exact fin
set_option maxHeartbeats 8000000 in
set_option maxRecDepth 100000 in
theorem bu.calls (k:Nat) (A0:Option Addr) (c0:Nat) (l0:List (S71)) (a1:Int) (p:Bool) (q:Option Addr) (s:Nat) (a:List Int) (t:Option Addr) (u:Nat) (b:List Int) (r:Bool) (w:World) (hr0:Kd.C k71 w A0 l0.length l0) (hc0:l0.length≤c0) (J:Kd.C (Kd.int .i64) w q a.length a) (K:a.length≤s) (L:Kd.C (Kd.int .i64) w t b.length b) (M:b.length≤u) (h:bu.f k l0 a1 p a b=some r):
  Calls Try.prog 63 #[.slice A0 l0.length c0, .int .i64 a1, .agg #[.bool p, .slice q a.length s, .slice t b.length u]] w fun e w' =>e= .returned (.bool r)∧Below w.heap.size w w' :=by
 have a4:=Try.underlying29
 have hkq:=rF
 have hkn:=rG
 have hkp:=pQ
 have hkr:=pR
 have a5:=Aside0.mk hr0
 have a6:=Aside0.mk hc0
 clear hr0 hc0
 have O:=Aside0.mk J
 have aF:=Aside0.mk K
 clear J K
 have B:=Aside0.mk L
 have aL:=Aside0.mk M
 clear L M
 have HB:=Aside0.mk (Below.refl w.heap.size w)
 have H:(if p=true then(if(a.length:Int)=a1 then(bu.j0 k l0 (decide ((b.length:Int)>4)) p a b)else(bu.j0 k l0 true p a b))else(if(a.length:Int)=0 then(some ((b.length:Int)==0))else(some false)))=some r:=h
 clear h
 by_cases c4:p=true
 ·subst c4
  replace H:=it H
  have W:=Aside0.mk H
  clear H
  go_enter Try.func63,Try.ntmps63
  go_upto_region 3 with(first|((with_reducible refine gd 5 rfl ?_);(try(refine aN (by rfl) ?_;dsimp only));refine bx 5 #[.bool true, .slice q a.length s, .slice t b.length u] 29 ?_;intro D hg w6 hbox hb;have g:=Aside0.mk hbox;have aO:=hz HB hg;have aP:=hz HB hg;replace HB:=hs HB hb;clear hb hbox hg;obtain⟨_,_,_,_,_,_⟩:=cf3 g))
  (try simp only[Act.put,List.setIfInBounds_toArray,List.set_cons_zero,List.set_cons_succ])
  go_cut [34] (fun v34 wc=> ∃(kq:Nat) (x:Bool),v34= .bool x∧Aside0 (bu.j0 kq l0 x true a b=some r)∧Aside0 (kq≤k)∧Aside0 (wc.heap[D]? =some (.cells #[.bool true,(.slice q a.length s),(.slice t b.length u)] 29 (0,0)))∧Aside0 (Below w.heap.size w wc))
  case first=>
   have H:=W.out
   clear W
   by_cases c8:(a.length:Int)=a1
   ·rw[if_pos c8]at H
    have y:=beq_iff_eq.mpr c8
    have aE:=bne_eq_false_iff_eq.mpr c8
    clear c8
    (first|rw[y]|(simp only[bT,bU];rw[y])|skip)
    have H' :=Aside0.mk H
    clear H
    obtain⟨_,_,_,_,_,_⟩:=cf3 g
    go_wp2
    go_meet
    case rel=>exact⟨_,(decide ((b.length:Int)>4)),(by first|rfl|(simp;done)|(simp[*];done)),H',⟨by first|omega|exact Nat.le_refl _⟩,kk g,⟨bl⟩⟩
   ·rw[if_neg c8]at H
    have y:=beq_eq_false_iff_ne.mpr c8
    have aE:=bne_iff_ne.mpr c8
    (first|rw[y]|(simp only[bT,bU];rw[y])|skip)
    have H' :=Aside0.mk H
    clear H
    obtain⟨_,_,_,_,_,_⟩:=cf3 g
    go_wp2
    go_meet
    case rel=>exact⟨_,(true),(by first|rfl|(simp;done)|(simp[*];done)),H',⟨by first|omega|exact Nat.le_refl _⟩,kk g,⟨bl⟩⟩
  case rest =>
   clear W
   obtain⟨kq,x,rfl,HA,P,g,HB⟩:=hcut
   cases kq with
   |zero=>exact absurd HA.out (by simp[bu.j0])
   | succ aq =>
    have H:=HA.out
    clear HA
    simp only[bu.j0]at H
    by_cases c11:x=true
    ·subst c11
     replace H:=it H
     obtain rfl:=Option.some.inj H;clear H
     go_wp2
     go_ret
     exact fin
    ·replace c11:=Bool.eq_false_iff.mpr c11
     subst c11
     replace H:=ie H
     have H' :=Aside0.mk H
     clear H
     obtain⟨_,_,_,_,_,_⟩:=cf3 g
     go_wp2
     go_loopg [38] aq (fun kq v38 w' => ∃(d:Int),v38= .int .i64 d∧Aside0 (bu.l0 kq l0 a (a.length:Int) d true a b=some r)∧Aside0 (kq≤aq)∧Aside0 (w'.heap[D]? =some (.cells #[.bool true,(.slice q a.length s),(.slice t b.length u)] 29 (0,0)))∧Aside0 (Below w.heap.size w w'))
     case atStart=>exact⟨(0),(by first|rfl|(simp;done)|(simp[*];done)),H',⟨Nat.le_refl _⟩,kk g,⟨bl⟩⟩
     case round=>
      clear H'
      obtain⟨d,rfl,HA,T,g,HB⟩:=hrel
      cases gk with
      |zero=>exact absurd HA.out (by simp[bu.l0])
      | succ k2=>
       have H:=HA.out
       clear HA
       simp only[bu.l0]at H
       by_cases c13:d<(a.length:Int)
       ·rw [if_pos c13]at H
        have X:decide (d<(a.length:Int))=true:=decide_eq_true c13
        clear c13
        by_cases c14:0≤d
        ·rw[if_pos c14]at H
         have aR:decide (0≤d)=true:=decide_eq_true c14
         clear c14
         by_cases c15:d<(a.length:Int)
         ·rw[if_pos c15]at H
          have aS:decide (d<(a.length:Int))=true:=decide_eq_true c15
          clear c15
          obtain⟨E,ar,H⟩:=ob H
          by_cases c17:E=(-1)
          ·rw[if_pos c17]at H
           have Y:=beq_iff_eq.mpr c17
           have Z:=bne_eq_false_iff_eq.mpr c17
           clear c17
           obtain rfl:=Option.some.inj H;clear H
           have n:0≤(d:Int):=od
           have o:d<(a.length:Int):=od
           obtain⟨ab,G,m⟩:=Kd.at_int O.out d n o
           cases G
           replace m:=hc HB m
           replace n:=eq_true n
           replace o:=eq_true o
           go_wp2_with (first|((with_reducible refine gc 80 rfl ?_);refine gl (some 45) Try.func80 #[.int .i64 (l0.length:Int), .int .i64 (rd a d)] rfl ?_;(with_reducible refine(dm.calls (l0.length:Int) (rd a d) E _ ar.out).mono ?_);rintro e w' ⟨rfl,⟨nd,rfl⟩⟩;refine⟨_,rfl, ?_⟩))
           go_ret
           exact fin
          ·rw[if_neg c17]at H
           have Y:=beq_eq_false_iff_ne.mpr c17
           have Z:=bne_iff_ne.mpr c17
           have H' :=Aside0.mk H
           clear H
           have n:0≤(d:Int):=od
           have o:d<(a.length:Int):=od
           obtain⟨ab,G,m⟩:=Kd.at_int O.out d n o
           cases G
           replace m:=hc HB m
           replace n:=eq_true n
           replace o:=eq_true o
           go_wp2_with (first|((with_reducible refine gc 80 rfl ?_);refine gl (some 45) Try.func80 #[.int .i64 (l0.length:Int), .int .i64 (rd a d)] rfl ?_;(with_reducible refine(dm.calls (l0.length:Int) (rd a d) E _ ar.out).mono ?_);rintro e w' ⟨rfl,⟨nd,rfl⟩⟩;refine⟨_,rfl, ?_⟩))
           go_roundg k2
           case measure=>have:=P.out;have:=T.out;omega
           case rel=>exact⟨(wrap64 (d+1)),(by first|rfl|(simp;done)|(simp[*];done)),H',⟨by have:=P.out;have:=T.out;omega⟩,kk g,⟨bl⟩⟩
         ·rw[if_neg c15]at H
          exact absurd H (by simp)
        ·rw[if_neg c14]at H
         exact absurd H (by simp)
       ·rw [if_neg c13]at H
        have X:decide (d<(a.length:Int))=false:=decide_eq_false c13
        clear c13
        have H' :=Aside0.mk H
        clear H
        obtain⟨_,_,_,_,_,_⟩:=cf3 g
        go_wp2
        go_loopg [51] k2 (fun kq v51 w' => ∃(c:Int),v51= .int .i64 c∧Aside0 (bu.l1 kq l0 b (b.length:Int) c=some r)∧Aside0 (kq≤k2)∧Aside0 (w'.heap[D]? =some (.cells #[.bool true,(.slice q a.length s),(.slice t b.length u)] 29 (0,0)))∧Aside0 (Below w.heap.size w w'))
        case atStart=>exact⟨(0),(by first|rfl|(simp;done)|(simp[*];done)),H',⟨Nat.le_refl _⟩,kk g,⟨bl⟩⟩
        case round=>
         clear H'
         obtain⟨c,rfl,HA,aw,g,HB⟩:=hrel
         cases gk with
         |zero=>exact absurd HA.out (by simp[bu.l1])
         | succ k3=>
          have H:=HA.out
          clear HA
          simp only[bu.l1]at H
          by_cases c19:c<(b.length:Int)
          ·rw [if_pos c19]at H
           have ac:decide (c<(b.length:Int))=true:=decide_eq_true c19
           clear c19
           by_cases c20:0≤c
           ·rw [if_pos c20]at H
            have a0:decide (0≤c)=true:=decide_eq_true c20
            clear c20
            by_cases c21:c<(b.length:Int)
            ·rw[if_pos c21]at H
             have a2:decide (c<(b.length:Int))=true:=decide_eq_true c21
             clear c21
             by_cases z:(rd b c)=0
             ·rw[if_pos z]at H
              have ad:=beq_iff_eq.mpr z
              have al:=bne_eq_false_iff_eq.mpr z
              clear z
              obtain rfl:=Option.some.inj H;clear H
              have j:0≤(c:Int):=od
              have l:c<(b.length:Int):=od
              obtain⟨U,A,i⟩:=Kd.at_int B.out c j l
              cases A
              replace i:=hc HB i
              replace j:=eq_true j
              replace l:=eq_true l
              go_wp2
              go_ret
              exact fin
             ·rw[if_neg z]at H
              have ad:=beq_eq_false_iff_ne.mpr z
              have al:=bne_iff_ne.mpr z
              obtain⟨I,aB,H⟩:=ob H
              by_cases c24:I=(-1)
              ·rw[if_pos c24]at H
               have am:=beq_iff_eq.mpr c24
               have an:=bne_eq_false_iff_eq.mpr c24
               clear c24
               obtain rfl:=Option.some.inj H;clear H
               have j:0≤(c:Int):=od
               have l:c<(b.length:Int):=od
               obtain⟨U,A,i⟩:=Kd.at_int B.out c j l
               cases A
               replace i:=hc HB i
               replace j:=eq_true j
               replace l:=eq_true l
               go_wp2_with (first|(go_at_call 80;(with_reducible refine(dm.calls (l0.length:Int) (rd b c) I _ aB.out).mono ?_);rintro e w' ⟨rfl,⟨nd,rfl⟩⟩))
               go_ret
               exact fin
              ·rw[if_neg c24]at H
               have am:=beq_eq_false_iff_ne.mpr c24
               have an:=bne_iff_ne.mpr c24
               have H' :=Aside0.mk H
               clear H
               have j:0≤(c:Int):=od
               have l:c<(b.length:Int):=od
               obtain⟨U,A,i⟩:=Kd.at_int B.out c j l
               cases A
               replace i:=hc HB i
               replace j:=eq_true j
               replace l:=eq_true l
               go_wp2_with (first|(go_at_call 80;(with_reducible refine(dm.calls (l0.length:Int) (rd b c) I _ aB.out).mono ?_);rintro e w' ⟨rfl,⟨nd,rfl⟩⟩))
               go_roundg k3
               case measure=>have:=P.out;have:=T.out;have:=aw.out;omega
               case rel=>exact⟨(wrap64 (c+1)),(by first|rfl|(simp;done)|(simp[*];done)),H',⟨by have:=P.out;have:=T.out;have:=aw.out;omega⟩,kk g,⟨bl⟩⟩
            ·rw[if_neg c21]at H
             exact absurd H (by simp)
           ·rw[if_neg c20]at H
            exact absurd H (by simp)
          ·rw[if_neg c19]at H
           have ac:decide (c<(b.length:Int))=false:=decide_eq_false c19
           clear c19
           obtain rfl:=Option.some.inj H;clear H
           go_wp2
           go_ret
           exact fin
 ·replace c4:=Bool.eq_false_iff.mpr c4
  subst c4
  replace H:=ie H
  by_cases v:(a.length:Int)=0
  ·rw[if_pos v]at H
   have ao:=beq_iff_eq.mpr v
   have ap:=bne_eq_false_iff_eq.mpr v
   clear v
   obtain rfl:=Option.some.inj H;clear H
   go_enter Try.func63,Try.ntmps63
   go_wp2
   go_ret
   exact fin
  ·rw[if_neg v]at H
   have ao:=beq_eq_false_iff_ne.mpr v
   have ap:=bne_iff_ne.mpr v
   have a3: ¬(a= []):=fun h_=>v (by rw[h_];rfl)
   obtain rfl:=Option.some.inj H;clear H
   go_enter Try.func63,Try.ntmps63
   go_wp2
   go_ret
   exact fin
set_option maxHeartbeats 8000000 in
set_option maxRecDepth 100000 in
theorem bi.calls (k:Nat) (ao:Option Addr) (ap:Nat) (l:List (S71)) (bd:Option Addr) (be:Nat) (p:List (S50)) (t:Int) (u:Int) (bh:Option Addr) (bj:Nat) (q:List Int) (v:Int) (m:Int) (bk:Option Addr) (bm:Nat) (a:List (S97)) (bo:Option Addr) (bp:Nat) (g:List (S29)) (br:Option Addr) (bs:Nat) (s:List (S102)) (a2:Int) (r:Bool) (w:World) (cf:Kd.C k71 w ao l.length l) (cg:l.length≤ap) (ch:Kd.C k50 w bd p.length p) (ci:p.length≤be) (cj:Kd.C (Kd.int .i64) w bh q.length q) (ck:q.length≤bj) (cl:Kd.C k97 w bk a.length a) (cm:a.length≤bm) (cn:Kd.C k29 w bo g.length g) (co:g.length≤bp) (cp:Kd.C dQ w br s.length s) (cq:s.length≤bs) {gM:Nat} (hgm:w.heap[gM]? =some iN) (h:bi.f k l p t u q v m a g s a2=some r):
  Calls Try.prog 40 #[.agg #[.slice ao l.length ap, .slice bd p.length be], .agg #[.int .i64 t, .int .i64 u, .slice bh q.length bj, .int .i64 v, .int .i64 m, .slice bk a.length bm, .slice bo g.length bp, .slice br s.length bs], .map (some gM)] w fun e w' =>e= .returned (.bool r)∧Below w.heap.size w w' :=by
 have HGM:=Aside0.mk hgm
 clear hgm
 have eV:=Try.underlying34
 have eW:=Try.underlying50
 have e0:=Try.underlying97
 have e1:=Try.underlying94
 have e2:=Try.underlying29
 have al:=Aside0.mk cf
 have am:=Aside0.mk cg
 clear cf cg
 have a1:=Aside0.mk ch
 have a3:=Aside0.mk ci
 clear ch ci
 have a4:=Aside0.mk cj
 have a5:=Aside0.mk ck
 clear cj ck
 have U:=Aside0.mk cl
 have a6:=Aside0.mk cm
 clear cl cm
 have an:=Aside0.mk cn
 have a7:=Aside0.mk co
 clear cn co
 have a8:=Aside0.mk cp
 have a9:=Aside0.mk cq
 clear cp cq
 have HB:=Aside0.mk (Below.refl w.heap.size w)
 have H:(if(a.length:Int)<1 then(bi.j0 k true l p t u q v m a g s)else(if(a.length:Int)>12 then(bi.j0 k true l p t u q v m a g s)else(bi.j0 k ((g.length:Int) !=(a.length:Int)) l p t u q v m a g s)))=some r:=h
 clear h
 have cF:=Aside0.mk H
 clear H
 go_enter Try.func40,Try.ntmps40
 go_upto_region 1 with(first|((with_reducible refine gd 3 rfl ?_);(try(refine aN (by rfl) ?_;dsimp only));refine bx 3 #[.slice ao l.length ap, .slice bd p.length be] 34 ?_;intro b7 hg w5 hbox hb;have c:=Aside0.mk hbox;have dd:=hz HB hg;have de:=hz HB hg;replace HB:=hs HB hb;clear hb hbox hg)|((with_reducible refine gd 4 rfl ?_);(try(refine aN (by rfl) ?_;dsimp only));refine bx 4 #[.int .i64 t, .int .i64 u, .slice bh q.length bj, .int .i64 v, .int .i64 m, .slice bk a.length bm, .slice bo g.length bp, .slice br s.length bs] 50 ?_;intro b8 hg w6 hbox hb;have b:=Aside0.mk hbox;have dg:=hz HB hg;have dj:=hz HB hg;have n:=nl c hg;have o:=ng c hg;replace c:=kb c hb;replace HB:=hs HB hb;clear hb hbox hg))
 (try simp only[Act.put,List.setIfInBounds_toArray,List.set_cons_zero,List.set_cons_succ])
 go_cut [31] (fun v31 wc=> ∃(kq:Nat) (b4:Bool),v31= .bool b4∧Aside0 (bi.j0 kq b4 l p t u q v m a g s=some r)∧Aside0 (kq≤k)∧Aside0 (wc.heap[b7]? =some (.cells #[(.slice ao l.length ap),(.slice bd p.length be)] 34 (0,0)))∧Aside0 (wc.heap[b8]? =some (.cells #[.int .i64 t, .int .i64 u,(.slice bh q.length bj), .int .i64 v, .int .i64 m,(.slice bk a.length bm),(.slice bo g.length bp),(.slice br s.length bs)] 50 (0,0)))∧Aside0 (Below w.heap.size w wc))
 case first=>
  have H:=cF.out
  clear cF
  by_cases c7:(a.length:Int)<1
  ·rw[if_pos c7]at H
   have b5:decide ((a.length:Int)<1)=true:=decide_eq_true c7
   have cW:decide (a.length<1)=true:=decide_eq_true (by omega)
   clear c7
   (first|rw[b5]|(simp only[bT,bU];rw[b5])|skip)
   have H' :=Aside0.mk H
   clear H
   have e3:=o.out
   have e4:=n.out
   obtain⟨_,_,_,_,_,_,_,_,_,_,_,_,_,_,_,_⟩:=cf8 b
   go_wp2
   go_meet
   case rel=>exact⟨_,(true),(by first|rfl|(simp;done)|(simp[*];done)),H',⟨by first|omega|exact Nat.le_refl _⟩,kk c,kk b,⟨bl⟩⟩
  ·rw[if_neg c7]at H
   have b5:decide ((a.length:Int)<1)=false:=decide_eq_false c7
   have cW:decide (a.length<1)=false:=decide_eq_false (by omega)
   clear c7
   (first|rw[b5]|(simp only[bT,bU];rw[b5])|skip)
   by_cases c10:(a.length:Int)>12
   ·rw[if_pos c10]at H
    have cJ:decide (12<(a.length:Int))=true:=decide_eq_true c10
    have cL:decide (12<a.length)=true:=decide_eq_true (by omega)
    clear c10
    have H' :=Aside0.mk H
    clear H
    have dk:=o.out
    have dl:=n.out
    obtain⟨_,_,_,_,_,_,_,_,_,_,_,_,_,_,_,_⟩:=cf8 b
    go_wp2
    go_meet
    case rel=>exact⟨_,(true),(by first|rfl|(simp;done)|(simp[*];done)),H',⟨by first|omega|exact Nat.le_refl _⟩,kk c,kk b,⟨bl⟩⟩
   ·rw[if_neg c10]at H
    have cJ:decide (12<(a.length:Int))=false:=decide_eq_false c10
    have cL:decide (12<a.length)=false:=decide_eq_false (by omega)
    clear c10
    have H' :=Aside0.mk H
    clear H
    have dp:=o.out
    have dq:=n.out
    obtain⟨_,_,_,_,_,_,_,_,_,_,_,_,_,_,_,_⟩:=cf8 b
    go_wp2
    go_meet
    case rel=>exact⟨_,(((g.length:Int) !=(a.length:Int))),(by first|rfl|(simp;done)|(simp[*];done)),H',⟨by first|omega|exact Nat.le_refl _⟩,kk c,kk b,⟨bl⟩⟩
 case rest =>
  clear cF
  obtain⟨kq,b4,rfl,HA,cr,c,b,HB⟩:=hcut
  cases kq with
  |zero=>exact absurd HA.out (by simp[bi.j0])
  | succ cS =>
   have H:=HA.out
   clear HA
   simp only[bi.j0]at H
   by_cases c15:b4=true
   ·subst c15
    replace H:=it H
    obtain rfl:=Option.some.inj H;clear H
    go_wp2
    go_ret
    exact fin
   ·replace c15:=Bool.eq_false_iff.mpr c15
    subst c15
    replace H:=ie H
    have H' :=Aside0.mk H
    clear H
    have dr:=o.out
    have ds:=n.out
    obtain⟨_,_,_,_,_,_,_,_,_,_,_,_,_,_,_,_⟩:=cf8 b
    go_wp2
    go_loopg [35] cS (fun kq v35 w' => ∃(d:Int),v35= .int .i64 d∧Aside0 (bi.l0 kq a (a.length:Int) d l p t u q v m a g s=some r)∧Aside0 (kq≤cS)∧Aside0 (w'.heap[b7]? =some (.cells #[(.slice ao l.length ap),(.slice bd p.length be)] 34 (0,0)))∧Aside0 (w'.heap[b8]? =some (.cells #[.int .i64 t, .int .i64 u,(.slice bh q.length bj), .int .i64 v, .int .i64 m,(.slice bk a.length bm),(.slice bo g.length bp),(.slice br s.length bs)] 50 (0,0)))∧Aside0 (Below w.heap.size w w'))
    case atStart=>exact⟨(0),(by first|rfl|(simp;done)|(simp[*];done)),H',⟨Nat.le_refl _⟩,kk c,kk b,⟨bl⟩⟩
    case round=>
     clear H'
     obtain⟨d,rfl,HA,cs,c,b,HB⟩:=hrel
     cases gk with
     |zero=>exact absurd HA.out (by simp[bi.l0])
     | succ k2=>
      have H:=HA.out
      clear HA
      simp only[bi.l0]at H
      by_cases c18:d<(a.length:Int)
      ·rw [if_pos c18]at H
       have cM:decide (d<(a.length:Int))=true:=decide_eq_true c18
       clear c18
       by_cases c19:0≤d
       ·rw [if_pos c19]at H
        have dt:decide (0≤d)=true:=decide_eq_true c19
        clear c19
        by_cases c20:d<(a.length:Int)
        ·rw [if_pos c20]at H
         have du:decide (d<(a.length:Int))=true:=decide_eq_true c20
         clear c20
         replace H:=Option.bind_eq_some_iff.mp H
         obtain⟨⟨aP,bw,cG⟩,cH,H⟩:=H
         replace H:(if cG=true then((dL.f k2 l p t u q v m a g s ((aM a d).f0) ((aM a d).f1) ((aM a d).f2) aP ((aM a d).f1)).bind fun cc=>(if cc=true then((dL.f k2 l p t u q v m a g s ((aM a d).f0) ((aM a d).f1) ((aM a d).f2) bw ((aM a d).f2)).bind fun cd=>(if cd=true then(bi.l0 k2 a (a.length:Int) (wrap64 (d+1)) l p t u q v m a g s)else(some false)))else(some false)))else(some false))=some r:=H
         have ct:=Aside0.mk cH
         clear cH
         by_cases cv:cG=true
         ·subst cv
          replace H:=it H
          obtain⟨cc,cI,H⟩:=ob H
          by_cases c24:cc=true
          ·subst c24
           replace H:=it H
           obtain⟨cd,cT,H⟩:=ob H
           by_cases cw:cd=true
           ·subst cw
            replace H:=it H
            have H' :=Aside0.mk H
            clear H
            have B:0≤(d:Int):=od
            have D:d<(a.length:Int):=od
            obtain⟨b9,aR,x,y,z⟩:=iA U.out d B D
            cases aR
            obtain⟨x,y,z⟩:=hc3 HB x y z
            replace B:=eq_true B
            replace D:=eq_true D
            go_wp2_with (first|((with_reducible refine gd 8 rfl ?_);(try(refine aN (by rfl) ?_;dsimp only));refine bx 8 #[.int .i64 0, .int .i64 0, .int .i64 0] 97 ?_;intro ba hg e8 hbox hb;have j:=Aside0.mk hbox;have cx:=hz HB hg;have cy:=hz HB hg;have E:=nl c hg;have G:=ng c hg;have I:=nl b hg;have J:=ng b hg;replace c:=kb c hb;replace b:=kb b hb;replace HB:=hs HB hb;clear hb hbox hg;have dv:=G.out;have dy:=E.out;have dT:=J.out;have d0:=I.out;obtain⟨_,_,_,_,_,_⟩:=cf3 j)|((with_reducible refine gd 43 rfl ?_);refine jd rfl rfl rfl rfl (d9 HGM.out bl) ct.out ?_)|((with_reducible refine gd 9 rfl ?_);(try(refine aN (by rfl) ?_;dsimp only));refine bx 9 #[.int .i64 0, .int .i64 0] 94 ?_;intro bb hg e9 hbox hb;have A:=Aside0.mk hbox;have cA:=hz HB hg;have cC:=hz HB hg;have K:=nl c hg;have L:=ng c hg;have M:=nl b hg;have O:=ng b hg;have P:=nl j hg;have T:=ng j hg;replace c:=kq c hb;replace b:=kq b hb;replace j:=kp ba #[.int .i64 ((aM a d).f0), .int .i64 ((aM a d).f1), .int .i64 ((aM a d).f2)] 97 hb;replace HB:=hs HB hb;clear hb hbox hg;have d1:=L.out;have d2:=K.out;have d3:=O.out;have d4:=M.out;have d5:=T.out;have d6:=P.out;obtain⟨_,_,_,_⟩:=cf2 A;have d7:=n.out;have d8:=o.out;obtain⟨_,_,_,_⟩:=cf2 c;obtain⟨_,_,_,_,_,_,_,_,_,_,_,_,_,_,_,_⟩:=cf8 b;obtain⟨_,_,_,_,_,_⟩:=cf3 j)|(go_at_call 62;(with_reducible refine(dL.calls k2 _ _ l _ _ p t u _ _ q v m _ _ a _ _ g _ _ s ((aM a d).f0) ((aM a d).f1) ((aM a d).f2) aP ((aM a d).f1) true _ ?s1 ?s2 ?s3 ?s4 ?s5 ?s6 ?s7 ?s8 ?s9 ?s10 ?s11 ?s12 cI.out).mono ?_);(case s1=>exact cb al.out);(case s2=>exact am.out);(case s3=>exact cb a1.out);(case s4=>exact a3.out);(case s5=>exact cb a4.out);(case s6=>exact a5.out);(case s7=>exact cb U.out);(case s8=>exact a6.out);(case s9=>exact cb an.out);(case s10=>exact a7.out);(case s11=>exact cb a8.out);(case s12=>exact a9.out);rintro e fa ⟨rfl,hb⟩;replace c:=kq c hb;replace b:=kq b hb;replace j:=kq j hb;replace A:=kp bb #[.int .i64 aP, .int .i64 bw] 94 hb;replace HB:=hs HB hb;(try clear hb);obtain⟨_,_,_,_⟩:=cf2 c;obtain⟨_,_,_,_,_,_,_,_,_,_,_,_,_,_,_,_⟩:=cf8 b;obtain⟨_,_,_,_,_,_⟩:=cf3 j;obtain⟨_,_,_,_⟩:=cf2 A)|(go_at_call 62;(with_reducible refine(dL.calls k2 _ _ l _ _ p t u _ _ q v m _ _ a _ _ g _ _ s ((aM a d).f0) ((aM a d).f1) ((aM a d).f2) bw ((aM a d).f2) true _ ?s1 ?s2 ?s3 ?s4 ?s5 ?s6 ?s7 ?s8 ?s9 ?s10 ?s11 ?s12 cT.out).mono ?_);(case s1=>exact cb al.out);(case s2=>exact am.out);(case s3=>exact cb a1.out);(case s4=>exact a3.out);(case s5=>exact cb a4.out);(case s6=>exact a5.out);(case s7=>exact cb U.out);(case s8=>exact a6.out);(case s9=>exact cb an.out);(case s10=>exact a7.out);(case s11=>exact cb a8.out);(case s12=>exact a9.out);rintro e fb ⟨rfl,hb⟩;replace c:=kb c hb;replace b:=kb b hb;replace j:=kb j hb;replace A:=kb A hb;replace HB:=hs HB hb;(try clear hb)))
            go_roundg k2
            case measure=>have:=cr.out;have:=cs.out;omega
            case rel=>exact⟨(wrap64 (d+1)),(by first|rfl|(simp;done)|(simp[*];done)),H',⟨by have:=cr.out;have:=cs.out;omega⟩,kk c,kk b,⟨bl⟩⟩
           ·replace cw:=Bool.eq_false_iff.mpr cw
            subst cw
            replace H:=ie H
            obtain rfl:=Option.some.inj H;clear H
            have B:0≤(d:Int):=od
            have D:d<(a.length:Int):=od
            obtain⟨b9,aR,x,y,z⟩:=iA U.out d B D
            cases aR
            obtain⟨x,y,z⟩:=hc3 HB x y z
            replace B:=eq_true B
            replace D:=eq_true D
            go_wp2_with (first|((with_reducible refine gd 8 rfl ?_);(try(refine aN (by rfl) ?_;dsimp only));refine bx 8 #[.int .i64 0, .int .i64 0, .int .i64 0] 97 ?_;intro ba hg fc hbox hb;have j:=Aside0.mk hbox;have cx:=hz HB hg;have cy:=hz HB hg;have E:=nl c hg;have G:=ng c hg;have I:=nl b hg;have J:=ng b hg;replace c:=kb c hb;replace b:=kb b hb;replace HB:=hs HB hb;clear hb hbox hg;have ea:=G.out;have eb:=E.out;have ec:=J.out;have ee:=I.out;obtain⟨_,_,_,_,_,_⟩:=cf3 j)|((with_reducible refine gd 43 rfl ?_);refine jd rfl rfl rfl rfl (d9 HGM.out bl) ct.out ?_)|((with_reducible refine gd 9 rfl ?_);(try(refine aN (by rfl) ?_;dsimp only));refine bx 9 #[.int .i64 0, .int .i64 0] 94 ?_;intro bb hg fd hbox hb;have A:=Aside0.mk hbox;have cA:=hz HB hg;have cC:=hz HB hg;have K:=nl c hg;have L:=ng c hg;have M:=nl b hg;have O:=ng b hg;have P:=nl j hg;have T:=ng j hg;replace c:=kq c hb;replace b:=kq b hb;replace j:=kp ba #[.int .i64 ((aM a d).f0), .int .i64 ((aM a d).f1), .int .i64 ((aM a d).f2)] 97 hb;replace HB:=hs HB hb;clear hb hbox hg;have ef:=L.out;have eg:=K.out;have eh:=O.out;have ei:=M.out;have ej:=T.out;have el:=P.out;obtain⟨_,_,_,_⟩:=cf2 A;have em:=n.out;have en:=o.out;obtain⟨_,_,_,_⟩:=cf2 c;obtain⟨_,_,_,_,_,_,_,_,_,_,_,_,_,_,_,_⟩:=cf8 b;obtain⟨_,_,_,_,_,_⟩:=cf3 j)|(go_at_call 62;(with_reducible refine(dL.calls k2 _ _ l _ _ p t u _ _ q v m _ _ a _ _ g _ _ s ((aM a d).f0) ((aM a d).f1) ((aM a d).f2) aP ((aM a d).f1) true _ ?s1 ?s2 ?s3 ?s4 ?s5 ?s6 ?s7 ?s8 ?s9 ?s10 ?s11 ?s12 cI.out).mono ?_);(case s1=>exact cb al.out);(case s2=>exact am.out);(case s3=>exact cb a1.out);(case s4=>exact a3.out);(case s5=>exact cb a4.out);(case s6=>exact a5.out);(case s7=>exact cb U.out);(case s8=>exact a6.out);(case s9=>exact cb an.out);(case s10=>exact a7.out);(case s11=>exact cb a8.out);(case s12=>exact a9.out);rintro e ff ⟨rfl,hb⟩;replace c:=kq c hb;replace b:=kq b hb;replace j:=kq j hb;replace A:=kp bb #[.int .i64 aP, .int .i64 bw] 94 hb;replace HB:=hs HB hb;(try clear hb);obtain⟨_,_,_,_⟩:=cf2 c;obtain⟨_,_,_,_,_,_,_,_,_,_,_,_,_,_,_,_⟩:=cf8 b;obtain⟨_,_,_,_,_,_⟩:=cf3 j;obtain⟨_,_,_,_⟩:=cf2 A)|(go_at_call 62;(with_reducible refine(dL.calls k2 _ _ l _ _ p t u _ _ q v m _ _ a _ _ g _ _ s ((aM a d).f0) ((aM a d).f1) ((aM a d).f2) bw ((aM a d).f2) false _ ?s1 ?s2 ?s3 ?s4 ?s5 ?s6 ?s7 ?s8 ?s9 ?s10 ?s11 ?s12 cT.out).mono ?_);(case s1=>exact cb al.out);(case s2=>exact am.out);(case s3=>exact cb a1.out);(case s4=>exact a3.out);(case s5=>exact cb a4.out);(case s6=>exact a5.out);(case s7=>exact cb U.out);(case s8=>exact a6.out);(case s9=>exact cb an.out);(case s10=>exact a7.out);(case s11=>exact cb a8.out);(case s12=>exact a9.out);rintro e w64 ⟨rfl,hb⟩;replace c:=kb c hb;replace b:=kb b hb;replace j:=kb j hb;replace A:=kb A hb;replace HB:=hs HB hb;(try clear hb)))
            go_ret
            exact fin
          ·replace c24:=Bool.eq_false_iff.mpr c24
           subst c24
           replace H:=ie H
           obtain rfl:=Option.some.inj H;clear H
           have B:0≤(d:Int):=od
           have D:d<(a.length:Int):=od
           obtain⟨b9,aR,x,y,z⟩:=iA U.out d B D
           cases aR
           obtain⟨x,y,z⟩:=hc3 HB x y z
           replace B:=eq_true B
           replace D:=eq_true D
           go_wp2_with (first|((with_reducible refine gd 8 rfl ?_);(try(refine aN (by rfl) ?_;dsimp only));refine bx 8 #[.int .i64 0, .int .i64 0, .int .i64 0] 97 ?_;intro ba hg fg hbox hb;have j:=Aside0.mk hbox;have cx:=hz HB hg;have cy:=hz HB hg;have E:=nl c hg;have G:=ng c hg;have I:=nl b hg;have J:=ng b hg;replace c:=kb c hb;replace b:=kb b hb;replace HB:=hs HB hb;clear hb hbox hg;have eo:=G.out;have ep:=E.out;have eq:=J.out;have er:=I.out;obtain⟨_,_,_,_,_,_⟩:=cf3 j)|((with_reducible refine gd 43 rfl ?_);refine jd rfl rfl rfl rfl (d9 HGM.out bl) ct.out ?_)|((with_reducible refine gd 9 rfl ?_);(try(refine aN (by rfl) ?_;dsimp only));refine bx 9 #[.int .i64 0, .int .i64 0] 94 ?_;intro bb hg fh hbox hb;have A:=Aside0.mk hbox;have cA:=hz HB hg;have cC:=hz HB hg;have K:=nl c hg;have L:=ng c hg;have M:=nl b hg;have O:=ng b hg;have P:=nl j hg;have T:=ng j hg;replace c:=kq c hb;replace b:=kq b hb;replace j:=kp ba #[.int .i64 ((aM a d).f0), .int .i64 ((aM a d).f1), .int .i64 ((aM a d).f2)] 97 hb;replace HB:=hs HB hb;clear hb hbox hg;have es:=L.out;have et:=K.out;have ev:=O.out;have ew:=M.out;have ex:=T.out;have ey:=P.out;obtain⟨_,_,_,_⟩:=cf2 A;have ez:=n.out;have eA:=o.out;obtain⟨_,_,_,_⟩:=cf2 c;obtain⟨_,_,_,_,_,_,_,_,_,_,_,_,_,_,_,_⟩:=cf8 b;obtain⟨_,_,_,_,_,_⟩:=cf3 j)|(go_at_call 62;(with_reducible refine(dL.calls k2 _ _ l _ _ p t u _ _ q v m _ _ a _ _ g _ _ s ((aM a d).f0) ((aM a d).f1) ((aM a d).f2) aP ((aM a d).f1) false _ ?s1 ?s2 ?s3 ?s4 ?s5 ?s6 ?s7 ?s8 ?s9 ?s10 ?s11 ?s12 cI.out).mono ?_);(case s1=>exact cb al.out);(case s2=>exact am.out);(case s3=>exact cb a1.out);(case s4=>exact a3.out);(case s5=>exact cb a4.out);(case s6=>exact a5.out);(case s7=>exact cb U.out);(case s8=>exact a6.out);(case s9=>exact cb an.out);(case s10=>exact a7.out);(case s11=>exact cb a8.out);(case s12=>exact a9.out);rintro e fi ⟨rfl,hb⟩;replace c:=kq c hb;replace b:=kq b hb;replace j:=kq j hb;replace A:=kp bb #[.int .i64 aP, .int .i64 bw] 94 hb;replace HB:=hs HB hb;(try clear hb)))
           go_ret
           exact fin
         ·replace cv:=Bool.eq_false_iff.mpr cv
          subst cv
          replace H:=ie H
          obtain rfl:=Option.some.inj H;clear H
          have B:0≤(d:Int):=od
          have D:d<(a.length:Int):=od
          obtain⟨b9,aR,x,y,z⟩:=iA U.out d B D
          cases aR
          obtain⟨x,y,z⟩:=hc3 HB x y z
          replace B:=eq_true B
          replace D:=eq_true D
          go_wp2_with (first|((with_reducible refine gd 43 rfl ?_);refine jd rfl rfl rfl rfl (d9 HGM.out bl) ct.out ?_))
          go_ret
          exact fin
        ·rw[if_neg c20]at H
         exact absurd H (by simp)
       ·rw[if_neg c19]at H
        exact absurd H (by simp)
      ·rw [if_neg c18]at H
       have cM:decide (d<(a.length:Int))=false:=decide_eq_false c18
       clear c18
       have H' :=Aside0.mk H
       clear H
       have eC:=o.out
       have eE:=n.out
       obtain⟨_,_,_,_,_,_,_,_,_,_,_,_,_,_,_,_⟩:=cf8 b
       go_wp2
       go_loopg [74] k2 (fun kq v74 w' => ∃(i:Int),v74= .int .i64 i∧Aside0 (bi.l1 kq g (g.length:Int) i l p t u q v m a g s=some r)∧Aside0 (kq≤k2)∧Aside0 (w'.heap[b7]? =some (.cells #[(.slice ao l.length ap),(.slice bd p.length be)] 34 (0,0)))∧Aside0 (w'.heap[b8]? =some (.cells #[.int .i64 t, .int .i64 u,(.slice bh q.length bj), .int .i64 v, .int .i64 m,(.slice bk a.length bm),(.slice bo g.length bp),(.slice br s.length bs)] 50 (0,0)))∧Aside0 (Below w.heap.size w w'))
       case atStart=>exact⟨(0),(by first|rfl|(simp;done)|(simp[*];done)),H',⟨Nat.le_refl _⟩,kk c,kk b,⟨bl⟩⟩
       case round=>
        clear H'
        obtain⟨i,rfl,HA,cU,c,b,HB⟩:=hrel
        cases gk with
        |zero=>exact absurd HA.out (by simp[bi.l1])
        | succ k3=>
         have H:=HA.out
         clear HA
         simp only[bi.l1]at H
         by_cases b6:i<(g.length:Int)
         ·rw [if_pos b6]at H
          have cN:decide (i<(g.length:Int))=true:=decide_eq_true b6
          clear b6
          by_cases c91:0≤i
          ·rw[if_pos c91]at H
           have eI:decide (0≤i)=true:=decide_eq_true c91
           clear c91
           by_cases cD:i<(g.length:Int)
           ·rw[if_pos cD]at H
            have eJ:decide (i<(g.length:Int))=true:=decide_eq_true cD
            clear cD
            obtain⟨cX,cV,H⟩:=ob H
            by_cases cE:cX=true
            ·subst cE
             replace H:=it H
             have H' :=Aside0.mk H
             clear H
             have aS:0≤(i:Int):=od
             have a0:i<(g.length:Int):=od
             obtain⟨cP,aq,ar,aw,aB,ce,W,X,Y,Z,ab,ac,ad⟩:=iZ an.out i aS a0
             cases ce
             obtain⟨W,X,Y⟩:=hc3 HB W X Y
             have b0:=Aside0.mk ab
             have b1:=Aside0.mk Z
             clear ab Z
             have b2:=Aside0.mk ad
             have b3:=Aside0.mk ac
             clear ad ac
             replace aS:=eq_true aS
             replace a0:=eq_true a0
             go_wp2_with (first|((with_reducible refine gd 12 rfl ?_);(try(refine aN (by rfl) ?_;dsimp only));refine bx 12 #[.bool false, .slice none 0 0, .slice none 0 0] 29 ?_;intro ca hg fj hbox hb;have bc:=Aside0.mk hbox;have cQ:=hz HB hg;have cR:=hz HB hg;have aE:=nl c hg;have aF:=ng c hg;have aL:=nl b hg;have aO:=ng b hg;replace c:=kb c hb;replace b:=kb b hb;replace HB:=hs HB hb;clear hb hbox hg;have eK:=aF.out;have eL:=aE.out;have eM:=aO.out;have eN:=aL.out;obtain⟨_,_,_,_,_,_⟩:=cf3 bc;have eR:=n.out;have eS:=o.out;obtain⟨_,_,_,_⟩:=cf2 c;obtain⟨_,_,_,_,_,_,_,_,_,_,_,_,_,_,_,_⟩:=cf8 b)|((with_reducible refine gc 63 rfl ?_);refine gl (some 83) Try.func63 #[.slice ao l.length ap, .int .i64 m, .agg #[.bool ((aQ g i).f0), .slice aq ((aQ g i).f1).length ar, .slice aw ((aQ g i).f2).length aB]] rfl ?_;(with_reducible refine(bu.calls k3 _ _ l m ((aQ g i).f0) _ _ ((aQ g i).f1) _ _ ((aQ g i).f2) true _ ?s1 ?s2 ?s3 ?s4 ?s5 ?s6 cV.out).mono ?_);(case s1=>exact cb al.out);(case s2=>exact am.out);(case s3=>exact cb b0.out);(case s4=>exact b1.out);(case s5=>exact cb b2.out);(case s6=>exact b3.out);rintro e e5 ⟨rfl,hb⟩;refine⟨_,rfl, ?_⟩;replace c:=kq c hb;replace b:=kq b hb;replace bc:=kp ca #[.bool ((aQ g i).f0), .slice aq ((aQ g i).f1).length ar, .slice aw ((aQ g i).f2).length aB] 29 hb;replace HB:=hs HB hb;(try clear hb)))
             go_roundg k3
             case measure=>have:=cr.out;have:=cs.out;have:=cU.out;omega
             case rel=>exact⟨(wrap64 (i+1)),(by first|rfl|(simp;done)|(simp[*];done)),H',⟨by have:=cr.out;have:=cs.out;have:=cU.out;omega⟩,kk c,kk b,⟨bl⟩⟩
            ·replace cE:=Bool.eq_false_iff.mpr cE
             subst cE
             replace H:=ie H
             obtain rfl:=Option.some.inj H;clear H
             have aS:0≤(i:Int):=od
             have a0:i<(g.length:Int):=od
             obtain⟨cP,aq,ar,aw,aB,ce,W,X,Y,Z,ab,ac,ad⟩:=iZ an.out i aS a0
             cases ce
             obtain⟨W,X,Y⟩:=hc3 HB W X Y
             have b0:=Aside0.mk ab
             have b1:=Aside0.mk Z
             clear ab Z
             have b2:=Aside0.mk ad
             have b3:=Aside0.mk ac
             clear ad ac
             replace aS:=eq_true aS
             replace a0:=eq_true a0
             go_wp2_with (first|((with_reducible refine gd 12 rfl ?_);(try(refine aN (by rfl) ?_;dsimp only));refine bx 12 #[.bool false, .slice none 0 0, .slice none 0 0] 29 ?_;intro ca hg e6 hbox hb;have bc:=Aside0.mk hbox;have cQ:=hz HB hg;have cR:=hz HB hg;have aE:=nl c hg;have aF:=ng c hg;have aL:=nl b hg;have aO:=ng b hg;replace c:=kb c hb;replace b:=kb b hb;replace HB:=hs HB hb;clear hb hbox hg;have cY:=aF.out;have c0:=aE.out;have c1:=aO.out;have da:=aL.out;obtain⟨_,_,_,_,_,_⟩:=cf3 bc;have db:=n.out;have dc:=o.out;obtain⟨_,_,_,_⟩:=cf2 c;obtain⟨_,_,_,_,_,_,_,_,_,_,_,_,_,_,_,_⟩:=cf8 b)|((with_reducible refine gc 63 rfl ?_);refine gl (some 83) Try.func63 #[.slice ao l.length ap, .int .i64 m, .agg #[.bool ((aQ g i).f0), .slice aq ((aQ g i).f1).length ar, .slice aw ((aQ g i).f2).length aB]] rfl ?_;(with_reducible refine(bu.calls k3 _ _ l m ((aQ g i).f0) _ _ ((aQ g i).f1) _ _ ((aQ g i).f2) false _ ?s1 ?s2 ?s3 ?s4 ?s5 ?s6 cV.out).mono ?_);(case s1=>exact cb al.out);(case s2=>exact am.out);(case s3=>exact cb b0.out);(case s4=>exact b1.out);(case s5=>exact cb b2.out);(case s6=>exact b3.out);rintro e e7 ⟨rfl,hb⟩;refine⟨_,rfl, ?_⟩;replace c:=kq c hb;replace b:=kq b hb;replace bc:=kp ca #[.bool ((aQ g i).f0), .slice aq ((aQ g i).f1).length ar, .slice aw ((aQ g i).f2).length aB] 29 hb;replace HB:=hs HB hb;(try clear hb)))
             go_ret
             exact fin
           ·rw[if_neg cD]at H
            exact absurd H (by simp)
          ·rw[if_neg c91]at H
           exact absurd H (by simp)
         ·rw[if_neg b6]at H
          have cN:decide (i<(g.length:Int))=false:=decide_eq_false b6
          clear b6
          obtain rfl:=Option.some.inj H;clear H
          go_wp2
          go_ret
          exact fin
set_option maxHeartbeats 8000000 in
set_option maxRecDepth 100000 in
theorem cO.calls (k:Nat) (A0:Option Addr) (c0:Nat) (l0:List (S71)) (a1:Int) (a2:Int) (r:Bool) (w:World) (hr0:Kd.C k71 w A0 l0.length l0) (hc0:l0.length≤c0) (h:cO.f k l0 a1 a2=some r):
  Calls Try.prog 64 #[.slice A0 l0.length c0, .int .i64 a1, .int .i64 a2] w fun e w' =>e= .returned (.bool r)∧Drawn0 w w' :=by
 have t:=Aside0.mk hr0
 have A:=Aside0.mk hc0
 clear hr0 hc0
 have H:(cO.l0 k l0 a2 a1)=some r:=h
 clear h
 have H' :=Aside0.mk H
 clear H
 go_enter Try.func64,Try.ntmps64
 go_wp2
 go_loopg [7] k (fun kq v7 w' => ∃(a:Int),v7= .int .i64 a∧Aside0 (cO.l0 kq l0 a2 a=some r)∧Aside0 (kq≤k)∧Drawn0 w w')
 case atStart=>exact⟨(a1),(by first|rfl|(simp;done)|(simp[*];done)),H',⟨Nat.le_refl _⟩,by repeat(first|exact Drawn0.refl _|apply Drawn0.step)⟩
 case round=>
  clear H'
  obtain⟨a,rfl,HA,i,⟨m1,rfl⟩⟩:=hrel
  cases gk with
  |zero=>exact absurd HA.out (by simp[cO.l0])
  | succ k1=>
   have H:=HA.out
   clear HA
   simp only[cO.l0]at H
   by_cases c4:a≥0
   ·rw [if_pos c4]at H
    have j:decide (0≤a)=true:=decide_eq_true c4
    clear c4
    by_cases c5:a=a2
    ·rw[if_pos c5]at H
     have l:=beq_iff_eq.mpr c5
     have m:=bne_eq_false_iff_eq.mpr c5
     clear c5
     obtain rfl:=Option.some.inj H;clear H
     go_wp2
     go_ret
     exact⟨by first|rfl|(simp;done)|(simp[*];done),by repeat(first|exact Drawn0.refl _|apply Drawn0.step)⟩
    ·rw[if_neg c5]at H
     have l:=beq_eq_false_iff_ne.mpr c5
     have m:=bne_iff_ne.mpr c5
     by_cases c6:0≤a
     ·rw[if_pos c6]at H
      have y:decide (0≤a)=true:=decide_eq_true c6
      clear c6
      by_cases c7:a<(l0.length:Int)
      ·rw[if_pos c7]at H
       have z:decide (a<(l0.length:Int))=true:=decide_eq_true c7
       clear c7
       have H' :=Aside0.mk H
       clear H
       have d:0≤(a:Int):=od
       have g:a<(l0.length:Int):=od
       obtain⟨x,u,v,n,o,p,b,c⟩:=fV t.out a d g
       cases n
       have q:=Aside0.mk c
       have s:=Aside0.mk b
       clear c b
       replace d:=eq_true d
       replace g:=eq_true g
       go_wp2
       go_roundg k1
       case measure=>have:=i.out;omega
       case rel=>exact⟨((aD l0 a).f0),(by first|rfl|(simp;done)|(simp[*];done)),H',⟨by have:=i.out;omega⟩,by repeat(first|exact Drawn0.refl _|apply Drawn0.step)⟩
      ·rw[if_neg c7]at H
       exact absurd H (by simp)
     ·rw[if_neg c6]at H
      exact absurd H (by simp)
   ·rw[if_neg c4]at H
    have j:decide (0≤a)=false:=decide_eq_false c4
    clear c4
    obtain rfl:=Option.some.inj H;clear H
    go_wp2
    go_ret
    exact⟨by first|rfl|(simp;done)|(simp[*];done),by repeat(first|exact Drawn0.refl _|apply Drawn0.step)⟩
set_option maxHeartbeats 8000000 in
set_option maxRecDepth 100000 in
theorem aV.calls (k:Nat) (A:Option Addr) (B:Nat) (l:List (S71)) (L:Option Addr) (M:Nat) (s:List (S50)) (v:Int) (x:Int) (O:Option Addr) (P:Nat) (t:List Int) (y:Int) (z:Int) (T:Option Addr) (U:Nat) (p:List (S97)) (W:Option Addr) (X:Nat) (u:List (S29)) (ao:Option Addr) (Y:Nat) (a:List (S102)) (r:Bool) (w:World) (aO:Kd.C k71 w A l.length l) (aP:l.length≤B) (aR:Kd.C k50 w L s.length s) (aS:s.length≤M) (a0:Kd.C (Kd.int .i64) w O t.length t) (a1:t.length≤P) (a2:Kd.C k97 w T p.length p) (a3:p.length≤U) (a4:Kd.C k29 w W u.length u) (a5:u.length≤X) (a6:Kd.C dQ w ao a.length a) (a7:a.length≤Y) (h:aV.f k l s v x t y z p u a=some r):
  Calls Try.prog 41 #[.agg #[.slice A l.length B, .slice L s.length M], .agg #[.int .i64 v, .int .i64 x, .slice O t.length P, .int .i64 y, .int .i64 z, .slice T p.length U, .slice W u.length X, .slice ao a.length Y]] w fun e w' =>e= .returned (.bool r)∧Below w.heap.size w w' :=by
 have d2:=Try.underlying34
 have d3:=Try.underlying50
 have b3:=Try.underlying102
 have D:=Aside0.mk aO
 have E:=Aside0.mk aP
 clear aO aP
 have b4:=Aside0.mk aR
 have b5:=Aside0.mk aS
 clear aR aS
 have b6:=Aside0.mk a0
 have b7:=Aside0.mk a1
 clear a0 a1
 have b8:=Aside0.mk a2
 have b9:=Aside0.mk a3
 clear a2 a3
 have ca:=Aside0.mk a4
 have cc:=Aside0.mk a5
 clear a4 a5
 have bj:=Aside0.mk a6
 have cd:=Aside0.mk a7
 clear a6 a7
 have HB:=Aside0.mk (Below.refl w.heap.size w)
 have H:(if(a.length:Int)>2 then(some false)else(aV.l0 k a (a.length:Int) 0 l s v x t y z p u a))=some r:=h
 clear h
 by_cases c3:(a.length:Int)>2
 ·rw[if_pos c3]at H
  have br:decide (2<(a.length:Int))=true:=decide_eq_true c3
  have bs:decide (2<a.length)=true:=decide_eq_true (by omega)
  clear c3
  obtain rfl:=Option.some.inj H;clear H
  go_enter Try.func41,Try.ntmps41
  go_wp2
  go_ret
  exact fin
 ·rw [if_neg c3]at H
  have br:decide (2<(a.length:Int))=false:=decide_eq_false c3
  have bs:decide (2<a.length)=false:=decide_eq_false (by omega)
  clear c3
  have H' :=Aside0.mk H
  clear H
  go_enter Try.func41,Try.ntmps41
  go_wp2_with (first|((with_reducible refine gd 2 rfl ?_);(try(refine aN (by rfl) ?_;dsimp only));refine bx 2 #[.slice A l.length B, .slice L s.length M] 34 ?_;intro ap hg w8 hbox hb;have j:=Aside0.mk hbox;have ce:=hz HB hg;have cf:=hz HB hg;replace HB:=hs HB hb;clear hb hbox hg)|((with_reducible refine gd 3 rfl ?_);(try(refine aN (by rfl) ?_;dsimp only));refine bx 3 #[.int .i64 v, .int .i64 x, .slice O t.length P, .int .i64 y, .int .i64 z, .slice T p.length U, .slice W u.length X, .slice ao a.length Y] 50 ?_;intro aq hg w9 hbox hb;have m:=Aside0.mk hbox;have cg:=hz HB hg;have ch:=hz HB hg;have n:=nl j hg;have o:=ng j hg;replace j:=kb j hb;replace HB:=hs HB hb;clear hb hbox hg;have ci:=o.out;have cj:=n.out;obtain⟨_,_,_,_,_,_,_,_,_,_,_,_,_,_,_,_⟩:=cf8 m))
  go_loopg [14] k (fun kq v14 w' => ∃(b:Int),v14= .int .i64 b∧Aside0 (aV.l0 kq a (a.length:Int) b l s v x t y z p u a=some r)∧Aside0 (kq≤k)∧Aside0 (w'.heap[ap]? =some (.cells #[(.slice A l.length B),(.slice L s.length M)] 34 (0,0)))∧Aside0 (w'.heap[aq]? =some (.cells #[.int .i64 v, .int .i64 x,(.slice O t.length P), .int .i64 y, .int .i64 z,(.slice T p.length U),(.slice W u.length X),(.slice ao a.length Y)] 50 (0,0)))∧Aside0 (Below w.heap.size w w'))
  case atStart=>exact⟨(0),(by first|rfl|(simp;done)|(simp[*];done)),H',⟨Nat.le_refl _⟩,kk j,kk m,⟨bl⟩⟩
  case round =>
   clear H'
   obtain⟨b,rfl,HA,Z,j,m,HB⟩:=hrel
   cases gk with
   |zero=>exact absurd HA.out (by simp[aV.l0])
   | succ k1 =>
    have H:=HA.out
    clear HA
    simp only[aV.l0]at H
    by_cases c12:b<(a.length:Int)
    ·rw [if_pos c12]at H
     have bk:decide (b<(a.length:Int))=true:=decide_eq_true c12
     clear c12
     by_cases c13:0≤b
     ·rw [if_pos c13]at H
      have ck:decide (0≤b)=true:=decide_eq_true c13
      clear c13
      by_cases c14:b<(a.length:Int)
      ·rw [if_pos c14]at H
       have cl:decide (b<(a.length:Int))=true:=decide_eq_true c14
       clear c14
       have aw:=Aside0.mk H
       clear H
       have aB:0≤(b:Int):=od
       have aE:b<(a.length:Int):=od
       obtain⟨a8,bw,ab,ac,ad,al⟩:=iR bj.out b aB aE
       cases bw
       obtain⟨ab,ac,ad,al⟩:=hc4 HB ab ac ad al
       replace aB:=eq_true aB
       replace aE:=eq_true aE
       go_upto_region 6 with(first|((with_reducible refine gd 6 rfl ?_);(try(refine aN (by rfl) ?_;dsimp only));refine bx 6 #[.int .i64 0, .int .i64 0, .int .i64 0, .int .i64 0] 102 ?_;intro a9 hg w16 hbox hb;have q:=Aside0.mk hbox;have cm:=hz HB hg;have cn:=hz HB hg;have c:=nl j hg;have d:=ng j hg;have g:=nl m hg;have i:=ng m hg;replace j:=kb j hb;replace m:=kb m hb;replace HB:=hs HB hb;clear hb hbox hg;have co:=d.out;have cp:=c.out;have cq:=i.out;have cr:=g.out;obtain⟨_,_,_,_,_,_,_,_⟩:=cf4 q))
       (try simp only[Act.put,List.setIfInBounds_toArray,List.set_cons_zero,List.set_cons_succ])
       go_cut [41] (fun v41 wc=> ∃(kq:Nat) (G:Bool),v41= .bool G∧Aside0 (aV.j1 kq a (a.length:Int) b G l s v x t y z p u a ((az a b).f0) ((az a b).f1) ((az a b).f2) ((az a b).f3)=some r)∧Aside0 (kq≤k1)∧Aside0 (wc.heap[ap]? =some (.cells #[(.slice A l.length B),(.slice L s.length M)] 34 (0,0)))∧Aside0 (wc.heap[aq]? =some (.cells #[.int .i64 v, .int .i64 x,(.slice O t.length P), .int .i64 y, .int .i64 z,(.slice T p.length U),(.slice W u.length X),(.slice (some a8) a.length Y)] 50 (0,0)))∧Aside0 (wc.heap[a9]? =some (.cells #[.int .i64 ((az a b).f0), .int .i64 ((az a b).f1), .int .i64 ((az a b).f2), .int .i64 ((az a b).f3)] 102 (0,0)))∧Aside0 (Below w.heap.size w wc))
       case first=>
        have H:=aw.out
        clear aw
        by_cases c20:((az a b).f0)<0
        ·rw[if_pos c20]at H
         have I:decide (((az a b).f0)<0)=true:=decide_eq_true c20
         clear c20
         (first|rw[I]|(simp only[bT,bU];rw[I])|skip)
         have H' :=Aside0.mk H
         clear H
         have cs:=d.out
         have ct:=c.out
         have cv:=i.out
         have cw:=g.out
         obtain⟨_,_,_,_,_,_,_,_⟩:=cf4 q
         go_wp2
         go_meet
         case rel=>exact⟨_,(true),(by first|rfl|(simp;done)|(simp[*];done)),H',⟨by have:=Z.out;first|omega|exact Nat.le_refl _⟩,kf,kf,kf,⟨bl⟩⟩
        ·rw[if_neg c20]at H
         have I:decide (((az a b).f0)<0)=false:=decide_eq_false c20
         clear c20
         (first|rw[I]|(simp only[bT,bU];rw[I])|skip)
         by_cases c24:((az a b).f0)≥(p.length:Int)
         ·rw[if_pos c24]at H
          have bm:decide ((p.length:Int)≤((az a b).f0))=true:=decide_eq_true c24
          clear c24
          have H' :=Aside0.mk H
          clear H
          have cx:=d.out
          have cy:=c.out
          have cA:=i.out
          have cC:=g.out
          obtain⟨_,_,_,_,_,_,_,_⟩:=cf4 q
          have cD:=o.out
          have cE:=n.out
          obtain⟨_,_,_,_,_,_,_,_,_,_,_,_,_,_,_,_⟩:=cf8 m
          go_wp2
          go_meet
          case rel=>exact⟨_,(true),(by first|rfl|(simp;done)|(simp[*];done)),H',⟨by have:=Z.out;first|omega|exact Nat.le_refl _⟩,kf,kf,kf,⟨bl⟩⟩
         ·rw[if_neg c24]at H
          have bm:decide ((p.length:Int)≤((az a b).f0))=false:=decide_eq_false c24
          clear c24
          by_cases am:((az a b).f2)<0
          ·rw[if_pos am]at H
           have bo:decide (((az a b).f2)<0)=true:=decide_eq_true am
           clear am
           have H' :=Aside0.mk H
           clear H
           have cF:=d.out
           have cG:=c.out
           have cH:=i.out
           have cI:=g.out
           obtain⟨_,_,_,_,_,_,_,_⟩:=cf4 q
           have cJ:=o.out
           have cL:=n.out
           obtain⟨_,_,_,_,_,_,_,_,_,_,_,_,_,_,_,_⟩:=cf8 m
           go_wp2
           go_meet
           case rel=>exact⟨_,(true),(by first|rfl|(simp;done)|(simp[*];done)),H',⟨by have:=Z.out;first|omega|exact Nat.le_refl _⟩,kf,kf,kf,⟨bl⟩⟩
          ·rw[if_neg am]at H
           have bo:decide (((az a b).f2)<0)=false:=decide_eq_false am
           clear am
           have H' :=Aside0.mk H
           clear H
           have cM:=d.out
           have cN:=c.out
           have cP:=i.out
           have cQ:=g.out
           obtain⟨_,_,_,_,_,_,_,_⟩:=cf4 q
           have cR:=o.out
           have cS:=n.out
           obtain⟨_,_,_,_,_,_,_,_,_,_,_,_,_,_,_,_⟩:=cf8 m
           go_wp2
           go_meet
           case rel=>exact⟨_,(decide (((az a b).f2)≥(p.length:Int))),(by first|rfl|(simp;done)|(simp[*];done)),H',⟨by have:=Z.out;first|omega|exact Nat.le_refl _⟩,kf,kf,kf,⟨bl⟩⟩
       case rest=>
        clear aw
        obtain⟨kq,G,rfl,HA,ar,j,m,q,HB⟩:=hcut
        cases kq with
        |zero=>exact absurd HA.out (by simp[aV.j1])
        | succ b0=>
         have H:=HA.out
         clear HA
         simp only[aV.j1]at H
         by_cases ba:G=true
         ·subst ba
          replace H:=it H
          obtain rfl:=Option.some.inj H;clear H
          go_wp2
          go_ret
          exact fin
         ·replace ba:=Bool.eq_false_iff.mpr ba
          subst ba
          replace H:=ie H
          have aF:=Aside0.mk H
          clear H
          go_upto_region 8 with(fail)
          go_cut [54] (fun v54 wc=> ∃(kq:Nat) (J:Bool),v54= .bool J∧Aside0 (aV.j2 kq a (a.length:Int) b J l s v x t y z p u a ((az a b).f0) ((az a b).f1) ((az a b).f2) ((az a b).f3)=some r)∧Aside0 (kq≤b0)∧Aside0 (wc.heap[ap]? =some (.cells #[(.slice A l.length B),(.slice L s.length M)] 34 (0,0)))∧Aside0 (wc.heap[aq]? =some (.cells #[.int .i64 v, .int .i64 x,(.slice O t.length P), .int .i64 y, .int .i64 z,(.slice T p.length U),(.slice W u.length X),(.slice (some a8) a.length Y)] 50 (0,0)))∧Aside0 (wc.heap[a9]? =some (.cells #[.int .i64 ((az a b).f0), .int .i64 ((az a b).f1), .int .i64 ((az a b).f2), .int .i64 ((az a b).f3)] 102 (0,0)))∧Aside0 (Below w.heap.size w wc))
          case first=>
           have H:=aF.out
           clear aF
           by_cases an:((az a b).f1)≤((az a b).f0)
           ·rw[if_pos an]at H
            have K:decide (((az a b).f1)≤((az a b).f0))=true:=decide_eq_true an
            clear an
            (first|rw[K]|(simp only[bT,bU];rw[K])|skip)
            have H' :=Aside0.mk H
            clear H
            have cT:=d.out
            have cU:=c.out
            have cV:=i.out
            have cW:=g.out
            obtain⟨_,_,_,_,_,_,_,_⟩:=cf4 q
            go_wp2
            go_meet
            case rel=>exact⟨_,(true),(by first|rfl|(simp;done)|(simp[*];done)),H',⟨by have:=Z.out;have:=ar.out;first|omega|exact Nat.le_refl _⟩,kk j,kk m,kk q,⟨bl⟩⟩
           ·rw[if_neg an]at H
            have K:decide (((az a b).f1)≤((az a b).f0))=false:=decide_eq_false an
            clear an
            (first|rw[K]|(simp only[bT,bU];rw[K])|skip)
            have H' :=Aside0.mk H
            clear H
            have cX:=d.out
            have cY:=c.out
            have c0:=i.out
            have c1:=g.out
            obtain⟨_,_,_,_,_,_,_,_⟩:=cf4 q
            have da:=o.out
            have db:=n.out
            obtain⟨_,_,_,_,_,_,_,_,_,_,_,_,_,_,_,_⟩:=cf8 m
            go_wp2
            go_meet
            case rel=>exact⟨_,(decide (((az a b).f1)>(p.length:Int))),(by first|rfl|(simp;done)|(simp[*];done)),H',⟨by have:=Z.out;have:=ar.out;first|omega|exact Nat.le_refl _⟩,kk j,kk m,kk q,⟨bl⟩⟩
          case rest=>
           clear aF
           obtain⟨kq,J,rfl,HA,be,j,m,q,HB⟩:=hcut
           cases kq with
           |zero=>exact absurd HA.out (by simp[aV.j2])
           | succ aL=>
            have H:=HA.out
            clear HA
            simp only[aV.j2]at H
            by_cases bb:J=true
            ·subst bb
             replace H:=it H
             obtain rfl:=Option.some.inj H;clear H
             go_wp2
             go_ret
             exact fin
            ·replace bb:=Bool.eq_false_iff.mpr bb
             subst bb
             replace H:=ie H
             obtain⟨b1,bh,H⟩:=ob H
             by_cases bc:b1=true
             ·subst bc
              replace H:=it H
              obtain⟨b2,bp,H⟩:=ob H
              by_cases bd:b2=true
              ·subst bd
               replace H:=it H
               have H' :=Aside0.mk H
               clear H
               have dc:=n.out
               have dd:=o.out
               have de:=c.out
               have dg:=d.out
               obtain⟨_,_,_,_⟩:=cf2 j
               have dj:=i.out
               have dk:=g.out
               obtain⟨_,_,_,_,_,_,_,_⟩:=cf4 q
               go_wp2_with (first|((with_reducible refine gc 61 rfl ?_);refine gl (some 59) Try.func61 #[.slice A l.length B, .int .i64 ((az a b).f3)] rfl ?_;(with_reducible refine(dG.calls _ _ l ((az a b).f3) true _ ?s1 ?s2 bh.out).mono ?_);(case s1=>exact cb D.out);(case s2=>exact E.out);rintro e w' ⟨rfl,⟨nd,rfl⟩⟩;refine⟨_,rfl, ?_⟩)|(go_at_call 64;(with_reducible refine(cO.calls aL _ _ l ((az a b).f3) 1 true _ ?s1 ?s2 bp.out).mono ?_);(case s1=>exact cb D.out);(case s2=>exact E.out);rintro e w' ⟨rfl,⟨nd,rfl⟩⟩))
               go_roundg aL
               case measure=>have:=Z.out;have:=ar.out;have:=be.out;omega
               case rel=>exact⟨(wrap64 (b+1)),(by first|rfl|(simp;done)|(simp[*];done)),H',⟨by have:=Z.out;have:=ar.out;have:=be.out;omega⟩,kk j,kk m,⟨bl⟩⟩
              ·replace bd:=Bool.eq_false_iff.mpr bd
               subst bd
               replace H:=ie H
               obtain rfl:=Option.some.inj H;clear H
               have dl:=n.out
               have dp:=o.out
               have dq:=c.out
               have dr:=d.out
               obtain⟨_,_,_,_⟩:=cf2 j
               have ds:=i.out
               have dt:=g.out
               obtain⟨_,_,_,_,_,_,_,_⟩:=cf4 q
               go_wp2_with (first|((with_reducible refine gc 61 rfl ?_);refine gl (some 59) Try.func61 #[.slice A l.length B, .int .i64 ((az a b).f3)] rfl ?_;(with_reducible refine(dG.calls _ _ l ((az a b).f3) true _ ?s1 ?s2 bh.out).mono ?_);(case s1=>exact cb D.out);(case s2=>exact E.out);rintro e w' ⟨rfl,⟨nd,rfl⟩⟩;refine⟨_,rfl, ?_⟩)|(go_at_call 64;(with_reducible refine(cO.calls aL _ _ l ((az a b).f3) 1 false _ ?s1 ?s2 bp.out).mono ?_);(case s1=>exact cb D.out);(case s2=>exact E.out);rintro e w' ⟨rfl,⟨nd,rfl⟩⟩))
               go_ret
               exact fin
             ·replace bc:=Bool.eq_false_iff.mpr bc
              subst bc
              replace H:=ie H
              obtain rfl:=Option.some.inj H;clear H
              have du:=n.out
              have dv:=o.out
              have dy:=c.out
              have dT:=d.out
              obtain⟨_,_,_,_⟩:=cf2 j
              have d0:=i.out
              have d1:=g.out
              obtain⟨_,_,_,_,_,_,_,_⟩:=cf4 q
              go_wp2_with (first|((with_reducible refine gc 61 rfl ?_);refine gl (some 59) Try.func61 #[.slice A l.length B, .int .i64 ((az a b).f3)] rfl ?_;(with_reducible refine(dG.calls _ _ l ((az a b).f3) false _ ?s1 ?s2 bh.out).mono ?_);(case s1=>exact cb D.out);(case s2=>exact E.out);rintro e w' ⟨rfl,⟨nd,rfl⟩⟩;refine⟨_,rfl, ?_⟩))
              go_ret
              exact fin
      ·rw[if_neg c14]at H
       exact absurd H (by simp)
     ·rw[if_neg c13]at H
      exact absurd H (by simp)
    ·rw[if_neg c12]at H
     have bk:decide (b<(a.length:Int))=false:=decide_eq_false c12
     clear c12
     obtain rfl:=Option.some.inj H;clear H
     go_wp2
     go_ret
     exact fin
end Go.Proofs.Yteinbmkgenhocaa.P
end
