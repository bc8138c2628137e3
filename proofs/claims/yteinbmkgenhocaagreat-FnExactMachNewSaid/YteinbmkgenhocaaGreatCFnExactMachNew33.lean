/- A part of the claim FnExactMachNew. -/
import Derived.WalkSpells
import Derived.WalkLawsBesides
import Derived.Test.YteinbmkgenhocaaGreatCFnExactMachNew32
section
namespace Go.Proofs.YteinbmkgenhocaaGreat.P
open Go.RowKit Go.Proofs.YteinbmkgenhocaaGreatW.PrintWords Go.Proofs.YteinbmkgenhocaaGreatW.PrintLast Go.Proofs.YteinbmkgenhocaaGreatW.PrintMore
attribute [local go_sem] ak au az aA ai aj av ax
set_option linter.unusedVariables false
set_option linter.unusedSimpArgs false
def dW.T3:Bool×List (List Nat×List Nat):=(true, [([], []),([], []),([1,0], [1]),([2], [2]),([], []),([0,3,4], [0,3,4]),([5,2,0,1,2,3,4,5], [5])])
def dW.B3:List Nat:= [0,0,3,7,0,31,63]
theorem dW.tab3:dJ .any (opsOf Tryz.f7 3)=dW.T3:=by kernel_rfl
theorem dW.bits3:dY dW.T3.2 dW.B3=true:=by kernel_rfl
set_option maxHeartbeats 8000000 in
set_option maxRecDepth 100000 in
theorem dW.calls (k:Nat) (D:Option Addr) (E:Nat) (m:List (S126)) (G:Option Addr) (I:Nat) (q:List (S104)) (r1:List (S91)) (r2:List (S70)) (r3:List Int) (r4:Int) (r5:Int) (r6:Bool) (r7:Int) (w:World) (cl:Kd.C eB w D m.length m) (cm:m.length≤E) (cn:Kd.C dV w G q.length q) (co:q.length≤I) (h:dW.f k m q=some (r1,r2,r3,r4,r5,r6,r7)):
    Calls Tryz.prog 7 #[.agg #[.slice D m.length E, .slice G q.length I]] w fun e w' => ∃cL cM cN:Value,e= .returned (.agg #[cL,cM,cN, .int .i64 r4, .int .i64 r5, .bool r6, .int .i64 r7])∧Kd.N k91 91 w' w.heap.size (fun k_=>(w.heap.size≤k_)) cL r1∧Kd.N k70 70 w' w.heap.size (fun k_=>(w.heap.size≤k_)) cM r2∧Kd.R (Kd.int .i64) 3 w' w.heap.size (fun k_=>(w.heap.size≤k_)) cN r3∧Below w.heap.size w w' :=by
  have ey:=Tryz.underlying38
  have ez:=Tryz.underlying33
  have bt:=Aside0.mk cl
  have bw:=Aside0.mk cm
  clear cl cm
  have b0:=Aside0.mk cn
  have b1:=Aside0.mk co
  clear cn co
  have HB:=Aside0.mk (Below.refl w.heap.size w)
  have H:((aY.f k m q).bind fun b2=>(if b2=true then((df.f k).bind fun L=>((bu.f k m q 0 ([]:List (S31))).bind fun P=>(some (L,(([(⟨P.1,P.2.1,P.2.2.1,P.2.2.2⟩:S70)]:List (S70))),(([]:List Int)),0,0,false,0))))else(some (([]:List (S91)),([]:List (S70)),([]:List Int),0,0,false,0))))=some (r1,r2,r3,r4,r5,r6,r7):=h
  clear h
  replace H:=Option.bind_eq_some_iff.mp H
  obtain⟨b2,cP,H⟩:=H
  replace H:(if b2=true then((df.f k).bind fun L=>((bu.f k m q 0 ([]:List (S31))).bind fun P=>(some (L,(([(⟨P.1,P.2.1,P.2.2.1,P.2.2.2⟩:S70)]:List (S70))),(([]:List Int)),0,0,false,0))))else(some (([]:List (S91)),([]:List (S70)),([]:List Int),0,0,false,0)))=some (r1,r2,r3,r4,r5,r6,r7):=H
  have A2:=Aside0.mk cP
  clear cP
  by_cases c3:b2=true
  · subst c3
    have H1:((df.f k).bind fun L=>((bu.f k m q 0 ([]:List (S31))).bind fun P=>(some (L,(([(⟨P.1,P.2.1,P.2.2.1,P.2.2.2⟩:S70)]:List (S70))),(([]:List Int)),0,0,false,0))))=some (r1,r2,r3,r4,r5,r6,r7):=by rw[if_pos rfl]at H;exact H
    clear H
    have H:=H1
    clear H1
    replace H:=Option.bind_eq_some_iff.mp H
    obtain⟨L,cQ,H⟩:=H
    replace H:((bu.f k m q 0 ([]:List (S31))).bind fun P=>(some (L,(([(⟨P.1,P.2.1,P.2.2.1,P.2.2.2⟩:S70)]:List (S70))),(([]:List Int)),0,0,false,0)))=some (r1,r2,r3,r4,r5,r6,r7):=H
    have A4:=Aside0.mk cQ
    clear cQ
    replace H:=Option.bind_eq_some_iff.mp H
    obtain⟨⟨a3,a4,aR,aS⟩,cR,H⟩:=H
    replace H:(some (L,(([(⟨a3,a4,aR,aS⟩:S70)]:List (S70))),(([]:List Int)),0,0,false,0))=some (r1,r2,r3,r4,r5,r6,r7):=H
    have A5:=Aside0.mk cR
    clear cR
    obtain⟨an,bj⟩: ∃y_:List (S70),y_=(([(⟨a3,a4,aR,aS⟩:S70)]:List (S70))):=⟨_,rfl⟩
    replace H:(some (L,an,(([]:List Int)),0,0,false,0))=some (r1,r2,r3,r4,r5,r6,r7):=by first|(rw[bj];with_reducible exact H)|(have bp:=(Option.bind_some _ _).symm.trans H;rw[bj];with_reducible exact bp)|(have bp:=(Option.bind_some _ _).symm.trans H;with_reducible exact bp)|with_reducible exact H|(rw[bj];exact H)|exact H
    have cp:=Aside0.mk bj
    clear bj
    obtain⟨ao,bk⟩: ∃y_:List Int,y_=(([]:List Int)):=⟨_,rfl⟩
    replace H:(some (L,an,ao,0,0,false,0))=some (r1,r2,r3,r4,r5,r6,r7):=by first|(rw[bk];with_reducible exact H)|(have bp:=(Option.bind_some _ _).symm.trans H;rw[bk];with_reducible exact bp)|(have bp:=(Option.bind_some _ _).symm.trans H;with_reducible exact bp)|with_reducible exact H|(rw[bk];exact H)|exact H
    have cq:=Aside0.mk bk
    clear bk
    simp only[Option.some.injEq,Prod.mk.injEq]at H
    obtain⟨rfl,rfl,rfl,rfl,rfl,rfl,rfl⟩:=H
    go_enter Tryz.func7,Tryz.ntmps7
    try go_wp2_with (first|((with_reducible refine iG (N:=1) rfl ?_);refine gG ?hg (N:=1) ?hd (cs:= #[.slice D m.length E, .slice G q.length I]) (t:=38) ?hr ?_;(case hd=>rfl);(case hg=>rfl);(case hr=>first|(go_simp;done)|(go_simp;rfl));intro j hg w6 hbox hb;have U:=Aside0.mk (bi (by repeat(first|(with_reducible first|exact HB.out|apply aI|apply aG|apply aC)|exact HB.out)) hb);have W:=Aside0.mk (hbox);have X:=Aside0.mk ((by rw[hg];exact(aU (by repeat(first|(with_reducible first|exact HB.out|apply aI|apply aG|apply aC)|exact HB.out))):w.heap.size≤j));have ap:=Aside0.mk ((by rw[hg];exact(aU (by repeat(first|(with_reducible first|exact HB.out|apply aI|apply aG|apply aC)|exact HB.out))):w.heap.size≤j));clear HB;have HB:=U;have i:=W;have cI:=X;have s:=ap;clear U W X ap;clear hb hbox hg)|((with_reducible refine iG (N:=2) rfl ?_);refine gG ?hg (N:=2) ?hd (cs:= #[.slice none 0 0, .slice none 0 0, .slice none 0 0, .int .i64 0, .int .i64 0, .bool false, .int .i64 0]) (t:=33) ?hr ?_;(case hd=>rfl);(case hg=>rfl);(case hr=>first|(go_simp;done)|(go_simp;rfl));intro d hg w7 hbox hb;have U:=Aside0.mk (cK (g:=j) (o:= .cells #[.slice D m.length E, .slice G q.length I] 38 (0,0)) (by(with_reducible repeat(first|refine ah ?_ _|refine af ?_|refine ag ?_ _));exact i.out) hb);have W:=Aside0.mk (bi (by repeat(first|(with_reducible first|exact HB.out|apply aI|apply aG|apply aC|refine aK ?_ s.out)|exact HB.out)) hb);have X:=Aside0.mk (hbox);have ap:=Aside0.mk ((by rw[hg];exact(aU (by repeat(first|(with_reducible first|exact HB.out|apply aI|apply aG|apply aC|refine aK ?_ s.out)|exact HB.out))):w.heap.size≤d));have bb:=Aside0.mk ((by rw[hg];exact(aU (by repeat(first|(with_reducible first|exact HB.out|apply aI|apply aG|apply aC|refine aK ?_ s.out)|exact HB.out))):w.heap.size≤d));have bo:=Aside0.mk ((by rw[hg];exact Nat.ne_of_lt (fF (g:=j) (o:= .cells #[.slice D m.length E, .slice G q.length I] 38 (0,0)) (by(with_reducible repeat(first|refine ah ?_ _|refine af ?_|refine ag ?_ _));exact i.out)):j≠d));have b9:=Aside0.mk ((by rw[hg];exact Nat.ne_of_gt (fF (g:=j) (o:= .cells #[.slice D m.length E, .slice G q.length I] 38 (0,0)) (by(with_reducible repeat(first|refine ah ?_ _|refine af ?_|refine ag ?_ _));exact i.out)):d≠j));clear i;clear HB;have i:=U;have HB:=W;have c:=X;have cJ:=ap;have A:=bb;have r:=bo;have Y:=b9;clear U W X ap bb bo b9;clear hb hbox hg;have eA:=r.out;have eC:=Y.out;have ef:w7.cell? ⟨j,0,none⟩=some (.slice D m.length E):=(ae i.out 0).trans rfl;have eg:w7.cell? ⟨j,1,none⟩=some (.slice G q.length I):=(ae i.out 1).trans rfl;have eh:=ay i.out 0;have ei:=ay i.out 1)|((with_reducible refine ed (f:=28) rfl ?_);refine dH (some 4) rfl rfl Tryz.func28 (by kernel_rfl) rfl #[.agg #[.slice D m.length E, .slice G q.length I]] rfl (by(try simp only[List.map_toArray,List.map_cons,List.map_nil]);first|done|rfl|(simp only[List.length_drop,List.length_take];rfl)) ?_;(with_reducible refine(aY.calls k _ _ m _ _ q true _ ?s1 ?s2 ?s3 ?s4 A2.out).mono ?_);(case s1=>repeat(first|exact(Kd.C_below bt.out HB.out)|(with_reducible refine Kd.C_alloc ?_ _)|(with_reducible refine Kd.C_drewN ?_ _)|(with_reducible refine Kd.C_drew ?_)));(case s2=>exact bw.out);(case s3=>repeat(first|exact(Kd.C_below b0.out HB.out)|(with_reducible refine Kd.C_alloc ?_ _)|(with_reducible refine Kd.C_drewN ?_ _)|(with_reducible refine Kd.C_drew ?_)));(case s4=>exact b1.out);rintro e ej ⟨rfl,hb⟩;refine⟨_,rfl, ?_⟩;have U:=Aside0.mk (cK (g:=j) (o:= .cells #[.slice D m.length E, .slice G q.length I] 38 (0,0)) (by(with_reducible repeat(first|refine ah ?_ _|refine af ?_|refine ag ?_ _));exact i.out) hb);have W:=Aside0.mk (cK (g:=d) (o:= .cells #[.slice none 0 0, .slice none 0 0, .slice none 0 0, .int .i64 0, .int .i64 0, .bool false, .int .i64 0] 33 (0,0)) (by(with_reducible repeat(first|refine ah ?_ _|refine af ?_|refine ag ?_ _));exact c.out) hb);have X:=Aside0.mk (bi (by repeat(first|(with_reducible first|exact HB.out|apply aI|apply aG|apply aC|refine aK ?_ s.out|refine aK ?_ A.out)|exact HB.out)) hb);clear i;clear c;clear HB;have i:=U;have c:=W;have HB:=X;clear U W X;(try clear hb);(try clear hb2);(try clear hk);(try clear hi)))
    have U:=Aside0.mk (af i.out)
    have W:=Aside0.mk (af c.out)
    have X:=Aside0.mk (aC HB.out)
    clear i
    clear c
    clear HB
    have i:=U
    have c:=W
    have HB:=X
    clear U W X
    refine dR (n:=7) (S:=fun w' =>True) (ds:= []) #[false,false,false,false,false,false,false] (by kernel_rfl) rfl rfl trivial (fun hHeld=> ?_);refine cO dW.tab3 dW.bits3 (fun HT_ HW_=> ?_)
    generalize ej.drew=eV at i c HB hHeld⊢
    refine uR [0,1,2,3,4,5,6] (fun el b a w' => ∃(J:Value) (al:Value) (am:Value) (ab:Value) (Z:Value) (aB:Value) (aE:Value),a=fA el b [(0,7,J),(1,8, .agg #[.slice D m.length E, .slice G q.length I]),(2,9,aB),(3,10,ab),(4,11,Z),(5,12,aE)]∧(w'.heap[j]? =some (.cells #[.slice D m.length E, .slice G q.length I] 38 (0,0)))∧(b 6=false→w'.heap[d]? =some (.cells #[.slice none 0 0, .slice none 0 0, .slice none 0 0, .int .i64 0, .int .i64 0, .bool false, .int .i64 0] 33 (0,0)))∧(Below w.heap.size w w')∧(b 0=true→Kd.N k91 91 w' w.heap.size (fun k_=>(w.heap.size≤k_)∧k_≠j∧k_≠d) J L)∧(b 2=true→b 3=false→Kd.R k31 31 w' w.heap.size (fun k_=>(w.heap.size≤k_)) al aR)∧(b 2=true→b 3=false→Kd.R k31 31 w' w.heap.size (fun k_=>(w.heap.size≤k_)) am aS)∧(b 3=true→Kd.N k70 70 w' w.heap.size (fun k_=>(w.heap.size≤k_)∧k_≠j∧k_≠d) ab an)∧(b 4=true→Kd.R (Kd.int .i64) 3 w' w.heap.size (fun k_=>(w.heap.size≤k_)) Z ao)∧(b 6=true→w'.heap[d]? =some (.cells #[J,ab,Z, .int .i64 0, .int .i64 0, .bool false, .int .i64 0] 33 (0,0)))∧(b 2=true→(aB:Value)= .agg #[.int .i64 a3, .int .i64 a4,al,am])∧(b 5=true→(aE:Value)= .agg #[J,ab,Z, .int .i64 0, .int .i64 0, .bool false, .int .i64 0])) HT_.out HW_.out (by kernel_rfl) (by kernel_rfl) ?_ ?_ ?_
    ·exact⟨.bool false, .bool false, .bool false, .bool false, .bool false, .bool false, .bool false,by simp only[fA,Bool.false_eq_true,if_false],i.out,fun _=>c.out,HB.out,fun h_=>absurd h_ (by decide),fun h_=>absurd h_ (by decide),fun h_=>absurd h_ (by decide),fun h_=>absurd h_ (by decide),fun h_=>absurd h_ (by decide),fun h_=>absurd h_ (by decide),fun h_=>absurd h_ (by decide),fun h_=>absurd h_ (by decide)⟩
    · skip
      clear i c HB
      refine iH ?_ ?_
      · rintro b a w' ⟨J,al,am,ab,Z,aB,aE,ha,x,y,Q_HB,z,ac,ad,O,u,T,aw,aF⟩ hb_ hon hoff
        refine⟨_,rfl,fun K hK=> ?_⟩
        replace ha:=Aside0.mk ha
        have i:=Aside0.mk x
        have c:=Aside0.mk (y (hoff 6 (by kernel_rfl)))
        have HB:=Aside0.mk Q_HB
        refine mO Tryz.func29 (by kernel_rfl) rfl #[] (by rfl) rfl rfl (by first|(simp only[List.map_toArray,List.map_cons,List.map_nil,Act.eval,Array.getD_eq_getD_getElem?,Option.getD_some];done)|(simp only[List.map_toArray,List.map_cons,List.map_nil,Act.eval,Array.getD_eq_getD_getElem?,Option.getD_some];rfl)) ?_
        with_reducible refine(df.calls k L _ A4.out).mono ?_
        rintro e bs ⟨J,rfl,ho0,hb⟩
        refine⟨_,rfl, ?_⟩
        have U:=Aside0.mk (Kd.N_lower (Kd.N_mono (ok' :=fun k_=>(w.heap.size≤k_)∧k_≠j∧k_≠d) (Kd.S_N (Kd.S_bound ho0)) (fun k_ hk_=>⟨(Nat.le_trans (aU (by repeat(first|(with_reducible first|exact HB.out|apply aI|apply aG|apply aC|refine aK ?_ s.out|refine aK ?_ A.out)|exact HB.out))) hk_.2.1),(Kd.freshB (g:=j) (o:= .cells #[.slice D m.length E, .slice G q.length I] 38 (0,0)) (by(with_reducible repeat(first|refine ah ?_ _|refine af ?_|refine ag ?_ _));exact i.out) k_ hk_.2.1),(Kd.freshB (g:=d) (o:= .cells #[.slice none 0 0, .slice none 0 0, .slice none 0 0, .int .i64 0, .int .i64 0, .bool false, .int .i64 0] 33 (0,0)) (by(with_reducible repeat(first|refine ah ?_ _|refine af ?_|refine ag ?_ _));exact c.out) k_ hk_.2.1)⟩)) (aU (by repeat(first|(with_reducible first|exact HB.out|apply aI|apply aG|apply aC|refine aK ?_ s.out|refine aK ?_ A.out)|exact HB.out))))
        have W:=Aside0.mk (cK (g:=j) (o:= .cells #[.slice D m.length E, .slice G q.length I] 38 (0,0)) (by(with_reducible repeat(first|refine ah ?_ _|refine af ?_|refine ag ?_ _));exact i.out) hb)
        have X:=Aside0.mk (cK (g:=d) (o:= .cells #[.slice none 0 0, .slice none 0 0, .slice none 0 0, .int .i64 0, .int .i64 0, .bool false, .int .i64 0] 33 (0,0)) (by(with_reducible repeat(first|refine ah ?_ _|refine af ?_|refine ag ?_ _));exact c.out) hb)
        have ap:=Aside0.mk (bi (by repeat(first|(with_reducible first|exact HB.out|apply aI|apply aG|apply aC|refine aK ?_ s.out|refine aK ?_ A.out)|exact HB.out)) hb)
        have a7:=fun(l:b 4=true)=>(show Kd.R (Kd.int .i64) 3 bs w.heap.size (fun k_=>(w.heap.size≤k_)) Z ao from by first|exact(Kd.R_below (by(with_reducible repeat(first|apply Kd.R_alloc|apply Kd.R_drewN|apply Kd.R_drew));exact(u l)) hb)|exact Kd.R_mono (Kd.R_below (by(with_reducible repeat(first|apply Kd.R_alloc|apply Kd.R_drewN|apply Kd.R_drew));exact(u l)) hb) (fun _ h_=>by first|trivial|exact h_|exact h_.1))
        clear i
        clear c
        clear HB
        have B:=U
        have i:=W
        have c:=X
        have HB:=ap
        clear U W X ap
        (try clear hb)
        (try clear hb2)
        (try clear hk)
        (try clear hi)
        (try clear ho0)
        refine hK.out _ _ ⟨J,al,am,ab,Z,aB,aE,(by rw[ha.out];exact jg 0 hb_ rfl rfl rfl),(by(with_reducible repeat(first|refine ah ?_ _|refine af ?_|refine ag ?_ _));exact i.out),fun _=>(by(with_reducible repeat(first|refine ah ?_ _|refine af ?_|refine ag ?_ _));exact c.out),(by repeat(first|(with_reducible first|exact HB.out|apply aI|apply aG|apply aC|refine aK ?_ s.out|refine aK ?_ A.out)|exact HB.out)),fun _=>(by(with_reducible repeat(first|apply Kd.N_alloc|apply Kd.N_drewN|apply Kd.N_drew));exact Kd.N_mono B.out (fun _ hk=>(by grind))),fun l _=>absurd ((hoff 2 (by kernel_rfl)).symm.trans l) (by decide),fun l _=>absurd ((hoff 2 (by kernel_rfl)).symm.trans l) (by decide),fun l=>absurd ((hoff 3 (by kernel_rfl)).symm.trans l) (by decide),a7,fun l=>absurd ((hoff 6 (by kernel_rfl)).symm.trans l) (by decide),fun l=>absurd ((hoff 2 (by kernel_rfl)).symm.trans l) (by decide),fun l=>absurd ((hoff 5 (by kernel_rfl)).symm.trans l) (by decide)⟩
      refine iH ?_ ?_
      · rintro b a w' ⟨J,al,am,ab,Z,aB,aE,ha,x,y,Q_HB,z,ac,ad,O,u,T,aw,aF⟩ hb_ hon hoff
        refine⟨_,rfl,fun K hK=> ?_⟩
        have e1:a.tmps[1]? =some (.pointer (some ⟨j,0,none⟩)):=by rw[ha];exact(jr rfl).trans rfl
        replace ha:=Aside0.mk ha
        have i:=Aside0.mk x
        have c:=Aside0.mk (y (hoff 6 (by kernel_rfl)))
        have HB:=Aside0.mk Q_HB
        have eE:w'.cell? ⟨j,0,none⟩=some (.slice D m.length E):=(ae i.out 0).trans rfl
        have eI:w'.cell? ⟨j,1,none⟩=some (.slice G q.length I):=(ae i.out 1).trans rfl
        refine oq (w1:=w') (v:= .agg #[.slice D m.length E, .slice G q.length I]) (by rfl) rfl ?_ ?_
        · go_simp
          (try simp only[bX])
          try rfl
        refine hK.out _ _ ⟨J,al,am,ab,Z,aB,aE,(by rw[ha.out];exact jg 1 hb_ rfl rfl rfl),x,y,Q_HB,z,fun l _=>absurd ((hoff 2 (by kernel_rfl)).symm.trans l) (by decide),fun l _=>absurd ((hoff 2 (by kernel_rfl)).symm.trans l) (by decide),fun l=>absurd ((hoff 3 (by kernel_rfl)).symm.trans l) (by decide),u,fun l=>absurd ((hoff 6 (by kernel_rfl)).symm.trans l) (by decide),fun l=>absurd ((hoff 2 (by kernel_rfl)).symm.trans l) (by decide),fun l=>absurd ((hoff 5 (by kernel_rfl)).symm.trans l) (by decide)⟩
      refine iH ?_ ?_
      · rintro b a w' ⟨J,al,am,ab,Z,aB,aE,ha,x,y,Q_HB,z,ac,ad,O,u,T,aw,aF⟩ hb_ hon hoff
        refine⟨_,rfl,fun K hK=> ?_⟩
        have e8:a.tmps[8]? =some (.agg #[.slice D m.length E, .slice G q.length I]):=by rw[ha];exact iX (e:=(1,8, .agg #[.slice D m.length E, .slice G q.length I])) 1 rfl rfl (hon 1 (by kernel_rfl)) rfl
        replace ha:=Aside0.mk ha
        have i:=Aside0.mk x
        have c:=Aside0.mk (y (hoff 6 (by kernel_rfl)))
        have HB:=Aside0.mk Q_HB
        have B:=Aside0.mk (z (hon 0 (by kernel_rfl)))
        refine mO Tryz.func30 (by kernel_rfl) rfl #[.agg #[.slice D m.length E, .slice G q.length I], .int .i64 0, .slice none 0 0] (by rfl) rfl rfl (by first|(simp only[List.map_toArray,List.map_cons,List.map_nil,Act.eval,Array.getD_eq_getD_getElem?,Option.getD_some,e8];done)|(simp only[List.map_toArray,List.map_cons,List.map_nil,Act.eval,Array.getD_eq_getD_getElem?,Option.getD_some,e8];rfl)) ?_
        refine(bu.calls k _ _ m _ _ q 0 _ _ ([]:List (S31)) a3 a4 aR aS _ ?s1 ?s2 ?s3 ?s4 ?s5 ?s6 A5.out).mono ?_
        (case s1=>repeat(first|exact(Kd.C_below bt.out HB.out)|(with_reducible refine Kd.C_alloc ?_ _)|(with_reducible refine Kd.C_drewN ?_ _)|(with_reducible refine Kd.C_drew ?_)))
        (case s2=>exact bw.out)
        (case s3=>repeat(first|exact(Kd.C_below b0.out HB.out)|(with_reducible refine Kd.C_alloc ?_ _)|(with_reducible refine Kd.C_drewN ?_ _)|(with_reducible refine Kd.C_drew ?_)))
        (case s4=>exact b1.out)
        (case s5=>exact Kd.C_nil _ _)
        (case s6=>exact Nat.le_refl _)
        rintro e em ⟨al,am,rfl,ho0,ho1,hb⟩
        refine⟨_,rfl, ?_⟩
        have U:=Aside0.mk (Kd.N_mono (Kd.N_told (Kd.N_told (Kd.N_old (by(with_reducible repeat(first|apply Kd.N_alloc|apply Kd.N_drewN|apply Kd.N_drew));exact B.out) hb) (Kd.R_base ho0)) (Kd.R_base ho1)) (fun _ h_=>h_.1))
        have W:=Aside0.mk (Kd.R_lower (Kd.R_newM (M:=fun k_=>(w.heap.size≤k_)) ho0 (aU (by repeat(first|(with_reducible first|exact HB.out|apply aI|apply aG|apply aC|refine aK ?_ s.out|refine aK ?_ A.out)|exact HB.out))) (fun k_ h_=>h_)) (aU (by repeat(first|(with_reducible first|exact HB.out|apply aI|apply aG|apply aC|refine aK ?_ s.out|refine aK ?_ A.out)|exact HB.out))))
        have X:=Aside0.mk (Kd.R_lower (Kd.R_newM (M:=fun k_=>(w.heap.size≤k_)) ho1 (aU (by repeat(first|(with_reducible first|exact HB.out|apply aI|apply aG|apply aC|refine aK ?_ s.out|refine aK ?_ A.out)|exact HB.out))) (fun k_ h_=>h_)) (aU (by repeat(first|(with_reducible first|exact HB.out|apply aI|apply aG|apply aC|refine aK ?_ s.out|refine aK ?_ A.out)|exact HB.out))))
        have ap:=Aside0.mk (cK (g:=j) (o:= .cells #[.slice D m.length E, .slice G q.length I] 38 (0,0)) (by(with_reducible repeat(first|refine ah ?_ _|refine af ?_|refine ag ?_ _));exact i.out) hb)
        have bb:=Aside0.mk (cK (g:=d) (o:= .cells #[.slice none 0 0, .slice none 0 0, .slice none 0 0, .int .i64 0, .int .i64 0, .bool false, .int .i64 0] 33 (0,0)) (by(with_reducible repeat(first|refine ah ?_ _|refine af ?_|refine ag ?_ _));exact c.out) hb)
        have bo:=Aside0.mk (bi (by repeat(first|(with_reducible first|exact HB.out|apply aI|apply aG|apply aC|refine aK ?_ s.out|refine aK ?_ A.out)|exact HB.out)) hb)
        have a7:=fun(l:b 4=true)=>(show Kd.R (Kd.int .i64) 3 em w.heap.size (fun k_=>(w.heap.size≤k_)) Z ao from by first|exact(Kd.R_below (by(with_reducible repeat(first|apply Kd.R_alloc|apply Kd.R_drewN|apply Kd.R_drew));exact(u l)) hb)|exact Kd.R_mono (Kd.R_below (by(with_reducible repeat(first|apply Kd.R_alloc|apply Kd.R_drewN|apply Kd.R_drew));exact(u l)) hb) (fun _ h_=>by first|trivial|exact h_|exact h_.1))
        clear B
        clear i
        clear c
        clear HB
        have B:=U
        have be:=W
        have bh:=X
        have i:=ap
        have c:=bb
        have HB:=bo
        clear U W X ap bb bo
        (try clear hb)
        (try clear hb2)
        (try clear hk)
        (try clear hi)
        (try clear ho0)
        (try clear ho1)
        refine hK.out _ _ ⟨J,al,am,ab,Z,(.agg #[.int .i64 a3, .int .i64 a4,al,am]),aE,(by rw[ha.out];exact jg 2 hb_ rfl rfl rfl),(by(with_reducible repeat(first|refine ah ?_ _|refine af ?_|refine ag ?_ _));exact i.out),fun _=>(by(with_reducible repeat(first|refine ah ?_ _|refine af ?_|refine ag ?_ _));exact c.out),(by repeat(first|(with_reducible first|exact HB.out|apply aI|apply aG|apply aC|refine aK ?_ s.out|refine aK ?_ A.out)|exact HB.out)),fun _=>(by(with_reducible repeat(first|apply Kd.N_alloc|apply Kd.N_drewN|apply Kd.N_drew));exact Kd.N_mono B.out (fun _ hk=>(by grind))),fun _ _=>(by(with_reducible repeat(first|apply Kd.R_alloc|apply Kd.R_drewN|apply Kd.R_drew));exact Kd.R_mono be.out (fun _ hk=>(by grind))),fun _ _=>(by(with_reducible repeat(first|apply Kd.R_alloc|apply Kd.R_drewN|apply Kd.R_drew));exact Kd.R_mono bh.out (fun _ hk=>(by grind))),fun l=>absurd ((hoff 3 (by kernel_rfl)).symm.trans l) (by decide),a7,fun l=>absurd ((hoff 6 (by kernel_rfl)).symm.trans l) (by decide),fun _=>rfl,fun l=>absurd ((hoff 5 (by kernel_rfl)).symm.trans l) (by decide)⟩
      refine iH ?_ ?_
      · rintro b a w' ⟨J,al,am,ab,Z,aB,aE,ha,x,y,Q_HB,z,ac,ad,O,u,T,aw,aF⟩ hb_ hon hoff
        refine⟨_,rfl,fun K hK=> ?_⟩
        have e9:a.tmps[9]? =some (aB):=by rw[ha];exact iX (e:=(2,9,aB)) 2 rfl rfl (hon 2 (by kernel_rfl)) rfl
        rw[aw (hon 2 (by kernel_rfl))]at e9
        replace ha:=Aside0.mk ha
        have i:=Aside0.mk x
        have c:=Aside0.mk (y (hoff 6 (by kernel_rfl)))
        have HB:=Aside0.mk Q_HB
        have B:=Aside0.mk (z (hon 0 (by kernel_rfl)))
        have be:=Aside0.mk (ac (hon 2 (by kernel_rfl)) hb_)
        have bh:=Aside0.mk (ad (hon 2 (by kernel_rfl)) hb_)
        obtain⟨ca,cc,cx⟩:=Kd.R_slice be.out
        (first|subst cx|(injection cx with aq a0 ar;have a1:=aq.symm;have a2:=ar.symm;clear aq a0 ar;subst a1;subst a2))
        obtain⟨cd,ce,cy⟩:=Kd.R_slice bh.out
        (first|subst cy|(injection cy with aq a0 ar;have a1:=aq.symm;have a2:=ar.symm;clear aq a0 ar;subst a1;subst a2))
        refine Kd.N_lit_step k70 _ 70 ?hg (N' :=10) ?hd (xs:=([(⟨a3,a4,aR,aS⟩:S70)]:List (S70))) (inner:= [.int .i64 a3, .int .i64 a4, .slice ca aR.length cc, .slice cd aS.length ce]) (ok:=(fun k_=>(w.heap.size≤k_)∧some k_≠(J:Value).ownBlock∧k_≠j∧k_≠d)) (okp:=(fun k_=>(w.heap.size≤k_)∧some k_≠(J:Value).ownBlock∧k_≠j∧k_≠d)) ?hr ?hp (fun _ hk=>hk) ((show∀k_,w'.heap.size≤k_→(fun k_=>(w.heap.size≤k_)∧some k_≠(J:Value).ownBlock∧k_≠j∧k_≠d) k_ from fun k_ hk=>⟨(Nat.le_trans (aU (by repeat(first|(with_reducible first|exact HB.out|apply aI|apply aG|apply aC|refine aK ?_ s.out|refine aK ?_ A.out)|exact HB.out))) hk),Kd.fresh' (Kd.N_lt (by(with_reducible repeat(first|apply Kd.N_alloc|apply Kd.N_drewN|apply Kd.N_drew));exact B.out)) k_ hk,Kd.freshB (g:=j) (o:= .cells #[.slice D m.length E, .slice G q.length I] 38 (0,0)) (by(with_reducible repeat(first|refine ah ?_ _|refine af ?_|refine ag ?_ _));exact i.out) k_ hk,Kd.freshB (g:=d) (o:= .cells #[.slice none 0 0, .slice none 0 0, .slice none 0 0, .int .i64 0, .int .i64 0, .bool false, .int .i64 0] 33 (0,0)) (by(with_reducible repeat(first|refine ah ?_ _|refine af ?_|refine ag ?_ _));exact c.out) k_ hk⟩) _ (Nat.le_refl _)) (Below.refl _ _) (Nat.le_refl _) (by simp) ?_;(case hd=>rfl);(case hg=>rfl);(case hr=>first|(go_simp;done)|(go_simp;rfl));(case hp=>exact(bV.c4 (show Kd.FK k70 _ _ (⟨a3,a4,aR,aS⟩:S70) [.int .i64 a3, .int .i64 a4, .slice ca aR.length cc, .slice cd aS.length ce] from(uz _ _ (⟨a3,a4,aR,aS⟩:S70) (Kd.R_reads' (Kd.R_mono (ok' :=(fun k_=>(w.heap.size≤k_)∧some k_≠(J:Value).ownBlock∧k_≠j∧k_≠d)) (Kd.R_types (Kd.R_types (Kd.R_apart' (be.out) (Kd.N_typed B.out) (by decide)) i.out (by decide)) c.out (by decide)) (fun k_ hk=>(by grind)))).2.1 (Kd.R_F (Kd.R_mono (ok' :=(fun k_=>(w.heap.size≤k_)∧some k_≠(J:Value).ownBlock∧k_≠j∧k_≠d)) (Kd.R_types (Kd.R_types (Kd.R_apart' (be.out) (Kd.N_typed B.out) (by decide)) i.out (by decide)) c.out (by decide)) (fun k_ hk=>(by grind)))) (Kd.R_reads' (Kd.R_mono (ok' :=(fun k_=>(w.heap.size≤k_)∧some k_≠(J:Value).ownBlock∧k_≠j∧k_≠d)) (Kd.R_types (Kd.R_types (Kd.R_apart' (bh.out) (Kd.N_typed B.out) (by decide)) i.out (by decide)) c.out (by decide)) (fun k_ hk=>(by grind)))).2.1 (Kd.R_F (Kd.R_mono (ok' :=(fun k_=>(w.heap.size≤k_)∧some k_≠(J:Value).ownBlock∧k_≠j∧k_≠d)) (Kd.R_types (Kd.R_types (Kd.R_apart' (bh.out) (Kd.N_typed B.out) (by decide)) i.out (by decide)) c.out (by decide)) (fun k_ hk=>(by grind)))))) (bV.none _ _)))
        intro ab en bm hb hg_ hnew_
        clear hg_ hnew_
        (first|rw[←cp.out]at bm|(simp only[Int.reduceToNat]at bm;rw[←cp.out]at bm))
        have U:=Aside0.mk (Kd.N_elder' (by(with_reducible repeat(first|apply Kd.N_alloc|apply Kd.N_drewN|apply Kd.N_drew));exact B.out) (Kd.N_base bm) hb)
        have W:=Aside0.mk (Kd.N_lower bm (aU (by repeat(first|(with_reducible first|exact HB.out|apply aI|apply aG|apply aC|refine aK ?_ s.out|refine aK ?_ A.out)|exact HB.out))))
        have X:=Aside0.mk (cK (g:=j) (o:= .cells #[.slice D m.length E, .slice G q.length I] 38 (0,0)) (by(with_reducible repeat(first|refine ah ?_ _|refine af ?_|refine ag ?_ _));exact i.out) hb)
        have ap:=Aside0.mk (cK (g:=d) (o:= .cells #[.slice none 0 0, .slice none 0 0, .slice none 0 0, .int .i64 0, .int .i64 0, .bool false, .int .i64 0] 33 (0,0)) (by(with_reducible repeat(first|refine ah ?_ _|refine af ?_|refine ag ?_ _));exact c.out) hb)
        have bb:=Aside0.mk (bi (by repeat(first|(with_reducible first|exact HB.out|apply aI|apply aG|apply aC|refine aK ?_ s.out|refine aK ?_ A.out)|exact HB.out)) hb)
        have a7:=fun(l:b 4=true)=>(show Kd.R (Kd.int .i64) 3 en w.heap.size (fun k_=>(w.heap.size≤k_)) Z ao from by first|exact(Kd.R_below (by(with_reducible repeat(first|apply Kd.R_alloc|apply Kd.R_drewN|apply Kd.R_drew));exact(u l)) hb)|exact Kd.R_mono (Kd.R_below (by(with_reducible repeat(first|apply Kd.R_alloc|apply Kd.R_drewN|apply Kd.R_drew));exact(u l)) hb) (fun _ h_=>by first|trivial|exact h_|exact h_.1))
        clear B
        clear i
        clear c
        clear HB
        clear be
        clear bh
        have B:=U
        have aO:=W
        have i:=X
        have c:=ap
        have HB:=bb
        clear U W X ap bb
        clear hb bm
        refine hK.out _ _ ⟨J, .slice ca aR.length cc, .slice cd aS.length ce,ab,Z,aB,aE,(by rw[ha.out];exact jg 3 hb_ rfl rfl rfl),(by(with_reducible repeat(first|refine ah ?_ _|refine af ?_|refine ag ?_ _));exact i.out),fun _=>(by(with_reducible repeat(first|refine ah ?_ _|refine af ?_|refine ag ?_ _));exact c.out),(by repeat(first|(with_reducible first|exact HB.out|apply aI|apply aG|apply aC|refine aK ?_ s.out|refine aK ?_ A.out)|exact HB.out)),fun _=>(by(with_reducible repeat(first|apply Kd.N_alloc|apply Kd.N_drewN|apply Kd.N_drew));exact Kd.N_mono B.out (fun _ hk=>(by grind))),fun _ aL=>absurd ((jG b 3).symm.trans aL) (by decide),fun _ aL=>absurd ((jG b 3).symm.trans aL) (by decide),fun _=>(by(with_reducible repeat(first|apply Kd.N_alloc|apply Kd.N_drewN|apply Kd.N_drew));exact Kd.N_mono aO.out (fun _ hk=>(by grind))),a7,fun l=>absurd ((hoff 6 (by kernel_rfl)).symm.trans l) (by decide),aw,fun l=>absurd ((hoff 5 (by kernel_rfl)).symm.trans l) (by decide)⟩
      refine iH ?_ ?_
      · rintro b a w' ⟨J,al,am,ab,Z,aB,aE,ha,x,y,Q_HB,z,ac,ad,O,u,T,aw,aF⟩ hb_ hon hoff
        refine⟨_,rfl,fun K hK=> ?_⟩
        replace ha:=Aside0.mk ha
        have i:=Aside0.mk x
        have c:=Aside0.mk (y (hoff 6 (by kernel_rfl)))
        have HB:=Aside0.mk Q_HB
        refine Kd.R_lit_step (Kd.int .i64) _ 3 ?hg (N:=11) ?hd (xs:=([]:List Int)) (inner:= []) (ok:=fun _=>True) (okp:=fun _=>True) ?hr ?hp (fun _ hk=>hk) trivial (Below.refl _ _) (Nat.le_refl _) (by simp) ?_;(case hd=>rfl);(case hg=>rfl);(case hr=>first|(go_simp;done)|(go_simp;rfl));(case hp=>exact(bV.none _ _))
        intro Z bs a8 hb hg_ hnew_
        clear hg_ hnew_
        (first|rw[←cq.out]at a8|(simp only[Int.reduceToNat]at a8;rw[←cq.out]at a8))
        have U:=Aside0.mk (Kd.R_lower (Kd.R_newM (M:=fun k_=>(w.heap.size≤k_)) a8 (aU (by repeat(first|(with_reducible first|exact HB.out|apply aI|apply aG|apply aC|refine aK ?_ s.out|refine aK ?_ A.out)|exact HB.out))) (fun k_ h_=>h_)) (aU (by repeat(first|(with_reducible first|exact HB.out|apply aI|apply aG|apply aC|refine aK ?_ s.out|refine aK ?_ A.out)|exact HB.out))))
        have W:=Aside0.mk (cK (g:=j) (o:= .cells #[.slice D m.length E, .slice G q.length I] 38 (0,0)) (by(with_reducible repeat(first|refine ah ?_ _|refine af ?_|refine ag ?_ _));exact i.out) hb)
        have X:=Aside0.mk (cK (g:=d) (o:= .cells #[.slice none 0 0, .slice none 0 0, .slice none 0 0, .int .i64 0, .int .i64 0, .bool false, .int .i64 0] 33 (0,0)) (by(with_reducible repeat(first|refine ah ?_ _|refine af ?_|refine ag ?_ _));exact c.out) hb)
        have ap:=Aside0.mk (bi (by repeat(first|(with_reducible first|exact HB.out|apply aI|apply aG|apply aC|refine aK ?_ s.out|refine aK ?_ A.out)|exact HB.out)) hb)
        have cr:=fun(l:b 0=true)=>(show Kd.N k91 91 bs w.heap.size (fun k_=>(w.heap.size≤k_)∧k_≠j∧k_≠d) J L from by first|exact(Kd.N_elder' (by(with_reducible repeat(first|apply Kd.N_alloc|apply Kd.N_drewN|apply Kd.N_drew));exact(z l)) (Kd.R_base a8) hb)|exact Kd.N_mono (Kd.N_elder' (by(with_reducible repeat(first|apply Kd.N_alloc|apply Kd.N_drewN|apply Kd.N_drew));exact(z l)) (Kd.R_base a8) hb) (fun _ h_=>by first|trivial|exact h_|exact h_.1))
        have ct:=fun(l:b 2=true) (aL:b 3=false)=>(show Kd.R k31 31 bs w.heap.size (fun k_=>(w.heap.size≤k_)) al aR from by first|exact(Kd.R_below (by(with_reducible repeat(first|apply Kd.R_alloc|apply Kd.R_drewN|apply Kd.R_drew));exact(ac l aL)) hb)|exact Kd.R_mono (Kd.R_below (by(with_reducible repeat(first|apply Kd.R_alloc|apply Kd.R_drewN|apply Kd.R_drew));exact(ac l aL)) hb) (fun _ h_=>by first|trivial|exact h_|exact h_.1))
        have cv:=fun(l:b 2=true) (aL:b 3=false)=>(show Kd.R k31 31 bs w.heap.size (fun k_=>(w.heap.size≤k_)) am aS from by first|exact(Kd.R_below (by(with_reducible repeat(first|apply Kd.R_alloc|apply Kd.R_drewN|apply Kd.R_drew));exact(ad l aL)) hb)|exact Kd.R_mono (Kd.R_below (by(with_reducible repeat(first|apply Kd.R_alloc|apply Kd.R_drewN|apply Kd.R_drew));exact(ad l aL)) hb) (fun _ h_=>by first|trivial|exact h_|exact h_.1))
        have cw:=fun(l:b 3=true)=>(show Kd.N k70 70 bs w.heap.size (fun k_=>(w.heap.size≤k_)∧k_≠j∧k_≠d) ab an from by first|exact(Kd.N_elder' (by(with_reducible repeat(first|apply Kd.N_alloc|apply Kd.N_drewN|apply Kd.N_drew));exact(O l)) (Kd.R_base a8) hb)|exact Kd.N_mono (Kd.N_elder' (by(with_reducible repeat(first|apply Kd.N_alloc|apply Kd.N_drewN|apply Kd.N_drew));exact(O l)) (Kd.R_base a8) hb) (fun _ h_=>by first|trivial|exact h_|exact h_.1))
        clear i
        clear c
        clear HB
        have aP:=U
        have i:=W
        have c:=X
        have HB:=ap
        clear U W X ap
        clear hb a8
        refine hK.out _ _ ⟨J,al,am,ab,Z,aB,aE,(by rw[ha.out];exact jg 4 hb_ rfl rfl rfl),(by(with_reducible repeat(first|refine ah ?_ _|refine af ?_|refine ag ?_ _));exact i.out),fun _=>(by(with_reducible repeat(first|refine ah ?_ _|refine af ?_|refine ag ?_ _));exact c.out),(by repeat(first|(with_reducible first|exact HB.out|apply aI|apply aG|apply aC|refine aK ?_ s.out|refine aK ?_ A.out)|exact HB.out)),cr,ct,cv,cw,fun _=>(by(with_reducible repeat(first|apply Kd.R_alloc|apply Kd.R_drewN|apply Kd.R_drew));exact Kd.R_mono aP.out (fun _ hk=>hk.1)),fun l=>absurd ((hoff 6 (by kernel_rfl)).symm.trans l) (by decide),aw,fun l=>absurd ((hoff 5 (by kernel_rfl)).symm.trans l) (by decide)⟩
      refine iH ?_ ?_
      · rintro b a w' ⟨J,al,am,ab,Z,aB,aE,ha,x,y,Q_HB,z,ac,ad,O,u,T,aw,aF⟩ hb_ hon hoff
        refine⟨_,rfl,fun K hK=> ?_⟩
        have e7:a.tmps[7]? =some (J):=by rw[ha];exact iX (e:=(0,7,J)) 0 rfl rfl (hon 0 (by kernel_rfl)) rfl
        have e10:a.tmps[10]? =some (ab):=by rw[ha];exact iX (e:=(3,10,ab)) 3 rfl rfl (hon 3 (by kernel_rfl)) rfl
        have e11:a.tmps[11]? =some (Z):=by rw[ha];exact iX (e:=(4,11,Z)) 4 rfl rfl (hon 4 (by kernel_rfl)) rfl
        replace ha:=Aside0.mk ha
        have i:=Aside0.mk x
        have c:=Aside0.mk (y (hoff 6 (by kernel_rfl)))
        have HB:=Aside0.mk Q_HB
        have B:=Aside0.mk (z (hon 0 (by kernel_rfl)))
        have aO:=Aside0.mk (O (hon 3 (by kernel_rfl)))
        have aP:=Aside0.mk (u (hon 4 (by kernel_rfl)))
        obtain⟨b3,b4,eo_⟩:=Kd.N_slice B.out
        subst eo_
        obtain⟨b5,b6,eo_⟩:=Kd.N_slice aO.out
        subst eo_
        obtain⟨b7,b8,eo_⟩:=Kd.R_slice aP.out
        subst eo_
        refine oq (w1:=w') (v:= .agg #[.slice b3 L.length b4, .slice b5 an.length b6, .slice b7 ao.length b8, .int .i64 0, .int .i64 0, .bool false, .int .i64 0]) (by rfl) rfl ?_ ?_
        · go_simp
          (try simp only[bX])
          try rfl
        refine hK.out _ _ ⟨.slice b3 L.length b4,al,am, .slice b5 an.length b6, .slice b7 ao.length b8,aB,(.agg #[.slice b3 L.length b4, .slice b5 an.length b6, .slice b7 ao.length b8, .int .i64 0, .int .i64 0, .bool false, .int .i64 0]),(by rw[ha.out];exact jg 5 hb_ rfl rfl rfl),x,y,Q_HB,z,fun _ aL=>absurd ((hon 3 (by kernel_rfl)).symm.trans aL) (by decide),fun _ aL=>absurd ((hon 3 (by kernel_rfl)).symm.trans aL) (by decide),O,u,fun l=>absurd ((hoff 6 (by kernel_rfl)).symm.trans l) (by decide),aw,fun _=>rfl⟩
      refine iH ?_ ?_
      · rintro b a w' ⟨J,al,am,ab,Z,aB,aE,ha,x,y,Q_HB,z,ac,ad,O,u,T,aw,aF⟩ hb_ hon hoff
        refine⟨_,rfl,fun K hK=> ?_⟩
        have e2:a.tmps[2]? =some (.pointer (some ⟨d,0,none⟩)):=by rw[ha];exact(jr rfl).trans rfl
        have e12:a.tmps[12]? =some (aE):=by rw[ha];exact iX (e:=(5,12,aE)) 5 rfl rfl (hon 5 (by kernel_rfl)) rfl
        rw[aF (hon 5 (by kernel_rfl))]at e12
        replace ha:=Aside0.mk ha
        have i:=Aside0.mk x
        have c:=Aside0.mk (y hb_)
        have HB:=Aside0.mk Q_HB
        have B:=Aside0.mk (z (hon 0 (by kernel_rfl)))
        have aO:=Aside0.mk (O (hon 3 (by kernel_rfl)))
        have aP:=Aside0.mk (u (hon 4 (by kernel_rfl)))
        obtain⟨bc,bd,cA⟩:=Kd.R_slice aP.out
        (first|subst cA|(injection cA with aq a0 ar;have a1:=aq.symm;have a2:=ar.symm;clear aq a0 ar;subst a1;subst a2))
        obtain⟨a9,ba,cC⟩:=Kd.N_slice aO.out
        (first|subst cC|(injection cC with aq a0 ar;have a1:=aq.symm;have a2:=ar.symm;clear aq a0 ar;subst a1;subst a2))
        obtain⟨a5,a6,cD⟩:=Kd.N_slice B.out
        (first|subst cD|(injection cD with aq a0 ar;have a1:=aq.symm;have a2:=ar.symm;clear aq a0 ar;subst a1;subst a2))
        have eJ:w'.cell? ⟨d,0,none⟩=some (.slice none 0 0):=(ae c.out 0).trans rfl
        have eo:=ay c.out 0
        have c0:=r.out
        have c1:=Y.out
        have eK:w'.cell? ⟨d,1,none⟩=some (.slice none 0 0):=(ae c.out 1).trans rfl
        have ep:=ay c.out 1
        have da:=r.out
        have db:=Y.out
        have eL:w'.cell? ⟨d,2,none⟩=some (.slice none 0 0):=(ae c.out 2).trans rfl
        have eq:=ay c.out 2
        have dc:=r.out
        have dd:=Y.out
        have eM:w'.cell? ⟨d,3,none⟩=some (.int .i64 0):=(ae c.out 3).trans rfl
        have er:=ay c.out 3
        have de:=r.out
        have dg:=Y.out
        have eN:w'.cell? ⟨d,4,none⟩=some (.int .i64 0):=(ae c.out 4).trans rfl
        have es:=ay c.out 4
        have dj:=r.out
        have dk:=Y.out
        have eR:w'.cell? ⟨d,5,none⟩=some (.bool false):=(ae c.out 5).trans rfl
        have et:=ay c.out 5
        have dl:=r.out
        have dp:=Y.out
        have eS:w'.cell? ⟨d,6,none⟩=some (.int .i64 0):=(ae c.out 6).trans rfl
        have ev:=ay c.out 6
        have dq:=r.out
        have dr:=Y.out
        refine uf (w1:= ?_) (by rfl) rfl ?_ ?_
        rotate_left
        · go_simp
          rfl
        refine hK.out _ _ ⟨.slice a5 L.length a6,al,am, .slice a9 an.length ba, .slice bc ao.length bd,aB,aE,(by rw[ha.out];exact pz (v:=undef) rfl),(by(with_reducible repeat(first|refine ah ?_ _|refine af ?_|refine ag ?_ _));refine eX ?_ r.out _;(with_reducible repeat(first|refine ah ?_ _|refine af ?_|refine ag ?_ _));refine eX ?_ r.out _;(with_reducible repeat(first|refine ah ?_ _|refine af ?_|refine ag ?_ _));refine eX ?_ r.out _;(with_reducible repeat(first|refine ah ?_ _|refine af ?_|refine ag ?_ _));refine eX ?_ r.out _;(with_reducible repeat(first|refine ah ?_ _|refine af ?_|refine ag ?_ _));refine eX ?_ r.out _;(with_reducible repeat(first|refine ah ?_ _|refine af ?_|refine ag ?_ _));refine eX ?_ r.out _;(with_reducible repeat(first|refine ah ?_ _|refine af ?_|refine ag ?_ _));refine eX ?_ r.out _;(with_reducible repeat(first|refine ah ?_ _|refine af ?_|refine ag ?_ _));exact i.out),fun l=>absurd ((jG b 6).symm.trans l) (by decide),(by repeat(first|(with_reducible first|exact HB.out|apply aI|apply aG|apply aC|refine aK ?_ s.out|refine aK ?_ A.out)|exact HB.out)),fun _=>(by(with_reducible repeat(first|apply Kd.N_alloc|apply Kd.N_drewN|apply Kd.N_drew));exact Kd.N_mono (Kd.N_far (p:=⟨d,6,none⟩) (Kd.N_far (p:=⟨d,5,none⟩) (Kd.N_far (p:=⟨d,4,none⟩) (Kd.N_far (p:=⟨d,3,none⟩) (Kd.N_far (p:=⟨d,2,none⟩) (Kd.N_far (p:=⟨d,1,none⟩) (Kd.N_far (p:=⟨d,0,none⟩) (Kd.N_mono B.out (fun k_ hk=>(⟨hk,by first|exact hk.2|exact hk.2.2|exact hk.2.2.2|exact hk.2.2.2.2⟩:_∧k_≠d))) (fun _ hk=>hk.2) (.slice a5 L.length a6)) (fun _ hk=>hk.2) (.slice a9 an.length ba)) (fun _ hk=>hk.2) (.slice bc ao.length bd)) (fun _ hk=>hk.2) (.int .i64 0)) (fun _ hk=>hk.2) (.int .i64 0)) (fun _ hk=>hk.2) (.bool false)) (fun _ hk=>hk.2) (.int .i64 0)) (fun _ hk=>(by grind))),fun _ aL=>absurd ((hon 3 (by kernel_rfl)).symm.trans aL) (by decide),fun _ aL=>absurd ((hon 3 (by kernel_rfl)).symm.trans aL) (by decide),fun _=>(by(with_reducible repeat(first|apply Kd.N_alloc|apply Kd.N_drewN|apply Kd.N_drew));exact Kd.N_mono (Kd.N_far (p:=⟨d,6,none⟩) (Kd.N_far (p:=⟨d,5,none⟩) (Kd.N_far (p:=⟨d,4,none⟩) (Kd.N_far (p:=⟨d,3,none⟩) (Kd.N_far (p:=⟨d,2,none⟩) (Kd.N_far (p:=⟨d,1,none⟩) (Kd.N_far (p:=⟨d,0,none⟩) (Kd.N_mono aO.out (fun k_ hk=>(⟨hk,by first|exact hk.2|exact hk.2.2|exact hk.2.2.2|exact hk.2.2.2.2⟩:_∧k_≠d))) (fun _ hk=>hk.2) (.slice a5 L.length a6)) (fun _ hk=>hk.2) (.slice a9 an.length ba)) (fun _ hk=>hk.2) (.slice bc ao.length bd)) (fun _ hk=>hk.2) (.int .i64 0)) (fun _ hk=>hk.2) (.int .i64 0)) (fun _ hk=>hk.2) (.bool false)) (fun _ hk=>hk.2) (.int .i64 0)) (fun _ hk=>(by grind))),fun _=>(by(with_reducible repeat(first|apply Kd.R_alloc|apply Kd.R_drewN|apply Kd.R_drew));exact Kd.R_mono (Kd.R_far (p:=⟨d,6,none⟩) (Kd.R_far (p:=⟨d,5,none⟩) (Kd.R_far (p:=⟨d,4,none⟩) (Kd.R_far (p:=⟨d,3,none⟩) (Kd.R_far (p:=⟨d,2,none⟩) (Kd.R_far (p:=⟨d,1,none⟩) (Kd.R_far (p:=⟨d,0,none⟩) (Kd.R_types aP.out c.out (by decide)) (fun _ hk=>hk.2) (.slice a5 L.length a6)) (fun _ hk=>hk.2) (.slice a9 an.length ba)) (fun _ hk=>hk.2) (.slice bc ao.length bd)) (fun _ hk=>hk.2) (.int .i64 0)) (fun _ hk=>hk.2) (.int .i64 0)) (fun _ hk=>hk.2) (.bool false)) (fun _ hk=>hk.2) (.int .i64 0)) (fun _ hk=>hk.1)),fun _=>(by(with_reducible repeat(first|refine ah ?_ _|refine af ?_|refine ag ?_ _));refine bg (cs:= #[.slice a5 L.length a6, .slice a9 an.length ba, .slice bc ao.length bd, .int .i64 0, .int .i64 0, .bool false, .int .i64 0]) ?_ 6 _ rfl;(with_reducible repeat(first|refine ah ?_ _|refine af ?_|refine ag ?_ _));refine bg (cs:= #[.slice a5 L.length a6, .slice a9 an.length ba, .slice bc ao.length bd, .int .i64 0, .int .i64 0, .bool false, .int .i64 0]) ?_ 5 _ rfl;(with_reducible repeat(first|refine ah ?_ _|refine af ?_|refine ag ?_ _));refine bg (cs:= #[.slice a5 L.length a6, .slice a9 an.length ba, .slice bc ao.length bd, .int .i64 0, .int .i64 0, .bool false, .int .i64 0]) ?_ 4 _ rfl;(with_reducible repeat(first|refine ah ?_ _|refine af ?_|refine ag ?_ _));refine bg (cs:= #[.slice a5 L.length a6, .slice a9 an.length ba, .slice bc ao.length bd, .int .i64 0, .int .i64 0, .bool false, .int .i64 0]) ?_ 3 _ rfl;(with_reducible repeat(first|refine ah ?_ _|refine af ?_|refine ag ?_ _));refine bg (cs:= #[.slice a5 L.length a6, .slice a9 an.length ba, .slice none 0 0, .int .i64 0, .int .i64 0, .bool false, .int .i64 0]) ?_ 2 _ rfl;(with_reducible repeat(first|refine ah ?_ _|refine af ?_|refine ag ?_ _));refine bg (cs:= #[.slice a5 L.length a6, .slice none 0 0, .slice none 0 0, .int .i64 0, .int .i64 0, .bool false, .int .i64 0]) ?_ 1 _ rfl;(with_reducible repeat(first|refine ah ?_ _|refine af ?_|refine ag ?_ _));refine bg (cs:= #[.slice none 0 0, .slice none 0 0, .slice none 0 0, .int .i64 0, .int .i64 0, .bool false, .int .i64 0]) ?_ 0 _ rfl;(with_reducible repeat(first|refine ah ?_ _|refine af ?_|refine ag ?_ _));exact c.out),aw,aF⟩
      exact qQ
    rintro b a eW hall ⟨J,al,am,ab,Z,aB,aE,ha,x,y,Q_HB,z,ac,ad,O,u,T,aw,aF⟩
    clear i c HB
    have cf:=hall 0 (by kernel_rfl)
    have cE:=hall 1 (by kernel_rfl)
    have cg:=hall 2 (by kernel_rfl)
    have ch:=hall 3 (by kernel_rfl)
    have ci:=hall 4 (by kernel_rfl)
    have cj:=hall 5 (by kernel_rfl)
    have ck:=hall 6 (by kernel_rfl)
    subst ha
    obtain rfl:=aw cg
    obtain rfl:=aF cj
    simp only[fA,cf,cE,cg,ch,ci,cj,ck,if_true,Act.put,List.setIfInBounds_toArray,List.set_cons_zero,List.set_cons_succ]
    have i:=Aside0.mk x
    clear x
    clear y
    have HB:=Aside0.mk Q_HB
    clear Q_HB
    have B:=Aside0.mk (z cf)
    clear z
    clear ac
    clear ad
    have aO:=Aside0.mk (O ch)
    clear O
    have aP:=Aside0.mk (u ci)
    clear u
    have c:=Aside0.mk (T ck)
    clear T
    clear hall cf cE cg ch ci cj ck
    obtain⟨cT,cU,cF⟩:=Kd.R_slice aP.out
    (first|subst cF|(injection cF with aq a0 ar;have a1:=aq.symm;have a2:=ar.symm;clear aq a0 ar;subst a1;subst a2))
    obtain⟨cV,cW,cG⟩:=Kd.N_slice aO.out
    (first|subst cG|(injection cG with aq a0 ar;have a1:=aq.symm;have a2:=ar.symm;clear aq a0 ar;subst a1;subst a2))
    obtain⟨cX,cY,cH⟩:=Kd.N_slice B.out
    (first|subst cH|(injection cH with aq a0 ar;have a1:=aq.symm;have a2:=ar.symm;clear aq a0 ar;subst a1;subst a2))
    try go_wp2
    refine bodyPost_ret (results_cell_row rfl _ _ d 33 #[.slice cX L.length cY, .slice cV an.length cW, .slice cT ao.length cU, .int .i64 0, .int .i64 0, .bool false, .int .i64 0] (0,0) _ rfl (by(with_reducible repeat(first|refine ah ?_ _|refine af ?_|refine ag ?_ _));exact c.out) Tryz.underlying33 rfl (by kernel_rfl)) rfl ?_
    exact⟨_,_,_,by first|rfl|(simp[bz,bA]<;>rfl)|(simp[*,bz,bA]<;>rfl),by(with_reducible repeat(first|apply Kd.N_alloc|apply Kd.N_drewN|apply Kd.N_drew));exact Kd.N_mono B.out (fun _ hk=>(by grind)),by(with_reducible repeat(first|apply Kd.N_alloc|apply Kd.N_drewN|apply Kd.N_drew));exact Kd.N_mono aO.out (fun _ hk=>(by grind)),by(with_reducible repeat(first|apply Kd.R_alloc|apply Kd.R_drewN|apply Kd.R_drew));exact aP.out,by repeat(first|(with_reducible first|exact HB.out|apply aI|apply aG|apply aC|refine aK ?_ s.out|refine aK ?_ A.out)|exact HB.out)⟩
  · replace c3:=Bool.eq_false_iff.mpr c3
    subst c3
    have H1:(some (([]:List (S91)),([]:List (S70)),([]:List Int),0,0,false,0))=some (r1,r2,r3,r4,r5,r6,r7):=by rw[if_neg (show¬(false=true) by decide)]at H;exact H
    clear H
    have H:=H1
    clear H1
    simp only[Option.some.injEq,Prod.mk.injEq]at H
    obtain⟨rfl,rfl,rfl,rfl,rfl,rfl,rfl⟩:=H
    go_enter Tryz.func7,Tryz.ntmps7
    go_wp2_with (first|((with_reducible refine iG (N:=1) rfl ?_);refine gG ?hg (N:=1) ?hd (cs:= #[.slice D m.length E, .slice G q.length I]) (t:=38) ?hr ?_;(case hd=>rfl);(case hg=>rfl);(case hr=>first|(go_simp;done)|(go_simp;rfl));intro j hg e0 hbox hb;have U:=Aside0.mk (bi (by repeat(first|(with_reducible first|exact HB.out|apply aI|apply aG|apply aC)|exact HB.out)) hb);have W:=Aside0.mk (hbox);have X:=Aside0.mk ((by rw[hg];exact(aU (by repeat(first|(with_reducible first|exact HB.out|apply aI|apply aG|apply aC)|exact HB.out))):w.heap.size≤j));have ap:=Aside0.mk ((by rw[hg];exact(aU (by repeat(first|(with_reducible first|exact HB.out|apply aI|apply aG|apply aC)|exact HB.out))):w.heap.size≤j));clear HB;have HB:=U;have i:=W;have cI:=X;have s:=ap;clear U W X ap;clear hb hbox hg)|((with_reducible refine iG (N:=2) rfl ?_);refine gG ?hg (N:=2) ?hd (cs:= #[.slice none 0 0, .slice none 0 0, .slice none 0 0, .int .i64 0, .int .i64 0, .bool false, .int .i64 0]) (t:=33) ?hr ?_;(case hd=>rfl);(case hg=>rfl);(case hr=>first|(go_simp;done)|(go_simp;rfl));intro d hg cS hbox hb;have U:=Aside0.mk (cK (g:=j) (o:= .cells #[.slice D m.length E, .slice G q.length I] 38 (0,0)) (by(with_reducible repeat(first|refine ah ?_ _|refine af ?_|refine ag ?_ _));exact i.out) hb);have W:=Aside0.mk (bi (by repeat(first|(with_reducible first|exact HB.out|apply aI|apply aG|apply aC|refine aK ?_ s.out)|exact HB.out)) hb);have X:=Aside0.mk (hbox);have ap:=Aside0.mk ((by rw[hg];exact(aU (by repeat(first|(with_reducible first|exact HB.out|apply aI|apply aG|apply aC|refine aK ?_ s.out)|exact HB.out))):w.heap.size≤d));have bb:=Aside0.mk ((by rw[hg];exact(aU (by repeat(first|(with_reducible first|exact HB.out|apply aI|apply aG|apply aC|refine aK ?_ s.out)|exact HB.out))):w.heap.size≤d));have bo:=Aside0.mk ((by rw[hg];exact Nat.ne_of_lt (fF (g:=j) (o:= .cells #[.slice D m.length E, .slice G q.length I] 38 (0,0)) (by(with_reducible repeat(first|refine ah ?_ _|refine af ?_|refine ag ?_ _));exact i.out)):j≠d));have b9:=Aside0.mk ((by rw[hg];exact Nat.ne_of_gt (fF (g:=j) (o:= .cells #[.slice D m.length E, .slice G q.length I] 38 (0,0)) (by(with_reducible repeat(first|refine ah ?_ _|refine af ?_|refine ag ?_ _));exact i.out)):d≠j));clear i;clear HB;have i:=U;have HB:=W;have c:=X;have cJ:=ap;have A:=bb;have r:=bo;have Y:=b9;clear U W X ap bb bo b9;clear hb hbox hg;have ew:=r.out;have ex:=Y.out;have dt:cS.cell? ⟨j,0,none⟩=some (.slice D m.length E):=(ae i.out 0).trans rfl;have du:cS.cell? ⟨j,1,none⟩=some (.slice G q.length I):=(ae i.out 1).trans rfl;have dv:=ay i.out 0;have dy:=ay i.out 1)|((with_reducible refine ed (f:=28) rfl ?_);refine dH (some 4) rfl rfl Tryz.func28 (by kernel_rfl) rfl #[.agg #[.slice D m.length E, .slice G q.length I]] rfl (by(try simp only[List.map_toArray,List.map_cons,List.map_nil]);first|done|rfl|(simp only[List.length_drop,List.length_take];rfl)) ?_;(with_reducible refine(aY.calls k _ _ m _ _ q false _ ?s1 ?s2 ?s3 ?s4 A2.out).mono ?_);(case s1=>repeat(first|exact(Kd.C_below bt.out HB.out)|(with_reducible refine Kd.C_alloc ?_ _)|(with_reducible refine Kd.C_drewN ?_ _)|(with_reducible refine Kd.C_drew ?_)));(case s2=>exact bw.out);(case s3=>repeat(first|exact(Kd.C_below b0.out HB.out)|(with_reducible refine Kd.C_alloc ?_ _)|(with_reducible refine Kd.C_drewN ?_ _)|(with_reducible refine Kd.C_drew ?_)));(case s4=>exact b1.out);rintro e br ⟨rfl,hb⟩;refine⟨_,rfl, ?_⟩;have U:=Aside0.mk (cK (g:=j) (o:= .cells #[.slice D m.length E, .slice G q.length I] 38 (0,0)) (by(with_reducible repeat(first|refine ah ?_ _|refine af ?_|refine ag ?_ _));exact i.out) hb);have W:=Aside0.mk (cK (g:=d) (o:= .cells #[.slice none 0 0, .slice none 0 0, .slice none 0 0, .int .i64 0, .int .i64 0, .bool false, .int .i64 0] 33 (0,0)) (by(with_reducible repeat(first|refine ah ?_ _|refine af ?_|refine ag ?_ _));exact c.out) hb);have X:=Aside0.mk (bi (by repeat(first|(with_reducible first|exact HB.out|apply aI|apply aG|apply aC|refine aK ?_ s.out|refine aK ?_ A.out)|exact HB.out)) hb);clear i;clear c;clear HB;have i:=U;have c:=W;have HB:=X;clear U W X;(try clear hb);(try clear hb2);(try clear hk);(try clear hi);have dT:br.cell? ⟨d,0,none⟩=some (.slice none 0 0):=(ae c.out 0).trans rfl;have d0:br.cell? ⟨d,1,none⟩=some (.slice none 0 0):=(ae c.out 1).trans rfl;have d1:br.cell? ⟨d,2,none⟩=some (.slice none 0 0):=(ae c.out 2).trans rfl;have d2:br.cell? ⟨d,3,none⟩=some (.int .i64 0):=(ae c.out 3).trans rfl;have d3:br.cell? ⟨d,4,none⟩=some (.int .i64 0):=(ae c.out 4).trans rfl;have d4:br.cell? ⟨d,5,none⟩=some (.bool false):=(ae c.out 5).trans rfl;have d5:br.cell? ⟨d,6,none⟩=some (.int .i64 0):=(ae c.out 6).trans rfl;have d6:=ay c.out 0;have d7:=ay c.out 1;have d8:=ay c.out 2;have ea:=ay c.out 3;have eb:=ay c.out 4;have ec:=ay c.out 5;have ee:=ay c.out 6))
    refine bodyPost_ret (results_cell_row rfl _ _ d 33 #[.slice none 0 0, .slice none 0 0, .slice none 0 0, .int .i64 0, .int .i64 0, .bool false, .int .i64 0] (0,0) _ rfl (by(with_reducible repeat(first|refine ah ?_ _|refine af ?_|refine ag ?_ _));refine bg (cs:= #[.slice none 0 0, .slice none 0 0, .slice none 0 0, .int .i64 0, .int .i64 0, .bool false, .int .i64 0]) ?_ 6 _ rfl;(with_reducible repeat(first|refine ah ?_ _|refine af ?_|refine ag ?_ _));refine bg (cs:= #[.slice none 0 0, .slice none 0 0, .slice none 0 0, .int .i64 0, .int .i64 0, .bool false, .int .i64 0]) ?_ 5 _ rfl;(with_reducible repeat(first|refine ah ?_ _|refine af ?_|refine ag ?_ _));refine bg (cs:= #[.slice none 0 0, .slice none 0 0, .slice none 0 0, .int .i64 0, .int .i64 0, .bool false, .int .i64 0]) ?_ 4 _ rfl;(with_reducible repeat(first|refine ah ?_ _|refine af ?_|refine ag ?_ _));refine bg (cs:= #[.slice none 0 0, .slice none 0 0, .slice none 0 0, .int .i64 0, .int .i64 0, .bool false, .int .i64 0]) ?_ 3 _ rfl;(with_reducible repeat(first|refine ah ?_ _|refine af ?_|refine ag ?_ _));refine bg (cs:= #[.slice none 0 0, .slice none 0 0, .slice none 0 0, .int .i64 0, .int .i64 0, .bool false, .int .i64 0]) ?_ 2 _ rfl;(with_reducible repeat(first|refine ah ?_ _|refine af ?_|refine ag ?_ _));refine bg (cs:= #[.slice none 0 0, .slice none 0 0, .slice none 0 0, .int .i64 0, .int .i64 0, .bool false, .int .i64 0]) ?_ 1 _ rfl;(with_reducible repeat(first|refine ah ?_ _|refine af ?_|refine ag ?_ _));refine bg (cs:= #[.slice none 0 0, .slice none 0 0, .slice none 0 0, .int .i64 0, .int .i64 0, .bool false, .int .i64 0]) ?_ 0 _ rfl;(with_reducible repeat(first|refine ah ?_ _|refine af ?_|refine ag ?_ _));exact c.out) Tryz.underlying33 rfl (by kernel_rfl)) rfl ?_
    exact⟨_,_,_,by first|rfl|(simp[bz,bA]<;>rfl)|(simp[*,bz,bA]<;>rfl),by first|exact Kd.S_nil _ _ _ _ _|exact Kd.N_nil _ _ _ _ _|exact Kd.V_nil _ _ _ _ _|exact Kd.Q_nil _ _ _ _ _|exact Kd.R_nil _ _ _ _ _,by first|exact Kd.S_nil _ _ _ _ _|exact Kd.N_nil _ _ _ _ _|exact Kd.V_nil _ _ _ _ _|exact Kd.Q_nil _ _ _ _ _|exact Kd.R_nil _ _ _ _ _,by first|exact Kd.R_nil _ _ _ _ _|exact Kd.N_nil _ _ _ _ _|exact Kd.V_nil _ _ _ _ _|exact Kd.Q_nil _ _ _ _ _|exact Kd.S_nil _ _ _ _ _,by repeat(first|(with_reducible first|exact HB.out|apply aI|apply aG|apply aC|refine aK ?_ s.out|refine aK ?_ A.out)|exact HB.out)⟩
end Go.Proofs.YteinbmkgenhocaaGreat.P
end
section
namespace Go.Proofs.YteinbmkgenhocaaGreat.P
open Go Go.RowKit Go.Proofs.YteinbmkgenhocaaGreatW.PrintWords
set_option linter.unusedVariables false
set_option maxRecDepth 100000
set_option linter.unusedSimpArgs false
theorem lX {r:Int} (h:8≤r):iJ r= .iface 210 (.agg #[.int .i64 (r - 8)]):=by
  unfold iJ
  rw[if_neg (by omega),if_neg (by omega),if_neg (by omega),if_neg (by omega),if_neg (by omega),if_neg (by omega)]
set_option maxHeartbeats 2000000 in
set_option maxRecDepth 100000 in
theorem dF.calls' (a0 a1 r:Int) (w:World) (h:dF.f a0 a1=some r):
    Calls Tryz.prog 127 #[.int .i64 a0, .int .i64 a1] w fun e w' =>e= .returned (iJ r)∧w=w' :=by
  unfold dF.f at h
  split at h
  · rename_i hb
    obtain⟨h0,h1,h2,h3⟩:=hb
    by_cases c0:a1=0
    · subst c0
      obtain rfl:0=r:=by simpa using h
      go_enter Tryz.func127,Tryz.ntmps127
      go_wp2
      go_ret
      exact⟨rfl,rfl⟩
    by_cases c1:a1=1
    · subst c1
      obtain rfl:1=r:=by simpa using h
      go_enter Tryz.func127,Tryz.ntmps127
      go_wp2
      go_ret
      exact⟨rfl,rfl⟩
    by_cases c2:a1=2
    · subst c2
      obtain rfl:2=r:=by simpa using h
      go_enter Tryz.func127,Tryz.ntmps127
      go_wp2
      go_ret
      exact⟨rfl,rfl⟩
    by_cases c3:a1=3
    · subst c3
      obtain rfl:3=r:=by simpa using h
      go_enter Tryz.func127,Tryz.ntmps127
      go_wp2
      go_ret
      exact⟨rfl,rfl⟩
    by_cases c4:a1=4
    · subst c4
      obtain rfl:4=r:=by simpa using h
      go_enter Tryz.func127,Tryz.ntmps127
      go_wp2
      go_ret
      exact⟨rfl,rfl⟩
    rw[if_neg c0,if_neg c1,if_neg c2,if_neg c3,if_neg c4]at h
    have b0:(a1==0)=false:=by simpa using c0
    have b1:(a1==1)=false:=by simpa using c1
    have b2:(a1==2)=false:=by simpa using c2
    have b3:(a1==3)=false:=by simpa using c3
    have b4:(a1==4)=false:=by simpa using c4
    clear c0 c1 c2 c3 c4
    by_cases c5:8≤a1
    · by_cases c6:a1<8+a0
      · rw[if_pos ⟨c5,c6⟩]at h
        obtain rfl:=Option.some.inj h
        have H8:=Aside0.mk (lX c5)
        clear h
        go_enter Tryz.func127,Tryz.ntmps127
        go_wp2
        go_ret
        exact⟨by rw[H8.out];rfl,rfl⟩
      · rw[if_neg (by omega)]at h
        obtain rfl:=Option.some.inj h
        go_enter Tryz.func127,Tryz.ntmps127
        go_wp2
        go_ret
        exact⟨rfl,rfl⟩
    · rw[if_neg (by omega)]at h
      obtain rfl:=Option.some.inj h
      go_enter Tryz.func127,Tryz.ntmps127
      go_wp2
      go_ret
      exact⟨rfl,rfl⟩
  ·cases h
theorem dF.calls (a0 a1 r:Int) (w:World) (h:dF.f a0 a1=some r):
    Calls Tryz.prog 127 #[.int .i64 a0, .int .i64 a1] w fun e w' =>e= .returned (iJ r)∧Drawn0 w w' :=
  (dF.calls' a0 a1 r w h).mono fun e w' ⟨he,hw⟩=>⟨he,hw▸Drawn0.refl w⟩
theorem oQ {c t r:Int} (h:dF.f c t=some r):r= -1∨r=0∨r=1∨r=2∨r=3∨r=4∨(8≤r∧r<8+c):=by
  unfold dF.f at h
  split at h
  · repeat' split at h
    all_goals (have:=Option.some.inj h;omega)
  ·cases h
set_option maxRecDepth 100000 in
theorem uB (r:Int) (W:World):(binOp .eql 167 (iJ r) .nilIface).run Tryz.prog W= .ok (.bool (r== -1)) W:=by
  by_cases h:r= -1
  ·subst h;rfl
  · have e:(r== -1)=false:=by simpa using h
    rw[e]
    unfold iJ
    rw[if_neg h]
    repeat' split
    all_goals rfl
set_option maxRecDepth 100000 in
theorem uC (r:Int) (W:World):(binOp .neq 167 (iJ r) .nilIface).run Tryz.prog W= .ok (.bool (r != -1)) W:=by
  by_cases h:r= -1
  ·subst h;rfl
  · have e:(r != -1)=true:=by simpa using h
    rw[e]
    unfold iJ
    rw[if_neg h]
    repeat' split
    all_goals rfl
theorem nJ {r:Int} (h:r≠ -1): ∃u x,iJ r= .iface u x:=by
  unfold iJ
  rw[if_neg h]
  repeat' split
  all_goals exact⟨_,_,rfl⟩
theorem rC (r:Int) (t:TypeId) (o:Operand) (W:World):(eqGuard .eql t o (.const .nilIface) (iJ r) .nilIface).run Tryz.prog W= .ok () W:=by
  by_cases h:r= -1
  · subst h
    cases o<;>rfl
  · obtain⟨u,x,e⟩:=nJ h
    rw[e];rfl
theorem rD (r:Int) (t:TypeId) (o:Operand) (W:World):(eqGuard .neq t o (.const .nilIface) (iJ r) .nilIface).run Tryz.prog W= .ok () W:=by
  by_cases h:r= -1
  · subst h
    cases o<;>rfl
  · obtain⟨u,x,e⟩:=nJ h
    rw[e];rfl
def lK (r:Int):Prop:=r= -1∨r=0∨r=1∨r=2∨r=3∨r=4∨8≤r
theorem rE {r:Int} (h:lK r) (W:World):(Instr.typeAssert (iJ r) 167 205 true).run Tryz.prog W= .ok (.tuple #[.agg #[], .bool (r==1)]) W:=by
  rcases h with rfl|rfl|rfl|rfl|rfl|rfl|h
  all_goals try rfl
  rw[lX h,show(r==1)=false by simp;omega];rfl
theorem pE {r:Int} (h:lK r) (W:World):(Instr.typeAssert (iJ r) 167 208 true).run Tryz.prog W= .ok (.tuple #[.agg #[.bool (r==4)], .bool (r==3||r==4)]) W:=by
  rcases h with rfl|rfl|rfl|rfl|rfl|rfl|h
  all_goals try rfl
  rw[lX h,show(r==3)=false by simp;omega,show(r==4)=false by simp;omega];rfl
theorem pF {r:Int} (h:lK r) (W:World):(Instr.typeAssert (iJ r) 167 210 true).run Tryz.prog W= .ok (.tuple #[.agg #[.int .i64 (if 8≤r then r - 8 else 0)], .bool (decide (8≤r))]) W:=by
  rcases h with rfl|rfl|rfl|rfl|rfl|rfl|h
  all_goals try rfl
  rw[lX h,if_pos h,decide_eq_true h];rfl
set_option maxHeartbeats 2000000 in
set_option maxRecDepth 100000 in
theorem ek.calls (a0 a1:Int) (r:Bool) (w:World) (h:ek.f a0 a1=some r):
    Calls Tryz.prog 145 #[.int .i64 a0, .int .i64 a1] w fun e w' =>e= .returned (.bool r)∧Drawn0 w w' :=by
  unfold ek.f at h
  obtain⟨q,hq,hr⟩:=Option.bind_eq_some_iff.1 h
  obtain rfl:=Option.some.inj hr
  clear h hr
  have hc:lK q:=by have:=oQ hq;unfold lK;omega
  have A:=Aside0.mk hq
  clear hq
  have s1:=rE hc
  have s2:=pE hc
  have s3:=pF hc
  have b:(q==1||(q==3||q==4)||decide (8≤q))=decide (q=1∨q=3∨q=4∨8≤q):=by
    rw[Bool.eq_iff_iff];simp;omega
  have B:=Aside0.mk b
  clear b hc
  rw[←B.out]
  clear B
  by_cases h1:q=1
  · subst h1
    go_enter Tryz.func145,Tryz.ntmps145
    go_wp2_with (go_at_call 127;refine(dF.calls' _ _ _ _ A.out).mono ?_;rintro e w' ⟨rfl,rfl⟩)
    go_ret
    exact⟨rfl,Drawn0.refl _⟩
  · have b1:(q==1)=false:=by simpa using h1
    by_cases h2:(q==3||q==4)=true
    · go_enter Tryz.func145,Tryz.ntmps145
      go_wp2_with (go_at_call 127;refine(dF.calls' _ _ _ _ A.out).mono ?_;rintro e w' ⟨rfl,rfl⟩)
      all_goals go_ret
      all_goals exact⟨by simp[h2],Drawn0.refl _⟩
    · have b2:(q==3||q==4)=false:=by simpa using h2
      by_cases h3:8≤q
      · have b3:decide (8≤q)=true:=decide_eq_true h3
        go_enter Tryz.func145,Tryz.ntmps145
        go_wp2_with (go_at_call 127;refine(dF.calls' _ _ _ _ A.out).mono ?_;rintro e w' ⟨rfl,rfl⟩)
        all_goals go_ret
        all_goals exact⟨by simp[*],Drawn0.refl _⟩
      · have b3:decide (8≤q)=false:=decide_eq_false h3
        go_enter Tryz.func145,Tryz.ntmps145
        go_wp2_with (go_at_call 127;refine(dF.calls' _ _ _ _ A.out).mono ?_;rintro e w' ⟨rfl,rfl⟩)
        all_goals go_ret
        all_goals exact⟨by simp[*],Drawn0.refl _⟩
end Go.Proofs.YteinbmkgenhocaaGreat.P
end
section
namespace Go.Proofs.YteinbmkgenhocaaGreat.P
open Go.RowKit Go.Proofs.YteinbmkgenhocaaGreatW.PrintWords Go.Proofs.YteinbmkgenhocaaGreatW.PrintLast Go.Proofs.YteinbmkgenhocaaGreatW.PrintMore
attribute [local go_sem] ak au az aA ai aj av ax
set_option linter.unusedVariables false
set_option linter.unusedSimpArgs false
set_option maxHeartbeats 8000000 in
set_option maxRecDepth 100000 in
theorem aJ.calls (k :Nat) (A0:Option Addr) (c0:Nat) (l0:List (S126)) (r:Bool) (w:World) (hr0:Kd.C eB w A0 l0.length l0) (hc0:l0.length≤c0) (h:aJ.f k l0=some r):
  Calls Tryz.prog 78 #[.slice A0 l0.length c0] w fun e w' =>e= .returned (.bool r)∧Below w.heap.size w w' :=by
 have cx:=Tryz.underlying126
 have aE:=Aside0.mk hr0
 have da:=Aside0.mk hc0
 clear hr0 hc0
 have HB:=Aside0.mk (Below.refl w.heap.size w)
 have H:(if(l0.length:Int)<2 then(aJ.j0 k l0 true)else(aJ.j0 k l0 (decide ((l0.length:Int)>5))))=some r:=h
 clear h
 have bo:=Aside0.mk H
 clear H
 go_enter Tryz.func78,Tryz.ntmps78
 go_upto_region 1 with(fail)
 go_cut [15] (fun v15 wc=> ∃(kq:Nat) (P:Bool),v15= .bool P∧Aside0 (aJ.j0 kq l0 P=some r)∧Aside0 (kq≤k)∧Aside0 (Below w.heap.size w wc))
 case first=>
  have H:=bo.out
  clear bo
  by_cases c3:(l0.length:Int)<2
  ·rw[if_pos c3]at H
   have W:decide ((l0.length:Int)<2)=true:=decide_eq_true c3
   have cg:decide (l0.length<2)=true:=decide_eq_true (by omega)
   clear c3
   (first|rw[W]|(simp only[bX,bZ];rw[W])|skip)
   have H' :=Aside0.mk H
   clear H
   go_wp2
   go_meet
   case rel=>exact⟨_,(true),(by first|rfl|(simp;done)|(simp[*];done)),H',⟨by first|omega|exact Nat.le_refl _⟩,⟨bl⟩⟩
  rw[if_neg c3]at H
  have W:decide ((l0.length:Int)<2)=false:=decide_eq_false c3
  have cg:decide (l0.length<2)=false:=decide_eq_false (by omega)
  clear c3
  (first|rw[W]|(simp only[bX,bZ];rw[W])|skip)
  have H' :=Aside0.mk H
  clear H
  go_wp2
  go_meet
  case rel=>exact⟨_,(decide ((l0.length:Int)>5)),(by first|rfl|(simp;done)|(simp[*];done)),H',⟨by first|omega|exact Nat.le_refl _⟩,⟨bl⟩⟩
 case rest =>
  clear bo
  obtain⟨kq,P,rfl,HA,y,HB⟩:=hcut
  cases kq with
  |zero=>exact absurd HA.out (by simp[aJ.j0])
  | succ cs =>
   have H:=HA.out
   clear HA
   simp only[aJ.j0]at H
   by_cases c4:P=true
   ·subst c4
    replace H:=it H
    obtain rfl:=Option.some.inj H;clear H
    go_wp2
    go_ret
    exact fin
   replace c4:=Bool.eq_false_iff.mpr c4
   subst c4
   replace H:=ie H
   have bp:=Aside0.mk H
   clear H
   go_upto_region 3 with(fail)
   go_cut [28] (fun v28 wc=> ∃(kq:Nat) (T:Bool),v28= .bool T∧Aside0 (aJ.j1 kq l0 T=some r)∧Aside0 (kq≤cs)∧Aside0 (Below w.heap.size w wc))
   case first=>
    have H:=bp.out
    clear bp
    by_cases c6:0<(l0.length:Int)
    ·rw[if_pos c6]at H
     have br:decide (0<(l0.length:Int))=true:=decide_eq_true c6
     have cX:decide (0<l0.length)=true:=decide_eq_true (by omega)
     clear c6
     (first|rw[br]|(simp only[bX,bZ];rw[br])|skip)
     by_cases c7:((aD l0 0).f0)=(-1)
     ·rw[if_pos c7]at H
      have ch:=beq_iff_eq.mpr c7
      have ci:=bne_eq_false_iff_eq.mpr c7
      clear c7
      have H' :=Aside0.mk H
      clear H
      have E:0≤(0:Int):=(by omega)
      have G:0<(l0.length:Int):=od
      obtain⟨a8,bs,bt,aO,g,c,q,s⟩:=fP aE.out 0 E G
      cases aO
      have b0:(0<l0.length)=True:=eq_true (by omega)
      (try rw[show((0:Int)).toNat=0 from rfl]at g)
      (try rw[show 0 * 2=0 from rfl]at g)
      (try rw[Addr.add_zero']at g)
      (try rw[show((0:Int)).toNat=0 from rfl]at c)
      (try rw[show 0 * 2=0 from rfl]at c)
      (try rw[Addr.add_zero']at c)
      obtain⟨g,c⟩:=hc2 HB g c
      have bj:=Aside0.mk s
      have bk:=Aside0.mk q
      clear s q
      replace E:=eq_true E
      replace G:=eq_true G
      have aP:0≤(0:Int):=(by omega)
      have aR:0<(l0.length:Int):=od
      obtain⟨b1,ct,cv,cj,t,n,Z,ab⟩:=fP aE.out 0 aP aR
      obtain rfl:a8=b1:=(by injection cj)
      have cy:(0<l0.length)=True:=eq_true (by omega)
      (try rw[show((0:Int)).toNat=0 from rfl]at t)
      (try rw[show 0 * 2=0 from rfl]at t)
      (try rw[Addr.add_zero']at t)
      (try rw[show((0:Int)).toNat=0 from rfl]at n)
      (try rw[show 0 * 2=0 from rfl]at n)
      (try rw[Addr.add_zero']at n)
      obtain⟨t,n⟩:=hc2 HB t n
      have co:=Aside0.mk ab
      have cp:=Aside0.mk Z
      clear ab Z
      replace aP:=eq_true aP
      replace aR:=eq_true aR
      have ea_:=Option.some.inj (c.symm.trans n)
      injection ea_ with ea_ en_ ec_
      subst ea_
      subst ec_
      clear en_
      go_wp2
      go_meet
      case rel=>exact⟨_,(((((aD l0 0).f1).length:Int) !=0)),(by first|rfl|(simp;done)|(simp[*];done)),H',⟨by have:=y.out;first|omega|exact Nat.le_refl _⟩,⟨bl⟩⟩
     rw[if_neg c7]at H
     have ch:=beq_eq_false_iff_ne.mpr c7
     have ci:=bne_iff_ne.mpr c7
     have H' :=Aside0.mk H
     clear H
     have E:0≤(0:Int):=(by omega)
     have G:0<(l0.length:Int):=od
     obtain⟨a8,bs,bt,aO,g,c,q,s⟩:=fP aE.out 0 E G
     cases aO
     have b0:(0<l0.length)=True:=eq_true (by omega)
     (try rw[show((0:Int)).toNat=0 from rfl]at g)
     (try rw[show 0 * 2=0 from rfl]at g)
     (try rw[Addr.add_zero']at g)
     (try rw[show((0:Int)).toNat=0 from rfl]at c)
     (try rw[show 0 * 2=0 from rfl]at c)
     (try rw[Addr.add_zero']at c)
     obtain⟨g,c⟩:=hc2 HB g c
     have bj:=Aside0.mk s
     have bk:=Aside0.mk q
     clear s q
     replace E:=eq_true E
     replace G:=eq_true G
     go_wp2
     go_meet
     case rel=>exact⟨_,(true),(by first|rfl|(simp;done)|(simp[*];done)),H',⟨by have:=y.out;first|omega|exact Nat.le_refl _⟩,⟨bl⟩⟩
    rw[if_neg c6]at H
    exact absurd H (by simp)
   case rest =>
    clear bp
    obtain⟨kq,T,rfl,HA,D,HB⟩:=hcut
    cases kq with
    |zero=>exact absurd HA.out (by simp[aJ.j1])
    | succ cw =>
     have H:=HA.out
     clear HA
     simp only[aJ.j1]at H
     by_cases c8:T=true
     ·subst c8
      replace H:=it H
      obtain rfl:=Option.some.inj H;clear H
      go_wp2
      go_ret
      exact fin
     replace c8:=Bool.eq_false_iff.mpr c8
     subst c8
     replace H:=ie H
     by_cases c9:1<(l0.length:Int)
     ·rw [if_pos c9] at H
      have cY:decide (1<(l0.length:Int))=true:=decide_eq_true c9
      have c1:decide (1<l0.length)=true:=decide_eq_true (by omega)
      clear c9
      have aS:=Aside0.mk H
      clear H
      have a0:0≤(1:Int):=(by omega)
      have a1:1<(l0.length:Int):=od
      obtain⟨b2,K,z,ck,u,v,ac,ad⟩:=fP aE.out 1 a0 a1
      cases ck
      (try simp only[show(1:Int).toNat=1 from rfl,Nat.reduceMul,Nat.reduceEqDiff,Go.Addr.add,↓reduceIte]at u)
      (try simp only[show(1:Int).toNat=1 from rfl,Nat.reduceMul,Nat.reduceEqDiff,Go.Addr.add,↓reduceIte]at v)
      have cA:(1<l0.length)=True:=eq_true (by omega)
      (try rw[show((1:Int)).toNat=1 from rfl]at u)
      (try rw[show 1 * 2=2 from rfl]at u)
      (try rw[show((1:Int)).toNat=1 from rfl]at v)
      (try rw[show 1 * 2=2 from rfl]at v)
      obtain⟨u,v⟩:=hc2 HB u v
      have bm:=Aside0.mk ad
      have cq:=Aside0.mk ac
      clear ad ac
      replace a0:=eq_true a0
      replace a1:=eq_true a1
      go_upto_region 6 with(first|((with_reducible refine gd 3 rfl ?_);(try(refine aW (by rfl) ?_;dsimp only));refine bx 3 #[.int .i64 0, .slice none 0 0] 126 ?_;intro o hg db hbox hb;have d:=Aside0.mk hbox;have a9:=hz HB hg;have cC:=hz HB hg;replace HB:=hs HB hb;clear hb hbox hg;have:=cf2 d))
      (try simp only[Act.put,List.setIfInBounds_toArray,List.set_cons_zero,List.set_cons_succ])
      go_cut [47] (fun v47 wc=> ∃(kq:Nat) (U:Bool),v47= .bool U∧Aside0 (aJ.j2 kq l0 U=some r)∧Aside0 (kq≤cw)∧Aside0 (wc.heap[o]? =some (.cells #[.int .i64 ((aD l0 1).f0),(.slice K ((aD l0 1).f1).length z)] 126 (0,0)))∧Aside0 (Below w.heap.size w wc))
      case first=>
       have H:=aS.out
       clear aS
       by_cases c13:((aD l0 1).f0)=0
       ·rw[if_pos c13]at H
        have L:=beq_iff_eq.mpr c13
        have b3:=bne_eq_false_iff_eq.mpr c13
        clear c13
        (first|rw[L]|(simp only[bX,bZ];rw[L])|skip)
        by_cases c14:(((aD l0 1).f1).length:Int)=1
        ·rw[if_pos c14]at H
         have b4:=beq_iff_eq.mpr c14
         have b5:=bne_eq_false_iff_eq.mpr c14
         clear c14
         by_cases c15:0<(((aD l0 1).f1).length:Int)
         ·rw[if_pos c15]at H
          have cD:decide (0<(((aD l0 1).f1).length:Int))=true:=decide_eq_true c15
          have cE:decide (0<((aD l0 1).f1).length)=true:=decide_eq_true (by omega)
          clear c15
          have H' :=Aside0.mk H
          clear H
          have:=cf2 d
          have a2:0≤(0:Int):=(by omega)
          have a3:0<(((aD l0 1).f1).length:Int):=od
          obtain⟨aw,cl,i⟩:=Kd.at_int bm.out 0 a2 a3
          cases cl
          have cF:(0<((aD l0 1).f1).length)=True:=eq_true (by omega)
          (try rw[show((0:Int)).toNat=0 from rfl]at i)
          (try rw[Addr.add_zero']at i)
          have A:aw.block≠o:=Nat.ne_of_lt (Nat.lt_of_lt_of_le (by have:=World.block_lt_of_cell? _ _ i;first|rwa [add_block]at this|exact this) a9.out)
          have B:aw.block≠o:=Nat.ne_of_lt (Nat.lt_of_lt_of_le (by have:=World.block_lt_of_cell? _ _ i;first|rwa [add_block]at this|exact this) a9.out)
          replace i:=hc HB i
          replace i:=(cell_far (p:=⟨o,0,none⟩) (by first|(rw[add_block];exact A)|(show(Addr.add _ _).block≠_;rw[add_block];exact A)|exact A) (.int .i64 ((aD l0 1).f0))).trans i
          replace i:=(cell_far (p:=⟨o,1,none⟩) (by first|(rw[add_block];exact B)|(show(Addr.add _ _).block≠_;rw[add_block];exact B)|exact B) (.slice (some aw) ((aD l0 1).f1).length z)).trans i
          clear A
          clear B
          replace a2:=eq_true a2
          replace a3:=eq_true a3
          go_wp2
          go_meet
          case rel=>exact⟨_,(((rd ((aD l0 1).f1) 0) !=1)),(by first|rfl|(simp;done)|(simp[*];done)),H',⟨by have:=y.out;have:=D.out;first|omega|exact Nat.le_refl _⟩,kf,⟨bl⟩⟩
         rw[if_neg c15]at H
         exact absurd H (by simp)
        rw[if_neg c14]at H
        have b4:=beq_eq_false_iff_ne.mpr c14
        have b5:=bne_iff_ne.mpr c14
        have H' :=Aside0.mk H
        clear H
        have:=cf2 d
        go_wp2
        go_meet
        case rel=>exact⟨_,(true),(by first|rfl|(simp;done)|(simp[*];done)),H',⟨by have:=y.out;have:=D.out;first|omega|exact Nat.le_refl _⟩,kf,⟨bl⟩⟩
       rw[if_neg c13]at H
       have L:=beq_eq_false_iff_ne.mpr c13
       have b3:=bne_iff_ne.mpr c13
       (first|rw[L]|(simp only[bX,bZ];rw[L])|skip)
       have H' :=Aside0.mk H
       clear H
       have:=cf2 d
       go_wp2
       go_meet
       case rel=>exact⟨_,(true),(by first|rfl|(simp;done)|(simp[*];done)),H',⟨by have:=y.out;have:=D.out;first|omega|exact Nat.le_refl _⟩,kf,⟨bl⟩⟩
      case rest =>
       clear aS
       obtain⟨kq,U,rfl,HA,X,d,HB⟩:=hcut
       cases kq with
       |zero=>exact absurd HA.out (by simp[aJ.j2])
       | succ ce =>
        have H:=HA.out
        clear HA
        simp only[aJ.j2]at H
        by_cases c19:U=true
        ·subst c19
         replace H:=it H
         obtain rfl:=Option.some.inj H;clear H
         go_wp2
         go_ret
         exact fin
        replace c19:=Bool.eq_false_iff.mpr c19
        subst c19
        replace H:=ie H
        have H' :=Aside0.mk H
        clear H
        go_wp2
        go_loopg [50] ce (fun kq v50 w' => ∃(a:Int),v50= .int .i64 a∧Aside0 (aJ.l0 kq l0 l0 (l0.length:Int) a=some r)∧Aside0 (kq≤ce)∧Aside0 (w'.heap[o]? =some (.cells #[.int .i64 ((aD l0 1).f0),(.slice K ((aD l0 1).f1).length z)] 126 (0,0)))∧Aside0 (Below w.heap.size w w'))
        case atStart=>exact⟨(0),(by first|rfl|(simp;done)|(simp[*];done)),H',⟨Nat.le_refl _⟩,kk d,⟨bl⟩⟩
        case round =>
         clear H'
         obtain⟨a,rfl,HA,Y,d,HB⟩:=hrel
         cases gk with
         |zero=>exact absurd HA.out (by simp[aJ.l0])
         | succ k4 =>
          have H:=HA.out
          clear HA
          simp only[aJ.l0]at H
          by_cases c20:a<(l0.length:Int)
          ·rw [if_pos c20]at H
           have b6:decide (a<(l0.length:Int))=true:=decide_eq_true c20
           clear c20
           by_cases c21:0≤a
           ·rw [if_pos c21]at H
            have cG:decide (0≤a)=true:=decide_eq_true c21
            clear c21
            by_cases ba:a<(l0.length:Int)
            ·rw [if_pos ba]at H
             have cH:decide (a<(l0.length:Int))=true:=decide_eq_true ba
             clear ba
             have a4:=Aside0.mk H
             clear H
             have a5:0≤(a:Int):=od
             have a6:a<(l0.length:Int):=od
             obtain⟨b7,aF,aL,cm,al,am,an,ao⟩:=fP aE.out a a5 a6
             obtain rfl:b2=b7:=(by injection cm)
             obtain⟨al,am⟩:=hc2 HB al am
             have ap:=Aside0.mk ao
             have cr:=Aside0.mk an
             clear ao an
             replace a5:=eq_true a5
             replace a6:=eq_true a6
             go_upto_region 11 with(first|((with_reducible refine gd 5 rfl ?_);(try(refine aW (by rfl) ?_;dsimp only));refine bx 5 #[.int .i64 0, .slice none 0 0] 126 ?_;intro bb hg dc hbox hb;have m:=Aside0.mk hbox;have cI:=hz HB hg;have j:=nl d hg;have l:=ng d hg;replace d:=kb d hb;replace HB:=hs HB hb;clear hb hbox hg;have cJ:=l.out;have cL:=j.out;have:=cf2 m))
             (try simp only[Act.put,List.setIfInBounds_toArray,List.set_cons_zero,List.set_cons_succ])
             go_cut [67] (fun v67 wc=> ∃(kq:Nat) (M:Bool),v67= .bool M∧Aside0 (aJ.j4 kq l0 l0 (l0.length:Int) a M ((aD l0 a).f0) ((aD l0 a).f1)=some r)∧Aside0 (kq≤k4)∧Aside0 (wc.heap[o]? =some (.cells #[.int .i64 ((aD l0 1).f0),(.slice K ((aD l0 1).f1).length z)] 126 (0,0)))∧Aside0 (wc.heap[bb]? =some (.cells #[.int .i64 ((aD l0 a).f0),(.slice aF ((aD l0 a).f1).length aL)] 126 (0,0)))∧Aside0 (Below w.heap.size w wc))
             case first=>
              have H:=a4.out
              clear a4
              by_cases aq:a>1
              ·rw[if_pos aq]at H
               have O:decide (1<a)=true:=decide_eq_true aq
               clear aq
               (first|rw[O]|(simp only[bX,bZ];rw[O])|skip)
               by_cases c28:((aD l0 a).f0)<0
               ·rw[if_pos c28]at H
                have b8:decide (((aD l0 a).f0)<0)=true:=decide_eq_true c28
                clear c28
                have H' :=Aside0.mk H
                clear H
                have cM:=l.out
                have cN:=j.out
                have:=cf2 m
                go_wp2
                go_meet
                case rel=>exact⟨_,(true),(by first|rfl|(simp;done)|(simp[*];done)),H',⟨by have:=y.out;have:=D.out;have:=X.out;have:=Y.out;first|omega|exact Nat.le_refl _⟩,kf,kf,⟨bl⟩⟩
               rw[if_neg c28]at H
               have b8:decide (((aD l0 a).f0)<0)=false:=decide_eq_false c28
               clear c28
               have H' :=Aside0.mk H
               clear H
               have cP:=l.out
               have cQ:=j.out
               have:=cf2 m
               go_wp2
               go_meet
               case rel=>exact⟨_,(decide (((aD l0 a).f0)≥a)),(by first|rfl|(simp;done)|(simp[*];done)),H',⟨by have:=y.out;have:=D.out;have:=X.out;have:=Y.out;first|omega|exact Nat.le_refl _⟩,kf,kf,⟨bl⟩⟩
              rw[if_neg aq]at H
              have O:decide (1<a)=false:=decide_eq_false aq
              clear aq
              (first|rw[O]|(simp only[bX,bZ];rw[O])|skip)
              have H' :=Aside0.mk H
              clear H
              go_wp2
              go_meet
              case rel=>exact⟨_,(false),(by first|rfl|(simp;done)|(simp[*];done)),H',⟨by have:=y.out;have:=D.out;have:=X.out;have:=Y.out;first|omega|exact Nat.le_refl _⟩,kf,kf,⟨bl⟩⟩
             case rest=>
              clear a4
              obtain⟨kq,M,rfl,HA,aB,d,m,HB⟩:=hcut
              cases kq with
              |zero=>exact absurd HA.out (by simp[aJ.j4])
              | succ bw=>
               have H:=HA.out
               clear HA
               simp only[aJ.j4]at H
               by_cases bc:M=true
               ·subst bc
                replace H:=it H
                obtain rfl:=Option.some.inj H;clear H
                go_wp2
                go_ret
                exact fin
               replace bc:=Bool.eq_false_iff.mpr bc
               subst bc
               replace H:=ie H
               by_cases c34:(((aD l0 a).f1).length:Int)>2
               ·rw[if_pos c34]at H
                have b9:decide (2<(((aD l0 a).f1).length:Int))=true:=decide_eq_true c34
                have ca:decide (2<((aD l0 a).f1).length)=true:=decide_eq_true (by omega)
                clear c34
                obtain rfl:=Option.some.inj H;clear H
                have cR:=l.out
                have cS:=j.out
                have:=cf2 m
                go_wp2
                go_ret
                exact fin
               rw[if_neg c34]at H
               have b9:decide (2<(((aD l0 a).f1).length:Int))=false:=decide_eq_false c34
               have ca:decide (2<((aD l0 a).f1).length)=false:=decide_eq_false (by omega)
               clear c34
               have H' :=Aside0.mk H
               clear H
               have cT:=l.out
               have cU:=j.out
               have:=cf2 m
               go_wp2
               go_loopg [75] bw (fun kq v75 w' => ∃(b:Int),v75= .int .i64 b∧Aside0 (aJ.l1 kq l0 l0 (l0.length:Int) a ((aD l0 a).f1) (((aD l0 a).f1).length:Int) b=some r)∧Aside0 (kq≤bw)∧Aside0 (w'.heap[o]? =some (.cells #[.int .i64 ((aD l0 1).f0),(.slice K ((aD l0 1).f1).length z)] 126 (0,0)))∧Aside0 (w'.heap[bb]? =some (.cells #[.int .i64 ((aD l0 a).f0),(.slice aF ((aD l0 a).f1).length aL)] 126 (0,0)))∧Aside0 (Below w.heap.size w w'))
               case atStart=>exact⟨(0),(by first|rfl|(simp;done)|(simp[*];done)),H',⟨Nat.le_refl _⟩,kk d,kk m,⟨bl⟩⟩
               case round=>
                clear H'
                obtain⟨b,rfl,HA,bd,d,m,HB⟩:=hrel
                cases gk with
                |zero=>exact absurd HA.out (by simp[aJ.l1])
                | succ k6=>
                 have H:=HA.out
                 clear HA
                 simp only[aJ.l1]at H
                 by_cases ar:b<(((aD l0 a).f1).length:Int)
                 ·rw [if_pos ar]at H
                  have cc:decide (b<(((aD l0 a).f1).length:Int))=true:=decide_eq_true ar
                  clear ar
                  by_cases c40:0≤b
                  ·rw[if_pos c40]at H
                   have cV:decide (0≤b)=true:=decide_eq_true c40
                   clear c40
                   by_cases be:b<(((aD l0 a).f1).length:Int)
                   ·rw[if_pos be]at H
                    have cW:decide (b<(((aD l0 a).f1).length:Int))=true:=decide_eq_true be
                    clear be
                    obtain⟨cn,cf,H⟩:=ob H
                    by_cases bh:cn=true
                    ·subst bh
                     replace H:=it H
                     have H' :=Aside0.mk H
                     clear H
                     have I:0≤(b:Int):=od
                     have J:b<(((aD l0 a).f1).length:Int):=od
                     obtain⟨cd,a7,x⟩:=Kd.at_int ap.out b I J
                     cases a7
                     replace x:=hc HB x
                     replace I:=eq_true I
                     replace J:=eq_true J
                     go_wp2_with (first|(refine gl (some 82) Tryz.func145 #[.int .i64 (l0.length:Int), .int .i64 (rd ((aD l0 a).f1) b)] rfl ?_;(with_reducible refine(ek.calls (l0.length:Int) (rd ((aD l0 a).f1) b) true _ cf.out).mono ?_);rintro e w' ⟨rfl,⟨nd,rfl⟩⟩;refine⟨_,rfl, ?_⟩))
                     go_roundg k6
                     case measure=>have:=y.out;have:=D.out;have:=X.out;have:=Y.out;have:=aB.out;have:=bd.out;omega
                     case rel=>exact⟨(wrap64 (b+1)),(by first|rfl|(simp;done)|(simp[*];done)),H',⟨by have:=y.out;have:=D.out;have:=X.out;have:=Y.out;have:=aB.out;have:=bd.out;omega⟩,kk d,kk m,⟨bl⟩⟩
                    replace bh:=Bool.eq_false_iff.mpr bh
                    subst bh
                    replace H:=ie H
                    obtain rfl:=Option.some.inj H;clear H
                    have I:0≤(b:Int):=od
                    have J:b<(((aD l0 a).f1).length:Int):=od
                    obtain⟨cd,a7,x⟩:=Kd.at_int ap.out b I J
                    cases a7
                    replace x:=hc HB x
                    replace I:=eq_true I
                    replace J:=eq_true J
                    go_wp2_with (first|(refine gl (some 82) Tryz.func145 #[.int .i64 (l0.length:Int), .int .i64 (rd ((aD l0 a).f1) b)] rfl ?_;(with_reducible refine(ek.calls (l0.length:Int) (rd ((aD l0 a).f1) b) false _ cf.out).mono ?_);rintro e w' ⟨rfl,⟨nd,rfl⟩⟩;refine⟨_,rfl, ?_⟩))
                    go_ret
                    exact fin
                   rw[if_neg be]at H
                   exact absurd H (by simp)
                  rw[if_neg c40]at H
                  exact absurd H (by simp)
                 rw[if_neg ar]at H
                 have cc:decide (b<(((aD l0 a).f1).length:Int))=false:=decide_eq_false ar
                 clear ar
                 have H' :=Aside0.mk H
                 clear H
                 go_wp2
                 go_roundg k6
                 case measure=>have:=y.out;have:=D.out;have:=X.out;have:=Y.out;have:=aB.out;have:=bd.out;omega
                 case rel=>exact⟨(wrap64 (a+1)),(by first|rfl|(simp;done)|(simp[*];done)),H',⟨by have:=y.out;have:=D.out;have:=X.out;have:=Y.out;have:=aB.out;have:=bd.out;omega⟩,kk d,⟨bl⟩⟩
            rw[if_neg ba]at H
            exact absurd H (by simp)
           rw[if_neg c21]at H
           exact absurd H (by simp)
          rw[if_neg c20]at H
          have b6:decide (a<(l0.length:Int))=false:=decide_eq_false c20
          clear c20
          obtain rfl:=Option.some.inj H;clear H
          go_wp2
          go_ret
          exact fin
     rw[if_neg c9]at H
     exact absurd H (by simp)
end Go.Proofs.YteinbmkgenhocaaGreat.P
end
