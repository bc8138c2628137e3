/- A part of the claim FnExactMachNew. -/
import Derived.Test.YteinbmkgenhocaaGreatCFnExactMachNew26
section
namespace Go.Proofs.YteinbmkgenhocaaGreat.P
open Go.RowKit Go.Proofs.YteinbmkgenhocaaGreatW.PrintWords Go.Proofs.YteinbmkgenhocaaGreatW.PrintLast Go.Proofs.YteinbmkgenhocaaGreatW.PrintMore
attribute [local go_sem] ak au az aA ai aj av ax
set_option linter.unusedVariables false
set_option linter.unusedSimpArgs false
def bN.T6:Bool×List (List Nat×List Nat):=(true, [([], []),([], []),([0,1], [0,1]),([2], [2]),([], []),([], []),([4,5], [4,5]),([6], [6]),([3,7], [3,7]),([8], [8])])
def bN.B6:List Nat:= [0,0,3,7,0,0,48,112,255,511]
theorem bN.tab6:dJ .any (opsOf Tryz.f154 6)=bN.T6:=by kernel_rfl
theorem bN.bits6:dY bN.T6.2 bN.B6=true:=by kernel_rfl
set_option maxHeartbeats 8000000 in
set_option maxRecDepth 100000 in
theorem bN.calls (k:Nat) (A0:Option Addr) (c0:Nat) (l0:List (S181)) (A1:Option Addr) (c1:Nat) (l1:List (S181)) (r:Bool) (w:World) (hr0:Kd.C eZ w A0 l0.length l0) (hc0:l0.length≤c0) (hr1:Kd.C eZ w A1 l1.length l1) (hc1:l1.length≤c1) (h:bN.f k l0 l1=some r):
  Calls Tryz.prog 154 #[.slice A0 l0.length c0, .slice A1 l1.length c1] w fun e w' =>e= .returned (.bool r)∧Below w.heap.size w w' :=by
 have X:=Tryz.underlying181
 have L:=Aside0.mk hr0
 have ab:=Aside0.mk hc0
 clear hr0 hc0
 have HR1:=Aside0.mk hr1
 have ac:=Aside0.mk hc1
 clear hr1 hc1
 have HB:=Aside0.mk (Below.refl w.heap.size w)
 have H:(if(l0.length:Int)=(l1.length:Int)then(bN.l0 k l0 l1 0)else(some false))=some r:=h
 clear h
 by_cases c3:(l0.length:Int)=(l1.length:Int)
 ·rw [if_pos c3]at H
  have O:=beq_iff_eq.mpr c3
  have P:=bne_eq_false_iff_eq.mpr c3
  have T:(l0.length==l1.length)=true:=by first|simpa using c3|(simp at c3⊢;omega)
  clear c3
  have H' :=Aside0.mk H
  clear H
  go_enter Tryz.func154,Tryz.ntmps154
  go_wp2
  go_loopg [5] k (fun kq v5 w' => ∃(a:Int),v5= .int .i64 a∧Aside0 (bN.l0 kq l0 l1 a=some r)∧Aside0 (kq≤k)∧Aside0 (Below w.heap.size w w'))
  case atStart=>exact⟨(0),(by first|rfl|(simp;done)|(simp[*];done)),H',⟨Nat.le_refl _⟩,⟨bl⟩⟩
  case round=>
   clear H'
   obtain⟨a,rfl,HA,M,HB⟩:=hrel
   cases gk with
   |zero=>exact absurd HA.out (by simp[bN.l0])
   | succ k1=>
    have H:=HA.out
    clear HA
    simp only[bN.l0]at H
    by_cases c4:a<(l0.length:Int)
    ·rw [if_pos c4]at H
     have U:decide (a<(l0.length:Int))=true:=decide_eq_true c4
     clear c4
     by_cases c5:0≤a
     ·rw[if_pos c5]at H
      have Y:decide (0≤a)=true:=decide_eq_true c5
      clear c5
      by_cases c6:a<(l1.length:Int)
      ·rw[if_pos c6]at H
       have Z:decide (a<(l1.length:Int))=true:=decide_eq_true c6
       clear c6
       obtain⟨W,A7,H⟩:=ob H
       by_cases c8:W=true
       ·subst c8
        replace H:=it H
        have H' :=Aside0.mk H
        clear H
        try go_wp2
        replace HB:=Aside0.mk (aC HB.out)
        have B:0≤(a:Int):=od
        have D:a<(l0.length:Int):=od
        obtain⟨b,I,d,g,j,l⟩:=jH L.out a B D
        have m:=l
        have o:=j
        have p:=g
        have q:=d
        cases I
        obtain⟨d,g,j,l⟩:=hc4 HB d g j l
        replace B:=eq_true B
        replace D:=eq_true D
        have E:0≤(a:Int):=od
        have G:a<(l1.length:Int):=od
        obtain⟨c,J,s,t,u,v⟩:=jH HR1.out a E G
        have x:=v
        have y:=u
        have z:=t
        have A:=s
        cases J
        obtain⟨s,t,u,v⟩:=hc4 HB s t u v
        replace E:=eq_true E
        replace G:=eq_true G
        refine dR (n:=10) (S:=fun w' =>w'.cell? (b.add ((a).toNat * 4))=some (.int .i64 ((aH l0 a).f0))∧w'.cell? ⟨(b.add ((a).toNat * 4)).block,(b.add ((a).toNat * 4)).off+1,none⟩=some (.int .i64 ((aH l0 a).f1))∧w'.cell? ⟨(b.add ((a).toNat * 4)).block,(b.add ((a).toNat * 4)).off+2,none⟩=some (.int .i64 ((aH l0 a).f2))∧w'.cell? ⟨(b.add ((a).toNat * 4)).block,(b.add ((a).toNat * 4)).off+3,none⟩=some (.int .i64 ((aH l0 a).f3))∧w'.cell? (c.add ((a).toNat * 4))=some (.int .i64 ((aH l1 a).f0))∧w'.cell? ⟨(c.add ((a).toNat * 4)).block,(c.add ((a).toNat * 4)).off+1,none⟩=some (.int .i64 ((aH l1 a).f1))∧w'.cell? ⟨(c.add ((a).toNat * 4)).block,(c.add ((a).toNat * 4)).off+2,none⟩=some (.int .i64 ((aH l1 a).f2))∧w'.cell? ⟨(c.add ((a).toNat * 4)).block,(c.add ((a).toNat * 4)).off+3,none⟩=some (.int .i64 ((aH l1 a).f3))) (ds:= []) (upto 10 0) (by kernel_rfl) rfl rfl ⟨((HB.out.cell (World.block_lt_of_cell? w _ q)).trans q),((HB.out.cell (World.block_lt_of_cell? w _ p)).trans p),((HB.out.cell (World.block_lt_of_cell? w _ o)).trans o),((HB.out.cell (World.block_lt_of_cell? w _ m)).trans m),((HB.out.cell (World.block_lt_of_cell? w _ A)).trans A),((HB.out.cell (World.block_lt_of_cell? w _ z)).trans z),((HB.out.cell (World.block_lt_of_cell? w _ y)).trans y),((HB.out.cell (World.block_lt_of_cell? w _ x)).trans x)⟩ (fun hHeld=> ?_);refine cO bN.tab6 bN.bits6 (fun HT_ HW_=> ?_)
        generalize wr.drew=w9 at HB d g j l s t u v hHeld⊢
        repeat(first|refine vN ?_|refine pN ?_|refine tN ?_)
        refine fo (i:=8) (N:=some 25) (upto 10 9) rfl rfl (d9 HT_.out (by kernel_rfl)) (by decide) (fun K hK=> ?_)
        refine gs Tryz.func171 #[.agg #[.int .i64 ((aH l0 a).f0), .int .i64 ((aH l0 a).f1), .int .i64 ((aH l0 a).f2), .int .i64 ((aH l0 a).f3)], .agg #[.int .i64 ((aH l1 a).f0), .int .i64 ((aH l1 a).f1), .int .i64 ((aH l1 a).f2), .int .i64 ((aH l1 a).f3)]] rfl rfl ?_
        with_reducible refine(iB.calls ((aH l0 a).f0) ((aH l0 a).f1) ((aH l0 a).f2) ((aH l0 a).f3) ((aH l1 a).f0) ((aH l1 a).f1) ((aH l1 a).f2) ((aH l1 a).f3) true _ A7.out).mono ?_
        rintro e ad ⟨rfl,hb⟩
        refine⟨_,rfl, ?_⟩
        replace HB:=hs HB hb
        refine hK.out _ _ ⟨((HB.out.cell (World.block_lt_of_cell? w _ q)).trans q),((HB.out.cell (World.block_lt_of_cell? w _ p)).trans p),((HB.out.cell (World.block_lt_of_cell? w _ o)).trans o),((HB.out.cell (World.block_lt_of_cell? w _ m)).trans m),((HB.out.cell (World.block_lt_of_cell? w _ A)).trans A),((HB.out.cell (World.block_lt_of_cell? w _ z)).trans z),((HB.out.cell (World.block_lt_of_cell? w _ y)).trans y),((HB.out.cell (World.block_lt_of_cell? w _ x)).trans x)⟩ (fun hHeld=> ?_)
        clear hK K
        refine no 25 ?_
        repeat(first|refine vN ?_|refine pN ?_|refine tN ?_)
        refine eQ (dN HT_.out (by kernel_rfl)) ?_
        try go_wp2
        go_roundg k1
        case measure=>have:=M.out;omega
        case rel=>exact⟨(wrap64 (a+1)),(by first|rfl|(simp;done)|(simp[*];done)),H',⟨by have:=M.out;omega⟩,⟨bl⟩⟩
       replace c8:=Bool.eq_false_iff.mpr c8
       subst c8
       replace H:=ie H
       obtain rfl:=Option.some.inj H;clear H
       try go_wp2
       replace HB:=Aside0.mk (aC HB.out)
       have B:0≤(a:Int):=od
       have D:a<(l0.length:Int):=od
       obtain⟨b,I,d,g,j,l⟩:=jH L.out a B D
       have m:=l
       have o:=j
       have p:=g
       have q:=d
       cases I
       obtain⟨d,g,j,l⟩:=hc4 HB d g j l
       replace B:=eq_true B
       replace D:=eq_true D
       have E:0≤(a:Int):=od
       have G:a<(l1.length:Int):=od
       obtain⟨c,J,s,t,u,v⟩:=jH HR1.out a E G
       have x:=v
       have y:=u
       have z:=t
       have A:=s
       cases J
       obtain⟨s,t,u,v⟩:=hc4 HB s t u v
       replace E:=eq_true E
       replace G:=eq_true G
       refine dR (n:=10) (S:=fun w' =>w'.cell? (b.add ((a).toNat * 4))=some (.int .i64 ((aH l0 a).f0))∧w'.cell? ⟨(b.add ((a).toNat * 4)).block,(b.add ((a).toNat * 4)).off+1,none⟩=some (.int .i64 ((aH l0 a).f1))∧w'.cell? ⟨(b.add ((a).toNat * 4)).block,(b.add ((a).toNat * 4)).off+2,none⟩=some (.int .i64 ((aH l0 a).f2))∧w'.cell? ⟨(b.add ((a).toNat * 4)).block,(b.add ((a).toNat * 4)).off+3,none⟩=some (.int .i64 ((aH l0 a).f3))∧w'.cell? (c.add ((a).toNat * 4))=some (.int .i64 ((aH l1 a).f0))∧w'.cell? ⟨(c.add ((a).toNat * 4)).block,(c.add ((a).toNat * 4)).off+1,none⟩=some (.int .i64 ((aH l1 a).f1))∧w'.cell? ⟨(c.add ((a).toNat * 4)).block,(c.add ((a).toNat * 4)).off+2,none⟩=some (.int .i64 ((aH l1 a).f2))∧w'.cell? ⟨(c.add ((a).toNat * 4)).block,(c.add ((a).toNat * 4)).off+3,none⟩=some (.int .i64 ((aH l1 a).f3))) (ds:= []) (upto 10 0) (by kernel_rfl) rfl rfl ⟨((HB.out.cell (World.block_lt_of_cell? w _ q)).trans q),((HB.out.cell (World.block_lt_of_cell? w _ p)).trans p),((HB.out.cell (World.block_lt_of_cell? w _ o)).trans o),((HB.out.cell (World.block_lt_of_cell? w _ m)).trans m),((HB.out.cell (World.block_lt_of_cell? w _ A)).trans A),((HB.out.cell (World.block_lt_of_cell? w _ z)).trans z),((HB.out.cell (World.block_lt_of_cell? w _ y)).trans y),((HB.out.cell (World.block_lt_of_cell? w _ x)).trans x)⟩ (fun hHeld=> ?_);refine cO bN.tab6 bN.bits6 (fun HT_ HW_=> ?_)
       generalize wr.drew=al at HB d g j l s t u v hHeld⊢
       repeat(first|refine vN ?_|refine pN ?_|refine tN ?_)
       refine fo (i:=8) (N:=some 25) (upto 10 9) rfl rfl (d9 HT_.out (by kernel_rfl)) (by decide) (fun K hK=> ?_)
       refine gs Tryz.func171 #[.agg #[.int .i64 ((aH l0 a).f0), .int .i64 ((aH l0 a).f1), .int .i64 ((aH l0 a).f2), .int .i64 ((aH l0 a).f3)], .agg #[.int .i64 ((aH l1 a).f0), .int .i64 ((aH l1 a).f1), .int .i64 ((aH l1 a).f2), .int .i64 ((aH l1 a).f3)]] rfl rfl ?_
       with_reducible refine(iB.calls ((aH l0 a).f0) ((aH l0 a).f1) ((aH l0 a).f2) ((aH l0 a).f3) ((aH l1 a).f0) ((aH l1 a).f1) ((aH l1 a).f2) ((aH l1 a).f3) false _ A7.out).mono ?_
       rintro e am ⟨rfl,hb⟩
       refine⟨_,rfl, ?_⟩
       replace HB:=hs HB hb
       refine hK.out _ _ ⟨((HB.out.cell (World.block_lt_of_cell? w _ q)).trans q),((HB.out.cell (World.block_lt_of_cell? w _ p)).trans p),((HB.out.cell (World.block_lt_of_cell? w _ o)).trans o),((HB.out.cell (World.block_lt_of_cell? w _ m)).trans m),((HB.out.cell (World.block_lt_of_cell? w _ A)).trans A),((HB.out.cell (World.block_lt_of_cell? w _ z)).trans z),((HB.out.cell (World.block_lt_of_cell? w _ y)).trans y),((HB.out.cell (World.block_lt_of_cell? w _ x)).trans x)⟩ (fun hHeld=> ?_)
       clear hK K
       refine no 25 ?_
       repeat(first|refine vN ?_|refine pN ?_|refine tN ?_)
       refine eQ (dN HT_.out (by kernel_rfl)) ?_
       try go_wp2
       go_ret
       exact fin
      rw[if_neg c6]at H
      exact absurd H (by simp)
     rw[if_neg c5]at H
     exact absurd H (by simp)
    rw[if_neg c4]at H
    have U:decide (a<(l0.length:Int))=false:=decide_eq_false c4
    clear c4
    obtain rfl:=Option.some.inj H;clear H
    go_wp2
    go_ret
    exact fin
 rw[if_neg c3]at H
 have O:=beq_eq_false_iff_ne.mpr c3
 have P:=bne_iff_ne.mpr c3
 have T:(l0.length==l1.length)=false:=by first|simpa using c3|(simp at c3⊢;omega)
 obtain rfl:=Option.some.inj H;clear H
 go_enter Tryz.func154,Tryz.ntmps154
 go_wp2
 go_ret
 exact fin
set_option maxHeartbeats 8000000 in
set_option maxRecDepth 100000 in
theorem gN.calls (k:Nat) (L:Int) (M:Int) (q:Option Addr) (s:Nat) (c:List Int) (O:Int) (P:Int) (v:Option Addr) (x:Nat) (g:List (S113)) (A:Option Addr) (B:Nat) (m:List (S57)) (T:Option Addr) (U:Nat) (o:List (S181)) (W:Int) (X:Int) (t:Option Addr) (u:Nat) (d:List Int) (Y:Int) (Z:Int) (y:Option Addr) (z:Nat) (i:List (S113)) (D:Option Addr) (E:Nat) (n:List (S57)) (ab:Option Addr) (ac:Nat) (p:List (S181)) (r:Bool) (w:World) (aS:Kd.C (Kd.int .i64) w q c.length c) (a0:c.length≤s) (a1:Kd.C fq w v g.length g) (a2:g.length≤x) (a3:Kd.C k57 w A m.length m) (a4:m.length≤B) (a5:Kd.C eZ w T o.length o) (a6:o.length≤U) (a7:Kd.C (Kd.int .i64) w t d.length d) (a8:d.length≤u) (a9:Kd.C fq w y i.length i) (ba:i.length≤z) (bb:Kd.C k57 w D n.length n) (bc:n.length≤E) (bd:Kd.C eZ w ab p.length p) (be:p.length≤ac) (h:gN.f k L M c O P g m o W X d Y Z i n p=some r):
  Calls Tryz.prog 87 #[.agg #[.int .i64 L, .int .i64 M, .slice q c.length s, .int .i64 O, .int .i64 P, .slice v g.length x, .slice A m.length B, .slice T o.length U], .agg #[.int .i64 W, .int .i64 X, .slice t d.length u, .int .i64 Y, .int .i64 Z, .slice y i.length z, .slice D n.length E, .slice ab p.length ac]] w fun e w' =>e= .returned (.bool r)∧Below w.heap.size w w' :=by
 have b4:=Tryz.underlying104
 have G:=Aside0.mk aS
 have I:=Aside0.mk a0
 clear aS a0
 have ad:=Aside0.mk a1
 have al:=Aside0.mk a2
 clear a1 a2
 have ao:=Aside0.mk a3
 have ap:=Aside0.mk a4
 clear a3 a4
 have bh:=Aside0.mk a5
 have bj:=Aside0.mk a6
 clear a5 a6
 have J:=Aside0.mk a7
 have K:=Aside0.mk a8
 clear a7 a8
 have am:=Aside0.mk a9
 have an:=Aside0.mk ba
 clear a9 ba
 have aq:=Aside0.mk bb
 have ar:=Aside0.mk bc
 clear bb bc
 have bk:=Aside0.mk bd
 have bm:=Aside0.mk be
 clear bd be
 have HB:=Aside0.mk (Below.refl w.heap.size w)
 have H:(if L=W then(if M=X then((bq.f k c d).bind fun aL=>(if aL=true then(if O=Y then(if P=Z then((bQ.f k g i).bind fun aO=>(if aO=true then((bM.f k m n).bind fun aP=>(if aP=true then((bN.f k o p).bind fun aR=>(if aR=true then(some true)else(some false)))else(some false)))else(some false)))else(some false))else(some false))else(some false)))else(some false))else(some false))=some r:=h
 clear h
 by_cases c3:L=W
 ·rw [if_pos c3]at H
  have br:=beq_iff_eq.mpr c3
  have bs:=bne_eq_false_iff_eq.mpr c3
  clear c3
  by_cases c4:M=X
  ·rw [if_pos c4]at H
   have bt:=beq_iff_eq.mpr c4
   have bw:=bne_eq_false_iff_eq.mpr c4
   clear c4
   obtain⟨aL,A5,H⟩:=ob H
   by_cases c6:aL=true
   ·subst c6
    replace H:=it H
    by_cases c7:O=Y
    ·rw [if_pos c7]at H
     have b0:=beq_iff_eq.mpr c7
     have b1:=bne_eq_false_iff_eq.mpr c7
     clear c7
     by_cases c8:P=Z
     ·rw [if_pos c8]at H
      have b2:=beq_iff_eq.mpr c8
      have b3:=bne_eq_false_iff_eq.mpr c8
      clear c8
      obtain⟨aO,A9,H⟩:=ob H
      by_cases c10:aO=true
      ·subst c10
       replace H:=it H
       obtain⟨aP,bo,H⟩:=ob H
       by_cases c12:aP=true
       ·subst c12
        replace H:=it H
        obtain⟨aR,bp,H⟩:=ob H
        by_cases c14:aR=true
        ·subst c14
         replace H:=it H
         obtain rfl:=Option.some.inj H;clear H
         go_enter Tryz.func87,Tryz.ntmps87
         go_wp2_with (first|((with_reducible refine gd 2 rfl ?_);refine bx 2 #[.int .i64 L, .int .i64 M, .slice q c.length s, .int .i64 O, .int .i64 P, .slice v g.length x, .slice A m.length B, .slice T o.length U] 104 ?_;intro aw hg ce hbox hb;have a:=Aside0.mk hbox;have aB:=hz HB hg;replace HB:=hs HB hb;clear hb hbox hg)|((with_reducible refine gd 3 rfl ?_);refine bx 3 #[.int .i64 W, .int .i64 X, .slice t d.length u, .int .i64 Y, .int .i64 Z, .slice y i.length z, .slice D n.length E, .slice ab p.length ac] 104 ?_;intro aE hg w16 hbox hb;have b:=Aside0.mk hbox;have aF:=hz HB hg;have j:=nl a hg;have l:=ng a hg;replace a:=kb a hb;replace HB:=hs HB hb;clear hb hbox hg;have b5:=j.out;have b6:=l.out;have:=cf8 a;have:=cf8 b)|(refine gl (some 19) Tryz.func37 #[.slice q c.length s, .slice t d.length u] rfl ?_;(with_reducible refine(bq.calls k _ _ c _ _ d true _ (cb G.out) I.out (cb J.out) K.out A5.out).mono ?_);rintro e w' ⟨rfl,⟨nd,rfl⟩⟩;refine⟨_,rfl, ?_⟩)|(refine gl (some 35) Tryz.func152 #[.slice v g.length x, .slice y i.length z] rfl ?_;(with_reducible refine(bQ.calls k _ _ g _ _ i true _ (cb ad.out) al.out (cb am.out) an.out A9.out).mono ?_);rintro e cf ⟨rfl,hb⟩;refine⟨_,rfl, ?_⟩;replace a:=kb a hb;replace b:=kb b hb;replace HB:=hs HB hb;have:=cf8 a;have:=cf8 b)|(refine gl (some 41) Tryz.func153 #[.slice A m.length B, .slice D n.length E] rfl ?_;(with_reducible refine(bM.calls k _ _ m _ _ n true _ (cb ao.out) ap.out (cb aq.out) ar.out bo.out).mono ?_);rintro e cg ⟨rfl,hb⟩;refine⟨_,rfl, ?_⟩;replace a:=kb a hb;replace b:=kb b hb;replace HB:=hs HB hb;have:=cf8 a;have:=cf8 b)|(refine gl (some 47) Tryz.func154 #[.slice T o.length U, .slice ab p.length ac] rfl ?_;(with_reducible refine(bN.calls k _ _ o _ _ p true _ (cb bh.out) bj.out (cb bk.out) bm.out bp.out).mono ?_);rintro e ch ⟨rfl,hb⟩;refine⟨_,rfl, ?_⟩;replace a:=kb a hb;replace b:=kb b hb;replace HB:=hs HB hb))
         go_ret
         exact fin
        replace c14:=Bool.eq_false_iff.mpr c14
        subst c14
        replace H:=ie H
        obtain rfl:=Option.some.inj H;clear H
        go_enter Tryz.func87,Tryz.ntmps87
        go_wp2_with (first|((with_reducible refine gd 2 rfl ?_);refine bx 2 #[.int .i64 L, .int .i64 M, .slice q c.length s, .int .i64 O, .int .i64 P, .slice v g.length x, .slice A m.length B, .slice T o.length U] 104 ?_;intro aw hg ci hbox hb;have a:=Aside0.mk hbox;have aB:=hz HB hg;replace HB:=hs HB hb;clear hb hbox hg)|((with_reducible refine gd 3 rfl ?_);refine bx 3 #[.int .i64 W, .int .i64 X, .slice t d.length u, .int .i64 Y, .int .i64 Z, .slice y i.length z, .slice D n.length E, .slice ab p.length ac] 104 ?_;intro aE hg cj hbox hb;have b:=Aside0.mk hbox;have aF:=hz HB hg;have j:=nl a hg;have l:=ng a hg;replace a:=kb a hb;replace HB:=hs HB hb;clear hb hbox hg;have b7:=j.out;have b8:=l.out;have:=cf8 a;have:=cf8 b)|(refine gl (some 19) Tryz.func37 #[.slice q c.length s, .slice t d.length u] rfl ?_;(with_reducible refine(bq.calls k _ _ c _ _ d true _ (cb G.out) I.out (cb J.out) K.out A5.out).mono ?_);rintro e w' ⟨rfl,⟨nd,rfl⟩⟩;refine⟨_,rfl, ?_⟩)|(refine gl (some 35) Tryz.func152 #[.slice v g.length x, .slice y i.length z] rfl ?_;(with_reducible refine(bQ.calls k _ _ g _ _ i true _ (cb ad.out) al.out (cb am.out) an.out A9.out).mono ?_);rintro e w32 ⟨rfl,hb⟩;refine⟨_,rfl, ?_⟩;replace a:=kb a hb;replace b:=kb b hb;replace HB:=hs HB hb;have:=cf8 a;have:=cf8 b)|(refine gl (some 41) Tryz.func153 #[.slice A m.length B, .slice D n.length E] rfl ?_;(with_reducible refine(bM.calls k _ _ m _ _ n true _ (cb ao.out) ap.out (cb aq.out) ar.out bo.out).mono ?_);rintro e ck ⟨rfl,hb⟩;refine⟨_,rfl, ?_⟩;replace a:=kb a hb;replace b:=kb b hb;replace HB:=hs HB hb;have:=cf8 a;have:=cf8 b)|(refine gl (some 47) Tryz.func154 #[.slice T o.length U, .slice ab p.length ac] rfl ?_;(with_reducible refine(bN.calls k _ _ o _ _ p false _ (cb bh.out) bj.out (cb bk.out) bm.out bp.out).mono ?_);rintro e cl ⟨rfl,hb⟩;refine⟨_,rfl, ?_⟩;replace a:=kb a hb;replace b:=kb b hb;replace HB:=hs HB hb))
        go_ret
        exact fin
       replace c12:=Bool.eq_false_iff.mpr c12
       subst c12
       replace H:=ie H
       obtain rfl:=Option.some.inj H;clear H
       go_enter Tryz.func87,Tryz.ntmps87
       go_wp2_with (first|((with_reducible refine gd 2 rfl ?_);refine bx 2 #[.int .i64 L, .int .i64 M, .slice q c.length s, .int .i64 O, .int .i64 P, .slice v g.length x, .slice A m.length B, .slice T o.length U] 104 ?_;intro aw hg cm hbox hb;have a:=Aside0.mk hbox;have aB:=hz HB hg;replace HB:=hs HB hb;clear hb hbox hg)|((with_reducible refine gd 3 rfl ?_);refine bx 3 #[.int .i64 W, .int .i64 X, .slice t d.length u, .int .i64 Y, .int .i64 Z, .slice y i.length z, .slice D n.length E, .slice ab p.length ac] 104 ?_;intro aE hg cn hbox hb;have b:=Aside0.mk hbox;have aF:=hz HB hg;have j:=nl a hg;have l:=ng a hg;replace a:=kb a hb;replace HB:=hs HB hb;clear hb hbox hg;have b9:=j.out;have ca:=l.out;have:=cf8 a;have:=cf8 b)|(refine gl (some 19) Tryz.func37 #[.slice q c.length s, .slice t d.length u] rfl ?_;(with_reducible refine(bq.calls k _ _ c _ _ d true _ (cb G.out) I.out (cb J.out) K.out A5.out).mono ?_);rintro e w' ⟨rfl,⟨nd,rfl⟩⟩;refine⟨_,rfl, ?_⟩)|(refine gl (some 35) Tryz.func152 #[.slice v g.length x, .slice y i.length z] rfl ?_;(with_reducible refine(bQ.calls k _ _ g _ _ i true _ (cb ad.out) al.out (cb am.out) an.out A9.out).mono ?_);rintro e co ⟨rfl,hb⟩;refine⟨_,rfl, ?_⟩;replace a:=kb a hb;replace b:=kb b hb;replace HB:=hs HB hb;have:=cf8 a;have:=cf8 b)|(refine gl (some 41) Tryz.func153 #[.slice A m.length B, .slice D n.length E] rfl ?_;(with_reducible refine(bM.calls k _ _ m _ _ n false _ (cb ao.out) ap.out (cb aq.out) ar.out bo.out).mono ?_);rintro e cp ⟨rfl,hb⟩;refine⟨_,rfl, ?_⟩;replace a:=kb a hb;replace b:=kb b hb;replace HB:=hs HB hb))
       go_ret
       exact fin
      replace c10:=Bool.eq_false_iff.mpr c10
      subst c10
      replace H:=ie H
      obtain rfl:=Option.some.inj H;clear H
      go_enter Tryz.func87,Tryz.ntmps87
      go_wp2_with (first|((with_reducible refine gd 2 rfl ?_);refine bx 2 #[.int .i64 L, .int .i64 M, .slice q c.length s, .int .i64 O, .int .i64 P, .slice v g.length x, .slice A m.length B, .slice T o.length U] 104 ?_;intro aw hg cq hbox hb;have a:=Aside0.mk hbox;have aB:=hz HB hg;replace HB:=hs HB hb;clear hb hbox hg)|((with_reducible refine gd 3 rfl ?_);refine bx 3 #[.int .i64 W, .int .i64 X, .slice t d.length u, .int .i64 Y, .int .i64 Z, .slice y i.length z, .slice D n.length E, .slice ab p.length ac] 104 ?_;intro aE hg cr hbox hb;have b:=Aside0.mk hbox;have aF:=hz HB hg;have j:=nl a hg;have l:=ng a hg;replace a:=kb a hb;replace HB:=hs HB hb;clear hb hbox hg;have cc:=j.out;have cd:=l.out;have:=cf8 a;have:=cf8 b)|(refine gl (some 19) Tryz.func37 #[.slice q c.length s, .slice t d.length u] rfl ?_;(with_reducible refine(bq.calls k _ _ c _ _ d true _ (cb G.out) I.out (cb J.out) K.out A5.out).mono ?_);rintro e w' ⟨rfl,⟨nd,rfl⟩⟩;refine⟨_,rfl, ?_⟩)|(refine gl (some 35) Tryz.func152 #[.slice v g.length x, .slice y i.length z] rfl ?_;(with_reducible refine(bQ.calls k _ _ g _ _ i false _ (cb ad.out) al.out (cb am.out) an.out A9.out).mono ?_);rintro e cs ⟨rfl,hb⟩;refine⟨_,rfl, ?_⟩;replace a:=kb a hb;replace b:=kb b hb;replace HB:=hs HB hb))
      go_ret
      exact fin
     rw[if_neg c8]at H
     have b2:=beq_eq_false_iff_ne.mpr c8
     have b3:=bne_iff_ne.mpr c8
     obtain rfl:=Option.some.inj H;clear H
     go_enter Tryz.func87,Tryz.ntmps87
     go_wp2_with (first|(refine gl (some 19) Tryz.func37 #[.slice q c.length s, .slice t d.length u] rfl ?_;(with_reducible refine(bq.calls k _ _ c _ _ d true _ (cb G.out) I.out (cb J.out) K.out A5.out).mono ?_);rintro e w' ⟨rfl,⟨nd,rfl⟩⟩;refine⟨_,rfl, ?_⟩))
     go_ret
     exact fin
    rw[if_neg c7]at H
    have b0:=beq_eq_false_iff_ne.mpr c7
    have b1:=bne_iff_ne.mpr c7
    obtain rfl:=Option.some.inj H;clear H
    go_enter Tryz.func87,Tryz.ntmps87
    go_wp2_with (first|(refine gl (some 19) Tryz.func37 #[.slice q c.length s, .slice t d.length u] rfl ?_;(with_reducible refine(bq.calls k _ _ c _ _ d true _ (cb G.out) I.out (cb J.out) K.out A5.out).mono ?_);rintro e w' ⟨rfl,⟨nd,rfl⟩⟩;refine⟨_,rfl, ?_⟩))
    go_ret
    exact fin
   replace c6:=Bool.eq_false_iff.mpr c6
   subst c6
   replace H:=ie H
   obtain rfl:=Option.some.inj H;clear H
   go_enter Tryz.func87,Tryz.ntmps87
   go_wp2_with (first|(refine gl (some 19) Tryz.func37 #[.slice q c.length s, .slice t d.length u] rfl ?_;(with_reducible refine(bq.calls k _ _ c _ _ d false _ (cb G.out) I.out (cb J.out) K.out A5.out).mono ?_);rintro e w' ⟨rfl,⟨nd,rfl⟩⟩;refine⟨_,rfl, ?_⟩))
   go_ret
   exact fin
  rw[if_neg c4]at H
  have bt:=beq_eq_false_iff_ne.mpr c4
  have bw:=bne_iff_ne.mpr c4
  obtain rfl:=Option.some.inj H;clear H
  go_enter Tryz.func87,Tryz.ntmps87
  go_wp2
  go_ret
  exact fin
 rw[if_neg c3]at H
 have br:=beq_eq_false_iff_ne.mpr c3
 have bs:=bne_iff_ne.mpr c3
 obtain rfl:=Option.some.inj H;clear H
 go_enter Tryz.func87,Tryz.ntmps87
 go_wp2
 go_ret
 exact fin
def bI.T6:Bool×List (List Nat×List Nat):=(true, [([], []),([], []),([0,1], [0,1]),([2], [2]),([], []),([], []),([4,5], [4,5]),([6], [6]),([3,7], [3,7]),([8], [8])])
def bI.B6:List Nat:= [0,0,3,7,0,0,48,112,255,511]
theorem bI.tab6:dJ .any (opsOf Tryz.f40 6)=bI.T6:=by kernel_rfl
theorem bI.bits6:dY bI.T6.2 bI.B6=true:=by kernel_rfl
set_option maxHeartbeats 8000000 in
set_option maxRecDepth 100000 in
theorem bI.calls (k:Nat) (A0:Option Addr) (c0:Nat) (l0:List (S104)) (A1:Option Addr) (c1:Nat) (l1:List (S104)) (r:Bool) (w:World) (hr0:Kd.C dV w A0 l0.length l0) (hc0:l0.length≤c0) (hr1:Kd.C dV w A1 l1.length l1) (hc1:l1.length≤c1) (h:bI.f k l0 l1=some r):
  Calls Tryz.prog 40 #[.slice A0 l0.length c0, .slice A1 l1.length c1] w fun e w' =>e= .returned (.bool r)∧Below w.heap.size w w' :=by
 have ci:=Tryz.underlying104
 have ca:=Aside0.mk hr0
 have cl:=Aside0.mk hc0
 clear hr0 hc0
 have HR1:=Aside0.mk hr1
 have cm:=Aside0.mk hc1
 clear hr1 hc1
 have HB:=Aside0.mk (Below.refl w.heap.size w)
 have H:(if(l0.length:Int)=(l1.length:Int)then(bI.l0 k l0 l1 0)else(some false))=some r:=h
 clear h
 by_cases c3:(l0.length:Int)=(l1.length:Int)
 ·rw [if_pos c3]at H
  have cd:=beq_iff_eq.mpr c3
  have ce:=bne_eq_false_iff_eq.mpr c3
  have cf:(l0.length==l1.length)=true:=by first|simpa using c3|(simp at c3⊢;omega)
  clear c3
  have H' :=Aside0.mk H
  clear H
  go_enter Tryz.func40,Tryz.ntmps40
  go_wp2
  go_loopg [5] k (fun kq v5 w' => ∃(a:Int),v5= .int .i64 a∧Aside0 (bI.l0 kq l0 l1 a=some r)∧Aside0 (kq≤k)∧Aside0 (Below w.heap.size w w'))
  case atStart=>exact⟨(0),(by first|rfl|(simp;done)|(simp[*];done)),H',⟨Nat.le_refl _⟩,⟨bl⟩⟩
  case round=>
   clear H'
   obtain⟨a,rfl,HA,cc,HB⟩:=hrel
   cases gk with
   |zero=>exact absurd HA.out (by simp[bI.l0])
   | succ k1=>
    have H:=HA.out
    clear HA
    simp only[bI.l0]at H
    by_cases c4:a<(l0.length:Int)
    ·rw [if_pos c4]at H
     have cg:decide (a<(l0.length:Int))=true:=decide_eq_true c4
     clear c4
     by_cases c5:0≤a
     ·rw[if_pos c5]at H
      have cj:decide (0≤a)=true:=decide_eq_true c5
      clear c5
      by_cases c6:a<(l1.length:Int)
      ·rw[if_pos c6]at H
       have ck:decide (a<(l1.length:Int))=true:=decide_eq_true c6
       clear c6
       obtain⟨ch,A7,H⟩:=ob H
       by_cases c8:ch=true
       ·subst c8
        replace H:=it H
        have H' :=Aside0.mk H
        clear H
        try go_wp2
        replace HB:=Aside0.mk (aC HB.out)
        have br:0≤(a:Int):=od
        have bs:a<(l0.length:Int):=od
        obtain⟨b,a5,a6,a7,a8,a9,ba,bb,bc,b8,d,g,j,l,m,o,p,q,ab,ac,ad,al,am,an,ao,ap⟩:=di ca.out a br bs
        have s:=q
        have t:=p
        have u:=o
        have v:=m
        have x:=l
        have y:=j
        have z:=g
        have A:=d
        cases b8
        obtain⟨d,g,j,l,m,o,p,q⟩:=hc8 HB d g j l m o p q
        have aq:=Aside0.mk ac
        have b0:=Aside0.mk ab
        clear ac ab
        have ar:=Aside0.mk al
        have b1:=Aside0.mk ad
        clear al ad
        have aw:=Aside0.mk an
        have b2:=Aside0.mk am
        clear an am
        have aB:=Aside0.mk ap
        have b3:=Aside0.mk ao
        clear ap ao
        replace br:=eq_true br
        replace bs:=eq_true bs
        have bt:0≤(a:Int):=od
        have bw:a<(l1.length:Int):=od
        obtain⟨c,bd,be,bh,bj,bk,bm,bo,bp,b9,B,D,E,G,I,J,L,M,aE,aF,aL,aO,aP,aR,aS,a0⟩:=di HR1.out a bt bw
        have O:=M
        have P:=L
        have T:=J
        have U:=I
        have W:=G
        have X:=E
        have Y:=D
        have Z:=B
        cases b9
        obtain⟨B,D,E,G,I,J,L,M⟩:=hc8 HB B D E G I J L M
        have a1:=Aside0.mk aF
        have b4:=Aside0.mk aE
        clear aF aE
        have a2:=Aside0.mk aO
        have b5:=Aside0.mk aL
        clear aO aL
        have a3:=Aside0.mk aR
        have b6:=Aside0.mk aP
        clear aR aP
        have a4:=Aside0.mk a0
        have b7:=Aside0.mk aS
        clear a0 aS
        replace bt:=eq_true bt
        replace bw:=eq_true bw
        refine dR (n:=10) (S:=fun w' =>w'.cell? (b.add ((a).toNat * 8))=some (.int .i64 ((aa l0 a).f0))∧w'.cell? ⟨(b.add ((a).toNat * 8)).block,(b.add ((a).toNat * 8)).off+1,none⟩=some (.int .i64 ((aa l0 a).f1))∧w'.cell? ⟨(b.add ((a).toNat * 8)).block,(b.add ((a).toNat * 8)).off+2,none⟩=some (.slice a5 ((aa l0 a).f2).length a6)∧w'.cell? ⟨(b.add ((a).toNat * 8)).block,(b.add ((a).toNat * 8)).off+3,none⟩=some (.int .i64 ((aa l0 a).f3))∧w'.cell? ⟨(b.add ((a).toNat * 8)).block,(b.add ((a).toNat * 8)).off+4,none⟩=some (.int .i64 ((aa l0 a).f4))∧w'.cell? ⟨(b.add ((a).toNat * 8)).block,(b.add ((a).toNat * 8)).off+5,none⟩=some (.slice a7 ((aa l0 a).f5).length a8)∧w'.cell? ⟨(b.add ((a).toNat * 8)).block,(b.add ((a).toNat * 8)).off+6,none⟩=some (.slice a9 ((aa l0 a).f6).length ba)∧w'.cell? ⟨(b.add ((a).toNat * 8)).block,(b.add ((a).toNat * 8)).off+7,none⟩=some (.slice bb ((aa l0 a).f7).length bc)∧w'.cell? (c.add ((a).toNat * 8))=some (.int .i64 ((aa l1 a).f0))∧w'.cell? ⟨(c.add ((a).toNat * 8)).block,(c.add ((a).toNat * 8)).off+1,none⟩=some (.int .i64 ((aa l1 a).f1))∧w'.cell? ⟨(c.add ((a).toNat * 8)).block,(c.add ((a).toNat * 8)).off+2,none⟩=some (.slice bd ((aa l1 a).f2).length be)∧w'.cell? ⟨(c.add ((a).toNat * 8)).block,(c.add ((a).toNat * 8)).off+3,none⟩=some (.int .i64 ((aa l1 a).f3))∧w'.cell? ⟨(c.add ((a).toNat * 8)).block,(c.add ((a).toNat * 8)).off+4,none⟩=some (.int .i64 ((aa l1 a).f4))∧w'.cell? ⟨(c.add ((a).toNat * 8)).block,(c.add ((a).toNat * 8)).off+5,none⟩=some (.slice bh ((aa l1 a).f5).length bj)∧w'.cell? ⟨(c.add ((a).toNat * 8)).block,(c.add ((a).toNat * 8)).off+6,none⟩=some (.slice bk ((aa l1 a).f6).length bm)∧w'.cell? ⟨(c.add ((a).toNat * 8)).block,(c.add ((a).toNat * 8)).off+7,none⟩=some (.slice bo ((aa l1 a).f7).length bp)) (ds:= []) (upto 10 0) (by kernel_rfl) rfl rfl ⟨((HB.out.cell (World.block_lt_of_cell? w _ A)).trans A),((HB.out.cell (World.block_lt_of_cell? w _ z)).trans z),((HB.out.cell (World.block_lt_of_cell? w _ y)).trans y),((HB.out.cell (World.block_lt_of_cell? w _ x)).trans x),((HB.out.cell (World.block_lt_of_cell? w _ v)).trans v),((HB.out.cell (World.block_lt_of_cell? w _ u)).trans u),((HB.out.cell (World.block_lt_of_cell? w _ t)).trans t),((HB.out.cell (World.block_lt_of_cell? w _ s)).trans s),((HB.out.cell (World.block_lt_of_cell? w _ Z)).trans Z),((HB.out.cell (World.block_lt_of_cell? w _ Y)).trans Y),((HB.out.cell (World.block_lt_of_cell? w _ X)).trans X),((HB.out.cell (World.block_lt_of_cell? w _ W)).trans W),((HB.out.cell (World.block_lt_of_cell? w _ U)).trans U),((HB.out.cell (World.block_lt_of_cell? w _ T)).trans T),((HB.out.cell (World.block_lt_of_cell? w _ P)).trans P),((HB.out.cell (World.block_lt_of_cell? w _ O)).trans O)⟩ (fun hHeld=> ?_);refine cO bI.tab6 bI.bits6 (fun HT_ HW_=> ?_)
        generalize wr.drew=w9 at HB aq ar aw aB a1 a2 a3 a4 d g j l m o p q B D E G I J L M hHeld⊢
        repeat(first|refine vN ?_|refine pN ?_|refine tN ?_)
        refine fo (i:=8) (N:=some 25) (upto 10 9) rfl rfl (d9 HT_.out (by kernel_rfl)) (by decide) (fun K hK=> ?_)
        refine gs Tryz.func87 #[.agg #[.int .i64 ((aa l0 a).f0), .int .i64 ((aa l0 a).f1), .slice a5 ((aa l0 a).f2).length a6, .int .i64 ((aa l0 a).f3), .int .i64 ((aa l0 a).f4), .slice a7 ((aa l0 a).f5).length a8, .slice a9 ((aa l0 a).f6).length ba, .slice bb ((aa l0 a).f7).length bc], .agg #[.int .i64 ((aa l1 a).f0), .int .i64 ((aa l1 a).f1), .slice bd ((aa l1 a).f2).length be, .int .i64 ((aa l1 a).f3), .int .i64 ((aa l1 a).f4), .slice bh ((aa l1 a).f5).length bj, .slice bk ((aa l1 a).f6).length bm, .slice bo ((aa l1 a).f7).length bp]] rfl rfl ?_
        with_reducible refine(gN.calls k1 ((aa l0 a).f0) ((aa l0 a).f1) _ _ ((aa l0 a).f2) ((aa l0 a).f3) ((aa l0 a).f4) _ _ ((aa l0 a).f5) _ _ ((aa l0 a).f6) _ _ ((aa l0 a).f7) ((aa l1 a).f0) ((aa l1 a).f1) _ _ ((aa l1 a).f2) ((aa l1 a).f3) ((aa l1 a).f4) _ _ ((aa l1 a).f5) _ _ ((aa l1 a).f6) _ _ ((aa l1 a).f7) true _ (cb aq.out) b0.out (cb ar.out) b1.out (cb aw.out) b2.out (cb aB.out) b3.out (cb a1.out) b4.out (cb a2.out) b5.out (cb a3.out) b6.out (cb a4.out) b7.out A7.out).mono ?_
        rintro e cn ⟨rfl,hb⟩
        refine⟨_,rfl, ?_⟩
        replace HB:=hs HB hb
        refine hK.out _ _ ⟨((HB.out.cell (World.block_lt_of_cell? w _ A)).trans A),((HB.out.cell (World.block_lt_of_cell? w _ z)).trans z),((HB.out.cell (World.block_lt_of_cell? w _ y)).trans y),((HB.out.cell (World.block_lt_of_cell? w _ x)).trans x),((HB.out.cell (World.block_lt_of_cell? w _ v)).trans v),((HB.out.cell (World.block_lt_of_cell? w _ u)).trans u),((HB.out.cell (World.block_lt_of_cell? w _ t)).trans t),((HB.out.cell (World.block_lt_of_cell? w _ s)).trans s),((HB.out.cell (World.block_lt_of_cell? w _ Z)).trans Z),((HB.out.cell (World.block_lt_of_cell? w _ Y)).trans Y),((HB.out.cell (World.block_lt_of_cell? w _ X)).trans X),((HB.out.cell (World.block_lt_of_cell? w _ W)).trans W),((HB.out.cell (World.block_lt_of_cell? w _ U)).trans U),((HB.out.cell (World.block_lt_of_cell? w _ T)).trans T),((HB.out.cell (World.block_lt_of_cell? w _ P)).trans P),((HB.out.cell (World.block_lt_of_cell? w _ O)).trans O)⟩ (fun hHeld=> ?_)
        clear hK K
        refine no 25 ?_
        repeat(first|refine vN ?_|refine pN ?_|refine tN ?_)
        refine eQ (dN HT_.out (by kernel_rfl)) ?_
        try go_wp2
        go_roundg k1
        case measure=>have:=cc.out;omega
        case rel=>exact⟨(wrap64 (a+1)),(by first|rfl|(simp;done)|(simp[*];done)),H',⟨by have:=cc.out;omega⟩,⟨bl⟩⟩
       replace c8:=Bool.eq_false_iff.mpr c8
       subst c8
       replace H:=ie H
       obtain rfl:=Option.some.inj H;clear H
       try go_wp2
       replace HB:=Aside0.mk (aC HB.out)
       have br:0≤(a:Int):=od
       have bs:a<(l0.length:Int):=od
       obtain⟨b,a5,a6,a7,a8,a9,ba,bb,bc,b8,d,g,j,l,m,o,p,q,ab,ac,ad,al,am,an,ao,ap⟩:=di ca.out a br bs
       have s:=q
       have t:=p
       have u:=o
       have v:=m
       have x:=l
       have y:=j
       have z:=g
       have A:=d
       cases b8
       obtain⟨d,g,j,l,m,o,p,q⟩:=hc8 HB d g j l m o p q
       have aq:=Aside0.mk ac
       have b0:=Aside0.mk ab
       clear ac ab
       have ar:=Aside0.mk al
       have b1:=Aside0.mk ad
       clear al ad
       have aw:=Aside0.mk an
       have b2:=Aside0.mk am
       clear an am
       have aB:=Aside0.mk ap
       have b3:=Aside0.mk ao
       clear ap ao
       replace br:=eq_true br
       replace bs:=eq_true bs
       have bt:0≤(a:Int):=od
       have bw:a<(l1.length:Int):=od
       obtain⟨c,bd,be,bh,bj,bk,bm,bo,bp,b9,B,D,E,G,I,J,L,M,aE,aF,aL,aO,aP,aR,aS,a0⟩:=di HR1.out a bt bw
       have O:=M
       have P:=L
       have T:=J
       have U:=I
       have W:=G
       have X:=E
       have Y:=D
       have Z:=B
       cases b9
       obtain⟨B,D,E,G,I,J,L,M⟩:=hc8 HB B D E G I J L M
       have a1:=Aside0.mk aF
       have b4:=Aside0.mk aE
       clear aF aE
       have a2:=Aside0.mk aO
       have b5:=Aside0.mk aL
       clear aO aL
       have a3:=Aside0.mk aR
       have b6:=Aside0.mk aP
       clear aR aP
       have a4:=Aside0.mk a0
       have b7:=Aside0.mk aS
       clear a0 aS
       replace bt:=eq_true bt
       replace bw:=eq_true bw
       refine dR (n:=10) (S:=fun w' =>w'.cell? (b.add ((a).toNat * 8))=some (.int .i64 ((aa l0 a).f0))∧w'.cell? ⟨(b.add ((a).toNat * 8)).block,(b.add ((a).toNat * 8)).off+1,none⟩=some (.int .i64 ((aa l0 a).f1))∧w'.cell? ⟨(b.add ((a).toNat * 8)).block,(b.add ((a).toNat * 8)).off+2,none⟩=some (.slice a5 ((aa l0 a).f2).length a6)∧w'.cell? ⟨(b.add ((a).toNat * 8)).block,(b.add ((a).toNat * 8)).off+3,none⟩=some (.int .i64 ((aa l0 a).f3))∧w'.cell? ⟨(b.add ((a).toNat * 8)).block,(b.add ((a).toNat * 8)).off+4,none⟩=some (.int .i64 ((aa l0 a).f4))∧w'.cell? ⟨(b.add ((a).toNat * 8)).block,(b.add ((a).toNat * 8)).off+5,none⟩=some (.slice a7 ((aa l0 a).f5).length a8)∧w'.cell? ⟨(b.add ((a).toNat * 8)).block,(b.add ((a).toNat * 8)).off+6,none⟩=some (.slice a9 ((aa l0 a).f6).length ba)∧w'.cell? ⟨(b.add ((a).toNat * 8)).block,(b.add ((a).toNat * 8)).off+7,none⟩=some (.slice bb ((aa l0 a).f7).length bc)∧w'.cell? (c.add ((a).toNat * 8))=some (.int .i64 ((aa l1 a).f0))∧w'.cell? ⟨(c.add ((a).toNat * 8)).block,(c.add ((a).toNat * 8)).off+1,none⟩=some (.int .i64 ((aa l1 a).f1))∧w'.cell? ⟨(c.add ((a).toNat * 8)).block,(c.add ((a).toNat * 8)).off+2,none⟩=some (.slice bd ((aa l1 a).f2).length be)∧w'.cell? ⟨(c.add ((a).toNat * 8)).block,(c.add ((a).toNat * 8)).off+3,none⟩=some (.int .i64 ((aa l1 a).f3))∧w'.cell? ⟨(c.add ((a).toNat * 8)).block,(c.add ((a).toNat * 8)).off+4,none⟩=some (.int .i64 ((aa l1 a).f4))∧w'.cell? ⟨(c.add ((a).toNat * 8)).block,(c.add ((a).toNat * 8)).off+5,none⟩=some (.slice bh ((aa l1 a).f5).length bj)∧w'.cell? ⟨(c.add ((a).toNat * 8)).block,(c.add ((a).toNat * 8)).off+6,none⟩=some (.slice bk ((aa l1 a).f6).length bm)∧w'.cell? ⟨(c.add ((a).toNat * 8)).block,(c.add ((a).toNat * 8)).off+7,none⟩=some (.slice bo ((aa l1 a).f7).length bp)) (ds:= []) (upto 10 0) (by kernel_rfl) rfl rfl ⟨((HB.out.cell (World.block_lt_of_cell? w _ A)).trans A),((HB.out.cell (World.block_lt_of_cell? w _ z)).trans z),((HB.out.cell (World.block_lt_of_cell? w _ y)).trans y),((HB.out.cell (World.block_lt_of_cell? w _ x)).trans x),((HB.out.cell (World.block_lt_of_cell? w _ v)).trans v),((HB.out.cell (World.block_lt_of_cell? w _ u)).trans u),((HB.out.cell (World.block_lt_of_cell? w _ t)).trans t),((HB.out.cell (World.block_lt_of_cell? w _ s)).trans s),((HB.out.cell (World.block_lt_of_cell? w _ Z)).trans Z),((HB.out.cell (World.block_lt_of_cell? w _ Y)).trans Y),((HB.out.cell (World.block_lt_of_cell? w _ X)).trans X),((HB.out.cell (World.block_lt_of_cell? w _ W)).trans W),((HB.out.cell (World.block_lt_of_cell? w _ U)).trans U),((HB.out.cell (World.block_lt_of_cell? w _ T)).trans T),((HB.out.cell (World.block_lt_of_cell? w _ P)).trans P),((HB.out.cell (World.block_lt_of_cell? w _ O)).trans O)⟩ (fun hHeld=> ?_);refine cO bI.tab6 bI.bits6 (fun HT_ HW_=> ?_)
       generalize wr.drew=co at HB aq ar aw aB a1 a2 a3 a4 d g j l m o p q B D E G I J L M hHeld⊢
       repeat(first|refine vN ?_|refine pN ?_|refine tN ?_)
       refine fo (i:=8) (N:=some 25) (upto 10 9) rfl rfl (d9 HT_.out (by kernel_rfl)) (by decide) (fun K hK=> ?_)
       refine gs Tryz.func87 #[.agg #[.int .i64 ((aa l0 a).f0), .int .i64 ((aa l0 a).f1), .slice a5 ((aa l0 a).f2).length a6, .int .i64 ((aa l0 a).f3), .int .i64 ((aa l0 a).f4), .slice a7 ((aa l0 a).f5).length a8, .slice a9 ((aa l0 a).f6).length ba, .slice bb ((aa l0 a).f7).length bc], .agg #[.int .i64 ((aa l1 a).f0), .int .i64 ((aa l1 a).f1), .slice bd ((aa l1 a).f2).length be, .int .i64 ((aa l1 a).f3), .int .i64 ((aa l1 a).f4), .slice bh ((aa l1 a).f5).length bj, .slice bk ((aa l1 a).f6).length bm, .slice bo ((aa l1 a).f7).length bp]] rfl rfl ?_
       with_reducible refine(gN.calls k1 ((aa l0 a).f0) ((aa l0 a).f1) _ _ ((aa l0 a).f2) ((aa l0 a).f3) ((aa l0 a).f4) _ _ ((aa l0 a).f5) _ _ ((aa l0 a).f6) _ _ ((aa l0 a).f7) ((aa l1 a).f0) ((aa l1 a).f1) _ _ ((aa l1 a).f2) ((aa l1 a).f3) ((aa l1 a).f4) _ _ ((aa l1 a).f5) _ _ ((aa l1 a).f6) _ _ ((aa l1 a).f7) false _ (cb aq.out) b0.out (cb ar.out) b1.out (cb aw.out) b2.out (cb aB.out) b3.out (cb a1.out) b4.out (cb a2.out) b5.out (cb a3.out) b6.out (cb a4.out) b7.out A7.out).mono ?_
       rintro e cp ⟨rfl,hb⟩
       refine⟨_,rfl, ?_⟩
       replace HB:=hs HB hb
       refine hK.out _ _ ⟨((HB.out.cell (World.block_lt_of_cell? w _ A)).trans A),((HB.out.cell (World.block_lt_of_cell? w _ z)).trans z),((HB.out.cell (World.block_lt_of_cell? w _ y)).trans y),((HB.out.cell (World.block_lt_of_cell? w _ x)).trans x),((HB.out.cell (World.block_lt_of_cell? w _ v)).trans v),((HB.out.cell (World.block_lt_of_cell? w _ u)).trans u),((HB.out.cell (World.block_lt_of_cell? w _ t)).trans t),((HB.out.cell (World.block_lt_of_cell? w _ s)).trans s),((HB.out.cell (World.block_lt_of_cell? w _ Z)).trans Z),((HB.out.cell (World.block_lt_of_cell? w _ Y)).trans Y),((HB.out.cell (World.block_lt_of_cell? w _ X)).trans X),((HB.out.cell (World.block_lt_of_cell? w _ W)).trans W),((HB.out.cell (World.block_lt_of_cell? w _ U)).trans U),((HB.out.cell (World.block_lt_of_cell? w _ T)).trans T),((HB.out.cell (World.block_lt_of_cell? w _ P)).trans P),((HB.out.cell (World.block_lt_of_cell? w _ O)).trans O)⟩ (fun hHeld=> ?_)
       clear hK K
       refine no 25 ?_
       repeat(first|refine vN ?_|refine pN ?_|refine tN ?_)
       refine eQ (dN HT_.out (by kernel_rfl)) ?_
       try go_wp2
       go_ret
       exact fin
      rw[if_neg c6]at H
      exact absurd H (by simp)
     rw[if_neg c5]at H
     exact absurd H (by simp)
    rw[if_neg c4]at H
    have cg:decide (a<(l0.length:Int))=false:=decide_eq_false c4
    clear c4
    obtain rfl:=Option.some.inj H;clear H
    go_wp2
    go_ret
    exact fin
 rw[if_neg c3]at H
 have cd:=beq_eq_false_iff_ne.mpr c3
 have ce:=bne_iff_ne.mpr c3
 have cf:(l0.length==l1.length)=false:=by first|simpa using c3|(simp at c3⊢;omega)
 obtain rfl:=Option.some.inj H;clear H
 go_enter Tryz.func40,Tryz.ntmps40
 go_wp2
 go_ret
 exact fin
set_option maxHeartbeats 8000000 in
set_option maxRecDepth 100000 in
theorem ib.calls (k:Nat) (m:Option Addr) (n:Nat) (c:List (S126)) (q:Option Addr) (s:Nat) (g:List (S104)) (o:Option Addr) (p:Nat) (d:List (S126)) (t:Option Addr) (u:Nat) (i:List (S104)) (r:Bool) (w:World) (D:Kd.C eB w m c.length c) (E:c.length≤n) (G:Kd.C dV w q g.length g) (I:g.length≤s) (J:Kd.C eB w o d.length d) (K:d.length≤p) (L:Kd.C dV w t i.length i) (M:i.length≤u) (h:ib.f k c g d i=some r):
  Calls Tryz.prog 11 #[.agg #[.slice m c.length n, .slice q g.length s], .agg #[.slice o d.length p, .slice t i.length u]] w fun e w' =>e= .returned (.bool r)∧Below w.heap.size w w' :=by
 have am:=Tryz.underlying38
 have v:=Aside0.mk D
 have x:=Aside0.mk E
 clear D E
 have O:=Aside0.mk G
 have P:=Aside0.mk I
 clear G I
 have y:=Aside0.mk J
 have z:=Aside0.mk K
 clear J K
 have T:=Aside0.mk L
 have U:=Aside0.mk M
 clear L M
 have HB:=Aside0.mk (Below.refl w.heap.size w)
 have H:((bL.f k c d).bind fun A=>(if A=true then((bI.f k g i).bind fun B=>(if B=true then(some true)else(some false)))else(some false)))=some r:=h
 clear h
 obtain⟨A,A3,H⟩:=ob H
 by_cases c4:A=true
 ·subst c4
  replace H:=it H
  obtain⟨B,A5,H⟩:=ob H
  by_cases c6:B=true
  ·subst c6
   replace H:=it H
   obtain rfl:=Option.some.inj H;clear H
   go_enter Tryz.func11,Tryz.ntmps11
   go_wp2_with (first|((with_reducible refine gd 2 rfl ?_);refine bx 2 #[.slice m c.length n, .slice q g.length s] 38 ?_;intro W hg w7 hbox hb;have a:=Aside0.mk hbox;have X:=hz HB hg;replace HB:=hs HB hb;clear hb hbox hg)|((with_reducible refine gd 3 rfl ?_);refine bx 3 #[.slice o d.length p, .slice t i.length u] 38 ?_;intro Y hg w8 hbox hb;have b:=Aside0.mk hbox;have Z:=hz HB hg;have j:=nl a hg;have l:=ng a hg;replace a:=kb a hb;replace HB:=hs HB hb;clear hb hbox hg;have an:=j.out;have ao:=l.out;have:=cf2 a;have:=cf2 b)|(refine gl (some 9) Tryz.func39 #[.slice m c.length n, .slice o d.length p] rfl ?_;(with_reducible refine(bL.calls k _ _ c _ _ d true _ (cb v.out) x.out (cb y.out) z.out A3.out).mono ?_);rintro e ap ⟨rfl,hb⟩;refine⟨_,rfl, ?_⟩;replace a:=kb a hb;replace b:=kb b hb;replace HB:=hs HB hb;have:=cf2 a;have:=cf2 b)|(refine gl (some 15) Tryz.func40 #[.slice q g.length s, .slice t i.length u] rfl ?_;(with_reducible refine(bI.calls k _ _ g _ _ i true _ (cb O.out) P.out (cb T.out) U.out A5.out).mono ?_);rintro e aq ⟨rfl,hb⟩;refine⟨_,rfl, ?_⟩;replace a:=kb a hb;replace b:=kb b hb;replace HB:=hs HB hb))
   go_ret
   exact fin
  replace c6:=Bool.eq_false_iff.mpr c6
  subst c6
  replace H:=ie H
  obtain rfl:=Option.some.inj H;clear H
  go_enter Tryz.func11,Tryz.ntmps11
  go_wp2_with (first|((with_reducible refine gd 2 rfl ?_);refine bx 2 #[.slice m c.length n, .slice q g.length s] 38 ?_;intro W hg w16 hbox hb;have a:=Aside0.mk hbox;have X:=hz HB hg;replace HB:=hs HB hb;clear hb hbox hg)|((with_reducible refine gd 3 rfl ?_);refine bx 3 #[.slice o d.length p, .slice t i.length u] 38 ?_;intro Y hg ar hbox hb;have b:=Aside0.mk hbox;have Z:=hz HB hg;have j:=nl a hg;have l:=ng a hg;replace a:=kb a hb;replace HB:=hs HB hb;clear hb hbox hg;have ab:=j.out;have ac:=l.out;have:=cf2 a;have:=cf2 b)|(refine gl (some 9) Tryz.func39 #[.slice m c.length n, .slice o d.length p] rfl ?_;(with_reducible refine(bL.calls k _ _ c _ _ d true _ (cb v.out) x.out (cb y.out) z.out A3.out).mono ?_);rintro e aw ⟨rfl,hb⟩;refine⟨_,rfl, ?_⟩;replace a:=kb a hb;replace b:=kb b hb;replace HB:=hs HB hb;have:=cf2 a;have:=cf2 b)|(refine gl (some 15) Tryz.func40 #[.slice q g.length s, .slice t i.length u] rfl ?_;(with_reducible refine(bI.calls k _ _ g _ _ i false _ (cb O.out) P.out (cb T.out) U.out A5.out).mono ?_);rintro e aB ⟨rfl,hb⟩;refine⟨_,rfl, ?_⟩;replace a:=kb a hb;replace b:=kb b hb;replace HB:=hs HB hb))
  go_ret
  exact fin
 replace c4:=Bool.eq_false_iff.mpr c4
 subst c4
 replace H:=ie H
 obtain rfl:=Option.some.inj H;clear H
 go_enter Tryz.func11,Tryz.ntmps11
 go_wp2_with (first|((with_reducible refine gd 2 rfl ?_);refine bx 2 #[.slice m c.length n, .slice q g.length s] 38 ?_;intro W hg aE hbox hb;have a:=Aside0.mk hbox;have X:=hz HB hg;replace HB:=hs HB hb;clear hb hbox hg)|((with_reducible refine gd 3 rfl ?_);refine bx 3 #[.slice o d.length p, .slice t i.length u] 38 ?_;intro Y hg aF hbox hb;have b:=Aside0.mk hbox;have Z:=hz HB hg;have j:=nl a hg;have l:=ng a hg;replace a:=kb a hb;replace HB:=hs HB hb;clear hb hbox hg;have ad:=j.out;have al:=l.out;have:=cf2 a;have:=cf2 b)|(refine gl (some 9) Tryz.func39 #[.slice m c.length n, .slice o d.length p] rfl ?_;(with_reducible refine(bL.calls k _ _ c _ _ d false _ (cb v.out) x.out (cb y.out) z.out A3.out).mono ?_);rintro e aL ⟨rfl,hb⟩;refine⟨_,rfl, ?_⟩;replace a:=kb a hb;replace b:=kb b hb;replace HB:=hs HB hb))
 go_ret
 exact fin
set_option maxHeartbeats 8000000 in
set_option maxRecDepth 100000 in
theorem dD.calls (k:Nat) (A0:Option Addr) (c0:Nat) (l0:List (S31)) (a1:Int) (r:Int) (w:World) (hr0:Kd.C k31 w A0 l0.length l0) (hc0:l0.length≤c0) (h:dD.f k l0 a1=some r):
  Calls Tryz.prog 92 #[.slice A0 l0.length c0, .int .i64 a1] w fun e w' =>e= .returned (.int .i64 r)∧Drawn0 w w' :=by
 have p:=Aside0.mk hr0
 have G:=Aside0.mk hc0
 clear hr0 hc0
 have H:(dD.l0 k l0 a1 0)=some r:=h
 clear h
 have H' :=Aside0.mk H
 clear H
 go_enter Tryz.func92,Tryz.ntmps92
 go_wp2
 go_loopg [1,5] k (fun kq v1 v5 w' => ∃(b:Int) (a:Int),v1= .int .i64 b∧v5= .int .i64 a∧Aside0 (dD.l0 kq l0 b a=some r)∧Aside0 (kq≤k)∧Drawn0 w w')
 case atStart=>exact⟨(a1),(0),(by first|rfl|(simp;done)|(simp[*];done)),(by first|rfl|(simp;done)|(simp[*];done)),H',⟨Nat.le_refl _⟩,by repeat(first|exact Drawn0.refl _|apply Drawn0.step)⟩
 case round=>
  clear H'
  obtain⟨b,a,rfl,rfl,HA,u,⟨m1,rfl⟩⟩:=hrel
  cases gk with
  |zero=>exact absurd HA.out (by simp[dD.l0])
  | succ k1=>
   have H:=HA.out
   clear HA
   simp only[dD.l0]at H
   by_cases c3:a<(l0.length:Int)
   ·rw [if_pos c3]at H
    have v:decide (a<(l0.length:Int))=true:=decide_eq_true c3
    clear c3
    by_cases c4:0≤a
    ·rw[if_pos c4]at H
     have D:decide (0≤a)=true:=decide_eq_true c4
     clear c4
     by_cases c5:(((bU l0 a).f0) !=((Int.tmod b 3)==0))=true
     ·rw[if_pos c5]at H
      have x:(((bU l0 a).f0) !=((Int.tmod b 3)==0))=true:=c5
      (try(have y:decide (((bU l0 a).f0)=((Int.tmod b 3)==0))=false:=by simpa using c5))
      (try(have z:(((bU l0 a).f0)==((Int.tmod b 3)==0))=false:=by simpa using c5))
      (try(have E: ¬(((bU l0 a).f0)=((Int.tmod b 3)==0)):=by simpa using c5))
      clear c5
      obtain rfl:=Option.some.inj H;clear H
      have c:0≤(a:Int):=od
      have d:a<(l0.length:Int):=od
      obtain⟨j,l,m,n⟩:=jv p.out a c d
      cases l
      replace c:=eq_true c
      replace d:=eq_true d
      go_wp2
      go_ret
      exact⟨by first|rfl|(simp;done)|(simp[*];done),by repeat(first|exact Drawn0.refl _|apply Drawn0.step)⟩
     ·rw[if_neg c5]at H
      have x:(((bU l0 a).f0) !=((Int.tmod b 3)==0))=false:=by simpa using c5
      (try(have y:decide (((bU l0 a).f0)=((Int.tmod b 3)==0))=true:=by simpa using c5))
      (try(have z:(((bU l0 a).f0)==((Int.tmod b 3)==0))=true:=by simpa using c5))
      clear c5
      by_cases c6:((bU l0 a).f1)=(wrap64 (b+1))
      ·rw[if_pos c6]at H
       have A:=beq_iff_eq.mpr c6
       have B:=bne_eq_false_iff_eq.mpr c6
       clear c6
       have H' :=Aside0.mk H
       clear H
       have c:0≤(a:Int):=od
       have d:a<(l0.length:Int):=od
       obtain⟨j,l,m,n⟩:=jv p.out a c d
       cases l
       replace c:=eq_true c
       replace d:=eq_true d
       have g:0≤(a:Int):=od
       have i:a<(l0.length:Int):=od
       obtain⟨o,q,s,t⟩:=jv p.out a g i
       obtain rfl:j=o:=(by injection q)
       replace g:=eq_true g
       replace i:=eq_true i
       go_wp2
       go_roundg k1
       case measure=>have:=u.out;omega
       case rel=>exact⟨(wrap64 ((wrap64 (b+1))+1)),(wrap64 (a+1)),(by first|rfl|(simp;done)|(simp[*];done)),(by first|rfl|(simp;done)|(simp[*];done)),H',⟨by have:=u.out;omega⟩,by repeat(first|exact Drawn0.refl _|apply Drawn0.step)⟩
      ·rw[if_neg c6]at H
       have A:=beq_eq_false_iff_ne.mpr c6
       have B:=bne_iff_ne.mpr c6
       obtain rfl:=Option.some.inj H;clear H
       have c:0≤(a:Int):=od
       have d:a<(l0.length:Int):=od
       obtain⟨j,l,m,n⟩:=jv p.out a c d
       cases l
       replace c:=eq_true c
       replace d:=eq_true d
       have g:0≤(a:Int):=od
       have i:a<(l0.length:Int):=od
       obtain⟨o,q,s,t⟩:=jv p.out a g i
       obtain rfl:j=o:=(by injection q)
       replace g:=eq_true g
       replace i:=eq_true i
       go_wp2
       go_ret
       exact⟨by first|rfl|(simp;done)|(simp[*];done),by repeat(first|exact Drawn0.refl _|apply Drawn0.step)⟩
    ·rw[if_neg c4]at H
     exact absurd H (by simp)
   ·rw[if_neg c3]at H
    have v:decide (a<(l0.length:Int))=false:=decide_eq_false c3
    clear c3
    obtain rfl:=Option.some.inj H;clear H
    go_wp2
    go_ret
    exact⟨by first|rfl|(simp;done)|(simp[*];done),by repeat(first|exact Drawn0.refl _|apply Drawn0.step)⟩
set_option maxHeartbeats 8000000 in
set_option maxRecDepth 100000 in
theorem dU.calls (k:Nat) (A0:Option Addr) (c0:Nat) (l0:List (S91)) (a1:Int) (r:Int) (w:World) (hr0:Kd.C k91 w A0 l0.length l0) (hc0:l0.length≤c0) (h:dU.f k l0 a1=some r):
  Calls Tryz.prog 46 #[.slice A0 l0.length c0, .int .i64 a1] w fun e w' =>e= .returned (.int .i64 r)∧Drawn0 w w' :=by
 have E:=Aside0.mk hr0
 have W:=Aside0.mk hc0
 clear hr0 hc0
 have H:(dU.l0 k l0 a1 0)=some r:=h
 clear h
 have H' :=Aside0.mk H
 clear H
 go_enter Tryz.func46,Tryz.ntmps46
 go_wp2
 go_loopg [1,5] k (fun kq v1 v5 w' => ∃(l:Int) (a:Int),v1= .int .i64 l∧v5= .int .i64 a∧Aside0 (dU.l0 kq l0 l a=some r)∧Aside0 (kq≤k)∧Drawn0 w w')
 case atStart=>exact⟨(a1),(0),(by first|rfl|(simp;done)|(simp[*];done)),(by first|rfl|(simp;done)|(simp[*];done)),H',⟨Nat.le_refl _⟩,by repeat(first|exact Drawn0.refl _|apply Drawn0.step)⟩
 case round=>
  clear H'
  obtain⟨l,a,rfl,rfl,HA,L,⟨m1,rfl⟩⟩:=hrel
  cases gk with
  |zero=>exact absurd HA.out (by simp[dU.l0])
  | succ k1=>
   have H:=HA.out
   clear HA
   simp only[dU.l0]at H
   by_cases c3:a<(l0.length:Int)
   ·rw [if_pos c3]at H
    have M:decide (a<(l0.length:Int))=true:=decide_eq_true c3
    clear c3
    by_cases c4:0≤a
    ·rw[if_pos c4]at H
     have U:decide (0≤a)=true:=decide_eq_true c4
     clear c4
     by_cases c5:((dh l0 a).f0)=l
     ·rw[if_pos c5]at H
      have O:=beq_iff_eq.mpr c5
      have P:=bne_eq_false_iff_eq.mpr c5
      clear c5
      obtain⟨s,A6,H⟩:=ob H
      by_cases c7:s<0
      ·rw[if_pos c7]at H
       have T:decide (s<0)=true:=decide_eq_true c7
       clear c7
       obtain rfl:=Option.some.inj H;clear H
       have d:0≤(a:Int):=od
       have g:a<(l0.length:Int):=od
       obtain⟨x,p,q,y,z,m,b,c⟩:=jw E.out a d g
       cases y
       have A:=Aside0.mk c
       have B:=Aside0.mk b
       clear c b
       replace d:=eq_true d
       replace g:=eq_true g
       have n:0≤(a:Int):=od
       have o:a<(l0.length:Int):=od
       obtain⟨D,J,K,G,I,t,i,j⟩:=jw E.out a n o
       obtain rfl:x=D:=(by injection G)
       have u:=Aside0.mk j
       have v:=Aside0.mk i
       clear j i
       replace n:=eq_true n
       replace o:=eq_true o
       have ea_:=Option.some.inj (m.symm.trans t)
       injection ea_ with ea_ en_ ec_
       subst ea_
       subst ec_
       clear en_
       go_wp2_with (first|((with_reducible refine gc 92 rfl ?_);refine gl (some 27) Tryz.func92 #[.slice p ((dh l0 a).f1).length q, .int .i64 (wrap64 (l+1))] rfl ?_;(with_reducible refine(dD.calls k1 _ _ ((dh l0 a).f1) (wrap64 (l+1)) s _ ?s1 ?s2 A6.out).mono ?_);(case s1=>repeat(first|exact u.out|(with_reducible refine Kd.C_alloc ?_ _)|(with_reducible refine Kd.C_drewN ?_ _)|(with_reducible refine Kd.C_drew ?_)));(case s2=>exact v.out);rintro e w' ⟨rfl,⟨nd,rfl⟩⟩;refine⟨_,rfl, ?_⟩))
       go_ret
       exact⟨by first|rfl|(simp;done)|(simp[*];done),by repeat(first|exact Drawn0.refl _|apply Drawn0.step)⟩
      ·rw[if_neg c7]at H
       have T:decide (s<0)=false:=decide_eq_false c7
       clear c7
       have H' :=Aside0.mk H
       clear H
       have d:0≤(a:Int):=od
       have g:a<(l0.length:Int):=od
       obtain⟨x,p,q,y,z,m,b,c⟩:=jw E.out a d g
       cases y
       have A:=Aside0.mk c
       have B:=Aside0.mk b
       clear c b
       replace d:=eq_true d
       replace g:=eq_true g
       have n:0≤(a:Int):=od
       have o:a<(l0.length:Int):=od
       obtain⟨D,J,K,G,I,t,i,j⟩:=jw E.out a n o
       obtain rfl:x=D:=(by injection G)
       have u:=Aside0.mk j
       have v:=Aside0.mk i
       clear j i
       replace n:=eq_true n
       replace o:=eq_true o
       have ea_:=Option.some.inj (m.symm.trans t)
       injection ea_ with ea_ en_ ec_
       subst ea_
       subst ec_
       clear en_
       go_wp2_with (first|((with_reducible refine gc 92 rfl ?_);refine gl (some 27) Tryz.func92 #[.slice p ((dh l0 a).f1).length q, .int .i64 (wrap64 (l+1))] rfl ?_;(with_reducible refine(dD.calls k1 _ _ ((dh l0 a).f1) (wrap64 (l+1)) s _ ?s1 ?s2 A6.out).mono ?_);(case s1=>repeat(first|exact u.out|(with_reducible refine Kd.C_alloc ?_ _)|(with_reducible refine Kd.C_drewN ?_ _)|(with_reducible refine Kd.C_drew ?_)));(case s2=>exact v.out);rintro e w' ⟨rfl,⟨nd,rfl⟩⟩;refine⟨_,rfl, ?_⟩))
       go_roundg k1
       case measure=>have:=L.out;omega
       case rel=>exact⟨(s),(wrap64 (a+1)),(by first|rfl|(simp;done)|(simp[*];done)),(by first|rfl|(simp;done)|(simp[*];done)),H',⟨by have:=L.out;omega⟩,by repeat(first|exact Drawn0.refl _|apply Drawn0.step)⟩
     ·rw[if_neg c5]at H
      have O:=beq_eq_false_iff_ne.mpr c5
      have P:=bne_iff_ne.mpr c5
      obtain rfl:=Option.some.inj H;clear H
      have d:0≤(a:Int):=od
      have g:a<(l0.length:Int):=od
      obtain⟨x,p,q,y,z,m,b,c⟩:=jw E.out a d g
      cases y
      have A:=Aside0.mk c
      have B:=Aside0.mk b
      clear c b
      replace d:=eq_true d
      replace g:=eq_true g
      go_wp2
      go_ret
      exact⟨by first|rfl|(simp;done)|(simp[*];done),by repeat(first|exact Drawn0.refl _|apply Drawn0.step)⟩
    ·rw[if_neg c4]at H
     exact absurd H (by simp)
   ·rw[if_neg c3]at H
    have M:decide (a<(l0.length:Int))=false:=decide_eq_false c3
    clear c3
    obtain rfl:=Option.some.inj H;clear H
    go_wp2
    go_ret
    exact⟨by first|rfl|(simp;done)|(simp[*];done),by repeat(first|exact Drawn0.refl _|apply Drawn0.step)⟩
set_option maxHeartbeats 8000000 in
set_option maxRecDepth 100000 in
theorem dM.calls (k:Nat) (A0:Option Addr) (c0:Nat) (l0:List (S70)) (a1:Int) (r:Int) (w:World) (hr0:Kd.C k70 w A0 l0.length l0) (hc0:l0.length≤c0) (h:dM.f k l0 a1=some r):
  Calls Tryz.prog 47 #[.slice A0 l0.length c0, .int .i64 a1] w fun e w' =>e= .returned (.int .i64 r)∧Drawn0 w w' :=by
 have K:=Aside0.mk hr0
 have ce:=Aside0.mk hc0
 clear hr0 hc0
 have H:(dM.l0 k l0 a1 0)=some r:=h
 clear h
 have H' :=Aside0.mk H
 clear H
 go_enter Tryz.func47,Tryz.ntmps47
 go_wp2
 go_loopg [1,5] k (fun kq v1 v5 w' => ∃(D:Int) (a:Int),v1= .int .i64 D∧v5= .int .i64 a∧Aside0 (dM.l0 kq l0 D a=some r)∧Aside0 (kq≤k)∧Drawn0 w w')
 case atStart=>exact⟨(a1),(0),(by first|rfl|(simp;done)|(simp[*];done)),(by first|rfl|(simp;done)|(simp[*];done)),H',⟨Nat.le_refl _⟩,by repeat(first|exact Drawn0.refl _|apply Drawn0.step)⟩
 case round=>
  clear H'
  obtain⟨D,a,rfl,rfl,HA,b5,⟨m1,rfl⟩⟩:=hrel
  cases gk with
  |zero=>exact absurd HA.out (by simp[dM.l0])
  | succ k1=>
   have H:=HA.out
   clear HA
   simp only[dM.l0]at H
   by_cases c3:a<(l0.length:Int)
   ·rw [if_pos c3]at H
    have b6:decide (a<(l0.length:Int))=true:=decide_eq_true c3
    clear c3
    by_cases c4:0≤a
    ·rw [if_pos c4]at H
     have cd:decide (0≤a)=true:=decide_eq_true c4
     clear c4
     by_cases c5:((bn l0 a).f0)=D
     ·rw [if_pos c5]at H
      have b7:=beq_iff_eq.mpr c5
      have b8:=bne_eq_false_iff_eq.mpr c5
      clear c5
      by_cases c6:((bn l0 a).f1)=(wrap64 (D+1))
      ·rw[if_pos c6]at H
       have b9:=beq_iff_eq.mpr c6
       have ca:=bne_eq_false_iff_eq.mpr c6
       clear c6
       obtain⟨L,A7,H⟩:=ob H
       by_cases c8:L<0
       ·rw[if_pos c8]at H
        have cc:decide (L<0)=true:=decide_eq_true c8
        clear c8
        obtain rfl:=Option.some.inj H;clear H
        have p:0≤(a:Int):=od
        have q:a<(l0.length:Int):=od
        obtain⟨s,E,G,M,O,ac,al,am,i,j,b,c,d,g⟩:=fT K.out a p q
        cases ac
        have an:=Aside0.mk c
        have ao:=Aside0.mk b
        clear c b
        have ap:=Aside0.mk g
        have aq:=Aside0.mk d
        clear g d
        replace p:=eq_true p
        replace q:=eq_true q
        have t:0≤(a:Int):=od
        have u:a<(l0.length:Int):=od
        obtain⟨ad,a6,a7,a8,a9,ar,aF,aL,A,B,l,m,n,o⟩:=fT K.out a t u
        obtain rfl:s=ad:=(by injection ar)
        have aO:=Aside0.mk m
        have aP:=Aside0.mk l
        clear m l
        have aR:=Aside0.mk o
        have aS:=Aside0.mk n
        clear o n
        replace t:=eq_true t
        replace u:=eq_true u
        have ea_:=Option.some.inj (i.symm.trans A)
        injection ea_ with ea_ en_ ec_
        subst ea_
        subst ec_
        clear en_
        have ea_:=Option.some.inj (j.symm.trans B)
        injection ea_ with ea_ en_ ec_
        subst ea_
        subst ec_
        clear en_
        have I:0≤(a:Int):=od
        have J:a<(l0.length:Int):=od
        obtain⟨aE,bj,bk,bm,bo,ba,bb,bc,P,T,v,x,y,z⟩:=fT K.out a I J
        obtain rfl:s=aE:=(by injection ba)
        have U:=Aside0.mk x
        have W:=Aside0.mk v
        clear x v
        have bd:=Aside0.mk z
        have be:=Aside0.mk y
        clear z y
        replace I:=eq_true I
        replace J:=eq_true J
        have ea_:=Option.some.inj (i.symm.trans P)
        injection ea_ with ea_ en_ ec_
        subst ea_
        subst ec_
        clear en_
        have ea_:=Option.some.inj (j.symm.trans T)
        injection ea_ with ea_ en_ ec_
        subst ea_
        subst ec_
        clear en_
        go_wp2_with (first|((with_reducible refine gc 92 rfl ?_);refine gl (some 36) Tryz.func92 #[.slice E ((bn l0 a).f2).length G, .int .i64 (wrap64 ((wrap64 (D+1))+1))] rfl ?_;(with_reducible refine(dD.calls k1 _ _ ((bn l0 a).f2) (wrap64 ((wrap64 (D+1))+1)) L _ ?s1 ?s2 A7.out).mono ?_);(case s1=>repeat(first|exact U.out|(with_reducible refine Kd.C_alloc ?_ _)|(with_reducible refine Kd.C_drewN ?_ _)|(with_reducible refine Kd.C_drew ?_)));(case s2=>exact W.out);rintro e w' ⟨rfl,⟨nd,rfl⟩⟩;refine⟨_,rfl, ?_⟩))
        go_ret
        exact⟨by first|rfl|(simp;done)|(simp[*];done),by repeat(first|exact Drawn0.refl _|apply Drawn0.step)⟩
       ·rw[if_neg c8]at H
        have cc:decide (L<0)=false:=decide_eq_false c8
        clear c8
        obtain⟨a0,A9,H⟩:=ob H
        by_cases c10:a0<0
        ·rw[if_pos c10]at H
         have b4:decide (a0<0)=true:=decide_eq_true c10
         clear c10
         obtain rfl:=Option.some.inj H;clear H
         have p:0≤(a:Int):=od
         have q:a<(l0.length:Int):=od
         obtain⟨s,E,G,M,O,ac,al,am,i,j,b,c,d,g⟩:=fT K.out a p q
         cases ac
         have an:=Aside0.mk c
         have ao:=Aside0.mk b
         clear c b
         have ap:=Aside0.mk g
         have aq:=Aside0.mk d
         clear g d
         replace p:=eq_true p
         replace q:=eq_true q
         have t:0≤(a:Int):=od
         have u:a<(l0.length:Int):=od
         obtain⟨ad,a6,a7,a8,a9,ar,aF,aL,A,B,l,m,n,o⟩:=fT K.out a t u
         obtain rfl:s=ad:=(by injection ar)
         have aO:=Aside0.mk m
         have aP:=Aside0.mk l
         clear m l
         have aR:=Aside0.mk o
         have aS:=Aside0.mk n
         clear o n
         replace t:=eq_true t
         replace u:=eq_true u
         have ea_:=Option.some.inj (i.symm.trans A)
         injection ea_ with ea_ en_ ec_
         subst ea_
         subst ec_
         clear en_
         have ea_:=Option.some.inj (j.symm.trans B)
         injection ea_ with ea_ en_ ec_
         subst ea_
         subst ec_
         clear en_
         have I:0≤(a:Int):=od
         have J:a<(l0.length:Int):=od
         obtain⟨aE,bj,bk,bm,bo,ba,bb,bc,P,T,v,x,y,z⟩:=fT K.out a I J
         obtain rfl:s=aE:=(by injection ba)
         have U:=Aside0.mk x
         have W:=Aside0.mk v
         clear x v
         have bd:=Aside0.mk z
         have be:=Aside0.mk y
         clear z y
         replace I:=eq_true I
         replace J:=eq_true J
         have ea_:=Option.some.inj (i.symm.trans P)
         injection ea_ with ea_ en_ ec_
         subst ea_
         subst ec_
         clear en_
         have ea_:=Option.some.inj (j.symm.trans T)
         injection ea_ with ea_ en_ ec_
         subst ea_
         subst ec_
         clear en_
         go_wp2_with (first|((with_reducible refine gc 92 rfl ?_);refine gl (some 36) Tryz.func92 #[.slice E ((bn l0 a).f2).length G, .int .i64 (wrap64 ((wrap64 (D+1))+1))] rfl ?_;(with_reducible refine(dD.calls k1 _ _ ((bn l0 a).f2) (wrap64 ((wrap64 (D+1))+1)) L _ ?s1 ?s2 A7.out).mono ?_);(case s1=>repeat(first|exact U.out|(with_reducible refine Kd.C_alloc ?_ _)|(with_reducible refine Kd.C_drewN ?_ _)|(with_reducible refine Kd.C_drew ?_)));(case s2=>exact W.out);rintro e w' ⟨rfl,⟨nd,rfl⟩⟩;refine⟨_,rfl, ?_⟩;have aw:0≤(a:Int):=od;have aB:a<(l0.length:Int):=od;obtain⟨bh,b0,b1,b2,b3,bp,br,bs,a2,a3,X,Y,Z,ab⟩:=fT K.out a aw aB;obtain rfl:s=bh:=(by injection bp);have bt:=Aside0.mk Y;have bw:=Aside0.mk X;clear Y X;have a4:=Aside0.mk ab;have a5:=Aside0.mk Z;clear ab Z;replace aw:=eq_true aw;replace aB:=eq_true aB;have ea_:=Option.some.inj (i.symm.trans a2);injection ea_ with ea_ en_ ec_;subst ea_;subst ec_;clear en_;have ea_:=Option.some.inj (j.symm.trans a3);injection ea_ with ea_ en_ ec_;subst ea_;subst ec_;clear en_)|((with_reducible refine gc 92 rfl ?_);refine gl (some 45) Tryz.func92 #[.slice M ((bn l0 a).f3).length O, .int .i64 L] rfl ?_;(with_reducible refine(dD.calls k1 _ _ ((bn l0 a).f3) L a0 _ ?s1 ?s2 A9.out).mono ?_);(case s1=>repeat(first|exact a4.out|(with_reducible refine Kd.C_alloc ?_ _)|(with_reducible refine Kd.C_drewN ?_ _)|(with_reducible refine Kd.C_drew ?_)));(case s2=>exact a5.out);rintro e w' ⟨rfl,⟨nd,rfl⟩⟩;refine⟨_,rfl, ?_⟩))
         go_ret
         exact⟨by first|rfl|(simp;done)|(simp[*];done),by repeat(first|exact Drawn0.refl _|apply Drawn0.step)⟩
        ·rw[if_neg c10]at H
         have b4:decide (a0<0)=false:=decide_eq_false c10
         clear c10
         have H' :=Aside0.mk H
         clear H
         have p:0≤(a:Int):=od
         have q:a<(l0.length:Int):=od
         obtain⟨s,E,G,M,O,ac,al,am,i,j,b,c,d,g⟩:=fT K.out a p q
         cases ac
         have an:=Aside0.mk c
         have ao:=Aside0.mk b
         clear c b
         have ap:=Aside0.mk g
         have aq:=Aside0.mk d
         clear g d
         replace p:=eq_true p
         replace q:=eq_true q
         have t:0≤(a:Int):=od
         have u:a<(l0.length:Int):=od
         obtain⟨ad,a6,a7,a8,a9,ar,aF,aL,A,B,l,m,n,o⟩:=fT K.out a t u
         obtain rfl:s=ad:=(by injection ar)
         have aO:=Aside0.mk m
         have aP:=Aside0.mk l
         clear m l
         have aR:=Aside0.mk o
         have aS:=Aside0.mk n
         clear o n
         replace t:=eq_true t
         replace u:=eq_true u
         have ea_:=Option.some.inj (i.symm.trans A)
         injection ea_ with ea_ en_ ec_
         subst ea_
         subst ec_
         clear en_
         have ea_:=Option.some.inj (j.symm.trans B)
         injection ea_ with ea_ en_ ec_
         subst ea_
         subst ec_
         clear en_
         have I:0≤(a:Int):=od
         have J:a<(l0.length:Int):=od
         obtain⟨aE,bj,bk,bm,bo,ba,bb,bc,P,T,v,x,y,z⟩:=fT K.out a I J
         obtain rfl:s=aE:=(by injection ba)
         have U:=Aside0.mk x
         have W:=Aside0.mk v
         clear x v
         have bd:=Aside0.mk z
         have be:=Aside0.mk y
         clear z y
         replace I:=eq_true I
         replace J:=eq_true J
         have ea_:=Option.some.inj (i.symm.trans P)
         injection ea_ with ea_ en_ ec_
         subst ea_
         subst ec_
         clear en_
         have ea_:=Option.some.inj (j.symm.trans T)
         injection ea_ with ea_ en_ ec_
         subst ea_
         subst ec_
         clear en_
         go_wp2_with (first|((with_reducible refine gc 92 rfl ?_);refine gl (some 36) Tryz.func92 #[.slice E ((bn l0 a).f2).length G, .int .i64 (wrap64 ((wrap64 (D+1))+1))] rfl ?_;(with_reducible refine(dD.calls k1 _ _ ((bn l0 a).f2) (wrap64 ((wrap64 (D+1))+1)) L _ ?s1 ?s2 A7.out).mono ?_);(case s1=>repeat(first|exact U.out|(with_reducible refine Kd.C_alloc ?_ _)|(with_reducible refine Kd.C_drewN ?_ _)|(with_reducible refine Kd.C_drew ?_)));(case s2=>exact W.out);rintro e w' ⟨rfl,⟨nd,rfl⟩⟩;refine⟨_,rfl, ?_⟩;have aw:0≤(a:Int):=od;have aB:a<(l0.length:Int):=od;obtain⟨bh,b0,b1,b2,b3,bp,br,bs,a2,a3,X,Y,Z,ab⟩:=fT K.out a aw aB;obtain rfl:s=bh:=(by injection bp);have bt:=Aside0.mk Y;have bw:=Aside0.mk X;clear Y X;have a4:=Aside0.mk ab;have a5:=Aside0.mk Z;clear ab Z;replace aw:=eq_true aw;replace aB:=eq_true aB;have ea_:=Option.some.inj (i.symm.trans a2);injection ea_ with ea_ en_ ec_;subst ea_;subst ec_;clear en_;have ea_:=Option.some.inj (j.symm.trans a3);injection ea_ with ea_ en_ ec_;subst ea_;subst ec_;clear en_)|((with_reducible refine gc 92 rfl ?_);refine gl (some 45) Tryz.func92 #[.slice M ((bn l0 a).f3).length O, .int .i64 L] rfl ?_;(with_reducible refine(dD.calls k1 _ _ ((bn l0 a).f3) L a0 _ ?s1 ?s2 A9.out).mono ?_);(case s1=>repeat(first|exact a4.out|(with_reducible refine Kd.C_alloc ?_ _)|(with_reducible refine Kd.C_drewN ?_ _)|(with_reducible refine Kd.C_drew ?_)));(case s2=>exact a5.out);rintro e w' ⟨rfl,⟨nd,rfl⟩⟩;refine⟨_,rfl, ?_⟩))
         go_roundg k1
         case measure=>have:=b5.out;omega
         case rel=>exact⟨(a0),(wrap64 (a+1)),(by first|rfl|(simp;done)|(simp[*];done)),(by first|rfl|(simp;done)|(simp[*];done)),H',⟨by have:=b5.out;omega⟩,by repeat(first|exact Drawn0.refl _|apply Drawn0.step)⟩
      ·rw[if_neg c6]at H
       have b9:=beq_eq_false_iff_ne.mpr c6
       have ca:=bne_iff_ne.mpr c6
       obtain rfl:=Option.some.inj H;clear H
       have p:0≤(a:Int):=od
       have q:a<(l0.length:Int):=od
       obtain⟨s,E,G,M,O,ac,al,am,i,j,b,c,d,g⟩:=fT K.out a p q
       cases ac
       have an:=Aside0.mk c
       have ao:=Aside0.mk b
       clear c b
       have ap:=Aside0.mk g
       have aq:=Aside0.mk d
       clear g d
       replace p:=eq_true p
       replace q:=eq_true q
       have t:0≤(a:Int):=od
       have u:a<(l0.length:Int):=od
       obtain⟨ad,a6,a7,a8,a9,ar,aF,aL,A,B,l,m,n,o⟩:=fT K.out a t u
       obtain rfl:s=ad:=(by injection ar)
       have aO:=Aside0.mk m
       have aP:=Aside0.mk l
       clear m l
       have aR:=Aside0.mk o
       have aS:=Aside0.mk n
       clear o n
       replace t:=eq_true t
       replace u:=eq_true u
       have ea_:=Option.some.inj (i.symm.trans A)
       injection ea_ with ea_ en_ ec_
       subst ea_
       subst ec_
       clear en_
       have ea_:=Option.some.inj (j.symm.trans B)
       injection ea_ with ea_ en_ ec_
       subst ea_
       subst ec_
       clear en_
       go_wp2
       go_ret
       exact⟨by first|rfl|(simp;done)|(simp[*];done),by repeat(first|exact Drawn0.refl _|apply Drawn0.step)⟩
     ·rw[if_neg c5]at H
      have b7:=beq_eq_false_iff_ne.mpr c5
      have b8:=bne_iff_ne.mpr c5
      obtain rfl:=Option.some.inj H;clear H
      have p:0≤(a:Int):=od
      have q:a<(l0.length:Int):=od
      obtain⟨s,E,G,M,O,ac,al,am,i,j,b,c,d,g⟩:=fT K.out a p q
      cases ac
      have an:=Aside0.mk c
      have ao:=Aside0.mk b
      clear c b
      have ap:=Aside0.mk g
      have aq:=Aside0.mk d
      clear g d
      replace p:=eq_true p
      replace q:=eq_true q
      go_wp2
      go_ret
      exact⟨by first|rfl|(simp;done)|(simp[*];done),by repeat(first|exact Drawn0.refl _|apply Drawn0.step)⟩
    ·rw[if_neg c4]at H
     exact absurd H (by simp)
   ·rw[if_neg c3]at H
    have b6:decide (a<(l0.length:Int))=false:=decide_eq_false c3
    clear c3
    obtain rfl:=Option.some.inj H;clear H
    go_wp2
    go_ret
    exact⟨by first|rfl|(simp;done)|(simp[*];done),by repeat(first|exact Drawn0.refl _|apply Drawn0.step)⟩
set_option maxHeartbeats 8000000 in
set_option maxRecDepth 100000 in
theorem eO.calls (k:Nat) (A0:Option Addr) (c0:Nat) (l0:List Int) (a1:Int) (r:Int) (w:World) (hr0:Kd.C (Kd.int .i64) w A0 l0.length l0) (hc0:l0.length≤c0) (h:eO.f k l0 a1=some r):
  Calls Tryz.prog 48 #[.slice A0 l0.length c0, .int .i64 a1] w fun e w' =>e= .returned (.int .i64 r)∧Drawn0 w w' :=by
 have l:=Aside0.mk hr0
 have s:=Aside0.mk hc0
 clear hr0 hc0
 have H:(eO.l0 k l0 a1 0)=some r:=h
 clear h
 have H' :=Aside0.mk H
 clear H
 go_enter Tryz.func48,Tryz.ntmps48
 go_wp2
 go_loopg [1,5] k (fun kq v1 v5 w' => ∃(d:Int) (a:Int),v1= .int .i64 d∧v5= .int .i64 a∧Aside0 (eO.l0 kq l0 d a=some r)∧Aside0 (kq≤k)∧Drawn0 w w')
 case atStart=>exact⟨(a1),(0),(by first|rfl|(simp;done)|(simp[*];done)),(by first|rfl|(simp;done)|(simp[*];done)),H',⟨Nat.le_refl _⟩,by repeat(first|exact Drawn0.refl _|apply Drawn0.step)⟩
 case round=>
  clear H'
  obtain⟨d,a,rfl,rfl,HA,m,⟨m1,rfl⟩⟩:=hrel
  cases gk with
  |zero=>exact absurd HA.out (by simp[eO.l0])
  | succ k1=>
   have H:=HA.out
   clear HA
   simp only[eO.l0]at H
   by_cases c3:a<(l0.length:Int)
   ·rw[if_pos c3]at H
    have n:decide (a<(l0.length:Int))=true:=decide_eq_true c3
    clear c3
    by_cases c4:0≤a
    ·rw[if_pos c4]at H
     have q:decide (0≤a)=true:=decide_eq_true c4
     clear c4
     by_cases c5:(rd l0 a)=d
     ·rw[if_pos c5]at H
      have o:=beq_iff_eq.mpr c5
      have p:=bne_eq_false_iff_eq.mpr c5
      clear c5
      have H' :=Aside0.mk H
      clear H
      have b:0≤(a:Int):=od
      have c:a<(l0.length:Int):=od
      obtain⟨j,g,i⟩:=Kd.at_int l.out a b c
      cases g
      replace b:=eq_true b
      replace c:=eq_true c
      go_wp2
      go_roundg k1
      case measure=>have:=m.out;omega
      case rel=>exact⟨(wrap64 (d+1)),(wrap64 (a+1)),(by first|rfl|(simp;done)|(simp[*];done)),(by first|rfl|(simp;done)|(simp[*];done)),H',⟨by have:=m.out;omega⟩,by repeat(first|exact Drawn0.refl _|apply Drawn0.step)⟩
     ·rw[if_neg c5]at H
      have o:=beq_eq_false_iff_ne.mpr c5
      have p:=bne_iff_ne.mpr c5
      obtain rfl:=Option.some.inj H;clear H
      have b:0≤(a:Int):=od
      have c:a<(l0.length:Int):=od
      obtain⟨j,g,i⟩:=Kd.at_int l.out a b c
      cases g
      replace b:=eq_true b
      replace c:=eq_true c
      go_wp2
      go_ret
      exact⟨by first|rfl|(simp;done)|(simp[*];done),by repeat(first|exact Drawn0.refl _|apply Drawn0.step)⟩
    ·rw[if_neg c4]at H
     exact absurd H (by simp)
   ·rw[if_neg c3]at H
    have n:decide (a<(l0.length:Int))=false:=decide_eq_false c3
    clear c3
    obtain rfl:=Option.some.inj H;clear H
    go_wp2
    go_ret
    exact⟨by first|rfl|(simp;done)|(simp[*];done),by repeat(first|exact Drawn0.refl _|apply Drawn0.step)⟩
end Go.Proofs.YteinbmkgenhocaaGreat.P
end
