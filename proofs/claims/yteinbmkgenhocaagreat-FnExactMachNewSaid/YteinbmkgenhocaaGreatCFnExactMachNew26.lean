/- A part of the claim FnExactMachNew. -/
import Derived.Test.YteinbmkgenhocaaGreatCFnExactMachNew25
section
namespace Go.Proofs.YteinbmkgenhocaaGreat.P
open Go.RowKit Go.Proofs.YteinbmkgenhocaaGreatW.PrintWords Go.Proofs.YteinbmkgenhocaaGreatW.PrintLast Go.Proofs.YteinbmkgenhocaaGreatW.PrintMore
attribute [local go_sem] ak au az aA ai aj av ax
set_option linter.unusedVariables false
set_option linter.unusedSimpArgs false
set_option maxHeartbeats 8000000 in
set_option maxRecDepth 100000 in
theorem iy.calls (k:Nat) (q:Int) (s:Int) (m:Option Addr) (n:Nat) (c:List (S31)) (t:Option Addr) (u:Nat) (g:List (S31)) (v:Int) (x:Int) (o:Option Addr) (p:Nat) (d:List (S31)) (y:Option Addr) (z:Nat) (i:List (S31)) (r:Bool) (w:World) (J:Kd.C k31 w m c.length c) (K:c.length≤n) (L:Kd.C k31 w t g.length g) (M:g.length≤u) (O:Kd.C k31 w o d.length d) (P:d.length≤p) (T:Kd.C k31 w y i.length i) (U:i.length≤z) (h:iy.f k q s c g v x d i=some r):
  Calls Tryz.prog 85 #[.agg #[.int .i64 q, .int .i64 s, .slice m c.length n, .slice t g.length u], .agg #[.int .i64 v, .int .i64 x, .slice o d.length p, .slice y i.length z]] w fun e w' =>e= .returned (.bool r)∧Below w.heap.size w w' :=by
 have aL:=Tryz.underlying70
 have A:=Aside0.mk J
 have B:=Aside0.mk K
 clear J K
 have W:=Aside0.mk L
 have X:=Aside0.mk M
 clear L M
 have D:=Aside0.mk O
 have E:=Aside0.mk P
 clear O P
 have Y:=Aside0.mk T
 have Z:=Aside0.mk U
 clear T U
 have HB:=Aside0.mk (Below.refl w.heap.size w)
 have H:(if q=v then(if s=x then((bH.f k c d).bind fun G=>(if G=true then((bH.f k g i).bind fun I=>(if I=true then(some true)else(some false)))else(some false)))else(some false))else(some false))=some r:=h
 clear h
 by_cases c3:q=v
 ·rw [if_pos c3]at H
  have am:=beq_iff_eq.mpr c3
  have an:=bne_eq_false_iff_eq.mpr c3
  clear c3
  by_cases c4:s=x
  ·rw[if_pos c4]at H
   have ao:=beq_iff_eq.mpr c4
   have ap:=bne_eq_false_iff_eq.mpr c4
   clear c4
   obtain⟨G,A5,H⟩:=ob H
   by_cases c6:G=true
   ·subst c6
    replace H:=it H
    obtain⟨I,A7,H⟩:=ob H
    by_cases c8:I=true
    ·subst c8
     replace H:=it H
     obtain rfl:=Option.some.inj H;clear H
     go_enter Tryz.func85,Tryz.ntmps85
     go_wp2_with (first|((with_reducible refine gd 2 rfl ?_);refine bx 2 #[.int .i64 q, .int .i64 s, .slice m c.length n, .slice t g.length u] 70 ?_;intro ab hg w9 hbox hb;have a:=Aside0.mk hbox;have ac:=hz HB hg;replace HB:=hs HB hb;clear hb hbox hg)|((with_reducible refine gd 3 rfl ?_);refine bx 3 #[.int .i64 v, .int .i64 x, .slice o d.length p, .slice y i.length z] 70 ?_;intro ad hg aO hbox hb;have b:=Aside0.mk hbox;have al:=hz HB hg;have j:=nl a hg;have l:=ng a hg;replace a:=kb a hb;replace HB:=hs HB hb;clear hb hbox hg;have aq:=j.out;have ar:=l.out;have:=cf4 a;have:=cf4 b)|(refine gl (some 19) Tryz.func151 #[.slice m c.length n, .slice o d.length p] rfl ?_;(with_reducible refine(bH.calls k _ _ c _ _ d true _ (cb A.out) B.out (cb D.out) E.out A5.out).mono ?_);rintro e aP ⟨rfl,hb⟩;refine⟨_,rfl, ?_⟩;replace a:=kb a hb;replace b:=kb b hb;replace HB:=hs HB hb;have:=cf4 a;have:=cf4 b)|(refine gl (some 25) Tryz.func151 #[.slice t g.length u, .slice y i.length z] rfl ?_;(with_reducible refine(bH.calls k _ _ g _ _ i true _ (cb W.out) X.out (cb Y.out) Z.out A7.out).mono ?_);rintro e aR ⟨rfl,hb⟩;refine⟨_,rfl, ?_⟩;replace a:=kb a hb;replace b:=kb b hb;replace HB:=hs HB hb))
     go_ret
     exact fin
    replace c8:=Bool.eq_false_iff.mpr c8
    subst c8
    replace H:=ie H
    obtain rfl:=Option.some.inj H;clear H
    go_enter Tryz.func85,Tryz.ntmps85
    go_wp2_with (first|((with_reducible refine gd 2 rfl ?_);refine bx 2 #[.int .i64 q, .int .i64 s, .slice m c.length n, .slice t g.length u] 70 ?_;intro ab hg aS hbox hb;have a:=Aside0.mk hbox;have ac:=hz HB hg;replace HB:=hs HB hb;clear hb hbox hg)|((with_reducible refine gd 3 rfl ?_);refine bx 3 #[.int .i64 v, .int .i64 x, .slice o d.length p, .slice y i.length z] 70 ?_;intro ad hg a0 hbox hb;have b:=Aside0.mk hbox;have al:=hz HB hg;have j:=nl a hg;have l:=ng a hg;replace a:=kb a hb;replace HB:=hs HB hb;clear hb hbox hg;have aw:=j.out;have aB:=l.out;have:=cf4 a;have:=cf4 b)|(refine gl (some 19) Tryz.func151 #[.slice m c.length n, .slice o d.length p] rfl ?_;(with_reducible refine(bH.calls k _ _ c _ _ d true _ (cb A.out) B.out (cb D.out) E.out A5.out).mono ?_);rintro e a1 ⟨rfl,hb⟩;refine⟨_,rfl, ?_⟩;replace a:=kb a hb;replace b:=kb b hb;replace HB:=hs HB hb;have:=cf4 a;have:=cf4 b)|(refine gl (some 25) Tryz.func151 #[.slice t g.length u, .slice y i.length z] rfl ?_;(with_reducible refine(bH.calls k _ _ g _ _ i false _ (cb W.out) X.out (cb Y.out) Z.out A7.out).mono ?_);rintro e a2 ⟨rfl,hb⟩;refine⟨_,rfl, ?_⟩;replace a:=kb a hb;replace b:=kb b hb;replace HB:=hs HB hb))
    go_ret
    exact fin
   replace c6:=Bool.eq_false_iff.mpr c6
   subst c6
   replace H:=ie H
   obtain rfl:=Option.some.inj H;clear H
   go_enter Tryz.func85,Tryz.ntmps85
   go_wp2_with (first|((with_reducible refine gd 2 rfl ?_);refine bx 2 #[.int .i64 q, .int .i64 s, .slice m c.length n, .slice t g.length u] 70 ?_;intro ab hg a3 hbox hb;have a:=Aside0.mk hbox;have ac:=hz HB hg;replace HB:=hs HB hb;clear hb hbox hg)|((with_reducible refine gd 3 rfl ?_);refine bx 3 #[.int .i64 v, .int .i64 x, .slice o d.length p, .slice y i.length z] 70 ?_;intro ad hg a4 hbox hb;have b:=Aside0.mk hbox;have al:=hz HB hg;have j:=nl a hg;have l:=ng a hg;replace a:=kb a hb;replace HB:=hs HB hb;clear hb hbox hg;have aE:=j.out;have aF:=l.out;have:=cf4 a;have:=cf4 b)|(refine gl (some 19) Tryz.func151 #[.slice m c.length n, .slice o d.length p] rfl ?_;(with_reducible refine(bH.calls k _ _ c _ _ d false _ (cb A.out) B.out (cb D.out) E.out A5.out).mono ?_);rintro e w32 ⟨rfl,hb⟩;refine⟨_,rfl, ?_⟩;replace a:=kb a hb;replace b:=kb b hb;replace HB:=hs HB hb))
   go_ret
   exact fin
  rw[if_neg c4]at H
  have ao:=beq_eq_false_iff_ne.mpr c4
  have ap:=bne_iff_ne.mpr c4
  obtain rfl:=Option.some.inj H;clear H
  go_enter Tryz.func85,Tryz.ntmps85
  go_wp2
  go_ret
  exact fin
 rw[if_neg c3]at H
 have am:=beq_eq_false_iff_ne.mpr c3
 have an:=bne_iff_ne.mpr c3
 obtain rfl:=Option.some.inj H;clear H
 go_enter Tryz.func85,Tryz.ntmps85
 go_wp2
 go_ret
 exact fin
def bF.T6:Bool×List (List Nat×List Nat):=(true, [([], []),([], []),([0,1], [0,1]),([2], [2]),([], []),([], []),([4,5], [4,5]),([6], [6]),([3,7], [3,7]),([8], [8])])
def bF.B6:List Nat:= [0,0,3,7,0,0,48,112,255,511]
theorem bF.tab6:dJ .any (opsOf Tryz.f36 6)=bF.T6:=by kernel_rfl
theorem bF.bits6:dY bF.T6.2 bF.B6=true:=by kernel_rfl
set_option maxHeartbeats 8000000 in
set_option maxRecDepth 100000 in
theorem bF.calls (k:Nat) (A0:Option Addr) (c0:Nat) (l0:List (S70)) (A1:Option Addr) (c1:Nat) (l1:List (S70)) (r:Bool) (w:World) (hr0:Kd.C k70 w A0 l0.length l0) (hc0:l0.length≤c0) (hr1:Kd.C k70 w A1 l1.length l1) (hc1:l1.length≤c1) (h:bF.f k l0 l1=some r):
  Calls Tryz.prog 36 #[.slice A0 l0.length c0, .slice A1 l1.length c1] w fun e w' =>e= .returned (.bool r)∧Below w.heap.size w w' :=by
 have a2:=Tryz.underlying70
 have aL:=Aside0.mk hr0
 have a5:=Aside0.mk hc0
 clear hr0 hc0
 have HR1:=Aside0.mk hr1
 have a6:=Aside0.mk hc1
 clear hr1 hc1
 have HB:=Aside0.mk (Below.refl w.heap.size w)
 have H:(if(l0.length:Int)=(l1.length:Int)then(bF.l0 k l0 l1 0)else(some false))=some r:=h
 clear h
 by_cases c3:(l0.length:Int)=(l1.length:Int)
 ·rw [if_pos c3]at H
  have aP:=beq_iff_eq.mpr c3
  have aR:=bne_eq_false_iff_eq.mpr c3
  have aS:(l0.length==l1.length)=true:=by first|simpa using c3|(simp at c3⊢;omega)
  clear c3
  have H' :=Aside0.mk H
  clear H
  go_enter Tryz.func36,Tryz.ntmps36
  go_wp2
  go_loopg [5] k (fun kq v5 w' => ∃(a:Int),v5= .int .i64 a∧Aside0 (bF.l0 kq l0 l1 a=some r)∧Aside0 (kq≤k)∧Aside0 (Below w.heap.size w w'))
  case atStart=>exact⟨(0),(by first|rfl|(simp;done)|(simp[*];done)),H',⟨Nat.le_refl _⟩,⟨bl⟩⟩
  case round=>
   clear H'
   obtain⟨a,rfl,HA,aO,HB⟩:=hrel
   cases gk with
   |zero=>exact absurd HA.out (by simp[bF.l0])
   | succ k1=>
    have H:=HA.out
    clear HA
    simp only[bF.l0]at H
    by_cases c4:a<(l0.length:Int)
    ·rw [if_pos c4]at H
     have a0:decide (a<(l0.length:Int))=true:=decide_eq_true c4
     clear c4
     by_cases c5:0≤a
     ·rw[if_pos c5]at H
      have a3:decide (0≤a)=true:=decide_eq_true c5
      clear c5
      by_cases c6:a<(l1.length:Int)
      ·rw[if_pos c6]at H
       have a4:decide (a<(l1.length:Int))=true:=decide_eq_true c6
       clear c6
       obtain⟨a1,A7,H⟩:=ob H
       by_cases c8:a1=true
       ·subst c8
        replace H:=it H
        have H' :=Aside0.mk H
        clear H
        try go_wp2
        replace HB:=Aside0.mk (aC HB.out)
        have am:0≤(a:Int):=od
        have an:a<(l0.length:Int):=od
        obtain⟨b,W,X,Y,Z,aE,d,g,j,l,B,D,E,G⟩:=fT aL.out a am an
        have m:=l
        have o:=j
        have p:=g
        have q:=d
        cases aE
        obtain⟨d,g,j,l⟩:=hc4 HB d g j l
        have I:=Aside0.mk D
        have aq:=Aside0.mk B
        clear D B
        have J:=Aside0.mk G
        have ar:=Aside0.mk E
        clear G E
        replace am:=eq_true am
        replace an:=eq_true an
        have ao:0≤(a:Int):=od
        have ap:a<(l1.length:Int):=od
        obtain⟨c,ab,ac,ad,al,aF,s,t,u,v,L,M,O,P⟩:=fT HR1.out a ao ap
        have x:=v
        have y:=u
        have z:=t
        have A:=s
        cases aF
        obtain⟨s,t,u,v⟩:=hc4 HB s t u v
        have T:=Aside0.mk M
        have aw:=Aside0.mk L
        clear M L
        have U:=Aside0.mk P
        have aB:=Aside0.mk O
        clear P O
        replace ao:=eq_true ao
        replace ap:=eq_true ap
        refine dR (n:=10) (S:=fun w' =>w'.cell? (b.add ((a).toNat * 4))=some (.int .i64 ((bn l0 a).f0))∧w'.cell? ⟨(b.add ((a).toNat * 4)).block,(b.add ((a).toNat * 4)).off+1,none⟩=some (.int .i64 ((bn l0 a).f1))∧w'.cell? ⟨(b.add ((a).toNat * 4)).block,(b.add ((a).toNat * 4)).off+2,none⟩=some (.slice W ((bn l0 a).f2).length X)∧w'.cell? ⟨(b.add ((a).toNat * 4)).block,(b.add ((a).toNat * 4)).off+3,none⟩=some (.slice Y ((bn l0 a).f3).length Z)∧w'.cell? (c.add ((a).toNat * 4))=some (.int .i64 ((bn l1 a).f0))∧w'.cell? ⟨(c.add ((a).toNat * 4)).block,(c.add ((a).toNat * 4)).off+1,none⟩=some (.int .i64 ((bn l1 a).f1))∧w'.cell? ⟨(c.add ((a).toNat * 4)).block,(c.add ((a).toNat * 4)).off+2,none⟩=some (.slice ab ((bn l1 a).f2).length ac)∧w'.cell? ⟨(c.add ((a).toNat * 4)).block,(c.add ((a).toNat * 4)).off+3,none⟩=some (.slice ad ((bn l1 a).f3).length al)) (ds:= []) (upto 10 0) (by kernel_rfl) rfl rfl ⟨((HB.out.cell (World.block_lt_of_cell? w _ q)).trans q),((HB.out.cell (World.block_lt_of_cell? w _ p)).trans p),((HB.out.cell (World.block_lt_of_cell? w _ o)).trans o),((HB.out.cell (World.block_lt_of_cell? w _ m)).trans m),((HB.out.cell (World.block_lt_of_cell? w _ A)).trans A),((HB.out.cell (World.block_lt_of_cell? w _ z)).trans z),((HB.out.cell (World.block_lt_of_cell? w _ y)).trans y),((HB.out.cell (World.block_lt_of_cell? w _ x)).trans x)⟩ (fun hHeld=> ?_);refine cO bF.tab6 bF.bits6 (fun HT_ HW_=> ?_)
        generalize wr.drew=w9 at HB I J T U d g j l s t u v hHeld⊢
        repeat(first|refine vN ?_|refine pN ?_|refine tN ?_)
        refine fo (i:=8) (N:=some 25) (upto 10 9) rfl rfl (d9 HT_.out (by kernel_rfl)) (by decide) (fun K hK=> ?_)
        refine gs Tryz.func85 #[.agg #[.int .i64 ((bn l0 a).f0), .int .i64 ((bn l0 a).f1), .slice W ((bn l0 a).f2).length X, .slice Y ((bn l0 a).f3).length Z], .agg #[.int .i64 ((bn l1 a).f0), .int .i64 ((bn l1 a).f1), .slice ab ((bn l1 a).f2).length ac, .slice ad ((bn l1 a).f3).length al]] rfl rfl ?_
        with_reducible refine(iy.calls k1 ((bn l0 a).f0) ((bn l0 a).f1) _ _ ((bn l0 a).f2) _ _ ((bn l0 a).f3) ((bn l1 a).f0) ((bn l1 a).f1) _ _ ((bn l1 a).f2) _ _ ((bn l1 a).f3) true _ (cb I.out) aq.out (cb J.out) ar.out (cb T.out) aw.out (cb U.out) aB.out A7.out).mono ?_
        rintro e a7 ⟨rfl,hb⟩
        refine⟨_,rfl, ?_⟩
        replace HB:=hs HB hb
        refine hK.out _ _ ⟨((HB.out.cell (World.block_lt_of_cell? w _ q)).trans q),((HB.out.cell (World.block_lt_of_cell? w _ p)).trans p),((HB.out.cell (World.block_lt_of_cell? w _ o)).trans o),((HB.out.cell (World.block_lt_of_cell? w _ m)).trans m),((HB.out.cell (World.block_lt_of_cell? w _ A)).trans A),((HB.out.cell (World.block_lt_of_cell? w _ z)).trans z),((HB.out.cell (World.block_lt_of_cell? w _ y)).trans y),((HB.out.cell (World.block_lt_of_cell? w _ x)).trans x)⟩ (fun hHeld=> ?_)
        clear hK K
        refine no 25 ?_
        repeat(first|refine vN ?_|refine pN ?_|refine tN ?_)
        refine eQ (dN HT_.out (by kernel_rfl)) ?_
        try go_wp2
        go_roundg k1
        case measure=>have:=aO.out;omega
        case rel=>exact⟨(wrap64 (a+1)),(by first|rfl|(simp;done)|(simp[*];done)),H',⟨by have:=aO.out;omega⟩,⟨bl⟩⟩
       replace c8:=Bool.eq_false_iff.mpr c8
       subst c8
       replace H:=ie H
       obtain rfl:=Option.some.inj H;clear H
       try go_wp2
       replace HB:=Aside0.mk (aC HB.out)
       have am:0≤(a:Int):=od
       have an:a<(l0.length:Int):=od
       obtain⟨b,W,X,Y,Z,aE,d,g,j,l,B,D,E,G⟩:=fT aL.out a am an
       have m:=l
       have o:=j
       have p:=g
       have q:=d
       cases aE
       obtain⟨d,g,j,l⟩:=hc4 HB d g j l
       have I:=Aside0.mk D
       have aq:=Aside0.mk B
       clear D B
       have J:=Aside0.mk G
       have ar:=Aside0.mk E
       clear G E
       replace am:=eq_true am
       replace an:=eq_true an
       have ao:0≤(a:Int):=od
       have ap:a<(l1.length:Int):=od
       obtain⟨c,ab,ac,ad,al,aF,s,t,u,v,L,M,O,P⟩:=fT HR1.out a ao ap
       have x:=v
       have y:=u
       have z:=t
       have A:=s
       cases aF
       obtain⟨s,t,u,v⟩:=hc4 HB s t u v
       have T:=Aside0.mk M
       have aw:=Aside0.mk L
       clear M L
       have U:=Aside0.mk P
       have aB:=Aside0.mk O
       clear P O
       replace ao:=eq_true ao
       replace ap:=eq_true ap
       refine dR (n:=10) (S:=fun w' =>w'.cell? (b.add ((a).toNat * 4))=some (.int .i64 ((bn l0 a).f0))∧w'.cell? ⟨(b.add ((a).toNat * 4)).block,(b.add ((a).toNat * 4)).off+1,none⟩=some (.int .i64 ((bn l0 a).f1))∧w'.cell? ⟨(b.add ((a).toNat * 4)).block,(b.add ((a).toNat * 4)).off+2,none⟩=some (.slice W ((bn l0 a).f2).length X)∧w'.cell? ⟨(b.add ((a).toNat * 4)).block,(b.add ((a).toNat * 4)).off+3,none⟩=some (.slice Y ((bn l0 a).f3).length Z)∧w'.cell? (c.add ((a).toNat * 4))=some (.int .i64 ((bn l1 a).f0))∧w'.cell? ⟨(c.add ((a).toNat * 4)).block,(c.add ((a).toNat * 4)).off+1,none⟩=some (.int .i64 ((bn l1 a).f1))∧w'.cell? ⟨(c.add ((a).toNat * 4)).block,(c.add ((a).toNat * 4)).off+2,none⟩=some (.slice ab ((bn l1 a).f2).length ac)∧w'.cell? ⟨(c.add ((a).toNat * 4)).block,(c.add ((a).toNat * 4)).off+3,none⟩=some (.slice ad ((bn l1 a).f3).length al)) (ds:= []) (upto 10 0) (by kernel_rfl) rfl rfl ⟨((HB.out.cell (World.block_lt_of_cell? w _ q)).trans q),((HB.out.cell (World.block_lt_of_cell? w _ p)).trans p),((HB.out.cell (World.block_lt_of_cell? w _ o)).trans o),((HB.out.cell (World.block_lt_of_cell? w _ m)).trans m),((HB.out.cell (World.block_lt_of_cell? w _ A)).trans A),((HB.out.cell (World.block_lt_of_cell? w _ z)).trans z),((HB.out.cell (World.block_lt_of_cell? w _ y)).trans y),((HB.out.cell (World.block_lt_of_cell? w _ x)).trans x)⟩ (fun hHeld=> ?_);refine cO bF.tab6 bF.bits6 (fun HT_ HW_=> ?_)
       generalize wr.drew=a8 at HB I J T U d g j l s t u v hHeld⊢
       repeat(first|refine vN ?_|refine pN ?_|refine tN ?_)
       refine fo (i:=8) (N:=some 25) (upto 10 9) rfl rfl (d9 HT_.out (by kernel_rfl)) (by decide) (fun K hK=> ?_)
       refine gs Tryz.func85 #[.agg #[.int .i64 ((bn l0 a).f0), .int .i64 ((bn l0 a).f1), .slice W ((bn l0 a).f2).length X, .slice Y ((bn l0 a).f3).length Z], .agg #[.int .i64 ((bn l1 a).f0), .int .i64 ((bn l1 a).f1), .slice ab ((bn l1 a).f2).length ac, .slice ad ((bn l1 a).f3).length al]] rfl rfl ?_
       with_reducible refine(iy.calls k1 ((bn l0 a).f0) ((bn l0 a).f1) _ _ ((bn l0 a).f2) _ _ ((bn l0 a).f3) ((bn l1 a).f0) ((bn l1 a).f1) _ _ ((bn l1 a).f2) _ _ ((bn l1 a).f3) false _ (cb I.out) aq.out (cb J.out) ar.out (cb T.out) aw.out (cb U.out) aB.out A7.out).mono ?_
       rintro e a9 ⟨rfl,hb⟩
       refine⟨_,rfl, ?_⟩
       replace HB:=hs HB hb
       refine hK.out _ _ ⟨((HB.out.cell (World.block_lt_of_cell? w _ q)).trans q),((HB.out.cell (World.block_lt_of_cell? w _ p)).trans p),((HB.out.cell (World.block_lt_of_cell? w _ o)).trans o),((HB.out.cell (World.block_lt_of_cell? w _ m)).trans m),((HB.out.cell (World.block_lt_of_cell? w _ A)).trans A),((HB.out.cell (World.block_lt_of_cell? w _ z)).trans z),((HB.out.cell (World.block_lt_of_cell? w _ y)).trans y),((HB.out.cell (World.block_lt_of_cell? w _ x)).trans x)⟩ (fun hHeld=> ?_)
       clear hK K
       refine no 25 ?_
       repeat(first|refine vN ?_|refine pN ?_|refine tN ?_)
       refine eQ (dN HT_.out (by kernel_rfl)) ?_
       try go_wp2
       go_ret
       exact fin
      rw[if_neg c6]at H
      exact absurd H (by simp)
     rw[if_neg c5]at H
     exact absurd H (by simp)
    rw[if_neg c4]at H
    have a0:decide (a<(l0.length:Int))=false:=decide_eq_false c4
    clear c4
    obtain rfl:=Option.some.inj H;clear H
    go_wp2
    go_ret
    exact fin
 rw[if_neg c3]at H
 have aP:=beq_eq_false_iff_ne.mpr c3
 have aR:=bne_iff_ne.mpr c3
 have aS:(l0.length==l1.length)=false:=by first|simpa using c3|(simp at c3⊢;omega)
 obtain rfl:=Option.some.inj H;clear H
 go_enter Tryz.func36,Tryz.ntmps36
 go_wp2
 go_ret
 exact fin
set_option maxHeartbeats 8000000 in
set_option maxRecDepth 100000 in
theorem bq.calls (k:Nat) (A0:Option Addr) (c0:Nat) (l0:List Int) (A1:Option Addr) (c1:Nat) (l1:List Int) (r:Bool) (w:World) (hr0:Kd.C (Kd.int .i64) w A0 l0.length l0) (hc0:l0.length≤c0) (hr1:Kd.C (Kd.int .i64) w A1 l1.length l1) (hc1:l1.length≤c1) (h:bq.f k l0 l1=some r):
  Calls Tryz.prog 37 #[.slice A0 l0.length c0, .slice A1 l1.length c1] w fun e w' =>e= .returned (.bool r)∧Drawn0 w w' :=by
 have p:=Aside0.mk hr0
 have B:=Aside0.mk hc0
 clear hr0 hc0
 have HR1:=Aside0.mk hr1
 have D:=Aside0.mk hc1
 clear hr1 hc1
 have H:(if(l0.length:Int)=(l1.length:Int)then(bq.l0 k l0 l1 0)else(some false))=some r:=h
 clear h
 by_cases c3:(l0.length:Int)=(l1.length:Int)
 ·rw [if_pos c3]at H
  have s:=beq_iff_eq.mpr c3
  have t:=bne_eq_false_iff_eq.mpr c3
  have u:(l0.length==l1.length)=true:=by first|simpa using c3|(simp at c3⊢;omega)
  clear c3
  have H' :=Aside0.mk H
  clear H
  go_enter Tryz.func37,Tryz.ntmps37
  go_wp2
  repeat(go_quiet (fail);try go_wp2)
  go_loopg [5] k (fun kq v5 w' => ∃(a:Int),v5= .int .i64 a∧Aside0 (bq.l0 kq l0 l1 a=some r)∧Aside0 (kq≤k)∧Drawn0 w w')
  case atStart=>exact⟨(0),(by first|rfl|(simp;done)|(simp[*];done)),H',⟨Nat.le_refl _⟩,by repeat(first|exact Drawn0.refl _|apply Drawn0.step)⟩
  case round=>
   clear H'
   obtain⟨a,rfl,HA,q,⟨m1,rfl⟩⟩:=hrel
   cases gk with
   |zero=>exact absurd HA.out (by simp[bq.l0])
   | succ k1=>
    have H:=HA.out
    clear HA
    simp only[bq.l0]at H
    by_cases c4:a<(l0.length:Int)
    ·rw [if_pos c4]at H
     have v:decide (a<(l0.length:Int))=true:=decide_eq_true c4
     clear c4
     by_cases c5:0≤a
     ·rw[if_pos c5]at H
      have z:decide (0≤a)=true:=decide_eq_true c5
      clear c5
      by_cases c6:a<(l1.length:Int)
      ·rw[if_pos c6]at H
       have A:decide (a<(l1.length:Int))=true:=decide_eq_true c6
       clear c6
       by_cases c7:(rd l0 a)=(rd l1 a)
       ·rw[if_pos c7]at H
        have x:=beq_iff_eq.mpr c7
        have y:=bne_eq_false_iff_eq.mpr c7
        clear c7
        have H' :=Aside0.mk H
        clear H
        have b:0≤(a:Int):=od
        have c:a<(l0.length:Int):=od
        obtain⟨n,i,l⟩:=Kd.at_int p.out a b c
        cases i
        replace b:=eq_true b
        replace c:=eq_true c
        have d:0≤(a:Int):=od
        have g:a<(l1.length:Int):=od
        obtain⟨o,j,m⟩:=Kd.at_int HR1.out a d g
        cases j
        replace d:=eq_true d
        replace g:=eq_true g
        go_wp2
        repeat(go_quiet (fail);try go_wp2)
        go_roundg k1
        case measure=>have:=q.out;omega
        case rel=>exact⟨(wrap64 (a+1)),(by first|rfl|(simp;done)|(simp[*];done)),H',⟨by have:=q.out;omega⟩,by repeat(first|exact Drawn0.refl _|apply Drawn0.step)⟩
       rw[if_neg c7]at H
       have x:=beq_eq_false_iff_ne.mpr c7
       have y:=bne_iff_ne.mpr c7
       obtain rfl:=Option.some.inj H;clear H
       have b:0≤(a:Int):=od
       have c:a<(l0.length:Int):=od
       obtain⟨n,i,l⟩:=Kd.at_int p.out a b c
       cases i
       replace b:=eq_true b
       replace c:=eq_true c
       have d:0≤(a:Int):=od
       have g:a<(l1.length:Int):=od
       obtain⟨o,j,m⟩:=Kd.at_int HR1.out a d g
       cases j
       replace d:=eq_true d
       replace g:=eq_true g
       go_wp2
       repeat(go_quiet (fail);try go_wp2)
       go_ret
       exact⟨by first|rfl|(simp;done)|(simp[*];done),by repeat(first|exact Drawn0.refl _|apply Drawn0.step)⟩
      rw[if_neg c6]at H
      exact absurd H (by simp)
     rw[if_neg c5]at H
     exact absurd H (by simp)
    rw[if_neg c4]at H
    have v:decide (a<(l0.length:Int))=false:=decide_eq_false c4
    clear c4
    obtain rfl:=Option.some.inj H;clear H
    go_wp2
    repeat(go_quiet (fail);try go_wp2)
    go_ret
    exact⟨by first|rfl|(simp;done)|(simp[*];done),by repeat(first|exact Drawn0.refl _|apply Drawn0.step)⟩
 rw[if_neg c3]at H
 have s:=beq_eq_false_iff_ne.mpr c3
 have t:=bne_iff_ne.mpr c3
 have u:(l0.length==l1.length)=false:=by first|simpa using c3|(simp at c3⊢;omega)
 obtain rfl:=Option.some.inj H;clear H
 go_enter Tryz.func37,Tryz.ntmps37
 go_wp2
 repeat(go_quiet (fail);try go_wp2)
 go_ret
 exact⟨by first|rfl|(simp;done)|(simp[*];done),by repeat(first|exact Drawn0.refl _|apply Drawn0.step)⟩
set_option maxHeartbeats 8000000 in
set_option maxRecDepth 100000 in
theorem gy.calls (k:Nat) (o:Option Addr) (p:Nat) (g:List (S91)) (t:Option Addr) (u:Nat) (j:List (S70)) (y:Option Addr) (z:Nat) (m:List Int) (J:Int) (K:Int) (A:Bool) (B:Int) (q:Option Addr) (s:Nat) (i:List (S91)) (v:Option Addr) (x:Nat) (l:List (S70)) (D:Option Addr) (E:Nat) (n:List Int) (L:Int) (M:Int) (G:Bool) (I:Int) (r:Bool) (w:World) (aE:Kd.C k91 w o g.length g) (aF:g.length≤p) (aL:Kd.C k70 w t j.length j) (aO:j.length≤u) (aP:Kd.C (Kd.int .i64) w y m.length m) (aR:m.length≤z) (aS:Kd.C k91 w q i.length i) (a0:i.length≤s) (a1:Kd.C k70 w v l.length l) (a2:l.length≤x) (a3:Kd.C (Kd.int .i64) w D n.length n) (a4:n.length≤E) (h:gy.f k g j m J K A B i l n L M G I=some r):
  Calls Tryz.prog 10 #[.agg #[.slice o g.length p, .slice t j.length u, .slice y m.length z, .int .i64 J, .int .i64 K, .bool A, .int .i64 B], .agg #[.slice q i.length s, .slice v l.length x, .slice D n.length E, .int .i64 L, .int .i64 M, .bool G, .int .i64 I]] w fun e w' =>e= .returned (.bool r)∧Below w.heap.size w w' :=by
 have bw:=Tryz.underlying33
 have b0:=Tryz.underlying31
 have O:=Aside0.mk aE
 have P:=Aside0.mk aF
 clear aE aF
 have W:=Aside0.mk aL
 have X:=Aside0.mk aO
 clear aL aO
 have am:=Aside0.mk aP
 have an:=Aside0.mk aR
 clear aP aR
 have T:=Aside0.mk aS
 have U:=Aside0.mk a0
 clear aS a0
 have Y:=Aside0.mk a1
 have Z:=Aside0.mk a2
 clear a1 a2
 have ao:=Aside0.mk a3
 have ap:=Aside0.mk a4
 clear a3 a4
 have HB:=Aside0.mk (Below.refl w.heap.size w)
 have H:((bO.f k g i).bind fun aq=>(if aq=true then((bF.f k j l).bind fun ar=>(if ar=true then((bq.f k m n).bind fun aw=>(if aw=true then(if J=L then(if K=M then((fM.f A B G I).bind fun aB=>(if aB=true then(some true)else(some false)))else(some false))else(some false))else(some false)))else(some false)))else(some false)))=some r:=h
 clear h
 obtain⟨aq,A3,H⟩:=ob H
 by_cases c4:aq=true
 ·subst c4
  replace H:=it H
  obtain⟨ar,A5,H⟩:=ob H
  by_cases c6:ar=true
  ·subst c6
   replace H:=it H
   obtain⟨aw,A7,H⟩:=ob H
   by_cases c8:aw=true
   ·subst c8
    replace H:=it H
    by_cases c9:J=L
    ·rw[if_pos c9]at H
     have a8:=beq_iff_eq.mpr c9
     have a9:=bne_eq_false_iff_eq.mpr c9
     clear c9
     by_cases c10:K=M
     ·rw[if_pos c10]at H
      have a5:=beq_iff_eq.mpr c10
      have a6:=bne_eq_false_iff_eq.mpr c10
      clear c10
      obtain⟨aB,a7,H⟩:=ob H
      by_cases c12:aB=true
      ·subst c12
       replace H:=it H
       obtain rfl:=Option.some.inj H;clear H
       go_enter Tryz.func10,Tryz.ntmps10
       go_wp2_with (first|((with_reducible refine gd 2 rfl ?_);refine bx 2 #[.slice o g.length p, .slice t j.length u, .slice y m.length z, .int .i64 J, .int .i64 K, .bool A, .int .i64 B] 33 ?_;intro ab hg b1 hbox hb;have a:=Aside0.mk hbox;have ac:=hz HB hg;replace HB:=hs HB hb;clear hb hbox hg)|((with_reducible refine gd 3 rfl ?_);refine bx 3 #[.slice q i.length s, .slice v l.length x, .slice D n.length E, .int .i64 L, .int .i64 M, .bool G, .int .i64 I] 33 ?_;intro ad hg b2 hbox hb;have b:=Aside0.mk hbox;have al:=hz HB hg;have c:=nl a hg;have d:=ng a hg;replace a:=kb a hb;replace HB:=hs HB hb;clear hb hbox hg;have ba:=c.out;have bb:=d.out;have:=cf7 a;have:=cf7 b)|(refine gl (some 9) Tryz.func35 #[.slice o g.length p, .slice q i.length s] rfl ?_;(with_reducible refine(bO.calls k _ _ g _ _ i true _ (cb O.out) P.out (cb T.out) U.out A3.out).mono ?_);rintro e b3 ⟨rfl,hb⟩;refine⟨_,rfl, ?_⟩;replace a:=kb a hb;replace b:=kb b hb;replace HB:=hs HB hb;have:=cf7 a;have:=cf7 b)|(refine gl (some 15) Tryz.func36 #[.slice t j.length u, .slice v l.length x] rfl ?_;(with_reducible refine(bF.calls k _ _ j _ _ l true _ (cb W.out) X.out (cb Y.out) Z.out A5.out).mono ?_);rintro e b4 ⟨rfl,hb⟩;refine⟨_,rfl, ?_⟩;replace a:=kb a hb;replace b:=kb b hb;replace HB:=hs HB hb;have:=cf7 a;have:=cf7 b)|(refine gl (some 21) Tryz.func37 #[.slice y m.length z, .slice D n.length E] rfl ?_;(with_reducible refine(bq.calls k _ _ m _ _ n true _ (cb am.out) an.out (cb ao.out) ap.out A7.out).mono ?_);rintro e w' ⟨rfl,⟨nd,rfl⟩⟩;refine⟨_,rfl, ?_⟩)|(refine gl (some 37) Tryz.func38 #[.agg #[.bool A, .int .i64 B], .agg #[.bool G, .int .i64 I]] rfl ?_;(with_reducible refine(fM.calls A B G I true _ a7.out).mono ?_);rintro e b5 ⟨rfl,hb⟩;refine⟨_,rfl, ?_⟩;replace a:=kb a hb;replace b:=kb b hb;replace HB:=hs HB hb))
       go_ret
       exact fin
      replace c12:=Bool.eq_false_iff.mpr c12
      subst c12
      replace H:=ie H
      obtain rfl:=Option.some.inj H;clear H
      go_enter Tryz.func10,Tryz.ntmps10
      go_wp2_with (first|((with_reducible refine gd 2 rfl ?_);refine bx 2 #[.slice o g.length p, .slice t j.length u, .slice y m.length z, .int .i64 J, .int .i64 K, .bool A, .int .i64 B] 33 ?_;intro ab hg b6 hbox hb;have a:=Aside0.mk hbox;have ac:=hz HB hg;replace HB:=hs HB hb;clear hb hbox hg)|((with_reducible refine gd 3 rfl ?_);refine bx 3 #[.slice q i.length s, .slice v l.length x, .slice D n.length E, .int .i64 L, .int .i64 M, .bool G, .int .i64 I] 33 ?_;intro ad hg b7 hbox hb;have b:=Aside0.mk hbox;have al:=hz HB hg;have c:=nl a hg;have d:=ng a hg;replace a:=kb a hb;replace HB:=hs HB hb;clear hb hbox hg;have bc:=c.out;have bd:=d.out;have:=cf7 a;have:=cf7 b)|(refine gl (some 9) Tryz.func35 #[.slice o g.length p, .slice q i.length s] rfl ?_;(with_reducible refine(bO.calls k _ _ g _ _ i true _ (cb O.out) P.out (cb T.out) U.out A3.out).mono ?_);rintro e b8 ⟨rfl,hb⟩;refine⟨_,rfl, ?_⟩;replace a:=kb a hb;replace b:=kb b hb;replace HB:=hs HB hb;have:=cf7 a;have:=cf7 b)|(refine gl (some 15) Tryz.func36 #[.slice t j.length u, .slice v l.length x] rfl ?_;(with_reducible refine(bF.calls k _ _ j _ _ l true _ (cb W.out) X.out (cb Y.out) Z.out A5.out).mono ?_);rintro e b9 ⟨rfl,hb⟩;refine⟨_,rfl, ?_⟩;replace a:=kb a hb;replace b:=kb b hb;replace HB:=hs HB hb;have:=cf7 a;have:=cf7 b)|(refine gl (some 21) Tryz.func37 #[.slice y m.length z, .slice D n.length E] rfl ?_;(with_reducible refine(bq.calls k _ _ m _ _ n true _ (cb am.out) an.out (cb ao.out) ap.out A7.out).mono ?_);rintro e w' ⟨rfl,⟨nd,rfl⟩⟩;refine⟨_,rfl, ?_⟩)|(refine gl (some 37) Tryz.func38 #[.agg #[.bool A, .int .i64 B], .agg #[.bool G, .int .i64 I]] rfl ?_;(with_reducible refine(fM.calls A B G I false _ a7.out).mono ?_);rintro e ca ⟨rfl,hb⟩;refine⟨_,rfl, ?_⟩;replace a:=kb a hb;replace b:=kb b hb;replace HB:=hs HB hb))
      go_ret
      exact fin
     rw[if_neg c10]at H
     have a5:=beq_eq_false_iff_ne.mpr c10
     have a6:=bne_iff_ne.mpr c10
     obtain rfl:=Option.some.inj H;clear H
     go_enter Tryz.func10,Tryz.ntmps10
     go_wp2_with (first|((with_reducible refine gd 2 rfl ?_);refine bx 2 #[.slice o g.length p, .slice t j.length u, .slice y m.length z, .int .i64 J, .int .i64 K, .bool A, .int .i64 B] 33 ?_;intro ab hg cc hbox hb;have a:=Aside0.mk hbox;have ac:=hz HB hg;replace HB:=hs HB hb;clear hb hbox hg)|((with_reducible refine gd 3 rfl ?_);refine bx 3 #[.slice q i.length s, .slice v l.length x, .slice D n.length E, .int .i64 L, .int .i64 M, .bool G, .int .i64 I] 33 ?_;intro ad hg cd hbox hb;have b:=Aside0.mk hbox;have al:=hz HB hg;have c:=nl a hg;have d:=ng a hg;replace a:=kb a hb;replace HB:=hs HB hb;clear hb hbox hg;have be:=c.out;have bh:=d.out;have:=cf7 a;have:=cf7 b)|(refine gl (some 9) Tryz.func35 #[.slice o g.length p, .slice q i.length s] rfl ?_;(with_reducible refine(bO.calls k _ _ g _ _ i true _ (cb O.out) P.out (cb T.out) U.out A3.out).mono ?_);rintro e ce ⟨rfl,hb⟩;refine⟨_,rfl, ?_⟩;replace a:=kb a hb;replace b:=kb b hb;replace HB:=hs HB hb;have:=cf7 a;have:=cf7 b)|(refine gl (some 15) Tryz.func36 #[.slice t j.length u, .slice v l.length x] rfl ?_;(with_reducible refine(bF.calls k _ _ j _ _ l true _ (cb W.out) X.out (cb Y.out) Z.out A5.out).mono ?_);rintro e cf ⟨rfl,hb⟩;refine⟨_,rfl, ?_⟩;replace a:=kb a hb;replace b:=kb b hb;replace HB:=hs HB hb;have:=cf7 a;have:=cf7 b)|(refine gl (some 21) Tryz.func37 #[.slice y m.length z, .slice D n.length E] rfl ?_;(with_reducible refine(bq.calls k _ _ m _ _ n true _ (cb am.out) an.out (cb ao.out) ap.out A7.out).mono ?_);rintro e w' ⟨rfl,⟨nd,rfl⟩⟩;refine⟨_,rfl, ?_⟩))
     go_ret
     exact fin
    rw[if_neg c9]at H
    have a8:=beq_eq_false_iff_ne.mpr c9
    have a9:=bne_iff_ne.mpr c9
    obtain rfl:=Option.some.inj H;clear H
    go_enter Tryz.func10,Tryz.ntmps10
    go_wp2_with (first|((with_reducible refine gd 2 rfl ?_);refine bx 2 #[.slice o g.length p, .slice t j.length u, .slice y m.length z, .int .i64 J, .int .i64 K, .bool A, .int .i64 B] 33 ?_;intro ab hg cg hbox hb;have a:=Aside0.mk hbox;have ac:=hz HB hg;replace HB:=hs HB hb;clear hb hbox hg)|((with_reducible refine gd 3 rfl ?_);refine bx 3 #[.slice q i.length s, .slice v l.length x, .slice D n.length E, .int .i64 L, .int .i64 M, .bool G, .int .i64 I] 33 ?_;intro ad hg ch hbox hb;have b:=Aside0.mk hbox;have al:=hz HB hg;have c:=nl a hg;have d:=ng a hg;replace a:=kb a hb;replace HB:=hs HB hb;clear hb hbox hg;have bj:=c.out;have bk:=d.out;have:=cf7 a;have:=cf7 b)|(refine gl (some 9) Tryz.func35 #[.slice o g.length p, .slice q i.length s] rfl ?_;(with_reducible refine(bO.calls k _ _ g _ _ i true _ (cb O.out) P.out (cb T.out) U.out A3.out).mono ?_);rintro e ci ⟨rfl,hb⟩;refine⟨_,rfl, ?_⟩;replace a:=kb a hb;replace b:=kb b hb;replace HB:=hs HB hb;have:=cf7 a;have:=cf7 b)|(refine gl (some 15) Tryz.func36 #[.slice t j.length u, .slice v l.length x] rfl ?_;(with_reducible refine(bF.calls k _ _ j _ _ l true _ (cb W.out) X.out (cb Y.out) Z.out A5.out).mono ?_);rintro e cj ⟨rfl,hb⟩;refine⟨_,rfl, ?_⟩;replace a:=kb a hb;replace b:=kb b hb;replace HB:=hs HB hb;have:=cf7 a;have:=cf7 b)|(refine gl (some 21) Tryz.func37 #[.slice y m.length z, .slice D n.length E] rfl ?_;(with_reducible refine(bq.calls k _ _ m _ _ n true _ (cb am.out) an.out (cb ao.out) ap.out A7.out).mono ?_);rintro e w' ⟨rfl,⟨nd,rfl⟩⟩;refine⟨_,rfl, ?_⟩))
    go_ret
    exact fin
   replace c8:=Bool.eq_false_iff.mpr c8
   subst c8
   replace H:=ie H
   obtain rfl:=Option.some.inj H;clear H
   go_enter Tryz.func10,Tryz.ntmps10
   go_wp2_with (first|((with_reducible refine gd 2 rfl ?_);refine bx 2 #[.slice o g.length p, .slice t j.length u, .slice y m.length z, .int .i64 J, .int .i64 K, .bool A, .int .i64 B] 33 ?_;intro ab hg ck hbox hb;have a:=Aside0.mk hbox;have ac:=hz HB hg;replace HB:=hs HB hb;clear hb hbox hg)|((with_reducible refine gd 3 rfl ?_);refine bx 3 #[.slice q i.length s, .slice v l.length x, .slice D n.length E, .int .i64 L, .int .i64 M, .bool G, .int .i64 I] 33 ?_;intro ad hg cl hbox hb;have b:=Aside0.mk hbox;have al:=hz HB hg;have c:=nl a hg;have d:=ng a hg;replace a:=kb a hb;replace HB:=hs HB hb;clear hb hbox hg;have bm:=c.out;have bo:=d.out;have:=cf7 a;have:=cf7 b)|(refine gl (some 9) Tryz.func35 #[.slice o g.length p, .slice q i.length s] rfl ?_;(with_reducible refine(bO.calls k _ _ g _ _ i true _ (cb O.out) P.out (cb T.out) U.out A3.out).mono ?_);rintro e w64 ⟨rfl,hb⟩;refine⟨_,rfl, ?_⟩;replace a:=kb a hb;replace b:=kb b hb;replace HB:=hs HB hb;have:=cf7 a;have:=cf7 b)|(refine gl (some 15) Tryz.func36 #[.slice t j.length u, .slice v l.length x] rfl ?_;(with_reducible refine(bF.calls k _ _ j _ _ l true _ (cb W.out) X.out (cb Y.out) Z.out A5.out).mono ?_);rintro e cm ⟨rfl,hb⟩;refine⟨_,rfl, ?_⟩;replace a:=kb a hb;replace b:=kb b hb;replace HB:=hs HB hb;have:=cf7 a;have:=cf7 b)|(refine gl (some 21) Tryz.func37 #[.slice y m.length z, .slice D n.length E] rfl ?_;(with_reducible refine(bq.calls k _ _ m _ _ n false _ (cb am.out) an.out (cb ao.out) ap.out A7.out).mono ?_);rintro e w' ⟨rfl,⟨nd,rfl⟩⟩;refine⟨_,rfl, ?_⟩))
   go_ret
   exact fin
  replace c6:=Bool.eq_false_iff.mpr c6
  subst c6
  replace H:=ie H
  obtain rfl:=Option.some.inj H;clear H
  go_enter Tryz.func10,Tryz.ntmps10
  go_wp2_with (first|((with_reducible refine gd 2 rfl ?_);refine bx 2 #[.slice o g.length p, .slice t j.length u, .slice y m.length z, .int .i64 J, .int .i64 K, .bool A, .int .i64 B] 33 ?_;intro ab hg cn hbox hb;have a:=Aside0.mk hbox;have ac:=hz HB hg;replace HB:=hs HB hb;clear hb hbox hg)|((with_reducible refine gd 3 rfl ?_);refine bx 3 #[.slice q i.length s, .slice v l.length x, .slice D n.length E, .int .i64 L, .int .i64 M, .bool G, .int .i64 I] 33 ?_;intro ad hg co hbox hb;have b:=Aside0.mk hbox;have al:=hz HB hg;have c:=nl a hg;have d:=ng a hg;replace a:=kb a hb;replace HB:=hs HB hb;clear hb hbox hg;have bp:=c.out;have br:=d.out;have:=cf7 a;have:=cf7 b)|(refine gl (some 9) Tryz.func35 #[.slice o g.length p, .slice q i.length s] rfl ?_;(with_reducible refine(bO.calls k _ _ g _ _ i true _ (cb O.out) P.out (cb T.out) U.out A3.out).mono ?_);rintro e cp ⟨rfl,hb⟩;refine⟨_,rfl, ?_⟩;replace a:=kb a hb;replace b:=kb b hb;replace HB:=hs HB hb;have:=cf7 a;have:=cf7 b)|(refine gl (some 15) Tryz.func36 #[.slice t j.length u, .slice v l.length x] rfl ?_;(with_reducible refine(bF.calls k _ _ j _ _ l false _ (cb W.out) X.out (cb Y.out) Z.out A5.out).mono ?_);rintro e cq ⟨rfl,hb⟩;refine⟨_,rfl, ?_⟩;replace a:=kb a hb;replace b:=kb b hb;replace HB:=hs HB hb))
  go_ret
  exact fin
 replace c4:=Bool.eq_false_iff.mpr c4
 subst c4
 replace H:=ie H
 obtain rfl:=Option.some.inj H;clear H
 go_enter Tryz.func10,Tryz.ntmps10
 go_wp2_with (first|((with_reducible refine gd 2 rfl ?_);refine bx 2 #[.slice o g.length p, .slice t j.length u, .slice y m.length z, .int .i64 J, .int .i64 K, .bool A, .int .i64 B] 33 ?_;intro ab hg cr hbox hb;have a:=Aside0.mk hbox;have ac:=hz HB hg;replace HB:=hs HB hb;clear hb hbox hg)|((with_reducible refine gd 3 rfl ?_);refine bx 3 #[.slice q i.length s, .slice v l.length x, .slice D n.length E, .int .i64 L, .int .i64 M, .bool G, .int .i64 I] 33 ?_;intro ad hg cs hbox hb;have b:=Aside0.mk hbox;have al:=hz HB hg;have c:=nl a hg;have d:=ng a hg;replace a:=kb a hb;replace HB:=hs HB hb;clear hb hbox hg;have bs:=c.out;have bt:=d.out;have:=cf7 a;have:=cf7 b)|(refine gl (some 9) Tryz.func35 #[.slice o g.length p, .slice q i.length s] rfl ?_;(with_reducible refine(bO.calls k _ _ g _ _ i false _ (cb O.out) P.out (cb T.out) U.out A3.out).mono ?_);rintro e ct ⟨rfl,hb⟩;refine⟨_,rfl, ?_⟩;replace a:=kb a hb;replace b:=kb b hb;replace HB:=hs HB hb))
 go_ret
 exact fin
set_option maxHeartbeats 8000000 in
set_option maxRecDepth 100000 in
theorem iA.calls (k:Nat) (c:Int) (d:Option Addr) (g:Nat) (a:List Int) (i:Int) (j:Option Addr) (l:Nat) (b:List Int) (r:Bool) (w:World) (n:Kd.C (Kd.int .i64) w d a.length a) (o:a.length≤g) (p:Kd.C (Kd.int .i64) w j b.length b) (q:b.length≤l) (h:iA.f k c a i b=some r):
  Calls Tryz.prog 86 #[.agg #[.int .i64 c, .slice d a.length g], .agg #[.int .i64 i, .slice j b.length l]] w fun e w' =>e= .returned (.bool r)∧Below w.heap.size w w' :=by
 have z:=Tryz.underlying126
 have s:=Aside0.mk n
 have t:=Aside0.mk o
 clear n o
 have u:=Aside0.mk p
 have v:=Aside0.mk q
 clear p q
 have HB:=Aside0.mk (Below.refl w.heap.size w)
 have H:(if c=i then((bq.f k a b).bind fun m=>(if m=true then(some true)else(some false)))else(some false))=some r:=h
 clear h
 by_cases c3:c=i
 ·rw[if_pos c3]at H
  have x:=beq_iff_eq.mpr c3
  have y:=bne_eq_false_iff_eq.mpr c3
  clear c3
  obtain⟨m,A4,H⟩:=ob H
  by_cases c5:m=true
  ·subst c5
   replace H:=it H
   obtain rfl:=Option.some.inj H;clear H
   go_enter Tryz.func86,Tryz.ntmps86
   go_wp2_with (first|(refine gl (some 14) Tryz.func37 #[.slice d a.length g, .slice j b.length l] rfl ?_;(with_reducible refine(bq.calls k _ _ a _ _ b true _ (cb s.out) t.out (cb u.out) v.out A4.out).mono ?_);rintro e w' ⟨rfl,⟨nd,rfl⟩⟩;refine⟨_,rfl, ?_⟩))
   go_ret
   exact fin
  replace c5:=Bool.eq_false_iff.mpr c5
  subst c5
  replace H:=ie H
  obtain rfl:=Option.some.inj H;clear H
  go_enter Tryz.func86,Tryz.ntmps86
  go_wp2_with (first|(refine gl (some 14) Tryz.func37 #[.slice d a.length g, .slice j b.length l] rfl ?_;(with_reducible refine(bq.calls k _ _ a _ _ b false _ (cb s.out) t.out (cb u.out) v.out A4.out).mono ?_);rintro e w' ⟨rfl,⟨nd,rfl⟩⟩;refine⟨_,rfl, ?_⟩))
  go_ret
  exact fin
 rw[if_neg c3]at H
 have x:=beq_eq_false_iff_ne.mpr c3
 have y:=bne_iff_ne.mpr c3
 obtain rfl:=Option.some.inj H;clear H
 go_enter Tryz.func86,Tryz.ntmps86
 go_wp2
 go_ret
 exact fin
def bL.T6:Bool×List (List Nat×List Nat):=(true, [([], []),([], []),([0,1], [0,1]),([2], [2]),([], []),([], []),([4,5], [4,5]),([6], [6]),([3,7], [3,7]),([8], [8])])
def bL.B6:List Nat:= [0,0,3,7,0,0,48,112,255,511]
theorem bL.tab6:dJ .any (opsOf Tryz.f39 6)=bL.T6:=by kernel_rfl
theorem bL.bits6:dY bL.T6.2 bL.B6=true:=by kernel_rfl
set_option maxHeartbeats 8000000 in
set_option maxRecDepth 100000 in
theorem bL.calls (k:Nat) (A0:Option Addr) (c0:Nat) (l0:List (S126)) (A1:Option Addr) (c1:Nat) (l1:List (S126)) (r:Bool) (w:World) (hr0:Kd.C eB w A0 l0.length l0) (hc0:l0.length≤c0) (hr1:Kd.C eB w A1 l1.length l1) (hc1:l1.length≤c1) (h:bL.f k l0 l1=some r):
  Calls Tryz.prog 39 #[.slice A0 l0.length c0, .slice A1 l1.length c1] w fun e w' =>e= .returned (.bool r)∧Below w.heap.size w w' :=by
 have ac:=Tryz.underlying126
 have T:=Aside0.mk hr0
 have am:=Aside0.mk hc0
 clear hr0 hc0
 have HR1:=Aside0.mk hr1
 have an:=Aside0.mk hc1
 clear hr1 hc1
 have HB:=Aside0.mk (Below.refl w.heap.size w)
 have H:(if(l0.length:Int)=(l1.length:Int)then(bL.l0 k l0 l1 0)else(some false))=some r:=h
 clear h
 by_cases c3:(l0.length:Int)=(l1.length:Int)
 ·rw [if_pos c3]at H
  have W:=beq_iff_eq.mpr c3
  have X:=bne_eq_false_iff_eq.mpr c3
  have Y:(l0.length==l1.length)=true:=by first|simpa using c3|(simp at c3⊢;omega)
  clear c3
  have H' :=Aside0.mk H
  clear H
  go_enter Tryz.func39,Tryz.ntmps39
  go_wp2
  go_loopg [5] k (fun kq v5 w' => ∃(a:Int),v5= .int .i64 a∧Aside0 (bL.l0 kq l0 l1 a=some r)∧Aside0 (kq≤k)∧Aside0 (Below w.heap.size w w'))
  case atStart=>exact⟨(0),(by first|rfl|(simp;done)|(simp[*];done)),H',⟨Nat.le_refl _⟩,⟨bl⟩⟩
  case round=>
   clear H'
   obtain⟨a,rfl,HA,U,HB⟩:=hrel
   cases gk with
   |zero=>exact absurd HA.out (by simp[bL.l0])
   | succ k1=>
    have H:=HA.out
    clear HA
    simp only[bL.l0]at H
    by_cases c4:a<(l0.length:Int)
    ·rw [if_pos c4]at H
     have Z:decide (a<(l0.length:Int))=true:=decide_eq_true c4
     clear c4
     by_cases c5:0≤a
     ·rw[if_pos c5]at H
      have ad:decide (0≤a)=true:=decide_eq_true c5
      clear c5
      by_cases c6:a<(l1.length:Int)
      ·rw[if_pos c6]at H
       have al:decide (a<(l1.length:Int))=true:=decide_eq_true c6
       clear c6
       obtain⟨ab,A7,H⟩:=ob H
       by_cases c8:ab=true
       ·subst c8
        replace H:=it H
        have H' :=Aside0.mk H
        clear H
        try go_wp2
        replace HB:=Aside0.mk (aC HB.out)
        have E:0≤(a:Int):=od
        have G:a<(l0.length:Int):=od
        obtain⟨x,z,A,O,b,c,p,q⟩:=fP T.out a E G
        have d:=c
        have g:=b
        cases O
        obtain⟨b,c⟩:=hc2 HB b c
        have s:=Aside0.mk q
        have L:=Aside0.mk p
        clear q p
        replace E:=eq_true E
        replace G:=eq_true G
        have I:0≤(a:Int):=od
        have J:a<(l1.length:Int):=od
        obtain⟨y,B,D,P,j,l,t,u⟩:=fP HR1.out a I J
        have m:=l
        have o:=j
        cases P
        obtain⟨j,l⟩:=hc2 HB j l
        have v:=Aside0.mk u
        have M:=Aside0.mk t
        clear u t
        replace I:=eq_true I
        replace J:=eq_true J
        refine dR (n:=10) (S:=fun w' =>w'.cell? (x.add ((a).toNat * 2))=some (.int .i64 ((aD l0 a).f0))∧w'.cell? ⟨(x.add ((a).toNat * 2)).block,(x.add ((a).toNat * 2)).off+1,none⟩=some (.slice z ((aD l0 a).f1).length A)∧w'.cell? (y.add ((a).toNat * 2))=some (.int .i64 ((aD l1 a).f0))∧w'.cell? ⟨(y.add ((a).toNat * 2)).block,(y.add ((a).toNat * 2)).off+1,none⟩=some (.slice B ((aD l1 a).f1).length D)) (ds:= []) (upto 10 0) (by kernel_rfl) rfl rfl ⟨((HB.out.cell (World.block_lt_of_cell? w _ g)).trans g),((HB.out.cell (World.block_lt_of_cell? w _ d)).trans d),((HB.out.cell (World.block_lt_of_cell? w _ o)).trans o),((HB.out.cell (World.block_lt_of_cell? w _ m)).trans m)⟩ (fun hHeld=> ?_);refine cO bL.tab6 bL.bits6 (fun HT_ HW_=> ?_)
        generalize wr.drew=w9 at HB s v b c j l hHeld⊢
        repeat(first|refine vN ?_|refine pN ?_|refine tN ?_)
        refine fo (i:=8) (N:=some 25) (upto 10 9) rfl rfl (d9 HT_.out (by kernel_rfl)) (by decide) (fun K hK=> ?_)
        refine gs Tryz.func86 #[.agg #[.int .i64 ((aD l0 a).f0), .slice z ((aD l0 a).f1).length A], .agg #[.int .i64 ((aD l1 a).f0), .slice B ((aD l1 a).f1).length D]] rfl rfl ?_
        with_reducible refine(iA.calls k1 ((aD l0 a).f0) _ _ ((aD l0 a).f1) ((aD l1 a).f0) _ _ ((aD l1 a).f1) true _ (cb s.out) L.out (cb v.out) M.out A7.out).mono ?_
        rintro e ao ⟨rfl,hb⟩
        refine⟨_,rfl, ?_⟩
        replace HB:=hs HB hb
        refine hK.out _ _ ⟨((HB.out.cell (World.block_lt_of_cell? w _ g)).trans g),((HB.out.cell (World.block_lt_of_cell? w _ d)).trans d),((HB.out.cell (World.block_lt_of_cell? w _ o)).trans o),((HB.out.cell (World.block_lt_of_cell? w _ m)).trans m)⟩ (fun hHeld=> ?_)
        clear hK K
        refine no 25 ?_
        repeat(first|refine vN ?_|refine pN ?_|refine tN ?_)
        refine eQ (dN HT_.out (by kernel_rfl)) ?_
        try go_wp2
        go_roundg k1
        case measure=>have:=U.out;omega
        case rel=>exact⟨(wrap64 (a+1)),(by first|rfl|(simp;done)|(simp[*];done)),H',⟨by have:=U.out;omega⟩,⟨bl⟩⟩
       replace c8:=Bool.eq_false_iff.mpr c8
       subst c8
       replace H:=ie H
       obtain rfl:=Option.some.inj H;clear H
       try go_wp2
       replace HB:=Aside0.mk (aC HB.out)
       have E:0≤(a:Int):=od
       have G:a<(l0.length:Int):=od
       obtain⟨x,z,A,O,b,c,p,q⟩:=fP T.out a E G
       have d:=c
       have g:=b
       cases O
       obtain⟨b,c⟩:=hc2 HB b c
       have s:=Aside0.mk q
       have L:=Aside0.mk p
       clear q p
       replace E:=eq_true E
       replace G:=eq_true G
       have I:0≤(a:Int):=od
       have J:a<(l1.length:Int):=od
       obtain⟨y,B,D,P,j,l,t,u⟩:=fP HR1.out a I J
       have m:=l
       have o:=j
       cases P
       obtain⟨j,l⟩:=hc2 HB j l
       have v:=Aside0.mk u
       have M:=Aside0.mk t
       clear u t
       replace I:=eq_true I
       replace J:=eq_true J
       refine dR (n:=10) (S:=fun w' =>w'.cell? (x.add ((a).toNat * 2))=some (.int .i64 ((aD l0 a).f0))∧w'.cell? ⟨(x.add ((a).toNat * 2)).block,(x.add ((a).toNat * 2)).off+1,none⟩=some (.slice z ((aD l0 a).f1).length A)∧w'.cell? (y.add ((a).toNat * 2))=some (.int .i64 ((aD l1 a).f0))∧w'.cell? ⟨(y.add ((a).toNat * 2)).block,(y.add ((a).toNat * 2)).off+1,none⟩=some (.slice B ((aD l1 a).f1).length D)) (ds:= []) (upto 10 0) (by kernel_rfl) rfl rfl ⟨((HB.out.cell (World.block_lt_of_cell? w _ g)).trans g),((HB.out.cell (World.block_lt_of_cell? w _ d)).trans d),((HB.out.cell (World.block_lt_of_cell? w _ o)).trans o),((HB.out.cell (World.block_lt_of_cell? w _ m)).trans m)⟩ (fun hHeld=> ?_);refine cO bL.tab6 bL.bits6 (fun HT_ HW_=> ?_)
       generalize wr.drew=ap at HB s v b c j l hHeld⊢
       repeat(first|refine vN ?_|refine pN ?_|refine tN ?_)
       refine fo (i:=8) (N:=some 25) (upto 10 9) rfl rfl (d9 HT_.out (by kernel_rfl)) (by decide) (fun K hK=> ?_)
       refine gs Tryz.func86 #[.agg #[.int .i64 ((aD l0 a).f0), .slice z ((aD l0 a).f1).length A], .agg #[.int .i64 ((aD l1 a).f0), .slice B ((aD l1 a).f1).length D]] rfl rfl ?_
       with_reducible refine(iA.calls k1 ((aD l0 a).f0) _ _ ((aD l0 a).f1) ((aD l1 a).f0) _ _ ((aD l1 a).f1) false _ (cb s.out) L.out (cb v.out) M.out A7.out).mono ?_
       rintro e aq ⟨rfl,hb⟩
       refine⟨_,rfl, ?_⟩
       replace HB:=hs HB hb
       refine hK.out _ _ ⟨((HB.out.cell (World.block_lt_of_cell? w _ g)).trans g),((HB.out.cell (World.block_lt_of_cell? w _ d)).trans d),((HB.out.cell (World.block_lt_of_cell? w _ o)).trans o),((HB.out.cell (World.block_lt_of_cell? w _ m)).trans m)⟩ (fun hHeld=> ?_)
       clear hK K
       refine no 25 ?_
       repeat(first|refine vN ?_|refine pN ?_|refine tN ?_)
       refine eQ (dN HT_.out (by kernel_rfl)) ?_
       try go_wp2
       go_ret
       exact fin
      rw[if_neg c6]at H
      exact absurd H (by simp)
     rw[if_neg c5]at H
     exact absurd H (by simp)
    rw[if_neg c4]at H
    have Z:decide (a<(l0.length:Int))=false:=decide_eq_false c4
    clear c4
    obtain rfl:=Option.some.inj H;clear H
    go_wp2
    go_ret
    exact fin
 rw[if_neg c3]at H
 have W:=beq_eq_false_iff_ne.mpr c3
 have X:=bne_iff_ne.mpr c3
 have Y:(l0.length==l1.length)=false:=by first|simpa using c3|(simp at c3⊢;omega)
 obtain rfl:=Option.some.inj H;clear H
 go_enter Tryz.func39,Tryz.ntmps39
 go_wp2
 go_ret
 exact fin
set_option maxHeartbeats 8000000 in
set_option maxRecDepth 100000 in
theorem jd.calls (a:Int) (b:Int) (c:Int) (d:Int) (g:Int) (i:Int) (r:Bool) (w:World) (h:jd.f a b c d g i=some r):
  Calls Tryz.prog 170 #[.agg #[.int .i64 a, .int .i64 b, .int .i64 c], .agg #[.int .i64 d, .int .i64 g, .int .i64 i]] w fun e w' =>e= .returned (.bool r)∧Below w.heap.size w w' :=by
 have p:=Tryz.underlying113
 have HB:=Aside0.mk (Below.refl w.heap.size w)
 have H:(if a=d then(if b=g then(if c=i then(some true)else(some false))else(some false))else(some false))=some r:=h
 clear h
 by_cases c3:a=d
 ·rw[if_pos c3]at H
  have j:=beq_iff_eq.mpr c3
  have k:=bne_eq_false_iff_eq.mpr c3
  clear c3
  by_cases c4:b=g
  ·rw[if_pos c4]at H
   have l:=beq_iff_eq.mpr c4
   have m:=bne_eq_false_iff_eq.mpr c4
   clear c4
   by_cases c5:c=i
   ·rw[if_pos c5]at H
    have n:=beq_iff_eq.mpr c5
    have o:=bne_eq_false_iff_eq.mpr c5
    clear c5
    obtain rfl:=Option.some.inj H;clear H
    go_enter Tryz.func170,Tryz.ntmps170
    go_wp2
    go_ret
    exact fin
   rw[if_neg c5]at H
   have n:=beq_eq_false_iff_ne.mpr c5
   have o:=bne_iff_ne.mpr c5
   obtain rfl:=Option.some.inj H;clear H
   go_enter Tryz.func170,Tryz.ntmps170
   go_wp2
   go_ret
   exact fin
  rw[if_neg c4]at H
  have l:=beq_eq_false_iff_ne.mpr c4
  have m:=bne_iff_ne.mpr c4
  obtain rfl:=Option.some.inj H;clear H
  go_enter Tryz.func170,Tryz.ntmps170
  go_wp2
  go_ret
  exact fin
 rw[if_neg c3]at H
 have j:=beq_eq_false_iff_ne.mpr c3
 have k:=bne_iff_ne.mpr c3
 obtain rfl:=Option.some.inj H;clear H
 go_enter Tryz.func170,Tryz.ntmps170
 go_wp2
 go_ret
 exact fin
def bQ.T6:Bool×List (List Nat×List Nat):=(true, [([], []),([], []),([0,1], [0,1]),([2], [2]),([], []),([], []),([4,5], [4,5]),([6], [6]),([3,7], [3,7]),([8], [8])])
def bQ.B6:List Nat:= [0,0,3,7,0,0,48,112,255,511]
theorem bQ.tab6:dJ .any (opsOf Tryz.f152 6)=bQ.T6:=by kernel_rfl
theorem bQ.bits6:dY bQ.T6.2 bQ.B6=true:=by kernel_rfl
set_option maxHeartbeats 8000000 in
set_option maxRecDepth 100000 in
theorem bQ.calls (k:Nat) (A0:Option Addr) (c0:Nat) (l0:List (S113)) (A1:Option Addr) (c1:Nat) (l1:List (S113)) (r:Bool) (w:World) (hr0:Kd.C fq w A0 l0.length l0) (hc0:l0.length≤c0) (hr1:Kd.C fq w A1 l1.length l1) (hc1:l1.length≤c1) (h:bQ.f k l0 l1=some r):
  Calls Tryz.prog 152 #[.slice A0 l0.length c0, .slice A1 l1.length c1] w fun e w' =>e= .returned (.bool r)∧Below w.heap.size w w' :=by
 have P:=Tryz.underlying113
 have E:=Aside0.mk hr0
 have W:=Aside0.mk hc0
 clear hr0 hc0
 have HR1:=Aside0.mk hr1
 have X:=Aside0.mk hc1
 clear hr1 hc1
 have HB:=Aside0.mk (Below.refl w.heap.size w)
 have H:(if(l0.length:Int)=(l1.length:Int)then(bQ.l0 k l0 l1 0)else(some false))=some r:=h
 clear h
 by_cases c3:(l0.length:Int)=(l1.length:Int)
 ·rw [if_pos c3]at H
  have I:=beq_iff_eq.mpr c3
  have J:=bne_eq_false_iff_eq.mpr c3
  have L:(l0.length==l1.length)=true:=by first|simpa using c3|(simp at c3⊢;omega)
  clear c3
  have H' :=Aside0.mk H
  clear H
  go_enter Tryz.func152,Tryz.ntmps152
  go_wp2
  go_loopg [5] k (fun kq v5 w' => ∃(a:Int),v5= .int .i64 a∧Aside0 (bQ.l0 kq l0 l1 a=some r)∧Aside0 (kq≤k)∧Aside0 (Below w.heap.size w w'))
  case atStart=>exact⟨(0),(by first|rfl|(simp;done)|(simp[*];done)),H',⟨Nat.le_refl _⟩,⟨bl⟩⟩
  case round=>
   clear H'
   obtain⟨a,rfl,HA,G,HB⟩:=hrel
   cases gk with
   |zero=>exact absurd HA.out (by simp[bQ.l0])
   | succ k1=>
    have H:=HA.out
    clear HA
    simp only[bQ.l0]at H
    by_cases c4:a<(l0.length:Int)
    ·rw [if_pos c4]at H
     have M:decide (a<(l0.length:Int))=true:=decide_eq_true c4
     clear c4
     by_cases c5:0≤a
     ·rw[if_pos c5]at H
      have T:decide (0≤a)=true:=decide_eq_true c5
      clear c5
      by_cases c6:a<(l1.length:Int)
      ·rw[if_pos c6]at H
       have U:decide (a<(l1.length:Int))=true:=decide_eq_true c6
       clear c6
       obtain⟨O,A7,H⟩:=ob H
       by_cases c8:O=true
       ·subst c8
        replace H:=it H
        have H' :=Aside0.mk H
        clear H
        try go_wp2
        replace HB:=Aside0.mk (aC HB.out)
        have x:0≤(a:Int):=od
        have y:a<(l0.length:Int):=od
        obtain⟨u,B,b,c,d⟩:=iD E.out a x y
        have g:=d
        have j:=c
        have l:=b
        cases B
        obtain⟨b,c,d⟩:=hc3 HB b c d
        replace x:=eq_true x
        replace y:=eq_true y
        have z:0≤(a:Int):=od
        have A:a<(l1.length:Int):=od
        obtain⟨v,D,m,o,p⟩:=iD HR1.out a z A
        have q:=p
        have s:=o
        have t:=m
        cases D
        obtain⟨m,o,p⟩:=hc3 HB m o p
        replace z:=eq_true z
        replace A:=eq_true A
        refine dR (n:=10) (S:=fun w' =>w'.cell? (u.add ((a).toNat * 3))=some (.int .i64 ((aQ l0 a).f0))∧w'.cell? ⟨(u.add ((a).toNat * 3)).block,(u.add ((a).toNat * 3)).off+1,none⟩=some (.int .i64 ((aQ l0 a).f1))∧w'.cell? ⟨(u.add ((a).toNat * 3)).block,(u.add ((a).toNat * 3)).off+2,none⟩=some (.int .i64 ((aQ l0 a).f2))∧w'.cell? (v.add ((a).toNat * 3))=some (.int .i64 ((aQ l1 a).f0))∧w'.cell? ⟨(v.add ((a).toNat * 3)).block,(v.add ((a).toNat * 3)).off+1,none⟩=some (.int .i64 ((aQ l1 a).f1))∧w'.cell? ⟨(v.add ((a).toNat * 3)).block,(v.add ((a).toNat * 3)).off+2,none⟩=some (.int .i64 ((aQ l1 a).f2))) (ds:= []) (upto 10 0) (by kernel_rfl) rfl rfl ⟨((HB.out.cell (World.block_lt_of_cell? w _ l)).trans l),((HB.out.cell (World.block_lt_of_cell? w _ j)).trans j),((HB.out.cell (World.block_lt_of_cell? w _ g)).trans g),((HB.out.cell (World.block_lt_of_cell? w _ t)).trans t),((HB.out.cell (World.block_lt_of_cell? w _ s)).trans s),((HB.out.cell (World.block_lt_of_cell? w _ q)).trans q)⟩ (fun hHeld=> ?_);refine cO bQ.tab6 bQ.bits6 (fun HT_ HW_=> ?_)
        generalize wr.drew=w9 at HB b c d m o p hHeld⊢
        repeat(first|refine vN ?_|refine pN ?_|refine tN ?_)
        refine fo (i:=8) (N:=some 25) (upto 10 9) rfl rfl (d9 HT_.out (by kernel_rfl)) (by decide) (fun K hK=> ?_)
        refine gs Tryz.func170 #[.agg #[.int .i64 ((aQ l0 a).f0), .int .i64 ((aQ l0 a).f1), .int .i64 ((aQ l0 a).f2)], .agg #[.int .i64 ((aQ l1 a).f0), .int .i64 ((aQ l1 a).f1), .int .i64 ((aQ l1 a).f2)]] rfl rfl ?_
        with_reducible refine(jd.calls ((aQ l0 a).f0) ((aQ l0 a).f1) ((aQ l0 a).f2) ((aQ l1 a).f0) ((aQ l1 a).f1) ((aQ l1 a).f2) true _ A7.out).mono ?_
        rintro e Y ⟨rfl,hb⟩
        refine⟨_,rfl, ?_⟩
        replace HB:=hs HB hb
        refine hK.out _ _ ⟨((HB.out.cell (World.block_lt_of_cell? w _ l)).trans l),((HB.out.cell (World.block_lt_of_cell? w _ j)).trans j),((HB.out.cell (World.block_lt_of_cell? w _ g)).trans g),((HB.out.cell (World.block_lt_of_cell? w _ t)).trans t),((HB.out.cell (World.block_lt_of_cell? w _ s)).trans s),((HB.out.cell (World.block_lt_of_cell? w _ q)).trans q)⟩ (fun hHeld=> ?_)
        clear hK K
        refine no 25 ?_
        repeat(first|refine vN ?_|refine pN ?_|refine tN ?_)
        refine eQ (dN HT_.out (by kernel_rfl)) ?_
        try go_wp2
        go_roundg k1
        case measure=>have:=G.out;omega
        case rel=>exact⟨(wrap64 (a+1)),(by first|rfl|(simp;done)|(simp[*];done)),H',⟨by have:=G.out;omega⟩,⟨bl⟩⟩
       replace c8:=Bool.eq_false_iff.mpr c8
       subst c8
       replace H:=ie H
       obtain rfl:=Option.some.inj H;clear H
       try go_wp2
       replace HB:=Aside0.mk (aC HB.out)
       have x:0≤(a:Int):=od
       have y:a<(l0.length:Int):=od
       obtain⟨u,B,b,c,d⟩:=iD E.out a x y
       have g:=d
       have j:=c
       have l:=b
       cases B
       obtain⟨b,c,d⟩:=hc3 HB b c d
       replace x:=eq_true x
       replace y:=eq_true y
       have z:0≤(a:Int):=od
       have A:a<(l1.length:Int):=od
       obtain⟨v,D,m,o,p⟩:=iD HR1.out a z A
       have q:=p
       have s:=o
       have t:=m
       cases D
       obtain⟨m,o,p⟩:=hc3 HB m o p
       replace z:=eq_true z
       replace A:=eq_true A
       refine dR (n:=10) (S:=fun w' =>w'.cell? (u.add ((a).toNat * 3))=some (.int .i64 ((aQ l0 a).f0))∧w'.cell? ⟨(u.add ((a).toNat * 3)).block,(u.add ((a).toNat * 3)).off+1,none⟩=some (.int .i64 ((aQ l0 a).f1))∧w'.cell? ⟨(u.add ((a).toNat * 3)).block,(u.add ((a).toNat * 3)).off+2,none⟩=some (.int .i64 ((aQ l0 a).f2))∧w'.cell? (v.add ((a).toNat * 3))=some (.int .i64 ((aQ l1 a).f0))∧w'.cell? ⟨(v.add ((a).toNat * 3)).block,(v.add ((a).toNat * 3)).off+1,none⟩=some (.int .i64 ((aQ l1 a).f1))∧w'.cell? ⟨(v.add ((a).toNat * 3)).block,(v.add ((a).toNat * 3)).off+2,none⟩=some (.int .i64 ((aQ l1 a).f2))) (ds:= []) (upto 10 0) (by kernel_rfl) rfl rfl ⟨((HB.out.cell (World.block_lt_of_cell? w _ l)).trans l),((HB.out.cell (World.block_lt_of_cell? w _ j)).trans j),((HB.out.cell (World.block_lt_of_cell? w _ g)).trans g),((HB.out.cell (World.block_lt_of_cell? w _ t)).trans t),((HB.out.cell (World.block_lt_of_cell? w _ s)).trans s),((HB.out.cell (World.block_lt_of_cell? w _ q)).trans q)⟩ (fun hHeld=> ?_);refine cO bQ.tab6 bQ.bits6 (fun HT_ HW_=> ?_)
       generalize wr.drew=Z at HB b c d m o p hHeld⊢
       repeat(first|refine vN ?_|refine pN ?_|refine tN ?_)
       refine fo (i:=8) (N:=some 25) (upto 10 9) rfl rfl (d9 HT_.out (by kernel_rfl)) (by decide) (fun K hK=> ?_)
       refine gs Tryz.func170 #[.agg #[.int .i64 ((aQ l0 a).f0), .int .i64 ((aQ l0 a).f1), .int .i64 ((aQ l0 a).f2)], .agg #[.int .i64 ((aQ l1 a).f0), .int .i64 ((aQ l1 a).f1), .int .i64 ((aQ l1 a).f2)]] rfl rfl ?_
       with_reducible refine(jd.calls ((aQ l0 a).f0) ((aQ l0 a).f1) ((aQ l0 a).f2) ((aQ l1 a).f0) ((aQ l1 a).f1) ((aQ l1 a).f2) false _ A7.out).mono ?_
       rintro e ab ⟨rfl,hb⟩
       refine⟨_,rfl, ?_⟩
       replace HB:=hs HB hb
       refine hK.out _ _ ⟨((HB.out.cell (World.block_lt_of_cell? w _ l)).trans l),((HB.out.cell (World.block_lt_of_cell? w _ j)).trans j),((HB.out.cell (World.block_lt_of_cell? w _ g)).trans g),((HB.out.cell (World.block_lt_of_cell? w _ t)).trans t),((HB.out.cell (World.block_lt_of_cell? w _ s)).trans s),((HB.out.cell (World.block_lt_of_cell? w _ q)).trans q)⟩ (fun hHeld=> ?_)
       clear hK K
       refine no 25 ?_
       repeat(first|refine vN ?_|refine pN ?_|refine tN ?_)
       refine eQ (dN HT_.out (by kernel_rfl)) ?_
       try go_wp2
       go_ret
       exact fin
      rw[if_neg c6]at H
      exact absurd H (by simp)
     rw[if_neg c5]at H
     exact absurd H (by simp)
    rw[if_neg c4]at H
    have M:decide (a<(l0.length:Int))=false:=decide_eq_false c4
    clear c4
    obtain rfl:=Option.some.inj H;clear H
    go_wp2
    go_ret
    exact fin
 rw[if_neg c3]at H
 have I:=beq_eq_false_iff_ne.mpr c3
 have J:=bne_iff_ne.mpr c3
 have L:(l0.length==l1.length)=false:=by first|simpa using c3|(simp at c3⊢;omega)
 obtain rfl:=Option.some.inj H;clear H
 go_enter Tryz.func152,Tryz.ntmps152
 go_wp2
 go_ret
 exact fin
set_option maxHeartbeats 8000000 in
set_option maxRecDepth 100000 in
theorem gU.calls (k:Nat) (c:Bool) (j:Option Addr) (l:Nat) (a:List Int) (o:Option Addr) (p:Nat) (g:List Int) (d:Bool) (m:Option Addr) (n:Nat) (b:List Int) (q:Option Addr) (s:Nat) (i:List Int) (r:Bool) (w:World) (A:Kd.C (Kd.int .i64) w j a.length a) (B:a.length≤l) (D:Kd.C (Kd.int .i64) w o g.length g) (E:g.length≤p) (G:Kd.C (Kd.int .i64) w m b.length b) (I:b.length≤n) (J:Kd.C (Kd.int .i64) w q i.length i) (K:i.length≤s) (h:gU.f k c a g d b i=some r):
  Calls Tryz.prog 23 #[.agg #[.bool c, .slice j a.length l, .slice o g.length p], .agg #[.bool d, .slice m b.length n, .slice q i.length s]] w fun e w' =>e= .returned (.bool r)∧Below w.heap.size w w' :=by
 have Y:=Tryz.underlying57
 have t:=Aside0.mk A
 have u:=Aside0.mk B
 clear A B
 have L:=Aside0.mk D
 have M:=Aside0.mk E
 clear D E
 have v:=Aside0.mk G
 have x:=Aside0.mk I
 clear G I
 have O:=Aside0.mk J
 have P:=Aside0.mk K
 clear J K
 have HB:=Aside0.mk (Below.refl w.heap.size w)
 have H:(if(c !=d)=true then(some false)else((bq.f k a b).bind fun y=>(if y=true then((bq.f k g i).bind fun z=>(if z=true then(some true)else(some false)))else(some false))))=some r:=h
 clear h
 by_cases c3:(c !=d)=true
 ·rw[if_pos c3]at H
  have U:(c !=d)=true:=c3
  (try(have W:decide (c=d)=false:=by simpa using c3))
  (try(have X:(c==d)=false:=by simpa using c3))
  (try(have Z: ¬(c=d):=by simpa using c3))
  clear c3
  obtain rfl:=Option.some.inj H;clear H
  go_enter Tryz.func23,Tryz.ntmps23
  go_wp2
  go_ret
  exact fin
 rw[if_neg c3]at H
 have U:(c !=d)=false:=by simpa using c3
 (try(have W:decide (c=d)=true:=by simpa using c3))
 (try(have X:(c==d)=true:=by simpa using c3))
 clear c3
 obtain⟨y,A9,H⟩:=ob H
 by_cases c10:y=true
 ·subst c10
  replace H:=it H
  obtain⟨z,T,H⟩:=ob H
  by_cases c12:z=true
  ·subst c12
   replace H:=it H
   obtain rfl:=Option.some.inj H;clear H
   go_enter Tryz.func23,Tryz.ntmps23
   go_wp2_with (first|(refine gl (some 14) Tryz.func37 #[.slice j a.length l, .slice m b.length n] rfl ?_;(with_reducible refine(bq.calls k _ _ a _ _ b true _ (cb t.out) u.out (cb v.out) x.out A9.out).mono ?_);rintro e w' ⟨rfl,⟨nd,rfl⟩⟩;refine⟨_,rfl, ?_⟩)|(refine gl (some 20) Tryz.func37 #[.slice o g.length p, .slice q i.length s] rfl ?_;(with_reducible refine(bq.calls k _ _ g _ _ i true _ (cb L.out) M.out (cb O.out) P.out T.out).mono ?_);rintro e w' ⟨rfl,⟨nd,rfl⟩⟩;refine⟨_,rfl, ?_⟩))
   go_ret
   exact fin
  replace c12:=Bool.eq_false_iff.mpr c12
  subst c12
  replace H:=ie H
  obtain rfl:=Option.some.inj H;clear H
  go_enter Tryz.func23,Tryz.ntmps23
  go_wp2_with (first|(refine gl (some 14) Tryz.func37 #[.slice j a.length l, .slice m b.length n] rfl ?_;(with_reducible refine(bq.calls k _ _ a _ _ b true _ (cb t.out) u.out (cb v.out) x.out A9.out).mono ?_);rintro e w' ⟨rfl,⟨nd,rfl⟩⟩;refine⟨_,rfl, ?_⟩)|(refine gl (some 20) Tryz.func37 #[.slice o g.length p, .slice q i.length s] rfl ?_;(with_reducible refine(bq.calls k _ _ g _ _ i false _ (cb L.out) M.out (cb O.out) P.out T.out).mono ?_);rintro e w' ⟨rfl,⟨nd,rfl⟩⟩;refine⟨_,rfl, ?_⟩))
  go_ret
  exact fin
 replace c10:=Bool.eq_false_iff.mpr c10
 subst c10
 replace H:=ie H
 obtain rfl:=Option.some.inj H;clear H
 go_enter Tryz.func23,Tryz.ntmps23
 go_wp2_with (first|(refine gl (some 14) Tryz.func37 #[.slice j a.length l, .slice m b.length n] rfl ?_;(with_reducible refine(bq.calls k _ _ a _ _ b false _ (cb t.out) u.out (cb v.out) x.out A9.out).mono ?_);rintro e w' ⟨rfl,⟨nd,rfl⟩⟩;refine⟨_,rfl, ?_⟩))
 go_ret
 exact fin
def bM.T6:Bool×List (List Nat×List Nat):=(true, [([], []),([], []),([0,1], [0,1]),([2], [2]),([], []),([], []),([4,5], [4,5]),([6], [6]),([3,7], [3,7]),([8], [8])])
def bM.B6:List Nat:= [0,0,3,7,0,0,48,112,255,511]
theorem bM.tab6:dJ .any (opsOf Tryz.f153 6)=bM.T6:=by kernel_rfl
theorem bM.bits6:dY bM.T6.2 bM.B6=true:=by kernel_rfl
set_option maxHeartbeats 8000000 in
set_option maxRecDepth 100000 in
theorem bM.calls (k:Nat) (A0:Option Addr) (c0:Nat) (l0:List (S57)) (A1:Option Addr) (c1:Nat) (l1:List (S57)) (r:Bool) (w:World) (hr0:Kd.C k57 w A0 l0.length l0) (hc0:l0.length≤c0) (hr1:Kd.C k57 w A1 l1.length l1) (hc1:l1.length≤c1) (h:bM.f k l0 l1=some r):
  Calls Tryz.prog 153 #[.slice A0 l0.length c0, .slice A1 l1.length c1] w fun e w' =>e= .returned (.bool r)∧Below w.heap.size w w' :=by
 have aR:=Tryz.underlying57
 have aw:=Aside0.mk hr0
 have a1:=Aside0.mk hc0
 clear hr0 hc0
 have HR1:=Aside0.mk hr1
 have a2:=Aside0.mk hc1
 clear hr1 hc1
 have HB:=Aside0.mk (Below.refl w.heap.size w)
 have H:(if(l0.length:Int)=(l1.length:Int)then(bM.l0 k l0 l1 0)else(some false))=some r:=h
 clear h
 by_cases c3:(l0.length:Int)=(l1.length:Int)
 ·rw [if_pos c3]at H
  have aE:=beq_iff_eq.mpr c3
  have aF:=bne_eq_false_iff_eq.mpr c3
  have aL:(l0.length==l1.length)=true:=by first|simpa using c3|(simp at c3⊢;omega)
  clear c3
  have H' :=Aside0.mk H
  clear H
  go_enter Tryz.func153,Tryz.ntmps153
  go_wp2
  go_loopg [5] k (fun kq v5 w' => ∃(a:Int),v5= .int .i64 a∧Aside0 (bM.l0 kq l0 l1 a=some r)∧Aside0 (kq≤k)∧Aside0 (Below w.heap.size w w'))
  case atStart=>exact⟨(0),(by first|rfl|(simp;done)|(simp[*];done)),H',⟨Nat.le_refl _⟩,⟨bl⟩⟩
  case round=>
   clear H'
   obtain⟨a,rfl,HA,aB,HB⟩:=hrel
   cases gk with
   |zero=>exact absurd HA.out (by simp[bM.l0])
   | succ k1=>
    have H:=HA.out
    clear HA
    simp only[bM.l0]at H
    by_cases c4:a<(l0.length:Int)
    ·rw [if_pos c4]at H
     have aO:decide (a<(l0.length:Int))=true:=decide_eq_true c4
     clear c4
     by_cases c5:0≤a
     ·rw[if_pos c5]at H
      have aS:decide (0≤a)=true:=decide_eq_true c5
      clear c5
      by_cases c6:a<(l1.length:Int)
      ·rw[if_pos c6]at H
       have a0:decide (a<(l1.length:Int))=true:=decide_eq_true c6
       clear c6
       obtain⟨aP,A7,H⟩:=ob H
       by_cases c8:aP=true
       ·subst c8
        replace H:=it H
        have H' :=Aside0.mk H
        clear H
        try go_wp2
        replace HB:=Aside0.mk (aC HB.out)
        have ab:0≤(a:Int):=od
        have ac:a<(l0.length:Int):=od
        obtain⟨u,O,P,T,U,aq,b,c,d,x,y,z,A⟩:=jO aw.out a ab ac
        have g:=d
        have j:=c
        have l:=b
        cases aq
        obtain⟨b,c,d⟩:=hc3 HB b c d
        have B:=Aside0.mk y
        have am:=Aside0.mk x
        clear y x
        have D:=Aside0.mk A
        have an:=Aside0.mk z
        clear A z
        replace ab:=eq_true ab
        replace ac:=eq_true ac
        have ad:0≤(a:Int):=od
        have al:a<(l1.length:Int):=od
        obtain⟨v,W,X,Y,Z,ar,m,o,p,E,G,I,J⟩:=jO HR1.out a ad al
        have q:=p
        have s:=o
        have t:=m
        cases ar
        obtain⟨m,o,p⟩:=hc3 HB m o p
        have L:=Aside0.mk G
        have ao:=Aside0.mk E
        clear G E
        have M:=Aside0.mk J
        have ap:=Aside0.mk I
        clear J I
        replace ad:=eq_true ad
        replace al:=eq_true al
        refine dR (n:=10) (S:=fun w' =>w'.cell? (u.add ((a).toNat * 3))=some (.bool ((aX l0 a).f0))∧w'.cell? ⟨(u.add ((a).toNat * 3)).block,(u.add ((a).toNat * 3)).off+1,none⟩=some (.slice O ((aX l0 a).f1).length P)∧w'.cell? ⟨(u.add ((a).toNat * 3)).block,(u.add ((a).toNat * 3)).off+2,none⟩=some (.slice T ((aX l0 a).f2).length U)∧w'.cell? (v.add ((a).toNat * 3))=some (.bool ((aX l1 a).f0))∧w'.cell? ⟨(v.add ((a).toNat * 3)).block,(v.add ((a).toNat * 3)).off+1,none⟩=some (.slice W ((aX l1 a).f1).length X)∧w'.cell? ⟨(v.add ((a).toNat * 3)).block,(v.add ((a).toNat * 3)).off+2,none⟩=some (.slice Y ((aX l1 a).f2).length Z)) (ds:= []) (upto 10 0) (by kernel_rfl) rfl rfl ⟨((HB.out.cell (World.block_lt_of_cell? w _ l)).trans l),((HB.out.cell (World.block_lt_of_cell? w _ j)).trans j),((HB.out.cell (World.block_lt_of_cell? w _ g)).trans g),((HB.out.cell (World.block_lt_of_cell? w _ t)).trans t),((HB.out.cell (World.block_lt_of_cell? w _ s)).trans s),((HB.out.cell (World.block_lt_of_cell? w _ q)).trans q)⟩ (fun hHeld=> ?_);refine cO bM.tab6 bM.bits6 (fun HT_ HW_=> ?_)
        generalize wr.drew=w9 at HB B D L M b c d m o p hHeld⊢
        repeat(first|refine vN ?_|refine pN ?_|refine tN ?_)
        refine fo (i:=8) (N:=some 25) (upto 10 9) rfl rfl (d9 HT_.out (by kernel_rfl)) (by decide) (fun K hK=> ?_)
        refine gs Tryz.func23 #[.agg #[.bool ((aX l0 a).f0), .slice O ((aX l0 a).f1).length P, .slice T ((aX l0 a).f2).length U], .agg #[.bool ((aX l1 a).f0), .slice W ((aX l1 a).f1).length X, .slice Y ((aX l1 a).f2).length Z]] rfl rfl ?_
        with_reducible refine(gU.calls k1 ((aX l0 a).f0) _ _ ((aX l0 a).f1) _ _ ((aX l0 a).f2) ((aX l1 a).f0) _ _ ((aX l1 a).f1) _ _ ((aX l1 a).f2) true _ (cb B.out) am.out (cb D.out) an.out (cb L.out) ao.out (cb M.out) ap.out A7.out).mono ?_
        rintro e a3 ⟨rfl,hb⟩
        refine⟨_,rfl, ?_⟩
        replace HB:=hs HB hb
        refine hK.out _ _ ⟨((HB.out.cell (World.block_lt_of_cell? w _ l)).trans l),((HB.out.cell (World.block_lt_of_cell? w _ j)).trans j),((HB.out.cell (World.block_lt_of_cell? w _ g)).trans g),((HB.out.cell (World.block_lt_of_cell? w _ t)).trans t),((HB.out.cell (World.block_lt_of_cell? w _ s)).trans s),((HB.out.cell (World.block_lt_of_cell? w _ q)).trans q)⟩ (fun hHeld=> ?_)
        clear hK K
        refine no 25 ?_
        repeat(first|refine vN ?_|refine pN ?_|refine tN ?_)
        refine eQ (dN HT_.out (by kernel_rfl)) ?_
        try go_wp2
        go_roundg k1
        case measure=>have:=aB.out;omega
        case rel=>exact⟨(wrap64 (a+1)),(by first|rfl|(simp;done)|(simp[*];done)),H',⟨by have:=aB.out;omega⟩,⟨bl⟩⟩
       replace c8:=Bool.eq_false_iff.mpr c8
       subst c8
       replace H:=ie H
       obtain rfl:=Option.some.inj H;clear H
       try go_wp2
       replace HB:=Aside0.mk (aC HB.out)
       have ab:0≤(a:Int):=od
       have ac:a<(l0.length:Int):=od
       obtain⟨u,O,P,T,U,aq,b,c,d,x,y,z,A⟩:=jO aw.out a ab ac
       have g:=d
       have j:=c
       have l:=b
       cases aq
       obtain⟨b,c,d⟩:=hc3 HB b c d
       have B:=Aside0.mk y
       have am:=Aside0.mk x
       clear y x
       have D:=Aside0.mk A
       have an:=Aside0.mk z
       clear A z
       replace ab:=eq_true ab
       replace ac:=eq_true ac
       have ad:0≤(a:Int):=od
       have al:a<(l1.length:Int):=od
       obtain⟨v,W,X,Y,Z,ar,m,o,p,E,G,I,J⟩:=jO HR1.out a ad al
       have q:=p
       have s:=o
       have t:=m
       cases ar
       obtain⟨m,o,p⟩:=hc3 HB m o p
       have L:=Aside0.mk G
       have ao:=Aside0.mk E
       clear G E
       have M:=Aside0.mk J
       have ap:=Aside0.mk I
       clear J I
       replace ad:=eq_true ad
       replace al:=eq_true al
       refine dR (n:=10) (S:=fun w' =>w'.cell? (u.add ((a).toNat * 3))=some (.bool ((aX l0 a).f0))∧w'.cell? ⟨(u.add ((a).toNat * 3)).block,(u.add ((a).toNat * 3)).off+1,none⟩=some (.slice O ((aX l0 a).f1).length P)∧w'.cell? ⟨(u.add ((a).toNat * 3)).block,(u.add ((a).toNat * 3)).off+2,none⟩=some (.slice T ((aX l0 a).f2).length U)∧w'.cell? (v.add ((a).toNat * 3))=some (.bool ((aX l1 a).f0))∧w'.cell? ⟨(v.add ((a).toNat * 3)).block,(v.add ((a).toNat * 3)).off+1,none⟩=some (.slice W ((aX l1 a).f1).length X)∧w'.cell? ⟨(v.add ((a).toNat * 3)).block,(v.add ((a).toNat * 3)).off+2,none⟩=some (.slice Y ((aX l1 a).f2).length Z)) (ds:= []) (upto 10 0) (by kernel_rfl) rfl rfl ⟨((HB.out.cell (World.block_lt_of_cell? w _ l)).trans l),((HB.out.cell (World.block_lt_of_cell? w _ j)).trans j),((HB.out.cell (World.block_lt_of_cell? w _ g)).trans g),((HB.out.cell (World.block_lt_of_cell? w _ t)).trans t),((HB.out.cell (World.block_lt_of_cell? w _ s)).trans s),((HB.out.cell (World.block_lt_of_cell? w _ q)).trans q)⟩ (fun hHeld=> ?_);refine cO bM.tab6 bM.bits6 (fun HT_ HW_=> ?_)
       generalize wr.drew=a4 at HB B D L M b c d m o p hHeld⊢
       repeat(first|refine vN ?_|refine pN ?_|refine tN ?_)
       refine fo (i:=8) (N:=some 25) (upto 10 9) rfl rfl (d9 HT_.out (by kernel_rfl)) (by decide) (fun K hK=> ?_)
       refine gs Tryz.func23 #[.agg #[.bool ((aX l0 a).f0), .slice O ((aX l0 a).f1).length P, .slice T ((aX l0 a).f2).length U], .agg #[.bool ((aX l1 a).f0), .slice W ((aX l1 a).f1).length X, .slice Y ((aX l1 a).f2).length Z]] rfl rfl ?_
       with_reducible refine(gU.calls k1 ((aX l0 a).f0) _ _ ((aX l0 a).f1) _ _ ((aX l0 a).f2) ((aX l1 a).f0) _ _ ((aX l1 a).f1) _ _ ((aX l1 a).f2) false _ (cb B.out) am.out (cb D.out) an.out (cb L.out) ao.out (cb M.out) ap.out A7.out).mono ?_
       rintro e a5 ⟨rfl,hb⟩
       refine⟨_,rfl, ?_⟩
       replace HB:=hs HB hb
       refine hK.out _ _ ⟨((HB.out.cell (World.block_lt_of_cell? w _ l)).trans l),((HB.out.cell (World.block_lt_of_cell? w _ j)).trans j),((HB.out.cell (World.block_lt_of_cell? w _ g)).trans g),((HB.out.cell (World.block_lt_of_cell? w _ t)).trans t),((HB.out.cell (World.block_lt_of_cell? w _ s)).trans s),((HB.out.cell (World.block_lt_of_cell? w _ q)).trans q)⟩ (fun hHeld=> ?_)
       clear hK K
       refine no 25 ?_
       repeat(first|refine vN ?_|refine pN ?_|refine tN ?_)
       refine eQ (dN HT_.out (by kernel_rfl)) ?_
       try go_wp2
       go_ret
       exact fin
      rw[if_neg c6]at H
      exact absurd H (by simp)
     rw[if_neg c5]at H
     exact absurd H (by simp)
    rw[if_neg c4]at H
    have aO:decide (a<(l0.length:Int))=false:=decide_eq_false c4
    clear c4
    obtain rfl:=Option.some.inj H;clear H
    go_wp2
    go_ret
    exact fin
 rw[if_neg c3]at H
 have aE:=beq_eq_false_iff_ne.mpr c3
 have aF:=bne_iff_ne.mpr c3
 have aL:(l0.length==l1.length)=false:=by first|simpa using c3|(simp at c3⊢;omega)
 obtain rfl:=Option.some.inj H;clear H
 go_enter Tryz.func153,Tryz.ntmps153
 go_wp2
 go_ret
 exact fin
set_option maxHeartbeats 8000000 in
set_option maxRecDepth 100000 in
theorem iB.calls (a:Int) (b:Int) (c:Int) (d:Int) (g:Int) (i:Int) (j:Int) (k:Int) (r:Bool) (w:World) (h:iB.f a b c d g i j k=some r):
  Calls Tryz.prog 171 #[.agg #[.int .i64 a, .int .i64 b, .int .i64 c, .int .i64 d], .agg #[.int .i64 g, .int .i64 i, .int .i64 j, .int .i64 k]] w fun e w' =>e= .returned (.bool r)∧Below w.heap.size w w' :=by
 have u:=Tryz.underlying181
 have HB:=Aside0.mk (Below.refl w.heap.size w)
 have H:(if a=g then(if b=i then(if c=j then(if d=k then(some true)else(some false))else(some false))else(some false))else(some false))=some r:=h
 clear h
 by_cases c3:a=g
 ·rw [if_pos c3]at H
  have l:=beq_iff_eq.mpr c3
  have m:=bne_eq_false_iff_eq.mpr c3
  clear c3
  by_cases c4:b=i
  ·rw[if_pos c4]at H
   have n:=beq_iff_eq.mpr c4
   have o:=bne_eq_false_iff_eq.mpr c4
   clear c4
   by_cases c5:c=j
   ·rw[if_pos c5]at H
    have p:=beq_iff_eq.mpr c5
    have q:=bne_eq_false_iff_eq.mpr c5
    clear c5
    by_cases c6:d=k
    ·rw[if_pos c6]at H
     have s:=beq_iff_eq.mpr c6
     have t:=bne_eq_false_iff_eq.mpr c6
     clear c6
     obtain rfl:=Option.some.inj H;clear H
     go_enter Tryz.func171,Tryz.ntmps171
     go_wp2
     go_ret
     exact fin
    rw[if_neg c6]at H
    have s:=beq_eq_false_iff_ne.mpr c6
    have t:=bne_iff_ne.mpr c6
    obtain rfl:=Option.some.inj H;clear H
    go_enter Tryz.func171,Tryz.ntmps171
    go_wp2
    go_ret
    exact fin
   rw[if_neg c5]at H
   have p:=beq_eq_false_iff_ne.mpr c5
   have q:=bne_iff_ne.mpr c5
   obtain rfl:=Option.some.inj H;clear H
   go_enter Tryz.func171,Tryz.ntmps171
   go_wp2
   go_ret
   exact fin
  rw[if_neg c4]at H
  have n:=beq_eq_false_iff_ne.mpr c4
  have o:=bne_iff_ne.mpr c4
  obtain rfl:=Option.some.inj H;clear H
  go_enter Tryz.func171,Tryz.ntmps171
  go_wp2
  go_ret
  exact fin
 rw[if_neg c3]at H
 have l:=beq_eq_false_iff_ne.mpr c3
 have m:=bne_iff_ne.mpr c3
 obtain rfl:=Option.some.inj H;clear H
 go_enter Tryz.func171,Tryz.ntmps171
 go_wp2
 go_ret
 exact fin
end Go.Proofs.YteinbmkgenhocaaGreat.P
end
