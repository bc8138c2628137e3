/- A part of the claim FnExactMachOk. -/
import Derived.Test.YteinbmkgenhocaaGreatCFnExactMachOk23
section
namespace Go.Proofs.YteinbmkgenhocaaGreat.P
open Go.RowKit Go.Proofs.YteinbmkgenhocaaGreatW.PrintWords Go.Proofs.YteinbmkgenhocaaGreatW.PrintLast Go.Proofs.YteinbmkgenhocaaGreatW.PrintMore
attribute [local go_sem] ah ai av ax af ag aj ak
set_option linter.unusedVariables false
set_option linter.unusedSimpArgs false
set_option maxHeartbeats 8000000 in
set_option maxRecDepth 100000 in
theorem jk.calls (a:Int) (b:Int) (c:Int) (d:Int) (g:Int) (i:Int) (r:Bool) (w:World) (h:jk.f a b c d g i=some r):
  Calls Tryz.prog 170 #[.agg #[.int .i64 a, .int .i64 b, .int .i64 c], .agg #[.int .i64 d, .int .i64 g, .int .i64 i]] w fun e w' =>e= .returned (.bool r)∧Below w.heap.size w w' :=by
 have p:=Tryz.underlying113
 have HB:=Aside0.mk (Below.refl w.heap.size w)
 have H:(if a=d then(if b=g then(if c=i then(some true)else(some false))else(some false))else(some false))=some r:=h
 clear h
 by_cases c3:a=d
 ·rw[if_pos c3]at H
  have j:=beq_iff_eq.mpr c3
  have k:=bne_eq_false_iff_eq.mpr c3
  clear c3
  by_cases c4:b=g
  ·rw[if_pos c4]at H
   have l:=beq_iff_eq.mpr c4
   have m:=bne_eq_false_iff_eq.mpr c4
   clear c4
   by_cases c5:c=i
   ·rw[if_pos c5]at H
    have n:=beq_iff_eq.mpr c5
    have o:=bne_eq_false_iff_eq.mpr c5
    clear c5
    obtain rfl:=Option.some.inj H;clear H
    go_enter Tryz.func170,Tryz.ntmps170
    go_wp2
    go_ret
    exact fin
   rw[if_neg c5]at H
   have n:=beq_eq_false_iff_ne.mpr c5
   have o:=bne_iff_ne.mpr c5
   obtain rfl:=Option.some.inj H;clear H
   go_enter Tryz.func170,Tryz.ntmps170
   go_wp2
   go_ret
   exact fin
  rw[if_neg c4]at H
  have l:=beq_eq_false_iff_ne.mpr c4
  have m:=bne_iff_ne.mpr c4
  obtain rfl:=Option.some.inj H;clear H
  go_enter Tryz.func170,Tryz.ntmps170
  go_wp2
  go_ret
  exact fin
 rw[if_neg c3]at H
 have j:=beq_eq_false_iff_ne.mpr c3
 have k:=bne_iff_ne.mpr c3
 obtain rfl:=Option.some.inj H;clear H
 go_enter Tryz.func170,Tryz.ntmps170
 go_wp2
 go_ret
 exact fin
def bZ.T6:Bool×List (List Nat×List Nat):=(true, [([], []),([], []),([0,1], [0,1]),([2], [2]),([], []),([], []),([4,5], [4,5]),([6], [6]),([3,7], [3,7]),([8], [8])])
def bZ.B6:List Nat:= [0,0,3,7,0,0,48,112,255,511]
theorem bZ.tab6:eU .any (opsOf Tryz.f152 6)=bZ.T6:=by kernel_rfl
theorem bZ.bits6:eQ bZ.T6.2 bZ.B6=true:=by kernel_rfl
set_option maxHeartbeats 8000000 in
set_option maxRecDepth 100000 in
theorem bZ.calls (k:Nat) (A0:Option Addr) (c0:Nat) (l0:List (S113)) (A1:Option Addr) (c1:Nat) (l1:List (S113)) (r:Bool) (w:World) (hr0:Kd.C fG w A0 l0.length l0) (hc0:l0.length≤c0) (hr1:Kd.C fG w A1 l1.length l1) (hc1:l1.length≤c1) (h:bZ.f k l0 l1=some r):
  Calls Tryz.prog 152 #[.slice A0 l0.length c0, .slice A1 l1.length c1] w fun e w' =>e= .returned (.bool r)∧Below w.heap.size w w' :=by
 have P:=Tryz.underlying113
 have E:=Aside0.mk hr0
 have W:=Aside0.mk hc0
 clear hr0 hc0
 have HR1:=Aside0.mk hr1
 have X:=Aside0.mk hc1
 clear hr1 hc1
 have HB:=Aside0.mk (Below.refl w.heap.size w)
 have H:(if(l0.length:Int)=(l1.length:Int)then(bZ.l0 k l0 l1 0)else(some false))=some r:=h
 clear h
 by_cases c3:(l0.length:Int)=(l1.length:Int)
 ·rw [if_pos c3]at H
  have I:=beq_iff_eq.mpr c3
  have J:=bne_eq_false_iff_eq.mpr c3
  have L:(l0.length==l1.length)=true:=by first|simpa using c3|(simp at c3⊢;omega)
  clear c3
  have H' :=Aside0.mk H
  clear H
  go_enter Tryz.func152,Tryz.ntmps152
  go_wp2
  go_loopg [5] k (fun kq v5 w' => ∃(a:Int),v5= .int .i64 a∧Aside0 (bZ.l0 kq l0 l1 a=some r)∧Aside0 (kq≤k)∧Aside0 (Below w.heap.size w w'))
  case atStart=>exact⟨(0),(by first|rfl|(simp;done)|(simp[*];done)),H',⟨Nat.le_refl _⟩,⟨bl⟩⟩
  case round=>
   clear H'
   obtain⟨a,rfl,HA,G,HB⟩:=hrel
   cases gk with
   |zero=>exact absurd HA.out (by simp[bZ.l0])
   | succ k1=>
    have H:=HA.out
    clear HA
    simp only[bZ.l0]at H
    by_cases c4:a<(l0.length:Int)
    ·rw [if_pos c4]at H
     have M:decide (a<(l0.length:Int))=true:=decide_eq_true c4
     clear c4
     by_cases c5:0≤a
     ·rw[if_pos c5]at H
      have T:decide (0≤a)=true:=decide_eq_true c5
      clear c5
      by_cases c6:a<(l1.length:Int)
      ·rw[if_pos c6]at H
       have U:decide (a<(l1.length:Int))=true:=decide_eq_true c6
       clear c6
       obtain⟨O,A7,H⟩:=ob H
       by_cases c8:O=true
       ·subst c8
        replace H:=it H
        have H' :=Aside0.mk H
        clear H
        try go_wp2
        replace HB:=Aside0.mk (ay HB.out)
        have x:0≤(a:Int):=od
        have y:a<(l0.length:Int):=od
        obtain⟨u,B,b,c,d⟩:=iR E.out a x y
        have g:=d
        have j:=c
        have l:=b
        cases B
        obtain⟨b,c,d⟩:=hc3 HB b c d
        replace x:=eq_true x
        replace y:=eq_true y
        have z:0≤(a:Int):=od
        have A:a<(l1.length:Int):=od
        obtain⟨v,D,m,o,p⟩:=iR HR1.out a z A
        have q:=p
        have s:=o
        have t:=m
        cases D
        obtain⟨m,o,p⟩:=hc3 HB m o p
        replace z:=eq_true z
        replace A:=eq_true A
        refine cB (n:=10) (S:=fun w' =>w'.cell? (u.add ((a).toNat * 3))=some (.int .i64 ((aQ l0 a).f0))∧w'.cell? ⟨(u.add ((a).toNat * 3)).block,(u.add ((a).toNat * 3)).off+1,none⟩=some (.int .i64 ((aQ l0 a).f1))∧w'.cell? ⟨(u.add ((a).toNat * 3)).block,(u.add ((a).toNat * 3)).off+2,none⟩=some (.int .i64 ((aQ l0 a).f2))∧w'.cell? (v.add ((a).toNat * 3))=some (.int .i64 ((aQ l1 a).f0))∧w'.cell? ⟨(v.add ((a).toNat * 3)).block,(v.add ((a).toNat * 3)).off+1,none⟩=some (.int .i64 ((aQ l1 a).f1))∧w'.cell? ⟨(v.add ((a).toNat * 3)).block,(v.add ((a).toNat * 3)).off+2,none⟩=some (.int .i64 ((aQ l1 a).f2))) (ds:= []) (upto 10 0) (by kernel_rfl) rfl rfl ⟨((HB.out.cell (World.block_lt_of_cell? w _ l)).trans l),((HB.out.cell (World.block_lt_of_cell? w _ j)).trans j),((HB.out.cell (World.block_lt_of_cell? w _ g)).trans g),((HB.out.cell (World.block_lt_of_cell? w _ t)).trans t),((HB.out.cell (World.block_lt_of_cell? w _ s)).trans s),((HB.out.cell (World.block_lt_of_cell? w _ q)).trans q)⟩ (fun hHeld=> ?_);refine bB bZ.tab6 bZ.bits6 (fun HT_ HW_=> ?_)
        generalize wr.drew=w9 at HB b c d m o p hHeld⊢
        repeat(first|refine vN ?_|refine pN ?_|refine tN ?_)
        refine cO (i:=8) (N:=some 25) (upto 10 9) rfl rfl (bI HT_.out (by kernel_rfl)) (by decide) (fun K hK=> ?_)
        refine gs Tryz.func170 #[.agg #[.int .i64 ((aQ l0 a).f0), .int .i64 ((aQ l0 a).f1), .int .i64 ((aQ l0 a).f2)], .agg #[.int .i64 ((aQ l1 a).f0), .int .i64 ((aQ l1 a).f1), .int .i64 ((aQ l1 a).f2)]] rfl rfl ?_
        with_reducible refine(jk.calls ((aQ l0 a).f0) ((aQ l0 a).f1) ((aQ l0 a).f2) ((aQ l1 a).f0) ((aQ l1 a).f1) ((aQ l1 a).f2) true _ A7.out).mono ?_
        rintro e Y ⟨rfl,hb⟩
        refine⟨_,rfl, ?_⟩
        replace HB:=hs HB hb
        refine hK.out _ _ ⟨((HB.out.cell (World.block_lt_of_cell? w _ l)).trans l),((HB.out.cell (World.block_lt_of_cell? w _ j)).trans j),((HB.out.cell (World.block_lt_of_cell? w _ g)).trans g),((HB.out.cell (World.block_lt_of_cell? w _ t)).trans t),((HB.out.cell (World.block_lt_of_cell? w _ s)).trans s),((HB.out.cell (World.block_lt_of_cell? w _ q)).trans q)⟩ (fun hHeld=> ?_)
        clear hK K
        refine no 25 ?_
        repeat(first|refine vN ?_|refine pN ?_|refine tN ?_)
        refine dD (bX HT_.out (by kernel_rfl)) ?_
        try go_wp2
        go_roundg k1
        case measure=>have:=G.out;omega
        case rel=>exact⟨(wrap64 (a+1)),(by first|rfl|(simp;done)|(simp[*];done)),H',⟨by have:=G.out;omega⟩,⟨bl⟩⟩
       replace c8:=Bool.eq_false_iff.mpr c8
       subst c8
       replace H:=ie H
       obtain rfl:=Option.some.inj H;clear H
       try go_wp2
       replace HB:=Aside0.mk (ay HB.out)
       have x:0≤(a:Int):=od
       have y:a<(l0.length:Int):=od
       obtain⟨u,B,b,c,d⟩:=iR E.out a x y
       have g:=d
       have j:=c
       have l:=b
       cases B
       obtain⟨b,c,d⟩:=hc3 HB b c d
       replace x:=eq_true x
       replace y:=eq_true y
       have z:0≤(a:Int):=od
       have A:a<(l1.length:Int):=od
       obtain⟨v,D,m,o,p⟩:=iR HR1.out a z A
       have q:=p
       have s:=o
       have t:=m
       cases D
       obtain⟨m,o,p⟩:=hc3 HB m o p
       replace z:=eq_true z
       replace A:=eq_true A
       refine cB (n:=10) (S:=fun w' =>w'.cell? (u.add ((a).toNat * 3))=some (.int .i64 ((aQ l0 a).f0))∧w'.cell? ⟨(u.add ((a).toNat * 3)).block,(u.add ((a).toNat * 3)).off+1,none⟩=some (.int .i64 ((aQ l0 a).f1))∧w'.cell? ⟨(u.add ((a).toNat * 3)).block,(u.add ((a).toNat * 3)).off+2,none⟩=some (.int .i64 ((aQ l0 a).f2))∧w'.cell? (v.add ((a).toNat * 3))=some (.int .i64 ((aQ l1 a).f0))∧w'.cell? ⟨(v.add ((a).toNat * 3)).block,(v.add ((a).toNat * 3)).off+1,none⟩=some (.int .i64 ((aQ l1 a).f1))∧w'.cell? ⟨(v.add ((a).toNat * 3)).block,(v.add ((a).toNat * 3)).off+2,none⟩=some (.int .i64 ((aQ l1 a).f2))) (ds:= []) (upto 10 0) (by kernel_rfl) rfl rfl ⟨((HB.out.cell (World.block_lt_of_cell? w _ l)).trans l),((HB.out.cell (World.block_lt_of_cell? w _ j)).trans j),((HB.out.cell (World.block_lt_of_cell? w _ g)).trans g),((HB.out.cell (World.block_lt_of_cell? w _ t)).trans t),((HB.out.cell (World.block_lt_of_cell? w _ s)).trans s),((HB.out.cell (World.block_lt_of_cell? w _ q)).trans q)⟩ (fun hHeld=> ?_);refine bB bZ.tab6 bZ.bits6 (fun HT_ HW_=> ?_)
       generalize wr.drew=Z at HB b c d m o p hHeld⊢
       repeat(first|refine vN ?_|refine pN ?_|refine tN ?_)
       refine cO (i:=8) (N:=some 25) (upto 10 9) rfl rfl (bI HT_.out (by kernel_rfl)) (by decide) (fun K hK=> ?_)
       refine gs Tryz.func170 #[.agg #[.int .i64 ((aQ l0 a).f0), .int .i64 ((aQ l0 a).f1), .int .i64 ((aQ l0 a).f2)], .agg #[.int .i64 ((aQ l1 a).f0), .int .i64 ((aQ l1 a).f1), .int .i64 ((aQ l1 a).f2)]] rfl rfl ?_
       with_reducible refine(jk.calls ((aQ l0 a).f0) ((aQ l0 a).f1) ((aQ l0 a).f2) ((aQ l1 a).f0) ((aQ l1 a).f1) ((aQ l1 a).f2) false _ A7.out).mono ?_
       rintro e ab ⟨rfl,hb⟩
       refine⟨_,rfl, ?_⟩
       replace HB:=hs HB hb
       refine hK.out _ _ ⟨((HB.out.cell (World.block_lt_of_cell? w _ l)).trans l),((HB.out.cell (World.block_lt_of_cell? w _ j)).trans j),((HB.out.cell (World.block_lt_of_cell? w _ g)).trans g),((HB.out.cell (World.block_lt_of_cell? w _ t)).trans t),((HB.out.cell (World.block_lt_of_cell? w _ s)).trans s),((HB.out.cell (World.block_lt_of_cell? w _ q)).trans q)⟩ (fun hHeld=> ?_)
       clear hK K
       refine no 25 ?_
       repeat(first|refine vN ?_|refine pN ?_|refine tN ?_)
       refine dD (bX HT_.out (by kernel_rfl)) ?_
       try go_wp2
       go_ret
       exact fin
      rw[if_neg c6]at H
      exact absurd H (by simp)
     rw[if_neg c5]at H
     exact absurd H (by simp)
    rw[if_neg c4]at H
    have M:decide (a<(l0.length:Int))=false:=decide_eq_false c4
    clear c4
    obtain rfl:=Option.some.inj H;clear H
    go_wp2
    go_ret
    exact fin
 rw[if_neg c3]at H
 have I:=beq_eq_false_iff_ne.mpr c3
 have J:=bne_iff_ne.mpr c3
 have L:(l0.length==l1.length)=false:=by first|simpa using c3|(simp at c3⊢;omega)
 obtain rfl:=Option.some.inj H;clear H
 go_enter Tryz.func152,Tryz.ntmps152
 go_wp2
 go_ret
 exact fin
set_option maxHeartbeats 8000000 in
set_option maxRecDepth 100000 in
theorem iB.calls (k:Nat) (c:Bool) (j:Option Addr) (l:Nat) (a:List Int) (o:Option Addr) (p:Nat) (g:List Int) (d:Bool) (m:Option Addr) (n:Nat) (b:List Int) (q:Option Addr) (s:Nat) (i:List Int) (r:Bool) (w:World) (A:Kd.C (Kd.int .i64) w j a.length a) (B:a.length≤l) (D:Kd.C (Kd.int .i64) w o g.length g) (E:g.length≤p) (G:Kd.C (Kd.int .i64) w m b.length b) (I:b.length≤n) (J:Kd.C (Kd.int .i64) w q i.length i) (K:i.length≤s) (h:iB.f k c a g d b i=some r):
  Calls Tryz.prog 23 #[.agg #[.bool c, .slice j a.length l, .slice o g.length p], .agg #[.bool d, .slice m b.length n, .slice q i.length s]] w fun e w' =>e= .returned (.bool r)∧Below w.heap.size w w' :=by
 have Y:=Tryz.underlying57
 have t:=Aside0.mk A
 have u:=Aside0.mk B
 clear A B
 have L:=Aside0.mk D
 have M:=Aside0.mk E
 clear D E
 have v:=Aside0.mk G
 have x:=Aside0.mk I
 clear G I
 have O:=Aside0.mk J
 have P:=Aside0.mk K
 clear J K
 have HB:=Aside0.mk (Below.refl w.heap.size w)
 have H:(if(c !=d)=true then(some false)else((bA.f k a b).bind fun y=>(if y=true then((bA.f k g i).bind fun z=>(if z=true then(some true)else(some false)))else(some false))))=some r:=h
 clear h
 by_cases c3:(c !=d)=true
 ·rw[if_pos c3]at H
  have U:(c !=d)=true:=c3
  (try(have W:decide (c=d)=false:=by simpa using c3))
  (try(have X:(c==d)=false:=by simpa using c3))
  (try(have Z: ¬(c=d):=by simpa using c3))
  clear c3
  obtain rfl:=Option.some.inj H;clear H
  go_enter Tryz.func23,Tryz.ntmps23
  go_wp2
  go_ret
  exact fin
 rw[if_neg c3]at H
 have U:(c !=d)=false:=by simpa using c3
 (try(have W:decide (c=d)=true:=by simpa using c3))
 (try(have X:(c==d)=true:=by simpa using c3))
 clear c3
 obtain⟨y,A9,H⟩:=ob H
 by_cases c10:y=true
 ·subst c10
  replace H:=it H
  obtain⟨z,T,H⟩:=ob H
  by_cases c12:z=true
  ·subst c12
   replace H:=it H
   obtain rfl:=Option.some.inj H;clear H
   go_enter Tryz.func23,Tryz.ntmps23
   go_wp2_with (first|(refine gl (some 14) Tryz.func37 #[.slice j a.length l, .slice m b.length n] rfl ?_;(with_reducible refine(bA.calls k _ _ a _ _ b true _ (cb t.out) u.out (cb v.out) x.out A9.out).mono ?_);rintro e w' ⟨rfl,⟨nd,rfl⟩⟩;refine⟨_,rfl, ?_⟩)|(refine gl (some 20) Tryz.func37 #[.slice o g.length p, .slice q i.length s] rfl ?_;(with_reducible refine(bA.calls k _ _ g _ _ i true _ (cb L.out) M.out (cb O.out) P.out T.out).mono ?_);rintro e w' ⟨rfl,⟨nd,rfl⟩⟩;refine⟨_,rfl, ?_⟩))
   go_ret
   exact fin
  replace c12:=Bool.eq_false_iff.mpr c12
  subst c12
  replace H:=ie H
  obtain rfl:=Option.some.inj H;clear H
  go_enter Tryz.func23,Tryz.ntmps23
  go_wp2_with (first|(refine gl (some 14) Tryz.func37 #[.slice j a.length l, .slice m b.length n] rfl ?_;(with_reducible refine(bA.calls k _ _ a _ _ b true _ (cb t.out) u.out (cb v.out) x.out A9.out).mono ?_);rintro e w' ⟨rfl,⟨nd,rfl⟩⟩;refine⟨_,rfl, ?_⟩)|(refine gl (some 20) Tryz.func37 #[.slice o g.length p, .slice q i.length s] rfl ?_;(with_reducible refine(bA.calls k _ _ g _ _ i false _ (cb L.out) M.out (cb O.out) P.out T.out).mono ?_);rintro e w' ⟨rfl,⟨nd,rfl⟩⟩;refine⟨_,rfl, ?_⟩))
  go_ret
  exact fin
 replace c10:=Bool.eq_false_iff.mpr c10
 subst c10
 replace H:=ie H
 obtain rfl:=Option.some.inj H;clear H
 go_enter Tryz.func23,Tryz.ntmps23
 go_wp2_with (first|(refine gl (some 14) Tryz.func37 #[.slice j a.length l, .slice m b.length n] rfl ?_;(with_reducible refine(bA.calls k _ _ a _ _ b false _ (cb t.out) u.out (cb v.out) x.out A9.out).mono ?_);rintro e w' ⟨rfl,⟨nd,rfl⟩⟩;refine⟨_,rfl, ?_⟩))
 go_ret
 exact fin
def bR.T6:Bool×List (List Nat×List Nat):=(true, [([], []),([], []),([0,1], [0,1]),([2], [2]),([], []),([], []),([4,5], [4,5]),([6], [6]),([3,7], [3,7]),([8], [8])])
def bR.B6:List Nat:= [0,0,3,7,0,0,48,112,255,511]
theorem bR.tab6:eU .any (opsOf Tryz.f153 6)=bR.T6:=by kernel_rfl
theorem bR.bits6:eQ bR.T6.2 bR.B6=true:=by kernel_rfl
set_option maxHeartbeats 8000000 in
set_option maxRecDepth 100000 in
theorem bR.calls (k:Nat) (A0:Option Addr) (c0:Nat) (l0:List (S57)) (A1:Option Addr) (c1:Nat) (l1:List (S57)) (r:Bool) (w:World) (hr0:Kd.C k57 w A0 l0.length l0) (hc0:l0.length≤c0) (hr1:Kd.C k57 w A1 l1.length l1) (hc1:l1.length≤c1) (h:bR.f k l0 l1=some r):
  Calls Tryz.prog 153 #[.slice A0 l0.length c0, .slice A1 l1.length c1] w fun e w' =>e= .returned (.bool r)∧Below w.heap.size w w' :=by
 have aR:=Tryz.underlying57
 have aw:=Aside0.mk hr0
 have a1:=Aside0.mk hc0
 clear hr0 hc0
 have HR1:=Aside0.mk hr1
 have a2:=Aside0.mk hc1
 clear hr1 hc1
 have HB:=Aside0.mk (Below.refl w.heap.size w)
 have H:(if(l0.length:Int)=(l1.length:Int)then(bR.l0 k l0 l1 0)else(some false))=some r:=h
 clear h
 by_cases c3:(l0.length:Int)=(l1.length:Int)
 ·rw [if_pos c3]at H
  have aE:=beq_iff_eq.mpr c3
  have aF:=bne_eq_false_iff_eq.mpr c3
  have aL:(l0.length==l1.length)=true:=by first|simpa using c3|(simp at c3⊢;omega)
  clear c3
  have H' :=Aside0.mk H
  clear H
  go_enter Tryz.func153,Tryz.ntmps153
  go_wp2
  go_loopg [5] k (fun kq v5 w' => ∃(a:Int),v5= .int .i64 a∧Aside0 (bR.l0 kq l0 l1 a=some r)∧Aside0 (kq≤k)∧Aside0 (Below w.heap.size w w'))
  case atStart=>exact⟨(0),(by first|rfl|(simp;done)|(simp[*];done)),H',⟨Nat.le_refl _⟩,⟨bl⟩⟩
  case round=>
   clear H'
   obtain⟨a,rfl,HA,aB,HB⟩:=hrel
   cases gk with
   |zero=>exact absurd HA.out (by simp[bR.l0])
   | succ k1=>
    have H:=HA.out
    clear HA
    simp only[bR.l0]at H
    by_cases c4:a<(l0.length:Int)
    ·rw [if_pos c4]at H
     have aO:decide (a<(l0.length:Int))=true:=decide_eq_true c4
     clear c4
     by_cases c5:0≤a
     ·rw[if_pos c5]at H
      have aS:decide (0≤a)=true:=decide_eq_true c5
      clear c5
      by_cases c6:a<(l1.length:Int)
      ·rw[if_pos c6]at H
       have a0:decide (a<(l1.length:Int))=true:=decide_eq_true c6
       clear c6
       obtain⟨aP,A7,H⟩:=ob H
       by_cases c8:aP=true
       ·subst c8
        replace H:=it H
        have H' :=Aside0.mk H
        clear H
        try go_wp2
        replace HB:=Aside0.mk (ay HB.out)
        have ab:0≤(a:Int):=od
        have ac:a<(l0.length:Int):=od
        obtain⟨u,O,P,T,U,aq,b,c,d,x,y,z,A⟩:=jT aw.out a ab ac
        have g:=d
        have j:=c
        have l:=b
        cases aq
        obtain⟨b,c,d⟩:=hc3 HB b c d
        have B:=Aside0.mk y
        have am:=Aside0.mk x
        clear y x
        have D:=Aside0.mk A
        have an:=Aside0.mk z
        clear A z
        replace ab:=eq_true ab
        replace ac:=eq_true ac
        have ad:0≤(a:Int):=od
        have al:a<(l1.length:Int):=od
        obtain⟨v,W,X,Y,Z,ar,m,o,p,E,G,I,J⟩:=jT HR1.out a ad al
        have q:=p
        have s:=o
        have t:=m
        cases ar
        obtain⟨m,o,p⟩:=hc3 HB m o p
        have L:=Aside0.mk G
        have ao:=Aside0.mk E
        clear G E
        have M:=Aside0.mk J
        have ap:=Aside0.mk I
        clear J I
        replace ad:=eq_true ad
        replace al:=eq_true al
        refine cB (n:=10) (S:=fun w' =>w'.cell? (u.add ((a).toNat * 3))=some (.bool ((bi l0 a).f0))∧w'.cell? ⟨(u.add ((a).toNat * 3)).block,(u.add ((a).toNat * 3)).off+1,none⟩=some (.slice O ((bi l0 a).f1).length P)∧w'.cell? ⟨(u.add ((a).toNat * 3)).block,(u.add ((a).toNat * 3)).off+2,none⟩=some (.slice T ((bi l0 a).f2).length U)∧w'.cell? (v.add ((a).toNat * 3))=some (.bool ((bi l1 a).f0))∧w'.cell? ⟨(v.add ((a).toNat * 3)).block,(v.add ((a).toNat * 3)).off+1,none⟩=some (.slice W ((bi l1 a).f1).length X)∧w'.cell? ⟨(v.add ((a).toNat * 3)).block,(v.add ((a).toNat * 3)).off+2,none⟩=some (.slice Y ((bi l1 a).f2).length Z)) (ds:= []) (upto 10 0) (by kernel_rfl) rfl rfl ⟨((HB.out.cell (World.block_lt_of_cell? w _ l)).trans l),((HB.out.cell (World.block_lt_of_cell? w _ j)).trans j),((HB.out.cell (World.block_lt_of_cell? w _ g)).trans g),((HB.out.cell (World.block_lt_of_cell? w _ t)).trans t),((HB.out.cell (World.block_lt_of_cell? w _ s)).trans s),((HB.out.cell (World.block_lt_of_cell? w _ q)).trans q)⟩ (fun hHeld=> ?_);refine bB bR.tab6 bR.bits6 (fun HT_ HW_=> ?_)
        generalize wr.drew=w9 at HB B D L M b c d m o p hHeld⊢
        repeat(first|refine vN ?_|refine pN ?_|refine tN ?_)
        refine cO (i:=8) (N:=some 25) (upto 10 9) rfl rfl (bI HT_.out (by kernel_rfl)) (by decide) (fun K hK=> ?_)
        refine gs Tryz.func23 #[.agg #[.bool ((bi l0 a).f0), .slice O ((bi l0 a).f1).length P, .slice T ((bi l0 a).f2).length U], .agg #[.bool ((bi l1 a).f0), .slice W ((bi l1 a).f1).length X, .slice Y ((bi l1 a).f2).length Z]] rfl rfl ?_
        with_reducible refine(iB.calls k1 ((bi l0 a).f0) _ _ ((bi l0 a).f1) _ _ ((bi l0 a).f2) ((bi l1 a).f0) _ _ ((bi l1 a).f1) _ _ ((bi l1 a).f2) true _ (cb B.out) am.out (cb D.out) an.out (cb L.out) ao.out (cb M.out) ap.out A7.out).mono ?_
        rintro e a3 ⟨rfl,hb⟩
        refine⟨_,rfl, ?_⟩
        replace HB:=hs HB hb
        refine hK.out _ _ ⟨((HB.out.cell (World.block_lt_of_cell? w _ l)).trans l),((HB.out.cell (World.block_lt_of_cell? w _ j)).trans j),((HB.out.cell (World.block_lt_of_cell? w _ g)).trans g),((HB.out.cell (World.block_lt_of_cell? w _ t)).trans t),((HB.out.cell (World.block_lt_of_cell? w _ s)).trans s),((HB.out.cell (World.block_lt_of_cell? w _ q)).trans q)⟩ (fun hHeld=> ?_)
        clear hK K
        refine no 25 ?_
        repeat(first|refine vN ?_|refine pN ?_|refine tN ?_)
        refine dD (bX HT_.out (by kernel_rfl)) ?_
        try go_wp2
        go_roundg k1
        case measure=>have:=aB.out;omega
        case rel=>exact⟨(wrap64 (a+1)),(by first|rfl|(simp;done)|(simp[*];done)),H',⟨by have:=aB.out;omega⟩,⟨bl⟩⟩
       replace c8:=Bool.eq_false_iff.mpr c8
       subst c8
       replace H:=ie H
       obtain rfl:=Option.some.inj H;clear H
       try go_wp2
       replace HB:=Aside0.mk (ay HB.out)
       have ab:0≤(a:Int):=od
       have ac:a<(l0.length:Int):=od
       obtain⟨u,O,P,T,U,aq,b,c,d,x,y,z,A⟩:=jT aw.out a ab ac
       have g:=d
       have j:=c
       have l:=b
       cases aq
       obtain⟨b,c,d⟩:=hc3 HB b c d
       have B:=Aside0.mk y
       have am:=Aside0.mk x
       clear y x
       have D:=Aside0.mk A
       have an:=Aside0.mk z
       clear A z
       replace ab:=eq_true ab
       replace ac:=eq_true ac
       have ad:0≤(a:Int):=od
       have al:a<(l1.length:Int):=od
       obtain⟨v,W,X,Y,Z,ar,m,o,p,E,G,I,J⟩:=jT HR1.out a ad al
       have q:=p
       have s:=o
       have t:=m
       cases ar
       obtain⟨m,o,p⟩:=hc3 HB m o p
       have L:=Aside0.mk G
       have ao:=Aside0.mk E
       clear G E
       have M:=Aside0.mk J
       have ap:=Aside0.mk I
       clear J I
       replace ad:=eq_true ad
       replace al:=eq_true al
       refine cB (n:=10) (S:=fun w' =>w'.cell? (u.add ((a).toNat * 3))=some (.bool ((bi l0 a).f0))∧w'.cell? ⟨(u.add ((a).toNat * 3)).block,(u.add ((a).toNat * 3)).off+1,none⟩=some (.slice O ((bi l0 a).f1).length P)∧w'.cell? ⟨(u.add ((a).toNat * 3)).block,(u.add ((a).toNat * 3)).off+2,none⟩=some (.slice T ((bi l0 a).f2).length U)∧w'.cell? (v.add ((a).toNat * 3))=some (.bool ((bi l1 a).f0))∧w'.cell? ⟨(v.add ((a).toNat * 3)).block,(v.add ((a).toNat * 3)).off+1,none⟩=some (.slice W ((bi l1 a).f1).length X)∧w'.cell? ⟨(v.add ((a).toNat * 3)).block,(v.add ((a).toNat * 3)).off+2,none⟩=some (.slice Y ((bi l1 a).f2).length Z)) (ds:= []) (upto 10 0) (by kernel_rfl) rfl rfl ⟨((HB.out.cell (World.block_lt_of_cell? w _ l)).trans l),((HB.out.cell (World.block_lt_of_cell? w _ j)).trans j),((HB.out.cell (World.block_lt_of_cell? w _ g)).trans g),((HB.out.cell (World.block_lt_of_cell? w _ t)).trans t),((HB.out.cell (World.block_lt_of_cell? w _ s)).trans s),((HB.out.cell (World.block_lt_of_cell? w _ q)).trans q)⟩ (fun hHeld=> ?_);refine bB bR.tab6 bR.bits6 (fun HT_ HW_=> ?_)
       generalize wr.drew=a4 at HB B D L M b c d m o p hHeld⊢
       repeat(first|refine vN ?_|refine pN ?_|refine tN ?_)
       refine cO (i:=8) (N:=some 25) (upto 10 9) rfl rfl (bI HT_.out (by kernel_rfl)) (by decide) (fun K hK=> ?_)
       refine gs Tryz.func23 #[.agg #[.bool ((bi l0 a).f0), .slice O ((bi l0 a).f1).length P, .slice T ((bi l0 a).f2).length U], .agg #[.bool ((bi l1 a).f0), .slice W ((bi l1 a).f1).length X, .slice Y ((bi l1 a).f2).length Z]] rfl rfl ?_
       with_reducible refine(iB.calls k1 ((bi l0 a).f0) _ _ ((bi l0 a).f1) _ _ ((bi l0 a).f2) ((bi l1 a).f0) _ _ ((bi l1 a).f1) _ _ ((bi l1 a).f2) false _ (cb B.out) am.out (cb D.out) an.out (cb L.out) ao.out (cb M.out) ap.out A7.out).mono ?_
       rintro e a5 ⟨rfl,hb⟩
       refine⟨_,rfl, ?_⟩
       replace HB:=hs HB hb
       refine hK.out _ _ ⟨((HB.out.cell (World.block_lt_of_cell? w _ l)).trans l),((HB.out.cell (World.block_lt_of_cell? w _ j)).trans j),((HB.out.cell (World.block_lt_of_cell? w _ g)).trans g),((HB.out.cell (World.block_lt_of_cell? w _ t)).trans t),((HB.out.cell (World.block_lt_of_cell? w _ s)).trans s),((HB.out.cell (World.block_lt_of_cell? w _ q)).trans q)⟩ (fun hHeld=> ?_)
       clear hK K
       refine no 25 ?_
       repeat(first|refine vN ?_|refine pN ?_|refine tN ?_)
       refine dD (bX HT_.out (by kernel_rfl)) ?_
       try go_wp2
       go_ret
       exact fin
      rw[if_neg c6]at H
      exact absurd H (by simp)
     rw[if_neg c5]at H
     exact absurd H (by simp)
    rw[if_neg c4]at H
    have aO:decide (a<(l0.length:Int))=false:=decide_eq_false c4
    clear c4
    obtain rfl:=Option.some.inj H;clear H
    go_wp2
    go_ret
    exact fin
 rw[if_neg c3]at H
 have aE:=beq_eq_false_iff_ne.mpr c3
 have aF:=bne_iff_ne.mpr c3
 have aL:(l0.length==l1.length)=false:=by first|simpa using c3|(simp at c3⊢;omega)
 obtain rfl:=Option.some.inj H;clear H
 go_enter Tryz.func153,Tryz.ntmps153
 go_wp2
 go_ret
 exact fin
set_option maxHeartbeats 8000000 in
set_option maxRecDepth 100000 in
theorem iN.calls (a:Int) (b:Int) (c:Int) (d:Int) (g:Int) (i:Int) (j:Int) (k:Int) (r:Bool) (w:World) (h:iN.f a b c d g i j k=some r):
  Calls Tryz.prog 171 #[.agg #[.int .i64 a, .int .i64 b, .int .i64 c, .int .i64 d], .agg #[.int .i64 g, .int .i64 i, .int .i64 j, .int .i64 k]] w fun e w' =>e= .returned (.bool r)∧Below w.heap.size w w' :=by
 have u:=Tryz.underlying181
 have HB:=Aside0.mk (Below.refl w.heap.size w)
 have H:(if a=g then(if b=i then(if c=j then(if d=k then(some true)else(some false))else(some false))else(some false))else(some false))=some r:=h
 clear h
 by_cases c3:a=g
 ·rw [if_pos c3]at H
  have l:=beq_iff_eq.mpr c3
  have m:=bne_eq_false_iff_eq.mpr c3
  clear c3
  by_cases c4:b=i
  ·rw[if_pos c4]at H
   have n:=beq_iff_eq.mpr c4
   have o:=bne_eq_false_iff_eq.mpr c4
   clear c4
   by_cases c5:c=j
   ·rw[if_pos c5]at H
    have p:=beq_iff_eq.mpr c5
    have q:=bne_eq_false_iff_eq.mpr c5
    clear c5
    by_cases c6:d=k
    ·rw[if_pos c6]at H
     have s:=beq_iff_eq.mpr c6
     have t:=bne_eq_false_iff_eq.mpr c6
     clear c6
     obtain rfl:=Option.some.inj H;clear H
     go_enter Tryz.func171,Tryz.ntmps171
     go_wp2
     go_ret
     exact fin
    rw[if_neg c6]at H
    have s:=beq_eq_false_iff_ne.mpr c6
    have t:=bne_iff_ne.mpr c6
    obtain rfl:=Option.some.inj H;clear H
    go_enter Tryz.func171,Tryz.ntmps171
    go_wp2
    go_ret
    exact fin
   rw[if_neg c5]at H
   have p:=beq_eq_false_iff_ne.mpr c5
   have q:=bne_iff_ne.mpr c5
   obtain rfl:=Option.some.inj H;clear H
   go_enter Tryz.func171,Tryz.ntmps171
   go_wp2
   go_ret
   exact fin
  rw[if_neg c4]at H
  have n:=beq_eq_false_iff_ne.mpr c4
  have o:=bne_iff_ne.mpr c4
  obtain rfl:=Option.some.inj H;clear H
  go_enter Tryz.func171,Tryz.ntmps171
  go_wp2
  go_ret
  exact fin
 rw[if_neg c3]at H
 have l:=beq_eq_false_iff_ne.mpr c3
 have m:=bne_iff_ne.mpr c3
 obtain rfl:=Option.some.inj H;clear H
 go_enter Tryz.func171,Tryz.ntmps171
 go_wp2
 go_ret
 exact fin
def bS.T6:Bool×List (List Nat×List Nat):=(true, [([], []),([], []),([0,1], [0,1]),([2], [2]),([], []),([], []),([4,5], [4,5]),([6], [6]),([3,7], [3,7]),([8], [8])])
def bS.B6:List Nat:= [0,0,3,7,0,0,48,112,255,511]
theorem bS.tab6:eU .any (opsOf Tryz.f154 6)=bS.T6:=by kernel_rfl
theorem bS.bits6:eQ bS.T6.2 bS.B6=true:=by kernel_rfl
set_option maxHeartbeats 8000000 in
set_option maxRecDepth 100000 in
theorem bS.calls (k:Nat) (A0:Option Addr) (c0:Nat) (l0:List (S181)) (A1:Option Addr) (c1:Nat) (l1:List (S181)) (r:Bool) (w:World) (hr0:Kd.C fD w A0 l0.length l0) (hc0:l0.length≤c0) (hr1:Kd.C fD w A1 l1.length l1) (hc1:l1.length≤c1) (h:bS.f k l0 l1=some r):
  Calls Tryz.prog 154 #[.slice A0 l0.length c0, .slice A1 l1.length c1] w fun e w' =>e= .returned (.bool r)∧Below w.heap.size w w' :=by
 have X:=Tryz.underlying181
 have L:=Aside0.mk hr0
 have ab:=Aside0.mk hc0
 clear hr0 hc0
 have HR1:=Aside0.mk hr1
 have ac:=Aside0.mk hc1
 clear hr1 hc1
 have HB:=Aside0.mk (Below.refl w.heap.size w)
 have H:(if(l0.length:Int)=(l1.length:Int)then(bS.l0 k l0 l1 0)else(some false))=some r:=h
 clear h
 by_cases c3:(l0.length:Int)=(l1.length:Int)
 ·rw [if_pos c3]at H
  have O:=beq_iff_eq.mpr c3
  have P:=bne_eq_false_iff_eq.mpr c3
  have T:(l0.length==l1.length)=true:=by first|simpa using c3|(simp at c3⊢;omega)
  clear c3
  have H' :=Aside0.mk H
  clear H
  go_enter Tryz.func154,Tryz.ntmps154
  go_wp2
  go_loopg [5] k (fun kq v5 w' => ∃(a:Int),v5= .int .i64 a∧Aside0 (bS.l0 kq l0 l1 a=some r)∧Aside0 (kq≤k)∧Aside0 (Below w.heap.size w w'))
  case atStart=>exact⟨(0),(by first|rfl|(simp;done)|(simp[*];done)),H',⟨Nat.le_refl _⟩,⟨bl⟩⟩
  case round=>
   clear H'
   obtain⟨a,rfl,HA,M,HB⟩:=hrel
   cases gk with
   |zero=>exact absurd HA.out (by simp[bS.l0])
   | succ k1=>
    have H:=HA.out
    clear HA
    simp only[bS.l0]at H
    by_cases c4:a<(l0.length:Int)
    ·rw [if_pos c4]at H
     have U:decide (a<(l0.length:Int))=true:=decide_eq_true c4
     clear c4
     by_cases c5:0≤a
     ·rw[if_pos c5]at H
      have Y:decide (0≤a)=true:=decide_eq_true c5
      clear c5
      by_cases c6:a<(l1.length:Int)
      ·rw[if_pos c6]at H
       have Z:decide (a<(l1.length:Int))=true:=decide_eq_true c6
       clear c6
       obtain⟨W,A7,H⟩:=ob H
       by_cases c8:W=true
       ·subst c8
        replace H:=it H
        have H' :=Aside0.mk H
        clear H
        try go_wp2
        replace HB:=Aside0.mk (ay HB.out)
        have B:0≤(a:Int):=od
        have D:a<(l0.length:Int):=od
        obtain⟨b,I,d,g,j,l⟩:=jL L.out a B D
        have m:=l
        have o:=j
        have p:=g
        have q:=d
        cases I
        obtain⟨d,g,j,l⟩:=hc4 HB d g j l
        replace B:=eq_true B
        replace D:=eq_true D
        have E:0≤(a:Int):=od
        have G:a<(l1.length:Int):=od
        obtain⟨c,J,s,t,u,v⟩:=jL HR1.out a E G
        have x:=v
        have y:=u
        have z:=t
        have A:=s
        cases J
        obtain⟨s,t,u,v⟩:=hc4 HB s t u v
        replace E:=eq_true E
        replace G:=eq_true G
        refine cB (n:=10) (S:=fun w' =>w'.cell? (b.add ((a).toNat * 4))=some (.int .i64 ((aG l0 a).f0))∧w'.cell? ⟨(b.add ((a).toNat * 4)).block,(b.add ((a).toNat * 4)).off+1,none⟩=some (.int .i64 ((aG l0 a).f1))∧w'.cell? ⟨(b.add ((a).toNat * 4)).block,(b.add ((a).toNat * 4)).off+2,none⟩=some (.int .i64 ((aG l0 a).f2))∧w'.cell? ⟨(b.add ((a).toNat * 4)).block,(b.add ((a).toNat * 4)).off+3,none⟩=some (.int .i64 ((aG l0 a).f3))∧w'.cell? (c.add ((a).toNat * 4))=some (.int .i64 ((aG l1 a).f0))∧w'.cell? ⟨(c.add ((a).toNat * 4)).block,(c.add ((a).toNat * 4)).off+1,none⟩=some (.int .i64 ((aG l1 a).f1))∧w'.cell? ⟨(c.add ((a).toNat * 4)).block,(c.add ((a).toNat * 4)).off+2,none⟩=some (.int .i64 ((aG l1 a).f2))∧w'.cell? ⟨(c.add ((a).toNat * 4)).block,(c.add ((a).toNat * 4)).off+3,none⟩=some (.int .i64 ((aG l1 a).f3))) (ds:= []) (upto 10 0) (by kernel_rfl) rfl rfl ⟨((HB.out.cell (World.block_lt_of_cell? w _ q)).trans q),((HB.out.cell (World.block_lt_of_cell? w _ p)).trans p),((HB.out.cell (World.block_lt_of_cell? w _ o)).trans o),((HB.out.cell (World.block_lt_of_cell? w _ m)).trans m),((HB.out.cell (World.block_lt_of_cell? w _ A)).trans A),((HB.out.cell (World.block_lt_of_cell? w _ z)).trans z),((HB.out.cell (World.block_lt_of_cell? w _ y)).trans y),((HB.out.cell (World.block_lt_of_cell? w _ x)).trans x)⟩ (fun hHeld=> ?_);refine bB bS.tab6 bS.bits6 (fun HT_ HW_=> ?_)
        generalize wr.drew=w9 at HB d g j l s t u v hHeld⊢
        repeat(first|refine vN ?_|refine pN ?_|refine tN ?_)
        refine cO (i:=8) (N:=some 25) (upto 10 9) rfl rfl (bI HT_.out (by kernel_rfl)) (by decide) (fun K hK=> ?_)
        refine gs Tryz.func171 #[.agg #[.int .i64 ((aG l0 a).f0), .int .i64 ((aG l0 a).f1), .int .i64 ((aG l0 a).f2), .int .i64 ((aG l0 a).f3)], .agg #[.int .i64 ((aG l1 a).f0), .int .i64 ((aG l1 a).f1), .int .i64 ((aG l1 a).f2), .int .i64 ((aG l1 a).f3)]] rfl rfl ?_
        with_reducible refine(iN.calls ((aG l0 a).f0) ((aG l0 a).f1) ((aG l0 a).f2) ((aG l0 a).f3) ((aG l1 a).f0) ((aG l1 a).f1) ((aG l1 a).f2) ((aG l1 a).f3) true _ A7.out).mono ?_
        rintro e ad ⟨rfl,hb⟩
        refine⟨_,rfl, ?_⟩
        replace HB:=hs HB hb
        refine hK.out _ _ ⟨((HB.out.cell (World.block_lt_of_cell? w _ q)).trans q),((HB.out.cell (World.block_lt_of_cell? w _ p)).trans p),((HB.out.cell (World.block_lt_of_cell? w _ o)).trans o),((HB.out.cell (World.block_lt_of_cell? w _ m)).trans m),((HB.out.cell (World.block_lt_of_cell? w _ A)).trans A),((HB.out.cell (World.block_lt_of_cell? w _ z)).trans z),((HB.out.cell (World.block_lt_of_cell? w _ y)).trans y),((HB.out.cell (World.block_lt_of_cell? w _ x)).trans x)⟩ (fun hHeld=> ?_)
        clear hK K
        refine no 25 ?_
        repeat(first|refine vN ?_|refine pN ?_|refine tN ?_)
        refine dD (bX HT_.out (by kernel_rfl)) ?_
        try go_wp2
        go_roundg k1
        case measure=>have:=M.out;omega
        case rel=>exact⟨(wrap64 (a+1)),(by first|rfl|(simp;done)|(simp[*];done)),H',⟨by have:=M.out;omega⟩,⟨bl⟩⟩
       replace c8:=Bool.eq_false_iff.mpr c8
       subst c8
       replace H:=ie H
       obtain rfl:=Option.some.inj H;clear H
       try go_wp2
       replace HB:=Aside0.mk (ay HB.out)
       have B:0≤(a:Int):=od
       have D:a<(l0.length:Int):=od
       obtain⟨b,I,d,g,j,l⟩:=jL L.out a B D
       have m:=l
       have o:=j
       have p:=g
       have q:=d
       cases I
       obtain⟨d,g,j,l⟩:=hc4 HB d g j l
       replace B:=eq_true B
       replace D:=eq_true D
       have E:0≤(a:Int):=od
       have G:a<(l1.length:Int):=od
       obtain⟨c,J,s,t,u,v⟩:=jL HR1.out a E G
       have x:=v
       have y:=u
       have z:=t
       have A:=s
       cases J
       obtain⟨s,t,u,v⟩:=hc4 HB s t u v
       replace E:=eq_true E
       replace G:=eq_true G
       refine cB (n:=10) (S:=fun w' =>w'.cell? (b.add ((a).toNat * 4))=some (.int .i64 ((aG l0 a).f0))∧w'.cell? ⟨(b.add ((a).toNat * 4)).block,(b.add ((a).toNat * 4)).off+1,none⟩=some (.int .i64 ((aG l0 a).f1))∧w'.cell? ⟨(b.add ((a).toNat * 4)).block,(b.add ((a).toNat * 4)).off+2,none⟩=some (.int .i64 ((aG l0 a).f2))∧w'.cell? ⟨(b.add ((a).toNat * 4)).block,(b.add ((a).toNat * 4)).off+3,none⟩=some (.int .i64 ((aG l0 a).f3))∧w'.cell? (c.add ((a).toNat * 4))=some (.int .i64 ((aG l1 a).f0))∧w'.cell? ⟨(c.add ((a).toNat * 4)).block,(c.add ((a).toNat * 4)).off+1,none⟩=some (.int .i64 ((aG l1 a).f1))∧w'.cell? ⟨(c.add ((a).toNat * 4)).block,(c.add ((a).toNat * 4)).off+2,none⟩=some (.int .i64 ((aG l1 a).f2))∧w'.cell? ⟨(c.add ((a).toNat * 4)).block,(c.add ((a).toNat * 4)).off+3,none⟩=some (.int .i64 ((aG l1 a).f3))) (ds:= []) (upto 10 0) (by kernel_rfl) rfl rfl ⟨((HB.out.cell (World.block_lt_of_cell? w _ q)).trans q),((HB.out.cell (World.block_lt_of_cell? w _ p)).trans p),((HB.out.cell (World.block_lt_of_cell? w _ o)).trans o),((HB.out.cell (World.block_lt_of_cell? w _ m)).trans m),((HB.out.cell (World.block_lt_of_cell? w _ A)).trans A),((HB.out.cell (World.block_lt_of_cell? w _ z)).trans z),((HB.out.cell (World.block_lt_of_cell? w _ y)).trans y),((HB.out.cell (World.block_lt_of_cell? w _ x)).trans x)⟩ (fun hHeld=> ?_);refine bB bS.tab6 bS.bits6 (fun HT_ HW_=> ?_)
       generalize wr.drew=al at HB d g j l s t u v hHeld⊢
       repeat(first|refine vN ?_|refine pN ?_|refine tN ?_)
       refine cO (i:=8) (N:=some 25) (upto 10 9) rfl rfl (bI HT_.out (by kernel_rfl)) (by decide) (fun K hK=> ?_)
       refine gs Tryz.func171 #[.agg #[.int .i64 ((aG l0 a).f0), .int .i64 ((aG l0 a).f1), .int .i64 ((aG l0 a).f2), .int .i64 ((aG l0 a).f3)], .agg #[.int .i64 ((aG l1 a).f0), .int .i64 ((aG l1 a).f1), .int .i64 ((aG l1 a).f2), .int .i64 ((aG l1 a).f3)]] rfl rfl ?_
       with_reducible refine(iN.calls ((aG l0 a).f0) ((aG l0 a).f1) ((aG l0 a).f2) ((aG l0 a).f3) ((aG l1 a).f0) ((aG l1 a).f1) ((aG l1 a).f2) ((aG l1 a).f3) false _ A7.out).mono ?_
       rintro e am ⟨rfl,hb⟩
       refine⟨_,rfl, ?_⟩
       replace HB:=hs HB hb
       refine hK.out _ _ ⟨((HB.out.cell (World.block_lt_of_cell? w _ q)).trans q),((HB.out.cell (World.block_lt_of_cell? w _ p)).trans p),((HB.out.cell (World.block_lt_of_cell? w _ o)).trans o),((HB.out.cell (World.block_lt_of_cell? w _ m)).trans m),((HB.out.cell (World.block_lt_of_cell? w _ A)).trans A),((HB.out.cell (World.block_lt_of_cell? w _ z)).trans z),((HB.out.cell (World.block_lt_of_cell? w _ y)).trans y),((HB.out.cell (World.block_lt_of_cell? w _ x)).trans x)⟩ (fun hHeld=> ?_)
       clear hK K
       refine no 25 ?_
       repeat(first|refine vN ?_|refine pN ?_|refine tN ?_)
       refine dD (bX HT_.out (by kernel_rfl)) ?_
       try go_wp2
       go_ret
       exact fin
      rw[if_neg c6]at H
      exact absurd H (by simp)
     rw[if_neg c5]at H
     exact absurd H (by simp)
    rw[if_neg c4]at H
    have U:decide (a<(l0.length:Int))=false:=decide_eq_false c4
    clear c4
    obtain rfl:=Option.some.inj H;clear H
    go_wp2
    go_ret
    exact fin
 rw[if_neg c3]at H
 have O:=beq_eq_false_iff_ne.mpr c3
 have P:=bne_iff_ne.mpr c3
 have T:(l0.length==l1.length)=false:=by first|simpa using c3|(simp at c3⊢;omega)
 obtain rfl:=Option.some.inj H;clear H
 go_enter Tryz.func154,Tryz.ntmps154
 go_wp2
 go_ret
 exact fin
set_option maxHeartbeats 8000000 in
set_option maxRecDepth 100000 in
theorem gY.calls (k:Nat) (L:Int) (M:Int) (q:Option Addr) (s:Nat) (c:List Int) (O:Int) (P:Int) (v:Option Addr) (x:Nat) (g:List (S113)) (A:Option Addr) (B:Nat) (m:List (S57)) (T:Option Addr) (U:Nat) (o:List (S181)) (W:Int) (X:Int) (t:Option Addr) (u:Nat) (d:List Int) (Y:Int) (Z:Int) (y:Option Addr) (z:Nat) (i:List (S113)) (D:Option Addr) (E:Nat) (n:List (S57)) (ab:Option Addr) (ac:Nat) (p:List (S181)) (r:Bool) (w:World) (aS:Kd.C (Kd.int .i64) w q c.length c) (a0:c.length≤s) (a1:Kd.C fG w v g.length g) (a2:g.length≤x) (a3:Kd.C k57 w A m.length m) (a4:m.length≤B) (a5:Kd.C fD w T o.length o) (a6:o.length≤U) (a7:Kd.C (Kd.int .i64) w t d.length d) (a8:d.length≤u) (a9:Kd.C fG w y i.length i) (ba:i.length≤z) (bb:Kd.C k57 w D n.length n) (bc:n.length≤E) (bd:Kd.C fD w ab p.length p) (be:p.length≤ac) (h:gY.f k L M c O P g m o W X d Y Z i n p=some r):
  Calls Tryz.prog 87 #[.agg #[.int .i64 L, .int .i64 M, .slice q c.length s, .int .i64 O, .int .i64 P, .slice v g.length x, .slice A m.length B, .slice T o.length U], .agg #[.int .i64 W, .int .i64 X, .slice t d.length u, .int .i64 Y, .int .i64 Z, .slice y i.length z, .slice D n.length E, .slice ab p.length ac]] w fun e w' =>e= .returned (.bool r)∧Below w.heap.size w w' :=by
 have b4:=Tryz.underlying104
 have G:=Aside0.mk aS
 have I:=Aside0.mk a0
 clear aS a0
 have ad:=Aside0.mk a1
 have al:=Aside0.mk a2
 clear a1 a2
 have ao:=Aside0.mk a3
 have ap:=Aside0.mk a4
 clear a3 a4
 have bh:=Aside0.mk a5
 have bj:=Aside0.mk a6
 clear a5 a6
 have J:=Aside0.mk a7
 have K:=Aside0.mk a8
 clear a7 a8
 have am:=Aside0.mk a9
 have an:=Aside0.mk ba
 clear a9 ba
 have aq:=Aside0.mk bb
 have ar:=Aside0.mk bc
 clear bb bc
 have bk:=Aside0.mk bd
 have bm:=Aside0.mk be
 clear bd be
 have HB:=Aside0.mk (Below.refl w.heap.size w)
 have H:(if L=W then(if M=X then((bA.f k c d).bind fun aL=>(if aL=true then(if O=Y then(if P=Z then((bZ.f k g i).bind fun aO=>(if aO=true then((bR.f k m n).bind fun aP=>(if aP=true then((bS.f k o p).bind fun aR=>(if aR=true then(some true)else(some false)))else(some false)))else(some false)))else(some false))else(some false))else(some false)))else(some false))else(some false))=some r:=h
 clear h
 by_cases c3:L=W
 ·rw [if_pos c3]at H
  have br:=beq_iff_eq.mpr c3
  have bs:=bne_eq_false_iff_eq.mpr c3
  clear c3
  by_cases c4:M=X
  ·rw [if_pos c4]at H
   have bt:=beq_iff_eq.mpr c4
   have bw:=bne_eq_false_iff_eq.mpr c4
   clear c4
   obtain⟨aL,A5,H⟩:=ob H
   by_cases c6:aL=true
   ·subst c6
    replace H:=it H
    by_cases c7:O=Y
    ·rw [if_pos c7]at H
     have b0:=beq_iff_eq.mpr c7
     have b1:=bne_eq_false_iff_eq.mpr c7
     clear c7
     by_cases c8:P=Z
     ·rw [if_pos c8]at H
      have b2:=beq_iff_eq.mpr c8
      have b3:=bne_eq_false_iff_eq.mpr c8
      clear c8
      obtain⟨aO,A9,H⟩:=ob H
      by_cases c10:aO=true
      ·subst c10
       replace H:=it H
       obtain⟨aP,bo,H⟩:=ob H
       by_cases c12:aP=true
       ·subst c12
        replace H:=it H
        obtain⟨aR,bp,H⟩:=ob H
        by_cases c14:aR=true
        ·subst c14
         replace H:=it H
         obtain rfl:=Option.some.inj H;clear H
         go_enter Tryz.func87,Tryz.ntmps87
         go_wp2_with (first|((with_reducible refine gd 2 rfl ?_);refine bx 2 #[.int .i64 L, .int .i64 M, .slice q c.length s, .int .i64 O, .int .i64 P, .slice v g.length x, .slice A m.length B, .slice T o.length U] 104 ?_;intro aw hg ce hbox hb;have a:=Aside0.mk hbox;have aB:=hz HB hg;replace HB:=hs HB hb;clear hb hbox hg)|((with_reducible refine gd 3 rfl ?_);refine bx 3 #[.int .i64 W, .int .i64 X, .slice t d.length u, .int .i64 Y, .int .i64 Z, .slice y i.length z, .slice D n.length E, .slice ab p.length ac] 104 ?_;intro aE hg w16 hbox hb;have b:=Aside0.mk hbox;have aF:=hz HB hg;have j:=nl a hg;have l:=ng a hg;replace a:=kb a hb;replace HB:=hs HB hb;clear hb hbox hg;have b5:=j.out;have b6:=l.out;have:=cf8 a;have:=cf8 b)|(refine gl (some 19) Tryz.func37 #[.slice q c.length s, .slice t d.length u] rfl ?_;(with_reducible refine(bA.calls k _ _ c _ _ d true _ (cb G.out) I.out (cb J.out) K.out A5.out).mono ?_);rintro e w' ⟨rfl,⟨nd,rfl⟩⟩;refine⟨_,rfl, ?_⟩)|(refine gl (some 35) Tryz.func152 #[.slice v g.length x, .slice y i.length z] rfl ?_;(with_reducible refine(bZ.calls k _ _ g _ _ i true _ (cb ad.out) al.out (cb am.out) an.out A9.out).mono ?_);rintro e cf ⟨rfl,hb⟩;refine⟨_,rfl, ?_⟩;replace a:=kb a hb;replace b:=kb b hb;replace HB:=hs HB hb;have:=cf8 a;have:=cf8 b)|(refine gl (some 41) Tryz.func153 #[.slice A m.length B, .slice D n.length E] rfl ?_;(with_reducible refine(bR.calls k _ _ m _ _ n true _ (cb ao.out) ap.out (cb aq.out) ar.out bo.out).mono ?_);rintro e cg ⟨rfl,hb⟩;refine⟨_,rfl, ?_⟩;replace a:=kb a hb;replace b:=kb b hb;replace HB:=hs HB hb;have:=cf8 a;have:=cf8 b)|(refine gl (some 47) Tryz.func154 #[.slice T o.length U, .slice ab p.length ac] rfl ?_;(with_reducible refine(bS.calls k _ _ o _ _ p true _ (cb bh.out) bj.out (cb bk.out) bm.out bp.out).mono ?_);rintro e ch ⟨rfl,hb⟩;refine⟨_,rfl, ?_⟩;replace a:=kb a hb;replace b:=kb b hb;replace HB:=hs HB hb))
         go_ret
         exact fin
        replace c14:=Bool.eq_false_iff.mpr c14
        subst c14
        replace H:=ie H
        obtain rfl:=Option.some.inj H;clear H
        go_enter Tryz.func87,Tryz.ntmps87
        go_wp2_with (first|((with_reducible refine gd 2 rfl ?_);refine bx 2 #[.int .i64 L, .int .i64 M, .slice q c.length s, .int .i64 O, .int .i64 P, .slice v g.length x, .slice A m.length B, .slice T o.length U] 104 ?_;intro aw hg ci hbox hb;have a:=Aside0.mk hbox;have aB:=hz HB hg;replace HB:=hs HB hb;clear hb hbox hg)|((with_reducible refine gd 3 rfl ?_);refine bx 3 #[.int .i64 W, .int .i64 X, .slice t d.length u, .int .i64 Y, .int .i64 Z, .slice y i.length z, .slice D n.length E, .slice ab p.length ac] 104 ?_;intro aE hg cj hbox hb;have b:=Aside0.mk hbox;have aF:=hz HB hg;have j:=nl a hg;have l:=ng a hg;replace a:=kb a hb;replace HB:=hs HB hb;clear hb hbox hg;have b7:=j.out;have b8:=l.out;have:=cf8 a;have:=cf8 b)|(refine gl (some 19) Tryz.func37 #[.slice q c.length s, .slice t d.length u] rfl ?_;(with_reducible refine(bA.calls k _ _ c _ _ d true _ (cb G.out) I.out (cb J.out) K.out A5.out).mono ?_);rintro e w' ⟨rfl,⟨nd,rfl⟩⟩;refine⟨_,rfl, ?_⟩)|(refine gl (some 35) Tryz.func152 #[.slice v g.length x, .slice y i.length z] rfl ?_;(with_reducible refine(bZ.calls k _ _ g _ _ i true _ (cb ad.out) al.out (cb am.out) an.out A9.out).mono ?_);rintro e w32 ⟨rfl,hb⟩;refine⟨_,rfl, ?_⟩;replace a:=kb a hb;replace b:=kb b hb;replace HB:=hs HB hb;have:=cf8 a;have:=cf8 b)|(refine gl (some 41) Tryz.func153 #[.slice A m.length B, .slice D n.length E] rfl ?_;(with_reducible refine(bR.calls k _ _ m _ _ n true _ (cb ao.out) ap.out (cb aq.out) ar.out bo.out).mono ?_);rintro e ck ⟨rfl,hb⟩;refine⟨_,rfl, ?_⟩;replace a:=kb a hb;replace b:=kb b hb;replace HB:=hs HB hb;have:=cf8 a;have:=cf8 b)|(refine gl (some 47) Tryz.func154 #[.slice T o.length U, .slice ab p.length ac] rfl ?_;(with_reducible refine(bS.calls k _ _ o _ _ p false _ (cb bh.out) bj.out (cb bk.out) bm.out bp.out).mono ?_);rintro e cl ⟨rfl,hb⟩;refine⟨_,rfl, ?_⟩;replace a:=kb a hb;replace b:=kb b hb;replace HB:=hs HB hb))
        go_ret
        exact fin
       replace c12:=Bool.eq_false_iff.mpr c12
       subst c12
       replace H:=ie H
       obtain rfl:=Option.some.inj H;clear H
       go_enter Tryz.func87,Tryz.ntmps87
       go_wp2_with (first|((with_reducible refine gd 2 rfl ?_);refine bx 2 #[.int .i64 L, .int .i64 M, .slice q c.length s, .int .i64 O, .int .i64 P, .slice v g.length x, .slice A m.length B, .slice T o.length U] 104 ?_;intro aw hg cm hbox hb;have a:=Aside0.mk hbox;have aB:=hz HB hg;replace HB:=hs HB hb;clear hb hbox hg)|((with_reducible refine gd 3 rfl ?_);refine bx 3 #[.int .i64 W, .int .i64 X, .slice t d.length u, .int .i64 Y, .int .i64 Z, .slice y i.length z, .slice D n.length E, .slice ab p.length ac] 104 ?_;intro aE hg cn hbox hb;have b:=Aside0.mk hbox;have aF:=hz HB hg;have j:=nl a hg;have l:=ng a hg;replace a:=kb a hb;replace HB:=hs HB hb;clear hb hbox hg;have b9:=j.out;have ca:=l.out;have:=cf8 a;have:=cf8 b)|(refine gl (some 19) Tryz.func37 #[.slice q c.length s, .slice t d.length u] rfl ?_;(with_reducible refine(bA.calls k _ _ c _ _ d true _ (cb G.out) I.out (cb J.out) K.out A5.out).mono ?_);rintro e w' ⟨rfl,⟨nd,rfl⟩⟩;refine⟨_,rfl, ?_⟩)|(refine gl (some 35) Tryz.func152 #[.slice v g.length x, .slice y i.length z] rfl ?_;(with_reducible refine(bZ.calls k _ _ g _ _ i true _ (cb ad.out) al.out (cb am.out) an.out A9.out).mono ?_);rintro e co ⟨rfl,hb⟩;refine⟨_,rfl, ?_⟩;replace a:=kb a hb;replace b:=kb b hb;replace HB:=hs HB hb;have:=cf8 a;have:=cf8 b)|(refine gl (some 41) Tryz.func153 #[.slice A m.length B, .slice D n.length E] rfl ?_;(with_reducible refine(bR.calls k _ _ m _ _ n false _ (cb ao.out) ap.out (cb aq.out) ar.out bo.out).mono ?_);rintro e cp ⟨rfl,hb⟩;refine⟨_,rfl, ?_⟩;replace a:=kb a hb;replace b:=kb b hb;replace HB:=hs HB hb))
       go_ret
       exact fin
      replace c10:=Bool.eq_false_iff.mpr c10
      subst c10
      replace H:=ie H
      obtain rfl:=Option.some.inj H;clear H
      go_enter Tryz.func87,Tryz.ntmps87
      go_wp2_with (first|((with_reducible refine gd 2 rfl ?_);refine bx 2 #[.int .i64 L, .int .i64 M, .slice q c.length s, .int .i64 O, .int .i64 P, .slice v g.length x, .slice A m.length B, .slice T o.length U] 104 ?_;intro aw hg cq hbox hb;have a:=Aside0.mk hbox;have aB:=hz HB hg;replace HB:=hs HB hb;clear hb hbox hg)|((with_reducible refine gd 3 rfl ?_);refine bx 3 #[.int .i64 W, .int .i64 X, .slice t d.length u, .int .i64 Y, .int .i64 Z, .slice y i.length z, .slice D n.length E, .slice ab p.length ac] 104 ?_;intro aE hg cr hbox hb;have b:=Aside0.mk hbox;have aF:=hz HB hg;have j:=nl a hg;have l:=ng a hg;replace a:=kb a hb;replace HB:=hs HB hb;clear hb hbox hg;have cc:=j.out;have cd:=l.out;have:=cf8 a;have:=cf8 b)|(refine gl (some 19) Tryz.func37 #[.slice q c.length s, .slice t d.length u] rfl ?_;(with_reducible refine(bA.calls k _ _ c _ _ d true _ (cb G.out) I.out (cb J.out) K.out A5.out).mono ?_);rintro e w' ⟨rfl,⟨nd,rfl⟩⟩;refine⟨_,rfl, ?_⟩)|(refine gl (some 35) Tryz.func152 #[.slice v g.length x, .slice y i.length z] rfl ?_;(with_reducible refine(bZ.calls k _ _ g _ _ i false _ (cb ad.out) al.out (cb am.out) an.out A9.out).mono ?_);rintro e cs ⟨rfl,hb⟩;refine⟨_,rfl, ?_⟩;replace a:=kb a hb;replace b:=kb b hb;replace HB:=hs HB hb))
      go_ret
      exact fin
     rw[if_neg c8]at H
     have b2:=beq_eq_false_iff_ne.mpr c8
     have b3:=bne_iff_ne.mpr c8
     obtain rfl:=Option.some.inj H;clear H
     go_enter Tryz.func87,Tryz.ntmps87
     go_wp2_with (first|(refine gl (some 19) Tryz.func37 #[.slice q c.length s, .slice t d.length u] rfl ?_;(with_reducible refine(bA.calls k _ _ c _ _ d true _ (cb G.out) I.out (cb J.out) K.out A5.out).mono ?_);rintro e w' ⟨rfl,⟨nd,rfl⟩⟩;refine⟨_,rfl, ?_⟩))
     go_ret
     exact fin
    rw[if_neg c7]at H
    have b0:=beq_eq_false_iff_ne.mpr c7
    have b1:=bne_iff_ne.mpr c7
    obtain rfl:=Option.some.inj H;clear H
    go_enter Tryz.func87,Tryz.ntmps87
    go_wp2_with (first|(refine gl (some 19) Tryz.func37 #[.slice q c.length s, .slice t d.length u] rfl ?_;(with_reducible refine(bA.calls k _ _ c _ _ d true _ (cb G.out) I.out (cb J.out) K.out A5.out).mono ?_);rintro e w' ⟨rfl,⟨nd,rfl⟩⟩;refine⟨_,rfl, ?_⟩))
    go_ret
    exact fin
   replace c6:=Bool.eq_false_iff.mpr c6
   subst c6
   replace H:=ie H
   obtain rfl:=Option.some.inj H;clear H
   go_enter Tryz.func87,Tryz.ntmps87
   go_wp2_with (first|(refine gl (some 19) Tryz.func37 #[.slice q c.length s, .slice t d.length u] rfl ?_;(with_reducible refine(bA.calls k _ _ c _ _ d false _ (cb G.out) I.out (cb J.out) K.out A5.out).mono ?_);rintro e w' ⟨rfl,⟨nd,rfl⟩⟩;refine⟨_,rfl, ?_⟩))
   go_ret
   exact fin
  rw[if_neg c4]at H
  have bt:=beq_eq_false_iff_ne.mpr c4
  have bw:=bne_iff_ne.mpr c4
  obtain rfl:=Option.some.inj H;clear H
  go_enter Tryz.func87,Tryz.ntmps87
  go_wp2
  go_ret
  exact fin
 rw[if_neg c3]at H
 have br:=beq_eq_false_iff_ne.mpr c3
 have bs:=bne_iff_ne.mpr c3
 obtain rfl:=Option.some.inj H;clear H
 go_enter Tryz.func87,Tryz.ntmps87
 go_wp2
 go_ret
 exact fin
def bL.T6:Bool×List (List Nat×List Nat):=(true, [([], []),([], []),([0,1], [0,1]),([2], [2]),([], []),([], []),([4,5], [4,5]),([6], [6]),([3,7], [3,7]),([8], [8])])
def bL.B6:List Nat:= [0,0,3,7,0,0,48,112,255,511]
theorem bL.tab6:eU .any (opsOf Tryz.f40 6)=bL.T6:=by kernel_rfl
theorem bL.bits6:eQ bL.T6.2 bL.B6=true:=by kernel_rfl
set_option maxHeartbeats 8000000 in
set_option maxRecDepth 100000 in
theorem bL.calls (k:Nat) (A0:Option Addr) (c0:Nat) (l0:List (S104)) (A1:Option Addr) (c1:Nat) (l1:List (S104)) (r:Bool) (w:World) (hr0:Kd.C eD w A0 l0.length l0) (hc0:l0.length≤c0) (hr1:Kd.C eD w A1 l1.length l1) (hc1:l1.length≤c1) (h:bL.f k l0 l1=some r):
  Calls Tryz.prog 40 #[.slice A0 l0.length c0, .slice A1 l1.length c1] w fun e w' =>e= .returned (.bool r)∧Below w.heap.size w w' :=by
 have ci:=Tryz.underlying104
 have ca:=Aside0.mk hr0
 have cl:=Aside0.mk hc0
 clear hr0 hc0
 have HR1:=Aside0.mk hr1
 have cm:=Aside0.mk hc1
 clear hr1 hc1
 have HB:=Aside0.mk (Below.refl w.heap.size w)
 have H:(if(l0.length:Int)=(l1.length:Int)then(bL.l0 k l0 l1 0)else(some false))=some r:=h
 clear h
 by_cases c3:(l0.length:Int)=(l1.length:Int)
 ·rw [if_pos c3]at H
  have cd:=beq_iff_eq.mpr c3
  have ce:=bne_eq_false_iff_eq.mpr c3
  have cf:(l0.length==l1.length)=true:=by first|simpa using c3|(simp at c3⊢;omega)
  clear c3
  have H' :=Aside0.mk H
  clear H
  go_enter Tryz.func40,Tryz.ntmps40
  go_wp2
  go_loopg [5] k (fun kq v5 w' => ∃(a:Int),v5= .int .i64 a∧Aside0 (bL.l0 kq l0 l1 a=some r)∧Aside0 (kq≤k)∧Aside0 (Below w.heap.size w w'))
  case atStart=>exact⟨(0),(by first|rfl|(simp;done)|(simp[*];done)),H',⟨Nat.le_refl _⟩,⟨bl⟩⟩
  case round=>
   clear H'
   obtain⟨a,rfl,HA,cc,HB⟩:=hrel
   cases gk with
   |zero=>exact absurd HA.out (by simp[bL.l0])
   | succ k1=>
    have H:=HA.out
    clear HA
    simp only[bL.l0]at H
    by_cases c4:a<(l0.length:Int)
    ·rw [if_pos c4]at H
     have cg:decide (a<(l0.length:Int))=true:=decide_eq_true c4
     clear c4
     by_cases c5:0≤a
     ·rw[if_pos c5]at H
      have cj:decide (0≤a)=true:=decide_eq_true c5
      clear c5
      by_cases c6:a<(l1.length:Int)
      ·rw[if_pos c6]at H
       have ck:decide (a<(l1.length:Int))=true:=decide_eq_true c6
       clear c6
       obtain⟨ch,A7,H⟩:=ob H
       by_cases c8:ch=true
       ·subst c8
        replace H:=it H
        have H' :=Aside0.mk H
        clear H
        try go_wp2
        replace HB:=Aside0.mk (ay HB.out)
        have br:0≤(a:Int):=od
        have bs:a<(l0.length:Int):=od
        obtain⟨b,a5,a6,a7,a8,a9,ba,bb,bc,b8,d,g,j,l,m,o,p,q,ab,ac,ad,al,am,an,ao,ap⟩:=cu ca.out a br bs
        have s:=q
        have t:=p
        have u:=o
        have v:=m
        have x:=l
        have y:=j
        have z:=g
        have A:=d
        cases b8
        obtain⟨d,g,j,l,m,o,p,q⟩:=hc8 HB d g j l m o p q
        have aq:=Aside0.mk ac
        have b0:=Aside0.mk ab
        clear ac ab
        have ar:=Aside0.mk al
        have b1:=Aside0.mk ad
        clear al ad
        have aw:=Aside0.mk an
        have b2:=Aside0.mk am
        clear an am
        have aB:=Aside0.mk ap
        have b3:=Aside0.mk ao
        clear ap ao
        replace br:=eq_true br
        replace bs:=eq_true bs
        have bt:0≤(a:Int):=od
        have bw:a<(l1.length:Int):=od
        obtain⟨c,bd,be,bh,bj,bk,bm,bo,bp,b9,B,D,E,G,I,J,L,M,aE,aF,aL,aO,aP,aR,aS,a0⟩:=cu HR1.out a bt bw
        have O:=M
        have P:=L
        have T:=J
        have U:=I
        have W:=G
        have X:=E
        have Y:=D
        have Z:=B
        cases b9
        obtain⟨B,D,E,G,I,J,L,M⟩:=hc8 HB B D E G I J L M
        have a1:=Aside0.mk aF
        have b4:=Aside0.mk aE
        clear aF aE
        have a2:=Aside0.mk aO
        have b5:=Aside0.mk aL
        clear aO aL
        have a3:=Aside0.mk aR
        have b6:=Aside0.mk aP
        clear aR aP
        have a4:=Aside0.mk a0
        have b7:=Aside0.mk aS
        clear a0 aS
        replace bt:=eq_true bt
        replace bw:=eq_true bw
        refine cB (n:=10) (S:=fun w' =>w'.cell? (b.add ((a).toNat * 8))=some (.int .i64 ((aa l0 a).f0))∧w'.cell? ⟨(b.add ((a).toNat * 8)).block,(b.add ((a).toNat * 8)).off+1,none⟩=some (.int .i64 ((aa l0 a).f1))∧w'.cell? ⟨(b.add ((a).toNat * 8)).block,(b.add ((a).toNat * 8)).off+2,none⟩=some (.slice a5 ((aa l0 a).f2).length a6)∧w'.cell? ⟨(b.add ((a).toNat * 8)).block,(b.add ((a).toNat * 8)).off+3,none⟩=some (.int .i64 ((aa l0 a).f3))∧w'.cell? ⟨(b.add ((a).toNat * 8)).block,(b.add ((a).toNat * 8)).off+4,none⟩=some (.int .i64 ((aa l0 a).f4))∧w'.cell? ⟨(b.add ((a).toNat * 8)).block,(b.add ((a).toNat * 8)).off+5,none⟩=some (.slice a7 ((aa l0 a).f5).length a8)∧w'.cell? ⟨(b.add ((a).toNat * 8)).block,(b.add ((a).toNat * 8)).off+6,none⟩=some (.slice a9 ((aa l0 a).f6).length ba)∧w'.cell? ⟨(b.add ((a).toNat * 8)).block,(b.add ((a).toNat * 8)).off+7,none⟩=some (.slice bb ((aa l0 a).f7).length bc)∧w'.cell? (c.add ((a).toNat * 8))=some (.int .i64 ((aa l1 a).f0))∧w'.cell? ⟨(c.add ((a).toNat * 8)).block,(c.add ((a).toNat * 8)).off+1,none⟩=some (.int .i64 ((aa l1 a).f1))∧w'.cell? ⟨(c.add ((a).toNat * 8)).block,(c.add ((a).toNat * 8)).off+2,none⟩=some (.slice bd ((aa l1 a).f2).length be)∧w'.cell? ⟨(c.add ((a).toNat * 8)).block,(c.add ((a).toNat * 8)).off+3,none⟩=some (.int .i64 ((aa l1 a).f3))∧w'.cell? ⟨(c.add ((a).toNat * 8)).block,(c.add ((a).toNat * 8)).off+4,none⟩=some (.int .i64 ((aa l1 a).f4))∧w'.cell? ⟨(c.add ((a).toNat * 8)).block,(c.add ((a).toNat * 8)).off+5,none⟩=some (.slice bh ((aa l1 a).f5).length bj)∧w'.cell? ⟨(c.add ((a).toNat * 8)).block,(c.add ((a).toNat * 8)).off+6,none⟩=some (.slice bk ((aa l1 a).f6).length bm)∧w'.cell? ⟨(c.add ((a).toNat * 8)).block,(c.add ((a).toNat * 8)).off+7,none⟩=some (.slice bo ((aa l1 a).f7).length bp)) (ds:= []) (upto 10 0) (by kernel_rfl) rfl rfl ⟨((HB.out.cell (World.block_lt_of_cell? w _ A)).trans A),((HB.out.cell (World.block_lt_of_cell? w _ z)).trans z),((HB.out.cell (World.block_lt_of_cell? w _ y)).trans y),((HB.out.cell (World.block_lt_of_cell? w _ x)).trans x),((HB.out.cell (World.block_lt_of_cell? w _ v)).trans v),((HB.out.cell (World.block_lt_of_cell? w _ u)).trans u),((HB.out.cell (World.block_lt_of_cell? w _ t)).trans t),((HB.out.cell (World.block_lt_of_cell? w _ s)).trans s),((HB.out.cell (World.block_lt_of_cell? w _ Z)).trans Z),((HB.out.cell (World.block_lt_of_cell? w _ Y)).trans Y),((HB.out.cell (World.block_lt_of_cell? w _ X)).trans X),((HB.out.cell (World.block_lt_of_cell? w _ W)).trans W),((HB.out.cell (World.block_lt_of_cell? w _ U)).trans U),((HB.out.cell (World.block_lt_of_cell? w _ T)).trans T),((HB.out.cell (World.block_lt_of_cell? w _ P)).trans P),((HB.out.cell (World.block_lt_of_cell? w _ O)).trans O)⟩ (fun hHeld=> ?_);refine bB bL.tab6 bL.bits6 (fun HT_ HW_=> ?_)
        generalize wr.drew=w9 at HB aq ar aw aB a1 a2 a3 a4 d g j l m o p q B D E G I J L M hHeld⊢
        repeat(first|refine vN ?_|refine pN ?_|refine tN ?_)
        refine cO (i:=8) (N:=some 25) (upto 10 9) rfl rfl (bI HT_.out (by kernel_rfl)) (by decide) (fun K hK=> ?_)
        refine gs Tryz.func87 #[.agg #[.int .i64 ((aa l0 a).f0), .int .i64 ((aa l0 a).f1), .slice a5 ((aa l0 a).f2).length a6, .int .i64 ((aa l0 a).f3), .int .i64 ((aa l0 a).f4), .slice a7 ((aa l0 a).f5).length a8, .slice a9 ((aa l0 a).f6).length ba, .slice bb ((aa l0 a).f7).length bc], .agg #[.int .i64 ((aa l1 a).f0), .int .i64 ((aa l1 a).f1), .slice bd ((aa l1 a).f2).length be, .int .i64 ((aa l1 a).f3), .int .i64 ((aa l1 a).f4), .slice bh ((aa l1 a).f5).length bj, .slice bk ((aa l1 a).f6).length bm, .slice bo ((aa l1 a).f7).length bp]] rfl rfl ?_
        with_reducible refine(gY.calls k1 ((aa l0 a).f0) ((aa l0 a).f1) _ _ ((aa l0 a).f2) ((aa l0 a).f3) ((aa l0 a).f4) _ _ ((aa l0 a).f5) _ _ ((aa l0 a).f6) _ _ ((aa l0 a).f7) ((aa l1 a).f0) ((aa l1 a).f1) _ _ ((aa l1 a).f2) ((aa l1 a).f3) ((aa l1 a).f4) _ _ ((aa l1 a).f5) _ _ ((aa l1 a).f6) _ _ ((aa l1 a).f7) true _ (cb aq.out) b0.out (cb ar.out) b1.out (cb aw.out) b2.out (cb aB.out) b3.out (cb a1.out) b4.out (cb a2.out) b5.out (cb a3.out) b6.out (cb a4.out) b7.out A7.out).mono ?_
        rintro e cn ⟨rfl,hb⟩
        refine⟨_,rfl, ?_⟩
        replace HB:=hs HB hb
        refine hK.out _ _ ⟨((HB.out.cell (World.block_lt_of_cell? w _ A)).trans A),((HB.out.cell (World.block_lt_of_cell? w _ z)).trans z),((HB.out.cell (World.block_lt_of_cell? w _ y)).trans y),((HB.out.cell (World.block_lt_of_cell? w _ x)).trans x),((HB.out.cell (World.block_lt_of_cell? w _ v)).trans v),((HB.out.cell (World.block_lt_of_cell? w _ u)).trans u),((HB.out.cell (World.block_lt_of_cell? w _ t)).trans t),((HB.out.cell (World.block_lt_of_cell? w _ s)).trans s),((HB.out.cell (World.block_lt_of_cell? w _ Z)).trans Z),((HB.out.cell (World.block_lt_of_cell? w _ Y)).trans Y),((HB.out.cell (World.block_lt_of_cell? w _ X)).trans X),((HB.out.cell (World.block_lt_of_cell? w _ W)).trans W),((HB.out.cell (World.block_lt_of_cell? w _ U)).trans U),((HB.out.cell (World.block_lt_of_cell? w _ T)).trans T),((HB.out.cell (World.block_lt_of_cell? w _ P)).trans P),((HB.out.cell (World.block_lt_of_cell? w _ O)).trans O)⟩ (fun hHeld=> ?_)
        clear hK K
        refine no 25 ?_
        repeat(first|refine vN ?_|refine pN ?_|refine tN ?_)
        refine dD (bX HT_.out (by kernel_rfl)) ?_
        try go_wp2
        go_roundg k1
        case measure=>have:=cc.out;omega
        case rel=>exact⟨(wrap64 (a+1)),(by first|rfl|(simp;done)|(simp[*];done)),H',⟨by have:=cc.out;omega⟩,⟨bl⟩⟩
       replace c8:=Bool.eq_false_iff.mpr c8
       subst c8
       replace H:=ie H
       obtain rfl:=Option.some.inj H;clear H
       try go_wp2
       replace HB:=Aside0.mk (ay HB.out)
       have br:0≤(a:Int):=od
       have bs:a<(l0.length:Int):=od
       obtain⟨b,a5,a6,a7,a8,a9,ba,bb,bc,b8,d,g,j,l,m,o,p,q,ab,ac,ad,al,am,an,ao,ap⟩:=cu ca.out a br bs
       have s:=q
       have t:=p
       have u:=o
       have v:=m
       have x:=l
       have y:=j
       have z:=g
       have A:=d
       cases b8
       obtain⟨d,g,j,l,m,o,p,q⟩:=hc8 HB d g j l m o p q
       have aq:=Aside0.mk ac
       have b0:=Aside0.mk ab
       clear ac ab
       have ar:=Aside0.mk al
       have b1:=Aside0.mk ad
       clear al ad
       have aw:=Aside0.mk an
       have b2:=Aside0.mk am
       clear an am
       have aB:=Aside0.mk ap
       have b3:=Aside0.mk ao
       clear ap ao
       replace br:=eq_true br
       replace bs:=eq_true bs
       have bt:0≤(a:Int):=od
       have bw:a<(l1.length:Int):=od
       obtain⟨c,bd,be,bh,bj,bk,bm,bo,bp,b9,B,D,E,G,I,J,L,M,aE,aF,aL,aO,aP,aR,aS,a0⟩:=cu HR1.out a bt bw
       have O:=M
       have P:=L
       have T:=J
       have U:=I
       have W:=G
       have X:=E
       have Y:=D
       have Z:=B
       cases b9
       obtain⟨B,D,E,G,I,J,L,M⟩:=hc8 HB B D E G I J L M
       have a1:=Aside0.mk aF
       have b4:=Aside0.mk aE
       clear aF aE
       have a2:=Aside0.mk aO
       have b5:=Aside0.mk aL
       clear aO aL
       have a3:=Aside0.mk aR
       have b6:=Aside0.mk aP
       clear aR aP
       have a4:=Aside0.mk a0
       have b7:=Aside0.mk aS
       clear a0 aS
       replace bt:=eq_true bt
       replace bw:=eq_true bw
       refine cB (n:=10) (S:=fun w' =>w'.cell? (b.add ((a).toNat * 8))=some (.int .i64 ((aa l0 a).f0))∧w'.cell? ⟨(b.add ((a).toNat * 8)).block,(b.add ((a).toNat * 8)).off+1,none⟩=some (.int .i64 ((aa l0 a).f1))∧w'.cell? ⟨(b.add ((a).toNat * 8)).block,(b.add ((a).toNat * 8)).off+2,none⟩=some (.slice a5 ((aa l0 a).f2).length a6)∧w'.cell? ⟨(b.add ((a).toNat * 8)).block,(b.add ((a).toNat * 8)).off+3,none⟩=some (.int .i64 ((aa l0 a).f3))∧w'.cell? ⟨(b.add ((a).toNat * 8)).block,(b.add ((a).toNat * 8)).off+4,none⟩=some (.int .i64 ((aa l0 a).f4))∧w'.cell? ⟨(b.add ((a).toNat * 8)).block,(b.add ((a).toNat * 8)).off+5,none⟩=some (.slice a7 ((aa l0 a).f5).length a8)∧w'.cell? ⟨(b.add ((a).toNat * 8)).block,(b.add ((a).toNat * 8)).off+6,none⟩=some (.slice a9 ((aa l0 a).f6).length ba)∧w'.cell? ⟨(b.add ((a).toNat * 8)).block,(b.add ((a).toNat * 8)).off+7,none⟩=some (.slice bb ((aa l0 a).f7).length bc)∧w'.cell? (c.add ((a).toNat * 8))=some (.int .i64 ((aa l1 a).f0))∧w'.cell? ⟨(c.add ((a).toNat * 8)).block,(c.add ((a).toNat * 8)).off+1,none⟩=some (.int .i64 ((aa l1 a).f1))∧w'.cell? ⟨(c.add ((a).toNat * 8)).block,(c.add ((a).toNat * 8)).off+2,none⟩=some (.slice bd ((aa l1 a).f2).length be)∧w'.cell? ⟨(c.add ((a).toNat * 8)).block,(c.add ((a).toNat * 8)).off+3,none⟩=some (.int .i64 ((aa l1 a).f3))∧w'.cell? ⟨(c.add ((a).toNat * 8)).block,(c.add ((a).toNat * 8)).off+4,none⟩=some (.int .i64 ((aa l1 a).f4))∧w'.cell? ⟨(c.add ((a).toNat * 8)).block,(c.add ((a).toNat * 8)).off+5,none⟩=some (.slice bh ((aa l1 a).f5).length bj)∧w'.cell? ⟨(c.add ((a).toNat * 8)).block,(c.add ((a).toNat * 8)).off+6,none⟩=some (.slice bk ((aa l1 a).f6).length bm)∧w'.cell? ⟨(c.add ((a).toNat * 8)).block,(c.add ((a).toNat * 8)).off+7,none⟩=some (.slice bo ((aa l1 a).f7).length bp)) (ds:= []) (upto 10 0) (by kernel_rfl) rfl rfl ⟨((HB.out.cell (World.block_lt_of_cell? w _ A)).trans A),((HB.out.cell (World.block_lt_of_cell? w _ z)).trans z),((HB.out.cell (World.block_lt_of_cell? w _ y)).trans y),((HB.out.cell (World.block_lt_of_cell? w _ x)).trans x),((HB.out.cell (World.block_lt_of_cell? w _ v)).trans v),((HB.out.cell (World.block_lt_of_cell? w _ u)).trans u),((HB.out.cell (World.block_lt_of_cell? w _ t)).trans t),((HB.out.cell (World.block_lt_of_cell? w _ s)).trans s),((HB.out.cell (World.block_lt_of_cell? w _ Z)).trans Z),((HB.out.cell (World.block_lt_of_cell? w _ Y)).trans Y),((HB.out.cell (World.block_lt_of_cell? w _ X)).trans X),((HB.out.cell (World.block_lt_of_cell? w _ W)).trans W),((HB.out.cell (World.block_lt_of_cell? w _ U)).trans U),((HB.out.cell (World.block_lt_of_cell? w _ T)).trans T),((HB.out.cell (World.block_lt_of_cell? w _ P)).trans P),((HB.out.cell (World.block_lt_of_cell? w _ O)).trans O)⟩ (fun hHeld=> ?_);refine bB bL.tab6 bL.bits6 (fun HT_ HW_=> ?_)
       generalize wr.drew=co at HB aq ar aw aB a1 a2 a3 a4 d g j l m o p q B D E G I J L M hHeld⊢
       repeat(first|refine vN ?_|refine pN ?_|refine tN ?_)
       refine cO (i:=8) (N:=some 25) (upto 10 9) rfl rfl (bI HT_.out (by kernel_rfl)) (by decide) (fun K hK=> ?_)
       refine gs Tryz.func87 #[.agg #[.int .i64 ((aa l0 a).f0), .int .i64 ((aa l0 a).f1), .slice a5 ((aa l0 a).f2).length a6, .int .i64 ((aa l0 a).f3), .int .i64 ((aa l0 a).f4), .slice a7 ((aa l0 a).f5).length a8, .slice a9 ((aa l0 a).f6).length ba, .slice bb ((aa l0 a).f7).length bc], .agg #[.int .i64 ((aa l1 a).f0), .int .i64 ((aa l1 a).f1), .slice bd ((aa l1 a).f2).length be, .int .i64 ((aa l1 a).f3), .int .i64 ((aa l1 a).f4), .slice bh ((aa l1 a).f5).length bj, .slice bk ((aa l1 a).f6).length bm, .slice bo ((aa l1 a).f7).length bp]] rfl rfl ?_
       with_reducible refine(gY.calls k1 ((aa l0 a).f0) ((aa l0 a).f1) _ _ ((aa l0 a).f2) ((aa l0 a).f3) ((aa l0 a).f4) _ _ ((aa l0 a).f5) _ _ ((aa l0 a).f6) _ _ ((aa l0 a).f7) ((aa l1 a).f0) ((aa l1 a).f1) _ _ ((aa l1 a).f2) ((aa l1 a).f3) ((aa l1 a).f4) _ _ ((aa l1 a).f5) _ _ ((aa l1 a).f6) _ _ ((aa l1 a).f7) false _ (cb aq.out) b0.out (cb ar.out) b1.out (cb aw.out) b2.out (cb aB.out) b3.out (cb a1.out) b4.out (cb a2.out) b5.out (cb a3.out) b6.out (cb a4.out) b7.out A7.out).mono ?_
       rintro e cp ⟨rfl,hb⟩
       refine⟨_,rfl, ?_⟩
       replace HB:=hs HB hb
       refine hK.out _ _ ⟨((HB.out.cell (World.block_lt_of_cell? w _ A)).trans A),((HB.out.cell (World.block_lt_of_cell? w _ z)).trans z),((HB.out.cell (World.block_lt_of_cell? w _ y)).trans y),((HB.out.cell (World.block_lt_of_cell? w _ x)).trans x),((HB.out.cell (World.block_lt_of_cell? w _ v)).trans v),((HB.out.cell (World.block_lt_of_cell? w _ u)).trans u),((HB.out.cell (World.block_lt_of_cell? w _ t)).trans t),((HB.out.cell (World.block_lt_of_cell? w _ s)).trans s),((HB.out.cell (World.block_lt_of_cell? w _ Z)).trans Z),((HB.out.cell (World.block_lt_of_cell? w _ Y)).trans Y),((HB.out.cell (World.block_lt_of_cell? w _ X)).trans X),((HB.out.cell (World.block_lt_of_cell? w _ W)).trans W),((HB.out.cell (World.block_lt_of_cell? w _ U)).trans U),((HB.out.cell (World.block_lt_of_cell? w _ T)).trans T),((HB.out.cell (World.block_lt_of_cell? w _ P)).trans P),((HB.out.cell (World.block_lt_of_cell? w _ O)).trans O)⟩ (fun hHeld=> ?_)
       clear hK K
       refine no 25 ?_
       repeat(first|refine vN ?_|refine pN ?_|refine tN ?_)
       refine dD (bX HT_.out (by kernel_rfl)) ?_
       try go_wp2
       go_ret
       exact fin
      rw[if_neg c6]at H
      exact absurd H (by simp)
     rw[if_neg c5]at H
     exact absurd H (by simp)
    rw[if_neg c4]at H
    have cg:decide (a<(l0.length:Int))=false:=decide_eq_false c4
    clear c4
    obtain rfl:=Option.some.inj H;clear H
    go_wp2
    go_ret
    exact fin
 rw[if_neg c3]at H
 have cd:=beq_eq_false_iff_ne.mpr c3
 have ce:=bne_iff_ne.mpr c3
 have cf:(l0.length==l1.length)=false:=by first|simpa using c3|(simp at c3⊢;omega)
 obtain rfl:=Option.some.inj H;clear H
 go_enter Tryz.func40,Tryz.ntmps40
 go_wp2
 go_ret
 exact fin
set_option maxHeartbeats 8000000 in
set_option maxRecDepth 100000 in
theorem fM.calls (k:Nat) (m:Option Addr) (n:Nat) (c:List (S126)) (q:Option Addr) (s:Nat) (g:List (S104)) (o:Option Addr) (p:Nat) (d:List (S126)) (t:Option Addr) (u:Nat) (i:List (S104)) (r:Bool) (w:World) (D:Kd.C eB w m c.length c) (E:c.length≤n) (G:Kd.C eD w q g.length g) (I:g.length≤s) (J:Kd.C eB w o d.length d) (K:d.length≤p) (L:Kd.C eD w t i.length i) (M:i.length≤u) (h:fM.f k c g d i=some r):
  Calls Tryz.prog 11 #[.agg #[.slice m c.length n, .slice q g.length s], .agg #[.slice o d.length p, .slice t i.length u]] w fun e w' =>e= .returned (.bool r)∧Below w.heap.size w w' :=by
 have am:=Tryz.underlying38
 have v:=Aside0.mk D
 have x:=Aside0.mk E
 clear D E
 have O:=Aside0.mk G
 have P:=Aside0.mk I
 clear G I
 have y:=Aside0.mk J
 have z:=Aside0.mk K
 clear J K
 have T:=Aside0.mk L
 have U:=Aside0.mk M
 clear L M
 have HB:=Aside0.mk (Below.refl w.heap.size w)
 have H:((bQ.f k c d).bind fun A=>(if A=true then((bL.f k g i).bind fun B=>(if B=true then(some true)else(some false)))else(some false)))=some r:=h
 clear h
 obtain⟨A,A3,H⟩:=ob H
 by_cases c4:A=true
 ·subst c4
  replace H:=it H
  obtain⟨B,A5,H⟩:=ob H
  by_cases c6:B=true
  ·subst c6
   replace H:=it H
   obtain rfl:=Option.some.inj H;clear H
   go_enter Tryz.func11,Tryz.ntmps11
   go_wp2_with (first|((with_reducible refine gd 2 rfl ?_);refine bx 2 #[.slice m c.length n, .slice q g.length s] 38 ?_;intro W hg w7 hbox hb;have a:=Aside0.mk hbox;have X:=hz HB hg;replace HB:=hs HB hb;clear hb hbox hg)|((with_reducible refine gd 3 rfl ?_);refine bx 3 #[.slice o d.length p, .slice t i.length u] 38 ?_;intro Y hg w8 hbox hb;have b:=Aside0.mk hbox;have Z:=hz HB hg;have j:=nl a hg;have l:=ng a hg;replace a:=kb a hb;replace HB:=hs HB hb;clear hb hbox hg;have an:=j.out;have ao:=l.out;have:=cf2 a;have:=cf2 b)|(refine gl (some 9) Tryz.func39 #[.slice m c.length n, .slice o d.length p] rfl ?_;(with_reducible refine(bQ.calls k _ _ c _ _ d true _ (cb v.out) x.out (cb y.out) z.out A3.out).mono ?_);rintro e ap ⟨rfl,hb⟩;refine⟨_,rfl, ?_⟩;replace a:=kb a hb;replace b:=kb b hb;replace HB:=hs HB hb;have:=cf2 a;have:=cf2 b)|(refine gl (some 15) Tryz.func40 #[.slice q g.length s, .slice t i.length u] rfl ?_;(with_reducible refine(bL.calls k _ _ g _ _ i true _ (cb O.out) P.out (cb T.out) U.out A5.out).mono ?_);rintro e aq ⟨rfl,hb⟩;refine⟨_,rfl, ?_⟩;replace a:=kb a hb;replace b:=kb b hb;replace HB:=hs HB hb))
   go_ret
   exact fin
  replace c6:=Bool.eq_false_iff.mpr c6
  subst c6
  replace H:=ie H
  obtain rfl:=Option.some.inj H;clear H
  go_enter Tryz.func11,Tryz.ntmps11
  go_wp2_with (first|((with_reducible refine gd 2 rfl ?_);refine bx 2 #[.slice m c.length n, .slice q g.length s] 38 ?_;intro W hg w16 hbox hb;have a:=Aside0.mk hbox;have X:=hz HB hg;replace HB:=hs HB hb;clear hb hbox hg)|((with_reducible refine gd 3 rfl ?_);refine bx 3 #[.slice o d.length p, .slice t i.length u] 38 ?_;intro Y hg ar hbox hb;have b:=Aside0.mk hbox;have Z:=hz HB hg;have j:=nl a hg;have l:=ng a hg;replace a:=kb a hb;replace HB:=hs HB hb;clear hb hbox hg;have ab:=j.out;have ac:=l.out;have:=cf2 a;have:=cf2 b)|(refine gl (some 9) Tryz.func39 #[.slice m c.length n, .slice o d.length p] rfl ?_;(with_reducible refine(bQ.calls k _ _ c _ _ d true _ (cb v.out) x.out (cb y.out) z.out A3.out).mono ?_);rintro e aw ⟨rfl,hb⟩;refine⟨_,rfl, ?_⟩;replace a:=kb a hb;replace b:=kb b hb;replace HB:=hs HB hb;have:=cf2 a;have:=cf2 b)|(refine gl (some 15) Tryz.func40 #[.slice q g.length s, .slice t i.length u] rfl ?_;(with_reducible refine(bL.calls k _ _ g _ _ i false _ (cb O.out) P.out (cb T.out) U.out A5.out).mono ?_);rintro e aB ⟨rfl,hb⟩;refine⟨_,rfl, ?_⟩;replace a:=kb a hb;replace b:=kb b hb;replace HB:=hs HB hb))
  go_ret
  exact fin
 replace c4:=Bool.eq_false_iff.mpr c4
 subst c4
 replace H:=ie H
 obtain rfl:=Option.some.inj H;clear H
 go_enter Tryz.func11,Tryz.ntmps11
 go_wp2_with (first|((with_reducible refine gd 2 rfl ?_);refine bx 2 #[.slice m c.length n, .slice q g.length s] 38 ?_;intro W hg aE hbox hb;have a:=Aside0.mk hbox;have X:=hz HB hg;replace HB:=hs HB hb;clear hb hbox hg)|((with_reducible refine gd 3 rfl ?_);refine bx 3 #[.slice o d.length p, .slice t i.length u] 38 ?_;intro Y hg aF hbox hb;have b:=Aside0.mk hbox;have Z:=hz HB hg;have j:=nl a hg;have l:=ng a hg;replace a:=kb a hb;replace HB:=hs HB hb;clear hb hbox hg;have ad:=j.out;have al:=l.out;have:=cf2 a;have:=cf2 b)|(refine gl (some 9) Tryz.func39 #[.slice m c.length n, .slice o d.length p] rfl ?_;(with_reducible refine(bQ.calls k _ _ c _ _ d false _ (cb v.out) x.out (cb y.out) z.out A3.out).mono ?_);rintro e aL ⟨rfl,hb⟩;refine⟨_,rfl, ?_⟩;replace a:=kb a hb;replace b:=kb b hb;replace HB:=hs HB hb))
 go_ret
 exact fin
set_option maxHeartbeats 8000000 in
set_option maxRecDepth 100000 in
theorem eG.calls (A0:Option Addr) (c0:Nat) (l0:List (S47)) (a1:Int) (r:Int) (w:World) (hr0:Kd.C k47 w A0 l0.length l0) (hc0:l0.length≤c0) (h:eG.f l0 a1=some r):
  Calls Tryz.prog 155 #[.slice A0 l0.length c0, .int .i64 a1] w fun e w' =>e= .returned (.int .i64 r)∧Drawn0 w w' :=by
 have b:=Aside0.mk hr0
 have c:=Aside0.mk hc0
 clear hr0 hc0
 have H:(if(wrap64 (a1 - (l0.length:Int)))<0 then(some (-1))else(some (wrap64 (a1 - (l0.length:Int)))))=some r:=h
 clear h
 by_cases c3:(wrap64 (a1 - (l0.length:Int)))<0
 ·rw[if_pos c3]at H
  have a:decide ((wrap64 (a1 - (l0.length:Int)))<0)=true:=decide_eq_true c3
  clear c3
  obtain rfl:=Option.some.inj H;clear H
  go_enter Tryz.func155,Tryz.ntmps155
  go_wp2
  go_ret
  exact⟨by first|rfl|(simp;done)|(simp[*];done),by repeat(first|exact Drawn0.refl _|apply Drawn0.step)⟩
 rw[if_neg c3]at H
 have a:decide ((wrap64 (a1 - (l0.length:Int)))<0)=false:=decide_eq_false c3
 clear c3
 obtain rfl:=Option.some.inj H;clear H
 go_enter Tryz.func155,Tryz.ntmps155
 go_wp2
 go_ret
 exact⟨by first|rfl|(simp;done)|(simp[*];done),by repeat(first|exact Drawn0.refl _|apply Drawn0.step)⟩
end Go.Proofs.YteinbmkgenhocaaGreat.P
end
