/- A part of the claim FnExactMachOk. -/
import Derived.Test.YteinbmkgenhocaaGreatCFnExactMachOk28
section
namespace Go.Proofs.YteinbmkgenhocaaGreat.P
open Go.RowKit Go.Proofs.YteinbmkgenhocaaGreatW.PrintWords Go.Proofs.YteinbmkgenhocaaGreatW.PrintLast Go.Proofs.YteinbmkgenhocaaGreatW.PrintMore
attribute [local go_sem] ah ai av ax af ag aj ak
set_option linter.unusedVariables false
set_option linter.unusedSimpArgs false
set_option maxHeartbeats 8000000 in
set_option maxRecDepth 100000 in
theorem fV.calls (b:Bool) (a:Int) (a1:Int) (r:Bool) (w:World) (h:fV.f b a a1=some r):
  Calls Tryz.prog 53 #[.agg #[.bool b, .int .i64 a], .int .i64 a1] w fun e w' =>e= .returned (.bool r)∧Below w.heap.size w w' :=by
 have i:=Tryz.underlying31
 have HB:=Aside0.mk (Below.refl w.heap.size w)
 have H:(if b=true then((az.f a 0 a1).bind fun c=>(if c=true then(some true)else(some false)))else((eZ.f a).bind fun d=>(some d)))=some r:=h
 clear h
 by_cases c3:b=true
 ·subst c3
  replace H:=it H
  obtain⟨c,A4,H⟩:=ob H
  by_cases c5:c=true
  ·subst c5
   replace H:=it H
   obtain rfl:=Option.some.inj H;clear H
   go_enter Tryz.func53,Tryz.ntmps53
   go_wp2_with (first|(go_at_call 52;(with_reducible refine(az.calls a 0 a1 true _ A4.out).mono ?_);rintro e w' ⟨rfl,⟨nd,rfl⟩⟩))
   go_ret
   exact fin
  replace c5:=Bool.eq_false_iff.mpr c5
  subst c5
  replace H:=ie H
  obtain rfl:=Option.some.inj H;clear H
  go_enter Tryz.func53,Tryz.ntmps53
  go_wp2_with (first|(go_at_call 52;(with_reducible refine(az.calls a 0 a1 false _ A4.out).mono ?_);rintro e w' ⟨rfl,⟨nd,rfl⟩⟩))
  go_ret
  exact fin
 replace c3:=Bool.eq_false_iff.mpr c3
 subst c3
 replace H:=ie H
 obtain⟨d,g,H⟩:=ob H
 obtain rfl:=Option.some.inj H;clear H
 go_enter Tryz.func53,Tryz.ntmps53
 go_wp2_with (first|(go_at_call 56;(with_reducible refine(eZ.calls a d _ g.out).mono ?_);rintro e w' ⟨rfl,⟨nd,rfl⟩⟩))
 go_ret
 exact fin
set_option maxHeartbeats 8000000 in
set_option maxRecDepth 100000 in
theorem cK.calls (k:Nat) (A0:Option Addr) (c0:Nat) (l0:List (S31)) (a1:Int) (r:Bool) (w:World) (hr0:Kd.C k31 w A0 l0.length l0) (hc0:l0.length≤c0) (h:cK.f k l0 a1=some r):
  Calls Tryz.prog 95 #[.slice A0 l0.length c0, .int .i64 a1] w fun e w' =>e= .returned (.bool r)∧Below w.heap.size w w' :=by
 have p:=Tryz.underlying31
 have l:=Aside0.mk hr0
 have s:=Aside0.mk hc0
 clear hr0 hc0
 have HB:=Aside0.mk (Below.refl w.heap.size w)
 have H:(cK.l0 k l0 a1 0)=some r:=h
 clear h
 have H' :=Aside0.mk H
 clear H
 go_enter Tryz.func95,Tryz.ntmps95
 go_wp2
 go_loopg [5] k (fun kq v5 w' => ∃(a:Int),v5= .int .i64 a∧Aside0 (cK.l0 kq l0 a1 a=some r)∧Aside0 (kq≤k)∧Aside0 (Below w.heap.size w w'))
 case atStart=>exact⟨(0),(by first|rfl|(simp;done)|(simp[*];done)),H',⟨Nat.le_refl _⟩,⟨bl⟩⟩
 case round=>
  clear H'
  obtain⟨a,rfl,HA,m,HB⟩:=hrel
  cases gk with
  |zero=>exact absurd HA.out (by simp[cK.l0])
  | succ k1=>
   have H:=HA.out
   clear HA
   simp only[cK.l0]at H
   by_cases c3:a<(l0.length:Int)
   ·rw[if_pos c3]at H
    have n:decide (a<(l0.length:Int))=true:=decide_eq_true c3
    clear c3
    by_cases c4:0≤a
    ·rw[if_pos c4]at H
     have q:decide (0≤a)=true:=decide_eq_true c4
     clear c4
     obtain⟨o,A5,H⟩:=ob H
     by_cases c6:o=true
     ·subst c6
      replace H:=it H
      have H' :=Aside0.mk H
      clear H
      have d:0≤(a:Int):=od
      have g:a<(l0.length:Int):=od
      obtain⟨j,i,b,c⟩:=ku l.out a d g
      cases i
      obtain⟨b,c⟩:=hc2 HB b c
      replace d:=eq_true d
      replace g:=eq_true g
      go_wp2_with (first|(refine gl (some 17) Tryz.func53 #[.agg #[.bool ((di l0 a).f0), .int .i64 ((di l0 a).f1)], .int .i64 a1] rfl ?_;(with_reducible refine(fV.calls ((di l0 a).f0) ((di l0 a).f1) a1 true _ A5.out).mono ?_);rintro e w7 ⟨rfl,hb⟩;refine⟨_,rfl, ?_⟩;replace HB:=hs HB hb))
      go_roundg k1
      case measure=>have:=m.out;omega
      case rel=>exact⟨(wrap64 (a+1)),(by first|rfl|(simp;done)|(simp[*];done)),H',⟨by have:=m.out;omega⟩,⟨bl⟩⟩
     replace c6:=Bool.eq_false_iff.mpr c6
     subst c6
     replace H:=ie H
     obtain rfl:=Option.some.inj H;clear H
     have d:0≤(a:Int):=od
     have g:a<(l0.length:Int):=od
     obtain⟨j,i,b,c⟩:=ku l.out a d g
     cases i
     obtain⟨b,c⟩:=hc2 HB b c
     replace d:=eq_true d
     replace g:=eq_true g
     go_wp2_with (first|(refine gl (some 17) Tryz.func53 #[.agg #[.bool ((di l0 a).f0), .int .i64 ((di l0 a).f1)], .int .i64 a1] rfl ?_;(with_reducible refine(fV.calls ((di l0 a).f0) ((di l0 a).f1) a1 false _ A5.out).mono ?_);rintro e w8 ⟨rfl,hb⟩;refine⟨_,rfl, ?_⟩;replace HB:=hs HB hb))
     go_ret
     exact fin
    rw[if_neg c4]at H
    exact absurd H (by simp)
   rw[if_neg c3]at H
   have n:decide (a<(l0.length:Int))=false:=decide_eq_false c3
   clear c3
   obtain rfl:=Option.some.inj H;clear H
   go_wp2
   go_ret
   exact fin
def bP.T5:Bool×List (List Nat×List Nat):=(true, [([], []),([0], [0]),([], []),([2], [2]),([3], [3]),([4], [4]),([1,5], [1,5]),([6,6], [6]),([7], [7]),([8,7], [7,8]),([9,7], [7,9]),([7], [7]),([11,7], [7,11]),([7], [7]),([13,7], [7,13]),([12,14,7,7], [7,12,14]),([15,7], [7,15]),([10,16,7], [7,10,16]),([7,17], [7,17]),([18,15,0,1,2,3,4,5,6,7,8,9,10,11,12,13,14,15,16,17,18], [18])])
def bP.B5:List Nat:= [0,1,0,4,12,28,63,127,255,511,1023,255,2303,255,8447,30975,63743,131071,262143,524287]
theorem bP.tab5:eU .any (opsOf Tryz.f54 5)=bP.T5:=by kernel_rfl
theorem bP.bits5:eQ bP.T5.2 bP.B5=true:=by kernel_rfl
set_option maxHeartbeats 8000000 in
set_option maxRecDepth 100000 in
theorem bP.calls (k:Nat) (q:Option Addr) (s:Nat) (d:List (S126)) (v:Option Addr) (x:Nat) (m:List (S104)) (c:Int) (o:Option Addr) (p:Nat) (g:List (S31)) (a2:Int) (r:Bool) (w:World) (B:Kd.C eB w q d.length d) (D:d.length≤s) (E:Kd.C eD w v m.length m) (G:m.length≤x) (I:Kd.C k31 w o g.length g) (J:g.length≤p) (h:bP.f k d m c g a2=some r):
  Calls Tryz.prog 54 #[.agg #[.slice q d.length s, .slice v m.length x], .agg #[.int .i64 c, .slice o g.length p], .int .i64 a2] w fun e w' =>e= .returned (.bool r)∧Below w.heap.size w w' :=by
 have a1:=Tryz.underlying38
 have a3:=Tryz.underlying91
 have T:=Aside0.mk B
 have U:=Aside0.mk D
 clear B D
 have aw:=Aside0.mk E
 have aB:=Aside0.mk G
 clear E G
 have L:=Aside0.mk I
 have M:=Aside0.mk J
 clear I J
 have HB:=Aside0.mk (Below.refl w.heap.size w)
 have H:((cK.f k g a2).bind fun A=>(if A=true then(if c=(-1)then(bP.j0 k true d m c g)else(bP.j0 k (c==(-2)) d m c g))else(some false)))=some r:=h
 clear h
 obtain⟨A,A4,H⟩:=ob H
 by_cases c5:A=true
 ·subst c5
  replace H:=it H
  have O:=Aside0.mk H
  clear H
  go_enter Tryz.func54,Tryz.ntmps54
  go_upto_region 3 with(first|((with_reducible refine gd 3 rfl ?_);(try(refine aU (by rfl) ?_;dsimp only));refine bx 3 #[.slice q d.length s, .slice v m.length x] 38 ?_;intro t hg w7 hbox hb;have a:=Aside0.mk hbox;have W:=hz HB hg;replace HB:=hs HB hb;clear hb hbox hg)|((with_reducible refine gd 4 rfl ?_);(try(refine aU (by rfl) ?_;dsimp only));refine bx 4 #[.int .i64 c, .slice o g.length p] 91 ?_;intro u hg w8 hbox hb;have b:=Aside0.mk hbox;have X:=hz HB hg;have j:=nl a hg;have l:=ng a hg;replace a:=kb a hb;replace HB:=hs HB hb;clear hb hbox hg;have a4:=l.out;have a5:=j.out;have:=cf2 b)|(refine gl (some 10) Tryz.func95 #[.slice o g.length p, .int .i64 a2] rfl ?_;(with_reducible refine(cK.calls k _ _ g a2 true _ (cb L.out) M.out A4.out).mono ?_);rintro e a9 ⟨rfl,hb⟩;refine⟨_,rfl, ?_⟩;replace a:=kb a hb;replace b:=kb b hb;replace HB:=hs HB hb))
  (try simp only[Act.put,List.setIfInBounds_toArray,List.set_cons_zero,List.set_cons_succ])
  go_cut [19] (fun v19 wc=> ∃(kq:Nat) (z:Bool),v19= .bool z∧Aside0 (bP.j0 kq z d m c g=some r)∧Aside0 (kq≤k)∧Aside0 (wc.heap[t]? =some (.cells #[(.slice q d.length s),(.slice v m.length x)] 38 (0,0)))∧Aside0 (wc.heap[u]? =some (.cells #[.int .i64 c,(.slice o g.length p)] 91 (0,0)))∧Aside0 (Below w.heap.size w wc))
  case first=>
   have H:=O.out
   clear O
   by_cases c12:c=(-1)
   ·rw[if_pos c12]at H
    have y:=beq_iff_eq.mpr c12
    have Y:=bne_eq_false_iff_eq.mpr c12
    clear c12
    (first|rw[y]|(simp only[bq,bu];rw[y])|skip)
    have H' :=Aside0.mk H
    clear H
    have aE:=l.out
    have aF:=j.out
    have:=cf2 b
    go_wp2
    go_meet
    case rel=>exact⟨_,(true),(by first|rfl|(simp;done)|(simp[*];done)),H',⟨by first|omega|exact Nat.le_refl _⟩,kk a,kk b,⟨bl⟩⟩
   rw[if_neg c12]at H
   have y:=beq_eq_false_iff_ne.mpr c12
   have Y:=bne_iff_ne.mpr c12
   (first|rw[y]|(simp only[bq,bu];rw[y])|skip)
   have H' :=Aside0.mk H
   clear H
   have aL:=l.out
   have aO:=j.out
   have:=cf2 b
   go_wp2
   go_meet
   case rel=>exact⟨_,((c==(-2))),(by first|rfl|(simp;done)|(simp[*];done)),H',⟨by first|omega|exact Nat.le_refl _⟩,kk a,kk b,⟨bl⟩⟩
  case rest=>
   clear O
   obtain⟨kq,z,rfl,HA,ba,a,b,HB⟩:=hcut
   cases kq with
   |zero=>exact absurd HA.out (by simp[bP.j0])
   | succ an=>
    have H:=HA.out
    clear HA
    simp only[bP.j0]at H
    by_cases c17:z=true
    ·subst c17
     replace H:=it H
     obtain rfl:=Option.some.inj H;clear H
     have aP:=l.out
     have aR:=j.out
     have:=cf2 b
     go_wp2
     go_ret
     exact fin
    replace c17:=Bool.eq_false_iff.mpr c17
    subst c17
    replace H:=ie H
    obtain⟨al,ab,H⟩:=ob H
    by_cases c21:al=true
    ·subst c21
     replace H:=it H
     obtain⟨am,ao,H⟩:=ob H
     obtain rfl:=Option.some.inj H;clear H
     try go_wp2
     replace a:=Aside0.mk (au a.out)
     replace b:=Aside0.mk (au b.out)
     replace HB:=Aside0.mk (ay HB.out)
     refine cB (n:=20) (S:=fun w' =>w'.cell? ⟨u,0,none⟩=some (.int .i64 c)∧w'.cell? ⟨u,1,none⟩=some (.slice o g.length p)∧w'.cell? ⟨t,0,none⟩=some (.slice q d.length s)∧w'.cell? ⟨t,1,none⟩=some (.slice v m.length x)) (ds:= []) (upto 20 0) (by kernel_rfl) rfl rfl ⟨(ae b.out 0).trans rfl,(ae b.out 1).trans rfl,(ae a.out 0).trans rfl,(ae a.out 1).trans rfl⟩ (fun hHeld=> ?_);refine bB bP.tab5 bP.bits5 (fun HT_ HW_=> ?_)
     generalize wc.drew=bb at a b HB hHeld⊢
     repeat(first|refine vN ?_|refine pN ?_|refine tN ?_)
     refine cO (i:=6) (N:=some 30) (upto 20 7) rfl rfl (bI HT_.out (by kernel_rfl)) (by decide) (fun K hK=> ?_)
     refine gs Tryz.func52 #[.int .i64 c, .int .i64 0, .int .i64 (wrap64 ((d.length:Int) - 1))] rfl rfl ?_
     with_reducible refine(az.calls c 0 (wrap64 ((d.length:Int) - 1)) true _ ab.out).mono ?_
     rintro e w' ⟨rfl,⟨nd,rfl⟩⟩
     refine⟨_,rfl, ?_⟩
     refine hK.out _ _ ⟨(ae b.out 0).trans rfl,(ae b.out 1).trans rfl,(ae a.out 0).trans rfl,(ae a.out 1).trans rfl⟩ (fun hHeld=> ?_)
     clear hK K
     refine no 30 ?_
     repeat(first|refine vN ?_|refine pN ?_|refine tN ?_)
     refine cO (i:=15) (N:=some 39) (upto 20 16) rfl rfl (bI HT_.out (by kernel_rfl)) (by decide) (fun K hK=> ?_)
     refine gs Tryz.func96 #[.slice q d.length s, .int .i64 c] rfl rfl ?_
     with_reducible refine(dA.calls an _ _ d c am _ (cb T.out) U.out ao.out).mono ?_
     rintro e bc ⟨a6,rfl,ho0,hb⟩
     refine⟨_,rfl, ?_⟩
     have Z:=Aside0.mk (Kd.R_lower ho0 (aM bl))
     replace a:=kb a hb
     replace b:=kb b hb
     replace HB:=hs HB hb
     obtain⟨a7,a8,P⟩:=Kd.R_slice Z.out
     (first|subst P|(injection P with ac ap ad;have aq:=ac.symm;have ar:=ad.symm;clear ac ap ad;subst aq;subst ar))
     refine hK.out _ _ ⟨(ae b.out 0).trans rfl,(ae b.out 1).trans rfl,(ae a.out 0).trans rfl,(ae a.out 1).trans rfl⟩ (fun hHeld=> ?_)
     clear hK K
     refine no 39 ?_
     repeat(first|refine vN ?_|refine pN ?_|refine tN ?_)
     refine dD (bX HT_.out (by kernel_rfl)) ?_
     try go_wp2
     go_ret
     exact fin
    replace c21:=Bool.eq_false_iff.mpr c21
    subst c21
    replace H:=ie H
    obtain rfl:=Option.some.inj H;clear H
    try go_wp2
    replace a:=Aside0.mk (au a.out)
    replace b:=Aside0.mk (au b.out)
    replace HB:=Aside0.mk (ay HB.out)
    refine cB (n:=20) (S:=fun w' =>w'.cell? ⟨u,0,none⟩=some (.int .i64 c)∧w'.cell? ⟨u,1,none⟩=some (.slice o g.length p)∧w'.cell? ⟨t,0,none⟩=some (.slice q d.length s)∧w'.cell? ⟨t,1,none⟩=some (.slice v m.length x)) (ds:= []) (upto 20 0) (by kernel_rfl) rfl rfl ⟨(ae b.out 0).trans rfl,(ae b.out 1).trans rfl,(ae a.out 0).trans rfl,(ae a.out 1).trans rfl⟩ (fun hHeld=> ?_);refine bB bP.tab5 bP.bits5 (fun HT_ HW_=> ?_)
    generalize wc.drew=bd at a b HB hHeld⊢
    repeat(first|refine vN ?_|refine pN ?_|refine tN ?_)
    refine cO (i:=6) (N:=some 30) (upto 20 7) rfl rfl (bI HT_.out (by kernel_rfl)) (by decide) (fun K hK=> ?_)
    refine gs Tryz.func52 #[.int .i64 c, .int .i64 0, .int .i64 (wrap64 ((d.length:Int) - 1))] rfl rfl ?_
    with_reducible refine(az.calls c 0 (wrap64 ((d.length:Int) - 1)) false _ ab.out).mono ?_
    rintro e w' ⟨rfl,⟨nd,rfl⟩⟩
    refine⟨_,rfl, ?_⟩
    refine hK.out _ _ ⟨(ae b.out 0).trans rfl,(ae b.out 1).trans rfl,(ae a.out 0).trans rfl,(ae a.out 1).trans rfl⟩ (fun hHeld=> ?_)
    clear hK K
    refine no 30 ?_
    repeat(first|refine vN ?_|refine pN ?_|refine tN ?_)
    refine dD (bX HT_.out (by kernel_rfl)) ?_
    try go_wp2
    go_ret
    exact fin
 replace c5:=Bool.eq_false_iff.mpr c5
 subst c5
 replace H:=ie H
 obtain rfl:=Option.some.inj H;clear H
 go_enter Tryz.func54,Tryz.ntmps54
 go_wp2_with (first|((with_reducible refine gd 3 rfl ?_);(try(refine aU (by rfl) ?_;dsimp only));refine bx 3 #[.slice q d.length s, .slice v m.length x] 38 ?_;intro t hg be hbox hb;have a:=Aside0.mk hbox;have W:=hz HB hg;replace HB:=hs HB hb;clear hb hbox hg)|((with_reducible refine gd 4 rfl ?_);(try(refine aU (by rfl) ?_;dsimp only));refine bx 4 #[.int .i64 c, .slice o g.length p] 91 ?_;intro u hg bh hbox hb;have b:=Aside0.mk hbox;have X:=hz HB hg;have j:=nl a hg;have l:=ng a hg;replace a:=kb a hb;replace HB:=hs HB hb;clear hb hbox hg;have aS:=l.out;have a0:=j.out;have:=cf2 b)|(refine gl (some 10) Tryz.func95 #[.slice o g.length p, .int .i64 a2] rfl ?_;(with_reducible refine(cK.calls k _ _ g a2 false _ (cb L.out) M.out A4.out).mono ?_);rintro e bj ⟨rfl,hb⟩;refine⟨_,rfl, ?_⟩;replace a:=kb a hb;replace b:=kb b hb;replace HB:=hs HB hb))
 go_ret
 exact fin
def bM.T1:Bool×List (List Nat×List Nat):=(true, [([], []),([0], [0]),([], []),([2], [2]),([3], [3]),([4], [4]),([1,5], [1,5]),([6,6], [6]),([7], [7]),([8,7], [7,8]),([7], [7]),([10,7], [7,10]),([7], [7]),([12,7], [7,12]),([11,13,7], [7,11,13]),([14,7], [7,14]),([15,7], [7,15]),([16,7], [7,16]),([9,17,7,7], [7,9,17]),([7,18], [7,18]),([19,18], [19]),([20], [20]),([21,20], [20,21]),([22,20], [20,22]),([20], [20]),([24,20], [20,24]),([20], [20]),([26,20], [20,26]),([25,27,20], [20,25,27]),([28,20], [20,28]),([29,20], [20,29]),([23,30,20], [20,23,30]),([20,31], [20,31]),([32,20], [32]),([33], [33]),([34,33], [33,34]),([35,33], [33,35]),([36,33], [33,36]),([33,37], [33,37]),([38,33], [38]),([39], [39]),([40,39], [39,40]),([39], [39]),([41,42,39,39], [39,41,42]),([39,43], [39,43]),([44,43], [44]),([45], [45]),([46,45], [45,46]),([45], [45]),([47,48,45,45], [45,47,48]),([45,49], [45,49]),([50,49,0,1,2,3,4,5,6,7,8,9,10,11,12,13,14,15,16,17,18,19,20,21,22,23,24,25,26,27,28,29,30,31,32,33,34,35,36,37,38,39,40,41,42,43,44,45,46,47,48,49,50], [50])])
def bM.B1:List Nat:= [0,1,0,4,12,28,63,127,255,511,255,1279,255,4351,15615,31999,64767,130303,262143,524287,1048575,2097151,4194303,8388607,2097151,18874367,2097151,69206015,253755391,522190847,1059061759,2147483647,4294967295,8589934591,17179869183,34359738367,68719476735,137438953471,274877906943,549755813887,1099511627775,2199023255551,1099511627775,8796093022207,17592186044415,35184372088831,70368744177663,140737488355327,70368744177663,562949953421311,1125899906842623,2251799813685247]
theorem bM.tab1:eU .any (opsOf Tryz.f55 1)=bM.T1:=by kernel_rfl
theorem bM.bits1:eQ bM.T1.2 bM.B1=true:=by kernel_rfl
set_option maxHeartbeats 8000000 in
set_option maxRecDepth 100000 in
theorem bM.calls (k:Nat) (b1:Option Addr) (b2:Nat) (bh:List (S126)) (cc:Option Addr) (b3:Nat) (d:List (S104)) (a:Int) (aE:Int) (bp:Option Addr) (br:Nat) (aF:List (S31)) (bs:Option Addr) (bt:Nat) (al:List (S31)) (a2:Int) (r:Bool) (w:World) (cF:Kd.C eB w b1 bh.length bh) (cG:bh.length≤b2) (cH:Kd.C eD w cc d.length d) (cI:d.length≤b3) (cJ:Kd.C k31 w bp aF.length aF) (cL:aF.length≤br) (cM:Kd.C k31 w bs al.length al) (cN:al.length≤bt) (h:bM.f k bh d a aE aF al a2=some r):
  Calls Tryz.prog 55 #[.agg #[.slice b1 bh.length b2, .slice cc d.length b3], .agg #[.int .i64 a, .int .i64 aE, .slice bp aF.length br, .slice bs al.length bt], .int .i64 a2] w fun e w' =>e= .returned (.bool r)∧Below w.heap.size w w' :=by
 have dj:=Tryz.underlying38
 have dk:=Tryz.underlying70
 have dd:=Aside0.mk cF
 have de:=Aside0.mk cG
 clear cF cG
 have ca:=Aside0.mk cH
 have dg:=Aside0.mk cI
 clear cH cI
 have cP:=Aside0.mk cJ
 have cQ:=Aside0.mk cL
 clear cJ cL
 have cR:=Aside0.mk cM
 have cS:=Aside0.mk cN
 clear cM cN
 have HB:=Aside0.mk (Below.refl w.heap.size w)
 have H:((az.f a 0 (wrap64 ((d.length:Int) - 1))).bind fun cA=>(if cA=true then(if 0≤a then(if a<(d.length:Int)then((az.f aE 0 (((aa d a).f5).length:Int)).bind fun cC=>(if cC=true then(if(aF.length:Int)=((aa d a).f4)then(if(al.length:Int)≤4 then((cK.f k aF a2).bind fun cD=>(if cD=true then((cK.f k al a2).bind fun cE=>(some cE))else(some false)))else(some false))else(some false))else(some false)))else(none))else(none))else(some false)))=some r:=h
 clear h
 obtain⟨cA,A4,H⟩:=ob H
 by_cases c5:cA=true
 ·subst c5
  replace H:=it H
  by_cases c6:0≤a
  ·rw [if_pos c6]at H
   have dl:decide (0≤a)=true:=decide_eq_true c6
   clear c6
   by_cases c7:a<(d.length:Int)
   ·rw [if_pos c7]at H
    have dp:decide (a<(d.length:Int))=true:=decide_eq_true c7
    clear c7
    obtain⟨cC,A8,H⟩:=ob H
    by_cases c9:cC=true
    ·subst c9
     replace H:=it H
     by_cases c10:(aF.length:Int)=((aa d a).f4)
     ·rw[if_pos c10]at H
      have cT:=beq_iff_eq.mpr c10
      have cU:=bne_eq_false_iff_eq.mpr c10
      clear c10
      by_cases c11:(al.length:Int)≤4
      ·rw[if_pos c11]at H
       have cV:decide ((al.length:Int)≤4)=true:=decide_eq_true c11
       have cW:decide (al.length≤4)=true:=decide_eq_true (by omega)
       clear c11
       obtain⟨cD,cX,H⟩:=ob H
       by_cases c13:cD=true
       ·subst c13
        replace H:=it H
        obtain⟨cE,cY,H⟩:=ob H
        obtain rfl:=Option.some.inj H;clear H
        go_enter Tryz.func55,Tryz.ntmps55
        try go_wp2_with (first|((with_reducible refine gd 3 rfl ?_);(try(refine aU (by rfl) ?_;dsimp only));refine bx 3 #[.slice b1 bh.length b2, .slice cc d.length b3] 38 ?_;intro aL hg dq hbox hb;have g:=Aside0.mk hbox;have ck:=hz HB hg;replace HB:=hs HB hb;clear hb hbox hg)|((with_reducible refine gd 4 rfl ?_);(try(refine aU (by rfl) ?_;dsimp only));refine bx 4 #[.int .i64 a, .int .i64 aE, .slice bp aF.length br, .slice bs al.length bt] 70 ?_;intro Y hg w16 hbox hb;have c:=Aside0.mk hbox;have cl:=hz HB hg;have b8:=nl g hg;have b9:=ng g hg;replace g:=kb g hb;replace HB:=hs HB hb;clear hb hbox hg))
        replace g:=Aside0.mk (au g.out)
        replace c:=Aside0.mk (au c.out)
        replace HB:=Aside0.mk (ay HB.out)
        have bd:0≤(a:Int):=od
        have be:a<(d.length:Int):=od
        obtain⟨b,aO,aP,aR,aS,a0,a1,a3,a4,cd,L,M,E,O,P,G,I,J,am,an,ao,ap,aq,ar,aw,aB⟩:=cu ca.out a bd be
        have j:=J
        have l:=I
        have m:=G
        have o:=P
        have p:=O
        have q:=E
        have s:=M
        have t:=L
        cases cd
        obtain⟨L,M,E,O,P,G,I,J⟩:=hc8 HB L M E O P G I J
        have bj:=Aside0.mk an
        have cf:=Aside0.mk am
        clear an am
        have bk:=Aside0.mk ap
        have cg:=Aside0.mk ao
        clear ap ao
        have bm:=Aside0.mk ar
        have ch:=Aside0.mk aq
        clear ar aq
        have bo:=Aside0.mk aB
        have ci:=Aside0.mk aw
        clear aB aw
        replace bd:=eq_true bd
        replace be:=eq_true be
        have bw:0≤(a:Int):=od
        have b0:a<(d.length:Int):=od
        obtain⟨ce,cq,cr,cs,ct,cv,cw,cx,cy,cj,Z,ab,T,ac,ad,U,W,X,a5,a6,a7,a8,a9,ba,bb,bc⟩:=cu ca.out a bw b0
        have u:=X
        have v:=W
        have x:=U
        have y:=ad
        have z:=ac
        have A:=T
        have B:=ab
        have D:=Z
        obtain rfl:b=ce:=(by injection cj)
        obtain⟨Z,ab,T,ac,ad,U,W,X⟩:=hc8 HB Z ab T ac ad U W X
        have b4:=Aside0.mk a6
        have cm:=Aside0.mk a5
        clear a6 a5
        have b5:=Aside0.mk a8
        have cn:=Aside0.mk a7
        clear a8 a7
        have b6:=Aside0.mk ba
        have co:=Aside0.mk a9
        clear ba a9
        have b7:=Aside0.mk bc
        have cp:=Aside0.mk bb
        clear bc bb
        replace bw:=eq_true bw
        replace b0:=eq_true b0
        have ea_:=Option.some.inj (E.symm.trans T)
        injection ea_ with ea_ en_ ec_
        subst ea_
        subst ec_
        clear en_
        have ea_:=Option.some.inj (G.symm.trans U)
        injection ea_ with ea_ en_ ec_
        subst ea_
        subst ec_
        clear en_
        have ea_:=Option.some.inj (I.symm.trans W)
        injection ea_ with ea_ en_ ec_
        subst ea_
        subst ec_
        clear en_
        have ea_:=Option.some.inj (J.symm.trans X)
        injection ea_ with ea_ en_ ec_
        subst ea_
        subst ec_
        clear en_
        refine cB (n:=52) (S:=fun w' =>w'.cell? ⟨Y,0,none⟩=some (.int .i64 a)∧w'.cell? ⟨Y,1,none⟩=some (.int .i64 aE)∧w'.cell? ⟨Y,2,none⟩=some (.slice bp aF.length br)∧w'.cell? ⟨Y,3,none⟩=some (.slice bs al.length bt)∧w'.cell? ⟨aL,0,none⟩=some (.slice b1 bh.length b2)∧w'.cell? ⟨aL,1,none⟩=some (.slice (some b) d.length b3)∧w'.cell? (b.add ((a).toNat * 8))=some (.int .i64 ((aa d a).f0))∧w'.cell? ⟨(b.add ((a).toNat * 8)).block,(b.add ((a).toNat * 8)).off+1,none⟩=some (.int .i64 ((aa d a).f1))∧w'.cell? ⟨(b.add ((a).toNat * 8)).block,(b.add ((a).toNat * 8)).off+2,none⟩=some (.slice aO ((aa d a).f2).length aP)∧w'.cell? ⟨(b.add ((a).toNat * 8)).block,(b.add ((a).toNat * 8)).off+3,none⟩=some (.int .i64 ((aa d a).f3))∧w'.cell? ⟨(b.add ((a).toNat * 8)).block,(b.add ((a).toNat * 8)).off+4,none⟩=some (.int .i64 ((aa d a).f4))∧w'.cell? ⟨(b.add ((a).toNat * 8)).block,(b.add ((a).toNat * 8)).off+5,none⟩=some (.slice aR ((aa d a).f5).length aS)∧w'.cell? ⟨(b.add ((a).toNat * 8)).block,(b.add ((a).toNat * 8)).off+6,none⟩=some (.slice a0 ((aa d a).f6).length a1)∧w'.cell? ⟨(b.add ((a).toNat * 8)).block,(b.add ((a).toNat * 8)).off+7,none⟩=some (.slice a3 ((aa d a).f7).length a4)∧w'.cell? (b.add ((a).toNat * 8))=some (.int .i64 ((aa d a).f0))∧w'.cell? ⟨(b.add ((a).toNat * 8)).block,(b.add ((a).toNat * 8)).off+1,none⟩=some (.int .i64 ((aa d a).f1))∧w'.cell? ⟨(b.add ((a).toNat * 8)).block,(b.add ((a).toNat * 8)).off+2,none⟩=some (.slice aO ((aa d a).f2).length aP)∧w'.cell? ⟨(b.add ((a).toNat * 8)).block,(b.add ((a).toNat * 8)).off+3,none⟩=some (.int .i64 ((aa d a).f3))∧w'.cell? ⟨(b.add ((a).toNat * 8)).block,(b.add ((a).toNat * 8)).off+4,none⟩=some (.int .i64 ((aa d a).f4))∧w'.cell? ⟨(b.add ((a).toNat * 8)).block,(b.add ((a).toNat * 8)).off+5,none⟩=some (.slice aR ((aa d a).f5).length aS)∧w'.cell? ⟨(b.add ((a).toNat * 8)).block,(b.add ((a).toNat * 8)).off+6,none⟩=some (.slice a0 ((aa d a).f6).length a1)∧w'.cell? ⟨(b.add ((a).toNat * 8)).block,(b.add ((a).toNat * 8)).off+7,none⟩=some (.slice a3 ((aa d a).f7).length a4)) (ds:= []) (upto 52 0) (by kernel_rfl) rfl rfl ⟨(ae c.out 0).trans rfl,(ae c.out 1).trans rfl,(ae c.out 2).trans rfl,(ae c.out 3).trans rfl,(ae g.out 0).trans rfl,(ae g.out 1).trans rfl,((HB.out.cell (World.block_lt_of_cell? w _ t)).trans t),((HB.out.cell (World.block_lt_of_cell? w _ s)).trans s),((HB.out.cell (World.block_lt_of_cell? w _ q)).trans q),((HB.out.cell (World.block_lt_of_cell? w _ p)).trans p),((HB.out.cell (World.block_lt_of_cell? w _ o)).trans o),((HB.out.cell (World.block_lt_of_cell? w _ m)).trans m),((HB.out.cell (World.block_lt_of_cell? w _ l)).trans l),((HB.out.cell (World.block_lt_of_cell? w _ j)).trans j),((HB.out.cell (World.block_lt_of_cell? w _ D)).trans D),((HB.out.cell (World.block_lt_of_cell? w _ B)).trans B),((HB.out.cell (World.block_lt_of_cell? w _ A)).trans A),((HB.out.cell (World.block_lt_of_cell? w _ z)).trans z),((HB.out.cell (World.block_lt_of_cell? w _ y)).trans y),((HB.out.cell (World.block_lt_of_cell? w _ x)).trans x),((HB.out.cell (World.block_lt_of_cell? w _ v)).trans v),((HB.out.cell (World.block_lt_of_cell? w _ u)).trans u)⟩ (fun hHeld=> ?_);refine bB bM.tab1 bM.bits1 (fun HT_ HW_=> ?_)
        generalize w16.drew=dr at g c HB bj bk bm bo b4 b5 b6 b7 L M E O P G I J Z ab T ac ad U W X hHeld⊢
        repeat(first|refine vN ?_|refine pN ?_|refine tN ?_)
        refine cO (i:=6) (N:=some 13) (upto 52 7) rfl rfl (bI HT_.out (by kernel_rfl)) (by decide) (fun K hK=> ?_)
        refine gs Tryz.func52 #[.int .i64 a, .int .i64 0, .int .i64 (wrap64 ((d.length:Int) - 1))] rfl rfl ?_
        with_reducible refine(az.calls a 0 (wrap64 ((d.length:Int) - 1)) true _ A4.out).mono ?_
        rintro e w' ⟨rfl,⟨nd,rfl⟩⟩
        refine⟨_,rfl, ?_⟩
        refine hK.out _ _ ⟨(ae c.out 0).trans rfl,(ae c.out 1).trans rfl,(ae c.out 2).trans rfl,(ae c.out 3).trans rfl,(ae g.out 0).trans rfl,(ae g.out 1).trans rfl,((HB.out.cell (World.block_lt_of_cell? w _ t)).trans t),((HB.out.cell (World.block_lt_of_cell? w _ s)).trans s),((HB.out.cell (World.block_lt_of_cell? w _ q)).trans q),((HB.out.cell (World.block_lt_of_cell? w _ p)).trans p),((HB.out.cell (World.block_lt_of_cell? w _ o)).trans o),((HB.out.cell (World.block_lt_of_cell? w _ m)).trans m),((HB.out.cell (World.block_lt_of_cell? w _ l)).trans l),((HB.out.cell (World.block_lt_of_cell? w _ j)).trans j),((HB.out.cell (World.block_lt_of_cell? w _ D)).trans D),((HB.out.cell (World.block_lt_of_cell? w _ B)).trans B),((HB.out.cell (World.block_lt_of_cell? w _ A)).trans A),((HB.out.cell (World.block_lt_of_cell? w _ z)).trans z),((HB.out.cell (World.block_lt_of_cell? w _ y)).trans y),((HB.out.cell (World.block_lt_of_cell? w _ x)).trans x),((HB.out.cell (World.block_lt_of_cell? w _ v)).trans v),((HB.out.cell (World.block_lt_of_cell? w _ u)).trans u)⟩ (fun hHeld=> ?_)
        clear hK K
        refine no 13 ?_
        repeat(first|refine vN ?_|refine pN ?_|refine tN ?_)
        refine cO (i:=18) (N:=some 25) (upto 52 19) rfl rfl (bI HT_.out (by kernel_rfl)) (by decide) (fun K hK=> ?_)
        refine gs Tryz.func52 #[.int .i64 aE, .int .i64 0, .int .i64 (((aa d a).f5).length:Int)] rfl rfl ?_
        with_reducible refine(az.calls aE 0 (((aa d a).f5).length:Int) true _ A8.out).mono ?_
        rintro e w' ⟨rfl,⟨nd,rfl⟩⟩
        refine⟨_,rfl, ?_⟩
        refine hK.out _ _ ⟨(ae c.out 0).trans rfl,(ae c.out 1).trans rfl,(ae c.out 2).trans rfl,(ae c.out 3).trans rfl,(ae g.out 0).trans rfl,(ae g.out 1).trans rfl,((HB.out.cell (World.block_lt_of_cell? w _ t)).trans t),((HB.out.cell (World.block_lt_of_cell? w _ s)).trans s),((HB.out.cell (World.block_lt_of_cell? w _ q)).trans q),((HB.out.cell (World.block_lt_of_cell? w _ p)).trans p),((HB.out.cell (World.block_lt_of_cell? w _ o)).trans o),((HB.out.cell (World.block_lt_of_cell? w _ m)).trans m),((HB.out.cell (World.block_lt_of_cell? w _ l)).trans l),((HB.out.cell (World.block_lt_of_cell? w _ j)).trans j),((HB.out.cell (World.block_lt_of_cell? w _ D)).trans D),((HB.out.cell (World.block_lt_of_cell? w _ B)).trans B),((HB.out.cell (World.block_lt_of_cell? w _ A)).trans A),((HB.out.cell (World.block_lt_of_cell? w _ z)).trans z),((HB.out.cell (World.block_lt_of_cell? w _ y)).trans y),((HB.out.cell (World.block_lt_of_cell? w _ x)).trans x),((HB.out.cell (World.block_lt_of_cell? w _ v)).trans v),((HB.out.cell (World.block_lt_of_cell? w _ u)).trans u)⟩ (fun hHeld=> ?_)
        clear hK K
        refine no 25 ?_
        repeat(first|refine vN ?_|refine pN ?_|refine tN ?_)
        refine cO (i:=43) (N:=some 50) (upto 52 44) rfl rfl (bI HT_.out (by kernel_rfl)) (by decide) (fun K hK=> ?_)
        refine gs Tryz.func95 #[.slice bp aF.length br, .int .i64 a2] rfl rfl ?_
        with_reducible refine(cK.calls k _ _ aF a2 true _ (cb cP.out) cQ.out cX.out).mono ?_
        rintro e dt ⟨rfl,hb⟩
        refine⟨_,rfl, ?_⟩
        replace g:=kb g hb
        replace c:=kb c hb
        replace HB:=hs HB hb
        refine hK.out _ _ ⟨(ae c.out 0).trans rfl,(ae c.out 1).trans rfl,(ae c.out 2).trans rfl,(ae c.out 3).trans rfl,(ae g.out 0).trans rfl,(ae g.out 1).trans rfl,((HB.out.cell (World.block_lt_of_cell? w _ t)).trans t),((HB.out.cell (World.block_lt_of_cell? w _ s)).trans s),((HB.out.cell (World.block_lt_of_cell? w _ q)).trans q),((HB.out.cell (World.block_lt_of_cell? w _ p)).trans p),((HB.out.cell (World.block_lt_of_cell? w _ o)).trans o),((HB.out.cell (World.block_lt_of_cell? w _ m)).trans m),((HB.out.cell (World.block_lt_of_cell? w _ l)).trans l),((HB.out.cell (World.block_lt_of_cell? w _ j)).trans j),((HB.out.cell (World.block_lt_of_cell? w _ D)).trans D),((HB.out.cell (World.block_lt_of_cell? w _ B)).trans B),((HB.out.cell (World.block_lt_of_cell? w _ A)).trans A),((HB.out.cell (World.block_lt_of_cell? w _ z)).trans z),((HB.out.cell (World.block_lt_of_cell? w _ y)).trans y),((HB.out.cell (World.block_lt_of_cell? w _ x)).trans x),((HB.out.cell (World.block_lt_of_cell? w _ v)).trans v),((HB.out.cell (World.block_lt_of_cell? w _ u)).trans u)⟩ (fun hHeld=> ?_)
        clear hK K
        refine no 50 ?_
        repeat(first|refine vN ?_|refine pN ?_|refine tN ?_)
        refine cO (i:=49) (N:=some 56) (upto 52 50) rfl rfl (bI HT_.out (by kernel_rfl)) (by decide) (fun K hK=> ?_)
        refine gs Tryz.func95 #[.slice bs al.length bt, .int .i64 a2] rfl rfl ?_
        with_reducible refine(cK.calls k _ _ al a2 cE _ (cb cR.out) cS.out cY.out).mono ?_
        rintro e du ⟨rfl,hb⟩
        refine⟨_,rfl, ?_⟩
        replace g:=kb g hb
        replace c:=kb c hb
        replace HB:=hs HB hb
        refine hK.out _ _ ⟨(ae c.out 0).trans rfl,(ae c.out 1).trans rfl,(ae c.out 2).trans rfl,(ae c.out 3).trans rfl,(ae g.out 0).trans rfl,(ae g.out 1).trans rfl,((HB.out.cell (World.block_lt_of_cell? w _ t)).trans t),((HB.out.cell (World.block_lt_of_cell? w _ s)).trans s),((HB.out.cell (World.block_lt_of_cell? w _ q)).trans q),((HB.out.cell (World.block_lt_of_cell? w _ p)).trans p),((HB.out.cell (World.block_lt_of_cell? w _ o)).trans o),((HB.out.cell (World.block_lt_of_cell? w _ m)).trans m),((HB.out.cell (World.block_lt_of_cell? w _ l)).trans l),((HB.out.cell (World.block_lt_of_cell? w _ j)).trans j),((HB.out.cell (World.block_lt_of_cell? w _ D)).trans D),((HB.out.cell (World.block_lt_of_cell? w _ B)).trans B),((HB.out.cell (World.block_lt_of_cell? w _ A)).trans A),((HB.out.cell (World.block_lt_of_cell? w _ z)).trans z),((HB.out.cell (World.block_lt_of_cell? w _ y)).trans y),((HB.out.cell (World.block_lt_of_cell? w _ x)).trans x),((HB.out.cell (World.block_lt_of_cell? w _ v)).trans v),((HB.out.cell (World.block_lt_of_cell? w _ u)).trans u)⟩ (fun hHeld=> ?_)
        clear hK K
        refine no 56 ?_
        repeat(first|refine vN ?_|refine pN ?_|refine tN ?_)
        refine dD (bX HT_.out (by kernel_rfl)) ?_
        try go_wp2
        go_ret
        exact fin
       replace c13:=Bool.eq_false_iff.mpr c13
       subst c13
       replace H:=ie H
       obtain rfl:=Option.some.inj H;clear H
       go_enter Tryz.func55,Tryz.ntmps55
       try go_wp2_with (first|((with_reducible refine gd 3 rfl ?_);(try(refine aU (by rfl) ?_;dsimp only));refine bx 3 #[.slice b1 bh.length b2, .slice cc d.length b3] 38 ?_;intro aL hg dv hbox hb;have g:=Aside0.mk hbox;have ck:=hz HB hg;replace HB:=hs HB hb;clear hb hbox hg)|((with_reducible refine gd 4 rfl ?_);(try(refine aU (by rfl) ?_;dsimp only));refine bx 4 #[.int .i64 a, .int .i64 aE, .slice bp aF.length br, .slice bs al.length bt] 70 ?_;intro Y hg c0 hbox hb;have c:=Aside0.mk hbox;have cl:=hz HB hg;have b8:=nl g hg;have b9:=ng g hg;replace g:=kb g hb;replace HB:=hs HB hb;clear hb hbox hg))
       replace g:=Aside0.mk (au g.out)
       replace c:=Aside0.mk (au c.out)
       replace HB:=Aside0.mk (ay HB.out)
       have bd:0≤(a:Int):=od
       have be:a<(d.length:Int):=od
       obtain⟨b,aO,aP,aR,aS,a0,a1,a3,a4,cd,L,M,E,O,P,G,I,J,am,an,ao,ap,aq,ar,aw,aB⟩:=cu ca.out a bd be
       have j:=J
       have l:=I
       have m:=G
       have o:=P
       have p:=O
       have q:=E
       have s:=M
       have t:=L
       cases cd
       obtain⟨L,M,E,O,P,G,I,J⟩:=hc8 HB L M E O P G I J
       have bj:=Aside0.mk an
       have cf:=Aside0.mk am
       clear an am
       have bk:=Aside0.mk ap
       have cg:=Aside0.mk ao
       clear ap ao
       have bm:=Aside0.mk ar
       have ch:=Aside0.mk aq
       clear ar aq
       have bo:=Aside0.mk aB
       have ci:=Aside0.mk aw
       clear aB aw
       replace bd:=eq_true bd
       replace be:=eq_true be
       have bw:0≤(a:Int):=od
       have b0:a<(d.length:Int):=od
       obtain⟨ce,cq,cr,cs,ct,cv,cw,cx,cy,cj,Z,ab,T,ac,ad,U,W,X,a5,a6,a7,a8,a9,ba,bb,bc⟩:=cu ca.out a bw b0
       have u:=X
       have v:=W
       have x:=U
       have y:=ad
       have z:=ac
       have A:=T
       have B:=ab
       have D:=Z
       obtain rfl:b=ce:=(by injection cj)
       obtain⟨Z,ab,T,ac,ad,U,W,X⟩:=hc8 HB Z ab T ac ad U W X
       have b4:=Aside0.mk a6
       have cm:=Aside0.mk a5
       clear a6 a5
       have b5:=Aside0.mk a8
       have cn:=Aside0.mk a7
       clear a8 a7
       have b6:=Aside0.mk ba
       have co:=Aside0.mk a9
       clear ba a9
       have b7:=Aside0.mk bc
       have cp:=Aside0.mk bb
       clear bc bb
       replace bw:=eq_true bw
       replace b0:=eq_true b0
       have ea_:=Option.some.inj (E.symm.trans T)
       injection ea_ with ea_ en_ ec_
       subst ea_
       subst ec_
       clear en_
       have ea_:=Option.some.inj (G.symm.trans U)
       injection ea_ with ea_ en_ ec_
       subst ea_
       subst ec_
       clear en_
       have ea_:=Option.some.inj (I.symm.trans W)
       injection ea_ with ea_ en_ ec_
       subst ea_
       subst ec_
       clear en_
       have ea_:=Option.some.inj (J.symm.trans X)
       injection ea_ with ea_ en_ ec_
       subst ea_
       subst ec_
       clear en_
       refine cB (n:=52) (S:=fun w' =>w'.cell? ⟨Y,0,none⟩=some (.int .i64 a)∧w'.cell? ⟨Y,1,none⟩=some (.int .i64 aE)∧w'.cell? ⟨Y,2,none⟩=some (.slice bp aF.length br)∧w'.cell? ⟨Y,3,none⟩=some (.slice bs al.length bt)∧w'.cell? ⟨aL,0,none⟩=some (.slice b1 bh.length b2)∧w'.cell? ⟨aL,1,none⟩=some (.slice (some b) d.length b3)∧w'.cell? (b.add ((a).toNat * 8))=some (.int .i64 ((aa d a).f0))∧w'.cell? ⟨(b.add ((a).toNat * 8)).block,(b.add ((a).toNat * 8)).off+1,none⟩=some (.int .i64 ((aa d a).f1))∧w'.cell? ⟨(b.add ((a).toNat * 8)).block,(b.add ((a).toNat * 8)).off+2,none⟩=some (.slice aO ((aa d a).f2).length aP)∧w'.cell? ⟨(b.add ((a).toNat * 8)).block,(b.add ((a).toNat * 8)).off+3,none⟩=some (.int .i64 ((aa d a).f3))∧w'.cell? ⟨(b.add ((a).toNat * 8)).block,(b.add ((a).toNat * 8)).off+4,none⟩=some (.int .i64 ((aa d a).f4))∧w'.cell? ⟨(b.add ((a).toNat * 8)).block,(b.add ((a).toNat * 8)).off+5,none⟩=some (.slice aR ((aa d a).f5).length aS)∧w'.cell? ⟨(b.add ((a).toNat * 8)).block,(b.add ((a).toNat * 8)).off+6,none⟩=some (.slice a0 ((aa d a).f6).length a1)∧w'.cell? ⟨(b.add ((a).toNat * 8)).block,(b.add ((a).toNat * 8)).off+7,none⟩=some (.slice a3 ((aa d a).f7).length a4)∧w'.cell? (b.add ((a).toNat * 8))=some (.int .i64 ((aa d a).f0))∧w'.cell? ⟨(b.add ((a).toNat * 8)).block,(b.add ((a).toNat * 8)).off+1,none⟩=some (.int .i64 ((aa d a).f1))∧w'.cell? ⟨(b.add ((a).toNat * 8)).block,(b.add ((a).toNat * 8)).off+2,none⟩=some (.slice aO ((aa d a).f2).length aP)∧w'.cell? ⟨(b.add ((a).toNat * 8)).block,(b.add ((a).toNat * 8)).off+3,none⟩=some (.int .i64 ((aa d a).f3))∧w'.cell? ⟨(b.add ((a).toNat * 8)).block,(b.add ((a).toNat * 8)).off+4,none⟩=some (.int .i64 ((aa d a).f4))∧w'.cell? ⟨(b.add ((a).toNat * 8)).block,(b.add ((a).toNat * 8)).off+5,none⟩=some (.slice aR ((aa d a).f5).length aS)∧w'.cell? ⟨(b.add ((a).toNat * 8)).block,(b.add ((a).toNat * 8)).off+6,none⟩=some (.slice a0 ((aa d a).f6).length a1)∧w'.cell? ⟨(b.add ((a).toNat * 8)).block,(b.add ((a).toNat * 8)).off+7,none⟩=some (.slice a3 ((aa d a).f7).length a4)) (ds:= []) (upto 52 0) (by kernel_rfl) rfl rfl ⟨(ae c.out 0).trans rfl,(ae c.out 1).trans rfl,(ae c.out 2).trans rfl,(ae c.out 3).trans rfl,(ae g.out 0).trans rfl,(ae g.out 1).trans rfl,((HB.out.cell (World.block_lt_of_cell? w _ t)).trans t),((HB.out.cell (World.block_lt_of_cell? w _ s)).trans s),((HB.out.cell (World.block_lt_of_cell? w _ q)).trans q),((HB.out.cell (World.block_lt_of_cell? w _ p)).trans p),((HB.out.cell (World.block_lt_of_cell? w _ o)).trans o),((HB.out.cell (World.block_lt_of_cell? w _ m)).trans m),((HB.out.cell (World.block_lt_of_cell? w _ l)).trans l),((HB.out.cell (World.block_lt_of_cell? w _ j)).trans j),((HB.out.cell (World.block_lt_of_cell? w _ D)).trans D),((HB.out.cell (World.block_lt_of_cell? w _ B)).trans B),((HB.out.cell (World.block_lt_of_cell? w _ A)).trans A),((HB.out.cell (World.block_lt_of_cell? w _ z)).trans z),((HB.out.cell (World.block_lt_of_cell? w _ y)).trans y),((HB.out.cell (World.block_lt_of_cell? w _ x)).trans x),((HB.out.cell (World.block_lt_of_cell? w _ v)).trans v),((HB.out.cell (World.block_lt_of_cell? w _ u)).trans u)⟩ (fun hHeld=> ?_);refine bB bM.tab1 bM.bits1 (fun HT_ HW_=> ?_)
       generalize c0.drew=dy at g c HB bj bk bm bo b4 b5 b6 b7 L M E O P G I J Z ab T ac ad U W X hHeld⊢
       repeat(first|refine vN ?_|refine pN ?_|refine tN ?_)
       refine cO (i:=6) (N:=some 13) (upto 52 7) rfl rfl (bI HT_.out (by kernel_rfl)) (by decide) (fun K hK=> ?_)
       refine gs Tryz.func52 #[.int .i64 a, .int .i64 0, .int .i64 (wrap64 ((d.length:Int) - 1))] rfl rfl ?_
       with_reducible refine(az.calls a 0 (wrap64 ((d.length:Int) - 1)) true _ A4.out).mono ?_
       rintro e w' ⟨rfl,⟨nd,rfl⟩⟩
       refine⟨_,rfl, ?_⟩
       refine hK.out _ _ ⟨(ae c.out 0).trans rfl,(ae c.out 1).trans rfl,(ae c.out 2).trans rfl,(ae c.out 3).trans rfl,(ae g.out 0).trans rfl,(ae g.out 1).trans rfl,((HB.out.cell (World.block_lt_of_cell? w _ t)).trans t),((HB.out.cell (World.block_lt_of_cell? w _ s)).trans s),((HB.out.cell (World.block_lt_of_cell? w _ q)).trans q),((HB.out.cell (World.block_lt_of_cell? w _ p)).trans p),((HB.out.cell (World.block_lt_of_cell? w _ o)).trans o),((HB.out.cell (World.block_lt_of_cell? w _ m)).trans m),((HB.out.cell (World.block_lt_of_cell? w _ l)).trans l),((HB.out.cell (World.block_lt_of_cell? w _ j)).trans j),((HB.out.cell (World.block_lt_of_cell? w _ D)).trans D),((HB.out.cell (World.block_lt_of_cell? w _ B)).trans B),((HB.out.cell (World.block_lt_of_cell? w _ A)).trans A),((HB.out.cell (World.block_lt_of_cell? w _ z)).trans z),((HB.out.cell (World.block_lt_of_cell? w _ y)).trans y),((HB.out.cell (World.block_lt_of_cell? w _ x)).trans x),((HB.out.cell (World.block_lt_of_cell? w _ v)).trans v),((HB.out.cell (World.block_lt_of_cell? w _ u)).trans u)⟩ (fun hHeld=> ?_)
       clear hK K
       refine no 13 ?_
       repeat(first|refine vN ?_|refine pN ?_|refine tN ?_)
       refine cO (i:=18) (N:=some 25) (upto 52 19) rfl rfl (bI HT_.out (by kernel_rfl)) (by decide) (fun K hK=> ?_)
       refine gs Tryz.func52 #[.int .i64 aE, .int .i64 0, .int .i64 (((aa d a).f5).length:Int)] rfl rfl ?_
       with_reducible refine(az.calls aE 0 (((aa d a).f5).length:Int) true _ A8.out).mono ?_
       rintro e w' ⟨rfl,⟨nd,rfl⟩⟩
       refine⟨_,rfl, ?_⟩
       refine hK.out _ _ ⟨(ae c.out 0).trans rfl,(ae c.out 1).trans rfl,(ae c.out 2).trans rfl,(ae c.out 3).trans rfl,(ae g.out 0).trans rfl,(ae g.out 1).trans rfl,((HB.out.cell (World.block_lt_of_cell? w _ t)).trans t),((HB.out.cell (World.block_lt_of_cell? w _ s)).trans s),((HB.out.cell (World.block_lt_of_cell? w _ q)).trans q),((HB.out.cell (World.block_lt_of_cell? w _ p)).trans p),((HB.out.cell (World.block_lt_of_cell? w _ o)).trans o),((HB.out.cell (World.block_lt_of_cell? w _ m)).trans m),((HB.out.cell (World.block_lt_of_cell? w _ l)).trans l),((HB.out.cell (World.block_lt_of_cell? w _ j)).trans j),((HB.out.cell (World.block_lt_of_cell? w _ D)).trans D),((HB.out.cell (World.block_lt_of_cell? w _ B)).trans B),((HB.out.cell (World.block_lt_of_cell? w _ A)).trans A),((HB.out.cell (World.block_lt_of_cell? w _ z)).trans z),((HB.out.cell (World.block_lt_of_cell? w _ y)).trans y),((HB.out.cell (World.block_lt_of_cell? w _ x)).trans x),((HB.out.cell (World.block_lt_of_cell? w _ v)).trans v),((HB.out.cell (World.block_lt_of_cell? w _ u)).trans u)⟩ (fun hHeld=> ?_)
       clear hK K
       refine no 25 ?_
       repeat(first|refine vN ?_|refine pN ?_|refine tN ?_)
       refine cO (i:=43) (N:=some 50) (upto 52 44) rfl rfl (bI HT_.out (by kernel_rfl)) (by decide) (fun K hK=> ?_)
       refine gs Tryz.func95 #[.slice bp aF.length br, .int .i64 a2] rfl rfl ?_
       with_reducible refine(cK.calls k _ _ aF a2 false _ (cb cP.out) cQ.out cX.out).mono ?_
       rintro e dT ⟨rfl,hb⟩
       refine⟨_,rfl, ?_⟩
       replace g:=kb g hb
       replace c:=kb c hb
       replace HB:=hs HB hb
       refine hK.out _ _ ⟨(ae c.out 0).trans rfl,(ae c.out 1).trans rfl,(ae c.out 2).trans rfl,(ae c.out 3).trans rfl,(ae g.out 0).trans rfl,(ae g.out 1).trans rfl,((HB.out.cell (World.block_lt_of_cell? w _ t)).trans t),((HB.out.cell (World.block_lt_of_cell? w _ s)).trans s),((HB.out.cell (World.block_lt_of_cell? w _ q)).trans q),((HB.out.cell (World.block_lt_of_cell? w _ p)).trans p),((HB.out.cell (World.block_lt_of_cell? w _ o)).trans o),((HB.out.cell (World.block_lt_of_cell? w _ m)).trans m),((HB.out.cell (World.block_lt_of_cell? w _ l)).trans l),((HB.out.cell (World.block_lt_of_cell? w _ j)).trans j),((HB.out.cell (World.block_lt_of_cell? w _ D)).trans D),((HB.out.cell (World.block_lt_of_cell? w _ B)).trans B),((HB.out.cell (World.block_lt_of_cell? w _ A)).trans A),((HB.out.cell (World.block_lt_of_cell? w _ z)).trans z),((HB.out.cell (World.block_lt_of_cell? w _ y)).trans y),((HB.out.cell (World.block_lt_of_cell? w _ x)).trans x),((HB.out.cell (World.block_lt_of_cell? w _ v)).trans v),((HB.out.cell (World.block_lt_of_cell? w _ u)).trans u)⟩ (fun hHeld=> ?_)
       clear hK K
       refine no 50 ?_
       repeat(first|refine vN ?_|refine pN ?_|refine tN ?_)
       refine dD (bX HT_.out (by kernel_rfl)) ?_
       try go_wp2
       go_ret
       exact fin
      rw[if_neg c11]at H
      have cV:decide ((al.length:Int)≤4)=false:=decide_eq_false c11
      have cW:decide (al.length≤4)=false:=decide_eq_false (by omega)
      clear c11
      obtain rfl:=Option.some.inj H;clear H
      go_enter Tryz.func55,Tryz.ntmps55
      try go_wp2_with (first|((with_reducible refine gd 3 rfl ?_);(try(refine aU (by rfl) ?_;dsimp only));refine bx 3 #[.slice b1 bh.length b2, .slice cc d.length b3] 38 ?_;intro aL hg d0 hbox hb;have g:=Aside0.mk hbox;have ck:=hz HB hg;replace HB:=hs HB hb;clear hb hbox hg)|((with_reducible refine gd 4 rfl ?_);(try(refine aU (by rfl) ?_;dsimp only));refine bx 4 #[.int .i64 a, .int .i64 aE, .slice bp aF.length br, .slice bs al.length bt] 70 ?_;intro Y hg c1 hbox hb;have c:=Aside0.mk hbox;have cl:=hz HB hg;have b8:=nl g hg;have b9:=ng g hg;replace g:=kb g hb;replace HB:=hs HB hb;clear hb hbox hg))
      replace g:=Aside0.mk (au g.out)
      replace c:=Aside0.mk (au c.out)
      replace HB:=Aside0.mk (ay HB.out)
      have bd:0≤(a:Int):=od
      have be:a<(d.length:Int):=od
      obtain⟨b,aO,aP,aR,aS,a0,a1,a3,a4,cd,L,M,E,O,P,G,I,J,am,an,ao,ap,aq,ar,aw,aB⟩:=cu ca.out a bd be
      have j:=J
      have l:=I
      have m:=G
      have o:=P
      have p:=O
      have q:=E
      have s:=M
      have t:=L
      cases cd
      obtain⟨L,M,E,O,P,G,I,J⟩:=hc8 HB L M E O P G I J
      have bj:=Aside0.mk an
      have cf:=Aside0.mk am
      clear an am
      have bk:=Aside0.mk ap
      have cg:=Aside0.mk ao
      clear ap ao
      have bm:=Aside0.mk ar
      have ch:=Aside0.mk aq
      clear ar aq
      have bo:=Aside0.mk aB
      have ci:=Aside0.mk aw
      clear aB aw
      replace bd:=eq_true bd
      replace be:=eq_true be
      have bw:0≤(a:Int):=od
      have b0:a<(d.length:Int):=od
      obtain⟨ce,cq,cr,cs,ct,cv,cw,cx,cy,cj,Z,ab,T,ac,ad,U,W,X,a5,a6,a7,a8,a9,ba,bb,bc⟩:=cu ca.out a bw b0
      have u:=X
      have v:=W
      have x:=U
      have y:=ad
      have z:=ac
      have A:=T
      have B:=ab
      have D:=Z
      obtain rfl:b=ce:=(by injection cj)
      obtain⟨Z,ab,T,ac,ad,U,W,X⟩:=hc8 HB Z ab T ac ad U W X
      have b4:=Aside0.mk a6
      have cm:=Aside0.mk a5
      clear a6 a5
      have b5:=Aside0.mk a8
      have cn:=Aside0.mk a7
      clear a8 a7
      have b6:=Aside0.mk ba
      have co:=Aside0.mk a9
      clear ba a9
      have b7:=Aside0.mk bc
      have cp:=Aside0.mk bb
      clear bc bb
      replace bw:=eq_true bw
      replace b0:=eq_true b0
      have ea_:=Option.some.inj (E.symm.trans T)
      injection ea_ with ea_ en_ ec_
      subst ea_
      subst ec_
      clear en_
      have ea_:=Option.some.inj (G.symm.trans U)
      injection ea_ with ea_ en_ ec_
      subst ea_
      subst ec_
      clear en_
      have ea_:=Option.some.inj (I.symm.trans W)
      injection ea_ with ea_ en_ ec_
      subst ea_
      subst ec_
      clear en_
      have ea_:=Option.some.inj (J.symm.trans X)
      injection ea_ with ea_ en_ ec_
      subst ea_
      subst ec_
      clear en_
      refine cB (n:=52) (S:=fun w' =>w'.cell? ⟨Y,0,none⟩=some (.int .i64 a)∧w'.cell? ⟨Y,1,none⟩=some (.int .i64 aE)∧w'.cell? ⟨Y,2,none⟩=some (.slice bp aF.length br)∧w'.cell? ⟨Y,3,none⟩=some (.slice bs al.length bt)∧w'.cell? ⟨aL,0,none⟩=some (.slice b1 bh.length b2)∧w'.cell? ⟨aL,1,none⟩=some (.slice (some b) d.length b3)∧w'.cell? (b.add ((a).toNat * 8))=some (.int .i64 ((aa d a).f0))∧w'.cell? ⟨(b.add ((a).toNat * 8)).block,(b.add ((a).toNat * 8)).off+1,none⟩=some (.int .i64 ((aa d a).f1))∧w'.cell? ⟨(b.add ((a).toNat * 8)).block,(b.add ((a).toNat * 8)).off+2,none⟩=some (.slice aO ((aa d a).f2).length aP)∧w'.cell? ⟨(b.add ((a).toNat * 8)).block,(b.add ((a).toNat * 8)).off+3,none⟩=some (.int .i64 ((aa d a).f3))∧w'.cell? ⟨(b.add ((a).toNat * 8)).block,(b.add ((a).toNat * 8)).off+4,none⟩=some (.int .i64 ((aa d a).f4))∧w'.cell? ⟨(b.add ((a).toNat * 8)).block,(b.add ((a).toNat * 8)).off+5,none⟩=some (.slice aR ((aa d a).f5).length aS)∧w'.cell? ⟨(b.add ((a).toNat * 8)).block,(b.add ((a).toNat * 8)).off+6,none⟩=some (.slice a0 ((aa d a).f6).length a1)∧w'.cell? ⟨(b.add ((a).toNat * 8)).block,(b.add ((a).toNat * 8)).off+7,none⟩=some (.slice a3 ((aa d a).f7).length a4)∧w'.cell? (b.add ((a).toNat * 8))=some (.int .i64 ((aa d a).f0))∧w'.cell? ⟨(b.add ((a).toNat * 8)).block,(b.add ((a).toNat * 8)).off+1,none⟩=some (.int .i64 ((aa d a).f1))∧w'.cell? ⟨(b.add ((a).toNat * 8)).block,(b.add ((a).toNat * 8)).off+2,none⟩=some (.slice aO ((aa d a).f2).length aP)∧w'.cell? ⟨(b.add ((a).toNat * 8)).block,(b.add ((a).toNat * 8)).off+3,none⟩=some (.int .i64 ((aa d a).f3))∧w'.cell? ⟨(b.add ((a).toNat * 8)).block,(b.add ((a).toNat * 8)).off+4,none⟩=some (.int .i64 ((aa d a).f4))∧w'.cell? ⟨(b.add ((a).toNat * 8)).block,(b.add ((a).toNat * 8)).off+5,none⟩=some (.slice aR ((aa d a).f5).length aS)∧w'.cell? ⟨(b.add ((a).toNat * 8)).block,(b.add ((a).toNat * 8)).off+6,none⟩=some (.slice a0 ((aa d a).f6).length a1)∧w'.cell? ⟨(b.add ((a).toNat * 8)).block,(b.add ((a).toNat * 8)).off+7,none⟩=some (.slice a3 ((aa d a).f7).length a4)) (ds:= []) (upto 52 0) (by kernel_rfl) rfl rfl ⟨(ae c.out 0).trans rfl,(ae c.out 1).trans rfl,(ae c.out 2).trans rfl,(ae c.out 3).trans rfl,(ae g.out 0).trans rfl,(ae g.out 1).trans rfl,((HB.out.cell (World.block_lt_of_cell? w _ t)).trans t),((HB.out.cell (World.block_lt_of_cell? w _ s)).trans s),((HB.out.cell (World.block_lt_of_cell? w _ q)).trans q),((HB.out.cell (World.block_lt_of_cell? w _ p)).trans p),((HB.out.cell (World.block_lt_of_cell? w _ o)).trans o),((HB.out.cell (World.block_lt_of_cell? w _ m)).trans m),((HB.out.cell (World.block_lt_of_cell? w _ l)).trans l),((HB.out.cell (World.block_lt_of_cell? w _ j)).trans j),((HB.out.cell (World.block_lt_of_cell? w _ D)).trans D),((HB.out.cell (World.block_lt_of_cell? w _ B)).trans B),((HB.out.cell (World.block_lt_of_cell? w _ A)).trans A),((HB.out.cell (World.block_lt_of_cell? w _ z)).trans z),((HB.out.cell (World.block_lt_of_cell? w _ y)).trans y),((HB.out.cell (World.block_lt_of_cell? w _ x)).trans x),((HB.out.cell (World.block_lt_of_cell? w _ v)).trans v),((HB.out.cell (World.block_lt_of_cell? w _ u)).trans u)⟩ (fun hHeld=> ?_);refine bB bM.tab1 bM.bits1 (fun HT_ HW_=> ?_)
      generalize c1.drew=d1 at g c HB bj bk bm bo b4 b5 b6 b7 L M E O P G I J Z ab T ac ad U W X hHeld⊢
      repeat(first|refine vN ?_|refine pN ?_|refine tN ?_)
      refine cO (i:=6) (N:=some 13) (upto 52 7) rfl rfl (bI HT_.out (by kernel_rfl)) (by decide) (fun K hK=> ?_)
      refine gs Tryz.func52 #[.int .i64 a, .int .i64 0, .int .i64 (wrap64 ((d.length:Int) - 1))] rfl rfl ?_
      with_reducible refine(az.calls a 0 (wrap64 ((d.length:Int) - 1)) true _ A4.out).mono ?_
      rintro e w' ⟨rfl,⟨nd,rfl⟩⟩
      refine⟨_,rfl, ?_⟩
      refine hK.out _ _ ⟨(ae c.out 0).trans rfl,(ae c.out 1).trans rfl,(ae c.out 2).trans rfl,(ae c.out 3).trans rfl,(ae g.out 0).trans rfl,(ae g.out 1).trans rfl,((HB.out.cell (World.block_lt_of_cell? w _ t)).trans t),((HB.out.cell (World.block_lt_of_cell? w _ s)).trans s),((HB.out.cell (World.block_lt_of_cell? w _ q)).trans q),((HB.out.cell (World.block_lt_of_cell? w _ p)).trans p),((HB.out.cell (World.block_lt_of_cell? w _ o)).trans o),((HB.out.cell (World.block_lt_of_cell? w _ m)).trans m),((HB.out.cell (World.block_lt_of_cell? w _ l)).trans l),((HB.out.cell (World.block_lt_of_cell? w _ j)).trans j),((HB.out.cell (World.block_lt_of_cell? w _ D)).trans D),((HB.out.cell (World.block_lt_of_cell? w _ B)).trans B),((HB.out.cell (World.block_lt_of_cell? w _ A)).trans A),((HB.out.cell (World.block_lt_of_cell? w _ z)).trans z),((HB.out.cell (World.block_lt_of_cell? w _ y)).trans y),((HB.out.cell (World.block_lt_of_cell? w _ x)).trans x),((HB.out.cell (World.block_lt_of_cell? w _ v)).trans v),((HB.out.cell (World.block_lt_of_cell? w _ u)).trans u)⟩ (fun hHeld=> ?_)
      clear hK K
      refine no 13 ?_
      repeat(first|refine vN ?_|refine pN ?_|refine tN ?_)
      refine cO (i:=18) (N:=some 25) (upto 52 19) rfl rfl (bI HT_.out (by kernel_rfl)) (by decide) (fun K hK=> ?_)
      refine gs Tryz.func52 #[.int .i64 aE, .int .i64 0, .int .i64 (((aa d a).f5).length:Int)] rfl rfl ?_
      with_reducible refine(az.calls aE 0 (((aa d a).f5).length:Int) true _ A8.out).mono ?_
      rintro e w' ⟨rfl,⟨nd,rfl⟩⟩
      refine⟨_,rfl, ?_⟩
      refine hK.out _ _ ⟨(ae c.out 0).trans rfl,(ae c.out 1).trans rfl,(ae c.out 2).trans rfl,(ae c.out 3).trans rfl,(ae g.out 0).trans rfl,(ae g.out 1).trans rfl,((HB.out.cell (World.block_lt_of_cell? w _ t)).trans t),((HB.out.cell (World.block_lt_of_cell? w _ s)).trans s),((HB.out.cell (World.block_lt_of_cell? w _ q)).trans q),((HB.out.cell (World.block_lt_of_cell? w _ p)).trans p),((HB.out.cell (World.block_lt_of_cell? w _ o)).trans o),((HB.out.cell (World.block_lt_of_cell? w _ m)).trans m),((HB.out.cell (World.block_lt_of_cell? w _ l)).trans l),((HB.out.cell (World.block_lt_of_cell? w _ j)).trans j),((HB.out.cell (World.block_lt_of_cell? w _ D)).trans D),((HB.out.cell (World.block_lt_of_cell? w _ B)).trans B),((HB.out.cell (World.block_lt_of_cell? w _ A)).trans A),((HB.out.cell (World.block_lt_of_cell? w _ z)).trans z),((HB.out.cell (World.block_lt_of_cell? w _ y)).trans y),((HB.out.cell (World.block_lt_of_cell? w _ x)).trans x),((HB.out.cell (World.block_lt_of_cell? w _ v)).trans v),((HB.out.cell (World.block_lt_of_cell? w _ u)).trans u)⟩ (fun hHeld=> ?_)
      clear hK K
      refine no 25 ?_
      repeat(first|refine vN ?_|refine pN ?_|refine tN ?_)
      refine dD (bX HT_.out (by kernel_rfl)) ?_
      try go_wp2
      go_ret
      exact fin
     rw[if_neg c10]at H
     have cT:=beq_eq_false_iff_ne.mpr c10
     have cU:=bne_iff_ne.mpr c10
     obtain rfl:=Option.some.inj H;clear H
     go_enter Tryz.func55,Tryz.ntmps55
     try go_wp2_with (first|((with_reducible refine gd 3 rfl ?_);(try(refine aU (by rfl) ?_;dsimp only));refine bx 3 #[.slice b1 bh.length b2, .slice cc d.length b3] 38 ?_;intro aL hg d2 hbox hb;have g:=Aside0.mk hbox;have ck:=hz HB hg;replace HB:=hs HB hb;clear hb hbox hg)|((with_reducible refine gd 4 rfl ?_);(try(refine aU (by rfl) ?_;dsimp only));refine bx 4 #[.int .i64 a, .int .i64 aE, .slice bp aF.length br, .slice bs al.length bt] 70 ?_;intro Y hg da hbox hb;have c:=Aside0.mk hbox;have cl:=hz HB hg;have b8:=nl g hg;have b9:=ng g hg;replace g:=kb g hb;replace HB:=hs HB hb;clear hb hbox hg))
     replace g:=Aside0.mk (au g.out)
     replace c:=Aside0.mk (au c.out)
     replace HB:=Aside0.mk (ay HB.out)
     have bd:0≤(a:Int):=od
     have be:a<(d.length:Int):=od
     obtain⟨b,aO,aP,aR,aS,a0,a1,a3,a4,cd,L,M,E,O,P,G,I,J,am,an,ao,ap,aq,ar,aw,aB⟩:=cu ca.out a bd be
     have j:=J
     have l:=I
     have m:=G
     have o:=P
     have p:=O
     have q:=E
     have s:=M
     have t:=L
     cases cd
     obtain⟨L,M,E,O,P,G,I,J⟩:=hc8 HB L M E O P G I J
     have bj:=Aside0.mk an
     have cf:=Aside0.mk am
     clear an am
     have bk:=Aside0.mk ap
     have cg:=Aside0.mk ao
     clear ap ao
     have bm:=Aside0.mk ar
     have ch:=Aside0.mk aq
     clear ar aq
     have bo:=Aside0.mk aB
     have ci:=Aside0.mk aw
     clear aB aw
     replace bd:=eq_true bd
     replace be:=eq_true be
     have bw:0≤(a:Int):=od
     have b0:a<(d.length:Int):=od
     obtain⟨ce,cq,cr,cs,ct,cv,cw,cx,cy,cj,Z,ab,T,ac,ad,U,W,X,a5,a6,a7,a8,a9,ba,bb,bc⟩:=cu ca.out a bw b0
     have u:=X
     have v:=W
     have x:=U
     have y:=ad
     have z:=ac
     have A:=T
     have B:=ab
     have D:=Z
     obtain rfl:b=ce:=(by injection cj)
     obtain⟨Z,ab,T,ac,ad,U,W,X⟩:=hc8 HB Z ab T ac ad U W X
     have b4:=Aside0.mk a6
     have cm:=Aside0.mk a5
     clear a6 a5
     have b5:=Aside0.mk a8
     have cn:=Aside0.mk a7
     clear a8 a7
     have b6:=Aside0.mk ba
     have co:=Aside0.mk a9
     clear ba a9
     have b7:=Aside0.mk bc
     have cp:=Aside0.mk bb
     clear bc bb
     replace bw:=eq_true bw
     replace b0:=eq_true b0
     have ea_:=Option.some.inj (E.symm.trans T)
     injection ea_ with ea_ en_ ec_
     subst ea_
     subst ec_
     clear en_
     have ea_:=Option.some.inj (G.symm.trans U)
     injection ea_ with ea_ en_ ec_
     subst ea_
     subst ec_
     clear en_
     have ea_:=Option.some.inj (I.symm.trans W)
     injection ea_ with ea_ en_ ec_
     subst ea_
     subst ec_
     clear en_
     have ea_:=Option.some.inj (J.symm.trans X)
     injection ea_ with ea_ en_ ec_
     subst ea_
     subst ec_
     clear en_
     refine cB (n:=52) (S:=fun w' =>w'.cell? ⟨Y,0,none⟩=some (.int .i64 a)∧w'.cell? ⟨Y,1,none⟩=some (.int .i64 aE)∧w'.cell? ⟨Y,2,none⟩=some (.slice bp aF.length br)∧w'.cell? ⟨Y,3,none⟩=some (.slice bs al.length bt)∧w'.cell? ⟨aL,0,none⟩=some (.slice b1 bh.length b2)∧w'.cell? ⟨aL,1,none⟩=some (.slice (some b) d.length b3)∧w'.cell? (b.add ((a).toNat * 8))=some (.int .i64 ((aa d a).f0))∧w'.cell? ⟨(b.add ((a).toNat * 8)).block,(b.add ((a).toNat * 8)).off+1,none⟩=some (.int .i64 ((aa d a).f1))∧w'.cell? ⟨(b.add ((a).toNat * 8)).block,(b.add ((a).toNat * 8)).off+2,none⟩=some (.slice aO ((aa d a).f2).length aP)∧w'.cell? ⟨(b.add ((a).toNat * 8)).block,(b.add ((a).toNat * 8)).off+3,none⟩=some (.int .i64 ((aa d a).f3))∧w'.cell? ⟨(b.add ((a).toNat * 8)).block,(b.add ((a).toNat * 8)).off+4,none⟩=some (.int .i64 ((aa d a).f4))∧w'.cell? ⟨(b.add ((a).toNat * 8)).block,(b.add ((a).toNat * 8)).off+5,none⟩=some (.slice aR ((aa d a).f5).length aS)∧w'.cell? ⟨(b.add ((a).toNat * 8)).block,(b.add ((a).toNat * 8)).off+6,none⟩=some (.slice a0 ((aa d a).f6).length a1)∧w'.cell? ⟨(b.add ((a).toNat * 8)).block,(b.add ((a).toNat * 8)).off+7,none⟩=some (.slice a3 ((aa d a).f7).length a4)∧w'.cell? (b.add ((a).toNat * 8))=some (.int .i64 ((aa d a).f0))∧w'.cell? ⟨(b.add ((a).toNat * 8)).block,(b.add ((a).toNat * 8)).off+1,none⟩=some (.int .i64 ((aa d a).f1))∧w'.cell? ⟨(b.add ((a).toNat * 8)).block,(b.add ((a).toNat * 8)).off+2,none⟩=some (.slice aO ((aa d a).f2).length aP)∧w'.cell? ⟨(b.add ((a).toNat * 8)).block,(b.add ((a).toNat * 8)).off+3,none⟩=some (.int .i64 ((aa d a).f3))∧w'.cell? ⟨(b.add ((a).toNat * 8)).block,(b.add ((a).toNat * 8)).off+4,none⟩=some (.int .i64 ((aa d a).f4))∧w'.cell? ⟨(b.add ((a).toNat * 8)).block,(b.add ((a).toNat * 8)).off+5,none⟩=some (.slice aR ((aa d a).f5).length aS)∧w'.cell? ⟨(b.add ((a).toNat * 8)).block,(b.add ((a).toNat * 8)).off+6,none⟩=some (.slice a0 ((aa d a).f6).length a1)∧w'.cell? ⟨(b.add ((a).toNat * 8)).block,(b.add ((a).toNat * 8)).off+7,none⟩=some (.slice a3 ((aa d a).f7).length a4)) (ds:= []) (upto 52 0) (by kernel_rfl) rfl rfl ⟨(ae c.out 0).trans rfl,(ae c.out 1).trans rfl,(ae c.out 2).trans rfl,(ae c.out 3).trans rfl,(ae g.out 0).trans rfl,(ae g.out 1).trans rfl,((HB.out.cell (World.block_lt_of_cell? w _ t)).trans t),((HB.out.cell (World.block_lt_of_cell? w _ s)).trans s),((HB.out.cell (World.block_lt_of_cell? w _ q)).trans q),((HB.out.cell (World.block_lt_of_cell? w _ p)).trans p),((HB.out.cell (World.block_lt_of_cell? w _ o)).trans o),((HB.out.cell (World.block_lt_of_cell? w _ m)).trans m),((HB.out.cell (World.block_lt_of_cell? w _ l)).trans l),((HB.out.cell (World.block_lt_of_cell? w _ j)).trans j),((HB.out.cell (World.block_lt_of_cell? w _ D)).trans D),((HB.out.cell (World.block_lt_of_cell? w _ B)).trans B),((HB.out.cell (World.block_lt_of_cell? w _ A)).trans A),((HB.out.cell (World.block_lt_of_cell? w _ z)).trans z),((HB.out.cell (World.block_lt_of_cell? w _ y)).trans y),((HB.out.cell (World.block_lt_of_cell? w _ x)).trans x),((HB.out.cell (World.block_lt_of_cell? w _ v)).trans v),((HB.out.cell (World.block_lt_of_cell? w _ u)).trans u)⟩ (fun hHeld=> ?_);refine bB bM.tab1 bM.bits1 (fun HT_ HW_=> ?_)
     generalize da.drew=d3 at g c HB bj bk bm bo b4 b5 b6 b7 L M E O P G I J Z ab T ac ad U W X hHeld⊢
     repeat(first|refine vN ?_|refine pN ?_|refine tN ?_)
     refine cO (i:=6) (N:=some 13) (upto 52 7) rfl rfl (bI HT_.out (by kernel_rfl)) (by decide) (fun K hK=> ?_)
     refine gs Tryz.func52 #[.int .i64 a, .int .i64 0, .int .i64 (wrap64 ((d.length:Int) - 1))] rfl rfl ?_
     with_reducible refine(az.calls a 0 (wrap64 ((d.length:Int) - 1)) true _ A4.out).mono ?_
     rintro e w' ⟨rfl,⟨nd,rfl⟩⟩
     refine⟨_,rfl, ?_⟩
     refine hK.out _ _ ⟨(ae c.out 0).trans rfl,(ae c.out 1).trans rfl,(ae c.out 2).trans rfl,(ae c.out 3).trans rfl,(ae g.out 0).trans rfl,(ae g.out 1).trans rfl,((HB.out.cell (World.block_lt_of_cell? w _ t)).trans t),((HB.out.cell (World.block_lt_of_cell? w _ s)).trans s),((HB.out.cell (World.block_lt_of_cell? w _ q)).trans q),((HB.out.cell (World.block_lt_of_cell? w _ p)).trans p),((HB.out.cell (World.block_lt_of_cell? w _ o)).trans o),((HB.out.cell (World.block_lt_of_cell? w _ m)).trans m),((HB.out.cell (World.block_lt_of_cell? w _ l)).trans l),((HB.out.cell (World.block_lt_of_cell? w _ j)).trans j),((HB.out.cell (World.block_lt_of_cell? w _ D)).trans D),((HB.out.cell (World.block_lt_of_cell? w _ B)).trans B),((HB.out.cell (World.block_lt_of_cell? w _ A)).trans A),((HB.out.cell (World.block_lt_of_cell? w _ z)).trans z),((HB.out.cell (World.block_lt_of_cell? w _ y)).trans y),((HB.out.cell (World.block_lt_of_cell? w _ x)).trans x),((HB.out.cell (World.block_lt_of_cell? w _ v)).trans v),((HB.out.cell (World.block_lt_of_cell? w _ u)).trans u)⟩ (fun hHeld=> ?_)
     clear hK K
     refine no 13 ?_
     repeat(first|refine vN ?_|refine pN ?_|refine tN ?_)
     refine cO (i:=18) (N:=some 25) (upto 52 19) rfl rfl (bI HT_.out (by kernel_rfl)) (by decide) (fun K hK=> ?_)
     refine gs Tryz.func52 #[.int .i64 aE, .int .i64 0, .int .i64 (((aa d a).f5).length:Int)] rfl rfl ?_
     with_reducible refine(az.calls aE 0 (((aa d a).f5).length:Int) true _ A8.out).mono ?_
     rintro e w' ⟨rfl,⟨nd,rfl⟩⟩
     refine⟨_,rfl, ?_⟩
     refine hK.out _ _ ⟨(ae c.out 0).trans rfl,(ae c.out 1).trans rfl,(ae c.out 2).trans rfl,(ae c.out 3).trans rfl,(ae g.out 0).trans rfl,(ae g.out 1).trans rfl,((HB.out.cell (World.block_lt_of_cell? w _ t)).trans t),((HB.out.cell (World.block_lt_of_cell? w _ s)).trans s),((HB.out.cell (World.block_lt_of_cell? w _ q)).trans q),((HB.out.cell (World.block_lt_of_cell? w _ p)).trans p),((HB.out.cell (World.block_lt_of_cell? w _ o)).trans o),((HB.out.cell (World.block_lt_of_cell? w _ m)).trans m),((HB.out.cell (World.block_lt_of_cell? w _ l)).trans l),((HB.out.cell (World.block_lt_of_cell? w _ j)).trans j),((HB.out.cell (World.block_lt_of_cell? w _ D)).trans D),((HB.out.cell (World.block_lt_of_cell? w _ B)).trans B),((HB.out.cell (World.block_lt_of_cell? w _ A)).trans A),((HB.out.cell (World.block_lt_of_cell? w _ z)).trans z),((HB.out.cell (World.block_lt_of_cell? w _ y)).trans y),((HB.out.cell (World.block_lt_of_cell? w _ x)).trans x),((HB.out.cell (World.block_lt_of_cell? w _ v)).trans v),((HB.out.cell (World.block_lt_of_cell? w _ u)).trans u)⟩ (fun hHeld=> ?_)
     clear hK K
     refine no 25 ?_
     repeat(first|refine vN ?_|refine pN ?_|refine tN ?_)
     refine dD (bX HT_.out (by kernel_rfl)) ?_
     try go_wp2
     go_ret
     exact fin
    replace c9:=Bool.eq_false_iff.mpr c9
    subst c9
    replace H:=ie H
    obtain rfl:=Option.some.inj H;clear H
    go_enter Tryz.func55,Tryz.ntmps55
    try go_wp2_with (first|((with_reducible refine gd 3 rfl ?_);(try(refine aU (by rfl) ?_;dsimp only));refine bx 3 #[.slice b1 bh.length b2, .slice cc d.length b3] 38 ?_;intro aL hg d4 hbox hb;have g:=Aside0.mk hbox;have ck:=hz HB hg;replace HB:=hs HB hb;clear hb hbox hg)|((with_reducible refine gd 4 rfl ?_);(try(refine aU (by rfl) ?_;dsimp only));refine bx 4 #[.int .i64 a, .int .i64 aE, .slice bp aF.length br, .slice bs al.length bt] 70 ?_;intro Y hg db hbox hb;have c:=Aside0.mk hbox;have cl:=hz HB hg;have b8:=nl g hg;have b9:=ng g hg;replace g:=kb g hb;replace HB:=hs HB hb;clear hb hbox hg))
    replace g:=Aside0.mk (au g.out)
    replace c:=Aside0.mk (au c.out)
    replace HB:=Aside0.mk (ay HB.out)
    have bd:0≤(a:Int):=od
    have be:a<(d.length:Int):=od
    obtain⟨b,aO,aP,aR,aS,a0,a1,a3,a4,cd,L,M,E,O,P,G,I,J,am,an,ao,ap,aq,ar,aw,aB⟩:=cu ca.out a bd be
    have j:=J
    have l:=I
    have m:=G
    have o:=P
    have p:=O
    have q:=E
    have s:=M
    have t:=L
    cases cd
    obtain⟨L,M,E,O,P,G,I,J⟩:=hc8 HB L M E O P G I J
    have bj:=Aside0.mk an
    have cf:=Aside0.mk am
    clear an am
    have bk:=Aside0.mk ap
    have cg:=Aside0.mk ao
    clear ap ao
    have bm:=Aside0.mk ar
    have ch:=Aside0.mk aq
    clear ar aq
    have bo:=Aside0.mk aB
    have ci:=Aside0.mk aw
    clear aB aw
    replace bd:=eq_true bd
    replace be:=eq_true be
    refine cB (n:=52) (S:=fun w' =>w'.cell? ⟨Y,0,none⟩=some (.int .i64 a)∧w'.cell? ⟨Y,1,none⟩=some (.int .i64 aE)∧w'.cell? ⟨Y,2,none⟩=some (.slice bp aF.length br)∧w'.cell? ⟨Y,3,none⟩=some (.slice bs al.length bt)∧w'.cell? ⟨aL,0,none⟩=some (.slice b1 bh.length b2)∧w'.cell? ⟨aL,1,none⟩=some (.slice (some b) d.length b3)∧w'.cell? (b.add ((a).toNat * 8))=some (.int .i64 ((aa d a).f0))∧w'.cell? ⟨(b.add ((a).toNat * 8)).block,(b.add ((a).toNat * 8)).off+1,none⟩=some (.int .i64 ((aa d a).f1))∧w'.cell? ⟨(b.add ((a).toNat * 8)).block,(b.add ((a).toNat * 8)).off+2,none⟩=some (.slice aO ((aa d a).f2).length aP)∧w'.cell? ⟨(b.add ((a).toNat * 8)).block,(b.add ((a).toNat * 8)).off+3,none⟩=some (.int .i64 ((aa d a).f3))∧w'.cell? ⟨(b.add ((a).toNat * 8)).block,(b.add ((a).toNat * 8)).off+4,none⟩=some (.int .i64 ((aa d a).f4))∧w'.cell? ⟨(b.add ((a).toNat * 8)).block,(b.add ((a).toNat * 8)).off+5,none⟩=some (.slice aR ((aa d a).f5).length aS)∧w'.cell? ⟨(b.add ((a).toNat * 8)).block,(b.add ((a).toNat * 8)).off+6,none⟩=some (.slice a0 ((aa d a).f6).length a1)∧w'.cell? ⟨(b.add ((a).toNat * 8)).block,(b.add ((a).toNat * 8)).off+7,none⟩=some (.slice a3 ((aa d a).f7).length a4)) (ds:= []) (upto 52 0) (by kernel_rfl) rfl rfl ⟨(ae c.out 0).trans rfl,(ae c.out 1).trans rfl,(ae c.out 2).trans rfl,(ae c.out 3).trans rfl,(ae g.out 0).trans rfl,(ae g.out 1).trans rfl,((HB.out.cell (World.block_lt_of_cell? w _ t)).trans t),((HB.out.cell (World.block_lt_of_cell? w _ s)).trans s),((HB.out.cell (World.block_lt_of_cell? w _ q)).trans q),((HB.out.cell (World.block_lt_of_cell? w _ p)).trans p),((HB.out.cell (World.block_lt_of_cell? w _ o)).trans o),((HB.out.cell (World.block_lt_of_cell? w _ m)).trans m),((HB.out.cell (World.block_lt_of_cell? w _ l)).trans l),((HB.out.cell (World.block_lt_of_cell? w _ j)).trans j)⟩ (fun hHeld=> ?_);refine bB bM.tab1 bM.bits1 (fun HT_ HW_=> ?_)
    generalize db.drew=w32 at g c HB bj bk bm bo L M E O P G I J hHeld⊢
    repeat(first|refine vN ?_|refine pN ?_|refine tN ?_)
    refine cO (i:=6) (N:=some 13) (upto 52 7) rfl rfl (bI HT_.out (by kernel_rfl)) (by decide) (fun K hK=> ?_)
    refine gs Tryz.func52 #[.int .i64 a, .int .i64 0, .int .i64 (wrap64 ((d.length:Int) - 1))] rfl rfl ?_
    with_reducible refine(az.calls a 0 (wrap64 ((d.length:Int) - 1)) true _ A4.out).mono ?_
    rintro e w' ⟨rfl,⟨nd,rfl⟩⟩
    refine⟨_,rfl, ?_⟩
    refine hK.out _ _ ⟨(ae c.out 0).trans rfl,(ae c.out 1).trans rfl,(ae c.out 2).trans rfl,(ae c.out 3).trans rfl,(ae g.out 0).trans rfl,(ae g.out 1).trans rfl,((HB.out.cell (World.block_lt_of_cell? w _ t)).trans t),((HB.out.cell (World.block_lt_of_cell? w _ s)).trans s),((HB.out.cell (World.block_lt_of_cell? w _ q)).trans q),((HB.out.cell (World.block_lt_of_cell? w _ p)).trans p),((HB.out.cell (World.block_lt_of_cell? w _ o)).trans o),((HB.out.cell (World.block_lt_of_cell? w _ m)).trans m),((HB.out.cell (World.block_lt_of_cell? w _ l)).trans l),((HB.out.cell (World.block_lt_of_cell? w _ j)).trans j)⟩ (fun hHeld=> ?_)
    clear hK K
    refine no 13 ?_
    repeat(first|refine vN ?_|refine pN ?_|refine tN ?_)
    refine cO (i:=18) (N:=some 25) (upto 52 19) rfl rfl (bI HT_.out (by kernel_rfl)) (by decide) (fun K hK=> ?_)
    refine gs Tryz.func52 #[.int .i64 aE, .int .i64 0, .int .i64 (((aa d a).f5).length:Int)] rfl rfl ?_
    with_reducible refine(az.calls aE 0 (((aa d a).f5).length:Int) false _ A8.out).mono ?_
    rintro e w' ⟨rfl,⟨nd,rfl⟩⟩
    refine⟨_,rfl, ?_⟩
    refine hK.out _ _ ⟨(ae c.out 0).trans rfl,(ae c.out 1).trans rfl,(ae c.out 2).trans rfl,(ae c.out 3).trans rfl,(ae g.out 0).trans rfl,(ae g.out 1).trans rfl,((HB.out.cell (World.block_lt_of_cell? w _ t)).trans t),((HB.out.cell (World.block_lt_of_cell? w _ s)).trans s),((HB.out.cell (World.block_lt_of_cell? w _ q)).trans q),((HB.out.cell (World.block_lt_of_cell? w _ p)).trans p),((HB.out.cell (World.block_lt_of_cell? w _ o)).trans o),((HB.out.cell (World.block_lt_of_cell? w _ m)).trans m),((HB.out.cell (World.block_lt_of_cell? w _ l)).trans l),((HB.out.cell (World.block_lt_of_cell? w _ j)).trans j)⟩ (fun hHeld=> ?_)
    clear hK K
    refine no 25 ?_
    repeat(first|refine vN ?_|refine pN ?_|refine tN ?_)
    refine dD (bX HT_.out (by kernel_rfl)) ?_
    try go_wp2
    go_ret
    exact fin
   rw[if_neg c7]at H
   exact absurd H (by simp)
  rw[if_neg c6]at H
  exact absurd H (by simp)
 replace c5:=Bool.eq_false_iff.mpr c5
 subst c5
 replace H:=ie H
 obtain rfl:=Option.some.inj H;clear H
 go_enter Tryz.func55,Tryz.ntmps55
 try go_wp2_with (first|((with_reducible refine gd 3 rfl ?_);(try(refine aU (by rfl) ?_;dsimp only));refine bx 3 #[.slice b1 bh.length b2, .slice cc d.length b3] 38 ?_;intro aL hg d5 hbox hb;have g:=Aside0.mk hbox;have ck:=hz HB hg;replace HB:=hs HB hb;clear hb hbox hg)|((with_reducible refine gd 4 rfl ?_);(try(refine aU (by rfl) ?_;dsimp only));refine bx 4 #[.int .i64 a, .int .i64 aE, .slice bp aF.length br, .slice bs al.length bt] 70 ?_;intro Y hg dc hbox hb;have c:=Aside0.mk hbox;have cl:=hz HB hg;have b8:=nl g hg;have b9:=ng g hg;replace g:=kb g hb;replace HB:=hs HB hb;clear hb hbox hg))
 replace g:=Aside0.mk (au g.out)
 replace c:=Aside0.mk (au c.out)
 replace HB:=Aside0.mk (ay HB.out)
 refine cB (n:=52) (S:=fun w' =>w'.cell? ⟨Y,0,none⟩=some (.int .i64 a)∧w'.cell? ⟨Y,1,none⟩=some (.int .i64 aE)∧w'.cell? ⟨Y,2,none⟩=some (.slice bp aF.length br)∧w'.cell? ⟨Y,3,none⟩=some (.slice bs al.length bt)∧w'.cell? ⟨aL,0,none⟩=some (.slice b1 bh.length b2)∧w'.cell? ⟨aL,1,none⟩=some (.slice cc d.length b3)) (ds:= []) (upto 52 0) (by kernel_rfl) rfl rfl ⟨(ae c.out 0).trans rfl,(ae c.out 1).trans rfl,(ae c.out 2).trans rfl,(ae c.out 3).trans rfl,(ae g.out 0).trans rfl,(ae g.out 1).trans rfl⟩ (fun hHeld=> ?_);refine bB bM.tab1 bM.bits1 (fun HT_ HW_=> ?_)
 generalize dc.drew=d6 at g c HB hHeld⊢
 repeat(first|refine vN ?_|refine pN ?_|refine tN ?_)
 refine cO (i:=6) (N:=some 13) (upto 52 7) rfl rfl (bI HT_.out (by kernel_rfl)) (by decide) (fun K hK=> ?_)
 refine gs Tryz.func52 #[.int .i64 a, .int .i64 0, .int .i64 (wrap64 ((d.length:Int) - 1))] rfl rfl ?_
 with_reducible refine(az.calls a 0 (wrap64 ((d.length:Int) - 1)) false _ A4.out).mono ?_
 rintro e w' ⟨rfl,⟨nd,rfl⟩⟩
 refine⟨_,rfl, ?_⟩
 refine hK.out _ _ ⟨(ae c.out 0).trans rfl,(ae c.out 1).trans rfl,(ae c.out 2).trans rfl,(ae c.out 3).trans rfl,(ae g.out 0).trans rfl,(ae g.out 1).trans rfl⟩ (fun hHeld=> ?_)
 clear hK K
 refine no 13 ?_
 repeat(first|refine vN ?_|refine pN ?_|refine tN ?_)
 refine dD (bX HT_.out (by kernel_rfl)) ?_
 try go_wp2
 go_ret
 exact fin
theorem uB (d:Nat) (w:World) (x0 y0:Bool) (x1 y1:Int):
    (Op.equalIn (d+2) 31 (.agg #[.bool x0, .int .i64 x1]) (.agg #[.bool y0, .int .i64 y1])).run Tryz.prog w= .ok (x0==y0 && (x1==y1)) w:=by
  refine vv Tryz.underlying31 (by kernel_rfl) ?_
  refine tJ (by rfl) (by go_simp;rfl) (by go_simp;rfl) (by go_simp) ?_
  exact tH (by rfl) (by go_simp;rfl) (by go_simp;rfl) (by go_simp)
end Go.Proofs.YteinbmkgenhocaaGreat.P
end
section
namespace Go.Proofs.YteinbmkgenhocaaGreat.P
open Go.RowKit Go.Proofs.YteinbmkgenhocaaGreatW.PrintWords Go.Proofs.YteinbmkgenhocaaGreatW.PrintLast Go.Proofs.YteinbmkgenhocaaGreatW.PrintMore
attribute [local go_sem] ah ai av ax af ag aj ak
set_option linter.unusedVariables false
set_option linter.unusedSimpArgs false
attribute [local go_sem high] uB
set_option maxHeartbeats 8000000 in
set_option maxRecDepth 100000 in
theorem eu.calls (k:Nat) (n:Option Addr) (o:Nat) (c:List (S91)) (p:Option Addr) (q:Nat) (a:List (S70)) (s:Option Addr) (t:Nat) (d:List Int) (j:Int) (b:Int) (i:Bool) (l:Int) (r:Bool) (w:World) (v:Kd.C k91 w n c.length c) (x:c.length≤o) (y:Kd.C k70 w p a.length a) (z:a.length≤q) (A:Kd.C (Kd.int .i64) w s d.length d) (B:d.length≤t) (h:eu.f k c a d j b i l=some r):
  Calls Tryz.prog 57 #[.agg #[.slice n c.length o, .slice p a.length q, .slice s d.length t, .int .i64 j, .int .i64 b, .bool i, .int .i64 l]] w fun e w' =>e= .returned (.bool r)∧Below w.heap.size w w' :=by
 have al:=Tryz.underlying33
 have am:=Tryz.underlying31
 have U:=Aside0.mk v
 have W:=Aside0.mk x
 clear v x
 have X:=Aside0.mk y
 have Y:=Aside0.mk z
 clear y z
 have Z:=Aside0.mk A
 have ab:=Aside0.mk B
 clear A B
 have HB:=Aside0.mk (Below.refl w.heap.size w)
 have H:(if b=0 then(eu.j0 k (a.length:Int) b (b==0) c a d j b i l)else(eu.j0 k (a.length:Int) b (b==3) c a d j b i l))=some r:=h
 clear h
 have D:=Aside0.mk H
 clear H
 go_enter Tryz.func57,Tryz.ntmps57
 go_upto_if 9 with(first|((with_reducible refine gd 1 rfl ?_);refine bx 1 #[.slice n c.length o, .slice p a.length q, .slice s d.length t, .int .i64 j, .int .i64 b, .bool i, .int .i64 l] 33 ?_;intro E hg w3 hbox hb;have g:=Aside0.mk hbox;have ac:=hz HB hg;replace HB:=hs HB hb;clear hb hbox hg;have:=cf7 g))
 (try simp only[Act.put,List.setIfInBounds_toArray,List.set_cons_zero,List.set_cons_succ])
 go_cut [9] (fun v9 wc=> ∃(kq:Nat) (u:Bool),v9= .bool u∧Aside0 (eu.j0 kq (a.length:Int) b u c a d j b i l=some r)∧Aside0 (kq≤k)∧Aside0 (wc.heap[E]? =some (.cells #[(.slice n c.length o),(.slice p a.length q),(.slice s d.length t), .int .i64 j, .int .i64 b, .bool i, .int .i64 l] 33 (0,0)))∧Aside0 (Below w.heap.size w wc))
 case first=>
  have H:=D.out
  clear D
  by_cases c5:b=0
  ·rw[if_pos c5]at H
   have m:=beq_iff_eq.mpr c5
   have L:=bne_eq_false_iff_eq.mpr c5
   clear c5
   (first|rw[m]|(simp only[bq,bu];rw[m])|skip)
   have H' :=Aside0.mk H
   clear H
   go_wp2
   go_meet
   case rel=>exact⟨_,((b==0)),(by first|rfl|(simp;done)|(simp[*];done)),H',⟨by first|omega|exact Nat.le_refl _⟩,kk g,⟨bl⟩⟩
  rw[if_neg c5]at H
  have m:=beq_eq_false_iff_ne.mpr c5
  have L:=bne_iff_ne.mpr c5
  (first|rw[m]|(simp only[bq,bu];rw[m])|skip)
  have H' :=Aside0.mk H
  clear H
  go_wp2
  go_meet
  case rel=>exact⟨_,((b==3)),(by first|rfl|(simp;done)|(simp[*];done)),H',⟨by first|omega|exact Nat.le_refl _⟩,kk g,⟨bl⟩⟩
 case rest=>
  clear D
  obtain⟨kq,u,rfl,HA,an,g,HB⟩:=hcut
  cases kq with
  |zero=>exact absurd HA.out (by simp[eu.j0])
  | succ ao=>
   have H:=HA.out
   clear HA
   simp only[eu.j0]at H
   by_cases c6:u=true
   ·subst c6
    replace H:=it H
    by_cases c7:(a.length:Int)>0
    ·rw[if_pos c7]at H
     have M:decide (0<(a.length:Int))=true:=decide_eq_true c7
     have O:decide (0<a.length)=true:=decide_eq_true (by omega)
     clear c7
     obtain rfl:=Option.some.inj H;clear H
     have:=cf7 g
     go_wp2
     go_ret
     exact fin
    rw[if_neg c7]at H
    have M:decide (0<(a.length:Int))=false:=decide_eq_false c7
    have O:decide (0<a.length)=false:=decide_eq_false (by omega)
    clear c7
    obtain rfl:=Option.some.inj H;clear H
    go_wp2
    go_ret
    exact fin
   replace c6:=Bool.eq_false_iff.mpr c6
   subst c6
   replace H:=ie H
   by_cases c9:b=1
   ·rw[if_pos c9]at H
    have P:=beq_iff_eq.mpr c9
    have T:=bne_eq_false_iff_eq.mpr c9
    clear c9
    obtain rfl:=Option.some.inj H;clear H
    go_wp2
    go_ret
    exact fin
   rw[if_neg c9]at H
   have P:=beq_eq_false_iff_ne.mpr c9
   have T:=bne_iff_ne.mpr c9
   by_cases c10:b=2
   ·rw[if_pos c10]at H
    have G:=beq_iff_eq.mpr c10
    have I:=bne_eq_false_iff_eq.mpr c10
    clear c10
    by_cases c11:(a.length:Int)=0
    ·rw[if_pos c11]at H
     have J:=beq_iff_eq.mpr c11
     have K:=bne_eq_false_iff_eq.mpr c11
     clear c11
     by_cases c12:i=true
     ·subst c12
      replace H:=it H
      obtain rfl:=Option.some.inj H;clear H
      have:=cf7 g
      go_wp2
      go_ret
      exact fin
     replace c12:=Bool.eq_false_iff.mpr c12
     subst c12
     replace H:=ie H
     obtain rfl:=Option.some.inj H;clear H
     have:=cf7 g
     go_wp2
     go_ret
     exact fin
    rw[if_neg c11]at H
    have J:=beq_eq_false_iff_ne.mpr c11
    have K:=bne_iff_ne.mpr c11
    have ad: ¬(a= []):=fun h_=>c11 (by rw[h_];rfl)
    obtain rfl:=Option.some.inj H;clear H
    go_wp2
    go_ret
    exact fin
   rw[if_neg c10]at H
   have G:=beq_eq_false_iff_ne.mpr c10
   have I:=bne_iff_ne.mpr c10
   obtain rfl:=Option.some.inj H;clear H
   go_wp2
   go_ret
   exact fin
end Go.Proofs.YteinbmkgenhocaaGreat.P
end
