/- A part of the claim FnExactShapeStart: texts of this session and texts that its program printed out of the translation, joined. -/
import Derived.Test.YteinbmkgenhocaaCFnExactShapeStart33
section
namespace Go.Proofs.Yteinbmkgenhocaa.P
open Go.RowKit Go.Proofs.YteinbmkgenhocaaW.PrintWords Go.Proofs.YteinbmkgenhocaaW.PrintLast Go.Proofs.YteinbmkgenhocaaW.PrintMore
attribute [local go_sem] ak au aA aC ai aj av ax
set_option linter.unusedVariables false
set_option linter.unusedSimpArgs false
set_option maxHeartbeats 8000000 in
set_option maxRecDepth 100000 in
theorem fU.calls (k:Nat) (L:Int) (M:Int) (q:Option Addr) (s:Nat) (c:List Int) (O:Int) (P:Int) (v:Option Addr) (x:Nat) (g:List (S97)) (A:Option Addr) (B:Nat) (m:List (S29)) (T:Option Addr) (U:Nat) (o:List (S102)) (W:Int) (X:Int) (t:Option Addr) (u:Nat) (d:List Int) (Y:Int) (Z:Int) (y:Option Addr) (z:Nat) (i:List (S97)) (D:Option Addr) (E:Nat) (n:List (S29)) (ab:Option Addr) (ac:Nat) (p:List (S102)) (r:Bool) (w:World) (a1:Kd.C (Kd.int .i64) w q c.length c) (a2:c.length≤s) (a3:Kd.C k97 w v g.length g) (a4:g.length≤x) (a5:Kd.C k29 w A m.length m) (a6:m.length≤B) (a7:Kd.C dQ w T o.length o) (a8:o.length≤U) (a9:Kd.C (Kd.int .i64) w t d.length d) (ba:d.length≤u) (bb:Kd.C k97 w y i.length i) (bc:i.length≤z) (bd:Kd.C k29 w D n.length n) (be:n.length≤E) (bh:Kd.C dQ w ab p.length p) (bj:p.length≤ac) (h:fU.f k L M c O P g m o W X d Y Z i n p=some r):
  Calls Try.prog 45 #[.agg #[.int .i64 L, .int .i64 M, .slice q c.length s, .int .i64 O, .int .i64 P, .slice v g.length x, .slice A m.length B, .slice T o.length U], .agg #[.int .i64 W, .int .i64 X, .slice t d.length u, .int .i64 Y, .int .i64 Z, .slice y i.length z, .slice D n.length E, .slice ab p.length ac]] w fun e w' =>e= .returned (.bool r)∧Below w.heap.size w w' :=by
 have cg:=Try.underlying50
 have G:=Aside0.mk a1
 have I:=Aside0.mk a2
 clear a1 a2
 have ad:=Aside0.mk a3
 have al:=Aside0.mk a4
 clear a3 a4
 have ao:=Aside0.mk a5
 have ap:=Aside0.mk a6
 clear a5 a6
 have bk:=Aside0.mk a7
 have bm:=Aside0.mk a8
 clear a7 a8
 have J:=Aside0.mk a9
 have K:=Aside0.mk ba
 clear a9 ba
 have am:=Aside0.mk bb
 have an:=Aside0.mk bc
 clear bb bc
 have aq:=Aside0.mk bd
 have ar:=Aside0.mk be
 clear bd be
 have bo:=Aside0.mk bh
 have bp:=Aside0.mk bj
 clear bh bj
 have HB:=Aside0.mk (Below.refl w.heap.size w)
 have H:(if L=W then(if M=X then((bB.f k c d).bind fun aP=>(if aP=true then(if O=Y then(if P=Z then((bI.f k g i).bind fun aR=>(if aR=true then((bD.f k m n).bind fun aS=>(if aS=true then((bE.f k o p).bind fun a0=>(if a0=true then(some true)else(some false)))else(some false)))else(some false)))else(some false))else(some false))else(some false)))else(some false))else(some false))=some r:=h
 clear h
 by_cases c3:L=W
 ·rw [if_pos c3]at H
  have bw:=beq_iff_eq.mpr c3
  have b0:=bne_eq_false_iff_eq.mpr c3
  clear c3
  by_cases c4:M=X
  ·rw [if_pos c4]at H
   have b1:=beq_iff_eq.mpr c4
   have b2:=bne_eq_false_iff_eq.mpr c4
   clear c4
   obtain⟨aP,A5,H⟩:=ob H
   by_cases c6:aP=true
   ·subst c6
    replace H:=it H
    by_cases c7:O=Y
    ·rw [if_pos c7]at H
     have b3:=beq_iff_eq.mpr c7
     have b4:=bne_eq_false_iff_eq.mpr c7
     clear c7
     by_cases c8:P=Z
     ·rw [if_pos c8]at H
      have b5:=beq_iff_eq.mpr c8
      have b6:=bne_eq_false_iff_eq.mpr c8
      clear c8
      obtain⟨aR,A9,H⟩:=ob H
      by_cases c10:aR=true
      ·subst c10
       replace H:=it H
       obtain⟨aS,br,H⟩:=ob H
       by_cases c12:aS=true
       ·subst c12
        replace H:=it H
        obtain⟨a0,bs,H⟩:=ob H
        by_cases c14:a0=true
        ·subst c14
         replace H:=it H
         obtain rfl:=Option.some.inj H;clear H
         go_enter Try.func45,Try.ntmps45
         go_wp2_with (first|((with_reducible refine gd 2 rfl ?_);refine bx 2 #[.int .i64 L, .int .i64 M, .slice q c.length s, .int .i64 O, .int .i64 P, .slice v g.length x, .slice A m.length B, .slice T o.length U] 50 ?_;intro aw hg ch hbox hb;have a:=Aside0.mk hbox;have aB:=hz HB hg;have aE:=hz HB hg;replace HB:=hs HB hb;clear hb hbox hg)|((with_reducible refine gd 3 rfl ?_);refine bx 3 #[.int .i64 W, .int .i64 X, .slice t d.length u, .int .i64 Y, .int .i64 Z, .slice y i.length z, .slice D n.length E, .slice ab p.length ac] 50 ?_;intro aF hg w16 hbox hb;have b:=Aside0.mk hbox;have aL:=hz HB hg;have aO:=hz HB hg;have j:=nl a hg;have l:=ng a hg;replace a:=kb a hb;replace HB:=hs HB hb;clear hb hbox hg;have b7:=j.out;have b8:=l.out;obtain⟨_,_,_,_,_,_,_,_,_,_,_,_,_,_,_,_⟩:=cf8 a;obtain⟨_,_,_,_,_,_,_,_,_,_,_,_,_,_,_,_⟩:=cf8 b)|((with_reducible refine gc 23 rfl ?_);refine gl (some 19) Try.func23 #[.slice q c.length s, .slice t d.length u] rfl ?_;(with_reducible refine(bB.calls k _ _ c _ _ d true _ ?s1 ?s2 ?s3 ?s4 A5.out).mono ?_);(case s1=>exact cb G.out);(case s2=>exact I.out);(case s3=>exact cb J.out);(case s4=>exact K.out);rintro e w' ⟨rfl,⟨nd,rfl⟩⟩;refine⟨_,rfl, ?_⟩)|((with_reducible refine gc 66 rfl ?_);refine gl (some 35) Try.func66 #[.slice v g.length x, .slice y i.length z] rfl ?_;(with_reducible refine(bI.calls k _ _ g _ _ i true _ ?s1 ?s2 ?s3 ?s4 A9.out).mono ?_);(case s1=>exact cb ad.out);(case s2=>exact al.out);(case s3=>exact cb am.out);(case s4=>exact an.out);rintro e ci ⟨rfl,hb⟩;refine⟨_,rfl, ?_⟩;replace a:=kb a hb;replace b:=kb b hb;replace HB:=hs HB hb;(try clear hb);obtain⟨_,_,_,_,_,_,_,_,_,_,_,_,_,_,_,_⟩:=cf8 a;obtain⟨_,_,_,_,_,_,_,_,_,_,_,_,_,_,_,_⟩:=cf8 b)|((with_reducible refine gc 67 rfl ?_);refine gl (some 41) Try.func67 #[.slice A m.length B, .slice D n.length E] rfl ?_;(with_reducible refine(bD.calls k _ _ m _ _ n true _ ?s1 ?s2 ?s3 ?s4 br.out).mono ?_);(case s1=>exact cb ao.out);(case s2=>exact ap.out);(case s3=>exact cb aq.out);(case s4=>exact ar.out);rintro e cj ⟨rfl,hb⟩;refine⟨_,rfl, ?_⟩;replace a:=kb a hb;replace b:=kb b hb;replace HB:=hs HB hb;(try clear hb);obtain⟨_,_,_,_,_,_,_,_,_,_,_,_,_,_,_,_⟩:=cf8 a;obtain⟨_,_,_,_,_,_,_,_,_,_,_,_,_,_,_,_⟩:=cf8 b)|((with_reducible refine gc 68 rfl ?_);refine gl (some 47) Try.func68 #[.slice T o.length U, .slice ab p.length ac] rfl ?_;(with_reducible refine(bE.calls k _ _ o _ _ p true _ ?s1 ?s2 ?s3 ?s4 bs.out).mono ?_);(case s1=>exact cb bk.out);(case s2=>exact bm.out);(case s3=>exact cb bo.out);(case s4=>exact bp.out);rintro e ck ⟨rfl,hb⟩;refine⟨_,rfl, ?_⟩;replace a:=kb a hb;replace b:=kb b hb;replace HB:=hs HB hb;(try clear hb)))
         go_ret
         exact fin
        ·replace c14:=Bool.eq_false_iff.mpr c14
         subst c14
         replace H:=ie H
         obtain rfl:=Option.some.inj H;clear H
         go_enter Try.func45,Try.ntmps45
         go_wp2_with (first|((with_reducible refine gd 2 rfl ?_);refine bx 2 #[.int .i64 L, .int .i64 M, .slice q c.length s, .int .i64 O, .int .i64 P, .slice v g.length x, .slice A m.length B, .slice T o.length U] 50 ?_;intro aw hg cl hbox hb;have a:=Aside0.mk hbox;have aB:=hz HB hg;have aE:=hz HB hg;replace HB:=hs HB hb;clear hb hbox hg)|((with_reducible refine gd 3 rfl ?_);refine bx 3 #[.int .i64 W, .int .i64 X, .slice t d.length u, .int .i64 Y, .int .i64 Z, .slice y i.length z, .slice D n.length E, .slice ab p.length ac] 50 ?_;intro aF hg cm hbox hb;have b:=Aside0.mk hbox;have aL:=hz HB hg;have aO:=hz HB hg;have j:=nl a hg;have l:=ng a hg;replace a:=kb a hb;replace HB:=hs HB hb;clear hb hbox hg;have b9:=j.out;have ca:=l.out;obtain⟨_,_,_,_,_,_,_,_,_,_,_,_,_,_,_,_⟩:=cf8 a;obtain⟨_,_,_,_,_,_,_,_,_,_,_,_,_,_,_,_⟩:=cf8 b)|((with_reducible refine gc 23 rfl ?_);refine gl (some 19) Try.func23 #[.slice q c.length s, .slice t d.length u] rfl ?_;(with_reducible refine(bB.calls k _ _ c _ _ d true _ ?s1 ?s2 ?s3 ?s4 A5.out).mono ?_);(case s1=>exact cb G.out);(case s2=>exact I.out);(case s3=>exact cb J.out);(case s4=>exact K.out);rintro e w' ⟨rfl,⟨nd,rfl⟩⟩;refine⟨_,rfl, ?_⟩)|((with_reducible refine gc 66 rfl ?_);refine gl (some 35) Try.func66 #[.slice v g.length x, .slice y i.length z] rfl ?_;(with_reducible refine(bI.calls k _ _ g _ _ i true _ ?s1 ?s2 ?s3 ?s4 A9.out).mono ?_);(case s1=>exact cb ad.out);(case s2=>exact al.out);(case s3=>exact cb am.out);(case s4=>exact an.out);rintro e w32 ⟨rfl,hb⟩;refine⟨_,rfl, ?_⟩;replace a:=kb a hb;replace b:=kb b hb;replace HB:=hs HB hb;(try clear hb);obtain⟨_,_,_,_,_,_,_,_,_,_,_,_,_,_,_,_⟩:=cf8 a;obtain⟨_,_,_,_,_,_,_,_,_,_,_,_,_,_,_,_⟩:=cf8 b)|((with_reducible refine gc 67 rfl ?_);refine gl (some 41) Try.func67 #[.slice A m.length B, .slice D n.length E] rfl ?_;(with_reducible refine(bD.calls k _ _ m _ _ n true _ ?s1 ?s2 ?s3 ?s4 br.out).mono ?_);(case s1=>exact cb ao.out);(case s2=>exact ap.out);(case s3=>exact cb aq.out);(case s4=>exact ar.out);rintro e cn ⟨rfl,hb⟩;refine⟨_,rfl, ?_⟩;replace a:=kb a hb;replace b:=kb b hb;replace HB:=hs HB hb;(try clear hb);obtain⟨_,_,_,_,_,_,_,_,_,_,_,_,_,_,_,_⟩:=cf8 a;obtain⟨_,_,_,_,_,_,_,_,_,_,_,_,_,_,_,_⟩:=cf8 b)|((with_reducible refine gc 68 rfl ?_);refine gl (some 47) Try.func68 #[.slice T o.length U, .slice ab p.length ac] rfl ?_;(with_reducible refine(bE.calls k _ _ o _ _ p false _ ?s1 ?s2 ?s3 ?s4 bs.out).mono ?_);(case s1=>exact cb bk.out);(case s2=>exact bm.out);(case s3=>exact cb bo.out);(case s4=>exact bp.out);rintro e co ⟨rfl,hb⟩;refine⟨_,rfl, ?_⟩;replace a:=kb a hb;replace b:=kb b hb;replace HB:=hs HB hb;(try clear hb)))
         go_ret
         exact fin
       ·replace c12:=Bool.eq_false_iff.mpr c12
        subst c12
        replace H:=ie H
        obtain rfl:=Option.some.inj H;clear H
        go_enter Try.func45,Try.ntmps45
        go_wp2_with (first|((with_reducible refine gd 2 rfl ?_);refine bx 2 #[.int .i64 L, .int .i64 M, .slice q c.length s, .int .i64 O, .int .i64 P, .slice v g.length x, .slice A m.length B, .slice T o.length U] 50 ?_;intro aw hg cp hbox hb;have a:=Aside0.mk hbox;have aB:=hz HB hg;have aE:=hz HB hg;replace HB:=hs HB hb;clear hb hbox hg)|((with_reducible refine gd 3 rfl ?_);refine bx 3 #[.int .i64 W, .int .i64 X, .slice t d.length u, .int .i64 Y, .int .i64 Z, .slice y i.length z, .slice D n.length E, .slice ab p.length ac] 50 ?_;intro aF hg cq hbox hb;have b:=Aside0.mk hbox;have aL:=hz HB hg;have aO:=hz HB hg;have j:=nl a hg;have l:=ng a hg;replace a:=kb a hb;replace HB:=hs HB hb;clear hb hbox hg;have cc:=j.out;have cd:=l.out;obtain⟨_,_,_,_,_,_,_,_,_,_,_,_,_,_,_,_⟩:=cf8 a;obtain⟨_,_,_,_,_,_,_,_,_,_,_,_,_,_,_,_⟩:=cf8 b)|((with_reducible refine gc 23 rfl ?_);refine gl (some 19) Try.func23 #[.slice q c.length s, .slice t d.length u] rfl ?_;(with_reducible refine(bB.calls k _ _ c _ _ d true _ ?s1 ?s2 ?s3 ?s4 A5.out).mono ?_);(case s1=>exact cb G.out);(case s2=>exact I.out);(case s3=>exact cb J.out);(case s4=>exact K.out);rintro e w' ⟨rfl,⟨nd,rfl⟩⟩;refine⟨_,rfl, ?_⟩)|((with_reducible refine gc 66 rfl ?_);refine gl (some 35) Try.func66 #[.slice v g.length x, .slice y i.length z] rfl ?_;(with_reducible refine(bI.calls k _ _ g _ _ i true _ ?s1 ?s2 ?s3 ?s4 A9.out).mono ?_);(case s1=>exact cb ad.out);(case s2=>exact al.out);(case s3=>exact cb am.out);(case s4=>exact an.out);rintro e cr ⟨rfl,hb⟩;refine⟨_,rfl, ?_⟩;replace a:=kb a hb;replace b:=kb b hb;replace HB:=hs HB hb;(try clear hb);obtain⟨_,_,_,_,_,_,_,_,_,_,_,_,_,_,_,_⟩:=cf8 a;obtain⟨_,_,_,_,_,_,_,_,_,_,_,_,_,_,_,_⟩:=cf8 b)|((with_reducible refine gc 67 rfl ?_);refine gl (some 41) Try.func67 #[.slice A m.length B, .slice D n.length E] rfl ?_;(with_reducible refine(bD.calls k _ _ m _ _ n false _ ?s1 ?s2 ?s3 ?s4 br.out).mono ?_);(case s1=>exact cb ao.out);(case s2=>exact ap.out);(case s3=>exact cb aq.out);(case s4=>exact ar.out);rintro e cs ⟨rfl,hb⟩;refine⟨_,rfl, ?_⟩;replace a:=kb a hb;replace b:=kb b hb;replace HB:=hs HB hb;(try clear hb)))
        go_ret
        exact fin
      ·replace c10:=Bool.eq_false_iff.mpr c10
       subst c10
       replace H:=ie H
       obtain rfl:=Option.some.inj H;clear H
       go_enter Try.func45,Try.ntmps45
       go_wp2_with (first|((with_reducible refine gd 2 rfl ?_);refine bx 2 #[.int .i64 L, .int .i64 M, .slice q c.length s, .int .i64 O, .int .i64 P, .slice v g.length x, .slice A m.length B, .slice T o.length U] 50 ?_;intro aw hg ct hbox hb;have a:=Aside0.mk hbox;have aB:=hz HB hg;have aE:=hz HB hg;replace HB:=hs HB hb;clear hb hbox hg)|((with_reducible refine gd 3 rfl ?_);refine bx 3 #[.int .i64 W, .int .i64 X, .slice t d.length u, .int .i64 Y, .int .i64 Z, .slice y i.length z, .slice D n.length E, .slice ab p.length ac] 50 ?_;intro aF hg cv hbox hb;have b:=Aside0.mk hbox;have aL:=hz HB hg;have aO:=hz HB hg;have j:=nl a hg;have l:=ng a hg;replace a:=kb a hb;replace HB:=hs HB hb;clear hb hbox hg;have ce:=j.out;have cf:=l.out;obtain⟨_,_,_,_,_,_,_,_,_,_,_,_,_,_,_,_⟩:=cf8 a;obtain⟨_,_,_,_,_,_,_,_,_,_,_,_,_,_,_,_⟩:=cf8 b)|((with_reducible refine gc 23 rfl ?_);refine gl (some 19) Try.func23 #[.slice q c.length s, .slice t d.length u] rfl ?_;(with_reducible refine(bB.calls k _ _ c _ _ d true _ ?s1 ?s2 ?s3 ?s4 A5.out).mono ?_);(case s1=>exact cb G.out);(case s2=>exact I.out);(case s3=>exact cb J.out);(case s4=>exact K.out);rintro e w' ⟨rfl,⟨nd,rfl⟩⟩;refine⟨_,rfl, ?_⟩)|((with_reducible refine gc 66 rfl ?_);refine gl (some 35) Try.func66 #[.slice v g.length x, .slice y i.length z] rfl ?_;(with_reducible refine(bI.calls k _ _ g _ _ i false _ ?s1 ?s2 ?s3 ?s4 A9.out).mono ?_);(case s1=>exact cb ad.out);(case s2=>exact al.out);(case s3=>exact cb am.out);(case s4=>exact an.out);rintro e cw ⟨rfl,hb⟩;refine⟨_,rfl, ?_⟩;replace a:=kb a hb;replace b:=kb b hb;replace HB:=hs HB hb;(try clear hb)))
       go_ret
       exact fin
     ·rw[if_neg c8]at H
      have b5:=beq_eq_false_iff_ne.mpr c8
      have b6:=bne_iff_ne.mpr c8
      obtain rfl:=Option.some.inj H;clear H
      go_enter Try.func45,Try.ntmps45
      go_wp2_with (first|((with_reducible refine gc 23 rfl ?_);refine gl (some 19) Try.func23 #[.slice q c.length s, .slice t d.length u] rfl ?_;(with_reducible refine(bB.calls k _ _ c _ _ d true _ ?s1 ?s2 ?s3 ?s4 A5.out).mono ?_);(case s1=>exact cb G.out);(case s2=>exact I.out);(case s3=>exact cb J.out);(case s4=>exact K.out);rintro e w' ⟨rfl,⟨nd,rfl⟩⟩;refine⟨_,rfl, ?_⟩))
      go_ret
      exact fin
    ·rw[if_neg c7]at H
     have b3:=beq_eq_false_iff_ne.mpr c7
     have b4:=bne_iff_ne.mpr c7
     obtain rfl:=Option.some.inj H;clear H
     go_enter Try.func45,Try.ntmps45
     go_wp2_with (first|((with_reducible refine gc 23 rfl ?_);refine gl (some 19) Try.func23 #[.slice q c.length s, .slice t d.length u] rfl ?_;(with_reducible refine(bB.calls k _ _ c _ _ d true _ ?s1 ?s2 ?s3 ?s4 A5.out).mono ?_);(case s1=>exact cb G.out);(case s2=>exact I.out);(case s3=>exact cb J.out);(case s4=>exact K.out);rintro e w' ⟨rfl,⟨nd,rfl⟩⟩;refine⟨_,rfl, ?_⟩))
     go_ret
     exact fin
   ·replace c6:=Bool.eq_false_iff.mpr c6
    subst c6
    replace H:=ie H
    obtain rfl:=Option.some.inj H;clear H
    go_enter Try.func45,Try.ntmps45
    go_wp2_with (first|((with_reducible refine gc 23 rfl ?_);refine gl (some 19) Try.func23 #[.slice q c.length s, .slice t d.length u] rfl ?_;(with_reducible refine(bB.calls k _ _ c _ _ d false _ ?s1 ?s2 ?s3 ?s4 A5.out).mono ?_);(case s1=>exact cb G.out);(case s2=>exact I.out);(case s3=>exact cb J.out);(case s4=>exact K.out);rintro e w' ⟨rfl,⟨nd,rfl⟩⟩;refine⟨_,rfl, ?_⟩))
    go_ret
    exact fin
  ·rw[if_neg c4]at H
   have b1:=beq_eq_false_iff_ne.mpr c4
   have b2:=bne_iff_ne.mpr c4
   obtain rfl:=Option.some.inj H;clear H
   go_enter Try.func45,Try.ntmps45
   go_wp2
   go_ret
   exact fin
 ·rw[if_neg c3]at H
  have bw:=beq_eq_false_iff_ne.mpr c3
  have b0:=bne_iff_ne.mpr c3
  obtain rfl:=Option.some.inj H;clear H
  go_enter Try.func45,Try.ntmps45
  go_wp2
  go_ret
  exact fin
def bz.T6:Bool×List (List Nat×List Nat):=(true, [([], []),([], []),([0,1], [0,1]),([2], [2]),([], []),([], []),([4,5], [4,5]),([6], [6]),([3,7], [3,7]),([8], [8])])
def bz.B6:List Nat:= [0,0,3,7,0,0,48,112,255,511]
theorem bz.tab6:ed .any (opsOf Try.f25 6)=bz.T6:=by kernel_rfl
theorem bz.bits6:eP bz.T6.2 bz.B6=true:=by kernel_rfl
set_option maxHeartbeats 8000000 in
set_option maxRecDepth 100000 in
theorem bz.calls (k:Nat) (A0:Option Addr) (c0:Nat) (l0:List (S50)) (A1:Option Addr) (c1:Nat) (l1:List (S50)) (r:Bool) (w:World) (hr0:Kd.C k50 w A0 l0.length l0) (hc0:l0.length≤c0) (hr1:Kd.C k50 w A1 l1.length l1) (hc1:l1.length≤c1) (h:bz.f k l0 l1=some r):
  Calls Try.prog 25 #[.slice A0 l0.length c0, .slice A1 l1.length c1] w fun e w' =>e= .returned (.bool r)∧Below w.heap.size w w' :=by
 have cj:=Try.underlying50
 have cc:=Aside0.mk hr0
 have cm:=Aside0.mk hc0
 clear hr0 hc0
 have HR1:=Aside0.mk hr1
 have cn:=Aside0.mk hc1
 clear hr1 hc1
 have HB:=Aside0.mk (Below.refl w.heap.size w)
 have H:(if(l0.length:Int)=(l1.length:Int)then(bz.l0 k l0 l1 0)else(some false))=some r:=h
 clear h
 by_cases c3:(l0.length:Int)=(l1.length:Int)
 ·rw [if_pos c3]at H
  have ce:=beq_iff_eq.mpr c3
  have cf:=bne_eq_false_iff_eq.mpr c3
  have cg:(l0.length==l1.length)=true:=by first|simpa using c3|(simp at c3⊢;omega)
  clear c3
  have H' :=Aside0.mk H
  clear H
  go_enter Try.func25,Try.ntmps25
  go_wp2
  go_loopg [5] k (fun kq v5 w' => ∃(a:Int),v5= .int .i64 a∧Aside0 (bz.l0 kq l0 l1 a=some r)∧Aside0 (kq≤k)∧Aside0 (Below w.heap.size w w'))
  case atStart=>exact⟨(0),(by first|rfl|(simp;done)|(simp[*];done)),H',⟨Nat.le_refl _⟩,⟨bl⟩⟩
  case round=>
   clear H'
   obtain⟨a,rfl,HA,cd,HB⟩:=hrel
   cases gk with
   |zero=>exact absurd HA.out (by simp[bz.l0])
   | succ k1=>
    have H:=HA.out
    clear HA
    simp only[bz.l0]at H
    by_cases c4:a<(l0.length:Int)
    ·rw [if_pos c4]at H
     have ch:decide (a<(l0.length:Int))=true:=decide_eq_true c4
     clear c4
     by_cases c5:0≤a
     ·rw[if_pos c5]at H
      have ck:decide (0≤a)=true:=decide_eq_true c5
      clear c5
      by_cases c6:a<(l1.length:Int)
      ·rw[if_pos c6]at H
       have cl:decide (a<(l1.length:Int))=true:=decide_eq_true c6
       clear c6
       obtain⟨ci,A7,H⟩:=ob H
       by_cases c8:ci=true
       ·subst c8
        replace H:=it H
        have H' :=Aside0.mk H
        clear H
        try go_wp2
        replace HB:=Aside0.mk (aW HB.out)
        have br:0≤(a:Int):=od
        have bs:a<(l0.length:Int):=od
        obtain⟨b,a5,a6,a7,a8,a9,ba,bb,bc,b9,d,g,j,l,m,o,p,q,ab,ac,ad,al,am,an,ao,ap⟩:=dx cc.out a br bs
        have s:=q
        have t:=p
        have u:=o
        have v:=m
        have x:=l
        have y:=j
        have z:=g
        have A:=d
        cases b9
        obtain⟨d,g,j,l,m,o,p,q⟩:=hc8 HB d g j l m o p q
        have aq:=Aside0.mk ac
        have b1:=Aside0.mk ab
        clear ac ab
        have ar:=Aside0.mk al
        have b2:=Aside0.mk ad
        clear al ad
        have aw:=Aside0.mk an
        have b3:=Aside0.mk am
        clear an am
        have aB:=Aside0.mk ap
        have b4:=Aside0.mk ao
        clear ap ao
        replace br:=eq_true br
        replace bs:=eq_true bs
        have bw:0≤(a:Int):=od
        have b0:a<(l1.length:Int):=od
        obtain⟨c,bd,be,bh,bj,bk,bm,bo,bp,ca,B,D,E,G,I,J,L,M,aE,aF,aL,aO,aP,aR,aS,a0⟩:=dx HR1.out a bw b0
        have O:=M
        have P:=L
        have T:=J
        have U:=I
        have W:=G
        have X:=E
        have Y:=D
        have Z:=B
        cases ca
        obtain⟨B,D,E,G,I,J,L,M⟩:=hc8 HB B D E G I J L M
        have a1:=Aside0.mk aF
        have b5:=Aside0.mk aE
        clear aF aE
        have a2:=Aside0.mk aO
        have b6:=Aside0.mk aL
        clear aO aL
        have a3:=Aside0.mk aR
        have b7:=Aside0.mk aP
        clear aR aP
        have a4:=Aside0.mk a0
        have b8:=Aside0.mk aS
        clear a0 aS
        replace bw:=eq_true bw
        replace b0:=eq_true b0
        refine dX (n:=10) (S:=fun w' =>w'.cell? (b.add ((a).toNat * 8))=some (.int .i64 ((aa l0 a).f0))∧w'.cell? ⟨(b.add ((a).toNat * 8)).block,(b.add ((a).toNat * 8)).off+1,none⟩=some (.int .i64 ((aa l0 a).f1))∧w'.cell? ⟨(b.add ((a).toNat * 8)).block,(b.add ((a).toNat * 8)).off+2,none⟩=some (.slice a5 ((aa l0 a).f2).length a6)∧w'.cell? ⟨(b.add ((a).toNat * 8)).block,(b.add ((a).toNat * 8)).off+3,none⟩=some (.int .i64 ((aa l0 a).f3))∧w'.cell? ⟨(b.add ((a).toNat * 8)).block,(b.add ((a).toNat * 8)).off+4,none⟩=some (.int .i64 ((aa l0 a).f4))∧w'.cell? ⟨(b.add ((a).toNat * 8)).block,(b.add ((a).toNat * 8)).off+5,none⟩=some (.slice a7 ((aa l0 a).f5).length a8)∧w'.cell? ⟨(b.add ((a).toNat * 8)).block,(b.add ((a).toNat * 8)).off+6,none⟩=some (.slice a9 ((aa l0 a).f6).length ba)∧w'.cell? ⟨(b.add ((a).toNat * 8)).block,(b.add ((a).toNat * 8)).off+7,none⟩=some (.slice bb ((aa l0 a).f7).length bc)∧w'.cell? (c.add ((a).toNat * 8))=some (.int .i64 ((aa l1 a).f0))∧w'.cell? ⟨(c.add ((a).toNat * 8)).block,(c.add ((a).toNat * 8)).off+1,none⟩=some (.int .i64 ((aa l1 a).f1))∧w'.cell? ⟨(c.add ((a).toNat * 8)).block,(c.add ((a).toNat * 8)).off+2,none⟩=some (.slice bd ((aa l1 a).f2).length be)∧w'.cell? ⟨(c.add ((a).toNat * 8)).block,(c.add ((a).toNat * 8)).off+3,none⟩=some (.int .i64 ((aa l1 a).f3))∧w'.cell? ⟨(c.add ((a).toNat * 8)).block,(c.add ((a).toNat * 8)).off+4,none⟩=some (.int .i64 ((aa l1 a).f4))∧w'.cell? ⟨(c.add ((a).toNat * 8)).block,(c.add ((a).toNat * 8)).off+5,none⟩=some (.slice bh ((aa l1 a).f5).length bj)∧w'.cell? ⟨(c.add ((a).toNat * 8)).block,(c.add ((a).toNat * 8)).off+6,none⟩=some (.slice bk ((aa l1 a).f6).length bm)∧w'.cell? ⟨(c.add ((a).toNat * 8)).block,(c.add ((a).toNat * 8)).off+7,none⟩=some (.slice bo ((aa l1 a).f7).length bp)) (ds:= []) #[false,false,false,false,false,false,false,false,false,false] (by kernel_rfl) rfl rfl ⟨((HB.out.cell (World.block_lt_of_cell? w _ A)).trans A),((HB.out.cell (World.block_lt_of_cell? w _ z)).trans z),((HB.out.cell (World.block_lt_of_cell? w _ y)).trans y),((HB.out.cell (World.block_lt_of_cell? w _ x)).trans x),((HB.out.cell (World.block_lt_of_cell? w _ v)).trans v),((HB.out.cell (World.block_lt_of_cell? w _ u)).trans u),((HB.out.cell (World.block_lt_of_cell? w _ t)).trans t),((HB.out.cell (World.block_lt_of_cell? w _ s)).trans s),((HB.out.cell (World.block_lt_of_cell? w _ Z)).trans Z),((HB.out.cell (World.block_lt_of_cell? w _ Y)).trans Y),((HB.out.cell (World.block_lt_of_cell? w _ X)).trans X),((HB.out.cell (World.block_lt_of_cell? w _ W)).trans W),((HB.out.cell (World.block_lt_of_cell? w _ U)).trans U),((HB.out.cell (World.block_lt_of_cell? w _ T)).trans T),((HB.out.cell (World.block_lt_of_cell? w _ P)).trans P),((HB.out.cell (World.block_lt_of_cell? w _ O)).trans O)⟩ (fun hHeld=> ?_);refine dH bz.tab6 bz.bits6 (fun HT_ HW_=> ?_)
        generalize wr.drew=w9 at HB aq ar aw aB a1 a2 a3 a4 d g j l m o p q B D E G I J L M hHeld⊢
        refine pu 0 17 #[true,false,false,false,false,false,false,false,false,false] HT_ rfl rfl ?_
        refine pu 1 18 #[true,true,false,false,false,false,false,false,false,false] HT_ rfl rfl ?_
        refine pu 2 19 #[true,true,true,false,false,false,false,false,false,false] HT_ rfl rfl ?_
        refine pu 4 21 #[true,true,true,false,true,false,false,false,false,false] HT_ rfl rfl ?_
        refine pu 5 22 #[true,true,true,false,true,true,false,false,false,false] HT_ rfl rfl ?_
        refine pu 6 23 #[true,true,true,false,true,true,true,false,false,false] HT_ rfl rfl ?_
        refine ta 3 20 #[true,true,true,true,true,true,true,false,false,false] HT_ HW_ hHeld rfl rfl ?_
        refine ta 7 24 #[true,true,true,true,true,true,true,true,false,false] HT_ HW_ hHeld rfl rfl ?_
        refine fo (i:=8) (N:=some 25) #[true,true,true,true,true,true,true,true,true,false] rfl rfl (dU HT_.out (by kernel_rfl)) (by decide) (fun K hK=> ?_)
        refine gs Try.func45 #[.agg #[.int .i64 ((aa l0 a).f0), .int .i64 ((aa l0 a).f1), .slice a5 ((aa l0 a).f2).length a6, .int .i64 ((aa l0 a).f3), .int .i64 ((aa l0 a).f4), .slice a7 ((aa l0 a).f5).length a8, .slice a9 ((aa l0 a).f6).length ba, .slice bb ((aa l0 a).f7).length bc], .agg #[.int .i64 ((aa l1 a).f0), .int .i64 ((aa l1 a).f1), .slice bd ((aa l1 a).f2).length be, .int .i64 ((aa l1 a).f3), .int .i64 ((aa l1 a).f4), .slice bh ((aa l1 a).f5).length bj, .slice bk ((aa l1 a).f6).length bm, .slice bo ((aa l1 a).f7).length bp]] rfl rfl ?_
        with_reducible refine(fU.calls k1 ((aa l0 a).f0) ((aa l0 a).f1) _ _ ((aa l0 a).f2) ((aa l0 a).f3) ((aa l0 a).f4) _ _ ((aa l0 a).f5) _ _ ((aa l0 a).f6) _ _ ((aa l0 a).f7) ((aa l1 a).f0) ((aa l1 a).f1) _ _ ((aa l1 a).f2) ((aa l1 a).f3) ((aa l1 a).f4) _ _ ((aa l1 a).f5) _ _ ((aa l1 a).f6) _ _ ((aa l1 a).f7) true _ ?s1 ?s2 ?s3 ?s4 ?s5 ?s6 ?s7 ?s8 ?s9 ?s10 ?s11 ?s12 ?s13 ?s14 ?s15 ?s16 A7.out).mono ?_
        (case s1=>exact cb aq.out)
        (case s2=>exact b1.out)
        (case s3=>exact cb ar.out)
        (case s4=>exact b2.out)
        (case s5=>exact cb aw.out)
        (case s6=>exact b3.out)
        (case s7=>exact cb aB.out)
        (case s8=>exact b4.out)
        (case s9=>exact cb a1.out)
        (case s10=>exact b5.out)
        (case s11=>exact cb a2.out)
        (case s12=>exact b6.out)
        (case s13=>exact cb a3.out)
        (case s14=>exact b7.out)
        (case s15=>exact cb a4.out)
        (case s16=>exact b8.out)
        rintro e co ⟨rfl,hb⟩
        refine⟨_,rfl, ?_⟩
        replace HB:=hs HB hb
        (try clear hb)
        (try clear hb2)
        (try clear hk)
        (try clear hi)
        refine hK.out _ _ ⟨((HB.out.cell (World.block_lt_of_cell? w _ A)).trans A),((HB.out.cell (World.block_lt_of_cell? w _ z)).trans z),((HB.out.cell (World.block_lt_of_cell? w _ y)).trans y),((HB.out.cell (World.block_lt_of_cell? w _ x)).trans x),((HB.out.cell (World.block_lt_of_cell? w _ v)).trans v),((HB.out.cell (World.block_lt_of_cell? w _ u)).trans u),((HB.out.cell (World.block_lt_of_cell? w _ t)).trans t),((HB.out.cell (World.block_lt_of_cell? w _ s)).trans s),((HB.out.cell (World.block_lt_of_cell? w _ Z)).trans Z),((HB.out.cell (World.block_lt_of_cell? w _ Y)).trans Y),((HB.out.cell (World.block_lt_of_cell? w _ X)).trans X),((HB.out.cell (World.block_lt_of_cell? w _ W)).trans W),((HB.out.cell (World.block_lt_of_cell? w _ U)).trans U),((HB.out.cell (World.block_lt_of_cell? w _ T)).trans T),((HB.out.cell (World.block_lt_of_cell? w _ P)).trans P),((HB.out.cell (World.block_lt_of_cell? w _ O)).trans O)⟩ (fun hHeld=> ?_)
        clear hK K
        refine no 25 ?_
        refine pu 9 26 #[true,true,true,true,true,true,true,true,true,true] HT_ rfl rfl ?_
        refine eT (dR HT_.out (by kernel_rfl)) ?_
        try go_wp2
        go_roundg k1
        case measure=>have:=cd.out;omega
        case rel=>exact⟨(wrap64 (a+1)),(by first|rfl|(simp;done)|(simp[*];done)),H',⟨by have:=cd.out;omega⟩,⟨bl⟩⟩
       ·replace c8:=Bool.eq_false_iff.mpr c8
        subst c8
        replace H:=ie H
        obtain rfl:=Option.some.inj H;clear H
        try go_wp2
        replace HB:=Aside0.mk (aW HB.out)
        have br:0≤(a:Int):=od
        have bs:a<(l0.length:Int):=od
        obtain⟨b,a5,a6,a7,a8,a9,ba,bb,bc,b9,d,g,j,l,m,o,p,q,ab,ac,ad,al,am,an,ao,ap⟩:=dx cc.out a br bs
        have s:=q
        have t:=p
        have u:=o
        have v:=m
        have x:=l
        have y:=j
        have z:=g
        have A:=d
        cases b9
        obtain⟨d,g,j,l,m,o,p,q⟩:=hc8 HB d g j l m o p q
        have aq:=Aside0.mk ac
        have b1:=Aside0.mk ab
        clear ac ab
        have ar:=Aside0.mk al
        have b2:=Aside0.mk ad
        clear al ad
        have aw:=Aside0.mk an
        have b3:=Aside0.mk am
        clear an am
        have aB:=Aside0.mk ap
        have b4:=Aside0.mk ao
        clear ap ao
        replace br:=eq_true br
        replace bs:=eq_true bs
        have bw:0≤(a:Int):=od
        have b0:a<(l1.length:Int):=od
        obtain⟨c,bd,be,bh,bj,bk,bm,bo,bp,ca,B,D,E,G,I,J,L,M,aE,aF,aL,aO,aP,aR,aS,a0⟩:=dx HR1.out a bw b0
        have O:=M
        have P:=L
        have T:=J
        have U:=I
        have W:=G
        have X:=E
        have Y:=D
        have Z:=B
        cases ca
        obtain⟨B,D,E,G,I,J,L,M⟩:=hc8 HB B D E G I J L M
        have a1:=Aside0.mk aF
        have b5:=Aside0.mk aE
        clear aF aE
        have a2:=Aside0.mk aO
        have b6:=Aside0.mk aL
        clear aO aL
        have a3:=Aside0.mk aR
        have b7:=Aside0.mk aP
        clear aR aP
        have a4:=Aside0.mk a0
        have b8:=Aside0.mk aS
        clear a0 aS
        replace bw:=eq_true bw
        replace b0:=eq_true b0
        refine dX (n:=10) (S:=fun w' =>w'.cell? (b.add ((a).toNat * 8))=some (.int .i64 ((aa l0 a).f0))∧w'.cell? ⟨(b.add ((a).toNat * 8)).block,(b.add ((a).toNat * 8)).off+1,none⟩=some (.int .i64 ((aa l0 a).f1))∧w'.cell? ⟨(b.add ((a).toNat * 8)).block,(b.add ((a).toNat * 8)).off+2,none⟩=some (.slice a5 ((aa l0 a).f2).length a6)∧w'.cell? ⟨(b.add ((a).toNat * 8)).block,(b.add ((a).toNat * 8)).off+3,none⟩=some (.int .i64 ((aa l0 a).f3))∧w'.cell? ⟨(b.add ((a).toNat * 8)).block,(b.add ((a).toNat * 8)).off+4,none⟩=some (.int .i64 ((aa l0 a).f4))∧w'.cell? ⟨(b.add ((a).toNat * 8)).block,(b.add ((a).toNat * 8)).off+5,none⟩=some (.slice a7 ((aa l0 a).f5).length a8)∧w'.cell? ⟨(b.add ((a).toNat * 8)).block,(b.add ((a).toNat * 8)).off+6,none⟩=some (.slice a9 ((aa l0 a).f6).length ba)∧w'.cell? ⟨(b.add ((a).toNat * 8)).block,(b.add ((a).toNat * 8)).off+7,none⟩=some (.slice bb ((aa l0 a).f7).length bc)∧w'.cell? (c.add ((a).toNat * 8))=some (.int .i64 ((aa l1 a).f0))∧w'.cell? ⟨(c.add ((a).toNat * 8)).block,(c.add ((a).toNat * 8)).off+1,none⟩=some (.int .i64 ((aa l1 a).f1))∧w'.cell? ⟨(c.add ((a).toNat * 8)).block,(c.add ((a).toNat * 8)).off+2,none⟩=some (.slice bd ((aa l1 a).f2).length be)∧w'.cell? ⟨(c.add ((a).toNat * 8)).block,(c.add ((a).toNat * 8)).off+3,none⟩=some (.int .i64 ((aa l1 a).f3))∧w'.cell? ⟨(c.add ((a).toNat * 8)).block,(c.add ((a).toNat * 8)).off+4,none⟩=some (.int .i64 ((aa l1 a).f4))∧w'.cell? ⟨(c.add ((a).toNat * 8)).block,(c.add ((a).toNat * 8)).off+5,none⟩=some (.slice bh ((aa l1 a).f5).length bj)∧w'.cell? ⟨(c.add ((a).toNat * 8)).block,(c.add ((a).toNat * 8)).off+6,none⟩=some (.slice bk ((aa l1 a).f6).length bm)∧w'.cell? ⟨(c.add ((a).toNat * 8)).block,(c.add ((a).toNat * 8)).off+7,none⟩=some (.slice bo ((aa l1 a).f7).length bp)) (ds:= []) #[false,false,false,false,false,false,false,false,false,false] (by kernel_rfl) rfl rfl ⟨((HB.out.cell (World.block_lt_of_cell? w _ A)).trans A),((HB.out.cell (World.block_lt_of_cell? w _ z)).trans z),((HB.out.cell (World.block_lt_of_cell? w _ y)).trans y),((HB.out.cell (World.block_lt_of_cell? w _ x)).trans x),((HB.out.cell (World.block_lt_of_cell? w _ v)).trans v),((HB.out.cell (World.block_lt_of_cell? w _ u)).trans u),((HB.out.cell (World.block_lt_of_cell? w _ t)).trans t),((HB.out.cell (World.block_lt_of_cell? w _ s)).trans s),((HB.out.cell (World.block_lt_of_cell? w _ Z)).trans Z),((HB.out.cell (World.block_lt_of_cell? w _ Y)).trans Y),((HB.out.cell (World.block_lt_of_cell? w _ X)).trans X),((HB.out.cell (World.block_lt_of_cell? w _ W)).trans W),((HB.out.cell (World.block_lt_of_cell? w _ U)).trans U),((HB.out.cell (World.block_lt_of_cell? w _ T)).trans T),((HB.out.cell (World.block_lt_of_cell? w _ P)).trans P),((HB.out.cell (World.block_lt_of_cell? w _ O)).trans O)⟩ (fun hHeld=> ?_);refine dH bz.tab6 bz.bits6 (fun HT_ HW_=> ?_)
        generalize wr.drew=cp at HB aq ar aw aB a1 a2 a3 a4 d g j l m o p q B D E G I J L M hHeld⊢
        refine pu 0 17 #[true,false,false,false,false,false,false,false,false,false] HT_ rfl rfl ?_
        refine pu 1 18 #[true,true,false,false,false,false,false,false,false,false] HT_ rfl rfl ?_
        refine pu 2 19 #[true,true,true,false,false,false,false,false,false,false] HT_ rfl rfl ?_
        refine pu 4 21 #[true,true,true,false,true,false,false,false,false,false] HT_ rfl rfl ?_
        refine pu 5 22 #[true,true,true,false,true,true,false,false,false,false] HT_ rfl rfl ?_
        refine pu 6 23 #[true,true,true,false,true,true,true,false,false,false] HT_ rfl rfl ?_
        refine ta 3 20 #[true,true,true,true,true,true,true,false,false,false] HT_ HW_ hHeld rfl rfl ?_
        refine ta 7 24 #[true,true,true,true,true,true,true,true,false,false] HT_ HW_ hHeld rfl rfl ?_
        refine fo (i:=8) (N:=some 25) #[true,true,true,true,true,true,true,true,true,false] rfl rfl (dU HT_.out (by kernel_rfl)) (by decide) (fun K hK=> ?_)
        refine gs Try.func45 #[.agg #[.int .i64 ((aa l0 a).f0), .int .i64 ((aa l0 a).f1), .slice a5 ((aa l0 a).f2).length a6, .int .i64 ((aa l0 a).f3), .int .i64 ((aa l0 a).f4), .slice a7 ((aa l0 a).f5).length a8, .slice a9 ((aa l0 a).f6).length ba, .slice bb ((aa l0 a).f7).length bc], .agg #[.int .i64 ((aa l1 a).f0), .int .i64 ((aa l1 a).f1), .slice bd ((aa l1 a).f2).length be, .int .i64 ((aa l1 a).f3), .int .i64 ((aa l1 a).f4), .slice bh ((aa l1 a).f5).length bj, .slice bk ((aa l1 a).f6).length bm, .slice bo ((aa l1 a).f7).length bp]] rfl rfl ?_
        with_reducible refine(fU.calls k1 ((aa l0 a).f0) ((aa l0 a).f1) _ _ ((aa l0 a).f2) ((aa l0 a).f3) ((aa l0 a).f4) _ _ ((aa l0 a).f5) _ _ ((aa l0 a).f6) _ _ ((aa l0 a).f7) ((aa l1 a).f0) ((aa l1 a).f1) _ _ ((aa l1 a).f2) ((aa l1 a).f3) ((aa l1 a).f4) _ _ ((aa l1 a).f5) _ _ ((aa l1 a).f6) _ _ ((aa l1 a).f7) false _ ?s1 ?s2 ?s3 ?s4 ?s5 ?s6 ?s7 ?s8 ?s9 ?s10 ?s11 ?s12 ?s13 ?s14 ?s15 ?s16 A7.out).mono ?_
        (case s1=>exact cb aq.out)
        (case s2=>exact b1.out)
        (case s3=>exact cb ar.out)
        (case s4=>exact b2.out)
        (case s5=>exact cb aw.out)
        (case s6=>exact b3.out)
        (case s7=>exact cb aB.out)
        (case s8=>exact b4.out)
        (case s9=>exact cb a1.out)
        (case s10=>exact b5.out)
        (case s11=>exact cb a2.out)
        (case s12=>exact b6.out)
        (case s13=>exact cb a3.out)
        (case s14=>exact b7.out)
        (case s15=>exact cb a4.out)
        (case s16=>exact b8.out)
        rintro e cq ⟨rfl,hb⟩
        refine⟨_,rfl, ?_⟩
        replace HB:=hs HB hb
        (try clear hb)
        (try clear hb2)
        (try clear hk)
        (try clear hi)
        refine hK.out _ _ ⟨((HB.out.cell (World.block_lt_of_cell? w _ A)).trans A),((HB.out.cell (World.block_lt_of_cell? w _ z)).trans z),((HB.out.cell (World.block_lt_of_cell? w _ y)).trans y),((HB.out.cell (World.block_lt_of_cell? w _ x)).trans x),((HB.out.cell (World.block_lt_of_cell? w _ v)).trans v),((HB.out.cell (World.block_lt_of_cell? w _ u)).trans u),((HB.out.cell (World.block_lt_of_cell? w _ t)).trans t),((HB.out.cell (World.block_lt_of_cell? w _ s)).trans s),((HB.out.cell (World.block_lt_of_cell? w _ Z)).trans Z),((HB.out.cell (World.block_lt_of_cell? w _ Y)).trans Y),((HB.out.cell (World.block_lt_of_cell? w _ X)).trans X),((HB.out.cell (World.block_lt_of_cell? w _ W)).trans W),((HB.out.cell (World.block_lt_of_cell? w _ U)).trans U),((HB.out.cell (World.block_lt_of_cell? w _ T)).trans T),((HB.out.cell (World.block_lt_of_cell? w _ P)).trans P),((HB.out.cell (World.block_lt_of_cell? w _ O)).trans O)⟩ (fun hHeld=> ?_)
        clear hK K
        refine no 25 ?_
        refine pu 9 26 #[true,true,true,true,true,true,true,true,true,true] HT_ rfl rfl ?_
        refine eT (dR HT_.out (by kernel_rfl)) ?_
        try go_wp2
        go_ret
        exact fin
      ·rw[if_neg c6]at H
       exact absurd H (by simp)
     ·rw[if_neg c5]at H
      exact absurd H (by simp)
    ·rw[if_neg c4]at H
     have ch:decide (a<(l0.length:Int))=false:=decide_eq_false c4
     clear c4
     obtain rfl:=Option.some.inj H;clear H
     go_wp2
     go_ret
     exact fin
 ·rw[if_neg c3]at H
  have ce:=beq_eq_false_iff_ne.mpr c3
  have cf:=bne_iff_ne.mpr c3
  have cg:(l0.length==l1.length)=false:=by first|simpa using c3|(simp at c3⊢;omega)
  obtain rfl:=Option.some.inj H;clear H
  go_enter Try.func25,Try.ntmps25
  go_wp2
  go_ret
  exact fin
set_option maxHeartbeats 8000000 in
set_option maxRecDepth 100000 in
theorem eu.calls (k:Nat) (m:Option Addr) (n:Nat) (c:List (S71)) (q:Option Addr) (s:Nat) (g:List (S50)) (o:Option Addr) (p:Nat) (d:List (S71)) (t:Option Addr) (u:Nat) (i:List (S50)) (r:Bool) (w:World) (D:Kd.C k71 w m c.length c) (E:c.length≤n) (G:Kd.C k50 w q g.length g) (I:g.length≤s) (J:Kd.C k71 w o d.length d) (K:d.length≤p) (L:Kd.C k50 w t i.length i) (M:i.length≤u) (h:eu.f k c g d i=some r):
  Calls Try.prog 9 #[.agg #[.slice m c.length n, .slice q g.length s], .agg #[.slice o d.length p, .slice t i.length u]] w fun e w' =>e= .returned (.bool r)∧Below w.heap.size w w' :=by
 have ao:=Try.underlying34
 have v:=Aside0.mk D
 have x:=Aside0.mk E
 clear D E
 have O:=Aside0.mk G
 have P:=Aside0.mk I
 clear G I
 have y:=Aside0.mk J
 have z:=Aside0.mk K
 clear J K
 have T:=Aside0.mk L
 have U:=Aside0.mk M
 clear L M
 have HB:=Aside0.mk (Below.refl w.heap.size w)
 have H:((bC.f k c d).bind fun A=>(if A=true then((bz.f k g i).bind fun B=>(if B=true then(some true)else(some false)))else(some false)))=some r:=h
 clear h
 obtain⟨A,A3,H⟩:=ob H
 by_cases c4:A=true
 ·subst c4
  replace H:=it H
  obtain⟨B,A5,H⟩:=ob H
  by_cases c6:B=true
  ·subst c6
   replace H:=it H
   obtain rfl:=Option.some.inj H;clear H
   go_enter Try.func9,Try.ntmps9
   go_wp2_with (first|((with_reducible refine gd 2 rfl ?_);refine bx 2 #[.slice m c.length n, .slice q g.length s] 34 ?_;intro W hg w7 hbox hb;have a:=Aside0.mk hbox;have X:=hz HB hg;have Y:=hz HB hg;replace HB:=hs HB hb;clear hb hbox hg)|((with_reducible refine gd 3 rfl ?_);refine bx 3 #[.slice o d.length p, .slice t i.length u] 34 ?_;intro Z hg w8 hbox hb;have b:=Aside0.mk hbox;have ab:=hz HB hg;have ac:=hz HB hg;have j:=nl a hg;have l:=ng a hg;replace a:=kb a hb;replace HB:=hs HB hb;clear hb hbox hg;have ap:=j.out;have aq:=l.out;obtain⟨_,_,_,_⟩:=cf2 a;obtain⟨_,_,_,_⟩:=cf2 b)|((with_reducible refine gc 24 rfl ?_);refine gl (some 9) Try.func24 #[.slice m c.length n, .slice o d.length p] rfl ?_;(with_reducible refine(bC.calls k _ _ c _ _ d true _ ?s1 ?s2 ?s3 ?s4 A3.out).mono ?_);(case s1=>exact cb v.out);(case s2=>exact x.out);(case s3=>exact cb y.out);(case s4=>exact z.out);rintro e ar ⟨rfl,hb⟩;refine⟨_,rfl, ?_⟩;replace a:=kb a hb;replace b:=kb b hb;replace HB:=hs HB hb;(try clear hb);obtain⟨_,_,_,_⟩:=cf2 a;obtain⟨_,_,_,_⟩:=cf2 b)|((with_reducible refine gc 25 rfl ?_);refine gl (some 15) Try.func25 #[.slice q g.length s, .slice t i.length u] rfl ?_;(with_reducible refine(bz.calls k _ _ g _ _ i true _ ?s1 ?s2 ?s3 ?s4 A5.out).mono ?_);(case s1=>exact cb O.out);(case s2=>exact P.out);(case s3=>exact cb T.out);(case s4=>exact U.out);rintro e aw ⟨rfl,hb⟩;refine⟨_,rfl, ?_⟩;replace a:=kb a hb;replace b:=kb b hb;replace HB:=hs HB hb;(try clear hb)))
   go_ret
   exact fin
  ·replace c6:=Bool.eq_false_iff.mpr c6
   subst c6
   replace H:=ie H
   obtain rfl:=Option.some.inj H;clear H
   go_enter Try.func9,Try.ntmps9
   go_wp2_with (first|((with_reducible refine gd 2 rfl ?_);refine bx 2 #[.slice m c.length n, .slice q g.length s] 34 ?_;intro W hg w16 hbox hb;have a:=Aside0.mk hbox;have X:=hz HB hg;have Y:=hz HB hg;replace HB:=hs HB hb;clear hb hbox hg)|((with_reducible refine gd 3 rfl ?_);refine bx 3 #[.slice o d.length p, .slice t i.length u] 34 ?_;intro Z hg aB hbox hb;have b:=Aside0.mk hbox;have ab:=hz HB hg;have ac:=hz HB hg;have j:=nl a hg;have l:=ng a hg;replace a:=kb a hb;replace HB:=hs HB hb;clear hb hbox hg;have ad:=j.out;have al:=l.out;obtain⟨_,_,_,_⟩:=cf2 a;obtain⟨_,_,_,_⟩:=cf2 b)|((with_reducible refine gc 24 rfl ?_);refine gl (some 9) Try.func24 #[.slice m c.length n, .slice o d.length p] rfl ?_;(with_reducible refine(bC.calls k _ _ c _ _ d true _ ?s1 ?s2 ?s3 ?s4 A3.out).mono ?_);(case s1=>exact cb v.out);(case s2=>exact x.out);(case s3=>exact cb y.out);(case s4=>exact z.out);rintro e aE ⟨rfl,hb⟩;refine⟨_,rfl, ?_⟩;replace a:=kb a hb;replace b:=kb b hb;replace HB:=hs HB hb;(try clear hb);obtain⟨_,_,_,_⟩:=cf2 a;obtain⟨_,_,_,_⟩:=cf2 b)|((with_reducible refine gc 25 rfl ?_);refine gl (some 15) Try.func25 #[.slice q g.length s, .slice t i.length u] rfl ?_;(with_reducible refine(bz.calls k _ _ g _ _ i false _ ?s1 ?s2 ?s3 ?s4 A5.out).mono ?_);(case s1=>exact cb O.out);(case s2=>exact P.out);(case s3=>exact cb T.out);(case s4=>exact U.out);rintro e aF ⟨rfl,hb⟩;refine⟨_,rfl, ?_⟩;replace a:=kb a hb;replace b:=kb b hb;replace HB:=hs HB hb;(try clear hb)))
   go_ret
   exact fin
 ·replace c4:=Bool.eq_false_iff.mpr c4
  subst c4
  replace H:=ie H
  obtain rfl:=Option.some.inj H;clear H
  go_enter Try.func9,Try.ntmps9
  go_wp2_with (first|((with_reducible refine gd 2 rfl ?_);refine bx 2 #[.slice m c.length n, .slice q g.length s] 34 ?_;intro W hg aL hbox hb;have a:=Aside0.mk hbox;have X:=hz HB hg;have Y:=hz HB hg;replace HB:=hs HB hb;clear hb hbox hg)|((with_reducible refine gd 3 rfl ?_);refine bx 3 #[.slice o d.length p, .slice t i.length u] 34 ?_;intro Z hg aO hbox hb;have b:=Aside0.mk hbox;have ab:=hz HB hg;have ac:=hz HB hg;have j:=nl a hg;have l:=ng a hg;replace a:=kb a hb;replace HB:=hs HB hb;clear hb hbox hg;have am:=j.out;have an:=l.out;obtain⟨_,_,_,_⟩:=cf2 a;obtain⟨_,_,_,_⟩:=cf2 b)|((with_reducible refine gc 24 rfl ?_);refine gl (some 9) Try.func24 #[.slice m c.length n, .slice o d.length p] rfl ?_;(with_reducible refine(bC.calls k _ _ c _ _ d false _ ?s1 ?s2 ?s3 ?s4 A3.out).mono ?_);(case s1=>exact cb v.out);(case s2=>exact x.out);(case s3=>exact cb y.out);(case s4=>exact z.out);rintro e aP ⟨rfl,hb⟩;refine⟨_,rfl, ?_⟩;replace a:=kb a hb;replace b:=kb b hb;replace HB:=hs HB hb;(try clear hb)))
  go_ret
  exact fin
end Go.Proofs.Yteinbmkgenhocaa.P
end
section
namespace Go.Proofs.Yteinbmkgenhocaa.P
open Go Go.RowKit Go.Proofs.YteinbmkgenhocaaW.PrintWords Go.Proofs.YteinbmkgenhocaaW.PrintLast Go.Proofs.YteinbmkgenhocaaW.PrintMore
set_option linter.unusedVariables false
set_option linter.unusedSimpArgs false
theorem lh (l:List Int):iU l=l.length:=by
  induction l with
  |nil=>rfl
  |cons x l ih=>show 1+iU l=l.length+1;omega
theorem jP (l:List S97):kF l=3 * l.length:=by
  induction l with
  |nil=>rfl
  |cons x l ih=>show 3+kF l=3 * (l.length+1);omega
theorem jQ (l:List S102):kG l=4 * l.length:=by
  induction l with
  |nil=>rfl
  |cons x l ih=>show 4+kG l=4 * (l.length+1);omega
set_option maxHeartbeats 8000000 in
set_option maxRecDepth 100000 in
theorem jR (P:Nat→Prop) (n:Nat) (a:Int) (w:World) (v:Value) (h:jF P w n v):Calls Try.prog 28 #[v, .int .i64 a] w fun e w' =>e= .returned (.int .i64 (adv a (n)))∧Sc P w w' :=by
  obtain⟨A,cap,rfl,hle,hrow⟩:=id h
  have HF:=Aside0.mk h
  have HL:=Aside0.mk hle
  clear h hrow hle
  go_enter Try.func28,Try.ntmps28
  go_wp2
  go_loopg [1,5] (n) (fun kq v1 v5 w' => ∃(x1 x5:Int),v1= .int .i64 x1∧v5= .int .i64 x5∧Aside0 (0≤x5∧x5+(kq:Int)=(n:Int))∧Aside0 (adv x1 (n - x5.toNat)=adv a (n))∧Aside0 (Sc P w w'))
  case atStart=>exact⟨a,0,rfl,rfl,⟨by omega,by omega⟩,⟨by simp⟩,⟨Sc.refl P w⟩⟩
  case round=>
    obtain⟨x1,x5,rfl,rfl,HI,HA,HS⟩:=hrel
    have HI:=HI
    by_cases c3:x5<(n:Int)
    · have c4:0≤x5:=HI.out.1
      obtain⟨A',cap',e',_,hh⟩:=HF.out
      cases e'
      rcases hh with h0|⟨g,rfl,hP,_,_⟩
      ·exfalso;omega
      cases gk with
      |zero=>exfalso;have:=HI.out.2;omega
      |succ k1=>
      have HP:=Aside0.mk hP
      clear hP
      have C3:=Aside0.mk c3
      have C4:=Aside0.mk c4
      have b:decide (x5<(n:Int))=true:=decide_eq_true c3
      have d:decide (0≤x5)=true:=decide_eq_true c4
      replace c3:=eq_true c3
      replace c4:=eq_true c4
      obtain⟨⟨cs,hcs⟩,⟨a0,h0⟩⟩:=dM.at (oH P) HF.out HS.out C4.out C3.out;rw[Nat.mul_one]at h0;have f0:=ay hcs ((x5:Int).toNat)
      go_wp2_with (first|((with_reducible refine dE (t:=3) (p:=15) rfl ?_);refine dw (t:=3) (p:=15) (v:= ?vo_w101) (w1:=(wr.setCell ⟨g,(x5:Int).toNat,none⟩ (.int .i64 x1))) ?hg ?ho ?hn ?hr ?_;(case ho=>rfl);(case hg=>rfl);(case hn=>rfl);(case hr=>first|(go_simp;done)|(go_simp;rfl));intro c hw;have hS_:Sc P wr c:=(by rw[hw];exact Sc.set hcs h0 (.inr (.inl ⟨_,_,rfl,rfl⟩)) HP.out);clear hw;replace HS:=Aside0.mk (HS.out.trans hS_);clear hS_ h0 hcs f0;obtain⟨⟨cs,hcs⟩,⟨a0,h0⟩⟩:=dM.at (oH P) HF.out HS.out C4.out C3.out;rw[Nat.mul_one]at h0;have f0:=ay hcs ((x5:Int).toNat)))
      go_roundg k1
      case measure=>omega
      case rel=>
        have hw:wrap64 (x5+1)=x5+1:=by have:=C3.out;have:=C4.out;have:=HL.out;unfold wrap64;omega
        refine⟨wrap64 (x1+1),x5+1,rfl,(by rw[hw]),⟨by have:=C4.out;omega,by have:=HI.out.2;omega⟩,⟨?_⟩,HS⟩
        rw[←HA.out]
        simp only[jf,←iT]
        congr 1
        rw[show(x5+1).toNat=x5.toNat+1 by have:=C4.out;omega]
        have:=C3.out;have:=C4.out;omega
    · have b:decide (x5<(n:Int))=false:=decide_eq_false c3
      have hx:x5.toNat=n:=by have:=HI.out;omega
      go_wp2
      go_ret
      refine⟨?_,HS.out⟩
      rw[←HA.out,hx]
      simp[adv]
set_option maxHeartbeats 8000000 in
set_option maxRecDepth 100000 in
theorem qK (P:Nat→Prop) (n:Nat) (a:Int) (w:World) (v:Value) (h:kZ P w n v):Calls Try.prog 46 #[v, .int .i64 a] w fun e w' =>e= .returned (.int .i64 (adv a (3 * n)))∧Sc P w w' :=by
  obtain⟨A,cap,rfl,hle,hrow⟩:=id h
  have HF:=Aside0.mk h
  have HL:=Aside0.mk hle
  clear h hrow hle
  go_enter Try.func46,Try.ntmps46
  go_wp2
  go_loopg [1,5] (n) (fun kq v1 v5 w' => ∃(x1 x5:Int),v1= .int .i64 x1∧v5= .int .i64 x5∧Aside0 (0≤x5∧x5+(kq:Int)=(n:Int))∧Aside0 (adv x1 (3 * (n - x5.toNat))=adv a (3 * n))∧Aside0 (Sc P w w'))
  case atStart=>exact⟨a,0,rfl,rfl,⟨by omega,by omega⟩,⟨by simp⟩,⟨Sc.refl P w⟩⟩
  case round=>
    obtain⟨x1,x5,rfl,rfl,HI,HA,HS⟩:=hrel
    have HI:=HI
    by_cases c3:x5<(n:Int)
    · have c4:0≤x5:=HI.out.1
      obtain⟨A',cap',e',_,hh⟩:=HF.out
      cases e'
      rcases hh with h0|⟨g,rfl,hP,_,_⟩
      ·exfalso;omega
      cases gk with
      |zero=>exfalso;have:=HI.out.2;omega
      |succ k1=>
      have HP:=Aside0.mk hP
      clear hP
      have C3:=Aside0.mk c3
      have C4:=Aside0.mk c4
      have d:decide (x5<(n:Int))=true:=decide_eq_true c3
      have j:decide (0≤x5)=true:=decide_eq_true c4
      replace c3:=eq_true c3
      replace c4:=eq_true c4
      obtain⟨⟨cs,hcs⟩,⟨⟨a0,h0⟩,⟨a1,h1⟩,⟨a2,h2⟩⟩⟩:=dM.at (lC P) HF.out HS.out C4.out C3.out;have f0:=ay hcs ((x5:Int).toNat * 3);have f1:=ay hcs ((x5:Int).toNat * 3+1);have f2:=ay hcs ((x5:Int).toNat * 3+2)
      go_wp2_with (first|((with_reducible refine dE (t:=3) (p:=16) rfl ?_);refine dw (t:=3) (p:=16) (v:= ?vo_w101) (w1:=(wr.setCell ⟨g,(x5:Int).toNat * 3,none⟩ (.int .i64 x1))) ?hg ?ho ?hn ?hr ?_;(case ho=>rfl);(case hg=>rfl);(case hn=>rfl);(case hr=>first|(go_simp;done)|(go_simp;rfl));intro b hw;have hS_:Sc P wr b:=(by rw[hw];exact Sc.set hcs h0 (.inr (.inl ⟨_,_,rfl,rfl⟩)) HP.out);clear hw;replace HS:=Aside0.mk (HS.out.trans hS_);clear hS_ h0 h1 h2 hcs f0 f1 f2;obtain⟨⟨cs,hcs⟩,⟨⟨a0,h0⟩,⟨a1,h1⟩,⟨a2,h2⟩⟩⟩:=dM.at (lC P) HF.out HS.out C4.out C3.out;have f0:=ay hcs ((x5:Int).toNat * 3);have f1:=ay hcs ((x5:Int).toNat * 3+1);have f2:=ay hcs ((x5:Int).toNat * 3+2))|((with_reducible refine dE (t:=3) (p:=23) rfl ?_);refine dw (t:=3) (p:=23) (v:= ?vo_w102) (w1:=(b.setCell ⟨g,(x5:Int).toNat * 3+1,none⟩ (.int .i64 (wrap64 (x1+1))))) ?hg ?ho ?hn ?hr ?_;(case ho=>rfl);(case hg=>rfl);(case hn=>rfl);(case hr=>first|(go_simp;done)|(go_simp;rfl));intro c hw;have hS_:Sc P b c:=(by rw[hw];exact Sc.set hcs h1 (.inr (.inl ⟨_,_,rfl,rfl⟩)) HP.out);clear hw;replace HS:=Aside0.mk (HS.out.trans hS_);clear hS_ h0 h1 h2 hcs f0 f1 f2;obtain⟨⟨cs,hcs⟩,⟨⟨a0,h0⟩,⟨a1,h1⟩,⟨a2,h2⟩⟩⟩:=dM.at (lC P) HF.out HS.out C4.out C3.out;have f0:=ay hcs ((x5:Int).toNat * 3);have f1:=ay hcs ((x5:Int).toNat * 3+1);have f2:=ay hcs ((x5:Int).toNat * 3+2))|((with_reducible refine dE (t:=3) (p:=30) rfl ?_);refine dw (t:=3) (p:=30) (v:= ?vo_w103) (w1:=(c.setCell ⟨g,(x5:Int).toNat * 3+2,none⟩ (.int .i64 (wrap64 ((wrap64 (x1+1))+1))))) ?hg ?ho ?hn ?hr ?_;(case ho=>rfl);(case hg=>rfl);(case hn=>rfl);(case hr=>first|(go_simp;done)|(go_simp;rfl));intro i hw;have hS_:Sc P c i:=(by rw[hw];exact Sc.set hcs h2 (.inr (.inl ⟨_,_,rfl,rfl⟩)) HP.out);clear hw;replace HS:=Aside0.mk (HS.out.trans hS_);clear hS_ h0 h1 h2 hcs f0 f1 f2;obtain⟨⟨cs,hcs⟩,⟨⟨a0,h0⟩,⟨a1,h1⟩,⟨a2,h2⟩⟩⟩:=dM.at (lC P) HF.out HS.out C4.out C3.out;have f0:=ay hcs ((x5:Int).toNat * 3);have f1:=ay hcs ((x5:Int).toNat * 3+1);have f2:=ay hcs ((x5:Int).toNat * 3+2)))
      go_roundg k1
      case measure=>omega
      case rel=>
        have hw:wrap64 (x5+1)=x5+1:=by have:=C3.out;have:=C4.out;have:=HL.out;unfold wrap64;omega
        refine⟨wrap64 ((wrap64 ((wrap64 (x1+1))+1))+1),x5+1,rfl,(by rw[hw]),⟨by have:=C4.out;omega,by have:=HI.out.2;omega⟩,⟨?_⟩,HS⟩
        rw[←HA.out]
        simp only[jf,←iT]
        congr 1
        rw[show(x5+1).toNat=x5.toNat+1 by have:=C4.out;omega]
        have:=C3.out;have:=C4.out;omega
    · have d:decide (x5<(n:Int))=false:=decide_eq_false c3
      have hx:x5.toNat=n:=by have:=HI.out;omega
      go_wp2
      go_ret
      refine⟨?_,HS.out⟩
      rw[←HA.out,hx]
      simp[adv]
set_option maxHeartbeats 8000000 in
set_option maxRecDepth 100000 in
theorem qL (P:Nat→Prop) (n:Nat) (a:Int) (w:World) (v:Value) (h:lc P w n v):Calls Try.prog 48 #[v, .int .i64 a] w fun e w' =>e= .returned (.int .i64 (adv a (4 * n)))∧Sc P w w' :=by
  obtain⟨A,cap,rfl,hle,hrow⟩:=id h
  have HF:=Aside0.mk h
  have HL:=Aside0.mk hle
  clear h hrow hle
  go_enter Try.func48,Try.ntmps48
  go_wp2
  go_loopg [1,5] (n) (fun kq v1 v5 w' => ∃(x1 x5:Int),v1= .int .i64 x1∧v5= .int .i64 x5∧Aside0 (0≤x5∧x5+(kq:Int)=(n:Int))∧Aside0 (adv x1 (4 * (n - x5.toNat))=adv a (4 * n))∧Aside0 (Sc P w w'))
  case atStart=>exact⟨a,0,rfl,rfl,⟨by omega,by omega⟩,⟨by simp⟩,⟨Sc.refl P w⟩⟩
  case round=>
    obtain⟨x1,x5,rfl,rfl,HI,HA,HS⟩:=hrel
    have HI:=HI
    by_cases c3:x5<(n:Int)
    · have c4:0≤x5:=HI.out.1
      obtain⟨A',cap',e',_,hh⟩:=HF.out
      cases e'
      rcases hh with h0|⟨g,rfl,hP,_,_⟩
      ·exfalso;omega
      cases gk with
      |zero=>exfalso;have:=HI.out.2;omega
      |succ k1=>
      have HP:=Aside0.mk hP
      clear hP
      have C3:=Aside0.mk c3
      have C4:=Aside0.mk c4
      have i:decide (x5<(n:Int))=true:=decide_eq_true c3
      have k:decide (0≤x5)=true:=decide_eq_true c4
      replace c3:=eq_true c3
      replace c4:=eq_true c4
      obtain⟨⟨cs,hcs⟩,⟨⟨a0,h0⟩,⟨a1,h1⟩,⟨a2,h2⟩,⟨a3,h3⟩⟩⟩:=dM.at (kM P) HF.out HS.out C4.out C3.out;have f0:=ay hcs ((x5:Int).toNat * 4);have f1:=ay hcs ((x5:Int).toNat * 4+1);have f2:=ay hcs ((x5:Int).toNat * 4+2);have f3:=ay hcs ((x5:Int).toNat * 4+3)
      go_wp2_with (first|((with_reducible refine dE (t:=3) (p:=16) rfl ?_);refine dw (t:=3) (p:=16) (v:= ?vo_w101) (w1:=(wr.setCell ⟨g,(x5:Int).toNat * 4,none⟩ (.int .i64 x1))) ?hg ?ho ?hn ?hr ?_;(case ho=>rfl);(case hg=>rfl);(case hn=>rfl);(case hr=>first|(go_simp;done)|(go_simp;rfl));intro b hw;have hS_:Sc P wr b:=(by rw[hw];exact Sc.set hcs h0 (.inr (.inl ⟨_,_,rfl,rfl⟩)) HP.out);clear hw;replace HS:=Aside0.mk (HS.out.trans hS_);clear hS_ h0 h1 h2 h3 hcs f0 f1 f2 f3;obtain⟨⟨cs,hcs⟩,⟨⟨a0,h0⟩,⟨a1,h1⟩,⟨a2,h2⟩,⟨a3,h3⟩⟩⟩:=dM.at (kM P) HF.out HS.out C4.out C3.out;have f0:=ay hcs ((x5:Int).toNat * 4);have f1:=ay hcs ((x5:Int).toNat * 4+1);have f2:=ay hcs ((x5:Int).toNat * 4+2);have f3:=ay hcs ((x5:Int).toNat * 4+3))|((with_reducible refine dE (t:=3) (p:=23) rfl ?_);refine dw (t:=3) (p:=23) (v:= ?vo_w102) (w1:=(b.setCell ⟨g,(x5:Int).toNat * 4+1,none⟩ (.int .i64 (wrap64 (x1+1))))) ?hg ?ho ?hn ?hr ?_;(case ho=>rfl);(case hg=>rfl);(case hn=>rfl);(case hr=>first|(go_simp;done)|(go_simp;rfl));intro c hw;have hS_:Sc P b c:=(by rw[hw];exact Sc.set hcs h1 (.inr (.inl ⟨_,_,rfl,rfl⟩)) HP.out);clear hw;replace HS:=Aside0.mk (HS.out.trans hS_);clear hS_ h0 h1 h2 h3 hcs f0 f1 f2 f3;obtain⟨⟨cs,hcs⟩,⟨⟨a0,h0⟩,⟨a1,h1⟩,⟨a2,h2⟩,⟨a3,h3⟩⟩⟩:=dM.at (kM P) HF.out HS.out C4.out C3.out;have f0:=ay hcs ((x5:Int).toNat * 4);have f1:=ay hcs ((x5:Int).toNat * 4+1);have f2:=ay hcs ((x5:Int).toNat * 4+2);have f3:=ay hcs ((x5:Int).toNat * 4+3))|((with_reducible refine dE (t:=3) (p:=30) rfl ?_);refine dw (t:=3) (p:=30) (v:= ?vo_w103) (w1:=(c.setCell ⟨g,(x5:Int).toNat * 4+2,none⟩ (.int .i64 (wrap64 ((wrap64 (x1+1))+1))))) ?hg ?ho ?hn ?hr ?_;(case ho=>rfl);(case hg=>rfl);(case hn=>rfl);(case hr=>first|(go_simp;done)|(go_simp;rfl));intro d hw;have hS_:Sc P c d:=(by rw[hw];exact Sc.set hcs h2 (.inr (.inl ⟨_,_,rfl,rfl⟩)) HP.out);clear hw;replace HS:=Aside0.mk (HS.out.trans hS_);clear hS_ h0 h1 h2 h3 hcs f0 f1 f2 f3;obtain⟨⟨cs,hcs⟩,⟨⟨a0,h0⟩,⟨a1,h1⟩,⟨a2,h2⟩,⟨a3,h3⟩⟩⟩:=dM.at (kM P) HF.out HS.out C4.out C3.out;have f0:=ay hcs ((x5:Int).toNat * 4);have f1:=ay hcs ((x5:Int).toNat * 4+1);have f2:=ay hcs ((x5:Int).toNat * 4+2);have f3:=ay hcs ((x5:Int).toNat * 4+3))|((with_reducible refine dE (t:=3) (p:=37) rfl ?_);refine dw (t:=3) (p:=37) (v:= ?vo_w104) (w1:=(d.setCell ⟨g,(x5:Int).toNat * 4+3,none⟩ (.int .i64 (wrap64 ((wrap64 ((wrap64 (x1+1))+1))+1))))) ?hg ?ho ?hn ?hr ?_;(case ho=>rfl);(case hg=>rfl);(case hn=>rfl);(case hr=>first|(go_simp;done)|(go_simp;rfl));intro j hw;have hS_:Sc P d j:=(by rw[hw];exact Sc.set hcs h3 (.inr (.inl ⟨_,_,rfl,rfl⟩)) HP.out);clear hw;replace HS:=Aside0.mk (HS.out.trans hS_);clear hS_ h0 h1 h2 h3 hcs f0 f1 f2 f3;obtain⟨⟨cs,hcs⟩,⟨⟨a0,h0⟩,⟨a1,h1⟩,⟨a2,h2⟩,⟨a3,h3⟩⟩⟩:=dM.at (kM P) HF.out HS.out C4.out C3.out;have f0:=ay hcs ((x5:Int).toNat * 4);have f1:=ay hcs ((x5:Int).toNat * 4+1);have f2:=ay hcs ((x5:Int).toNat * 4+2);have f3:=ay hcs ((x5:Int).toNat * 4+3)))
      go_roundg k1
      case measure=>omega
      case rel=>
        have hw:wrap64 (x5+1)=x5+1:=by have:=C3.out;have:=C4.out;have:=HL.out;unfold wrap64;omega
        refine⟨wrap64 ((wrap64 ((wrap64 ((wrap64 (x1+1))+1))+1))+1),x5+1,rfl,(by rw[hw]),⟨by have:=C4.out;omega,by have:=HI.out.2;omega⟩,⟨?_⟩,HS⟩
        rw[←HA.out]
        simp only[jf,←iT]
        congr 1
        rw[show(x5+1).toNat=x5.toNat+1 by have:=C4.out;omega]
        have:=C3.out;have:=C4.out;omega
    · have i:decide (x5<(n:Int))=false:=decide_eq_false c3
      have hx:x5.toNat=n:=by have:=HI.out;omega
      go_wp2
      go_ret
      refine⟨?_,HS.out⟩
      rw[←HA.out,hx]
      simp[adv]
set_option maxHeartbeats 8000000 in
set_option maxRecDepth 100000 in
theorem qM (P:Nat→Prop) (xs:List S71) (a:Int) (w:World) (v:Value) (h:qH P w xs v):Calls Try.prog 26 #[v, .int .i64 a] w fun e w' =>e= .returned (.int .i64 (adv a (iB xs)))∧Sc P w w' :=by
  obtain⟨A,cap,rfl,hle,hrow⟩:=id h
  have HF:=Aside0.mk h
  have HL:=Aside0.mk hle
  clear h hrow hle
  go_enter Try.func26,Try.ntmps26
  go_wp2
  go_loopg [1,5] (xs.length) (fun kq v1 v5 w' => ∃(x1 x5:Int),v1= .int .i64 x1∧v5= .int .i64 x5∧Aside0 (0≤x5∧x5+(kq:Int)=(xs.length:Int))∧Aside0 (adv x1 (iB (xs.drop x5.toNat))=adv a (iB xs))∧Aside0 (Sc P w w'))
  case atStart=>exact⟨a,0,rfl,rfl,⟨by omega,by omega⟩,⟨by simp⟩,⟨Sc.refl P w⟩⟩
  case round=>
    obtain⟨x1,x5,rfl,rfl,HI,HA,HS⟩:=hrel
    have HI:=HI
    by_cases c3:x5<(xs.length:Int)
    · have c4:0≤x5:=HI.out.1
      obtain⟨A',cap',e',_,hh⟩:=HF.out
      cases e'
      rcases hh with h0|⟨g,rfl,hP,_,_⟩
      ·exfalso;omega
      cases gk with
      |zero=>exfalso;have:=HI.out.2;omega
      |succ k1=>
      have HP:=Aside0.mk hP
      clear hP
      have C3:=Aside0.mk c3
      have C4:=Aside0.mk c4
      have b:decide (x5<(xs.length:Int))=true:=decide_eq_true c3
      have d:decide (0≤x5)=true:=decide_eq_true c4
      replace c3:=eq_true c3
      replace c4:=eq_true c4
      obtain⟨⟨cs,hcs⟩,⟨⟨a0,h0⟩,⟨A1,n1,c1,h1,r1⟩⟩⟩:=dM.at (mE P xs) HF.out HS.out C4.out C3.out;replace r1:=Aside0.mk r1;have f0:=ay hcs ((x5:Int).toNat * 2)
      go_wp2_with (first|((with_reducible refine dE (t:=3) (p:=16) rfl ?_);refine dw (t:=3) (p:=16) (v:= ?vo_w101) (w1:=(wr.setCell ⟨g,(x5:Int).toNat * 2,none⟩ (.int .i64 x1))) ?hg ?ho ?hn ?hr ?_;(case ho=>rfl);(case hg=>rfl);(case hn=>rfl);(case hr=>first|(go_simp;done)|(go_simp;rfl));intro c hw;have hS_:Sc P wr c:=(by rw[hw];exact Sc.set hcs h0 (.inr (.inl ⟨_,_,rfl,rfl⟩)) HP.out);clear hw;replace HS:=Aside0.mk (HS.out.trans hS_);clear hS_ h0 h1 r1 hcs f0;obtain⟨⟨cs,hcs⟩,⟨⟨a0,h0⟩,⟨A1,n1,c1,h1,r1⟩⟩⟩:=dM.at (mE P xs) HF.out HS.out C4.out C3.out;replace r1:=Aside0.mk r1;have f0:=ay hcs ((x5:Int).toNat * 2))|((with_reducible refine fG (f:=28) rfl ?_);refine gT (some 25) rfl rfl Try.func28 (by kernel_rfl) rfl #[.slice A1 n1 c1, .int .i64 (wrap64 (x1+1))] rfl (by(try simp only[List.map_toArray,List.map_cons,List.map_nil]);first|done|rfl) ?_;(refine(jR P ((oG xs x5.toNat).f1.length) (wrap64 (x1+1)) _ _ r1.out).mono ?_);rintro e i ⟨rfl,hS_⟩;refine⟨_,rfl, ?_⟩;replace HS:=Aside0.mk (HS.out.trans hS_);clear hS_ h0 h1 r1 hcs f0;obtain⟨⟨cs,hcs⟩,⟨⟨a0,h0⟩,⟨A1,n1,c1,h1,r1⟩⟩⟩:=dM.at (mE P xs) HF.out HS.out C4.out C3.out;replace r1:=Aside0.mk r1;have f0:=ay hcs ((x5:Int).toNat * 2)))
      go_roundg k1
      case measure=>omega
      case rel=>
        have hw:wrap64 (x5+1)=x5+1:=by have:=C3.out;have:=C4.out;have:=HL.out;unfold wrap64;omega
        refine⟨adv (wrap64 (x1+1)) ((oG xs x5.toNat).f1.length),x5+1,rfl,(by rw[hw]),⟨by have:=C4.out;omega,by have:=HI.out.2;omega⟩,⟨?_⟩,HS⟩
        rw[←HA.out]
        simp only[jf,←iT]
        congr 1
        rw[show(x5+1).toNat=x5.toNat+1 by have:=C4.out;omega]
        have hlt:x5.toNat<xs.length:=by have:=C3.out;have:=C4.out;omega
        unfold iB
        rw[kE _ _ z71 _ hlt,show xs.getD x5.toNat z71=oG xs x5.toNat from rfl]
        simp only[lh,jP,jQ,Nat.add_assoc]
    · have b:decide (x5<(xs.length:Int))=false:=decide_eq_false c3
      have hx:x5.toNat=xs.length:=by have:=HI.out;omega
      go_wp2
      go_ret
      refine⟨?_,HS.out⟩
      rw[←HA.out,hx]
      simp[iB,iI,adv]
set_option maxHeartbeats 8000000 in
set_option maxRecDepth 100000 in
theorem qN (P:Nat→Prop) (xs:List S29) (a:Int) (w:World) (v:Value) (h:lg P w xs v):Calls Try.prog 47 #[v, .int .i64 a] w fun e w' =>e= .returned (.int .i64 (adv a (iC xs)))∧Sc P w w' :=by
  obtain⟨A,cap,rfl,hle,hrow⟩:=id h
  have HF:=Aside0.mk h
  have HL:=Aside0.mk hle
  clear h hrow hle
  go_enter Try.func47,Try.ntmps47
  go_wp2
  go_loopg [1,5] (xs.length) (fun kq v1 v5 w' => ∃(x1 x5:Int),v1= .int .i64 x1∧v5= .int .i64 x5∧Aside0 (0≤x5∧x5+(kq:Int)=(xs.length:Int))∧Aside0 (adv x1 (iC (xs.drop x5.toNat))=adv a (iC xs))∧Aside0 (Sc P w w'))
  case atStart=>exact⟨a,0,rfl,rfl,⟨by omega,by omega⟩,⟨by simp⟩,⟨Sc.refl P w⟩⟩
  case round=>
    obtain⟨x1,x5,rfl,rfl,HI,HA,HS⟩:=hrel
    have HI:=HI
    by_cases c3:x5<(xs.length:Int)
    · have c4:0≤x5:=HI.out.1
      obtain⟨A',cap',e',_,hh⟩:=HF.out
      cases e'
      rcases hh with h0|⟨g,rfl,hP,_,_⟩
      ·exfalso;omega
      cases gk with
      |zero=>exfalso;have:=HI.out.2;omega
      |succ k1=>
      have HP:=Aside0.mk hP
      clear hP
      have C3:=Aside0.mk c3
      have C4:=Aside0.mk c4
      have b:decide (x5<(xs.length:Int))=true:=decide_eq_true c3
      have d:decide (0≤x5)=true:=decide_eq_true c4
      replace c3:=eq_true c3
      replace c4:=eq_true c4
      obtain⟨⟨cs,hcs⟩,⟨⟨a0,h0⟩,⟨A1,n1,c1,h1,r1⟩,⟨A2,n2,c2,h2,r2⟩⟩⟩:=dM.at (lD P xs) HF.out HS.out C4.out C3.out;replace r1:=Aside0.mk r1;replace r2:=Aside0.mk r2;have f0:=ay hcs ((x5:Int).toNat * 3)
      go_wp2_with (first|((with_reducible refine dE (t:=4) (p:=18) rfl ?_);refine dw (t:=4) (p:=18) (v:= ?vo_w101) (w1:=(wr.setCell ⟨g,(x5:Int).toNat * 3,none⟩ (.bool (Int.tmod x1 3==0)))) ?hg ?ho ?hn ?hr ?_;(case ho=>rfl);(case hg=>rfl);(case hn=>rfl);(case hr=>first|(go_simp;done)|(go_simp;rfl));intro c hw;have hS_:Sc P wr c:=(by rw[hw];exact Sc.set hcs h0 (.inr (.inr ⟨_,_,rfl,rfl⟩)) HP.out);clear hw;replace HS:=Aside0.mk (HS.out.trans hS_);clear hS_ h0 h1 r1 h2 r2 hcs f0;obtain⟨⟨cs,hcs⟩,⟨⟨a0,h0⟩,⟨A1,n1,c1,h1,r1⟩,⟨A2,n2,c2,h2,r2⟩⟩⟩:=dM.at (lD P xs) HF.out HS.out C4.out C3.out;replace r1:=Aside0.mk r1;replace r2:=Aside0.mk r2;have f0:=ay hcs ((x5:Int).toNat * 3))|((with_reducible refine fG (f:=28) rfl ?_);refine gT (some 27) rfl rfl Try.func28 (by kernel_rfl) rfl #[.slice A1 n1 c1, .int .i64 (wrap64 (x1+1))] rfl (by(try simp only[List.map_toArray,List.map_cons,List.map_nil]);first|done|rfl) ?_;(refine(jR P ((jN xs x5.toNat).f1.length) (wrap64 (x1+1)) _ _ r1.out).mono ?_);rintro e i ⟨rfl,hS_⟩;refine⟨_,rfl, ?_⟩;replace HS:=Aside0.mk (HS.out.trans hS_);clear hS_ h0 h1 r1 h2 r2 hcs f0;obtain⟨⟨cs,hcs⟩,⟨⟨a0,h0⟩,⟨A1,n1,c1,h1,r1⟩,⟨A2,n2,c2,h2,r2⟩⟩⟩:=dM.at (lD P xs) HF.out HS.out C4.out C3.out;replace r1:=Aside0.mk r1;replace r2:=Aside0.mk r2;have f0:=ay hcs ((x5:Int).toNat * 3))|((with_reducible refine fG (f:=28) rfl ?_);refine gT (some 34) rfl rfl Try.func28 (by kernel_rfl) rfl #[.slice A2 n2 c2, .int .i64 (adv (wrap64 (x1+1)) ((jN xs x5.toNat).f1.length))] rfl (by(try simp only[List.map_toArray,List.map_cons,List.map_nil]);first|done|rfl) ?_;(refine(jR P ((jN xs x5.toNat).f2.length) (adv (wrap64 (x1+1)) ((jN xs x5.toNat).f1.length)) _ _ r2.out).mono ?_);rintro e j ⟨rfl,hS_⟩;refine⟨_,rfl, ?_⟩;replace HS:=Aside0.mk (HS.out.trans hS_);clear hS_ h0 h1 r1 h2 r2 hcs f0;obtain⟨⟨cs,hcs⟩,⟨⟨a0,h0⟩,⟨A1,n1,c1,h1,r1⟩,⟨A2,n2,c2,h2,r2⟩⟩⟩:=dM.at (lD P xs) HF.out HS.out C4.out C3.out;replace r1:=Aside0.mk r1;replace r2:=Aside0.mk r2;have f0:=ay hcs ((x5:Int).toNat * 3)))
      go_roundg k1
      case measure=>omega
      case rel=>
        have hw:wrap64 (x5+1)=x5+1:=by have:=C3.out;have:=C4.out;have:=HL.out;unfold wrap64;omega
        refine⟨adv (adv (wrap64 (x1+1)) ((jN xs x5.toNat).f1.length)) ((jN xs x5.toNat).f2.length),x5+1,rfl,(by rw[hw]),⟨by have:=C4.out;omega,by have:=HI.out.2;omega⟩,⟨?_⟩,HS⟩
        rw[←HA.out]
        simp only[jf,←iT]
        congr 1
        rw[show(x5+1).toNat=x5.toNat+1 by have:=C4.out;omega]
        have hlt:x5.toNat<xs.length:=by have:=C3.out;have:=C4.out;omega
        unfold iC
        rw[kE _ _ z29 _ hlt,show xs.getD x5.toNat z29=jN xs x5.toNat from rfl]
        simp only[lh,jP,jQ,Nat.add_assoc]
    · have b:decide (x5<(xs.length:Int))=false:=decide_eq_false c3
      have hx:x5.toNat=xs.length:=by have:=HI.out;omega
      go_wp2
      go_ret
      refine⟨?_,HS.out⟩
      rw[←HA.out,hx]
      simp[iC,iI,adv]
set_option maxHeartbeats 8000000 in
set_option maxRecDepth 100000 in
theorem qO (P:Nat→Prop) (xs:List S50) (a:Int) (w:World) (v:Value) (h:qI P w xs v):Calls Try.prog 27 #[v, .int .i64 a] w fun e w' =>e= .returned (.int .i64 (adv a (iO xs)))∧Sc P w w' :=by
  obtain⟨A,cap,rfl,hle,hrow⟩:=id h
  have HF:=Aside0.mk h
  have HL:=Aside0.mk hle
  clear h hrow hle
  go_enter Try.func27,Try.ntmps27
  go_wp2
  go_loopg [1,5] (xs.length) (fun kq v1 v5 w' => ∃(x1 x5:Int),v1= .int .i64 x1∧v5= .int .i64 x5∧Aside0 (0≤x5∧x5+(kq:Int)=(xs.length:Int))∧Aside0 (adv x1 (iO (xs.drop x5.toNat))=adv a (iO xs))∧Aside0 (Sc P w w'))
  case atStart=>exact⟨a,0,rfl,rfl,⟨by omega,by omega⟩,⟨by simp⟩,⟨Sc.refl P w⟩⟩
  case round=>
    obtain⟨x1,x5,rfl,rfl,HI,HA,HS⟩:=hrel
    have HI:=HI
    by_cases c3:x5<(xs.length:Int)
    · have c4:0≤x5:=HI.out.1
      obtain⟨A',cap',e',_,hh⟩:=HF.out
      cases e'
      rcases hh with h0|⟨g,rfl,hP,_,_⟩
      ·exfalso;omega
      cases gk with
      |zero=>exfalso;have:=HI.out.2;omega
      |succ k1=>
      have HP:=Aside0.mk hP
      clear hP
      have C3:=Aside0.mk c3
      have C4:=Aside0.mk c4
      have i:decide (x5<(xs.length:Int))=true:=decide_eq_true c3
      have l:decide (0≤x5)=true:=decide_eq_true c4
      replace c3:=eq_true c3
      replace c4:=eq_true c4
      obtain⟨⟨cs,hcs⟩,⟨⟨a0,h0⟩,⟨a1,h1⟩,⟨A2,n2,c2,h2,r2⟩,⟨a3,h3⟩,⟨a4,h4⟩,⟨A5,n5,c5,h5,r5⟩,⟨A6,n6,c6,h6,r6⟩,⟨A7,n7,c7,h7,r7⟩⟩⟩:=dM.at (iP P xs) HF.out HS.out C4.out C3.out;replace r2:=Aside0.mk r2;replace r5:=Aside0.mk r5;replace r6:=Aside0.mk r6;replace r7:=Aside0.mk r7;have f0:=ay hcs ((x5:Int).toNat * 8);have f1:=ay hcs ((x5:Int).toNat * 8+1);have f3:=ay hcs ((x5:Int).toNat * 8+3);have f4:=ay hcs ((x5:Int).toNat * 8+4)
      go_wp2_with (first|((with_reducible refine dE (t:=3) (p:=16) rfl ?_);refine dw (t:=3) (p:=16) (v:= ?vo_w101) (w1:=(wr.setCell ⟨g,(x5:Int).toNat * 8,none⟩ (.int .i64 x1))) ?hg ?ho ?hn ?hr ?_;(case ho=>rfl);(case hg=>rfl);(case hn=>rfl);(case hr=>first|(go_simp;done)|(go_simp;rfl));intro b hw;have hS_:Sc P wr b:=(by rw[hw];exact Sc.set hcs h0 (.inr (.inl ⟨_,_,rfl,rfl⟩)) HP.out);clear hw;replace HS:=Aside0.mk (HS.out.trans hS_);clear hS_ h0 h1 h2 r2 h3 h4 h5 r5 h6 r6 h7 r7 hcs f0 f1 f3 f4;obtain⟨⟨cs,hcs⟩,⟨⟨a0,h0⟩,⟨a1,h1⟩,⟨A2,n2,c2,h2,r2⟩,⟨a3,h3⟩,⟨a4,h4⟩,⟨A5,n5,c5,h5,r5⟩,⟨A6,n6,c6,h6,r6⟩,⟨A7,n7,c7,h7,r7⟩⟩⟩:=dM.at (iP P xs) HF.out HS.out C4.out C3.out;replace r2:=Aside0.mk r2;replace r5:=Aside0.mk r5;replace r6:=Aside0.mk r6;replace r7:=Aside0.mk r7;have f0:=ay hcs ((x5:Int).toNat * 8);have f1:=ay hcs ((x5:Int).toNat * 8+1);have f3:=ay hcs ((x5:Int).toNat * 8+3);have f4:=ay hcs ((x5:Int).toNat * 8+4))|((with_reducible refine dE (t:=3) (p:=23) rfl ?_);refine dw (t:=3) (p:=23) (v:= ?vo_w102) (w1:=(b.setCell ⟨g,(x5:Int).toNat * 8+1,none⟩ (.int .i64 (wrap64 (x1+1))))) ?hg ?ho ?hn ?hr ?_;(case ho=>rfl);(case hg=>rfl);(case hn=>rfl);(case hr=>first|(go_simp;done)|(go_simp;rfl));intro j hw;have hS_:Sc P b j:=(by rw[hw];exact Sc.set hcs h1 (.inr (.inl ⟨_,_,rfl,rfl⟩)) HP.out);clear hw;replace HS:=Aside0.mk (HS.out.trans hS_);clear hS_ h0 h1 h2 r2 h3 h4 h5 r5 h6 r6 h7 r7 hcs f0 f1 f3 f4;obtain⟨⟨cs,hcs⟩,⟨⟨a0,h0⟩,⟨a1,h1⟩,⟨A2,n2,c2,h2,r2⟩,⟨a3,h3⟩,⟨a4,h4⟩,⟨A5,n5,c5,h5,r5⟩,⟨A6,n6,c6,h6,r6⟩,⟨A7,n7,c7,h7,r7⟩⟩⟩:=dM.at (iP P xs) HF.out HS.out C4.out C3.out;replace r2:=Aside0.mk r2;replace r5:=Aside0.mk r5;replace r6:=Aside0.mk r6;replace r7:=Aside0.mk r7;have f0:=ay hcs ((x5:Int).toNat * 8);have f1:=ay hcs ((x5:Int).toNat * 8+1);have f3:=ay hcs ((x5:Int).toNat * 8+3);have f4:=ay hcs ((x5:Int).toNat * 8+4))|((with_reducible refine fG (f:=28) rfl ?_);refine gT (some 32) rfl rfl Try.func28 (by kernel_rfl) rfl #[.slice A2 n2 c2, .int .i64 (wrap64 ((wrap64 (x1+1))+1))] rfl (by(try simp only[List.map_toArray,List.map_cons,List.map_nil]);first|done|rfl) ?_;(refine(jR P ((eX xs x5.toNat).f2.length) (wrap64 ((wrap64 (x1+1))+1)) _ _ r2.out).mono ?_);rintro e d ⟨rfl,hS_⟩;refine⟨_,rfl, ?_⟩;replace HS:=Aside0.mk (HS.out.trans hS_);clear hS_ h0 h1 h2 r2 h3 h4 h5 r5 h6 r6 h7 r7 hcs f0 f1 f3 f4;obtain⟨⟨cs,hcs⟩,⟨⟨a0,h0⟩,⟨a1,h1⟩,⟨A2,n2,c2,h2,r2⟩,⟨a3,h3⟩,⟨a4,h4⟩,⟨A5,n5,c5,h5,r5⟩,⟨A6,n6,c6,h6,r6⟩,⟨A7,n7,c7,h7,r7⟩⟩⟩:=dM.at (iP P xs) HF.out HS.out C4.out C3.out;replace r2:=Aside0.mk r2;replace r5:=Aside0.mk r5;replace r6:=Aside0.mk r6;replace r7:=Aside0.mk r7;have f0:=ay hcs ((x5:Int).toNat * 8);have f1:=ay hcs ((x5:Int).toNat * 8+1);have f3:=ay hcs ((x5:Int).toNat * 8+3);have f4:=ay hcs ((x5:Int).toNat * 8+4))|((with_reducible refine dE (t:=3) (p:=37) rfl ?_);refine dw (t:=3) (p:=37) (v:= ?vo_w104) (w1:=(d.setCell ⟨g,(x5:Int).toNat * 8+3,none⟩ (.int .i64 (adv (wrap64 ((wrap64 (x1+1))+1)) ((eX xs x5.toNat).f2.length))))) ?hg ?ho ?hn ?hr ?_;(case ho=>rfl);(case hg=>rfl);(case hn=>rfl);(case hr=>first|(go_simp;done)|(go_simp;rfl));intro c hw;have hS_:Sc P d c:=(by rw[hw];exact Sc.set hcs h3 (.inr (.inl ⟨_,_,rfl,rfl⟩)) HP.out);clear hw;replace HS:=Aside0.mk (HS.out.trans hS_);clear hS_ h0 h1 h2 r2 h3 h4 h5 r5 h6 r6 h7 r7 hcs f0 f1 f3 f4;obtain⟨⟨cs,hcs⟩,⟨⟨a0,h0⟩,⟨a1,h1⟩,⟨A2,n2,c2,h2,r2⟩,⟨a3,h3⟩,⟨a4,h4⟩,⟨A5,n5,c5,h5,r5⟩,⟨A6,n6,c6,h6,r6⟩,⟨A7,n7,c7,h7,r7⟩⟩⟩:=dM.at (iP P xs) HF.out HS.out C4.out C3.out;replace r2:=Aside0.mk r2;replace r5:=Aside0.mk r5;replace r6:=Aside0.mk r6;replace r7:=Aside0.mk r7;have f0:=ay hcs ((x5:Int).toNat * 8);have f1:=ay hcs ((x5:Int).toNat * 8+1);have f3:=ay hcs ((x5:Int).toNat * 8+3);have f4:=ay hcs ((x5:Int).toNat * 8+4))|((with_reducible refine dE (t:=3) (p:=44) rfl ?_);refine dw (t:=3) (p:=44) (v:= ?vo_w105) (w1:=(c.setCell ⟨g,(x5:Int).toNat * 8+4,none⟩ (.int .i64 (wrap64 ((adv (wrap64 ((wrap64 (x1+1))+1)) ((eX xs x5.toNat).f2.length))+1))))) ?hg ?ho ?hn ?hr ?_;(case ho=>rfl);(case hg=>rfl);(case hn=>rfl);(case hr=>first|(go_simp;done)|(go_simp;rfl));intro k hw;have hS_:Sc P c k:=(by rw[hw];exact Sc.set hcs h4 (.inr (.inl ⟨_,_,rfl,rfl⟩)) HP.out);clear hw;replace HS:=Aside0.mk (HS.out.trans hS_);clear hS_ h0 h1 h2 r2 h3 h4 h5 r5 h6 r6 h7 r7 hcs f0 f1 f3 f4;obtain⟨⟨cs,hcs⟩,⟨⟨a0,h0⟩,⟨a1,h1⟩,⟨A2,n2,c2,h2,r2⟩,⟨a3,h3⟩,⟨a4,h4⟩,⟨A5,n5,c5,h5,r5⟩,⟨A6,n6,c6,h6,r6⟩,⟨A7,n7,c7,h7,r7⟩⟩⟩:=dM.at (iP P xs) HF.out HS.out C4.out C3.out;replace r2:=Aside0.mk r2;replace r5:=Aside0.mk r5;replace r6:=Aside0.mk r6;replace r7:=Aside0.mk r7;have f0:=ay hcs ((x5:Int).toNat * 8);have f1:=ay hcs ((x5:Int).toNat * 8+1);have f3:=ay hcs ((x5:Int).toNat * 8+3);have f4:=ay hcs ((x5:Int).toNat * 8+4))|((with_reducible refine fG (f:=46) rfl ?_);refine gT (some 53) rfl rfl Try.func46 (by kernel_rfl) rfl #[.slice A5 n5 c5, .int .i64 (wrap64 ((wrap64 ((adv (wrap64 ((wrap64 (x1+1))+1)) ((eX xs x5.toNat).f2.length))+1))+1))] rfl (by(try simp only[List.map_toArray,List.map_cons,List.map_nil]);first|done|rfl) ?_;(refine(qK P ((eX xs x5.toNat).f5.length) (wrap64 ((wrap64 ((adv (wrap64 ((wrap64 (x1+1))+1)) ((eX xs x5.toNat).f2.length))+1))+1)) _ _ r5.out).mono ?_);rintro e m ⟨rfl,hS_⟩;refine⟨_,rfl, ?_⟩;replace HS:=Aside0.mk (HS.out.trans hS_);clear hS_ h0 h1 h2 r2 h3 h4 h5 r5 h6 r6 h7 r7 hcs f0 f1 f3 f4;obtain⟨⟨cs,hcs⟩,⟨⟨a0,h0⟩,⟨a1,h1⟩,⟨A2,n2,c2,h2,r2⟩,⟨a3,h3⟩,⟨a4,h4⟩,⟨A5,n5,c5,h5,r5⟩,⟨A6,n6,c6,h6,r6⟩,⟨A7,n7,c7,h7,r7⟩⟩⟩:=dM.at (iP P xs) HF.out HS.out C4.out C3.out;replace r2:=Aside0.mk r2;replace r5:=Aside0.mk r5;replace r6:=Aside0.mk r6;replace r7:=Aside0.mk r7;have f0:=ay hcs ((x5:Int).toNat * 8);have f1:=ay hcs ((x5:Int).toNat * 8+1);have f3:=ay hcs ((x5:Int).toNat * 8+3);have f4:=ay hcs ((x5:Int).toNat * 8+4))|((with_reducible refine fG (f:=47) rfl ?_);refine gT (some 60) rfl rfl Try.func47 (by kernel_rfl) rfl #[.slice A6 n6 c6, .int .i64 (adv (wrap64 ((wrap64 ((adv (wrap64 ((wrap64 (x1+1))+1)) ((eX xs x5.toNat).f2.length))+1))+1)) (3 * ((eX xs x5.toNat).f5.length)))] rfl (by(try simp only[List.map_toArray,List.map_cons,List.map_nil]);first|done|rfl) ?_;(refine(qN P ((eX xs x5.toNat).f6) (adv (wrap64 ((wrap64 ((adv (wrap64 ((wrap64 (x1+1))+1)) ((eX xs x5.toNat).f2.length))+1))+1)) (3 * ((eX xs x5.toNat).f5.length))) _ _ r6.out).mono ?_);rintro e n ⟨rfl,hS_⟩;refine⟨_,rfl, ?_⟩;replace HS:=Aside0.mk (HS.out.trans hS_);clear hS_ h0 h1 h2 r2 h3 h4 h5 r5 h6 r6 h7 r7 hcs f0 f1 f3 f4;obtain⟨⟨cs,hcs⟩,⟨⟨a0,h0⟩,⟨a1,h1⟩,⟨A2,n2,c2,h2,r2⟩,⟨a3,h3⟩,⟨a4,h4⟩,⟨A5,n5,c5,h5,r5⟩,⟨A6,n6,c6,h6,r6⟩,⟨A7,n7,c7,h7,r7⟩⟩⟩:=dM.at (iP P xs) HF.out HS.out C4.out C3.out;replace r2:=Aside0.mk r2;replace r5:=Aside0.mk r5;replace r6:=Aside0.mk r6;replace r7:=Aside0.mk r7;have f0:=ay hcs ((x5:Int).toNat * 8);have f1:=ay hcs ((x5:Int).toNat * 8+1);have f3:=ay hcs ((x5:Int).toNat * 8+3);have f4:=ay hcs ((x5:Int).toNat * 8+4))|((with_reducible refine fG (f:=48) rfl ?_);refine gT (some 67) rfl rfl Try.func48 (by kernel_rfl) rfl #[.slice A7 n7 c7, .int .i64 (adv (adv (wrap64 ((wrap64 ((adv (wrap64 ((wrap64 (x1+1))+1)) ((eX xs x5.toNat).f2.length))+1))+1)) (3 * ((eX xs x5.toNat).f5.length))) (iC ((eX xs x5.toNat).f6)))] rfl (by(try simp only[List.map_toArray,List.map_cons,List.map_nil]);first|done|rfl) ?_;(refine(qL P ((eX xs x5.toNat).f7.length) (adv (adv (wrap64 ((wrap64 ((adv (wrap64 ((wrap64 (x1+1))+1)) ((eX xs x5.toNat).f2.length))+1))+1)) (3 * ((eX xs x5.toNat).f5.length))) (iC ((eX xs x5.toNat).f6))) _ _ r7.out).mono ?_);rintro e o ⟨rfl,hS_⟩;refine⟨_,rfl, ?_⟩;replace HS:=Aside0.mk (HS.out.trans hS_);clear hS_ h0 h1 h2 r2 h3 h4 h5 r5 h6 r6 h7 r7 hcs f0 f1 f3 f4;obtain⟨⟨cs,hcs⟩,⟨⟨a0,h0⟩,⟨a1,h1⟩,⟨A2,n2,c2,h2,r2⟩,⟨a3,h3⟩,⟨a4,h4⟩,⟨A5,n5,c5,h5,r5⟩,⟨A6,n6,c6,h6,r6⟩,⟨A7,n7,c7,h7,r7⟩⟩⟩:=dM.at (iP P xs) HF.out HS.out C4.out C3.out;replace r2:=Aside0.mk r2;replace r5:=Aside0.mk r5;replace r6:=Aside0.mk r6;replace r7:=Aside0.mk r7;have f0:=ay hcs ((x5:Int).toNat * 8);have f1:=ay hcs ((x5:Int).toNat * 8+1);have f3:=ay hcs ((x5:Int).toNat * 8+3);have f4:=ay hcs ((x5:Int).toNat * 8+4)))
      go_roundg k1
      case measure=>omega
      case rel=>
        have hw:wrap64 (x5+1)=x5+1:=by have:=C3.out;have:=C4.out;have:=HL.out;unfold wrap64;omega
        refine⟨adv (adv (adv (wrap64 ((wrap64 ((adv (wrap64 ((wrap64 (x1+1))+1)) ((eX xs x5.toNat).f2.length))+1))+1)) (3 * ((eX xs x5.toNat).f5.length))) (iC ((eX xs x5.toNat).f6))) (4 * ((eX xs x5.toNat).f7.length)),x5+1,rfl,(by rw[hw]),⟨by have:=C4.out;omega,by have:=HI.out.2;omega⟩,⟨?_⟩,HS⟩
        rw[←HA.out]
        simp only[jf,←iT]
        congr 1
        rw[show(x5+1).toNat=x5.toNat+1 by have:=C4.out;omega]
        have hlt:x5.toNat<xs.length:=by have:=C3.out;have:=C4.out;omega
        unfold iO
        rw[kE _ _ z50 _ hlt,show xs.getD x5.toNat z50=eX xs x5.toNat from rfl]
        simp only[lh,jP,jQ,Nat.add_assoc]
    · have i:decide (x5<(xs.length:Int))=false:=decide_eq_false c3
      have hx:x5.toNat=xs.length:=by have:=HI.out;omega
      go_wp2
      go_ret
      refine⟨?_,HS.out⟩
      rw[←HA.out,hx]
      simp[iO,iI,adv]
section
variable {P:Nat→Prop} {w:World} {base:Nat} {ok:Nat→Prop} {v:Value}
theorem rowOf {α:Type} {d:Kd α} {e:Nat} {xs:List α} {E:Nat→World→Nat→Nat→Prop} (h:d.R e w base ok v xs) (hok: ∀k,ok k→base≤k→P k) (z:α)
    (hE: ∀i g c,i<xs.length→d.M w base (fun k=>ok k∧k≠g) (xs.getD i z) c→(∀j u,c[j]? =some u→w.cell? ⟨g,i * d.sz+j,none⟩=some u)→E i w g (i * d.sz)):dM e d.sz E P w v xs.length:=by
  obtain⟨inner,ho⟩:=Kd.R_own h
  obtain⟨hl,⟨rfl,hn⟩|⟨g,cap,cur,rfl,hg,hh,hc1,hc2,hsz,hcur⟩⟩:=id ho
  ·exact⟨none,0,by rw[hn],by rw[hn];omega, .inl hn⟩
  · refine⟨_,cap,rfl,Nat.le_trans hc1 (Nat.le_trans hc2 (by decide)), .inr ⟨g,rfl,hok g (h.1 g rfl) hg,⟨cur,hh⟩,fun i hi=> ?_⟩⟩
    obtain⟨c,hcl,hM,hcc,hf⟩:=Kd.R_elem h z (i:Int) (by omega) (by omega)
    exact hE i g c hi hM hcc
theorem sZ {xs:List Int} (h:(Kd.int .i64).R 3 w base ok v xs) (hok: ∀k,ok k→base≤k→P k):jF P w xs.length v:=
  rowOf h hok 0 (fun i g c hi hM hcc=>by
    have hM:c= [.int .i64 (xs.getD i 0)]:=hM
    exact⟨_,hcc 0 _ (by rw[hM];rfl)⟩)
theorem mF {xs:List Int} {g o:Nat} (hx:w.cell? ⟨g,o,none⟩=some v) (h:(Kd.int .i64).R 3 w base ok v xs) (hok: ∀k,ok k→base≤k→P k):isR (jF P w xs.length) w g o:=by
  obtain⟨A,c,rfl⟩:=Kd.R_slice h
  exact⟨A,_,c,hx,sZ h hok⟩
theorem tq {xs:List S97} (h:k97.R 97 w base ok v xs) (hok: ∀k,ok k→base≤k→P k):kZ P w xs.length v:=
  rowOf h hok z97 (fun i g c hi hM hcc=>by
    obtain rfl:=kw hM
    exact⟨⟨_,hcc 0 _ rfl⟩,⟨_,hcc 1 _ rfl⟩,⟨_,hcc 2 _ rfl⟩⟩)
theorem tu {xs:List S102} (h:dQ.R 102 w base ok v xs) (hok: ∀k,ok k→base≤k→P k):lc P w xs.length v:=
  rowOf h hok fB (fun i g c hi hM hcc=>by
    obtain rfl:=jL hM
    exact⟨⟨_,hcc 0 _ rfl⟩,⟨_,hcc 1 _ rfl⟩,⟨_,hcc 2 _ rfl⟩,⟨_,hcc 3 _ rfl⟩⟩)
theorem tC {xs:List S71} (h:k71.R 71 w base ok v xs) (hok: ∀k,ok k→base≤k→P k):qH P w xs v:=
  rowOf h hok z71 (fun i g c hi hM hcc=>by
    obtain⟨v1,rfl,g1⟩:=kv hM
    exact⟨⟨_,hcc 0 _ rfl⟩,mF (hcc 1 _ rfl) g1 (fun k hk=>hok k hk.1)⟩)
theorem tF {xs:List S29} (h:k29.R 29 w base ok v xs) (hok: ∀k,ok k→base≤k→P k):lg P w xs v:=
  rowOf h hok z29 (fun i g c hi hM hcc=>by
    obtain⟨v1,v2,rfl,g1,g2⟩:=ky hM
    exact⟨⟨_,hcc 0 _ rfl⟩,mF (hcc 1 _ rfl) g1 (fun k hk=>hok k hk.1),mF (hcc 2 _ rfl) g2 (fun k hk=>hok k hk.1)⟩)
theorem tH {xs:List S50} (h:k50.R 50 w base ok v xs) (hok: ∀k,ok k→base≤k→P k):qI P w xs v:=
  rowOf h hok z50 (fun i g c hi hM hcc=>by
    obtain⟨v2,v5,v6,v7,rfl,g2,g5,g6,g7⟩:=kz hM
    have h5:isR (kZ P w (eX xs i).f5.length) w g (i * k50.sz+5):=by
      obtain⟨A,c,rfl⟩:=Kd.R_slice g5
      exact⟨A,_,c,hcc 5 _ rfl,tq g5 (fun k hk=>hok k hk.1)⟩
    have h6:isR (lg P w (eX xs i).f6) w g (i * k50.sz+6):=by
      obtain⟨A,c,rfl⟩:=Kd.R_slice g6
      exact⟨A,_,c,hcc 6 _ rfl,tF g6 (fun k hk=>hok k hk.1)⟩
    have h7:isR (lc P w (eX xs i).f7.length) w g (i * k50.sz+7):=by
      obtain⟨A,c,rfl⟩:=Kd.R_slice g7
      exact⟨A,_,c,hcc 7 _ rfl,tu g7 (fun k hk=>hok k hk.1)⟩
    exact⟨⟨_,hcc 0 _ rfl⟩,⟨_,hcc 1 _ rfl⟩,mF (hcc 2 _ rfl) g2 (fun k hk=>hok k hk.1),⟨_,hcc 3 _ rfl⟩,⟨_,hcc 4 _ rfl⟩,h5,h6,h7⟩)
end
set_option maxHeartbeats 8000000 in
set_option maxRecDepth 100000 in
theorem dV.calls (c:Nat→Prop) (g:Value) (a:List S71) (d:Nat→Prop) (i:Value) (b:List S50) (a1:Int) (r1:Int) (w0 w:World) (hB:Below w0.heap.size w0 w) (ho0:Kd.S k71 71 w w0.heap.size c g a) (ho1:Kd.R k50 50 w w0.heap.size d i b) (h:dV.f a b a1=some r1):
    Calls Try.prog 10 #[.agg #[g,i], .int .i64 a1] w fun e w' =>e= .returned (.int .i64 r1)∧Below w0.heap.size w0 w' ∧Kept w w' (fun k_=>c k_∨d k_):=by
  obtain⟨A0,c0,rfl⟩:=Kd.S_slice ho0
  obtain⟨A1,c1,rfl⟩:=Kd.R_slice ho1
  have h0:qH (fun k=>(c k∨d k)∧w0.heap.size≤k) w a (.slice A0 a.length c0):=tC (Kd.S_R ho0) (fun k hk hb=>⟨.inl hk,hb⟩)
  have h1:qI (fun k=>(c k∨d k)∧w0.heap.size≤k) w b (.slice A1 b.length c1):=tH ho1 (fun k hk hb=>⟨.inr hk,hb⟩)
  have hu:=Try.underlying34
  obtain rfl:=Option.some.inj h
  have H0:=Aside0.mk h0
  have H1:=Aside0.mk h1
  have HB:=Aside0.mk hB
  clear h0 h1 hB ho0 ho1 h
  generalize hP:(fun k=>(c k∨d k)∧w0.heap.size≤k)=P at H0 H1
  have HP:=Aside0.mk hP
  clear hP
  have HA:=Aside0.mk (iT a1 (iB a) (iO b))
  go_enter Try.func10,Try.ntmps10
  go_wp2_with (first|((with_reducible refine gd 2 rfl ?_);refine bx 2 #[.slice A0 a.length c0, .slice A1 b.length c1] 34 ?_;intro gb hg w2 hbox hb;have BK:=Aside0.mk hbox;have H2:=Aside0.mk (dM.stays (mE P a) H0.out (Sc.of_below hb));have H3:=Aside0.mk (dM.stays (iP P b) H1.out (Sc.of_below hb));have HW:=Aside0.mk hb;have j:=cz hbox 0 rfl;have l:=cz hbox 1 rfl;have HG:=Aside0.mk hg;clear hb hbox hg)|((with_reducible refine fG (f:=26) rfl ?_);refine gT (some 8) rfl rfl Try.func26 (by kernel_rfl) rfl #[.slice A0 a.length c0, .int .i64 a1] rfl (by(try simp only[List.map_toArray,List.map_cons,List.map_nil]);first|done|rfl) ?_;(refine(qM P a a1 _ _ H2.out).mono ?_);rintro e w3 ⟨rfl,hs⟩;refine⟨_,rfl, ?_⟩;replace H3:=Aside0.mk (dM.stays (iP P b) H3.out hs);have HS:=Aside0.mk hs;replace j:=Sc.slice ⟨_,_,BK.out⟩ hs j;replace l:=Sc.slice ⟨_,_,BK.out⟩ hs l;clear hs)|((with_reducible refine fG (f:=27) rfl ?_);refine gT (some 12) rfl rfl Try.func27 (by kernel_rfl) rfl #[.slice A1 b.length c1, .int .i64 (adv a1 (iB a))] rfl (by(try simp only[List.map_toArray,List.map_cons,List.map_nil]);first|done|rfl) ?_;(refine(qO P b (adv a1 (iB a)) _ _ H3.out).mono ?_);rintro e w4 ⟨rfl,hs⟩;refine⟨_,rfl, ?_⟩;replace HS:=Aside0.mk (HS.out.trans hs);clear hs))
  go_ret
  refine⟨by show Ending.returned (.int .i64 (adv (adv a1 (iB a)) (iO b)))=_;rw[HA.out], ?_, ?_⟩
  ·exact HS.out.below (gH HB.out HW.out) (fun k hk=>by rw[←HP.out]at hk;exact hk.2) (Nat.le_trans (aK HB.out) HW.out.size)
  ·exact Kept.mono (Kept.then_ (Kept.of_below HW.out P) HS.out.kept (fun k hk=> .inl hk)) (fun k hk=>by rw[←HP.out]at hk;exact hk.1)
end Go.Proofs.Yteinbmkgenhocaa.P
end
