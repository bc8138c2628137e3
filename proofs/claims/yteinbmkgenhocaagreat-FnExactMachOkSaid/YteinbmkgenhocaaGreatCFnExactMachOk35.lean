/- A part of the claim FnExactMachOk. -/
import Derived.Test.YteinbmkgenhocaaGreatCFnExactMachOk34
section
namespace Go.Proofs.YteinbmkgenhocaaGreat.P
open Go Go.RowKit Go.Proofs.YteinbmkgenhocaaGreatW.PrintWords Go.Proofs.YteinbmkgenhocaaGreatW.PrintLast Go.Proofs.YteinbmkgenhocaaGreatW.PrintMore
set_option linter.unusedVariables false
set_option linter.unusedSimpArgs false
attribute [local go_sem] ah ai av ax af ag aj ak
def regF.T1:Bool×List (List Nat×List Nat):=(true, [([], []),([], []),([1], [1]),([0,2], [0,2]),([3,3], [3]),([4], [4]),([5,4], [4,5]),([4], [4]),([7,4], [4,7]),([4], [4]),([9,4], [4,9]),([8,10,4], [4,8,10]),([11,4], [4,11]),([12,4], [4,12]),([13,4], [4,13]),([6,14,4,4], [4,6,14]),([4,15], [4,15]),([16,15], [16]),([17], [17]),([18,17], [17,18]),([19,17], [17,19]),([17], [17]),([21,17], [17,21]),([17], [17]),([23,17], [17,23]),([22,24,17], [17,22,24]),([25,17], [17,25]),([26,17], [17,26]),([20,27,17], [17,20,27]),([17,28], [17,28]),([29,17], [29]),([30], [30]),([31,30], [30,31]),([32,30], [30,32]),([33,30], [30,33]),([30,34], [30,34]),([35,30], [35]),([36], [36]),([37,36], [36,37]),([36], [36]),([38,39,36,36], [36,38,39]),([36,40], [36,40]),([41,40], [41]),([42], [42]),([43,42], [42,43]),([42], [42]),([44,45,42,42], [42,44,45]),([42,46], [42,46]),([47,46,0,1,2,3,4,5,6,7,8,9,10,11,12,13,14,15,16,17,18,19,20,21,22,23,24,25,26,27,28,29,30,31,32,33,34,35,36,37,38,39,40,41,42,43,44,45,46,47], [47])])
def regF.B1:List Nat:= [0,0,2,7,15,31,63,31,159,31,543,1951,3999,8095,16287,32767,65535,131071,262143,524287,1048575,262143,2359295,262143,8650751,31719423,65273855,132382719,268435455,536870911,1073741823,2147483647,4294967295,8589934591,17179869183,34359738367,68719476735,137438953471,274877906943,137438953471,1099511627775,2199023255551,4398046511103,8796093022207,17592186044415,8796093022207,70368744177663,140737488355327,281474976710655]
theorem regF.tab1:eU .any (opsOf Tryz.f102 1)=regF.T1:=by kernel_rfl
theorem regF.bits1:eQ regF.T1.2 regF.B1=true:=by kernel_rfl
theorem kd_ {W:World} {g:Nat} {o:Obj} (h:Aside0 (W.heap[g]? =some o)) (n:Nat):Aside0 ((W.drewN n).heap[g]? =some o):=h
set_option maxHeartbeats 8000000 in
set_option maxRecDepth 100000 in
theorem nR {d:MD} {w:World} (hE:MEnv d w) (x:S70) (A2:Option Addr) (c2:Nat) (A3:Option Addr) (c3:Nat) (hr2:Kd.C k31 w A2 x.f2.length x.f2) (hc2:x.f2.length≤c2) (hr3:Kd.C k31 w A3 x.f3.length x.f3) (hc3:x.f3.length≤c3) (b:Bool) (h:iY d.cs d.ms (d.objs.length:Int) x=some b):
    Ask 102 #[.agg #[.int .i64 x.f0, .int .i64 x.f1, .slice A2 x.f2.length c2, .slice A3 x.f3.length c3],d.pu,d.pv] w b:=by
  have E:=Aside0.mk hE
  have HR2:=Aside0.mk hr2
  have j:=Aside0.mk hc2
  have HR3:=Aside0.mk hr3
  have p:=Aside0.mk hc3
  have HB:=Aside0.mk (Below.refl w.heap.size w)
  unfold Ask
  unfold iY at h
  have hu:=Tryz.underlying70
  have hu2:=Tryz.underlying38
  have hu3:=Tryz.underlying104
  clear hE hr2 hc2 hr3 hc3
  rcases gH h with⟨a1,a2⟩|⟨a1,rfl⟩
  · have A1 :=Aside0.mk a1
    clear h
    have q1:x.f0≥0:=by
      by_cases c:x.f0≥0
      ·exact c
      ·rw[fu.f,if_neg c]at a1;cases a1
    have q2:x.f0<(d.ms.length:Int):=by
      rw[fu.f,if_pos q1]at a1
      exact of_decide_eq_true (Option.some.inj a1)
    replace q1:0≤x.f0:=q1
    obtain⟨ad,B2,e2,B5,e5,B6,e6,B7,e7,e,hz0,hz1,hz2,hz3,a,g,u,v,hl2,hk2,hl5,hk5,q,r,s,t⟩:=cu E.out.r1 x.f0 q1 q2
    clear hl2 hk2 hl5 hk5 q r s t a1
    have U1: ∀W,MEnv d W→W.cell? ⟨d.gu,1,none⟩=some (.slice (some ad) d.ms.length d.c1):=fun W hW=>by have:=cz hW.hu 1 rfl;rw[e]at this;exact this
    have R1:=Aside0.mk (show Kd.C eD w (some ad) d.ms.length d.ms by have:=E.out.r1;rw[e]at this;exact this)
    have y:decide (0≤x.f0)=true:=decide_eq_true q1
    have z:decide (x.f0<(d.ms.length:Int))=true:=decide_eq_true q2
    replace q1:=eq_true q1
    replace q2:=eq_true q2
    rcases gH a2 with⟨b1,b2⟩|⟨b1,rfl⟩
    · have B1:=Aside0.mk b1
      clear a2 b1
      by_cases c1:(x.f2.length:Int)=(aa d.ms x.f0).f4
      · rw[if_pos c1]at b2
        have k:=beq_iff_eq.mpr c1
        have l:=bne_eq_false_iff_eq.mpr c1
        clear c1
        by_cases c5:(x.f3.length:Int)≤4
        · rw[if_pos c5]at b2
          have m:decide ((x.f3.length:Int)≤4)=true:=decide_eq_true c5
          have o:decide (x.f3.length≤4)=true:=decide_eq_true (by omega)
          clear c5
          rcases gH b2 with⟨d1,d2⟩|⟨d1,rfl⟩
          · have D1:=Aside0.mk d1
            have D2:=Aside0.mk d2
            clear b2 d1 d2
            go_enter Tryz.func102,Tryz.ntmps102
            go_wp2_with (first|((with_reducible refine gd 3 rfl ?_);refine bx 3 #[.int .i64 x.f0, .int .i64 x.f1, .slice A2 x.f2.length c2, .slice A3 x.f3.length c3] 70 ?_;intro gb hg w3 hbox hb;have BK:=Aside0.mk hbox;replace HB:=hs HB hb;clear hb hbox hg))
            replace BK:=Aside0.mk (au BK.out)
            replace HB:=Aside0.mk (ay HB.out)
            refine cB (n:=49) (S:=fun W_=>W_.cell? ⟨gb,0,none⟩=some (.int .i64 x.f0)∧W_.cell? ⟨gb,1,none⟩=some (.int .i64 x.f1)∧W_.cell? ⟨gb,2,none⟩=some (.slice A2 x.f2.length c2)∧W_.cell? ⟨gb,3,none⟩=some (.slice A3 x.f3.length c3)∧W_.cell? ⟨d.gu,0,none⟩=some (.slice d.A0 d.cs.length d.c0)∧W_.cell? ⟨d.gu,1,none⟩=some (.slice (some ad) d.ms.length d.c1)∧W_.cell? ⟨d.gv,0,none⟩=some (.func (.func 99) #[] #[d.pm])∧W_.cell? ⟨(ad.add (x.f0.toNat * 8)).block,(ad.add (x.f0.toNat * 8)).off+4,none⟩=some (.int .i64 (aa d.ms x.f0).f4)∧W_.cell? ⟨(ad.add (x.f0.toNat * 8)).block,(ad.add (x.f0.toNat * 8)).off+5,none⟩=some (.slice B5 (aa d.ms x.f0).f5.length e5)) (ds:= []) (upto 49 0) (by kernel_rfl) rfl rfl ⟨cz BK.out 0 rfl,cz BK.out 1 rfl,cz BK.out 2 rfl,cz BK.out 3 rfl,cz (E.out.below bl).hu 0 rfl,U1 _ (E.out.below bl),cz (E.out.below bl).hv 0 rfl,hc HB a,hc HB g⟩ (fun hHeld=> ?_);refine bB regF.tab1 regF.bits1 (fun HT_ HW_=> ?_)
            generalize World.drew _=wD at BK HB hHeld⊢
            repeat(first|refine vN ?_|refine pN ?_|refine tN ?_)
            refine cO (i:=3) (N:=some 8) (upto 49 4) rfl rfl (bI HT_.out (by kernel_rfl)) (by decide) (fun K hK=> ?_)
            refine gs Tryz.func67 #[.agg #[.slice d.A0 d.cs.length d.c0, .slice (some ad) d.ms.length d.c1], .int .i64 x.f0] rfl rfl ?_
            with_reducible refine(fu.calls _ _ d.cs _ _ d.ms x.f0 true _ (cb E.out.r0) E.out.l0 (cb R1.out) E.out.l1 A1.out).mono ?_
            rintro e_ w4 ⟨rfl,hb⟩
            refine⟨_,rfl, ?_⟩
            replace BK:=kb BK hb
            replace HB:=hs HB hb
            clear hb
            refine hK.out _ _ ⟨cz BK.out 0 rfl,cz BK.out 1 rfl,cz BK.out 2 rfl,cz BK.out 3 rfl,cz (E.out.below bl).hu 0 rfl,U1 _ (E.out.below bl),cz (E.out.below bl).hv 0 rfl,hc HB a,hc HB g⟩ (fun hHeld=> ?_)
            clear hK K
            refine no 8 ?_
            repeat(first|refine vN ?_|refine pN ?_|refine tN ?_)
            refine cO (i:=15) (N:=some 20) (upto 49 16) rfl rfl (bI HT_.out (by kernel_rfl)) (by decide) (fun K hK=> ?_)
            refine gs Tryz.func103 #[.int .i64 0, .int .i64 x.f1, .int .i64 ((aa d.ms x.f0).f5.length:Int)] rfl rfl ?_
            with_reducible refine(eH.calls 0 x.f1 _ true _ B1.out).mono ?_
            rintro e_ w5 ⟨rfl,⟨nd,rfl⟩⟩
            refine⟨_,rfl, ?_⟩
            replace BK:=kd_ BK nd
            replace HB:=Aside0.mk (aI HB.out nd)
            refine hK.out _ _ ⟨cz BK.out 0 rfl,cz BK.out 1 rfl,cz BK.out 2 rfl,cz BK.out 3 rfl,cz (E.out.below bl).hu 0 rfl,U1 _ (E.out.below bl),cz (E.out.below bl).hv 0 rfl,hc HB a,hc HB g⟩ (fun hHeld=> ?_)
            clear hK K
            refine no 20 ?_
            repeat(first|refine vN ?_|refine pN ?_|refine tN ?_)
            refine cO (i:=40) (N:=some 45) (upto 49 41) rfl rfl (bI HT_.out (by kernel_rfl)) (by decide) (fun K hK=> ?_)
            refine gs Tryz.func104 #[.slice A2 x.f2.length c2, .func (.func 99) #[] #[d.pm]] rfl rfl ?_
            refine(jV (E.out.below bl) A2 c2 x.f2 (cb HR2.out) j.out true D1.out).mono ?_
            rintro e_ w6 ⟨rfl,hb⟩
            refine⟨_,rfl, ?_⟩
            replace BK:=kb BK hb
            replace HB:=hs HB hb
            clear hb
            refine hK.out _ _ ⟨cz BK.out 0 rfl,cz BK.out 1 rfl,cz BK.out 2 rfl,cz BK.out 3 rfl,cz (E.out.below bl).hu 0 rfl,U1 _ (E.out.below bl),cz (E.out.below bl).hv 0 rfl,hc HB a,hc HB g⟩ (fun hHeld=> ?_)
            clear hK K
            refine no 45 ?_
            repeat(first|refine vN ?_|refine pN ?_|refine tN ?_)
            refine cO (i:=46) (N:=some 51) (upto 49 47) rfl rfl (bI HT_.out (by kernel_rfl)) (by decide) (fun K hK=> ?_)
            refine gs Tryz.func104 #[.slice A3 x.f3.length c3, .func (.func 99) #[] #[d.pm]] rfl rfl ?_
            refine(jV (E.out.below bl) A3 c3 x.f3 (cb HR3.out) p.out b D2.out).mono ?_
            rintro e_ w7 ⟨rfl,hb⟩
            refine⟨_,rfl, ?_⟩
            replace BK:=kb BK hb
            replace HB:=hs HB hb
            clear hb
            refine hK.out _ _ ⟨cz BK.out 0 rfl,cz BK.out 1 rfl,cz BK.out 2 rfl,cz BK.out 3 rfl,cz (E.out.below bl).hu 0 rfl,U1 _ (E.out.below bl),cz (E.out.below bl).hv 0 rfl,hc HB a,hc HB g⟩ (fun hHeld=> ?_)
            clear hK K
            refine no 51 ?_
            repeat(first|refine vN ?_|refine pN ?_|refine tN ?_)
            refine dD (bX HT_.out (by kernel_rfl)) ?_
            try go_wp2
            go_ret
            exact fin
          · have D1:=Aside0.mk d1
            clear b2 d1
            go_enter Tryz.func102,Tryz.ntmps102
            go_wp2_with (first|((with_reducible refine gd 3 rfl ?_);refine bx 3 #[.int .i64 x.f0, .int .i64 x.f1, .slice A2 x.f2.length c2, .slice A3 x.f3.length c3] 70 ?_;intro gb hg w3 hbox hb;have BK:=Aside0.mk hbox;replace HB:=hs HB hb;clear hb hbox hg))
            replace BK:=Aside0.mk (au BK.out)
            replace HB:=Aside0.mk (ay HB.out)
            refine cB (n:=49) (S:=fun W_=>W_.cell? ⟨gb,0,none⟩=some (.int .i64 x.f0)∧W_.cell? ⟨gb,1,none⟩=some (.int .i64 x.f1)∧W_.cell? ⟨gb,2,none⟩=some (.slice A2 x.f2.length c2)∧W_.cell? ⟨gb,3,none⟩=some (.slice A3 x.f3.length c3)∧W_.cell? ⟨d.gu,0,none⟩=some (.slice d.A0 d.cs.length d.c0)∧W_.cell? ⟨d.gu,1,none⟩=some (.slice (some ad) d.ms.length d.c1)∧W_.cell? ⟨d.gv,0,none⟩=some (.func (.func 99) #[] #[d.pm])∧W_.cell? ⟨(ad.add (x.f0.toNat * 8)).block,(ad.add (x.f0.toNat * 8)).off+4,none⟩=some (.int .i64 (aa d.ms x.f0).f4)∧W_.cell? ⟨(ad.add (x.f0.toNat * 8)).block,(ad.add (x.f0.toNat * 8)).off+5,none⟩=some (.slice B5 (aa d.ms x.f0).f5.length e5)) (ds:= []) (upto 49 0) (by kernel_rfl) rfl rfl ⟨cz BK.out 0 rfl,cz BK.out 1 rfl,cz BK.out 2 rfl,cz BK.out 3 rfl,cz (E.out.below bl).hu 0 rfl,U1 _ (E.out.below bl),cz (E.out.below bl).hv 0 rfl,hc HB a,hc HB g⟩ (fun hHeld=> ?_);refine bB regF.tab1 regF.bits1 (fun HT_ HW_=> ?_)
            generalize World.drew _=wD at BK HB hHeld⊢
            repeat(first|refine vN ?_|refine pN ?_|refine tN ?_)
            refine cO (i:=3) (N:=some 8) (upto 49 4) rfl rfl (bI HT_.out (by kernel_rfl)) (by decide) (fun K hK=> ?_)
            refine gs Tryz.func67 #[.agg #[.slice d.A0 d.cs.length d.c0, .slice (some ad) d.ms.length d.c1], .int .i64 x.f0] rfl rfl ?_
            with_reducible refine(fu.calls _ _ d.cs _ _ d.ms x.f0 true _ (cb E.out.r0) E.out.l0 (cb R1.out) E.out.l1 A1.out).mono ?_
            rintro e_ w4 ⟨rfl,hb⟩
            refine⟨_,rfl, ?_⟩
            replace BK:=kb BK hb
            replace HB:=hs HB hb
            clear hb
            refine hK.out _ _ ⟨cz BK.out 0 rfl,cz BK.out 1 rfl,cz BK.out 2 rfl,cz BK.out 3 rfl,cz (E.out.below bl).hu 0 rfl,U1 _ (E.out.below bl),cz (E.out.below bl).hv 0 rfl,hc HB a,hc HB g⟩ (fun hHeld=> ?_)
            clear hK K
            refine no 8 ?_
            repeat(first|refine vN ?_|refine pN ?_|refine tN ?_)
            refine cO (i:=15) (N:=some 20) (upto 49 16) rfl rfl (bI HT_.out (by kernel_rfl)) (by decide) (fun K hK=> ?_)
            refine gs Tryz.func103 #[.int .i64 0, .int .i64 x.f1, .int .i64 ((aa d.ms x.f0).f5.length:Int)] rfl rfl ?_
            with_reducible refine(eH.calls 0 x.f1 _ true _ B1.out).mono ?_
            rintro e_ w5 ⟨rfl,⟨nd,rfl⟩⟩
            refine⟨_,rfl, ?_⟩
            replace BK:=kd_ BK nd
            replace HB:=Aside0.mk (aI HB.out nd)
            refine hK.out _ _ ⟨cz BK.out 0 rfl,cz BK.out 1 rfl,cz BK.out 2 rfl,cz BK.out 3 rfl,cz (E.out.below bl).hu 0 rfl,U1 _ (E.out.below bl),cz (E.out.below bl).hv 0 rfl,hc HB a,hc HB g⟩ (fun hHeld=> ?_)
            clear hK K
            refine no 20 ?_
            repeat(first|refine vN ?_|refine pN ?_|refine tN ?_)
            refine cO (i:=40) (N:=some 45) (upto 49 41) rfl rfl (bI HT_.out (by kernel_rfl)) (by decide) (fun K hK=> ?_)
            refine gs Tryz.func104 #[.slice A2 x.f2.length c2, .func (.func 99) #[] #[d.pm]] rfl rfl ?_
            refine(jV (E.out.below bl) A2 c2 x.f2 (cb HR2.out) j.out false D1.out).mono ?_
            rintro e_ w6 ⟨rfl,hb⟩
            refine⟨_,rfl, ?_⟩
            replace BK:=kb BK hb
            replace HB:=hs HB hb
            clear hb
            refine hK.out _ _ ⟨cz BK.out 0 rfl,cz BK.out 1 rfl,cz BK.out 2 rfl,cz BK.out 3 rfl,cz (E.out.below bl).hu 0 rfl,U1 _ (E.out.below bl),cz (E.out.below bl).hv 0 rfl,hc HB a,hc HB g⟩ (fun hHeld=> ?_)
            clear hK K
            refine no 45 ?_
            repeat(first|refine vN ?_|refine pN ?_|refine tN ?_)
            refine dD (bX HT_.out (by kernel_rfl)) ?_
            try go_wp2
            go_ret
            exact fin
        · rw[if_neg c5]at b2
          obtain rfl:=Option.some.inj b2
          have m:decide ((x.f3.length:Int)≤4)=false:=decide_eq_false c5
          have o:decide (x.f3.length≤4)=false:=decide_eq_false (by omega)
          clear c5 b2
          go_enter Tryz.func102,Tryz.ntmps102
          go_wp2_with (first|((with_reducible refine gd 3 rfl ?_);refine bx 3 #[.int .i64 x.f0, .int .i64 x.f1, .slice A2 x.f2.length c2, .slice A3 x.f3.length c3] 70 ?_;intro gb hg w3 hbox hb;have BK:=Aside0.mk hbox;replace HB:=hs HB hb;clear hb hbox hg))
          replace BK:=Aside0.mk (au BK.out)
          replace HB:=Aside0.mk (ay HB.out)
          refine cB (n:=49) (S:=fun W_=>W_.cell? ⟨gb,0,none⟩=some (.int .i64 x.f0)∧W_.cell? ⟨gb,1,none⟩=some (.int .i64 x.f1)∧W_.cell? ⟨gb,2,none⟩=some (.slice A2 x.f2.length c2)∧W_.cell? ⟨gb,3,none⟩=some (.slice A3 x.f3.length c3)∧W_.cell? ⟨d.gu,0,none⟩=some (.slice d.A0 d.cs.length d.c0)∧W_.cell? ⟨d.gu,1,none⟩=some (.slice (some ad) d.ms.length d.c1)∧W_.cell? ⟨d.gv,0,none⟩=some (.func (.func 99) #[] #[d.pm])∧W_.cell? ⟨(ad.add (x.f0.toNat * 8)).block,(ad.add (x.f0.toNat * 8)).off+4,none⟩=some (.int .i64 (aa d.ms x.f0).f4)∧W_.cell? ⟨(ad.add (x.f0.toNat * 8)).block,(ad.add (x.f0.toNat * 8)).off+5,none⟩=some (.slice B5 (aa d.ms x.f0).f5.length e5)) (ds:= []) (upto 49 0) (by kernel_rfl) rfl rfl ⟨cz BK.out 0 rfl,cz BK.out 1 rfl,cz BK.out 2 rfl,cz BK.out 3 rfl,cz (E.out.below bl).hu 0 rfl,U1 _ (E.out.below bl),cz (E.out.below bl).hv 0 rfl,hc HB a,hc HB g⟩ (fun hHeld=> ?_);refine bB regF.tab1 regF.bits1 (fun HT_ HW_=> ?_)
          generalize World.drew _=wD at BK HB hHeld⊢
          repeat(first|refine vN ?_|refine pN ?_|refine tN ?_)
          refine cO (i:=3) (N:=some 8) (upto 49 4) rfl rfl (bI HT_.out (by kernel_rfl)) (by decide) (fun K hK=> ?_)
          refine gs Tryz.func67 #[.agg #[.slice d.A0 d.cs.length d.c0, .slice (some ad) d.ms.length d.c1], .int .i64 x.f0] rfl rfl ?_
          with_reducible refine(fu.calls _ _ d.cs _ _ d.ms x.f0 true _ (cb E.out.r0) E.out.l0 (cb R1.out) E.out.l1 A1.out).mono ?_
          rintro e_ w4 ⟨rfl,hb⟩
          refine⟨_,rfl, ?_⟩
          replace BK:=kb BK hb
          replace HB:=hs HB hb
          clear hb
          refine hK.out _ _ ⟨cz BK.out 0 rfl,cz BK.out 1 rfl,cz BK.out 2 rfl,cz BK.out 3 rfl,cz (E.out.below bl).hu 0 rfl,U1 _ (E.out.below bl),cz (E.out.below bl).hv 0 rfl,hc HB a,hc HB g⟩ (fun hHeld=> ?_)
          clear hK K
          refine no 8 ?_
          repeat(first|refine vN ?_|refine pN ?_|refine tN ?_)
          refine cO (i:=15) (N:=some 20) (upto 49 16) rfl rfl (bI HT_.out (by kernel_rfl)) (by decide) (fun K hK=> ?_)
          refine gs Tryz.func103 #[.int .i64 0, .int .i64 x.f1, .int .i64 ((aa d.ms x.f0).f5.length:Int)] rfl rfl ?_
          with_reducible refine(eH.calls 0 x.f1 _ true _ B1.out).mono ?_
          rintro e_ w5 ⟨rfl,⟨nd,rfl⟩⟩
          refine⟨_,rfl, ?_⟩
          replace BK:=kd_ BK nd
          replace HB:=Aside0.mk (aI HB.out nd)
          refine hK.out _ _ ⟨cz BK.out 0 rfl,cz BK.out 1 rfl,cz BK.out 2 rfl,cz BK.out 3 rfl,cz (E.out.below bl).hu 0 rfl,U1 _ (E.out.below bl),cz (E.out.below bl).hv 0 rfl,hc HB a,hc HB g⟩ (fun hHeld=> ?_)
          clear hK K
          refine no 20 ?_
          repeat(first|refine vN ?_|refine pN ?_|refine tN ?_)
          refine dD (bX HT_.out (by kernel_rfl)) ?_
          try go_wp2
          go_ret
          exact fin
      · rw[if_neg c1]at b2
        obtain rfl:=Option.some.inj b2
        have k:=beq_eq_false_iff_ne.mpr c1
        have l:=bne_iff_ne.mpr c1
        clear c1 b2
        go_enter Tryz.func102,Tryz.ntmps102
        go_wp2_with (first|((with_reducible refine gd 3 rfl ?_);refine bx 3 #[.int .i64 x.f0, .int .i64 x.f1, .slice A2 x.f2.length c2, .slice A3 x.f3.length c3] 70 ?_;intro gb hg w3 hbox hb;have BK:=Aside0.mk hbox;replace HB:=hs HB hb;clear hb hbox hg))
        replace BK:=Aside0.mk (au BK.out)
        replace HB:=Aside0.mk (ay HB.out)
        refine cB (n:=49) (S:=fun W_=>W_.cell? ⟨gb,0,none⟩=some (.int .i64 x.f0)∧W_.cell? ⟨gb,1,none⟩=some (.int .i64 x.f1)∧W_.cell? ⟨gb,2,none⟩=some (.slice A2 x.f2.length c2)∧W_.cell? ⟨gb,3,none⟩=some (.slice A3 x.f3.length c3)∧W_.cell? ⟨d.gu,0,none⟩=some (.slice d.A0 d.cs.length d.c0)∧W_.cell? ⟨d.gu,1,none⟩=some (.slice (some ad) d.ms.length d.c1)∧W_.cell? ⟨d.gv,0,none⟩=some (.func (.func 99) #[] #[d.pm])∧W_.cell? ⟨(ad.add (x.f0.toNat * 8)).block,(ad.add (x.f0.toNat * 8)).off+4,none⟩=some (.int .i64 (aa d.ms x.f0).f4)∧W_.cell? ⟨(ad.add (x.f0.toNat * 8)).block,(ad.add (x.f0.toNat * 8)).off+5,none⟩=some (.slice B5 (aa d.ms x.f0).f5.length e5)) (ds:= []) (upto 49 0) (by kernel_rfl) rfl rfl ⟨cz BK.out 0 rfl,cz BK.out 1 rfl,cz BK.out 2 rfl,cz BK.out 3 rfl,cz (E.out.below bl).hu 0 rfl,U1 _ (E.out.below bl),cz (E.out.below bl).hv 0 rfl,hc HB a,hc HB g⟩ (fun hHeld=> ?_);refine bB regF.tab1 regF.bits1 (fun HT_ HW_=> ?_)
        generalize World.drew _=wD at BK HB hHeld⊢
        repeat(first|refine vN ?_|refine pN ?_|refine tN ?_)
        refine cO (i:=3) (N:=some 8) (upto 49 4) rfl rfl (bI HT_.out (by kernel_rfl)) (by decide) (fun K hK=> ?_)
        refine gs Tryz.func67 #[.agg #[.slice d.A0 d.cs.length d.c0, .slice (some ad) d.ms.length d.c1], .int .i64 x.f0] rfl rfl ?_
        with_reducible refine(fu.calls _ _ d.cs _ _ d.ms x.f0 true _ (cb E.out.r0) E.out.l0 (cb R1.out) E.out.l1 A1.out).mono ?_
        rintro e_ w4 ⟨rfl,hb⟩
        refine⟨_,rfl, ?_⟩
        replace BK:=kb BK hb
        replace HB:=hs HB hb
        clear hb
        refine hK.out _ _ ⟨cz BK.out 0 rfl,cz BK.out 1 rfl,cz BK.out 2 rfl,cz BK.out 3 rfl,cz (E.out.below bl).hu 0 rfl,U1 _ (E.out.below bl),cz (E.out.below bl).hv 0 rfl,hc HB a,hc HB g⟩ (fun hHeld=> ?_)
        clear hK K
        refine no 8 ?_
        repeat(first|refine vN ?_|refine pN ?_|refine tN ?_)
        refine cO (i:=15) (N:=some 20) (upto 49 16) rfl rfl (bI HT_.out (by kernel_rfl)) (by decide) (fun K hK=> ?_)
        refine gs Tryz.func103 #[.int .i64 0, .int .i64 x.f1, .int .i64 ((aa d.ms x.f0).f5.length:Int)] rfl rfl ?_
        with_reducible refine(eH.calls 0 x.f1 _ true _ B1.out).mono ?_
        rintro e_ w5 ⟨rfl,⟨nd,rfl⟩⟩
        refine⟨_,rfl, ?_⟩
        replace BK:=kd_ BK nd
        replace HB:=Aside0.mk (aI HB.out nd)
        refine hK.out _ _ ⟨cz BK.out 0 rfl,cz BK.out 1 rfl,cz BK.out 2 rfl,cz BK.out 3 rfl,cz (E.out.below bl).hu 0 rfl,U1 _ (E.out.below bl),cz (E.out.below bl).hv 0 rfl,hc HB a,hc HB g⟩ (fun hHeld=> ?_)
        clear hK K
        refine no 20 ?_
        repeat(first|refine vN ?_|refine pN ?_|refine tN ?_)
        refine dD (bX HT_.out (by kernel_rfl)) ?_
        try go_wp2
        go_ret
        exact fin
    · have B1:=Aside0.mk b1
      clear a2 b1
      go_enter Tryz.func102,Tryz.ntmps102
      go_wp2_with (first|((with_reducible refine gd 3 rfl ?_);refine bx 3 #[.int .i64 x.f0, .int .i64 x.f1, .slice A2 x.f2.length c2, .slice A3 x.f3.length c3] 70 ?_;intro gb hg w3 hbox hb;have BK:=Aside0.mk hbox;replace HB:=hs HB hb;clear hb hbox hg))
      replace BK:=Aside0.mk (au BK.out)
      replace HB:=Aside0.mk (ay HB.out)
      refine cB (n:=49) (S:=fun W_=>W_.cell? ⟨gb,0,none⟩=some (.int .i64 x.f0)∧W_.cell? ⟨gb,1,none⟩=some (.int .i64 x.f1)∧W_.cell? ⟨gb,2,none⟩=some (.slice A2 x.f2.length c2)∧W_.cell? ⟨gb,3,none⟩=some (.slice A3 x.f3.length c3)∧W_.cell? ⟨d.gu,0,none⟩=some (.slice d.A0 d.cs.length d.c0)∧W_.cell? ⟨d.gu,1,none⟩=some (.slice (some ad) d.ms.length d.c1)∧W_.cell? ⟨d.gv,0,none⟩=some (.func (.func 99) #[] #[d.pm])∧W_.cell? ⟨(ad.add (x.f0.toNat * 8)).block,(ad.add (x.f0.toNat * 8)).off+4,none⟩=some (.int .i64 (aa d.ms x.f0).f4)∧W_.cell? ⟨(ad.add (x.f0.toNat * 8)).block,(ad.add (x.f0.toNat * 8)).off+5,none⟩=some (.slice B5 (aa d.ms x.f0).f5.length e5)) (ds:= []) (upto 49 0) (by kernel_rfl) rfl rfl ⟨cz BK.out 0 rfl,cz BK.out 1 rfl,cz BK.out 2 rfl,cz BK.out 3 rfl,cz (E.out.below bl).hu 0 rfl,U1 _ (E.out.below bl),cz (E.out.below bl).hv 0 rfl,hc HB a,hc HB g⟩ (fun hHeld=> ?_);refine bB regF.tab1 regF.bits1 (fun HT_ HW_=> ?_)
      generalize World.drew _=wD at BK HB hHeld⊢
      repeat(first|refine vN ?_|refine pN ?_|refine tN ?_)
      refine cO (i:=3) (N:=some 8) (upto 49 4) rfl rfl (bI HT_.out (by kernel_rfl)) (by decide) (fun K hK=> ?_)
      refine gs Tryz.func67 #[.agg #[.slice d.A0 d.cs.length d.c0, .slice (some ad) d.ms.length d.c1], .int .i64 x.f0] rfl rfl ?_
      with_reducible refine(fu.calls _ _ d.cs _ _ d.ms x.f0 true _ (cb E.out.r0) E.out.l0 (cb R1.out) E.out.l1 A1.out).mono ?_
      rintro e_ w4 ⟨rfl,hb⟩
      refine⟨_,rfl, ?_⟩
      replace BK:=kb BK hb
      replace HB:=hs HB hb
      clear hb
      refine hK.out _ _ ⟨cz BK.out 0 rfl,cz BK.out 1 rfl,cz BK.out 2 rfl,cz BK.out 3 rfl,cz (E.out.below bl).hu 0 rfl,U1 _ (E.out.below bl),cz (E.out.below bl).hv 0 rfl,hc HB a,hc HB g⟩ (fun hHeld=> ?_)
      clear hK K
      refine no 8 ?_
      repeat(first|refine vN ?_|refine pN ?_|refine tN ?_)
      refine cO (i:=15) (N:=some 20) (upto 49 16) rfl rfl (bI HT_.out (by kernel_rfl)) (by decide) (fun K hK=> ?_)
      refine gs Tryz.func103 #[.int .i64 0, .int .i64 x.f1, .int .i64 ((aa d.ms x.f0).f5.length:Int)] rfl rfl ?_
      with_reducible refine(eH.calls 0 x.f1 _ false _ B1.out).mono ?_
      rintro e_ w5 ⟨rfl,⟨nd,rfl⟩⟩
      refine⟨_,rfl, ?_⟩
      replace BK:=kd_ BK nd
      replace HB:=Aside0.mk (aI HB.out nd)
      refine hK.out _ _ ⟨cz BK.out 0 rfl,cz BK.out 1 rfl,cz BK.out 2 rfl,cz BK.out 3 rfl,cz (E.out.below bl).hu 0 rfl,U1 _ (E.out.below bl),cz (E.out.below bl).hv 0 rfl,hc HB a,hc HB g⟩ (fun hHeld=> ?_)
      clear hK K
      refine no 20 ?_
      repeat(first|refine vN ?_|refine pN ?_|refine tN ?_)
      refine dD (bX HT_.out (by kernel_rfl)) ?_
      try go_wp2
      go_ret
      exact fin
  · have A1:=Aside0.mk a1
    clear a1 h
    have U1: ∀W,MEnv d W→W.cell? ⟨d.gu,1,none⟩=some (.slice d.A1 d.ms.length d.c1):=fun W hW=>cz hW.hu 1 rfl
    have R1:=Aside0.mk E.out.r1
    go_enter Tryz.func102,Tryz.ntmps102
    go_wp2_with (first|((with_reducible refine gd 3 rfl ?_);refine bx 3 #[.int .i64 x.f0, .int .i64 x.f1, .slice A2 x.f2.length c2, .slice A3 x.f3.length c3] 70 ?_;intro gb hg w3 hbox hb;have BK:=Aside0.mk hbox;replace HB:=hs HB hb;clear hb hbox hg))
    replace BK:=Aside0.mk (au BK.out)
    replace HB:=Aside0.mk (ay HB.out)
    refine cB (n:=49) (S:=fun W_=>W_.cell? ⟨gb,0,none⟩=some (.int .i64 x.f0)∧W_.cell? ⟨gb,1,none⟩=some (.int .i64 x.f1)∧W_.cell? ⟨gb,2,none⟩=some (.slice A2 x.f2.length c2)∧W_.cell? ⟨gb,3,none⟩=some (.slice A3 x.f3.length c3)∧W_.cell? ⟨d.gu,0,none⟩=some (.slice d.A0 d.cs.length d.c0)∧W_.cell? ⟨d.gu,1,none⟩=some (.slice d.A1 d.ms.length d.c1)∧W_.cell? ⟨d.gv,0,none⟩=some (.func (.func 99) #[] #[d.pm])) (ds:= []) (upto 49 0) (by kernel_rfl) rfl rfl ⟨cz BK.out 0 rfl,cz BK.out 1 rfl,cz BK.out 2 rfl,cz BK.out 3 rfl,cz (E.out.below bl).hu 0 rfl,U1 _ (E.out.below bl),cz (E.out.below bl).hv 0 rfl⟩ (fun hHeld=> ?_);refine bB regF.tab1 regF.bits1 (fun HT_ HW_=> ?_)
    generalize World.drew _=wD at BK HB hHeld⊢
    repeat(first|refine vN ?_|refine pN ?_|refine tN ?_)
    refine cO (i:=3) (N:=some 8) (upto 49 4) rfl rfl (bI HT_.out (by kernel_rfl)) (by decide) (fun K hK=> ?_)
    refine gs Tryz.func67 #[.agg #[.slice d.A0 d.cs.length d.c0, .slice d.A1 d.ms.length d.c1], .int .i64 x.f0] rfl rfl ?_
    with_reducible refine(fu.calls _ _ d.cs _ _ d.ms x.f0 false _ (cb E.out.r0) E.out.l0 (cb R1.out) E.out.l1 A1.out).mono ?_
    rintro e_ w4 ⟨rfl,hb⟩
    refine⟨_,rfl, ?_⟩
    replace BK:=kb BK hb
    replace HB:=hs HB hb
    clear hb
    refine hK.out _ _ ⟨cz BK.out 0 rfl,cz BK.out 1 rfl,cz BK.out 2 rfl,cz BK.out 3 rfl,cz (E.out.below bl).hu 0 rfl,U1 _ (E.out.below bl),cz (E.out.below bl).hv 0 rfl⟩ (fun hHeld=> ?_)
    clear hK K
    refine no 8 ?_
    repeat(first|refine vN ?_|refine pN ?_|refine tN ?_)
    refine dD (bX HT_.out (by kernel_rfl)) ?_
    try go_wp2
    go_ret
    exact fin
set_option maxHeartbeats 8000000 in
set_option maxRecDepth 100000 in
theorem pY {d:MD} {w:World} (hE:MEnv d w) (A:Option Addr) (c:Nat) (xs:List S70) (hr:Kd.C k70 w A xs.length xs) (hc:xs.length≤c) (b:Bool) (h:everyG (iY d.cs d.ms (d.objs.length:Int)) xs=some b):Ask 118 #[.slice A xs.length c, .func (.func 102) #[] #[d.pu,d.pv]] w b:=by
  have E:=Aside0.mk hE
  clear hE
  have HR:=Aside0.mk hr
  have HC:=Aside0.mk hc
  have HB:=Aside0.mk (Below.refl w.heap.size w)
  have HL:=Aside0.mk (gD h).1
  have H' :=Aside0.mk (gD h).2
  clear hr hc h
  unfold Ask
  go_enter Tryz.func118,Tryz.ntmps118
  go_wp2
  go_loopg [9] xs.length (fun kq v9 w' => ∃(x9:Int),v9= .int .i64 x9∧Aside0 (0≤x9∧x9+(kq:Int)=(xs.length:Int))∧Aside0 (everyB (iY d.cs d.ms (d.objs.length:Int)) (xs.drop x9.toNat)=some b)∧Aside0 (Below w.heap.size w w'))
  case atStart=>exact⟨0,rfl,⟨by omega,by omega⟩,H',⟨bl⟩⟩
  case round=>
    clear H'
    obtain⟨x9,rfl,HI,HA,HBn⟩:=hrel
    clear HB
    have HB:=HBn
    clear HBn
    by_cases c3:x9<(xs.length:Int)
    · have c4:0≤x9:=HI.out.1
      have HH:=HA.out
      rw[jr xs z70 (show x9.toNat<xs.length by omega)]at HH
      have HH:=gH HH
      have C3:=Aside0.mk c3
      have C4:=Aside0.mk c4
      obtain⟨ad,B2,e2,B3,e3,e,hx0,hx1,hx2,hx3,hl2,hk2,hl3,hk3⟩:=kv HR.out x9 C4.out C3.out;have HL2:=Aside0.mk hl2;have a:=Aside0.mk hk2;have g:=Aside0.mk hl3;have i:=Aside0.mk hk3;clear hl2 hk2 hl3 hk3
      cases e
      replace hx0:=hc HB hx0;replace hx1:=hc HB hx1;replace hx2:=hc HB hx2;replace hx3:=hc HB hx3
      have j:decide (x9<(xs.length:Int))=true:=decide_eq_true c3
      have k:decide (0≤x9)=true:=decide_eq_true c4
      cases gk with
      |zero=>exfalso;have:=HI.out.2;omega
      |succ k1=>
      replace c3:=eq_true c3
      replace c4:=eq_true c4
      rcases HH with⟨a1,a2⟩|⟨a1,rfl⟩
      · have A1:=Aside0.mk (show(iY d.cs d.ms (d.objs.length:Int)) (aY xs x9)=some true from a1)
        have A2:=Aside0.mk a2
        clear a1 a2
        go_wp2_with (first|((with_reducible refine gd 6 rfl ?_);refine bx 6 #[.int .i64 0, .int .i64 0, .slice none 0 0, .slice none 0 0] 70 ?_;intro gb hg w5 hbox hb;have BK:=Aside0.mk hbox;have GE:=hz HB hg;replace hx0:=hc (w:=wr) ⟨hb⟩ hx0;replace hx1:=hc (w:=wr) ⟨hb⟩ hx1;replace hx2:=hc (w:=wr) ⟨hb⟩ hx2;replace hx3:=hc (w:=wr) ⟨hb⟩ hx3;replace HB:=hs HB hb;clear hb hbox hg;have hcf:=cf4 BK)|(refine(nR (E.out.below bl) (aY xs x9) _ _ _ _ (cb a.out) HL2.out (cb i.out) g.out true A1.out).mono ?_;rintro e w9 ⟨rfl,hb⟩;replace HB:=hs HB hb;clear hb))
        go_roundg k1
        case measure=>omega
        case rel=>
          have hw:wrap64 (x9+1)=x9+1:=by have:=C3.out;have:=C4.out;have:=HL.out;unfold wrap64;omega
          refine⟨x9+1,(by rw[hw]),⟨by have:=C4.out;omega,by have:=HI.out.2;omega⟩,⟨by rw[show(x9+1).toNat=x9.toNat+1 by have:=C4.out;omega];exact A2.out⟩,⟨bl⟩⟩
      · have A1:=Aside0.mk (show(iY d.cs d.ms (d.objs.length:Int)) (aY xs x9)=some false from a1)
        clear a1
        go_wp2_with (first|((with_reducible refine gd 6 rfl ?_);refine bx 6 #[.int .i64 0, .int .i64 0, .slice none 0 0, .slice none 0 0] 70 ?_;intro gb hg w5 hbox hb;have BK:=Aside0.mk hbox;have GE:=hz HB hg;replace hx0:=hc (w:=wr) ⟨hb⟩ hx0;replace hx1:=hc (w:=wr) ⟨hb⟩ hx1;replace hx2:=hc (w:=wr) ⟨hb⟩ hx2;replace hx3:=hc (w:=wr) ⟨hb⟩ hx3;replace HB:=hs HB hb;clear hb hbox hg;have hcf:=cf4 BK)|(refine(nR (E.out.below bl) (aY xs x9) _ _ _ _ (cb a.out) HL2.out (cb i.out) g.out false A1.out).mono ?_;rintro e w9 ⟨rfl,hb⟩;replace HB:=hs HB hb;clear hb))
        go_ret
        exact fin
    · have j:decide (x9<(xs.length:Int))=false:=decide_eq_false c3
      have HH:=HA.out
      rw[List.drop_of_length_le (by have:=HI.out;omega)]at HH
      obtain rfl:=Option.some.inj HH
      go_wp2
      go_ret
      exact fin
def kP (d:MD) (f:Nat) (args:Array Value) (a:Option Bool):Prop:= ∀w b,MEnv d w→a=some b→Ask f args w b
set_option maxHeartbeats 8000000 in
set_option maxRecDepth 100000 in
theorem vY (d:MD):kP d 106 #[d.pm] (eH.f 0 d.st 200):=by
  intro w b hE h
  have E:=Aside0.mk hE
  have HB:=Aside0.mk (Below.refl w.heap.size w)
  unfold Ask
  have hu:=Tryz.underlying33
  have A1:=Aside0.mk h
  have h0:=cz hE.hm 3 rfl
  clear hE h
  go_enter Tryz.func106,Tryz.ntmps106
  go_wp2_with (first|((with_reducible refine gc 103 rfl ?_);refine gl (some 4) Tryz.func103 #[.int .i64 0, .int .i64 d.st, .int .i64 200] rfl ?_;(refine(eH.calls 0 d.st 200 b _ A1.out).mono ?_);rintro e_ w4 ⟨rfl,⟨nd,rfl⟩⟩;refine⟨_,rfl, ?_⟩;skip))
  go_ret
  exact fin
set_option maxHeartbeats 8000000 in
set_option maxRecDepth 100000 in
theorem vZ (d:MD):kP d 107 #[d.pm] (eH.f 7 (d.objs.length:Int) 207):=by
  intro w b hE h
  have E:=Aside0.mk hE
  have HB:=Aside0.mk (Below.refl w.heap.size w)
  unfold Ask
  have hu:=Tryz.underlying33
  have A1:=Aside0.mk h
  have h0:=cz hE.hm 0 rfl
  clear hE h
  go_enter Tryz.func107,Tryz.ntmps107
  go_wp2_with (first|((with_reducible refine gc 103 rfl ?_);refine gl (some 5) Tryz.func103 #[.int .i64 7, .int .i64 (d.objs.length:Int), .int .i64 207] rfl ?_;(refine(eH.calls 7 (d.objs.length:Int) 207 b _ A1.out).mono ?_);rintro e_ w4 ⟨rfl,⟨nd,rfl⟩⟩;refine⟨_,rfl, ?_⟩;skip))
  go_ret
  exact fin
set_option maxHeartbeats 8000000 in
set_option maxRecDepth 100000 in
theorem wh (d:MD):kP d 108 #[d.pm] (if(d.frs.length:Int)≤4 then some (decide ((d.said.length:Int)≤200))else some false):=by
  intro w b hE h
  have E:=Aside0.mk hE
  have HB:=Aside0.mk (Below.refl w.heap.size w)
  unfold Ask
  have hu:=Tryz.underlying33
  have h0:=cz hE.hm 1 rfl
  have h1:=cz hE.hm 2 rfl
  by_cases c:(d.frs.length:Int)≤4
  · rw[if_pos c]at h
    obtain rfl:=Option.some.inj h
    have a:decide ((d.frs.length:Int)≤4)=true:=decide_eq_true c
    have e:decide (d.frs.length≤4)=true:=decide_eq_true (by omega)
    clear c hE h
    go_enter Tryz.func108,Tryz.ntmps108
    go_wp2
    go_ret
    exact fin
  · rw[if_neg c]at h
    obtain rfl:=Option.some.inj h
    have a:decide ((d.frs.length:Int)≤4)=false:=decide_eq_false c
    have e:decide (d.frs.length≤4)=false:=decide_eq_false (by omega)
    clear c hE h
    go_enter Tryz.func108,Tryz.ntmps108
    go_wp2
    go_ret
    exact fin
set_option maxHeartbeats 8000000 in
set_option maxRecDepth 100000 in
theorem wm (d:MD):kP d 109 #[d.pm] (everyG dU.f d.said):=by
  intro w b hE h
  have E:=Aside0.mk hE
  have HB:=Aside0.mk (Below.refl w.heap.size w)
  unfold Ask
  have hu:=Tryz.underlying33
  have A1:=Aside0.mk h
  have h0:=cz hE.hm 2 rfl
  clear hE h
  go_enter Tryz.func109,Tryz.ntmps109
  go_wp2_with (first|((with_reducible refine gc 110 rfl ?_);refine gl (some 4) Tryz.func110 #[.slice d.B2 d.said.length d.d2, .func (.func 101) #[] #[]] rfl ?_;(refine(qK trivial _ _ d.said (cb E.out.r4) E.out.l4 b A1.out).mono ?_);rintro e_ w4 ⟨rfl,hb⟩;refine⟨_,rfl, ?_⟩;replace HB:=hs HB hb))
  go_ret
  exact fin
set_option maxHeartbeats 8000000 in
set_option maxRecDepth 100000 in
theorem wo (d:MD):kP d 111 #[d.pm] (if 7≤d.objs.length then everyG (fun o=>some (o.f0==1)) (d.objs.take 7)else none):=by
  intro w b hE h
  have E:=Aside0.mk hE
  have HB:=Aside0.mk (Below.refl w.heap.size w)
  unfold Ask
  have hu:=Tryz.underlying33
  by_cases c:7≤d.objs.length
  case neg=>rw[if_neg c]at h;cases h
  rw[if_pos c]at h
  have A1:=Aside0.mk h
  have h0:=cz hE.hm 0 rfl
  have hl:=hE.l2
  have h7:(d.objs.take 7).length=7:=by simp;omega
  have HC:=Aside0.mk (Kd.C_take hE.r2 c)
  have HL:=Aside0.mk (show(d.objs.take 7).length≤d.d0 by omega)
  have H7:=Aside0.mk h7
  have c0:7≤d.d0:=by omega
  have a:=decide_eq_true c0
  have e:decide ((7:Int)≤(d.d0:Int))=true:=decide_eq_true (by omega)
  clear hE h c hl h7
  go_enter Tryz.func111,Tryz.ntmps111
  go_wp2_with (first|((with_reducible refine gc 112 rfl ?_);refine gl (some 5) Tryz.func112 #[.slice d.B0 7 d.d0, .func (.func 113) #[] #[]] rfl ?_;(refine((by have hq:=pX (w:=w) trivial d.B0 d.d0 (d.objs.take 7) HC.out HL.out b A1.out;rw[H7.out]at hq;exact hq:Ask _ _ w b)).mono ?_);rintro e_ w4 ⟨rfl,hb⟩;refine⟨_,rfl, ?_⟩;replace HB:=hs HB hb))
  go_ret
  exact fin
set_option maxHeartbeats 8000000 in
set_option maxRecDepth 100000 in
theorem wu (d:MD) (k:Nat):kP d 114 #[d.pm,d.pu,d.pv] (everyG (jX k d.cs (d.objs.length:Int)) d.objs):=by
  intro w b hE h
  have E:=Aside0.mk hE
  have HB:=Aside0.mk (Below.refl w.heap.size w)
  unfold Ask
  have hu:=Tryz.underlying33
  have A1:=Aside0.mk h
  have h0:=cz hE.hm 0 rfl
  clear hE h
  go_enter Tryz.func114,Tryz.ntmps114
  go_wp2_with (first|((with_reducible refine gc 112 rfl ?_);refine gl (some 7) Tryz.func112 #[.slice d.B0 d.objs.length d.d0, .func (.func 115) #[] #[d.pu,d.pv]] rfl ?_;(refine(rW (E.out.below bl) k _ _ d.objs (cb E.out.r2) E.out.l2 b A1.out).mono ?_);rintro e_ w4 ⟨rfl,hb⟩;refine⟨_,rfl, ?_⟩;replace HB:=hs HB hb))
  go_ret
  exact fin
set_option maxHeartbeats 8000000 in
set_option maxRecDepth 100000 in
theorem ww (d:MD):kP d 117 #[d.pm,d.pf] (everyG (iY d.cs d.ms (d.objs.length:Int)) d.frs):=by
  intro w b hE h
  have E:=Aside0.mk hE
  have HB:=Aside0.mk (Below.refl w.heap.size w)
  unfold Ask
  have hu:=Tryz.underlying33
  have A1:=Aside0.mk h
  have h0:=cz hE.hm 1 rfl
  have h1:=cz hE.hf 0 rfl
  clear hE h
  go_enter Tryz.func117,Tryz.ntmps117
  go_wp2_with (first|((with_reducible refine gc 118 rfl ?_);refine gl (some 6) Tryz.func118 #[.slice d.B1 d.frs.length d.d1, .func (.func 102) #[] #[d.pu,d.pv]] rfl ?_;(refine(pY (E.out.below bl) _ _ d.frs (cb E.out.r3) E.out.l3 b A1.out).mono ?_);rintro e_ w4 ⟨rfl,hb⟩;refine⟨_,rfl, ?_⟩;replace HB:=hs HB hb))
  go_ret
  exact fin
set_option maxHeartbeats 8000000 in
set_option maxRecDepth 100000 in
theorem vX (d:MD) (k:Nat):kP d 119 #[d.pv,d.pm] (thenB (jq (d.objs.length:Int) ⟨d.rf,d.n⟩) (ed.f k d.objs d.frs d.said d.st d.en d.rf d.n)):=by
  intro w b hE h
  have E:=Aside0.mk hE
  have HB:=Aside0.mk (Below.refl w.heap.size w)
  unfold Ask
  have hu:=Tryz.underlying33
  have h0:=cz hE.hv 0 rfl
  have a:=cz hE.hm 0 rfl
  have c:=cz hE.hm 1 rfl
  have e:=cz hE.hm 2 rfl
  have g:=cz hE.hm 3 rfl
  have i:=cz hE.hm 4 rfl
  have j:=cz hE.hm 5 rfl
  have l:=cz hE.hm 6 rfl
  rcases gH h with⟨a1,a2⟩|⟨a1,rfl⟩
  · have A1:=Aside0.mk a1
    have A2:=Aside0.mk a2
    clear hE h a1 a2
    go_enter Tryz.func119,Tryz.ntmps119
    go_wp2_with (first|(refine(lU (E.out.below bl) ⟨d.rf,d.n⟩ true A1.out).mono ?_;rintro e_ w9 ⟨rfl,hb⟩;replace HB:=hs HB hb;clear hb;have a:=cz (E.out.below HB.out).hm 0 rfl;have c:=cz (E.out.below HB.out).hm 1 rfl;have e:=cz (E.out.below HB.out).hm 2 rfl;have g:=cz (E.out.below HB.out).hm 3 rfl;have i:=cz (E.out.below HB.out).hm 4 rfl;have j:=cz (E.out.below HB.out).hm 5 rfl;have l:=cz (E.out.below HB.out).hm 6 rfl)|(go_at_call 120;(refine(ed.calls k _ _ d.objs _ _ d.frs _ _ d.said d.st d.en d.rf d.n b _ (cb E.out.r2) E.out.l2 (cb E.out.r3) E.out.l3 (cb E.out.r4) E.out.l4 A2.out).mono ?_);rintro e_ w4 ⟨rfl,hb⟩;replace HB:=hs HB hb))
    go_ret
    exact fin
  · have A1:=Aside0.mk a1
    clear hE h a1
    go_enter Tryz.func119,Tryz.ntmps119
    go_wp2_with (first|(refine(lU (E.out.below bl) ⟨d.rf,d.n⟩ false A1.out).mono ?_;rintro e_ w9 ⟨rfl,hb⟩;replace HB:=hs HB hb;clear hb;have a:=cz (E.out.below HB.out).hm 0 rfl;have c:=cz (E.out.below HB.out).hm 1 rfl;have e:=cz (E.out.below HB.out).hm 2 rfl;have g:=cz (E.out.below HB.out).hm 3 rfl;have i:=cz (E.out.below HB.out).hm 4 rfl;have j:=cz (E.out.below HB.out).hm 5 rfl;have l:=cz (E.out.below HB.out).hm 6 rfl))
    go_ret
    exact fin
def vI (d:MD) (v:Value) (a:Option Bool):Prop:= ∃f args,v= .func (.func f) #[] args∧(∀W,Sem.run Tryz.prog (callFunc f args) W= .ok (.enter f args) W)∧kP d f args a
theorem rX {l:List (Option Bool)} {i:Nat} {a:Option Bool} (h:l[i]? =some a):nu (l.drop i)=thenB a (nu (l.drop (i+1))):=by
  obtain⟨hi,e⟩:=List.getElem?_eq_some_iff.1 h
  rw[List.drop_eq_getElem_cons hi,e];rfl
set_option maxHeartbeats 8000000 in
set_option maxRecDepth 100000 in
theorem p8 (d:MD) (w:World) (hE:MEnv d w) (g:Nat) (cs:Array Value) (hg:w.heap[g]? =some (.cells cs 155 (0,0))) (l:List (Option Bool)) (hl:l.length=8) (hv: ∀i,i<8→∃v a,cs[i]? =some v∧l[i]? =some a∧vI d v a) (b:Bool) (h:nu l=some b):Ask 105 #[.slice (some ⟨g,0,none⟩) 8 8] w b:=by
  have E:=Aside0.mk hE
  have BG:=Aside0.mk hg
  have HV:=Aside0.mk hv
  have HL:=Aside0.mk hl
  have HB:=Aside0.mk (Below.refl w.heap.size w)
  have H' :=Aside0.mk h
  clear hE hg hv h hl
  unfold Ask
  go_enter Tryz.func105,Tryz.ntmps105
  go_wp2
  go_loopg [7] 8 (fun kq v7 w' => ∃(x7:Int),v7= .int .i64 x7∧Aside0 (0≤x7∧x7+(kq:Int)=8)∧Aside0 (nu (l.drop x7.toNat)=some b)∧Aside0 (Below w.heap.size w w'))
  case atStart=>exact⟨0,rfl,⟨by omega,by omega⟩,H',⟨bl⟩⟩
  case round=>
    clear H'
    obtain⟨x7,rfl,HI,HA,HBn⟩:=hrel
    clear HB
    have HB:=HBn
    clear HBn
    by_cases c3:x7<8
    · have c4:0≤x7:=HI.out.1
      obtain⟨v,a,h1,h2,f,args,rfl,hcall,h3⟩:=HV.out x7.toNat (by omega)
      have HH:=HA.out
      rw[rX h2]at HH
      have HH:=gH HH
      have hx:=hc HB ((ae BG.out x7.toNat).trans h1)
      have C3:=Aside0.mk c3
      have C4:=Aside0.mk c4
      have H3:=Aside0.mk h3
      clear h1 h2 h3
      have c:decide (x7<8)=true:=decide_eq_true c3
      have e:decide (0≤x7)=true:=decide_eq_true c4
      cases gk with
      |zero=>exfalso;have:=HI.out.2;omega
      |succ k1=>
      replace c3:=eq_true c3
      replace c4:=eq_true c4
      rcases HH with⟨a1,a2⟩|⟨a1,rfl⟩
      · have A1:=Aside0.mk a1
        have A2:=Aside0.mk a2
        clear a1 a2
        go_wp2_with (first|(refine(H3.out _ true (E.out.below bl) A1.out).mono ?_;rintro e_ w9 ⟨rfl,hb⟩;replace HB:=hs HB hb;clear hb))
        go_roundg k1
        case measure=>omega
        case rel=>
          have hw:wrap64 (x7+1)=x7+1:=by have:=C3.out;have:=C4.out;unfold wrap64;omega
          refine⟨x7+1,(by rw[hw]),⟨by have:=C4.out;omega,by have:=HI.out.2;omega⟩,⟨by rw[show(x7+1).toNat=x7.toNat+1 by have:=C4.out;omega];exact A2.out⟩,⟨bl⟩⟩
      · have A1:=Aside0.mk a1
        clear a1
        go_wp2_with (first|(refine(H3.out _ false (E.out.below bl) A1.out).mono ?_;rintro e_ w9 ⟨rfl,hb⟩;replace HB:=hs HB hb;clear hb))
        go_ret
        exact fin
    · have c:decide (x7<8)=false:=decide_eq_false c3
      have HH:=HA.out
      rw[List.drop_of_length_le (by have:=HI.out;have:=HL.out;omega)]at HH
      obtain rfl:=Option.some.inj HH
      go_wp2
      go_ret
      exact fin
theorem lG {d:MD} {f:Nat} {fn:Func} {args:Array Value} {a:Option Bool} (h:kP d f args a) (hf:Tryz.prog.funcs[f]? =some fn) (hn:(fn.name== "runtime.NumGoroutine")=false:=by kernel_rfl) (hb:fn.body.isSome=true:=by rfl):vI d (.func (.func f) #[] args) a:=⟨f,args,rfl,fun W=>mU hf hn hb args W,h⟩
theorem rY {W:World} {o:Obj} {n:Nat} (h:n=W.heap.size):(W.alloc o).heap[n]? =some o:=by subst h;show(W.heap.push o)[W.heap.size]? =some o;simp
theorem rZ {P:Program} {w:World} {g t:Nat} {v:Value} {f:Fn} {a b:Array Value} (h:w.heap[g]? =some (.cells #[v] t (0,0))):(store ⟨g,0,none⟩ (.func f a b)).run P w= .ok () (w.setCell ⟨g,0,none⟩ (.func f a b)):=by
  rw[run_store P w _ _ _ rfl,cz h 0 rfl,aH h 0];rfl
set_option maxHeartbeats 8000000 in
set_option maxRecDepth 100000 in
theorem iZ.calls (k:Nat) (o:Option Addr) (p:Nat) (a:List (S126)) (q:Option Addr) (s:Nat) (b:List (S104)) (t:Option Addr) (u:Nat) (c:List (S91)) (v:Option Addr) (x:Nat) (d:List (S70)) (y:Option Addr) (z:Nat) (g:List Int) (j:Int) (l:Int) (m:Bool) (n:Int) (r:Bool) (w:World) (A:Kd.C eB w o a.length a) (B:a.length≤p) (D:Kd.C eD w q b.length b) (E:b.length≤s) (G:Kd.C k91 w t c.length c) (I:c.length≤u) (J:Kd.C k70 w v d.length d) (K:d.length≤x) (L:Kd.C (Kd.int .i64) w y g.length g) (M:g.length≤z) (h:iZ.f k a b c d g j l m n=some r):
    Calls Tryz.prog 62 #[.agg #[.slice o a.length p, .slice q b.length s], .agg #[.slice t c.length u, .slice v d.length x, .slice y g.length z, .int .i64 j, .int .i64 l, .bool m, .int .i64 n]] w fun e w' =>e= .returned (.bool r)∧Below w.heap.size w w' :=by
  have O:=Aside0.mk A
  have P:=Aside0.mk B
  have HR1:=Aside0.mk D
  have T:=Aside0.mk E
  have HR2:=Aside0.mk G
  have U:=Aside0.mk I
  have HR3:=Aside0.mk J
  have W:=Aside0.mk K
  have HR4:=Aside0.mk L
  have X:=Aside0.mk M
  have HB:=Aside0.mk (Below.refl w.heap.size w)
  have H' :=Aside0.mk h
  clear A B D E G I J K L M h
  go_enter Tryz.func62,Tryz.ntmps62
  go_wp2_with (first|((with_reducible refine gd 2 rfl ?_);refine bx 2 #[.slice o a.length p, .slice q b.length s] 38 ?_;intro gu hg w3 hbox hb;have BU:=Aside0.mk hbox;replace HB:=hs HB hb;clear hb hbox hg)|((with_reducible refine gd 3 rfl ?_);refine bx 3 #[.slice t c.length u, .slice v d.length x, .slice y g.length z, .int .i64 j, .int .i64 l, .bool m, .int .i64 n] 33 ?_;intro gm hg w4 hbox hb;have BM:=Aside0.mk hbox;replace BU:=kb BU hb;replace HB:=hs HB hb;clear hb hbox hg)|((with_reducible refine gd 5 rfl ?_);refine bx 5 #[.nilFunc] 151 ?_;intro gv hg w5 hbox hb;have BV:=Aside0.mk hbox;have GV:=hz HB hg;have NU:=nl BU hg;have NM:=nl BM hg;replace BU:=kb BU hb;replace BM:=kb BM hb;replace HB:=hs HB hb;clear hb hbox hg;have sv_:(store ⟨gv,0,none⟩ (.func (.func 99) #[] #[.pointer (some ⟨gm,0,none⟩)])).run Tryz.prog w5= .ok () (w5.setCell ⟨gv,0,none⟩ (.func (.func 99) #[] #[.pointer (some ⟨gm,0,none⟩)])):=rZ BV.out)|((with_reducible refine gd 6 rfl ?_);refine bx 6 #[.nilFunc] 153 ?_;intro gf hg w6 hbox hb;have BF:=Aside0.mk hbox;have GF:=hz HB hg;have FU:=nl BU hg;have FM:=nl BM hg;have FV:=nl BV hg;replace BU:=kq BU hb;replace BM:=kq BM hb;replace BV:=kp gv #[.func (.func 99) #[] #[.pointer (some ⟨gm,0,none⟩)]] 151 hb;replace HB:=hs HB hb;clear hb hbox hg;have sf_:(store ⟨gf,0,none⟩ (.func (.func 102) #[] #[.pointer (some ⟨gu,0,none⟩), .pointer (some ⟨gv,0,none⟩)])).run Tryz.prog w6= .ok () (w6.setCell ⟨gf,0,none⟩ (.func (.func 102) #[] #[.pointer (some ⟨gu,0,none⟩), .pointer (some ⟨gv,0,none⟩)])):=rZ BF.out))
  refine(p8 ⟨o,p,a,q,s,b,t,u,c,v,x,d,y,z,g,j,l,m,n,gu,gm,gv,gf⟩ _ ⟨Aside0.out kf,Aside0.out kf,Aside0.out kf,Aside0.out kf,cb O.out,P.out,cb HR1.out,T.out,cb HR2.out,U.out,cb HR3.out,W.out,cb HR4.out,X.out⟩ _ _ (rY (by simp[World.setCell])) (uA k a b c d g j l m n) rfl (fun i hi=> ?_) r H'.out).mono ?_
  · have Y:i=0∨i=1∨i=2∨i=3∨i=4∨i=5∨i=6∨i=7:=by omega
    rcases Y with rfl|rfl|rfl|rfl|rfl|rfl|rfl|rfl
    ·exact⟨_,_,rfl,rfl,lG (vY ⟨o,p,a,q,s,b,t,u,c,v,x,d,y,z,g,j,l,m,n,gu,gm,gv,gf⟩) Tryz.func106⟩
    ·exact⟨_,_,rfl,rfl,lG (vZ ⟨o,p,a,q,s,b,t,u,c,v,x,d,y,z,g,j,l,m,n,gu,gm,gv,gf⟩) Tryz.func107⟩
    ·exact⟨_,_,rfl,rfl,lG (wh ⟨o,p,a,q,s,b,t,u,c,v,x,d,y,z,g,j,l,m,n,gu,gm,gv,gf⟩) Tryz.func108⟩
    ·exact⟨_,_,rfl,rfl,lG (wm ⟨o,p,a,q,s,b,t,u,c,v,x,d,y,z,g,j,l,m,n,gu,gm,gv,gf⟩) Tryz.func109⟩
    ·exact⟨_,_,rfl,rfl,lG (wo ⟨o,p,a,q,s,b,t,u,c,v,x,d,y,z,g,j,l,m,n,gu,gm,gv,gf⟩) Tryz.func111⟩
    ·exact⟨_,_,rfl,rfl,lG (wu ⟨o,p,a,q,s,b,t,u,c,v,x,d,y,z,g,j,l,m,n,gu,gm,gv,gf⟩ k) Tryz.func114⟩
    ·exact⟨_,_,rfl,rfl,lG (ww ⟨o,p,a,q,s,b,t,u,c,v,x,d,y,z,g,j,l,m,n,gu,gm,gv,gf⟩) Tryz.func117⟩
    ·exact⟨_,_,rfl,rfl,lG (vX ⟨o,p,a,q,s,b,t,u,c,v,x,d,y,z,g,j,l,m,n,gu,gm,gv,gf⟩ k) Tryz.func119⟩
  · rintro e_ w9 ⟨rfl,hb⟩
    replace HB:=hs HB hb
    clear hb
    go_wp2
    go_ret
    exact fin
end Go.Proofs.YteinbmkgenhocaaGreat.P
end
section
namespace Go.Proofs.YteinbmkgenhocaaGreat.P
open Go.RowKit Go.Proofs.YteinbmkgenhocaaGreatW.PrintWords Go.Proofs.YteinbmkgenhocaaGreatW.PrintLast Go.Proofs.YteinbmkgenhocaaGreatW.PrintMore
attribute [local go_sem] ah ai av ax af ag aj ak
set_option linter.unusedVariables false
set_option linter.unusedSimpArgs false
set_option maxHeartbeats 8000000 in
set_option maxRecDepth 100000 in
theorem fZ.calls (k:Nat) (n:Option Addr) (o:Nat) (b:List (S126)) (p:Option Addr) (q:Nat) (c:List (S104)) (x:Option Addr) (y:Nat) (g:List (S91)) (z:Option Addr) (A:Nat) (i:List (S70)) (B:Option Addr) (D:Nat) (j:List Int) (s:Int) (t:Int) (u:Bool) (v:Int) (r:Bool) (w:World) (M:Kd.C eB w n b.length b) (O:b.length≤o) (P:Kd.C eD w p c.length c) (T:c.length≤q) (U:Kd.C k91 w x g.length g) (W:g.length≤y) (X:Kd.C k70 w z i.length i) (Y:i.length≤A) (Z:Kd.C (Kd.int .i64) w B j.length j) (ab:j.length≤D) (h:fZ.f k b c g i j s t u v=some r):
  Calls Tryz.prog 18 #[.agg #[.slice n b.length o, .slice p c.length q], .agg #[.slice x g.length y, .slice z i.length A, .slice B j.length D, .int .i64 s, .int .i64 t, .bool u, .int .i64 v]] w fun e w' =>e= .returned (.bool r)∧Below w.heap.size w w' :=by
 have aF:=Tryz.underlying38
 have aL:=Tryz.underlying33
 have E:=Aside0.mk M
 have G:=Aside0.mk O
 clear M O
 have I:=Aside0.mk P
 have J:=Aside0.mk T
 clear P T
 have ac:=Aside0.mk U
 have ad:=Aside0.mk W
 clear U W
 have al:=Aside0.mk X
 have am:=Aside0.mk Y
 clear X Y
 have an:=Aside0.mk Z
 have ao:=Aside0.mk ab
 clear Z ab
 have HB:=Aside0.mk (Below.refl w.heap.size w)
 have H:((bE.f k b c).bind fun K=>(if K=true then((iZ.f k b c g i j s t u v).bind fun L=>(some L))else(some false)))=some r:=h
 clear h
 obtain⟨K,A3,H⟩:=ob H
 by_cases c4:K=true
 ·subst c4
  replace H:=it H
  obtain⟨L,A5,H⟩:=ob H
  obtain rfl:=Option.some.inj H;clear H
  go_enter Tryz.func18,Tryz.ntmps18
  go_wp2_with (first|((with_reducible refine gd 2 rfl ?_);refine bx 2 #[.slice n b.length o, .slice p c.length q] 38 ?_;intro ap hg w6 hbox hb;have a:=Aside0.mk hbox;have aq:=hz HB hg;replace HB:=hs HB hb;clear hb hbox hg)|((with_reducible refine gd 3 rfl ?_);refine bx 3 #[.slice x g.length y, .slice z i.length A, .slice B j.length D, .int .i64 s, .int .i64 t, .bool u, .int .i64 v] 33 ?_;intro ar hg w7 hbox hb;have d:=Aside0.mk hbox;have aw:=hz HB hg;have l:=nl a hg;have m:=ng a hg;replace a:=kb a hb;replace HB:=hs HB hb;clear hb hbox hg;have aO:=l.out;have aP:=m.out;have:=cf2 a)|(refine gl (some 6) Tryz.func33 #[.agg #[.slice n b.length o, .slice p c.length q]] rfl ?_;(with_reducible refine(bE.calls k _ _ b _ _ c true _ (cb E.out) G.out (cb I.out) J.out A3.out).mono ?_);rintro e aR ⟨rfl,hb⟩;refine⟨_,rfl, ?_⟩;replace a:=kb a hb;replace d:=kb d hb;replace HB:=hs HB hb;have:=cf2 a;have:=cf7 d)|(go_at_call 62;(with_reducible refine(iZ.calls k _ _ b _ _ c _ _ g _ _ i _ _ j s t u v L _ (cb E.out) G.out (cb I.out) J.out (cb ac.out) ad.out (cb al.out) am.out (cb an.out) ao.out A5.out).mono ?_);rintro e aS ⟨rfl,hb⟩;replace a:=kb a hb;replace d:=kb d hb;replace HB:=hs HB hb))
  go_ret
  exact fin
 replace c4:=Bool.eq_false_iff.mpr c4
 subst c4
 replace H:=ie H
 obtain rfl:=Option.some.inj H;clear H
 go_enter Tryz.func18,Tryz.ntmps18
 go_wp2_with (first|((with_reducible refine gd 2 rfl ?_);refine bx 2 #[.slice n b.length o, .slice p c.length q] 38 ?_;intro ap hg a0 hbox hb;have a:=Aside0.mk hbox;have aq:=hz HB hg;replace HB:=hs HB hb;clear hb hbox hg)|((with_reducible refine gd 3 rfl ?_);refine bx 3 #[.slice x g.length y, .slice z i.length A, .slice B j.length D, .int .i64 s, .int .i64 t, .bool u, .int .i64 v] 33 ?_;intro ar hg a1 hbox hb;have d:=Aside0.mk hbox;have aw:=hz HB hg;have l:=nl a hg;have m:=ng a hg;replace a:=kb a hb;replace HB:=hs HB hb;clear hb hbox hg;have aB:=l.out;have aE:=m.out;have:=cf2 a)|(refine gl (some 6) Tryz.func33 #[.agg #[.slice n b.length o, .slice p c.length q]] rfl ?_;(with_reducible refine(bE.calls k _ _ b _ _ c false _ (cb E.out) G.out (cb I.out) J.out A3.out).mono ?_);rintro e a2 ⟨rfl,hb⟩;refine⟨_,rfl, ?_⟩;replace a:=kb a hb;replace d:=kb d hb;replace HB:=hs HB hb))
 go_ret
 exact fin
set_option maxHeartbeats 8000000 in
set_option maxRecDepth 100000 in
theorem iP.calls (l:Int) (c:Option Addr) (d:Nat) (a:List Int) (a1:Int) (r:Int) (w:World) (g:Kd.C (Kd.int .i64) w c a.length a) (i:a.length≤d) (h:iP.f l a a1=some r):
  Calls Tryz.prog 70 #[.agg #[.int .i64 l, .slice c a.length d], .int .i64 a1] w fun e w' =>e= .returned (.int .i64 r)∧Below w.heap.size w w' :=by
 have n:=Tryz.underlying116
 have j:=Aside0.mk g
 have k:=Aside0.mk i
 clear g i
 have HB:=Aside0.mk (Below.refl w.heap.size w)
 have H:((cZ.f a a1).bind fun b=>(if b<0 then(some (-1))else(some b)))=some r:=h
 clear h
 obtain⟨b,A3,H⟩:=ob H
 by_cases c4:b<0
 ·rw[if_pos c4]at H
  have m:decide (b<0)=true:=decide_eq_true c4
  clear c4
  obtain rfl:=Option.some.inj H;clear H
  go_enter Tryz.func70,Tryz.ntmps70
  go_wp2_with (first|(refine gl (some 8) Tryz.func51 #[.slice c a.length d, .int .i64 a1] rfl ?_;(with_reducible refine(cZ.calls _ _ a a1 b _ (cb j.out) k.out A3.out).mono ?_);rintro e w' ⟨rfl,⟨nd,rfl⟩⟩;refine⟨_,rfl, ?_⟩))
  go_ret
  exact fin
 rw[if_neg c4]at H
 have m:decide (b<0)=false:=decide_eq_false c4
 clear c4
 obtain rfl:=Option.some.inj H;clear H
 go_enter Tryz.func70,Tryz.ntmps70
 go_wp2_with (first|(refine gl (some 8) Tryz.func51 #[.slice c a.length d, .int .i64 a1] rfl ?_;(with_reducible refine(cZ.calls _ _ a a1 b _ (cb j.out) k.out A3.out).mono ?_);rintro e w' ⟨rfl,⟨nd,rfl⟩⟩;refine⟨_,rfl, ?_⟩))
 go_ret
 exact fin
set_option maxHeartbeats 8000000 in
set_option maxRecDepth 100000 in
theorem dF.calls (k:Nat) (A0:Option Addr) (c0:Nat) (l0:List (S116)) (a1:Int) (r:Int) (w:World) (hr0:Kd.C kI w A0 l0.length l0) (hc0:l0.length≤c0) (h:dF.f k l0 a1=some r):
  Calls Tryz.prog 26 #[.slice A0 l0.length c0, .int .i64 a1] w fun e w' =>e= .returned (.int .i64 r)∧Below w.heap.size w w' :=by
 have A:=Tryz.underlying116
 have u:=Aside0.mk hr0
 have D:=Aside0.mk hc0
 clear hr0 hc0
 have HB:=Aside0.mk (Below.refl w.heap.size w)
 have H:(if(wrap64 (a1 - (l0.length:Int)))<0 then(some (-1))else(dF.l0 k l0 (wrap64 (a1 - (l0.length:Int))) 0))=some r:=h
 clear h
 by_cases c3:(wrap64 (a1 - (l0.length:Int)))<0
 ·rw[if_pos c3]at H
  have x:decide ((wrap64 (a1 - (l0.length:Int)))<0)=true:=decide_eq_true c3
  clear c3
  obtain rfl:=Option.some.inj H;clear H
  go_enter Tryz.func26,Tryz.ntmps26
  go_wp2
  go_ret
  exact fin
 rw[if_neg c3]at H
 have x:decide ((wrap64 (a1 - (l0.length:Int)))<0)=false:=decide_eq_false c3
 clear c3
 have H' :=Aside0.mk H
 clear H
 go_enter Tryz.func26,Tryz.ntmps26
 go_wp2
 go_loopg [1,5] k (fun kq v1 v5 w' => ∃(i:Int) (a:Int),v1= .int .i64 i∧v5= .int .i64 a∧Aside0 (dF.l0 kq l0 i a=some r)∧Aside0 (kq≤k)∧Aside0 (Below w.heap.size w w'))
 case atStart=>exact⟨(wrap64 (a1 - (l0.length:Int))),(0),(by first|rfl|(simp;done)|(simp[*];done)),(by first|rfl|(simp;done)|(simp[*];done)),H',⟨Nat.le_refl _⟩,⟨bl⟩⟩
 case round=>
  clear H'
  obtain⟨i,a,rfl,rfl,HA,v,HB⟩:=hrel
  cases gk with
  |zero=>exact absurd HA.out (by simp[dF.l0])
  | succ k1=>
   have H:=HA.out
   clear HA
   simp only[dF.l0]at H
   by_cases c4:a<(l0.length:Int)
   ·rw[if_pos c4]at H
    have y:decide (a<(l0.length:Int))=true:=decide_eq_true c4
    clear c4
    by_cases c5:0≤a
    ·rw[if_pos c5]at H
     have B:decide (0≤a)=true:=decide_eq_true c5
     clear c5
     obtain⟨m,A6,H⟩:=ob H
     by_cases c7:m<0
     ·rw[if_pos c7]at H
      have z:decide (m<0)=true:=decide_eq_true c7
      clear c7
      obtain rfl:=Option.some.inj H;clear H
      have j:0≤(a:Int):=od
      have l:a<(l0.length:Int):=od
      obtain⟨t,p,q,s,b,c,d,g⟩:=mX u.out a j l
      cases s
      obtain⟨b,c⟩:=hc2 HB b c
      have n:=Aside0.mk g
      have o:=Aside0.mk d
      clear g d
      replace j:=eq_true j
      replace l:=eq_true l
      go_wp2_with (first|(refine gl (some 23) Tryz.func70 #[.agg #[.int .i64 ((fA l0 a).f0), .slice p ((fA l0 a).f1).length q], .int .i64 i] rfl ?_;(with_reducible refine(iP.calls ((fA l0 a).f0) _ _ ((fA l0 a).f1) i m _ (cb n.out) o.out A6.out).mono ?_);rintro e w8 ⟨rfl,hb⟩;refine⟨_,rfl, ?_⟩;replace HB:=hs HB hb))
      go_ret
      exact fin
     rw[if_neg c7]at H
     have z:decide (m<0)=false:=decide_eq_false c7
     clear c7
     have H' :=Aside0.mk H
     clear H
     have j:0≤(a:Int):=od
     have l:a<(l0.length:Int):=od
     obtain⟨t,p,q,s,b,c,d,g⟩:=mX u.out a j l
     cases s
     obtain⟨b,c⟩:=hc2 HB b c
     have n:=Aside0.mk g
     have o:=Aside0.mk d
     clear g d
     replace j:=eq_true j
     replace l:=eq_true l
     go_wp2_with (first|(refine gl (some 23) Tryz.func70 #[.agg #[.int .i64 ((fA l0 a).f0), .slice p ((fA l0 a).f1).length q], .int .i64 i] rfl ?_;(with_reducible refine(iP.calls ((fA l0 a).f0) _ _ ((fA l0 a).f1) i m _ (cb n.out) o.out A6.out).mono ?_);rintro e w9 ⟨rfl,hb⟩;refine⟨_,rfl, ?_⟩;replace HB:=hs HB hb))
     go_roundg k1
     case measure=>have:=v.out;omega
     case rel=>exact⟨(m),(wrap64 (a+1)),(by first|rfl|(simp;done)|(simp[*];done)),(by first|rfl|(simp;done)|(simp[*];done)),H',⟨by have:=v.out;omega⟩,⟨bl⟩⟩
    rw[if_neg c5]at H
    exact absurd H (by simp)
   rw[if_neg c4]at H
   have y:decide (a<(l0.length:Int))=false:=decide_eq_false c4
   clear c4
   obtain rfl:=Option.some.inj H;clear H
   go_wp2
   go_ret
   exact fin
set_option maxHeartbeats 8000000 in
set_option maxRecDepth 100000 in
theorem gP.calls (A0:Option Addr) (c0:Nat) (l0:List (S217)) (a1:Int) (r:Int) (w:World) (hr0:Kd.C kJ w A0 l0.length l0) (hc0:l0.length≤c0) (h:gP.f l0 a1=some r):
  Calls Tryz.prog 133 #[.slice A0 l0.length c0, .int .i64 a1] w fun e w' =>e= .returned (.int .i64 r)∧Drawn0 w w' :=by
 have b:=Aside0.mk hr0
 have c:=Aside0.mk hc0
 clear hr0 hc0
 have H:(if(wrap64 (a1 - (l0.length:Int)))<0 then(some (-1))else(some (wrap64 (a1 - (l0.length:Int)))))=some r:=h
 clear h
 by_cases c3:(wrap64 (a1 - (l0.length:Int)))<0
 ·rw[if_pos c3]at H
  have a:decide ((wrap64 (a1 - (l0.length:Int)))<0)=true:=decide_eq_true c3
  clear c3
  obtain rfl:=Option.some.inj H;clear H
  go_enter Tryz.func133,Tryz.ntmps133
  go_wp2
  go_ret
  exact⟨by first|rfl|(simp;done)|(simp[*];done),by repeat(first|exact Drawn0.refl _|apply Drawn0.step)⟩
 rw[if_neg c3]at H
 have a:decide ((wrap64 (a1 - (l0.length:Int)))<0)=false:=decide_eq_false c3
 clear c3
 obtain rfl:=Option.some.inj H;clear H
 go_enter Tryz.func133,Tryz.ntmps133
 go_wp2
 go_ret
 exact⟨by first|rfl|(simp;done)|(simp[*];done),by repeat(first|exact Drawn0.refl _|apply Drawn0.step)⟩
set_option maxHeartbeats 8000000 in
set_option maxRecDepth 100000 in
theorem iD.calls (t:Bool) (d:Option Addr) (g:Nat) (b:List Int) (i:Option Addr) (j:Nat) (c:List Int) (a1:Int) (r:Int) (w:World) (m:Kd.C (Kd.int .i64) w d b.length b) (n:b.length≤g) (o:Kd.C (Kd.int .i64) w i c.length c) (p:c.length≤j) (h:iD.f t b c a1=some r):
  Calls Tryz.prog 19 #[.agg #[.bool t, .slice d b.length g, .slice i c.length j], .int .i64 a1] w fun e w' =>e= .returned (.int .i64 r)∧Below w.heap.size w w' :=by
 have x:=Tryz.underlying55
 have k:=Aside0.mk m
 have l:=Aside0.mk n
 clear m n
 have q:=Aside0.mk o
 have s:=Aside0.mk p
 clear o p
 have HB:=Aside0.mk (Below.refl w.heap.size w)
 have H:((cZ.f b a1).bind fun a=>(if a<0 then(some (-1))else((cZ.f c a).bind fun t107=>(if t107<0 then(some (-1))else(some t107)))))=some r:=h
 clear h
 obtain⟨a,A3,H⟩:=ob H
 by_cases c4:a<0
 ·rw[if_pos c4]at H
  have u:decide (a<0)=true:=decide_eq_true c4
  clear c4
  obtain rfl:=Option.some.inj H;clear H
  go_enter Tryz.func19,Tryz.ntmps19
  go_wp2_with (first|(refine gl (some 8) Tryz.func51 #[.slice d b.length g, .int .i64 a1] rfl ?_;(with_reducible refine(cZ.calls _ _ b a1 a _ (cb k.out) l.out A3.out).mono ?_);rintro e w' ⟨rfl,⟨nd,rfl⟩⟩;refine⟨_,rfl, ?_⟩))
  go_ret
  exact fin
 rw[if_neg c4]at H
 have u:decide (a<0)=false:=decide_eq_false c4
 clear c4
 obtain⟨t107,A7,H⟩:=ob H
 by_cases c8:t107<0
 ·rw[if_pos c8]at H
  have v:decide (t107<0)=true:=decide_eq_true c8
  clear c8
  obtain rfl:=Option.some.inj H;clear H
  go_enter Tryz.func19,Tryz.ntmps19
  go_wp2_with (first|(refine gl (some 8) Tryz.func51 #[.slice d b.length g, .int .i64 a1] rfl ?_;(with_reducible refine(cZ.calls _ _ b a1 a _ (cb k.out) l.out A3.out).mono ?_);rintro e w' ⟨rfl,⟨nd,rfl⟩⟩;refine⟨_,rfl, ?_⟩)|(refine gl (some 14) Tryz.func51 #[.slice i c.length j, .int .i64 a] rfl ?_;(with_reducible refine(cZ.calls _ _ c a t107 _ (cb q.out) s.out A7.out).mono ?_);rintro e w' ⟨rfl,⟨nd,rfl⟩⟩;refine⟨_,rfl, ?_⟩))
  go_ret
  exact fin
 rw[if_neg c8]at H
 have v:decide (t107<0)=false:=decide_eq_false c8
 clear c8
 obtain rfl:=Option.some.inj H;clear H
 go_enter Tryz.func19,Tryz.ntmps19
 go_wp2_with (first|(refine gl (some 8) Tryz.func51 #[.slice d b.length g, .int .i64 a1] rfl ?_;(with_reducible refine(cZ.calls _ _ b a1 a _ (cb k.out) l.out A3.out).mono ?_);rintro e w' ⟨rfl,⟨nd,rfl⟩⟩;refine⟨_,rfl, ?_⟩)|(refine gl (some 14) Tryz.func51 #[.slice i c.length j, .int .i64 a] rfl ?_;(with_reducible refine(cZ.calls _ _ c a t107 _ (cb q.out) s.out A7.out).mono ?_);rintro e w' ⟨rfl,⟨nd,rfl⟩⟩;refine⟨_,rfl, ?_⟩))
 go_ret
 exact fin
set_option maxHeartbeats 8000000 in
set_option maxRecDepth 100000 in
theorem dN.calls (k:Nat) (A0:Option Addr) (c0:Nat) (l0:List (S55)) (a1:Int) (r:Int) (w:World) (hr0:Kd.C k55 w A0 l0.length l0) (hc0:l0.length≤c0) (h:dN.f k l0 a1=some r):
  Calls Tryz.prog 134 #[.slice A0 l0.length c0, .int .i64 a1] w fun e w' =>e= .returned (.int .i64 r)∧Below w.heap.size w w' :=by
 have I:=Tryz.underlying55
 have A:=Aside0.mk hr0
 have K:=Aside0.mk hc0
 clear hr0 hc0
 have HB:=Aside0.mk (Below.refl w.heap.size w)
 have H:(if(wrap64 (a1 - (l0.length:Int)))<0 then(some (-1))else(dN.l0 k l0 (wrap64 (a1 - (l0.length:Int))) 0))=some r:=h
 clear h
 by_cases c3:(wrap64 (a1 - (l0.length:Int)))<0
 ·rw[if_pos c3]at H
  have D:decide ((wrap64 (a1 - (l0.length:Int)))<0)=true:=decide_eq_true c3
  clear c3
  obtain rfl:=Option.some.inj H;clear H
  go_enter Tryz.func134,Tryz.ntmps134
  go_wp2
  go_ret
  exact fin
 rw[if_neg c3]at H
 have D:decide ((wrap64 (a1 - (l0.length:Int)))<0)=false:=decide_eq_false c3
 clear c3
 have H' :=Aside0.mk H
 clear H
 go_enter Tryz.func134,Tryz.ntmps134
 go_wp2
 go_loopg [1,5] k (fun kq v1 v5 w' => ∃(m:Int) (a:Int),v1= .int .i64 m∧v5= .int .i64 a∧Aside0 (dN.l0 kq l0 m a=some r)∧Aside0 (kq≤k)∧Aside0 (Below w.heap.size w w'))
 case atStart=>exact⟨(wrap64 (a1 - (l0.length:Int))),(0),(by first|rfl|(simp;done)|(simp[*];done)),(by first|rfl|(simp;done)|(simp[*];done)),H',⟨Nat.le_refl _⟩,⟨bl⟩⟩
 case round=>
  clear H'
  obtain⟨m,a,rfl,rfl,HA,B,HB⟩:=hrel
  cases gk with
  |zero=>exact absurd HA.out (by simp[dN.l0])
  | succ k1=>
   have H:=HA.out
   clear HA
   simp only[dN.l0]at H
   by_cases c4:a<(l0.length:Int)
   ·rw[if_pos c4]at H
    have E:decide (a<(l0.length:Int))=true:=decide_eq_true c4
    clear c4
    by_cases c5:0≤a
    ·rw[if_pos c5]at H
     have J:decide (0≤a)=true:=decide_eq_true c5
     clear c5
     obtain⟨t109,A6,H⟩:=ob H
     by_cases c7:t109<0
     ·rw[if_pos c7]at H
      have G:decide (t109<0)=true:=decide_eq_true c7
      clear c7
      obtain rfl:=Option.some.inj H;clear H
      have n:0≤(a:Int):=od
      have o:a<(l0.length:Int):=od
      obtain⟨z,u,v,x,y,e108,b,c,d,g,i,j,l⟩:=oN A.out a n o
      cases e108
      obtain⟨b,c,d⟩:=hc3 HB b c d
      have p:=Aside0.mk i
      have q:=Aside0.mk g
      clear i g
      have s:=Aside0.mk l
      have t:=Aside0.mk j
      clear l j
      replace n:=eq_true n
      replace o:=eq_true o
      go_wp2_with (first|(refine gl (some 23) Tryz.func19 #[.agg #[.bool ((ek l0 a).f0), .slice u ((ek l0 a).f1).length v, .slice x ((ek l0 a).f2).length y], .int .i64 m] rfl ?_;(with_reducible refine(iD.calls ((ek l0 a).f0) _ _ ((ek l0 a).f1) _ _ ((ek l0 a).f2) m t109 _ (cb p.out) q.out (cb s.out) t.out A6.out).mono ?_);rintro e w8 ⟨rfl,hb⟩;refine⟨_,rfl, ?_⟩;replace HB:=hs HB hb))
      go_ret
      exact fin
     rw[if_neg c7]at H
     have G:decide (t109<0)=false:=decide_eq_false c7
     clear c7
     have H' :=Aside0.mk H
     clear H
     have n:0≤(a:Int):=od
     have o:a<(l0.length:Int):=od
     obtain⟨z,u,v,x,y,e108,b,c,d,g,i,j,l⟩:=oN A.out a n o
     cases e108
     obtain⟨b,c,d⟩:=hc3 HB b c d
     have p:=Aside0.mk i
     have q:=Aside0.mk g
     clear i g
     have s:=Aside0.mk l
     have t:=Aside0.mk j
     clear l j
     replace n:=eq_true n
     replace o:=eq_true o
     go_wp2_with (first|(refine gl (some 23) Tryz.func19 #[.agg #[.bool ((ek l0 a).f0), .slice u ((ek l0 a).f1).length v, .slice x ((ek l0 a).f2).length y], .int .i64 m] rfl ?_;(with_reducible refine(iD.calls ((ek l0 a).f0) _ _ ((ek l0 a).f1) _ _ ((ek l0 a).f2) m t109 _ (cb p.out) q.out (cb s.out) t.out A6.out).mono ?_);rintro e w9 ⟨rfl,hb⟩;refine⟨_,rfl, ?_⟩;replace HB:=hs HB hb))
     go_roundg k1
     case measure=>have:=B.out;omega
     case rel=>exact⟨(t109),(wrap64 (a+1)),(by first|rfl|(simp;done)|(simp[*];done)),(by first|rfl|(simp;done)|(simp[*];done)),H',⟨by have:=B.out;omega⟩,⟨bl⟩⟩
    rw[if_neg c5]at H
    exact absurd H (by simp)
   rw[if_neg c4]at H
   have E:decide (a<(l0.length:Int))=false:=decide_eq_false c4
   clear c4
   obtain rfl:=Option.some.inj H;clear H
   go_wp2
   go_ret
   exact fin
set_option maxHeartbeats 8000000 in
set_option maxRecDepth 100000 in
theorem gZ.calls (A0:Option Addr) (c0:Nat) (l0:List (S219)) (a1:Int) (r:Int) (w:World) (hr0:Kd.C kK w A0 l0.length l0) (hc0:l0.length≤c0) (h:gZ.f l0 a1=some r):
  Calls Tryz.prog 135 #[.slice A0 l0.length c0, .int .i64 a1] w fun e w' =>e= .returned (.int .i64 r)∧Drawn0 w w' :=by
 have b:=Aside0.mk hr0
 have c:=Aside0.mk hc0
 clear hr0 hc0
 have H:(if(wrap64 (a1 - (l0.length:Int)))<0 then(some (-1))else(some (wrap64 (a1 - (l0.length:Int)))))=some r:=h
 clear h
 by_cases c3:(wrap64 (a1 - (l0.length:Int)))<0
 ·rw[if_pos c3]at H
  have a:decide ((wrap64 (a1 - (l0.length:Int)))<0)=true:=decide_eq_true c3
  clear c3
  obtain rfl:=Option.some.inj H;clear H
  go_enter Tryz.func135,Tryz.ntmps135
  go_wp2
  go_ret
  exact⟨by first|rfl|(simp;done)|(simp[*];done),by repeat(first|exact Drawn0.refl _|apply Drawn0.step)⟩
 rw[if_neg c3]at H
 have a:decide ((wrap64 (a1 - (l0.length:Int)))<0)=false:=decide_eq_false c3
 clear c3
 obtain rfl:=Option.some.inj H;clear H
 go_enter Tryz.func135,Tryz.ntmps135
 go_wp2
 go_ret
 exact⟨by first|rfl|(simp;done)|(simp[*];done),by repeat(first|exact Drawn0.refl _|apply Drawn0.step)⟩
set_option maxHeartbeats 8000000 in
set_option maxRecDepth 100000 in
theorem ib.calls (k:Nat) (B:Int) (D:Int) (m:Option Addr) (n:Nat) (a:List Int) (E:Int) (G:Int) (o:Option Addr) (p:Nat) (c:List (S217)) (q:Option Addr) (s:Nat) (i:List (S55)) (u:Option Addr) (v:Nat) (j:List (S219)) (a1:Int) (r:Int) (w:World) (K:Kd.C (Kd.int .i64) w m a.length a) (L:a.length≤n) (M:Kd.C kJ w o c.length c) (O:c.length≤p) (P:Kd.C k55 w q i.length i) (T:i.length≤s) (U:Kd.C kK w u j.length j) (W:j.length≤v) (h:ib.f k B D a E G c i j a1=some r):
  Calls Tryz.prog 71 #[.agg #[.int .i64 B, .int .i64 D, .slice m a.length n, .int .i64 E, .int .i64 G, .slice o c.length p, .slice q i.length s, .slice u j.length v], .int .i64 a1] w fun e w' =>e= .returned (.int .i64 r)∧Below w.heap.size w w' :=by
 have ap:=Tryz.underlying122
 have x:=Aside0.mk K
 have y:=Aside0.mk L
 clear K L
 have z:=Aside0.mk M
 have A:=Aside0.mk O
 clear M O
 have I:=Aside0.mk P
 have J:=Aside0.mk T
 clear P T
 have X:=Aside0.mk U
 have Y:=Aside0.mk W
 clear U W
 have HB:=Aside0.mk (Below.refl w.heap.size w)
 have H:((cZ.f a a1).bind fun b=>(if b<0 then(some (-1))else((gP.f c b).bind fun g=>(if g<0 then(some (-1))else((dN.f k i g).bind fun l=>(if l<0 then(some (-1))else((gZ.f j l).bind fun t=>(if t<0 then(some (-1))else(some t)))))))))=some r:=h
 clear h
 obtain⟨b,A3,H⟩:=ob H
 by_cases c4:b<0
 ·rw[if_pos c4]at H
  have an:decide (b<0)=true:=decide_eq_true c4
  clear c4
  obtain rfl:=Option.some.inj H;clear H
  go_enter Tryz.func71,Tryz.ntmps71
  go_wp2_with (first|(refine gl (some 8) Tryz.func51 #[.slice m a.length n, .int .i64 a1] rfl ?_;(with_reducible refine(cZ.calls _ _ a a1 b _ (cb x.out) y.out A3.out).mono ?_);rintro e w' ⟨rfl,⟨nd,rfl⟩⟩;refine⟨_,rfl, ?_⟩))
  go_ret
  exact fin
 rw[if_neg c4]at H
 have an:decide (b<0)=false:=decide_eq_false c4
 clear c4
 obtain⟨g,A7,H⟩:=ob H
 by_cases c8:g<0
 ·rw[if_pos c8]at H
  have ao:decide (g<0)=true:=decide_eq_true c8
  clear c8
  obtain rfl:=Option.some.inj H;clear H
  go_enter Tryz.func71,Tryz.ntmps71
  go_wp2_with (first|(refine gl (some 8) Tryz.func51 #[.slice m a.length n, .int .i64 a1] rfl ?_;(with_reducible refine(cZ.calls _ _ a a1 b _ (cb x.out) y.out A3.out).mono ?_);rintro e w' ⟨rfl,⟨nd,rfl⟩⟩;refine⟨_,rfl, ?_⟩)|(refine gl (some 14) Tryz.func133 #[.slice o c.length p, .int .i64 b] rfl ?_;(with_reducible refine(gP.calls _ _ c b g _ (cb z.out) A.out A7.out).mono ?_);rintro e w' ⟨rfl,⟨nd,rfl⟩⟩;refine⟨_,rfl, ?_⟩))
  go_ret
  exact fin
 rw[if_neg c8]at H
 have ao:decide (g<0)=false:=decide_eq_false c8
 clear c8
 obtain⟨l,ac,H⟩:=ob H
 by_cases c12:l<0
 ·rw[if_pos c12]at H
  have ad:decide (l<0)=true:=decide_eq_true c12
  clear c12
  obtain rfl:=Option.some.inj H;clear H
  go_enter Tryz.func71,Tryz.ntmps71
  go_wp2_with (first|((with_reducible refine gd 2 rfl ?_);refine bx 2 #[.int .i64 B, .int .i64 D, .slice m a.length n, .int .i64 E, .int .i64 G, .slice o c.length p, .slice q i.length s, .slice u j.length v] 122 ?_;intro Z hg aq hbox hb;have d:=Aside0.mk hbox;have ab:=hz HB hg;replace HB:=hs HB hb;clear hb hbox hg;have:=cf8 d)|(refine gl (some 8) Tryz.func51 #[.slice m a.length n, .int .i64 a1] rfl ?_;(with_reducible refine(cZ.calls _ _ a a1 b _ (cb x.out) y.out A3.out).mono ?_);rintro e w' ⟨rfl,⟨nd,rfl⟩⟩;refine⟨_,rfl, ?_⟩)|(refine gl (some 14) Tryz.func133 #[.slice o c.length p, .int .i64 b] rfl ?_;(with_reducible refine(gP.calls _ _ c b g _ (cb z.out) A.out A7.out).mono ?_);rintro e w' ⟨rfl,⟨nd,rfl⟩⟩;refine⟨_,rfl, ?_⟩)|(refine gl (some 20) Tryz.func134 #[.slice q i.length s, .int .i64 g] rfl ?_;(with_reducible refine(dN.calls k _ _ i g l _ (cb I.out) J.out ac.out).mono ?_);rintro e ar ⟨rfl,hb⟩;refine⟨_,rfl, ?_⟩;replace d:=kb d hb;replace HB:=hs HB hb))
  go_ret
  exact fin
 rw[if_neg c12]at H
 have ad:decide (l<0)=false:=decide_eq_false c12
 clear c12
 obtain⟨t,am,H⟩:=ob H
 by_cases c17:t<0
 ·rw[if_pos c17]at H
  have al:decide (t<0)=true:=decide_eq_true c17
  clear c17
  obtain rfl:=Option.some.inj H;clear H
  go_enter Tryz.func71,Tryz.ntmps71
  go_wp2_with (first|((with_reducible refine gd 2 rfl ?_);refine bx 2 #[.int .i64 B, .int .i64 D, .slice m a.length n, .int .i64 E, .int .i64 G, .slice o c.length p, .slice q i.length s, .slice u j.length v] 122 ?_;intro Z hg aw hbox hb;have d:=Aside0.mk hbox;have ab:=hz HB hg;replace HB:=hs HB hb;clear hb hbox hg;have:=cf8 d)|(refine gl (some 8) Tryz.func51 #[.slice m a.length n, .int .i64 a1] rfl ?_;(with_reducible refine(cZ.calls _ _ a a1 b _ (cb x.out) y.out A3.out).mono ?_);rintro e w' ⟨rfl,⟨nd,rfl⟩⟩;refine⟨_,rfl, ?_⟩)|(refine gl (some 14) Tryz.func133 #[.slice o c.length p, .int .i64 b] rfl ?_;(with_reducible refine(gP.calls _ _ c b g _ (cb z.out) A.out A7.out).mono ?_);rintro e w' ⟨rfl,⟨nd,rfl⟩⟩;refine⟨_,rfl, ?_⟩)|(refine gl (some 20) Tryz.func134 #[.slice q i.length s, .int .i64 g] rfl ?_;(with_reducible refine(dN.calls k _ _ i g l _ (cb I.out) J.out ac.out).mono ?_);rintro e aB ⟨rfl,hb⟩;refine⟨_,rfl, ?_⟩;replace d:=kb d hb;replace HB:=hs HB hb;have:=cf8 d)|(refine gl (some 26) Tryz.func135 #[.slice u j.length v, .int .i64 l] rfl ?_;(with_reducible refine(gZ.calls _ _ j l t _ (cb X.out) Y.out am.out).mono ?_);rintro e w' ⟨rfl,⟨nd,rfl⟩⟩;refine⟨_,rfl, ?_⟩))
  go_ret
  exact fin
 rw[if_neg c17]at H
 have al:decide (t<0)=false:=decide_eq_false c17
 clear c17
 obtain rfl:=Option.some.inj H;clear H
 go_enter Tryz.func71,Tryz.ntmps71
 go_wp2_with (first|((with_reducible refine gd 2 rfl ?_);refine bx 2 #[.int .i64 B, .int .i64 D, .slice m a.length n, .int .i64 E, .int .i64 G, .slice o c.length p, .slice q i.length s, .slice u j.length v] 122 ?_;intro Z hg aE hbox hb;have d:=Aside0.mk hbox;have ab:=hz HB hg;replace HB:=hs HB hb;clear hb hbox hg;have:=cf8 d)|(refine gl (some 8) Tryz.func51 #[.slice m a.length n, .int .i64 a1] rfl ?_;(with_reducible refine(cZ.calls _ _ a a1 b _ (cb x.out) y.out A3.out).mono ?_);rintro e w' ⟨rfl,⟨nd,rfl⟩⟩;refine⟨_,rfl, ?_⟩)|(refine gl (some 14) Tryz.func133 #[.slice o c.length p, .int .i64 b] rfl ?_;(with_reducible refine(gP.calls _ _ c b g _ (cb z.out) A.out A7.out).mono ?_);rintro e w' ⟨rfl,⟨nd,rfl⟩⟩;refine⟨_,rfl, ?_⟩)|(refine gl (some 20) Tryz.func134 #[.slice q i.length s, .int .i64 g] rfl ?_;(with_reducible refine(dN.calls k _ _ i g l _ (cb I.out) J.out ac.out).mono ?_);rintro e aF ⟨rfl,hb⟩;refine⟨_,rfl, ?_⟩;replace d:=kb d hb;replace HB:=hs HB hb;have:=cf8 d)|(refine gl (some 26) Tryz.func135 #[.slice u j.length v, .int .i64 l] rfl ?_;(with_reducible refine(gZ.calls _ _ j l t _ (cb X.out) Y.out am.out).mono ?_);rintro e w' ⟨rfl,⟨nd,rfl⟩⟩;refine⟨_,rfl, ?_⟩))
 go_ret
 exact fin
set_option maxHeartbeats 8000000 in
set_option maxRecDepth 100000 in
theorem dJ.calls (k:Nat) (A0:Option Addr) (c0:Nat) (l0:List (S122)) (a1:Int) (r:Int) (w:World) (hr0:Kd.C kL w A0 l0.length l0) (hc0:l0.length≤c0) (h:dJ.f k l0 a1=some r):
  Calls Tryz.prog 27 #[.slice A0 l0.length c0, .int .i64 a1] w fun e w' =>e= .returned (.int .i64 r)∧Below w.heap.size w w' :=by
 have am:=Tryz.underlying122
 have Z:=Aside0.mk hr0
 have ao:=Aside0.mk hc0
 clear hr0 hc0
 have HB:=Aside0.mk (Below.refl w.heap.size w)
 have H:(if(wrap64 (a1 - (l0.length:Int)))<0 then(some (-1))else(dJ.l0 k l0 (wrap64 (a1 - (l0.length:Int))) 0))=some r:=h
 clear h
 by_cases c3:(wrap64 (a1 - (l0.length:Int)))<0
 ·rw[if_pos c3]at H
  have ac:decide ((wrap64 (a1 - (l0.length:Int)))<0)=true:=decide_eq_true c3
  clear c3
  obtain rfl:=Option.some.inj H;clear H
  go_enter Tryz.func27,Tryz.ntmps27
  go_wp2
  go_ret
  exact fin
 rw[if_neg c3]at H
 have ac:decide ((wrap64 (a1 - (l0.length:Int)))<0)=false:=decide_eq_false c3
 clear c3
 have H' :=Aside0.mk H
 clear H
 go_enter Tryz.func27,Tryz.ntmps27
 go_wp2
 go_loopg [1,5] k (fun kq v1 v5 w' => ∃(x:Int) (a:Int),v1= .int .i64 x∧v5= .int .i64 a∧Aside0 (dJ.l0 kq l0 x a=some r)∧Aside0 (kq≤k)∧Aside0 (Below w.heap.size w w'))
 case atStart=>exact⟨(wrap64 (a1 - (l0.length:Int))),(0),(by first|rfl|(simp;done)|(simp[*];done)),(by first|rfl|(simp;done)|(simp[*];done)),H',⟨Nat.le_refl _⟩,⟨bl⟩⟩
 case round=>
  clear H'
  obtain⟨x,a,rfl,rfl,HA,ab,HB⟩:=hrel
  cases gk with
  |zero=>exact absurd HA.out (by simp[dJ.l0])
  | succ k1=>
   have H:=HA.out
   clear HA
   simp only[dJ.l0]at H
   by_cases c4:a<(l0.length:Int)
   ·rw[if_pos c4]at H
    have ad:decide (a<(l0.length:Int))=true:=decide_eq_true c4
    clear c4
    by_cases c5:0≤a
    ·rw[if_pos c5]at H
     have an:decide (0≤a)=true:=decide_eq_true c5
     clear c5
     obtain⟨t116,A6,H⟩:=ob H
     by_cases c7:t116<0
     ·rw[if_pos c7]at H
      have al:decide (t116<0)=true:=decide_eq_true c7
      clear c7
      obtain rfl:=Option.some.inj H;clear H
      have y:0≤(a:Int):=od
      have z:a<(l0.length:Int):=od
      obtain⟨Y,L,M,O,P,T,U,W,X,e115,b,c,d,g,i,j,l,m,n,o,p,q,s,t,u,v⟩:=mY Z.out a y z
      cases e115
      obtain⟨b,c,d,g,i,j,l,m⟩:=hc8 HB b c d g i j l m
      have A:=Aside0.mk o
      have B:=Aside0.mk n
      clear o n
      have D:=Aside0.mk q
      have E:=Aside0.mk p
      clear q p
      have G:=Aside0.mk t
      have I:=Aside0.mk s
      clear t s
      have J:=Aside0.mk v
      have K:=Aside0.mk u
      clear v u
      replace y:=eq_true y
      replace z:=eq_true z
      go_wp2_with (first|(refine gl (some 23) Tryz.func71 #[.agg #[.int .i64 ((bf l0 a).f0), .int .i64 ((bf l0 a).f1), .slice L ((bf l0 a).f2).length M, .int .i64 ((bf l0 a).f3), .int .i64 ((bf l0 a).f4), .slice O ((bf l0 a).f5).length P, .slice T ((bf l0 a).f6).length U, .slice W ((bf l0 a).f7).length X], .int .i64 x] rfl ?_;(with_reducible refine(ib.calls k1 ((bf l0 a).f0) ((bf l0 a).f1) _ _ ((bf l0 a).f2) ((bf l0 a).f3) ((bf l0 a).f4) _ _ ((bf l0 a).f5) _ _ ((bf l0 a).f6) _ _ ((bf l0 a).f7) x t116 _ (cb A.out) B.out (cb D.out) E.out (cb G.out) I.out (cb J.out) K.out A6.out).mono ?_);rintro e w8 ⟨rfl,hb⟩;refine⟨_,rfl, ?_⟩;replace HB:=hs HB hb))
      go_ret
      exact fin
     rw[if_neg c7]at H
     have al:decide (t116<0)=false:=decide_eq_false c7
     clear c7
     have H' :=Aside0.mk H
     clear H
     have y:0≤(a:Int):=od
     have z:a<(l0.length:Int):=od
     obtain⟨Y,L,M,O,P,T,U,W,X,e115,b,c,d,g,i,j,l,m,n,o,p,q,s,t,u,v⟩:=mY Z.out a y z
     cases e115
     obtain⟨b,c,d,g,i,j,l,m⟩:=hc8 HB b c d g i j l m
     have A:=Aside0.mk o
     have B:=Aside0.mk n
     clear o n
     have D:=Aside0.mk q
     have E:=Aside0.mk p
     clear q p
     have G:=Aside0.mk t
     have I:=Aside0.mk s
     clear t s
     have J:=Aside0.mk v
     have K:=Aside0.mk u
     clear v u
     replace y:=eq_true y
     replace z:=eq_true z
     go_wp2_with (first|(refine gl (some 23) Tryz.func71 #[.agg #[.int .i64 ((bf l0 a).f0), .int .i64 ((bf l0 a).f1), .slice L ((bf l0 a).f2).length M, .int .i64 ((bf l0 a).f3), .int .i64 ((bf l0 a).f4), .slice O ((bf l0 a).f5).length P, .slice T ((bf l0 a).f6).length U, .slice W ((bf l0 a).f7).length X], .int .i64 x] rfl ?_;(with_reducible refine(ib.calls k1 ((bf l0 a).f0) ((bf l0 a).f1) _ _ ((bf l0 a).f2) ((bf l0 a).f3) ((bf l0 a).f4) _ _ ((bf l0 a).f5) _ _ ((bf l0 a).f6) _ _ ((bf l0 a).f7) x t116 _ (cb A.out) B.out (cb D.out) E.out (cb G.out) I.out (cb J.out) K.out A6.out).mono ?_);rintro e w9 ⟨rfl,hb⟩;refine⟨_,rfl, ?_⟩;replace HB:=hs HB hb))
     go_roundg k1
     case measure=>have:=ab.out;omega
     case rel=>exact⟨(t116),(wrap64 (a+1)),(by first|rfl|(simp;done)|(simp[*];done)),(by first|rfl|(simp;done)|(simp[*];done)),H',⟨by have:=ab.out;omega⟩,⟨bl⟩⟩
    rw[if_neg c5]at H
    exact absurd H (by simp)
   rw[if_neg c4]at H
   have ad:decide (a<(l0.length:Int))=false:=decide_eq_false c4
   clear c4
   obtain rfl:=Option.some.inj H;clear H
   go_wp2
   go_ret
   exact fin
set_option maxHeartbeats 8000000 in
set_option maxRecDepth 100000 in
theorem gQ.calls (k:Nat) (g:Option Addr) (i:Nat) (b:List (S116)) (j:Option Addr) (l:Nat) (c:List (S122)) (a1:Int) (r:Int) (w:World) (o:Kd.C kI w g b.length b) (p:b.length≤i) (q:Kd.C kL w j c.length c) (s:c.length≤l) (h:gQ.f k b c a1=some r):
  Calls Tryz.prog 6 #[.agg #[.slice g b.length i, .slice j c.length l], .int .i64 a1] w fun e w' =>e= .returned (.int .i64 r)∧Below w.heap.size w w' :=by
 have A:=Tryz.underlying25
 have m:=Aside0.mk o
 have n:=Aside0.mk p
 clear o p
 have t:=Aside0.mk q
 have u:=Aside0.mk s
 clear q s
 have HB:=Aside0.mk (Below.refl w.heap.size w)
 have H:((dF.f k b a1).bind fun d=>(if d<0 then(some (-1))else((dJ.f k c d).bind fun t119=>(if t119<0 then(some (-1))else(some t119)))))=some r:=h
 clear h
 obtain⟨d,A3,H⟩:=ob H
 by_cases c4:d<0
 ·rw[if_pos c4]at H
  have y:decide (d<0)=true:=decide_eq_true c4
  clear c4
  obtain rfl:=Option.some.inj H;clear H
  go_enter Tryz.func6,Tryz.ntmps6
  go_wp2_with (first|((with_reducible refine gd 2 rfl ?_);refine bx 2 #[.slice g b.length i, .slice j c.length l] 25 ?_;intro v hg w5 hbox hb;have a:=Aside0.mk hbox;have x:=hz HB hg;replace HB:=hs HB hb;clear hb hbox hg;have:=cf2 a)|(refine gl (some 8) Tryz.func26 #[.slice g b.length i, .int .i64 a1] rfl ?_;(with_reducible refine(dF.calls k _ _ b a1 d _ (cb m.out) n.out A3.out).mono ?_);rintro e w7 ⟨rfl,hb⟩;refine⟨_,rfl, ?_⟩;replace a:=kb a hb;replace HB:=hs HB hb))
  go_ret
  exact fin
 rw[if_neg c4]at H
 have y:decide (d<0)=false:=decide_eq_false c4
 clear c4
 obtain⟨t119,A8,H⟩:=ob H
 by_cases c9:t119<0
 ·rw[if_pos c9]at H
  have z:decide (t119<0)=true:=decide_eq_true c9
  clear c9
  obtain rfl:=Option.some.inj H;clear H
  go_enter Tryz.func6,Tryz.ntmps6
  go_wp2_with (first|((with_reducible refine gd 2 rfl ?_);refine bx 2 #[.slice g b.length i, .slice j c.length l] 25 ?_;intro v hg B hbox hb;have a:=Aside0.mk hbox;have x:=hz HB hg;replace HB:=hs HB hb;clear hb hbox hg;have:=cf2 a)|(refine gl (some 8) Tryz.func26 #[.slice g b.length i, .int .i64 a1] rfl ?_;(with_reducible refine(dF.calls k _ _ b a1 d _ (cb m.out) n.out A3.out).mono ?_);rintro e D ⟨rfl,hb⟩;refine⟨_,rfl, ?_⟩;replace a:=kb a hb;replace HB:=hs HB hb;have:=cf2 a)|(refine gl (some 14) Tryz.func27 #[.slice j c.length l, .int .i64 d] rfl ?_;(with_reducible refine(dJ.calls k _ _ c d t119 _ (cb t.out) u.out A8.out).mono ?_);rintro e E ⟨rfl,hb⟩;refine⟨_,rfl, ?_⟩;replace a:=kb a hb;replace HB:=hs HB hb))
  go_ret
  exact fin
 rw[if_neg c9]at H
 have z:decide (t119<0)=false:=decide_eq_false c9
 clear c9
 obtain rfl:=Option.some.inj H;clear H
 go_enter Tryz.func6,Tryz.ntmps6
 go_wp2_with (first|((with_reducible refine gd 2 rfl ?_);refine bx 2 #[.slice g b.length i, .slice j c.length l] 25 ?_;intro v hg G hbox hb;have a:=Aside0.mk hbox;have x:=hz HB hg;replace HB:=hs HB hb;clear hb hbox hg;have:=cf2 a)|(refine gl (some 8) Tryz.func26 #[.slice g b.length i, .int .i64 a1] rfl ?_;(with_reducible refine(dF.calls k _ _ b a1 d _ (cb m.out) n.out A3.out).mono ?_);rintro e I ⟨rfl,hb⟩;refine⟨_,rfl, ?_⟩;replace a:=kb a hb;replace HB:=hs HB hb;have:=cf2 a)|(refine gl (some 14) Tryz.func27 #[.slice j c.length l, .int .i64 d] rfl ?_;(with_reducible refine(dJ.calls k _ _ c d t119 _ (cb t.out) u.out A8.out).mono ?_);rintro e J ⟨rfl,hb⟩;refine⟨_,rfl, ?_⟩;replace a:=kb a hb;replace HB:=hs HB hb))
 go_ret
 exact fin
end Go.Proofs.YteinbmkgenhocaaGreat.P
end
