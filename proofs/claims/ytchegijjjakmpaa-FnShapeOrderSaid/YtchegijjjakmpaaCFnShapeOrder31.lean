/- A part of the claim FnShapeOrder: texts of this session and texts that its program printed out of the translation, joined. -/
import Derived.Test.YtchegijjjakmpaaCFnShapeOrder22
import Derived.Test.YtchegijjjakmpaaCFnShapeOrder24
import Derived.Test.YtchegijjjakmpaaCFnShapeOrder23
import Derived.Test.YtchegijjjakmpaaCFnShapeOrder0
import Derived.Test.YtchegijjjakmpaaCFnShapeOrder1
import Derived.Test.YtchegijjjakmpaaCFnShapeOrder2
import Derived.Test.YtchegijjjakmpaaCFnShapeOrder3
import Derived.Test.YtchegijjjakmpaaCFnShapeOrder4
import Derived.Test.YtchegijjjakmpaaCFnShapeOrder5
import Derived.Test.YtchegijjjakmpaaCFnShapeOrder6
import Derived.Test.YtchegijjjakmpaaCFnShapeOrder7
import Derived.Test.YtchegijjjakmpaaCFnShapeOrder8
import Derived.Test.YtchegijjjakmpaaCFnShapeOrder9
import Derived.Test.YtchegijjjakmpaaCFnShapeOrder10
import Derived.Test.YtchegijjjakmpaaCFnShapeOrder11
import Derived.Test.YtchegijjjakmpaaCFnShapeOrder12
import Derived.Test.YtchegijjjakmpaaCFnShapeOrder13
import Derived.Test.YtchegijjjakmpaaCFnShapeOrder14
import Derived.Test.YtchegijjjakmpaaCFnShapeOrder15
import Derived.Test.YtchegijjjakmpaaCFnShapeOrder16
import Derived.Test.YtchegijjjakmpaaCFnShapeOrder17
import Derived.Test.YtchegijjjakmpaaCFnShapeOrder18
import Derived.Test.YtchegijjjakmpaaCFnShapeOrder19
import Derived.Test.YtchegijjjakmpaaCFnShapeOrder20
import Derived.Test.YtchegijjjakmpaaCFnShapeOrder21
import Derived.Test.YtchegijjjakmpaaCFnShapeOrder25
import Derived.Test.YtchegijjjakmpaaCFnShapeOrder26
import Derived.Test.YtchegijjjakmpaaCFnShapeOrder27
import Derived.Test.YtchegijjjakmpaaCFnShapeOrder28
import Derived.Test.YtchegijjjakmpaaCFnShapeOrder29
import Derived.Test.YtchegijjjakmpaaCFnShapeOrder30
section

namespace Go.Proofs.Ytchegijjjakmpaa.P
open Go.RowKit Go.Proofs.YtchegijjjakmpaaW.PrintWords Go.Proofs.YtchegijjjakmpaaW.PrintLast Go.Proofs.YtchegijjjakmpaaW.PrintMore
attribute [local go_sem] max2_int min2_int max_two min_two max_three min_three max_four min_four
set_option linter.unusedVariables false
set_option linter.unusedSimpArgs false
set_option maxHeartbeats 8000000 in
set_option maxRecDepth 100000 in
theorem spec_l11In.calls (k : Nat) (A0 : Option Addr) (c0 : Nat) (l0 : List (S48)) (a1_0 : Bool) (A1_1 : Option Addr) (c1_1 : Nat) (l1_1 : List Int) (A1_2 : Option Addr) (c1_2 : Nat) (l1_2 : List Int) (a2_0 : Bool) (A2_1 : Option Addr) (c2_1 : Nat) (l2_1 : List Int) (A2_2 : Option Addr) (c2_2 : Nat) (l2_2 : List Int) (r : Bool) (w : World) (hr0 : Kd.C k48 w A0 l0.length l0) (hc0 : l0.length ≤ c0) (hr1_1 : Kd.C (Kd.int .i64) w A1_1 l1_1.length l1_1) (hc1_1 : l1_1.length ≤ c1_1) (hr1_2 : Kd.C (Kd.int .i64) w A1_2 l1_2.length l1_2) (hc1_2 : l1_2.length ≤ c1_2) (hr2_1 : Kd.C (Kd.int .i64) w A2_1 l2_1.length l2_1) (hc2_1 : l2_1.length ≤ c2_1) (hr2_2 : Kd.C (Kd.int .i64) w A2_2 l2_2.length l2_2) (hc2_2 : l2_2.length ≤ c2_2) (h : spec_l11In.f k l0 a1_0 l1_1 l1_2 a2_0 l2_1 l2_2 = some r) :
  Calls Try.prog 15 #[.slice A0 l0.length c0, .agg #[.bool a1_0, .slice A1_1 l1_1.length c1_1, .slice A1_2 l1_2.length c1_2], .agg #[.bool a2_0, .slice A2_1 l2_1.length c2_1, .slice A2_2 l2_2.length c2_2]] w fun e w' => e = .returned (.bool r) ∧ Below w.heap.size w w' := by
 have hu26 := Try.underlying26
 have HR0 := Aside0.mk hr0
 have HC0 := Aside0.mk hc0
 clear hr0 hc0
 have HR1_1 := Aside0.mk hr1_1
 have HC1_1 := Aside0.mk hc1_1
 clear hr1_1 hc1_1
 have HR1_2 := Aside0.mk hr1_2
 have HC1_2 := Aside0.mk hc1_2
 clear hr1_2 hc1_2
 have HR2_1 := Aside0.mk hr2_1
 have HC2_1 := Aside0.mk hc2_1
 clear hr2_1 hc2_1
 have HR2_2 := Aside0.mk hr2_2
 have HC2_2 := Aside0.mk hc2_2
 clear hr2_2 hc2_2
 have HB := Aside0.mk (Below.refl w.heap.size w)
 have H : (if (l1_2.length : Int) = (l2_2.length : Int) then (spec_l11In.l0 k l0 0 a1_0 l1_1 l1_2 a2_0 l2_1 l2_2) else (some false)) = some r := h
 clear h
 by_cases c4 : (l1_2.length : Int) = (l2_2.length : Int)
 ·rw [if_pos c4] at H
  have c4b0 := beq_iff_eq.mpr c4
  have c4b1 := bne_eq_false_iff_eq.mpr c4
  have c4b2 : (l1_2.length == l2_2.length) = true := by first | simpa using c4 | (simp at c4 ⊢; omega)
  clear c4
  have H' := Aside0.mk H
  clear H
  go_enter Try.func15, Try.ntmps15
  go_wp2_with (first | ((with_reducible refine gd 4 rfl ?_); refine bx 4 #[.bool a1_0, .slice A1_1 l1_1.length c1_1, .slice A1_2 l1_2.length c1_2] 26 ?_; intro gb378 hg w5 hbox hb; have BK378 := Aside0.mk hbox; have GW378 := hz HB hg; have GE378 := hz HB hg; replace HB := hs HB hb; clear hb hbox hg) | ((with_reducible refine gd 5 rfl ?_); refine bx 5 #[.bool a2_0, .slice A2_1 l2_1.length c2_1, .slice A2_2 l2_2.length c2_2] 26 ?_; intro gb379 hg w6 hbox hb; have BK379 := Aside0.mk hbox; have GW379 := hz HB hg; have GE379 := hz HB hg; have NB378_379 := nl BK378 hg; have NB379_378 := ng BK378 hg; replace BK378 := kb BK378 hb; replace HB := hs HB hb; clear hb hbox hg; have hnb7 := NB378_379.out; have hnc7 := NB379_378.out; obtain ⟨_,_,_,_,_,_⟩ := cf3 BK378; obtain ⟨_,_,_,_,_,_⟩ := cf3 BK379))
  repeat (go_quiet (first | ((with_reducible refine gate_dst (N := 4) rfl ?_); refine box_event ?hg (N := 4) ?hd (cs := #[.bool a1_0, .slice A1_1 l1_1.length c1_1, .slice A1_2 l1_2.length c1_2]) (t := 26) ?hr ?_; (case hd => rfl); (case hg => rfl); (case hr => first | (go_simp; done) | (go_simp; rfl)); intro gb378 hg w5 hbox hb; have n0_ := hs HB hb; have n1_ := Aside0.mk (hbox); have n2_ := Aside0.mk ((by rw [hg]; exact (below_size bl) : w.heap.size ≤ gb378)); have n3_ := Aside0.mk ((by rw [hg]; exact (below_size bl) : w.heap.size ≤ gb378)); clear HB; have HB := n0_; have BK378 := n1_; have GW378 := n2_; have GE378 := n3_; clear n0_ n1_ n2_ n3_; clear hb hbox hg) | ((with_reducible refine gate_dst (N := 5) rfl ?_); refine box_event ?hg (N := 5) ?hd (cs := #[.bool a2_0, .slice A2_1 l2_1.length c2_1, .slice A2_2 l2_2.length c2_2]) (t := 26) ?hr ?_; (case hd => rfl); (case hg => rfl); (case hr => first | (go_simp; done) | (go_simp; rfl)); intro gb379 hg w6 hbox hb; have n0_ := Aside0.mk (blk_below (g := gb378) (o := .cells #[.bool a1_0, .slice A1_1 l1_1.length c1_1, .slice A1_2 l1_2.length c1_2] 26 (0, 0)) BK378.out hb); have n1_ := hs HB hb; have n2_ := Aside0.mk (hbox); have n3_ := Aside0.mk ((by rw [hg]; exact (below_size bl) : w.heap.size ≤ gb379)); have n4_ := Aside0.mk ((by rw [hg]; exact (below_size bl) : w.heap.size ≤ gb379)); have n5_ := Aside0.mk ((by rw [hg]; exact Nat.ne_of_lt (blk_lt (g := gb378) (o := .cells #[.bool a1_0, .slice A1_1 l1_1.length c1_1, .slice A1_2 l1_2.length c1_2] 26 (0, 0)) BK378.out) : gb378 ≠ gb379)); have n6_ := Aside0.mk ((by rw [hg]; exact Nat.ne_of_gt (blk_lt (g := gb378) (o := .cells #[.bool a1_0, .slice A1_1 l1_1.length c1_1, .slice A1_2 l1_2.length c1_2] 26 (0, 0)) BK378.out) : gb379 ≠ gb378)); clear BK378; clear HB; have BK378 := n0_; have HB := n1_; have BK379 := n2_; have GW379 := n3_; have GE379 := n4_; have NB378_379 := n5_; have NB379_378 := n6_; clear n0_ n1_ n2_ n3_ n4_ n5_ n6_; clear hb hbox hg; have hnb7 := NB378_379.out; have hnc7 := NB379_378.out; have hcz8_0 : w6.cell? ⟨gb378, 0, none⟩ = some (.bool a1_0) := (blk_cell BK378.out 0).trans rfl; have hcz8_1 : w6.cell? ⟨gb378, 1, none⟩ = some (.slice A1_1 l1_1.length c1_1) := (blk_cell BK378.out 1).trans rfl; have hcz8_2 : w6.cell? ⟨gb378, 2, none⟩ = some (.slice A1_2 l1_2.length c1_2) := (blk_cell BK378.out 2).trans rfl; have hfz8_0 := blk_frozen BK378.out 0; have hfz8_1 := blk_frozen BK378.out 1; have hfz8_2 := blk_frozen BK378.out 2; have hcz9_0 : w6.cell? ⟨gb379, 0, none⟩ = some (.bool a2_0) := (blk_cell BK379.out 0).trans rfl; have hcz9_1 : w6.cell? ⟨gb379, 1, none⟩ = some (.slice A2_1 l2_1.length c2_1) := (blk_cell BK379.out 1).trans rfl; have hcz9_2 : w6.cell? ⟨gb379, 2, none⟩ = some (.slice A2_2 l2_2.length c2_2) := (blk_cell BK379.out 2).trans rfl; have hfz9_0 := blk_frozen BK379.out 0; have hfz9_1 := blk_frozen BK379.out 1; have hfz9_2 := blk_frozen BK379.out 2)); try go_wp2_with (first | ((with_reducible refine gd 4 rfl ?_); refine bx 4 #[.bool a1_0, .slice A1_1 l1_1.length c1_1, .slice A1_2 l1_2.length c1_2] 26 ?_; intro gb378 hg w5 hbox hb; have BK378 := Aside0.mk hbox; have GW378 := hz HB hg; have GE378 := hz HB hg; replace HB := hs HB hb; clear hb hbox hg) | ((with_reducible refine gd 5 rfl ?_); refine box_event ?hg (N := 5) ?hd (cs := #[.bool a2_0, .slice A2_1 l2_1.length c2_1, .slice A2_2 l2_2.length c2_2]) (t := 26) ?hr ?_; (case hd => rfl); (case hg => rfl); (case hr => first | (go_simp; done) | (go_simp; rfl)); intro gb379 hg w6 hbox hb; have n0_ := Aside0.mk (blk_below (g := gb378) (o := .cells #[.bool a1_0, .slice A1_1 l1_1.length c1_1, .slice A1_2 l1_2.length c1_2] 26 (0, 0)) BK378.out hb); have n1_ := hs HB hb; have n2_ := Aside0.mk (hbox); have n3_ := Aside0.mk ((by rw [hg]; exact (below_size bl) : w.heap.size ≤ gb379)); have n4_ := Aside0.mk ((by rw [hg]; exact (below_size bl) : w.heap.size ≤ gb379)); have n5_ := Aside0.mk ((by rw [hg]; exact Nat.ne_of_lt (blk_lt (g := gb378) (o := .cells #[.bool a1_0, .slice A1_1 l1_1.length c1_1, .slice A1_2 l1_2.length c1_2] 26 (0, 0)) BK378.out) : gb378 ≠ gb379)); have n6_ := Aside0.mk ((by rw [hg]; exact Nat.ne_of_gt (blk_lt (g := gb378) (o := .cells #[.bool a1_0, .slice A1_1 l1_1.length c1_1, .slice A1_2 l1_2.length c1_2] 26 (0, 0)) BK378.out) : gb379 ≠ gb378)); clear BK378; clear HB; have BK378 := n0_; have HB := n1_; have BK379 := n2_; have GW379 := n3_; have GE379 := n4_; have NB378_379 := n5_; have NB379_378 := n6_; clear n0_ n1_ n2_ n3_ n4_ n5_ n6_; clear hb hbox hg; have hnb7 := NB378_379.out; have hnc7 := NB379_378.out; have hcz8_0 : w6.cell? ⟨gb378, 0, none⟩ = some (.bool a1_0) := (blk_cell BK378.out 0).trans rfl; have hcz8_1 : w6.cell? ⟨gb378, 1, none⟩ = some (.slice A1_1 l1_1.length c1_1) := (blk_cell BK378.out 1).trans rfl; have hcz8_2 : w6.cell? ⟨gb378, 2, none⟩ = some (.slice A1_2 l1_2.length c1_2) := (blk_cell BK378.out 2).trans rfl; have hfz8_0 := blk_frozen BK378.out 0; have hfz8_1 := blk_frozen BK378.out 1; have hfz8_2 := blk_frozen BK378.out 2; have hcz9_0 : w6.cell? ⟨gb379, 0, none⟩ = some (.bool a2_0) := (blk_cell BK379.out 0).trans rfl; have hcz9_1 : w6.cell? ⟨gb379, 1, none⟩ = some (.slice A2_1 l2_1.length c2_1) := (blk_cell BK379.out 1).trans rfl; have hcz9_2 : w6.cell? ⟨gb379, 2, none⟩ = some (.slice A2_2 l2_2.length c2_2) := (blk_cell BK379.out 2).trans rfl; have hfz9_0 := blk_frozen BK379.out 0; have hfz9_1 := blk_frozen BK379.out 1; have hfz9_2 := blk_frozen BK379.out 2)))
  go_loopg [7] k (fun kq v7 w' => ∃ (x7_1 : Int), v7 = .int .i64 x7_1 ∧ Aside0 (spec_l11In.l0 kq l0 x7_1 a1_0 l1_1 l1_2 a2_0 l2_1 l2_2 = some r) ∧ Aside0 (kq ≤ k) ∧ Aside0 (w'.heap[gb378]? = some (.cells #[.bool a1_0, (.slice A1_1 l1_1.length c1_1), (.slice A1_2 l1_2.length c1_2)] 26 (0, 0))) ∧ Aside0 (w'.heap[gb379]? = some (.cells #[.bool a2_0, (.slice A2_1 l2_1.length c2_1), (.slice A2_2 l2_2.length c2_2)] 26 (0, 0))) ∧ Aside0 (Below w.heap.size w w'))
  case atStart => exact ⟨(0), (by first | rfl | (simp; done) | (simp [*]; done)), H', ⟨Nat.le_refl _⟩, kk BK378, kk BK379, ⟨bl⟩⟩
  case round =>
   clear H'
   obtain ⟨x7_1, rfl, HA, HK1, BK378, BK379, HB⟩ := hrel
   cases gk with
   | zero => exact absurd HA.out (by simp [spec_l11In.l0])
   | succ k1 =>
    have H := HA.out
    clear HA
    simp only [spec_l11In.l0] at H
    by_cases c10 : x7_1 < (l1_1.length : Int)
    ·rw [if_pos c10] at H
     have c10b0 : decide (x7_1 < (l1_1.length : Int)) = true := decide_eq_true c10
     clear c10
     by_cases c11 : 0 ≤ x7_1
     ·rw [if_pos c11] at H
      have c11b0 : decide (0 ≤ x7_1) = true := decide_eq_true c11
      clear c11
      by_cases c12 : x7_1 < (l2_1.length : Int)
      ·rw [if_pos c12] at H
       have c12b0 : decide (x7_1 < (l2_1.length : Int)) = true := decide_eq_true c12
       clear c12
       obtain ⟨t382, A13, H⟩ := ob H
       by_cases c14 : t382 = true
       ·subst c14
        replace H := it H
        have H' := Aside0.mk H
        clear H
        have hnb15 := NB378_379.out
        have hnc15 := NB379_378.out
        obtain ⟨_,_,_,_,_,_⟩ := cf3 BK378
        have p380 : 0 ≤ (x7_1 : Int) := od
        have q380 : x7_1 < (l1_1.length : Int) := od
        obtain ⟨ad380, e380, hx380_0⟩ := Kd.at_int HR1_1.out x7_1 p380 q380
        cases e380
        replace hx380_0 := hc HB hx380_0
        replace p380 := eq_true p380
        replace q380 := eq_true q380
        obtain ⟨_,_,_,_,_,_⟩ := cf3 BK379
        have p381 : 0 ≤ (x7_1 : Int) := od
        have q381 : x7_1 < (l2_1.length : Int) := od
        obtain ⟨ad381, e381, hx381_0⟩ := Kd.at_int HR2_1.out x7_1 p381 q381
        cases e381
        replace hx381_0 := hc HB hx381_0
        replace p381 := eq_true p381
        replace q381 := eq_true q381
        go_wp2_with (first | (go_at_call 26; (with_reducible refine (spec_l2In.calls k1 _ _ l0 (rd l1_1 x7_1) (rd l2_1 x7_1) true _ ?side1 ?side2 A13.out).mono ?_); (case side1 => exact cb HR0.out); (case side2 => exact HC0.out); rintro e w' ⟨rfl, ⟨nd, rfl⟩⟩; (try first | exact ⟨rfl, _, World.drewN_drewN _ _ _⟩ | exact ⟨rfl, _, Eq.trans (World.drewN_drewN _ _ _) (congrArg (World.drewN _) (Nat.add_assoc _ _ _))⟩)))
        repeat (go_quiet (first | (go_at_call 26; (with_reducible refine (spec_l2In.calls k1 _ _ l0 (rd l1_1 x7_1) (rd l2_1 x7_1) true _ ?side1 ?side2 A13.out).mono ?_); (case side1 => repeat (first | exact (Kd.C_below HR0.out HB.out) | (with_reducible refine Kd.C_alloc ?_ _) | (with_reducible refine Kd.C_drewN ?_ _) | (with_reducible refine Kd.C_drew ?_))); (case side2 => exact HC0.out); rintro e w' ⟨rfl, ⟨nd, rfl⟩⟩; (try first | exact ⟨rfl, _, World.drewN_drewN _ _ _⟩ | exact ⟨rfl, _, Eq.trans (World.drewN_drewN _ _ _) (congrArg (World.drewN _) (Nat.add_assoc _ _ _))⟩))); try go_wp2_with (first | (go_at_call 26; (with_reducible refine (spec_l2In.calls k1 _ _ l0 (rd l1_1 x7_1) (rd l2_1 x7_1) true _ ?side1 ?side2 A13.out).mono ?_); (case side1 => exact cb HR0.out); (case side2 => exact HC0.out); rintro e w' ⟨rfl, ⟨nd, rfl⟩⟩; (try first | exact ⟨rfl, _, World.drewN_drewN _ _ _⟩ | exact ⟨rfl, _, Eq.trans (World.drewN_drewN _ _ _) (congrArg (World.drewN _) (Nat.add_assoc _ _ _))⟩))))
        go_roundg k1
        case measure => have := HK1.out; omega
        case rel => exact ⟨(wrap64 (x7_1 + 1)), (by first | rfl | (simp; done) | (simp [*]; done)), H', ⟨by have := HK1.out; omega⟩, kk BK378, kk BK379, ⟨bl⟩⟩
       ·replace c14 := Bool.eq_false_iff.mpr c14
        subst c14
        replace H := ie H
        obtain rfl := Option.some.inj H; clear H
        have hnb18 := NB378_379.out
        have hnc18 := NB379_378.out
        obtain ⟨_,_,_,_,_,_⟩ := cf3 BK378
        have p380 : 0 ≤ (x7_1 : Int) := od
        have q380 : x7_1 < (l1_1.length : Int) := od
        obtain ⟨ad380, e380, hx380_0⟩ := Kd.at_int HR1_1.out x7_1 p380 q380
        cases e380
        replace hx380_0 := hc HB hx380_0
        replace p380 := eq_true p380
        replace q380 := eq_true q380
        obtain ⟨_,_,_,_,_,_⟩ := cf3 BK379
        have p381 : 0 ≤ (x7_1 : Int) := od
        have q381 : x7_1 < (l2_1.length : Int) := od
        obtain ⟨ad381, e381, hx381_0⟩ := Kd.at_int HR2_1.out x7_1 p381 q381
        cases e381
        replace hx381_0 := hc HB hx381_0
        replace p381 := eq_true p381
        replace q381 := eq_true q381
        go_wp2_with (first | (go_at_call 26; (with_reducible refine (spec_l2In.calls k1 _ _ l0 (rd l1_1 x7_1) (rd l2_1 x7_1) false _ ?side1 ?side2 A13.out).mono ?_); (case side1 => exact cb HR0.out); (case side2 => exact HC0.out); rintro e w' ⟨rfl, ⟨nd, rfl⟩⟩; (try first | exact ⟨rfl, _, World.drewN_drewN _ _ _⟩ | exact ⟨rfl, _, Eq.trans (World.drewN_drewN _ _ _) (congrArg (World.drewN _) (Nat.add_assoc _ _ _))⟩)))
        repeat (go_quiet (first | (go_at_call 26; (with_reducible refine (spec_l2In.calls k1 _ _ l0 (rd l1_1 x7_1) (rd l2_1 x7_1) false _ ?side1 ?side2 A13.out).mono ?_); (case side1 => repeat (first | exact (Kd.C_below HR0.out HB.out) | (with_reducible refine Kd.C_alloc ?_ _) | (with_reducible refine Kd.C_drewN ?_ _) | (with_reducible refine Kd.C_drew ?_))); (case side2 => exact HC0.out); rintro e w' ⟨rfl, ⟨nd, rfl⟩⟩; (try first | exact ⟨rfl, _, World.drewN_drewN _ _ _⟩ | exact ⟨rfl, _, Eq.trans (World.drewN_drewN _ _ _) (congrArg (World.drewN _) (Nat.add_assoc _ _ _))⟩))); try go_wp2_with (first | (go_at_call 26; (with_reducible refine (spec_l2In.calls k1 _ _ l0 (rd l1_1 x7_1) (rd l2_1 x7_1) false _ ?side1 ?side2 A13.out).mono ?_); (case side1 => exact cb HR0.out); (case side2 => exact HC0.out); rintro e w' ⟨rfl, ⟨nd, rfl⟩⟩; (try first | exact ⟨rfl, _, World.drewN_drewN _ _ _⟩ | exact ⟨rfl, _, Eq.trans (World.drewN_drewN _ _ _) (congrArg (World.drewN _) (Nat.add_assoc _ _ _))⟩))))
        go_ret
        exact fin
      ·rw [if_neg c12] at H
       exact absurd H (by simp)
     ·rw [if_neg c11] at H
      exact absurd H (by simp)
    ·rw [if_neg c10] at H
     have c10b0 : decide (x7_1 < (l1_1.length : Int)) = false := decide_eq_false c10
     clear c10
     have H' := Aside0.mk H
     clear H
     have hnb21 := NB378_379.out
     have hnc21 := NB379_378.out
     obtain ⟨_,_,_,_,_,_⟩ := cf3 BK378
     go_wp2
     repeat (go_quiet (fail); try go_wp2)
     go_loopg [8] k1 (fun kq v8 w' => ∃ (x8_2 : Int), v8 = .int .i64 x8_2 ∧ Aside0 (spec_l11In.l1 kq l0 x8_2 a1_0 l1_1 l1_2 a2_0 l2_1 l2_2 = some r) ∧ Aside0 (kq ≤ k1) ∧ Aside0 (w'.heap[gb378]? = some (.cells #[.bool a1_0, (.slice A1_1 l1_1.length c1_1), (.slice A1_2 l1_2.length c1_2)] 26 (0, 0))) ∧ Aside0 (w'.heap[gb379]? = some (.cells #[.bool a2_0, (.slice A2_1 l2_1.length c2_1), (.slice A2_2 l2_2.length c2_2)] 26 (0, 0))) ∧ Aside0 (Below w.heap.size w w'))
     case atStart => exact ⟨(0), (by first | rfl | (simp; done) | (simp [*]; done)), H', ⟨Nat.le_refl _⟩, kk BK378, kk BK379, ⟨bl⟩⟩
     case round =>
      clear H'
      obtain ⟨x8_2, rfl, HA, HK2, BK378, BK379, HB⟩ := hrel
      cases gk with
      | zero => exact absurd HA.out (by simp [spec_l11In.l1])
      | succ k2 =>
       have H := HA.out
       clear HA
       simp only [spec_l11In.l1] at H
       by_cases c23 : x8_2 < (l1_2.length : Int)
       ·rw [if_pos c23] at H
        have c23b0 : decide (x8_2 < (l1_2.length : Int)) = true := decide_eq_true c23
        clear c23
        by_cases c24 : 0 ≤ x8_2
        ·rw [if_pos c24] at H
         have c24b0 : decide (0 ≤ x8_2) = true := decide_eq_true c24
         clear c24
         by_cases c25 : x8_2 < (l2_2.length : Int)
         ·rw [if_pos c25] at H
          have c25b0 : decide (x8_2 < (l2_2.length : Int)) = true := decide_eq_true c25
          clear c25
          obtain ⟨t385, A26, H⟩ := ob H
          by_cases c27 : t385 = true
          ·subst c27
           replace H := it H
           have H' := Aside0.mk H
           clear H
           have hnb28 := NB378_379.out
           have hnc28 := NB379_378.out
           obtain ⟨_,_,_,_,_,_⟩ := cf3 BK378
           have p383 : 0 ≤ (x8_2 : Int) := od
           have q383 : x8_2 < (l1_2.length : Int) := od
           obtain ⟨ad383, e383, hx383_0⟩ := Kd.at_int HR1_2.out x8_2 p383 q383
           cases e383
           replace hx383_0 := hc HB hx383_0
           replace p383 := eq_true p383
           replace q383 := eq_true q383
           obtain ⟨_,_,_,_,_,_⟩ := cf3 BK379
           have p384 : 0 ≤ (x8_2 : Int) := od
           have q384 : x8_2 < (l2_2.length : Int) := od
           obtain ⟨ad384, e384, hx384_0⟩ := Kd.at_int HR2_2.out x8_2 p384 q384
           cases e384
           replace hx384_0 := hc HB hx384_0
           replace p384 := eq_true p384
           replace q384 := eq_true q384
           go_wp2_with (first | (go_at_call 26; (with_reducible refine (spec_l2In.calls k2 _ _ l0 (rd l1_2 x8_2) (rd l2_2 x8_2) true _ ?side1 ?side2 A26.out).mono ?_); (case side1 => exact cb HR0.out); (case side2 => exact HC0.out); rintro e w' ⟨rfl, ⟨nd, rfl⟩⟩; (try first | exact ⟨rfl, _, World.drewN_drewN _ _ _⟩ | exact ⟨rfl, _, Eq.trans (World.drewN_drewN _ _ _) (congrArg (World.drewN _) (Nat.add_assoc _ _ _))⟩)))
           repeat (go_quiet (first | (go_at_call 26; (with_reducible refine (spec_l2In.calls k2 _ _ l0 (rd l1_2 x8_2) (rd l2_2 x8_2) true _ ?side1 ?side2 A26.out).mono ?_); (case side1 => repeat (first | exact (Kd.C_below HR0.out HB.out) | (with_reducible refine Kd.C_alloc ?_ _) | (with_reducible refine Kd.C_drewN ?_ _) | (with_reducible refine Kd.C_drew ?_))); (case side2 => exact HC0.out); rintro e w' ⟨rfl, ⟨nd, rfl⟩⟩; (try first | exact ⟨rfl, _, World.drewN_drewN _ _ _⟩ | exact ⟨rfl, _, Eq.trans (World.drewN_drewN _ _ _) (congrArg (World.drewN _) (Nat.add_assoc _ _ _))⟩))); try go_wp2_with (first | (go_at_call 26; (with_reducible refine (spec_l2In.calls k2 _ _ l0 (rd l1_2 x8_2) (rd l2_2 x8_2) true _ ?side1 ?side2 A26.out).mono ?_); (case side1 => exact cb HR0.out); (case side2 => exact HC0.out); rintro e w' ⟨rfl, ⟨nd, rfl⟩⟩; (try first | exact ⟨rfl, _, World.drewN_drewN _ _ _⟩ | exact ⟨rfl, _, Eq.trans (World.drewN_drewN _ _ _) (congrArg (World.drewN _) (Nat.add_assoc _ _ _))⟩))))
           go_roundg k2
           case measure => have := HK1.out; have := HK2.out; omega
           case rel => exact ⟨(wrap64 (x8_2 + 1)), (by first | rfl | (simp; done) | (simp [*]; done)), H', ⟨by have := HK1.out; have := HK2.out; omega⟩, kk BK378, kk BK379, ⟨bl⟩⟩
          ·replace c27 := Bool.eq_false_iff.mpr c27
           subst c27
           replace H := ie H
           obtain rfl := Option.some.inj H; clear H
           have hnb31 := NB378_379.out
           have hnc31 := NB379_378.out
           obtain ⟨_,_,_,_,_,_⟩ := cf3 BK378
           have p383 : 0 ≤ (x8_2 : Int) := od
           have q383 : x8_2 < (l1_2.length : Int) := od
           obtain ⟨ad383, e383, hx383_0⟩ := Kd.at_int HR1_2.out x8_2 p383 q383
           cases e383
           replace hx383_0 := hc HB hx383_0
           replace p383 := eq_true p383
           replace q383 := eq_true q383
           obtain ⟨_,_,_,_,_,_⟩ := cf3 BK379
           have p384 : 0 ≤ (x8_2 : Int) := od
           have q384 : x8_2 < (l2_2.length : Int) := od
           obtain ⟨ad384, e384, hx384_0⟩ := Kd.at_int HR2_2.out x8_2 p384 q384
           cases e384
           replace hx384_0 := hc HB hx384_0
           replace p384 := eq_true p384
           replace q384 := eq_true q384
           go_wp2_with (first | (go_at_call 26; (with_reducible refine (spec_l2In.calls k2 _ _ l0 (rd l1_2 x8_2) (rd l2_2 x8_2) false _ ?side1 ?side2 A26.out).mono ?_); (case side1 => exact cb HR0.out); (case side2 => exact HC0.out); rintro e w' ⟨rfl, ⟨nd, rfl⟩⟩; (try first | exact ⟨rfl, _, World.drewN_drewN _ _ _⟩ | exact ⟨rfl, _, Eq.trans (World.drewN_drewN _ _ _) (congrArg (World.drewN _) (Nat.add_assoc _ _ _))⟩)))
           repeat (go_quiet (first | (go_at_call 26; (with_reducible refine (spec_l2In.calls k2 _ _ l0 (rd l1_2 x8_2) (rd l2_2 x8_2) false _ ?side1 ?side2 A26.out).mono ?_); (case side1 => repeat (first | exact (Kd.C_below HR0.out HB.out) | (with_reducible refine Kd.C_alloc ?_ _) | (with_reducible refine Kd.C_drewN ?_ _) | (with_reducible refine Kd.C_drew ?_))); (case side2 => exact HC0.out); rintro e w' ⟨rfl, ⟨nd, rfl⟩⟩; (try first | exact ⟨rfl, _, World.drewN_drewN _ _ _⟩ | exact ⟨rfl, _, Eq.trans (World.drewN_drewN _ _ _) (congrArg (World.drewN _) (Nat.add_assoc _ _ _))⟩))); try go_wp2_with (first | (go_at_call 26; (with_reducible refine (spec_l2In.calls k2 _ _ l0 (rd l1_2 x8_2) (rd l2_2 x8_2) false _ ?side1 ?side2 A26.out).mono ?_); (case side1 => exact cb HR0.out); (case side2 => exact HC0.out); rintro e w' ⟨rfl, ⟨nd, rfl⟩⟩; (try first | exact ⟨rfl, _, World.drewN_drewN _ _ _⟩ | exact ⟨rfl, _, Eq.trans (World.drewN_drewN _ _ _) (congrArg (World.drewN _) (Nat.add_assoc _ _ _))⟩))))
           go_ret
           exact fin
         ·rw [if_neg c25] at H
          exact absurd H (by simp)
        ·rw [if_neg c24] at H
         exact absurd H (by simp)
       ·rw [if_neg c23] at H
        have c23b0 : decide (x8_2 < (l1_2.length : Int)) = false := decide_eq_false c23
        clear c23
        obtain rfl := Option.some.inj H; clear H
        have hnb34 := NB378_379.out
        have hnc34 := NB379_378.out
        obtain ⟨_,_,_,_,_,_⟩ := cf3 BK378
        go_wp2
        repeat (go_quiet (fail); try go_wp2)
        go_ret
        exact fin
 ·rw [if_neg c4] at H
  have c4b0 := beq_eq_false_iff_ne.mpr c4
  have c4b1 := bne_iff_ne.mpr c4
  have c4b2 : (l1_2.length == l2_2.length) = false := by first | simpa using c4 | (simp at c4 ⊢; omega)
  obtain rfl := Option.some.inj H; clear H
  go_enter Try.func15, Try.ntmps15
  go_wp2
  repeat (go_quiet (first | ((with_reducible refine gate_dst (N := 4) rfl ?_); refine box_event ?hg (N := 4) ?hd (cs := #[.bool a1_0, .slice A1_1 l1_1.length c1_1, .slice A1_2 l1_2.length c1_2]) (t := 26) ?hr ?_; (case hd => rfl); (case hg => rfl); (case hr => first | (go_simp; done) | (go_simp; rfl)); intro gb378 hg w36 hbox hb; have n0_ := hs HB hb; have n1_ := Aside0.mk (hbox); have n2_ := Aside0.mk ((by rw [hg]; exact (below_size bl) : w.heap.size ≤ gb378)); have n3_ := Aside0.mk ((by rw [hg]; exact (below_size bl) : w.heap.size ≤ gb378)); clear HB; have HB := n0_; have BK378 := n1_; have GW378 := n2_; have GE378 := n3_; clear n0_ n1_ n2_ n3_; clear hb hbox hg) | ((with_reducible refine gate_dst (N := 5) rfl ?_); refine box_event ?hg (N := 5) ?hd (cs := #[.bool a2_0, .slice A2_1 l2_1.length c2_1, .slice A2_2 l2_2.length c2_2]) (t := 26) ?hr ?_; (case hd => rfl); (case hg => rfl); (case hr => first | (go_simp; done) | (go_simp; rfl)); intro gb379 hg w37 hbox hb; have n0_ := Aside0.mk (blk_below (g := gb378) (o := .cells #[.bool a1_0, .slice A1_1 l1_1.length c1_1, .slice A1_2 l1_2.length c1_2] 26 (0, 0)) BK378.out hb); have n1_ := hs HB hb; have n2_ := Aside0.mk (hbox); have n3_ := Aside0.mk ((by rw [hg]; exact (below_size bl) : w.heap.size ≤ gb379)); have n4_ := Aside0.mk ((by rw [hg]; exact (below_size bl) : w.heap.size ≤ gb379)); have n5_ := Aside0.mk ((by rw [hg]; exact Nat.ne_of_lt (blk_lt (g := gb378) (o := .cells #[.bool a1_0, .slice A1_1 l1_1.length c1_1, .slice A1_2 l1_2.length c1_2] 26 (0, 0)) BK378.out) : gb378 ≠ gb379)); have n6_ := Aside0.mk ((by rw [hg]; exact Nat.ne_of_gt (blk_lt (g := gb378) (o := .cells #[.bool a1_0, .slice A1_1 l1_1.length c1_1, .slice A1_2 l1_2.length c1_2] 26 (0, 0)) BK378.out) : gb379 ≠ gb378)); clear BK378; clear HB; have BK378 := n0_; have HB := n1_; have BK379 := n2_; have GW379 := n3_; have GE379 := n4_; have NB378_379 := n5_; have NB379_378 := n6_; clear n0_ n1_ n2_ n3_ n4_ n5_ n6_; clear hb hbox hg; have hnb38 := NB378_379.out; have hnc38 := NB379_378.out; have hcz39_0 : w37.cell? ⟨gb378, 0, none⟩ = some (.bool a1_0) := (blk_cell BK378.out 0).trans rfl; have hcz39_1 : w37.cell? ⟨gb378, 1, none⟩ = some (.slice A1_1 l1_1.length c1_1) := (blk_cell BK378.out 1).trans rfl; have hcz39_2 : w37.cell? ⟨gb378, 2, none⟩ = some (.slice A1_2 l1_2.length c1_2) := (blk_cell BK378.out 2).trans rfl; have hfz39_0 := blk_frozen BK378.out 0; have hfz39_1 := blk_frozen BK378.out 1; have hfz39_2 := blk_frozen BK378.out 2; have hcz40_0 : w37.cell? ⟨gb379, 0, none⟩ = some (.bool a2_0) := (blk_cell BK379.out 0).trans rfl; have hcz40_1 : w37.cell? ⟨gb379, 1, none⟩ = some (.slice A2_1 l2_1.length c2_1) := (blk_cell BK379.out 1).trans rfl; have hcz40_2 : w37.cell? ⟨gb379, 2, none⟩ = some (.slice A2_2 l2_2.length c2_2) := (blk_cell BK379.out 2).trans rfl; have hfz40_0 := blk_frozen BK379.out 0; have hfz40_1 := blk_frozen BK379.out 1; have hfz40_2 := blk_frozen BK379.out 2)); try go_wp2_with (first | ((with_reducible refine gd 4 rfl ?_); refine bx 4 #[.bool a1_0, .slice A1_1 l1_1.length c1_1, .slice A1_2 l1_2.length c1_2] 26 ?_; intro gb378 hg w36 hbox hb; have BK378 := Aside0.mk hbox; have GW378 := hz HB hg; have GE378 := hz HB hg; replace HB := hs HB hb; clear hb hbox hg) | ((with_reducible refine gd 5 rfl ?_); refine box_event ?hg (N := 5) ?hd (cs := #[.bool a2_0, .slice A2_1 l2_1.length c2_1, .slice A2_2 l2_2.length c2_2]) (t := 26) ?hr ?_; (case hd => rfl); (case hg => rfl); (case hr => first | (go_simp; done) | (go_simp; rfl)); intro gb379 hg w37 hbox hb; have n0_ := Aside0.mk (blk_below (g := gb378) (o := .cells #[.bool a1_0, .slice A1_1 l1_1.length c1_1, .slice A1_2 l1_2.length c1_2] 26 (0, 0)) BK378.out hb); have n1_ := hs HB hb; have n2_ := Aside0.mk (hbox); have n3_ := Aside0.mk ((by rw [hg]; exact (below_size bl) : w.heap.size ≤ gb379)); have n4_ := Aside0.mk ((by rw [hg]; exact (below_size bl) : w.heap.size ≤ gb379)); have n5_ := Aside0.mk ((by rw [hg]; exact Nat.ne_of_lt (blk_lt (g := gb378) (o := .cells #[.bool a1_0, .slice A1_1 l1_1.length c1_1, .slice A1_2 l1_2.length c1_2] 26 (0, 0)) BK378.out) : gb378 ≠ gb379)); have n6_ := Aside0.mk ((by rw [hg]; exact Nat.ne_of_gt (blk_lt (g := gb378) (o := .cells #[.bool a1_0, .slice A1_1 l1_1.length c1_1, .slice A1_2 l1_2.length c1_2] 26 (0, 0)) BK378.out) : gb379 ≠ gb378)); clear BK378; clear HB; have BK378 := n0_; have HB := n1_; have BK379 := n2_; have GW379 := n3_; have GE379 := n4_; have NB378_379 := n5_; have NB379_378 := n6_; clear n0_ n1_ n2_ n3_ n4_ n5_ n6_; clear hb hbox hg; have hnb38 := NB378_379.out; have hnc38 := NB379_378.out; have hcz39_0 : w37.cell? ⟨gb378, 0, none⟩ = some (.bool a1_0) := (blk_cell BK378.out 0).trans rfl; have hcz39_1 : w37.cell? ⟨gb378, 1, none⟩ = some (.slice A1_1 l1_1.length c1_1) := (blk_cell BK378.out 1).trans rfl; have hcz39_2 : w37.cell? ⟨gb378, 2, none⟩ = some (.slice A1_2 l1_2.length c1_2) := (blk_cell BK378.out 2).trans rfl; have hfz39_0 := blk_frozen BK378.out 0; have hfz39_1 := blk_frozen BK378.out 1; have hfz39_2 := blk_frozen BK378.out 2; have hcz40_0 : w37.cell? ⟨gb379, 0, none⟩ = some (.bool a2_0) := (blk_cell BK379.out 0).trans rfl; have hcz40_1 : w37.cell? ⟨gb379, 1, none⟩ = some (.slice A2_1 l2_1.length c2_1) := (blk_cell BK379.out 1).trans rfl; have hcz40_2 : w37.cell? ⟨gb379, 2, none⟩ = some (.slice A2_2 l2_2.length c2_2) := (blk_cell BK379.out 2).trans rfl; have hfz40_0 := blk_frozen BK379.out 0; have hfz40_1 := blk_frozen BK379.out 1; have hfz40_2 := blk_frozen BK379.out 2)))
  go_ret
  exact fin
end Go.Proofs.Ytchegijjjakmpaa.P

end
section

namespace Go.Proofs.Ytchegijjjakmpaa.P
open Go.RowKit Go.Proofs.YtchegijjjakmpaaW.PrintWords Go.Proofs.YtchegijjjakmpaaW.PrintLast Go.Proofs.YtchegijjjakmpaaW.PrintMore
attribute [local go_sem] max2_int min2_int max_two min_two max_three min_three max_four min_four
set_option linter.unusedVariables false
set_option linter.unusedSimpArgs false
set_option maxHeartbeats 8000000 in
set_option maxRecDepth 100000 in
theorem spec_ShapeIn.calls (k : Nat) (A0 : Option Addr) (c0 : Nat) (l0 : List (S48)) (a1_0 : Bool) (A1_1 : Option Addr) (c1_1 : Nat) (l1_1 : List Int) (A1_2 : Option Addr) (c1_2 : Nat) (l1_2 : List Int) (a2_0 : Bool) (A2_1 : Option Addr) (c2_1 : Nat) (l2_1 : List Int) (A2_2 : Option Addr) (c2_2 : Nat) (l2_2 : List Int) (r : Bool) (w : World) (hr0 : Kd.C k48 w A0 l0.length l0) (hc0 : l0.length ≤ c0) (hr1_1 : Kd.C (Kd.int .i64) w A1_1 l1_1.length l1_1) (hc1_1 : l1_1.length ≤ c1_1) (hr1_2 : Kd.C (Kd.int .i64) w A1_2 l1_2.length l1_2) (hc1_2 : l1_2.length ≤ c1_2) (hr2_1 : Kd.C (Kd.int .i64) w A2_1 l2_1.length l2_1) (hc2_1 : l2_1.length ≤ c2_1) (hr2_2 : Kd.C (Kd.int .i64) w A2_2 l2_2.length l2_2) (hc2_2 : l2_2.length ≤ c2_2) (h : spec_ShapeIn.f k l0 a1_0 l1_1 l1_2 a2_0 l2_1 l2_2 = some r) :
  Calls Try.prog 6 #[.slice A0 l0.length c0, .agg #[.bool a1_0, .slice A1_1 l1_1.length c1_1, .slice A1_2 l1_2.length c1_2], .agg #[.bool a2_0, .slice A2_1 l2_1.length c2_1, .slice A2_2 l2_2.length c2_2]] w fun e w' => e = .returned (.bool r) ∧ Below w.heap.size w w' := by
 have hu26 := Try.underlying26
 have HR0 := Aside0.mk hr0
 have HC0 := Aside0.mk hc0
 clear hr0 hc0
 have HR1_1 := Aside0.mk hr1_1
 have HC1_1 := Aside0.mk hc1_1
 clear hr1_1 hc1_1
 have HR1_2 := Aside0.mk hr1_2
 have HC1_2 := Aside0.mk hc1_2
 clear hr1_2 hc1_2
 have HR2_1 := Aside0.mk hr2_1
 have HC2_1 := Aside0.mk hc2_1
 clear hr2_1 hc2_1
 have HR2_2 := Aside0.mk hr2_2
 have HC2_2 := Aside0.mk hc2_2
 clear hr2_2 hc2_2
 have HB := Aside0.mk (Below.refl w.heap.size w)
 have H : ((spec_l11Fits.f k l0 a1_0 l1_1 l1_2 a2_0 l2_1 l2_2).bind fun t388 => (if t388 = true then ((spec_l11In.f k l0 a1_0 l1_1 l1_2 a2_0 l2_1 l2_2).bind fun t389 => (some t389)) else (some false))) = some r := h
 clear h
 obtain ⟨t388, A4, H⟩ := ob H
 by_cases c5 : t388 = true
 ·subst c5
  replace H := it H
  obtain ⟨t389, A6, H⟩ := ob H
  obtain rfl := Option.some.inj H; clear H
  go_enter Try.func6, Try.ntmps6
  go_wp2_with (first | ((with_reducible refine gd 4 rfl ?_); refine bx 4 #[.bool a1_0, .slice A1_1 l1_1.length c1_1, .slice A1_2 l1_2.length c1_2] 26 ?_; intro gb386 hg w7 hbox hb; have BK386 := Aside0.mk hbox; have GW386 := hz HB hg; have GE386 := hz HB hg; replace HB := hs HB hb; clear hb hbox hg) | ((with_reducible refine gd 5 rfl ?_); refine bx 5 #[.bool a2_0, .slice A2_1 l2_1.length c2_1, .slice A2_2 l2_2.length c2_2] 26 ?_; intro gb387 hg w8 hbox hb; have BK387 := Aside0.mk hbox; have GW387 := hz HB hg; have GE387 := hz HB hg; have NB386_387 := nl BK386 hg; have NB387_386 := ng BK386 hg; replace BK386 := kb BK386 hb; replace HB := hs HB hb; clear hb hbox hg; have hnb9 := NB386_387.out; have hnc9 := NB387_386.out; obtain ⟨_,_,_,_,_,_⟩ := cf3 BK386; obtain ⟨_,_,_,_,_,_⟩ := cf3 BK387) | ((with_reducible refine gc 11 rfl ?_); refine gl (some 10) Try.func11 #[.slice A0 l0.length c0, .agg #[.bool a1_0, .slice A1_1 l1_1.length c1_1, .slice A1_2 l1_2.length c1_2], .agg #[.bool a2_0, .slice A2_1 l2_1.length c2_1, .slice A2_2 l2_2.length c2_2]] rfl ?_; (with_reducible refine (spec_l11Fits.calls k _ _ l0 a1_0 _ _ l1_1 _ _ l1_2 a2_0 _ _ l2_1 _ _ l2_2 true _ ?side1 ?side2 ?side3 ?side4 ?side5 ?side6 ?side7 ?side8 ?side9 ?side10 A4.out).mono ?_); (case side1 => exact cb HR0.out); (case side2 => exact HC0.out); (case side3 => exact cb HR1_1.out); (case side4 => exact HC1_1.out); (case side5 => exact cb HR1_2.out); (case side6 => exact HC1_2.out); (case side7 => exact cb HR2_1.out); (case side8 => exact HC2_1.out); (case side9 => exact cb HR2_2.out); (case side10 => exact HC2_2.out); rintro e w12 ⟨rfl, hb⟩; refine ⟨_, rfl, ?_⟩; replace BK386 := kb BK386 hb; replace BK387 := kb BK387 hb; replace HB := hs HB hb; obtain ⟨_,_,_,_,_,_⟩ := cf3 BK386; obtain ⟨_,_,_,_,_,_⟩ := cf3 BK387) | (go_at_call 15; (with_reducible refine (spec_l11In.calls k _ _ l0 a1_0 _ _ l1_1 _ _ l1_2 a2_0 _ _ l2_1 _ _ l2_2 t389 _ ?side1 ?side2 ?side3 ?side4 ?side5 ?side6 ?side7 ?side8 ?side9 ?side10 A6.out).mono ?_); (case side1 => exact cb HR0.out); (case side2 => exact HC0.out); (case side3 => exact cb HR1_1.out); (case side4 => exact HC1_1.out); (case side5 => exact cb HR1_2.out); (case side6 => exact HC1_2.out); (case side7 => exact cb HR2_1.out); (case side8 => exact HC2_1.out); (case side9 => exact cb HR2_2.out); (case side10 => exact HC2_2.out); rintro e w15 ⟨rfl, hb⟩; replace BK386 := kb BK386 hb; replace BK387 := kb BK387 hb; replace HB := hs HB hb))
  go_ret
  exact fin
 ·replace c5 := Bool.eq_false_iff.mpr c5
  subst c5
  replace H := ie H
  obtain rfl := Option.some.inj H; clear H
  go_enter Try.func6, Try.ntmps6
  go_wp2_with (first | ((with_reducible refine gd 4 rfl ?_); refine bx 4 #[.bool a1_0, .slice A1_1 l1_1.length c1_1, .slice A1_2 l1_2.length c1_2] 26 ?_; intro gb386 hg w16 hbox hb; have BK386 := Aside0.mk hbox; have GW386 := hz HB hg; have GE386 := hz HB hg; replace HB := hs HB hb; clear hb hbox hg) | ((with_reducible refine gd 5 rfl ?_); refine bx 5 #[.bool a2_0, .slice A2_1 l2_1.length c2_1, .slice A2_2 l2_2.length c2_2] 26 ?_; intro gb387 hg w17 hbox hb; have BK387 := Aside0.mk hbox; have GW387 := hz HB hg; have GE387 := hz HB hg; have NB386_387 := nl BK386 hg; have NB387_386 := ng BK386 hg; replace BK386 := kb BK386 hb; replace HB := hs HB hb; clear hb hbox hg; have hnb18 := NB386_387.out; have hnc18 := NB387_386.out; obtain ⟨_,_,_,_,_,_⟩ := cf3 BK386; obtain ⟨_,_,_,_,_,_⟩ := cf3 BK387) | ((with_reducible refine gc 11 rfl ?_); refine gl (some 10) Try.func11 #[.slice A0 l0.length c0, .agg #[.bool a1_0, .slice A1_1 l1_1.length c1_1, .slice A1_2 l1_2.length c1_2], .agg #[.bool a2_0, .slice A2_1 l2_1.length c2_1, .slice A2_2 l2_2.length c2_2]] rfl ?_; (with_reducible refine (spec_l11Fits.calls k _ _ l0 a1_0 _ _ l1_1 _ _ l1_2 a2_0 _ _ l2_1 _ _ l2_2 false _ ?side1 ?side2 ?side3 ?side4 ?side5 ?side6 ?side7 ?side8 ?side9 ?side10 A4.out).mono ?_); (case side1 => exact cb HR0.out); (case side2 => exact HC0.out); (case side3 => exact cb HR1_1.out); (case side4 => exact HC1_1.out); (case side5 => exact cb HR1_2.out); (case side6 => exact HC1_2.out); (case side7 => exact cb HR2_1.out); (case side8 => exact HC2_1.out); (case side9 => exact cb HR2_2.out); (case side10 => exact HC2_2.out); rintro e w21 ⟨rfl, hb⟩; refine ⟨_, rfl, ?_⟩; replace BK386 := kb BK386 hb; replace BK387 := kb BK387 hb; replace HB := hs HB hb))
  go_ret
  exact fin
end Go.Proofs.Ytchegijjjakmpaa.P

end
section

namespace Go.Proofs.Ytchegijjjakmpaa.P
open Go.RowKit Go.Proofs.YtchegijjjakmpaaW.PrintWords Go.Proofs.YtchegijjjakmpaaW.PrintLast Go.Proofs.YtchegijjjakmpaaW.PrintMore
attribute [local go_sem] max2_int min2_int max_two min_two max_three min_three max_four min_four
set_option linter.unusedVariables false
set_option linter.unusedSimpArgs false
set_option maxHeartbeats 8000000 in
set_option maxRecDepth 100000 in
theorem laws_leInts.calls (k : Nat) (A0 : Option Addr) (c0 : Nat) (l0 : List Int) (A1 : Option Addr) (c1 : Nat) (l1 : List Int) (r : Bool) (w : World) (hr0 : Kd.C (Kd.int .i64) w A0 l0.length l0) (hc0 : l0.length ≤ c0) (hr1 : Kd.C (Kd.int .i64) w A1 l1.length l1) (hc1 : l1.length ≤ c1) (h : laws_leInts.f k l0 l1 = some r) :
  Calls Try.prog 16 #[.slice A0 l0.length c0, .slice A1 l1.length c1] w fun e w' => e = .returned (.bool r) ∧ Drawn0 w w' := by
 have HR0 := Aside0.mk hr0
 have HC0 := Aside0.mk hc0
 clear hr0 hc0
 have HR1 := Aside0.mk hr1
 have HC1 := Aside0.mk hc1
 clear hr1 hc1
 have H : (if (l0.length : Int) = (l1.length : Int) then (laws_leInts.l0 k l0 l1 0) else (some false)) = some r := h
 clear h
 by_cases c3 : (l0.length : Int) = (l1.length : Int)
 ·rw [if_pos c3] at H
  have c3b0 := beq_iff_eq.mpr c3
  have c3b1 := bne_eq_false_iff_eq.mpr c3
  have c3b2 : (l0.length == l1.length) = true := by first | simpa using c3 | (simp at c3 ⊢; omega)
  clear c3
  have H' := Aside0.mk H
  clear H
  go_enter Try.func16, Try.ntmps16
  go_wp2
  repeat (go_quiet (fail); try go_wp2)
  go_loopg [5] k (fun kq v5 w' => ∃ (x5_1 : Int), v5 = .int .i64 x5_1 ∧ Aside0 (laws_leInts.l0 kq l0 l1 x5_1 = some r) ∧ Aside0 (kq ≤ k) ∧ Drawn0 w w')
  case atStart => exact ⟨(0), (by first | rfl | (simp; done) | (simp [*]; done)), H', ⟨Nat.le_refl _⟩, by repeat (first | exact Drawn0.refl _ | apply Drawn0.step)⟩
  case round =>
   clear H'
   obtain ⟨x5_1, rfl, HA, HK1, ⟨m1, rfl⟩⟩ := hrel
   cases gk with
   | zero => exact absurd HA.out (by simp [laws_leInts.l0])
   | succ k1 =>
    have H := HA.out
    clear HA
    simp only [laws_leInts.l0] at H
    by_cases c4 : x5_1 < (l0.length : Int)
    ·rw [if_pos c4] at H
     have c4b0 : decide (x5_1 < (l0.length : Int)) = true := decide_eq_true c4
     clear c4
     by_cases c5 : 0 ≤ x5_1
     ·rw [if_pos c5] at H
      have c5b0 : decide (0 ≤ x5_1) = true := decide_eq_true c5
      clear c5
      by_cases c6 : x5_1 < (l1.length : Int)
      ·rw [if_pos c6] at H
       have c6b0 : decide (x5_1 < (l1.length : Int)) = true := decide_eq_true c6
       clear c6
       by_cases c7 : (rd l0 x5_1) = (rd l1 x5_1)
       ·rw [if_pos c7] at H
        have c7b0 := beq_iff_eq.mpr c7
        have c7b1 := bne_eq_false_iff_eq.mpr c7
        clear c7
        have H' := Aside0.mk H
        clear H
        have p390 : 0 ≤ (x5_1 : Int) := od
        have q390 : x5_1 < (l0.length : Int) := od
        obtain ⟨ad390, e390, hx390_0⟩ := Kd.at_int HR0.out x5_1 p390 q390
        cases e390
        replace p390 := eq_true p390
        replace q390 := eq_true q390
        have p391 : 0 ≤ (x5_1 : Int) := od
        have q391 : x5_1 < (l1.length : Int) := od
        obtain ⟨ad391, e391, hx391_0⟩ := Kd.at_int HR1.out x5_1 p391 q391
        cases e391
        replace p391 := eq_true p391
        replace q391 := eq_true q391
        go_wp2
        repeat (go_quiet (fail); try go_wp2)
        go_roundg k1
        case measure => have := HK1.out; omega
        case rel => exact ⟨(wrap64 (x5_1 + 1)), (by first | rfl | (simp; done) | (simp [*]; done)), H', ⟨by have := HK1.out; omega⟩, by repeat (first | exact Drawn0.refl _ | apply Drawn0.step)⟩
       ·rw [if_neg c7] at H
        have c7b0 := beq_eq_false_iff_ne.mpr c7
        have c7b1 := bne_iff_ne.mpr c7
        obtain rfl := Option.some.inj H; clear H
        have p390 : 0 ≤ (x5_1 : Int) := od
        have q390 : x5_1 < (l0.length : Int) := od
        obtain ⟨ad390, e390, hx390_0⟩ := Kd.at_int HR0.out x5_1 p390 q390
        cases e390
        replace p390 := eq_true p390
        replace q390 := eq_true q390
        have p391 : 0 ≤ (x5_1 : Int) := od
        have q391 : x5_1 < (l1.length : Int) := od
        obtain ⟨ad391, e391, hx391_0⟩ := Kd.at_int HR1.out x5_1 p391 q391
        cases e391
        replace p391 := eq_true p391
        replace q391 := eq_true q391
        go_wp2
        repeat (go_quiet (fail); try go_wp2)
        go_ret
        exact ⟨by first | rfl | (simp; done) | (simp [*]; done), by repeat (first | exact Drawn0.refl _ | apply Drawn0.step)⟩
      ·rw [if_neg c6] at H
       exact absurd H (by simp)
     ·rw [if_neg c5] at H
      exact absurd H (by simp)
    ·rw [if_neg c4] at H
     have c4b0 : decide (x5_1 < (l0.length : Int)) = false := decide_eq_false c4
     clear c4
     obtain rfl := Option.some.inj H; clear H
     go_wp2
     repeat (go_quiet (fail); try go_wp2)
     go_ret
     exact ⟨by first | rfl | (simp; done) | (simp [*]; done), by repeat (first | exact Drawn0.refl _ | apply Drawn0.step)⟩
 ·rw [if_neg c3] at H
  have c3b0 := beq_eq_false_iff_ne.mpr c3
  have c3b1 := bne_iff_ne.mpr c3
  have c3b2 : (l0.length == l1.length) = false := by first | simpa using c3 | (simp at c3 ⊢; omega)
  obtain rfl := Option.some.inj H; clear H
  go_enter Try.func16, Try.ntmps16
  go_wp2
  repeat (go_quiet (fail); try go_wp2)
  go_ret
  exact ⟨by first | rfl | (simp; done) | (simp [*]; done), by repeat (first | exact Drawn0.refl _ | apply Drawn0.step)⟩
end Go.Proofs.Ytchegijjjakmpaa.P

end
section

namespace Go.Proofs.Ytchegijjjakmpaa.P
open Go.RowKit Go.Proofs.YtchegijjjakmpaaW.PrintWords Go.Proofs.YtchegijjjakmpaaW.PrintLast Go.Proofs.YtchegijjjakmpaaW.PrintMore
attribute [local go_sem] max2_int min2_int max_two min_two max_three min_three max_four min_four
set_option linter.unusedVariables false
set_option linter.unusedSimpArgs false
set_option maxHeartbeats 8000000 in
set_option maxRecDepth 100000 in
theorem laws_leShape.calls (k : Nat) (a0_0 : Bool) (A0_1 : Option Addr) (c0_1 : Nat) (l0_1 : List Int) (A0_2 : Option Addr) (c0_2 : Nat) (l0_2 : List Int) (a1_0 : Bool) (A1_1 : Option Addr) (c1_1 : Nat) (l1_1 : List Int) (A1_2 : Option Addr) (c1_2 : Nat) (l1_2 : List Int) (r : Bool) (w : World) (hr0_1 : Kd.C (Kd.int .i64) w A0_1 l0_1.length l0_1) (hc0_1 : l0_1.length ≤ c0_1) (hr0_2 : Kd.C (Kd.int .i64) w A0_2 l0_2.length l0_2) (hc0_2 : l0_2.length ≤ c0_2) (hr1_1 : Kd.C (Kd.int .i64) w A1_1 l1_1.length l1_1) (hc1_1 : l1_1.length ≤ c1_1) (hr1_2 : Kd.C (Kd.int .i64) w A1_2 l1_2.length l1_2) (hc1_2 : l1_2.length ≤ c1_2) (h : laws_leShape.f k a0_0 l0_1 l0_2 a1_0 l1_1 l1_2 = some r) :
  Calls Try.prog 7 #[.agg #[.bool a0_0, .slice A0_1 l0_1.length c0_1, .slice A0_2 l0_2.length c0_2], .agg #[.bool a1_0, .slice A1_1 l1_1.length c1_1, .slice A1_2 l1_2.length c1_2]] w fun e w' => e = .returned (.bool r) ∧ Below w.heap.size w w' := by
 have hu26 := Try.underlying26
 have HR0_1 := Aside0.mk hr0_1
 have HC0_1 := Aside0.mk hc0_1
 clear hr0_1 hc0_1
 have HR0_2 := Aside0.mk hr0_2
 have HC0_2 := Aside0.mk hc0_2
 clear hr0_2 hc0_2
 have HR1_1 := Aside0.mk hr1_1
 have HC1_1 := Aside0.mk hc1_1
 clear hr1_1 hc1_1
 have HR1_2 := Aside0.mk hr1_2
 have HC1_2 := Aside0.mk hc1_2
 clear hr1_2 hc1_2
 have HB := Aside0.mk (Below.refl w.heap.size w)
 have H : (if (a0_0 == a1_0) = true then ((laws_leInts.f k l0_1 l1_1).bind fun t394 => (if t394 = true then ((laws_leInts.f k l0_2 l1_2).bind fun t395 => (some t395)) else (some false))) else (some false)) = some r := h
 clear h
 by_cases c3 : (a0_0 == a1_0) = true
 ·rw [if_pos c3] at H
  have c3b0 : (a0_0 == a1_0) = true := c3
  (try (have c3b1 : decide (a0_0 = a1_0) = true := by simpa using c3))
  (try (have c3b2 : (a0_0 == a1_0) = true := by simpa using c3))
  clear c3
  obtain ⟨t394, A4, H⟩ := ob H
  by_cases c5 : t394 = true
  ·subst c5
   replace H := it H
   obtain ⟨t395, A6, H⟩ := ob H
   obtain rfl := Option.some.inj H; clear H
   go_enter Try.func7, Try.ntmps7
   go_wp2_with (first | (go_at_call 16; (with_reducible refine (laws_leInts.calls k _ _ l0_1 _ _ l1_1 true _ ?side1 ?side2 ?side3 ?side4 A4.out).mono ?_); (case side1 => exact cb HR0_1.out); (case side2 => exact HC0_1.out); (case side3 => exact cb HR1_1.out); (case side4 => exact HC1_1.out); rintro e w' ⟨rfl, ⟨nd, rfl⟩⟩) | (go_at_call 16; (with_reducible refine (laws_leInts.calls k _ _ l0_2 _ _ l1_2 t395 _ ?side1 ?side2 ?side3 ?side4 A6.out).mono ?_); (case side1 => exact cb HR0_2.out); (case side2 => exact HC0_2.out); (case side3 => exact cb HR1_2.out); (case side4 => exact HC1_2.out); rintro e w' ⟨rfl, ⟨nd, rfl⟩⟩))
   go_ret
   exact fin
  ·replace c5 := Bool.eq_false_iff.mpr c5
   subst c5
   replace H := ie H
   obtain rfl := Option.some.inj H; clear H
   go_enter Try.func7, Try.ntmps7
   go_wp2_with (first | (go_at_call 16; (with_reducible refine (laws_leInts.calls k _ _ l0_1 _ _ l1_1 false _ ?side1 ?side2 ?side3 ?side4 A4.out).mono ?_); (case side1 => exact cb HR0_1.out); (case side2 => exact HC0_1.out); (case side3 => exact cb HR1_1.out); (case side4 => exact HC1_1.out); rintro e w' ⟨rfl, ⟨nd, rfl⟩⟩))
   go_ret
   exact fin
 ·rw [if_neg c3] at H
  have c3b0 : (a0_0 == a1_0) = false := by simpa using c3
  (try (have c3b1 : decide (a0_0 = a1_0) = false := by simpa using c3))
  (try (have c3b2 : (a0_0 == a1_0) = false := by simpa using c3))
  (try (have c3b3 : ¬ (a0_0 = a1_0) := by simpa using c3))
  clear c3
  obtain rfl := Option.some.inj H; clear H
  go_enter Try.func7, Try.ntmps7
  go_wp2
  go_ret
  exact fin
end Go.Proofs.Ytchegijjjakmpaa.P

end
