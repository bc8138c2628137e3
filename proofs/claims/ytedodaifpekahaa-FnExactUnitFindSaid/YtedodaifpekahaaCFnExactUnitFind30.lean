/- A part of the claim FnExactUnitFind: texts of this session and texts that its program printed out of the translation, joined. -/
import Derived.Test.YtedodaifpekahaaCFnExactUnitFind21
import Derived.Test.YtedodaifpekahaaCFnExactUnitFind22
import Derived.Test.YtedodaifpekahaaCFnExactUnitFind27
import Derived.Test.YtedodaifpekahaaCFnExactUnitFind28
import Derived.Test.YtedodaifpekahaaCFnExactUnitFind29
import Derived.Test.YtedodaifpekahaaCFnExactUnitFind0
import Derived.Test.YtedodaifpekahaaCFnExactUnitFind1
import Derived.Test.YtedodaifpekahaaCFnExactUnitFind2
import Derived.Test.YtedodaifpekahaaCFnExactUnitFind3
import Derived.Test.YtedodaifpekahaaCFnExactUnitFind4
import Derived.Test.YtedodaifpekahaaCFnExactUnitFind5
import Derived.Test.YtedodaifpekahaaCFnExactUnitFind6
import Derived.Test.YtedodaifpekahaaCFnExactUnitFind7
import Derived.Test.YtedodaifpekahaaCFnExactUnitFind8
import Derived.Test.YtedodaifpekahaaCFnExactUnitFind9
import Derived.Test.YtedodaifpekahaaCFnExactUnitFind10
import Derived.Test.YtedodaifpekahaaCFnExactUnitFind11
import Derived.Test.YtedodaifpekahaaCFnExactUnitFind12
import Derived.Test.YtedodaifpekahaaCFnExactUnitFind13
import Derived.Test.YtedodaifpekahaaCFnExactUnitFind14
import Derived.Test.YtedodaifpekahaaCFnExactUnitFind15
import Derived.Test.YtedodaifpekahaaCFnExactUnitFind16
import Derived.Test.YtedodaifpekahaaCFnExactUnitFind17
import Derived.Test.YtedodaifpekahaaCFnExactUnitFind18
import Derived.Test.YtedodaifpekahaaCFnExactUnitFind19
import Derived.Test.YtedodaifpekahaaCFnExactUnitFind20
import Derived.Test.YtedodaifpekahaaCFnExactUnitFind23
import Derived.Test.YtedodaifpekahaaCFnExactUnitFind24
import Derived.Test.YtedodaifpekahaaCFnExactUnitFind25
import Derived.Test.YtedodaifpekahaaCFnExactUnitFind26
section

namespace Go.Proofs.Ytedodaifpekahaa.P
open Go.RowKit Go.Proofs.YtedodaifpekahaaW.PrintWords Go.Proofs.YtedodaifpekahaaW.PrintLast Go.Proofs.YtedodaifpekahaaW.PrintMore
attribute [local go_sem] max2_int min2_int max_two min_two max_three min_three max_four min_four
set_option linter.unusedVariables false
set_option linter.unusedSimpArgs false
set_option maxHeartbeats 8000000 in
set_option maxRecDepth 100000 in
theorem impl_UnitOk.calls (k : Nat) (A0_0 : Option Addr) (c0_0 : Nat) (l0_0 : List (S76)) (A0_1 : Option Addr) (c0_1 : Nat) (l0_1 : List (S46)) (r : Bool) (w : World) (hr0_0 : Kd.C k76 w A0_0 l0_0.length l0_0) (hc0_0 : l0_0.length ≤ c0_0) (hr0_1 : Kd.C k46 w A0_1 l0_1.length l0_1) (hc0_1 : l0_1.length ≤ c0_1) (h : impl_UnitOk.f k l0_0 l0_1 = some r) :
  Calls Try.prog 8 #[.agg #[.slice A0_0 l0_0.length c0_0, .slice A0_1 l0_1.length c0_1]] w fun e w' => e = .returned (.bool r) ∧ Below w.heap.size w w' := by
 have hu31 := Try.underlying31
 have hu46 := Try.underlying46
 have HR0_0 := Aside0.mk hr0_0
 have HC0_0 := Aside0.mk hc0_0
 clear hr0_0 hc0_0
 have HR0_1 := Aside0.mk hr0_1
 have HC0_1 := Aside0.mk hc0_1
 clear hr0_1 hc0_1
 have HB := Aside0.mk (Below.refl w.heap.size w)
 have H : ((impl_ClassesOk.f k l0_0).bind fun t402 => (if t402 = true then (if (l0_1.length : Int) < 1 then (impl_UnitOk.j0 k true l0_0 l0_1) else (impl_UnitOk.j0 k (decide ((l0_1.length : Int) > 4)) l0_0 l0_1)) else (impl_UnitOk.j0 k true l0_0 l0_1))) = some r := h
 clear h
 have HC2 := Aside0.mk H
 clear H
 go_enter Try.func8, Try.ntmps8
 go_upto_region 1 with (first | ((with_reducible refine gd 1 rfl ?_); (try (refine gate_guard (by rfl) ?_; dsimp only)); refine bx 1 #[.slice A0_0 l0_0.length c0_0, .slice A0_1 l0_1.length c0_1] 31 ?_; intro gb401 hg w3 hbox hb; have BK401 := Aside0.mk hbox; have GW401 := hz HB hg; have GE401 := hz HB hg; replace HB := hs HB hb; clear hb hbox hg))
 (try simp only [Act.put, List.setIfInBounds_toArray, List.set_cons_zero, List.set_cons_succ])
 go_cut [22] (fun v22 wc => ∃ (kq : Nat) (x22_1 : Bool), v22 = .bool x22_1 ∧ Aside0 (impl_UnitOk.j0 kq x22_1 l0_0 l0_1 = some r) ∧ Aside0 (kq ≤ k) ∧ Aside0 (wc.heap[gb401]? = some (.cells #[(.slice A0_0 l0_0.length c0_0), (.slice A0_1 l0_1.length c0_1)] 31 (0, 0))) ∧ Aside0 (Below w.heap.size w wc))
 case first =>
  have H := HC2.out
  clear HC2
  obtain ⟨t402, A4, H⟩ := ob H
  by_cases c5 : t402 = true
  ·subst c5
   replace H := it H
   by_cases c6 : (l0_1.length : Int) < 1
   ·rw [if_pos c6] at H
    have c6b0 : decide ((l0_1.length : Int) < 1) = true := decide_eq_true c6
    have c6b1 : decide (l0_1.length < 1) = true := decide_eq_true (by omega)
    clear c6
    (first | rw [c6b0] | (simp only [i64_w, i32_w]; rw [c6b0]) | skip)
    have H' := Aside0.mk H
    clear H
    obtain ⟨_,_,_,_⟩ := cf2 BK401
    go_wp2_with (first | ((with_reducible refine gc 20 rfl ?_); refine gl (some 9) Try.func20 #[.slice A0_0 l0_0.length c0_0] rfl ?_; (with_reducible refine (impl_ClassesOk.calls k _ _ l0_0 true _ ?side1 ?side2 A4.out).mono ?_); (case side1 => exact cb HR0_0.out); (case side2 => exact HC0_0.out); rintro e w8 ⟨rfl, hb⟩; refine ⟨_, rfl, ?_⟩; replace BK401 := kb BK401 hb; replace HB := hs HB hb; (try clear hb); obtain ⟨_,_,_,_⟩ := cf2 BK401))
    go_meet
    case rel => exact ⟨_, (true), (by first | rfl | (simp; done) | (simp [*]; done)), H', ⟨by first | omega | exact Nat.le_refl _⟩, kk BK401, ⟨bl⟩⟩
   ·rw [if_neg c6] at H
    have c6b0 : decide ((l0_1.length : Int) < 1) = false := decide_eq_false c6
    have c6b1 : decide (l0_1.length < 1) = false := decide_eq_false (by omega)
    clear c6
    (first | rw [c6b0] | (simp only [i64_w, i32_w]; rw [c6b0]) | skip)
    have H' := Aside0.mk H
    clear H
    obtain ⟨_,_,_,_⟩ := cf2 BK401
    go_wp2_with (first | ((with_reducible refine gc 20 rfl ?_); refine gl (some 9) Try.func20 #[.slice A0_0 l0_0.length c0_0] rfl ?_; (with_reducible refine (impl_ClassesOk.calls k _ _ l0_0 true _ ?side1 ?side2 A4.out).mono ?_); (case side1 => exact cb HR0_0.out); (case side2 => exact HC0_0.out); rintro e w11 ⟨rfl, hb⟩; refine ⟨_, rfl, ?_⟩; replace BK401 := kb BK401 hb; replace HB := hs HB hb; (try clear hb); obtain ⟨_,_,_,_⟩ := cf2 BK401))
    go_meet
    case rel => exact ⟨_, (decide ((l0_1.length : Int) > 4)), (by first | rfl | (simp; done) | (simp [*]; done)), H', ⟨by first | omega | exact Nat.le_refl _⟩, kk BK401, ⟨bl⟩⟩
  ·replace c5 := Bool.eq_false_iff.mpr c5
   subst c5
   replace H := ie H
   have H' := Aside0.mk H
   clear H
   obtain ⟨_,_,_,_⟩ := cf2 BK401
   go_wp2_with (first | ((with_reducible refine gc 20 rfl ?_); refine gl (some 9) Try.func20 #[.slice A0_0 l0_0.length c0_0] rfl ?_; (with_reducible refine (impl_ClassesOk.calls k _ _ l0_0 false _ ?side1 ?side2 A4.out).mono ?_); (case side1 => exact cb HR0_0.out); (case side2 => exact HC0_0.out); rintro e w14 ⟨rfl, hb⟩; refine ⟨_, rfl, ?_⟩; replace BK401 := kb BK401 hb; replace HB := hs HB hb; (try clear hb)))
   go_meet
   case rel => exact ⟨_, (true), (by first | rfl | (simp; done) | (simp [*]; done)), H', ⟨by first | omega | exact Nat.le_refl _⟩, kk BK401, ⟨bl⟩⟩
 case rest =>
  clear HC2
  obtain ⟨kq, x22_1, rfl, HA, HJ1, BK401, HB⟩ := hcut
  cases kq with
  | zero => exact absurd HA.out (by simp [impl_UnitOk.j0])
  | succ kj1 =>
   have H := HA.out
   clear HA
   simp only [impl_UnitOk.j0] at H
   by_cases c15 : x22_1 = true
   ·subst c15
    replace H := it H
    obtain rfl := Option.some.inj H; clear H
    go_wp2
    go_ret
    exact fin
   ·replace c15 := Bool.eq_false_iff.mpr c15
    subst c15
    replace H := ie H
    by_cases c16 : 0 < (l0_1.length : Int)
    ·rw [if_pos c16] at H
     have c16b0 : decide (0 < (l0_1.length : Int)) = true := decide_eq_true c16
     have c16b1 : decide (0 < l0_1.length) = true := decide_eq_true (by omega)
     clear c16
     have HC17 := Aside0.mk H
     clear H
     obtain ⟨_,_,_,_⟩ := cf2 BK401
     have p403 : 0 ≤ (0 : Int) := (by omega)
     have q403 : 0 < (l0_1.length : Int) := od
     obtain ⟨ad403, A403_2, c403_2, A403_5, c403_5, A403_6, c403_6, A403_7, c403_7, e403, hx403_0, hx403_1, hx403_2, hx403_3, hx403_4, hx403_5, hx403_6, hx403_7, hl403_2, hi403_2, hl403_5, hi403_5, hl403_6, hi403_6, hl403_7, hi403_7⟩ := at_T46 HR0_1.out 0 p403 q403
     cases e403
     have qi403 : (0 < l0_1.length) = True := eq_true (by omega)
     (try rw [show ((0 : Int)).toNat = 0 from rfl] at hx403_0)
     (try rw [show 0 * 8 = 0 from rfl] at hx403_0)
     (try rw [Addr.add_zero'] at hx403_0)
     (try rw [show ((0 : Int)).toNat = 0 from rfl] at hx403_1)
     (try rw [show 0 * 8 = 0 from rfl] at hx403_1)
     (try rw [Addr.add_zero'] at hx403_1)
     (try rw [show ((0 : Int)).toNat = 0 from rfl] at hx403_2)
     (try rw [show 0 * 8 = 0 from rfl] at hx403_2)
     (try rw [Addr.add_zero'] at hx403_2)
     (try rw [show ((0 : Int)).toNat = 0 from rfl] at hx403_3)
     (try rw [show 0 * 8 = 0 from rfl] at hx403_3)
     (try rw [Addr.add_zero'] at hx403_3)
     (try rw [show ((0 : Int)).toNat = 0 from rfl] at hx403_4)
     (try rw [show 0 * 8 = 0 from rfl] at hx403_4)
     (try rw [Addr.add_zero'] at hx403_4)
     (try rw [show ((0 : Int)).toNat = 0 from rfl] at hx403_5)
     (try rw [show 0 * 8 = 0 from rfl] at hx403_5)
     (try rw [Addr.add_zero'] at hx403_5)
     (try rw [show ((0 : Int)).toNat = 0 from rfl] at hx403_6)
     (try rw [show 0 * 8 = 0 from rfl] at hx403_6)
     (try rw [Addr.add_zero'] at hx403_6)
     (try rw [show ((0 : Int)).toNat = 0 from rfl] at hx403_7)
     (try rw [show 0 * 8 = 0 from rfl] at hx403_7)
     (try rw [Addr.add_zero'] at hx403_7)
     obtain ⟨hx403_0,hx403_1,hx403_2,hx403_3,hx403_4,hx403_5,hx403_6,hx403_7⟩ := hc8 HB hx403_0 hx403_1 hx403_2 hx403_3 hx403_4 hx403_5 hx403_6 hx403_7
     have HR403_2 := Aside0.mk hi403_2
     have HC403_2 := Aside0.mk hl403_2
     clear hi403_2 hl403_2
     have HR403_5 := Aside0.mk hi403_5
     have HC403_5 := Aside0.mk hl403_5
     clear hi403_5 hl403_5
     have HR403_6 := Aside0.mk hi403_6
     have HC403_6 := Aside0.mk hl403_6
     clear hi403_6 hl403_6
     have HR403_7 := Aside0.mk hi403_7
     have HC403_7 := Aside0.mk hl403_7
     clear hi403_7 hl403_7
     replace p403 := eq_true p403
     replace q403 := eq_true q403
     go_upto_region 4 with (first | ((with_reducible refine gd 3 rfl ?_); (try (refine gate_guard (by rfl) ?_; dsimp only)); refine bx 3 #[.int .i64 0, .int .i64 0, .slice none 0 0, .int .i64 0, .int .i64 0, .slice none 0 0, .slice none 0 0, .slice none 0 0] 46 ?_; intro gb404 hg w19 hbox hb; have BK404 := Aside0.mk hbox; have GW404 := hz HB hg; have GE404 := hz HB hg; have NB401_404 := nl BK401 hg; have NB404_401 := ng BK401 hg; replace BK401 := kb BK401 hb; replace HB := hs HB hb; clear hb hbox hg; have hnb20 := NB404_401.out; have hnc20 := NB401_404.out; obtain ⟨_,_,_,_,_,_,_,_,_,_,_,_,_,_,_,_⟩ := cf8 BK404))
     (try simp only [Act.put, List.setIfInBounds_toArray, List.set_cons_zero, List.set_cons_succ])
     go_cut [40] (fun v40 wc => ∃ (kq : Nat) (x40_16 : Bool), v40 = .bool x40_16 ∧ Aside0 (impl_UnitOk.j1 kq x40_16 l0_0 l0_1 = some r) ∧ Aside0 (kq ≤ kj1) ∧ Aside0 (wc.heap[gb401]? = some (.cells #[(.slice A0_0 l0_0.length c0_0), (.slice (some ad403) l0_1.length c0_1)] 31 (0, 0))) ∧ Aside0 (wc.heap[gb404]? = some (.cells #[.int .i64 ((rd_T46 l0_1 0).f0), .int .i64 ((rd_T46 l0_1 0).f1), (.slice A403_2 ((rd_T46 l0_1 0).f2).length c403_2), .int .i64 ((rd_T46 l0_1 0).f3), .int .i64 ((rd_T46 l0_1 0).f4), (.slice A403_5 ((rd_T46 l0_1 0).f5).length c403_5), (.slice A403_6 ((rd_T46 l0_1 0).f6).length c403_6), (.slice A403_7 ((rd_T46 l0_1 0).f7).length c403_7)] 46 (0, 0))) ∧ Aside0 (Below w.heap.size w wc))
     case first =>
      have H := HC17.out
      clear HC17
      by_cases c22 : ((rd_T46 l0_1 0).f0) = (-1)
      ·rw [if_pos c22] at H
       have c22b0 := beq_iff_eq.mpr c22
       have c22b1 := bne_eq_false_iff_eq.mpr c22
       clear c22
       (first | rw [c22b0] | (simp only [i64_w, i32_w]; rw [c22b0]) | skip)
       by_cases c23 : (((rd_T46 l0_1 0).f2).length : Int) = 0
       ·rw [if_pos c23] at H
        have c23b0 := beq_iff_eq.mpr c23
        have c23b1 := bne_eq_false_iff_eq.mpr c23
        clear c23
        have H' := Aside0.mk H
        clear H
        have hnb24 := NB404_401.out
        have hnc24 := NB401_404.out
        obtain ⟨_,_,_,_,_,_,_,_,_,_,_,_,_,_,_,_⟩ := cf8 BK404
        go_wp2
        go_meet
        case rel => exact ⟨_, ((((rd_T46 l0_1 0).f3) != 1)), (by first | rfl | (simp; done) | (simp [*]; done)), H', ⟨by have := HJ1.out; first | omega | exact Nat.le_refl _⟩, kf, kf, ⟨bl⟩⟩
       ·rw [if_neg c23] at H
        have c23b0 := beq_eq_false_iff_ne.mpr c23
        have c23b1 := bne_iff_ne.mpr c23
        have c23b2 : ¬ (((rd_T46 l0_1 0).f2) = []) := fun h_ => c23 (by rw [h_]; rfl)
        have H' := Aside0.mk H
        clear H
        have hnb26 := NB404_401.out
        have hnc26 := NB401_404.out
        obtain ⟨_,_,_,_,_,_,_,_,_,_,_,_,_,_,_,_⟩ := cf8 BK404
        go_wp2
        go_meet
        case rel => exact ⟨_, (true), (by first | rfl | (simp; done) | (simp [*]; done)), H', ⟨by have := HJ1.out; first | omega | exact Nat.le_refl _⟩, kf, kf, ⟨bl⟩⟩
      ·rw [if_neg c22] at H
       have c22b0 := beq_eq_false_iff_ne.mpr c22
       have c22b1 := bne_iff_ne.mpr c22
       (first | rw [c22b0] | (simp only [i64_w, i32_w]; rw [c22b0]) | skip)
       have H' := Aside0.mk H
       clear H
       have hnb28 := NB404_401.out
       have hnc28 := NB401_404.out
       obtain ⟨_,_,_,_,_,_,_,_,_,_,_,_,_,_,_,_⟩ := cf8 BK404
       go_wp2
       go_meet
       case rel => exact ⟨_, (true), (by first | rfl | (simp; done) | (simp [*]; done)), H', ⟨by have := HJ1.out; first | omega | exact Nat.le_refl _⟩, kf, kf, ⟨bl⟩⟩
     case rest =>
      clear HC17
      obtain ⟨kq, x40_16, rfl, HA, HJ16, BK401, BK404, HB⟩ := hcut
      cases kq with
      | zero => exact absurd HA.out (by simp [impl_UnitOk.j1])
      | succ kj16 =>
       have H := HA.out
       clear HA
       simp only [impl_UnitOk.j1] at H
       by_cases c30 : x40_16 = true
       ·subst c30
        replace H := it H
        obtain rfl := Option.some.inj H; clear H
        go_wp2
        go_ret
        exact fin
       ·replace c30 := Bool.eq_false_iff.mpr c30
        subst c30
        replace H := ie H
        have H' := Aside0.mk H
        clear H
        go_wp2_with (first | ((with_reducible refine gc 21 rfl ?_); refine goesL_ (some 41) rfl rfl Try.func21 (by kernel_rfl) rfl #[] rfl (by (try simp only [List.map_toArray, List.map_cons, List.map_nil]); first | done | rfl) ?_; (refine (impl_wants.calls _).mono ?_); rintro e w31 ⟨gb405, rfl, hg, hbox, hb⟩; refine ⟨_, rfl, ?_⟩; have BK405 := Aside0.mk hbox; have GW405 := hz HB hg; have GE405 := hz HB hg; have NB401_405 := nl BK401 hg; have NB405_401 := ng BK401 hg; have NB404_405 := nl BK404 hg; have NB405_404 := ng BK404 hg; replace BK401 := kb BK401 hb; replace BK404 := kb BK404 hb; replace HB := hs HB hb; clear hb hbox hg; have hnb32 := NB401_404.out; have hnc32 := NB404_401.out; have hnb33 := NB401_405.out; have hnc33 := NB405_401.out; obtain ⟨_,_,_,_⟩ := cf2 BK401))
        go_loopg [45] kj16 (fun kq v45 w' => ∃ (x45_3 : Int), v45 = .int .i64 x45_3 ∧ Aside0 (impl_UnitOk.l0 kq l0_1 (l0_1.length : Int) x45_3 l0_0 l0_1 = some r) ∧ Aside0 (kq ≤ kj16) ∧ Aside0 (w'.heap[gb401]? = some (.cells #[(.slice A0_0 l0_0.length c0_0), (.slice (some ad403) l0_1.length c0_1)] 31 (0, 0))) ∧ Aside0 (w'.heap[gb404]? = some (.cells #[.int .i64 ((rd_T46 l0_1 0).f0), .int .i64 ((rd_T46 l0_1 0).f1), (.slice A403_2 ((rd_T46 l0_1 0).f2).length c403_2), .int .i64 ((rd_T46 l0_1 0).f3), .int .i64 ((rd_T46 l0_1 0).f4), (.slice A403_5 ((rd_T46 l0_1 0).f5).length c403_5), (.slice A403_6 ((rd_T46 l0_1 0).f6).length c403_6), (.slice A403_7 ((rd_T46 l0_1 0).f7).length c403_7)] 46 (0, 0))) ∧ Aside0 (w'.heap[gb405]? = some (wantsO)) ∧ Aside0 (Below w.heap.size w w'))
        case atStart => exact ⟨(0), (by first | rfl | (simp; done) | (simp [*]; done)), H', ⟨Nat.le_refl _⟩, kk BK401, kk BK404, kk BK405, ⟨bl⟩⟩
        case round =>
         clear H'
         obtain ⟨x45_3, rfl, HA, HK3, BK401, BK404, BK405, HB⟩ := hrel
         cases gk with
         | zero => exact absurd HA.out (by simp [impl_UnitOk.l0])
         | succ k3 =>
          have H := HA.out
          clear HA
          simp only [impl_UnitOk.l0] at H
          by_cases c35 : x45_3 < (l0_1.length : Int)
          ·rw [if_pos c35] at H
           have c35b0 : decide (x45_3 < (l0_1.length : Int)) = true := decide_eq_true c35
           clear c35
           by_cases c36 : 0 ≤ x45_3
           ·rw [if_pos c36] at H
            have c36b0 : decide (0 ≤ x45_3) = true := decide_eq_true c36
            clear c36
            by_cases c37 : x45_3 < (l0_1.length : Int)
            ·rw [if_pos c37] at H
             have c37b0 : decide (x45_3 < (l0_1.length : Int)) = true := decide_eq_true c37
             clear c37
             obtain ⟨t409, A38, H⟩ := ob H
             by_cases c39 : t409 = true
             ·subst c39
              replace H := it H
              obtain ⟨t410, A40, H⟩ := ob H
              by_cases c41 : t410 = true
              ·subst c41
               replace H := it H
               obtain ⟨t411, A42, H⟩ := ob H
               by_cases c43 : t411 = true
               ·subst c43
                replace H := it H
                have H' := Aside0.mk H
                clear H
                have p407 : 0 ≤ (x45_3 : Int) := od
                have q407 : x45_3 < (l0_1.length : Int) := od
                obtain ⟨ad407, A407_2, c407_2, A407_5, c407_5, A407_6, c407_6, A407_7, c407_7, e407, hx407_0, hx407_1, hx407_2, hx407_3, hx407_4, hx407_5, hx407_6, hx407_7, hl407_2, hi407_2, hl407_5, hi407_5, hl407_6, hi407_6, hl407_7, hi407_7⟩ := at_T46 HR0_1.out x45_3 p407 q407
                obtain rfl : ad403 = ad407 := (by injection e407)
                obtain ⟨hx407_0,hx407_1,hx407_2,hx407_3,hx407_4,hx407_5,hx407_6,hx407_7⟩ := hc8 HB hx407_0 hx407_1 hx407_2 hx407_3 hx407_4 hx407_5 hx407_6 hx407_7
                have HR407_2 := Aside0.mk hi407_2
                have HC407_2 := Aside0.mk hl407_2
                clear hi407_2 hl407_2
                have HR407_5 := Aside0.mk hi407_5
                have HC407_5 := Aside0.mk hl407_5
                clear hi407_5 hl407_5
                have HR407_6 := Aside0.mk hi407_6
                have HC407_6 := Aside0.mk hl407_6
                clear hi407_6 hl407_6
                have HR407_7 := Aside0.mk hi407_7
                have HC407_7 := Aside0.mk hl407_7
                clear hi407_7 hl407_7
                replace p407 := eq_true p407
                replace q407 := eq_true q407
                go_wp2_with (first | ((with_reducible refine gd 6 rfl ?_); (try (refine gate_guard (by rfl) ?_; dsimp only)); refine bx 6 #[.int .i64 0, .int .i64 0, .slice none 0 0, .int .i64 0, .int .i64 0, .slice none 0 0, .slice none 0 0, .slice none 0 0] 46 ?_; intro gb408 hg w44 hbox hb; have BK408 := Aside0.mk hbox; have GW408 := hz HB hg; have GE408 := hz HB hg; have NB401_408 := nl BK401 hg; have NB408_401 := ng BK401 hg; have NB404_408 := nl BK404 hg; have NB408_404 := ng BK404 hg; have NB405_408 := nl BK405 hg; have NB408_405 := ng BK405 hg; replace BK401 := kb BK401 hb; replace BK404 := kb BK404 hb; replace BK405 := kb BK405 hb; replace HB := hs HB hb; clear hb hbox hg; have hnb45 := NB408_401.out; have hnc45 := NB401_408.out; have hnb46 := NB408_404.out; have hnc46 := NB404_408.out; have hnb47 := NB408_405.out; have hnc47 := NB405_408.out; obtain ⟨_,_,_,_,_,_,_,_,_,_,_,_,_,_,_,_⟩ := cf8 BK408; have hnb49 := NB401_404.out; have hnc49 := NB404_401.out; have hnb50 := NB401_405.out; have hnc50 := NB405_401.out; obtain ⟨_,_,_,_⟩ := cf2 BK401) | ((with_reducible refine gc 22 rfl ?_); refine gl (some 51) Try.func22 #[.agg #[.slice A0_0 l0_0.length c0_0, .slice (some ad403) l0_1.length c0_1], .agg #[.int .i64 ((rd_T46 l0_1 x45_3).f0), .int .i64 ((rd_T46 l0_1 x45_3).f1), .slice A407_2 ((rd_T46 l0_1 x45_3).f2).length c407_2, .int .i64 ((rd_T46 l0_1 x45_3).f3), .int .i64 ((rd_T46 l0_1 x45_3).f4), .slice A407_5 ((rd_T46 l0_1 x45_3).f5).length c407_5, .slice A407_6 ((rd_T46 l0_1 x45_3).f6).length c407_6, .slice A407_7 ((rd_T46 l0_1 x45_3).f7).length c407_7]] rfl ?_; (with_reducible refine (impl_headOk.calls k3 _ _ l0_0 _ _ l0_1 ((rd_T46 l0_1 x45_3).f0) ((rd_T46 l0_1 x45_3).f1) _ _ ((rd_T46 l0_1 x45_3).f2) ((rd_T46 l0_1 x45_3).f3) ((rd_T46 l0_1 x45_3).f4) _ _ ((rd_T46 l0_1 x45_3).f5) _ _ ((rd_T46 l0_1 x45_3).f6) _ _ ((rd_T46 l0_1 x45_3).f7) true _ ?side1 ?side2 ?side3 ?side4 ?side5 ?side6 ?side7 ?side8 ?side9 ?side10 ?side11 ?side12 A38.out).mono ?_); (case side1 => exact cb HR0_0.out); (case side2 => exact HC0_0.out); (case side3 => exact cb HR0_1.out); (case side4 => exact HC0_1.out); (case side5 => exact cb HR407_2.out); (case side6 => exact HC407_2.out); (case side7 => exact cb HR407_5.out); (case side8 => exact HC407_5.out); (case side9 => exact cb HR407_6.out); (case side10 => exact HC407_6.out); (case side11 => exact cb HR407_7.out); (case side12 => exact HC407_7.out); rintro e w52 ⟨rfl, hb⟩; refine ⟨_, rfl, ?_⟩; replace BK401 := kq BK401 hb; replace BK404 := kq BK404 hb; replace BK405 := Aside0.mk (blk_below (g := gb405) (o := wantsO) (by (with_reducible repeat (first | refine blk_drewN ?_ _ | refine blk_drew ?_ | refine blk_alloc ?_ _)); refine obj_far ?_ NB405_408.out _; (with_reducible repeat (first | refine blk_drewN ?_ _ | refine blk_drew ?_ | refine blk_alloc ?_ _)); refine obj_far ?_ NB405_408.out _; (with_reducible repeat (first | refine blk_drewN ?_ _ | refine blk_drew ?_ | refine blk_alloc ?_ _)); refine obj_far ?_ NB405_408.out _; (with_reducible repeat (first | refine blk_drewN ?_ _ | refine blk_drew ?_ | refine blk_alloc ?_ _)); refine obj_far ?_ NB405_408.out _; (with_reducible repeat (first | refine blk_drewN ?_ _ | refine blk_drew ?_ | refine blk_alloc ?_ _)); refine obj_far ?_ NB405_408.out _; (with_reducible repeat (first | refine blk_drewN ?_ _ | refine blk_drew ?_ | refine blk_alloc ?_ _)); refine obj_far ?_ NB405_408.out _; (with_reducible repeat (first | refine blk_drewN ?_ _ | refine blk_drew ?_ | refine blk_alloc ?_ _)); refine obj_far ?_ NB405_408.out _; (with_reducible repeat (first | refine blk_drewN ?_ _ | refine blk_drew ?_ | refine blk_alloc ?_ _)); refine obj_far ?_ NB405_408.out _; (with_reducible repeat (first | refine blk_drewN ?_ _ | refine blk_drew ?_ | refine blk_alloc ?_ _)); exact BK405.out) hb); replace BK408 := kp gb408 #[.int .i64 ((rd_T46 l0_1 x45_3).f0), .int .i64 ((rd_T46 l0_1 x45_3).f1), .slice A407_2 ((rd_T46 l0_1 x45_3).f2).length c407_2, .int .i64 ((rd_T46 l0_1 x45_3).f3), .int .i64 ((rd_T46 l0_1 x45_3).f4), .slice A407_5 ((rd_T46 l0_1 x45_3).f5).length c407_5, .slice A407_6 ((rd_T46 l0_1 x45_3).f6).length c407_6, .slice A407_7 ((rd_T46 l0_1 x45_3).f7).length c407_7] 46 hb; replace HB := hs HB hb; (try clear hb); obtain ⟨_,_,_,_⟩ := cf2 BK401; obtain ⟨_,_,_,_,_,_,_,_,_,_,_,_,_,_,_,_⟩ := cf8 BK408) | (go_at_call 23; (with_reducible refine (impl_codeOk.calls k3 _ _ l0_0 _ _ l0_1 ((rd_T46 l0_1 x45_3).f0) ((rd_T46 l0_1 x45_3).f1) _ _ ((rd_T46 l0_1 x45_3).f2) ((rd_T46 l0_1 x45_3).f3) ((rd_T46 l0_1 x45_3).f4) _ _ ((rd_T46 l0_1 x45_3).f5) _ _ ((rd_T46 l0_1 x45_3).f6) _ _ ((rd_T46 l0_1 x45_3).f7) 0 true _ ?side1 ?side2 ?side3 ?side4 ?side5 ?side6 ?side7 ?side8 ?side9 ?side10 ?side11 ?side12 ?sideM A40.out).mono ?_); (case sideM => (with_reducible repeat (first | refine blk_drewN ?_ _ | refine blk_drew ?_ | refine blk_alloc ?_ _)); exact BK405.out); (case side1 => exact cb HR0_0.out); (case side2 => exact HC0_0.out); (case side3 => exact cb HR0_1.out); (case side4 => exact HC0_1.out); (case side5 => exact cb HR407_2.out); (case side6 => exact HC407_2.out); (case side7 => exact cb HR407_5.out); (case side8 => exact HC407_5.out); (case side9 => exact cb HR407_6.out); (case side10 => exact HC407_6.out); (case side11 => exact cb HR407_7.out); (case side12 => exact HC407_7.out); rintro e w55 ⟨rfl, hb⟩; replace BK401 := kb BK401 hb; replace BK404 := kb BK404 hb; replace BK405 := kb BK405 hb; replace BK408 := kb BK408 hb; replace HB := hs HB hb; (try clear hb); obtain ⟨_,_,_,_⟩ := cf2 BK401; obtain ⟨_,_,_,_,_,_,_,_,_,_,_,_,_,_,_,_⟩ := cf8 BK408) | (go_at_call 24; (with_reducible refine (impl_catchesOk.calls k3 _ _ l0_0 _ _ l0_1 ((rd_T46 l0_1 x45_3).f0) ((rd_T46 l0_1 x45_3).f1) _ _ ((rd_T46 l0_1 x45_3).f2) ((rd_T46 l0_1 x45_3).f3) ((rd_T46 l0_1 x45_3).f4) _ _ ((rd_T46 l0_1 x45_3).f5) _ _ ((rd_T46 l0_1 x45_3).f6) _ _ ((rd_T46 l0_1 x45_3).f7) true _ ?side1 ?side2 ?side3 ?side4 ?side5 ?side6 ?side7 ?side8 ?side9 ?side10 ?side11 ?side12 A42.out).mono ?_); (case side1 => exact cb HR0_0.out); (case side2 => exact HC0_0.out); (case side3 => exact cb HR0_1.out); (case side4 => exact HC0_1.out); (case side5 => exact cb HR407_2.out); (case side6 => exact HC407_2.out); (case side7 => exact cb HR407_5.out); (case side8 => exact HC407_5.out); (case side9 => exact cb HR407_6.out); (case side10 => exact HC407_6.out); (case side11 => exact cb HR407_7.out); (case side12 => exact HC407_7.out); rintro e w58 ⟨rfl, hb⟩; replace BK401 := kb BK401 hb; replace BK404 := kb BK404 hb; replace BK405 := kb BK405 hb; replace BK408 := kb BK408 hb; replace HB := hs HB hb; (try clear hb)))
                go_roundg k3
                case measure => have := HJ1.out; have := HJ16.out; have := HK3.out; omega
                case rel => exact ⟨(wrap64 (x45_3 + 1)), (by first | rfl | (simp; done) | (simp [*]; done)), H', ⟨by have := HJ1.out; have := HJ16.out; have := HK3.out; omega⟩, kk BK401, kk BK404, kk BK405, ⟨bl⟩⟩
               ·replace c43 := Bool.eq_false_iff.mpr c43
                subst c43
                replace H := ie H
                obtain rfl := Option.some.inj H; clear H
                have p407 : 0 ≤ (x45_3 : Int) := od
                have q407 : x45_3 < (l0_1.length : Int) := od
                obtain ⟨ad407, A407_2, c407_2, A407_5, c407_5, A407_6, c407_6, A407_7, c407_7, e407, hx407_0, hx407_1, hx407_2, hx407_3, hx407_4, hx407_5, hx407_6, hx407_7, hl407_2, hi407_2, hl407_5, hi407_5, hl407_6, hi407_6, hl407_7, hi407_7⟩ := at_T46 HR0_1.out x45_3 p407 q407
                obtain rfl : ad403 = ad407 := (by injection e407)
                obtain ⟨hx407_0,hx407_1,hx407_2,hx407_3,hx407_4,hx407_5,hx407_6,hx407_7⟩ := hc8 HB hx407_0 hx407_1 hx407_2 hx407_3 hx407_4 hx407_5 hx407_6 hx407_7
                have HR407_2 := Aside0.mk hi407_2
                have HC407_2 := Aside0.mk hl407_2
                clear hi407_2 hl407_2
                have HR407_5 := Aside0.mk hi407_5
                have HC407_5 := Aside0.mk hl407_5
                clear hi407_5 hl407_5
                have HR407_6 := Aside0.mk hi407_6
                have HC407_6 := Aside0.mk hl407_6
                clear hi407_6 hl407_6
                have HR407_7 := Aside0.mk hi407_7
                have HC407_7 := Aside0.mk hl407_7
                clear hi407_7 hl407_7
                replace p407 := eq_true p407
                replace q407 := eq_true q407
                go_wp2_with (first | ((with_reducible refine gd 6 rfl ?_); (try (refine gate_guard (by rfl) ?_; dsimp only)); refine bx 6 #[.int .i64 0, .int .i64 0, .slice none 0 0, .int .i64 0, .int .i64 0, .slice none 0 0, .slice none 0 0, .slice none 0 0] 46 ?_; intro gb408 hg w59 hbox hb; have BK408 := Aside0.mk hbox; have GW408 := hz HB hg; have GE408 := hz HB hg; have NB401_408 := nl BK401 hg; have NB408_401 := ng BK401 hg; have NB404_408 := nl BK404 hg; have NB408_404 := ng BK404 hg; have NB405_408 := nl BK405 hg; have NB408_405 := ng BK405 hg; replace BK401 := kb BK401 hb; replace BK404 := kb BK404 hb; replace BK405 := kb BK405 hb; replace HB := hs HB hb; clear hb hbox hg; have hnb60 := NB408_401.out; have hnc60 := NB401_408.out; have hnb61 := NB408_404.out; have hnc61 := NB404_408.out; have hnb62 := NB408_405.out; have hnc62 := NB405_408.out; obtain ⟨_,_,_,_,_,_,_,_,_,_,_,_,_,_,_,_⟩ := cf8 BK408; have hnb64 := NB401_404.out; have hnc64 := NB404_401.out; have hnb65 := NB401_405.out; have hnc65 := NB405_401.out; obtain ⟨_,_,_,_⟩ := cf2 BK401) | ((with_reducible refine gc 22 rfl ?_); refine gl (some 51) Try.func22 #[.agg #[.slice A0_0 l0_0.length c0_0, .slice (some ad403) l0_1.length c0_1], .agg #[.int .i64 ((rd_T46 l0_1 x45_3).f0), .int .i64 ((rd_T46 l0_1 x45_3).f1), .slice A407_2 ((rd_T46 l0_1 x45_3).f2).length c407_2, .int .i64 ((rd_T46 l0_1 x45_3).f3), .int .i64 ((rd_T46 l0_1 x45_3).f4), .slice A407_5 ((rd_T46 l0_1 x45_3).f5).length c407_5, .slice A407_6 ((rd_T46 l0_1 x45_3).f6).length c407_6, .slice A407_7 ((rd_T46 l0_1 x45_3).f7).length c407_7]] rfl ?_; (with_reducible refine (impl_headOk.calls k3 _ _ l0_0 _ _ l0_1 ((rd_T46 l0_1 x45_3).f0) ((rd_T46 l0_1 x45_3).f1) _ _ ((rd_T46 l0_1 x45_3).f2) ((rd_T46 l0_1 x45_3).f3) ((rd_T46 l0_1 x45_3).f4) _ _ ((rd_T46 l0_1 x45_3).f5) _ _ ((rd_T46 l0_1 x45_3).f6) _ _ ((rd_T46 l0_1 x45_3).f7) true _ ?side1 ?side2 ?side3 ?side4 ?side5 ?side6 ?side7 ?side8 ?side9 ?side10 ?side11 ?side12 A38.out).mono ?_); (case side1 => exact cb HR0_0.out); (case side2 => exact HC0_0.out); (case side3 => exact cb HR0_1.out); (case side4 => exact HC0_1.out); (case side5 => exact cb HR407_2.out); (case side6 => exact HC407_2.out); (case side7 => exact cb HR407_5.out); (case side8 => exact HC407_5.out); (case side9 => exact cb HR407_6.out); (case side10 => exact HC407_6.out); (case side11 => exact cb HR407_7.out); (case side12 => exact HC407_7.out); rintro e w67 ⟨rfl, hb⟩; refine ⟨_, rfl, ?_⟩; replace BK401 := kq BK401 hb; replace BK404 := kq BK404 hb; replace BK405 := Aside0.mk (blk_below (g := gb405) (o := wantsO) (by (with_reducible repeat (first | refine blk_drewN ?_ _ | refine blk_drew ?_ | refine blk_alloc ?_ _)); refine obj_far ?_ NB405_408.out _; (with_reducible repeat (first | refine blk_drewN ?_ _ | refine blk_drew ?_ | refine blk_alloc ?_ _)); refine obj_far ?_ NB405_408.out _; (with_reducible repeat (first | refine blk_drewN ?_ _ | refine blk_drew ?_ | refine blk_alloc ?_ _)); refine obj_far ?_ NB405_408.out _; (with_reducible repeat (first | refine blk_drewN ?_ _ | refine blk_drew ?_ | refine blk_alloc ?_ _)); refine obj_far ?_ NB405_408.out _; (with_reducible repeat (first | refine blk_drewN ?_ _ | refine blk_drew ?_ | refine blk_alloc ?_ _)); refine obj_far ?_ NB405_408.out _; (with_reducible repeat (first | refine blk_drewN ?_ _ | refine blk_drew ?_ | refine blk_alloc ?_ _)); refine obj_far ?_ NB405_408.out _; (with_reducible repeat (first | refine blk_drewN ?_ _ | refine blk_drew ?_ | refine blk_alloc ?_ _)); refine obj_far ?_ NB405_408.out _; (with_reducible repeat (first | refine blk_drewN ?_ _ | refine blk_drew ?_ | refine blk_alloc ?_ _)); refine obj_far ?_ NB405_408.out _; (with_reducible repeat (first | refine blk_drewN ?_ _ | refine blk_drew ?_ | refine blk_alloc ?_ _)); exact BK405.out) hb); replace BK408 := kp gb408 #[.int .i64 ((rd_T46 l0_1 x45_3).f0), .int .i64 ((rd_T46 l0_1 x45_3).f1), .slice A407_2 ((rd_T46 l0_1 x45_3).f2).length c407_2, .int .i64 ((rd_T46 l0_1 x45_3).f3), .int .i64 ((rd_T46 l0_1 x45_3).f4), .slice A407_5 ((rd_T46 l0_1 x45_3).f5).length c407_5, .slice A407_6 ((rd_T46 l0_1 x45_3).f6).length c407_6, .slice A407_7 ((rd_T46 l0_1 x45_3).f7).length c407_7] 46 hb; replace HB := hs HB hb; (try clear hb); obtain ⟨_,_,_,_⟩ := cf2 BK401; obtain ⟨_,_,_,_,_,_,_,_,_,_,_,_,_,_,_,_⟩ := cf8 BK408) | (go_at_call 23; (with_reducible refine (impl_codeOk.calls k3 _ _ l0_0 _ _ l0_1 ((rd_T46 l0_1 x45_3).f0) ((rd_T46 l0_1 x45_3).f1) _ _ ((rd_T46 l0_1 x45_3).f2) ((rd_T46 l0_1 x45_3).f3) ((rd_T46 l0_1 x45_3).f4) _ _ ((rd_T46 l0_1 x45_3).f5) _ _ ((rd_T46 l0_1 x45_3).f6) _ _ ((rd_T46 l0_1 x45_3).f7) 0 true _ ?side1 ?side2 ?side3 ?side4 ?side5 ?side6 ?side7 ?side8 ?side9 ?side10 ?side11 ?side12 ?sideM A40.out).mono ?_); (case sideM => (with_reducible repeat (first | refine blk_drewN ?_ _ | refine blk_drew ?_ | refine blk_alloc ?_ _)); exact BK405.out); (case side1 => exact cb HR0_0.out); (case side2 => exact HC0_0.out); (case side3 => exact cb HR0_1.out); (case side4 => exact HC0_1.out); (case side5 => exact cb HR407_2.out); (case side6 => exact HC407_2.out); (case side7 => exact cb HR407_5.out); (case side8 => exact HC407_5.out); (case side9 => exact cb HR407_6.out); (case side10 => exact HC407_6.out); (case side11 => exact cb HR407_7.out); (case side12 => exact HC407_7.out); rintro e w70 ⟨rfl, hb⟩; replace BK401 := kb BK401 hb; replace BK404 := kb BK404 hb; replace BK405 := kb BK405 hb; replace BK408 := kb BK408 hb; replace HB := hs HB hb; (try clear hb); obtain ⟨_,_,_,_⟩ := cf2 BK401; obtain ⟨_,_,_,_,_,_,_,_,_,_,_,_,_,_,_,_⟩ := cf8 BK408) | (go_at_call 24; (with_reducible refine (impl_catchesOk.calls k3 _ _ l0_0 _ _ l0_1 ((rd_T46 l0_1 x45_3).f0) ((rd_T46 l0_1 x45_3).f1) _ _ ((rd_T46 l0_1 x45_3).f2) ((rd_T46 l0_1 x45_3).f3) ((rd_T46 l0_1 x45_3).f4) _ _ ((rd_T46 l0_1 x45_3).f5) _ _ ((rd_T46 l0_1 x45_3).f6) _ _ ((rd_T46 l0_1 x45_3).f7) false _ ?side1 ?side2 ?side3 ?side4 ?side5 ?side6 ?side7 ?side8 ?side9 ?side10 ?side11 ?side12 A42.out).mono ?_); (case side1 => exact cb HR0_0.out); (case side2 => exact HC0_0.out); (case side3 => exact cb HR0_1.out); (case side4 => exact HC0_1.out); (case side5 => exact cb HR407_2.out); (case side6 => exact HC407_2.out); (case side7 => exact cb HR407_5.out); (case side8 => exact HC407_5.out); (case side9 => exact cb HR407_6.out); (case side10 => exact HC407_6.out); (case side11 => exact cb HR407_7.out); (case side12 => exact HC407_7.out); rintro e w73 ⟨rfl, hb⟩; replace BK401 := kb BK401 hb; replace BK404 := kb BK404 hb; replace BK405 := kb BK405 hb; replace BK408 := kb BK408 hb; replace HB := hs HB hb; (try clear hb)))
                go_ret
                exact fin
              ·replace c41 := Bool.eq_false_iff.mpr c41
               subst c41
               replace H := ie H
               obtain rfl := Option.some.inj H; clear H
               have p407 : 0 ≤ (x45_3 : Int) := od
               have q407 : x45_3 < (l0_1.length : Int) := od
               obtain ⟨ad407, A407_2, c407_2, A407_5, c407_5, A407_6, c407_6, A407_7, c407_7, e407, hx407_0, hx407_1, hx407_2, hx407_3, hx407_4, hx407_5, hx407_6, hx407_7, hl407_2, hi407_2, hl407_5, hi407_5, hl407_6, hi407_6, hl407_7, hi407_7⟩ := at_T46 HR0_1.out x45_3 p407 q407
               obtain rfl : ad403 = ad407 := (by injection e407)
               obtain ⟨hx407_0,hx407_1,hx407_2,hx407_3,hx407_4,hx407_5,hx407_6,hx407_7⟩ := hc8 HB hx407_0 hx407_1 hx407_2 hx407_3 hx407_4 hx407_5 hx407_6 hx407_7
               have HR407_2 := Aside0.mk hi407_2
               have HC407_2 := Aside0.mk hl407_2
               clear hi407_2 hl407_2
               have HR407_5 := Aside0.mk hi407_5
               have HC407_5 := Aside0.mk hl407_5
               clear hi407_5 hl407_5
               have HR407_6 := Aside0.mk hi407_6
               have HC407_6 := Aside0.mk hl407_6
               clear hi407_6 hl407_6
               have HR407_7 := Aside0.mk hi407_7
               have HC407_7 := Aside0.mk hl407_7
               clear hi407_7 hl407_7
               replace p407 := eq_true p407
               replace q407 := eq_true q407
               go_wp2_with (first | ((with_reducible refine gd 6 rfl ?_); (try (refine gate_guard (by rfl) ?_; dsimp only)); refine bx 6 #[.int .i64 0, .int .i64 0, .slice none 0 0, .int .i64 0, .int .i64 0, .slice none 0 0, .slice none 0 0, .slice none 0 0] 46 ?_; intro gb408 hg w74 hbox hb; have BK408 := Aside0.mk hbox; have GW408 := hz HB hg; have GE408 := hz HB hg; have NB401_408 := nl BK401 hg; have NB408_401 := ng BK401 hg; have NB404_408 := nl BK404 hg; have NB408_404 := ng BK404 hg; have NB405_408 := nl BK405 hg; have NB408_405 := ng BK405 hg; replace BK401 := kb BK401 hb; replace BK404 := kb BK404 hb; replace BK405 := kb BK405 hb; replace HB := hs HB hb; clear hb hbox hg; have hnb75 := NB408_401.out; have hnc75 := NB401_408.out; have hnb76 := NB408_404.out; have hnc76 := NB404_408.out; have hnb77 := NB408_405.out; have hnc77 := NB405_408.out; obtain ⟨_,_,_,_,_,_,_,_,_,_,_,_,_,_,_,_⟩ := cf8 BK408; have hnb79 := NB401_404.out; have hnc79 := NB404_401.out; have hnb80 := NB401_405.out; have hnc80 := NB405_401.out; obtain ⟨_,_,_,_⟩ := cf2 BK401) | ((with_reducible refine gc 22 rfl ?_); refine gl (some 51) Try.func22 #[.agg #[.slice A0_0 l0_0.length c0_0, .slice (some ad403) l0_1.length c0_1], .agg #[.int .i64 ((rd_T46 l0_1 x45_3).f0), .int .i64 ((rd_T46 l0_1 x45_3).f1), .slice A407_2 ((rd_T46 l0_1 x45_3).f2).length c407_2, .int .i64 ((rd_T46 l0_1 x45_3).f3), .int .i64 ((rd_T46 l0_1 x45_3).f4), .slice A407_5 ((rd_T46 l0_1 x45_3).f5).length c407_5, .slice A407_6 ((rd_T46 l0_1 x45_3).f6).length c407_6, .slice A407_7 ((rd_T46 l0_1 x45_3).f7).length c407_7]] rfl ?_; (with_reducible refine (impl_headOk.calls k3 _ _ l0_0 _ _ l0_1 ((rd_T46 l0_1 x45_3).f0) ((rd_T46 l0_1 x45_3).f1) _ _ ((rd_T46 l0_1 x45_3).f2) ((rd_T46 l0_1 x45_3).f3) ((rd_T46 l0_1 x45_3).f4) _ _ ((rd_T46 l0_1 x45_3).f5) _ _ ((rd_T46 l0_1 x45_3).f6) _ _ ((rd_T46 l0_1 x45_3).f7) true _ ?side1 ?side2 ?side3 ?side4 ?side5 ?side6 ?side7 ?side8 ?side9 ?side10 ?side11 ?side12 A38.out).mono ?_); (case side1 => exact cb HR0_0.out); (case side2 => exact HC0_0.out); (case side3 => exact cb HR0_1.out); (case side4 => exact HC0_1.out); (case side5 => exact cb HR407_2.out); (case side6 => exact HC407_2.out); (case side7 => exact cb HR407_5.out); (case side8 => exact HC407_5.out); (case side9 => exact cb HR407_6.out); (case side10 => exact HC407_6.out); (case side11 => exact cb HR407_7.out); (case side12 => exact HC407_7.out); rintro e w82 ⟨rfl, hb⟩; refine ⟨_, rfl, ?_⟩; replace BK401 := kq BK401 hb; replace BK404 := kq BK404 hb; replace BK405 := Aside0.mk (blk_below (g := gb405) (o := wantsO) (by (with_reducible repeat (first | refine blk_drewN ?_ _ | refine blk_drew ?_ | refine blk_alloc ?_ _)); refine obj_far ?_ NB405_408.out _; (with_reducible repeat (first | refine blk_drewN ?_ _ | refine blk_drew ?_ | refine blk_alloc ?_ _)); refine obj_far ?_ NB405_408.out _; (with_reducible repeat (first | refine blk_drewN ?_ _ | refine blk_drew ?_ | refine blk_alloc ?_ _)); refine obj_far ?_ NB405_408.out _; (with_reducible repeat (first | refine blk_drewN ?_ _ | refine blk_drew ?_ | refine blk_alloc ?_ _)); refine obj_far ?_ NB405_408.out _; (with_reducible repeat (first | refine blk_drewN ?_ _ | refine blk_drew ?_ | refine blk_alloc ?_ _)); refine obj_far ?_ NB405_408.out _; (with_reducible repeat (first | refine blk_drewN ?_ _ | refine blk_drew ?_ | refine blk_alloc ?_ _)); refine obj_far ?_ NB405_408.out _; (with_reducible repeat (first | refine blk_drewN ?_ _ | refine blk_drew ?_ | refine blk_alloc ?_ _)); refine obj_far ?_ NB405_408.out _; (with_reducible repeat (first | refine blk_drewN ?_ _ | refine blk_drew ?_ | refine blk_alloc ?_ _)); refine obj_far ?_ NB405_408.out _; (with_reducible repeat (first | refine blk_drewN ?_ _ | refine blk_drew ?_ | refine blk_alloc ?_ _)); exact BK405.out) hb); replace BK408 := kp gb408 #[.int .i64 ((rd_T46 l0_1 x45_3).f0), .int .i64 ((rd_T46 l0_1 x45_3).f1), .slice A407_2 ((rd_T46 l0_1 x45_3).f2).length c407_2, .int .i64 ((rd_T46 l0_1 x45_3).f3), .int .i64 ((rd_T46 l0_1 x45_3).f4), .slice A407_5 ((rd_T46 l0_1 x45_3).f5).length c407_5, .slice A407_6 ((rd_T46 l0_1 x45_3).f6).length c407_6, .slice A407_7 ((rd_T46 l0_1 x45_3).f7).length c407_7] 46 hb; replace HB := hs HB hb; (try clear hb); obtain ⟨_,_,_,_⟩ := cf2 BK401; obtain ⟨_,_,_,_,_,_,_,_,_,_,_,_,_,_,_,_⟩ := cf8 BK408) | (go_at_call 23; (with_reducible refine (impl_codeOk.calls k3 _ _ l0_0 _ _ l0_1 ((rd_T46 l0_1 x45_3).f0) ((rd_T46 l0_1 x45_3).f1) _ _ ((rd_T46 l0_1 x45_3).f2) ((rd_T46 l0_1 x45_3).f3) ((rd_T46 l0_1 x45_3).f4) _ _ ((rd_T46 l0_1 x45_3).f5) _ _ ((rd_T46 l0_1 x45_3).f6) _ _ ((rd_T46 l0_1 x45_3).f7) 0 false _ ?side1 ?side2 ?side3 ?side4 ?side5 ?side6 ?side7 ?side8 ?side9 ?side10 ?side11 ?side12 ?sideM A40.out).mono ?_); (case sideM => (with_reducible repeat (first | refine blk_drewN ?_ _ | refine blk_drew ?_ | refine blk_alloc ?_ _)); exact BK405.out); (case side1 => exact cb HR0_0.out); (case side2 => exact HC0_0.out); (case side3 => exact cb HR0_1.out); (case side4 => exact HC0_1.out); (case side5 => exact cb HR407_2.out); (case side6 => exact HC407_2.out); (case side7 => exact cb HR407_5.out); (case side8 => exact HC407_5.out); (case side9 => exact cb HR407_6.out); (case side10 => exact HC407_6.out); (case side11 => exact cb HR407_7.out); (case side12 => exact HC407_7.out); rintro e w85 ⟨rfl, hb⟩; replace BK401 := kb BK401 hb; replace BK404 := kb BK404 hb; replace BK405 := kb BK405 hb; replace BK408 := kb BK408 hb; replace HB := hs HB hb; (try clear hb)))
               go_ret
               exact fin
             ·replace c39 := Bool.eq_false_iff.mpr c39
              subst c39
              replace H := ie H
              obtain rfl := Option.some.inj H; clear H
              have p407 : 0 ≤ (x45_3 : Int) := od
              have q407 : x45_3 < (l0_1.length : Int) := od
              obtain ⟨ad407, A407_2, c407_2, A407_5, c407_5, A407_6, c407_6, A407_7, c407_7, e407, hx407_0, hx407_1, hx407_2, hx407_3, hx407_4, hx407_5, hx407_6, hx407_7, hl407_2, hi407_2, hl407_5, hi407_5, hl407_6, hi407_6, hl407_7, hi407_7⟩ := at_T46 HR0_1.out x45_3 p407 q407
              obtain rfl : ad403 = ad407 := (by injection e407)
              obtain ⟨hx407_0,hx407_1,hx407_2,hx407_3,hx407_4,hx407_5,hx407_6,hx407_7⟩ := hc8 HB hx407_0 hx407_1 hx407_2 hx407_3 hx407_4 hx407_5 hx407_6 hx407_7
              have HR407_2 := Aside0.mk hi407_2
              have HC407_2 := Aside0.mk hl407_2
              clear hi407_2 hl407_2
              have HR407_5 := Aside0.mk hi407_5
              have HC407_5 := Aside0.mk hl407_5
              clear hi407_5 hl407_5
              have HR407_6 := Aside0.mk hi407_6
              have HC407_6 := Aside0.mk hl407_6
              clear hi407_6 hl407_6
              have HR407_7 := Aside0.mk hi407_7
              have HC407_7 := Aside0.mk hl407_7
              clear hi407_7 hl407_7
              replace p407 := eq_true p407
              replace q407 := eq_true q407
              go_wp2_with (first | ((with_reducible refine gd 6 rfl ?_); (try (refine gate_guard (by rfl) ?_; dsimp only)); refine bx 6 #[.int .i64 0, .int .i64 0, .slice none 0 0, .int .i64 0, .int .i64 0, .slice none 0 0, .slice none 0 0, .slice none 0 0] 46 ?_; intro gb408 hg w86 hbox hb; have BK408 := Aside0.mk hbox; have GW408 := hz HB hg; have GE408 := hz HB hg; have NB401_408 := nl BK401 hg; have NB408_401 := ng BK401 hg; have NB404_408 := nl BK404 hg; have NB408_404 := ng BK404 hg; have NB405_408 := nl BK405 hg; have NB408_405 := ng BK405 hg; replace BK401 := kb BK401 hb; replace BK404 := kb BK404 hb; replace BK405 := kb BK405 hb; replace HB := hs HB hb; clear hb hbox hg; have hnb87 := NB408_401.out; have hnc87 := NB401_408.out; have hnb88 := NB408_404.out; have hnc88 := NB404_408.out; have hnb89 := NB408_405.out; have hnc89 := NB405_408.out; obtain ⟨_,_,_,_,_,_,_,_,_,_,_,_,_,_,_,_⟩ := cf8 BK408; have hnb91 := NB401_404.out; have hnc91 := NB404_401.out; have hnb92 := NB401_405.out; have hnc92 := NB405_401.out; obtain ⟨_,_,_,_⟩ := cf2 BK401) | ((with_reducible refine gc 22 rfl ?_); refine gl (some 51) Try.func22 #[.agg #[.slice A0_0 l0_0.length c0_0, .slice (some ad403) l0_1.length c0_1], .agg #[.int .i64 ((rd_T46 l0_1 x45_3).f0), .int .i64 ((rd_T46 l0_1 x45_3).f1), .slice A407_2 ((rd_T46 l0_1 x45_3).f2).length c407_2, .int .i64 ((rd_T46 l0_1 x45_3).f3), .int .i64 ((rd_T46 l0_1 x45_3).f4), .slice A407_5 ((rd_T46 l0_1 x45_3).f5).length c407_5, .slice A407_6 ((rd_T46 l0_1 x45_3).f6).length c407_6, .slice A407_7 ((rd_T46 l0_1 x45_3).f7).length c407_7]] rfl ?_; (with_reducible refine (impl_headOk.calls k3 _ _ l0_0 _ _ l0_1 ((rd_T46 l0_1 x45_3).f0) ((rd_T46 l0_1 x45_3).f1) _ _ ((rd_T46 l0_1 x45_3).f2) ((rd_T46 l0_1 x45_3).f3) ((rd_T46 l0_1 x45_3).f4) _ _ ((rd_T46 l0_1 x45_3).f5) _ _ ((rd_T46 l0_1 x45_3).f6) _ _ ((rd_T46 l0_1 x45_3).f7) false _ ?side1 ?side2 ?side3 ?side4 ?side5 ?side6 ?side7 ?side8 ?side9 ?side10 ?side11 ?side12 A38.out).mono ?_); (case side1 => exact cb HR0_0.out); (case side2 => exact HC0_0.out); (case side3 => exact cb HR0_1.out); (case side4 => exact HC0_1.out); (case side5 => exact cb HR407_2.out); (case side6 => exact HC407_2.out); (case side7 => exact cb HR407_5.out); (case side8 => exact HC407_5.out); (case side9 => exact cb HR407_6.out); (case side10 => exact HC407_6.out); (case side11 => exact cb HR407_7.out); (case side12 => exact HC407_7.out); rintro e w94 ⟨rfl, hb⟩; refine ⟨_, rfl, ?_⟩; replace BK401 := kq BK401 hb; replace BK404 := kq BK404 hb; replace BK405 := Aside0.mk (blk_below (g := gb405) (o := wantsO) (by (with_reducible repeat (first | refine blk_drewN ?_ _ | refine blk_drew ?_ | refine blk_alloc ?_ _)); refine obj_far ?_ NB405_408.out _; (with_reducible repeat (first | refine blk_drewN ?_ _ | refine blk_drew ?_ | refine blk_alloc ?_ _)); refine obj_far ?_ NB405_408.out _; (with_reducible repeat (first | refine blk_drewN ?_ _ | refine blk_drew ?_ | refine blk_alloc ?_ _)); refine obj_far ?_ NB405_408.out _; (with_reducible repeat (first | refine blk_drewN ?_ _ | refine blk_drew ?_ | refine blk_alloc ?_ _)); refine obj_far ?_ NB405_408.out _; (with_reducible repeat (first | refine blk_drewN ?_ _ | refine blk_drew ?_ | refine blk_alloc ?_ _)); refine obj_far ?_ NB405_408.out _; (with_reducible repeat (first | refine blk_drewN ?_ _ | refine blk_drew ?_ | refine blk_alloc ?_ _)); refine obj_far ?_ NB405_408.out _; (with_reducible repeat (first | refine blk_drewN ?_ _ | refine blk_drew ?_ | refine blk_alloc ?_ _)); refine obj_far ?_ NB405_408.out _; (with_reducible repeat (first | refine blk_drewN ?_ _ | refine blk_drew ?_ | refine blk_alloc ?_ _)); refine obj_far ?_ NB405_408.out _; (with_reducible repeat (first | refine blk_drewN ?_ _ | refine blk_drew ?_ | refine blk_alloc ?_ _)); exact BK405.out) hb); replace BK408 := kp gb408 #[.int .i64 ((rd_T46 l0_1 x45_3).f0), .int .i64 ((rd_T46 l0_1 x45_3).f1), .slice A407_2 ((rd_T46 l0_1 x45_3).f2).length c407_2, .int .i64 ((rd_T46 l0_1 x45_3).f3), .int .i64 ((rd_T46 l0_1 x45_3).f4), .slice A407_5 ((rd_T46 l0_1 x45_3).f5).length c407_5, .slice A407_6 ((rd_T46 l0_1 x45_3).f6).length c407_6, .slice A407_7 ((rd_T46 l0_1 x45_3).f7).length c407_7] 46 hb; replace HB := hs HB hb; (try clear hb)))
              go_ret
              exact fin
            ·rw [if_neg c37] at H
             exact absurd H (by simp)
           ·rw [if_neg c36] at H
            exact absurd H (by simp)
          ·rw [if_neg c35] at H
           have c35b0 : decide (x45_3 < (l0_1.length : Int)) = false := decide_eq_false c35
           clear c35
           obtain ⟨t406, A95, H⟩ := ob H
           obtain rfl := Option.some.inj H; clear H
           have hnb96 := NB401_404.out
           have hnc96 := NB404_401.out
           have hnb97 := NB401_405.out
           have hnc97 := NB405_401.out
           obtain ⟨_,_,_,_⟩ := cf2 BK401
           go_wp2_with (first | ((with_reducible refine gc 25 rfl ?_); refine gl (some 68) Try.func25 #[.agg #[.slice A0_0 l0_0.length c0_0, .slice (some ad403) l0_1.length c0_1]] rfl ?_; (with_reducible refine (impl_agree.calls k3 _ _ l0_0 _ _ l0_1 t406 _ ?side1 ?side2 ?side3 ?side4 A95.out).mono ?_); (case side1 => exact cb HR0_0.out); (case side2 => exact HC0_0.out); (case side3 => exact cb HR0_1.out); (case side4 => exact HC0_1.out); rintro e w99 ⟨rfl, hb⟩; refine ⟨_, rfl, ?_⟩; replace BK401 := kb BK401 hb; replace BK404 := kb BK404 hb; replace BK405 := kb BK405 hb; replace HB := hs HB hb; (try clear hb)))
           go_ret
           exact fin
    ·rw [if_neg c16] at H
     exact absurd H (by simp)
end Go.Proofs.Ytedodaifpekahaa.P

end
section

namespace Go.Proofs.Ytedodaifpekahaa.P
open Go.RowKit Go.Proofs.YtedodaifpekahaaW.PrintWords Go.Proofs.YtedodaifpekahaaW.PrintLast Go.Proofs.YtedodaifpekahaaW.PrintMore
attribute [local go_sem] max2_int min2_int max_two min_two max_three min_three max_four min_four
set_option linter.unusedVariables false
set_option linter.unusedSimpArgs false
set_option maxHeartbeats 8000000 in
set_option maxRecDepth 100000 in
theorem impl_UnitFind.calls (k : Nat) (A0_0 : Option Addr) (c0_0 : Nat) (l0_0 : List (S76)) (A0_1 : Option Addr) (c0_1 : Nat) (l0_1 : List (S46)) (a1 : Int) (a2 : Int) (r : Int) (w : World) (hr0_0 : Kd.C k76 w A0_0 l0_0.length l0_0) (hc0_0 : l0_0.length ≤ c0_0) (hr0_1 : Kd.C k46 w A0_1 l0_1.length l0_1) (hc0_1 : l0_1.length ≤ c0_1) (h : impl_UnitFind.f k l0_0 l0_1 a1 a2 = some r) :
  Calls Try.prog 11 #[.agg #[.slice A0_0 l0_0.length c0_0, .slice A0_1 l0_1.length c0_1], .int .i64 a1, .int .i64 a2] w fun e w' => e = .returned (.int .i64 r) ∧ Below w.heap.size w w' := by
 have hu31 := Try.underlying31
 have HR0_0 := Aside0.mk hr0_0
 have HC0_0 := Aside0.mk hc0_0
 clear hr0_0 hc0_0
 have HR0_1 := Aside0.mk hr0_1
 have HC0_1 := Aside0.mk hc0_1
 clear hr0_1 hc0_1
 have HB := Aside0.mk (Below.refl w.heap.size w)
 have H : ((impl_UnitOk.f k l0_0 l0_1).bind fun t487 => (if t487 = true then ((impl_isClass.f l0_0 a1).bind fun t488 => (if t488 = true then ((impl_unitFind.f k l0_0 l0_1 a1 a2).bind fun t489 => (some t489)) else (some (-1)))) else (some (-1)))) = some r := h
 clear h
 obtain ⟨t487, A4, H⟩ := ob H
 by_cases c5 : t487 = true
 ·subst c5
  replace H := it H
  obtain ⟨t488, A6, H⟩ := ob H
  by_cases c7 : t488 = true
  ·subst c7
   replace H := it H
   obtain ⟨t489, A8, H⟩ := ob H
   obtain rfl := Option.some.inj H; clear H
   go_enter Try.func11, Try.ntmps11
   go_wp2_with (first | ((with_reducible refine gd 3 rfl ?_); refine bx 3 #[.slice A0_0 l0_0.length c0_0, .slice A0_1 l0_1.length c0_1] 31 ?_; intro gb486 hg w9 hbox hb; have BK486 := Aside0.mk hbox; have GW486 := hz HB hg; have GE486 := hz HB hg; replace HB := hs HB hb; clear hb hbox hg; obtain ⟨_,_,_,_⟩ := cf2 BK486) | ((with_reducible refine gc 8 rfl ?_); refine gl (some 8) Try.func8 #[.agg #[.slice A0_0 l0_0.length c0_0, .slice A0_1 l0_1.length c0_1]] rfl ?_; (with_reducible refine (impl_UnitOk.calls k _ _ l0_0 _ _ l0_1 true _ ?side1 ?side2 ?side3 ?side4 A4.out).mono ?_); (case side1 => exact cb HR0_0.out); (case side2 => exact HC0_0.out); (case side3 => exact cb HR0_1.out); (case side4 => exact HC0_1.out); rintro e w11 ⟨rfl, hb⟩; refine ⟨_, rfl, ?_⟩; replace BK486 := kb BK486 hb; replace HB := hs HB hb; (try clear hb); obtain ⟨_,_,_,_⟩ := cf2 BK486) | (go_at_call 29; (with_reducible refine (impl_isClass.calls _ _ l0_0 a1 true _ ?side1 ?side2 A6.out).mono ?_); (case side1 => exact cb HR0_0.out); (case side2 => exact HC0_0.out); rintro e w' ⟨rfl, ⟨nd, rfl⟩⟩) | ((with_reducible refine gc 30 rfl ?_); refine gl (some 20) Try.func30 #[.agg #[.slice A0_0 l0_0.length c0_0, .slice A0_1 l0_1.length c0_1], .int .i64 a1, .int .i64 a2] rfl ?_; (with_reducible refine (impl_unitFind.calls k _ _ l0_0 _ _ l0_1 a1 a2 t489 _ ?side1 ?side2 ?side3 ?side4 A8.out).mono ?_); (case side1 => exact cb HR0_0.out); (case side2 => exact HC0_0.out); (case side3 => exact cb HR0_1.out); (case side4 => exact HC0_1.out); rintro e w13 ⟨rfl, hb⟩; refine ⟨_, rfl, ?_⟩; replace BK486 := kb BK486 hb; replace HB := hs HB hb; (try clear hb)))
   go_ret
   exact fin
  ·replace c7 := Bool.eq_false_iff.mpr c7
   subst c7
   replace H := ie H
   obtain rfl := Option.some.inj H; clear H
   go_enter Try.func11, Try.ntmps11
   go_wp2_with (first | ((with_reducible refine gd 3 rfl ?_); refine bx 3 #[.slice A0_0 l0_0.length c0_0, .slice A0_1 l0_1.length c0_1] 31 ?_; intro gb486 hg w14 hbox hb; have BK486 := Aside0.mk hbox; have GW486 := hz HB hg; have GE486 := hz HB hg; replace HB := hs HB hb; clear hb hbox hg; obtain ⟨_,_,_,_⟩ := cf2 BK486) | ((with_reducible refine gc 8 rfl ?_); refine gl (some 8) Try.func8 #[.agg #[.slice A0_0 l0_0.length c0_0, .slice A0_1 l0_1.length c0_1]] rfl ?_; (with_reducible refine (impl_UnitOk.calls k _ _ l0_0 _ _ l0_1 true _ ?side1 ?side2 ?side3 ?side4 A4.out).mono ?_); (case side1 => exact cb HR0_0.out); (case side2 => exact HC0_0.out); (case side3 => exact cb HR0_1.out); (case side4 => exact HC0_1.out); rintro e w16 ⟨rfl, hb⟩; refine ⟨_, rfl, ?_⟩; replace BK486 := kb BK486 hb; replace HB := hs HB hb; (try clear hb); obtain ⟨_,_,_,_⟩ := cf2 BK486) | (go_at_call 29; (with_reducible refine (impl_isClass.calls _ _ l0_0 a1 false _ ?side1 ?side2 A6.out).mono ?_); (case side1 => exact cb HR0_0.out); (case side2 => exact HC0_0.out); rintro e w' ⟨rfl, ⟨nd, rfl⟩⟩))
   go_ret
   exact fin
 ·replace c5 := Bool.eq_false_iff.mpr c5
  subst c5
  replace H := ie H
  obtain rfl := Option.some.inj H; clear H
  go_enter Try.func11, Try.ntmps11
  go_wp2_with (first | ((with_reducible refine gd 3 rfl ?_); refine bx 3 #[.slice A0_0 l0_0.length c0_0, .slice A0_1 l0_1.length c0_1] 31 ?_; intro gb486 hg w18 hbox hb; have BK486 := Aside0.mk hbox; have GW486 := hz HB hg; have GE486 := hz HB hg; replace HB := hs HB hb; clear hb hbox hg; obtain ⟨_,_,_,_⟩ := cf2 BK486) | ((with_reducible refine gc 8 rfl ?_); refine gl (some 8) Try.func8 #[.agg #[.slice A0_0 l0_0.length c0_0, .slice A0_1 l0_1.length c0_1]] rfl ?_; (with_reducible refine (impl_UnitOk.calls k _ _ l0_0 _ _ l0_1 false _ ?side1 ?side2 ?side3 ?side4 A4.out).mono ?_); (case side1 => exact cb HR0_0.out); (case side2 => exact HC0_0.out); (case side3 => exact cb HR0_1.out); (case side4 => exact HC0_1.out); rintro e w20 ⟨rfl, hb⟩; refine ⟨_, rfl, ?_⟩; replace BK486 := kb BK486 hb; replace HB := hs HB hb; (try clear hb)))
  go_ret
  exact fin
end Go.Proofs.Ytedodaifpekahaa.P

end
section

namespace Go.Proofs.Ytedodaifpekahaa.P
open Go.RowKit Go.Proofs.YtedodaifpekahaaW.PrintWords Go.Proofs.YtedodaifpekahaaW.PrintLast Go.Proofs.YtedodaifpekahaaW.PrintMore
attribute [local go_sem] max2_int min2_int max_two min_two max_three min_three max_four min_four
set_option linter.unusedVariables false
set_option linter.unusedSimpArgs false
set_option maxHeartbeats 8000000 in
set_option maxRecDepth 100000 in
theorem laws_szIntS.calls (A0 : Option Addr) (c0 : Nat) (l0 : List Int) (a1 : Int) (r : Int) (w : World) (hr0 : Kd.C (Kd.int .i64) w A0 l0.length l0) (hc0 : l0.length ≤ c0) (h : laws_szIntS.f l0 a1 = some r) :
  Calls Try.prog 50 #[.slice A0 l0.length c0, .int .i64 a1] w fun e w' => e = .returned (.int .i64 r) ∧ Drawn0 w w' := by
 have HR0 := Aside0.mk hr0
 have HC0 := Aside0.mk hc0
 clear hr0 hc0
 have H : (if (wrap64 (a1 - (l0.length : Int))) < 0 then (some (-1)) else (some (wrap64 (a1 - (l0.length : Int))))) = some r := h
 clear h
 by_cases c3 : (wrap64 (a1 - (l0.length : Int))) < 0
 ·rw [if_pos c3] at H
  have c3b0 : decide ((wrap64 (a1 - (l0.length : Int))) < 0) = true := decide_eq_true c3
  clear c3
  obtain rfl := Option.some.inj H; clear H
  go_enter Try.func50, Try.ntmps50
  go_wp2
  go_ret
  exact ⟨by first | rfl | (simp; done) | (simp [*]; done), by repeat (first | exact Drawn0.refl _ | apply Drawn0.step)⟩
 ·rw [if_neg c3] at H
  have c3b0 : decide ((wrap64 (a1 - (l0.length : Int))) < 0) = false := decide_eq_false c3
  clear c3
  obtain rfl := Option.some.inj H; clear H
  go_enter Try.func50, Try.ntmps50
  go_wp2
  go_ret
  exact ⟨by first | rfl | (simp; done) | (simp [*]; done), by repeat (first | exact Drawn0.refl _ | apply Drawn0.step)⟩
end Go.Proofs.Ytedodaifpekahaa.P

end
section

namespace Go.Proofs.Ytedodaifpekahaa.P
open Go.RowKit Go.Proofs.YtedodaifpekahaaW.PrintWords Go.Proofs.YtedodaifpekahaaW.PrintLast Go.Proofs.YtedodaifpekahaaW.PrintMore
attribute [local go_sem] max2_int min2_int max_two min_two max_three min_three max_four min_four
set_option linter.unusedVariables false
set_option linter.unusedSimpArgs false
set_option maxHeartbeats 8000000 in
set_option maxRecDepth 100000 in
theorem laws_szClass.calls (a0_0 : Int) (A0_1 : Option Addr) (c0_1 : Nat) (l0_1 : List Int) (a1 : Int) (r : Int) (w : World) (hr0_1 : Kd.C (Kd.int .i64) w A0_1 l0_1.length l0_1) (hc0_1 : l0_1.length ≤ c0_1) (h : laws_szClass.f a0_0 l0_1 a1 = some r) :
  Calls Try.prog 31 #[.agg #[.int .i64 a0_0, .slice A0_1 l0_1.length c0_1], .int .i64 a1] w fun e w' => e = .returned (.int .i64 r) ∧ Below w.heap.size w w' := by
 have hu58 := Try.underlying58
 have HR0_1 := Aside0.mk hr0_1
 have HC0_1 := Aside0.mk hc0_1
 clear hr0_1 hc0_1
 have HB := Aside0.mk (Below.refl w.heap.size w)
 have H : ((laws_szIntS.f l0_1 a1).bind fun t102 => (if t102 < 0 then (some (-1)) else (some t102))) = some r := h
 clear h
 obtain ⟨t102, A3, H⟩ := ob H
 by_cases c4 : t102 < 0
 ·rw [if_pos c4] at H
  have c4b0 : decide (t102 < 0) = true := decide_eq_true c4
  clear c4
  obtain rfl := Option.some.inj H; clear H
  go_enter Try.func31, Try.ntmps31
  go_wp2_with (first | ((with_reducible refine gc 50 rfl ?_); refine gl (some 8) Try.func50 #[.slice A0_1 l0_1.length c0_1, .int .i64 a1] rfl ?_; (with_reducible refine (laws_szIntS.calls _ _ l0_1 a1 t102 _ ?side1 ?side2 A3.out).mono ?_); (case side1 => exact cb HR0_1.out); (case side2 => exact HC0_1.out); rintro e w' ⟨rfl, ⟨nd, rfl⟩⟩; refine ⟨_, rfl, ?_⟩))
  go_ret
  exact fin
 ·rw [if_neg c4] at H
  have c4b0 : decide (t102 < 0) = false := decide_eq_false c4
  clear c4
  obtain rfl := Option.some.inj H; clear H
  go_enter Try.func31, Try.ntmps31
  go_wp2_with (first | ((with_reducible refine gc 50 rfl ?_); refine gl (some 8) Try.func50 #[.slice A0_1 l0_1.length c0_1, .int .i64 a1] rfl ?_; (with_reducible refine (laws_szIntS.calls _ _ l0_1 a1 t102 _ ?side1 ?side2 A3.out).mono ?_); (case side1 => exact cb HR0_1.out); (case side2 => exact HC0_1.out); rintro e w' ⟨rfl, ⟨nd, rfl⟩⟩; refine ⟨_, rfl, ?_⟩))
  go_ret
  exact fin
end Go.Proofs.Ytedodaifpekahaa.P

end
section

namespace Go.Proofs.Ytedodaifpekahaa.P
open Go.RowKit Go.Proofs.YtedodaifpekahaaW.PrintWords Go.Proofs.YtedodaifpekahaaW.PrintLast Go.Proofs.YtedodaifpekahaaW.PrintMore
attribute [local go_sem] max2_int min2_int max_two min_two max_three min_three max_four min_four
set_option linter.unusedVariables false
set_option linter.unusedSimpArgs false
set_option maxHeartbeats 8000000 in
set_option maxRecDepth 100000 in
theorem laws_szClassS.calls (k : Nat) (A0 : Option Addr) (c0 : Nat) (l0 : List (S58)) (a1 : Int) (r : Int) (w : World) (hr0 : Kd.C k58 w A0 l0.length l0) (hc0 : l0.length ≤ c0) (h : laws_szClassS.f k l0 a1 = some r) :
  Calls Try.prog 12 #[.slice A0 l0.length c0, .int .i64 a1] w fun e w' => e = .returned (.int .i64 r) ∧ Below w.heap.size w w' := by
 have hu58 := Try.underlying58
 have HR0 := Aside0.mk hr0
 have HC0 := Aside0.mk hc0
 clear hr0 hc0
 have HB := Aside0.mk (Below.refl w.heap.size w)
 have H : (if (wrap64 (a1 - (l0.length : Int))) < 0 then (some (-1)) else (laws_szClassS.l0 k l0 (wrap64 (a1 - (l0.length : Int))) 0)) = some r := h
 clear h
 by_cases c3 : (wrap64 (a1 - (l0.length : Int))) < 0
 ·rw [if_pos c3] at H
  have c3b0 : decide ((wrap64 (a1 - (l0.length : Int))) < 0) = true := decide_eq_true c3
  clear c3
  obtain rfl := Option.some.inj H; clear H
  go_enter Try.func12, Try.ntmps12
  go_wp2
  go_ret
  exact fin
 ·rw [if_neg c3] at H
  have c3b0 : decide ((wrap64 (a1 - (l0.length : Int))) < 0) = false := decide_eq_false c3
  clear c3
  have H' := Aside0.mk H
  clear H
  go_enter Try.func12, Try.ntmps12
  go_wp2
  go_loopg [1, 5] k (fun kq v1 v5 w' => ∃ (x1_1 : Int) (x5_1 : Int), v1 = .int .i64 x1_1 ∧ v5 = .int .i64 x5_1 ∧ Aside0 (laws_szClassS.l0 kq l0 x1_1 x5_1 = some r) ∧ Aside0 (kq ≤ k) ∧ Aside0 (Below w.heap.size w w'))
  case atStart => exact ⟨(wrap64 (a1 - (l0.length : Int))), (0), (by first | rfl | (simp; done) | (simp [*]; done)), (by first | rfl | (simp; done) | (simp [*]; done)), H', ⟨Nat.le_refl _⟩, ⟨bl⟩⟩
  case round =>
   clear H'
   obtain ⟨x1_1, x5_1, rfl, rfl, HA, HK1, HB⟩ := hrel
   cases gk with
   | zero => exact absurd HA.out (by simp [laws_szClassS.l0])
   | succ k1 =>
    have H := HA.out
    clear HA
    simp only [laws_szClassS.l0] at H
    by_cases c4 : x5_1 < (l0.length : Int)
    ·rw [if_pos c4] at H
     have c4b0 : decide (x5_1 < (l0.length : Int)) = true := decide_eq_true c4
     clear c4
     by_cases c5 : 0 ≤ x5_1
     ·rw [if_pos c5] at H
      have c5b0 : decide (0 ≤ x5_1) = true := decide_eq_true c5
      clear c5
      obtain ⟨t104, A6, H⟩ := ob H
      by_cases c7 : t104 < 0
      ·rw [if_pos c7] at H
       have c7b0 : decide (t104 < 0) = true := decide_eq_true c7
       clear c7
       obtain rfl := Option.some.inj H; clear H
       have p103 : 0 ≤ (x5_1 : Int) := od
       have q103 : x5_1 < (l0.length : Int) := od
       obtain ⟨ad103, A103_1, c103_1, e103, hx103_0, hx103_1, hl103_1, hi103_1⟩ := at_T58 HR0.out x5_1 p103 q103
       cases e103
       obtain ⟨hx103_0,hx103_1⟩ := hc2 HB hx103_0 hx103_1
       have HR103_1 := Aside0.mk hi103_1
       have HC103_1 := Aside0.mk hl103_1
       clear hi103_1 hl103_1
       replace p103 := eq_true p103
       replace q103 := eq_true q103
       go_wp2_with (first | ((with_reducible refine gc 31 rfl ?_); refine gl (some 23) Try.func31 #[.agg #[.int .i64 ((rd_T58 l0 x5_1).f0), .slice A103_1 ((rd_T58 l0 x5_1).f1).length c103_1], .int .i64 x1_1] rfl ?_; (with_reducible refine (laws_szClass.calls ((rd_T58 l0 x5_1).f0) _ _ ((rd_T58 l0 x5_1).f1) x1_1 t104 _ ?side1 ?side2 A6.out).mono ?_); (case side1 => exact cb HR103_1.out); (case side2 => exact HC103_1.out); rintro e w8 ⟨rfl, hb⟩; refine ⟨_, rfl, ?_⟩; replace HB := hs HB hb; (try clear hb)))
       go_ret
       exact fin
      ·rw [if_neg c7] at H
       have c7b0 : decide (t104 < 0) = false := decide_eq_false c7
       clear c7
       have H' := Aside0.mk H
       clear H
       have p103 : 0 ≤ (x5_1 : Int) := od
       have q103 : x5_1 < (l0.length : Int) := od
       obtain ⟨ad103, A103_1, c103_1, e103, hx103_0, hx103_1, hl103_1, hi103_1⟩ := at_T58 HR0.out x5_1 p103 q103
       cases e103
       obtain ⟨hx103_0,hx103_1⟩ := hc2 HB hx103_0 hx103_1
       have HR103_1 := Aside0.mk hi103_1
       have HC103_1 := Aside0.mk hl103_1
       clear hi103_1 hl103_1
       replace p103 := eq_true p103
       replace q103 := eq_true q103
       go_wp2_with (first | ((with_reducible refine gc 31 rfl ?_); refine gl (some 23) Try.func31 #[.agg #[.int .i64 ((rd_T58 l0 x5_1).f0), .slice A103_1 ((rd_T58 l0 x5_1).f1).length c103_1], .int .i64 x1_1] rfl ?_; (with_reducible refine (laws_szClass.calls ((rd_T58 l0 x5_1).f0) _ _ ((rd_T58 l0 x5_1).f1) x1_1 t104 _ ?side1 ?side2 A6.out).mono ?_); (case side1 => exact cb HR103_1.out); (case side2 => exact HC103_1.out); rintro e w9 ⟨rfl, hb⟩; refine ⟨_, rfl, ?_⟩; replace HB := hs HB hb; (try clear hb)))
       go_roundg k1
       case measure => have := HK1.out; omega
       case rel => exact ⟨(t104), (wrap64 (x5_1 + 1)), (by first | rfl | (simp; done) | (simp [*]; done)), (by first | rfl | (simp; done) | (simp [*]; done)), H', ⟨by have := HK1.out; omega⟩, ⟨bl⟩⟩
     ·rw [if_neg c5] at H
      exact absurd H (by simp)
    ·rw [if_neg c4] at H
     have c4b0 : decide (x5_1 < (l0.length : Int)) = false := decide_eq_false c4
     clear c4
     obtain rfl := Option.some.inj H; clear H
     go_wp2
     go_ret
     exact fin
end Go.Proofs.Ytedodaifpekahaa.P

end
section

namespace Go.Proofs.Ytedodaifpekahaa.P
open Go.RowKit Go.Proofs.YtedodaifpekahaaW.PrintWords Go.Proofs.YtedodaifpekahaaW.PrintLast Go.Proofs.YtedodaifpekahaaW.PrintMore
attribute [local go_sem] max2_int min2_int max_two min_two max_three min_three max_four min_four
set_option linter.unusedVariables false
set_option linter.unusedSimpArgs false
set_option maxHeartbeats 8000000 in
set_option maxRecDepth 100000 in
theorem laws_szInsS.calls (A0 : Option Addr) (c0 : Nat) (l0 : List (S113)) (a1 : Int) (r : Int) (w : World) (hr0 : Kd.C k113 w A0 l0.length l0) (hc0 : l0.length ≤ c0) (h : laws_szInsS.f l0 a1 = some r) :
  Calls Try.prog 51 #[.slice A0 l0.length c0, .int .i64 a1] w fun e w' => e = .returned (.int .i64 r) ∧ Drawn0 w w' := by
 have HR0 := Aside0.mk hr0
 have HC0 := Aside0.mk hc0
 clear hr0 hc0
 have H : (if (wrap64 (a1 - (l0.length : Int))) < 0 then (some (-1)) else (some (wrap64 (a1 - (l0.length : Int))))) = some r := h
 clear h
 by_cases c3 : (wrap64 (a1 - (l0.length : Int))) < 0
 ·rw [if_pos c3] at H
  have c3b0 : decide ((wrap64 (a1 - (l0.length : Int))) < 0) = true := decide_eq_true c3
  clear c3
  obtain rfl := Option.some.inj H; clear H
  go_enter Try.func51, Try.ntmps51
  go_wp2
  go_ret
  exact ⟨by first | rfl | (simp; done) | (simp [*]; done), by repeat (first | exact Drawn0.refl _ | apply Drawn0.step)⟩
 ·rw [if_neg c3] at H
  have c3b0 : decide ((wrap64 (a1 - (l0.length : Int))) < 0) = false := decide_eq_false c3
  clear c3
  obtain rfl := Option.some.inj H; clear H
  go_enter Try.func51, Try.ntmps51
  go_wp2
  go_ret
  exact ⟨by first | rfl | (simp; done) | (simp [*]; done), by repeat (first | exact Drawn0.refl _ | apply Drawn0.step)⟩
end Go.Proofs.Ytedodaifpekahaa.P

end
section

namespace Go.Proofs.Ytedodaifpekahaa.P
open Go.RowKit Go.Proofs.YtedodaifpekahaaW.PrintWords Go.Proofs.YtedodaifpekahaaW.PrintLast Go.Proofs.YtedodaifpekahaaW.PrintMore
attribute [local go_sem] max2_int min2_int max_two min_two max_three min_three max_four min_four
set_option linter.unusedVariables false
set_option linter.unusedSimpArgs false
set_option maxHeartbeats 8000000 in
set_option maxRecDepth 100000 in
theorem laws_szShape.calls (a0_0 : Bool) (A0_1 : Option Addr) (c0_1 : Nat) (l0_1 : List Int) (A0_2 : Option Addr) (c0_2 : Nat) (l0_2 : List Int) (a1 : Int) (r : Int) (w : World) (hr0_1 : Kd.C (Kd.int .i64) w A0_1 l0_1.length l0_1) (hc0_1 : l0_1.length ≤ c0_1) (hr0_2 : Kd.C (Kd.int .i64) w A0_2 l0_2.length l0_2) (hc0_2 : l0_2.length ≤ c0_2) (h : laws_szShape.f a0_0 l0_1 l0_2 a1 = some r) :
  Calls Try.prog 69 #[.agg #[.bool a0_0, .slice A0_1 l0_1.length c0_1, .slice A0_2 l0_2.length c0_2], .int .i64 a1] w fun e w' => e = .returned (.int .i64 r) ∧ Below w.heap.size w w' := by
 have hu111 := Try.underlying111
 have HR0_1 := Aside0.mk hr0_1
 have HC0_1 := Aside0.mk hc0_1
 clear hr0_1 hc0_1
 have HR0_2 := Aside0.mk hr0_2
 have HC0_2 := Aside0.mk hc0_2
 clear hr0_2 hc0_2
 have HB := Aside0.mk (Below.refl w.heap.size w)
 have H : ((laws_szIntS.f l0_1 a1).bind fun t106 => (if t106 < 0 then (some (-1)) else ((laws_szIntS.f l0_2 t106).bind fun t107 => (if t107 < 0 then (some (-1)) else (some t107))))) = some r := h
 clear h
 obtain ⟨t106, A3, H⟩ := ob H
 by_cases c4 : t106 < 0
 ·rw [if_pos c4] at H
  have c4b0 : decide (t106 < 0) = true := decide_eq_true c4
  clear c4
  obtain rfl := Option.some.inj H; clear H
  go_enter Try.func69, Try.ntmps69
  go_wp2_with (first | ((with_reducible refine gc 50 rfl ?_); refine gl (some 8) Try.func50 #[.slice A0_1 l0_1.length c0_1, .int .i64 a1] rfl ?_; (with_reducible refine (laws_szIntS.calls _ _ l0_1 a1 t106 _ ?side1 ?side2 A3.out).mono ?_); (case side1 => exact cb HR0_1.out); (case side2 => exact HC0_1.out); rintro e w' ⟨rfl, ⟨nd, rfl⟩⟩; refine ⟨_, rfl, ?_⟩))
  go_ret
  exact fin
 ·rw [if_neg c4] at H
  have c4b0 : decide (t106 < 0) = false := decide_eq_false c4
  clear c4
  obtain ⟨t107, A7, H⟩ := ob H
  by_cases c8 : t107 < 0
  ·rw [if_pos c8] at H
   have c8b0 : decide (t107 < 0) = true := decide_eq_true c8
   clear c8
   obtain rfl := Option.some.inj H; clear H
   go_enter Try.func69, Try.ntmps69
   go_wp2_with (first | ((with_reducible refine gc 50 rfl ?_); refine gl (some 8) Try.func50 #[.slice A0_1 l0_1.length c0_1, .int .i64 a1] rfl ?_; (with_reducible refine (laws_szIntS.calls _ _ l0_1 a1 t106 _ ?side1 ?side2 A3.out).mono ?_); (case side1 => exact cb HR0_1.out); (case side2 => exact HC0_1.out); rintro e w' ⟨rfl, ⟨nd, rfl⟩⟩; refine ⟨_, rfl, ?_⟩) | ((with_reducible refine gc 50 rfl ?_); refine gl (some 14) Try.func50 #[.slice A0_2 l0_2.length c0_2, .int .i64 t106] rfl ?_; (with_reducible refine (laws_szIntS.calls _ _ l0_2 t106 t107 _ ?side1 ?side2 A7.out).mono ?_); (case side1 => exact cb HR0_2.out); (case side2 => exact HC0_2.out); rintro e w' ⟨rfl, ⟨nd, rfl⟩⟩; refine ⟨_, rfl, ?_⟩))
   go_ret
   exact fin
  ·rw [if_neg c8] at H
   have c8b0 : decide (t107 < 0) = false := decide_eq_false c8
   clear c8
   obtain rfl := Option.some.inj H; clear H
   go_enter Try.func69, Try.ntmps69
   go_wp2_with (first | ((with_reducible refine gc 50 rfl ?_); refine gl (some 8) Try.func50 #[.slice A0_1 l0_1.length c0_1, .int .i64 a1] rfl ?_; (with_reducible refine (laws_szIntS.calls _ _ l0_1 a1 t106 _ ?side1 ?side2 A3.out).mono ?_); (case side1 => exact cb HR0_1.out); (case side2 => exact HC0_1.out); rintro e w' ⟨rfl, ⟨nd, rfl⟩⟩; refine ⟨_, rfl, ?_⟩) | ((with_reducible refine gc 50 rfl ?_); refine gl (some 14) Try.func50 #[.slice A0_2 l0_2.length c0_2, .int .i64 t106] rfl ?_; (with_reducible refine (laws_szIntS.calls _ _ l0_2 t106 t107 _ ?side1 ?side2 A7.out).mono ?_); (case side1 => exact cb HR0_2.out); (case side2 => exact HC0_2.out); rintro e w' ⟨rfl, ⟨nd, rfl⟩⟩; refine ⟨_, rfl, ?_⟩))
   go_ret
   exact fin
end Go.Proofs.Ytedodaifpekahaa.P

end
section

namespace Go.Proofs.Ytedodaifpekahaa.P
open Go.RowKit Go.Proofs.YtedodaifpekahaaW.PrintWords Go.Proofs.YtedodaifpekahaaW.PrintLast Go.Proofs.YtedodaifpekahaaW.PrintMore
attribute [local go_sem] max2_int min2_int max_two min_two max_three min_three max_four min_four
set_option linter.unusedVariables false
set_option linter.unusedSimpArgs false
set_option maxHeartbeats 8000000 in
set_option maxRecDepth 100000 in
theorem laws_szShapeS.calls (k : Nat) (A0 : Option Addr) (c0 : Nat) (l0 : List (S111)) (a1 : Int) (r : Int) (w : World) (hr0 : Kd.C k111 w A0 l0.length l0) (hc0 : l0.length ≤ c0) (h : laws_szShapeS.f k l0 a1 = some r) :
  Calls Try.prog 52 #[.slice A0 l0.length c0, .int .i64 a1] w fun e w' => e = .returned (.int .i64 r) ∧ Below w.heap.size w w' := by
 have hu111 := Try.underlying111
 have HR0 := Aside0.mk hr0
 have HC0 := Aside0.mk hc0
 clear hr0 hc0
 have HB := Aside0.mk (Below.refl w.heap.size w)
 have H : (if (wrap64 (a1 - (l0.length : Int))) < 0 then (some (-1)) else (laws_szShapeS.l0 k l0 (wrap64 (a1 - (l0.length : Int))) 0)) = some r := h
 clear h
 by_cases c3 : (wrap64 (a1 - (l0.length : Int))) < 0
 ·rw [if_pos c3] at H
  have c3b0 : decide ((wrap64 (a1 - (l0.length : Int))) < 0) = true := decide_eq_true c3
  clear c3
  obtain rfl := Option.some.inj H; clear H
  go_enter Try.func52, Try.ntmps52
  go_wp2
  go_ret
  exact fin
 ·rw [if_neg c3] at H
  have c3b0 : decide ((wrap64 (a1 - (l0.length : Int))) < 0) = false := decide_eq_false c3
  clear c3
  have H' := Aside0.mk H
  clear H
  go_enter Try.func52, Try.ntmps52
  go_wp2
  go_loopg [1, 5] k (fun kq v1 v5 w' => ∃ (x1_1 : Int) (x5_1 : Int), v1 = .int .i64 x1_1 ∧ v5 = .int .i64 x5_1 ∧ Aside0 (laws_szShapeS.l0 kq l0 x1_1 x5_1 = some r) ∧ Aside0 (kq ≤ k) ∧ Aside0 (Below w.heap.size w w'))
  case atStart => exact ⟨(wrap64 (a1 - (l0.length : Int))), (0), (by first | rfl | (simp; done) | (simp [*]; done)), (by first | rfl | (simp; done) | (simp [*]; done)), H', ⟨Nat.le_refl _⟩, ⟨bl⟩⟩
  case round =>
   clear H'
   obtain ⟨x1_1, x5_1, rfl, rfl, HA, HK1, HB⟩ := hrel
   cases gk with
   | zero => exact absurd HA.out (by simp [laws_szShapeS.l0])
   | succ k1 =>
    have H := HA.out
    clear HA
    simp only [laws_szShapeS.l0] at H
    by_cases c4 : x5_1 < (l0.length : Int)
    ·rw [if_pos c4] at H
     have c4b0 : decide (x5_1 < (l0.length : Int)) = true := decide_eq_true c4
     clear c4
     by_cases c5 : 0 ≤ x5_1
     ·rw [if_pos c5] at H
      have c5b0 : decide (0 ≤ x5_1) = true := decide_eq_true c5
      clear c5
      obtain ⟨t109, A6, H⟩ := ob H
      by_cases c7 : t109 < 0
      ·rw [if_pos c7] at H
       have c7b0 : decide (t109 < 0) = true := decide_eq_true c7
       clear c7
       obtain rfl := Option.some.inj H; clear H
       have p108 : 0 ≤ (x5_1 : Int) := od
       have q108 : x5_1 < (l0.length : Int) := od
       obtain ⟨ad108, A108_1, c108_1, A108_2, c108_2, e108, hx108_0, hx108_1, hx108_2, hl108_1, hi108_1, hl108_2, hi108_2⟩ := at_T111 HR0.out x5_1 p108 q108
       cases e108
       obtain ⟨hx108_0,hx108_1,hx108_2⟩ := hc3 HB hx108_0 hx108_1 hx108_2
       have HR108_1 := Aside0.mk hi108_1
       have HC108_1 := Aside0.mk hl108_1
       clear hi108_1 hl108_1
       have HR108_2 := Aside0.mk hi108_2
       have HC108_2 := Aside0.mk hl108_2
       clear hi108_2 hl108_2
       replace p108 := eq_true p108
       replace q108 := eq_true q108
       go_wp2_with (first | ((with_reducible refine gc 69 rfl ?_); refine gl (some 23) Try.func69 #[.agg #[.bool ((rd_T111 l0 x5_1).f0), .slice A108_1 ((rd_T111 l0 x5_1).f1).length c108_1, .slice A108_2 ((rd_T111 l0 x5_1).f2).length c108_2], .int .i64 x1_1] rfl ?_; (with_reducible refine (laws_szShape.calls ((rd_T111 l0 x5_1).f0) _ _ ((rd_T111 l0 x5_1).f1) _ _ ((rd_T111 l0 x5_1).f2) x1_1 t109 _ ?side1 ?side2 ?side3 ?side4 A6.out).mono ?_); (case side1 => exact cb HR108_1.out); (case side2 => exact HC108_1.out); (case side3 => exact cb HR108_2.out); (case side4 => exact HC108_2.out); rintro e w8 ⟨rfl, hb⟩; refine ⟨_, rfl, ?_⟩; replace HB := hs HB hb; (try clear hb)))
       go_ret
       exact fin
      ·rw [if_neg c7] at H
       have c7b0 : decide (t109 < 0) = false := decide_eq_false c7
       clear c7
       have H' := Aside0.mk H
       clear H
       have p108 : 0 ≤ (x5_1 : Int) := od
       have q108 : x5_1 < (l0.length : Int) := od
       obtain ⟨ad108, A108_1, c108_1, A108_2, c108_2, e108, hx108_0, hx108_1, hx108_2, hl108_1, hi108_1, hl108_2, hi108_2⟩ := at_T111 HR0.out x5_1 p108 q108
       cases e108
       obtain ⟨hx108_0,hx108_1,hx108_2⟩ := hc3 HB hx108_0 hx108_1 hx108_2
       have HR108_1 := Aside0.mk hi108_1
       have HC108_1 := Aside0.mk hl108_1
       clear hi108_1 hl108_1
       have HR108_2 := Aside0.mk hi108_2
       have HC108_2 := Aside0.mk hl108_2
       clear hi108_2 hl108_2
       replace p108 := eq_true p108
       replace q108 := eq_true q108
       go_wp2_with (first | ((with_reducible refine gc 69 rfl ?_); refine gl (some 23) Try.func69 #[.agg #[.bool ((rd_T111 l0 x5_1).f0), .slice A108_1 ((rd_T111 l0 x5_1).f1).length c108_1, .slice A108_2 ((rd_T111 l0 x5_1).f2).length c108_2], .int .i64 x1_1] rfl ?_; (with_reducible refine (laws_szShape.calls ((rd_T111 l0 x5_1).f0) _ _ ((rd_T111 l0 x5_1).f1) _ _ ((rd_T111 l0 x5_1).f2) x1_1 t109 _ ?side1 ?side2 ?side3 ?side4 A6.out).mono ?_); (case side1 => exact cb HR108_1.out); (case side2 => exact HC108_1.out); (case side3 => exact cb HR108_2.out); (case side4 => exact HC108_2.out); rintro e w9 ⟨rfl, hb⟩; refine ⟨_, rfl, ?_⟩; replace HB := hs HB hb; (try clear hb)))
       go_roundg k1
       case measure => have := HK1.out; omega
       case rel => exact ⟨(t109), (wrap64 (x5_1 + 1)), (by first | rfl | (simp; done) | (simp [*]; done)), (by first | rfl | (simp; done) | (simp [*]; done)), H', ⟨by have := HK1.out; omega⟩, ⟨bl⟩⟩
     ·rw [if_neg c5] at H
      exact absurd H (by simp)
    ·rw [if_neg c4] at H
     have c4b0 : decide (x5_1 < (l0.length : Int)) = false := decide_eq_false c4
     clear c4
     obtain rfl := Option.some.inj H; clear H
     go_wp2
     go_ret
     exact fin
end Go.Proofs.Ytedodaifpekahaa.P

end
section

namespace Go.Proofs.Ytedodaifpekahaa.P
open Go.RowKit Go.Proofs.YtedodaifpekahaaW.PrintWords Go.Proofs.YtedodaifpekahaaW.PrintLast Go.Proofs.YtedodaifpekahaaW.PrintMore
attribute [local go_sem] max2_int min2_int max_two min_two max_three min_three max_four min_four
set_option linter.unusedVariables false
set_option linter.unusedSimpArgs false
set_option maxHeartbeats 8000000 in
set_option maxRecDepth 100000 in
theorem laws_szCatchS.calls (A0 : Option Addr) (c0 : Nat) (l0 : List (S116)) (a1 : Int) (r : Int) (w : World) (hr0 : Kd.C k116 w A0 l0.length l0) (hc0 : l0.length ≤ c0) (h : laws_szCatchS.f l0 a1 = some r) :
  Calls Try.prog 53 #[.slice A0 l0.length c0, .int .i64 a1] w fun e w' => e = .returned (.int .i64 r) ∧ Drawn0 w w' := by
 have HR0 := Aside0.mk hr0
 have HC0 := Aside0.mk hc0
 clear hr0 hc0
 have H : (if (wrap64 (a1 - (l0.length : Int))) < 0 then (some (-1)) else (some (wrap64 (a1 - (l0.length : Int))))) = some r := h
 clear h
 by_cases c3 : (wrap64 (a1 - (l0.length : Int))) < 0
 ·rw [if_pos c3] at H
  have c3b0 : decide ((wrap64 (a1 - (l0.length : Int))) < 0) = true := decide_eq_true c3
  clear c3
  obtain rfl := Option.some.inj H; clear H
  go_enter Try.func53, Try.ntmps53
  go_wp2
  go_ret
  exact ⟨by first | rfl | (simp; done) | (simp [*]; done), by repeat (first | exact Drawn0.refl _ | apply Drawn0.step)⟩
 ·rw [if_neg c3] at H
  have c3b0 : decide ((wrap64 (a1 - (l0.length : Int))) < 0) = false := decide_eq_false c3
  clear c3
  obtain rfl := Option.some.inj H; clear H
  go_enter Try.func53, Try.ntmps53
  go_wp2
  go_ret
  exact ⟨by first | rfl | (simp; done) | (simp [*]; done), by repeat (first | exact Drawn0.refl _ | apply Drawn0.step)⟩
end Go.Proofs.Ytedodaifpekahaa.P

end
section

namespace Go.Proofs.Ytedodaifpekahaa.P
open Go.RowKit Go.Proofs.YtedodaifpekahaaW.PrintWords Go.Proofs.YtedodaifpekahaaW.PrintLast Go.Proofs.YtedodaifpekahaaW.PrintMore
attribute [local go_sem] max2_int min2_int max_two min_two max_three min_three max_four min_four
set_option linter.unusedVariables false
set_option linter.unusedSimpArgs false
set_option maxHeartbeats 8000000 in
set_option maxRecDepth 100000 in
theorem laws_szMethod.calls (k : Nat) (a0_0 : Int) (a0_1 : Int) (A0_2 : Option Addr) (c0_2 : Nat) (l0_2 : List Int) (a0_3 : Int) (a0_4 : Int) (A0_5 : Option Addr) (c0_5 : Nat) (l0_5 : List (S113)) (A0_6 : Option Addr) (c0_6 : Nat) (l0_6 : List (S111)) (A0_7 : Option Addr) (c0_7 : Nat) (l0_7 : List (S116)) (a1 : Int) (r : Int) (w : World) (hr0_2 : Kd.C (Kd.int .i64) w A0_2 l0_2.length l0_2) (hc0_2 : l0_2.length ≤ c0_2) (hr0_5 : Kd.C k113 w A0_5 l0_5.length l0_5) (hc0_5 : l0_5.length ≤ c0_5) (hr0_6 : Kd.C k111 w A0_6 l0_6.length l0_6) (hc0_6 : l0_6.length ≤ c0_6) (hr0_7 : Kd.C k116 w A0_7 l0_7.length l0_7) (hc0_7 : l0_7.length ≤ c0_7) (h : laws_szMethod.f k a0_0 a0_1 l0_2 a0_3 a0_4 l0_5 l0_6 l0_7 a1 = some r) :
  Calls Try.prog 32 #[.agg #[.int .i64 a0_0, .int .i64 a0_1, .slice A0_2 l0_2.length c0_2, .int .i64 a0_3, .int .i64 a0_4, .slice A0_5 l0_5.length c0_5, .slice A0_6 l0_6.length c0_6, .slice A0_7 l0_7.length c0_7], .int .i64 a1] w fun e w' => e = .returned (.int .i64 r) ∧ Below w.heap.size w w' := by
 have hu64 := Try.underlying64
 have HR0_2 := Aside0.mk hr0_2
 have HC0_2 := Aside0.mk hc0_2
 clear hr0_2 hc0_2
 have HR0_5 := Aside0.mk hr0_5
 have HC0_5 := Aside0.mk hc0_5
 clear hr0_5 hc0_5
 have HR0_6 := Aside0.mk hr0_6
 have HC0_6 := Aside0.mk hc0_6
 clear hr0_6 hc0_6
 have HR0_7 := Aside0.mk hr0_7
 have HC0_7 := Aside0.mk hc0_7
 clear hr0_7 hc0_7
 have HB := Aside0.mk (Below.refl w.heap.size w)
 have H : ((laws_szIntS.f l0_2 a1).bind fun t111 => (if t111 < 0 then (some (-1)) else ((laws_szInsS.f l0_5 t111).bind fun t112 => (if t112 < 0 then (some (-1)) else ((laws_szShapeS.f k l0_6 t112).bind fun t113 => (if t113 < 0 then (some (-1)) else ((laws_szCatchS.f l0_7 t113).bind fun t114 => (if t114 < 0 then (some (-1)) else (some t114))))))))) = some r := h
 clear h
 obtain ⟨t111, A3, H⟩ := ob H
 by_cases c4 : t111 < 0
 ·rw [if_pos c4] at H
  have c4b0 : decide (t111 < 0) = true := decide_eq_true c4
  clear c4
  obtain rfl := Option.some.inj H; clear H
  go_enter Try.func32, Try.ntmps32
  go_wp2_with (first | ((with_reducible refine gc 50 rfl ?_); refine gl (some 8) Try.func50 #[.slice A0_2 l0_2.length c0_2, .int .i64 a1] rfl ?_; (with_reducible refine (laws_szIntS.calls _ _ l0_2 a1 t111 _ ?side1 ?side2 A3.out).mono ?_); (case side1 => exact cb HR0_2.out); (case side2 => exact HC0_2.out); rintro e w' ⟨rfl, ⟨nd, rfl⟩⟩; refine ⟨_, rfl, ?_⟩))
  go_ret
  exact fin
 ·rw [if_neg c4] at H
  have c4b0 : decide (t111 < 0) = false := decide_eq_false c4
  clear c4
  obtain ⟨t112, A7, H⟩ := ob H
  by_cases c8 : t112 < 0
  ·rw [if_pos c8] at H
   have c8b0 : decide (t112 < 0) = true := decide_eq_true c8
   clear c8
   obtain rfl := Option.some.inj H; clear H
   go_enter Try.func32, Try.ntmps32
   go_wp2_with (first | ((with_reducible refine gc 50 rfl ?_); refine gl (some 8) Try.func50 #[.slice A0_2 l0_2.length c0_2, .int .i64 a1] rfl ?_; (with_reducible refine (laws_szIntS.calls _ _ l0_2 a1 t111 _ ?side1 ?side2 A3.out).mono ?_); (case side1 => exact cb HR0_2.out); (case side2 => exact HC0_2.out); rintro e w' ⟨rfl, ⟨nd, rfl⟩⟩; refine ⟨_, rfl, ?_⟩) | ((with_reducible refine gc 51 rfl ?_); refine gl (some 14) Try.func51 #[.slice A0_5 l0_5.length c0_5, .int .i64 t111] rfl ?_; (with_reducible refine (laws_szInsS.calls _ _ l0_5 t111 t112 _ ?side1 ?side2 A7.out).mono ?_); (case side1 => exact cb HR0_5.out); (case side2 => exact HC0_5.out); rintro e w' ⟨rfl, ⟨nd, rfl⟩⟩; refine ⟨_, rfl, ?_⟩))
   go_ret
   exact fin
  ·rw [if_neg c8] at H
   have c8b0 : decide (t112 < 0) = false := decide_eq_false c8
   clear c8
   obtain ⟨t113, A11, H⟩ := ob H
   by_cases c12 : t113 < 0
   ·rw [if_pos c12] at H
    have c12b0 : decide (t113 < 0) = true := decide_eq_true c12
    clear c12
    obtain rfl := Option.some.inj H; clear H
    go_enter Try.func32, Try.ntmps32
    go_wp2_with (first | ((with_reducible refine gd 2 rfl ?_); refine bx 2 #[.int .i64 a0_0, .int .i64 a0_1, .slice A0_2 l0_2.length c0_2, .int .i64 a0_3, .int .i64 a0_4, .slice A0_5 l0_5.length c0_5, .slice A0_6 l0_6.length c0_6, .slice A0_7 l0_7.length c0_7] 64 ?_; intro gb110 hg w13 hbox hb; have BK110 := Aside0.mk hbox; have GW110 := hz HB hg; have GE110 := hz HB hg; replace HB := hs HB hb; clear hb hbox hg; obtain ⟨_,_,_,_,_,_,_,_,_,_,_,_,_,_,_,_⟩ := cf8 BK110) | ((with_reducible refine gc 50 rfl ?_); refine gl (some 8) Try.func50 #[.slice A0_2 l0_2.length c0_2, .int .i64 a1] rfl ?_; (with_reducible refine (laws_szIntS.calls _ _ l0_2 a1 t111 _ ?side1 ?side2 A3.out).mono ?_); (case side1 => exact cb HR0_2.out); (case side2 => exact HC0_2.out); rintro e w' ⟨rfl, ⟨nd, rfl⟩⟩; refine ⟨_, rfl, ?_⟩) | ((with_reducible refine gc 51 rfl ?_); refine gl (some 14) Try.func51 #[.slice A0_5 l0_5.length c0_5, .int .i64 t111] rfl ?_; (with_reducible refine (laws_szInsS.calls _ _ l0_5 t111 t112 _ ?side1 ?side2 A7.out).mono ?_); (case side1 => exact cb HR0_5.out); (case side2 => exact HC0_5.out); rintro e w' ⟨rfl, ⟨nd, rfl⟩⟩; refine ⟨_, rfl, ?_⟩) | ((with_reducible refine gc 52 rfl ?_); refine gl (some 20) Try.func52 #[.slice A0_6 l0_6.length c0_6, .int .i64 t112] rfl ?_; (with_reducible refine (laws_szShapeS.calls k _ _ l0_6 t112 t113 _ ?side1 ?side2 A11.out).mono ?_); (case side1 => exact cb HR0_6.out); (case side2 => exact HC0_6.out); rintro e w15 ⟨rfl, hb⟩; refine ⟨_, rfl, ?_⟩; replace BK110 := kb BK110 hb; replace HB := hs HB hb; (try clear hb)))
    go_ret
    exact fin
   ·rw [if_neg c12] at H
    have c12b0 : decide (t113 < 0) = false := decide_eq_false c12
    clear c12
    obtain ⟨t114, A16, H⟩ := ob H
    by_cases c17 : t114 < 0
    ·rw [if_pos c17] at H
     have c17b0 : decide (t114 < 0) = true := decide_eq_true c17
     clear c17
     obtain rfl := Option.some.inj H; clear H
     go_enter Try.func32, Try.ntmps32
     go_wp2_with (first | ((with_reducible refine gd 2 rfl ?_); refine bx 2 #[.int .i64 a0_0, .int .i64 a0_1, .slice A0_2 l0_2.length c0_2, .int .i64 a0_3, .int .i64 a0_4, .slice A0_5 l0_5.length c0_5, .slice A0_6 l0_6.length c0_6, .slice A0_7 l0_7.length c0_7] 64 ?_; intro gb110 hg w18 hbox hb; have BK110 := Aside0.mk hbox; have GW110 := hz HB hg; have GE110 := hz HB hg; replace HB := hs HB hb; clear hb hbox hg; obtain ⟨_,_,_,_,_,_,_,_,_,_,_,_,_,_,_,_⟩ := cf8 BK110) | ((with_reducible refine gc 50 rfl ?_); refine gl (some 8) Try.func50 #[.slice A0_2 l0_2.length c0_2, .int .i64 a1] rfl ?_; (with_reducible refine (laws_szIntS.calls _ _ l0_2 a1 t111 _ ?side1 ?side2 A3.out).mono ?_); (case side1 => exact cb HR0_2.out); (case side2 => exact HC0_2.out); rintro e w' ⟨rfl, ⟨nd, rfl⟩⟩; refine ⟨_, rfl, ?_⟩) | ((with_reducible refine gc 51 rfl ?_); refine gl (some 14) Try.func51 #[.slice A0_5 l0_5.length c0_5, .int .i64 t111] rfl ?_; (with_reducible refine (laws_szInsS.calls _ _ l0_5 t111 t112 _ ?side1 ?side2 A7.out).mono ?_); (case side1 => exact cb HR0_5.out); (case side2 => exact HC0_5.out); rintro e w' ⟨rfl, ⟨nd, rfl⟩⟩; refine ⟨_, rfl, ?_⟩) | ((with_reducible refine gc 52 rfl ?_); refine gl (some 20) Try.func52 #[.slice A0_6 l0_6.length c0_6, .int .i64 t112] rfl ?_; (with_reducible refine (laws_szShapeS.calls k _ _ l0_6 t112 t113 _ ?side1 ?side2 A11.out).mono ?_); (case side1 => exact cb HR0_6.out); (case side2 => exact HC0_6.out); rintro e w20 ⟨rfl, hb⟩; refine ⟨_, rfl, ?_⟩; replace BK110 := kb BK110 hb; replace HB := hs HB hb; (try clear hb); obtain ⟨_,_,_,_,_,_,_,_,_,_,_,_,_,_,_,_⟩ := cf8 BK110) | ((with_reducible refine gc 53 rfl ?_); refine gl (some 26) Try.func53 #[.slice A0_7 l0_7.length c0_7, .int .i64 t113] rfl ?_; (with_reducible refine (laws_szCatchS.calls _ _ l0_7 t113 t114 _ ?side1 ?side2 A16.out).mono ?_); (case side1 => exact cb HR0_7.out); (case side2 => exact HC0_7.out); rintro e w' ⟨rfl, ⟨nd, rfl⟩⟩; refine ⟨_, rfl, ?_⟩))
     go_ret
     exact fin
    ·rw [if_neg c17] at H
     have c17b0 : decide (t114 < 0) = false := decide_eq_false c17
     clear c17
     obtain rfl := Option.some.inj H; clear H
     go_enter Try.func32, Try.ntmps32
     go_wp2_with (first | ((with_reducible refine gd 2 rfl ?_); refine bx 2 #[.int .i64 a0_0, .int .i64 a0_1, .slice A0_2 l0_2.length c0_2, .int .i64 a0_3, .int .i64 a0_4, .slice A0_5 l0_5.length c0_5, .slice A0_6 l0_6.length c0_6, .slice A0_7 l0_7.length c0_7] 64 ?_; intro gb110 hg w22 hbox hb; have BK110 := Aside0.mk hbox; have GW110 := hz HB hg; have GE110 := hz HB hg; replace HB := hs HB hb; clear hb hbox hg; obtain ⟨_,_,_,_,_,_,_,_,_,_,_,_,_,_,_,_⟩ := cf8 BK110) | ((with_reducible refine gc 50 rfl ?_); refine gl (some 8) Try.func50 #[.slice A0_2 l0_2.length c0_2, .int .i64 a1] rfl ?_; (with_reducible refine (laws_szIntS.calls _ _ l0_2 a1 t111 _ ?side1 ?side2 A3.out).mono ?_); (case side1 => exact cb HR0_2.out); (case side2 => exact HC0_2.out); rintro e w' ⟨rfl, ⟨nd, rfl⟩⟩; refine ⟨_, rfl, ?_⟩) | ((with_reducible refine gc 51 rfl ?_); refine gl (some 14) Try.func51 #[.slice A0_5 l0_5.length c0_5, .int .i64 t111] rfl ?_; (with_reducible refine (laws_szInsS.calls _ _ l0_5 t111 t112 _ ?side1 ?side2 A7.out).mono ?_); (case side1 => exact cb HR0_5.out); (case side2 => exact HC0_5.out); rintro e w' ⟨rfl, ⟨nd, rfl⟩⟩; refine ⟨_, rfl, ?_⟩) | ((with_reducible refine gc 52 rfl ?_); refine gl (some 20) Try.func52 #[.slice A0_6 l0_6.length c0_6, .int .i64 t112] rfl ?_; (with_reducible refine (laws_szShapeS.calls k _ _ l0_6 t112 t113 _ ?side1 ?side2 A11.out).mono ?_); (case side1 => exact cb HR0_6.out); (case side2 => exact HC0_6.out); rintro e w24 ⟨rfl, hb⟩; refine ⟨_, rfl, ?_⟩; replace BK110 := kb BK110 hb; replace HB := hs HB hb; (try clear hb); obtain ⟨_,_,_,_,_,_,_,_,_,_,_,_,_,_,_,_⟩ := cf8 BK110) | ((with_reducible refine gc 53 rfl ?_); refine gl (some 26) Try.func53 #[.slice A0_7 l0_7.length c0_7, .int .i64 t113] rfl ?_; (with_reducible refine (laws_szCatchS.calls _ _ l0_7 t113 t114 _ ?side1 ?side2 A16.out).mono ?_); (case side1 => exact cb HR0_7.out); (case side2 => exact HC0_7.out); rintro e w' ⟨rfl, ⟨nd, rfl⟩⟩; refine ⟨_, rfl, ?_⟩))
     go_ret
     exact fin
end Go.Proofs.Ytedodaifpekahaa.P

end
section

namespace Go.Proofs.Ytedodaifpekahaa.P
open Go.RowKit Go.Proofs.YtedodaifpekahaaW.PrintWords Go.Proofs.YtedodaifpekahaaW.PrintLast Go.Proofs.YtedodaifpekahaaW.PrintMore
attribute [local go_sem] max2_int min2_int max_two min_two max_three min_three max_four min_four
set_option linter.unusedVariables false
set_option linter.unusedSimpArgs false
set_option maxHeartbeats 8000000 in
set_option maxRecDepth 100000 in
theorem laws_szMethodS.calls (k : Nat) (A0 : Option Addr) (c0 : Nat) (l0 : List (S64)) (a1 : Int) (r : Int) (w : World) (hr0 : Kd.C k64 w A0 l0.length l0) (hc0 : l0.length ≤ c0) (h : laws_szMethodS.f k l0 a1 = some r) :
  Calls Try.prog 13 #[.slice A0 l0.length c0, .int .i64 a1] w fun e w' => e = .returned (.int .i64 r) ∧ Below w.heap.size w w' := by
 have hu64 := Try.underlying64
 have HR0 := Aside0.mk hr0
 have HC0 := Aside0.mk hc0
 clear hr0 hc0
 have HB := Aside0.mk (Below.refl w.heap.size w)
 have H : (if (wrap64 (a1 - (l0.length : Int))) < 0 then (some (-1)) else (laws_szMethodS.l0 k l0 (wrap64 (a1 - (l0.length : Int))) 0)) = some r := h
 clear h
 by_cases c3 : (wrap64 (a1 - (l0.length : Int))) < 0
 ·rw [if_pos c3] at H
  have c3b0 : decide ((wrap64 (a1 - (l0.length : Int))) < 0) = true := decide_eq_true c3
  clear c3
  obtain rfl := Option.some.inj H; clear H
  go_enter Try.func13, Try.ntmps13
  go_wp2
  go_ret
  exact fin
 ·rw [if_neg c3] at H
  have c3b0 : decide ((wrap64 (a1 - (l0.length : Int))) < 0) = false := decide_eq_false c3
  clear c3
  have H' := Aside0.mk H
  clear H
  go_enter Try.func13, Try.ntmps13
  go_wp2
  go_loopg [1, 5] k (fun kq v1 v5 w' => ∃ (x1_1 : Int) (x5_1 : Int), v1 = .int .i64 x1_1 ∧ v5 = .int .i64 x5_1 ∧ Aside0 (laws_szMethodS.l0 kq l0 x1_1 x5_1 = some r) ∧ Aside0 (kq ≤ k) ∧ Aside0 (Below w.heap.size w w'))
  case atStart => exact ⟨(wrap64 (a1 - (l0.length : Int))), (0), (by first | rfl | (simp; done) | (simp [*]; done)), (by first | rfl | (simp; done) | (simp [*]; done)), H', ⟨Nat.le_refl _⟩, ⟨bl⟩⟩
  case round =>
   clear H'
   obtain ⟨x1_1, x5_1, rfl, rfl, HA, HK1, HB⟩ := hrel
   cases gk with
   | zero => exact absurd HA.out (by simp [laws_szMethodS.l0])
   | succ k1 =>
    have H := HA.out
    clear HA
    simp only [laws_szMethodS.l0] at H
    by_cases c4 : x5_1 < (l0.length : Int)
    ·rw [if_pos c4] at H
     have c4b0 : decide (x5_1 < (l0.length : Int)) = true := decide_eq_true c4
     clear c4
     by_cases c5 : 0 ≤ x5_1
     ·rw [if_pos c5] at H
      have c5b0 : decide (0 ≤ x5_1) = true := decide_eq_true c5
      clear c5
      obtain ⟨t116, A6, H⟩ := ob H
      by_cases c7 : t116 < 0
      ·rw [if_pos c7] at H
       have c7b0 : decide (t116 < 0) = true := decide_eq_true c7
       clear c7
       obtain rfl := Option.some.inj H; clear H
       have p115 : 0 ≤ (x5_1 : Int) := od
       have q115 : x5_1 < (l0.length : Int) := od
       obtain ⟨ad115, A115_2, c115_2, A115_5, c115_5, A115_6, c115_6, A115_7, c115_7, e115, hx115_0, hx115_1, hx115_2, hx115_3, hx115_4, hx115_5, hx115_6, hx115_7, hl115_2, hi115_2, hl115_5, hi115_5, hl115_6, hi115_6, hl115_7, hi115_7⟩ := at_T64 HR0.out x5_1 p115 q115
       cases e115
       obtain ⟨hx115_0,hx115_1,hx115_2,hx115_3,hx115_4,hx115_5,hx115_6,hx115_7⟩ := hc8 HB hx115_0 hx115_1 hx115_2 hx115_3 hx115_4 hx115_5 hx115_6 hx115_7
       have HR115_2 := Aside0.mk hi115_2
       have HC115_2 := Aside0.mk hl115_2
       clear hi115_2 hl115_2
       have HR115_5 := Aside0.mk hi115_5
       have HC115_5 := Aside0.mk hl115_5
       clear hi115_5 hl115_5
       have HR115_6 := Aside0.mk hi115_6
       have HC115_6 := Aside0.mk hl115_6
       clear hi115_6 hl115_6
       have HR115_7 := Aside0.mk hi115_7
       have HC115_7 := Aside0.mk hl115_7
       clear hi115_7 hl115_7
       replace p115 := eq_true p115
       replace q115 := eq_true q115
       go_wp2_with (first | ((with_reducible refine gc 32 rfl ?_); refine gl (some 23) Try.func32 #[.agg #[.int .i64 ((rd_T64 l0 x5_1).f0), .int .i64 ((rd_T64 l0 x5_1).f1), .slice A115_2 ((rd_T64 l0 x5_1).f2).length c115_2, .int .i64 ((rd_T64 l0 x5_1).f3), .int .i64 ((rd_T64 l0 x5_1).f4), .slice A115_5 ((rd_T64 l0 x5_1).f5).length c115_5, .slice A115_6 ((rd_T64 l0 x5_1).f6).length c115_6, .slice A115_7 ((rd_T64 l0 x5_1).f7).length c115_7], .int .i64 x1_1] rfl ?_; (with_reducible refine (laws_szMethod.calls k1 ((rd_T64 l0 x5_1).f0) ((rd_T64 l0 x5_1).f1) _ _ ((rd_T64 l0 x5_1).f2) ((rd_T64 l0 x5_1).f3) ((rd_T64 l0 x5_1).f4) _ _ ((rd_T64 l0 x5_1).f5) _ _ ((rd_T64 l0 x5_1).f6) _ _ ((rd_T64 l0 x5_1).f7) x1_1 t116 _ ?side1 ?side2 ?side3 ?side4 ?side5 ?side6 ?side7 ?side8 A6.out).mono ?_); (case side1 => exact cb HR115_2.out); (case side2 => exact HC115_2.out); (case side3 => exact cb HR115_5.out); (case side4 => exact HC115_5.out); (case side5 => exact cb HR115_6.out); (case side6 => exact HC115_6.out); (case side7 => exact cb HR115_7.out); (case side8 => exact HC115_7.out); rintro e w8 ⟨rfl, hb⟩; refine ⟨_, rfl, ?_⟩; replace HB := hs HB hb; (try clear hb)))
       go_ret
       exact fin
      ·rw [if_neg c7] at H
       have c7b0 : decide (t116 < 0) = false := decide_eq_false c7
       clear c7
       have H' := Aside0.mk H
       clear H
       have p115 : 0 ≤ (x5_1 : Int) := od
       have q115 : x5_1 < (l0.length : Int) := od
       obtain ⟨ad115, A115_2, c115_2, A115_5, c115_5, A115_6, c115_6, A115_7, c115_7, e115, hx115_0, hx115_1, hx115_2, hx115_3, hx115_4, hx115_5, hx115_6, hx115_7, hl115_2, hi115_2, hl115_5, hi115_5, hl115_6, hi115_6, hl115_7, hi115_7⟩ := at_T64 HR0.out x5_1 p115 q115
       cases e115
       obtain ⟨hx115_0,hx115_1,hx115_2,hx115_3,hx115_4,hx115_5,hx115_6,hx115_7⟩ := hc8 HB hx115_0 hx115_1 hx115_2 hx115_3 hx115_4 hx115_5 hx115_6 hx115_7
       have HR115_2 := Aside0.mk hi115_2
       have HC115_2 := Aside0.mk hl115_2
       clear hi115_2 hl115_2
       have HR115_5 := Aside0.mk hi115_5
       have HC115_5 := Aside0.mk hl115_5
       clear hi115_5 hl115_5
       have HR115_6 := Aside0.mk hi115_6
       have HC115_6 := Aside0.mk hl115_6
       clear hi115_6 hl115_6
       have HR115_7 := Aside0.mk hi115_7
       have HC115_7 := Aside0.mk hl115_7
       clear hi115_7 hl115_7
       replace p115 := eq_true p115
       replace q115 := eq_true q115
       go_wp2_with (first | ((with_reducible refine gc 32 rfl ?_); refine gl (some 23) Try.func32 #[.agg #[.int .i64 ((rd_T64 l0 x5_1).f0), .int .i64 ((rd_T64 l0 x5_1).f1), .slice A115_2 ((rd_T64 l0 x5_1).f2).length c115_2, .int .i64 ((rd_T64 l0 x5_1).f3), .int .i64 ((rd_T64 l0 x5_1).f4), .slice A115_5 ((rd_T64 l0 x5_1).f5).length c115_5, .slice A115_6 ((rd_T64 l0 x5_1).f6).length c115_6, .slice A115_7 ((rd_T64 l0 x5_1).f7).length c115_7], .int .i64 x1_1] rfl ?_; (with_reducible refine (laws_szMethod.calls k1 ((rd_T64 l0 x5_1).f0) ((rd_T64 l0 x5_1).f1) _ _ ((rd_T64 l0 x5_1).f2) ((rd_T64 l0 x5_1).f3) ((rd_T64 l0 x5_1).f4) _ _ ((rd_T64 l0 x5_1).f5) _ _ ((rd_T64 l0 x5_1).f6) _ _ ((rd_T64 l0 x5_1).f7) x1_1 t116 _ ?side1 ?side2 ?side3 ?side4 ?side5 ?side6 ?side7 ?side8 A6.out).mono ?_); (case side1 => exact cb HR115_2.out); (case side2 => exact HC115_2.out); (case side3 => exact cb HR115_5.out); (case side4 => exact HC115_5.out); (case side5 => exact cb HR115_6.out); (case side6 => exact HC115_6.out); (case side7 => exact cb HR115_7.out); (case side8 => exact HC115_7.out); rintro e w9 ⟨rfl, hb⟩; refine ⟨_, rfl, ?_⟩; replace HB := hs HB hb; (try clear hb)))
       go_roundg k1
       case measure => have := HK1.out; omega
       case rel => exact ⟨(t116), (wrap64 (x5_1 + 1)), (by first | rfl | (simp; done) | (simp [*]; done)), (by first | rfl | (simp; done) | (simp [*]; done)), H', ⟨by have := HK1.out; omega⟩, ⟨bl⟩⟩
     ·rw [if_neg c5] at H
      exact absurd H (by simp)
    ·rw [if_neg c4] at H
     have c4b0 : decide (x5_1 < (l0.length : Int)) = false := decide_eq_false c4
     clear c4
     obtain rfl := Option.some.inj H; clear H
     go_wp2
     go_ret
     exact fin
end Go.Proofs.Ytedodaifpekahaa.P

end
section

namespace Go.Proofs.Ytedodaifpekahaa.P
open Go.RowKit Go.Proofs.YtedodaifpekahaaW.PrintWords Go.Proofs.YtedodaifpekahaaW.PrintLast Go.Proofs.YtedodaifpekahaaW.PrintMore
attribute [local go_sem] max2_int min2_int max_two min_two max_three min_three max_four min_four
set_option linter.unusedVariables false
set_option linter.unusedSimpArgs false
set_option maxHeartbeats 8000000 in
set_option maxRecDepth 100000 in
theorem laws_szUnit.calls (k : Nat) (A0_0 : Option Addr) (c0_0 : Nat) (l0_0 : List (S58)) (A0_1 : Option Addr) (c0_1 : Nat) (l0_1 : List (S64)) (a1 : Int) (r : Int) (w : World) (hr0_0 : Kd.C k58 w A0_0 l0_0.length l0_0) (hc0_0 : l0_0.length ≤ c0_0) (hr0_1 : Kd.C k64 w A0_1 l0_1.length l0_1) (hc0_1 : l0_1.length ≤ c0_1) (h : laws_szUnit.f k l0_0 l0_1 a1 = some r) :
  Calls Try.prog 5 #[.agg #[.slice A0_0 l0_0.length c0_0, .slice A0_1 l0_1.length c0_1], .int .i64 a1] w fun e w' => e = .returned (.int .i64 r) ∧ Below w.heap.size w w' := by
 have hu25 := Try.underlying25
 have HR0_0 := Aside0.mk hr0_0
 have HC0_0 := Aside0.mk hc0_0
 clear hr0_0 hc0_0
 have HR0_1 := Aside0.mk hr0_1
 have HC0_1 := Aside0.mk hc0_1
 clear hr0_1 hc0_1
 have HB := Aside0.mk (Below.refl w.heap.size w)
 have H : ((laws_szClassS.f k l0_0 a1).bind fun t118 => (if t118 < 0 then (some (-1)) else ((laws_szMethodS.f k l0_1 t118).bind fun t119 => (if t119 < 0 then (some (-1)) else (some t119))))) = some r := h
 clear h
 obtain ⟨t118, A3, H⟩ := ob H
 by_cases c4 : t118 < 0
 ·rw [if_pos c4] at H
  have c4b0 : decide (t118 < 0) = true := decide_eq_true c4
  clear c4
  obtain rfl := Option.some.inj H; clear H
  go_enter Try.func5, Try.ntmps5
  go_wp2_with (first | ((with_reducible refine gd 2 rfl ?_); refine bx 2 #[.slice A0_0 l0_0.length c0_0, .slice A0_1 l0_1.length c0_1] 25 ?_; intro gb117 hg w5 hbox hb; have BK117 := Aside0.mk hbox; have GW117 := hz HB hg; have GE117 := hz HB hg; replace HB := hs HB hb; clear hb hbox hg; obtain ⟨_,_,_,_⟩ := cf2 BK117) | ((with_reducible refine gc 12 rfl ?_); refine gl (some 8) Try.func12 #[.slice A0_0 l0_0.length c0_0, .int .i64 a1] rfl ?_; (with_reducible refine (laws_szClassS.calls k _ _ l0_0 a1 t118 _ ?side1 ?side2 A3.out).mono ?_); (case side1 => exact cb HR0_0.out); (case side2 => exact HC0_0.out); rintro e w7 ⟨rfl, hb⟩; refine ⟨_, rfl, ?_⟩; replace BK117 := kb BK117 hb; replace HB := hs HB hb; (try clear hb)))
  go_ret
  exact fin
 ·rw [if_neg c4] at H
  have c4b0 : decide (t118 < 0) = false := decide_eq_false c4
  clear c4
  obtain ⟨t119, A8, H⟩ := ob H
  by_cases c9 : t119 < 0
  ·rw [if_pos c9] at H
   have c9b0 : decide (t119 < 0) = true := decide_eq_true c9
   clear c9
   obtain rfl := Option.some.inj H; clear H
   go_enter Try.func5, Try.ntmps5
   go_wp2_with (first | ((with_reducible refine gd 2 rfl ?_); refine bx 2 #[.slice A0_0 l0_0.length c0_0, .slice A0_1 l0_1.length c0_1] 25 ?_; intro gb117 hg w10 hbox hb; have BK117 := Aside0.mk hbox; have GW117 := hz HB hg; have GE117 := hz HB hg; replace HB := hs HB hb; clear hb hbox hg; obtain ⟨_,_,_,_⟩ := cf2 BK117) | ((with_reducible refine gc 12 rfl ?_); refine gl (some 8) Try.func12 #[.slice A0_0 l0_0.length c0_0, .int .i64 a1] rfl ?_; (with_reducible refine (laws_szClassS.calls k _ _ l0_0 a1 t118 _ ?side1 ?side2 A3.out).mono ?_); (case side1 => exact cb HR0_0.out); (case side2 => exact HC0_0.out); rintro e w12 ⟨rfl, hb⟩; refine ⟨_, rfl, ?_⟩; replace BK117 := kb BK117 hb; replace HB := hs HB hb; (try clear hb); obtain ⟨_,_,_,_⟩ := cf2 BK117) | ((with_reducible refine gc 13 rfl ?_); refine gl (some 14) Try.func13 #[.slice A0_1 l0_1.length c0_1, .int .i64 t118] rfl ?_; (with_reducible refine (laws_szMethodS.calls k _ _ l0_1 t118 t119 _ ?side1 ?side2 A8.out).mono ?_); (case side1 => exact cb HR0_1.out); (case side2 => exact HC0_1.out); rintro e w14 ⟨rfl, hb⟩; refine ⟨_, rfl, ?_⟩; replace BK117 := kb BK117 hb; replace HB := hs HB hb; (try clear hb)))
   go_ret
   exact fin
  ·rw [if_neg c9] at H
   have c9b0 : decide (t119 < 0) = false := decide_eq_false c9
   clear c9
   obtain rfl := Option.some.inj H; clear H
   go_enter Try.func5, Try.ntmps5
   go_wp2_with (first | ((with_reducible refine gd 2 rfl ?_); refine bx 2 #[.slice A0_0 l0_0.length c0_0, .slice A0_1 l0_1.length c0_1] 25 ?_; intro gb117 hg w15 hbox hb; have BK117 := Aside0.mk hbox; have GW117 := hz HB hg; have GE117 := hz HB hg; replace HB := hs HB hb; clear hb hbox hg; obtain ⟨_,_,_,_⟩ := cf2 BK117) | ((with_reducible refine gc 12 rfl ?_); refine gl (some 8) Try.func12 #[.slice A0_0 l0_0.length c0_0, .int .i64 a1] rfl ?_; (with_reducible refine (laws_szClassS.calls k _ _ l0_0 a1 t118 _ ?side1 ?side2 A3.out).mono ?_); (case side1 => exact cb HR0_0.out); (case side2 => exact HC0_0.out); rintro e w17 ⟨rfl, hb⟩; refine ⟨_, rfl, ?_⟩; replace BK117 := kb BK117 hb; replace HB := hs HB hb; (try clear hb); obtain ⟨_,_,_,_⟩ := cf2 BK117) | ((with_reducible refine gc 13 rfl ?_); refine gl (some 14) Try.func13 #[.slice A0_1 l0_1.length c0_1, .int .i64 t118] rfl ?_; (with_reducible refine (laws_szMethodS.calls k _ _ l0_1 t118 t119 _ ?side1 ?side2 A8.out).mono ?_); (case side1 => exact cb HR0_1.out); (case side2 => exact HC0_1.out); rintro e w19 ⟨rfl, hb⟩; refine ⟨_, rfl, ?_⟩; replace BK117 := kb BK117 hb; replace HB := hs HB hb; (try clear hb)))
   go_ret
   exact fin
end Go.Proofs.Ytedodaifpekahaa.P

end
