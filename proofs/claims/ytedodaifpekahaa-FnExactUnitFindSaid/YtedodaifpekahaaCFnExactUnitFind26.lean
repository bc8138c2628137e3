/- A part of the claim FnExactUnitFind: texts of this session and texts that its program printed out of the translation, joined. -/
import Derived.Test.YtedodaifpekahaaCFnExactUnitFind21
import Derived.Test.YtedodaifpekahaaCFnExactUnitFind24
import Derived.Test.YtedodaifpekahaaCFnExactUnitFind25
import Derived.Test.YtedodaifpekahaaCFnExactUnitFind0
import Derived.Test.YtedodaifpekahaaCFnExactUnitFind1
import Derived.Test.YtedodaifpekahaaCFnExactUnitFind2
import Derived.Test.YtedodaifpekahaaCFnExactUnitFind3
import Derived.Test.YtedodaifpekahaaCFnExactUnitFind4
import Derived.Test.YtedodaifpekahaaCFnExactUnitFind5
import Derived.Test.YtedodaifpekahaaCFnExactUnitFind6
import Derived.Test.YtedodaifpekahaaCFnExactUnitFind7
import Derived.Test.YtedodaifpekahaaCFnExactUnitFind8
import Derived.Test.YtedodaifpekahaaCFnExactUnitFind9
import Derived.Test.YtedodaifpekahaaCFnExactUnitFind10
import Derived.Test.YtedodaifpekahaaCFnExactUnitFind11
import Derived.Test.YtedodaifpekahaaCFnExactUnitFind12
import Derived.Test.YtedodaifpekahaaCFnExactUnitFind13
import Derived.Test.YtedodaifpekahaaCFnExactUnitFind14
import Derived.Test.YtedodaifpekahaaCFnExactUnitFind15
import Derived.Test.YtedodaifpekahaaCFnExactUnitFind16
import Derived.Test.YtedodaifpekahaaCFnExactUnitFind17
import Derived.Test.YtedodaifpekahaaCFnExactUnitFind18
import Derived.Test.YtedodaifpekahaaCFnExactUnitFind19
import Derived.Test.YtedodaifpekahaaCFnExactUnitFind20
import Derived.Test.YtedodaifpekahaaCFnExactUnitFind22
import Derived.Test.YtedodaifpekahaaCFnExactUnitFind23
section

namespace Go.Proofs.Ytedodaifpekahaa.P
open Go.RowKit Go.Proofs.YtedodaifpekahaaW.PrintWords Go.Proofs.YtedodaifpekahaaW.PrintLast Go.Proofs.YtedodaifpekahaaW.PrintMore
attribute [local go_sem] max2_int min2_int max_two min_two max_three min_three max_four min_four
set_option linter.unusedVariables false
set_option linter.unusedSimpArgs false
set_option maxHeartbeats 8000000 in
set_option maxRecDepth 100000 in
theorem spec_l3Apart.calls (k : Nat) (A0_0 : Option Addr) (c0_0 : Nat) (l0_0 : List (S76)) (A0_1 : Option Addr) (c0_1 : Nat) (l0_1 : List (S46)) (r : Bool) (w : World) (hr0_0 : Kd.C k76 w A0_0 l0_0.length l0_0) (hc0_0 : l0_0.length ≤ c0_0) (hr0_1 : Kd.C k46 w A0_1 l0_1.length l0_1) (hc0_1 : l0_1.length ≤ c0_1) (h : spec_l3Apart.f k l0_0 l0_1 = some r) :
  Calls Try.prog 17 #[.agg #[.slice A0_0 l0_0.length c0_0, .slice A0_1 l0_1.length c0_1]] w fun e w' => e = .returned (.bool r) ∧ Below w.heap.size w w' := by
 have hu31 := Try.underlying31
 have hu46 := Try.underlying46
 have HR0_0 := Aside0.mk hr0_0
 have HC0_0 := Aside0.mk hc0_0
 clear hr0_0 hc0_0
 have HR0_1 := Aside0.mk hr0_1
 have HC0_1 := Aside0.mk hc0_1
 clear hr0_1 hc0_1
 have HB := Aside0.mk (Below.refl w.heap.size w)
 have H : (spec_l3Apart.l0 k 0 l0_0 l0_1) = some r := h
 clear h
 have H' := Aside0.mk H
 clear H
 go_enter Try.func17, Try.ntmps17
 go_wp2_with (first | ((with_reducible refine gd 1 rfl ?_); refine bx 1 #[.slice A0_0 l0_0.length c0_0, .slice A0_1 l0_1.length c0_1] 31 ?_; intro gb197 hg w2 hbox hb; have BK197 := Aside0.mk hbox; have GW197 := hz HB hg; have GE197 := hz HB hg; replace HB := hs HB hb; clear hb hbox hg))
 go_loopg [3] k (fun kq v3 w' => ∃ (x3_1 : Int), v3 = .int .i64 x3_1 ∧ Aside0 (spec_l3Apart.l0 kq x3_1 l0_0 l0_1 = some r) ∧ Aside0 (kq ≤ k) ∧ Aside0 (w'.heap[gb197]? = some (.cells #[(.slice A0_0 l0_0.length c0_0), (.slice A0_1 l0_1.length c0_1)] 31 (0, 0))) ∧ Aside0 (Below w.heap.size w w'))
 case atStart => exact ⟨(0), (by first | rfl | (simp; done) | (simp [*]; done)), H', ⟨Nat.le_refl _⟩, kk BK197, ⟨bl⟩⟩
 case round =>
  clear H'
  obtain ⟨x3_1, rfl, HA, HK1, BK197, HB⟩ := hrel
  cases gk with
  | zero => exact absurd HA.out (by simp [spec_l3Apart.l0])
  | succ k1 =>
   have H := HA.out
   clear HA
   simp only [spec_l3Apart.l0] at H
   by_cases c3 : x3_1 < (l0_1.length : Int)
   ·rw [if_pos c3] at H
    have c3b0 : decide (x3_1 < (l0_1.length : Int)) = true := decide_eq_true c3
    clear c3
    have H' := Aside0.mk H
    clear H
    obtain ⟨_,_,_,_⟩ := cf2 BK197
    go_wp2
    go_loopg [4] k1 (fun kq v4 w' => ∃ (x4_2 : Int), v4 = .int .i64 x4_2 ∧ Aside0 (spec_l3Apart.l1 kq x3_1 x4_2 l0_0 l0_1 = some r) ∧ Aside0 (kq ≤ k1) ∧ Aside0 (w'.heap[gb197]? = some (.cells #[(.slice A0_0 l0_0.length c0_0), (.slice A0_1 l0_1.length c0_1)] 31 (0, 0))) ∧ Aside0 (Below w.heap.size w w'))
    case atStart => exact ⟨(0), (by first | rfl | (simp; done) | (simp [*]; done)), H', ⟨Nat.le_refl _⟩, kk BK197, ⟨bl⟩⟩
    case round =>
     clear H'
     obtain ⟨x4_2, rfl, HA, HK2, BK197, HB⟩ := hrel
     cases gk with
     | zero => exact absurd HA.out (by simp [spec_l3Apart.l1])
     | succ k2 =>
      have H := HA.out
      clear HA
      simp only [spec_l3Apart.l1] at H
      by_cases c5 : x4_2 < (l0_1.length : Int)
      ·rw [if_pos c5] at H
       have c5b0 : decide (x4_2 < (l0_1.length : Int)) = true := decide_eq_true c5
       clear c5
       by_cases c6 : 0 ≤ x3_1
       ·rw [if_pos c6] at H
        have c6b0 : decide (0 ≤ x3_1) = true := decide_eq_true c6
        clear c6
        by_cases c7 : x3_1 < (l0_1.length : Int)
        ·rw [if_pos c7] at H
         have c7b0 : decide (x3_1 < (l0_1.length : Int)) = true := decide_eq_true c7
         clear c7
         by_cases c8 : 0 ≤ x4_2
         ·rw [if_pos c8] at H
          have c8b0 : decide (0 ≤ x4_2) = true := decide_eq_true c8
          clear c8
          by_cases c9 : x3_1 = x4_2
          ·rw [if_pos c9] at H
           have c9b0 := beq_iff_eq.mpr c9
           have c9b1 := bne_eq_false_iff_eq.mpr c9
           clear c9
           have H' := Aside0.mk H
           clear H
           obtain ⟨_,_,_,_⟩ := cf2 BK197
           have p198 : 0 ≤ (x3_1 : Int) := od
           have q198 : x3_1 < (l0_1.length : Int) := od
           obtain ⟨ad198, A198_2, c198_2, A198_5, c198_5, A198_6, c198_6, A198_7, c198_7, e198, hx198_0, hx198_1, hx198_2, hx198_3, hx198_4, hx198_5, hx198_6, hx198_7, hl198_2, hi198_2, hl198_5, hi198_5, hl198_6, hi198_6, hl198_7, hi198_7⟩ := at_T46 HR0_1.out x3_1 p198 q198
           cases e198
           obtain ⟨hx198_0,hx198_1,hx198_2,hx198_3,hx198_4,hx198_5,hx198_6,hx198_7⟩ := hc8 HB hx198_0 hx198_1 hx198_2 hx198_3 hx198_4 hx198_5 hx198_6 hx198_7
           have HR198_2 := Aside0.mk hi198_2
           have HC198_2 := Aside0.mk hl198_2
           clear hi198_2 hl198_2
           have HR198_5 := Aside0.mk hi198_5
           have HC198_5 := Aside0.mk hl198_5
           clear hi198_5 hl198_5
           have HR198_6 := Aside0.mk hi198_6
           have HC198_6 := Aside0.mk hl198_6
           clear hi198_6 hl198_6
           have HR198_7 := Aside0.mk hi198_7
           have HC198_7 := Aside0.mk hl198_7
           clear hi198_7 hl198_7
           replace p198 := eq_true p198
           replace q198 := eq_true q198
           go_wp2_with (first | ((with_reducible refine gd 5 rfl ?_); refine bx 5 #[.int .i64 0, .int .i64 0, .slice none 0 0, .int .i64 0, .int .i64 0, .slice none 0 0, .slice none 0 0, .slice none 0 0] 46 ?_; intro gb199 hg w11 hbox hb; have BK199 := Aside0.mk hbox; have GW199 := hz HB hg; have GE199 := hz HB hg; have NB197_199 := nl BK197 hg; have NB199_197 := ng BK197 hg; replace BK197 := kb BK197 hb; replace HB := hs HB hb; clear hb hbox hg; have hnb12 := NB199_197.out; have hnc12 := NB197_199.out; obtain ⟨_,_,_,_,_,_,_,_,_,_,_,_,_,_,_,_⟩ := cf8 BK199; obtain ⟨_,_,_,_⟩ := cf2 BK197; have p200 : 0 ≤ (x4_2 : Int) := od; have q200 : x4_2 < (l0_1.length : Int) := od; obtain ⟨ad200, A200_2, c200_2, A200_5, c200_5, A200_6, c200_6, A200_7, c200_7, e200, hx200_0, hx200_1, hx200_2, hx200_3, hx200_4, hx200_5, hx200_6, hx200_7, hl200_2, hi200_2, hl200_5, hi200_5, hl200_6, hi200_6, hl200_7, hi200_7⟩ := at_T46 HR0_1.out x4_2 p200 q200; obtain rfl : ad198 = ad200 := (by injection e200); have hn200_0 : ad198.block ≠ gb199 := Nat.ne_of_lt (Nat.lt_of_lt_of_le (by have := World.block_lt_of_cell? _ _ hx200_0; first | rwa [add_block] at this | exact this) GW199.out); obtain ⟨hx200_0,hx200_1,hx200_2,hx200_3,hx200_4,hx200_5,hx200_6,hx200_7⟩ := hc8 HB hx200_0 hx200_1 hx200_2 hx200_3 hx200_4 hx200_5 hx200_6 hx200_7; have HR200_2 := Aside0.mk hi200_2; have HC200_2 := Aside0.mk hl200_2; clear hi200_2 hl200_2; have HR200_5 := Aside0.mk hi200_5; have HC200_5 := Aside0.mk hl200_5; clear hi200_5 hl200_5; have HR200_6 := Aside0.mk hi200_6; have HC200_6 := Aside0.mk hl200_6; clear hi200_6 hl200_6; have HR200_7 := Aside0.mk hi200_7; have HC200_7 := Aside0.mk hl200_7; clear hi200_7 hl200_7; obtain ⟨hx200_0,hx200_1,hx200_2,hx200_3,hx200_4,hx200_5,hx200_6,hx200_7⟩ := fw8 ⟨gb199, 0, none⟩ (.int .i64 ((rd_T46 l0_1 x3_1).f0)) hx200_0 hx200_1 hx200_2 hx200_3 hx200_4 hx200_5 hx200_6 hx200_7; obtain ⟨hx200_0,hx200_1,hx200_2,hx200_3,hx200_4,hx200_5,hx200_6,hx200_7⟩ := fw8 ⟨gb199, 1, none⟩ (.int .i64 ((rd_T46 l0_1 x3_1).f1)) hx200_0 hx200_1 hx200_2 hx200_3 hx200_4 hx200_5 hx200_6 hx200_7; obtain ⟨hx200_0,hx200_1,hx200_2,hx200_3,hx200_4,hx200_5,hx200_6,hx200_7⟩ := fw8 ⟨gb199, 2, none⟩ (.slice A198_2 ((rd_T46 l0_1 x3_1).f2).length c198_2) hx200_0 hx200_1 hx200_2 hx200_3 hx200_4 hx200_5 hx200_6 hx200_7; obtain ⟨hx200_0,hx200_1,hx200_2,hx200_3,hx200_4,hx200_5,hx200_6,hx200_7⟩ := fw8 ⟨gb199, 3, none⟩ (.int .i64 ((rd_T46 l0_1 x3_1).f3)) hx200_0 hx200_1 hx200_2 hx200_3 hx200_4 hx200_5 hx200_6 hx200_7; obtain ⟨hx200_0,hx200_1,hx200_2,hx200_3,hx200_4,hx200_5,hx200_6,hx200_7⟩ := fw8 ⟨gb199, 4, none⟩ (.int .i64 ((rd_T46 l0_1 x3_1).f4)) hx200_0 hx200_1 hx200_2 hx200_3 hx200_4 hx200_5 hx200_6 hx200_7; obtain ⟨hx200_0,hx200_1,hx200_2,hx200_3,hx200_4,hx200_5,hx200_6,hx200_7⟩ := fw8 ⟨gb199, 5, none⟩ (.slice A198_5 ((rd_T46 l0_1 x3_1).f5).length c198_5) hx200_0 hx200_1 hx200_2 hx200_3 hx200_4 hx200_5 hx200_6 hx200_7; obtain ⟨hx200_0,hx200_1,hx200_2,hx200_3,hx200_4,hx200_5,hx200_6,hx200_7⟩ := fw8 ⟨gb199, 6, none⟩ (.slice A198_6 ((rd_T46 l0_1 x3_1).f6).length c198_6) hx200_0 hx200_1 hx200_2 hx200_3 hx200_4 hx200_5 hx200_6 hx200_7; obtain ⟨hx200_0,hx200_1,hx200_2,hx200_3,hx200_4,hx200_5,hx200_6,hx200_7⟩ := fw8 ⟨gb199, 7, none⟩ (.slice A198_7 ((rd_T46 l0_1 x3_1).f7).length c198_7) hx200_0 hx200_1 hx200_2 hx200_3 hx200_4 hx200_5 hx200_6 hx200_7; clear hn200_0; replace p200 := eq_true p200; replace q200 := eq_true q200) | ((with_reducible refine gd 6 rfl ?_); refine bx 6 #[.int .i64 0, .int .i64 0, .slice none 0 0, .int .i64 0, .int .i64 0, .slice none 0 0, .slice none 0 0, .slice none 0 0] 46 ?_; intro gb201 hg w15 hbox hb; have BK201 := Aside0.mk hbox; have GW201 := hz HB hg; have GE201 := hz HB hg; have NB197_201 := nl BK197 hg; have NB201_197 := ng BK197 hg; have NB199_201 := nl BK199 hg; have NB201_199 := ng BK199 hg; replace BK197 := kq BK197 hb; replace BK199 := kp gb199 #[.int .i64 ((rd_T46 l0_1 x3_1).f0), .int .i64 ((rd_T46 l0_1 x3_1).f1), .slice A198_2 ((rd_T46 l0_1 x3_1).f2).length c198_2, .int .i64 ((rd_T46 l0_1 x3_1).f3), .int .i64 ((rd_T46 l0_1 x3_1).f4), .slice A198_5 ((rd_T46 l0_1 x3_1).f5).length c198_5, .slice A198_6 ((rd_T46 l0_1 x3_1).f6).length c198_6, .slice A198_7 ((rd_T46 l0_1 x3_1).f7).length c198_7] 46 hb; replace HB := hs HB hb; clear hb hbox hg; have hnb16 := NB201_197.out; have hnc16 := NB197_201.out; have hnb17 := NB201_199.out; have hnc17 := NB199_201.out; obtain ⟨_,_,_,_,_,_,_,_,_,_,_,_,_,_,_,_⟩ := cf8 BK201))
           go_roundg k2
           case measure => have := HK1.out; have := HK2.out; omega
           case rel => exact ⟨(wrap64 (x4_2 + 1)), (by first | rfl | (simp; done) | (simp [*]; done)), H', ⟨by have := HK1.out; have := HK2.out; omega⟩, kf, ⟨bl⟩⟩
          ·rw [if_neg c9] at H
           have c9b0 := beq_eq_false_iff_ne.mpr c9
           have c9b1 := bne_iff_ne.mpr c9
           by_cases c19 : ((rd_T46 l0_1 x3_1).f0) ≥ 0
           ·rw [if_pos c19] at H
            have c19b0 : decide (0 ≤ ((rd_T46 l0_1 x3_1).f0)) = true := decide_eq_true c19
            clear c19
            by_cases c20 : ((rd_T46 l0_1 x4_2).f0) ≥ 0
            ·rw [if_pos c20] at H
             have c20b0 : decide (0 ≤ ((rd_T46 l0_1 x4_2).f0)) = true := decide_eq_true c20
             clear c20
             by_cases c21 : ((rd_T46 l0_1 x3_1).f1) = ((rd_T46 l0_1 x4_2).f1)
             ·rw [if_pos c21] at H
              have c21b0 := beq_iff_eq.mpr c21
              have c21b1 := bne_eq_false_iff_eq.mpr c21
              clear c21
              obtain ⟨t202, A22, H⟩ := ob H
              by_cases c23 : t202 = true
              ·subst c23
               replace H := it H
               by_cases c24 : ((rd_T46 l0_1 x3_1).f0) = ((rd_T46 l0_1 x4_2).f0)
               ·rw [if_pos c24] at H
                have c24b0 := beq_iff_eq.mpr c24
                have c24b1 := bne_eq_false_iff_eq.mpr c24
                clear c24
                obtain rfl := Option.some.inj H; clear H
                obtain ⟨_,_,_,_⟩ := cf2 BK197
                have p198 : 0 ≤ (x3_1 : Int) := od
                have q198 : x3_1 < (l0_1.length : Int) := od
                obtain ⟨ad198, A198_2, c198_2, A198_5, c198_5, A198_6, c198_6, A198_7, c198_7, e198, hx198_0, hx198_1, hx198_2, hx198_3, hx198_4, hx198_5, hx198_6, hx198_7, hl198_2, hi198_2, hl198_5, hi198_5, hl198_6, hi198_6, hl198_7, hi198_7⟩ := at_T46 HR0_1.out x3_1 p198 q198
                cases e198
                obtain ⟨hx198_0,hx198_1,hx198_2,hx198_3,hx198_4,hx198_5,hx198_6,hx198_7⟩ := hc8 HB hx198_0 hx198_1 hx198_2 hx198_3 hx198_4 hx198_5 hx198_6 hx198_7
                have HR198_2 := Aside0.mk hi198_2
                have HC198_2 := Aside0.mk hl198_2
                clear hi198_2 hl198_2
                have HR198_5 := Aside0.mk hi198_5
                have HC198_5 := Aside0.mk hl198_5
                clear hi198_5 hl198_5
                have HR198_6 := Aside0.mk hi198_6
                have HC198_6 := Aside0.mk hl198_6
                clear hi198_6 hl198_6
                have HR198_7 := Aside0.mk hi198_7
                have HC198_7 := Aside0.mk hl198_7
                clear hi198_7 hl198_7
                replace p198 := eq_true p198
                replace q198 := eq_true q198
                go_wp2_with (first | ((with_reducible refine gd 5 rfl ?_); refine bx 5 #[.int .i64 0, .int .i64 0, .slice none 0 0, .int .i64 0, .int .i64 0, .slice none 0 0, .slice none 0 0, .slice none 0 0] 46 ?_; intro gb199 hg w26 hbox hb; have BK199 := Aside0.mk hbox; have GW199 := hz HB hg; have GE199 := hz HB hg; have NB197_199 := nl BK197 hg; have NB199_197 := ng BK197 hg; replace BK197 := kb BK197 hb; replace HB := hs HB hb; clear hb hbox hg; have hnb27 := NB199_197.out; have hnc27 := NB197_199.out; obtain ⟨_,_,_,_,_,_,_,_,_,_,_,_,_,_,_,_⟩ := cf8 BK199; obtain ⟨_,_,_,_⟩ := cf2 BK197; have p200 : 0 ≤ (x4_2 : Int) := od; have q200 : x4_2 < (l0_1.length : Int) := od; obtain ⟨ad200, A200_2, c200_2, A200_5, c200_5, A200_6, c200_6, A200_7, c200_7, e200, hx200_0, hx200_1, hx200_2, hx200_3, hx200_4, hx200_5, hx200_6, hx200_7, hl200_2, hi200_2, hl200_5, hi200_5, hl200_6, hi200_6, hl200_7, hi200_7⟩ := at_T46 HR0_1.out x4_2 p200 q200; obtain rfl : ad198 = ad200 := (by injection e200); have hn200_0 : ad198.block ≠ gb199 := Nat.ne_of_lt (Nat.lt_of_lt_of_le (by have := World.block_lt_of_cell? _ _ hx200_0; first | rwa [add_block] at this | exact this) GW199.out); obtain ⟨hx200_0,hx200_1,hx200_2,hx200_3,hx200_4,hx200_5,hx200_6,hx200_7⟩ := hc8 HB hx200_0 hx200_1 hx200_2 hx200_3 hx200_4 hx200_5 hx200_6 hx200_7; have HR200_2 := Aside0.mk hi200_2; have HC200_2 := Aside0.mk hl200_2; clear hi200_2 hl200_2; have HR200_5 := Aside0.mk hi200_5; have HC200_5 := Aside0.mk hl200_5; clear hi200_5 hl200_5; have HR200_6 := Aside0.mk hi200_6; have HC200_6 := Aside0.mk hl200_6; clear hi200_6 hl200_6; have HR200_7 := Aside0.mk hi200_7; have HC200_7 := Aside0.mk hl200_7; clear hi200_7 hl200_7; obtain ⟨hx200_0,hx200_1,hx200_2,hx200_3,hx200_4,hx200_5,hx200_6,hx200_7⟩ := fw8 ⟨gb199, 0, none⟩ (.int .i64 ((rd_T46 l0_1 x3_1).f0)) hx200_0 hx200_1 hx200_2 hx200_3 hx200_4 hx200_5 hx200_6 hx200_7; obtain ⟨hx200_0,hx200_1,hx200_2,hx200_3,hx200_4,hx200_5,hx200_6,hx200_7⟩ := fw8 ⟨gb199, 1, none⟩ (.int .i64 ((rd_T46 l0_1 x3_1).f1)) hx200_0 hx200_1 hx200_2 hx200_3 hx200_4 hx200_5 hx200_6 hx200_7; obtain ⟨hx200_0,hx200_1,hx200_2,hx200_3,hx200_4,hx200_5,hx200_6,hx200_7⟩ := fw8 ⟨gb199, 2, none⟩ (.slice A198_2 ((rd_T46 l0_1 x3_1).f2).length c198_2) hx200_0 hx200_1 hx200_2 hx200_3 hx200_4 hx200_5 hx200_6 hx200_7; obtain ⟨hx200_0,hx200_1,hx200_2,hx200_3,hx200_4,hx200_5,hx200_6,hx200_7⟩ := fw8 ⟨gb199, 3, none⟩ (.int .i64 ((rd_T46 l0_1 x3_1).f3)) hx200_0 hx200_1 hx200_2 hx200_3 hx200_4 hx200_5 hx200_6 hx200_7; obtain ⟨hx200_0,hx200_1,hx200_2,hx200_3,hx200_4,hx200_5,hx200_6,hx200_7⟩ := fw8 ⟨gb199, 4, none⟩ (.int .i64 ((rd_T46 l0_1 x3_1).f4)) hx200_0 hx200_1 hx200_2 hx200_3 hx200_4 hx200_5 hx200_6 hx200_7; obtain ⟨hx200_0,hx200_1,hx200_2,hx200_3,hx200_4,hx200_5,hx200_6,hx200_7⟩ := fw8 ⟨gb199, 5, none⟩ (.slice A198_5 ((rd_T46 l0_1 x3_1).f5).length c198_5) hx200_0 hx200_1 hx200_2 hx200_3 hx200_4 hx200_5 hx200_6 hx200_7; obtain ⟨hx200_0,hx200_1,hx200_2,hx200_3,hx200_4,hx200_5,hx200_6,hx200_7⟩ := fw8 ⟨gb199, 6, none⟩ (.slice A198_6 ((rd_T46 l0_1 x3_1).f6).length c198_6) hx200_0 hx200_1 hx200_2 hx200_3 hx200_4 hx200_5 hx200_6 hx200_7; obtain ⟨hx200_0,hx200_1,hx200_2,hx200_3,hx200_4,hx200_5,hx200_6,hx200_7⟩ := fw8 ⟨gb199, 7, none⟩ (.slice A198_7 ((rd_T46 l0_1 x3_1).f7).length c198_7) hx200_0 hx200_1 hx200_2 hx200_3 hx200_4 hx200_5 hx200_6 hx200_7; clear hn200_0; replace p200 := eq_true p200; replace q200 := eq_true q200) | ((with_reducible refine gd 6 rfl ?_); refine bx 6 #[.int .i64 0, .int .i64 0, .slice none 0 0, .int .i64 0, .int .i64 0, .slice none 0 0, .slice none 0 0, .slice none 0 0] 46 ?_; intro gb201 hg w30 hbox hb; have BK201 := Aside0.mk hbox; have GW201 := hz HB hg; have GE201 := hz HB hg; have NB197_201 := nl BK197 hg; have NB201_197 := ng BK197 hg; have NB199_201 := nl BK199 hg; have NB201_199 := ng BK199 hg; replace BK197 := kq BK197 hb; replace BK199 := kp gb199 #[.int .i64 ((rd_T46 l0_1 x3_1).f0), .int .i64 ((rd_T46 l0_1 x3_1).f1), .slice A198_2 ((rd_T46 l0_1 x3_1).f2).length c198_2, .int .i64 ((rd_T46 l0_1 x3_1).f3), .int .i64 ((rd_T46 l0_1 x3_1).f4), .slice A198_5 ((rd_T46 l0_1 x3_1).f5).length c198_5, .slice A198_6 ((rd_T46 l0_1 x3_1).f6).length c198_6, .slice A198_7 ((rd_T46 l0_1 x3_1).f7).length c198_7] 46 hb; replace HB := hs HB hb; clear hb hbox hg; have hnb31 := NB201_197.out; have hnc31 := NB197_201.out; have hnb32 := NB201_199.out; have hnc32 := NB199_201.out; obtain ⟨_,_,_,_,_,_,_,_,_,_,_,_,_,_,_,_⟩ := cf8 BK201; obtain ⟨_,_,_,_,_,_,_,_,_,_,_,_,_,_,_,_⟩ := cf8 BK199; obtain ⟨_,_,_,_⟩ := cf2 BK197) | (go_at_call 38; (with_reducible refine (spec_l2Up.calls k2 _ _ l0_0 ((rd_T46 l0_1 x3_1).f0) ((rd_T46 l0_1 x4_2).f0) true _ ?side1 ?side2 A22.out).mono ?_); (case side1 => exact cb HR0_0.out); (case side2 => exact HC0_0.out); rintro e w' ⟨rfl, ⟨nd, rfl⟩⟩))
                go_ret
                exact fin
               ·rw [if_neg c24] at H
                have c24b0 := beq_eq_false_iff_ne.mpr c24
                have c24b1 := bne_iff_ne.mpr c24
                obtain ⟨t203, A36, H⟩ := ob H
                by_cases c37 : t203 = true
                ·subst c37
                 replace H := it H
                 have H' := Aside0.mk H
                 clear H
                 obtain ⟨_,_,_,_⟩ := cf2 BK197
                 have p198 : 0 ≤ (x3_1 : Int) := od
                 have q198 : x3_1 < (l0_1.length : Int) := od
                 obtain ⟨ad198, A198_2, c198_2, A198_5, c198_5, A198_6, c198_6, A198_7, c198_7, e198, hx198_0, hx198_1, hx198_2, hx198_3, hx198_4, hx198_5, hx198_6, hx198_7, hl198_2, hi198_2, hl198_5, hi198_5, hl198_6, hi198_6, hl198_7, hi198_7⟩ := at_T46 HR0_1.out x3_1 p198 q198
                 cases e198
                 obtain ⟨hx198_0,hx198_1,hx198_2,hx198_3,hx198_4,hx198_5,hx198_6,hx198_7⟩ := hc8 HB hx198_0 hx198_1 hx198_2 hx198_3 hx198_4 hx198_5 hx198_6 hx198_7
                 have HR198_2 := Aside0.mk hi198_2
                 have HC198_2 := Aside0.mk hl198_2
                 clear hi198_2 hl198_2
                 have HR198_5 := Aside0.mk hi198_5
                 have HC198_5 := Aside0.mk hl198_5
                 clear hi198_5 hl198_5
                 have HR198_6 := Aside0.mk hi198_6
                 have HC198_6 := Aside0.mk hl198_6
                 clear hi198_6 hl198_6
                 have HR198_7 := Aside0.mk hi198_7
                 have HC198_7 := Aside0.mk hl198_7
                 clear hi198_7 hl198_7
                 replace p198 := eq_true p198
                 replace q198 := eq_true q198
                 go_wp2_with (first | ((with_reducible refine gd 5 rfl ?_); refine bx 5 #[.int .i64 0, .int .i64 0, .slice none 0 0, .int .i64 0, .int .i64 0, .slice none 0 0, .slice none 0 0, .slice none 0 0] 46 ?_; intro gb199 hg w39 hbox hb; have BK199 := Aside0.mk hbox; have GW199 := hz HB hg; have GE199 := hz HB hg; have NB197_199 := nl BK197 hg; have NB199_197 := ng BK197 hg; replace BK197 := kb BK197 hb; replace HB := hs HB hb; clear hb hbox hg; have hnb40 := NB199_197.out; have hnc40 := NB197_199.out; obtain ⟨_,_,_,_,_,_,_,_,_,_,_,_,_,_,_,_⟩ := cf8 BK199; obtain ⟨_,_,_,_⟩ := cf2 BK197; have p200 : 0 ≤ (x4_2 : Int) := od; have q200 : x4_2 < (l0_1.length : Int) := od; obtain ⟨ad200, A200_2, c200_2, A200_5, c200_5, A200_6, c200_6, A200_7, c200_7, e200, hx200_0, hx200_1, hx200_2, hx200_3, hx200_4, hx200_5, hx200_6, hx200_7, hl200_2, hi200_2, hl200_5, hi200_5, hl200_6, hi200_6, hl200_7, hi200_7⟩ := at_T46 HR0_1.out x4_2 p200 q200; obtain rfl : ad198 = ad200 := (by injection e200); have hn200_0 : ad198.block ≠ gb199 := Nat.ne_of_lt (Nat.lt_of_lt_of_le (by have := World.block_lt_of_cell? _ _ hx200_0; first | rwa [add_block] at this | exact this) GW199.out); obtain ⟨hx200_0,hx200_1,hx200_2,hx200_3,hx200_4,hx200_5,hx200_6,hx200_7⟩ := hc8 HB hx200_0 hx200_1 hx200_2 hx200_3 hx200_4 hx200_5 hx200_6 hx200_7; have HR200_2 := Aside0.mk hi200_2; have HC200_2 := Aside0.mk hl200_2; clear hi200_2 hl200_2; have HR200_5 := Aside0.mk hi200_5; have HC200_5 := Aside0.mk hl200_5; clear hi200_5 hl200_5; have HR200_6 := Aside0.mk hi200_6; have HC200_6 := Aside0.mk hl200_6; clear hi200_6 hl200_6; have HR200_7 := Aside0.mk hi200_7; have HC200_7 := Aside0.mk hl200_7; clear hi200_7 hl200_7; obtain ⟨hx200_0,hx200_1,hx200_2,hx200_3,hx200_4,hx200_5,hx200_6,hx200_7⟩ := fw8 ⟨gb199, 0, none⟩ (.int .i64 ((rd_T46 l0_1 x3_1).f0)) hx200_0 hx200_1 hx200_2 hx200_3 hx200_4 hx200_5 hx200_6 hx200_7; obtain ⟨hx200_0,hx200_1,hx200_2,hx200_3,hx200_4,hx200_5,hx200_6,hx200_7⟩ := fw8 ⟨gb199, 1, none⟩ (.int .i64 ((rd_T46 l0_1 x3_1).f1)) hx200_0 hx200_1 hx200_2 hx200_3 hx200_4 hx200_5 hx200_6 hx200_7; obtain ⟨hx200_0,hx200_1,hx200_2,hx200_3,hx200_4,hx200_5,hx200_6,hx200_7⟩ := fw8 ⟨gb199, 2, none⟩ (.slice A198_2 ((rd_T46 l0_1 x3_1).f2).length c198_2) hx200_0 hx200_1 hx200_2 hx200_3 hx200_4 hx200_5 hx200_6 hx200_7; obtain ⟨hx200_0,hx200_1,hx200_2,hx200_3,hx200_4,hx200_5,hx200_6,hx200_7⟩ := fw8 ⟨gb199, 3, none⟩ (.int .i64 ((rd_T46 l0_1 x3_1).f3)) hx200_0 hx200_1 hx200_2 hx200_3 hx200_4 hx200_5 hx200_6 hx200_7; obtain ⟨hx200_0,hx200_1,hx200_2,hx200_3,hx200_4,hx200_5,hx200_6,hx200_7⟩ := fw8 ⟨gb199, 4, none⟩ (.int .i64 ((rd_T46 l0_1 x3_1).f4)) hx200_0 hx200_1 hx200_2 hx200_3 hx200_4 hx200_5 hx200_6 hx200_7; obtain ⟨hx200_0,hx200_1,hx200_2,hx200_3,hx200_4,hx200_5,hx200_6,hx200_7⟩ := fw8 ⟨gb199, 5, none⟩ (.slice A198_5 ((rd_T46 l0_1 x3_1).f5).length c198_5) hx200_0 hx200_1 hx200_2 hx200_3 hx200_4 hx200_5 hx200_6 hx200_7; obtain ⟨hx200_0,hx200_1,hx200_2,hx200_3,hx200_4,hx200_5,hx200_6,hx200_7⟩ := fw8 ⟨gb199, 6, none⟩ (.slice A198_6 ((rd_T46 l0_1 x3_1).f6).length c198_6) hx200_0 hx200_1 hx200_2 hx200_3 hx200_4 hx200_5 hx200_6 hx200_7; obtain ⟨hx200_0,hx200_1,hx200_2,hx200_3,hx200_4,hx200_5,hx200_6,hx200_7⟩ := fw8 ⟨gb199, 7, none⟩ (.slice A198_7 ((rd_T46 l0_1 x3_1).f7).length c198_7) hx200_0 hx200_1 hx200_2 hx200_3 hx200_4 hx200_5 hx200_6 hx200_7; clear hn200_0; replace p200 := eq_true p200; replace q200 := eq_true q200) | ((with_reducible refine gd 6 rfl ?_); refine bx 6 #[.int .i64 0, .int .i64 0, .slice none 0 0, .int .i64 0, .int .i64 0, .slice none 0 0, .slice none 0 0, .slice none 0 0] 46 ?_; intro gb201 hg w43 hbox hb; have BK201 := Aside0.mk hbox; have GW201 := hz HB hg; have GE201 := hz HB hg; have NB197_201 := nl BK197 hg; have NB201_197 := ng BK197 hg; have NB199_201 := nl BK199 hg; have NB201_199 := ng BK199 hg; replace BK197 := kq BK197 hb; replace BK199 := kp gb199 #[.int .i64 ((rd_T46 l0_1 x3_1).f0), .int .i64 ((rd_T46 l0_1 x3_1).f1), .slice A198_2 ((rd_T46 l0_1 x3_1).f2).length c198_2, .int .i64 ((rd_T46 l0_1 x3_1).f3), .int .i64 ((rd_T46 l0_1 x3_1).f4), .slice A198_5 ((rd_T46 l0_1 x3_1).f5).length c198_5, .slice A198_6 ((rd_T46 l0_1 x3_1).f6).length c198_6, .slice A198_7 ((rd_T46 l0_1 x3_1).f7).length c198_7] 46 hb; replace HB := hs HB hb; clear hb hbox hg; have hnb44 := NB201_197.out; have hnc44 := NB197_201.out; have hnb45 := NB201_199.out; have hnc45 := NB199_201.out; obtain ⟨_,_,_,_,_,_,_,_,_,_,_,_,_,_,_,_⟩ := cf8 BK201; obtain ⟨_,_,_,_,_,_,_,_,_,_,_,_,_,_,_,_⟩ := cf8 BK199; obtain ⟨_,_,_,_⟩ := cf2 BK197) | (go_at_call 38; (with_reducible refine (spec_l2Up.calls k2 _ _ l0_0 ((rd_T46 l0_1 x3_1).f0) ((rd_T46 l0_1 x4_2).f0) true _ ?side1 ?side2 A22.out).mono ?_); (case side1 => exact cb HR0_0.out); (case side2 => exact HC0_0.out); rintro e w' ⟨rfl, ⟨nd, rfl⟩⟩) | (go_at_call 39; (with_reducible refine (spec_l3Same.calls k2 ((rd_T46 l0_1 x3_1).f0) ((rd_T46 l0_1 x3_1).f1) _ _ ((rd_T46 l0_1 x3_1).f2) ((rd_T46 l0_1 x3_1).f3) ((rd_T46 l0_1 x3_1).f4) _ _ ((rd_T46 l0_1 x3_1).f5) _ _ ((rd_T46 l0_1 x3_1).f6) _ _ ((rd_T46 l0_1 x3_1).f7) ((rd_T46 l0_1 x4_2).f0) ((rd_T46 l0_1 x4_2).f1) _ _ ((rd_T46 l0_1 x4_2).f2) ((rd_T46 l0_1 x4_2).f3) ((rd_T46 l0_1 x4_2).f4) _ _ ((rd_T46 l0_1 x4_2).f5) _ _ ((rd_T46 l0_1 x4_2).f6) _ _ ((rd_T46 l0_1 x4_2).f7) true _ ?side1 ?side2 ?side3 ?side4 ?side5 ?side6 ?side7 ?side8 ?side9 ?side10 ?side11 ?side12 ?side13 ?side14 ?side15 ?side16 A36.out).mono ?_); (case side1 => exact cb HR198_2.out); (case side2 => exact HC198_2.out); (case side3 => exact cb HR198_5.out); (case side4 => exact HC198_5.out); (case side5 => exact cb HR198_6.out); (case side6 => exact HC198_6.out); (case side7 => exact cb HR198_7.out); (case side8 => exact HC198_7.out); (case side9 => exact cb HR200_2.out); (case side10 => exact HC200_2.out); (case side11 => exact cb HR200_5.out); (case side12 => exact HC200_5.out); (case side13 => exact cb HR200_6.out); (case side14 => exact HC200_6.out); (case side15 => exact cb HR200_7.out); (case side16 => exact HC200_7.out); rintro e w49 ⟨rfl, hb⟩; replace BK197 := kq BK197 hb; replace BK199 := kq BK199 hb; replace BK201 := kp gb201 #[.int .i64 ((rd_T46 l0_1 x4_2).f0), .int .i64 ((rd_T46 l0_1 x4_2).f1), .slice A200_2 ((rd_T46 l0_1 x4_2).f2).length c200_2, .int .i64 ((rd_T46 l0_1 x4_2).f3), .int .i64 ((rd_T46 l0_1 x4_2).f4), .slice A200_5 ((rd_T46 l0_1 x4_2).f5).length c200_5, .slice A200_6 ((rd_T46 l0_1 x4_2).f6).length c200_6, .slice A200_7 ((rd_T46 l0_1 x4_2).f7).length c200_7] 46 hb; replace HB := hs HB hb; (try clear hb)))
                 go_roundg k2
                 case measure => have := HK1.out; have := HK2.out; omega
                 case rel => exact ⟨(wrap64 (x4_2 + 1)), (by first | rfl | (simp; done) | (simp [*]; done)), H', ⟨by have := HK1.out; have := HK2.out; omega⟩, kk BK197, ⟨bl⟩⟩
                ·replace c37 := Bool.eq_false_iff.mpr c37
                 subst c37
                 replace H := ie H
                 obtain rfl := Option.some.inj H; clear H
                 obtain ⟨_,_,_,_⟩ := cf2 BK197
                 have p198 : 0 ≤ (x3_1 : Int) := od
                 have q198 : x3_1 < (l0_1.length : Int) := od
                 obtain ⟨ad198, A198_2, c198_2, A198_5, c198_5, A198_6, c198_6, A198_7, c198_7, e198, hx198_0, hx198_1, hx198_2, hx198_3, hx198_4, hx198_5, hx198_6, hx198_7, hl198_2, hi198_2, hl198_5, hi198_5, hl198_6, hi198_6, hl198_7, hi198_7⟩ := at_T46 HR0_1.out x3_1 p198 q198
                 cases e198
                 obtain ⟨hx198_0,hx198_1,hx198_2,hx198_3,hx198_4,hx198_5,hx198_6,hx198_7⟩ := hc8 HB hx198_0 hx198_1 hx198_2 hx198_3 hx198_4 hx198_5 hx198_6 hx198_7
                 have HR198_2 := Aside0.mk hi198_2
                 have HC198_2 := Aside0.mk hl198_2
                 clear hi198_2 hl198_2
                 have HR198_5 := Aside0.mk hi198_5
                 have HC198_5 := Aside0.mk hl198_5
                 clear hi198_5 hl198_5
                 have HR198_6 := Aside0.mk hi198_6
                 have HC198_6 := Aside0.mk hl198_6
                 clear hi198_6 hl198_6
                 have HR198_7 := Aside0.mk hi198_7
                 have HC198_7 := Aside0.mk hl198_7
                 clear hi198_7 hl198_7
                 replace p198 := eq_true p198
                 replace q198 := eq_true q198
                 go_wp2_with (first | ((with_reducible refine gd 5 rfl ?_); refine bx 5 #[.int .i64 0, .int .i64 0, .slice none 0 0, .int .i64 0, .int .i64 0, .slice none 0 0, .slice none 0 0, .slice none 0 0] 46 ?_; intro gb199 hg w51 hbox hb; have BK199 := Aside0.mk hbox; have GW199 := hz HB hg; have GE199 := hz HB hg; have NB197_199 := nl BK197 hg; have NB199_197 := ng BK197 hg; replace BK197 := kb BK197 hb; replace HB := hs HB hb; clear hb hbox hg; have hnb52 := NB199_197.out; have hnc52 := NB197_199.out; obtain ⟨_,_,_,_,_,_,_,_,_,_,_,_,_,_,_,_⟩ := cf8 BK199; obtain ⟨_,_,_,_⟩ := cf2 BK197; have p200 : 0 ≤ (x4_2 : Int) := od; have q200 : x4_2 < (l0_1.length : Int) := od; obtain ⟨ad200, A200_2, c200_2, A200_5, c200_5, A200_6, c200_6, A200_7, c200_7, e200, hx200_0, hx200_1, hx200_2, hx200_3, hx200_4, hx200_5, hx200_6, hx200_7, hl200_2, hi200_2, hl200_5, hi200_5, hl200_6, hi200_6, hl200_7, hi200_7⟩ := at_T46 HR0_1.out x4_2 p200 q200; obtain rfl : ad198 = ad200 := (by injection e200); have hn200_0 : ad198.block ≠ gb199 := Nat.ne_of_lt (Nat.lt_of_lt_of_le (by have := World.block_lt_of_cell? _ _ hx200_0; first | rwa [add_block] at this | exact this) GW199.out); obtain ⟨hx200_0,hx200_1,hx200_2,hx200_3,hx200_4,hx200_5,hx200_6,hx200_7⟩ := hc8 HB hx200_0 hx200_1 hx200_2 hx200_3 hx200_4 hx200_5 hx200_6 hx200_7; have HR200_2 := Aside0.mk hi200_2; have HC200_2 := Aside0.mk hl200_2; clear hi200_2 hl200_2; have HR200_5 := Aside0.mk hi200_5; have HC200_5 := Aside0.mk hl200_5; clear hi200_5 hl200_5; have HR200_6 := Aside0.mk hi200_6; have HC200_6 := Aside0.mk hl200_6; clear hi200_6 hl200_6; have HR200_7 := Aside0.mk hi200_7; have HC200_7 := Aside0.mk hl200_7; clear hi200_7 hl200_7; obtain ⟨hx200_0,hx200_1,hx200_2,hx200_3,hx200_4,hx200_5,hx200_6,hx200_7⟩ := fw8 ⟨gb199, 0, none⟩ (.int .i64 ((rd_T46 l0_1 x3_1).f0)) hx200_0 hx200_1 hx200_2 hx200_3 hx200_4 hx200_5 hx200_6 hx200_7; obtain ⟨hx200_0,hx200_1,hx200_2,hx200_3,hx200_4,hx200_5,hx200_6,hx200_7⟩ := fw8 ⟨gb199, 1, none⟩ (.int .i64 ((rd_T46 l0_1 x3_1).f1)) hx200_0 hx200_1 hx200_2 hx200_3 hx200_4 hx200_5 hx200_6 hx200_7; obtain ⟨hx200_0,hx200_1,hx200_2,hx200_3,hx200_4,hx200_5,hx200_6,hx200_7⟩ := fw8 ⟨gb199, 2, none⟩ (.slice A198_2 ((rd_T46 l0_1 x3_1).f2).length c198_2) hx200_0 hx200_1 hx200_2 hx200_3 hx200_4 hx200_5 hx200_6 hx200_7; obtain ⟨hx200_0,hx200_1,hx200_2,hx200_3,hx200_4,hx200_5,hx200_6,hx200_7⟩ := fw8 ⟨gb199, 3, none⟩ (.int .i64 ((rd_T46 l0_1 x3_1).f3)) hx200_0 hx200_1 hx200_2 hx200_3 hx200_4 hx200_5 hx200_6 hx200_7; obtain ⟨hx200_0,hx200_1,hx200_2,hx200_3,hx200_4,hx200_5,hx200_6,hx200_7⟩ := fw8 ⟨gb199, 4, none⟩ (.int .i64 ((rd_T46 l0_1 x3_1).f4)) hx200_0 hx200_1 hx200_2 hx200_3 hx200_4 hx200_5 hx200_6 hx200_7; obtain ⟨hx200_0,hx200_1,hx200_2,hx200_3,hx200_4,hx200_5,hx200_6,hx200_7⟩ := fw8 ⟨gb199, 5, none⟩ (.slice A198_5 ((rd_T46 l0_1 x3_1).f5).length c198_5) hx200_0 hx200_1 hx200_2 hx200_3 hx200_4 hx200_5 hx200_6 hx200_7; obtain ⟨hx200_0,hx200_1,hx200_2,hx200_3,hx200_4,hx200_5,hx200_6,hx200_7⟩ := fw8 ⟨gb199, 6, none⟩ (.slice A198_6 ((rd_T46 l0_1 x3_1).f6).length c198_6) hx200_0 hx200_1 hx200_2 hx200_3 hx200_4 hx200_5 hx200_6 hx200_7; obtain ⟨hx200_0,hx200_1,hx200_2,hx200_3,hx200_4,hx200_5,hx200_6,hx200_7⟩ := fw8 ⟨gb199, 7, none⟩ (.slice A198_7 ((rd_T46 l0_1 x3_1).f7).length c198_7) hx200_0 hx200_1 hx200_2 hx200_3 hx200_4 hx200_5 hx200_6 hx200_7; clear hn200_0; replace p200 := eq_true p200; replace q200 := eq_true q200) | ((with_reducible refine gd 6 rfl ?_); refine bx 6 #[.int .i64 0, .int .i64 0, .slice none 0 0, .int .i64 0, .int .i64 0, .slice none 0 0, .slice none 0 0, .slice none 0 0] 46 ?_; intro gb201 hg w55 hbox hb; have BK201 := Aside0.mk hbox; have GW201 := hz HB hg; have GE201 := hz HB hg; have NB197_201 := nl BK197 hg; have NB201_197 := ng BK197 hg; have NB199_201 := nl BK199 hg; have NB201_199 := ng BK199 hg; replace BK197 := kq BK197 hb; replace BK199 := kp gb199 #[.int .i64 ((rd_T46 l0_1 x3_1).f0), .int .i64 ((rd_T46 l0_1 x3_1).f1), .slice A198_2 ((rd_T46 l0_1 x3_1).f2).length c198_2, .int .i64 ((rd_T46 l0_1 x3_1).f3), .int .i64 ((rd_T46 l0_1 x3_1).f4), .slice A198_5 ((rd_T46 l0_1 x3_1).f5).length c198_5, .slice A198_6 ((rd_T46 l0_1 x3_1).f6).length c198_6, .slice A198_7 ((rd_T46 l0_1 x3_1).f7).length c198_7] 46 hb; replace HB := hs HB hb; clear hb hbox hg; have hnb56 := NB201_197.out; have hnc56 := NB197_201.out; have hnb57 := NB201_199.out; have hnc57 := NB199_201.out; obtain ⟨_,_,_,_,_,_,_,_,_,_,_,_,_,_,_,_⟩ := cf8 BK201; obtain ⟨_,_,_,_,_,_,_,_,_,_,_,_,_,_,_,_⟩ := cf8 BK199; obtain ⟨_,_,_,_⟩ := cf2 BK197) | (go_at_call 38; (with_reducible refine (spec_l2Up.calls k2 _ _ l0_0 ((rd_T46 l0_1 x3_1).f0) ((rd_T46 l0_1 x4_2).f0) true _ ?side1 ?side2 A22.out).mono ?_); (case side1 => exact cb HR0_0.out); (case side2 => exact HC0_0.out); rintro e w' ⟨rfl, ⟨nd, rfl⟩⟩) | (go_at_call 39; (with_reducible refine (spec_l3Same.calls k2 ((rd_T46 l0_1 x3_1).f0) ((rd_T46 l0_1 x3_1).f1) _ _ ((rd_T46 l0_1 x3_1).f2) ((rd_T46 l0_1 x3_1).f3) ((rd_T46 l0_1 x3_1).f4) _ _ ((rd_T46 l0_1 x3_1).f5) _ _ ((rd_T46 l0_1 x3_1).f6) _ _ ((rd_T46 l0_1 x3_1).f7) ((rd_T46 l0_1 x4_2).f0) ((rd_T46 l0_1 x4_2).f1) _ _ ((rd_T46 l0_1 x4_2).f2) ((rd_T46 l0_1 x4_2).f3) ((rd_T46 l0_1 x4_2).f4) _ _ ((rd_T46 l0_1 x4_2).f5) _ _ ((rd_T46 l0_1 x4_2).f6) _ _ ((rd_T46 l0_1 x4_2).f7) false _ ?side1 ?side2 ?side3 ?side4 ?side5 ?side6 ?side7 ?side8 ?side9 ?side10 ?side11 ?side12 ?side13 ?side14 ?side15 ?side16 A36.out).mono ?_); (case side1 => exact cb HR198_2.out); (case side2 => exact HC198_2.out); (case side3 => exact cb HR198_5.out); (case side4 => exact HC198_5.out); (case side5 => exact cb HR198_6.out); (case side6 => exact HC198_6.out); (case side7 => exact cb HR198_7.out); (case side8 => exact HC198_7.out); (case side9 => exact cb HR200_2.out); (case side10 => exact HC200_2.out); (case side11 => exact cb HR200_5.out); (case side12 => exact HC200_5.out); (case side13 => exact cb HR200_6.out); (case side14 => exact HC200_6.out); (case side15 => exact cb HR200_7.out); (case side16 => exact HC200_7.out); rintro e w61 ⟨rfl, hb⟩; replace BK197 := kq BK197 hb; replace BK199 := kq BK199 hb; replace BK201 := kp gb201 #[.int .i64 ((rd_T46 l0_1 x4_2).f0), .int .i64 ((rd_T46 l0_1 x4_2).f1), .slice A200_2 ((rd_T46 l0_1 x4_2).f2).length c200_2, .int .i64 ((rd_T46 l0_1 x4_2).f3), .int .i64 ((rd_T46 l0_1 x4_2).f4), .slice A200_5 ((rd_T46 l0_1 x4_2).f5).length c200_5, .slice A200_6 ((rd_T46 l0_1 x4_2).f6).length c200_6, .slice A200_7 ((rd_T46 l0_1 x4_2).f7).length c200_7] 46 hb; replace HB := hs HB hb; (try clear hb)))
                 go_ret
                 exact fin
              ·replace c23 := Bool.eq_false_iff.mpr c23
               subst c23
               replace H := ie H
               have H' := Aside0.mk H
               clear H
               obtain ⟨_,_,_,_⟩ := cf2 BK197
               have p198 : 0 ≤ (x3_1 : Int) := od
               have q198 : x3_1 < (l0_1.length : Int) := od
               obtain ⟨ad198, A198_2, c198_2, A198_5, c198_5, A198_6, c198_6, A198_7, c198_7, e198, hx198_0, hx198_1, hx198_2, hx198_3, hx198_4, hx198_5, hx198_6, hx198_7, hl198_2, hi198_2, hl198_5, hi198_5, hl198_6, hi198_6, hl198_7, hi198_7⟩ := at_T46 HR0_1.out x3_1 p198 q198
               cases e198
               obtain ⟨hx198_0,hx198_1,hx198_2,hx198_3,hx198_4,hx198_5,hx198_6,hx198_7⟩ := hc8 HB hx198_0 hx198_1 hx198_2 hx198_3 hx198_4 hx198_5 hx198_6 hx198_7
               have HR198_2 := Aside0.mk hi198_2
               have HC198_2 := Aside0.mk hl198_2
               clear hi198_2 hl198_2
               have HR198_5 := Aside0.mk hi198_5
               have HC198_5 := Aside0.mk hl198_5
               clear hi198_5 hl198_5
               have HR198_6 := Aside0.mk hi198_6
               have HC198_6 := Aside0.mk hl198_6
               clear hi198_6 hl198_6
               have HR198_7 := Aside0.mk hi198_7
               have HC198_7 := Aside0.mk hl198_7
               clear hi198_7 hl198_7
               replace p198 := eq_true p198
               replace q198 := eq_true q198
               go_wp2_with (first | ((with_reducible refine gd 5 rfl ?_); refine bx 5 #[.int .i64 0, .int .i64 0, .slice none 0 0, .int .i64 0, .int .i64 0, .slice none 0 0, .slice none 0 0, .slice none 0 0] 46 ?_; intro gb199 hg w63 hbox hb; have BK199 := Aside0.mk hbox; have GW199 := hz HB hg; have GE199 := hz HB hg; have NB197_199 := nl BK197 hg; have NB199_197 := ng BK197 hg; replace BK197 := kb BK197 hb; replace HB := hs HB hb; clear hb hbox hg; have hnb64 := NB199_197.out; have hnc64 := NB197_199.out; obtain ⟨_,_,_,_,_,_,_,_,_,_,_,_,_,_,_,_⟩ := cf8 BK199; obtain ⟨_,_,_,_⟩ := cf2 BK197; have p200 : 0 ≤ (x4_2 : Int) := od; have q200 : x4_2 < (l0_1.length : Int) := od; obtain ⟨ad200, A200_2, c200_2, A200_5, c200_5, A200_6, c200_6, A200_7, c200_7, e200, hx200_0, hx200_1, hx200_2, hx200_3, hx200_4, hx200_5, hx200_6, hx200_7, hl200_2, hi200_2, hl200_5, hi200_5, hl200_6, hi200_6, hl200_7, hi200_7⟩ := at_T46 HR0_1.out x4_2 p200 q200; obtain rfl : ad198 = ad200 := (by injection e200); have hn200_0 : ad198.block ≠ gb199 := Nat.ne_of_lt (Nat.lt_of_lt_of_le (by have := World.block_lt_of_cell? _ _ hx200_0; first | rwa [add_block] at this | exact this) GW199.out); obtain ⟨hx200_0,hx200_1,hx200_2,hx200_3,hx200_4,hx200_5,hx200_6,hx200_7⟩ := hc8 HB hx200_0 hx200_1 hx200_2 hx200_3 hx200_4 hx200_5 hx200_6 hx200_7; have HR200_2 := Aside0.mk hi200_2; have HC200_2 := Aside0.mk hl200_2; clear hi200_2 hl200_2; have HR200_5 := Aside0.mk hi200_5; have HC200_5 := Aside0.mk hl200_5; clear hi200_5 hl200_5; have HR200_6 := Aside0.mk hi200_6; have HC200_6 := Aside0.mk hl200_6; clear hi200_6 hl200_6; have HR200_7 := Aside0.mk hi200_7; have HC200_7 := Aside0.mk hl200_7; clear hi200_7 hl200_7; obtain ⟨hx200_0,hx200_1,hx200_2,hx200_3,hx200_4,hx200_5,hx200_6,hx200_7⟩ := fw8 ⟨gb199, 0, none⟩ (.int .i64 ((rd_T46 l0_1 x3_1).f0)) hx200_0 hx200_1 hx200_2 hx200_3 hx200_4 hx200_5 hx200_6 hx200_7; obtain ⟨hx200_0,hx200_1,hx200_2,hx200_3,hx200_4,hx200_5,hx200_6,hx200_7⟩ := fw8 ⟨gb199, 1, none⟩ (.int .i64 ((rd_T46 l0_1 x3_1).f1)) hx200_0 hx200_1 hx200_2 hx200_3 hx200_4 hx200_5 hx200_6 hx200_7; obtain ⟨hx200_0,hx200_1,hx200_2,hx200_3,hx200_4,hx200_5,hx200_6,hx200_7⟩ := fw8 ⟨gb199, 2, none⟩ (.slice A198_2 ((rd_T46 l0_1 x3_1).f2).length c198_2) hx200_0 hx200_1 hx200_2 hx200_3 hx200_4 hx200_5 hx200_6 hx200_7; obtain ⟨hx200_0,hx200_1,hx200_2,hx200_3,hx200_4,hx200_5,hx200_6,hx200_7⟩ := fw8 ⟨gb199, 3, none⟩ (.int .i64 ((rd_T46 l0_1 x3_1).f3)) hx200_0 hx200_1 hx200_2 hx200_3 hx200_4 hx200_5 hx200_6 hx200_7; obtain ⟨hx200_0,hx200_1,hx200_2,hx200_3,hx200_4,hx200_5,hx200_6,hx200_7⟩ := fw8 ⟨gb199, 4, none⟩ (.int .i64 ((rd_T46 l0_1 x3_1).f4)) hx200_0 hx200_1 hx200_2 hx200_3 hx200_4 hx200_5 hx200_6 hx200_7; obtain ⟨hx200_0,hx200_1,hx200_2,hx200_3,hx200_4,hx200_5,hx200_6,hx200_7⟩ := fw8 ⟨gb199, 5, none⟩ (.slice A198_5 ((rd_T46 l0_1 x3_1).f5).length c198_5) hx200_0 hx200_1 hx200_2 hx200_3 hx200_4 hx200_5 hx200_6 hx200_7; obtain ⟨hx200_0,hx200_1,hx200_2,hx200_3,hx200_4,hx200_5,hx200_6,hx200_7⟩ := fw8 ⟨gb199, 6, none⟩ (.slice A198_6 ((rd_T46 l0_1 x3_1).f6).length c198_6) hx200_0 hx200_1 hx200_2 hx200_3 hx200_4 hx200_5 hx200_6 hx200_7; obtain ⟨hx200_0,hx200_1,hx200_2,hx200_3,hx200_4,hx200_5,hx200_6,hx200_7⟩ := fw8 ⟨gb199, 7, none⟩ (.slice A198_7 ((rd_T46 l0_1 x3_1).f7).length c198_7) hx200_0 hx200_1 hx200_2 hx200_3 hx200_4 hx200_5 hx200_6 hx200_7; clear hn200_0; replace p200 := eq_true p200; replace q200 := eq_true q200) | ((with_reducible refine gd 6 rfl ?_); refine bx 6 #[.int .i64 0, .int .i64 0, .slice none 0 0, .int .i64 0, .int .i64 0, .slice none 0 0, .slice none 0 0, .slice none 0 0] 46 ?_; intro gb201 hg w67 hbox hb; have BK201 := Aside0.mk hbox; have GW201 := hz HB hg; have GE201 := hz HB hg; have NB197_201 := nl BK197 hg; have NB201_197 := ng BK197 hg; have NB199_201 := nl BK199 hg; have NB201_199 := ng BK199 hg; replace BK197 := kq BK197 hb; replace BK199 := kp gb199 #[.int .i64 ((rd_T46 l0_1 x3_1).f0), .int .i64 ((rd_T46 l0_1 x3_1).f1), .slice A198_2 ((rd_T46 l0_1 x3_1).f2).length c198_2, .int .i64 ((rd_T46 l0_1 x3_1).f3), .int .i64 ((rd_T46 l0_1 x3_1).f4), .slice A198_5 ((rd_T46 l0_1 x3_1).f5).length c198_5, .slice A198_6 ((rd_T46 l0_1 x3_1).f6).length c198_6, .slice A198_7 ((rd_T46 l0_1 x3_1).f7).length c198_7] 46 hb; replace HB := hs HB hb; clear hb hbox hg; have hnb68 := NB201_197.out; have hnc68 := NB197_201.out; have hnb69 := NB201_199.out; have hnc69 := NB199_201.out; obtain ⟨_,_,_,_,_,_,_,_,_,_,_,_,_,_,_,_⟩ := cf8 BK201; obtain ⟨_,_,_,_,_,_,_,_,_,_,_,_,_,_,_,_⟩ := cf8 BK199; obtain ⟨_,_,_,_⟩ := cf2 BK197) | (go_at_call 38; (with_reducible refine (spec_l2Up.calls k2 _ _ l0_0 ((rd_T46 l0_1 x3_1).f0) ((rd_T46 l0_1 x4_2).f0) false _ ?side1 ?side2 A22.out).mono ?_); (case side1 => exact cb HR0_0.out); (case side2 => exact HC0_0.out); rintro e w' ⟨rfl, ⟨nd, rfl⟩⟩))
               go_roundg k2
               case measure => have := HK1.out; have := HK2.out; omega
               case rel => exact ⟨(wrap64 (x4_2 + 1)), (by first | rfl | (simp; done) | (simp [*]; done)), H', ⟨by have := HK1.out; have := HK2.out; omega⟩, kf, ⟨bl⟩⟩
             ·rw [if_neg c21] at H
              have c21b0 := beq_eq_false_iff_ne.mpr c21
              have c21b1 := bne_iff_ne.mpr c21
              have H' := Aside0.mk H
              clear H
              obtain ⟨_,_,_,_⟩ := cf2 BK197
              have p198 : 0 ≤ (x3_1 : Int) := od
              have q198 : x3_1 < (l0_1.length : Int) := od
              obtain ⟨ad198, A198_2, c198_2, A198_5, c198_5, A198_6, c198_6, A198_7, c198_7, e198, hx198_0, hx198_1, hx198_2, hx198_3, hx198_4, hx198_5, hx198_6, hx198_7, hl198_2, hi198_2, hl198_5, hi198_5, hl198_6, hi198_6, hl198_7, hi198_7⟩ := at_T46 HR0_1.out x3_1 p198 q198
              cases e198
              obtain ⟨hx198_0,hx198_1,hx198_2,hx198_3,hx198_4,hx198_5,hx198_6,hx198_7⟩ := hc8 HB hx198_0 hx198_1 hx198_2 hx198_3 hx198_4 hx198_5 hx198_6 hx198_7
              have HR198_2 := Aside0.mk hi198_2
              have HC198_2 := Aside0.mk hl198_2
              clear hi198_2 hl198_2
              have HR198_5 := Aside0.mk hi198_5
              have HC198_5 := Aside0.mk hl198_5
              clear hi198_5 hl198_5
              have HR198_6 := Aside0.mk hi198_6
              have HC198_6 := Aside0.mk hl198_6
              clear hi198_6 hl198_6
              have HR198_7 := Aside0.mk hi198_7
              have HC198_7 := Aside0.mk hl198_7
              clear hi198_7 hl198_7
              replace p198 := eq_true p198
              replace q198 := eq_true q198
              go_wp2_with (first | ((with_reducible refine gd 5 rfl ?_); refine bx 5 #[.int .i64 0, .int .i64 0, .slice none 0 0, .int .i64 0, .int .i64 0, .slice none 0 0, .slice none 0 0, .slice none 0 0] 46 ?_; intro gb199 hg w74 hbox hb; have BK199 := Aside0.mk hbox; have GW199 := hz HB hg; have GE199 := hz HB hg; have NB197_199 := nl BK197 hg; have NB199_197 := ng BK197 hg; replace BK197 := kb BK197 hb; replace HB := hs HB hb; clear hb hbox hg; have hnb75 := NB199_197.out; have hnc75 := NB197_199.out; obtain ⟨_,_,_,_,_,_,_,_,_,_,_,_,_,_,_,_⟩ := cf8 BK199; obtain ⟨_,_,_,_⟩ := cf2 BK197; have p200 : 0 ≤ (x4_2 : Int) := od; have q200 : x4_2 < (l0_1.length : Int) := od; obtain ⟨ad200, A200_2, c200_2, A200_5, c200_5, A200_6, c200_6, A200_7, c200_7, e200, hx200_0, hx200_1, hx200_2, hx200_3, hx200_4, hx200_5, hx200_6, hx200_7, hl200_2, hi200_2, hl200_5, hi200_5, hl200_6, hi200_6, hl200_7, hi200_7⟩ := at_T46 HR0_1.out x4_2 p200 q200; obtain rfl : ad198 = ad200 := (by injection e200); have hn200_0 : ad198.block ≠ gb199 := Nat.ne_of_lt (Nat.lt_of_lt_of_le (by have := World.block_lt_of_cell? _ _ hx200_0; first | rwa [add_block] at this | exact this) GW199.out); obtain ⟨hx200_0,hx200_1,hx200_2,hx200_3,hx200_4,hx200_5,hx200_6,hx200_7⟩ := hc8 HB hx200_0 hx200_1 hx200_2 hx200_3 hx200_4 hx200_5 hx200_6 hx200_7; have HR200_2 := Aside0.mk hi200_2; have HC200_2 := Aside0.mk hl200_2; clear hi200_2 hl200_2; have HR200_5 := Aside0.mk hi200_5; have HC200_5 := Aside0.mk hl200_5; clear hi200_5 hl200_5; have HR200_6 := Aside0.mk hi200_6; have HC200_6 := Aside0.mk hl200_6; clear hi200_6 hl200_6; have HR200_7 := Aside0.mk hi200_7; have HC200_7 := Aside0.mk hl200_7; clear hi200_7 hl200_7; obtain ⟨hx200_0,hx200_1,hx200_2,hx200_3,hx200_4,hx200_5,hx200_6,hx200_7⟩ := fw8 ⟨gb199, 0, none⟩ (.int .i64 ((rd_T46 l0_1 x3_1).f0)) hx200_0 hx200_1 hx200_2 hx200_3 hx200_4 hx200_5 hx200_6 hx200_7; obtain ⟨hx200_0,hx200_1,hx200_2,hx200_3,hx200_4,hx200_5,hx200_6,hx200_7⟩ := fw8 ⟨gb199, 1, none⟩ (.int .i64 ((rd_T46 l0_1 x3_1).f1)) hx200_0 hx200_1 hx200_2 hx200_3 hx200_4 hx200_5 hx200_6 hx200_7; obtain ⟨hx200_0,hx200_1,hx200_2,hx200_3,hx200_4,hx200_5,hx200_6,hx200_7⟩ := fw8 ⟨gb199, 2, none⟩ (.slice A198_2 ((rd_T46 l0_1 x3_1).f2).length c198_2) hx200_0 hx200_1 hx200_2 hx200_3 hx200_4 hx200_5 hx200_6 hx200_7; obtain ⟨hx200_0,hx200_1,hx200_2,hx200_3,hx200_4,hx200_5,hx200_6,hx200_7⟩ := fw8 ⟨gb199, 3, none⟩ (.int .i64 ((rd_T46 l0_1 x3_1).f3)) hx200_0 hx200_1 hx200_2 hx200_3 hx200_4 hx200_5 hx200_6 hx200_7; obtain ⟨hx200_0,hx200_1,hx200_2,hx200_3,hx200_4,hx200_5,hx200_6,hx200_7⟩ := fw8 ⟨gb199, 4, none⟩ (.int .i64 ((rd_T46 l0_1 x3_1).f4)) hx200_0 hx200_1 hx200_2 hx200_3 hx200_4 hx200_5 hx200_6 hx200_7; obtain ⟨hx200_0,hx200_1,hx200_2,hx200_3,hx200_4,hx200_5,hx200_6,hx200_7⟩ := fw8 ⟨gb199, 5, none⟩ (.slice A198_5 ((rd_T46 l0_1 x3_1).f5).length c198_5) hx200_0 hx200_1 hx200_2 hx200_3 hx200_4 hx200_5 hx200_6 hx200_7; obtain ⟨hx200_0,hx200_1,hx200_2,hx200_3,hx200_4,hx200_5,hx200_6,hx200_7⟩ := fw8 ⟨gb199, 6, none⟩ (.slice A198_6 ((rd_T46 l0_1 x3_1).f6).length c198_6) hx200_0 hx200_1 hx200_2 hx200_3 hx200_4 hx200_5 hx200_6 hx200_7; obtain ⟨hx200_0,hx200_1,hx200_2,hx200_3,hx200_4,hx200_5,hx200_6,hx200_7⟩ := fw8 ⟨gb199, 7, none⟩ (.slice A198_7 ((rd_T46 l0_1 x3_1).f7).length c198_7) hx200_0 hx200_1 hx200_2 hx200_3 hx200_4 hx200_5 hx200_6 hx200_7; clear hn200_0; replace p200 := eq_true p200; replace q200 := eq_true q200) | ((with_reducible refine gd 6 rfl ?_); refine bx 6 #[.int .i64 0, .int .i64 0, .slice none 0 0, .int .i64 0, .int .i64 0, .slice none 0 0, .slice none 0 0, .slice none 0 0] 46 ?_; intro gb201 hg w78 hbox hb; have BK201 := Aside0.mk hbox; have GW201 := hz HB hg; have GE201 := hz HB hg; have NB197_201 := nl BK197 hg; have NB201_197 := ng BK197 hg; have NB199_201 := nl BK199 hg; have NB201_199 := ng BK199 hg; replace BK197 := kq BK197 hb; replace BK199 := kp gb199 #[.int .i64 ((rd_T46 l0_1 x3_1).f0), .int .i64 ((rd_T46 l0_1 x3_1).f1), .slice A198_2 ((rd_T46 l0_1 x3_1).f2).length c198_2, .int .i64 ((rd_T46 l0_1 x3_1).f3), .int .i64 ((rd_T46 l0_1 x3_1).f4), .slice A198_5 ((rd_T46 l0_1 x3_1).f5).length c198_5, .slice A198_6 ((rd_T46 l0_1 x3_1).f6).length c198_6, .slice A198_7 ((rd_T46 l0_1 x3_1).f7).length c198_7] 46 hb; replace HB := hs HB hb; clear hb hbox hg; have hnb79 := NB201_197.out; have hnc79 := NB197_201.out; have hnb80 := NB201_199.out; have hnc80 := NB199_201.out; obtain ⟨_,_,_,_,_,_,_,_,_,_,_,_,_,_,_,_⟩ := cf8 BK201; obtain ⟨_,_,_,_,_,_,_,_,_,_,_,_,_,_,_,_⟩ := cf8 BK199))
              go_roundg k2
              case measure => have := HK1.out; have := HK2.out; omega
              case rel => exact ⟨(wrap64 (x4_2 + 1)), (by first | rfl | (simp; done) | (simp [*]; done)), H', ⟨by have := HK1.out; have := HK2.out; omega⟩, kf, ⟨bl⟩⟩
            ·rw [if_neg c20] at H
             have c20b0 : decide (0 ≤ ((rd_T46 l0_1 x4_2).f0)) = false := decide_eq_false c20
             clear c20
             have H' := Aside0.mk H
             clear H
             obtain ⟨_,_,_,_⟩ := cf2 BK197
             have p198 : 0 ≤ (x3_1 : Int) := od
             have q198 : x3_1 < (l0_1.length : Int) := od
             obtain ⟨ad198, A198_2, c198_2, A198_5, c198_5, A198_6, c198_6, A198_7, c198_7, e198, hx198_0, hx198_1, hx198_2, hx198_3, hx198_4, hx198_5, hx198_6, hx198_7, hl198_2, hi198_2, hl198_5, hi198_5, hl198_6, hi198_6, hl198_7, hi198_7⟩ := at_T46 HR0_1.out x3_1 p198 q198
             cases e198
             obtain ⟨hx198_0,hx198_1,hx198_2,hx198_3,hx198_4,hx198_5,hx198_6,hx198_7⟩ := hc8 HB hx198_0 hx198_1 hx198_2 hx198_3 hx198_4 hx198_5 hx198_6 hx198_7
             have HR198_2 := Aside0.mk hi198_2
             have HC198_2 := Aside0.mk hl198_2
             clear hi198_2 hl198_2
             have HR198_5 := Aside0.mk hi198_5
             have HC198_5 := Aside0.mk hl198_5
             clear hi198_5 hl198_5
             have HR198_6 := Aside0.mk hi198_6
             have HC198_6 := Aside0.mk hl198_6
             clear hi198_6 hl198_6
             have HR198_7 := Aside0.mk hi198_7
             have HC198_7 := Aside0.mk hl198_7
             clear hi198_7 hl198_7
             replace p198 := eq_true p198
             replace q198 := eq_true q198
             go_wp2_with (first | ((with_reducible refine gd 5 rfl ?_); refine bx 5 #[.int .i64 0, .int .i64 0, .slice none 0 0, .int .i64 0, .int .i64 0, .slice none 0 0, .slice none 0 0, .slice none 0 0] 46 ?_; intro gb199 hg w84 hbox hb; have BK199 := Aside0.mk hbox; have GW199 := hz HB hg; have GE199 := hz HB hg; have NB197_199 := nl BK197 hg; have NB199_197 := ng BK197 hg; replace BK197 := kb BK197 hb; replace HB := hs HB hb; clear hb hbox hg; have hnb85 := NB199_197.out; have hnc85 := NB197_199.out; obtain ⟨_,_,_,_,_,_,_,_,_,_,_,_,_,_,_,_⟩ := cf8 BK199; obtain ⟨_,_,_,_⟩ := cf2 BK197; have p200 : 0 ≤ (x4_2 : Int) := od; have q200 : x4_2 < (l0_1.length : Int) := od; obtain ⟨ad200, A200_2, c200_2, A200_5, c200_5, A200_6, c200_6, A200_7, c200_7, e200, hx200_0, hx200_1, hx200_2, hx200_3, hx200_4, hx200_5, hx200_6, hx200_7, hl200_2, hi200_2, hl200_5, hi200_5, hl200_6, hi200_6, hl200_7, hi200_7⟩ := at_T46 HR0_1.out x4_2 p200 q200; obtain rfl : ad198 = ad200 := (by injection e200); have hn200_0 : ad198.block ≠ gb199 := Nat.ne_of_lt (Nat.lt_of_lt_of_le (by have := World.block_lt_of_cell? _ _ hx200_0; first | rwa [add_block] at this | exact this) GW199.out); obtain ⟨hx200_0,hx200_1,hx200_2,hx200_3,hx200_4,hx200_5,hx200_6,hx200_7⟩ := hc8 HB hx200_0 hx200_1 hx200_2 hx200_3 hx200_4 hx200_5 hx200_6 hx200_7; have HR200_2 := Aside0.mk hi200_2; have HC200_2 := Aside0.mk hl200_2; clear hi200_2 hl200_2; have HR200_5 := Aside0.mk hi200_5; have HC200_5 := Aside0.mk hl200_5; clear hi200_5 hl200_5; have HR200_6 := Aside0.mk hi200_6; have HC200_6 := Aside0.mk hl200_6; clear hi200_6 hl200_6; have HR200_7 := Aside0.mk hi200_7; have HC200_7 := Aside0.mk hl200_7; clear hi200_7 hl200_7; obtain ⟨hx200_0,hx200_1,hx200_2,hx200_3,hx200_4,hx200_5,hx200_6,hx200_7⟩ := fw8 ⟨gb199, 0, none⟩ (.int .i64 ((rd_T46 l0_1 x3_1).f0)) hx200_0 hx200_1 hx200_2 hx200_3 hx200_4 hx200_5 hx200_6 hx200_7; obtain ⟨hx200_0,hx200_1,hx200_2,hx200_3,hx200_4,hx200_5,hx200_6,hx200_7⟩ := fw8 ⟨gb199, 1, none⟩ (.int .i64 ((rd_T46 l0_1 x3_1).f1)) hx200_0 hx200_1 hx200_2 hx200_3 hx200_4 hx200_5 hx200_6 hx200_7; obtain ⟨hx200_0,hx200_1,hx200_2,hx200_3,hx200_4,hx200_5,hx200_6,hx200_7⟩ := fw8 ⟨gb199, 2, none⟩ (.slice A198_2 ((rd_T46 l0_1 x3_1).f2).length c198_2) hx200_0 hx200_1 hx200_2 hx200_3 hx200_4 hx200_5 hx200_6 hx200_7; obtain ⟨hx200_0,hx200_1,hx200_2,hx200_3,hx200_4,hx200_5,hx200_6,hx200_7⟩ := fw8 ⟨gb199, 3, none⟩ (.int .i64 ((rd_T46 l0_1 x3_1).f3)) hx200_0 hx200_1 hx200_2 hx200_3 hx200_4 hx200_5 hx200_6 hx200_7; obtain ⟨hx200_0,hx200_1,hx200_2,hx200_3,hx200_4,hx200_5,hx200_6,hx200_7⟩ := fw8 ⟨gb199, 4, none⟩ (.int .i64 ((rd_T46 l0_1 x3_1).f4)) hx200_0 hx200_1 hx200_2 hx200_3 hx200_4 hx200_5 hx200_6 hx200_7; obtain ⟨hx200_0,hx200_1,hx200_2,hx200_3,hx200_4,hx200_5,hx200_6,hx200_7⟩ := fw8 ⟨gb199, 5, none⟩ (.slice A198_5 ((rd_T46 l0_1 x3_1).f5).length c198_5) hx200_0 hx200_1 hx200_2 hx200_3 hx200_4 hx200_5 hx200_6 hx200_7; obtain ⟨hx200_0,hx200_1,hx200_2,hx200_3,hx200_4,hx200_5,hx200_6,hx200_7⟩ := fw8 ⟨gb199, 6, none⟩ (.slice A198_6 ((rd_T46 l0_1 x3_1).f6).length c198_6) hx200_0 hx200_1 hx200_2 hx200_3 hx200_4 hx200_5 hx200_6 hx200_7; obtain ⟨hx200_0,hx200_1,hx200_2,hx200_3,hx200_4,hx200_5,hx200_6,hx200_7⟩ := fw8 ⟨gb199, 7, none⟩ (.slice A198_7 ((rd_T46 l0_1 x3_1).f7).length c198_7) hx200_0 hx200_1 hx200_2 hx200_3 hx200_4 hx200_5 hx200_6 hx200_7; clear hn200_0; replace p200 := eq_true p200; replace q200 := eq_true q200) | ((with_reducible refine gd 6 rfl ?_); refine bx 6 #[.int .i64 0, .int .i64 0, .slice none 0 0, .int .i64 0, .int .i64 0, .slice none 0 0, .slice none 0 0, .slice none 0 0] 46 ?_; intro gb201 hg w88 hbox hb; have BK201 := Aside0.mk hbox; have GW201 := hz HB hg; have GE201 := hz HB hg; have NB197_201 := nl BK197 hg; have NB201_197 := ng BK197 hg; have NB199_201 := nl BK199 hg; have NB201_199 := ng BK199 hg; replace BK197 := kq BK197 hb; replace BK199 := kp gb199 #[.int .i64 ((rd_T46 l0_1 x3_1).f0), .int .i64 ((rd_T46 l0_1 x3_1).f1), .slice A198_2 ((rd_T46 l0_1 x3_1).f2).length c198_2, .int .i64 ((rd_T46 l0_1 x3_1).f3), .int .i64 ((rd_T46 l0_1 x3_1).f4), .slice A198_5 ((rd_T46 l0_1 x3_1).f5).length c198_5, .slice A198_6 ((rd_T46 l0_1 x3_1).f6).length c198_6, .slice A198_7 ((rd_T46 l0_1 x3_1).f7).length c198_7] 46 hb; replace HB := hs HB hb; clear hb hbox hg; have hnb89 := NB201_197.out; have hnc89 := NB197_201.out; have hnb90 := NB201_199.out; have hnc90 := NB199_201.out; obtain ⟨_,_,_,_,_,_,_,_,_,_,_,_,_,_,_,_⟩ := cf8 BK201; obtain ⟨_,_,_,_,_,_,_,_,_,_,_,_,_,_,_,_⟩ := cf8 BK199))
             go_roundg k2
             case measure => have := HK1.out; have := HK2.out; omega
             case rel => exact ⟨(wrap64 (x4_2 + 1)), (by first | rfl | (simp; done) | (simp [*]; done)), H', ⟨by have := HK1.out; have := HK2.out; omega⟩, kf, ⟨bl⟩⟩
           ·rw [if_neg c19] at H
            have c19b0 : decide (0 ≤ ((rd_T46 l0_1 x3_1).f0)) = false := decide_eq_false c19
            clear c19
            have H' := Aside0.mk H
            clear H
            obtain ⟨_,_,_,_⟩ := cf2 BK197
            have p198 : 0 ≤ (x3_1 : Int) := od
            have q198 : x3_1 < (l0_1.length : Int) := od
            obtain ⟨ad198, A198_2, c198_2, A198_5, c198_5, A198_6, c198_6, A198_7, c198_7, e198, hx198_0, hx198_1, hx198_2, hx198_3, hx198_4, hx198_5, hx198_6, hx198_7, hl198_2, hi198_2, hl198_5, hi198_5, hl198_6, hi198_6, hl198_7, hi198_7⟩ := at_T46 HR0_1.out x3_1 p198 q198
            cases e198
            obtain ⟨hx198_0,hx198_1,hx198_2,hx198_3,hx198_4,hx198_5,hx198_6,hx198_7⟩ := hc8 HB hx198_0 hx198_1 hx198_2 hx198_3 hx198_4 hx198_5 hx198_6 hx198_7
            have HR198_2 := Aside0.mk hi198_2
            have HC198_2 := Aside0.mk hl198_2
            clear hi198_2 hl198_2
            have HR198_5 := Aside0.mk hi198_5
            have HC198_5 := Aside0.mk hl198_5
            clear hi198_5 hl198_5
            have HR198_6 := Aside0.mk hi198_6
            have HC198_6 := Aside0.mk hl198_6
            clear hi198_6 hl198_6
            have HR198_7 := Aside0.mk hi198_7
            have HC198_7 := Aside0.mk hl198_7
            clear hi198_7 hl198_7
            replace p198 := eq_true p198
            replace q198 := eq_true q198
            go_wp2_with (first | ((with_reducible refine gd 5 rfl ?_); refine bx 5 #[.int .i64 0, .int .i64 0, .slice none 0 0, .int .i64 0, .int .i64 0, .slice none 0 0, .slice none 0 0, .slice none 0 0] 46 ?_; intro gb199 hg w94 hbox hb; have BK199 := Aside0.mk hbox; have GW199 := hz HB hg; have GE199 := hz HB hg; have NB197_199 := nl BK197 hg; have NB199_197 := ng BK197 hg; replace BK197 := kb BK197 hb; replace HB := hs HB hb; clear hb hbox hg; have hnb95 := NB199_197.out; have hnc95 := NB197_199.out; obtain ⟨_,_,_,_,_,_,_,_,_,_,_,_,_,_,_,_⟩ := cf8 BK199; obtain ⟨_,_,_,_⟩ := cf2 BK197; have p200 : 0 ≤ (x4_2 : Int) := od; have q200 : x4_2 < (l0_1.length : Int) := od; obtain ⟨ad200, A200_2, c200_2, A200_5, c200_5, A200_6, c200_6, A200_7, c200_7, e200, hx200_0, hx200_1, hx200_2, hx200_3, hx200_4, hx200_5, hx200_6, hx200_7, hl200_2, hi200_2, hl200_5, hi200_5, hl200_6, hi200_6, hl200_7, hi200_7⟩ := at_T46 HR0_1.out x4_2 p200 q200; obtain rfl : ad198 = ad200 := (by injection e200); have hn200_0 : ad198.block ≠ gb199 := Nat.ne_of_lt (Nat.lt_of_lt_of_le (by have := World.block_lt_of_cell? _ _ hx200_0; first | rwa [add_block] at this | exact this) GW199.out); obtain ⟨hx200_0,hx200_1,hx200_2,hx200_3,hx200_4,hx200_5,hx200_6,hx200_7⟩ := hc8 HB hx200_0 hx200_1 hx200_2 hx200_3 hx200_4 hx200_5 hx200_6 hx200_7; have HR200_2 := Aside0.mk hi200_2; have HC200_2 := Aside0.mk hl200_2; clear hi200_2 hl200_2; have HR200_5 := Aside0.mk hi200_5; have HC200_5 := Aside0.mk hl200_5; clear hi200_5 hl200_5; have HR200_6 := Aside0.mk hi200_6; have HC200_6 := Aside0.mk hl200_6; clear hi200_6 hl200_6; have HR200_7 := Aside0.mk hi200_7; have HC200_7 := Aside0.mk hl200_7; clear hi200_7 hl200_7; obtain ⟨hx200_0,hx200_1,hx200_2,hx200_3,hx200_4,hx200_5,hx200_6,hx200_7⟩ := fw8 ⟨gb199, 0, none⟩ (.int .i64 ((rd_T46 l0_1 x3_1).f0)) hx200_0 hx200_1 hx200_2 hx200_3 hx200_4 hx200_5 hx200_6 hx200_7; obtain ⟨hx200_0,hx200_1,hx200_2,hx200_3,hx200_4,hx200_5,hx200_6,hx200_7⟩ := fw8 ⟨gb199, 1, none⟩ (.int .i64 ((rd_T46 l0_1 x3_1).f1)) hx200_0 hx200_1 hx200_2 hx200_3 hx200_4 hx200_5 hx200_6 hx200_7; obtain ⟨hx200_0,hx200_1,hx200_2,hx200_3,hx200_4,hx200_5,hx200_6,hx200_7⟩ := fw8 ⟨gb199, 2, none⟩ (.slice A198_2 ((rd_T46 l0_1 x3_1).f2).length c198_2) hx200_0 hx200_1 hx200_2 hx200_3 hx200_4 hx200_5 hx200_6 hx200_7; obtain ⟨hx200_0,hx200_1,hx200_2,hx200_3,hx200_4,hx200_5,hx200_6,hx200_7⟩ := fw8 ⟨gb199, 3, none⟩ (.int .i64 ((rd_T46 l0_1 x3_1).f3)) hx200_0 hx200_1 hx200_2 hx200_3 hx200_4 hx200_5 hx200_6 hx200_7; obtain ⟨hx200_0,hx200_1,hx200_2,hx200_3,hx200_4,hx200_5,hx200_6,hx200_7⟩ := fw8 ⟨gb199, 4, none⟩ (.int .i64 ((rd_T46 l0_1 x3_1).f4)) hx200_0 hx200_1 hx200_2 hx200_3 hx200_4 hx200_5 hx200_6 hx200_7; obtain ⟨hx200_0,hx200_1,hx200_2,hx200_3,hx200_4,hx200_5,hx200_6,hx200_7⟩ := fw8 ⟨gb199, 5, none⟩ (.slice A198_5 ((rd_T46 l0_1 x3_1).f5).length c198_5) hx200_0 hx200_1 hx200_2 hx200_3 hx200_4 hx200_5 hx200_6 hx200_7; obtain ⟨hx200_0,hx200_1,hx200_2,hx200_3,hx200_4,hx200_5,hx200_6,hx200_7⟩ := fw8 ⟨gb199, 6, none⟩ (.slice A198_6 ((rd_T46 l0_1 x3_1).f6).length c198_6) hx200_0 hx200_1 hx200_2 hx200_3 hx200_4 hx200_5 hx200_6 hx200_7; obtain ⟨hx200_0,hx200_1,hx200_2,hx200_3,hx200_4,hx200_5,hx200_6,hx200_7⟩ := fw8 ⟨gb199, 7, none⟩ (.slice A198_7 ((rd_T46 l0_1 x3_1).f7).length c198_7) hx200_0 hx200_1 hx200_2 hx200_3 hx200_4 hx200_5 hx200_6 hx200_7; clear hn200_0; replace p200 := eq_true p200; replace q200 := eq_true q200) | ((with_reducible refine gd 6 rfl ?_); refine bx 6 #[.int .i64 0, .int .i64 0, .slice none 0 0, .int .i64 0, .int .i64 0, .slice none 0 0, .slice none 0 0, .slice none 0 0] 46 ?_; intro gb201 hg w98 hbox hb; have BK201 := Aside0.mk hbox; have GW201 := hz HB hg; have GE201 := hz HB hg; have NB197_201 := nl BK197 hg; have NB201_197 := ng BK197 hg; have NB199_201 := nl BK199 hg; have NB201_199 := ng BK199 hg; replace BK197 := kq BK197 hb; replace BK199 := kp gb199 #[.int .i64 ((rd_T46 l0_1 x3_1).f0), .int .i64 ((rd_T46 l0_1 x3_1).f1), .slice A198_2 ((rd_T46 l0_1 x3_1).f2).length c198_2, .int .i64 ((rd_T46 l0_1 x3_1).f3), .int .i64 ((rd_T46 l0_1 x3_1).f4), .slice A198_5 ((rd_T46 l0_1 x3_1).f5).length c198_5, .slice A198_6 ((rd_T46 l0_1 x3_1).f6).length c198_6, .slice A198_7 ((rd_T46 l0_1 x3_1).f7).length c198_7] 46 hb; replace HB := hs HB hb; clear hb hbox hg; have hnb99 := NB201_197.out; have hnc99 := NB197_201.out; have hnb100 := NB201_199.out; have hnc100 := NB199_201.out; obtain ⟨_,_,_,_,_,_,_,_,_,_,_,_,_,_,_,_⟩ := cf8 BK201; obtain ⟨_,_,_,_,_,_,_,_,_,_,_,_,_,_,_,_⟩ := cf8 BK199))
            go_roundg k2
            case measure => have := HK1.out; have := HK2.out; omega
            case rel => exact ⟨(wrap64 (x4_2 + 1)), (by first | rfl | (simp; done) | (simp [*]; done)), H', ⟨by have := HK1.out; have := HK2.out; omega⟩, kf, ⟨bl⟩⟩
         ·rw [if_neg c8] at H
          exact absurd H (by simp)
        ·rw [if_neg c7] at H
         exact absurd H (by simp)
       ·rw [if_neg c6] at H
        exact absurd H (by simp)
      ·rw [if_neg c5] at H
       have c5b0 : decide (x4_2 < (l0_1.length : Int)) = false := decide_eq_false c5
       clear c5
       have H' := Aside0.mk H
       clear H
       obtain ⟨_,_,_,_⟩ := cf2 BK197
       go_wp2
       go_roundg k2
       case measure => have := HK1.out; have := HK2.out; omega
       case rel => exact ⟨(wrap64 (x3_1 + 1)), (by first | rfl | (simp; done) | (simp [*]; done)), H', ⟨by have := HK1.out; have := HK2.out; omega⟩, kk BK197, ⟨bl⟩⟩
   ·rw [if_neg c3] at H
    have c3b0 : decide (x3_1 < (l0_1.length : Int)) = false := decide_eq_false c3
    clear c3
    obtain rfl := Option.some.inj H; clear H
    obtain ⟨_,_,_,_⟩ := cf2 BK197
    go_wp2
    go_ret
    exact fin
end Go.Proofs.Ytedodaifpekahaa.P

end
