/- A part of the claim FnExactUnitFind: texts of this session and texts that its program printed out of the translation, joined. -/
import Derived.Test.YtedodaifpekahaaCFnExactUnitFind21
import Derived.Test.YtedodaifpekahaaCFnExactUnitFind27
import Derived.Test.YtedodaifpekahaaCFnExactUnitFind0
import Derived.Test.YtedodaifpekahaaCFnExactUnitFind1
import Derived.Test.YtedodaifpekahaaCFnExactUnitFind2
import Derived.Test.YtedodaifpekahaaCFnExactUnitFind3
import Derived.Test.YtedodaifpekahaaCFnExactUnitFind4
import Derived.Test.YtedodaifpekahaaCFnExactUnitFind5
import Derived.Test.YtedodaifpekahaaCFnExactUnitFind6
import Derived.Test.YtedodaifpekahaaCFnExactUnitFind7
import Derived.Test.YtedodaifpekahaaCFnExactUnitFind8
import Derived.Test.YtedodaifpekahaaCFnExactUnitFind9
import Derived.Test.YtedodaifpekahaaCFnExactUnitFind10
import Derived.Test.YtedodaifpekahaaCFnExactUnitFind11
import Derived.Test.YtedodaifpekahaaCFnExactUnitFind12
import Derived.Test.YtedodaifpekahaaCFnExactUnitFind13
import Derived.Test.YtedodaifpekahaaCFnExactUnitFind14
import Derived.Test.YtedodaifpekahaaCFnExactUnitFind15
import Derived.Test.YtedodaifpekahaaCFnExactUnitFind16
import Derived.Test.YtedodaifpekahaaCFnExactUnitFind17
import Derived.Test.YtedodaifpekahaaCFnExactUnitFind18
import Derived.Test.YtedodaifpekahaaCFnExactUnitFind19
import Derived.Test.YtedodaifpekahaaCFnExactUnitFind20
import Derived.Test.YtedodaifpekahaaCFnExactUnitFind22
import Derived.Test.YtedodaifpekahaaCFnExactUnitFind23
import Derived.Test.YtedodaifpekahaaCFnExactUnitFind24
import Derived.Test.YtedodaifpekahaaCFnExactUnitFind25
import Derived.Test.YtedodaifpekahaaCFnExactUnitFind26
section

namespace Go.Proofs.Ytedodaifpekahaa.P
open Go.RowKit Go.Proofs.YtedodaifpekahaaW.PrintWords Go.Proofs.YtedodaifpekahaaW.PrintLast Go.Proofs.YtedodaifpekahaaW.PrintMore
attribute [local go_sem] max2_int min2_int max_two min_two max_three min_three max_four min_four
set_option linter.unusedVariables false
set_option linter.unusedSimpArgs false
set_option maxHeartbeats 8000000 in
set_option maxRecDepth 100000 in
theorem impl_given.calls (a0_0 : Int) (a0_1 : Int) (A0_2 : Option Addr) (c0_2 : Nat) (l0_2 : List Int) (a0_3 : Int) (a0_4 : Int) (A0_5 : Option Addr) (c0_5 : Nat) (l0_5 : List (S67)) (A0_6 : Option Addr) (c0_6 : Nat) (l0_6 : List (S70)) (A0_7 : Option Addr) (c0_7 : Nat) (l0_7 : List (S73)) (r : List Int) (w : World) (hr0_2 : Kd.C (Kd.int .i64) w A0_2 l0_2.length l0_2) (hc0_2 : l0_2.length ≤ c0_2) (hr0_5 : Kd.C k67 w A0_5 l0_5.length l0_5) (hc0_5 : l0_5.length ≤ c0_5) (hr0_6 : Kd.C k70 w A0_6 l0_6.length l0_6) (hc0_6 : l0_6.length ≤ c0_6) (hr0_7 : Kd.C k73 w A0_7 l0_7.length l0_7) (hc0_7 : l0_7.length ≤ c0_7) (h : impl_given.f a0_0 a0_1 l0_2 a0_3 a0_4 l0_5 l0_6 l0_7 = some r) :
  Calls Try.prog 43 #[.agg #[.int .i64 a0_0, .int .i64 a0_1, .slice A0_2 l0_2.length c0_2, .int .i64 a0_3, .int .i64 a0_4, .slice A0_5 l0_5.length c0_5, .slice A0_6 l0_6.length c0_6, .slice A0_7 l0_7.length c0_7]] w fun e w' => ∃ v0_ : Value, e = .returned (v0_) ∧ Kd.R (Kd.int .i64) 3 w' w.heap.size (fun _ => True) v0_ r ∧ Below w.heap.size w w' := by
 have hu46 := Try.underlying46
 have HR0_2 := Aside0.mk hr0_2
 have HC0_2 := Aside0.mk hc0_2
 clear hr0_2 hc0_2
 have HR0_5 := Aside0.mk hr0_5
 have HC0_5 := Aside0.mk hc0_5
 clear hr0_5 hc0_5
 have HR0_6 := Aside0.mk hr0_6
 have HC0_6 := Aside0.mk hc0_6
 clear hr0_6 hc0_6
 have HR0_7 := Aside0.mk hr0_7
 have HC0_7 := Aside0.mk hc0_7
 clear hr0_7 hc0_7
 have HB := Aside0.mk (Below.refl w.heap.size w)
 have H : (if a0_0 ≥ 0 then (if ([] : List Int).length < 17592186044416 then ((some (([] : List Int) ++ [wrap64 (8 + a0_0)] : List Int)).bind fun y332 => (if y332.length + l0_2.length < 17592186044416 then (some (y332 ++ l0_2)) else (none))) else (none)) else (if ([] : List Int).length + l0_2.length < 17592186044416 then (some (([] : List Int) ++ l0_2)) else (none))) = some r := h
 clear h
 by_cases c2 : a0_0 ≥ 0
 ·rw [if_pos c2] at H
  have c2b0 : decide (0 ≤ a0_0) = true := decide_eq_true c2
  clear c2
  by_cases c3 : ([] : List Int).length < 17592186044416
  ·rw [if_pos c3] at H
   have LMc3 := Aside0.mk c3
   clear c3
   obtain ⟨y332, hy332⟩ : ∃ y_ : List Int, y_ = (([] : List Int) ++ [wrap64 (8 + a0_0)]) := ⟨_, rfl⟩
   replace H : (if y332.length + l0_2.length < 17592186044416 then (some (y332 ++ l0_2)) else (none)) = some r := by first | (rw [hy332]; with_reducible exact H) | (have H2_ := (Option.bind_some _ _).symm.trans H; rw [hy332]; with_reducible exact H2_) | (have H2_ := (Option.bind_some _ _).symm.trans H; with_reducible exact H2_) | with_reducible exact H | (rw [hy332]; exact H) | exact H
   have Ny332 := Aside0.mk hy332
   clear hy332
   by_cases c4 : y332.length + l0_2.length < 17592186044416
   ·rw [if_pos c4] at H
    have LMc4 := Aside0.mk c4
    clear c4
    obtain ⟨y335, hy335⟩ : ∃ y_ : List Int, y_ = (y332 ++ l0_2) := ⟨_, rfl⟩
    replace H : (some y335) = some r := by first | (rw [hy335]; with_reducible exact H) | (have H2_ := (Option.bind_some _ _).symm.trans H; rw [hy335]; with_reducible exact H2_) | (have H2_ := (Option.bind_some _ _).symm.trans H; with_reducible exact H2_) | with_reducible exact H | (rw [hy335]; exact H) | exact H
    have Ny335 := Aside0.mk hy335
    clear hy335
    obtain rfl := Option.some.inj H; clear H
    go_enter Try.func43, Try.ntmps43
    go_wp2_with (first | ((with_reducible refine gd 1 rfl ?_); refine bx 1 #[.int .i64 a0_0, .int .i64 a0_1, .slice A0_2 l0_2.length c0_2, .int .i64 a0_3, .int .i64 a0_4, .slice A0_5 l0_5.length c0_5, .slice A0_6 l0_6.length c0_6, .slice A0_7 l0_7.length c0_7] 46 ?_; intro gb331 hg w5 hbox hb; have BK331 := Aside0.mk hbox; have GW331 := hz HB hg; have GE331 := hz HB hg; replace HB := hs HB hb; clear hb hbox hg; obtain ⟨_,_,_,_,_,_,_,_,_,_,_,_,_,_,_,_⟩ := cf8 BK331) | ((with_reducible refine gate_builtin (b := .append) (xs := #[.tmp 7, .tmp 11]) rfl ?_); at_builtin; refine Kd.R_append (Kd.int .i64) (w0 := w) w.heap.size rfl (.tmp 7) (.tmp 11) 41 3 (.int .i64 0) 8 rfl Try.underlying41 info3 rfl (by decide) (by omega) (.slice none 0 0) ([] : List Int) (wrap64 (8 + a0_0)) [.int .i64 (wrap64 (8 + a0_0))] (fun _ => True) (fun _ => False) rfl rfl ?aP (fun _ hk => hk.elim) ?aF ?aO ?aB ?aS ?aL ?_; (case aP => exact rfl); (case aB => exact bl); (case aF => exact (fun _ _ => trivial)); (case aO => exact ((Kd.R_nil _ _ _ _ (fun _ => True)))); (case aS => exact (below_size bl)); (case aL => have := LMc3.out; omega); intro v333 w7 ho hb hg hat; rw [← Ny332.out] at ho; have HO334 := Aside0.mk (ho); replace BK331 := Aside0.mk (blk_grown (g := gb331) (o := .cells #[.int .i64 a0_0, .int .i64 a0_1, .slice A0_2 l0_2.length c0_2, .int .i64 a0_3, .int .i64 a0_4, .slice A0_5 l0_5.length c0_5, .slice A0_6 l0_6.length c0_6, .slice A0_7 l0_7.length c0_7] 46 (0, 0)) (by (with_reducible repeat (first | refine blk_drewN ?_ _ | refine blk_drew ?_ | refine blk_alloc ?_ _)); exact BK331.out) hg (by simp [Value.ownBlock])); replace HB := Aside0.mk (hb); clear ho hb hg hat; obtain ⟨_,_,_,_,_,_,_,_,_,_,_,_,_,_,_,_⟩ := cf8 BK331) | ((with_reducible refine gate_builtin (b := .append) (xs := #[.tmp 13, .tmp 15]) rfl ?_); at_builtin; refine Kd.R_append_rows (Kd.int .i64) (w0 := w) w.heap.size rfl (.tmp 13) (.tmp 15) 41 3 (.int .i64 0) 8 rfl Try.underlying41 info3 rfl (by decide) (by omega) v333 y332 l0_2 _ _ _ (fun _ => True) (fun _ => False) rfl rfl ?aO ?aR (fun _ _ h => h) (fun _ h => h.elim) ?aF ?aB ?aS ?aL ?_; (case aR => repeat (first | exact (Kd.C_below HR0_2.out HB.out) | (with_reducible refine Kd.C_alloc ?_ _) | (with_reducible refine Kd.C_drewN ?_ _) | (with_reducible refine Kd.C_drew ?_))); (case aB => exact bl); (case aF => exact (fun _ _ => trivial)); (case aO => exact (by (with_reducible repeat (first | apply Kd.R_alloc | apply Kd.R_drewN | apply Kd.R_drew)); exact HO334.out)); (case aS => exact (below_size bl)); (case aL => have := LMc4.out; omega); intro v336 w9 ho hb hg hat; rw [← Ny335.out] at ho; have n0_ := Aside0.mk (blk_grown (g := gb331) (o := .cells #[.int .i64 a0_0, .int .i64 a0_1, .slice A0_2 l0_2.length c0_2, .int .i64 a0_3, .int .i64 a0_4, .slice A0_5 l0_5.length c0_5, .slice A0_6 l0_6.length c0_6, .slice A0_7 l0_7.length c0_7] 46 (0, 0)) (by (with_reducible repeat (first | refine blk_drewN ?_ _ | refine blk_drew ?_ | refine blk_alloc ?_ _)); exact BK331.out) hg (Kd.R_ne HO334.out BK331.out (by decide))); have n1_ := Aside0.mk (hb); have n2_ := Aside0.mk (ho); clear BK331; clear HB; clear HO334; have BK331 := n0_; have HB := n1_; have HO337 := n2_; clear n0_ n1_ n2_; clear ho hb hg hat))
    go_ret
    exact ⟨_, by first | rfl | (simp [errW_none, errW_some] <;> rfl) | (simp [*, errW_none, errW_some] <;> rfl), by (with_reducible repeat (first | apply Kd.R_alloc | apply Kd.R_drewN | apply Kd.R_drew)); exact HO337.out, bl⟩
   ·rw [if_neg c4] at H
    exact absurd H (by simp)
  ·rw [if_neg c3] at H
   exact absurd H (by simp)
 ·rw [if_neg c2] at H
  have c2b0 : decide (0 ≤ a0_0) = false := decide_eq_false c2
  clear c2
  by_cases c10 : ([] : List Int).length + l0_2.length < 17592186044416
  ·rw [if_pos c10] at H
   have LMc10 := Aside0.mk c10
   clear c10
   obtain ⟨y338, hy338⟩ : ∃ y_ : List Int, y_ = (([] : List Int) ++ l0_2) := ⟨_, rfl⟩
   replace H : (some y338) = some r := by first | (rw [hy338]; with_reducible exact H) | (have H2_ := (Option.bind_some _ _).symm.trans H; rw [hy338]; with_reducible exact H2_) | (have H2_ := (Option.bind_some _ _).symm.trans H; with_reducible exact H2_) | with_reducible exact H | (rw [hy338]; exact H) | exact H
   have Ny338 := Aside0.mk hy338
   clear hy338
   obtain rfl := Option.some.inj H; clear H
   go_enter Try.func43, Try.ntmps43
   go_wp2_with (first | ((with_reducible refine gd 1 rfl ?_); refine bx 1 #[.int .i64 a0_0, .int .i64 a0_1, .slice A0_2 l0_2.length c0_2, .int .i64 a0_3, .int .i64 a0_4, .slice A0_5 l0_5.length c0_5, .slice A0_6 l0_6.length c0_6, .slice A0_7 l0_7.length c0_7] 46 ?_; intro gb331 hg w11 hbox hb; have BK331 := Aside0.mk hbox; have GW331 := hz HB hg; have GE331 := hz HB hg; replace HB := hs HB hb; clear hb hbox hg; obtain ⟨_,_,_,_,_,_,_,_,_,_,_,_,_,_,_,_⟩ := cf8 BK331) | ((with_reducible refine gate_builtin (b := .append) (xs := #[.tmp 13, .tmp 15]) rfl ?_); at_builtin; refine Kd.R_append_rows (Kd.int .i64) (w0 := w) w.heap.size rfl (.tmp 13) (.tmp 15) 41 3 (.int .i64 0) 8 rfl Try.underlying41 info3 rfl (by decide) (by omega) (.slice none 0 0) ([] : List Int) l0_2 _ _ _ (fun _ => True) (fun _ => False) rfl rfl ?aO ?aR (fun _ _ h => h) (fun _ h => h.elim) ?aF ?aB ?aS ?aL ?_; (case aR => repeat (first | exact (Kd.C_below HR0_2.out HB.out) | (with_reducible refine Kd.C_alloc ?_ _) | (with_reducible refine Kd.C_drewN ?_ _) | (with_reducible refine Kd.C_drew ?_))); (case aB => exact bl); (case aF => exact (fun _ _ => trivial)); (case aO => exact ((Kd.R_nil _ _ _ _ (fun _ => True)))); (case aS => exact (below_size bl)); (case aL => have := LMc10.out; omega); intro v339 w13 ho hb hg hat; rw [← Ny338.out] at ho; have HO340 := Aside0.mk (ho); replace BK331 := Aside0.mk (blk_grown (g := gb331) (o := .cells #[.int .i64 a0_0, .int .i64 a0_1, .slice A0_2 l0_2.length c0_2, .int .i64 a0_3, .int .i64 a0_4, .slice A0_5 l0_5.length c0_5, .slice A0_6 l0_6.length c0_6, .slice A0_7 l0_7.length c0_7] 46 (0, 0)) (by (with_reducible repeat (first | refine blk_drewN ?_ _ | refine blk_drew ?_ | refine blk_alloc ?_ _)); exact BK331.out) hg (by simp [Value.ownBlock])); replace HB := Aside0.mk (hb); clear ho hb hg hat))
   go_ret
   exact ⟨_, by first | rfl | (simp [errW_none, errW_some] <;> rfl) | (simp [*, errW_none, errW_some] <;> rfl), by (with_reducible repeat (first | apply Kd.R_alloc | apply Kd.R_drewN | apply Kd.R_drew)); exact HO340.out, bl⟩
  ·rw [if_neg c10] at H
   exact absurd H (by simp)
end Go.Proofs.Ytedodaifpekahaa.P

end
section

namespace Go.Proofs.Ytedodaifpekahaa.P
open Go.RowKit Go.Proofs.YtedodaifpekahaaW.PrintWords Go.Proofs.YtedodaifpekahaaW.PrintLast Go.Proofs.YtedodaifpekahaaW.PrintMore
attribute [local go_sem] max2_int min2_int max_two min_two max_three min_three max_four min_four
set_option linter.unusedVariables false
set_option linter.unusedSimpArgs false
def impl_headOk.T14 : Bool × List (List Nat × List Nat) := (true, [([], []), ([0], [0]), ([1], [1]), ([2], [2]), ([3], [3]), ([4, 3], [3, 4]), ([3], [3]), ([6, 3, 3], [3, 6]), ([7, 3], [3, 7]), ([5, 8, 3], [3, 5, 8]), ([3, 9], [3, 9]), ([10, 7, 0, 1, 2, 3, 4, 5, 6, 7, 8, 9, 10], [10])])
def impl_headOk.B14 : List Nat := [0, 1, 3, 7, 15, 31, 15, 79, 207, 511, 1023, 2047]
theorem impl_headOk.tab14 : rtab .any (opsOf Try.f22 14) = impl_headOk.T14 := by kernel_rfl
theorem impl_headOk.bits14 : waitsOk impl_headOk.T14.2 impl_headOk.B14 = true := by kernel_rfl
set_option maxHeartbeats 8000000 in
set_option maxRecDepth 100000 in
theorem impl_headOk.calls (k : Nat) (A0_0 : Option Addr) (c0_0 : Nat) (l0_0 : List (S76)) (A0_1 : Option Addr) (c0_1 : Nat) (l0_1 : List (S46)) (a1_0 : Int) (a1_1 : Int) (A1_2 : Option Addr) (c1_2 : Nat) (l1_2 : List Int) (a1_3 : Int) (a1_4 : Int) (A1_5 : Option Addr) (c1_5 : Nat) (l1_5 : List (S67)) (A1_6 : Option Addr) (c1_6 : Nat) (l1_6 : List (S70)) (A1_7 : Option Addr) (c1_7 : Nat) (l1_7 : List (S73)) (r : Bool) (w : World) (hr0_0 : Kd.C k76 w A0_0 l0_0.length l0_0) (hc0_0 : l0_0.length ≤ c0_0) (hr0_1 : Kd.C k46 w A0_1 l0_1.length l0_1) (hc0_1 : l0_1.length ≤ c0_1) (hr1_2 : Kd.C (Kd.int .i64) w A1_2 l1_2.length l1_2) (hc1_2 : l1_2.length ≤ c1_2) (hr1_5 : Kd.C k67 w A1_5 l1_5.length l1_5) (hc1_5 : l1_5.length ≤ c1_5) (hr1_6 : Kd.C k70 w A1_6 l1_6.length l1_6) (hc1_6 : l1_6.length ≤ c1_6) (hr1_7 : Kd.C k73 w A1_7 l1_7.length l1_7) (hc1_7 : l1_7.length ≤ c1_7) (h : impl_headOk.f k l0_0 l0_1 a1_0 a1_1 l1_2 a1_3 a1_4 l1_5 l1_6 l1_7 = some r) :
  Calls Try.prog 22 #[.agg #[.slice A0_0 l0_0.length c0_0, .slice A0_1 l0_1.length c0_1], .agg #[.int .i64 a1_0, .int .i64 a1_1, .slice A1_2 l1_2.length c1_2, .int .i64 a1_3, .int .i64 a1_4, .slice A1_5 l1_5.length c1_5, .slice A1_6 l1_6.length c1_6, .slice A1_7 l1_7.length c1_7]] w fun e w' => e = .returned (.bool r) ∧ Below w.heap.size w w' := by
 have hu31 := Try.underlying31
 have hu46 := Try.underlying46
 have HR0_0 := Aside0.mk hr0_0
 have HC0_0 := Aside0.mk hc0_0
 clear hr0_0 hc0_0
 have HR0_1 := Aside0.mk hr0_1
 have HC0_1 := Aside0.mk hc0_1
 clear hr0_1 hc0_1
 have HR1_2 := Aside0.mk hr1_2
 have HC1_2 := Aside0.mk hc1_2
 clear hr1_2 hc1_2
 have HR1_5 := Aside0.mk hr1_5
 have HC1_5 := Aside0.mk hc1_5
 clear hr1_5 hc1_5
 have HR1_6 := Aside0.mk hr1_6
 have HC1_6 := Aside0.mk hc1_6
 clear hr1_6 hc1_6
 have HR1_7 := Aside0.mk hr1_7
 have HC1_7 := Aside0.mk hc1_7
 clear hr1_7 hc1_7
 have HB := Aside0.mk (Below.refl w.heap.size w)
 have H : (if a1_0 = (-1) then (if a1_1 = 0 then (impl_headOk.j0 k l0_0 l0_1 a1_0 a1_1 l1_2 a1_3 a1_4 l1_5 l1_6 l1_7) else (some false)) else (if a1_0 = 0 then (some false) else ((impl_isClass.f l0_0 a1_0).bind fun t343 => (if t343 = true then (if a1_1 < 0 then (some false) else (if a1_1 ≥ 3 then (some false) else (impl_headOk.j0 k l0_0 l0_1 a1_0 a1_1 l1_2 a1_3 a1_4 l1_5 l1_6 l1_7))) else (some false))))) = some r := h
 clear h
 have HC3 := Aside0.mk H
 clear H
 go_enter Try.func22, Try.ntmps22
 go_upto_if 9 with (first | ((with_reducible refine gd 2 rfl ?_); (try (refine gate_guard (by rfl) ?_; dsimp only)); refine bx 2 #[.slice A0_0 l0_0.length c0_0, .slice A0_1 l0_1.length c0_1] 31 ?_; intro gb341 hg w4 hbox hb; have BK341 := Aside0.mk hbox; have GW341 := hz HB hg; have GE341 := hz HB hg; replace HB := hs HB hb; clear hb hbox hg) | ((with_reducible refine gd 3 rfl ?_); (try (refine gate_guard (by rfl) ?_; dsimp only)); refine bx 3 #[.int .i64 a1_0, .int .i64 a1_1, .slice A1_2 l1_2.length c1_2, .int .i64 a1_3, .int .i64 a1_4, .slice A1_5 l1_5.length c1_5, .slice A1_6 l1_6.length c1_6, .slice A1_7 l1_7.length c1_7] 46 ?_; intro gb342 hg w5 hbox hb; have BK342 := Aside0.mk hbox; have GW342 := hz HB hg; have GE342 := hz HB hg; have NB341_342 := nl BK341 hg; have NB342_341 := ng BK341 hg; replace BK341 := kb BK341 hb; replace HB := hs HB hb; clear hb hbox hg; have hnb6 := NB342_341.out; have hnc6 := NB341_342.out; obtain ⟨_,_,_,_,_,_,_,_,_,_,_,_,_,_,_,_⟩ := cf8 BK342))
 (try simp only [Act.put, List.setIfInBounds_toArray, List.set_cons_zero, List.set_cons_succ])
 go_cut [] (fun wc => ∃ (kq : Nat), Aside0 (impl_headOk.j0 kq l0_0 l0_1 a1_0 a1_1 l1_2 a1_3 a1_4 l1_5 l1_6 l1_7 = some r) ∧ Aside0 (kq ≤ k) ∧ Aside0 (wc.heap[gb341]? = some (.cells #[(.slice A0_0 l0_0.length c0_0), (.slice A0_1 l0_1.length c0_1)] 31 (0, 0))) ∧ Aside0 (wc.heap[gb342]? = some (.cells #[.int .i64 a1_0, .int .i64 a1_1, (.slice A1_2 l1_2.length c1_2), .int .i64 a1_3, .int .i64 a1_4, (.slice A1_5 l1_5.length c1_5), (.slice A1_6 l1_6.length c1_6), (.slice A1_7 l1_7.length c1_7)] 46 (0, 0))) ∧ Aside0 (Below w.heap.size w wc))
 case first =>
  have H := HC3.out
  clear HC3
  by_cases c8 : a1_0 = (-1)
  ·rw [if_pos c8] at H
   have c8b0 := beq_iff_eq.mpr c8
   have c8b1 := bne_eq_false_iff_eq.mpr c8
   clear c8
   (first | rw [c8b0] | (simp only [i64_w, i32_w]; rw [c8b0]) | skip)
   by_cases c9 : a1_1 = 0
   ·rw [if_pos c9] at H
    have c9b0 := beq_iff_eq.mpr c9
    have c9b1 := bne_eq_false_iff_eq.mpr c9
    clear c9
    have H' := Aside0.mk H
    clear H
    have hnb10 := NB342_341.out
    have hnc10 := NB341_342.out
    obtain ⟨_,_,_,_,_,_,_,_,_,_,_,_,_,_,_,_⟩ := cf8 BK342
    go_wp2
    go_meet
    case rel => exact ⟨_, H', ⟨by first | omega | exact Nat.le_refl _⟩, kk BK341, kk BK342, ⟨bl⟩⟩
   ·rw [if_neg c9] at H
    have c9b0 := beq_eq_false_iff_ne.mpr c9
    have c9b1 := bne_iff_ne.mpr c9
    obtain rfl := Option.some.inj H; clear H
    have hnb12 := NB342_341.out
    have hnc12 := NB341_342.out
    obtain ⟨_,_,_,_,_,_,_,_,_,_,_,_,_,_,_,_⟩ := cf8 BK342
    go_wp2
    go_ret
    exact fin
  ·rw [if_neg c8] at H
   have c8b0 := beq_eq_false_iff_ne.mpr c8
   have c8b1 := bne_iff_ne.mpr c8
   (first | rw [c8b0] | (simp only [i64_w, i32_w]; rw [c8b0]) | skip)
   by_cases c14 : a1_0 = 0
   ·rw [if_pos c14] at H
    have c14b0 := beq_iff_eq.mpr c14
    have c14b1 := bne_eq_false_iff_eq.mpr c14
    clear c14
    obtain rfl := Option.some.inj H; clear H
    have hnb15 := NB342_341.out
    have hnc15 := NB341_342.out
    obtain ⟨_,_,_,_,_,_,_,_,_,_,_,_,_,_,_,_⟩ := cf8 BK342
    go_wp2
    go_ret
    exact fin
   ·rw [if_neg c14] at H
    have c14b0 := beq_eq_false_iff_ne.mpr c14
    have c14b1 := bne_iff_ne.mpr c14
    obtain ⟨t343, A17, H⟩ := ob H
    by_cases c18 : t343 = true
    ·subst c18
     replace H := it H
     by_cases c19 : a1_1 < 0
     ·rw [if_pos c19] at H
      have c19b0 : decide (a1_1 < 0) = true := decide_eq_true c19
      clear c19
      obtain rfl := Option.some.inj H; clear H
      have hnb20 := NB342_341.out
      have hnc20 := NB341_342.out
      obtain ⟨_,_,_,_,_,_,_,_,_,_,_,_,_,_,_,_⟩ := cf8 BK342
      obtain ⟨_,_,_,_⟩ := cf2 BK341
      go_wp2_with (first | (go_at_call 29; (with_reducible refine (impl_isClass.calls _ _ l0_0 a1_0 true _ ?side1 ?side2 A17.out).mono ?_); (case side1 => exact cb HR0_0.out); (case side2 => exact HC0_0.out); rintro e w' ⟨rfl, ⟨nd, rfl⟩⟩))
      go_ret
      exact fin
     ·rw [if_neg c19] at H
      have c19b0 : decide (a1_1 < 0) = false := decide_eq_false c19
      clear c19
      by_cases c23 : a1_1 ≥ 3
      ·rw [if_pos c23] at H
       have c23b0 : decide (3 ≤ a1_1) = true := decide_eq_true c23
       clear c23
       obtain rfl := Option.some.inj H; clear H
       have hnb24 := NB342_341.out
       have hnc24 := NB341_342.out
       obtain ⟨_,_,_,_,_,_,_,_,_,_,_,_,_,_,_,_⟩ := cf8 BK342
       obtain ⟨_,_,_,_⟩ := cf2 BK341
       go_wp2_with (first | (go_at_call 29; (with_reducible refine (impl_isClass.calls _ _ l0_0 a1_0 true _ ?side1 ?side2 A17.out).mono ?_); (case side1 => exact cb HR0_0.out); (case side2 => exact HC0_0.out); rintro e w' ⟨rfl, ⟨nd, rfl⟩⟩))
       go_ret
       exact fin
      ·rw [if_neg c23] at H
       have c23b0 : decide (3 ≤ a1_1) = false := decide_eq_false c23
       clear c23
       have H' := Aside0.mk H
       clear H
       have hnb27 := NB342_341.out
       have hnc27 := NB341_342.out
       obtain ⟨_,_,_,_,_,_,_,_,_,_,_,_,_,_,_,_⟩ := cf8 BK342
       obtain ⟨_,_,_,_⟩ := cf2 BK341
       go_wp2_with (first | (go_at_call 29; (with_reducible refine (impl_isClass.calls _ _ l0_0 a1_0 true _ ?side1 ?side2 A17.out).mono ?_); (case side1 => exact cb HR0_0.out); (case side2 => exact HC0_0.out); rintro e w' ⟨rfl, ⟨nd, rfl⟩⟩))
       go_meet
       case rel => exact ⟨_, H', ⟨by first | omega | exact Nat.le_refl _⟩, kk BK341, kk BK342, ⟨bl⟩⟩
    ·replace c18 := Bool.eq_false_iff.mpr c18
     subst c18
     replace H := ie H
     obtain rfl := Option.some.inj H; clear H
     have hnb30 := NB342_341.out
     have hnc30 := NB341_342.out
     obtain ⟨_,_,_,_,_,_,_,_,_,_,_,_,_,_,_,_⟩ := cf8 BK342
     obtain ⟨_,_,_,_⟩ := cf2 BK341
     go_wp2_with (first | (go_at_call 29; (with_reducible refine (impl_isClass.calls _ _ l0_0 a1_0 false _ ?side1 ?side2 A17.out).mono ?_); (case side1 => exact cb HR0_0.out); (case side2 => exact HC0_0.out); rintro e w' ⟨rfl, ⟨nd, rfl⟩⟩))
     go_ret
     exact fin
 case rest =>
  clear HC3
  obtain ⟨kq, HA, HJ2, BK341, BK342, HB⟩ := hcut
  cases kq with
  | zero => exact absurd HA.out (by simp [impl_headOk.j0])
  | succ kj2 =>
   have H := HA.out
   clear HA
   simp only [impl_headOk.j0] at H
   have HC33 := Aside0.mk H
   clear H
   go_upto_region 6 with (fail)
   go_cut [46] (fun v46 wc => ∃ (kq : Nat) (x46_32 : Bool), v46 = .bool x46_32 ∧ Aside0 (impl_headOk.j1 kq x46_32 l0_0 l0_1 a1_0 a1_1 l1_2 a1_3 a1_4 l1_5 l1_6 l1_7 = some r) ∧ Aside0 (kq ≤ kj2) ∧ Aside0 (wc.heap[gb341]? = some (.cells #[(.slice A0_0 l0_0.length c0_0), (.slice A0_1 l0_1.length c0_1)] 31 (0, 0))) ∧ Aside0 (wc.heap[gb342]? = some (.cells #[.int .i64 a1_0, .int .i64 a1_1, (.slice A1_2 l1_2.length c1_2), .int .i64 a1_3, .int .i64 a1_4, (.slice A1_5 l1_5.length c1_5), (.slice A1_6 l1_6.length c1_6), (.slice A1_7 l1_7.length c1_7)] 46 (0, 0))) ∧ Aside0 (Below w.heap.size w wc))
   case first =>
    have H := HC33.out
    clear HC33
    by_cases c34 : (l1_2.length : Int) > 2
    ·rw [if_pos c34] at H
     have c34b0 : decide (2 < (l1_2.length : Int)) = true := decide_eq_true c34
     have c34b1 : decide (2 < l1_2.length) = true := decide_eq_true (by omega)
     clear c34
     (first | rw [c34b0] | (simp only [i64_w, i32_w]; rw [c34b0]) | skip)
     have H' := Aside0.mk H
     clear H
     have hnb35 := NB342_341.out
     have hnc35 := NB341_342.out
     obtain ⟨_,_,_,_,_,_,_,_,_,_,_,_,_,_,_,_⟩ := cf8 BK342
     go_wp2
     go_meet
     case rel => exact ⟨_, (true), (by first | rfl | (simp; done) | (simp [*]; done)), H', ⟨by have := HJ2.out; first | omega | exact Nat.le_refl _⟩, kk BK341, kk BK342, ⟨bl⟩⟩
    ·rw [if_neg c34] at H
     have c34b0 : decide (2 < (l1_2.length : Int)) = false := decide_eq_false c34
     have c34b1 : decide (2 < l1_2.length) = false := decide_eq_false (by omega)
     clear c34
     (first | rw [c34b0] | (simp only [i64_w, i32_w]; rw [c34b0]) | skip)
     obtain ⟨t344, A37, H⟩ := ob H
     have H' := Aside0.mk H
     clear H
     have hnb38 := NB342_341.out
     have hnc38 := NB341_342.out
     obtain ⟨_,_,_,_,_,_,_,_,_,_,_,_,_,_,_,_⟩ := cf8 BK342
     obtain ⟨_,_,_,_⟩ := cf2 BK341
     go_wp2_with (first | (go_at_call 42; (with_reducible refine (impl_fieldType.calls (l0_0.length : Int) a1_3 t344 _ A37.out).mono ?_); rintro e w' ⟨rfl, ⟨nd, rfl⟩⟩))
     go_meet
     case rel => exact ⟨_, (!t344), (by first | rfl | (simp; done) | (simp [*]; done)), H', ⟨by have := HJ2.out; first | omega | exact Nat.le_refl _⟩, kk BK341, kk BK342, ⟨bl⟩⟩
   case rest =>
    clear HC33
    obtain ⟨kq, x46_32, rfl, HA, HJ32, BK341, BK342, HB⟩ := hcut
    cases kq with
    | zero => exact absurd HA.out (by simp [impl_headOk.j1])
    | succ kj32 =>
     have H := HA.out
     clear HA
     simp only [impl_headOk.j1] at H
     by_cases c41 : x46_32 = true
     ·subst c41
      replace H := it H
      obtain rfl := Option.some.inj H; clear H
      go_wp2
      go_ret
      exact fin
     ·replace c41 := Bool.eq_false_iff.mpr c41
      subst c41
      replace H := ie H
      have H' := Aside0.mk H
      clear H
      have hnb42 := NB342_341.out
      have hnc42 := NB341_342.out
      obtain ⟨_,_,_,_,_,_,_,_,_,_,_,_,_,_,_,_⟩ := cf8 BK342
      go_wp2
      go_loopg [50] kj32 (fun kq v50 w' => ∃ (x50_3 : Int), v50 = .int .i64 x50_3 ∧ Aside0 (impl_headOk.l0 kq l1_2 (l1_2.length : Int) x50_3 l0_0 l0_1 a1_0 a1_1 l1_2 a1_3 a1_4 l1_5 l1_6 l1_7 = some r) ∧ Aside0 (kq ≤ kj32) ∧ Aside0 (w'.heap[gb341]? = some (.cells #[(.slice A0_0 l0_0.length c0_0), (.slice A0_1 l0_1.length c0_1)] 31 (0, 0))) ∧ Aside0 (w'.heap[gb342]? = some (.cells #[.int .i64 a1_0, .int .i64 a1_1, (.slice A1_2 l1_2.length c1_2), .int .i64 a1_3, .int .i64 a1_4, (.slice A1_5 l1_5.length c1_5), (.slice A1_6 l1_6.length c1_6), (.slice A1_7 l1_7.length c1_7)] 46 (0, 0))) ∧ Aside0 (Below w.heap.size w w'))
      case atStart => exact ⟨(0), (by first | rfl | (simp; done) | (simp [*]; done)), H', ⟨Nat.le_refl _⟩, kk BK341, kk BK342, ⟨bl⟩⟩
      case round =>
       clear H'
       obtain ⟨x50_3, rfl, HA, HK3, BK341, BK342, HB⟩ := hrel
       cases gk with
       | zero => exact absurd HA.out (by simp [impl_headOk.l0])
       | succ k3 =>
        have H := HA.out
        clear HA
        simp only [impl_headOk.l0] at H
        by_cases c44 : x50_3 < (l1_2.length : Int)
        ·rw [if_pos c44] at H
         have c44b0 : decide (x50_3 < (l1_2.length : Int)) = true := decide_eq_true c44
         clear c44
         by_cases c45 : 0 ≤ x50_3
         ·rw [if_pos c45] at H
          have c45b0 : decide (0 ≤ x50_3) = true := decide_eq_true c45
          clear c45
          by_cases c46 : x50_3 < (l1_2.length : Int)
          ·rw [if_pos c46] at H
           have c46b0 : decide (x50_3 < (l1_2.length : Int)) = true := decide_eq_true c46
           clear c46
           obtain ⟨t346, A47, H⟩ := ob H
           by_cases c48 : t346 = true
           ·subst c48
            replace H := it H
            have H' := Aside0.mk H
            clear H
            have p345 : 0 ≤ (x50_3 : Int) := od
            have q345 : x50_3 < (l1_2.length : Int) := od
            obtain ⟨ad345, e345, hx345_0⟩ := Kd.at_int HR1_2.out x50_3 p345 q345
            cases e345
            replace hx345_0 := hc HB hx345_0
            replace p345 := eq_true p345
            replace q345 := eq_true q345
            have hnb49 := NB341_342.out
            have hnc49 := NB342_341.out
            obtain ⟨_,_,_,_⟩ := cf2 BK341
            go_wp2_with (first | ((with_reducible refine gc 42 rfl ?_); refine gl (some 58) Try.func42 #[.int .i64 (l0_0.length : Int), .int .i64 (rd l1_2 x50_3)] rfl ?_; (with_reducible refine (impl_fieldType.calls (l0_0.length : Int) (rd l1_2 x50_3) true _ A47.out).mono ?_); rintro e w' ⟨rfl, ⟨nd, rfl⟩⟩; refine ⟨_, rfl, ?_⟩))
            go_roundg k3
            case measure => have := HJ2.out; have := HJ32.out; have := HK3.out; omega
            case rel => exact ⟨(wrap64 (x50_3 + 1)), (by first | rfl | (simp; done) | (simp [*]; done)), H', ⟨by have := HJ2.out; have := HJ32.out; have := HK3.out; omega⟩, kk BK341, kk BK342, ⟨bl⟩⟩
           ·replace c48 := Bool.eq_false_iff.mpr c48
            subst c48
            replace H := ie H
            obtain rfl := Option.some.inj H; clear H
            have p345 : 0 ≤ (x50_3 : Int) := od
            have q345 : x50_3 < (l1_2.length : Int) := od
            obtain ⟨ad345, e345, hx345_0⟩ := Kd.at_int HR1_2.out x50_3 p345 q345
            cases e345
            replace hx345_0 := hc HB hx345_0
            replace p345 := eq_true p345
            replace q345 := eq_true q345
            have hnb51 := NB341_342.out
            have hnc51 := NB342_341.out
            obtain ⟨_,_,_,_⟩ := cf2 BK341
            go_wp2_with (first | ((with_reducible refine gc 42 rfl ?_); refine gl (some 58) Try.func42 #[.int .i64 (l0_0.length : Int), .int .i64 (rd l1_2 x50_3)] rfl ?_; (with_reducible refine (impl_fieldType.calls (l0_0.length : Int) (rd l1_2 x50_3) false _ A47.out).mono ?_); rintro e w' ⟨rfl, ⟨nd, rfl⟩⟩; refine ⟨_, rfl, ?_⟩))
            go_ret
            exact fin
          ·rw [if_neg c46] at H
           exact absurd H (by simp)
         ·rw [if_neg c45] at H
          exact absurd H (by simp)
        ·rw [if_neg c44] at H
         have c44b0 : decide (x50_3 < (l1_2.length : Int)) = false := decide_eq_false c44
         clear c44
         by_cases c53 : a1_4 ≤ 3
         ·rw [if_pos c53] at H
          have c53b0 : decide (a1_4 ≤ 3) = true := decide_eq_true c53
          clear c53
          obtain ⟨t347, A54, H⟩ := ob H
          obtain rfl := Option.some.inj H; clear H
          try go_wp2
          replace BK341 := Aside0.mk (blk_drew BK341.out)
          replace BK342 := Aside0.mk (blk_drew BK342.out)
          replace HB := Aside0.mk (below_drew1 HB.out)
          refine start_ (n := 12) (S := fun w' => w'.cell? ⟨gb342, 0, none⟩ = some (.int .i64 a1_0) ∧ w'.cell? ⟨gb342, 1, none⟩ = some (.int .i64 a1_1) ∧ w'.cell? ⟨gb342, 2, none⟩ = some (.slice A1_2 l1_2.length c1_2) ∧ w'.cell? ⟨gb342, 3, none⟩ = some (.int .i64 a1_3) ∧ w'.cell? ⟨gb342, 4, none⟩ = some (.int .i64 a1_4) ∧ w'.cell? ⟨gb342, 5, none⟩ = some (.slice A1_5 l1_5.length c1_5) ∧ w'.cell? ⟨gb342, 6, none⟩ = some (.slice A1_6 l1_6.length c1_6) ∧ w'.cell? ⟨gb342, 7, none⟩ = some (.slice A1_7 l1_7.length c1_7)) (ds := []) #[false, false, false, false, false, false, false, false, false, false, false, false] (by kernel_rfl) rfl rfl ⟨(blk_cell BK342.out 0).trans rfl, (blk_cell BK342.out 1).trans rfl, (blk_cell BK342.out 2).trans rfl, (blk_cell BK342.out 3).trans rfl, (blk_cell BK342.out 4).trans rfl, (blk_cell BK342.out 5).trans rfl, (blk_cell BK342.out 6).trans rfl, (blk_cell BK342.out 7).trans rfl⟩ (fun hHeld => ?_); refine with_tabW impl_headOk.tab14 impl_headOk.bits14 (fun HT_ HW_ => ?_)
          generalize wr.drew = w55 at BK341 BK342 HB hHeld ⊢
          refine pu 0 61 #[true, false, false, false, false, false, false, false, false, false, false, false] HT_ rfl rfl ?_
          refine ta 1 62 #[true, true, false, false, false, false, false, false, false, false, false, false] HT_ HW_ hHeld rfl rfl ?_
          refine pu 2 63 #[true, true, true, false, false, false, false, false, false, false, false, false] HT_ rfl rfl ?_
          refine pu 3 64 #[true, true, true, true, false, false, false, false, false, false, false, false] HT_ rfl rfl ?_
          refine pu 4 65 #[true, true, true, true, true, false, false, false, false, false, false, false] HT_ rfl rfl ?_
          refine ta 5 66 #[true, true, true, true, true, true, false, false, false, false, false, false] HT_ HW_ hHeld rfl rfl ?_
          refine ta 6 67 #[true, true, true, true, true, true, true, false, false, false, false, false] HT_ HW_ hHeld rfl rfl ?_
          refine one_ (i := 7) (N := some 68) #[true, true, true, true, true, true, true, true, false, false, false, false] rfl rfl (one_of HT_.out (by kernel_rfl)) (by decide) (fun K hK => ?_)
          refine gs Try.func43 #[.agg #[.int .i64 a1_0, .int .i64 a1_1, .slice A1_2 l1_2.length c1_2, .int .i64 a1_3, .int .i64 a1_4, .slice A1_5 l1_5.length c1_5, .slice A1_6 l1_6.length c1_6, .slice A1_7 l1_7.length c1_7]] rfl rfl ?_
          with_reducible refine (impl_given.calls a1_0 a1_1 _ _ l1_2 a1_3 a1_4 _ _ l1_5 _ _ l1_6 _ _ l1_7 t347 _ ?side1 ?side2 ?side3 ?side4 ?side5 ?side6 ?side7 ?side8 A54.out).mono ?_
          (case side1 => exact cb HR1_2.out)
          (case side2 => exact HC1_2.out)
          (case side3 => exact cb HR1_5.out)
          (case side4 => exact HC1_5.out)
          (case side5 => exact cb HR1_6.out)
          (case side6 => exact HC1_6.out)
          (case side7 => exact cb HR1_7.out)
          (case side8 => exact HC1_7.out)
          rintro e w56 ⟨v348, rfl, ho0, hb⟩
          refine ⟨_, rfl, ?_⟩
          have HO349 := Aside0.mk (Kd.R_lower ho0 (below_size bl))
          replace BK341 := kb BK341 hb
          replace BK342 := kb BK342 hb
          replace HB := hs HB hb
          (try clear hb)
          (try clear hb2)
          (try clear hk)
          (try clear hi)
          (try clear ho0)
          obtain ⟨Ao57, co57, eo57⟩ := Kd.R_slice HO349.out
          (first | subst eo57 | (injection eo57 with f1_ f2_ f3_; have f4_ := f1_.symm; have f5_ := f3_.symm; clear f1_ f2_ f3_; subst f4_; subst f5_))
          refine hK.out _ _ ⟨(blk_cell BK342.out 0).trans rfl, (blk_cell BK342.out 1).trans rfl, (blk_cell BK342.out 2).trans rfl, (blk_cell BK342.out 3).trans rfl, (blk_cell BK342.out 4).trans rfl, (blk_cell BK342.out 5).trans rfl, (blk_cell BK342.out 6).trans rfl, (blk_cell BK342.out 7).trans rfl⟩ (fun hHeld => ?_)
          clear hK K
          refine no 68 ?_
          refine pu 8 69 #[true, true, true, true, true, true, true, true, true, false, false, false] HT_ rfl rfl ?_
          refine pu 9 70 #[true, true, true, true, true, true, true, true, true, true, false, false] HT_ rfl rfl ?_
          refine pu 10 71 #[true, true, true, true, true, true, true, true, true, true, true, false] HT_ rfl rfl ?_
          refine pu 11 4 #[true, true, true, true, true, true, true, true, true, true, true, true] HT_ rfl rfl ?_
          refine done_ (done_of HT_.out (by kernel_rfl)) ?_
          try go_wp2
          go_ret
          exact fin
         ·rw [if_neg c53] at H
          have c53b0 : decide (a1_4 ≤ 3) = false := decide_eq_false c53
          clear c53
          obtain rfl := Option.some.inj H; clear H
          try go_wp2
          replace BK341 := Aside0.mk (blk_drew BK341.out)
          replace BK342 := Aside0.mk (blk_drew BK342.out)
          replace HB := Aside0.mk (below_drew1 HB.out)
          refine start_ (n := 12) (S := fun w' => w'.cell? ⟨gb342, 0, none⟩ = some (.int .i64 a1_0) ∧ w'.cell? ⟨gb342, 1, none⟩ = some (.int .i64 a1_1) ∧ w'.cell? ⟨gb342, 2, none⟩ = some (.slice A1_2 l1_2.length c1_2) ∧ w'.cell? ⟨gb342, 3, none⟩ = some (.int .i64 a1_3) ∧ w'.cell? ⟨gb342, 4, none⟩ = some (.int .i64 a1_4) ∧ w'.cell? ⟨gb342, 5, none⟩ = some (.slice A1_5 l1_5.length c1_5) ∧ w'.cell? ⟨gb342, 6, none⟩ = some (.slice A1_6 l1_6.length c1_6) ∧ w'.cell? ⟨gb342, 7, none⟩ = some (.slice A1_7 l1_7.length c1_7)) (ds := []) #[false, false, false, false, false, false, false, false, false, false, false, false] (by kernel_rfl) rfl rfl ⟨(blk_cell BK342.out 0).trans rfl, (blk_cell BK342.out 1).trans rfl, (blk_cell BK342.out 2).trans rfl, (blk_cell BK342.out 3).trans rfl, (blk_cell BK342.out 4).trans rfl, (blk_cell BK342.out 5).trans rfl, (blk_cell BK342.out 6).trans rfl, (blk_cell BK342.out 7).trans rfl⟩ (fun hHeld => ?_); refine with_tabW impl_headOk.tab14 impl_headOk.bits14 (fun HT_ HW_ => ?_)
          generalize wr.drew = w58 at BK341 BK342 HB hHeld ⊢
          refine pu 0 61 #[true, false, false, false, false, false, false, false, false, false, false, false] HT_ rfl rfl ?_
          refine ta 1 62 #[true, true, false, false, false, false, false, false, false, false, false, false] HT_ HW_ hHeld rfl rfl ?_
          refine pu 2 63 #[true, true, true, false, false, false, false, false, false, false, false, false] HT_ rfl rfl ?_
          refine pu 3 64 #[true, true, true, true, false, false, false, false, false, false, false, false] HT_ rfl rfl ?_
          refine pv 4 65 #[true, true, true, true, true, false, false, false, false, false, false, false] HT_ rfl rfl ?_
          refine pv 5 66 #[true, true, true, true, true, true, false, false, false, false, false, false] HT_ rfl rfl ?_
          refine pv 6 67 #[true, true, true, true, true, true, true, false, false, false, false, false] HT_ rfl rfl ?_
          refine pv 7 68 #[true, true, true, true, true, true, true, true, false, false, false, false] HT_ rfl rfl ?_
          refine pv 8 69 #[true, true, true, true, true, true, true, true, true, false, false, false] HT_ rfl rfl ?_
          refine pv 9 70 #[true, true, true, true, true, true, true, true, true, true, false, false] HT_ rfl rfl ?_
          refine pu 10 71 #[true, true, true, true, true, true, true, true, true, true, true, false] HT_ rfl rfl ?_
          refine pu 11 4 #[true, true, true, true, true, true, true, true, true, true, true, true] HT_ rfl rfl ?_
          refine done_ (done_of HT_.out (by kernel_rfl)) ?_
          try go_wp2
          go_ret
          exact fin
end Go.Proofs.Ytedodaifpekahaa.P

end
section

namespace Go.Proofs.Ytedodaifpekahaa.P
open Go.RowKit Go.Proofs.YtedodaifpekahaaW.PrintWords Go.Proofs.YtedodaifpekahaaW.PrintLast Go.Proofs.YtedodaifpekahaaW.PrintMore
attribute [local go_sem] max2_int min2_int max_two min_two max_three min_three max_four min_four
set_option linter.unusedVariables false
set_option linter.unusedSimpArgs false
set_option maxHeartbeats 8000000 in
set_option maxRecDepth 100000 in
theorem impl_isWord.calls (a0 : Int) (r : Bool) (w : World) (h : impl_isWord.f a0 = some r) :
  Calls Try.prog 63 #[.int .i64 a0] w fun e w' => e = .returned (.bool r) ∧ Drawn0 w w' := by
 have H : (if a0 ≥ (-128) then (some (decide (a0 ≤ 127))) else (some false)) = some r := h
 clear h
 by_cases c2 : a0 ≥ (-128)
 ·rw [if_pos c2] at H
  have c2b0 : decide ((-128) ≤ a0) = true := decide_eq_true c2
  clear c2
  obtain rfl := Option.some.inj H; clear H
  go_enter Try.func63, Try.ntmps63
  go_wp2
  go_ret
  exact ⟨by first | rfl | (simp; done) | (simp [*]; done), by repeat (first | exact Drawn0.refl _ | apply Drawn0.step)⟩
 ·rw [if_neg c2] at H
  have c2b0 : decide ((-128) ≤ a0) = false := decide_eq_false c2
  clear c2
  obtain rfl := Option.some.inj H; clear H
  go_enter Try.func63, Try.ntmps63
  go_wp2
  go_ret
  exact ⟨by first | rfl | (simp; done) | (simp [*]; done), by repeat (first | exact Drawn0.refl _ | apply Drawn0.step)⟩
end Go.Proofs.Ytedodaifpekahaa.P

end
section

namespace Go.Proofs.Ytedodaifpekahaa.P
open Go.RowKit Go.Proofs.YtedodaifpekahaaW.PrintWords Go.Proofs.YtedodaifpekahaaW.PrintLast Go.Proofs.YtedodaifpekahaaW.PrintMore
attribute [local go_sem] max2_int min2_int max_two min_two max_three min_three max_four min_four
set_option linter.unusedVariables false
set_option linter.unusedSimpArgs false
def impl_classFields.T3 : Bool × List (List Nat × List Nat) := (true, [([], []), ([], []), ([], []), ([1, 2], [1, 2]), ([3], [3]), ([4], [4]), ([0, 5], [0, 5]), ([], []), ([], []), ([7, 8], [7, 8]), ([9], [9]), ([10], [10]), ([6, 11, 6], [6, 11]), ([12, 12, 0, 1, 2, 3, 4, 5, 6, 7, 8, 9, 10, 11, 12], [12])])
def impl_classFields.B3 : List Nat := [0, 0, 0, 6, 14, 30, 63, 0, 0, 384, 896, 1920, 4095, 8191]
theorem impl_classFields.tab3 : rtab .any (opsOf Try.f64 3) = impl_classFields.T3 := by kernel_rfl
theorem impl_classFields.bits3 : waitsOk impl_classFields.T3.2 impl_classFields.B3 = true := by kernel_rfl
set_option maxHeartbeats 8000000 in
set_option maxRecDepth 100000 in
theorem impl_classFields.calls (k : Nat) : ∀ (A0 : Option Addr) (c0 : Nat) (l0 : List (S76)) (a1 : Int) (r : List Int) (w : World) (hr0 : Kd.C k76 w A0 l0.length l0) (hc0 : l0.length ≤ c0) (h : impl_classFields.f k l0 a1 = some r),
  Calls Try.prog 64 #[.slice A0 l0.length c0, .int .i64 a1] w fun e w' => ∃ v0_ : Value, e = .returned (v0_) ∧ Kd.R (Kd.int .i64) 3 w' w.heap.size (fun _ => True) v0_ r ∧ Below w.heap.size w w' := by
 induction k using Nat.strongRecOn with
 | _ k ih =>
 intro A0 c0 l0 a1 r w hr0 hc0 h
 cases k with
 | zero => exact absurd h (by simp [impl_classFields.f])
 | succ k =>
 simp only [impl_classFields.f] at h
 have HR0 := Aside0.mk hr0
 have HC0 := Aside0.mk hc0
 clear hr0 hc0
 have HB := Aside0.mk (Below.refl w.heap.size w)
 have H : (if a1 = 0 then (some ([] : List Int)) else (if 0 ≤ a1 then (if a1 < (l0.length : Int) then ((impl_classFields.f k l0 ((rd_T76 l0 a1).f0)).bind fun t351 => (if t351.length + ((rd_T76 l0 a1).f1).length < 17592186044416 then (some (t351 ++ ((rd_T76 l0 a1).f1))) else (none))) else (none)) else (none))) = some r := h
 clear h
 by_cases c3 : a1 = 0
 ·rw [if_pos c3] at H
  have c3b0 := beq_iff_eq.mpr c3
  have c3b1 := bne_eq_false_iff_eq.mpr c3
  clear c3
  obtain rfl := Option.some.inj H; clear H
  go_enter Try.func64, Try.ntmps64
  go_wp2
  go_ret
  exact ⟨_, by first | rfl | (simp [errW_none, errW_some] <;> rfl) | (simp [*, errW_none, errW_some] <;> rfl), by first | exact Kd.R_nil _ _ _ _ _ | exact Kd.N_nil _ _ _ _ _ | exact Kd.V_nil _ _ _ _ _ | exact Kd.Q_nil _ _ _ _ _ | exact Kd.S_nil _ _ _ _ _, bl⟩
 ·rw [if_neg c3] at H
  have c3b0 := beq_eq_false_iff_ne.mpr c3
  have c3b1 := bne_iff_ne.mpr c3
  by_cases c4 : 0 ≤ a1
  ·rw [if_pos c4] at H
   have c4b0 : decide (0 ≤ a1) = true := decide_eq_true c4
   clear c4
   by_cases c5 : a1 < (l0.length : Int)
   ·rw [if_pos c5] at H
    have c5b0 : decide (a1 < (l0.length : Int)) = true := decide_eq_true c5
    clear c5
    obtain ⟨t351, A6, H⟩ := ob H
    by_cases c7 : t351.length + ((rd_T76 l0 a1).f1).length < 17592186044416
    ·rw [if_pos c7] at H
     have LMc7 := Aside0.mk c7
     clear c7
     obtain ⟨y355, hy355⟩ : ∃ y_ : List Int, y_ = (t351 ++ ((rd_T76 l0 a1).f1)) := ⟨_, rfl⟩
     replace H : (some y355) = some r := by first | (rw [hy355]; with_reducible exact H) | (have H2_ := (Option.bind_some _ _).symm.trans H; rw [hy355]; with_reducible exact H2_) | (have H2_ := (Option.bind_some _ _).symm.trans H; with_reducible exact H2_) | with_reducible exact H | (rw [hy355]; exact H) | exact H
     have Ny355 := Aside0.mk hy355
     clear hy355
     obtain rfl := Option.some.inj H; clear H
     go_enter Try.func64, Try.ntmps64
     try go_wp2
     replace HB := Aside0.mk (below_drew1 HB.out)
     have p350 : 0 ≤ (a1 : Int) := od
     have q350 : a1 < (l0.length : Int) := od
     obtain ⟨ad350, A350_1, c350_1, e350, hx350_0, hx350_1, hl350_1, hi350_1⟩ := at_T76 HR0.out a1 p350 q350
     have hw350_1 := hx350_1
     have hw350_0 := hx350_0
     cases e350
     obtain ⟨hx350_0,hx350_1⟩ := hc2 HB hx350_0 hx350_1
     have HR350_1 := Aside0.mk hi350_1
     have HC350_1 := Aside0.mk hl350_1
     clear hi350_1 hl350_1
     replace p350 := eq_true p350
     replace q350 := eq_true q350
     have p354 : 0 ≤ (a1 : Int) := od
     have q354 : a1 < (l0.length : Int) := od
     obtain ⟨ad354, A354_1, c354_1, e354, hx354_0, hx354_1, hl354_1, hi354_1⟩ := at_T76 HR0.out a1 p354 q354
     have hw354_1 := hx354_1
     have hw354_0 := hx354_0
     obtain rfl : ad350 = ad354 := (by injection e354)
     obtain ⟨hx354_0,hx354_1⟩ := hc2 HB hx354_0 hx354_1
     have HR354_1 := Aside0.mk hi354_1
     have HC354_1 := Aside0.mk hl354_1
     clear hi354_1 hl354_1
     replace p354 := eq_true p354
     replace q354 := eq_true q354
     have ea_ := Option.some.inj (hx350_1.symm.trans hx354_1)
     injection ea_ with ea_ en_ ec_
     subst ea_
     subst ec_
     clear en_
     refine start_ (n := 14) (S := fun w' => w'.cell? (ad350.add ((a1).toNat * 2)) = some (.int .i64 ((rd_T76 l0 a1).f0)) ∧ w'.cell? ⟨(ad350.add ((a1).toNat * 2)).block, (ad350.add ((a1).toNat * 2)).off + 1, none⟩ = some (.slice A350_1 ((rd_T76 l0 a1).f1).length c350_1) ∧ w'.cell? (ad350.add ((a1).toNat * 2)) = some (.int .i64 ((rd_T76 l0 a1).f0)) ∧ w'.cell? ⟨(ad350.add ((a1).toNat * 2)).block, (ad350.add ((a1).toNat * 2)).off + 1, none⟩ = some (.slice A350_1 ((rd_T76 l0 a1).f1).length c350_1)) (ds := []) #[false, false, false, false, false, false, false, false, false, false, false, false, false, false] (by kernel_rfl) rfl rfl ⟨((HB.out.cell (World.block_lt_of_cell? w _ hw350_0)).trans hw350_0), ((HB.out.cell (World.block_lt_of_cell? w _ hw350_1)).trans hw350_1), ((HB.out.cell (World.block_lt_of_cell? w _ hw354_0)).trans hw354_0), ((HB.out.cell (World.block_lt_of_cell? w _ hw354_1)).trans hw354_1)⟩ (fun hHeld => ?_); refine with_tabW impl_classFields.tab3 impl_classFields.bits3 (fun HT_ HW_ => ?_)
     generalize w.drew = w8 at HB HR350_1 HR354_1 hx350_0 hx350_1 hx354_0 hx354_1 hHeld ⊢
     refine pu 0 7 #[true, false, false, false, false, false, false, false, false, false, false, false, false, false] HT_ rfl rfl ?_
     refine pu 1 8 #[true, true, false, false, false, false, false, false, false, false, false, false, false, false] HT_ rfl rfl ?_
     refine pu 2 9 #[true, true, true, false, false, false, false, false, false, false, false, false, false, false] HT_ rfl rfl ?_
     refine pu 3 10 #[true, true, true, true, false, false, false, false, false, false, false, false, false, false] HT_ rfl rfl ?_
     refine pu 4 11 #[true, true, true, true, true, false, false, false, false, false, false, false, false, false] HT_ rfl rfl ?_
     refine pu 7 14 #[true, true, true, true, true, false, false, true, false, false, false, false, false, false] HT_ rfl rfl ?_
     refine pu 8 15 #[true, true, true, true, true, false, false, true, true, false, false, false, false, false] HT_ rfl rfl ?_
     refine pu 9 16 #[true, true, true, true, true, false, false, true, true, true, false, false, false, false] HT_ rfl rfl ?_
     refine pu 10 17 #[true, true, true, true, true, false, false, true, true, true, true, false, false, false] HT_ rfl rfl ?_
     refine ta 5 12 #[true, true, true, true, true, true, false, true, true, true, true, false, false, false] HT_ HW_ hHeld rfl rfl ?_
     refine ta 11 18 #[true, true, true, true, true, true, false, true, true, true, true, true, false, false] HT_ HW_ hHeld rfl rfl ?_
     refine one_ (i := 6) (N := some 13) #[true, true, true, true, true, true, true, true, true, true, true, true, false, false] rfl rfl (one_of HT_.out (by kernel_rfl)) (by decide) (fun K hK => ?_)
     refine gs Try.func64 #[.slice (some ad350) l0.length c0, .int .i64 ((rd_T76 l0 a1).f0)] rfl rfl ?_
     with_reducible refine (ih k (by omega) _ _ l0 ((rd_T76 l0 a1).f0) t351 _ ?side1 ?side2 A6.out).mono ?_
     (case side1 => exact cb HR0.out)
     (case side2 => exact HC0.out)
     rintro e w9 ⟨v352, rfl, ho0, hb⟩
     refine ⟨_, rfl, ?_⟩
     have HO353 := Aside0.mk (Kd.R_lower ho0 (below_size bl))
     replace HB := hs HB hb
     (try clear hb)
     (try clear hb2)
     (try clear hk)
     (try clear hi)
     (try clear ho0)
     refine hK.out _ _ ⟨((HB.out.cell (World.block_lt_of_cell? w _ hw350_0)).trans hw350_0), ((HB.out.cell (World.block_lt_of_cell? w _ hw350_1)).trans hw350_1), ((HB.out.cell (World.block_lt_of_cell? w _ hw354_0)).trans hw354_0), ((HB.out.cell (World.block_lt_of_cell? w _ hw354_1)).trans hw354_1)⟩ (fun hHeld => ?_)
     clear hK K
     refine no 13 ?_
     refine one_ (i := 12) (N := some 19) #[true, true, true, true, true, true, true, true, true, true, true, true, true, false] rfl rfl (one_of HT_.out (by kernel_rfl)) (by decide) (fun K hK => ?_)
     refine Kd.R_append_rows_step (Kd.int .i64) (w0 := w) w.heap.size (by rfl) (.tmp 13) (.tmp 18) 41 3 (.int .i64 0) 8 rfl Try.underlying41 info3 rfl (by decide) (by omega) v352 t351 ((rd_T76 l0 a1).f1) _ _ _ (fun _ => True) (fun _ => False) rfl rfl ?aO ?aR (fun _ _ h => h) (fun _ h => h.elim) ?aF ?aB ?aS ?aL ?_
     (case aR => repeat (first | exact (Kd.C_below HR354_1.out HB.out) | (with_reducible refine Kd.C_alloc ?_ _) | (with_reducible refine Kd.C_drewN ?_ _) | (with_reducible refine Kd.C_drew ?_)))
     (case aB => exact bl)
     (case aF => exact (fun _ _ => trivial))
     (case aO => exact (by (with_reducible repeat (first | apply Kd.R_alloc | apply Kd.R_drewN | apply Kd.R_drew)); exact HO353.out))
     (case aS => exact (below_size bl))
     (case aL => have := LMc7.out; omega)
     intro v356 w10 ho hb hg hat
     rw [← Ny355.out] at ho
     have n0_ := Aside0.mk (hb)
     have n1_ := Aside0.mk (ho)
     clear HB
     clear HO353
     have HB := n0_
     have HO357 := n1_
     clear n0_ n1_
     clear ho hb hg hat
     refine hK.out _ _ ⟨((HB.out.cell (World.block_lt_of_cell? w _ hw350_0)).trans hw350_0), ((HB.out.cell (World.block_lt_of_cell? w _ hw350_1)).trans hw350_1), ((HB.out.cell (World.block_lt_of_cell? w _ hw354_0)).trans hw354_0), ((HB.out.cell (World.block_lt_of_cell? w _ hw354_1)).trans hw354_1)⟩ (fun hHeld => ?_)
     clear hK K
     refine no 19 ?_
     refine pu 13 4 #[true, true, true, true, true, true, true, true, true, true, true, true, true, true] HT_ rfl rfl ?_
     refine done_ (done_of HT_.out (by kernel_rfl)) ?_
     try go_wp2
     go_ret
     exact ⟨_, by first | rfl | (simp [errW_none, errW_some] <;> rfl) | (simp [*, errW_none, errW_some] <;> rfl), by (with_reducible repeat (first | apply Kd.R_alloc | apply Kd.R_drewN | apply Kd.R_drew)); exact HO357.out, bl⟩
    ·rw [if_neg c7] at H
     exact absurd H (by simp)
   ·rw [if_neg c5] at H
    exact absurd H (by simp)
  ·rw [if_neg c4] at H
   exact absurd H (by simp)
end Go.Proofs.Ytedodaifpekahaa.P

end
section

namespace Go.Proofs.Ytedodaifpekahaa.P
open Go.RowKit Go.Proofs.YtedodaifpekahaaW.PrintWords Go.Proofs.YtedodaifpekahaaW.PrintLast Go.Proofs.YtedodaifpekahaaW.PrintMore
attribute [local go_sem] max2_int min2_int max_two min_two max_three min_three max_four min_four
set_option linter.unusedVariables false
set_option linter.unusedSimpArgs false
set_option maxHeartbeats 8000000 in
set_option maxRecDepth 100000 in
theorem impl_operandOk.calls (k : Nat) (A0_0 : Option Addr) (c0_0 : Nat) (l0_0 : List (S76)) (A0_1 : Option Addr) (c0_1 : Nat) (l0_1 : List (S46)) (a1_0 : Int) (a1_1 : Int) (A1_2 : Option Addr) (c1_2 : Nat) (l1_2 : List Int) (a1_3 : Int) (a1_4 : Int) (A1_5 : Option Addr) (c1_5 : Nat) (l1_5 : List (S67)) (A1_6 : Option Addr) (c1_6 : Nat) (l1_6 : List (S70)) (A1_7 : Option Addr) (c1_7 : Nat) (l1_7 : List (S73)) (a2_0 : Int) (a2_1 : Int) (a2_2 : Int) (a3 : Int) (a4 : Int) (r : Bool) (w : World) (hr0_0 : Kd.C k76 w A0_0 l0_0.length l0_0) (hc0_0 : l0_0.length ≤ c0_0) (hr0_1 : Kd.C k46 w A0_1 l0_1.length l0_1) (hc0_1 : l0_1.length ≤ c0_1) (hr1_2 : Kd.C (Kd.int .i64) w A1_2 l1_2.length l1_2) (hc1_2 : l1_2.length ≤ c1_2) (hr1_5 : Kd.C k67 w A1_5 l1_5.length l1_5) (hc1_5 : l1_5.length ≤ c1_5) (hr1_6 : Kd.C k70 w A1_6 l1_6.length l1_6) (hc1_6 : l1_6.length ≤ c1_6) (hr1_7 : Kd.C k73 w A1_7 l1_7.length l1_7) (hc1_7 : l1_7.length ≤ c1_7) (h : impl_operandOk.f k l0_0 l0_1 a1_0 a1_1 l1_2 a1_3 a1_4 l1_5 l1_6 l1_7 a2_0 a2_1 a2_2 a3 a4 = some r) :
  Calls Try.prog 44 #[.agg #[.slice A0_0 l0_0.length c0_0, .slice A0_1 l0_1.length c0_1], .agg #[.int .i64 a1_0, .int .i64 a1_1, .slice A1_2 l1_2.length c1_2, .int .i64 a1_3, .int .i64 a1_4, .slice A1_5 l1_5.length c1_5, .slice A1_6 l1_6.length c1_6, .slice A1_7 l1_7.length c1_7], .agg #[.int .i64 a2_0, .int .i64 a2_1, .int .i64 a2_2], .int .i64 a3, .int .i64 a4] w fun e w' => e = .returned (.bool r) ∧ Below w.heap.size w w' := by
 have hu31 := Try.underlying31
 have hu46 := Try.underlying46
 have hu67 := Try.underlying67
 have HR0_0 := Aside0.mk hr0_0
 have HC0_0 := Aside0.mk hc0_0
 clear hr0_0 hc0_0
 have HR0_1 := Aside0.mk hr0_1
 have HC0_1 := Aside0.mk hc0_1
 clear hr0_1 hc0_1
 have HR1_2 := Aside0.mk hr1_2
 have HC1_2 := Aside0.mk hc1_2
 clear hr1_2 hc1_2
 have HR1_5 := Aside0.mk hr1_5
 have HC1_5 := Aside0.mk hc1_5
 clear hr1_5 hc1_5
 have HR1_6 := Aside0.mk hr1_6
 have HC1_6 := Aside0.mk hc1_6
 clear hr1_6 hc1_6
 have HR1_7 := Aside0.mk hr1_7
 have HC1_7 := Aside0.mk hc1_7
 clear hr1_7 hc1_7
 have HB := Aside0.mk (Below.refl w.heap.size w)
 have H : (if a3 = 1 then ((impl_isWord.f a4).bind fun t361 => (some t361)) else (if a3 = 2 then (if a4 ≥ 0 then (some (decide (a4 < a1_4))) else (some false)) else (if a3 = 3 then (if a4 ≥ 1 then (some (decide (a4 ≤ 4))) else (some false)) else (if a3 = 4 then (if a4 ≥ 0 then (some (decide (a4 < (l1_5.length : Int)))) else (some false)) else (if a3 = 5 then ((impl_isClass.f l0_0 a4).bind fun t362 => (some t362)) else (if a3 = 6 then (if a4 = 0 then (some true) else (some (a4 == 1))) else (if a3 = 7 then (if a4 ≥ 0 then (if a4 < (l0_1.length : Int) then (if 0 ≤ a4 then (some (((rd_T46 l0_1 a4).f0) == (-1))) else (none)) else (some false)) else (some false)) else (if a3 = 8 then (if a4 ≥ 0 then ((impl_classFields.f k l0_0 a2_1).bind fun t364 => (some (decide (a4 < (t364.length : Int))))) else (some false)) else (if a3 = 9 then (if a4 ≥ 0 then (some (decide (a4 < 3))) else (some false)) else (some (a4 == 0))))))))))) = some r := h
 clear h
 by_cases c6 : a3 = 1
 ·rw [if_pos c6] at H
  have c6b0 := beq_iff_eq.mpr c6
  have c6b1 := bne_eq_false_iff_eq.mpr c6
  clear c6
  obtain ⟨t361, A7, H⟩ := ob H
  obtain rfl := Option.some.inj H; clear H
  go_enter Try.func44, Try.ntmps44
  go_wp2_with (first | ((with_reducible refine gc 63 rfl ?_); refine gl (some 15) Try.func63 #[.int .i64 a4] rfl ?_; (with_reducible refine (impl_isWord.calls a4 t361 _ A7.out).mono ?_); rintro e w' ⟨rfl, ⟨nd, rfl⟩⟩; refine ⟨_, rfl, ?_⟩))
  go_ret
  exact fin
 ·rw [if_neg c6] at H
  have c6b0 := beq_eq_false_iff_ne.mpr c6
  have c6b1 := bne_iff_ne.mpr c6
  by_cases c11 : a3 = 2
  ·rw [if_pos c11] at H
   have c11b0 := beq_iff_eq.mpr c11
   have c11b1 := bne_eq_false_iff_eq.mpr c11
   clear c11
   by_cases c12 : a4 ≥ 0
   ·rw [if_pos c12] at H
    have c12b0 : decide (0 ≤ a4) = true := decide_eq_true c12
    clear c12
    obtain rfl := Option.some.inj H; clear H
    go_enter Try.func44, Try.ntmps44
    go_wp2
    go_ret
    exact fin
   ·rw [if_neg c12] at H
    have c12b0 : decide (0 ≤ a4) = false := decide_eq_false c12
    clear c12
    obtain rfl := Option.some.inj H; clear H
    go_enter Try.func44, Try.ntmps44
    go_wp2
    go_ret
    exact fin
  ·rw [if_neg c11] at H
   have c11b0 := beq_eq_false_iff_ne.mpr c11
   have c11b1 := bne_iff_ne.mpr c11
   by_cases c22 : a3 = 3
   ·rw [if_pos c22] at H
    have c22b0 := beq_iff_eq.mpr c22
    have c22b1 := bne_eq_false_iff_eq.mpr c22
    clear c22
    by_cases c23 : a4 ≥ 1
    ·rw [if_pos c23] at H
     have c23b0 : decide (1 ≤ a4) = true := decide_eq_true c23
     clear c23
     obtain rfl := Option.some.inj H; clear H
     go_enter Try.func44, Try.ntmps44
     go_wp2
     go_ret
     exact fin
    ·rw [if_neg c23] at H
     have c23b0 : decide (1 ≤ a4) = false := decide_eq_false c23
     clear c23
     obtain rfl := Option.some.inj H; clear H
     go_enter Try.func44, Try.ntmps44
     go_wp2
     go_ret
     exact fin
   ·rw [if_neg c22] at H
    have c22b0 := beq_eq_false_iff_ne.mpr c22
    have c22b1 := bne_iff_ne.mpr c22
    by_cases c30 : a3 = 4
    ·rw [if_pos c30] at H
     have c30b0 := beq_iff_eq.mpr c30
     have c30b1 := bne_eq_false_iff_eq.mpr c30
     clear c30
     by_cases c31 : a4 ≥ 0
     ·rw [if_pos c31] at H
      have c31b0 : decide (0 ≤ a4) = true := decide_eq_true c31
      clear c31
      obtain rfl := Option.some.inj H; clear H
      go_enter Try.func44, Try.ntmps44
      go_wp2
      go_ret
      exact fin
     ·rw [if_neg c31] at H
      have c31b0 : decide (0 ≤ a4) = false := decide_eq_false c31
      clear c31
      obtain rfl := Option.some.inj H; clear H
      go_enter Try.func44, Try.ntmps44
      go_wp2
      go_ret
      exact fin
    ·rw [if_neg c30] at H
     have c30b0 := beq_eq_false_iff_ne.mpr c30
     have c30b1 := bne_iff_ne.mpr c30
     by_cases c41 : a3 = 5
     ·rw [if_pos c41] at H
      have c41b0 := beq_iff_eq.mpr c41
      have c41b1 := bne_eq_false_iff_eq.mpr c41
      clear c41
      obtain ⟨t362, A42, H⟩ := ob H
      obtain rfl := Option.some.inj H; clear H
      go_enter Try.func44, Try.ntmps44
      go_wp2_with (first | ((with_reducible refine gc 29 rfl ?_); refine gl (some 50) Try.func29 #[.slice A0_0 l0_0.length c0_0, .int .i64 a4] rfl ?_; (with_reducible refine (impl_isClass.calls _ _ l0_0 a4 t362 _ ?side1 ?side2 A42.out).mono ?_); (case side1 => exact cb HR0_0.out); (case side2 => exact HC0_0.out); rintro e w' ⟨rfl, ⟨nd, rfl⟩⟩; refine ⟨_, rfl, ?_⟩))
      go_ret
      exact fin
     ·rw [if_neg c41] at H
      have c41b0 := beq_eq_false_iff_ne.mpr c41
      have c41b1 := bne_iff_ne.mpr c41
      by_cases c49 : a3 = 6
      ·rw [if_pos c49] at H
       have c49b0 := beq_iff_eq.mpr c49
       have c49b1 := bne_eq_false_iff_eq.mpr c49
       clear c49
       by_cases c50 : a4 = 0
       ·rw [if_pos c50] at H
        have c50b0 := beq_iff_eq.mpr c50
        have c50b1 := bne_eq_false_iff_eq.mpr c50
        clear c50
        obtain rfl := Option.some.inj H; clear H
        go_enter Try.func44, Try.ntmps44
        go_wp2
        go_ret
        exact fin
       ·rw [if_neg c50] at H
        have c50b0 := beq_eq_false_iff_ne.mpr c50
        have c50b1 := bne_iff_ne.mpr c50
        obtain rfl := Option.some.inj H; clear H
        go_enter Try.func44, Try.ntmps44
        go_wp2
        go_ret
        exact fin
      ·rw [if_neg c49] at H
       have c49b0 := beq_eq_false_iff_ne.mpr c49
       have c49b1 := bne_iff_ne.mpr c49
       by_cases c57 : a3 = 7
       ·rw [if_pos c57] at H
        have c57b0 := beq_iff_eq.mpr c57
        have c57b1 := bne_eq_false_iff_eq.mpr c57
        clear c57
        by_cases c58 : a4 ≥ 0
        ·rw [if_pos c58] at H
         have c58b0 : decide (0 ≤ a4) = true := decide_eq_true c58
         clear c58
         by_cases c59 : a4 < (l0_1.length : Int)
         ·rw [if_pos c59] at H
          have c59b0 : decide (a4 < (l0_1.length : Int)) = true := decide_eq_true c59
          clear c59
          by_cases c60 : 0 ≤ a4
          ·rw [if_pos c60] at H
           have c60b0 : decide (0 ≤ a4) = true := decide_eq_true c60
           clear c60
           obtain rfl := Option.some.inj H; clear H
           go_enter Try.func44, Try.ntmps44
           go_wp2_with (first | ((with_reducible refine gd 5 rfl ?_); (try (refine gate_guard (by rfl) ?_; dsimp only)); refine bx 5 #[.slice A0_0 l0_0.length c0_0, .slice A0_1 l0_1.length c0_1] 31 ?_; intro gb358 hg w61 hbox hb; have BK358 := Aside0.mk hbox; have GW358 := hz HB hg; have GE358 := hz HB hg; replace HB := hs HB hb; clear hb hbox hg) | ((with_reducible refine gd 6 rfl ?_); (try (refine gate_guard (by rfl) ?_; dsimp only)); refine bx 6 #[.int .i64 a1_0, .int .i64 a1_1, .slice A1_2 l1_2.length c1_2, .int .i64 a1_3, .int .i64 a1_4, .slice A1_5 l1_5.length c1_5, .slice A1_6 l1_6.length c1_6, .slice A1_7 l1_7.length c1_7] 46 ?_; intro gb359 hg w62 hbox hb; have BK359 := Aside0.mk hbox; have GW359 := hz HB hg; have GE359 := hz HB hg; have NB358_359 := nl BK358 hg; have NB359_358 := ng BK358 hg; replace BK358 := kb BK358 hb; replace HB := hs HB hb; clear hb hbox hg) | ((with_reducible refine gd 7 rfl ?_); (try (refine gate_guard (by rfl) ?_; dsimp only)); refine bx 7 #[.int .i64 a2_0, .int .i64 a2_1, .int .i64 a2_2] 67 ?_; intro gb360 hg w63 hbox hb; have BK360 := Aside0.mk hbox; have GW360 := hz HB hg; have GE360 := hz HB hg; have NB358_360 := nl BK358 hg; have NB360_358 := ng BK358 hg; have NB359_360 := nl BK359 hg; have NB360_359 := ng BK359 hg; replace BK358 := kb BK358 hb; replace BK359 := kb BK359 hb; replace HB := hs HB hb; clear hb hbox hg; have hnb64 := NB358_359.out; have hnc64 := NB359_358.out; have hnb65 := NB358_360.out; have hnc65 := NB360_358.out; obtain ⟨_,_,_,_⟩ := cf2 BK358; have p363 : 0 ≤ (a4 : Int) := od; have q363 : a4 < (l0_1.length : Int) := od; obtain ⟨ad363, A363_2, c363_2, A363_5, c363_5, A363_6, c363_6, A363_7, c363_7, e363, hx363_0, hx363_1, hx363_2, hx363_3, hx363_4, hx363_5, hx363_6, hx363_7, hl363_2, hi363_2, hl363_5, hi363_5, hl363_6, hi363_6, hl363_7, hi363_7⟩ := at_T46 HR0_1.out a4 p363 q363; cases e363; obtain ⟨hx363_0,hx363_1,hx363_2,hx363_3,hx363_4,hx363_5,hx363_6,hx363_7⟩ := hc8 HB hx363_0 hx363_1 hx363_2 hx363_3 hx363_4 hx363_5 hx363_6 hx363_7; have HR363_2 := Aside0.mk hi363_2; have HC363_2 := Aside0.mk hl363_2; clear hi363_2 hl363_2; have HR363_5 := Aside0.mk hi363_5; have HC363_5 := Aside0.mk hl363_5; clear hi363_5 hl363_5; have HR363_6 := Aside0.mk hi363_6; have HC363_6 := Aside0.mk hl363_6; clear hi363_6 hl363_6; have HR363_7 := Aside0.mk hi363_7; have HC363_7 := Aside0.mk hl363_7; clear hi363_7 hl363_7; replace p363 := eq_true p363; replace q363 := eq_true q363))
           go_ret
           exact fin
          ·rw [if_neg c60] at H
           exact absurd H (by simp)
         ·rw [if_neg c59] at H
          have c59b0 : decide (a4 < (l0_1.length : Int)) = false := decide_eq_false c59
          clear c59
          obtain rfl := Option.some.inj H; clear H
          go_enter Try.func44, Try.ntmps44
          go_wp2
          go_ret
          exact fin
        ·rw [if_neg c58] at H
         have c58b0 : decide (0 ≤ a4) = false := decide_eq_false c58
         clear c58
         obtain rfl := Option.some.inj H; clear H
         go_enter Try.func44, Try.ntmps44
         go_wp2
         go_ret
         exact fin
       ·rw [if_neg c57] at H
        have c57b0 := beq_eq_false_iff_ne.mpr c57
        have c57b1 := bne_iff_ne.mpr c57
        by_cases c76 : a3 = 8
        ·rw [if_pos c76] at H
         have c76b0 := beq_iff_eq.mpr c76
         have c76b1 := bne_eq_false_iff_eq.mpr c76
         clear c76
         by_cases c77 : a4 ≥ 0
         ·rw [if_pos c77] at H
          have c77b0 : decide (0 ≤ a4) = true := decide_eq_true c77
          clear c77
          obtain ⟨t364, A78, H⟩ := ob H
          obtain rfl := Option.some.inj H; clear H
          go_enter Try.func44, Try.ntmps44
          go_wp2_with (first | ((with_reducible refine gd 5 rfl ?_); (try (refine gate_guard (by rfl) ?_; dsimp only)); refine bx 5 #[.slice A0_0 l0_0.length c0_0, .slice A0_1 l0_1.length c0_1] 31 ?_; intro gb358 hg w79 hbox hb; have BK358 := Aside0.mk hbox; have GW358 := hz HB hg; have GE358 := hz HB hg; replace HB := hs HB hb; clear hb hbox hg) | ((with_reducible refine gd 6 rfl ?_); (try (refine gate_guard (by rfl) ?_; dsimp only)); refine bx 6 #[.int .i64 a1_0, .int .i64 a1_1, .slice A1_2 l1_2.length c1_2, .int .i64 a1_3, .int .i64 a1_4, .slice A1_5 l1_5.length c1_5, .slice A1_6 l1_6.length c1_6, .slice A1_7 l1_7.length c1_7] 46 ?_; intro gb359 hg w80 hbox hb; have BK359 := Aside0.mk hbox; have GW359 := hz HB hg; have GE359 := hz HB hg; have NB358_359 := nl BK358 hg; have NB359_358 := ng BK358 hg; replace BK358 := kb BK358 hb; replace HB := hs HB hb; clear hb hbox hg) | ((with_reducible refine gd 7 rfl ?_); (try (refine gate_guard (by rfl) ?_; dsimp only)); refine bx 7 #[.int .i64 a2_0, .int .i64 a2_1, .int .i64 a2_2] 67 ?_; intro gb360 hg w81 hbox hb; have BK360 := Aside0.mk hbox; have GW360 := hz HB hg; have GE360 := hz HB hg; have NB358_360 := nl BK358 hg; have NB360_358 := ng BK358 hg; have NB359_360 := nl BK359 hg; have NB360_359 := ng BK359 hg; replace BK358 := kb BK358 hb; replace BK359 := kb BK359 hb; replace HB := hs HB hb; clear hb hbox hg; have hnb82 := NB358_359.out; have hnc82 := NB359_358.out; have hnb83 := NB358_360.out; have hnc83 := NB360_358.out; obtain ⟨_,_,_,_⟩ := cf2 BK358; have hnb85 := NB360_359.out; have hnc85 := NB359_360.out; obtain ⟨_,_,_,_,_,_⟩ := cf3 BK360) | (go_at_call 64; (with_reducible refine (impl_classFields.calls k _ _ l0_0 a2_1 t364 _ ?side1 ?side2 A78.out).mono ?_); (case side1 => exact cb HR0_0.out); (case side2 => exact HC0_0.out); rintro e w87 ⟨v365, rfl, ho0, hb⟩; have HO366 := Aside0.mk (Kd.R_lower ho0 (below_size bl)); replace BK358 := kb BK358 hb; replace BK359 := kb BK359 hb; replace BK360 := kb BK360 hb; replace HB := hs HB hb; (try clear hb); (try clear ho0); obtain ⟨Ao88, co88, eo88⟩ := Kd.R_slice HO366.out; subst eo88))
          go_ret
          exact fin
         ·rw [if_neg c77] at H
          have c77b0 : decide (0 ≤ a4) = false := decide_eq_false c77
          clear c77
          obtain rfl := Option.some.inj H; clear H
          go_enter Try.func44, Try.ntmps44
          go_wp2
          go_ret
          exact fin
        ·rw [if_neg c76] at H
         have c76b0 := beq_eq_false_iff_ne.mpr c76
         have c76b1 := bne_iff_ne.mpr c76
         by_cases c92 : a3 = 9
         ·rw [if_pos c92] at H
          have c92b0 := beq_iff_eq.mpr c92
          have c92b1 := bne_eq_false_iff_eq.mpr c92
          clear c92
          by_cases c93 : a4 ≥ 0
          ·rw [if_pos c93] at H
           have c93b0 : decide (0 ≤ a4) = true := decide_eq_true c93
           clear c93
           obtain rfl := Option.some.inj H; clear H
           go_enter Try.func44, Try.ntmps44
           go_wp2
           go_ret
           exact fin
          ·rw [if_neg c93] at H
           have c93b0 : decide (0 ≤ a4) = false := decide_eq_false c93
           clear c93
           obtain rfl := Option.some.inj H; clear H
           go_enter Try.func44, Try.ntmps44
           go_wp2
           go_ret
           exact fin
         ·rw [if_neg c92] at H
          have c92b0 := beq_eq_false_iff_ne.mpr c92
          have c92b1 := bne_iff_ne.mpr c92
          obtain rfl := Option.some.inj H; clear H
          go_enter Try.func44, Try.ntmps44
          go_wp2
          go_ret
          exact fin
end Go.Proofs.Ytedodaifpekahaa.P

end
section

namespace Go.Proofs.Ytedodaifpekahaa.P
open Go.RowKit Go.Proofs.YtedodaifpekahaaW.PrintWords Go.Proofs.YtedodaifpekahaaW.PrintLast Go.Proofs.YtedodaifpekahaaW.PrintMore
attribute [local go_sem] max2_int min2_int max_two min_two max_three min_three max_four min_four
set_option linter.unusedVariables false
set_option linter.unusedSimpArgs false
set_option maxHeartbeats 8000000 in
set_option maxRecDepth 100000 in
theorem impl_shapeOk.calls (k : Nat) (A0 : Option Addr) (c0 : Nat) (l0 : List (S76)) (a1 : Int) (a2_0 : Bool) (A2_1 : Option Addr) (c2_1 : Nat) (l2_1 : List Int) (A2_2 : Option Addr) (c2_2 : Nat) (l2_2 : List Int) (r : Bool) (w : World) (hr0 : Kd.C k76 w A0 l0.length l0) (hc0 : l0.length ≤ c0) (hr2_1 : Kd.C (Kd.int .i64) w A2_1 l2_1.length l2_1) (hc2_1 : l2_1.length ≤ c2_1) (hr2_2 : Kd.C (Kd.int .i64) w A2_2 l2_2.length l2_2) (hc2_2 : l2_2.length ≤ c2_2) (h : impl_shapeOk.f k l0 a1 a2_0 l2_1 l2_2 = some r) :
  Calls Try.prog 45 #[.slice A0 l0.length c0, .int .i64 a1, .agg #[.bool a2_0, .slice A2_1 l2_1.length c2_1, .slice A2_2 l2_2.length c2_2]] w fun e w' => e = .returned (.bool r) ∧ Below w.heap.size w w' := by
 have hu70 := Try.underlying70
 have hkq := kindEql
 have hkn := kindNeq
 have hkp := guardNilE
 have hkr := guardNilN
 have HR0 := Aside0.mk hr0
 have HC0 := Aside0.mk hc0
 clear hr0 hc0
 have HR2_1 := Aside0.mk hr2_1
 have HC2_1 := Aside0.mk hc2_1
 clear hr2_1 hc2_1
 have HR2_2 := Aside0.mk hr2_2
 have HC2_2 := Aside0.mk hc2_2
 clear hr2_2 hc2_2
 have HB := Aside0.mk (Below.refl w.heap.size w)
 have H : (if a2_0 = true then (if (l2_1.length : Int) = a1 then (impl_shapeOk.j0 k l0 (decide ((l2_2.length : Int) > 4)) a2_0 l2_1 l2_2) else (impl_shapeOk.j0 k l0 true a2_0 l2_1 l2_2)) else (if (l2_1.length : Int) = 0 then (some ((l2_2.length : Int) == 0)) else (some false))) = some r := h
 clear h
 by_cases c4 : a2_0 = true
 ·subst c4
  replace H := it H
  have HC5 := Aside0.mk H
  clear H
  go_enter Try.func45, Try.ntmps45
  go_upto_region 3 with (first | ((with_reducible refine gd 5 rfl ?_); (try (refine gate_guard (by rfl) ?_; dsimp only)); refine bx 5 #[.bool true, .slice A2_1 l2_1.length c2_1, .slice A2_2 l2_2.length c2_2] 70 ?_; intro gb367 hg w6 hbox hb; have BK367 := Aside0.mk hbox; have GW367 := hz HB hg; have GE367 := hz HB hg; replace HB := hs HB hb; clear hb hbox hg; obtain ⟨_,_,_,_,_,_⟩ := cf3 BK367))
  (try simp only [Act.put, List.setIfInBounds_toArray, List.set_cons_zero, List.set_cons_succ])
  go_cut [34] (fun v34 wc => ∃ (kq : Nat) (x34_4 : Bool), v34 = .bool x34_4 ∧ Aside0 (impl_shapeOk.j0 kq l0 x34_4 true l2_1 l2_2 = some r) ∧ Aside0 (kq ≤ k) ∧ Aside0 (wc.heap[gb367]? = some (.cells #[.bool true, (.slice A2_1 l2_1.length c2_1), (.slice A2_2 l2_2.length c2_2)] 70 (0, 0))) ∧ Aside0 (Below w.heap.size w wc))
  case first =>
   have H := HC5.out
   clear HC5
   by_cases c8 : (l2_1.length : Int) = a1
   ·rw [if_pos c8] at H
    have c8b0 := beq_iff_eq.mpr c8
    have c8b1 := bne_eq_false_iff_eq.mpr c8
    clear c8
    (first | rw [c8b0] | (simp only [i64_w, i32_w]; rw [c8b0]) | skip)
    have H' := Aside0.mk H
    clear H
    obtain ⟨_,_,_,_,_,_⟩ := cf3 BK367
    go_wp2
    go_meet
    case rel => exact ⟨_, (decide ((l2_2.length : Int) > 4)), (by first | rfl | (simp; done) | (simp [*]; done)), H', ⟨by first | omega | exact Nat.le_refl _⟩, kk BK367, ⟨bl⟩⟩
   ·rw [if_neg c8] at H
    have c8b0 := beq_eq_false_iff_ne.mpr c8
    have c8b1 := bne_iff_ne.mpr c8
    (first | rw [c8b0] | (simp only [i64_w, i32_w]; rw [c8b0]) | skip)
    have H' := Aside0.mk H
    clear H
    obtain ⟨_,_,_,_,_,_⟩ := cf3 BK367
    go_wp2
    go_meet
    case rel => exact ⟨_, (true), (by first | rfl | (simp; done) | (simp [*]; done)), H', ⟨by first | omega | exact Nat.le_refl _⟩, kk BK367, ⟨bl⟩⟩
  case rest =>
   clear HC5
   obtain ⟨kq, x34_4, rfl, HA, HJ4, BK367, HB⟩ := hcut
   cases kq with
   | zero => exact absurd HA.out (by simp [impl_shapeOk.j0])
   | succ kj4 =>
    have H := HA.out
    clear HA
    simp only [impl_shapeOk.j0] at H
    by_cases c11 : x34_4 = true
    ·subst c11
     replace H := it H
     obtain rfl := Option.some.inj H; clear H
     go_wp2
     go_ret
     exact fin
    ·replace c11 := Bool.eq_false_iff.mpr c11
     subst c11
     replace H := ie H
     have H' := Aside0.mk H
     clear H
     obtain ⟨_,_,_,_,_,_⟩ := cf3 BK367
     go_wp2
     go_loopg [38] kj4 (fun kq v38 w' => ∃ (x38_2 : Int), v38 = .int .i64 x38_2 ∧ Aside0 (impl_shapeOk.l0 kq l0 l2_1 (l2_1.length : Int) x38_2 true l2_1 l2_2 = some r) ∧ Aside0 (kq ≤ kj4) ∧ Aside0 (w'.heap[gb367]? = some (.cells #[.bool true, (.slice A2_1 l2_1.length c2_1), (.slice A2_2 l2_2.length c2_2)] 70 (0, 0))) ∧ Aside0 (Below w.heap.size w w'))
     case atStart => exact ⟨(0), (by first | rfl | (simp; done) | (simp [*]; done)), H', ⟨Nat.le_refl _⟩, kk BK367, ⟨bl⟩⟩
     case round =>
      clear H'
      obtain ⟨x38_2, rfl, HA, HK2, BK367, HB⟩ := hrel
      cases gk with
      | zero => exact absurd HA.out (by simp [impl_shapeOk.l0])
      | succ k2 =>
       have H := HA.out
       clear HA
       simp only [impl_shapeOk.l0] at H
       by_cases c13 : x38_2 < (l2_1.length : Int)
       ·rw [if_pos c13] at H
        have c13b0 : decide (x38_2 < (l2_1.length : Int)) = true := decide_eq_true c13
        clear c13
        by_cases c14 : 0 ≤ x38_2
        ·rw [if_pos c14] at H
         have c14b0 : decide (0 ≤ x38_2) = true := decide_eq_true c14
         clear c14
         by_cases c15 : x38_2 < (l2_1.length : Int)
         ·rw [if_pos c15] at H
          have c15b0 : decide (x38_2 < (l2_1.length : Int)) = true := decide_eq_true c15
          clear c15
          obtain ⟨t369, A16, H⟩ := ob H
          by_cases c17 : t369 = (-1)
          ·rw [if_pos c17] at H
           have c17b0 := beq_iff_eq.mpr c17
           have c17b1 := bne_eq_false_iff_eq.mpr c17
           clear c17
           obtain rfl := Option.some.inj H; clear H
           have p368 : 0 ≤ (x38_2 : Int) := od
           have q368 : x38_2 < (l2_1.length : Int) := od
           obtain ⟨ad368, e368, hx368_0⟩ := Kd.at_int HR2_1.out x38_2 p368 q368
           cases e368
           replace hx368_0 := hc HB hx368_0
           replace p368 := eq_true p368
           replace q368 := eq_true q368
           go_wp2_with (first | ((with_reducible refine gc 62 rfl ?_); refine gl (some 45) Try.func62 #[.int .i64 (l0.length : Int), .int .i64 (rd l2_1 x38_2)] rfl ?_; (with_reducible refine (impl_kindOf.calls (l0.length : Int) (rd l2_1 x38_2) t369 _ A16.out).mono ?_); rintro e w' ⟨rfl, ⟨nd, rfl⟩⟩; refine ⟨_, rfl, ?_⟩))
           go_ret
           exact fin
          ·rw [if_neg c17] at H
           have c17b0 := beq_eq_false_iff_ne.mpr c17
           have c17b1 := bne_iff_ne.mpr c17
           have H' := Aside0.mk H
           clear H
           have p368 : 0 ≤ (x38_2 : Int) := od
           have q368 : x38_2 < (l2_1.length : Int) := od
           obtain ⟨ad368, e368, hx368_0⟩ := Kd.at_int HR2_1.out x38_2 p368 q368
           cases e368
           replace hx368_0 := hc HB hx368_0
           replace p368 := eq_true p368
           replace q368 := eq_true q368
           go_wp2_with (first | ((with_reducible refine gc 62 rfl ?_); refine gl (some 45) Try.func62 #[.int .i64 (l0.length : Int), .int .i64 (rd l2_1 x38_2)] rfl ?_; (with_reducible refine (impl_kindOf.calls (l0.length : Int) (rd l2_1 x38_2) t369 _ A16.out).mono ?_); rintro e w' ⟨rfl, ⟨nd, rfl⟩⟩; refine ⟨_, rfl, ?_⟩))
           go_roundg k2
           case measure => have := HJ4.out; have := HK2.out; omega
           case rel => exact ⟨(wrap64 (x38_2 + 1)), (by first | rfl | (simp; done) | (simp [*]; done)), H', ⟨by have := HJ4.out; have := HK2.out; omega⟩, kk BK367, ⟨bl⟩⟩
         ·rw [if_neg c15] at H
          exact absurd H (by simp)
        ·rw [if_neg c14] at H
         exact absurd H (by simp)
       ·rw [if_neg c13] at H
        have c13b0 : decide (x38_2 < (l2_1.length : Int)) = false := decide_eq_false c13
        clear c13
        have H' := Aside0.mk H
        clear H
        obtain ⟨_,_,_,_,_,_⟩ := cf3 BK367
        go_wp2
        go_loopg [51] k2 (fun kq v51 w' => ∃ (x51_3 : Int), v51 = .int .i64 x51_3 ∧ Aside0 (impl_shapeOk.l1 kq l0 l2_2 (l2_2.length : Int) x51_3 = some r) ∧ Aside0 (kq ≤ k2) ∧ Aside0 (w'.heap[gb367]? = some (.cells #[.bool true, (.slice A2_1 l2_1.length c2_1), (.slice A2_2 l2_2.length c2_2)] 70 (0, 0))) ∧ Aside0 (Below w.heap.size w w'))
        case atStart => exact ⟨(0), (by first | rfl | (simp; done) | (simp [*]; done)), H', ⟨Nat.le_refl _⟩, kk BK367, ⟨bl⟩⟩
        case round =>
         clear H'
         obtain ⟨x51_3, rfl, HA, HK3, BK367, HB⟩ := hrel
         cases gk with
         | zero => exact absurd HA.out (by simp [impl_shapeOk.l1])
         | succ k3 =>
          have H := HA.out
          clear HA
          simp only [impl_shapeOk.l1] at H
          by_cases c19 : x51_3 < (l2_2.length : Int)
          ·rw [if_pos c19] at H
           have c19b0 : decide (x51_3 < (l2_2.length : Int)) = true := decide_eq_true c19
           clear c19
           by_cases c20 : 0 ≤ x51_3
           ·rw [if_pos c20] at H
            have c20b0 : decide (0 ≤ x51_3) = true := decide_eq_true c20
            clear c20
            by_cases c21 : x51_3 < (l2_2.length : Int)
            ·rw [if_pos c21] at H
             have c21b0 : decide (x51_3 < (l2_2.length : Int)) = true := decide_eq_true c21
             clear c21
             by_cases c22 : (rd l2_2 x51_3) = 0
             ·rw [if_pos c22] at H
              have c22b0 := beq_iff_eq.mpr c22
              have c22b1 := bne_eq_false_iff_eq.mpr c22
              clear c22
              obtain rfl := Option.some.inj H; clear H
              have p370 : 0 ≤ (x51_3 : Int) := od
              have q370 : x51_3 < (l2_2.length : Int) := od
              obtain ⟨ad370, e370, hx370_0⟩ := Kd.at_int HR2_2.out x51_3 p370 q370
              cases e370
              replace hx370_0 := hc HB hx370_0
              replace p370 := eq_true p370
              replace q370 := eq_true q370
              go_wp2
              go_ret
              exact fin
             ·rw [if_neg c22] at H
              have c22b0 := beq_eq_false_iff_ne.mpr c22
              have c22b1 := bne_iff_ne.mpr c22
              obtain ⟨t371, A23, H⟩ := ob H
              by_cases c24 : t371 = (-1)
              ·rw [if_pos c24] at H
               have c24b0 := beq_iff_eq.mpr c24
               have c24b1 := bne_eq_false_iff_eq.mpr c24
               clear c24
               obtain rfl := Option.some.inj H; clear H
               have p370 : 0 ≤ (x51_3 : Int) := od
               have q370 : x51_3 < (l2_2.length : Int) := od
               obtain ⟨ad370, e370, hx370_0⟩ := Kd.at_int HR2_2.out x51_3 p370 q370
               cases e370
               replace hx370_0 := hc HB hx370_0
               replace p370 := eq_true p370
               replace q370 := eq_true q370
               go_wp2_with (first | (go_at_call 62; (with_reducible refine (impl_kindOf.calls (l0.length : Int) (rd l2_2 x51_3) t371 _ A23.out).mono ?_); rintro e w' ⟨rfl, ⟨nd, rfl⟩⟩))
               go_ret
               exact fin
              ·rw [if_neg c24] at H
               have c24b0 := beq_eq_false_iff_ne.mpr c24
               have c24b1 := bne_iff_ne.mpr c24
               have H' := Aside0.mk H
               clear H
               have p370 : 0 ≤ (x51_3 : Int) := od
               have q370 : x51_3 < (l2_2.length : Int) := od
               obtain ⟨ad370, e370, hx370_0⟩ := Kd.at_int HR2_2.out x51_3 p370 q370
               cases e370
               replace hx370_0 := hc HB hx370_0
               replace p370 := eq_true p370
               replace q370 := eq_true q370
               go_wp2_with (first | (go_at_call 62; (with_reducible refine (impl_kindOf.calls (l0.length : Int) (rd l2_2 x51_3) t371 _ A23.out).mono ?_); rintro e w' ⟨rfl, ⟨nd, rfl⟩⟩))
               go_roundg k3
               case measure => have := HJ4.out; have := HK2.out; have := HK3.out; omega
               case rel => exact ⟨(wrap64 (x51_3 + 1)), (by first | rfl | (simp; done) | (simp [*]; done)), H', ⟨by have := HJ4.out; have := HK2.out; have := HK3.out; omega⟩, kk BK367, ⟨bl⟩⟩
            ·rw [if_neg c21] at H
             exact absurd H (by simp)
           ·rw [if_neg c20] at H
            exact absurd H (by simp)
          ·rw [if_neg c19] at H
           have c19b0 : decide (x51_3 < (l2_2.length : Int)) = false := decide_eq_false c19
           clear c19
           obtain rfl := Option.some.inj H; clear H
           go_wp2
           go_ret
           exact fin
 ·replace c4 := Bool.eq_false_iff.mpr c4
  subst c4
  replace H := ie H
  by_cases c25 : (l2_1.length : Int) = 0
  ·rw [if_pos c25] at H
   have c25b0 := beq_iff_eq.mpr c25
   have c25b1 := bne_eq_false_iff_eq.mpr c25
   clear c25
   obtain rfl := Option.some.inj H; clear H
   go_enter Try.func45, Try.ntmps45
   go_wp2
   go_ret
   exact fin
  ·rw [if_neg c25] at H
   have c25b0 := beq_eq_false_iff_ne.mpr c25
   have c25b1 := bne_iff_ne.mpr c25
   have c25b2 : ¬ (l2_1 = []) := fun h_ => c25 (by rw [h_]; rfl)
   obtain rfl := Option.some.inj H; clear H
   go_enter Try.func45, Try.ntmps45
   go_wp2
   go_ret
   exact fin
end Go.Proofs.Ytedodaifpekahaa.P

end
