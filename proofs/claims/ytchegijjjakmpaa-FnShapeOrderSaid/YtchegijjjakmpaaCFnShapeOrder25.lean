/- A part of the claim FnShapeOrder: texts of this session and texts that its program printed out of the translation, joined. -/
import Derived.Test.YtchegijjjakmpaaCFnShapeOrder22
import Derived.Test.YtchegijjjakmpaaCFnShapeOrder23
import Derived.Test.YtchegijjjakmpaaCFnShapeOrder24
import Derived.Test.YtchegijjjakmpaaCFnShapeOrder0
import Derived.Test.YtchegijjjakmpaaCFnShapeOrder1
import Derived.Test.YtchegijjjakmpaaCFnShapeOrder2
import Derived.Test.YtchegijjjakmpaaCFnShapeOrder3
import Derived.Test.YtchegijjjakmpaaCFnShapeOrder4
import Derived.Test.YtchegijjjakmpaaCFnShapeOrder5
import Derived.Test.YtchegijjjakmpaaCFnShapeOrder6
import Derived.Test.YtchegijjjakmpaaCFnShapeOrder7
import Derived.Test.YtchegijjjakmpaaCFnShapeOrder8
import Derived.Test.YtchegijjjakmpaaCFnShapeOrder9
import Derived.Test.YtchegijjjakmpaaCFnShapeOrder10
import Derived.Test.YtchegijjjakmpaaCFnShapeOrder11
import Derived.Test.YtchegijjjakmpaaCFnShapeOrder12
import Derived.Test.YtchegijjjakmpaaCFnShapeOrder13
import Derived.Test.YtchegijjjakmpaaCFnShapeOrder14
import Derived.Test.YtchegijjjakmpaaCFnShapeOrder15
import Derived.Test.YtchegijjjakmpaaCFnShapeOrder16
import Derived.Test.YtchegijjjakmpaaCFnShapeOrder17
import Derived.Test.YtchegijjjakmpaaCFnShapeOrder18
import Derived.Test.YtchegijjjakmpaaCFnShapeOrder19
import Derived.Test.YtchegijjjakmpaaCFnShapeOrder20
import Derived.Test.YtchegijjjakmpaaCFnShapeOrder21
section

namespace Go.Proofs.Ytchegijjjakmpaa.P
open Go.RowKit Go.Proofs.YtchegijjjakmpaaW.PrintWords Go.Proofs.YtchegijjjakmpaaW.PrintLast Go.Proofs.YtchegijjjakmpaaW.PrintMore
attribute [local go_sem] max2_int min2_int max_two min_two max_three min_three max_four min_four
set_option linter.unusedVariables false
set_option linter.unusedSimpArgs false
set_option maxHeartbeats 8000000 in
set_option maxRecDepth 100000 in
theorem spec_l71Type.calls (k : Nat) (g : Nat) (s0_0 : List Int) (s0_1 : Int) (a1 : Int) (r1 : Int) (r2 : Int) (w0 w : World) (hI : IsS40 w0 w g s0_0 s0_1) (hB : Below w0.heap.size w0 w) (h : spec_l71Type.f k s0_0 s0_1 a1 = some (r1, r2)) :
  Calls Try.prog 28 #[.pointer (some ⟨g, 0, none⟩), .int .i64 a1] w fun e w' => e = .returned (.int .i64 r1) ∧ IsS40 w0 w' g s0_0 r2 ∧ Below w0.heap.size w0 w' ∧ KeepBut w w' g none := by
 have HI0 := Aside0.mk hI
 have HK := Aside0.mk (KeepBut.refl w g none)
 have HL := Aside0.mk hB.size
 clear hI
 have HW0 := Aside0.mk hB.size
 have HB := Aside0.mk hB
 clear hB
 have H : ((spec_l6Rd_pick.f k s0_0 s0_1 8).bind fun bt139 => (if bt139.1 = 0 then (some (2, bt139.2)) else (if bt139.1 = 1 then (some (0, bt139.2)) else (if bt139.1 = 2 then ((spec_l6Rd_pick.f k s0_0 bt139.2 6).bind fun bt141 => (if bt141.1 = 0 then ((some (([(-1), 5, 7, wrap64 (8 + a1)] : List Int) : List Int)).bind fun y143 => ((spec_l6Rd_pick.f k s0_0 bt141.2 4).bind fun bt146 => (if 0 ≤ bt146.1 then (if bt146.1 < (y143.length : Int) then (some (rd y143 bt146.1, bt146.2)) else (none)) else (none)))) else ((spec_l71Field.f k s0_0 bt141.2 a1).bind fun bt149 => (some (bt149.1, bt149.2))))) else ((spec_l71Field.f k s0_0 bt139.2 a1).bind fun bt151 => (some (bt151.1, bt151.2))))))) = some (r1, r2) := h
 clear h
 replace H := Option.bind_eq_some_iff.mp H
 obtain ⟨⟨t139, t140⟩, A30, H⟩ := H
 replace H : (if t139 = 0 then (some (2, t140)) else (if t139 = 1 then (some (0, t140)) else (if t139 = 2 then ((spec_l6Rd_pick.f k s0_0 t140 6).bind fun bt141 => (if bt141.1 = 0 then ((some (([(-1), 5, 7, wrap64 (8 + a1)] : List Int) : List Int)).bind fun y143 => ((spec_l6Rd_pick.f k s0_0 bt141.2 4).bind fun bt146 => (if 0 ≤ bt146.1 then (if bt146.1 < (y143.length : Int) then (some (rd y143 bt146.1, bt146.2)) else (none)) else (none)))) else ((spec_l71Field.f k s0_0 bt141.2 a1).bind fun bt149 => (some (bt149.1, bt149.2))))) else ((spec_l71Field.f k s0_0 t140 a1).bind fun bt151 => (some (bt151.1, bt151.2)))))) = some (r1, r2) := H
 have A3 := Aside0.mk A30
 clear A30
 by_cases c4 : t139 = 0
 ·rw [if_pos c4] at H
  have c4b0 := beq_iff_eq.mpr c4
  have c4b1 := bne_eq_false_iff_eq.mpr c4
  clear c4
  simp only [Option.some.injEq, Prod.mk.injEq] at H
  obtain ⟨rfl, rfl⟩ := H
  go_enter Try.func28, Try.ntmps28
  go_wp2_with (first | ((with_reducible refine gc 10 rfl ?_); refine gl (some 6) Try.func10 #[.pointer (some ⟨g, 0, none⟩), .int .i64 8] rfl ?_; (with_reducible refine (spec_l6Rd_pick.calls k g s0_0 s0_1 8 t139 t140 w0 _ ?side1 ?side2 A3.out).mono ?_); (case side1 => exact iS); (case side2 => exact bS); rintro e w5 ⟨rfl, hi, hb, hk⟩; refine ⟨_, rfl, ?_⟩; replace HK := kT HK hk; replace HI0 := Aside0.mk (hi); replace HB := Aside0.mk (hb)))
  go_ret
  exact ⟨by first | rfl | (simp [errW_none, errW_some] <;> rfl) | (simp [*, errW_none, errW_some] <;> rfl), iS, bS, kU⟩
 ·rw [if_neg c4] at H
  have c4b0 := beq_eq_false_iff_ne.mpr c4
  have c4b1 := bne_iff_ne.mpr c4
  by_cases c6 : t139 = 1
  ·rw [if_pos c6] at H
   have c6b0 := beq_iff_eq.mpr c6
   have c6b1 := bne_eq_false_iff_eq.mpr c6
   clear c6
   simp only [Option.some.injEq, Prod.mk.injEq] at H
   obtain ⟨rfl, rfl⟩ := H
   go_enter Try.func28, Try.ntmps28
   go_wp2_with (first | ((with_reducible refine gc 10 rfl ?_); refine gl (some 6) Try.func10 #[.pointer (some ⟨g, 0, none⟩), .int .i64 8] rfl ?_; (with_reducible refine (spec_l6Rd_pick.calls k g s0_0 s0_1 8 t139 t140 w0 _ ?side1 ?side2 A3.out).mono ?_); (case side1 => exact iS); (case side2 => exact bS); rintro e w7 ⟨rfl, hi, hb, hk⟩; refine ⟨_, rfl, ?_⟩; replace HK := kT HK hk; replace HI0 := Aside0.mk (hi); replace HB := Aside0.mk (hb)))
   go_ret
   exact ⟨by first | rfl | (simp [errW_none, errW_some] <;> rfl) | (simp [*, errW_none, errW_some] <;> rfl), iS, bS, kU⟩
  ·rw [if_neg c6] at H
   have c6b0 := beq_eq_false_iff_ne.mpr c6
   have c6b1 := bne_iff_ne.mpr c6
   by_cases c8 : t139 = 2
   ·rw [if_pos c8] at H
    have c8b0 := beq_iff_eq.mpr c8
    have c8b1 := bne_eq_false_iff_eq.mpr c8
    clear c8
    replace H := Option.bind_eq_some_iff.mp H
    obtain ⟨⟨t141, t142⟩, A90, H⟩ := H
    replace H : (if t141 = 0 then ((some (([(-1), 5, 7, wrap64 (8 + a1)] : List Int) : List Int)).bind fun y143 => ((spec_l6Rd_pick.f k s0_0 t142 4).bind fun bt146 => (if 0 ≤ bt146.1 then (if bt146.1 < (y143.length : Int) then (some (rd y143 bt146.1, bt146.2)) else (none)) else (none)))) else ((spec_l71Field.f k s0_0 t142 a1).bind fun bt149 => (some (bt149.1, bt149.2)))) = some (r1, r2) := H
    have A9 := Aside0.mk A90
    clear A90
    by_cases c10 : t141 = 0
    ·rw [if_pos c10] at H
     have c10b0 := beq_iff_eq.mpr c10
     have c10b1 := bne_eq_false_iff_eq.mpr c10
     clear c10
     obtain ⟨y143, hy143⟩ : ∃ y_ : List Int, y_ = (([(-1), 5, 7, wrap64 (8 + a1)] : List Int)) := ⟨_, rfl⟩
     replace H : ((spec_l6Rd_pick.f k s0_0 t142 4).bind fun bt146 => (if 0 ≤ bt146.1 then (if bt146.1 < (y143.length : Int) then (some (rd y143 bt146.1, bt146.2)) else (none)) else (none))) = some (r1, r2) := by first | (rw [hy143]; with_reducible exact H) | (have H2_ := (Option.bind_some _ _).symm.trans H; rw [hy143]; with_reducible exact H2_) | (have H2_ := (Option.bind_some _ _).symm.trans H; with_reducible exact H2_) | with_reducible exact H | (rw [hy143]; exact H) | exact H
     have Ny143 := Aside0.mk hy143
     clear hy143
     replace H := Option.bind_eq_some_iff.mp H
     obtain ⟨⟨t146, t147⟩, A110, H⟩ := H
     replace H : (if 0 ≤ t146 then (if t146 < (y143.length : Int) then (some (rd y143 t146, t147)) else (none)) else (none)) = some (r1, r2) := H
     have A11 := Aside0.mk A110
     clear A110
     by_cases c12 : 0 ≤ t146
     ·rw [if_pos c12] at H
      have c12b0 : decide (0 ≤ t146) = true := decide_eq_true c12
      clear c12
      by_cases c13 : t146 < (y143.length : Int)
      ·rw [if_pos c13] at H
       have c13b0 : decide (t146 < (y143.length : Int)) = true := decide_eq_true c13
       clear c13
       simp only [Option.some.injEq, Prod.mk.injEq] at H
       obtain ⟨rfl, rfl⟩ := H
       go_enter Try.func28, Try.ntmps28
       go_wp2_with (first | ((with_reducible refine gc 10 rfl ?_); refine gl (some 6) Try.func10 #[.pointer (some ⟨g, 0, none⟩), .int .i64 8] rfl ?_; (with_reducible refine (spec_l6Rd_pick.calls k g s0_0 s0_1 8 t139 t140 w0 _ ?side1 ?side2 A3.out).mono ?_); (case side1 => exact iS); (case side2 => exact bS); rintro e w14 ⟨rfl, hi, hb, hk⟩; refine ⟨_, rfl, ?_⟩; replace HK := kT HK hk; replace HI0 := Aside0.mk (hi); replace HB := Aside0.mk (hb)) | ((with_reducible refine gc 10 rfl ?_); refine gl (some 14) Try.func10 #[.pointer (some ⟨g, 0, none⟩), .int .i64 6] rfl ?_; (with_reducible refine (spec_l6Rd_pick.calls k g s0_0 t140 6 t141 t142 w0 _ ?side1 ?side2 A9.out).mono ?_); (case side1 => exact iS); (case side2 => exact bS); rintro e w15 ⟨rfl, hi, hb, hk⟩; refine ⟨_, rfl, ?_⟩; replace HK := kT HK hk; replace HI0 := Aside0.mk (hi); replace HB := Aside0.mk (hb)) | ((with_reducible refine gd 18 rfl ?_); refine Kd.R_lit (Kd.int .i64) _ 3 ?hg (N := 18) ?hd (xs := ([(-1), 5, 7, wrap64 (8 + a1)] : List Int)) (inner := [.int .i64 (-1), .int .i64 5, .int .i64 7, .int .i64 (wrap64 (8 + a1))]) (ok := fun _ => True) (okp := fun _ => True) ?hr ?hp (fun _ hk => hk) trivial (Below.refl _ _) (Nat.le_refl _) (by simp) ?_; (case hd => rfl); (case hg => rfl); (case hr => first | (go_simp; done) | (go_simp; rfl)); (case hp => exact (Reps.one (show Kd.M (Kd.int .i64) _ _ _ (-1) [.int .i64 (-1)] from rfl) (Reps.one (show Kd.M (Kd.int .i64) _ _ _ 5 [.int .i64 5] from rfl) (Reps.one (show Kd.M (Kd.int .i64) _ _ _ 7 [.int .i64 7] from rfl) (Reps.one (show Kd.M (Kd.int .i64) _ _ _ (wrap64 (8 + a1)) [.int .i64 (wrap64 (8 + a1))] from rfl) (Reps.none _ _)))))); intro v144 w16 ho17 hb hg_ hnew_; clear hg_ hnew_; (first | rw [← Ny143.out] at ho17 | (simp only [Int.reduceToNat] at ho17; rw [← Ny143.out] at ho17)); have HO145 := Aside0.mk (Kd.R_lower ho17 (keep_size (w := w) (g := g) (row := none) kU)); replace HI0 := iB HI0 hb; replace HK := kN HK hb; replace HB := bN HB hb; clear hb ho17) | ((with_reducible refine gc 10 rfl ?_); refine gl (some 20) Try.func10 #[.pointer (some ⟨g, 0, none⟩), .int .i64 4] rfl ?_; (with_reducible refine (spec_l6Rd_pick.calls k g s0_0 t142 4 t146 t147 w0 _ ?side1 ?side2 A11.out).mono ?_); (case side1 => exact iS); (case side2 => exact bS); rintro e w18 ⟨rfl, hi, hb, hk⟩; refine ⟨_, rfl, ?_⟩; replace HO145 := Aside0.mk (Kd.R_mono (Kd.R_keep (IsS40.apart (show IsS40 w0 _ g s0_0 t142 from iS) HO145.out (by decide)) hk (fun _ h => h.2)) (fun _ h => h.1)); replace HK := kT HK hk; replace HI0 := Aside0.mk (hi); replace HB := Aside0.mk (hb); obtain ⟨Ao19, co19, eo19⟩ := Kd.R_slice HO145.out; subst eo19; have p148 : 0 ≤ (t146 : Int) := od; have q148 : t146 < (y143.length : Int) := od; obtain ⟨ad148, e148, hx148_0⟩ := Kd.at_int (Kd.R_reads' HO145.out).2.2 t146 p148 q148; cases e148; replace p148 := eq_true p148; replace q148 := eq_true q148))
       go_ret
       exact ⟨by first | rfl | (simp [errW_none, errW_some] <;> rfl) | (simp [*, errW_none, errW_some] <;> rfl), iS, bS, kU⟩
      ·rw [if_neg c13] at H
       exact absurd H (by simp)
     ·rw [if_neg c12] at H
      exact absurd H (by simp)
    ·rw [if_neg c10] at H
     have c10b0 := beq_eq_false_iff_ne.mpr c10
     have c10b1 := bne_iff_ne.mpr c10
     replace H := Option.bind_eq_some_iff.mp H
     obtain ⟨⟨t149, t150⟩, A200, H⟩ := H
     replace H : (some (t149, t150)) = some (r1, r2) := H
     have A20 := Aside0.mk A200
     clear A200
     simp only [Option.some.injEq, Prod.mk.injEq] at H
     obtain ⟨rfl, rfl⟩ := H
     go_enter Try.func28, Try.ntmps28
     go_wp2_with (first | ((with_reducible refine gc 10 rfl ?_); refine gl (some 6) Try.func10 #[.pointer (some ⟨g, 0, none⟩), .int .i64 8] rfl ?_; (with_reducible refine (spec_l6Rd_pick.calls k g s0_0 s0_1 8 t139 t140 w0 _ ?side1 ?side2 A3.out).mono ?_); (case side1 => exact iS); (case side2 => exact bS); rintro e w21 ⟨rfl, hi, hb, hk⟩; refine ⟨_, rfl, ?_⟩; replace HK := kT HK hk; replace HI0 := Aside0.mk (hi); replace HB := Aside0.mk (hb)) | ((with_reducible refine gc 10 rfl ?_); refine gl (some 14) Try.func10 #[.pointer (some ⟨g, 0, none⟩), .int .i64 6] rfl ?_; (with_reducible refine (spec_l6Rd_pick.calls k g s0_0 t140 6 t141 t142 w0 _ ?side1 ?side2 A9.out).mono ?_); (case side1 => exact iS); (case side2 => exact bS); rintro e w22 ⟨rfl, hi, hb, hk⟩; refine ⟨_, rfl, ?_⟩; replace HK := kT HK hk; replace HI0 := Aside0.mk (hi); replace HB := Aside0.mk (hb)) | ((with_reducible refine gc 37 rfl ?_); refine gl (some 25) Try.func37 #[.pointer (some ⟨g, 0, none⟩), .int .i64 a1] rfl ?_; (with_reducible refine (spec_l71Field.calls k g s0_0 t142 a1 t149 t150 w0 _ ?side1 ?side2 A20.out).mono ?_); (case side1 => exact iS); (case side2 => exact bS); rintro e w23 ⟨rfl, hi, hb, hk⟩; refine ⟨_, rfl, ?_⟩; replace HK := kT HK hk; replace HI0 := Aside0.mk (hi); replace HB := Aside0.mk (hb)))
     go_ret
     exact ⟨by first | rfl | (simp [errW_none, errW_some] <;> rfl) | (simp [*, errW_none, errW_some] <;> rfl), iS, bS, kU⟩
   ·rw [if_neg c8] at H
    have c8b0 := beq_eq_false_iff_ne.mpr c8
    have c8b1 := bne_iff_ne.mpr c8
    replace H := Option.bind_eq_some_iff.mp H
    obtain ⟨⟨t151, t152⟩, A240, H⟩ := H
    replace H : (some (t151, t152)) = some (r1, r2) := H
    have A24 := Aside0.mk A240
    clear A240
    simp only [Option.some.injEq, Prod.mk.injEq] at H
    obtain ⟨rfl, rfl⟩ := H
    go_enter Try.func28, Try.ntmps28
    go_wp2_with (first | ((with_reducible refine gc 10 rfl ?_); refine gl (some 6) Try.func10 #[.pointer (some ⟨g, 0, none⟩), .int .i64 8] rfl ?_; (with_reducible refine (spec_l6Rd_pick.calls k g s0_0 s0_1 8 t139 t140 w0 _ ?side1 ?side2 A3.out).mono ?_); (case side1 => exact iS); (case side2 => exact bS); rintro e w25 ⟨rfl, hi, hb, hk⟩; refine ⟨_, rfl, ?_⟩; replace HK := kT HK hk; replace HI0 := Aside0.mk (hi); replace HB := Aside0.mk (hb)) | ((with_reducible refine gc 37 rfl ?_); refine gl (some 25) Try.func37 #[.pointer (some ⟨g, 0, none⟩), .int .i64 a1] rfl ?_; (with_reducible refine (spec_l71Field.calls k g s0_0 t140 a1 t151 t152 w0 _ ?side1 ?side2 A24.out).mono ?_); (case side1 => exact iS); (case side2 => exact bS); rintro e w26 ⟨rfl, hi, hb, hk⟩; refine ⟨_, rfl, ?_⟩; replace HK := kT HK hk; replace HI0 := Aside0.mk (hi); replace HB := Aside0.mk (hb)))
    go_ret
    exact ⟨by first | rfl | (simp [errW_none, errW_some] <;> rfl) | (simp [*, errW_none, errW_some] <;> rfl), iS, bS, kU⟩
end Go.Proofs.Ytchegijjjakmpaa.P

end
section

namespace Go.Proofs.Ytchegijjjakmpaa.P
open Go.RowKit Go.Proofs.YtchegijjjakmpaaW.PrintWords Go.Proofs.YtchegijjjakmpaaW.PrintLast Go.Proofs.YtchegijjjakmpaaW.PrintMore
attribute [local go_sem] max2_int min2_int max_two min_two max_three min_three max_four min_four
set_option linter.unusedVariables false
set_option linter.unusedSimpArgs false
def spec_l72Shape.T5 : Bool × List (List Nat × List Nat) := (true, [([], []), ([0], [0]), ([], []), ([], []), ([2, 3], [2, 3]), ([4], [4]), ([1, 5, 4], [1, 5]), ([0, 1, 2, 3, 4, 5, 6], []), ([7, 6, 6, 0, 1, 2, 3, 4, 5, 6], [6, 7])])
def spec_l72Shape.B5 : List Nat := [0, 1, 0, 0, 12, 28, 63, 127, 255]
theorem spec_l72Shape.tab5 : rtab .any (opsOf Try.f18 5) = spec_l72Shape.T5 := by kernel_rfl
theorem spec_l72Shape.bits5 : waitsOk spec_l72Shape.T5.2 spec_l72Shape.B5 = true := by kernel_rfl
set_option maxHeartbeats 8000000 in
set_option maxRecDepth 100000 in
theorem spec_l72Shape.calls (k : Nat) (g : Nat) (s0_0 : List Int) (s0_1 : Int) (a1 : Int) (a2 : Int) (r1 : Bool) (r2 : List Int) (r3 : List Int) (r4 : Int) (w0 w : World) (hI : IsS40 w0 w g s0_0 s0_1) (hB : Below w0.heap.size w0 w) (h : spec_l72Shape.f k s0_0 s0_1 a1 a2 = some (r1, r2, r3, r4)) :
  Calls Try.prog 18 #[.pointer (some ⟨g, 0, none⟩), .int .i64 a1, .int .i64 a2] w fun e w' => ∃ v1_ v2_ : Value, e = .returned (.agg #[.bool r1, v1_, v2_]) ∧ Kd.R (Kd.int .i64) 3 w' w.heap.size (fun k_ => some k_ ≠ (v2_ : Value).ownBlock) v1_ r2 ∧ Kd.R (Kd.int .i64) 3 w' w.heap.size (fun k_ => some k_ ≠ (v1_ : Value).ownBlock) v2_ r3 ∧ IsS40 w0 w' g s0_0 r4 ∧ Below w0.heap.size w0 w' ∧ KeepBut w w' g none := by
 have hu26 := Try.underlying26
 have HI0 := Aside0.mk hI
 have HK := Aside0.mk (KeepBut.refl w g none)
 have HL := Aside0.mk hB.size
 clear hI
 have HW0 := Aside0.mk hB.size
 have HB := Aside0.mk hB
 clear hB
 have H : (spec_l72Shape.l0 k a1 a2 0 s0_0 s0_1 true ([] : List Int)) = some (r1, r2, r3, r4) := h
 clear h
 have H' := Aside0.mk H
 clear H
 go_enter Try.func18, Try.ntmps18
 go_wp2_with (first | ((with_reducible refine gd 6 rfl ?_); refine bx 6 #[.bool false, .slice none 0 0, .slice none 0 0] 26 ?_; intro gb153 hg w4 hbox hb; have BK153 := Aside0.mk hbox; have GW153 := kZ HK hg; have GE153 := kY HW0 HK hg; have NB0_153 := iL HI0 hg; have NB153_0 := iG HI0 hg; replace HI0 := iB HI0 hb; replace HK := kN HK hb; replace HB := bN HB hb; clear hb hbox hg) | ((with_reducible refine gd 7 rfl ?_); refine bx 7 #[.bool false, .slice none 0 0, .slice none 0 0] 26 ?_; intro gb154 hg w5 hbox hb; have BK154 := Aside0.mk hbox; have GW154 := kZ HK hg; have GE154 := kY HW0 HK hg; have NB153_154 := nl BK153 hg; have NB154_153 := ng BK153 hg; have NB0_154 := iL HI0 hg; have NB154_0 := iG HI0 hg; replace HI0 := iB HI0 hb; replace BK153 := kb BK153 hb; replace HK := kN HK hb; replace HB := bN HB hb; clear hb hbox hg; have hnb6 := NB154_153.out; have hnc6 := NB153_154.out; have hnb7 := NB154_0.out; have hnc7 := NB0_154.out; obtain ⟨_,_,_,_,_,_⟩ := cf3 BK154))
 go_loopg [8] k (fun kq v8 w' => ∃ (x8_1 : Int) (x1001_1 : Int) (x155001_1 : List Int) (u155001 : Value), v8 = .int .i64 x8_1 ∧ Aside0 (spec_l72Shape.l0 kq a1 a2 x8_1 s0_0 x1001_1 true x155001_1 = some (r1, r2, r3, r4)) ∧ Aside0 (kq ≤ k) ∧ Aside0 (Kd.R (Kd.int .i64) 3 w' w.heap.size (fun _ => True) u155001 x155001_1) ∧ Aside0 (w'.heap[gb153]? = some (.cells #[.bool false, (.slice none 0 0), (.slice none 0 0)] 26 (0, 0))) ∧ Aside0 (w'.heap[gb154]? = some (.cells #[.bool true, u155001, (.slice none 0 0)] 26 (0, 0))) ∧ Aside0 (IsS40 w0 w' g s0_0 x1001_1) ∧ Aside0 (KeepBut w w' g none) ∧ Aside0 (Below w0.heap.size w0 w'))
 case atStart => exact ⟨(0), (s0_1), (([] : List Int)), (.slice none 0 0), (by first | rfl | (simp; done) | (simp [*]; done)), H', ⟨Nat.le_refl _⟩, ⟨by first | exact Kd.R_nil _ _ _ _ _ | exact Kd.N_nil _ _ _ _ _ | exact Kd.V_nil _ _ _ _ _ | exact Kd.Q_nil _ _ _ _ _ | exact Kd.S_nil _ _ _ _ _⟩, kf, kf, ⟨iS⟩, ⟨kU⟩, ⟨bS⟩⟩
 case round =>
  clear H'
  obtain ⟨x8_1, x1001_1, x155001_1, u155001, rfl, HA, HK1, HO_155001, BK153, BK154, HI0, HK, HB⟩ := hrel
  cases gk with
  | zero => exact absurd HA.out (by simp [spec_l72Shape.l0])
  | succ k1 =>
   have H := HA.out
   clear HA
   simp only [spec_l72Shape.l0] at H
   by_cases c9 : x8_1 < a2
   ·rw [if_pos c9] at H
    have c9b0 : decide (x8_1 < a2) = true := decide_eq_true c9
    clear c9
    replace H := Option.bind_eq_some_iff.mp H
    obtain ⟨⟨t155, t156⟩, A100, H⟩ := H
    replace H : (if x155001_1.length < 17592186044416 then (spec_l72Shape.l0 k1 a1 a2 (wrap64 (x8_1 + 1)) s0_0 t156 true (x155001_1 ++ [t155])) else (none)) = some (r1, r2, r3, r4) := H
    have A10 := Aside0.mk A100
    clear A100
    by_cases c11 : x155001_1.length < 17592186044416
    ·rw [if_pos c11] at H
     have LMc11 := Aside0.mk c11
     clear c11
     obtain ⟨y157, hy157⟩ : ∃ y_ : List Int, y_ = (x155001_1 ++ [t155]) := ⟨_, rfl⟩
     replace H : (spec_l72Shape.l0 k1 a1 a2 (wrap64 (x8_1 + 1)) s0_0 t156 true y157) = some (r1, r2, r3, r4) := by first | (rw [hy157]; with_reducible exact H) | (have H2_ := (Option.bind_some _ _).symm.trans H; rw [hy157]; with_reducible exact H2_) | (have H2_ := (Option.bind_some _ _).symm.trans H; with_reducible exact H2_) | with_reducible exact H | (rw [hy157]; exact H) | exact H
     have Ny157 := Aside0.mk hy157
     clear hy157
     have H' := Aside0.mk H
     clear H
     try go_wp2
     replace HO_155001 := dR HO_155001
     replace BK153 := dK BK153
     replace BK154 := dK BK154
     replace HI0 := Aside0.mk (IsS40.drew HI0.out)
     replace HK := Aside0.mk (keep_drew HK.out)
     replace HB := Aside0.mk (below_drew1 HB.out)
     refine start_ (n := 9) (S := fun w' => w'.cell? ⟨gb154, 0, none⟩ = some (.bool true) ∧ w'.cell? ⟨gb154, 1, none⟩ = some (u155001) ∧ w'.cell? ⟨gb154, 2, none⟩ = some (.slice none 0 0)) (ds := [8]) #[false, false, false, false, false, false, false, false, false] (by kernel_rfl) rfl rfl ⟨(blk_cell BK154.out 0).trans rfl, (blk_cell BK154.out 1).trans rfl, (blk_cell BK154.out 2).trans rfl⟩ (fun hHeld => ?_); refine with_tabW spec_l72Shape.tab5 spec_l72Shape.bits5 (fun HT_ HW_ => ?_)
     generalize wr.drew = w12 at HO_155001 BK153 BK154 HI0 HK HB hHeld ⊢
     refine pu 0 17 #[true, false, false, false, false, false, false, false, false] HT_ rfl rfl ?_
     refine pu 2 19 #[true, false, true, false, false, false, false, false, false] HT_ rfl rfl ?_
     refine pu 3 20 #[true, false, true, true, false, false, false, false, false] HT_ rfl rfl ?_
     refine ta 1 18 #[true, true, true, true, false, false, false, false, false] HT_ HW_ hHeld rfl rfl ?_
     refine one_ (i := 4) (N := some 21) #[true, true, true, true, true, false, false, false, false] rfl rfl (one_of HT_.out (by kernel_rfl)) (by decide) (fun K hK => ?_)
     refine gs Try.func28 #[.pointer (some ⟨g, 0, none⟩), .int .i64 a1] rfl rfl ?_
     with_reducible refine (spec_l71Type.calls k1 g s0_0 x1001_1 a1 t155 t156 w0 _ ?side1 ?side2 A10.out).mono ?_
     (case side1 => exact iS)
     (case side2 => exact bS)
     rintro e w13 ⟨rfl, hi, hb, hk⟩
     refine ⟨_, rfl, ?_⟩
     replace HO_155001 := kR hk HI0 HO_155001
     replace BK153 := kbk hk BK153 NB153_0
     replace BK154 := kbk hk BK154 NB154_0
     replace HK := kT HK hk
     replace HI0 := Aside0.mk (hi)
     replace HB := Aside0.mk (hb)
     (try clear hb)
     (try clear hb2)
     (try clear hk)
     (try clear hi)
     refine hK.out _ _ ⟨(blk_cell BK154.out 0).trans rfl, (blk_cell BK154.out 1).trans rfl, (blk_cell BK154.out 2).trans rfl⟩ (fun hHeld => ?_)
     clear hK K
     refine no 21 ?_
     refine one_ (i := 5) (N := some 22) #[true, true, true, true, true, true, false, false, false] rfl rfl (one_of HT_.out (by kernel_rfl)) (by decide) (fun K hK => ?_)
     refine value_ (w1 := ?_) (v := ?_) (by rfl) rfl ?_ ?_
     rotate_left 2
     ·go_simp
      constructor
      ·rfl
      ·rfl
     refine hK.out _ _ ⟨(blk_cell (blk_alloc BK154.out _) 0).trans rfl, (blk_cell (blk_alloc BK154.out _) 1).trans rfl, (blk_cell (blk_alloc BK154.out _) 2).trans rfl⟩ (fun hHeld => ?_)
     clear hK K
     refine no 22 ?_
     refine one_ (i := 6) (N := some 23) #[true, true, true, true, true, true, true, false, false] rfl rfl (one_of HT_.out (by kernel_rfl)) (by decide) (fun K hK => ?_)
     refine Kd.R_append_step (Kd.int .i64) w.heap.size (by rfl) (.tmp 18) (.tmp 22) 24 3 (.int .i64 0) 8 rfl Try.underlying24 info3 rfl (by decide) (by omega) u155001 x155001_1 t155 [.int .i64 t155] (fun _ => True) (fun _ => False) rfl rfl ?aP (fun _ hk => hk.elim) ?aF ?aO (Below.refl _ _) ?aS ?aL ?_
     (case aP => exact rfl)
     (case aF => exact (fun _ _ => trivial))
     (case aO => exact HO_155001.out)
     (case aS => exact (keep_size (w := w) (g := g) (row := none) kU))
     (case aL => have := LMc11.out; omega)
     intro v158 w14 ho hb hg hat
     rw [← Ny157.out] at ho
     have n0_ := Aside0.mk (blk_grown (g := gb153) (o := .cells #[.bool false, .slice none 0 0, .slice none 0 0] 26 (0, 0)) BK153.out hg (Kd.R_ne HO_155001.out BK153.out (by decide)))
     have n1_ := Aside0.mk (blk_grown (g := gb154) (o := .cells #[.bool true, u155001, .slice none 0 0] 26 (0, 0)) BK154.out hg (Kd.R_ne HO_155001.out BK154.out (by decide)))
     have n2_ := Aside0.mk (IsS40.grown iS hg (IsS40.own_ne HI0.out HO_155001.out (by decide)))
     have n3_ := Aside0.mk (below_weaken bS HL.out hb)
     have n4_ := Aside0.mk (KeepBut.trans kU (KeepBut.of_grown hg g) (Kd.R_base2 HO_155001.out))
     have n5_ := Aside0.mk (ho)
     clear BK153
     clear BK154
     clear HI0
     clear HB
     clear HK
     clear HO_155001
     have BK153 := n0_
     have BK154 := n1_
     have HI0 := n2_
     have HB := n3_
     have HK := n4_
     have HO159 := n5_
     clear n0_ n1_ n2_ n3_ n4_ n5_
     clear ho hb hg hat
     obtain ⟨Ao15, co15, eo15⟩ := Kd.R_slice HO159.out
     (first | subst eo15 | (injection eo15 with f1_ f2_ f3_; have f4_ := f1_.symm; have f5_ := f3_.symm; clear f1_ f2_ f3_; subst f4_; subst f5_))
     refine hK.out _ _ ⟨(blk_cell BK154.out 0).trans rfl, (blk_cell BK154.out 1).trans rfl, (blk_cell BK154.out 2).trans rfl⟩ (fun hHeld => ?_)
     clear hK K
     refine no 23 ?_
     refine pu 7 24 #[true, true, true, true, true, true, true, true, false] HT_ rfl rfl ?_
     refine last_ (i := 8) (N := none) #[true, true, true, true, true, true, true, true, true] rfl rfl (one_of HT_.out (by kernel_rfl)) (by decide) (fun K hK => ?_)
     have hs16 : w14.cell? ⟨gb154, 1, none⟩ = some (u155001) := (blk_cell BK154.out 1).trans rfl
     have hfs16 := blk_frozen BK154.out 1
     have hns16_0 := NB153_154.out
     have hms16_0 := NB154_153.out
     refine skip_ (w1 := ?_) (by rfl) rfl ?_ ?_
     rotate_left
     ·go_simp
      rfl
     refine hK.out _ _ ?_
     clear hK K
     refine done_ (done_of HT_.out (by kernel_rfl)) ?_
     try go_wp2
     go_roundg k1
     case measure => have := HK1.out; omega
     case rel => exact ⟨(wrap64 (x8_1 + 1)), (t156), (y157), (.slice Ao15 y157.length co15), (by first | rfl | (simp; done) | (simp [*]; done)), H', ⟨by have := HK1.out; omega⟩, ⟨by exact Kd.R_mono (Kd.R_far (p := ⟨gb154, 1, none⟩) (Kd.R_types HO159.out BK154.out (by decide)) (fun _ hk => hk.2) (.slice Ao15 y157.length co15)) (fun _ hk => trivial)⟩, kf, kf, ⟨iS⟩, ⟨kU⟩, ⟨bS⟩⟩
    ·rw [if_neg c11] at H
     exact absurd H (by simp)
   ·rw [if_neg c9] at H
    have c9b0 : decide (x8_1 < a2) = false := decide_eq_false c9
    clear c9
    replace H := Option.bind_eq_some_iff.mp H
    obtain ⟨⟨t160, t161⟩, A170, H⟩ := H
    replace H : (spec_l72Shape.l1 k1 a1 t160 s0_0 t161 true x155001_1 ([] : List Int)) = some (r1, r2, r3, r4) := H
    have A17 := Aside0.mk A170
    clear A170
    have H' := Aside0.mk H
    clear H
    go_wp2_with (first | ((with_reducible refine gc 10 rfl ?_); refine gl (some 26) Try.func10 #[.pointer (some ⟨g, 0, none⟩), .int .i64 4] rfl ?_; (with_reducible refine (spec_l6Rd_pick.calls k1 g s0_0 x1001_1 4 t160 t161 w0 _ ?side1 ?side2 A17.out).mono ?_); (case side1 => exact iS); (case side2 => exact bS); rintro e w18 ⟨rfl, hi, hb, hk⟩; refine ⟨_, rfl, ?_⟩; replace HO_155001 := kR hk HI0 HO_155001; replace BK153 := kbk hk BK153 NB153_0; replace BK154 := kbk hk BK154 NB154_0; replace HK := kT HK hk; replace HI0 := Aside0.mk (hi); replace HB := Aside0.mk (hb)))
    go_loopg [9] k1 (fun kq v9 w' => ∃ (x9_2 : Int) (x1001_2 : Int) (x155002_2 : List Int) (u155002 : Value), v9 = .int .i64 x9_2 ∧ Aside0 (spec_l72Shape.l1 kq a1 x9_2 s0_0 x1001_2 true x155001_1 x155002_2 = some (r1, r2, r3, r4)) ∧ Aside0 (kq ≤ k1) ∧ Aside0 (Kd.R (Kd.int .i64) 3 w' w.heap.size (fun k_ => some k_ ≠ (u155002 : Value).ownBlock) u155001 x155001_1) ∧ Aside0 (Kd.R (Kd.int .i64) 3 w' w.heap.size (fun k_ => some k_ ≠ (u155001 : Value).ownBlock) u155002 x155002_2) ∧ Aside0 (w'.heap[gb153]? = some (.cells #[.bool false, (.slice none 0 0), (.slice none 0 0)] 26 (0, 0))) ∧ Aside0 (w'.heap[gb154]? = some (.cells #[.bool true, u155001, u155002] 26 (0, 0))) ∧ Aside0 (IsS40 w0 w' g s0_0 x1001_2) ∧ Aside0 (KeepBut w w' g none) ∧ Aside0 (Below w0.heap.size w0 w'))
    case atStart => exact ⟨(t160), (t161), (([] : List Int)), (.slice none 0 0), (by first | rfl | (simp; done) | (simp [*]; done)), H', ⟨Nat.le_refl _⟩, ⟨by exact Kd.R_mono HO_155001.out (fun _ hk => (by simp [Value.ownBlock]))⟩, ⟨by first | exact Kd.R_nil _ _ _ _ _ | exact Kd.N_nil _ _ _ _ _ | exact Kd.V_nil _ _ _ _ _ | exact Kd.Q_nil _ _ _ _ _ | exact Kd.S_nil _ _ _ _ _⟩, kk BK153, kk BK154, ⟨iS⟩, ⟨kU⟩, ⟨bS⟩⟩
    case round =>
     clear H'
     obtain ⟨x9_2, x1001_2, x155002_2, u155002, rfl, HA, HK2, HO_155001, HO_155002, BK153, BK154, HI0, HK, HB⟩ := hrel
     cases gk with
     | zero => exact absurd HA.out (by simp [spec_l72Shape.l1])
     | succ k2 =>
      have H := HA.out
      clear HA
      simp only [spec_l72Shape.l1] at H
      by_cases c19 : x9_2 > 0
      ·rw [if_pos c19] at H
       have c19b0 : decide (0 < x9_2) = true := decide_eq_true c19
       clear c19
       replace H := Option.bind_eq_some_iff.mp H
       obtain ⟨⟨t162, t163⟩, A200, H⟩ := H
       replace H : (if t162 = 0 then ((spec_l6Rd_pick.f k2 s0_0 t163 8).bind fun bt164 => (if bt164.1 > 0 then (if x155002_2.length < 17592186044416 then (spec_l72Shape.l1 k2 a1 (wrap64 (x9_2 - 1)) s0_0 bt164.2 true x155001_1 (x155002_2 ++ [1])) else (none)) else (if x155002_2.length < 17592186044416 then (spec_l72Shape.l1 k2 a1 (wrap64 (x9_2 - 1)) s0_0 bt164.2 true x155001_1 (x155002_2 ++ [t162])) else (none)))) else (if x155002_2.length < 17592186044416 then (spec_l72Shape.l1 k2 a1 (wrap64 (x9_2 - 1)) s0_0 t163 true x155001_1 (x155002_2 ++ [t162])) else (none))) = some (r1, r2, r3, r4) := H
       have A20 := Aside0.mk A200
       clear A200
       by_cases c21 : t162 = 0
       ·rw [if_pos c21] at H
        have c21b0 := beq_iff_eq.mpr c21
        have c21b1 := bne_eq_false_iff_eq.mpr c21
        clear c21
        replace H := Option.bind_eq_some_iff.mp H
        obtain ⟨⟨t164, t165⟩, A220, H⟩ := H
        replace H : (if t164 > 0 then (if x155002_2.length < 17592186044416 then (spec_l72Shape.l1 k2 a1 (wrap64 (x9_2 - 1)) s0_0 t165 true x155001_1 (x155002_2 ++ [1])) else (none)) else (if x155002_2.length < 17592186044416 then (spec_l72Shape.l1 k2 a1 (wrap64 (x9_2 - 1)) s0_0 t165 true x155001_1 (x155002_2 ++ [t162])) else (none))) = some (r1, r2, r3, r4) := H
        have A22 := Aside0.mk A220
        clear A220
        by_cases c23 : t164 > 0
        ·rw [if_pos c23] at H
         have c23b0 : decide (0 < t164) = true := decide_eq_true c23
         clear c23
         by_cases c24 : x155002_2.length < 17592186044416
         ·rw [if_pos c24] at H
          have LMc24 := Aside0.mk c24
          clear c24
          obtain ⟨y166, hy166⟩ : ∃ y_ : List Int, y_ = (x155002_2 ++ [1]) := ⟨_, rfl⟩
          replace H : (spec_l72Shape.l1 k2 a1 (wrap64 (x9_2 - 1)) s0_0 t165 true x155001_1 y166) = some (r1, r2, r3, r4) := by first | (rw [hy166]; with_reducible exact H) | (have H2_ := (Option.bind_some _ _).symm.trans H; rw [hy166]; with_reducible exact H2_) | (have H2_ := (Option.bind_some _ _).symm.trans H; with_reducible exact H2_) | with_reducible exact H | (rw [hy166]; exact H) | exact H
          have Ny166 := Aside0.mk hy166
          clear hy166
          have H' := Aside0.mk H
          clear H
          go_wp2_with (first | ((with_reducible refine gc 28 rfl ?_); refine gl (some 33) Try.func28 #[.pointer (some ⟨g, 0, none⟩), .int .i64 a1] rfl ?_; (with_reducible refine (spec_l71Type.calls k2 g s0_0 x1001_2 a1 t162 t163 w0 _ ?side1 ?side2 A20.out).mono ?_); (case side1 => exact iS); (case side2 => exact bS); rintro e w25 ⟨rfl, hi, hb, hk⟩; refine ⟨_, rfl, ?_⟩; replace HO_155001 := kR hk HI0 HO_155001; replace HO_155002 := kR hk HI0 HO_155002; replace BK153 := kbk hk BK153 NB153_0; replace BK154 := kbk hk BK154 NB154_0; replace HK := kT HK hk; replace HI0 := Aside0.mk (hi); replace HB := Aside0.mk (hb)) | (go_at_call 10; (with_reducible refine (spec_l6Rd_pick.calls k2 g s0_0 t163 8 t164 t165 w0 _ ?side1 ?side2 A22.out).mono ?_); (case side1 => exact iS); (case side2 => exact bS); rintro e w26 ⟨rfl, hi, hb, hk⟩; replace HO_155001 := kR hk HI0 HO_155001; replace HO_155002 := kR hk HI0 HO_155002; replace BK153 := kbk hk BK153 NB153_0; replace BK154 := kbk hk BK154 NB154_0; replace HK := kT HK hk; replace HI0 := Aside0.mk (hi); replace HB := Aside0.mk (hb); have hnb27 := NB154_153.out; have hnc27 := NB153_154.out; have hnb28 := NB154_0.out; have hnc28 := NB0_154.out; obtain ⟨_,_,_,_,_,_⟩ := cf3 BK154) | ((with_reducible refine gate_builtin (b := .append) (xs := #[.tmp 42, .tmp 44]) rfl ?_); at_builtin; refine Kd.R_append (Kd.int .i64) w.heap.size rfl (.tmp 42) (.tmp 44) 24 3 (.int .i64 0) 8 rfl Try.underlying24 info3 rfl (by decide) (by omega) u155002 x155002_2 1 [.int .i64 1] (fun k_ => some k_ ≠ (u155001 : Value).ownBlock) (fun _ => False) rfl rfl ?aP (fun _ hk => hk.elim) ?aF ?aO (Below.refl _ _) ?aS ?aL ?_; (case aP => exact rfl); (case aF => exact (fun k_ hk => Kd.fresh' (Kd.R_lt HO_155001.out) k_ hk)); (case aO => exact HO_155002.out); (case aS => exact (keep_size (w := w) (g := g) (row := none) kU)); (case aL => have := LMc24.out; omega); intro v167 w30 ho hb hg hat; rw [← Ny166.out] at ho; have n0_ := Aside0.mk (Kd.R_after (ok := (fun _ => True)) (Kd.R_mono HO_155001.out (fun _ hk => ⟨trivial, hk⟩)) hg hat); have n1_ := Aside0.mk (blk_grown (g := gb153) (o := .cells #[.bool false, .slice none 0 0, .slice none 0 0] 26 (0, 0)) BK153.out hg (Kd.R_ne HO_155002.out BK153.out (by decide))); have n2_ := Aside0.mk (blk_grown (g := gb154) (o := .cells #[.bool true, u155001, u155002] 26 (0, 0)) BK154.out hg (Kd.R_ne HO_155002.out BK154.out (by decide))); have n3_ := Aside0.mk (IsS40.grown iS hg (IsS40.own_ne HI0.out HO_155002.out (by decide))); have n4_ := Aside0.mk (below_weaken bS HL.out hb); have n5_ := Aside0.mk (KeepBut.trans kU (KeepBut.of_grown hg g) (Kd.R_base2 HO_155002.out)); have n6_ := Aside0.mk (ho); clear HO_155001; clear BK153; clear BK154; clear HI0; clear HB; clear HK; clear HO_155002; have HO_155001 := n0_; have BK153 := n1_; have BK154 := n2_; have HI0 := n3_; have HB := n4_; have HK := n5_; have HO168 := n6_; clear n0_ n1_ n2_ n3_ n4_ n5_ n6_; clear ho hb hg hat; obtain ⟨Ao31, co31, eo31⟩ := Kd.R_slice HO168.out; subst eo31; obtain ⟨_,_,_,_,_,_⟩ := cf3 BK154))
          go_roundg k2
          case measure => have := HK1.out; have := HK2.out; omega
          case rel => exact ⟨(wrap64 (x9_2 - 1)), (t165), (y166), (.slice Ao31 y166.length co31), (by first | rfl | (simp; done) | (simp [*]; done)), H', ⟨by have := HK1.out; have := HK2.out; omega⟩, ⟨by exact Kd.R_mono (Kd.R_far (p := ⟨gb154, 2, none⟩) (Kd.R_types HO_155001.out BK154.out (by decide)) (fun _ hk => hk.2) (.slice Ao31 y166.length co31)) (fun _ hk => hk.1.2)⟩, ⟨by exact Kd.R_mono (Kd.R_far (p := ⟨gb154, 2, none⟩) (Kd.R_types HO168.out BK154.out (by decide)) (fun _ hk => hk.2) (.slice Ao31 y166.length co31)) (fun _ hk => hk.1)⟩, kf, kf, ⟨iS⟩, ⟨kU⟩, ⟨bS⟩⟩
         ·rw [if_neg c24] at H
          exact absurd H (by simp)
        ·rw [if_neg c23] at H
         have c23b0 : decide (0 < t164) = false := decide_eq_false c23
         clear c23
         by_cases c33 : x155002_2.length < 17592186044416
         ·rw [if_pos c33] at H
          have LMc33 := Aside0.mk c33
          clear c33
          obtain ⟨y169, hy169⟩ : ∃ y_ : List Int, y_ = (x155002_2 ++ [t162]) := ⟨_, rfl⟩
          replace H : (spec_l72Shape.l1 k2 a1 (wrap64 (x9_2 - 1)) s0_0 t165 true x155001_1 y169) = some (r1, r2, r3, r4) := by first | (rw [hy169]; with_reducible exact H) | (have H2_ := (Option.bind_some _ _).symm.trans H; rw [hy169]; with_reducible exact H2_) | (have H2_ := (Option.bind_some _ _).symm.trans H; with_reducible exact H2_) | with_reducible exact H | (rw [hy169]; exact H) | exact H
          have Ny169 := Aside0.mk hy169
          clear hy169
          have H' := Aside0.mk H
          clear H
          go_wp2_with (first | ((with_reducible refine gc 28 rfl ?_); refine gl (some 33) Try.func28 #[.pointer (some ⟨g, 0, none⟩), .int .i64 a1] rfl ?_; (with_reducible refine (spec_l71Type.calls k2 g s0_0 x1001_2 a1 t162 t163 w0 _ ?side1 ?side2 A20.out).mono ?_); (case side1 => exact iS); (case side2 => exact bS); rintro e w34 ⟨rfl, hi, hb, hk⟩; refine ⟨_, rfl, ?_⟩; replace HO_155001 := kR hk HI0 HO_155001; replace HO_155002 := kR hk HI0 HO_155002; replace BK153 := kbk hk BK153 NB153_0; replace BK154 := kbk hk BK154 NB154_0; replace HK := kT HK hk; replace HI0 := Aside0.mk (hi); replace HB := Aside0.mk (hb)) | (go_at_call 10; (with_reducible refine (spec_l6Rd_pick.calls k2 g s0_0 t163 8 t164 t165 w0 _ ?side1 ?side2 A22.out).mono ?_); (case side1 => exact iS); (case side2 => exact bS); rintro e w35 ⟨rfl, hi, hb, hk⟩; replace HO_155001 := kR hk HI0 HO_155001; replace HO_155002 := kR hk HI0 HO_155002; replace BK153 := kbk hk BK153 NB153_0; replace BK154 := kbk hk BK154 NB154_0; replace HK := kT HK hk; replace HI0 := Aside0.mk (hi); replace HB := Aside0.mk (hb); have hnb36 := NB154_153.out; have hnc36 := NB153_154.out; have hnb37 := NB154_0.out; have hnc37 := NB0_154.out; obtain ⟨_,_,_,_,_,_⟩ := cf3 BK154) | ((with_reducible refine gate_builtin (b := .append) (xs := #[.tmp 42, .tmp 44]) rfl ?_); at_builtin; refine Kd.R_append (Kd.int .i64) w.heap.size rfl (.tmp 42) (.tmp 44) 24 3 (.int .i64 0) 8 rfl Try.underlying24 info3 rfl (by decide) (by omega) u155002 x155002_2 t162 [.int .i64 t162] (fun k_ => some k_ ≠ (u155001 : Value).ownBlock) (fun _ => False) rfl rfl ?aP (fun _ hk => hk.elim) ?aF ?aO (Below.refl _ _) ?aS ?aL ?_; (case aP => exact rfl); (case aF => exact (fun k_ hk => Kd.fresh' (Kd.R_lt HO_155001.out) k_ hk)); (case aO => exact HO_155002.out); (case aS => exact (keep_size (w := w) (g := g) (row := none) kU)); (case aL => have := LMc33.out; omega); intro v170 w39 ho hb hg hat; rw [← Ny169.out] at ho; have n0_ := Aside0.mk (Kd.R_after (ok := (fun _ => True)) (Kd.R_mono HO_155001.out (fun _ hk => ⟨trivial, hk⟩)) hg hat); have n1_ := Aside0.mk (blk_grown (g := gb153) (o := .cells #[.bool false, .slice none 0 0, .slice none 0 0] 26 (0, 0)) BK153.out hg (Kd.R_ne HO_155002.out BK153.out (by decide))); have n2_ := Aside0.mk (blk_grown (g := gb154) (o := .cells #[.bool true, u155001, u155002] 26 (0, 0)) BK154.out hg (Kd.R_ne HO_155002.out BK154.out (by decide))); have n3_ := Aside0.mk (IsS40.grown iS hg (IsS40.own_ne HI0.out HO_155002.out (by decide))); have n4_ := Aside0.mk (below_weaken bS HL.out hb); have n5_ := Aside0.mk (KeepBut.trans kU (KeepBut.of_grown hg g) (Kd.R_base2 HO_155002.out)); have n6_ := Aside0.mk (ho); clear HO_155001; clear BK153; clear BK154; clear HI0; clear HB; clear HK; clear HO_155002; have HO_155001 := n0_; have BK153 := n1_; have BK154 := n2_; have HI0 := n3_; have HB := n4_; have HK := n5_; have HO171 := n6_; clear n0_ n1_ n2_ n3_ n4_ n5_ n6_; clear ho hb hg hat; obtain ⟨Ao40, co40, eo40⟩ := Kd.R_slice HO171.out; subst eo40; obtain ⟨_,_,_,_,_,_⟩ := cf3 BK154))
          go_roundg k2
          case measure => have := HK1.out; have := HK2.out; omega
          case rel => exact ⟨(wrap64 (x9_2 - 1)), (t165), (y169), (.slice Ao40 y169.length co40), (by first | rfl | (simp; done) | (simp [*]; done)), H', ⟨by have := HK1.out; have := HK2.out; omega⟩, ⟨by exact Kd.R_mono (Kd.R_far (p := ⟨gb154, 2, none⟩) (Kd.R_types HO_155001.out BK154.out (by decide)) (fun _ hk => hk.2) (.slice Ao40 y169.length co40)) (fun _ hk => hk.1.2)⟩, ⟨by exact Kd.R_mono (Kd.R_far (p := ⟨gb154, 2, none⟩) (Kd.R_types HO171.out BK154.out (by decide)) (fun _ hk => hk.2) (.slice Ao40 y169.length co40)) (fun _ hk => hk.1)⟩, kf, kf, ⟨iS⟩, ⟨kU⟩, ⟨bS⟩⟩
         ·rw [if_neg c33] at H
          exact absurd H (by simp)
       ·rw [if_neg c21] at H
        have c21b0 := beq_eq_false_iff_ne.mpr c21
        have c21b1 := bne_iff_ne.mpr c21
        by_cases c42 : x155002_2.length < 17592186044416
        ·rw [if_pos c42] at H
         have LMc42 := Aside0.mk c42
         clear c42
         obtain ⟨y172, hy172⟩ : ∃ y_ : List Int, y_ = (x155002_2 ++ [t162]) := ⟨_, rfl⟩
         replace H : (spec_l72Shape.l1 k2 a1 (wrap64 (x9_2 - 1)) s0_0 t163 true x155001_1 y172) = some (r1, r2, r3, r4) := by first | (rw [hy172]; with_reducible exact H) | (have H2_ := (Option.bind_some _ _).symm.trans H; rw [hy172]; with_reducible exact H2_) | (have H2_ := (Option.bind_some _ _).symm.trans H; with_reducible exact H2_) | with_reducible exact H | (rw [hy172]; exact H) | exact H
         have Ny172 := Aside0.mk hy172
         clear hy172
         have H' := Aside0.mk H
         clear H
         go_wp2_with (first | ((with_reducible refine gc 28 rfl ?_); refine gl (some 33) Try.func28 #[.pointer (some ⟨g, 0, none⟩), .int .i64 a1] rfl ?_; (with_reducible refine (spec_l71Type.calls k2 g s0_0 x1001_2 a1 t162 t163 w0 _ ?side1 ?side2 A20.out).mono ?_); (case side1 => exact iS); (case side2 => exact bS); rintro e w43 ⟨rfl, hi, hb, hk⟩; refine ⟨_, rfl, ?_⟩; replace HO_155001 := kR hk HI0 HO_155001; replace HO_155002 := kR hk HI0 HO_155002; replace BK153 := kbk hk BK153 NB153_0; replace BK154 := kbk hk BK154 NB154_0; replace HK := kT HK hk; replace HI0 := Aside0.mk (hi); replace HB := Aside0.mk (hb); have hnb44 := NB154_153.out; have hnc44 := NB153_154.out; have hnb45 := NB154_0.out; have hnc45 := NB0_154.out; obtain ⟨_,_,_,_,_,_⟩ := cf3 BK154) | ((with_reducible refine gate_builtin (b := .append) (xs := #[.tmp 42, .tmp 44]) rfl ?_); at_builtin; refine Kd.R_append (Kd.int .i64) w.heap.size rfl (.tmp 42) (.tmp 44) 24 3 (.int .i64 0) 8 rfl Try.underlying24 info3 rfl (by decide) (by omega) u155002 x155002_2 t162 [.int .i64 t162] (fun k_ => some k_ ≠ (u155001 : Value).ownBlock) (fun _ => False) rfl rfl ?aP (fun _ hk => hk.elim) ?aF ?aO (Below.refl _ _) ?aS ?aL ?_; (case aP => exact rfl); (case aF => exact (fun k_ hk => Kd.fresh' (Kd.R_lt HO_155001.out) k_ hk)); (case aO => exact HO_155002.out); (case aS => exact (keep_size (w := w) (g := g) (row := none) kU)); (case aL => have := LMc42.out; omega); intro v173 w47 ho hb hg hat; rw [← Ny172.out] at ho; have n0_ := Aside0.mk (Kd.R_after (ok := (fun _ => True)) (Kd.R_mono HO_155001.out (fun _ hk => ⟨trivial, hk⟩)) hg hat); have n1_ := Aside0.mk (blk_grown (g := gb153) (o := .cells #[.bool false, .slice none 0 0, .slice none 0 0] 26 (0, 0)) BK153.out hg (Kd.R_ne HO_155002.out BK153.out (by decide))); have n2_ := Aside0.mk (blk_grown (g := gb154) (o := .cells #[.bool true, u155001, u155002] 26 (0, 0)) BK154.out hg (Kd.R_ne HO_155002.out BK154.out (by decide))); have n3_ := Aside0.mk (IsS40.grown iS hg (IsS40.own_ne HI0.out HO_155002.out (by decide))); have n4_ := Aside0.mk (below_weaken bS HL.out hb); have n5_ := Aside0.mk (KeepBut.trans kU (KeepBut.of_grown hg g) (Kd.R_base2 HO_155002.out)); have n6_ := Aside0.mk (ho); clear HO_155001; clear BK153; clear BK154; clear HI0; clear HB; clear HK; clear HO_155002; have HO_155001 := n0_; have BK153 := n1_; have BK154 := n2_; have HI0 := n3_; have HB := n4_; have HK := n5_; have HO174 := n6_; clear n0_ n1_ n2_ n3_ n4_ n5_ n6_; clear ho hb hg hat; obtain ⟨Ao48, co48, eo48⟩ := Kd.R_slice HO174.out; subst eo48; obtain ⟨_,_,_,_,_,_⟩ := cf3 BK154))
         go_roundg k2
         case measure => have := HK1.out; have := HK2.out; omega
         case rel => exact ⟨(wrap64 (x9_2 - 1)), (t163), (y172), (.slice Ao48 y172.length co48), (by first | rfl | (simp; done) | (simp [*]; done)), H', ⟨by have := HK1.out; have := HK2.out; omega⟩, ⟨by exact Kd.R_mono (Kd.R_far (p := ⟨gb154, 2, none⟩) (Kd.R_types HO_155001.out BK154.out (by decide)) (fun _ hk => hk.2) (.slice Ao48 y172.length co48)) (fun _ hk => hk.1.2)⟩, ⟨by exact Kd.R_mono (Kd.R_far (p := ⟨gb154, 2, none⟩) (Kd.R_types HO174.out BK154.out (by decide)) (fun _ hk => hk.2) (.slice Ao48 y172.length co48)) (fun _ hk => hk.1)⟩, kf, kf, ⟨iS⟩, ⟨kU⟩, ⟨bS⟩⟩
        ·rw [if_neg c42] at H
         exact absurd H (by simp)
      ·rw [if_neg c19] at H
       have c19b0 : decide (0 < x9_2) = false := decide_eq_false c19
       clear c19
       replace H := Option.bind_eq_some_iff.mp H
       obtain ⟨⟨t175, t176⟩, A500, H⟩ := H
       replace H : (if t175 = 0 then ((spec_l11None.f).bind fun bt177 => (some (bt177.1, bt177.2.1, bt177.2.2, t176))) else (if t175 = 1 then (some (false, x155001_1, x155002_2, t176)) else (if t175 = 2 then (if x155001_1.length < 17592186044416 then (some (true, (x155001_1 ++ [1]), x155002_2, t176)) else (none)) else (if t175 = 3 then ((some (([1, 1, 1, 1] : List Int) : List Int)).bind fun y187 => (if x155002_2.length + y187.length < 17592186044416 then (some (true, x155001_1, (x155002_2 ++ y187), t176)) else (none))) else (some (true, x155001_1, x155002_2, t176)))))) = some (r1, r2, r3, r4) := H
       have A50 := Aside0.mk A500
       clear A500
       by_cases c51 : t175 = 0
       ·rw [if_pos c51] at H
        have c51b0 := beq_iff_eq.mpr c51
        have c51b1 := bne_eq_false_iff_eq.mpr c51
        clear c51
        replace H := Option.bind_eq_some_iff.mp H
        obtain ⟨⟨t177, t178, t181⟩, A520, H⟩ := H
        replace H : (some (t177, t178, t181, t176)) = some (r1, r2, r3, r4) := H
        have A52 := Aside0.mk A520
        clear A520
        simp only [Option.some.injEq, Prod.mk.injEq] at H
        obtain ⟨rfl, rfl, rfl, rfl⟩ := H
        go_wp2_with (first | ((with_reducible refine gc 10 rfl ?_); refine gl (some 48) Try.func10 #[.pointer (some ⟨g, 0, none⟩), .int .i64 30] rfl ?_; (with_reducible refine (spec_l6Rd_pick.calls k2 g s0_0 x1001_2 30 t175 t176 w0 _ ?side1 ?side2 A50.out).mono ?_); (case side1 => exact iS); (case side2 => exact bS); rintro e w53 ⟨rfl, hi, hb, hk⟩; refine ⟨_, rfl, ?_⟩; replace HO_155001 := kR hk HI0 HO_155001; replace HO_155002 := kR hk HI0 HO_155002; replace BK153 := kbk hk BK153 NB153_0; replace BK154 := kbk hk BK154 NB154_0; replace HK := kT HK hk; replace HI0 := Aside0.mk (hi); replace HB := Aside0.mk (hb)) | ((with_reducible refine gc 21 rfl ?_); refine gl (some 51) Try.func21 #[] rfl ?_; (with_reducible refine (spec_l11None.calls  t177 t178 t181 _ A52.out).mono ?_); rintro e w54 ⟨v179, v182, rfl, ho0, ho1, hb⟩; refine ⟨_, rfl, ?_⟩; have HO180 := Aside0.mk (Kd.R_lower (Kd.R_new' (Kd.R_new' ho0 (Kd.R_lt HO_155001.out)) (Kd.R_lt HO_155002.out)) (keep_size (w := w) (g := g) (row := none) kU)); have HO183 := Aside0.mk (Kd.R_lower (Kd.R_new' (Kd.R_new' ho1 (Kd.R_lt HO_155001.out)) (Kd.R_lt HO_155002.out)) (keep_size (w := w) (g := g) (row := none) kU)); replace HO_155001 := Aside0.mk (Kd.R_mono (Kd.R_told (Kd.R_told (Kd.R_old HO_155001.out hb) (Kd.R_base ho0)) (Kd.R_base ho1)) (fun _ h_ => h_.1)); replace HO_155002 := Aside0.mk (Kd.R_mono (Kd.R_told (Kd.R_told (Kd.R_old HO_155002.out hb) (Kd.R_base ho0)) (Kd.R_base ho1)) (fun _ h_ => h_.1)); replace BK153 := kb BK153 hb; replace BK154 := kb BK154 hb; replace HI0 := iB HI0 hb; replace HK := kN HK hb; replace HB := bN HB hb; have hnb55 := NB153_154.out; have hnc55 := NB154_153.out; have hnb56 := NB153_0.out; have hnc56 := NB0_153.out; obtain ⟨_,_,_,_,_,_⟩ := cf3 BK153; obtain ⟨Ao58, co58, eo58⟩ := Kd.R_slice HO180.out; subst eo58; obtain ⟨Ao59, co59, eo59⟩ := Kd.R_slice HO183.out; subst eo59))
        refine bodyPost_ret (results_cell_row rfl _ _ gb153 26 #[.bool t177, .slice Ao58 t178.length co58, .slice Ao59 t181.length co59] (0, 0) _ rfl (by (with_reducible repeat (first | refine blk_drewN ?_ _ | refine blk_drew ?_ | refine blk_alloc ?_ _)); refine blk_put (cs := #[.bool t177, .slice Ao58 t178.length co58, .slice none 0 0]) ?_ 2 _ rfl; (with_reducible repeat (first | refine blk_drewN ?_ _ | refine blk_drew ?_ | refine blk_alloc ?_ _)); refine blk_put (cs := #[.bool t177, .slice none 0 0, .slice none 0 0]) ?_ 1 _ rfl; (with_reducible repeat (first | refine blk_drewN ?_ _ | refine blk_drew ?_ | refine blk_alloc ?_ _)); refine blk_put (cs := #[.bool false, .slice none 0 0, .slice none 0 0]) ?_ 0 _ rfl; (with_reducible repeat (first | refine blk_drewN ?_ _ | refine blk_drew ?_ | refine blk_alloc ?_ _)); exact BK153.out) Try.underlying26 rfl (by kernel_rfl)) rfl ?_
        exact ⟨_, _, by first | rfl | (simp [errW_none, errW_some] <;> rfl) | (simp [*, errW_none, errW_some] <;> rfl), by exact Kd.R_mono (Kd.R_far (p := ⟨gb153, 2, none⟩) (Kd.R_far (p := ⟨gb153, 1, none⟩) (Kd.R_far (p := ⟨gb153, 0, none⟩) (Kd.R_types HO180.out BK153.out (by decide)) (fun _ hk => hk.2) (.bool t177)) (fun _ hk => hk.2) (.slice Ao58 t178.length co58)) (fun _ hk => hk.2) (.slice Ao59 t181.length co59)) (fun _ hk => hk.1.1.1), by exact Kd.R_mono (Kd.R_far (p := ⟨gb153, 2, none⟩) (Kd.R_far (p := ⟨gb153, 1, none⟩) (Kd.R_far (p := ⟨gb153, 0, none⟩) (Kd.R_types HO183.out BK153.out (by decide)) (fun _ hk => hk.2) (.bool t177)) (fun _ hk => hk.2) (.slice Ao58 t178.length co58)) (fun _ hk => hk.2) (.slice Ao59 t181.length co59)) (fun _ hk => hk.1.1.1), iS, bS, kU⟩
       ·rw [if_neg c51] at H
        have c51b0 := beq_eq_false_iff_ne.mpr c51
        have c51b1 := bne_iff_ne.mpr c51
        by_cases c60 : t175 = 1
        ·rw [if_pos c60] at H
         have c60b0 := beq_iff_eq.mpr c60
         have c60b1 := bne_eq_false_iff_eq.mpr c60
         clear c60
         simp only [Option.some.injEq, Prod.mk.injEq] at H
         obtain ⟨rfl, rfl, rfl, rfl⟩ := H
         go_wp2_with (first | ((with_reducible refine gc 10 rfl ?_); refine gl (some 48) Try.func10 #[.pointer (some ⟨g, 0, none⟩), .int .i64 30] rfl ?_; (with_reducible refine (spec_l6Rd_pick.calls k2 g s0_0 x1001_2 30 t175 t176 w0 _ ?side1 ?side2 A50.out).mono ?_); (case side1 => exact iS); (case side2 => exact bS); rintro e w61 ⟨rfl, hi, hb, hk⟩; refine ⟨_, rfl, ?_⟩; replace HO_155001 := kR hk HI0 HO_155001; replace HO_155002 := kR hk HI0 HO_155002; replace BK153 := kbk hk BK153 NB153_0; replace BK154 := kbk hk BK154 NB154_0; replace HK := kT HK hk; replace HI0 := Aside0.mk (hi); replace HB := Aside0.mk (hb); have hnb62 := NB154_153.out; have hnc62 := NB153_154.out; have hnb63 := NB154_0.out; have hnc63 := NB0_154.out; obtain ⟨_,_,_,_,_,_⟩ := cf3 BK154; have hnb65 := NB153_0.out; have hnc65 := NB0_153.out; obtain ⟨_,_,_,_,_,_⟩ := cf3 BK153; obtain ⟨Ao67, co67, eo67⟩ := Kd.R_slice HO_155001.out; subst eo67; obtain ⟨Ao68, co68, eo68⟩ := Kd.R_slice HO_155002.out; subst eo68))
         refine bodyPost_ret (results_cell_row rfl _ _ gb153 26 #[.bool false, .slice Ao67 x155001_1.length co67, .slice Ao68 x155002_2.length co68] (0, 0) _ rfl (by (with_reducible repeat (first | refine blk_drewN ?_ _ | refine blk_drew ?_ | refine blk_alloc ?_ _)); refine blk_put (cs := #[.bool false, .slice Ao67 x155001_1.length co67, .slice none 0 0]) ?_ 2 _ rfl; (with_reducible repeat (first | refine blk_drewN ?_ _ | refine blk_drew ?_ | refine blk_alloc ?_ _)); refine blk_put (cs := #[.bool false, .slice none 0 0, .slice none 0 0]) ?_ 1 _ rfl; (with_reducible repeat (first | refine blk_drewN ?_ _ | refine blk_drew ?_ | refine blk_alloc ?_ _)); refine blk_put (cs := #[.bool false, .slice none 0 0, .slice none 0 0]) ?_ 0 _ rfl; (with_reducible repeat (first | refine blk_drewN ?_ _ | refine blk_drew ?_ | refine blk_alloc ?_ _)); refine blk_far ?_ NB153_154.out _; (with_reducible repeat (first | refine blk_drewN ?_ _ | refine blk_drew ?_ | refine blk_alloc ?_ _)); exact BK153.out) Try.underlying26 rfl (by kernel_rfl)) rfl ?_
         exact ⟨_, _, by first | rfl | (simp [errW_none, errW_some] <;> rfl) | (simp [*, errW_none, errW_some] <;> rfl), by exact Kd.R_mono (Kd.R_far (p := ⟨gb153, 2, none⟩) (Kd.R_far (p := ⟨gb153, 1, none⟩) (Kd.R_far (p := ⟨gb153, 0, none⟩) (Kd.R_far (p := ⟨gb154, 0, none⟩) (Kd.R_types (Kd.R_types HO_155001.out BK154.out (by decide)) BK153.out (by decide)) (fun _ hk => hk.1.2) (.bool false)) (fun _ hk => hk.2) (.bool false)) (fun _ hk => hk.2) (.slice Ao67 x155001_1.length co67)) (fun _ hk => hk.2) (.slice Ao68 x155002_2.length co68)) (fun _ hk => hk.1.1), by exact Kd.R_mono (Kd.R_far (p := ⟨gb153, 2, none⟩) (Kd.R_far (p := ⟨gb153, 1, none⟩) (Kd.R_far (p := ⟨gb153, 0, none⟩) (Kd.R_far (p := ⟨gb154, 0, none⟩) (Kd.R_types (Kd.R_types HO_155002.out BK154.out (by decide)) BK153.out (by decide)) (fun _ hk => hk.1.2) (.bool false)) (fun _ hk => hk.2) (.bool false)) (fun _ hk => hk.2) (.slice Ao67 x155001_1.length co67)) (fun _ hk => hk.2) (.slice Ao68 x155002_2.length co68)) (fun _ hk => hk.1.1), iS, bS, kU⟩
        ·rw [if_neg c60] at H
         have c60b0 := beq_eq_false_iff_ne.mpr c60
         have c60b1 := bne_iff_ne.mpr c60
         by_cases c69 : t175 = 2
         ·rw [if_pos c69] at H
          have c69b0 := beq_iff_eq.mpr c69
          have c69b1 := bne_eq_false_iff_eq.mpr c69
          clear c69
          by_cases c70 : x155001_1.length < 17592186044416
          ·rw [if_pos c70] at H
           have LMc70 := Aside0.mk c70
           clear c70
           obtain ⟨y184, hy184⟩ : ∃ y_ : List Int, y_ = (x155001_1 ++ [1]) := ⟨_, rfl⟩
           replace H : (some (true, y184, x155002_2, t176)) = some (r1, r2, r3, r4) := by first | (rw [hy184]; with_reducible exact H) | (have H2_ := (Option.bind_some _ _).symm.trans H; rw [hy184]; with_reducible exact H2_) | (have H2_ := (Option.bind_some _ _).symm.trans H; with_reducible exact H2_) | with_reducible exact H | (rw [hy184]; exact H) | exact H
           have Ny184 := Aside0.mk hy184
           clear hy184
           simp only [Option.some.injEq, Prod.mk.injEq] at H
           obtain ⟨rfl, rfl, rfl, rfl⟩ := H
           go_wp2_with (first | ((with_reducible refine gc 10 rfl ?_); refine gl (some 48) Try.func10 #[.pointer (some ⟨g, 0, none⟩), .int .i64 30] rfl ?_; (with_reducible refine (spec_l6Rd_pick.calls k2 g s0_0 x1001_2 30 t175 t176 w0 _ ?side1 ?side2 A50.out).mono ?_); (case side1 => exact iS); (case side2 => exact bS); rintro e w71 ⟨rfl, hi, hb, hk⟩; refine ⟨_, rfl, ?_⟩; replace HO_155001 := kR hk HI0 HO_155001; replace HO_155002 := kR hk HI0 HO_155002; replace BK153 := kbk hk BK153 NB153_0; replace BK154 := kbk hk BK154 NB154_0; replace HK := kT HK hk; replace HI0 := Aside0.mk (hi); replace HB := Aside0.mk (hb); have hnb72 := NB154_153.out; have hnc72 := NB153_154.out; have hnb73 := NB154_0.out; have hnc73 := NB0_154.out; obtain ⟨_,_,_,_,_,_⟩ := cf3 BK154) | ((with_reducible refine gate_builtin (b := .append) (xs := #[.tmp 58, .tmp 59]) rfl ?_); at_builtin; refine Kd.R_append (Kd.int .i64) w.heap.size rfl (.tmp 58) (.tmp 59) 24 3 (.int .i64 0) 8 rfl Try.underlying24 info3 rfl (by decide) (by omega) u155001 x155001_1 1 [.int .i64 1] (fun k_ => some k_ ≠ (u155002 : Value).ownBlock) (fun _ => False) rfl rfl ?aP (fun _ hk => hk.elim) ?aF ?aO (Below.refl _ _) ?aS ?aL ?_; (case aP => exact rfl); (case aF => exact (fun k_ hk => Kd.fresh' (Kd.R_lt HO_155002.out) k_ hk)); (case aO => exact HO_155001.out); (case aS => exact (keep_size (w := w) (g := g) (row := none) kU)); (case aL => have := LMc70.out; omega); intro v185 w75 ho hb hg hat; rw [← Ny184.out] at ho; have n0_ := Aside0.mk (Kd.R_after (ok := (fun _ => True)) (Kd.R_mono HO_155002.out (fun _ hk => ⟨trivial, hk⟩)) hg hat); have n1_ := Aside0.mk (blk_grown (g := gb153) (o := .cells #[.bool false, .slice none 0 0, .slice none 0 0] 26 (0, 0)) BK153.out hg (Kd.R_ne HO_155001.out BK153.out (by decide))); have n2_ := Aside0.mk (blk_grown (g := gb154) (o := .cells #[.bool true, u155001, u155002] 26 (0, 0)) BK154.out hg (Kd.R_ne HO_155001.out BK154.out (by decide))); have n3_ := Aside0.mk (IsS40.grown iS hg (IsS40.own_ne HI0.out HO_155001.out (by decide))); have n4_ := Aside0.mk (below_weaken bS HL.out hb); have n5_ := Aside0.mk (KeepBut.trans kU (KeepBut.of_grown hg g) (Kd.R_base2 HO_155001.out)); have n6_ := Aside0.mk (ho); clear HO_155002; clear BK153; clear BK154; clear HI0; clear HB; clear HK; clear HO_155001; have HO_155002 := n0_; have BK153 := n1_; have BK154 := n2_; have HI0 := n3_; have HB := n4_; have HK := n5_; have HO186 := n6_; clear n0_ n1_ n2_ n3_ n4_ n5_ n6_; clear ho hb hg hat; obtain ⟨Ao76, co76, eo76⟩ := Kd.R_slice HO186.out; subst eo76; obtain ⟨_,_,_,_,_,_⟩ := cf3 BK154; have hnb78 := NB153_0.out; have hnc78 := NB0_153.out; obtain ⟨_,_,_,_,_,_⟩ := cf3 BK153; obtain ⟨Ao80, co80, eo80⟩ := Kd.R_slice HO_155002.out; subst eo80))
           refine bodyPost_ret (results_cell_row rfl _ _ gb153 26 #[.bool true, .slice Ao76 y184.length co76, .slice Ao80 x155002_2.length co80] (0, 0) _ rfl (by (with_reducible repeat (first | refine blk_drewN ?_ _ | refine blk_drew ?_ | refine blk_alloc ?_ _)); refine blk_put (cs := #[.bool true, .slice Ao76 y184.length co76, .slice none 0 0]) ?_ 2 _ rfl; (with_reducible repeat (first | refine blk_drewN ?_ _ | refine blk_drew ?_ | refine blk_alloc ?_ _)); refine blk_put (cs := #[.bool true, .slice none 0 0, .slice none 0 0]) ?_ 1 _ rfl; (with_reducible repeat (first | refine blk_drewN ?_ _ | refine blk_drew ?_ | refine blk_alloc ?_ _)); refine blk_put (cs := #[.bool false, .slice none 0 0, .slice none 0 0]) ?_ 0 _ rfl; (with_reducible repeat (first | refine blk_drewN ?_ _ | refine blk_drew ?_ | refine blk_alloc ?_ _)); refine blk_far ?_ NB153_154.out _; (with_reducible repeat (first | refine blk_drewN ?_ _ | refine blk_drew ?_ | refine blk_alloc ?_ _)); exact BK153.out) Try.underlying26 rfl (by kernel_rfl)) rfl ?_
           exact ⟨_, _, by first | rfl | (simp [errW_none, errW_some] <;> rfl) | (simp [*, errW_none, errW_some] <;> rfl), by exact Kd.R_mono (Kd.R_far (p := ⟨gb153, 2, none⟩) (Kd.R_far (p := ⟨gb153, 1, none⟩) (Kd.R_far (p := ⟨gb153, 0, none⟩) (Kd.R_far (p := ⟨gb154, 1, none⟩) (Kd.R_types (Kd.R_types HO186.out BK154.out (by decide)) BK153.out (by decide)) (fun _ hk => hk.1.2) (.slice Ao76 y184.length co76)) (fun _ hk => hk.2) (.bool true)) (fun _ hk => hk.2) (.slice Ao76 y184.length co76)) (fun _ hk => hk.2) (.slice Ao80 x155002_2.length co80)) (fun _ hk => hk.1.1), by exact Kd.R_mono (Kd.R_far (p := ⟨gb153, 2, none⟩) (Kd.R_far (p := ⟨gb153, 1, none⟩) (Kd.R_far (p := ⟨gb153, 0, none⟩) (Kd.R_far (p := ⟨gb154, 1, none⟩) (Kd.R_types (Kd.R_types HO_155002.out BK154.out (by decide)) BK153.out (by decide)) (fun _ hk => hk.1.2) (.slice Ao76 y184.length co76)) (fun _ hk => hk.2) (.bool true)) (fun _ hk => hk.2) (.slice Ao76 y184.length co76)) (fun _ hk => hk.2) (.slice Ao80 x155002_2.length co80)) (fun _ hk => hk.1.1.2), iS, bS, kU⟩
          ·rw [if_neg c70] at H
           exact absurd H (by simp)
         ·rw [if_neg c69] at H
          have c69b0 := beq_eq_false_iff_ne.mpr c69
          have c69b1 := bne_iff_ne.mpr c69
          by_cases c81 : t175 = 3
          ·rw [if_pos c81] at H
           have c81b0 := beq_iff_eq.mpr c81
           have c81b1 := bne_eq_false_iff_eq.mpr c81
           clear c81
           obtain ⟨y187, hy187⟩ : ∃ y_ : List Int, y_ = (([1, 1, 1, 1] : List Int)) := ⟨_, rfl⟩
           replace H : (if x155002_2.length + y187.length < 17592186044416 then (some (true, x155001_1, (x155002_2 ++ y187), t176)) else (none)) = some (r1, r2, r3, r4) := by first | (rw [hy187]; with_reducible exact H) | (have H2_ := (Option.bind_some _ _).symm.trans H; rw [hy187]; with_reducible exact H2_) | (have H2_ := (Option.bind_some _ _).symm.trans H; with_reducible exact H2_) | with_reducible exact H | (rw [hy187]; exact H) | exact H
           have Ny187 := Aside0.mk hy187
           clear hy187
           by_cases c82 : x155002_2.length + y187.length < 17592186044416
           ·rw [if_pos c82] at H
            have LMc82 := Aside0.mk c82
            clear c82
            obtain ⟨y190, hy190⟩ : ∃ y_ : List Int, y_ = (x155002_2 ++ y187) := ⟨_, rfl⟩
            replace H : (some (true, x155001_1, y190, t176)) = some (r1, r2, r3, r4) := by first | (rw [hy190]; with_reducible exact H) | (have H2_ := (Option.bind_some _ _).symm.trans H; rw [hy190]; with_reducible exact H2_) | (have H2_ := (Option.bind_some _ _).symm.trans H; with_reducible exact H2_) | with_reducible exact H | (rw [hy190]; exact H) | exact H
            have Ny190 := Aside0.mk hy190
            clear hy190
            simp only [Option.some.injEq, Prod.mk.injEq] at H
            obtain ⟨rfl, rfl, rfl, rfl⟩ := H
            go_wp2_with (first | ((with_reducible refine gc 10 rfl ?_); refine gl (some 48) Try.func10 #[.pointer (some ⟨g, 0, none⟩), .int .i64 30] rfl ?_; (with_reducible refine (spec_l6Rd_pick.calls k2 g s0_0 x1001_2 30 t175 t176 w0 _ ?side1 ?side2 A50.out).mono ?_); (case side1 => exact iS); (case side2 => exact bS); rintro e w83 ⟨rfl, hi, hb, hk⟩; refine ⟨_, rfl, ?_⟩; replace HO_155001 := kR hk HI0 HO_155001; replace HO_155002 := kR hk HI0 HO_155002; replace BK153 := kbk hk BK153 NB153_0; replace BK154 := kbk hk BK154 NB154_0; replace HK := kT HK hk; replace HI0 := Aside0.mk (hi); replace HB := Aside0.mk (hb); have hnb84 := NB154_153.out; have hnc84 := NB153_154.out; have hnb85 := NB154_0.out; have hnc85 := NB0_154.out; obtain ⟨_,_,_,_,_,_⟩ := cf3 BK154) | ((with_reducible refine gd 66 rfl ?_); refine Kd.R_lit (Kd.int .i64) _ 3 ?hg (N := 66) ?hd (xs := ([1, 1, 1, 1] : List Int)) (inner := [.int .i64 1, .int .i64 1, .int .i64 1, .int .i64 1]) (ok := fun _ => True) (okp := fun _ => True) ?hr ?hp (fun _ hk => hk) trivial (Below.refl _ _) (Nat.le_refl _) (by simp) ?_; (case hd => rfl); (case hg => rfl); (case hr => first | (go_simp; done) | (go_simp; rfl)); (case hp => exact (Reps.one (show Kd.M (Kd.int .i64) _ _ _ 1 [.int .i64 1] from rfl) (Reps.one (show Kd.M (Kd.int .i64) _ _ _ 1 [.int .i64 1] from rfl) (Reps.one (show Kd.M (Kd.int .i64) _ _ _ 1 [.int .i64 1] from rfl) (Reps.one (show Kd.M (Kd.int .i64) _ _ _ 1 [.int .i64 1] from rfl) (Reps.none _ _)))))); intro v188 w87 ho88 hb hg_ hnew_; clear hg_ hnew_; (first | rw [← Ny187.out] at ho88 | (simp only [Int.reduceToNat] at ho88; rw [← Ny187.out] at ho88)); have HO189 := Aside0.mk (Kd.R_lower (Kd.R_new' (Kd.R_new' ho88 (Kd.R_lt HO_155001.out)) (Kd.R_lt HO_155002.out)) (keep_size (w := w) (g := g) (row := none) kU)); replace HO_155001 := Aside0.mk (Kd.R_elder' HO_155001.out (Kd.R_base ho88) hb); replace HO_155002 := Aside0.mk (Kd.R_elder' HO_155002.out (Kd.R_base ho88) hb); replace BK153 := kb BK153 hb; replace BK154 := kb BK154 hb; replace HI0 := iB HI0 hb; replace HK := kN HK hb; replace HB := bN HB hb; clear hb ho88; obtain ⟨Ao90, co90, eo90⟩ := Kd.R_slice HO189.out; subst eo90) | ((with_reducible refine gate_builtin (b := .append) (xs := #[.tmp 65, .tmp 66]) rfl ?_); at_builtin; refine Kd.R_append_rows (Kd.int .i64) w.heap.size rfl (.tmp 65) (.tmp 66) 24 3 (.int .i64 0) 8 rfl Try.underlying24 info3 rfl (by decide) (by omega) u155002 x155002_2 y187 _ _ _ (fun k_ => some k_ ≠ (u155001 : Value).ownBlock ∧ some k_ ≠ (.slice Ao90 y187.length co90 : Value).ownBlock) (fun _ => False) rfl rfl ?aO ?aR (fun _ _ h => h) (fun _ h => h.elim) ?aF (Below.refl _ _) ?aS ?aL ?_; (case aR => exact (Kd.R_reads' HO189.out).2.2); (case aF => exact (fun k_ hk => ⟨Kd.fresh' (Kd.R_lt HO_155001.out) k_ hk, Kd.fresh' (Kd.R_lt HO189.out) k_ hk⟩)); (case aO => exact HO_155002.out); (case aS => exact (keep_size (w := w) (g := g) (row := none) kU)); (case aL => have := LMc82.out; omega); intro v191 w89 ho hb hg hat; rw [← Ny190.out] at ho; have n0_ := Aside0.mk (Kd.R_after (ok := (fun k_ => some k_ ≠ (.slice Ao90 y187.length co90 : Value).ownBlock)) (Kd.R_mono HO_155001.out (fun _ hk => ⟨hk.2, hk.1⟩)) hg hat); have n1_ := Aside0.mk (blk_grown (g := gb153) (o := .cells #[.bool false, .slice none 0 0, .slice none 0 0] 26 (0, 0)) BK153.out hg (Kd.R_ne HO_155002.out BK153.out (by decide))); have n2_ := Aside0.mk (blk_grown (g := gb154) (o := .cells #[.bool true, u155001, u155002] 26 (0, 0)) BK154.out hg (Kd.R_ne HO_155002.out BK154.out (by decide))); have n3_ := Aside0.mk (IsS40.grown iS hg (IsS40.own_ne HI0.out HO_155002.out (by decide))); have n4_ := Aside0.mk (Kd.R_after (ok := (fun k_ => some k_ ≠ (u155001 : Value).ownBlock)) (Kd.R_mono HO189.out (fun _ hk => ⟨hk.1.2, hk.2⟩)) hg hat); have n5_ := Aside0.mk (below_weaken bS HL.out hb); have n6_ := Aside0.mk (KeepBut.trans kU (KeepBut.of_grown hg g) (Kd.R_base2 HO_155002.out)); have n7_ := Aside0.mk (ho); clear HO_155001; clear BK153; clear BK154; clear HI0; clear HO189; clear HB; clear HK; clear HO_155002; have HO_155001 := n0_; have BK153 := n1_; have BK154 := n2_; have HI0 := n3_; have HO189 := n4_; have HB := n5_; have HK := n6_; have HO192 := n7_; clear n0_ n1_ n2_ n3_ n4_ n5_ n6_ n7_; clear ho hb hg hat; obtain ⟨Ao91, co91, eo91⟩ := Kd.R_slice HO192.out; subst eo91; obtain ⟨_,_,_,_,_,_⟩ := cf3 BK154; have hnb93 := NB153_0.out; have hnc93 := NB0_153.out; obtain ⟨_,_,_,_,_,_⟩ := cf3 BK153; obtain ⟨Ao95, co95, eo95⟩ := Kd.R_slice HO_155001.out; subst eo95))
            refine bodyPost_ret (results_cell_row rfl _ _ gb153 26 #[.bool true, .slice Ao95 x155001_1.length co95, .slice Ao91 y190.length co91] (0, 0) _ rfl (by (with_reducible repeat (first | refine blk_drewN ?_ _ | refine blk_drew ?_ | refine blk_alloc ?_ _)); refine blk_put (cs := #[.bool true, .slice Ao95 x155001_1.length co95, .slice none 0 0]) ?_ 2 _ rfl; (with_reducible repeat (first | refine blk_drewN ?_ _ | refine blk_drew ?_ | refine blk_alloc ?_ _)); refine blk_put (cs := #[.bool true, .slice none 0 0, .slice none 0 0]) ?_ 1 _ rfl; (with_reducible repeat (first | refine blk_drewN ?_ _ | refine blk_drew ?_ | refine blk_alloc ?_ _)); refine blk_put (cs := #[.bool false, .slice none 0 0, .slice none 0 0]) ?_ 0 _ rfl; (with_reducible repeat (first | refine blk_drewN ?_ _ | refine blk_drew ?_ | refine blk_alloc ?_ _)); refine blk_far ?_ NB153_154.out _; (with_reducible repeat (first | refine blk_drewN ?_ _ | refine blk_drew ?_ | refine blk_alloc ?_ _)); exact BK153.out) Try.underlying26 rfl (by kernel_rfl)) rfl ?_
            exact ⟨_, _, by first | rfl | (simp [errW_none, errW_some] <;> rfl) | (simp [*, errW_none, errW_some] <;> rfl), by exact Kd.R_mono (Kd.R_far (p := ⟨gb153, 2, none⟩) (Kd.R_far (p := ⟨gb153, 1, none⟩) (Kd.R_far (p := ⟨gb153, 0, none⟩) (Kd.R_far (p := ⟨gb154, 2, none⟩) (Kd.R_types (Kd.R_types HO_155001.out BK154.out (by decide)) BK153.out (by decide)) (fun _ hk => hk.1.2) (.slice Ao91 y190.length co91)) (fun _ hk => hk.2) (.bool true)) (fun _ hk => hk.2) (.slice Ao95 x155001_1.length co95)) (fun _ hk => hk.2) (.slice Ao91 y190.length co91)) (fun _ hk => hk.1.1.2), by exact Kd.R_mono (Kd.R_far (p := ⟨gb153, 2, none⟩) (Kd.R_far (p := ⟨gb153, 1, none⟩) (Kd.R_far (p := ⟨gb153, 0, none⟩) (Kd.R_far (p := ⟨gb154, 2, none⟩) (Kd.R_types (Kd.R_types HO192.out BK154.out (by decide)) BK153.out (by decide)) (fun _ hk => hk.1.2) (.slice Ao91 y190.length co91)) (fun _ hk => hk.2) (.bool true)) (fun _ hk => hk.2) (.slice Ao95 x155001_1.length co95)) (fun _ hk => hk.2) (.slice Ao91 y190.length co91)) (fun _ hk => hk.1.1.1), iS, bS, kU⟩
           ·rw [if_neg c82] at H
            exact absurd H (by simp)
          ·rw [if_neg c81] at H
           have c81b0 := beq_eq_false_iff_ne.mpr c81
           have c81b1 := bne_iff_ne.mpr c81
           simp only [Option.some.injEq, Prod.mk.injEq] at H
           obtain ⟨rfl, rfl, rfl, rfl⟩ := H
           go_wp2_with (first | ((with_reducible refine gc 10 rfl ?_); refine gl (some 48) Try.func10 #[.pointer (some ⟨g, 0, none⟩), .int .i64 30] rfl ?_; (with_reducible refine (spec_l6Rd_pick.calls k2 g s0_0 x1001_2 30 t175 t176 w0 _ ?side1 ?side2 A50.out).mono ?_); (case side1 => exact iS); (case side2 => exact bS); rintro e w96 ⟨rfl, hi, hb, hk⟩; refine ⟨_, rfl, ?_⟩; replace HO_155001 := kR hk HI0 HO_155001; replace HO_155002 := kR hk HI0 HO_155002; replace BK153 := kbk hk BK153 NB153_0; replace BK154 := kbk hk BK154 NB154_0; replace HK := kT HK hk; replace HI0 := Aside0.mk (hi); replace HB := Aside0.mk (hb); have hnb97 := NB154_153.out; have hnc97 := NB153_154.out; have hnb98 := NB154_0.out; have hnc98 := NB0_154.out; obtain ⟨_,_,_,_,_,_⟩ := cf3 BK154; have hnb100 := NB153_0.out; have hnc100 := NB0_153.out; obtain ⟨_,_,_,_,_,_⟩ := cf3 BK153; obtain ⟨Ao102, co102, eo102⟩ := Kd.R_slice HO_155001.out; subst eo102; obtain ⟨Ao103, co103, eo103⟩ := Kd.R_slice HO_155002.out; subst eo103))
           refine bodyPost_ret (results_cell_row rfl _ _ gb153 26 #[.bool true, .slice Ao102 x155001_1.length co102, .slice Ao103 x155002_2.length co103] (0, 0) _ rfl (by (with_reducible repeat (first | refine blk_drewN ?_ _ | refine blk_drew ?_ | refine blk_alloc ?_ _)); refine blk_put (cs := #[.bool true, .slice Ao102 x155001_1.length co102, .slice none 0 0]) ?_ 2 _ rfl; (with_reducible repeat (first | refine blk_drewN ?_ _ | refine blk_drew ?_ | refine blk_alloc ?_ _)); refine blk_put (cs := #[.bool true, .slice none 0 0, .slice none 0 0]) ?_ 1 _ rfl; (with_reducible repeat (first | refine blk_drewN ?_ _ | refine blk_drew ?_ | refine blk_alloc ?_ _)); refine blk_put (cs := #[.bool false, .slice none 0 0, .slice none 0 0]) ?_ 0 _ rfl; (with_reducible repeat (first | refine blk_drewN ?_ _ | refine blk_drew ?_ | refine blk_alloc ?_ _)); exact BK153.out) Try.underlying26 rfl (by kernel_rfl)) rfl ?_
           exact ⟨_, _, by first | rfl | (simp [errW_none, errW_some] <;> rfl) | (simp [*, errW_none, errW_some] <;> rfl), by exact Kd.R_mono (Kd.R_far (p := ⟨gb153, 2, none⟩) (Kd.R_far (p := ⟨gb153, 1, none⟩) (Kd.R_far (p := ⟨gb153, 0, none⟩) (Kd.R_types HO_155001.out BK153.out (by decide)) (fun _ hk => hk.2) (.bool true)) (fun _ hk => hk.2) (.slice Ao102 x155001_1.length co102)) (fun _ hk => hk.2) (.slice Ao103 x155002_2.length co103)) (fun _ hk => hk.1), by exact Kd.R_mono (Kd.R_far (p := ⟨gb153, 2, none⟩) (Kd.R_far (p := ⟨gb153, 1, none⟩) (Kd.R_far (p := ⟨gb153, 0, none⟩) (Kd.R_types HO_155002.out BK153.out (by decide)) (fun _ hk => hk.2) (.bool true)) (fun _ hk => hk.2) (.slice Ao102 x155001_1.length co102)) (fun _ hk => hk.2) (.slice Ao103 x155002_2.length co103)) (fun _ hk => hk.1), iS, bS, kU⟩
end Go.Proofs.Ytchegijjjakmpaa.P

end
section

namespace Go.Proofs.Ytchegijjjakmpaa.P
open Go.RowKit Go.Proofs.YtchegijjjakmpaaW.PrintWords Go.Proofs.YtchegijjjakmpaaW.PrintLast Go.Proofs.YtchegijjjakmpaaW.PrintMore
attribute [local go_sem] max2_int min2_int max_two min_two max_three min_three max_four min_four
set_option linter.unusedVariables false
set_option linter.unusedSimpArgs false
def spec_l71Classes.T10 : Bool × List (List Nat × List Nat) := (true, [([], []), ([0], [0]), ([], []), ([], []), ([2, 3], [2, 3]), ([4], [4]), ([1, 5, 4], [1, 5]), ([0, 1, 2, 3, 4, 5, 6], []), ([7, 6, 6, 0, 1, 2, 3, 4, 5, 6], [6, 7])])
def spec_l71Classes.B10 : List Nat := [0, 1, 0, 0, 12, 28, 63, 127, 255]
theorem spec_l71Classes.tab10 : rtab .any (opsOf Try.f27 10) = spec_l71Classes.T10 := by kernel_rfl
theorem spec_l71Classes.bits10 : waitsOk spec_l71Classes.T10.2 spec_l71Classes.B10 = true := by kernel_rfl
set_option maxHeartbeats 8000000 in
set_option maxRecDepth 100000 in
theorem spec_l71Classes.calls (k : Nat) (g : Nat) (s0_0 : List Int) (s0_1 : Int) (r1 : List (S48)) (r2 : Int) (w0 w : World) (hI : IsS40 w0 w g s0_0 s0_1) (hB : Below w0.heap.size w0 w) (h : spec_l71Classes.f k s0_0 s0_1 = some (r1, r2)) :
  Calls Try.prog 27 #[.pointer (some ⟨g, 0, none⟩)] w fun e w' => ∃ v0_ : Value, e = .returned (v0_) ∧ Kd.S k48 48 w' w.heap.size (fun _ => True) v0_ r1 ∧ IsS40 w0 w' g s0_0 r2 ∧ Below w0.heap.size w0 w' ∧ KeepBut w w' g none := by
 have hu48 := Try.underlying48
 have HI0 := Aside0.mk hI
 have HK := Aside0.mk (KeepBut.refl w g none)
 have HL := Aside0.mk hB.size
 clear hI
 have HW0 := Aside0.mk hB.size
 have HB := Aside0.mk hB
 clear hB
 have H : ((spec_l6Rd_pick.f k s0_0 s0_1 4).bind fun bt111 => (spec_l71Classes.l0 k (wrap64 (2 + bt111.1)) (([(⟨(-1), ([] : List Int)⟩ : S48), (⟨0, (([1] : List Int))⟩ : S48)] : List (S48))) 2 s0_0 bt111.2)) = some (r1, r2) := h
 clear h
 replace H := Option.bind_eq_some_iff.mp H
 obtain ⟨⟨t111, t112⟩, A20, H⟩ := H
 replace H : (spec_l71Classes.l0 k (wrap64 (2 + t111)) (([(⟨(-1), ([] : List Int)⟩ : S48), (⟨0, (([1] : List Int))⟩ : S48)] : List (S48))) 2 s0_0 t112) = some (r1, r2) := H
 have A2 := Aside0.mk A20
 clear A20
 obtain ⟨y113, hy113⟩ : ∃ y_ : List Int, y_ = (([1] : List Int)) := ⟨_, rfl⟩
 replace H : (spec_l71Classes.l0 k (wrap64 (2 + t111)) (([(⟨(-1), ([] : List Int)⟩ : S48), (⟨0, y113⟩ : S48)] : List (S48))) 2 s0_0 t112) = some (r1, r2) := by first | (rw [hy113]; with_reducible exact H) | (have H2_ := (Option.bind_some _ _).symm.trans H; rw [hy113]; with_reducible exact H2_) | (have H2_ := (Option.bind_some _ _).symm.trans H; with_reducible exact H2_) | with_reducible exact H | (rw [hy113]; exact H) | exact H
 have Ny113 := Aside0.mk hy113
 clear hy113
 obtain ⟨y116, hy116⟩ : ∃ y_ : List (S48), y_ = (([(⟨(-1), ([] : List Int)⟩ : S48), (⟨0, y113⟩ : S48)] : List (S48))) := ⟨_, rfl⟩
 replace H : (spec_l71Classes.l0 k (wrap64 (2 + t111)) y116 2 s0_0 t112) = some (r1, r2) := by first | (rw [hy116]; with_reducible exact H) | (have H2_ := (Option.bind_some _ _).symm.trans H; rw [hy116]; with_reducible exact H2_) | (have H2_ := (Option.bind_some _ _).symm.trans H; with_reducible exact H2_) | with_reducible exact H | (rw [hy116]; exact H) | exact H
 have Ny116 := Aside0.mk hy116
 clear hy116
 have H' := Aside0.mk H
 clear H
 go_enter Try.func27, Try.ntmps27
 go_wp2_with (first | ((with_reducible refine gc 10 rfl ?_); refine gl (some 9) Try.func10 #[.pointer (some ⟨g, 0, none⟩), .int .i64 4] rfl ?_; (with_reducible refine (spec_l6Rd_pick.calls k g s0_0 s0_1 4 t111 t112 w0 _ ?side1 ?side2 A2.out).mono ?_); (case side1 => exact iS); (case side2 => exact bS); rintro e w3 ⟨rfl, hi, hb, hk⟩; refine ⟨_, rfl, ?_⟩; replace HK := kT HK hk; replace HI0 := Aside0.mk (hi); replace HB := Aside0.mk (hb)) | ((with_reducible refine gd 12 rfl ?_); refine Kd.R_lit (Kd.int .i64) _ 3 ?hg (N := 12) ?hd (xs := ([1] : List Int)) (inner := [.int .i64 1]) (ok := fun _ => True) (okp := fun _ => True) ?hr ?hp (fun _ hk => hk) trivial (Below.refl _ _) (Nat.le_refl _) (by simp) ?_; (case hd => rfl); (case hg => rfl); (case hr => first | (go_simp; done) | (go_simp; rfl)); (case hp => exact (Reps.one (show Kd.M (Kd.int .i64) _ _ _ 1 [.int .i64 1] from rfl) (Reps.none _ _))); intro v114 w4 ho5 hb hg_ hnew_; clear hg_ hnew_; (first | rw [← Ny113.out] at ho5 | (simp only [Int.reduceToNat] at ho5; rw [← Ny113.out] at ho5)); have HO115 := Aside0.mk (Kd.R_lower ho5 (keep_size (w := w) (g := g) (row := none) kU)); replace HI0 := iB HI0 hb; replace HK := kN HK hb; replace HB := bN HB hb; clear hb ho5; obtain ⟨Ao6, co6, eo6⟩ := Kd.R_slice HO115.out; subst eo6) | ((with_reducible refine gd 14 rfl ?_); refine Kd.S_lits k48 w.heap.size 48 ?hg (N := 14) ?hd (xs := ([(⟨(-1), ([] : List Int)⟩ : S48), (⟨0, y113⟩ : S48)] : List (S48))) (inner := [.int .i64 (-1), .slice none 0 0, .int .i64 0, .slice Ao6 y113.length co6]) (ok := fun _ => True) (fun j_ k_ => j_ = 1 ∧ some k_ = (.slice Ao6 y113.length co6 : Value).ownBlock) ?hr rfl (by intro j_ x_ hx_; match j_, hx_ with | 0, hx_ => obtain rfl := Option.some.inj hx_; exact (show Kd.M k48 _ _ ((fun j_ k_ => j_ = 1 ∧ some k_ = (.slice Ao6 y113.length co6 : Value).ownBlock) 0) (⟨(-1), ([] : List Int)⟩ : S48) [.int .i64 (-1), .slice none 0 0] from (k48_mkM _ _ _ (⟨(-1), ([] : List Int)⟩ : S48) (Kd.R_nil _ _ _ _ _))) | 1, hx_ => obtain rfl := Option.some.inj hx_; exact (show Kd.M k48 _ _ ((fun j_ k_ => j_ = 1 ∧ some k_ = (.slice Ao6 y113.length co6 : Value).ownBlock) 1) (⟨0, y113⟩ : S48) [.int .i64 0, .slice Ao6 y113.length co6] from (k48_mkM _ _ _ (⟨0, y113⟩ : S48) (Kd.R_mono (Kd.R_tight rfl HO115.out) (fun k_ h_ => ⟨rfl, h_⟩)))) | n_ + 2, hx_ => exact absurd hx_ (by simp)) (fun _ _ _ h1_ h2_ => h1_.1.trans h2_.1.symm) (fun _ _ _ => trivial) trivial (Below.refl _ _) ((keep_size (w := w) (g := g) (row := none) kU)) (by simp) ?_; (case hd => rfl); (case hg => rfl); (case hr => first | (go_simp; done) | (go_simp; rfl)); intro v117 w7 ho8 hb hg_ hnew_; clear hb; have hb := (Below.refl _ _).grown hg_ (Nat.le_refl _) (fun _ h_ => by cases h_); clear hg_ hnew_; (first | rw [← Ny116.out] at ho8 | (simp only [Int.reduceToNat] at ho8; rw [← Ny116.out] at ho8)); have n0_ := Aside0.mk (ho8); have n1_ := iB HI0 hb; have n2_ := kN HK hb; have n3_ := bN HB hb; clear HI0; clear HK; clear HB; clear HO115; have HO118 := n0_; have HI0 := n1_; have HK := n2_; have HB := n3_; clear n0_ n1_ n2_ n3_; clear hb ho8))
 go_loopg [4, 5] k (fun kq v4 v5 w' => ∃ (x4_1 : List (S48)) (x5_1 : Int) (x1001_1 : Int), v5 = .int .i64 x5_1 ∧ Aside0 (spec_l71Classes.l0 kq (wrap64 (2 + t111)) x4_1 x5_1 s0_0 x1001_1 = some (r1, r2)) ∧ Aside0 (kq ≤ k) ∧ Aside0 (Kd.S k48 48 w' w.heap.size (fun _ => True) v4 x4_1) ∧ Aside0 (IsS40 w0 w' g s0_0 x1001_1) ∧ Aside0 (KeepBut w w' g none) ∧ Aside0 (Below w0.heap.size w0 w'))
 case atStart => exact ⟨(y116), (2), (t112), (by first | rfl | (simp; done) | (simp [*]; done)), H', ⟨Nat.le_refl _⟩, ⟨HO118.out⟩, ⟨iS⟩, ⟨kU⟩, ⟨bS⟩⟩
 case round =>
  clear H'
  obtain ⟨x4_1, x5_1, x1001_1, rfl, HA, HK1, HO_4, HI0, HK, HB⟩ := hrel
  cases gk with
  | zero => exact absurd HA.out (by simp [spec_l71Classes.l0])
  | succ k1 =>
   have H := HA.out
   clear HA
   simp only [spec_l71Classes.l0] at H
   by_cases c9 : x5_1 < (wrap64 (2 + t111))
   ·rw [if_pos c9] at H
    have c9b0 : decide (x5_1 < (wrap64 (2 + t111))) = true := decide_eq_true c9
    clear c9
    replace H := Option.bind_eq_some_iff.mp H
    obtain ⟨⟨t119, t120⟩, A100, H⟩ := H
    replace H : ((spec_l6Rd_pick.f k1 s0_0 t120 3).bind fun bt122 => (spec_l71Classes.l1 k1 (wrap64 (2 + t111)) x4_1 x5_1 bt122.1 s0_0 bt122.2 t119 ([] : List Int))) = some (r1, r2) := H
    have A10 := Aside0.mk A100
    clear A100
    replace H := Option.bind_eq_some_iff.mp H
    obtain ⟨⟨t122, t123⟩, A110, H⟩ := H
    replace H : (spec_l71Classes.l1 k1 (wrap64 (2 + t111)) x4_1 x5_1 t122 s0_0 t123 t119 ([] : List Int)) = some (r1, r2) := H
    have A11 := Aside0.mk A110
    clear A110
    have H' := Aside0.mk H
    clear H
    go_wp2_with (first | ((with_reducible refine gc 10 rfl ?_); refine gl (some 22) Try.func10 #[.pointer (some ⟨g, 0, none⟩), .int .i64 x5_1] rfl ?_; (with_reducible refine (spec_l6Rd_pick.calls k1 g s0_0 x1001_1 x5_1 t119 t120 w0 _ ?side1 ?side2 A10.out).mono ?_); (case side1 => exact iS); (case side2 => exact bS); rintro e w12 ⟨rfl, hi, hb, hk⟩; refine ⟨_, rfl, ?_⟩; replace HO_4 := Aside0.mk (Kd.S_mono (Kd.S_keep (IsS40.apartS (show IsS40 w0 _ g s0_0 x1001_1 from iS) HO_4.out (by decide)) hk (fun _ h => h.2)) (fun _ h => h.1)); replace HK := kT HK hk; replace HI0 := Aside0.mk (hi); replace HB := Aside0.mk (hb)) | ((with_reducible refine gd 6 rfl ?_); refine bx 6 #[.int .i64 0, .slice none 0 0] 48 ?_; intro gb121 hg w13 hbox hb; have BK121 := Aside0.mk hbox; have GW121 := kZ HK hg; have GE121 := kY HW0 HK hg; have NB0_121 := iL HI0 hg; have NB121_0 := iG HI0 hg; replace HO_4 := Aside0.mk (Kd.S_below (Kd.S_elderB HO_4.out gb121 (Nat.le_of_eq hg.symm)) hb); replace HI0 := iB HI0 hb; replace HK := kN HK hb; replace HB := bN HB hb; clear hb hbox hg; have hnb14 := NB121_0.out; have hnc14 := NB0_121.out; obtain ⟨_,_,_,_⟩ := cf2 BK121) | ((with_reducible refine gc 10 rfl ?_); refine gl (some 25) Try.func10 #[.pointer (some ⟨g, 0, none⟩), .int .i64 3] rfl ?_; (with_reducible refine (spec_l6Rd_pick.calls k1 g s0_0 t120 3 t122 t123 w0 _ ?side1 ?side2 A11.out).mono ?_); (case side1 => exact iS); (case side2 => exact bS); rintro e w16 ⟨rfl, hi, hb, hk⟩; refine ⟨_, rfl, ?_⟩; replace HO_4 := Aside0.mk (Kd.S_mono (Kd.S_keep (IsS40.apartS (show IsS40 w0 _ g s0_0 t120 from iS) ((Kd.S_mono (Kd.S_far (p := ⟨gb121, 1, none⟩) (Kd.S_far (p := ⟨gb121, 0, none⟩) (Kd.S_mono HO_4.out (fun k_ hk => (⟨hk, hk.2⟩ : _ ∧ k_ ≠ gb121))) (fun _ hk => hk.2) (.int .i64 t119)) (fun _ hk => hk.2) (.slice none 0 0)) (fun _ h_ => h_.1))) (by decide)) hk (fun _ h => h.2)) (fun _ h => h.1)); replace BK121 := Aside0.mk (KeepBut.blk hk (g' := gb121) (o := .cells #[.int .i64 t119, .slice none 0 0] 48 (0, 0)) (by (with_reducible repeat (first | refine blk_drewN ?_ _ | refine blk_drew ?_ | refine blk_alloc ?_ _)); refine blk_put (cs := #[.int .i64 t119, .slice none 0 0]) ?_ 1 _ rfl; (with_reducible repeat (first | refine blk_drewN ?_ _ | refine blk_drew ?_ | refine blk_alloc ?_ _)); refine blk_put (cs := #[.int .i64 0, .slice none 0 0]) ?_ 0 _ rfl; (with_reducible repeat (first | refine blk_drewN ?_ _ | refine blk_drew ?_ | refine blk_alloc ?_ _)); exact BK121.out) NB121_0.out (by simp)); replace HK := kT HK hk; replace HI0 := Aside0.mk (hi); replace HB := Aside0.mk (hb)))
    go_loopg [7] k1 (fun kq v7 w' => ∃ (x7_2 : Int) (x1001_2 : Int) (x122001_2 : List Int) (u122001 : Value), v7 = .int .i64 x7_2 ∧ Aside0 (spec_l71Classes.l1 kq (wrap64 (2 + t111)) x4_1 x5_1 x7_2 s0_0 x1001_2 t119 x122001_2 = some (r1, r2)) ∧ Aside0 (kq ≤ k1) ∧ Aside0 (Kd.S k48 48 w' w.heap.size (fun k_ => some k_ ≠ (u122001 : Value).ownBlock ∧ k_ ≠ gb121) u4 x4_1) ∧ Aside0 (Kd.R (Kd.int .i64) 3 w' w.heap.size (fun _ => True) u122001 x122001_2) ∧ Aside0 (w'.heap[gb121]? = some (.cells #[.int .i64 t119, u122001] 48 (0, 0))) ∧ Aside0 (IsS40 w0 w' g s0_0 x1001_2) ∧ Aside0 (KeepBut w w' g none) ∧ Aside0 (Below w0.heap.size w0 w'))
    case atStart => exact ⟨(t122), (t123), (([] : List Int)), (.slice none 0 0), (by first | rfl | (simp; done) | (simp [*]; done)), H', ⟨Nat.le_refl _⟩, ⟨by exact Kd.S_mono HO_4.out (fun _ hk => ⟨(by simp [Value.ownBlock]), hk.2⟩)⟩, ⟨by first | exact Kd.R_nil _ _ _ _ _ | exact Kd.N_nil _ _ _ _ _ | exact Kd.V_nil _ _ _ _ _ | exact Kd.Q_nil _ _ _ _ _ | exact Kd.S_nil _ _ _ _ _⟩, kk BK121, ⟨iS⟩, ⟨kU⟩, ⟨bS⟩⟩
    case round =>
     clear H'
     obtain ⟨x7_2, x1001_2, x122001_2, u122001, rfl, HA, HK2, HO_4, HO_122001, BK121, HI0, HK, HB⟩ := hrel
     cases gk with
     | zero => exact absurd HA.out (by simp [spec_l71Classes.l1])
     | succ k2 =>
      have H := HA.out
      clear HA
      simp only [spec_l71Classes.l1] at H
      by_cases c17 : x7_2 > 0
      ·rw [if_pos c17] at H
       have c17b0 : decide (0 < x7_2) = true := decide_eq_true c17
       clear c17
       replace H := Option.bind_eq_some_iff.mp H
       obtain ⟨⟨t124, t125⟩, A180, H⟩ := H
       replace H : (if x122001_2.length < 17592186044416 then (spec_l71Classes.l1 k2 (wrap64 (2 + t111)) x4_1 x5_1 (wrap64 (x7_2 - 1)) s0_0 t125 t119 (x122001_2 ++ [t124])) else (none)) = some (r1, r2) := H
       have A18 := Aside0.mk A180
       clear A180
       by_cases c19 : x122001_2.length < 17592186044416
       ·rw [if_pos c19] at H
        have LMc19 := Aside0.mk c19
        clear c19
        obtain ⟨y126, hy126⟩ : ∃ y_ : List Int, y_ = (x122001_2 ++ [t124]) := ⟨_, rfl⟩
        replace H : (spec_l71Classes.l1 k2 (wrap64 (2 + t111)) x4_1 x5_1 (wrap64 (x7_2 - 1)) s0_0 t125 t119 y126) = some (r1, r2) := by first | (rw [hy126]; with_reducible exact H) | (have H2_ := (Option.bind_some _ _).symm.trans H; rw [hy126]; with_reducible exact H2_) | (have H2_ := (Option.bind_some _ _).symm.trans H; with_reducible exact H2_) | with_reducible exact H | (rw [hy126]; exact H) | exact H
        have Ny126 := Aside0.mk hy126
        clear hy126
        have H' := Aside0.mk H
        clear H
        try go_wp2
        replace HO_4 := Aside0.mk (Kd.S_drew HO_4.out)
        replace HO_122001 := Aside0.mk (Kd.R_drew HO_122001.out)
        replace BK121 := Aside0.mk (blk_drew BK121.out)
        replace HI0 := Aside0.mk (IsS40.drew HI0.out)
        replace HK := Aside0.mk (keep_drew HK.out)
        replace HB := Aside0.mk (below_drew1 HB.out)
        refine start_ (n := 9) (S := fun w' => w'.cell? ⟨gb121, 0, none⟩ = some (.int .i64 t119) ∧ w'.cell? ⟨gb121, 1, none⟩ = some (u122001)) (ds := [8]) #[false, false, false, false, false, false, false, false, false] (by kernel_rfl) rfl rfl ⟨(blk_cell BK121.out 0).trans rfl, (blk_cell BK121.out 1).trans rfl⟩ (fun hHeld => ?_); refine with_tabW spec_l71Classes.tab10 spec_l71Classes.bits10 (fun HT_ HW_ => ?_)
        generalize wr.drew = w20 at HO_4 HO_122001 BK121 HI0 HK HB hHeld ⊢
        refine pu 0 30 #[true, false, false, false, false, false, false, false, false] HT_ rfl rfl ?_
        refine pu 2 32 #[true, false, true, false, false, false, false, false, false] HT_ rfl rfl ?_
        refine pu 3 33 #[true, false, true, true, false, false, false, false, false] HT_ rfl rfl ?_
        refine ta 1 31 #[true, true, true, true, false, false, false, false, false] HT_ HW_ hHeld rfl rfl ?_
        refine one_ (i := 4) (N := some 34) #[true, true, true, true, true, false, false, false, false] rfl rfl (one_of HT_.out (by kernel_rfl)) (by decide) (fun K hK => ?_)
        refine gs Try.func37 #[.pointer (some ⟨g, 0, none⟩), .int .i64 (wrap64 (2 + t111))] rfl rfl ?_
        with_reducible refine (spec_l71Field.calls k2 g s0_0 x1001_2 (wrap64 (2 + t111)) t124 t125 w0 _ ?side1 ?side2 A18.out).mono ?_
        (case side1 => exact iS)
        (case side2 => exact bS)
        rintro e w21 ⟨rfl, hi, hb, hk⟩
        refine ⟨_, rfl, ?_⟩
        replace HO_4 := Aside0.mk (Kd.S_mono (Kd.S_keep (IsS40.apartS (show IsS40 w0 _ g s0_0 x1001_2 from iS) HO_4.out (by decide)) hk (fun _ h => h.2)) (fun _ h => h.1))
        replace HO_122001 := Aside0.mk (Kd.R_mono (Kd.R_keep (IsS40.apart (show IsS40 w0 _ g s0_0 x1001_2 from iS) HO_122001.out (by decide)) hk (fun _ h => h.2)) (fun _ h => h.1))
        replace BK121 := Aside0.mk (KeepBut.blk hk (g' := gb121) (o := .cells #[.int .i64 t119, u122001] 48 (0, 0)) BK121.out NB121_0.out (by simp))
        replace HK := kT HK hk
        replace HI0 := Aside0.mk (hi)
        replace HB := Aside0.mk (hb)
        (try clear hb)
        (try clear hb2)
        (try clear hk)
        (try clear hi)
        refine hK.out _ _ ⟨(blk_cell BK121.out 0).trans rfl, (blk_cell BK121.out 1).trans rfl⟩ (fun hHeld => ?_)
        clear hK K
        refine no 34 ?_
        refine one_ (i := 5) (N := some 35) #[true, true, true, true, true, true, false, false, false] rfl rfl (one_of HT_.out (by kernel_rfl)) (by decide) (fun K hK => ?_)
        refine value_ (w1 := ?_) (v := ?_) (by rfl) rfl ?_ ?_
        rotate_left 2
        ·go_simp
         constructor
         ·rfl
         ·rfl
        refine hK.out _ _ ⟨(blk_cell (blk_alloc BK121.out _) 0).trans rfl, (blk_cell (blk_alloc BK121.out _) 1).trans rfl⟩ (fun hHeld => ?_)
        clear hK K
        refine no 35 ?_
        refine one_ (i := 6) (N := some 36) #[true, true, true, true, true, true, true, false, false] rfl rfl (one_of HT_.out (by kernel_rfl)) (by decide) (fun K hK => ?_)
        refine Kd.R_append_step (Kd.int .i64) w.heap.size (by rfl) (.tmp 31) (.tmp 35) 24 3 (.int .i64 0) 8 rfl Try.underlying24 info3 rfl (by decide) (by omega) u122001 x122001_2 t124 [.int .i64 t124] (fun _ => True) (fun _ => False) rfl rfl ?aP (fun _ hk => hk.elim) ?aF ?aO (Below.refl _ _) ?aS ?aL ?_
        (case aP => exact rfl)
        (case aF => exact (fun _ _ => trivial))
        (case aO => exact HO_122001.out)
        (case aS => exact (keep_size (w := w) (g := g) (row := none) kU))
        (case aL => have := LMc19.out; omega)
        intro v127 w22 ho hb hg hat
        rw [← Ny126.out] at ho
        have n0_ := Aside0.mk (Kd.S_after (ok := (fun k_ => k_ ≠ gb121)) (Kd.S_mono HO_4.out (fun _ hk => ⟨hk.2, hk.1⟩)) hg hat)
        have n1_ := Aside0.mk (blk_grown (g := gb121) (o := .cells #[.int .i64 t119, u122001] 48 (0, 0)) BK121.out hg (Kd.R_ne HO_122001.out BK121.out (by decide)))
        have n2_ := Aside0.mk (IsS40.grown iS hg (IsS40.own_ne HI0.out HO_122001.out (by decide)))
        have n3_ := Aside0.mk (below_weaken bS HL.out hb)
        have n4_ := Aside0.mk (KeepBut.trans kU (KeepBut.of_grown hg g) (Kd.R_base2 HO_122001.out))
        have n5_ := Aside0.mk (ho)
        clear HO_4
        clear BK121
        clear HI0
        clear HB
        clear HK
        clear HO_122001
        have HO_4 := n0_
        have BK121 := n1_
        have HI0 := n2_
        have HB := n3_
        have HK := n4_
        have HO128 := n5_
        clear n0_ n1_ n2_ n3_ n4_ n5_
        clear ho hb hg hat
        obtain ⟨Ao23, co23, eo23⟩ := Kd.R_slice HO128.out
        (first | subst eo23 | (injection eo23 with f1_ f2_ f3_; have f4_ := f1_.symm; have f5_ := f3_.symm; clear f1_ f2_ f3_; subst f4_; subst f5_))
        refine hK.out _ _ ⟨(blk_cell BK121.out 0).trans rfl, (blk_cell BK121.out 1).trans rfl⟩ (fun hHeld => ?_)
        clear hK K
        refine no 36 ?_
        refine pu 7 37 #[true, true, true, true, true, true, true, true, false] HT_ rfl rfl ?_
        refine last_ (i := 8) (N := none) #[true, true, true, true, true, true, true, true, true] rfl rfl (one_of HT_.out (by kernel_rfl)) (by decide) (fun K hK => ?_)
        have hs24 : w22.cell? ⟨gb121, 1, none⟩ = some (u122001) := (blk_cell BK121.out 1).trans rfl
        have hfs24 := blk_frozen BK121.out 1
        refine skip_ (w1 := ?_) (by rfl) rfl ?_ ?_
        rotate_left
        ·go_simp
         rfl
        refine hK.out _ _ ?_
        clear hK K
        refine done_ (done_of HT_.out (by kernel_rfl)) ?_
        try go_wp2
        go_roundg k2
        case measure => have := HK1.out; have := HK2.out; omega
        case rel => exact ⟨(wrap64 (x7_2 - 1)), (t125), (y126), (.slice Ao23 y126.length co23), (by first | rfl | (simp; done) | (simp [*]; done)), H', ⟨by have := HK1.out; have := HK2.out; omega⟩, ⟨by exact Kd.S_mono (Kd.S_far (p := ⟨gb121, 1, none⟩) (Kd.S_mono HO_4.out (fun k_ hk => (⟨hk, hk.1⟩ : _ ∧ k_ ≠ gb121))) (fun _ hk => hk.2) (.slice Ao23 y126.length co23)) (fun _ hk => ⟨hk.1.2, hk.1.1⟩)⟩, ⟨by exact Kd.R_mono (Kd.R_far (p := ⟨gb121, 1, none⟩) (Kd.R_types HO128.out BK121.out (by decide)) (fun _ hk => hk.2) (.slice Ao23 y126.length co23)) (fun _ hk => trivial)⟩, kf, ⟨iS⟩, ⟨kU⟩, ⟨bS⟩⟩
       ·rw [if_neg c19] at H
        exact absurd H (by simp)
      ·rw [if_neg c17] at H
       have c17b0 : decide (0 < x7_2) = false := decide_eq_false c17
       clear c17
       by_cases c25 : x4_1.length < 4398046511104
       ·rw [if_pos c25] at H
        have LMc25 := Aside0.mk c25
        clear c25
        obtain ⟨y129, hy129⟩ : ∃ y_ : List (S48), y_ = (x4_1 ++ [(⟨t119, x122001_2⟩ : S48)]) := ⟨_, rfl⟩
        replace H : (spec_l71Classes.l0 k2 (wrap64 (2 + t111)) y129 (wrap64 (x5_1 + 1)) s0_0 x1001_2) = some (r1, r2) := by first | (rw [hy129]; with_reducible exact H) | (have H2_ := (Option.bind_some _ _).symm.trans H; rw [hy129]; with_reducible exact H2_) | (have H2_ := (Option.bind_some _ _).symm.trans H; with_reducible exact H2_) | with_reducible exact H | (rw [hy129]; exact H) | exact H
        have Ny129 := Aside0.mk hy129
        clear hy129
        have H' := Aside0.mk H
        clear H
        have hnb26 := NB121_0.out
        have hnc26 := NB0_121.out
        obtain ⟨_,_,_,_⟩ := cf2 BK121
        obtain ⟨Ao29, co29, eo29⟩ := Kd.R_slice HO_122001.out
        subst eo29
        go_wp2_with (first | ((with_reducible refine gate_builtin (b := .append) (xs := #[.tmp 38, .tmp 40]) rfl ?_); at_builtin; refine Kd.S_append k48 w.heap.size rfl (.tmp 38) (.tmp 40) 23 48 (.agg #[(.int .i64 0), (.slice none 0 0)]) 32 rfl Try.underlying23 info48 rfl (by decide) (by omega) u4 x4_1 (⟨t119, x122001_2⟩ : S48) [.int .i64 t119, .slice Ao29 x122001_2.length co29] (fun k_ => k_ ≠ gb121) (fun k_ => some k_ = (.slice Ao29 x122001_2.length co29 : Value).ownBlock) rfl rfl ?aP (fun k_ hk_ => ((Kd.R_mono (ok' := fun k_ => ((fun k_ => k_ ≠ gb121)) k_ ∧ some k_ ≠ (u4 : Value).ownBlock) (Kd.R_types (Kd.R_apart' (HO_122001.out) (Kd.S_typed HO_4.out) (by decide)) BK121.out (by decide)) (fun k_ hk => ⟨hk.2, hk.1.2⟩))).1 k_ hk_.symm) ?aF ?aO (Below.refl _ _) ?aS ?aL ?_; (case aP => exact k48_mkM _ _ _ (⟨t119, x122001_2⟩ : S48) (Kd.R_mono (Kd.R_tight rfl (Kd.R_mono (ok' := fun k_ => ((fun k_ => k_ ≠ gb121)) k_ ∧ some k_ ≠ (u4 : Value).ownBlock) (Kd.R_types (Kd.R_apart' (HO_122001.out) (Kd.S_typed HO_4.out) (by decide)) BK121.out (by decide)) (fun k_ hk => ⟨hk.2, hk.1.2⟩))) (fun _ h_ => h_))); (case aF => exact (fun k_ hk => Kd.freshB (g := gb121) (o := .cells #[.int .i64 t119, .slice Ao29 x122001_2.length co29] 48 (0, 0)) BK121.out k_ hk)); (case aO => exact (Kd.S_mono HO_4.out (fun k_ hk => ⟨hk.2, fun e_ => hk.1 e_⟩))); (case aS => exact (keep_size (w := w) (g := g) (row := none) kU)); (case aL => have := LMc25.out; omega); intro v130 w28 ho hb hg hat; rw [← Ny129.out] at ho; have n0_ := Aside0.mk (blk_grown (g := gb121) (o := .cells #[.int .i64 t119, .slice Ao29 x122001_2.length co29] 48 (0, 0)) BK121.out hg (Kd.S_away HO_4.out (fun _ hk => hk.2))); have n1_ := Aside0.mk (IsS40.grown iS hg (IsS40.own_neS HI0.out HO_4.out (by decide))); have n2_ := Aside0.mk (below_weaken bS HL.out hb); have n3_ := Aside0.mk (KeepBut.trans kU (KeepBut.of_grown hg g) (Kd.S_base2 HO_4.out)); have n4_ := Aside0.mk (ho); clear BK121; clear HI0; clear HB; clear HK; clear HO_4; clear HO_122001; have BK121 := n0_; have HI0 := n1_; have HB := n2_; have HK := n3_; have HO131 := n4_; clear n0_ n1_ n2_ n3_ n4_; clear ho hb hg hat))
        go_roundg k2
        case measure => have := HK1.out; have := HK2.out; omega
        case rel => exact ⟨(y129), (wrap64 (x5_1 + 1)), (x1001_2), (by first | rfl | (simp; done) | (simp [*]; done)), H', ⟨by have := HK1.out; have := HK2.out; omega⟩, ⟨by exact Kd.S_mono HO131.out (fun _ hk => trivial)⟩, ⟨iS⟩, ⟨kU⟩, ⟨bS⟩⟩
       ·rw [if_neg c25] at H
        exact absurd H (by simp)
   ·rw [if_neg c9] at H
    have c9b0 : decide (x5_1 < (wrap64 (2 + t111))) = false := decide_eq_false c9
    clear c9
    simp only [Option.some.injEq, Prod.mk.injEq] at H
    obtain ⟨rfl, rfl⟩ := H
    go_wp2
    go_ret
    exact ⟨_, by first | rfl | (simp [errW_none, errW_some] <;> rfl) | (simp [*, errW_none, errW_some] <;> rfl), by exact HO_4.out, iS, bS, kU⟩
end Go.Proofs.Ytchegijjjakmpaa.P

end
