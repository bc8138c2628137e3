/- A part of the claim FnShapeOrder: texts of this session and texts that its program printed out of the translation, joined. -/
import Derived.Test.YtchegijjjakmpaaCFnShapeOrder22
import Derived.Test.YtchegijjjakmpaaCFnShapeOrder23
import Derived.Test.YtchegijjjakmpaaCFnShapeOrder25
import Derived.Test.YtchegijjjakmpaaCFnShapeOrder0
import Derived.Test.YtchegijjjakmpaaCFnShapeOrder1
import Derived.Test.YtchegijjjakmpaaCFnShapeOrder2
import Derived.Test.YtchegijjjakmpaaCFnShapeOrder3
import Derived.Test.YtchegijjjakmpaaCFnShapeOrder4
import Derived.Test.YtchegijjjakmpaaCFnShapeOrder5
import Derived.Test.YtchegijjjakmpaaCFnShapeOrder6
import Derived.Test.YtchegijjjakmpaaCFnShapeOrder7
import Derived.Test.YtchegijjjakmpaaCFnShapeOrder8
import Derived.Test.YtchegijjjakmpaaCFnShapeOrder9
import Derived.Test.YtchegijjjakmpaaCFnShapeOrder10
import Derived.Test.YtchegijjjakmpaaCFnShapeOrder11
import Derived.Test.YtchegijjjakmpaaCFnShapeOrder12
import Derived.Test.YtchegijjjakmpaaCFnShapeOrder13
import Derived.Test.YtchegijjjakmpaaCFnShapeOrder14
import Derived.Test.YtchegijjjakmpaaCFnShapeOrder15
import Derived.Test.YtchegijjjakmpaaCFnShapeOrder16
import Derived.Test.YtchegijjjakmpaaCFnShapeOrder17
import Derived.Test.YtchegijjjakmpaaCFnShapeOrder18
import Derived.Test.YtchegijjjakmpaaCFnShapeOrder19
import Derived.Test.YtchegijjjakmpaaCFnShapeOrder20
import Derived.Test.YtchegijjjakmpaaCFnShapeOrder21
import Derived.Test.YtchegijjjakmpaaCFnShapeOrder24
section

namespace Go.Proofs.Ytchegijjjakmpaa.P
open Go.RowKit Go.Proofs.YtchegijjjakmpaaW.PrintWords Go.Proofs.YtchegijjjakmpaaW.PrintLast Go.Proofs.YtchegijjjakmpaaW.PrintMore
attribute [local go_sem] max2_int min2_int max_two min_two max_three min_three max_four min_four
set_option linter.unusedVariables false
set_option linter.unusedSimpArgs false
def spec_l71OffA.T10 : Bool × List (List Nat × List Nat) := (true, [([], []), ([], []), ([], []), ([], []), ([2, 3], [2, 3]), ([4], [4]), ([5], [5]), ([], []), ([], []), ([8], [8]), ([7, 9], [7, 9]), ([10], [10]), ([11], [11]), ([6, 12, 9], [6, 12]), ([0, 1, 0, 1, 2, 3, 4, 5, 6, 7, 8, 9, 10, 11, 12, 13], [0, 1]), ([14, 0, 1, 2, 3, 4, 5, 6, 7, 8, 9, 10, 11, 12, 13], [14]), ([15, 13, 13, 0, 1, 2, 3, 4, 5, 6, 7, 8, 9, 10, 11, 12, 13], [13, 15])])
def spec_l71OffA.B10 : List Nat := [0, 0, 0, 0, 12, 28, 60, 0, 0, 256, 896, 1920, 3968, 8188, 16383, 32767, 65535]
theorem spec_l71OffA.tab10 : rtab .any (opsOf Try.f17 10) = spec_l71OffA.T10 := by kernel_rfl
theorem spec_l71OffA.bits10 : waitsOk spec_l71OffA.T10.2 spec_l71OffA.B10 = true := by kernel_rfl
set_option maxHeartbeats 8000000 in
set_option maxRecDepth 100000 in
theorem spec_l71OffA.calls (k : Nat) (g : Nat) (s0_0 : List Int) (s0_1 : Int) (r1 : List (S48)) (r2 : Int) (w0 w : World) (hI : IsS40 w0 w g s0_0 s0_1) (hB : Below w0.heap.size w0 w) (h : spec_l71OffA.f k s0_0 s0_1 = some (r1, r2)) :
  Calls Try.prog 17 #[.pointer (some ⟨g, 0, none⟩)] w fun e w' => ∃ v0_ : Value, e = .returned (v0_) ∧ Kd.S k48 48 w' w.heap.size (fun _ => True) v0_ r1 ∧ IsS40 w0 w' g s0_0 r2 ∧ Below w0.heap.size w0 w' ∧ KeepBut w w' g none := by
 have hu48 := Try.underlying48
 have HI0 := Aside0.mk hI
 have HK := Aside0.mk (KeepBut.refl w g none)
 have HL := Aside0.mk hB.size
 clear hI
 have HW0 := Aside0.mk hB.size
 have HB := Aside0.mk hB
 clear hB
 have H : ((spec_l71Classes.f k s0_0 s0_1).bind fun bt132 => ((spec_l6Rd_pick.f k s0_0 bt132.2 20).bind fun bt136 => (if bt136.1 > 0 then (some (bt132.1, bt136.2)) else ((spec_l6Rd_pick.f k s0_0 bt136.2 (bt132.1.length : Int)).bind fun bt138 => ((spec_l6Rd_pick.f k s0_0 bt138.2 6).bind fun bt140 => (if bt140.1 = 0 then ((spec_l6Rd_pick.f k s0_0 bt140.2 7).bind fun bt142 => (if 0 ≤ bt138.1 then (if bt138.1 < (bt132.1.length : Int) then (some ((bt132.1.set (bt138.1 : Int).toNat (⟨wrap64 (bt142.1 - 1), (rd_T48 bt132.1 bt138.1).f1⟩ : S48)), bt142.2)) else (none)) else (none))) else (if bt140.1 = 1 then (if 0 ≤ bt138.1 then (if bt138.1 < (bt132.1.length : Int) then ((some (([0, 2, 13, 5] : List Int) : List Int)).bind fun y146 => ((spec_l6Rd_pick.f k s0_0 bt140.2 4).bind fun bt149 => (if 0 ≤ bt149.1 then (if bt149.1 < (y146.length : Int) then (if ((rd_T48 bt132.1 bt138.1).f1).length < 17592186044416 then (some ((bt132.1.set (bt138.1 : Int).toNat (⟨(rd_T48 bt132.1 bt138.1).f0, (((rd_T48 bt132.1 bt138.1).f1) ++ [rd y146 bt149.1])⟩ : S48)), bt149.2)) else (none)) else (none)) else (none)))) else (none)) else (none)) else (if bt140.1 = 2 then (if 1 ≤ (bt132.1.length : Int) then (some ((bt132.1.take (1 : Int).toNat), bt140.2)) else (none)) else (if bt140.1 = 3 then (if 1 < (bt132.1.length : Int) then (none) else (none)) else (if bt140.1 = 4 then (if 0 ≤ bt138.1 then (if bt138.1 < (bt132.1.length : Int) then (some ((bt132.1.set (bt138.1 : Int).toNat (⟨(rd_T48 bt132.1 bt138.1).f0, (([1, 1, 1] : List Int))⟩ : S48)), bt140.2)) else (none)) else (none)) else (if 0 ≤ bt138.1 then (if bt138.1 < (bt132.1.length : Int) then (some ((bt132.1.set (bt138.1 : Int).toNat (⟨(rd_T48 bt132.1 bt138.1).f0, ([] : List Int)⟩ : S48)), bt140.2)) else (none)) else (none)))))))))))) = some (r1, r2) := h
 clear h
 replace H := Option.bind_eq_some_iff.mp H
 obtain ⟨⟨t132, t135⟩, A20, H⟩ := H
 replace H : ((spec_l6Rd_pick.f k s0_0 t135 20).bind fun bt136 => (if bt136.1 > 0 then (some (t132, bt136.2)) else ((spec_l6Rd_pick.f k s0_0 bt136.2 (t132.length : Int)).bind fun bt138 => ((spec_l6Rd_pick.f k s0_0 bt138.2 6).bind fun bt140 => (if bt140.1 = 0 then ((spec_l6Rd_pick.f k s0_0 bt140.2 7).bind fun bt142 => (if 0 ≤ bt138.1 then (if bt138.1 < (t132.length : Int) then (some ((t132.set (bt138.1 : Int).toNat (⟨wrap64 (bt142.1 - 1), (rd_T48 t132 bt138.1).f1⟩ : S48)), bt142.2)) else (none)) else (none))) else (if bt140.1 = 1 then (if 0 ≤ bt138.1 then (if bt138.1 < (t132.length : Int) then ((some (([0, 2, 13, 5] : List Int) : List Int)).bind fun y146 => ((spec_l6Rd_pick.f k s0_0 bt140.2 4).bind fun bt149 => (if 0 ≤ bt149.1 then (if bt149.1 < (y146.length : Int) then (if ((rd_T48 t132 bt138.1).f1).length < 17592186044416 then (some ((t132.set (bt138.1 : Int).toNat (⟨(rd_T48 t132 bt138.1).f0, (((rd_T48 t132 bt138.1).f1) ++ [rd y146 bt149.1])⟩ : S48)), bt149.2)) else (none)) else (none)) else (none)))) else (none)) else (none)) else (if bt140.1 = 2 then (if 1 ≤ (t132.length : Int) then (some ((t132.take (1 : Int).toNat), bt140.2)) else (none)) else (if bt140.1 = 3 then (if 1 < (t132.length : Int) then (none) else (none)) else (if bt140.1 = 4 then (if 0 ≤ bt138.1 then (if bt138.1 < (t132.length : Int) then (some ((t132.set (bt138.1 : Int).toNat (⟨(rd_T48 t132 bt138.1).f0, (([1, 1, 1] : List Int))⟩ : S48)), bt140.2)) else (none)) else (none)) else (if 0 ≤ bt138.1 then (if bt138.1 < (t132.length : Int) then (some ((t132.set (bt138.1 : Int).toNat (⟨(rd_T48 t132 bt138.1).f0, ([] : List Int)⟩ : S48)), bt140.2)) else (none)) else (none))))))))))) = some (r1, r2) := H
 have A2 := Aside0.mk A20
 clear A20
 replace H := Option.bind_eq_some_iff.mp H
 obtain ⟨⟨t136, t137⟩, A30, H⟩ := H
 replace H : (if t136 > 0 then (some (t132, t137)) else ((spec_l6Rd_pick.f k s0_0 t137 (t132.length : Int)).bind fun bt138 => ((spec_l6Rd_pick.f k s0_0 bt138.2 6).bind fun bt140 => (if bt140.1 = 0 then ((spec_l6Rd_pick.f k s0_0 bt140.2 7).bind fun bt142 => (if 0 ≤ bt138.1 then (if bt138.1 < (t132.length : Int) then (some ((t132.set (bt138.1 : Int).toNat (⟨wrap64 (bt142.1 - 1), (rd_T48 t132 bt138.1).f1⟩ : S48)), bt142.2)) else (none)) else (none))) else (if bt140.1 = 1 then (if 0 ≤ bt138.1 then (if bt138.1 < (t132.length : Int) then ((some (([0, 2, 13, 5] : List Int) : List Int)).bind fun y146 => ((spec_l6Rd_pick.f k s0_0 bt140.2 4).bind fun bt149 => (if 0 ≤ bt149.1 then (if bt149.1 < (y146.length : Int) then (if ((rd_T48 t132 bt138.1).f1).length < 17592186044416 then (some ((t132.set (bt138.1 : Int).toNat (⟨(rd_T48 t132 bt138.1).f0, (((rd_T48 t132 bt138.1).f1) ++ [rd y146 bt149.1])⟩ : S48)), bt149.2)) else (none)) else (none)) else (none)))) else (none)) else (none)) else (if bt140.1 = 2 then (if 1 ≤ (t132.length : Int) then (some ((t132.take (1 : Int).toNat), bt140.2)) else (none)) else (if bt140.1 = 3 then (if 1 < (t132.length : Int) then (none) else (none)) else (if bt140.1 = 4 then (if 0 ≤ bt138.1 then (if bt138.1 < (t132.length : Int) then (some ((t132.set (bt138.1 : Int).toNat (⟨(rd_T48 t132 bt138.1).f0, (([1, 1, 1] : List Int))⟩ : S48)), bt140.2)) else (none)) else (none)) else (if 0 ≤ bt138.1 then (if bt138.1 < (t132.length : Int) then (some ((t132.set (bt138.1 : Int).toNat (⟨(rd_T48 t132 bt138.1).f0, ([] : List Int)⟩ : S48)), bt140.2)) else (none)) else (none)))))))))) = some (r1, r2) := H
 have A3 := Aside0.mk A30
 clear A30
 by_cases c4 : t136 > 0
 ·rw [if_pos c4] at H
  have c4b0 : decide (0 < t136) = true := decide_eq_true c4
  clear c4
  simp only [Option.some.injEq, Prod.mk.injEq] at H
  obtain ⟨rfl, rfl⟩ := H
  go_enter Try.func17, Try.ntmps17
  go_wp2_with (first | ((with_reducible refine gc 27 rfl ?_); refine gl (some 6) Try.func27 #[.pointer (some ⟨g, 0, none⟩)] rfl ?_; (with_reducible refine (spec_l71Classes.calls k g s0_0 s0_1 t132 t135 w0 _ ?side1 ?side2 A2.out).mono ?_); (case side1 => exact iS); (case side2 => exact bS); rintro e w5 ⟨v133, rfl, ho0, hi, hb, hk⟩; refine ⟨_, rfl, ?_⟩; have HO134 := Aside0.mk (Kd.S_lower ho0 (keep_size (w := w) (g := g) (row := none) kU)); replace HK := kT HK hk; replace HI0 := Aside0.mk (hi); replace HB := Aside0.mk (hb)) | ((with_reducible refine gc 10 rfl ?_); refine gl (some 8) Try.func10 #[.pointer (some ⟨g, 0, none⟩), .int .i64 20] rfl ?_; (with_reducible refine (spec_l6Rd_pick.calls k g s0_0 t135 20 t136 t137 w0 _ ?side1 ?side2 A3.out).mono ?_); (case side1 => exact iS); (case side2 => exact bS); rintro e w6 ⟨rfl, hi, hb, hk⟩; refine ⟨_, rfl, ?_⟩; replace HO134 := Aside0.mk (Kd.S_mono (Kd.S_keep (IsS40.apartS (show IsS40 w0 _ g s0_0 t135 from iS) HO134.out (by decide)) hk (fun _ h => h.2)) (fun _ h => h.1)); replace HK := kT HK hk; replace HI0 := Aside0.mk (hi); replace HB := Aside0.mk (hb)))
  go_ret
  exact ⟨_, by first | rfl | (simp [errW_none, errW_some] <;> rfl) | (simp [*, errW_none, errW_some] <;> rfl), by exact HO134.out, iS, bS, kU⟩
 ·rw [if_neg c4] at H
  have c4b0 : decide (0 < t136) = false := decide_eq_false c4
  clear c4
  replace H := Option.bind_eq_some_iff.mp H
  obtain ⟨⟨t138, t139⟩, A70, H⟩ := H
  replace H : ((spec_l6Rd_pick.f k s0_0 t139 6).bind fun bt140 => (if bt140.1 = 0 then ((spec_l6Rd_pick.f k s0_0 bt140.2 7).bind fun bt142 => (if 0 ≤ t138 then (if t138 < (t132.length : Int) then (some ((t132.set (t138 : Int).toNat (⟨wrap64 (bt142.1 - 1), (rd_T48 t132 t138).f1⟩ : S48)), bt142.2)) else (none)) else (none))) else (if bt140.1 = 1 then (if 0 ≤ t138 then (if t138 < (t132.length : Int) then ((some (([0, 2, 13, 5] : List Int) : List Int)).bind fun y146 => ((spec_l6Rd_pick.f k s0_0 bt140.2 4).bind fun bt149 => (if 0 ≤ bt149.1 then (if bt149.1 < (y146.length : Int) then (if ((rd_T48 t132 t138).f1).length < 17592186044416 then (some ((t132.set (t138 : Int).toNat (⟨(rd_T48 t132 t138).f0, (((rd_T48 t132 t138).f1) ++ [rd y146 bt149.1])⟩ : S48)), bt149.2)) else (none)) else (none)) else (none)))) else (none)) else (none)) else (if bt140.1 = 2 then (if 1 ≤ (t132.length : Int) then (some ((t132.take (1 : Int).toNat), bt140.2)) else (none)) else (if bt140.1 = 3 then (if 1 < (t132.length : Int) then (none) else (none)) else (if bt140.1 = 4 then (if 0 ≤ t138 then (if t138 < (t132.length : Int) then (some ((t132.set (t138 : Int).toNat (⟨(rd_T48 t132 t138).f0, (([1, 1, 1] : List Int))⟩ : S48)), bt140.2)) else (none)) else (none)) else (if 0 ≤ t138 then (if t138 < (t132.length : Int) then (some ((t132.set (t138 : Int).toNat (⟨(rd_T48 t132 t138).f0, ([] : List Int)⟩ : S48)), bt140.2)) else (none)) else (none)))))))) = some (r1, r2) := H
  have A7 := Aside0.mk A70
  clear A70
  replace H := Option.bind_eq_some_iff.mp H
  obtain ⟨⟨t140, t141⟩, A80, H⟩ := H
  replace H : (if t140 = 0 then ((spec_l6Rd_pick.f k s0_0 t141 7).bind fun bt142 => (if 0 ≤ t138 then (if t138 < (t132.length : Int) then (some ((t132.set (t138 : Int).toNat (⟨wrap64 (bt142.1 - 1), (rd_T48 t132 t138).f1⟩ : S48)), bt142.2)) else (none)) else (none))) else (if t140 = 1 then (if 0 ≤ t138 then (if t138 < (t132.length : Int) then ((some (([0, 2, 13, 5] : List Int) : List Int)).bind fun y146 => ((spec_l6Rd_pick.f k s0_0 t141 4).bind fun bt149 => (if 0 ≤ bt149.1 then (if bt149.1 < (y146.length : Int) then (if ((rd_T48 t132 t138).f1).length < 17592186044416 then (some ((t132.set (t138 : Int).toNat (⟨(rd_T48 t132 t138).f0, (((rd_T48 t132 t138).f1) ++ [rd y146 bt149.1])⟩ : S48)), bt149.2)) else (none)) else (none)) else (none)))) else (none)) else (none)) else (if t140 = 2 then (if 1 ≤ (t132.length : Int) then (some ((t132.take (1 : Int).toNat), t141)) else (none)) else (if t140 = 3 then (if 1 < (t132.length : Int) then (none) else (none)) else (if t140 = 4 then (if 0 ≤ t138 then (if t138 < (t132.length : Int) then (some ((t132.set (t138 : Int).toNat (⟨(rd_T48 t132 t138).f0, (([1, 1, 1] : List Int))⟩ : S48)), t141)) else (none)) else (none)) else (if 0 ≤ t138 then (if t138 < (t132.length : Int) then (some ((t132.set (t138 : Int).toNat (⟨(rd_T48 t132 t138).f0, ([] : List Int)⟩ : S48)), t141)) else (none)) else (none))))))) = some (r1, r2) := H
  have A8 := Aside0.mk A80
  clear A80
  by_cases c9 : t140 = 0
  ·rw [if_pos c9] at H
   have c9b0 := beq_iff_eq.mpr c9
   have c9b1 := bne_eq_false_iff_eq.mpr c9
   clear c9
   replace H := Option.bind_eq_some_iff.mp H
   obtain ⟨⟨t142, t143⟩, A100, H⟩ := H
   replace H : (if 0 ≤ t138 then (if t138 < (t132.length : Int) then (some ((t132.set (t138 : Int).toNat (⟨wrap64 (t142 - 1), (rd_T48 t132 t138).f1⟩ : S48)), t143)) else (none)) else (none)) = some (r1, r2) := H
   have A10 := Aside0.mk A100
   clear A100
   by_cases c11 : 0 ≤ t138
   ·rw [if_pos c11] at H
    have c11b0 : decide (0 ≤ t138) = true := decide_eq_true c11
    clear c11
    by_cases c12 : t138 < (t132.length : Int)
    ·rw [if_pos c12] at H
     have c12b0 : decide (t138 < (t132.length : Int)) = true := decide_eq_true c12
     clear c12
     obtain ⟨y144, hy144⟩ : ∃ y_ : List (S48), y_ = (t132.set (t138 : Int).toNat (⟨wrap64 (t142 - 1), (rd_T48 t132 t138).f1⟩ : S48)) := ⟨_, rfl⟩
     replace H : (some (y144, t143)) = some (r1, r2) := by first | (rw [hy144]; with_reducible exact H) | (have H2_ := (Option.bind_some _ _).symm.trans H; rw [hy144]; with_reducible exact H2_) | (have H2_ := (Option.bind_some _ _).symm.trans H; with_reducible exact H2_) | with_reducible exact H | (rw [hy144]; exact H) | exact H
     have Ny144 := Aside0.mk hy144
     clear hy144
     simp only [Option.some.injEq, Prod.mk.injEq] at H
     obtain ⟨rfl, rfl⟩ := H
     go_enter Try.func17, Try.ntmps17
     go_wp2_with (first | ((with_reducible refine gc 27 rfl ?_); refine gl (some 6) Try.func27 #[.pointer (some ⟨g, 0, none⟩)] rfl ?_; (with_reducible refine (spec_l71Classes.calls k g s0_0 s0_1 t132 t135 w0 _ ?side1 ?side2 A2.out).mono ?_); (case side1 => exact iS); (case side2 => exact bS); rintro e w14 ⟨v133, rfl, ho0, hi, hb, hk⟩; refine ⟨_, rfl, ?_⟩; have HO134 := Aside0.mk (Kd.S_lower ho0 (keep_size (w := w) (g := g) (row := none) kU)); replace HK := kT HK hk; replace HI0 := Aside0.mk (hi); replace HB := Aside0.mk (hb)) | ((with_reducible refine gc 10 rfl ?_); refine gl (some 8) Try.func10 #[.pointer (some ⟨g, 0, none⟩), .int .i64 20] rfl ?_; (with_reducible refine (spec_l6Rd_pick.calls k g s0_0 t135 20 t136 t137 w0 _ ?side1 ?side2 A3.out).mono ?_); (case side1 => exact iS); (case side2 => exact bS); rintro e w15 ⟨rfl, hi, hb, hk⟩; refine ⟨_, rfl, ?_⟩; replace HO134 := Aside0.mk (Kd.S_mono (Kd.S_keep (IsS40.apartS (show IsS40 w0 _ g s0_0 t135 from iS) HO134.out (by decide)) hk (fun _ h => h.2)) (fun _ h => h.1)); replace HK := kT HK hk; replace HI0 := Aside0.mk (hi); replace HB := Aside0.mk (hb); obtain ⟨Ao16, co16, eo16⟩ := Kd.S_slice HO134.out; subst eo16) | ((with_reducible refine gc 10 rfl ?_); refine gl (some 14) Try.func10 #[.pointer (some ⟨g, 0, none⟩), .int .i64 (t132.length : Int)] rfl ?_; (with_reducible refine (spec_l6Rd_pick.calls k g s0_0 t137 (t132.length : Int) t138 t139 w0 _ ?side1 ?side2 A7.out).mono ?_); (case side1 => exact iS); (case side2 => exact bS); rintro e w17 ⟨rfl, hi, hb, hk⟩; refine ⟨_, rfl, ?_⟩; replace HO134 := Aside0.mk (Kd.S_mono (Kd.S_keep (IsS40.apartS (show IsS40 w0 _ g s0_0 t137 from iS) HO134.out (by decide)) hk (fun _ h => h.2)) (fun _ h => h.1)); replace HK := kT HK hk; replace HI0 := Aside0.mk (hi); replace HB := Aside0.mk (hb)) | ((with_reducible refine gc 10 rfl ?_); refine gl (some 16) Try.func10 #[.pointer (some ⟨g, 0, none⟩), .int .i64 6] rfl ?_; (with_reducible refine (spec_l6Rd_pick.calls k g s0_0 t139 6 t140 t141 w0 _ ?side1 ?side2 A8.out).mono ?_); (case side1 => exact iS); (case side2 => exact bS); rintro e w18 ⟨rfl, hi, hb, hk⟩; refine ⟨_, rfl, ?_⟩; replace HO134 := Aside0.mk (Kd.S_mono (Kd.S_keep (IsS40.apartS (show IsS40 w0 _ g s0_0 t139 from iS) HO134.out (by decide)) hk (fun _ h => h.2)) (fun _ h => h.1)); replace HK := kT HK hk; replace HI0 := Aside0.mk (hi); replace HB := Aside0.mk (hb)) | ((with_reducible refine gc 10 rfl ?_); refine gl (some 26) Try.func10 #[.pointer (some ⟨g, 0, none⟩), .int .i64 7] rfl ?_; (with_reducible refine (spec_l6Rd_pick.calls k g s0_0 t141 7 t142 t143 w0 _ ?side1 ?side2 A10.out).mono ?_); (case side1 => exact iS); (case side2 => exact bS); rintro e w19 ⟨rfl, hi, hb, hk⟩; refine ⟨_, rfl, ?_⟩; replace HO134 := Aside0.mk (Kd.S_mono (Kd.S_keep (IsS40.apartS (show IsS40 w0 _ g s0_0 t141 from iS) HO134.out (by decide)) hk (fun _ h => h.2)) (fun _ h => h.1)); replace HK := kT HK hk; replace HI0 := Aside0.mk (hi); replace HB := Aside0.mk (hb); have p13 : 0 ≤ (t138 : Int) := od; have q13 : (t138 : Int) < ((t132.length : Int) : Int) := od; obtain ⟨go13, co13, eo13, gb13, gl13, cl13, HG13⟩ := Kd.S_form HO134.out (by omega); (first | cases eo13 | (injection eo13 with ea_ en_ ec_; (first | subst ea_ | (injection ea_ with ea_; subst ea_)); subst ec_; clear en_)); have GB13 := Aside0.mk gb13; have GG13 := Aside0.mk HG13; clear gb13 gl13 HG13; obtain ⟨_, ce13, hcl13, hM13, hcc13, hfr13, _, _⟩ := Kd.S_elem HO134.out z48 (t138 : Int) p13 q13; obtain ⟨ve13_1, rfl, ge13_1⟩ := k48_openM hM13; have hx13_0 : w19.cell? ⟨go13, (t138 : Int).toNat * 2, none⟩ = some (.int .i64 ((rd_T48 t132 t138).f0)) := hcc13 0 _ rfl; have hx13_1 : w19.cell? ⟨go13, (t138 : Int).toNat * 2 + 1, none⟩ = some (ve13_1) := hcc13 1 _ rfl; have hf13_0 : w19.frozen? ⟨go13, (t138 : Int).toNat * 2, none⟩ = false := hfr13 0; have hf13_1 : w19.frozen? ⟨go13, (t138 : Int).toNat * 2 + 1, none⟩ = false := hfr13 1; clear hcl13 hcc13 hfr13 hM13; replace p13 := eq_true p13; replace q13 := eq_true q13; have HX20 := Aside0.mk (show Kd.S k48 48 w19 w.heap.size (fun k_ => ((fun _ => True)) k_ ∧ ¬ ((fun _ => False)) k_) (.slice (some ⟨go13, 0, none⟩) t132.length co16) t132 from (Kd.S_mono HO134.out (fun k_ hk => ⟨trivial, fun e_ => e_⟩))); obtain ⟨oki20, ce20, hcl20, hM20, hcc20, hfr20, hoki20, hH20⟩ := Kd.S_elem HX20.out z48 (t138 : Int) (of_decide_eq_true (by first | (with_reducible assumption) | assumption)) (by have h_ : (t138 : Int) < ((t132.length : Int) : Int) := of_decide_eq_true (by first | (with_reducible assumption) | assumption); first | exact h_ | (have e_ := (Kd.S_reads' HO134.out).1; omega) | simpa using h_); obtain ⟨ve20_1, rfl, ge20_1⟩ := k48_openM hM20; have HP20 := Kd.S_seg hH20 (of_decide_eq_true (by first | (with_reducible assumption) | assumption)) (by have h_ : (t138 : Int) < ((t132.length : Int) : Int) := of_decide_eq_true (by first | (with_reducible assumption) | assumption); first | exact h_ | (have e_ := (Kd.S_reads' HO134.out).1; omega) | simpa using h_) (seg := [.int .i64 (wrap64 (t142 - 1))]) (j := 0) (show 1 ≤ 2 from by decide) (x' := (⟨wrap64 (t142 - 1), (rd_T48 t132 t138).f1⟩ : S48)) (k48_mkM _ _ _ (⟨wrap64 (t142 - 1), (rd_T48 t132 t138).f1⟩ : S48) (Kd.R_mono ge20_1 (fun _ h_ => Or.inl h_))) (fun _ hk => hk) (fun k_ hk_ => hk_.elim); have hx20_0 := hcc20 0 _ rfl; (try simp only [show (k48).sz = 2 from rfl, Nat.mul_one, Nat.add_zero] at hx20_0); have hf20_0 := hfr20 0; (try simp only [show (k48).sz = 2 from rfl, Nat.mul_one, Nat.add_zero] at hf20_0); clear hcl20 hcc20 hfr20 hM20 hoki20 hH20) | ((with_reducible refine gate_store (t := 3) (p := 29) rfl ?_); refine store_event (t := 3) (p := 29) (v := ?vo_w21) (w1 := (w19.setCell ⟨go13, (t138 : Int).toNat * 2, none⟩ (.int .i64 (wrap64 (t142 - 1))))) ?hg ?ho ?hn ?hr ?_; (case ho => rfl); (case hg => rfl); (case hn => rfl); (case hr => first | (go_simp; done) | (go_simp; rfl)); intro w21 hw; have hg : w19.grownBy w21 (some go13) := (by rw [hw]; exact HP20.2); have hp_ : Kd.S k48 48 w21 w.heap.size (fun _ => True) (.slice (some ⟨go13, 0, none⟩) t132.length co16) y144 := (by rw [hw, Ny144.out]; exact HP20.1); clear HP20; replace HI0 := Aside0.mk (IsS40.grown iS hg (IsS40.own_neS HI0.out HO134.out (by decide))); replace HK := Aside0.mk (KeepBut.trans kU (KeepBut.of_grown hg g) (Kd.S_base2 HO134.out)); replace HO134 := Aside0.mk (hp_); replace HB := Aside0.mk ((by rw [hw]; exact below_set (HB.out) (Nat.le_trans HL.out GB13.out) : Below w0.heap.size w0 w21)); clear hg hw hp_))
     go_ret
     exact ⟨_, by first | rfl | (simp [errW_none, errW_some] <;> rfl) | (simp [*, errW_none, errW_some] <;> rfl), by exact HO134.out, iS, bS, kU⟩
    ·rw [if_neg c12] at H
     exact absurd H (by simp)
   ·rw [if_neg c11] at H
    exact absurd H (by simp)
  ·rw [if_neg c9] at H
   have c9b0 := beq_eq_false_iff_ne.mpr c9
   have c9b1 := bne_iff_ne.mpr c9
   by_cases c22 : t140 = 1
   ·rw [if_pos c22] at H
    have c22b0 := beq_iff_eq.mpr c22
    have c22b1 := bne_eq_false_iff_eq.mpr c22
    clear c22
    by_cases c23 : 0 ≤ t138
    ·rw [if_pos c23] at H
     have c23b0 : decide (0 ≤ t138) = true := decide_eq_true c23
     clear c23
     by_cases c24 : t138 < (t132.length : Int)
     ·rw [if_pos c24] at H
      have c24b0 : decide (t138 < (t132.length : Int)) = true := decide_eq_true c24
      clear c24
      obtain ⟨y146, hy146⟩ : ∃ y_ : List Int, y_ = (([0, 2, 13, 5] : List Int)) := ⟨_, rfl⟩
      replace H : ((spec_l6Rd_pick.f k s0_0 t141 4).bind fun bt149 => (if 0 ≤ bt149.1 then (if bt149.1 < (y146.length : Int) then (if ((rd_T48 t132 t138).f1).length < 17592186044416 then (some ((t132.set (t138 : Int).toNat (⟨(rd_T48 t132 t138).f0, (((rd_T48 t132 t138).f1) ++ [rd y146 bt149.1])⟩ : S48)), bt149.2)) else (none)) else (none)) else (none))) = some (r1, r2) := by first | (rw [hy146]; with_reducible exact H) | (have H2_ := (Option.bind_some _ _).symm.trans H; rw [hy146]; with_reducible exact H2_) | (have H2_ := (Option.bind_some _ _).symm.trans H; with_reducible exact H2_) | with_reducible exact H | (rw [hy146]; exact H) | exact H
      have Ny146 := Aside0.mk hy146
      clear hy146
      replace H := Option.bind_eq_some_iff.mp H
      obtain ⟨⟨t149, t150⟩, A250, H⟩ := H
      replace H : (if 0 ≤ t149 then (if t149 < (y146.length : Int) then (if ((rd_T48 t132 t138).f1).length < 17592186044416 then (some ((t132.set (t138 : Int).toNat (⟨(rd_T48 t132 t138).f0, (((rd_T48 t132 t138).f1) ++ [rd y146 t149])⟩ : S48)), t150)) else (none)) else (none)) else (none)) = some (r1, r2) := H
      have A25 := Aside0.mk A250
      clear A250
      by_cases c26 : 0 ≤ t149
      ·rw [if_pos c26] at H
       have c26b0 : decide (0 ≤ t149) = true := decide_eq_true c26
       clear c26
       by_cases c27 : t149 < (y146.length : Int)
       ·rw [if_pos c27] at H
        have c27b0 : decide (t149 < (y146.length : Int)) = true := decide_eq_true c27
        clear c27
        by_cases c28 : ((rd_T48 t132 t138).f1).length < 17592186044416
        ·rw [if_pos c28] at H
         have LMc28 := Aside0.mk c28
         clear c28
         obtain ⟨y152, hy152⟩ : ∃ y_ : List Int, y_ = (((rd_T48 t132 t138).f1) ++ [rd y146 t149]) := ⟨_, rfl⟩
         replace H : (some ((t132.set (t138 : Int).toNat (⟨(rd_T48 t132 t138).f0, y152⟩ : S48)), t150)) = some (r1, r2) := by first | (rw [hy152]; with_reducible exact H) | (have H2_ := (Option.bind_some _ _).symm.trans H; rw [hy152]; with_reducible exact H2_) | (have H2_ := (Option.bind_some _ _).symm.trans H; with_reducible exact H2_) | with_reducible exact H | (rw [hy152]; exact H) | exact H
         have Ny152 := Aside0.mk hy152
         clear hy152
         obtain ⟨y155, hy155⟩ : ∃ y_ : List (S48), y_ = (t132.set (t138 : Int).toNat (⟨(rd_T48 t132 t138).f0, y152⟩ : S48)) := ⟨_, rfl⟩
         replace H : (some (y155, t150)) = some (r1, r2) := by first | (rw [hy155]; with_reducible exact H) | (have H2_ := (Option.bind_some _ _).symm.trans H; rw [hy155]; with_reducible exact H2_) | (have H2_ := (Option.bind_some _ _).symm.trans H; with_reducible exact H2_) | with_reducible exact H | (rw [hy155]; exact H) | exact H
         have Ny155 := Aside0.mk hy155
         clear hy155
         simp only [Option.some.injEq, Prod.mk.injEq] at H
         obtain ⟨rfl, rfl⟩ := H
         go_enter Try.func17, Try.ntmps17
         try go_wp2_with (first | ((with_reducible refine gc 27 rfl ?_); refine gl (some 6) Try.func27 #[.pointer (some ⟨g, 0, none⟩)] rfl ?_; (with_reducible refine (spec_l71Classes.calls k g s0_0 s0_1 t132 t135 w0 _ ?side1 ?side2 A2.out).mono ?_); (case side1 => exact iS); (case side2 => exact bS); rintro e w30 ⟨v133, rfl, ho0, hi, hb, hk⟩; refine ⟨_, rfl, ?_⟩; have HO134 := Aside0.mk (Kd.S_lower ho0 (keep_size (w := w) (g := g) (row := none) kU)); replace HK := kT HK hk; replace HI0 := Aside0.mk (hi); replace HB := Aside0.mk (hb)) | ((with_reducible refine gc 10 rfl ?_); refine gl (some 8) Try.func10 #[.pointer (some ⟨g, 0, none⟩), .int .i64 20] rfl ?_; (with_reducible refine (spec_l6Rd_pick.calls k g s0_0 t135 20 t136 t137 w0 _ ?side1 ?side2 A3.out).mono ?_); (case side1 => exact iS); (case side2 => exact bS); rintro e w31 ⟨rfl, hi, hb, hk⟩; refine ⟨_, rfl, ?_⟩; replace HO134 := Aside0.mk (Kd.S_mono (Kd.S_keep (IsS40.apartS (show IsS40 w0 _ g s0_0 t135 from iS) HO134.out (by decide)) hk (fun _ h => h.2)) (fun _ h => h.1)); replace HK := kT HK hk; replace HI0 := Aside0.mk (hi); replace HB := Aside0.mk (hb); obtain ⟨Ao32, co32, eo32⟩ := Kd.S_slice HO134.out; subst eo32) | ((with_reducible refine gc 10 rfl ?_); refine gl (some 14) Try.func10 #[.pointer (some ⟨g, 0, none⟩), .int .i64 (t132.length : Int)] rfl ?_; (with_reducible refine (spec_l6Rd_pick.calls k g s0_0 t137 (t132.length : Int) t138 t139 w0 _ ?side1 ?side2 A7.out).mono ?_); (case side1 => exact iS); (case side2 => exact bS); rintro e w33 ⟨rfl, hi, hb, hk⟩; refine ⟨_, rfl, ?_⟩; replace HO134 := Aside0.mk (Kd.S_mono (Kd.S_keep (IsS40.apartS (show IsS40 w0 _ g s0_0 t137 from iS) HO134.out (by decide)) hk (fun _ h => h.2)) (fun _ h => h.1)); replace HK := kT HK hk; replace HI0 := Aside0.mk (hi); replace HB := Aside0.mk (hb)) | ((with_reducible refine gc 10 rfl ?_); refine gl (some 16) Try.func10 #[.pointer (some ⟨g, 0, none⟩), .int .i64 6] rfl ?_; (with_reducible refine (spec_l6Rd_pick.calls k g s0_0 t139 6 t140 t141 w0 _ ?side1 ?side2 A8.out).mono ?_); (case side1 => exact iS); (case side2 => exact bS); rintro e w34 ⟨rfl, hi, hb, hk⟩; refine ⟨_, rfl, ?_⟩; replace HO134 := Aside0.mk (Kd.S_mono (Kd.S_keep (IsS40.apartS (show IsS40 w0 _ g s0_0 t139 from iS) HO134.out (by decide)) hk (fun _ h => h.2)) (fun _ h => h.1)); replace HK := kT HK hk; replace HI0 := Aside0.mk (hi); replace HB := Aside0.mk (hb)))
         have pi151 : (0 ≤ (t149 : Int)) = True := eq_true (of_decide_eq_true (by first | (with_reducible assumption) | assumption))
         have qi151 : (t149 < (y146.length : Int)) = True := eq_true (of_decide_eq_true (by first | (with_reducible assumption) | assumption))
         replace HO134 := Aside0.mk (Kd.S_drew HO134.out)
         replace HI0 := Aside0.mk (IsS40.drew HI0.out)
         replace HK := Aside0.mk (keep_drew HK.out)
         replace HB := Aside0.mk (below_drew1 HB.out)
         have p145 : 0 ≤ (t138 : Int) := od
         have q145 : t138 < (t132.length : Int) := od
         obtain ⟨ad145, A145_1, c145_1, e145, hx145_0, hx145_1, hl145_1, hi145_1⟩ := at_T48 (Kd.S_reads' HO134.out).2.2 t138 p145 q145
         cases e145
         obtain ⟨ce145, hce145, hMe145, hcc145⟩ := Kd.S_get HO134.out z48 t138 p145 (by first | exact q145 | exact of_decide_eq_true (by first | (with_reducible assumption) | assumption) | (have e_ := (Kd.S_reads' HO134.out).1; omega))
         obtain ⟨ve145_1, rfl, ge145_1⟩ := k48_openM hMe145
         have hv145_1 := hcc145 1 _ rfl
         rw [add_field _ _ 1 (by omega)] at hv145_1
         replace hv145_1 := Option.some.inj (hv145_1.symm.trans hx145_1)
         rw [hv145_1] at ge145_1
         have HL145_1 := Aside0.mk (show Kd.R (Kd.int .i64) 3 _ _ _ _ ((rd_T48 t132 t138).f1) from ge145_1)
         clear hv145_1 ge145_1
         have HX145_1 := Aside0.mk hx145_1
         clear hcc145 hce145
         have HR145_1 := Aside0.mk hi145_1
         have HC145_1 := Aside0.mk hl145_1
         clear hi145_1 hl145_1
         replace p145 := eq_true p145
         replace q145 := eq_true q145
         refine start_ (n := 17) (S := fun w' => w'.cell? (ad145.add ((t138).toNat * 2)) = some (.int .i64 ((rd_T48 t132 t138).f0)) ∧ w'.cell? ⟨(ad145.add ((t138).toNat * 2)).block, (ad145.add ((t138).toNat * 2)).off + 1, none⟩ = some (.slice A145_1 ((rd_T48 t132 t138).f1).length c145_1)) (ds := [16]) #[false, false, false, false, false, false, false, false, false, false, false, false, false, false, false, false, false] (by kernel_rfl) rfl rfl ⟨hx145_0, hx145_1⟩ (fun hHeld => ?_); refine with_tabW spec_l71OffA.tab10 spec_l71OffA.bits10 (fun HT_ HW_ => ?_)
         generalize w34.drew = w35 at HO134 HI0 HK HB HL145_1 HR145_1 HX145_1 hx145_0 hx145_1 hHeld ⊢
         refine pu 0 32 #[true, false, false, false, false, false, false, false, false, false, false, false, false, false, false, false, false] HT_ rfl rfl ?_
         refine pu 1 33 #[true, true, false, false, false, false, false, false, false, false, false, false, false, false, false, false, false] HT_ rfl rfl ?_
         refine pu 2 34 #[true, true, true, false, false, false, false, false, false, false, false, false, false, false, false, false, false] HT_ rfl rfl ?_
         refine pu 3 35 #[true, true, true, true, false, false, false, false, false, false, false, false, false, false, false, false, false] HT_ rfl rfl ?_
         refine pu 4 36 #[true, true, true, true, true, false, false, false, false, false, false, false, false, false, false, false, false] HT_ rfl rfl ?_
         refine pu 5 37 #[true, true, true, true, true, true, false, false, false, false, false, false, false, false, false, false, false] HT_ rfl rfl ?_
         refine pu 8 40 #[true, true, true, true, true, true, false, false, true, false, false, false, false, false, false, false, false] HT_ rfl rfl ?_
         refine ta 6 38 #[true, true, true, true, true, true, true, false, true, false, false, false, false, false, false, false, false] HT_ HW_ hHeld rfl rfl ?_
         refine join_ (σ := Value × Addr) 7 #[true, true, true, true, true, true, true, true, true, true, false, false, false, false, false, false, false] (fun s_ => [(39, s_.1), (41, .int .i64 t149)]) (fun s_ w' => (w'.cell? (ad145.add ((t138).toNat * 2)) = some (.int .i64 ((rd_T48 t132 t138).f0)) ∧ w'.cell? ⟨(ad145.add ((t138).toNat * 2)).block, (ad145.add ((t138).toNat * 2)).off + 1, none⟩ = some (.slice A145_1 ((rd_T48 t132 t138).f1).length c145_1)) ∧ (Kd.R (Kd.int .i64) 3 w' w.heap.size (fun k_ => some k_ ≠ (.slice (some ad145) t132.length co32 : Value).ownBlock ∧ some k_ ≠ (s_.1 : Value).ownBlock) (.slice A145_1 ((rd_T48 t132 t138).f1).length c145_1) ((rd_T48 t132 t138).f1)) ∧ (Kd.S k48 48 w' w.heap.size (fun k_ => some k_ ≠ (s_.1 : Value).ownBlock) (.slice (some ad145) t132.length co32) t132) ∧ (Kd.R (Kd.int .i64) 3 w' w.heap.size (fun k_ => some k_ ≠ (.slice A145_1 ((rd_T48 t132 t138).f1).length c145_1 : Value).ownBlock) s_.1 y146) ∧ (∃ c_, (s_.1 : Value) = .slice (some s_.2) y146.length c_) ∧ (w'.cell? ⟨(ad145.add ((t138).toNat * 2)).block, (ad145.add ((t138).toNat * 2)).off + 1, none⟩ = some (.slice A145_1 ((rd_T48 t132 t138).f1).length c145_1)) ∧ (IsS40 w0 w' g s0_0 t150) ∧ (KeepBut w w' g none) ∧ (Below w0.heap.size w0 w')) ?_ ?_
         rotate_left
         ·intro hCont
          refine two_ (i := 7) (j := 9) (Ni := some 39) (Nj := some 41) #[true, true, true, true, true, true, true, true, true, false, false, false, false, false, false, false, false] #[true, true, true, true, true, true, true, false, true, true, false, false, false, false, false, false, false] rfl rfl rfl rfl (two_of HT_.out (by kernel_rfl)) (by decide) (by decide) (fun K hK => ?_) (fun K hK => ?_)
          ·skip
           refine Kd.R_lit_step (Kd.int .i64) _ 3 ?hg (N := 39) ?hd (xs := ([0, 2, 13, 5] : List Int)) (inner := [.int .i64 0, .int .i64 2, .int .i64 13, .int .i64 5]) (ok := fun _ => True) (okp := fun _ => True) ?hr ?hp (fun _ hk => hk) trivial (Below.refl _ _) (Nat.le_refl _) (by simp) ?_; (case hd => rfl); (case hg => rfl); (case hr => first | (go_simp; done) | (go_simp; rfl)); (case hp => exact (Reps.one (show Kd.M (Kd.int .i64) _ _ _ 0 [.int .i64 0] from rfl) (Reps.one (show Kd.M (Kd.int .i64) _ _ _ 2 [.int .i64 2] from rfl) (Reps.one (show Kd.M (Kd.int .i64) _ _ _ 13 [.int .i64 13] from rfl) (Reps.one (show Kd.M (Kd.int .i64) _ _ _ 5 [.int .i64 5] from rfl) (Reps.none _ _))))))
           intro v147 w36 ho37 hb hg_ hnew_
           have HS0_ := (hb.cell (World.block_lt_of_cell? _ _ (hHeld.1))).trans (hHeld.1)
           have HS1_ := (hb.cell (World.block_lt_of_cell? _ _ (hHeld.2))).trans (hHeld.2)
           clear hg_ hnew_
           (first | rw [← Ny146.out] at ho37 | (simp only [Int.reduceToNat] at ho37; rw [← Ny146.out] at ho37))
           have HO148 := Aside0.mk (Kd.R_lower (Kd.R_new' ho37 (Kd.R_lt (HL145_1.out))) (keep_size (w := w) (g := g) (row := none) kU))
           replace HO134 := Aside0.mk (Kd.S_elder' HO134.out (Kd.R_base ho37) hb)
           replace HL145_1 := Aside0.mk (Kd.R_elder' (HL145_1.out) (Kd.R_base ho37) hb)
           replace HR145_1 := Aside0.mk (Kd.C_below (by repeat (first | (with_reducible exact HR145_1.out) | (with_reducible refine Kd.C_alloc ?_ _) | (with_reducible refine Kd.C_drewN ?_ _) | (with_reducible refine Kd.C_drew ?_) | exact HR145_1.out)) hb)
           replace HX145_1 := Aside0.mk (pw_cell_below hb HX145_1.out)
           replace HK := kN HK hb
           replace HB := bN HB hb
           replace HI0 := iB HI0 hb
           clear hb ho37
           obtain ⟨Ao38, co38, eo38⟩ := Kd.R_slice HO148.out
           subst eo38
           obtain ⟨ado38, fo38, _⟩ := Kd.at_int (Kd.R_reads' HO148.out).2.2 0 (by decide) (by rw [Ny146.out]; simp)
           cases fo38
           refine hK.out _ _ ⟨HS0_, HS1_⟩ (fun hHeld => ?_)
           clear hK K
           refine no 39 ?_
           refine one_ (i := 9) (N := some 41) #[true, true, true, true, true, true, true, true, true, true, false, false, false, false, false, false, false] rfl rfl (one_of HT_.out (by kernel_rfl)) (by decide) (fun K hK => ?_)
           refine gs Try.func10 #[.pointer (some ⟨g, 0, none⟩), .int .i64 4] rfl rfl ?_
           with_reducible refine (spec_l6Rd_pick.calls k g s0_0 t141 4 t149 t150 w0 _ ?side1 ?side2 A25.out).mono ?_
           (case side1 => exact iS)
           (case side2 => exact bS)
           rintro e w39 ⟨rfl, hi, hb, hk⟩
           have HS0_ := keep_cell hk (hHeld.1) (by first | (rw [add_block]; exact Kd.own_blk (IsS40.own_neS HI0.out HO134.out (by decide))) | (show (Addr.add _ _).block ≠ _; rw [add_block]; exact Kd.own_blk (IsS40.own_neS HI0.out HO134.out (by decide))) | exact Kd.own_blk (IsS40.own_neS HI0.out HO134.out (by decide)))
           have HS1_ := keep_cell hk (hHeld.2) (by first | (rw [add_block]; exact Kd.own_blk (IsS40.own_neS HI0.out HO134.out (by decide))) | (show (Addr.add _ _).block ≠ _; rw [add_block]; exact Kd.own_blk (IsS40.own_neS HI0.out HO134.out (by decide))) | exact Kd.own_blk (IsS40.own_neS HI0.out HO134.out (by decide)))
           refine ⟨_, rfl, ?_⟩
           replace HL145_1 := Aside0.mk (Kd.R_mono (Kd.R_keep (IsS40.apart (show IsS40 w0 _ g s0_0 t141 from iS) (HL145_1.out) (by decide)) hk (fun _ h => h.2)) (fun _ h => h.1))
           replace HX145_1 := Aside0.mk (keep_cell hk HX145_1.out (by first | (rw [add_block]; exact Kd.own_blk (IsS40.own_neS HI0.out HO134.out (by decide))) | (show (Addr.add _ _).block ≠ _; rw [add_block]; exact Kd.own_blk (IsS40.own_neS HI0.out HO134.out (by decide))) | exact Kd.own_blk (IsS40.own_neS HI0.out HO134.out (by decide)) | (dsimp only; exact Kd.own_blk (IsS40.own_neS HI0.out HO134.out (by decide)))))
           replace HO134 := Aside0.mk (Kd.S_mono (Kd.S_keep (IsS40.apartS (show IsS40 w0 _ g s0_0 t141 from iS) HO134.out (by decide)) hk (fun _ h => h.2)) (fun _ h => h.1))
           replace HO148 := Aside0.mk (Kd.R_mono (Kd.R_keep (IsS40.apart (show IsS40 w0 _ g s0_0 t141 from iS) HO148.out (by decide)) hk (fun _ h => h.2)) (fun _ h => h.1))
           replace HK := kT HK hk
           replace HI0 := Aside0.mk (hi)
           replace HB := Aside0.mk (hb)
           (try clear hb)
           (try clear hb2)
           (try clear hk)
           (try clear hi)
           refine hK.out _ _ ⟨HS0_, HS1_⟩ (fun hHeld => ?_)
           clear hK K
           refine no 41 ?_
           exact norm_ (by simp only [putAll, Act.put, List.setIfInBounds_toArray, List.set_cons_zero, List.set_cons_succ]) (hCont (.slice (some ado38) y146.length co38, ado38) _ ⟨hHeld, (Kd.R_mono HL145_1.out (fun _ hk => ⟨hk.1.2, hk.2⟩)), (Kd.S_mono HO134.out (fun _ hk => hk.2)), (Kd.R_mono HO148.out (fun _ hk => hk.2)), ⟨_, rfl⟩, HX145_1.out, iS, kU, bS⟩)
          ·skip
           refine gs Try.func10 #[.pointer (some ⟨g, 0, none⟩), .int .i64 4] rfl rfl ?_
           with_reducible refine (spec_l6Rd_pick.calls k g s0_0 t141 4 t149 t150 w0 _ ?side1 ?side2 A25.out).mono ?_
           (case side1 => exact iS)
           (case side2 => exact bS)
           rintro e w36 ⟨rfl, hi, hb, hk⟩
           have HS0_ := keep_cell hk (hHeld.1) (by first | (rw [add_block]; exact Kd.own_blk (IsS40.own_neS HI0.out HO134.out (by decide))) | (show (Addr.add _ _).block ≠ _; rw [add_block]; exact Kd.own_blk (IsS40.own_neS HI0.out HO134.out (by decide))) | exact Kd.own_blk (IsS40.own_neS HI0.out HO134.out (by decide)))
           have HS1_ := keep_cell hk (hHeld.2) (by first | (rw [add_block]; exact Kd.own_blk (IsS40.own_neS HI0.out HO134.out (by decide))) | (show (Addr.add _ _).block ≠ _; rw [add_block]; exact Kd.own_blk (IsS40.own_neS HI0.out HO134.out (by decide))) | exact Kd.own_blk (IsS40.own_neS HI0.out HO134.out (by decide)))
           refine ⟨_, rfl, ?_⟩
           replace HL145_1 := Aside0.mk (Kd.R_mono (Kd.R_keep (IsS40.apart (show IsS40 w0 _ g s0_0 t141 from iS) (HL145_1.out) (by decide)) hk (fun _ h => h.2)) (fun _ h => h.1))
           replace HX145_1 := Aside0.mk (keep_cell hk HX145_1.out (by first | (rw [add_block]; exact Kd.own_blk (IsS40.own_neS HI0.out HO134.out (by decide))) | (show (Addr.add _ _).block ≠ _; rw [add_block]; exact Kd.own_blk (IsS40.own_neS HI0.out HO134.out (by decide))) | exact Kd.own_blk (IsS40.own_neS HI0.out HO134.out (by decide)) | (dsimp only; exact Kd.own_blk (IsS40.own_neS HI0.out HO134.out (by decide)))))
           replace HO134 := Aside0.mk (Kd.S_mono (Kd.S_keep (IsS40.apartS (show IsS40 w0 _ g s0_0 t141 from iS) HO134.out (by decide)) hk (fun _ h => h.2)) (fun _ h => h.1))
           replace HK := kT HK hk
           replace HI0 := Aside0.mk (hi)
           replace HB := Aside0.mk (hb)
           (try clear hb)
           (try clear hb2)
           (try clear hk)
           (try clear hi)
           refine hK.out _ _ ⟨HS0_, HS1_⟩ (fun hHeld => ?_)
           clear hK K
           refine no 41 ?_
           refine one_ (i := 7) (N := some 39) #[true, true, true, true, true, true, true, true, true, true, false, false, false, false, false, false, false] rfl rfl (one_of HT_.out (by kernel_rfl)) (by decide) (fun K hK => ?_)
           refine Kd.R_lit_step (Kd.int .i64) _ 3 ?hg (N := 39) ?hd (xs := ([0, 2, 13, 5] : List Int)) (inner := [.int .i64 0, .int .i64 2, .int .i64 13, .int .i64 5]) (ok := fun _ => True) (okp := fun _ => True) ?hr ?hp (fun _ hk => hk) trivial (Below.refl _ _) (Nat.le_refl _) (by simp) ?_; (case hd => rfl); (case hg => rfl); (case hr => first | (go_simp; done) | (go_simp; rfl)); (case hp => exact (Reps.one (show Kd.M (Kd.int .i64) _ _ _ 0 [.int .i64 0] from rfl) (Reps.one (show Kd.M (Kd.int .i64) _ _ _ 2 [.int .i64 2] from rfl) (Reps.one (show Kd.M (Kd.int .i64) _ _ _ 13 [.int .i64 13] from rfl) (Reps.one (show Kd.M (Kd.int .i64) _ _ _ 5 [.int .i64 5] from rfl) (Reps.none _ _))))))
           intro v147 w37 ho38 hb hg_ hnew_
           have HS0_ := (hb.cell (World.block_lt_of_cell? _ _ (hHeld.1))).trans (hHeld.1)
           have HS1_ := (hb.cell (World.block_lt_of_cell? _ _ (hHeld.2))).trans (hHeld.2)
           clear hg_ hnew_
           (first | rw [← Ny146.out] at ho38 | (simp only [Int.reduceToNat] at ho38; rw [← Ny146.out] at ho38))
           have HO148 := Aside0.mk (Kd.R_lower (Kd.R_new' ho38 (Kd.R_lt (HL145_1.out))) (keep_size (w := w) (g := g) (row := none) kU))
           replace HO134 := Aside0.mk (Kd.S_elder' HO134.out (Kd.R_base ho38) hb)
           replace HL145_1 := Aside0.mk (Kd.R_elder' (HL145_1.out) (Kd.R_base ho38) hb)
           replace HX145_1 := Aside0.mk (pw_cell_below hb HX145_1.out)
           replace HK := kN HK hb
           replace HB := bN HB hb
           replace HI0 := iB HI0 hb
           clear hb ho38
           obtain ⟨Ao39, co39, eo39⟩ := Kd.R_slice HO148.out
           subst eo39
           obtain ⟨ado39, fo39, _⟩ := Kd.at_int (Kd.R_reads' HO148.out).2.2 0 (by decide) (by rw [Ny146.out]; simp)
           cases fo39
           refine hK.out _ _ ⟨HS0_, HS1_⟩ (fun hHeld => ?_)
           clear hK K
           refine no 39 ?_
           exact norm_ (by simp only [putAll, Act.put, List.setIfInBounds_toArray, List.set_cons_zero, List.set_cons_succ]) (hCont (.slice (some ado39) y146.length co39, ado39) _ ⟨hHeld, (Kd.R_mono HL145_1.out (fun _ hk => ⟨hk.1.2, hk.2⟩)), (Kd.S_mono HO134.out (fun _ hk => hk.2)), (Kd.R_mono HO148.out (fun _ hk => hk.2)), ⟨_, rfl⟩, HX145_1.out, iS, kU, bS⟩)
         rintro ⟨v147, adz_v147⟩ w40 ⟨hS_, h0_, h1_, h2_, h3_, h4_, h5_, h6_, h7_⟩
         have n0_ : Aside0 (Kd.R (Kd.int .i64) 3 w40 w.heap.size (fun k_ => some k_ ≠ (.slice (some ad145) t132.length co32 : Value).ownBlock ∧ some k_ ≠ (v147 : Value).ownBlock) (.slice A145_1 ((rd_T48 t132 t138).f1).length c145_1) ((rd_T48 t132 t138).f1)) := ⟨h0_⟩
         have n1_ : Aside0 (Kd.S k48 48 w40 w.heap.size (fun k_ => some k_ ≠ (v147 : Value).ownBlock) (.slice (some ad145) t132.length co32) t132) := ⟨h1_⟩
         have n2_ : Aside0 (Kd.R (Kd.int .i64) 3 w40 w.heap.size (fun k_ => some k_ ≠ (.slice A145_1 ((rd_T48 t132 t138).f1).length c145_1 : Value).ownBlock) v147 y146) := ⟨h2_⟩
         have n3_ : Aside0 (∃ c_, (v147 : Value) = .slice (some adz_v147) y146.length c_) := ⟨h3_⟩
         have n4_ : Aside0 (w40.cell? ⟨(ad145.add ((t138).toNat * 2)).block, (ad145.add ((t138).toNat * 2)).off + 1, none⟩ = some (.slice A145_1 ((rd_T48 t132 t138).f1).length c145_1)) := ⟨h4_⟩
         have n5_ : Aside0 (IsS40 w0 w40 g s0_0 t150) := ⟨h5_⟩
         have n6_ : Aside0 (KeepBut w w40 g none) := ⟨h6_⟩
         have n7_ : Aside0 (Below w0.heap.size w0 w40) := ⟨h7_⟩
         clear HO134
         clear HI0
         clear HK
         clear HB
         clear h0_ h1_ h2_ h3_ h4_ h5_ h6_ h7_
         have HL145_1 := n0_
         have HO134 := n1_
         have HO148 := n2_
         have HA_HO148 := n3_
         have HX145_1 := n4_
         have HI0 := n5_
         have HK := n6_
         have HB := n7_
         clear n0_ n1_ n2_ n3_ n4_ n5_ n6_ n7_
         have hHeld : w40.cell? (ad145.add ((t138).toNat * 2)) = some (.int .i64 ((rd_T48 t132 t138).f0)) ∧ w40.cell? ⟨(ad145.add ((t138).toNat * 2)).block, (ad145.add ((t138).toNat * 2)).off + 1, none⟩ = some (.slice A145_1 ((rd_T48 t132 t138).f1).length c145_1) := hS_
         obtain ⟨co41, eo41⟩ := HA_HO148.out
         clear HA_HO148
         subst eo41
         obtain ⟨go42, co42, eo42, gb42, gl42, cl42, HG42⟩ := Kd.S_form HO134.out (by have h_ : (t138 : Int) < ((t132.length : Int) : Int) := of_decide_eq_true (by first | (with_reducible assumption) | assumption); have h2_ : 0 ≤ (t138 : Int) := (of_decide_eq_true (by first | (with_reducible assumption) | assumption)); omega)
         (first | cases eo42 | (injection eo42 with ea_ en_ ec_; (first | subst ea_ | (injection ea_ with ea_; subst ea_)); subst ec_; clear en_))
         have GB42 := Aside0.mk gb42
         have GG42 := Aside0.mk HG42
         clear gb42 gl42 HG42
         (first | simp only [add_plain] at hx145_0 | skip)
         (first | simp only [add_plain] at hx145_1 | skip)
         obtain ⟨oki42, ce42, hcl42, hM42, hcc42, _, _, hH42⟩ := Kd.S_elem HO134.out z48 (t138 : Int) (of_decide_eq_true (by first | (with_reducible assumption) | assumption)) (by have h_ : (t138 : Int) < ((t132.length : Int) : Int) := of_decide_eq_true (by first | (with_reducible assumption) | assumption); first | exact h_ | (have e_ := (Kd.S_reads' HO134.out).1; omega) | simpa using h_)
         obtain ⟨ve42_1, rfl, ge42_1⟩ := k48_openM hM42
         have hv42 := hcc42 1 _ rfl
         have hX42 := HX145_1.out
         (try simp only [add_plain] at hX42)
         (try simp only [Nat.add_zero] at hv42)
         replace hv42 := Option.some.inj (hv42.symm.trans hX42)
         subst hv42
         clear hX42 hcc42 hcl42
         have UU42 := Aside0.mk (show Kd.R (Kd.int .i64) 3 _ w.heap.size oki42 (.slice A145_1 ((rd_T48 t132 t138).f1).length c145_1) ((rd_T48 t132 t138).f1) from ge42_1)
         have HH42 := Aside0.mk hH42
         have HN42 := Aside0.mk (Kd.S_reads' HO134.out).1
         clear hH42 ge42_1
         refine norm_ (a' := ?_) ?_ ?_
         rotate_left
         ·simp only [putAll, Act.put, List.setIfInBounds_toArray, List.set_cons_zero, List.set_cons_succ]
          rfl
         refine pu 10 42 #[true, true, true, true, true, true, true, true, true, true, true, false, false, false, false, false, false] HT_ rfl rfl ?_
         refine one_ (i := 11) (N := some 43) #[true, true, true, true, true, true, true, true, true, true, true, true, false, false, false, false, false] rfl rfl (one_of HT_.out (by kernel_rfl)) (by decide) (fun K hK => ?_)
         (have p151 : 0 ≤ (t149 : Int) := of_decide_eq_true (by first | (with_reducible assumption) | assumption); have q151 : t149 < (y146.length : Int) := of_decide_eq_true (by first | (with_reducible assumption) | assumption); obtain ⟨ad151, e151, hx151_0⟩ := Kd.at_int (Kd.R_reads' HO148.out).2.2 t149 p151 q151; obtain rfl : adz_v147 = ad151 := (by injection e151))
         refine value_ (w1 := ?_) (v := ?_) (by rfl) rfl ?_ ?_
         rotate_left 2
         ·go_simp
          constructor
          ·rfl
          ·rfl
         clear hx151_0
         refine hK.out _ _ ⟨hHeld.1, hHeld.2⟩ (fun hHeld => ?_)
         clear hK K
         refine no 43 ?_
         refine one_ (i := 12) (N := some 44) #[true, true, true, true, true, true, true, true, true, true, true, true, true, false, false, false, false] rfl rfl (one_of HT_.out (by kernel_rfl)) (by decide) (fun K hK => ?_)
         refine value_ (w1 := ?_) (v := ?_) (by rfl) rfl ?_ ?_
         rotate_left 2
         ·go_simp
          constructor
          ·rfl
          ·rfl
         refine hK.out _ _ ⟨(World.cell?_alloc_lt _ _ _ (World.block_lt_of_cell? _ _ (hHeld.1))).trans (hHeld.1), (World.cell?_alloc_lt _ _ _ (World.block_lt_of_cell? _ _ (hHeld.2))).trans (hHeld.2)⟩ (fun hHeld => ?_)
         clear hK K
         refine no 44 ?_
         refine one_ (i := 13) (N := some 45) #[true, true, true, true, true, true, true, true, true, true, true, true, true, true, false, false, false] rfl rfl (one_of HT_.out (by kernel_rfl)) (by decide) (fun K hK => ?_)
         refine Kd.R_append_step (Kd.int .i64) w.heap.size (by rfl) (.tmp 38) (.tmp 44) 24 3 (.int .i64 0) 8 rfl Try.underlying24 info3 rfl (by decide) (by omega) (.slice A145_1 ((rd_T48 t132 t138).f1).length c145_1) ((rd_T48 t132 t138).f1) (rd y146 t149) [.int .i64 (rd y146 t149)] (fun k_ => oki42 k_ ∨ ((fun k_ => some k_ ≠ (.slice (some adz_v147) y146.length co41 : Value).ownBlock)) k_ ∧ w40.heap.size ≤ k_) (fun _ => False) rfl rfl ?aP (fun _ hk => hk.elim) ?aF ?aO (Below.refl _ _) ?aS ?aL ?_
         (case aP => exact rfl)
         (case aF => exact (fun k_ hk => .inr ⟨Kd.fresh' (Kd.R_lt HO148.out) k_ hk, hk⟩))
         (case aO => exact (Kd.R_mono UU42.out (fun _ hk => .inl hk)))
         (case aS => exact (keep_size (w := w) (g := g) (row := none) kU))
         (case aL => have := LMc28.out; omega)
         intro v153 w43 ho hb hg hat
         (first | have HS0_ := cell_grown hg (hHeld.1) (by first | (rw [add_block]; exact (fun e_ => ((HL145_1.out.1 _ e_.symm).1) rfl)) | (show some (Addr.add _ _).block ≠ _; rw [add_block]; exact (fun e_ => ((HL145_1.out.1 _ e_.symm).1) rfl)) | exact (fun e_ => ((HL145_1.out.1 _ e_.symm).1) rfl)) | have HS0_ := cell_grown hg (cell_unalloc (hHeld.1) (by first | (rw [add_block]; exact Kd.S_lt HO134.out _ rfl) | (show (Addr.add _ _).block < _; rw [add_block]; exact Kd.S_lt HO134.out _ rfl) | exact Kd.S_lt HO134.out _ rfl)) (by first | (rw [add_block]; exact (fun e_ => ((HL145_1.out.1 _ e_.symm).1) rfl)) | (show some (Addr.add _ _).block ≠ _; rw [add_block]; exact (fun e_ => ((HL145_1.out.1 _ e_.symm).1) rfl)) | exact (fun e_ => ((HL145_1.out.1 _ e_.symm).1) rfl)))
         (first | have HS1_ := cell_grown hg (hHeld.2) (by first | (rw [add_block]; exact (fun e_ => ((HL145_1.out.1 _ e_.symm).1) rfl)) | (show some (Addr.add _ _).block ≠ _; rw [add_block]; exact (fun e_ => ((HL145_1.out.1 _ e_.symm).1) rfl)) | exact (fun e_ => ((HL145_1.out.1 _ e_.symm).1) rfl)) | have HS1_ := cell_grown hg (cell_unalloc (hHeld.2) (by first | (rw [add_block]; exact Kd.S_lt HO134.out _ rfl) | (show (Addr.add _ _).block < _; rw [add_block]; exact Kd.S_lt HO134.out _ rfl) | exact Kd.S_lt HO134.out _ rfl)) (by first | (rw [add_block]; exact (fun e_ => ((HL145_1.out.1 _ e_.symm).1) rfl)) | (show some (Addr.add _ _).block ≠ _; rw [add_block]; exact (fun e_ => ((HL145_1.out.1 _ e_.symm).1) rfl)) | exact (fun e_ => ((HL145_1.out.1 _ e_.symm).1) rfl)))
         rw [← Ny152.out] at ho
         have n0_ := Aside0.mk (IsS40.grown iS hg (IsS40.own_ne HI0.out HL145_1.out (by decide)))
         have n1_ := Aside0.mk (Kd.R_grown2 HO148.out rfl hg (fun k_ e_ => (HL145_1.out.1 k_ e_).2))
         have n2_ := Aside0.mk (below_weaken bS HL.out hb)
         have n3_ := Aside0.mk (KeepBut.trans kU (KeepBut.of_grown hg g) (Kd.R_base2 HL145_1.out))
         have n4_ := Aside0.mk (Kd.H_grown (Kd.H_widen (by repeat (first | exact HH42.out | refine Kd.H_alloc ?_ _ | refine Kd.H_drewN ?_ _ | refine Kd.H_drew ?_))) hg (fun k_ e_ => .inl (UU42.out.1 k_ e_)))
         have n5_ := Aside0.mk (ho)
         clear HI0
         clear HO148
         clear HB
         clear HK
         clear HH42
         clear HO134
         clear UU42
         clear HL145_1
         have HI0 := n0_
         have HO148 := n1_
         have HB := n2_
         have HK := n3_
         have HH42 := n4_
         have HO154 := n5_
         clear n0_ n1_ n2_ n3_ n4_ n5_
         clear ho hb hg hat
         have p29 : 0 ≤ (t138 : Int) := od
         have q29 : (t138 : Int) < ((t132.length : Int) : Int) := od
         replace p29 := eq_true p29
         replace q29 := eq_true q29
         obtain ⟨Ao46, co46, eo46⟩ := Kd.R_slice HO154.out
         (first | subst eo46 | (injection eo46 with f1_ f2_ f3_; have f4_ := f1_.symm; have f5_ := f3_.symm; clear f1_ f2_ f3_; subst f4_; subst f5_))
         obtain ⟨_, _, hraw44, _, _, hcc44, _⟩ := Kd.H_raw HH42.out (of_decide_eq_true (by first | (with_reducible assumption) | assumption)) (by have h_ : (t138 : Int) < ((t132.length : Int) : Int) := of_decide_eq_true (by first | (with_reducible assumption) | assumption); first | exact h_ | (have e_ := (HN42.out); omega) | simpa using h_)
         obtain ⟨_, hfr44⟩ := Kd.H_at HH42.out (of_decide_eq_true (by first | (with_reducible assumption) | assumption)) (by have h_ : (t138 : Int) < ((t132.length : Int) : Int) := of_decide_eq_true (by first | (with_reducible assumption) | assumption); first | exact h_ | (have e_ := (HN42.out); omega) | simpa using h_)
         have hx44_0 := hcc44 1 _ rfl
         have hf44_0 := hfr44 1
         (try rw [show (k48).sz = 2 from rfl] at hx44_0)
         (try rw [show (k48).sz = 2 from rfl] at hf44_0)
         have HP44 := Kd.S_seg0 HH42.out (of_decide_eq_true (by first | (with_reducible assumption) | assumption)) (by have h_ : (t138 : Int) < ((t132.length : Int) : Int) := of_decide_eq_true (by first | (with_reducible assumption) | assumption); first | exact h_ | (have e_ := (HN42.out); omega) | simpa using h_) (seg := [.slice Ao46 y152.length co46]) (j := 1) (show 2 ≤ 2 from by decide) (x' := (⟨(rd_T48 t132 t138).f0, y152⟩ : S48)) (k48_mkM _ _ _ (⟨(rd_T48 t132 t138).f0, y152⟩ : S48) HO154.out) (fun _ hk => hk)
         clear hcc44 hfr44
         have HN0_go42 := Aside0.mk (show g ≠ go42 from by have h_ := IsS40.own_ne HI0.out hraw44 (by decide); intro e_; exact h_ (by rw [e_]; rfl))
         have HS44 := HP44.1
         rw [← Ny155.out] at HS44
         have HQ44 := Aside0.mk HS44
         obtain ⟨_, hgg44⟩ := Kd.R_typed hraw44 go42 rfl
         have GG44_ := Aside0.mk hgg44
         clear HP44 HS44 hgg44
         refine hK.out _ _ ⟨HS0_, HS1_⟩ (fun hHeld => ?_)
         clear hK K
         refine no 45 ?_
         refine pu 14 46 #[true, true, true, true, true, true, true, true, true, true, true, true, true, true, true, false, false] HT_ rfl rfl ?_
         refine pu 15 47 #[true, true, true, true, true, true, true, true, true, true, true, true, true, true, true, true, false] HT_ rfl rfl ?_
         refine last_ (i := 16) (N := none) #[true, true, true, true, true, true, true, true, true, true, true, true, true, true, true, true, true] rfl rfl (one_of HT_.out (by kernel_rfl)) (by decide) (fun K hK => ?_)
         refine skip_ (w1 := ?_) (by rfl) rfl ?_ ?_
         rotate_left
         ·go_simp
          rfl
         refine hK.out _ _ ?_
         clear hK K
         refine done_ (done_of HT_.out (by kernel_rfl)) ?_
         try go_wp2
         go_ret
         exact ⟨_, by first | rfl | (simp [errW_none, errW_some] <;> rfl) | (simp [*, errW_none, errW_some] <;> rfl), by exact Kd.S_mono HQ44.out (fun _ hk => trivial), iS, by repeat (first | (with_reducible first | exact HB.out | apply below_alloc | apply pw_below_drewN | apply below_drew1 | refine below_set ?_ (Nat.le_trans HL.out GB42.out) | refine below_set ?_ (IsS40.ge HI0.out)) | exact HB.out), kU⟩
        ·rw [if_neg c28] at H
         exact absurd H (by simp)
       ·rw [if_neg c27] at H
        exact absurd H (by simp)
      ·rw [if_neg c26] at H
       exact absurd H (by simp)
     ·rw [if_neg c24] at H
      exact absurd H (by simp)
    ·rw [if_neg c23] at H
     exact absurd H (by simp)
   ·rw [if_neg c22] at H
    have c22b0 := beq_eq_false_iff_ne.mpr c22
    have c22b1 := bne_iff_ne.mpr c22
    by_cases c47 : t140 = 2
    ·rw [if_pos c47] at H
     have c47b0 := beq_iff_eq.mpr c47
     have c47b1 := bne_eq_false_iff_eq.mpr c47
     clear c47
     by_cases c48 : 1 ≤ (t132.length : Int)
     ·rw [if_pos c48] at H
      have c48b0 := eq_true c48
      have c48b1 : decide (1 ≤ (t132.length : Int)) = true := decide_eq_true c48
      clear c48
      obtain ⟨y156, hy156⟩ : ∃ y_ : List (S48), y_ = (t132.take (1 : Int).toNat) := ⟨_, rfl⟩
      replace H : (some (y156, t141)) = some (r1, r2) := by first | (rw [hy156]; with_reducible exact H) | (have H2_ := (Option.bind_some _ _).symm.trans H; rw [hy156]; with_reducible exact H2_) | (have H2_ := (Option.bind_some _ _).symm.trans H; with_reducible exact H2_) | with_reducible exact H | (rw [hy156]; exact H) | exact H
      have Ny156 := Aside0.mk hy156
      clear hy156
      simp only [Option.some.injEq, Prod.mk.injEq] at H
      obtain ⟨rfl, rfl⟩ := H
      go_enter Try.func17, Try.ntmps17
      go_wp2_with (first | ((with_reducible refine gc 27 rfl ?_); refine gl (some 6) Try.func27 #[.pointer (some ⟨g, 0, none⟩)] rfl ?_; (with_reducible refine (spec_l71Classes.calls k g s0_0 s0_1 t132 t135 w0 _ ?side1 ?side2 A2.out).mono ?_); (case side1 => exact iS); (case side2 => exact bS); rintro e w49 ⟨v133, rfl, ho0, hi, hb, hk⟩; refine ⟨_, rfl, ?_⟩; have HO134 := Aside0.mk (Kd.S_lower ho0 (keep_size (w := w) (g := g) (row := none) kU)); replace HK := kT HK hk; replace HI0 := Aside0.mk (hi); replace HB := Aside0.mk (hb)) | ((with_reducible refine gc 10 rfl ?_); refine gl (some 8) Try.func10 #[.pointer (some ⟨g, 0, none⟩), .int .i64 20] rfl ?_; (with_reducible refine (spec_l6Rd_pick.calls k g s0_0 t135 20 t136 t137 w0 _ ?side1 ?side2 A3.out).mono ?_); (case side1 => exact iS); (case side2 => exact bS); rintro e w50 ⟨rfl, hi, hb, hk⟩; refine ⟨_, rfl, ?_⟩; replace HO134 := Aside0.mk (Kd.S_mono (Kd.S_keep (IsS40.apartS (show IsS40 w0 _ g s0_0 t135 from iS) HO134.out (by decide)) hk (fun _ h => h.2)) (fun _ h => h.1)); replace HK := kT HK hk; replace HI0 := Aside0.mk (hi); replace HB := Aside0.mk (hb); obtain ⟨Ao51, co51, eo51⟩ := Kd.S_slice HO134.out; subst eo51) | ((with_reducible refine gc 10 rfl ?_); refine gl (some 14) Try.func10 #[.pointer (some ⟨g, 0, none⟩), .int .i64 (t132.length : Int)] rfl ?_; (with_reducible refine (spec_l6Rd_pick.calls k g s0_0 t137 (t132.length : Int) t138 t139 w0 _ ?side1 ?side2 A7.out).mono ?_); (case side1 => exact iS); (case side2 => exact bS); rintro e w52 ⟨rfl, hi, hb, hk⟩; refine ⟨_, rfl, ?_⟩; replace HO134 := Aside0.mk (Kd.S_mono (Kd.S_keep (IsS40.apartS (show IsS40 w0 _ g s0_0 t137 from iS) HO134.out (by decide)) hk (fun _ h => h.2)) (fun _ h => h.1)); replace HK := kT HK hk; replace HI0 := Aside0.mk (hi); replace HB := Aside0.mk (hb)) | ((with_reducible refine gc 10 rfl ?_); refine gl (some 16) Try.func10 #[.pointer (some ⟨g, 0, none⟩), .int .i64 6] rfl ?_; (with_reducible refine (spec_l6Rd_pick.calls k g s0_0 t139 6 t140 t141 w0 _ ?side1 ?side2 A8.out).mono ?_); (case side1 => exact iS); (case side2 => exact bS); rintro e w53 ⟨rfl, hi, hb, hk⟩; refine ⟨_, rfl, ?_⟩; replace HO134 := Aside0.mk (Kd.S_mono (Kd.S_keep (IsS40.apartS (show IsS40 w0 _ g s0_0 t139 from iS) HO134.out (by decide)) hk (fun _ h => h.2)) (fun _ h => h.1)); replace HK := kT HK hk; replace HI0 := Aside0.mk (hi); replace HB := Aside0.mk (hb); have q54 : (1 : Int) ≤ ((t132.length : Int) : Int) := od; obtain ⟨i054, hi054, _, hsz54, _⟩ := info_parts info48; have hcut54 := cut_to (P := Try.prog) 23 48 .i64 Try.underlying23 hi054 Ao51 t132.length co51 1 (by omega) q54 (Kd.S_reads' HO134.out).2.1; have hr54 := Kd.S_take (m := (1 : Int).toNat) HO134.out (by omega); have hy54 : y156.length = (1 : Int).toNat := (by rw [Ny156.out, List.length_take]; omega); rw [← Ny156.out] at hr54; rw [← hy54] at hr54 hcut54; clear hy54 hi054 hsz54 HO134; have HO158 := Aside0.mk hr54; clear hr54; replace q54 := eq_true q54))
      go_ret
      exact ⟨_, by first | rfl | (simp [errW_none, errW_some] <;> rfl) | (simp [*, errW_none, errW_some] <;> rfl), by exact HO158.out, iS, bS, kU⟩
     ·rw [if_neg c48] at H
      exact absurd H (by simp)
    ·rw [if_neg c47] at H
     have c47b0 := beq_eq_false_iff_ne.mpr c47
     have c47b1 := bne_iff_ne.mpr c47
     by_cases c55 : t140 = 3
     ·rw [if_pos c55] at H
      have c55b0 := beq_iff_eq.mpr c55
      have c55b1 := bne_eq_false_iff_eq.mpr c55
      clear c55
      by_cases c56 : 1 < (t132.length : Int)
      ·rw [if_pos c56] at H
       have c56b0 : decide (1 < (t132.length : Int)) = true := decide_eq_true c56
       have c56b1 : decide (1 < t132.length) = true := decide_eq_true (by omega)
       clear c56
       exact absurd H (by simp)
      ·rw [if_neg c56] at H
       exact absurd H (by simp)
     ·rw [if_neg c55] at H
      have c55b0 := beq_eq_false_iff_ne.mpr c55
      have c55b1 := bne_iff_ne.mpr c55
      by_cases c57 : t140 = 4
      ·rw [if_pos c57] at H
       have c57b0 := beq_iff_eq.mpr c57
       have c57b1 := bne_eq_false_iff_eq.mpr c57
       clear c57
       obtain ⟨y163, hy163⟩ : ∃ y_ : List Int, y_ = (([1, 1, 1] : List Int)) := ⟨_, rfl⟩
       replace H : (if 0 ≤ t138 then (if t138 < (t132.length : Int) then (some ((t132.set (t138 : Int).toNat (⟨(rd_T48 t132 t138).f0, y163⟩ : S48)), t141)) else (none)) else (none)) = some (r1, r2) := by first | (rw [hy163]; with_reducible exact H) | (have H2_ := (Option.bind_some _ _).symm.trans H; rw [hy163]; with_reducible exact H2_) | (have H2_ := (Option.bind_some _ _).symm.trans H; with_reducible exact H2_) | with_reducible exact H | (rw [hy163]; exact H) | exact H
       have Ny163 := Aside0.mk hy163
       clear hy163
       by_cases c58 : 0 ≤ t138
       ·rw [if_pos c58] at H
        have c58b0 : decide (0 ≤ t138) = true := decide_eq_true c58
        clear c58
        by_cases c59 : t138 < (t132.length : Int)
        ·rw [if_pos c59] at H
         have c59b0 : decide (t138 < (t132.length : Int)) = true := decide_eq_true c59
         clear c59
         obtain ⟨y166, hy166⟩ : ∃ y_ : List (S48), y_ = (t132.set (t138 : Int).toNat (⟨(rd_T48 t132 t138).f0, y163⟩ : S48)) := ⟨_, rfl⟩
         replace H : (some (y166, t141)) = some (r1, r2) := by first | (rw [hy166]; with_reducible exact H) | (have H2_ := (Option.bind_some _ _).symm.trans H; rw [hy166]; with_reducible exact H2_) | (have H2_ := (Option.bind_some _ _).symm.trans H; with_reducible exact H2_) | with_reducible exact H | (rw [hy166]; exact H) | exact H
         have Ny166 := Aside0.mk hy166
         clear hy166
         simp only [Option.some.injEq, Prod.mk.injEq] at H
         obtain ⟨rfl, rfl⟩ := H
         go_enter Try.func17, Try.ntmps17
         go_wp2_with (first | ((with_reducible refine gc 27 rfl ?_); refine gl (some 6) Try.func27 #[.pointer (some ⟨g, 0, none⟩)] rfl ?_; (with_reducible refine (spec_l71Classes.calls k g s0_0 s0_1 t132 t135 w0 _ ?side1 ?side2 A2.out).mono ?_); (case side1 => exact iS); (case side2 => exact bS); rintro e w61 ⟨v133, rfl, ho0, hi, hb, hk⟩; refine ⟨_, rfl, ?_⟩; have HO134 := Aside0.mk (Kd.S_lower ho0 (keep_size (w := w) (g := g) (row := none) kU)); replace HK := kT HK hk; replace HI0 := Aside0.mk (hi); replace HB := Aside0.mk (hb)) | ((with_reducible refine gc 10 rfl ?_); refine gl (some 8) Try.func10 #[.pointer (some ⟨g, 0, none⟩), .int .i64 20] rfl ?_; (with_reducible refine (spec_l6Rd_pick.calls k g s0_0 t135 20 t136 t137 w0 _ ?side1 ?side2 A3.out).mono ?_); (case side1 => exact iS); (case side2 => exact bS); rintro e w62 ⟨rfl, hi, hb, hk⟩; refine ⟨_, rfl, ?_⟩; replace HO134 := Aside0.mk (Kd.S_mono (Kd.S_keep (IsS40.apartS (show IsS40 w0 _ g s0_0 t135 from iS) HO134.out (by decide)) hk (fun _ h => h.2)) (fun _ h => h.1)); replace HK := kT HK hk; replace HI0 := Aside0.mk (hi); replace HB := Aside0.mk (hb); obtain ⟨Ao63, co63, eo63⟩ := Kd.S_slice HO134.out; subst eo63) | ((with_reducible refine gc 10 rfl ?_); refine gl (some 14) Try.func10 #[.pointer (some ⟨g, 0, none⟩), .int .i64 (t132.length : Int)] rfl ?_; (with_reducible refine (spec_l6Rd_pick.calls k g s0_0 t137 (t132.length : Int) t138 t139 w0 _ ?side1 ?side2 A7.out).mono ?_); (case side1 => exact iS); (case side2 => exact bS); rintro e w64 ⟨rfl, hi, hb, hk⟩; refine ⟨_, rfl, ?_⟩; replace HO134 := Aside0.mk (Kd.S_mono (Kd.S_keep (IsS40.apartS (show IsS40 w0 _ g s0_0 t137 from iS) HO134.out (by decide)) hk (fun _ h => h.2)) (fun _ h => h.1)); replace HK := kT HK hk; replace HI0 := Aside0.mk (hi); replace HB := Aside0.mk (hb)) | ((with_reducible refine gc 10 rfl ?_); refine gl (some 16) Try.func10 #[.pointer (some ⟨g, 0, none⟩), .int .i64 6] rfl ?_; (with_reducible refine (spec_l6Rd_pick.calls k g s0_0 t139 6 t140 t141 w0 _ ?side1 ?side2 A8.out).mono ?_); (case side1 => exact iS); (case side2 => exact bS); rintro e w65 ⟨rfl, hi, hb, hk⟩; refine ⟨_, rfl, ?_⟩; replace HO134 := Aside0.mk (Kd.S_mono (Kd.S_keep (IsS40.apartS (show IsS40 w0 _ g s0_0 t139 from iS) HO134.out (by decide)) hk (fun _ h => h.2)) (fun _ h => h.1)); replace HK := kT HK hk; replace HI0 := Aside0.mk (hi); replace HB := Aside0.mk (hb)) | ((with_reducible refine gd 73 rfl ?_); refine Kd.R_lit (Kd.int .i64) _ 3 ?hg (N := 73) ?hd (xs := ([1, 1, 1] : List Int)) (inner := [.int .i64 1, .int .i64 1, .int .i64 1]) (ok := fun _ => True) (okp := fun _ => True) ?hr ?hp (fun _ hk => hk) trivial (Below.refl _ _) (Nat.le_refl _) (by simp) ?_; (case hd => rfl); (case hg => rfl); (case hr => first | (go_simp; done) | (go_simp; rfl)); (case hp => exact (Reps.one (show Kd.M (Kd.int .i64) _ _ _ 1 [.int .i64 1] from rfl) (Reps.one (show Kd.M (Kd.int .i64) _ _ _ 1 [.int .i64 1] from rfl) (Reps.one (show Kd.M (Kd.int .i64) _ _ _ 1 [.int .i64 1] from rfl) (Reps.none _ _))))); intro v164 w66 ho67 hb hg_ hnew_; clear hg_ hnew_; (first | rw [← Ny163.out] at ho67 | (simp only [Int.reduceToNat] at ho67; rw [← Ny163.out] at ho67)); have HO165 := Aside0.mk (Kd.R_lower ho67 (keep_size (w := w) (g := g) (row := none) kU)); replace HO134 := Aside0.mk (Kd.S_elder' HO134.out (Kd.R_base ho67) hb); replace HK := kN HK hb; replace HB := bN HB hb; replace HI0 := iB HI0 hb; clear hb ho67; have p60 : 0 ≤ (t138 : Int) := od; have q60 : (t138 : Int) < ((t132.length : Int) : Int) := od; obtain ⟨go60, co60, eo60, gb60, gl60, cl60, HG60⟩ := Kd.S_form HO134.out (by omega); (first | cases eo60 | (injection eo60 with ea_ en_ ec_; (first | subst ea_ | (injection ea_ with ea_; subst ea_)); subst ec_; clear en_)); have GB60 := Aside0.mk gb60; have GG60 := Aside0.mk HG60; clear gb60 gl60 HG60; obtain ⟨_, ce60, hcl60, hM60, hcc60, hfr60, _, _⟩ := Kd.S_elem HO134.out z48 (t138 : Int) p60 q60; obtain ⟨ve60_1, rfl, ge60_1⟩ := k48_openM hM60; have hx60_0 : w66.cell? ⟨go60, (t138 : Int).toNat * 2, none⟩ = some (.int .i64 ((rd_T48 t132 t138).f0)) := hcc60 0 _ rfl; have hx60_1 : w66.cell? ⟨go60, (t138 : Int).toNat * 2 + 1, none⟩ = some (ve60_1) := hcc60 1 _ rfl; have hf60_0 : w66.frozen? ⟨go60, (t138 : Int).toNat * 2, none⟩ = false := hfr60 0; have hf60_1 : w66.frozen? ⟨go60, (t138 : Int).toNat * 2 + 1, none⟩ = false := hfr60 1; clear hcl60 hcc60 hfr60 hM60; replace p60 := eq_true p60; replace q60 := eq_true q60; have n_ := Aside0.mk (Kd.S_mono (ok' := (fun k_ => some k_ ≠ (v164 : Value).ownBlock)) HO134.out (fun k_ hk => hk.2)); clear HO134; have HO134 := n_; clear n_; have HX68 := Aside0.mk (show Kd.S k48 48 w66 w.heap.size (fun k_ => ((fun _ => True)) k_ ∧ ¬ ((fun k_ => some k_ = (v164 : Value).ownBlock)) k_) (.slice (some ⟨go60, 0, none⟩) t132.length co63) t132 from (Kd.S_mono HO134.out (fun k_ hk => ⟨trivial, fun e_ => hk e_⟩))); obtain ⟨oki68, ce68, hcl68, hM68, hcc68, hfr68, hoki68, hH68⟩ := Kd.S_elem HX68.out z48 (t138 : Int) (of_decide_eq_true (by first | (with_reducible assumption) | assumption)) (by have h_ : (t138 : Int) < ((t132.length : Int) : Int) := of_decide_eq_true (by first | (with_reducible assumption) | assumption); first | exact h_ | (have e_ := (Kd.S_reads' HO134.out).1; omega) | simpa using h_); obtain ⟨ve68_1, rfl, ge68_1⟩ := k48_openM hM68; have HP68 := Kd.S_seg hH68 (of_decide_eq_true (by first | (with_reducible assumption) | assumption)) (by have h_ : (t138 : Int) < ((t132.length : Int) : Int) := of_decide_eq_true (by first | (with_reducible assumption) | assumption); first | exact h_ | (have e_ := (Kd.S_reads' HO134.out).1; omega) | simpa using h_) (seg := [v164]) (j := 1) (show 2 ≤ 2 from by decide) (x' := (⟨(rd_T48 t132 t138).f0, y163⟩ : S48)) (k48_mkM _ _ _ (⟨(rd_T48 t132 t138).f0, y163⟩ : S48) (Kd.R_mono (Kd.R_tight rfl (Kd.R_mono (ok' := fun k_ => ((fun _ => True)) k_ ∧ k_ ≠ go60) (Kd.R_apart' (HO165.out) (Kd.S_typed HO134.out) (by decide)) (fun k_ hk => ⟨trivial, fun e_ => (hk.2) (by rw [e_]; rfl)⟩))) (fun _ h_ => Or.inr (h_)))) (fun _ hk => hk) (fun k_ hk_ => ((Kd.R_mono (ok' := fun k_ => ((fun _ => True)) k_ ∧ k_ ≠ go60) (Kd.R_apart' (HO165.out) (Kd.S_typed HO134.out) (by decide)) (fun k_ hk => ⟨trivial, fun e_ => (hk.2) (by rw [e_]; rfl)⟩))).1 k_ hk_.symm); have hx68_1 := hcc68 1 _ rfl; (try simp only [show (k48).sz = 2 from rfl, Nat.mul_one, Nat.add_zero] at hx68_1); have hf68_1 := hfr68 1; (try simp only [show (k48).sz = 2 from rfl, Nat.mul_one, Nat.add_zero] at hf68_1); clear hcl68 hcc68 hfr68 hM68 hoki68 hH68) | ((with_reducible refine gate_store (t := 24) (p := 75) rfl ?_); refine store_event (t := 24) (p := 75) (v := ?vo_w69) (w1 := (w66.setCell ⟨go60, (t138 : Int).toNat * 2 + 1, none⟩ (v164))) ?hg ?ho ?hn ?hr ?_; (case ho => rfl); (case hg => rfl); (case hn => rfl); (case hr => first | (go_simp; done) | (go_simp; rfl) | (obtain ⟨_, _, rfl⟩ := Kd.R_slice HO165.out; first | (go_simp; done) | (go_simp; rfl))); intro w69 hw; have hg : w66.grownBy w69 (some go60) := (by rw [hw]; exact HP68.2); have hp_ : Kd.S k48 48 w69 w.heap.size (fun _ => True) (.slice (some ⟨go60, 0, none⟩) t132.length co63) y166 := (by rw [hw, Ny166.out]; exact HP68.1); clear HP68; have n0_ := Aside0.mk (IsS40.grown iS hg (IsS40.own_neS HI0.out HO134.out (by decide))); have n1_ := Aside0.mk (hp_); have n2_ := Aside0.mk ((by rw [hw]; exact below_set (HB.out) (Nat.le_trans HL.out GB60.out) : Below w0.heap.size w0 w69)); have n3_ := Aside0.mk (KeepBut.trans kU (KeepBut.of_grown hg g) (Kd.S_base2 HO134.out)); clear HI0; clear HO134; clear HB; clear HK; clear HO165; have HI0 := n0_; have HO134 := n1_; have HB := n2_; have HK := n3_; clear n0_ n1_ n2_ n3_; clear hg hw hp_))
         go_ret
         exact ⟨_, by first | rfl | (simp [errW_none, errW_some] <;> rfl) | (simp [*, errW_none, errW_some] <;> rfl), by exact HO134.out, iS, bS, kU⟩
        ·rw [if_neg c59] at H
         exact absurd H (by simp)
       ·rw [if_neg c58] at H
        exact absurd H (by simp)
      ·rw [if_neg c57] at H
       have c57b0 := beq_eq_false_iff_ne.mpr c57
       have c57b1 := bne_iff_ne.mpr c57
       by_cases c70 : 0 ≤ t138
       ·rw [if_pos c70] at H
        have c70b0 : decide (0 ≤ t138) = true := decide_eq_true c70
        clear c70
        by_cases c71 : t138 < (t132.length : Int)
        ·rw [if_pos c71] at H
         have c71b0 : decide (t138 < (t132.length : Int)) = true := decide_eq_true c71
         clear c71
         obtain ⟨y167, hy167⟩ : ∃ y_ : List (S48), y_ = (t132.set (t138 : Int).toNat (⟨(rd_T48 t132 t138).f0, ([] : List Int)⟩ : S48)) := ⟨_, rfl⟩
         replace H : (some (y167, t141)) = some (r1, r2) := by first | (rw [hy167]; with_reducible exact H) | (have H2_ := (Option.bind_some _ _).symm.trans H; rw [hy167]; with_reducible exact H2_) | (have H2_ := (Option.bind_some _ _).symm.trans H; with_reducible exact H2_) | with_reducible exact H | (rw [hy167]; exact H) | exact H
         have Ny167 := Aside0.mk hy167
         clear hy167
         simp only [Option.some.injEq, Prod.mk.injEq] at H
         obtain ⟨rfl, rfl⟩ := H
         go_enter Try.func17, Try.ntmps17
         go_wp2_with (first | ((with_reducible refine gc 27 rfl ?_); refine gl (some 6) Try.func27 #[.pointer (some ⟨g, 0, none⟩)] rfl ?_; (with_reducible refine (spec_l71Classes.calls k g s0_0 s0_1 t132 t135 w0 _ ?side1 ?side2 A2.out).mono ?_); (case side1 => exact iS); (case side2 => exact bS); rintro e w73 ⟨v133, rfl, ho0, hi, hb, hk⟩; refine ⟨_, rfl, ?_⟩; have HO134 := Aside0.mk (Kd.S_lower ho0 (keep_size (w := w) (g := g) (row := none) kU)); replace HK := kT HK hk; replace HI0 := Aside0.mk (hi); replace HB := Aside0.mk (hb)) | ((with_reducible refine gc 10 rfl ?_); refine gl (some 8) Try.func10 #[.pointer (some ⟨g, 0, none⟩), .int .i64 20] rfl ?_; (with_reducible refine (spec_l6Rd_pick.calls k g s0_0 t135 20 t136 t137 w0 _ ?side1 ?side2 A3.out).mono ?_); (case side1 => exact iS); (case side2 => exact bS); rintro e w74 ⟨rfl, hi, hb, hk⟩; refine ⟨_, rfl, ?_⟩; replace HO134 := Aside0.mk (Kd.S_mono (Kd.S_keep (IsS40.apartS (show IsS40 w0 _ g s0_0 t135 from iS) HO134.out (by decide)) hk (fun _ h => h.2)) (fun _ h => h.1)); replace HK := kT HK hk; replace HI0 := Aside0.mk (hi); replace HB := Aside0.mk (hb); obtain ⟨Ao75, co75, eo75⟩ := Kd.S_slice HO134.out; subst eo75) | ((with_reducible refine gc 10 rfl ?_); refine gl (some 14) Try.func10 #[.pointer (some ⟨g, 0, none⟩), .int .i64 (t132.length : Int)] rfl ?_; (with_reducible refine (spec_l6Rd_pick.calls k g s0_0 t137 (t132.length : Int) t138 t139 w0 _ ?side1 ?side2 A7.out).mono ?_); (case side1 => exact iS); (case side2 => exact bS); rintro e w76 ⟨rfl, hi, hb, hk⟩; refine ⟨_, rfl, ?_⟩; replace HO134 := Aside0.mk (Kd.S_mono (Kd.S_keep (IsS40.apartS (show IsS40 w0 _ g s0_0 t137 from iS) HO134.out (by decide)) hk (fun _ h => h.2)) (fun _ h => h.1)); replace HK := kT HK hk; replace HI0 := Aside0.mk (hi); replace HB := Aside0.mk (hb)) | ((with_reducible refine gc 10 rfl ?_); refine gl (some 16) Try.func10 #[.pointer (some ⟨g, 0, none⟩), .int .i64 6] rfl ?_; (with_reducible refine (spec_l6Rd_pick.calls k g s0_0 t139 6 t140 t141 w0 _ ?side1 ?side2 A8.out).mono ?_); (case side1 => exact iS); (case side2 => exact bS); rintro e w77 ⟨rfl, hi, hb, hk⟩; refine ⟨_, rfl, ?_⟩; replace HO134 := Aside0.mk (Kd.S_mono (Kd.S_keep (IsS40.apartS (show IsS40 w0 _ g s0_0 t139 from iS) HO134.out (by decide)) hk (fun _ h => h.2)) (fun _ h => h.1)); replace HK := kT HK hk; replace HI0 := Aside0.mk (hi); replace HB := Aside0.mk (hb); have p72 : 0 ≤ (t138 : Int) := od; have q72 : (t138 : Int) < ((t132.length : Int) : Int) := od; obtain ⟨go72, co72, eo72, gb72, gl72, cl72, HG72⟩ := Kd.S_form HO134.out (by omega); (first | cases eo72 | (injection eo72 with ea_ en_ ec_; (first | subst ea_ | (injection ea_ with ea_; subst ea_)); subst ec_; clear en_)); have GB72 := Aside0.mk gb72; have GG72 := Aside0.mk HG72; clear gb72 gl72 HG72; obtain ⟨_, ce72, hcl72, hM72, hcc72, hfr72, _, _⟩ := Kd.S_elem HO134.out z48 (t138 : Int) p72 q72; obtain ⟨ve72_1, rfl, ge72_1⟩ := k48_openM hM72; have hx72_0 : w77.cell? ⟨go72, (t138 : Int).toNat * 2, none⟩ = some (.int .i64 ((rd_T48 t132 t138).f0)) := hcc72 0 _ rfl; have hx72_1 : w77.cell? ⟨go72, (t138 : Int).toNat * 2 + 1, none⟩ = some (ve72_1) := hcc72 1 _ rfl; have hf72_0 : w77.frozen? ⟨go72, (t138 : Int).toNat * 2, none⟩ = false := hfr72 0; have hf72_1 : w77.frozen? ⟨go72, (t138 : Int).toNat * 2 + 1, none⟩ = false := hfr72 1; clear hcl72 hcc72 hfr72 hM72; replace p72 := eq_true p72; replace q72 := eq_true q72; have HX78 := Aside0.mk (show Kd.S k48 48 w77 w.heap.size (fun k_ => ((fun _ => True)) k_ ∧ ¬ ((fun _ => False)) k_) (.slice (some ⟨go72, 0, none⟩) t132.length co75) t132 from (Kd.S_mono HO134.out (fun k_ hk => ⟨trivial, fun e_ => e_⟩))); obtain ⟨oki78, ce78, hcl78, hM78, hcc78, hfr78, hoki78, hH78⟩ := Kd.S_elem HX78.out z48 (t138 : Int) (of_decide_eq_true (by first | (with_reducible assumption) | assumption)) (by have h_ : (t138 : Int) < ((t132.length : Int) : Int) := of_decide_eq_true (by first | (with_reducible assumption) | assumption); first | exact h_ | (have e_ := (Kd.S_reads' HO134.out).1; omega) | simpa using h_); obtain ⟨ve78_1, rfl, ge78_1⟩ := k48_openM hM78; have HP78 := Kd.S_seg hH78 (of_decide_eq_true (by first | (with_reducible assumption) | assumption)) (by have h_ : (t138 : Int) < ((t132.length : Int) : Int) := of_decide_eq_true (by first | (with_reducible assumption) | assumption); first | exact h_ | (have e_ := (Kd.S_reads' HO134.out).1; omega) | simpa using h_) (seg := [.slice none 0 0]) (j := 1) (show 2 ≤ 2 from by decide) (x' := (⟨(rd_T48 t132 t138).f0, ([] : List Int)⟩ : S48)) (k48_mkM _ _ _ (⟨(rd_T48 t132 t138).f0, ([] : List Int)⟩ : S48) (Kd.R_nil _ _ _ _ _)) (fun _ hk => hk) (fun k_ hk_ => hk_.elim); have hx78_1 := hcc78 1 _ rfl; (try simp only [show (k48).sz = 2 from rfl, Nat.mul_one, Nat.add_zero] at hx78_1); have hf78_1 := hfr78 1; (try simp only [show (k48).sz = 2 from rfl, Nat.mul_one, Nat.add_zero] at hf78_1); clear hcl78 hcc78 hfr78 hM78 hoki78 hH78) | ((with_reducible refine gate_store (t := 24) (p := 20) rfl ?_); refine store_event (t := 24) (p := 20) (v := ?vo_w79) (w1 := (w77.setCell ⟨go72, (t138 : Int).toNat * 2 + 1, none⟩ (.slice none 0 0))) ?hg ?ho ?hn ?hr ?_; (case ho => rfl); (case hg => rfl); (case hn => rfl); (case hr => first | (go_simp; done) | (go_simp; rfl)); intro w79 hw; have hg : w77.grownBy w79 (some go72) := (by rw [hw]; exact HP78.2); have hp_ : Kd.S k48 48 w79 w.heap.size (fun _ => True) (.slice (some ⟨go72, 0, none⟩) t132.length co75) y167 := (by rw [hw, Ny167.out]; exact HP78.1); clear HP78; replace HI0 := Aside0.mk (IsS40.grown iS hg (IsS40.own_neS HI0.out HO134.out (by decide))); replace HK := Aside0.mk (KeepBut.trans kU (KeepBut.of_grown hg g) (Kd.S_base2 HO134.out)); replace HO134 := Aside0.mk (hp_); replace HB := Aside0.mk ((by rw [hw]; exact below_set (HB.out) (Nat.le_trans HL.out GB72.out) : Below w0.heap.size w0 w79)); clear hg hw hp_))
         go_ret
         exact ⟨_, by first | rfl | (simp [errW_none, errW_some] <;> rfl) | (simp [*, errW_none, errW_some] <;> rfl), by exact HO134.out, iS, bS, kU⟩
        ·rw [if_neg c71] at H
         exact absurd H (by simp)
       ·rw [if_neg c70] at H
        exact absurd H (by simp)
end Go.Proofs.Ytchegijjjakmpaa.P

end
