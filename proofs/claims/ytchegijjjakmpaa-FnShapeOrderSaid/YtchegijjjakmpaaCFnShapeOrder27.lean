/- A part of the claim FnShapeOrder: texts of this session and texts that its program printed out of the translation, joined. -/
import Derived.Test.YtchegijjjakmpaaCFnShapeOrder22
import Derived.Test.YtchegijjjakmpaaCFnShapeOrder23
import Derived.Test.YtchegijjjakmpaaCFnShapeOrder25
import Derived.Test.YtchegijjjakmpaaCFnShapeOrder26
import Derived.Test.YtchegijjjakmpaaCFnShapeOrder0
import Derived.Test.YtchegijjjakmpaaCFnShapeOrder1
import Derived.Test.YtchegijjjakmpaaCFnShapeOrder2
import Derived.Test.YtchegijjjakmpaaCFnShapeOrder3
import Derived.Test.YtchegijjjakmpaaCFnShapeOrder4
import Derived.Test.YtchegijjjakmpaaCFnShapeOrder5
import Derived.Test.YtchegijjjakmpaaCFnShapeOrder6
import Derived.Test.YtchegijjjakmpaaCFnShapeOrder7
import Derived.Test.YtchegijjjakmpaaCFnShapeOrder8
import Derived.Test.YtchegijjjakmpaaCFnShapeOrder9
import Derived.Test.YtchegijjjakmpaaCFnShapeOrder10
import Derived.Test.YtchegijjjakmpaaCFnShapeOrder11
import Derived.Test.YtchegijjjakmpaaCFnShapeOrder12
import Derived.Test.YtchegijjjakmpaaCFnShapeOrder13
import Derived.Test.YtchegijjjakmpaaCFnShapeOrder14
import Derived.Test.YtchegijjjakmpaaCFnShapeOrder15
import Derived.Test.YtchegijjjakmpaaCFnShapeOrder16
import Derived.Test.YtchegijjjakmpaaCFnShapeOrder17
import Derived.Test.YtchegijjjakmpaaCFnShapeOrder18
import Derived.Test.YtchegijjjakmpaaCFnShapeOrder19
import Derived.Test.YtchegijjjakmpaaCFnShapeOrder20
import Derived.Test.YtchegijjjakmpaaCFnShapeOrder21
import Derived.Test.YtchegijjjakmpaaCFnShapeOrder24
section

namespace Go.Proofs.Ytchegijjjakmpaa.P
open Go.RowKit Go.Proofs.YtchegijjjakmpaaW.PrintWords Go.Proofs.YtchegijjjakmpaaW.PrintLast Go.Proofs.YtchegijjjakmpaaW.PrintMore
attribute [local go_sem] max2_int min2_int max_two min_two max_three min_three max_four min_four
set_option linter.unusedVariables false
set_option linter.unusedSimpArgs false
def spec_l71OffB.T14 : Bool × List (List Nat × List Nat) := (true, [([], []), ([], []), ([1], [1]), ([2], [2]), ([], []), ([4], [4]), ([5], [5]), ([], []), ([7], [7]), ([8], [8]), ([], []), ([10], [10]), ([11], [11]), ([3, 6, 9, 12], [3, 6, 9, 12]), ([0, 13], [0, 13]), ([14, 14, 0, 1, 2, 3, 4, 5, 6, 7, 8, 9, 10, 11, 12, 13, 14], [14])])
def spec_l71OffB.B14 : List Nat := [0, 0, 2, 6, 0, 16, 48, 0, 128, 384, 0, 1024, 3072, 8190, 16383, 32767]
theorem spec_l71OffB.tab14 : rtab .any (opsOf Try.f17 14) = spec_l71OffB.T14 := by kernel_rfl
theorem spec_l71OffB.bits14 : waitsOk spec_l71OffB.T14.2 spec_l71OffB.B14 = true := by kernel_rfl
set_option maxHeartbeats 8000000 in
set_option maxRecDepth 100000 in
theorem spec_l71OffB.calls (k : Nat) (g : Nat) (s0_0 : List Int) (s0_1 : Int) (r1 : List (S48)) (r2 : Int) (w0 w : World) (hI : IsS40 w0 w g s0_0 s0_1) (hB : Below w0.heap.size w0 w) (h : spec_l71OffB.f k s0_0 s0_1 = some (r1, r2)) :
  Calls Try.prog 17 #[.pointer (some ⟨g, 0, none⟩)] w fun e w' => ∃ v0_ : Value, e = .returned (v0_) ∧ Kd.N k48 48 w' w.heap.size (fun k_ => (w.heap.size ≤ k_)) v0_ r1 ∧ IsS40 w0 w' g s0_0 r2 ∧ Below w0.heap.size w0 w' ∧ KeepBut w w' g none := by
 have hu48 := Try.underlying48
 have HI0 := Aside0.mk hI
 have HK := Aside0.mk (KeepBut.refl w g none)
 have HL := Aside0.mk hB.size
 clear hI
 have HW0 := Aside0.mk hB.size
 have HB := Aside0.mk hB
 clear hB
 have H : ((spec_l71Classes.f k s0_0 s0_1).bind fun bt132 => ((spec_l6Rd_pick.f k s0_0 bt132.2 20).bind fun bt136 => (if bt136.1 > 0 then (some (bt132.1, bt136.2)) else ((spec_l6Rd_pick.f k s0_0 bt136.2 (bt132.1.length : Int)).bind fun bt138 => ((spec_l6Rd_pick.f k s0_0 bt138.2 6).bind fun bt140 => (if bt140.1 = 0 then ((spec_l6Rd_pick.f k s0_0 bt140.2 7).bind fun bt142 => (if 0 ≤ bt138.1 then (if bt138.1 < (bt132.1.length : Int) then (some ((bt132.1.set (bt138.1 : Int).toNat (⟨wrap64 (bt142.1 - 1), (rd_T48 bt132.1 bt138.1).f1⟩ : S48)), bt142.2)) else (none)) else (none))) else (if bt140.1 = 1 then (if 0 ≤ bt138.1 then (if bt138.1 < (bt132.1.length : Int) then (none) else (none)) else (none)) else (if bt140.1 = 2 then (if 1 ≤ (bt132.1.length : Int) then (some ((bt132.1.take (1 : Int).toNat), bt140.2)) else (none)) else (if bt140.1 = 3 then (if 1 < (bt132.1.length : Int) then ((some (([(⟨(rd_T48 bt132.1 1).f0, (rd_T48 bt132.1 1).f1⟩ : S48), (⟨(rd_T48 bt132.1 1).f0, (rd_T48 bt132.1 1).f1⟩ : S48), (⟨(rd_T48 bt132.1 1).f0, (rd_T48 bt132.1 1).f1⟩ : S48), (⟨(rd_T48 bt132.1 1).f0, (rd_T48 bt132.1 1).f1⟩ : S48)] : List (S48)) : List (S48))).bind fun y153 => (if bt132.1.length + y153.length < 4398046511104 then (some ((bt132.1 ++ y153), bt140.2)) else (none))) else (none)) else (if bt140.1 = 4 then (none) else (if 0 ≤ bt138.1 then (if bt138.1 < (bt132.1.length : Int) then (some ((bt132.1.set (bt138.1 : Int).toNat (⟨(rd_T48 bt132.1 bt138.1).f0, ([] : List Int)⟩ : S48)), bt140.2)) else (none)) else (none)))))))))))) = some (r1, r2) := h
 clear h
 replace H := Option.bind_eq_some_iff.mp H
 obtain ⟨⟨t132, t135⟩, A20, H⟩ := H
 replace H : ((spec_l6Rd_pick.f k s0_0 t135 20).bind fun bt136 => (if bt136.1 > 0 then (some (t132, bt136.2)) else ((spec_l6Rd_pick.f k s0_0 bt136.2 (t132.length : Int)).bind fun bt138 => ((spec_l6Rd_pick.f k s0_0 bt138.2 6).bind fun bt140 => (if bt140.1 = 0 then ((spec_l6Rd_pick.f k s0_0 bt140.2 7).bind fun bt142 => (if 0 ≤ bt138.1 then (if bt138.1 < (t132.length : Int) then (some ((t132.set (bt138.1 : Int).toNat (⟨wrap64 (bt142.1 - 1), (rd_T48 t132 bt138.1).f1⟩ : S48)), bt142.2)) else (none)) else (none))) else (if bt140.1 = 1 then (if 0 ≤ bt138.1 then (if bt138.1 < (t132.length : Int) then (none) else (none)) else (none)) else (if bt140.1 = 2 then (if 1 ≤ (t132.length : Int) then (some ((t132.take (1 : Int).toNat), bt140.2)) else (none)) else (if bt140.1 = 3 then (if 1 < (t132.length : Int) then ((some (([(⟨(rd_T48 t132 1).f0, (rd_T48 t132 1).f1⟩ : S48), (⟨(rd_T48 t132 1).f0, (rd_T48 t132 1).f1⟩ : S48), (⟨(rd_T48 t132 1).f0, (rd_T48 t132 1).f1⟩ : S48), (⟨(rd_T48 t132 1).f0, (rd_T48 t132 1).f1⟩ : S48)] : List (S48)) : List (S48))).bind fun y153 => (if t132.length + y153.length < 4398046511104 then (some ((t132 ++ y153), bt140.2)) else (none))) else (none)) else (if bt140.1 = 4 then (none) else (if 0 ≤ bt138.1 then (if bt138.1 < (t132.length : Int) then (some ((t132.set (bt138.1 : Int).toNat (⟨(rd_T48 t132 bt138.1).f0, ([] : List Int)⟩ : S48)), bt140.2)) else (none)) else (none))))))))))) = some (r1, r2) := H
 have A2 := Aside0.mk A20
 clear A20
 replace H := Option.bind_eq_some_iff.mp H
 obtain ⟨⟨t136, t137⟩, A30, H⟩ := H
 replace H : (if t136 > 0 then (some (t132, t137)) else ((spec_l6Rd_pick.f k s0_0 t137 (t132.length : Int)).bind fun bt138 => ((spec_l6Rd_pick.f k s0_0 bt138.2 6).bind fun bt140 => (if bt140.1 = 0 then ((spec_l6Rd_pick.f k s0_0 bt140.2 7).bind fun bt142 => (if 0 ≤ bt138.1 then (if bt138.1 < (t132.length : Int) then (some ((t132.set (bt138.1 : Int).toNat (⟨wrap64 (bt142.1 - 1), (rd_T48 t132 bt138.1).f1⟩ : S48)), bt142.2)) else (none)) else (none))) else (if bt140.1 = 1 then (if 0 ≤ bt138.1 then (if bt138.1 < (t132.length : Int) then (none) else (none)) else (none)) else (if bt140.1 = 2 then (if 1 ≤ (t132.length : Int) then (some ((t132.take (1 : Int).toNat), bt140.2)) else (none)) else (if bt140.1 = 3 then (if 1 < (t132.length : Int) then ((some (([(⟨(rd_T48 t132 1).f0, (rd_T48 t132 1).f1⟩ : S48), (⟨(rd_T48 t132 1).f0, (rd_T48 t132 1).f1⟩ : S48), (⟨(rd_T48 t132 1).f0, (rd_T48 t132 1).f1⟩ : S48), (⟨(rd_T48 t132 1).f0, (rd_T48 t132 1).f1⟩ : S48)] : List (S48)) : List (S48))).bind fun y153 => (if t132.length + y153.length < 4398046511104 then (some ((t132 ++ y153), bt140.2)) else (none))) else (none)) else (if bt140.1 = 4 then (none) else (if 0 ≤ bt138.1 then (if bt138.1 < (t132.length : Int) then (some ((t132.set (bt138.1 : Int).toNat (⟨(rd_T48 t132 bt138.1).f0, ([] : List Int)⟩ : S48)), bt140.2)) else (none)) else (none)))))))))) = some (r1, r2) := H
 have A3 := Aside0.mk A30
 clear A30
 by_cases c4 : t136 > 0
 ·rw [if_pos c4] at H
  have c4b0 : decide (0 < t136) = true := decide_eq_true c4
  clear c4
  simp only [Option.some.injEq, Prod.mk.injEq] at H
  obtain ⟨rfl, rfl⟩ := H
  go_enter Try.func17, Try.ntmps17
  go_wp2_with (first | ((with_reducible refine gc 27 rfl ?_); refine gl (some 6) Try.func27 #[.pointer (some ⟨g, 0, none⟩)] rfl ?_; (with_reducible refine (spec_l71Classes.calls k g s0_0 s0_1 t132 t135 w0 _ ?side1 ?side2 A2.out).mono ?_); (case side1 => exact iS); (case side2 => exact bS); rintro e w5 ⟨v133, rfl, ho0, hi, hb, hk⟩; refine ⟨_, rfl, ?_⟩; have HO134 := Aside0.mk (Kd.N_lower (Kd.N_mono (ok' := fun k_ => (w.heap.size ≤ k_) ∧ k_ ≠ g) (Kd.S_N (Kd.S_bound ho0)) (fun k_ hk_ => ⟨(Nat.le_trans (keep_size (w := w) (g := g) (row := none) kU) hk_.2.1), (IsS40.fresh iS k_ hk_.2.1)⟩)) (keep_size (w := w) (g := g) (row := none) kU)); replace HK := kT HK hk; replace HI0 := Aside0.mk (hi); replace HB := Aside0.mk (hb)) | ((with_reducible refine gc 10 rfl ?_); refine gl (some 8) Try.func10 #[.pointer (some ⟨g, 0, none⟩), .int .i64 20] rfl ?_; (with_reducible refine (spec_l6Rd_pick.calls k g s0_0 t135 20 t136 t137 w0 _ ?side1 ?side2 A3.out).mono ?_); (case side1 => exact iS); (case side2 => exact bS); rintro e w6 ⟨rfl, hi, hb, hk⟩; refine ⟨_, rfl, ?_⟩; replace HO134 := Aside0.mk (Kd.N_mono (Kd.N_keep (Kd.N_mono (ok := fun k_ => (((w.heap.size ≤ k_)) ∧ k_ ≠ g)) HO134.out (fun k_ hk_ => (⟨hk_, hk_.2⟩ : _ ∧ k_ ≠ g))) hk (fun _ h => h.2)) (fun _ h => h.1)); replace HK := kT HK hk; replace HI0 := Aside0.mk (hi); replace HB := Aside0.mk (hb)))
  go_ret
  exact ⟨_, by first | rfl | (simp [errW_none, errW_some] <;> rfl) | (simp [*, errW_none, errW_some] <;> rfl), by exact Kd.N_mono HO134.out (fun _ hk => hk.1), iS, bS, kU⟩
 ·rw [if_neg c4] at H
  have c4b0 : decide (0 < t136) = false := decide_eq_false c4
  clear c4
  replace H := Option.bind_eq_some_iff.mp H
  obtain ⟨⟨t138, t139⟩, A70, H⟩ := H
  replace H : ((spec_l6Rd_pick.f k s0_0 t139 6).bind fun bt140 => (if bt140.1 = 0 then ((spec_l6Rd_pick.f k s0_0 bt140.2 7).bind fun bt142 => (if 0 ≤ t138 then (if t138 < (t132.length : Int) then (some ((t132.set (t138 : Int).toNat (⟨wrap64 (bt142.1 - 1), (rd_T48 t132 t138).f1⟩ : S48)), bt142.2)) else (none)) else (none))) else (if bt140.1 = 1 then (if 0 ≤ t138 then (if t138 < (t132.length : Int) then (none) else (none)) else (none)) else (if bt140.1 = 2 then (if 1 ≤ (t132.length : Int) then (some ((t132.take (1 : Int).toNat), bt140.2)) else (none)) else (if bt140.1 = 3 then (if 1 < (t132.length : Int) then ((some (([(⟨(rd_T48 t132 1).f0, (rd_T48 t132 1).f1⟩ : S48), (⟨(rd_T48 t132 1).f0, (rd_T48 t132 1).f1⟩ : S48), (⟨(rd_T48 t132 1).f0, (rd_T48 t132 1).f1⟩ : S48), (⟨(rd_T48 t132 1).f0, (rd_T48 t132 1).f1⟩ : S48)] : List (S48)) : List (S48))).bind fun y153 => (if t132.length + y153.length < 4398046511104 then (some ((t132 ++ y153), bt140.2)) else (none))) else (none)) else (if bt140.1 = 4 then (none) else (if 0 ≤ t138 then (if t138 < (t132.length : Int) then (some ((t132.set (t138 : Int).toNat (⟨(rd_T48 t132 t138).f0, ([] : List Int)⟩ : S48)), bt140.2)) else (none)) else (none)))))))) = some (r1, r2) := H
  have A7 := Aside0.mk A70
  clear A70
  replace H := Option.bind_eq_some_iff.mp H
  obtain ⟨⟨t140, t141⟩, A80, H⟩ := H
  replace H : (if t140 = 0 then ((spec_l6Rd_pick.f k s0_0 t141 7).bind fun bt142 => (if 0 ≤ t138 then (if t138 < (t132.length : Int) then (some ((t132.set (t138 : Int).toNat (⟨wrap64 (bt142.1 - 1), (rd_T48 t132 t138).f1⟩ : S48)), bt142.2)) else (none)) else (none))) else (if t140 = 1 then (if 0 ≤ t138 then (if t138 < (t132.length : Int) then (none) else (none)) else (none)) else (if t140 = 2 then (if 1 ≤ (t132.length : Int) then (some ((t132.take (1 : Int).toNat), t141)) else (none)) else (if t140 = 3 then (if 1 < (t132.length : Int) then ((some (([(⟨(rd_T48 t132 1).f0, (rd_T48 t132 1).f1⟩ : S48), (⟨(rd_T48 t132 1).f0, (rd_T48 t132 1).f1⟩ : S48), (⟨(rd_T48 t132 1).f0, (rd_T48 t132 1).f1⟩ : S48), (⟨(rd_T48 t132 1).f0, (rd_T48 t132 1).f1⟩ : S48)] : List (S48)) : List (S48))).bind fun y153 => (if t132.length + y153.length < 4398046511104 then (some ((t132 ++ y153), t141)) else (none))) else (none)) else (if t140 = 4 then (none) else (if 0 ≤ t138 then (if t138 < (t132.length : Int) then (some ((t132.set (t138 : Int).toNat (⟨(rd_T48 t132 t138).f0, ([] : List Int)⟩ : S48)), t141)) else (none)) else (none))))))) = some (r1, r2) := H
  have A8 := Aside0.mk A80
  clear A80
  by_cases c9 : t140 = 0
  ·rw [if_pos c9] at H
   have c9b0 := beq_iff_eq.mpr c9
   have c9b1 := bne_eq_false_iff_eq.mpr c9
   clear c9
   replace H := Option.bind_eq_some_iff.mp H
   obtain ⟨⟨t142, t143⟩, A100, H⟩ := H
   replace H : (if 0 ≤ t138 then (if t138 < (t132.length : Int) then (some ((t132.set (t138 : Int).toNat (⟨wrap64 (t142 - 1), (rd_T48 t132 t138).f1⟩ : S48)), t143)) else (none)) else (none)) = some (r1, r2) := H
   have A10 := Aside0.mk A100
   clear A100
   by_cases c11 : 0 ≤ t138
   ·rw [if_pos c11] at H
    have c11b0 : decide (0 ≤ t138) = true := decide_eq_true c11
    clear c11
    by_cases c12 : t138 < (t132.length : Int)
    ·rw [if_pos c12] at H
     have c12b0 : decide (t138 < (t132.length : Int)) = true := decide_eq_true c12
     clear c12
     obtain ⟨y144, hy144⟩ : ∃ y_ : List (S48), y_ = (t132.set (t138 : Int).toNat (⟨wrap64 (t142 - 1), (rd_T48 t132 t138).f1⟩ : S48)) := ⟨_, rfl⟩
     replace H : (some (y144, t143)) = some (r1, r2) := by first | (rw [hy144]; with_reducible exact H) | (have H2_ := (Option.bind_some _ _).symm.trans H; rw [hy144]; with_reducible exact H2_) | (have H2_ := (Option.bind_some _ _).symm.trans H; with_reducible exact H2_) | with_reducible exact H | (rw [hy144]; exact H) | exact H
     have Ny144 := Aside0.mk hy144
     clear hy144
     simp only [Option.some.injEq, Prod.mk.injEq] at H
     obtain ⟨rfl, rfl⟩ := H
     go_enter Try.func17, Try.ntmps17
     go_wp2_with (first | ((with_reducible refine gc 27 rfl ?_); refine gl (some 6) Try.func27 #[.pointer (some ⟨g, 0, none⟩)] rfl ?_; (with_reducible refine (spec_l71Classes.calls k g s0_0 s0_1 t132 t135 w0 _ ?side1 ?side2 A2.out).mono ?_); (case side1 => exact iS); (case side2 => exact bS); rintro e w14 ⟨v133, rfl, ho0, hi, hb, hk⟩; refine ⟨_, rfl, ?_⟩; have HO134 := Aside0.mk (Kd.N_lower (Kd.N_mono (ok' := fun k_ => (w.heap.size ≤ k_) ∧ k_ ≠ g) (Kd.S_N (Kd.S_bound ho0)) (fun k_ hk_ => ⟨(Nat.le_trans (keep_size (w := w) (g := g) (row := none) kU) hk_.2.1), (IsS40.fresh iS k_ hk_.2.1)⟩)) (keep_size (w := w) (g := g) (row := none) kU)); replace HK := kT HK hk; replace HI0 := Aside0.mk (hi); replace HB := Aside0.mk (hb)) | ((with_reducible refine gc 10 rfl ?_); refine gl (some 8) Try.func10 #[.pointer (some ⟨g, 0, none⟩), .int .i64 20] rfl ?_; (with_reducible refine (spec_l6Rd_pick.calls k g s0_0 t135 20 t136 t137 w0 _ ?side1 ?side2 A3.out).mono ?_); (case side1 => exact iS); (case side2 => exact bS); rintro e w15 ⟨rfl, hi, hb, hk⟩; refine ⟨_, rfl, ?_⟩; replace HO134 := Aside0.mk (Kd.N_mono (Kd.N_keep (Kd.N_mono (ok := fun k_ => (((w.heap.size ≤ k_)) ∧ k_ ≠ g)) HO134.out (fun k_ hk_ => (⟨hk_, hk_.2⟩ : _ ∧ k_ ≠ g))) hk (fun _ h => h.2)) (fun _ h => h.1)); replace HK := kT HK hk; replace HI0 := Aside0.mk (hi); replace HB := Aside0.mk (hb); obtain ⟨Ao16, co16, eo16⟩ := Kd.N_slice HO134.out; subst eo16) | ((with_reducible refine gc 10 rfl ?_); refine gl (some 14) Try.func10 #[.pointer (some ⟨g, 0, none⟩), .int .i64 (t132.length : Int)] rfl ?_; (with_reducible refine (spec_l6Rd_pick.calls k g s0_0 t137 (t132.length : Int) t138 t139 w0 _ ?side1 ?side2 A7.out).mono ?_); (case side1 => exact iS); (case side2 => exact bS); rintro e w17 ⟨rfl, hi, hb, hk⟩; refine ⟨_, rfl, ?_⟩; replace HO134 := Aside0.mk (Kd.N_mono (Kd.N_keep (Kd.N_mono (ok := fun k_ => (((w.heap.size ≤ k_)) ∧ k_ ≠ g)) HO134.out (fun k_ hk_ => (⟨hk_, hk_.2⟩ : _ ∧ k_ ≠ g))) hk (fun _ h => h.2)) (fun _ h => h.1)); replace HK := kT HK hk; replace HI0 := Aside0.mk (hi); replace HB := Aside0.mk (hb)) | ((with_reducible refine gc 10 rfl ?_); refine gl (some 16) Try.func10 #[.pointer (some ⟨g, 0, none⟩), .int .i64 6] rfl ?_; (with_reducible refine (spec_l6Rd_pick.calls k g s0_0 t139 6 t140 t141 w0 _ ?side1 ?side2 A8.out).mono ?_); (case side1 => exact iS); (case side2 => exact bS); rintro e w18 ⟨rfl, hi, hb, hk⟩; refine ⟨_, rfl, ?_⟩; replace HO134 := Aside0.mk (Kd.N_mono (Kd.N_keep (Kd.N_mono (ok := fun k_ => (((w.heap.size ≤ k_)) ∧ k_ ≠ g)) HO134.out (fun k_ hk_ => (⟨hk_, hk_.2⟩ : _ ∧ k_ ≠ g))) hk (fun _ h => h.2)) (fun _ h => h.1)); replace HK := kT HK hk; replace HI0 := Aside0.mk (hi); replace HB := Aside0.mk (hb)) | ((with_reducible refine gc 10 rfl ?_); refine gl (some 26) Try.func10 #[.pointer (some ⟨g, 0, none⟩), .int .i64 7] rfl ?_; (with_reducible refine (spec_l6Rd_pick.calls k g s0_0 t141 7 t142 t143 w0 _ ?side1 ?side2 A10.out).mono ?_); (case side1 => exact iS); (case side2 => exact bS); rintro e w19 ⟨rfl, hi, hb, hk⟩; refine ⟨_, rfl, ?_⟩; replace HO134 := Aside0.mk (Kd.N_mono (Kd.N_keep (Kd.N_mono (ok := fun k_ => (((w.heap.size ≤ k_)) ∧ k_ ≠ g)) HO134.out (fun k_ hk_ => (⟨hk_, hk_.2⟩ : _ ∧ k_ ≠ g))) hk (fun _ h => h.2)) (fun _ h => h.1)); replace HK := kT HK hk; replace HI0 := Aside0.mk (hi); replace HB := Aside0.mk (hb); have p13 : 0 ≤ (t138 : Int) := od; have q13 : (t138 : Int) < ((t132.length : Int) : Int) := od; obtain ⟨go13, co13, eo13, gb13, gl13, cl13, HG13⟩ := Kd.N_form HO134.out (by omega); (first | cases eo13 | (injection eo13 with ea_ en_ ec_; (first | subst ea_ | (injection ea_ with ea_; subst ea_)); subst ec_; clear en_)); have GB13 := Aside0.mk gb13; have GG13 := Aside0.mk HG13; clear gb13 gl13 HG13; obtain ⟨ce13, hcl13, hM13, hcc13, hfr13⟩ := Kd.N_elem HO134.out z48 (t138 : Int) p13 q13; obtain ⟨ua13_1, uc13_1, rfl, ul13_1, ge13_1⟩ := k48_openF hM13; have hx13_0 : w19.cell? ⟨go13, (t138 : Int).toNat * 2, none⟩ = some (.int .i64 ((rd_T48 t132 t138).f0)) := hcc13 0 _ rfl; have hx13_1 : w19.cell? ⟨go13, (t138 : Int).toNat * 2 + 1, none⟩ = some (.slice ua13_1 ((rd_T48 t132 t138).f1).length uc13_1) := hcc13 1 _ rfl; have hf13_0 : w19.frozen? ⟨go13, (t138 : Int).toNat * 2, none⟩ = false := hfr13 0; have hf13_1 : w19.frozen? ⟨go13, (t138 : Int).toNat * 2 + 1, none⟩ = false := hfr13 1; clear hcl13 hcc13 hfr13 hM13; replace p13 := eq_true p13; replace q13 := eq_true q13; have HX20 := Aside0.mk (show Kd.N k48 48 w19 w.heap.size (fun k_ => (w.heap.size ≤ k_) ∧ k_ ≠ g) (.slice (some ⟨go13, 0, none⟩) t132.length co16) t132 from HO134.out); obtain ⟨ce20, hcl20, hM20, hcc20, hfr20⟩ := Kd.N_elem HX20.out z48 (t138 : Int) (of_decide_eq_true (by first | (with_reducible assumption) | assumption)) (by have h_ : (t138 : Int) < ((t132.length : Int) : Int) := of_decide_eq_true (by first | (with_reducible assumption) | assumption); first | exact h_ | (have e_ := (Kd.N_reads' HO134.out).1; omega) | simpa using h_); obtain ⟨ua20_1, uc20_1, rfl, ul20_1, ge20_1⟩ := k48_openF hM20; have HP20 := Kd.N_seg HX20.out (t138 : Int) (of_decide_eq_true (by first | (with_reducible assumption) | assumption)) (by have h_ : (t138 : Int) < ((t132.length : Int) : Int) := of_decide_eq_true (by first | (with_reducible assumption) | assumption); first | exact h_ | (have e_ := (Kd.N_reads' HO134.out).1; omega) | simpa using h_) (seg := [.int .i64 (wrap64 (t142 - 1))]) (j := 0) hcl20 hcc20 (show 1 ≤ 2 from by decide) (x' := (⟨wrap64 (t142 - 1), (rd_T48 t132 t138).f1⟩ : S48)) (k48_mkF _ _ (⟨wrap64 (t142 - 1), (rd_T48 t132 t138).f1⟩ : S48) ul20_1 ge20_1) (fun _ hk => hk); have hx20_0 := hcc20 0 _ rfl; (try simp only [show (k48).sz = 2 from rfl, Nat.mul_one, Nat.add_zero] at hx20_0); have hf20_0 := hfr20 0; (try simp only [show (k48).sz = 2 from rfl, Nat.mul_one, Nat.add_zero] at hf20_0); clear hcl20 hcc20 hfr20 hM20) | ((with_reducible refine gate_store (t := 3) (p := 29) rfl ?_); refine store_event (t := 3) (p := 29) (v := ?vo_w21) (w1 := (w19.setCell ⟨go13, (t138 : Int).toNat * 2, none⟩ (.int .i64 (wrap64 (t142 - 1))))) ?hg ?ho ?hn ?hr ?_; (case ho => rfl); (case hg => rfl); (case hn => rfl); (case hr => first | (go_simp; done) | (go_simp; rfl)); intro w21 hw; have hg : w19.grownBy w21 (some go13) := (by rw [hw]; exact HP20.2); have hp_ : Kd.N k48 48 w21 w.heap.size (fun k_ => (w.heap.size ≤ k_) ∧ k_ ≠ g) (.slice (some ⟨go13, 0, none⟩) t132.length co16) y144 := (by rw [hw, Ny144.out]; exact HP20.1); clear HP20; replace HI0 := Aside0.mk (IsS40.grown iS hg (IsS40.own_neN HI0.out HO134.out (by decide))); replace HO134 := Aside0.mk (hp_); replace HK := Aside0.mk (KeepBut.trans kU (KeepBut.of_grown hg g) (Kd.N_base2 HO134.out)); replace HB := Aside0.mk ((by rw [hw]; exact below_set (HB.out) (Nat.le_trans HL.out GB13.out) : Below w0.heap.size w0 w21)); clear hg hw hp_))
     go_ret
     exact ⟨_, by first | rfl | (simp [errW_none, errW_some] <;> rfl) | (simp [*, errW_none, errW_some] <;> rfl), by exact Kd.N_mono HO134.out (fun _ hk => hk.1), iS, bS, kU⟩
    ·rw [if_neg c12] at H
     exact absurd H (by simp)
   ·rw [if_neg c11] at H
    exact absurd H (by simp)
  ·rw [if_neg c9] at H
   have c9b0 := beq_eq_false_iff_ne.mpr c9
   have c9b1 := bne_iff_ne.mpr c9
   by_cases c22 : t140 = 1
   ·rw [if_pos c22] at H
    have c22b0 := beq_iff_eq.mpr c22
    have c22b1 := bne_eq_false_iff_eq.mpr c22
    clear c22
    by_cases c23 : 0 ≤ t138
    ·rw [if_pos c23] at H
     have c23b0 : decide (0 ≤ t138) = true := decide_eq_true c23
     clear c23
     by_cases c24 : t138 < (t132.length : Int)
     ·rw [if_pos c24] at H
      have c24b0 : decide (t138 < (t132.length : Int)) = true := decide_eq_true c24
      clear c24
      exact absurd H (by simp)
     ·rw [if_neg c24] at H
      exact absurd H (by simp)
    ·rw [if_neg c23] at H
     exact absurd H (by simp)
   ·rw [if_neg c22] at H
    have c22b0 := beq_eq_false_iff_ne.mpr c22
    have c22b1 := bne_iff_ne.mpr c22
    by_cases c25 : t140 = 2
    ·rw [if_pos c25] at H
     have c25b0 := beq_iff_eq.mpr c25
     have c25b1 := bne_eq_false_iff_eq.mpr c25
     clear c25
     by_cases c26 : 1 ≤ (t132.length : Int)
     ·rw [if_pos c26] at H
      have c26b0 := eq_true c26
      have c26b1 : decide (1 ≤ (t132.length : Int)) = true := decide_eq_true c26
      clear c26
      obtain ⟨y146, hy146⟩ : ∃ y_ : List (S48), y_ = (t132.take (1 : Int).toNat) := ⟨_, rfl⟩
      replace H : (some (y146, t141)) = some (r1, r2) := by first | (rw [hy146]; with_reducible exact H) | (have H2_ := (Option.bind_some _ _).symm.trans H; rw [hy146]; with_reducible exact H2_) | (have H2_ := (Option.bind_some _ _).symm.trans H; with_reducible exact H2_) | with_reducible exact H | (rw [hy146]; exact H) | exact H
      have Ny146 := Aside0.mk hy146
      clear hy146
      simp only [Option.some.injEq, Prod.mk.injEq] at H
      obtain ⟨rfl, rfl⟩ := H
      go_enter Try.func17, Try.ntmps17
      go_wp2_with (first | ((with_reducible refine gc 27 rfl ?_); refine gl (some 6) Try.func27 #[.pointer (some ⟨g, 0, none⟩)] rfl ?_; (with_reducible refine (spec_l71Classes.calls k g s0_0 s0_1 t132 t135 w0 _ ?side1 ?side2 A2.out).mono ?_); (case side1 => exact iS); (case side2 => exact bS); rintro e w27 ⟨v133, rfl, ho0, hi, hb, hk⟩; refine ⟨_, rfl, ?_⟩; have HO134 := Aside0.mk (Kd.N_lower (Kd.N_mono (ok' := fun k_ => (w.heap.size ≤ k_) ∧ k_ ≠ g) (Kd.S_N (Kd.S_bound ho0)) (fun k_ hk_ => ⟨(Nat.le_trans (keep_size (w := w) (g := g) (row := none) kU) hk_.2.1), (IsS40.fresh iS k_ hk_.2.1)⟩)) (keep_size (w := w) (g := g) (row := none) kU)); replace HK := kT HK hk; replace HI0 := Aside0.mk (hi); replace HB := Aside0.mk (hb)) | ((with_reducible refine gc 10 rfl ?_); refine gl (some 8) Try.func10 #[.pointer (some ⟨g, 0, none⟩), .int .i64 20] rfl ?_; (with_reducible refine (spec_l6Rd_pick.calls k g s0_0 t135 20 t136 t137 w0 _ ?side1 ?side2 A3.out).mono ?_); (case side1 => exact iS); (case side2 => exact bS); rintro e w28 ⟨rfl, hi, hb, hk⟩; refine ⟨_, rfl, ?_⟩; replace HO134 := Aside0.mk (Kd.N_mono (Kd.N_keep (Kd.N_mono (ok := fun k_ => (((w.heap.size ≤ k_)) ∧ k_ ≠ g)) HO134.out (fun k_ hk_ => (⟨hk_, hk_.2⟩ : _ ∧ k_ ≠ g))) hk (fun _ h => h.2)) (fun _ h => h.1)); replace HK := kT HK hk; replace HI0 := Aside0.mk (hi); replace HB := Aside0.mk (hb); obtain ⟨Ao29, co29, eo29⟩ := Kd.N_slice HO134.out; subst eo29) | ((with_reducible refine gc 10 rfl ?_); refine gl (some 14) Try.func10 #[.pointer (some ⟨g, 0, none⟩), .int .i64 (t132.length : Int)] rfl ?_; (with_reducible refine (spec_l6Rd_pick.calls k g s0_0 t137 (t132.length : Int) t138 t139 w0 _ ?side1 ?side2 A7.out).mono ?_); (case side1 => exact iS); (case side2 => exact bS); rintro e w30 ⟨rfl, hi, hb, hk⟩; refine ⟨_, rfl, ?_⟩; replace HO134 := Aside0.mk (Kd.N_mono (Kd.N_keep (Kd.N_mono (ok := fun k_ => (((w.heap.size ≤ k_)) ∧ k_ ≠ g)) HO134.out (fun k_ hk_ => (⟨hk_, hk_.2⟩ : _ ∧ k_ ≠ g))) hk (fun _ h => h.2)) (fun _ h => h.1)); replace HK := kT HK hk; replace HI0 := Aside0.mk (hi); replace HB := Aside0.mk (hb)) | ((with_reducible refine gc 10 rfl ?_); refine gl (some 16) Try.func10 #[.pointer (some ⟨g, 0, none⟩), .int .i64 6] rfl ?_; (with_reducible refine (spec_l6Rd_pick.calls k g s0_0 t139 6 t140 t141 w0 _ ?side1 ?side2 A8.out).mono ?_); (case side1 => exact iS); (case side2 => exact bS); rintro e w31 ⟨rfl, hi, hb, hk⟩; refine ⟨_, rfl, ?_⟩; replace HO134 := Aside0.mk (Kd.N_mono (Kd.N_keep (Kd.N_mono (ok := fun k_ => (((w.heap.size ≤ k_)) ∧ k_ ≠ g)) HO134.out (fun k_ hk_ => (⟨hk_, hk_.2⟩ : _ ∧ k_ ≠ g))) hk (fun _ h => h.2)) (fun _ h => h.1)); replace HK := kT HK hk; replace HI0 := Aside0.mk (hi); replace HB := Aside0.mk (hb); have q32 : (1 : Int) ≤ ((t132.length : Int) : Int) := od; obtain ⟨i032, hi032, _, hsz32, _⟩ := info_parts info48; have hcut32 := cut_to (P := Try.prog) 23 48 .i64 Try.underlying23 hi032 Ao29 t132.length co29 1 (by omega) q32 (Kd.N_reads' HO134.out).2.1; have hr32 := Kd.N_take (m := (1 : Int).toNat) HO134.out (by omega); have hy32 : y146.length = (1 : Int).toNat := (by rw [Ny146.out, List.length_take]; omega); rw [← Ny146.out] at hr32; rw [← hy32] at hr32 hcut32; clear hy32 hi032 hsz32 HO134; have HO148 := Aside0.mk hr32; clear hr32; replace q32 := eq_true q32))
      go_ret
      exact ⟨_, by first | rfl | (simp [errW_none, errW_some] <;> rfl) | (simp [*, errW_none, errW_some] <;> rfl), by exact Kd.N_mono HO148.out (fun _ hk => hk.1), iS, bS, kU⟩
     ·rw [if_neg c26] at H
      exact absurd H (by simp)
    ·rw [if_neg c25] at H
     have c25b0 := beq_eq_false_iff_ne.mpr c25
     have c25b1 := bne_iff_ne.mpr c25
     by_cases c33 : t140 = 3
     ·rw [if_pos c33] at H
      have c33b0 := beq_iff_eq.mpr c33
      have c33b1 := bne_eq_false_iff_eq.mpr c33
      clear c33
      by_cases c34 : 1 < (t132.length : Int)
      ·rw [if_pos c34] at H
       have c34b0 : decide (1 < (t132.length : Int)) = true := decide_eq_true c34
       have c34b1 : decide (1 < t132.length) = true := decide_eq_true (by omega)
       clear c34
       obtain ⟨y153, hy153⟩ : ∃ y_ : List (S48), y_ = (([(⟨(rd_T48 t132 1).f0, (rd_T48 t132 1).f1⟩ : S48), (⟨(rd_T48 t132 1).f0, (rd_T48 t132 1).f1⟩ : S48), (⟨(rd_T48 t132 1).f0, (rd_T48 t132 1).f1⟩ : S48), (⟨(rd_T48 t132 1).f0, (rd_T48 t132 1).f1⟩ : S48)] : List (S48))) := ⟨_, rfl⟩
       replace H : (if t132.length + y153.length < 4398046511104 then (some ((t132 ++ y153), t141)) else (none)) = some (r1, r2) := by first | (rw [hy153]; with_reducible exact H) | (have H2_ := (Option.bind_some _ _).symm.trans H; rw [hy153]; with_reducible exact H2_) | (have H2_ := (Option.bind_some _ _).symm.trans H; with_reducible exact H2_) | with_reducible exact H | (rw [hy153]; exact H) | exact H
       have Ny153 := Aside0.mk hy153
       clear hy153
       by_cases c35 : t132.length + y153.length < 4398046511104
       ·rw [if_pos c35] at H
        have LMc35 := Aside0.mk c35
        clear c35
        obtain ⟨y156, hy156⟩ : ∃ y_ : List (S48), y_ = (t132 ++ y153) := ⟨_, rfl⟩
        replace H : (some (y156, t141)) = some (r1, r2) := by first | (rw [hy156]; with_reducible exact H) | (have H2_ := (Option.bind_some _ _).symm.trans H; rw [hy156]; with_reducible exact H2_) | (have H2_ := (Option.bind_some _ _).symm.trans H; with_reducible exact H2_) | with_reducible exact H | (rw [hy156]; exact H) | exact H
        have Ny156 := Aside0.mk hy156
        clear hy156
        simp only [Option.some.injEq, Prod.mk.injEq] at H
        obtain ⟨rfl, rfl⟩ := H
        go_enter Try.func17, Try.ntmps17
        try go_wp2_with (first | ((with_reducible refine gc 27 rfl ?_); refine gl (some 6) Try.func27 #[.pointer (some ⟨g, 0, none⟩)] rfl ?_; (with_reducible refine (spec_l71Classes.calls k g s0_0 s0_1 t132 t135 w0 _ ?side1 ?side2 A2.out).mono ?_); (case side1 => exact iS); (case side2 => exact bS); rintro e w36 ⟨v133, rfl, ho0, hi, hb, hk⟩; refine ⟨_, rfl, ?_⟩; have HO134 := Aside0.mk (Kd.N_lower (Kd.N_mono (ok' := fun k_ => (w.heap.size ≤ k_) ∧ k_ ≠ g) (Kd.S_N (Kd.S_bound ho0)) (fun k_ hk_ => ⟨(Nat.le_trans (keep_size (w := w) (g := g) (row := none) kU) hk_.2.1), (IsS40.fresh iS k_ hk_.2.1)⟩)) (keep_size (w := w) (g := g) (row := none) kU)); replace HK := kT HK hk; replace HI0 := Aside0.mk (hi); replace HB := Aside0.mk (hb)) | ((with_reducible refine gc 10 rfl ?_); refine gl (some 8) Try.func10 #[.pointer (some ⟨g, 0, none⟩), .int .i64 20] rfl ?_; (with_reducible refine (spec_l6Rd_pick.calls k g s0_0 t135 20 t136 t137 w0 _ ?side1 ?side2 A3.out).mono ?_); (case side1 => exact iS); (case side2 => exact bS); rintro e w37 ⟨rfl, hi, hb, hk⟩; refine ⟨_, rfl, ?_⟩; replace HO134 := Aside0.mk (Kd.N_mono (Kd.N_keep (Kd.N_mono (ok := fun k_ => (((w.heap.size ≤ k_)) ∧ k_ ≠ g)) HO134.out (fun k_ hk_ => (⟨hk_, hk_.2⟩ : _ ∧ k_ ≠ g))) hk (fun _ h => h.2)) (fun _ h => h.1)); replace HK := kT HK hk; replace HI0 := Aside0.mk (hi); replace HB := Aside0.mk (hb); obtain ⟨Ao38, co38, eo38⟩ := Kd.N_slice HO134.out; subst eo38) | ((with_reducible refine gc 10 rfl ?_); refine gl (some 14) Try.func10 #[.pointer (some ⟨g, 0, none⟩), .int .i64 (t132.length : Int)] rfl ?_; (with_reducible refine (spec_l6Rd_pick.calls k g s0_0 t137 (t132.length : Int) t138 t139 w0 _ ?side1 ?side2 A7.out).mono ?_); (case side1 => exact iS); (case side2 => exact bS); rintro e w39 ⟨rfl, hi, hb, hk⟩; refine ⟨_, rfl, ?_⟩; replace HO134 := Aside0.mk (Kd.N_mono (Kd.N_keep (Kd.N_mono (ok := fun k_ => (((w.heap.size ≤ k_)) ∧ k_ ≠ g)) HO134.out (fun k_ hk_ => (⟨hk_, hk_.2⟩ : _ ∧ k_ ≠ g))) hk (fun _ h => h.2)) (fun _ h => h.1)); replace HK := kT HK hk; replace HI0 := Aside0.mk (hi); replace HB := Aside0.mk (hb)) | ((with_reducible refine gc 10 rfl ?_); refine gl (some 16) Try.func10 #[.pointer (some ⟨g, 0, none⟩), .int .i64 6] rfl ?_; (with_reducible refine (spec_l6Rd_pick.calls k g s0_0 t139 6 t140 t141 w0 _ ?side1 ?side2 A8.out).mono ?_); (case side1 => exact iS); (case side2 => exact bS); rintro e w40 ⟨rfl, hi, hb, hk⟩; refine ⟨_, rfl, ?_⟩; replace HO134 := Aside0.mk (Kd.N_mono (Kd.N_keep (Kd.N_mono (ok := fun k_ => (((w.heap.size ≤ k_)) ∧ k_ ≠ g)) HO134.out (fun k_ hk_ => (⟨hk_, hk_.2⟩ : _ ∧ k_ ≠ g))) hk (fun _ h => h.2)) (fun _ h => h.1)); replace HK := kT HK hk; replace HI0 := Aside0.mk (hi); replace HB := Aside0.mk (hb)))
        replace HO134 := dN HO134
        replace HI0 := Aside0.mk (IsS40.drew HI0.out)
        replace HK := Aside0.mk (keep_drew HK.out)
        replace HB := Aside0.mk (below_drew1 HB.out)
        have p149 : 0 ≤ (1 : Int) := (by omega)
        have q149 : 1 < (t132.length : Int) := od
        obtain ⟨ad149, A149_1, c149_1, e149, hx149_0, hx149_1, hl149_1, hi149_1⟩ := at_T48 (Kd.N_reads' HO134.out).2.2 1 p149 q149
        cases e149
        obtain ⟨ce149, hce149, hMe149, hcc149⟩ := Kd.N_get HO134.out z48 1 p149 (by first | exact q149 | exact of_decide_eq_true (by first | (with_reducible assumption) | assumption) | (have e_ := (Kd.N_reads' HO134.out).1; omega))
        obtain ⟨ua149_1, uc149_1, rfl, ul149_1, ge149_1⟩ := k48_openF hMe149
        have hv149_1 := hcc149 1 _ rfl
        rw [add_field _ _ 1 (by omega)] at hv149_1
        replace hv149_1 := Option.some.inj (hv149_1.symm.trans hx149_1)
        injection hv149_1 with hva_ hvn_ hvc_
        rw [hva_] at ge149_1
        rw [hvc_] at ul149_1
        have HL149_1 := Aside0.mk (show Kd.V (Kd.int .i64) 3 _ w.heap.size _ _ ((rd_T48 t132 1).f1) from Kd.V_mk ul149_1 ge149_1)
        clear hva_ hvn_ hvc_ ge149_1 ul149_1
        clear hcc149 hce149
        (try simp only [show (1 : Int).toNat = 1 from rfl, Nat.reduceMul, Nat.reduceEqDiff, Go.Addr.add, ↓reduceIte] at hx149_0)
        (try simp only [show (1 : Int).toNat = 1 from rfl, Nat.reduceMul, Nat.reduceEqDiff, Go.Addr.add, ↓reduceIte] at hx149_1)
        have qi149 : (1 < t132.length) = True := eq_true (by omega)
        (try rw [show ((1 : Int)).toNat = 1 from rfl] at hx149_0)
        (try rw [show 1 * 2 = 2 from rfl] at hx149_0)
        (try rw [show ((1 : Int)).toNat = 1 from rfl] at hx149_1)
        (try rw [show 1 * 2 = 2 from rfl] at hx149_1)
        have HR149_1 := Aside0.mk hi149_1
        have HC149_1 := Aside0.mk hl149_1
        clear hi149_1 hl149_1
        replace p149 := eq_true p149
        replace q149 := eq_true q149
        have p150 : 0 ≤ (1 : Int) := (by omega)
        have q150 : 1 < (t132.length : Int) := od
        obtain ⟨ad150, A150_1, c150_1, e150, hx150_0, hx150_1, hl150_1, hi150_1⟩ := at_T48 (Kd.N_reads' HO134.out).2.2 1 p150 q150
        obtain rfl : ad149 = ad150 := (by injection e150)
        obtain ⟨ce150, hce150, hMe150, hcc150⟩ := Kd.N_get HO134.out z48 1 p150 (by first | exact q150 | exact of_decide_eq_true (by first | (with_reducible assumption) | assumption) | (have e_ := (Kd.N_reads' HO134.out).1; omega))
        obtain ⟨ua150_1, uc150_1, rfl, ul150_1, ge150_1⟩ := k48_openF hMe150
        have hv150_1 := hcc150 1 _ rfl
        rw [add_field _ _ 1 (by omega)] at hv150_1
        replace hv150_1 := Option.some.inj (hv150_1.symm.trans hx150_1)
        injection hv150_1 with hva_ hvn_ hvc_
        rw [hva_] at ge150_1
        rw [hvc_] at ul150_1
        have HL150_1 := Aside0.mk (show Kd.V (Kd.int .i64) 3 _ w.heap.size _ _ ((rd_T48 t132 1).f1) from Kd.V_mk ul150_1 ge150_1)
        clear hva_ hvn_ hvc_ ge150_1 ul150_1
        clear hcc150 hce150
        (try simp only [show (1 : Int).toNat = 1 from rfl, Nat.reduceMul, Nat.reduceEqDiff, Go.Addr.add, ↓reduceIte] at hx150_0)
        (try simp only [show (1 : Int).toNat = 1 from rfl, Nat.reduceMul, Nat.reduceEqDiff, Go.Addr.add, ↓reduceIte] at hx150_1)
        have qi150 : (1 < t132.length) = True := eq_true (by omega)
        (try rw [show ((1 : Int)).toNat = 1 from rfl] at hx150_0)
        (try rw [show 1 * 2 = 2 from rfl] at hx150_0)
        (try rw [show ((1 : Int)).toNat = 1 from rfl] at hx150_1)
        (try rw [show 1 * 2 = 2 from rfl] at hx150_1)
        have HR150_1 := Aside0.mk hi150_1
        have HC150_1 := Aside0.mk hl150_1
        clear hi150_1 hl150_1
        replace p150 := eq_true p150
        replace q150 := eq_true q150
        have ea_ := Option.some.inj (hx149_1.symm.trans hx150_1)
        injection ea_ with ea_ en_ ec_
        subst ea_
        subst ec_
        clear en_
        have p151 : 0 ≤ (1 : Int) := (by omega)
        have q151 : 1 < (t132.length : Int) := od
        obtain ⟨ad151, A151_1, c151_1, e151, hx151_0, hx151_1, hl151_1, hi151_1⟩ := at_T48 (Kd.N_reads' HO134.out).2.2 1 p151 q151
        obtain rfl : ad149 = ad151 := (by injection e151)
        obtain ⟨ce151, hce151, hMe151, hcc151⟩ := Kd.N_get HO134.out z48 1 p151 (by first | exact q151 | exact of_decide_eq_true (by first | (with_reducible assumption) | assumption) | (have e_ := (Kd.N_reads' HO134.out).1; omega))
        obtain ⟨ua151_1, uc151_1, rfl, ul151_1, ge151_1⟩ := k48_openF hMe151
        have hv151_1 := hcc151 1 _ rfl
        rw [add_field _ _ 1 (by omega)] at hv151_1
        replace hv151_1 := Option.some.inj (hv151_1.symm.trans hx151_1)
        injection hv151_1 with hva_ hvn_ hvc_
        rw [hva_] at ge151_1
        rw [hvc_] at ul151_1
        have HL151_1 := Aside0.mk (show Kd.V (Kd.int .i64) 3 _ w.heap.size _ _ ((rd_T48 t132 1).f1) from Kd.V_mk ul151_1 ge151_1)
        clear hva_ hvn_ hvc_ ge151_1 ul151_1
        clear hcc151 hce151
        (try simp only [show (1 : Int).toNat = 1 from rfl, Nat.reduceMul, Nat.reduceEqDiff, Go.Addr.add, ↓reduceIte] at hx151_0)
        (try simp only [show (1 : Int).toNat = 1 from rfl, Nat.reduceMul, Nat.reduceEqDiff, Go.Addr.add, ↓reduceIte] at hx151_1)
        have qi151 : (1 < t132.length) = True := eq_true (by omega)
        (try rw [show ((1 : Int)).toNat = 1 from rfl] at hx151_0)
        (try rw [show 1 * 2 = 2 from rfl] at hx151_0)
        (try rw [show ((1 : Int)).toNat = 1 from rfl] at hx151_1)
        (try rw [show 1 * 2 = 2 from rfl] at hx151_1)
        have HR151_1 := Aside0.mk hi151_1
        have HC151_1 := Aside0.mk hl151_1
        clear hi151_1 hl151_1
        replace p151 := eq_true p151
        replace q151 := eq_true q151
        have ea_ := Option.some.inj (hx149_1.symm.trans hx151_1)
        injection ea_ with ea_ en_ ec_
        subst ea_
        subst ec_
        clear en_
        have p152 : 0 ≤ (1 : Int) := (by omega)
        have q152 : 1 < (t132.length : Int) := od
        obtain ⟨ad152, A152_1, c152_1, e152, hx152_0, hx152_1, hl152_1, hi152_1⟩ := at_T48 (Kd.N_reads' HO134.out).2.2 1 p152 q152
        obtain rfl : ad149 = ad152 := (by injection e152)
        obtain ⟨ce152, hce152, hMe152, hcc152⟩ := Kd.N_get HO134.out z48 1 p152 (by first | exact q152 | exact of_decide_eq_true (by first | (with_reducible assumption) | assumption) | (have e_ := (Kd.N_reads' HO134.out).1; omega))
        obtain ⟨ua152_1, uc152_1, rfl, ul152_1, ge152_1⟩ := k48_openF hMe152
        have hv152_1 := hcc152 1 _ rfl
        rw [add_field _ _ 1 (by omega)] at hv152_1
        replace hv152_1 := Option.some.inj (hv152_1.symm.trans hx152_1)
        injection hv152_1 with hva_ hvn_ hvc_
        rw [hva_] at ge152_1
        rw [hvc_] at ul152_1
        have HL152_1 := Aside0.mk (show Kd.V (Kd.int .i64) 3 _ w.heap.size _ _ ((rd_T48 t132 1).f1) from Kd.V_mk ul152_1 ge152_1)
        clear hva_ hvn_ hvc_ ge152_1 ul152_1
        clear hcc152 hce152
        (try simp only [show (1 : Int).toNat = 1 from rfl, Nat.reduceMul, Nat.reduceEqDiff, Go.Addr.add, ↓reduceIte] at hx152_0)
        (try simp only [show (1 : Int).toNat = 1 from rfl, Nat.reduceMul, Nat.reduceEqDiff, Go.Addr.add, ↓reduceIte] at hx152_1)
        have qi152 : (1 < t132.length) = True := eq_true (by omega)
        (try rw [show ((1 : Int)).toNat = 1 from rfl] at hx152_0)
        (try rw [show 1 * 2 = 2 from rfl] at hx152_0)
        (try rw [show ((1 : Int)).toNat = 1 from rfl] at hx152_1)
        (try rw [show 1 * 2 = 2 from rfl] at hx152_1)
        have HR152_1 := Aside0.mk hi152_1
        have HC152_1 := Aside0.mk hl152_1
        clear hi152_1 hl152_1
        replace p152 := eq_true p152
        replace q152 := eq_true q152
        have ea_ := Option.some.inj (hx149_1.symm.trans hx152_1)
        injection ea_ with ea_ en_ ec_
        subst ea_
        subst ec_
        clear en_
        refine start_ (n := 16) (S := fun w' => w'.cell? ⟨ad149.block, ad149.off + 2, none⟩ = some (.int .i64 ((rd_T48 t132 1).f0)) ∧ w'.cell? ⟨ad149.block, ad149.off + 2 + 1, none⟩ = some (.slice A149_1 ((rd_T48 t132 1).f1).length c149_1) ∧ w'.cell? ⟨ad149.block, ad149.off + 2, none⟩ = some (.int .i64 ((rd_T48 t132 1).f0)) ∧ w'.cell? ⟨ad149.block, ad149.off + 2 + 1, none⟩ = some (.slice A149_1 ((rd_T48 t132 1).f1).length c149_1) ∧ w'.cell? ⟨ad149.block, ad149.off + 2, none⟩ = some (.int .i64 ((rd_T48 t132 1).f0)) ∧ w'.cell? ⟨ad149.block, ad149.off + 2 + 1, none⟩ = some (.slice A149_1 ((rd_T48 t132 1).f1).length c149_1) ∧ w'.cell? ⟨ad149.block, ad149.off + 2, none⟩ = some (.int .i64 ((rd_T48 t132 1).f0)) ∧ w'.cell? ⟨ad149.block, ad149.off + 2 + 1, none⟩ = some (.slice A149_1 ((rd_T48 t132 1).f1).length c149_1)) (ds := [14]) #[false, false, false, false, false, false, false, false, false, false, false, false, false, false, false, false] (by kernel_rfl) rfl rfl ⟨hx149_0, hx149_1, hx150_0, hx150_1, hx151_0, hx151_1, hx152_0, hx152_1⟩ (fun hHeld => ?_); refine with_tabW spec_l71OffB.tab14 spec_l71OffB.bits14 (fun HT_ HW_ => ?_)
        generalize w40.drew = w41 at HO134 HI0 HK HB HL149_1 HL150_1 HL151_1 HL152_1 HR149_1 HR150_1 HR151_1 HR152_1 hx149_0 hx149_1 hx150_0 hx150_1 hx151_0 hx151_1 hx152_0 hx152_1 hHeld ⊢
        refine pu 0 54 #[true, false, false, false, false, false, false, false, false, false, false, false, false, false, false, false] HT_ rfl rfl ?_
        refine pu 1 55 #[true, true, false, false, false, false, false, false, false, false, false, false, false, false, false, false] HT_ rfl rfl ?_
        refine pu 2 56 #[true, true, true, false, false, false, false, false, false, false, false, false, false, false, false, false] HT_ rfl rfl ?_
        refine pu 4 58 #[true, true, true, false, true, false, false, false, false, false, false, false, false, false, false, false] HT_ rfl rfl ?_
        refine pu 5 59 #[true, true, true, false, true, true, false, false, false, false, false, false, false, false, false, false] HT_ rfl rfl ?_
        refine pu 7 61 #[true, true, true, false, true, true, false, true, false, false, false, false, false, false, false, false] HT_ rfl rfl ?_
        refine pu 8 62 #[true, true, true, false, true, true, false, true, true, false, false, false, false, false, false, false] HT_ rfl rfl ?_
        refine pu 10 64 #[true, true, true, false, true, true, false, true, true, false, true, false, false, false, false, false] HT_ rfl rfl ?_
        refine pu 11 65 #[true, true, true, false, true, true, false, true, true, false, true, true, false, false, false, false] HT_ rfl rfl ?_
        refine ta 3 57 #[true, true, true, true, true, true, false, true, true, false, true, true, false, false, false, false] HT_ HW_ hHeld rfl rfl ?_
        refine ta 6 60 #[true, true, true, true, true, true, true, true, true, false, true, true, false, false, false, false] HT_ HW_ hHeld rfl rfl ?_
        refine ta 9 63 #[true, true, true, true, true, true, true, true, true, true, true, true, false, false, false, false] HT_ HW_ hHeld rfl rfl ?_
        refine ta 12 66 #[true, true, true, true, true, true, true, true, true, true, true, true, true, false, false, false] HT_ HW_ hHeld rfl rfl ?_
        refine one_ (i := 13) (N := some 67) #[true, true, true, true, true, true, true, true, true, true, true, true, true, true, false, false] rfl rfl (one_of HT_.out (by kernel_rfl)) (by decide) (fun K hK => ?_)
        refine Kd.N_lit_step k48 _ 48 ?hg (N' := 67) ?hd (xs := ([(⟨(rd_T48 t132 1).f0, (rd_T48 t132 1).f1⟩ : S48), (⟨(rd_T48 t132 1).f0, (rd_T48 t132 1).f1⟩ : S48), (⟨(rd_T48 t132 1).f0, (rd_T48 t132 1).f1⟩ : S48), (⟨(rd_T48 t132 1).f0, (rd_T48 t132 1).f1⟩ : S48)] : List (S48))) (inner := [.int .i64 ((rd_T48 t132 1).f0), .slice A149_1 ((rd_T48 t132 1).f1).length c149_1, .int .i64 ((rd_T48 t132 1).f0), .slice A149_1 ((rd_T48 t132 1).f1).length c149_1, .int .i64 ((rd_T48 t132 1).f0), .slice A149_1 ((rd_T48 t132 1).f1).length c149_1, .int .i64 ((rd_T48 t132 1).f0), .slice A149_1 ((rd_T48 t132 1).f1).length c149_1]) (ok := (fun k_ => (w.heap.size ≤ k_) ∧ some k_ ≠ (.slice (some ad149) t132.length co38 : Value).ownBlock ∧ k_ ≠ g)) (okp := (fun k_ => (w.heap.size ≤ k_) ∧ some k_ ≠ (.slice (some ad149) t132.length co38 : Value).ownBlock ∧ k_ ≠ g)) ?hr ?hp (fun _ hk => hk) ((show ∀ k_, w41.heap.size ≤ k_ → (fun k_ => (w.heap.size ≤ k_) ∧ some k_ ≠ (.slice (some ad149) t132.length co38 : Value).ownBlock ∧ k_ ≠ g) k_ from fun k_ hk => ⟨(Nat.le_trans (keep_size (w := w) (g := g) (row := none) kU) hk), Kd.fresh' (Kd.N_lt HO134.out) k_ hk, IsS40.fresh iS k_ hk⟩) _ (Nat.le_refl _)) (Below.refl _ _) (Nat.le_refl _) (by simp) ?_; (case hd => rfl); (case hg => rfl); (case hr => first | (go_simp; done) | (go_simp; rfl)); (case hp => exact (Reps.c2 (show Kd.FK k48 _ _ (⟨(rd_T48 t132 1).f0, (rd_T48 t132 1).f1⟩ : S48) [.int .i64 ((rd_T48 t132 1).f0), .slice A149_1 ((rd_T48 t132 1).f1).length c149_1] from (k48_mkF _ _ (⟨(rd_T48 t132 1).f0, (rd_T48 t132 1).f1⟩ : S48) (Kd.V_reads' (Kd.V_mono (ok' := (fun k_ => (w.heap.size ≤ k_) ∧ some k_ ≠ (.slice (some ad149) t132.length co38 : Value).ownBlock ∧ k_ ≠ g)) (HL149_1.out) (fun k_ hk => ⟨hk.1.1, ⟨hk.2, hk.1.2⟩⟩))).2.1 (Kd.V_F (Kd.V_mono (ok' := (fun k_ => (w.heap.size ≤ k_) ∧ some k_ ≠ (.slice (some ad149) t132.length co38 : Value).ownBlock ∧ k_ ≠ g)) (HL149_1.out) (fun k_ hk => ⟨hk.1.1, ⟨hk.2, hk.1.2⟩⟩))))) (Reps.c2 (show Kd.FK k48 _ _ (⟨(rd_T48 t132 1).f0, (rd_T48 t132 1).f1⟩ : S48) [.int .i64 ((rd_T48 t132 1).f0), .slice A149_1 ((rd_T48 t132 1).f1).length c149_1] from (k48_mkF _ _ (⟨(rd_T48 t132 1).f0, (rd_T48 t132 1).f1⟩ : S48) (Kd.V_reads' (Kd.V_mono (ok' := (fun k_ => (w.heap.size ≤ k_) ∧ some k_ ≠ (.slice (some ad149) t132.length co38 : Value).ownBlock ∧ k_ ≠ g)) (HL150_1.out) (fun k_ hk => ⟨hk.1.1, ⟨hk.2, hk.1.2⟩⟩))).2.1 (Kd.V_F (Kd.V_mono (ok' := (fun k_ => (w.heap.size ≤ k_) ∧ some k_ ≠ (.slice (some ad149) t132.length co38 : Value).ownBlock ∧ k_ ≠ g)) (HL150_1.out) (fun k_ hk => ⟨hk.1.1, ⟨hk.2, hk.1.2⟩⟩))))) (Reps.c2 (show Kd.FK k48 _ _ (⟨(rd_T48 t132 1).f0, (rd_T48 t132 1).f1⟩ : S48) [.int .i64 ((rd_T48 t132 1).f0), .slice A149_1 ((rd_T48 t132 1).f1).length c149_1] from (k48_mkF _ _ (⟨(rd_T48 t132 1).f0, (rd_T48 t132 1).f1⟩ : S48) (Kd.V_reads' (Kd.V_mono (ok' := (fun k_ => (w.heap.size ≤ k_) ∧ some k_ ≠ (.slice (some ad149) t132.length co38 : Value).ownBlock ∧ k_ ≠ g)) (HL151_1.out) (fun k_ hk => ⟨hk.1.1, ⟨hk.2, hk.1.2⟩⟩))).2.1 (Kd.V_F (Kd.V_mono (ok' := (fun k_ => (w.heap.size ≤ k_) ∧ some k_ ≠ (.slice (some ad149) t132.length co38 : Value).ownBlock ∧ k_ ≠ g)) (HL151_1.out) (fun k_ hk => ⟨hk.1.1, ⟨hk.2, hk.1.2⟩⟩))))) (Reps.c2 (show Kd.FK k48 _ _ (⟨(rd_T48 t132 1).f0, (rd_T48 t132 1).f1⟩ : S48) [.int .i64 ((rd_T48 t132 1).f0), .slice A149_1 ((rd_T48 t132 1).f1).length c149_1] from (k48_mkF _ _ (⟨(rd_T48 t132 1).f0, (rd_T48 t132 1).f1⟩ : S48) (Kd.V_reads' (Kd.V_mono (ok' := (fun k_ => (w.heap.size ≤ k_) ∧ some k_ ≠ (.slice (some ad149) t132.length co38 : Value).ownBlock ∧ k_ ≠ g)) (HL152_1.out) (fun k_ hk => ⟨hk.1.1, ⟨hk.2, hk.1.2⟩⟩))).2.1 (Kd.V_F (Kd.V_mono (ok' := (fun k_ => (w.heap.size ≤ k_) ∧ some k_ ≠ (.slice (some ad149) t132.length co38 : Value).ownBlock ∧ k_ ≠ g)) (HL152_1.out) (fun k_ hk => ⟨hk.1.1, ⟨hk.2, hk.1.2⟩⟩))))) (Reps.none _ _))))))
        intro v154 w42 ho43 hb hg_ hnew_
        have HS0_ := (hb.cell (World.block_lt_of_cell? _ _ (hHeld.1))).trans (hHeld.1)
        have HS1_ := (hb.cell (World.block_lt_of_cell? _ _ (hHeld.2.1))).trans (hHeld.2.1)
        have HS2_ := (hb.cell (World.block_lt_of_cell? _ _ (hHeld.2.2.1))).trans (hHeld.2.2.1)
        have HS3_ := (hb.cell (World.block_lt_of_cell? _ _ (hHeld.2.2.2.1))).trans (hHeld.2.2.2.1)
        have HS4_ := (hb.cell (World.block_lt_of_cell? _ _ (hHeld.2.2.2.2.1))).trans (hHeld.2.2.2.2.1)
        have HS5_ := (hb.cell (World.block_lt_of_cell? _ _ (hHeld.2.2.2.2.2.1))).trans (hHeld.2.2.2.2.2.1)
        have HS6_ := (hb.cell (World.block_lt_of_cell? _ _ (hHeld.2.2.2.2.2.2.1))).trans (hHeld.2.2.2.2.2.2.1)
        have HS7_ := (hb.cell (World.block_lt_of_cell? _ _ (hHeld.2.2.2.2.2.2.2))).trans (hHeld.2.2.2.2.2.2.2)
        clear hg_ hnew_
        (first | rw [← Ny153.out] at ho43 | (simp only [Int.reduceToNat] at ho43; rw [← Ny153.out] at ho43))
        have HO155 := Aside0.mk (Kd.N_lower ho43 (keep_size (w := w) (g := g) (row := none) kU))
        replace HO134 := Aside0.mk (Kd.N_elder' HO134.out (Kd.N_base ho43) hb)
        replace HL149_1 := Aside0.mk (Kd.V_elder' (by (with_reducible repeat (first | apply Kd.V_alloc | apply Kd.V_drewN | apply Kd.V_drew)); exact HL149_1.out) (Kd.N_base ho43) hb)
        replace HL150_1 := Aside0.mk (Kd.V_elder' (by (with_reducible repeat (first | apply Kd.V_alloc | apply Kd.V_drewN | apply Kd.V_drew)); exact HL150_1.out) (Kd.N_base ho43) hb)
        replace HL151_1 := Aside0.mk (Kd.V_elder' (by (with_reducible repeat (first | apply Kd.V_alloc | apply Kd.V_drewN | apply Kd.V_drew)); exact HL151_1.out) (Kd.N_base ho43) hb)
        replace HL152_1 := Aside0.mk (Kd.V_elder' (by (with_reducible repeat (first | apply Kd.V_alloc | apply Kd.V_drewN | apply Kd.V_drew)); exact HL152_1.out) (Kd.N_base ho43) hb)
        replace HI0 := iB HI0 hb
        replace HR149_1 := Aside0.mk (Kd.C_below (by repeat (first | (with_reducible exact HR149_1.out) | (with_reducible refine Kd.C_alloc ?_ _) | (with_reducible refine Kd.C_drewN ?_ _) | (with_reducible refine Kd.C_drew ?_) | exact HR149_1.out)) hb)
        replace HR150_1 := Aside0.mk (Kd.C_below (by repeat (first | (with_reducible exact HR150_1.out) | (with_reducible refine Kd.C_alloc ?_ _) | (with_reducible refine Kd.C_drewN ?_ _) | (with_reducible refine Kd.C_drew ?_) | exact HR150_1.out)) hb)
        replace HR151_1 := Aside0.mk (Kd.C_below (by repeat (first | (with_reducible exact HR151_1.out) | (with_reducible refine Kd.C_alloc ?_ _) | (with_reducible refine Kd.C_drewN ?_ _) | (with_reducible refine Kd.C_drew ?_) | exact HR151_1.out)) hb)
        replace HR152_1 := Aside0.mk (Kd.C_below (by repeat (first | (with_reducible exact HR152_1.out) | (with_reducible refine Kd.C_alloc ?_ _) | (with_reducible refine Kd.C_drewN ?_ _) | (with_reducible refine Kd.C_drew ?_) | exact HR152_1.out)) hb)
        replace HK := kN HK hb
        replace HB := bN HB hb
        clear hb ho43
        obtain ⟨Ao45, co45, eo45⟩ := Kd.N_slice HO155.out
        (first | subst eo45 | (injection eo45 with f1_ f2_ f3_; have f4_ := f1_.symm; have f5_ := f3_.symm; clear f1_ f2_ f3_; subst f4_; subst f5_))
        refine hK.out _ _ ⟨HS0_, HS1_, HS2_, HS3_, HS4_, HS5_, HS6_, HS7_⟩ (fun hHeld => ?_)
        clear hK K
        refine no 67 ?_
        refine last_ (i := 14) (N := some 68) #[true, true, true, true, true, true, true, true, true, true, true, true, true, true, true, false] rfl rfl (one_of HT_.out (by kernel_rfl)) (by decide) (fun K hK => ?_)
        refine Kd.N_append_rows_step k48 w.heap.size (by rfl) (.tmp 54) (.tmp 67) 23 48 (.agg #[(.int .i64 0), (.slice none 0 0)]) 32 rfl Try.underlying23 info48 rfl (by decide) (by omega) (.slice (some ad149) t132.length co38) t132 y153 _ _ _ (fun k_ => (w.heap.size ≤ k_) ∧ k_ ≠ g) (fun k_ => ((fun k_ => (w.heap.size ≤ k_) ∧ k_ ≠ g)) k_ ∧ some k_ ≠ (.slice (some ad149) t132.length co38 : Value).ownBlock) rfl rfl ?aO ?aR (fun _ hk => hk) ?aF (Below.refl _ _) ?aS ?aL ?_
        (case aR => exact (by skip; exact Kd.N_F (Kd.N_mono (ok' := (fun k_ => ((fun k_ => (w.heap.size ≤ k_) ∧ k_ ≠ g)) k_ ∧ some k_ ≠ (.slice (some ad149) t132.length co38 : Value).ownBlock)) (HO155.out) (fun k_ hk => ⟨⟨hk.1, hk.2.2⟩, hk.2.1⟩))))
        (case aF => exact (fun k_ hk => ⟨(Nat.le_trans (keep_size (w := w) (g := g) (row := none) kU) hk), IsS40.fresh iS k_ hk⟩))
        (case aO => exact (Kd.N_mono HO134.out (fun _ hk => ⟨hk.1.1, hk.1.2⟩)))
        (case aS => exact (keep_size (w := w) (g := g) (row := none) kU))
        (case aL => have := LMc35.out; omega)
        intro v157 w44 ho hb hg hat
        rw [← Ny156.out] at ho
        have n0_ := Aside0.mk (IsS40.grown iS hg (IsS40.own_neN HI0.out HO134.out (by decide)))
        have n1_ := Aside0.mk (Kd.V_afterv (ok := (fun k_ => (w.heap.size ≤ k_) ∧ some k_ ≠ (.slice Ao45 y153.length co45 : Value).ownBlock ∧ k_ ≠ g)) (by (with_reducible repeat (first | apply Kd.V_alloc | apply Kd.V_drewN | apply Kd.V_drew)); exact Kd.V_mono HL149_1.out (fun _ hk => ⟨⟨hk.1.1.1, ⟨hk.2, hk.1.1.2⟩⟩, hk.1.2⟩)) hg hat)
        have n2_ := Aside0.mk (Kd.V_afterv (ok := (fun k_ => (w.heap.size ≤ k_) ∧ some k_ ≠ (.slice Ao45 y153.length co45 : Value).ownBlock ∧ k_ ≠ g)) (by (with_reducible repeat (first | apply Kd.V_alloc | apply Kd.V_drewN | apply Kd.V_drew)); exact Kd.V_mono HL150_1.out (fun _ hk => ⟨⟨hk.1.1.1, ⟨hk.2, hk.1.1.2⟩⟩, hk.1.2⟩)) hg hat)
        have n3_ := Aside0.mk (Kd.V_afterv (ok := (fun k_ => (w.heap.size ≤ k_) ∧ some k_ ≠ (.slice Ao45 y153.length co45 : Value).ownBlock ∧ k_ ≠ g)) (by (with_reducible repeat (first | apply Kd.V_alloc | apply Kd.V_drewN | apply Kd.V_drew)); exact Kd.V_mono HL151_1.out (fun _ hk => ⟨⟨hk.1.1.1, ⟨hk.2, hk.1.1.2⟩⟩, hk.1.2⟩)) hg hat)
        have n4_ := Aside0.mk (Kd.V_afterv (ok := (fun k_ => (w.heap.size ≤ k_) ∧ some k_ ≠ (.slice Ao45 y153.length co45 : Value).ownBlock ∧ k_ ≠ g)) (by (with_reducible repeat (first | apply Kd.V_alloc | apply Kd.V_drewN | apply Kd.V_drew)); exact Kd.V_mono HL152_1.out (fun _ hk => ⟨⟨hk.1.1.1, ⟨hk.2, hk.1.1.2⟩⟩, hk.1.2⟩)) hg hat)
        have n5_ := Aside0.mk (Kd.N_afterv (ok := (fun k_ => (w.heap.size ≤ k_) ∧ k_ ≠ g)) (Kd.N_mono HO155.out (fun _ hk => ⟨⟨hk.1, hk.2.2⟩, hk.2.1⟩)) hg hat)
        have n6_ := Aside0.mk (below_weaken bS HL.out hb)
        have n7_ := Aside0.mk (KeepBut.trans kU (KeepBut.of_grown hg g) (Kd.N_base2 HO134.out))
        have n8_ := Aside0.mk (ho)
        clear HI0
        clear HL149_1
        clear HL150_1
        clear HL151_1
        clear HL152_1
        clear HO155
        clear HB
        clear HK
        clear HO134
        have HI0 := n0_
        have HL149_1 := n1_
        have HL150_1 := n2_
        have HL151_1 := n3_
        have HL152_1 := n4_
        have HO155 := n5_
        have HB := n6_
        have HK := n7_
        have HO158 := n8_
        clear n0_ n1_ n2_ n3_ n4_ n5_ n6_ n7_ n8_
        clear ho hb hg hat
        refine hK.out _ _ ?_
        clear hK K
        refine no 68 ?_
        refine pu 15 2 #[true, true, true, true, true, true, true, true, true, true, true, true, true, true, true, true] HT_ rfl rfl ?_
        refine done_ (done_of HT_.out (by kernel_rfl)) ?_
        try go_wp2
        go_ret
        exact ⟨_, by first | rfl | (simp [errW_none, errW_some] <;> rfl) | (simp [*, errW_none, errW_some] <;> rfl), by exact Kd.N_mono HO158.out (fun _ hk => hk.1), iS, bS, kU⟩
       ·rw [if_neg c35] at H
        exact absurd H (by simp)
      ·rw [if_neg c34] at H
       exact absurd H (by simp)
     ·rw [if_neg c33] at H
      have c33b0 := beq_eq_false_iff_ne.mpr c33
      have c33b1 := bne_iff_ne.mpr c33
      by_cases c46 : t140 = 4
      ·rw [if_pos c46] at H
       exact absurd H (by simp)
      ·rw [if_neg c46] at H
       have c46b0 := beq_eq_false_iff_ne.mpr c46
       have c46b1 := bne_iff_ne.mpr c46
       by_cases c47 : 0 ≤ t138
       ·rw [if_pos c47] at H
        have c47b0 : decide (0 ≤ t138) = true := decide_eq_true c47
        clear c47
        by_cases c48 : t138 < (t132.length : Int)
        ·rw [if_pos c48] at H
         have c48b0 : decide (t138 < (t132.length : Int)) = true := decide_eq_true c48
         clear c48
         obtain ⟨y159, hy159⟩ : ∃ y_ : List (S48), y_ = (t132.set (t138 : Int).toNat (⟨(rd_T48 t132 t138).f0, ([] : List Int)⟩ : S48)) := ⟨_, rfl⟩
         replace H : (some (y159, t141)) = some (r1, r2) := by first | (rw [hy159]; with_reducible exact H) | (have H2_ := (Option.bind_some _ _).symm.trans H; rw [hy159]; with_reducible exact H2_) | (have H2_ := (Option.bind_some _ _).symm.trans H; with_reducible exact H2_) | with_reducible exact H | (rw [hy159]; exact H) | exact H
         have Ny159 := Aside0.mk hy159
         clear hy159
         simp only [Option.some.injEq, Prod.mk.injEq] at H
         obtain ⟨rfl, rfl⟩ := H
         go_enter Try.func17, Try.ntmps17
         go_wp2_with (first | ((with_reducible refine gc 27 rfl ?_); refine gl (some 6) Try.func27 #[.pointer (some ⟨g, 0, none⟩)] rfl ?_; (with_reducible refine (spec_l71Classes.calls k g s0_0 s0_1 t132 t135 w0 _ ?side1 ?side2 A2.out).mono ?_); (case side1 => exact iS); (case side2 => exact bS); rintro e w50 ⟨v133, rfl, ho0, hi, hb, hk⟩; refine ⟨_, rfl, ?_⟩; have HO134 := Aside0.mk (Kd.N_lower (Kd.N_mono (ok' := fun k_ => (w.heap.size ≤ k_) ∧ k_ ≠ g) (Kd.S_N (Kd.S_bound ho0)) (fun k_ hk_ => ⟨(Nat.le_trans (keep_size (w := w) (g := g) (row := none) kU) hk_.2.1), (IsS40.fresh iS k_ hk_.2.1)⟩)) (keep_size (w := w) (g := g) (row := none) kU)); replace HK := kT HK hk; replace HI0 := Aside0.mk (hi); replace HB := Aside0.mk (hb)) | ((with_reducible refine gc 10 rfl ?_); refine gl (some 8) Try.func10 #[.pointer (some ⟨g, 0, none⟩), .int .i64 20] rfl ?_; (with_reducible refine (spec_l6Rd_pick.calls k g s0_0 t135 20 t136 t137 w0 _ ?side1 ?side2 A3.out).mono ?_); (case side1 => exact iS); (case side2 => exact bS); rintro e w51 ⟨rfl, hi, hb, hk⟩; refine ⟨_, rfl, ?_⟩; replace HO134 := Aside0.mk (Kd.N_mono (Kd.N_keep (Kd.N_mono (ok := fun k_ => (((w.heap.size ≤ k_)) ∧ k_ ≠ g)) HO134.out (fun k_ hk_ => (⟨hk_, hk_.2⟩ : _ ∧ k_ ≠ g))) hk (fun _ h => h.2)) (fun _ h => h.1)); replace HK := kT HK hk; replace HI0 := Aside0.mk (hi); replace HB := Aside0.mk (hb); obtain ⟨Ao52, co52, eo52⟩ := Kd.N_slice HO134.out; subst eo52) | ((with_reducible refine gc 10 rfl ?_); refine gl (some 14) Try.func10 #[.pointer (some ⟨g, 0, none⟩), .int .i64 (t132.length : Int)] rfl ?_; (with_reducible refine (spec_l6Rd_pick.calls k g s0_0 t137 (t132.length : Int) t138 t139 w0 _ ?side1 ?side2 A7.out).mono ?_); (case side1 => exact iS); (case side2 => exact bS); rintro e w53 ⟨rfl, hi, hb, hk⟩; refine ⟨_, rfl, ?_⟩; replace HO134 := Aside0.mk (Kd.N_mono (Kd.N_keep (Kd.N_mono (ok := fun k_ => (((w.heap.size ≤ k_)) ∧ k_ ≠ g)) HO134.out (fun k_ hk_ => (⟨hk_, hk_.2⟩ : _ ∧ k_ ≠ g))) hk (fun _ h => h.2)) (fun _ h => h.1)); replace HK := kT HK hk; replace HI0 := Aside0.mk (hi); replace HB := Aside0.mk (hb)) | ((with_reducible refine gc 10 rfl ?_); refine gl (some 16) Try.func10 #[.pointer (some ⟨g, 0, none⟩), .int .i64 6] rfl ?_; (with_reducible refine (spec_l6Rd_pick.calls k g s0_0 t139 6 t140 t141 w0 _ ?side1 ?side2 A8.out).mono ?_); (case side1 => exact iS); (case side2 => exact bS); rintro e w54 ⟨rfl, hi, hb, hk⟩; refine ⟨_, rfl, ?_⟩; replace HO134 := Aside0.mk (Kd.N_mono (Kd.N_keep (Kd.N_mono (ok := fun k_ => (((w.heap.size ≤ k_)) ∧ k_ ≠ g)) HO134.out (fun k_ hk_ => (⟨hk_, hk_.2⟩ : _ ∧ k_ ≠ g))) hk (fun _ h => h.2)) (fun _ h => h.1)); replace HK := kT HK hk; replace HI0 := Aside0.mk (hi); replace HB := Aside0.mk (hb); have p49 : 0 ≤ (t138 : Int) := od; have q49 : (t138 : Int) < ((t132.length : Int) : Int) := od; obtain ⟨go49, co49, eo49, gb49, gl49, cl49, HG49⟩ := Kd.N_form HO134.out (by omega); (first | cases eo49 | (injection eo49 with ea_ en_ ec_; (first | subst ea_ | (injection ea_ with ea_; subst ea_)); subst ec_; clear en_)); have GB49 := Aside0.mk gb49; have GG49 := Aside0.mk HG49; clear gb49 gl49 HG49; obtain ⟨ce49, hcl49, hM49, hcc49, hfr49⟩ := Kd.N_elem HO134.out z48 (t138 : Int) p49 q49; obtain ⟨ua49_1, uc49_1, rfl, ul49_1, ge49_1⟩ := k48_openF hM49; have hx49_0 : w54.cell? ⟨go49, (t138 : Int).toNat * 2, none⟩ = some (.int .i64 ((rd_T48 t132 t138).f0)) := hcc49 0 _ rfl; have hx49_1 : w54.cell? ⟨go49, (t138 : Int).toNat * 2 + 1, none⟩ = some (.slice ua49_1 ((rd_T48 t132 t138).f1).length uc49_1) := hcc49 1 _ rfl; have hf49_0 : w54.frozen? ⟨go49, (t138 : Int).toNat * 2, none⟩ = false := hfr49 0; have hf49_1 : w54.frozen? ⟨go49, (t138 : Int).toNat * 2 + 1, none⟩ = false := hfr49 1; clear hcl49 hcc49 hfr49 hM49; replace p49 := eq_true p49; replace q49 := eq_true q49; have HX55 := Aside0.mk (show Kd.N k48 48 w54 w.heap.size (fun k_ => (w.heap.size ≤ k_) ∧ k_ ≠ g) (.slice (some ⟨go49, 0, none⟩) t132.length co52) t132 from HO134.out); obtain ⟨ce55, hcl55, hM55, hcc55, hfr55⟩ := Kd.N_elem HX55.out z48 (t138 : Int) (of_decide_eq_true (by first | (with_reducible assumption) | assumption)) (by have h_ : (t138 : Int) < ((t132.length : Int) : Int) := of_decide_eq_true (by first | (with_reducible assumption) | assumption); first | exact h_ | (have e_ := (Kd.N_reads' HO134.out).1; omega) | simpa using h_); obtain ⟨ua55_1, uc55_1, rfl, ul55_1, ge55_1⟩ := k48_openF hM55; have HP55 := Kd.N_seg HX55.out (t138 : Int) (of_decide_eq_true (by first | (with_reducible assumption) | assumption)) (by have h_ : (t138 : Int) < ((t132.length : Int) : Int) := of_decide_eq_true (by first | (with_reducible assumption) | assumption); first | exact h_ | (have e_ := (Kd.N_reads' HO134.out).1; omega) | simpa using h_) (seg := [.slice none 0 0]) (j := 1) hcl55 hcc55 (show 2 ≤ 2 from by decide) (x' := (⟨(rd_T48 t132 t138).f0, ([] : List Int)⟩ : S48)) (k48_mkF _ _ (⟨(rd_T48 t132 t138).f0, ([] : List Int)⟩ : S48) (Nat.le_refl _) (Kd.F_nil _ _ _)) (fun _ hk => hk); have hx55_1 := hcc55 1 _ rfl; (try simp only [show (k48).sz = 2 from rfl, Nat.mul_one, Nat.add_zero] at hx55_1); have hf55_1 := hfr55 1; (try simp only [show (k48).sz = 2 from rfl, Nat.mul_one, Nat.add_zero] at hf55_1); clear hcl55 hcc55 hfr55 hM55) | ((with_reducible refine gate_store (t := 24) (p := 20) rfl ?_); refine store_event (t := 24) (p := 20) (v := ?vo_w56) (w1 := (w54.setCell ⟨go49, (t138 : Int).toNat * 2 + 1, none⟩ (.slice none 0 0))) ?hg ?ho ?hn ?hr ?_; (case ho => rfl); (case hg => rfl); (case hn => rfl); (case hr => first | (go_simp; done) | (go_simp; rfl)); intro w56 hw; have hg : w54.grownBy w56 (some go49) := (by rw [hw]; exact HP55.2); have hp_ : Kd.N k48 48 w56 w.heap.size (fun k_ => (w.heap.size ≤ k_) ∧ k_ ≠ g) (.slice (some ⟨go49, 0, none⟩) t132.length co52) y159 := (by rw [hw, Ny159.out]; exact HP55.1); clear HP55; replace HI0 := Aside0.mk (IsS40.grown iS hg (IsS40.own_neN HI0.out HO134.out (by decide))); replace HO134 := Aside0.mk (hp_); replace HK := Aside0.mk (KeepBut.trans kU (KeepBut.of_grown hg g) (Kd.N_base2 HO134.out)); replace HB := Aside0.mk ((by rw [hw]; exact below_set (HB.out) (Nat.le_trans HL.out GB49.out) : Below w0.heap.size w0 w56)); clear hg hw hp_))
         go_ret
         exact ⟨_, by first | rfl | (simp [errW_none, errW_some] <;> rfl) | (simp [*, errW_none, errW_some] <;> rfl), by exact Kd.N_mono HO134.out (fun _ hk => hk.1), iS, bS, kU⟩
        ·rw [if_neg c48] at H
         exact absurd H (by simp)
       ·rw [if_neg c47] at H
        exact absurd H (by simp)
end Go.Proofs.Ytchegijjjakmpaa.P

end
section

namespace Go.Proofs.Ytchegijjjakmpaa.P
open Go.RowKit Go.Proofs.YtchegijjjakmpaaW.PrintWords Go.Proofs.YtchegijjjakmpaaW.PrintLast Go.Proofs.YtchegijjjakmpaaW.PrintMore
theorem spec_l71Off.calls (k : Nat) (g : Nat) (s0_0 : List Int) (s0_1 : Int) (r1 : List (S48)) (r2 : Int) (w0 w : World) (hI : IsS40 w0 w g s0_0 s0_1) (hB : Below w0.heap.size w0 w) (h : spec_l71Off.f k s0_0 s0_1 = some (r1, r2)) :
    Calls Try.prog 17 #[.pointer (some ⟨g, 0, none⟩)] w fun e w' => ∃ v0_ : Value, e = .returned (v0_) ∧ Kd.N k48 48 w' w.heap.size (fun k_ => (w.heap.size ≤ k_)) v0_ r1 ∧ IsS40 w0 w' g s0_0 r2 ∧ Below w0.heap.size w0 w' ∧ KeepBut w w' g none := by
  rcases spec_l71Off.or k s0_0 s0_1 (r1, r2) h with h | h
  · refine (spec_l71OffA.calls k g s0_0 s0_1 r1 r2 w0 w hI hB h).mono ?_
    rintro e w' ⟨v0_, he, hS, hI', hB', hK⟩
    exact ⟨v0_, he, Kd.R_N (Kd.R_mono (Kd.R_bound (Kd.S_R hS)) (fun k_ hk => hk.2.1)), hI', hB', hK⟩
  · exact spec_l71OffB.calls k g s0_0 s0_1 r1 r2 w0 w hI hB h
end Go.Proofs.Ytchegijjjakmpaa.P

end
