/- A part of the claim FnClassesMore: texts of this session and texts that its program printed out of the translation, joined. -/
import Derived.Test.YtgmjolngnhdafaaCFnClassesMore0
section
namespace Go.Proofs.Ytgmjolngnhdafaa.P
open Go.RowKit Go.Proofs.YtgmjolngnhdafaaW.PrintWords Go.Proofs.YtgmjolngnhdafaaW.PrintLast Go.Proofs.YtgmjolngnhdafaaW.PrintMore
attribute [local go_sem] max2_int min2_int max_two min_two max_three min_three max_four min_four
set_option linter.unusedVariables false
set_option linter.unusedSimpArgs false

def spec_l71OffA.T10 : Bool × List (List Nat × List Nat) := (true, [([], []), ([], []), ([], []), ([], []), ([2, 3], [2, 3]), ([4], [4]), ([5], [5]), ([], []), ([], []), ([8], [8]), ([7, 9], [7, 9]), ([10], [10]), ([11], [11]), ([6, 12, 9], [6, 12]), ([0, 1, 0, 1, 2, 3, 4, 5, 6, 7, 8, 9, 10, 11, 12, 13], [0, 1]), ([14, 0, 1, 2, 3, 4, 5, 6, 7, 8, 9, 10, 11, 12, 13], [14]), ([15, 13, 13, 0, 1, 2, 3, 4, 5, 6, 7, 8, 9, 10, 11, 12, 13], [13, 15])])
def spec_l71OffA.B10 : List Nat := [0, 0, 0, 0, 12, 28, 60, 0, 0, 256, 896, 1920, 3968, 8188, 16383, 32767, 65535]
theorem spec_l71OffA.tab10 : rtab .any (opsOf Try.f64 10) = spec_l71OffA.T10 := by kernel_rfl
theorem spec_l71OffA.bits10 : waitsOk spec_l71OffA.T10.2 spec_l71OffA.B10 = true := by kernel_rfl
set_option maxHeartbeats 8000000 in
set_option maxRecDepth 100000 in
theorem spec_l71OffA.calls (k : Nat) (g : Nat) (s0_0 : List Int) (s0_1 : Int) (r1 : List (S38)) (r2 : Int) (w0 w : World) (hI : IsS92 w0 w g s0_0 s0_1) (hB : Below w0.heap.size w0 w) (h : spec_l71OffA.f k s0_0 s0_1 = some (r1, r2)) :
    Calls Try.prog 64 #[.pointer (some ⟨g, 0, none⟩)] w fun e w' => ∃ v0_ : Value, e = .returned (v0_) ∧ Kd.S k38 38 w' w.heap.size (fun _ => True) v0_ r1 ∧ IsS92 w0 w' g s0_0 r2 ∧ Below w0.heap.size w0 w' ∧ KeepBut w w' g none := by
  have hu38 := Try.underlying38
  have HI0 := Aside0.mk hI
  have HK := Aside0.mk (KeepBut.refl w g none)
  have HL := Aside0.mk hB.size
  clear hI
  have HW0 := Aside0.mk hB.size
  have HB := Aside0.mk hB
  clear hB
  have H : ((spec_l71Classes.f k s0_0 s0_1).bind fun bt212 => ((spec_l6Rd_pick.f k s0_0 bt212.2 20).bind fun bt216 => (if bt216.1 > 0 then (some (bt212.1, bt216.2)) else ((spec_l6Rd_pick.f k s0_0 bt216.2 (bt212.1.length : Int)).bind fun bt218 => ((spec_l6Rd_pick.f k s0_0 bt218.2 6).bind fun bt220 => (if bt220.1 = 0 then ((spec_l6Rd_pick.f k s0_0 bt220.2 7).bind fun bt222 => (if 0 ≤ bt218.1 then (if bt218.1 < (bt212.1.length : Int) then (some ((bt212.1.set (bt218.1 : Int).toNat (⟨wrap64 (bt222.1 - 1), (rd_T38 bt212.1 bt218.1).f1⟩ : S38)), bt222.2)) else (none)) else (none))) else (if bt220.1 = 1 then (if 0 ≤ bt218.1 then (if bt218.1 < (bt212.1.length : Int) then ((some (([0, 2, 13, 5] : List Int) : List Int)).bind fun y226 => ((spec_l6Rd_pick.f k s0_0 bt220.2 4).bind fun bt229 => (if 0 ≤ bt229.1 then (if bt229.1 < (y226.length : Int) then (if ((rd_T38 bt212.1 bt218.1).f1).length < 17592186044416 then (some ((bt212.1.set (bt218.1 : Int).toNat (⟨(rd_T38 bt212.1 bt218.1).f0, (((rd_T38 bt212.1 bt218.1).f1) ++ [rd y226 bt229.1])⟩ : S38)), bt229.2)) else (none)) else (none)) else (none)))) else (none)) else (none)) else (if bt220.1 = 2 then (if 1 ≤ (bt212.1.length : Int) then (some ((bt212.1.take (1 : Int).toNat), bt220.2)) else (none)) else (if bt220.1 = 3 then (if 1 < (bt212.1.length : Int) then (none) else (none)) else (if bt220.1 = 4 then (if 0 ≤ bt218.1 then (if bt218.1 < (bt212.1.length : Int) then (some ((bt212.1.set (bt218.1 : Int).toNat (⟨(rd_T38 bt212.1 bt218.1).f0, (([1, 1, 1] : List Int))⟩ : S38)), bt220.2)) else (none)) else (none)) else (if 0 ≤ bt218.1 then (if bt218.1 < (bt212.1.length : Int) then (some ((bt212.1.set (bt218.1 : Int).toNat (⟨(rd_T38 bt212.1 bt218.1).f0, ([] : List Int)⟩ : S38)), bt220.2)) else (none)) else (none)))))))))))) = some (r1, r2) := h
  clear h
  replace H := Option.bind_eq_some_iff.mp H
  obtain ⟨⟨t212, t215⟩, A20, H⟩ := H
  replace H : ((spec_l6Rd_pick.f k s0_0 t215 20).bind fun bt216 => (if bt216.1 > 0 then (some (t212, bt216.2)) else ((spec_l6Rd_pick.f k s0_0 bt216.2 (t212.length : Int)).bind fun bt218 => ((spec_l6Rd_pick.f k s0_0 bt218.2 6).bind fun bt220 => (if bt220.1 = 0 then ((spec_l6Rd_pick.f k s0_0 bt220.2 7).bind fun bt222 => (if 0 ≤ bt218.1 then (if bt218.1 < (t212.length : Int) then (some ((t212.set (bt218.1 : Int).toNat (⟨wrap64 (bt222.1 - 1), (rd_T38 t212 bt218.1).f1⟩ : S38)), bt222.2)) else (none)) else (none))) else (if bt220.1 = 1 then (if 0 ≤ bt218.1 then (if bt218.1 < (t212.length : Int) then ((some (([0, 2, 13, 5] : List Int) : List Int)).bind fun y226 => ((spec_l6Rd_pick.f k s0_0 bt220.2 4).bind fun bt229 => (if 0 ≤ bt229.1 then (if bt229.1 < (y226.length : Int) then (if ((rd_T38 t212 bt218.1).f1).length < 17592186044416 then (some ((t212.set (bt218.1 : Int).toNat (⟨(rd_T38 t212 bt218.1).f0, (((rd_T38 t212 bt218.1).f1) ++ [rd y226 bt229.1])⟩ : S38)), bt229.2)) else (none)) else (none)) else (none)))) else (none)) else (none)) else (if bt220.1 = 2 then (if 1 ≤ (t212.length : Int) then (some ((t212.take (1 : Int).toNat), bt220.2)) else (none)) else (if bt220.1 = 3 then (if 1 < (t212.length : Int) then (none) else (none)) else (if bt220.1 = 4 then (if 0 ≤ bt218.1 then (if bt218.1 < (t212.length : Int) then (some ((t212.set (bt218.1 : Int).toNat (⟨(rd_T38 t212 bt218.1).f0, (([1, 1, 1] : List Int))⟩ : S38)), bt220.2)) else (none)) else (none)) else (if 0 ≤ bt218.1 then (if bt218.1 < (t212.length : Int) then (some ((t212.set (bt218.1 : Int).toNat (⟨(rd_T38 t212 bt218.1).f0, ([] : List Int)⟩ : S38)), bt220.2)) else (none)) else (none))))))))))) = some (r1, r2) := H
  have A2 := Aside0.mk A20
  clear A20
  replace H := Option.bind_eq_some_iff.mp H
  obtain ⟨⟨t216, t217⟩, A30, H⟩ := H
  replace H : (if t216 > 0 then (some (t212, t217)) else ((spec_l6Rd_pick.f k s0_0 t217 (t212.length : Int)).bind fun bt218 => ((spec_l6Rd_pick.f k s0_0 bt218.2 6).bind fun bt220 => (if bt220.1 = 0 then ((spec_l6Rd_pick.f k s0_0 bt220.2 7).bind fun bt222 => (if 0 ≤ bt218.1 then (if bt218.1 < (t212.length : Int) then (some ((t212.set (bt218.1 : Int).toNat (⟨wrap64 (bt222.1 - 1), (rd_T38 t212 bt218.1).f1⟩ : S38)), bt222.2)) else (none)) else (none))) else (if bt220.1 = 1 then (if 0 ≤ bt218.1 then (if bt218.1 < (t212.length : Int) then ((some (([0, 2, 13, 5] : List Int) : List Int)).bind fun y226 => ((spec_l6Rd_pick.f k s0_0 bt220.2 4).bind fun bt229 => (if 0 ≤ bt229.1 then (if bt229.1 < (y226.length : Int) then (if ((rd_T38 t212 bt218.1).f1).length < 17592186044416 then (some ((t212.set (bt218.1 : Int).toNat (⟨(rd_T38 t212 bt218.1).f0, (((rd_T38 t212 bt218.1).f1) ++ [rd y226 bt229.1])⟩ : S38)), bt229.2)) else (none)) else (none)) else (none)))) else (none)) else (none)) else (if bt220.1 = 2 then (if 1 ≤ (t212.length : Int) then (some ((t212.take (1 : Int).toNat), bt220.2)) else (none)) else (if bt220.1 = 3 then (if 1 < (t212.length : Int) then (none) else (none)) else (if bt220.1 = 4 then (if 0 ≤ bt218.1 then (if bt218.1 < (t212.length : Int) then (some ((t212.set (bt218.1 : Int).toNat (⟨(rd_T38 t212 bt218.1).f0, (([1, 1, 1] : List Int))⟩ : S38)), bt220.2)) else (none)) else (none)) else (if 0 ≤ bt218.1 then (if bt218.1 < (t212.length : Int) then (some ((t212.set (bt218.1 : Int).toNat (⟨(rd_T38 t212 bt218.1).f0, ([] : List Int)⟩ : S38)), bt220.2)) else (none)) else (none)))))))))) = some (r1, r2) := H
  have A3 := Aside0.mk A30
  clear A30
  by_cases c4 : t216 > 0
  · rw [if_pos c4] at H
    have c4b0 : decide (0 < t216) = true := decide_eq_true c4
    clear c4
    simp only [Option.some.injEq, Prod.mk.injEq] at H
    obtain ⟨rfl, rfl⟩ := H
    go_enter Try.func64, Try.ntmps64
    go_wp2_with (first | ((with_reducible refine gate_callee (f := 88) rfl ?_); refine goesL_ (some 6) rfl rfl Try.func88 (by kernel_rfl) rfl #[.pointer (some ⟨g, 0, none⟩)] rfl (by (try simp only [List.map_toArray, List.map_cons, List.map_nil]); first | done | rfl | (simp only [List.length_drop, List.length_take]; rfl)) ?_; (with_reducible refine (spec_l71Classes.calls k g s0_0 s0_1 t212 t215 w0 _ ?side1 ?side2 A2.out).mono ?_); (case side1 => repeat (first | (with_reducible first | exact HI0.out | apply IsS92.alloc | apply IsS92.drewN | apply IsS92.drew | apply IsS92.set_1) | exact HI0.out)); (case side2 => repeat (first | (with_reducible first | exact HB.out | apply below_alloc | apply pw_below_drewN | apply below_drew1 | refine below_set ?_ (IsS92.ge HI0.out)) | exact HB.out)); rintro e w5 ⟨v213, rfl, ho0, hi, hb, hk⟩; refine ⟨_, rfl, ?_⟩; have n0_ := Aside0.mk (Kd.S_lower ho0 (keep_size (w := w) (g := g) (row := none) (by repeat (first | (with_reducible first | exact HK.out | apply KeepBut.set_ | apply keep_drewN | apply keep_drew | apply keep_alloc) | exact HK.out)))); have n1_ := Aside0.mk (KeepBut.trans (by repeat (first | (with_reducible first | exact HK.out | apply KeepBut.set_ | apply keep_drewN | apply keep_drew | apply keep_alloc) | exact HK.out)) hk (.inl rfl)); have n2_ := Aside0.mk (hb); have n3_ := Aside0.mk (hi); clear HK; clear HB; clear HI0; have HO214 := n0_; have HK := n1_; have HB := n2_; have HI0 := n3_; clear n0_ n1_ n2_ n3_; (try clear hb); (try clear hb2); (try clear hk); (try clear hi); (try clear ho0)) | ((with_reducible refine gate_callee (f := 65) rfl ?_); refine goesL_ (some 8) rfl rfl Try.func65 (by kernel_rfl) rfl #[.pointer (some ⟨g, 0, none⟩), .int .i64 20] rfl (by (try simp only [List.map_toArray, List.map_cons, List.map_nil]); first | done | rfl | (simp only [List.length_drop, List.length_take]; rfl)) ?_; (with_reducible refine (spec_l6Rd_pick.calls k g s0_0 t215 20 t216 t217 w0 _ ?side1 ?side2 A3.out).mono ?_); (case side1 => repeat (first | (with_reducible first | exact HI0.out | apply IsS92.alloc | apply IsS92.drewN | apply IsS92.drew | apply IsS92.set_1) | exact HI0.out)); (case side2 => repeat (first | (with_reducible first | exact HB.out | apply below_alloc | apply pw_below_drewN | apply below_drew1 | refine below_set ?_ (IsS92.ge HI0.out)) | exact HB.out)); rintro e w6 ⟨rfl, hi, hb, hk⟩; refine ⟨_, rfl, ?_⟩; have n0_ := Aside0.mk (Kd.S_mono (Kd.S_keep (IsS92.apartS (show IsS92 w0 _ g s0_0 t215 from by repeat (first | (with_reducible first | exact HI0.out | apply IsS92.alloc | apply IsS92.drewN | apply IsS92.drew | apply IsS92.set_1) | exact HI0.out)) (by (with_reducible repeat (first | apply Kd.S_alloc | apply Kd.S_drewN | apply Kd.S_drew)); exact HO214.out) (by decide)) hk (fun _ h => h.2)) (fun _ h => h.1)); have n1_ := Aside0.mk (KeepBut.trans (by repeat (first | (with_reducible first | exact HK.out | apply KeepBut.set_ | apply keep_drewN | apply keep_drew | apply keep_alloc) | exact HK.out)) hk (.inl rfl)); have n2_ := Aside0.mk (hb); have n3_ := Aside0.mk (hi); clear HO214; clear HK; clear HB; clear HI0; have HO214 := n0_; have HK := n1_; have HB := n2_; have HI0 := n3_; clear n0_ n1_ n2_ n3_; (try clear hb); (try clear hb2); (try clear hk); (try clear hi)))
    go_ret
    exact ⟨_, by first | rfl | (simp [errW_none, errW_some] <;> rfl) | (simp [*, errW_none, errW_some] <;> rfl), by (with_reducible repeat (first | apply Kd.S_alloc | apply Kd.S_drewN | apply Kd.S_drew)); exact HO214.out, by repeat (first | (with_reducible first | exact HI0.out | apply IsS92.alloc | apply IsS92.drewN | apply IsS92.drew | apply IsS92.set_1) | exact HI0.out), by repeat (first | (with_reducible first | exact HB.out | apply below_alloc | apply pw_below_drewN | apply below_drew1 | refine below_set ?_ (IsS92.ge HI0.out)) | exact HB.out), by repeat (first | (with_reducible first | exact HK.out | apply KeepBut.set_ | apply keep_drewN | apply keep_drew | apply keep_alloc) | exact HK.out)⟩
  · rw [if_neg c4] at H
    have c4b0 : decide (0 < t216) = false := decide_eq_false c4
    clear c4
    replace H := Option.bind_eq_some_iff.mp H
    obtain ⟨⟨t218, t219⟩, A70, H⟩ := H
    replace H : ((spec_l6Rd_pick.f k s0_0 t219 6).bind fun bt220 => (if bt220.1 = 0 then ((spec_l6Rd_pick.f k s0_0 bt220.2 7).bind fun bt222 => (if 0 ≤ t218 then (if t218 < (t212.length : Int) then (some ((t212.set (t218 : Int).toNat (⟨wrap64 (bt222.1 - 1), (rd_T38 t212 t218).f1⟩ : S38)), bt222.2)) else (none)) else (none))) else (if bt220.1 = 1 then (if 0 ≤ t218 then (if t218 < (t212.length : Int) then ((some (([0, 2, 13, 5] : List Int) : List Int)).bind fun y226 => ((spec_l6Rd_pick.f k s0_0 bt220.2 4).bind fun bt229 => (if 0 ≤ bt229.1 then (if bt229.1 < (y226.length : Int) then (if ((rd_T38 t212 t218).f1).length < 17592186044416 then (some ((t212.set (t218 : Int).toNat (⟨(rd_T38 t212 t218).f0, (((rd_T38 t212 t218).f1) ++ [rd y226 bt229.1])⟩ : S38)), bt229.2)) else (none)) else (none)) else (none)))) else (none)) else (none)) else (if bt220.1 = 2 then (if 1 ≤ (t212.length : Int) then (some ((t212.take (1 : Int).toNat), bt220.2)) else (none)) else (if bt220.1 = 3 then (if 1 < (t212.length : Int) then (none) else (none)) else (if bt220.1 = 4 then (if 0 ≤ t218 then (if t218 < (t212.length : Int) then (some ((t212.set (t218 : Int).toNat (⟨(rd_T38 t212 t218).f0, (([1, 1, 1] : List Int))⟩ : S38)), bt220.2)) else (none)) else (none)) else (if 0 ≤ t218 then (if t218 < (t212.length : Int) then (some ((t212.set (t218 : Int).toNat (⟨(rd_T38 t212 t218).f0, ([] : List Int)⟩ : S38)), bt220.2)) else (none)) else (none)))))))) = some (r1, r2) := H
    have A7 := Aside0.mk A70
    clear A70
    replace H := Option.bind_eq_some_iff.mp H
    obtain ⟨⟨t220, t221⟩, A80, H⟩ := H
    replace H : (if t220 = 0 then ((spec_l6Rd_pick.f k s0_0 t221 7).bind fun bt222 => (if 0 ≤ t218 then (if t218 < (t212.length : Int) then (some ((t212.set (t218 : Int).toNat (⟨wrap64 (bt222.1 - 1), (rd_T38 t212 t218).f1⟩ : S38)), bt222.2)) else (none)) else (none))) else (if t220 = 1 then (if 0 ≤ t218 then (if t218 < (t212.length : Int) then ((some (([0, 2, 13, 5] : List Int) : List Int)).bind fun y226 => ((spec_l6Rd_pick.f k s0_0 t221 4).bind fun bt229 => (if 0 ≤ bt229.1 then (if bt229.1 < (y226.length : Int) then (if ((rd_T38 t212 t218).f1).length < 17592186044416 then (some ((t212.set (t218 : Int).toNat (⟨(rd_T38 t212 t218).f0, (((rd_T38 t212 t218).f1) ++ [rd y226 bt229.1])⟩ : S38)), bt229.2)) else (none)) else (none)) else (none)))) else (none)) else (none)) else (if t220 = 2 then (if 1 ≤ (t212.length : Int) then (some ((t212.take (1 : Int).toNat), t221)) else (none)) else (if t220 = 3 then (if 1 < (t212.length : Int) then (none) else (none)) else (if t220 = 4 then (if 0 ≤ t218 then (if t218 < (t212.length : Int) then (some ((t212.set (t218 : Int).toNat (⟨(rd_T38 t212 t218).f0, (([1, 1, 1] : List Int))⟩ : S38)), t221)) else (none)) else (none)) else (if 0 ≤ t218 then (if t218 < (t212.length : Int) then (some ((t212.set (t218 : Int).toNat (⟨(rd_T38 t212 t218).f0, ([] : List Int)⟩ : S38)), t221)) else (none)) else (none))))))) = some (r1, r2) := H
    have A8 := Aside0.mk A80
    clear A80
    by_cases c9 : t220 = 0
    · rw [if_pos c9] at H
      have c9b0 : (t220 == 0) = true := beq_iff_eq.mpr c9
      have c9b1 : (t220 != 0) = false := bne_eq_false_iff_eq.mpr c9
      clear c9
      replace H := Option.bind_eq_some_iff.mp H
      obtain ⟨⟨t222, t223⟩, A100, H⟩ := H
      replace H : (if 0 ≤ t218 then (if t218 < (t212.length : Int) then (some ((t212.set (t218 : Int).toNat (⟨wrap64 (t222 - 1), (rd_T38 t212 t218).f1⟩ : S38)), t223)) else (none)) else (none)) = some (r1, r2) := H
      have A10 := Aside0.mk A100
      clear A100
      by_cases c11 : 0 ≤ t218
      · rw [if_pos c11] at H
        have c11b0 : decide (0 ≤ t218) = true := decide_eq_true c11
        clear c11
        by_cases c12 : t218 < (t212.length : Int)
        · rw [if_pos c12] at H
          have c12b0 : decide (t218 < (t212.length : Int)) = true := decide_eq_true c12
          clear c12
          obtain ⟨y224, hy224⟩ : ∃ y_ : List (S38), y_ = (t212.set (t218 : Int).toNat (⟨wrap64 (t222 - 1), (rd_T38 t212 t218).f1⟩ : S38)) := ⟨_, rfl⟩
          replace H : (some (y224, t223)) = some (r1, r2) := by first | (rw [hy224]; with_reducible exact H) | (have H2_ := (Option.bind_some _ _).symm.trans H; rw [hy224]; with_reducible exact H2_) | (have H2_ := (Option.bind_some _ _).symm.trans H; with_reducible exact H2_) | with_reducible exact H | (rw [hy224]; exact H) | exact H
          have Ny224 := Aside0.mk hy224
          clear hy224
          simp only [Option.some.injEq, Prod.mk.injEq] at H
          obtain ⟨rfl, rfl⟩ := H
          go_enter Try.func64, Try.ntmps64
          go_wp2_with (first | ((with_reducible refine gate_callee (f := 88) rfl ?_); refine goesL_ (some 6) rfl rfl Try.func88 (by kernel_rfl) rfl #[.pointer (some ⟨g, 0, none⟩)] rfl (by (try simp only [List.map_toArray, List.map_cons, List.map_nil]); first | done | rfl | (simp only [List.length_drop, List.length_take]; rfl)) ?_; (with_reducible refine (spec_l71Classes.calls k g s0_0 s0_1 t212 t215 w0 _ ?side1 ?side2 A2.out).mono ?_); (case side1 => repeat (first | (with_reducible first | exact HI0.out | apply IsS92.alloc | apply IsS92.drewN | apply IsS92.drew | apply IsS92.set_1) | exact HI0.out)); (case side2 => repeat (first | (with_reducible first | exact HB.out | apply below_alloc | apply pw_below_drewN | apply below_drew1 | refine below_set ?_ (IsS92.ge HI0.out)) | exact HB.out)); rintro e w14 ⟨v213, rfl, ho0, hi, hb, hk⟩; refine ⟨_, rfl, ?_⟩; have n0_ := Aside0.mk (Kd.S_lower ho0 (keep_size (w := w) (g := g) (row := none) (by repeat (first | (with_reducible first | exact HK.out | apply KeepBut.set_ | apply keep_drewN | apply keep_drew | apply keep_alloc) | exact HK.out)))); have n1_ := Aside0.mk (KeepBut.trans (by repeat (first | (with_reducible first | exact HK.out | apply KeepBut.set_ | apply keep_drewN | apply keep_drew | apply keep_alloc) | exact HK.out)) hk (.inl rfl)); have n2_ := Aside0.mk (hb); have n3_ := Aside0.mk (hi); clear HK; clear HB; clear HI0; have HO214 := n0_; have HK := n1_; have HB := n2_; have HI0 := n3_; clear n0_ n1_ n2_ n3_; (try clear hb); (try clear hb2); (try clear hk); (try clear hi); (try clear ho0)) | ((with_reducible refine gate_callee (f := 65) rfl ?_); refine goesL_ (some 8) rfl rfl Try.func65 (by kernel_rfl) rfl #[.pointer (some ⟨g, 0, none⟩), .int .i64 20] rfl (by (try simp only [List.map_toArray, List.map_cons, List.map_nil]); first | done | rfl | (simp only [List.length_drop, List.length_take]; rfl)) ?_; (with_reducible refine (spec_l6Rd_pick.calls k g s0_0 t215 20 t216 t217 w0 _ ?side1 ?side2 A3.out).mono ?_); (case side1 => repeat (first | (with_reducible first | exact HI0.out | apply IsS92.alloc | apply IsS92.drewN | apply IsS92.drew | apply IsS92.set_1) | exact HI0.out)); (case side2 => repeat (first | (with_reducible first | exact HB.out | apply below_alloc | apply pw_below_drewN | apply below_drew1 | refine below_set ?_ (IsS92.ge HI0.out)) | exact HB.out)); rintro e w15 ⟨rfl, hi, hb, hk⟩; refine ⟨_, rfl, ?_⟩; have n0_ := Aside0.mk (Kd.S_mono (Kd.S_keep (IsS92.apartS (show IsS92 w0 _ g s0_0 t215 from by repeat (first | (with_reducible first | exact HI0.out | apply IsS92.alloc | apply IsS92.drewN | apply IsS92.drew | apply IsS92.set_1) | exact HI0.out)) (by (with_reducible repeat (first | apply Kd.S_alloc | apply Kd.S_drewN | apply Kd.S_drew)); exact HO214.out) (by decide)) hk (fun _ h => h.2)) (fun _ h => h.1)); have n1_ := Aside0.mk (KeepBut.trans (by repeat (first | (with_reducible first | exact HK.out | apply KeepBut.set_ | apply keep_drewN | apply keep_drew | apply keep_alloc) | exact HK.out)) hk (.inl rfl)); have n2_ := Aside0.mk (hb); have n3_ := Aside0.mk (hi); clear HO214; clear HK; clear HB; clear HI0; have HO214 := n0_; have HK := n1_; have HB := n2_; have HI0 := n3_; clear n0_ n1_ n2_ n3_; (try clear hb); (try clear hb2); (try clear hk); (try clear hi); obtain ⟨Ao16, co16, eo16⟩ := Kd.S_slice HO214.out; subst eo16) | ((with_reducible refine gate_callee (f := 65) rfl ?_); refine goesL_ (some 14) rfl rfl Try.func65 (by kernel_rfl) rfl #[.pointer (some ⟨g, 0, none⟩), .int .i64 (t212.length : Int)] rfl (by (try simp only [List.map_toArray, List.map_cons, List.map_nil]); first | done | rfl | (simp only [List.length_drop, List.length_take]; rfl)) ?_; (with_reducible refine (spec_l6Rd_pick.calls k g s0_0 t217 (t212.length : Int) t218 t219 w0 _ ?side1 ?side2 A7.out).mono ?_); (case side1 => repeat (first | (with_reducible first | exact HI0.out | apply IsS92.alloc | apply IsS92.drewN | apply IsS92.drew | apply IsS92.set_1) | exact HI0.out)); (case side2 => repeat (first | (with_reducible first | exact HB.out | apply below_alloc | apply pw_below_drewN | apply below_drew1 | refine below_set ?_ (IsS92.ge HI0.out)) | exact HB.out)); rintro e w17 ⟨rfl, hi, hb, hk⟩; refine ⟨_, rfl, ?_⟩; have n0_ := Aside0.mk (Kd.S_mono (Kd.S_keep (IsS92.apartS (show IsS92 w0 _ g s0_0 t217 from by repeat (first | (with_reducible first | exact HI0.out | apply IsS92.alloc | apply IsS92.drewN | apply IsS92.drew | apply IsS92.set_1) | exact HI0.out)) (by (with_reducible repeat (first | apply Kd.S_alloc | apply Kd.S_drewN | apply Kd.S_drew)); exact HO214.out) (by decide)) hk (fun _ h => h.2)) (fun _ h => h.1)); have n1_ := Aside0.mk (KeepBut.trans (by repeat (first | (with_reducible first | exact HK.out | apply KeepBut.set_ | apply keep_drewN | apply keep_drew | apply keep_alloc) | exact HK.out)) hk (.inl rfl)); have n2_ := Aside0.mk (hb); have n3_ := Aside0.mk (hi); clear HO214; clear HK; clear HB; clear HI0; have HO214 := n0_; have HK := n1_; have HB := n2_; have HI0 := n3_; clear n0_ n1_ n2_ n3_; (try clear hb); (try clear hb2); (try clear hk); (try clear hi)) | ((with_reducible refine gate_callee (f := 65) rfl ?_); refine goesL_ (some 16) rfl rfl Try.func65 (by kernel_rfl) rfl #[.pointer (some ⟨g, 0, none⟩), .int .i64 6] rfl (by (try simp only [List.map_toArray, List.map_cons, List.map_nil]); first | done | rfl | (simp only [List.length_drop, List.length_take]; rfl)) ?_; (with_reducible refine (spec_l6Rd_pick.calls k g s0_0 t219 6 t220 t221 w0 _ ?side1 ?side2 A8.out).mono ?_); (case side1 => repeat (first | (with_reducible first | exact HI0.out | apply IsS92.alloc | apply IsS92.drewN | apply IsS92.drew | apply IsS92.set_1) | exact HI0.out)); (case side2 => repeat (first | (with_reducible first | exact HB.out | apply below_alloc | apply pw_below_drewN | apply below_drew1 | refine below_set ?_ (IsS92.ge HI0.out)) | exact HB.out)); rintro e w18 ⟨rfl, hi, hb, hk⟩; refine ⟨_, rfl, ?_⟩; have n0_ := Aside0.mk (Kd.S_mono (Kd.S_keep (IsS92.apartS (show IsS92 w0 _ g s0_0 t219 from by repeat (first | (with_reducible first | exact HI0.out | apply IsS92.alloc | apply IsS92.drewN | apply IsS92.drew | apply IsS92.set_1) | exact HI0.out)) (by (with_reducible repeat (first | apply Kd.S_alloc | apply Kd.S_drewN | apply Kd.S_drew)); exact HO214.out) (by decide)) hk (fun _ h => h.2)) (fun _ h => h.1)); have n1_ := Aside0.mk (KeepBut.trans (by repeat (first | (with_reducible first | exact HK.out | apply KeepBut.set_ | apply keep_drewN | apply keep_drew | apply keep_alloc) | exact HK.out)) hk (.inl rfl)); have n2_ := Aside0.mk (hb); have n3_ := Aside0.mk (hi); clear HO214; clear HK; clear HB; clear HI0; have HO214 := n0_; have HK := n1_; have HB := n2_; have HI0 := n3_; clear n0_ n1_ n2_ n3_; (try clear hb); (try clear hb2); (try clear hk); (try clear hi)) | ((with_reducible refine gate_callee (f := 65) rfl ?_); refine goesL_ (some 26) rfl rfl Try.func65 (by kernel_rfl) rfl #[.pointer (some ⟨g, 0, none⟩), .int .i64 7] rfl (by (try simp only [List.map_toArray, List.map_cons, List.map_nil]); first | done | rfl | (simp only [List.length_drop, List.length_take]; rfl)) ?_; (with_reducible refine (spec_l6Rd_pick.calls k g s0_0 t221 7 t222 t223 w0 _ ?side1 ?side2 A10.out).mono ?_); (case side1 => repeat (first | (with_reducible first | exact HI0.out | apply IsS92.alloc | apply IsS92.drewN | apply IsS92.drew | apply IsS92.set_1) | exact HI0.out)); (case side2 => repeat (first | (with_reducible first | exact HB.out | apply below_alloc | apply pw_below_drewN | apply below_drew1 | refine below_set ?_ (IsS92.ge HI0.out)) | exact HB.out)); rintro e w19 ⟨rfl, hi, hb, hk⟩; refine ⟨_, rfl, ?_⟩; have n0_ := Aside0.mk (Kd.S_mono (Kd.S_keep (IsS92.apartS (show IsS92 w0 _ g s0_0 t221 from by repeat (first | (with_reducible first | exact HI0.out | apply IsS92.alloc | apply IsS92.drewN | apply IsS92.drew | apply IsS92.set_1) | exact HI0.out)) (by (with_reducible repeat (first | apply Kd.S_alloc | apply Kd.S_drewN | apply Kd.S_drew)); exact HO214.out) (by decide)) hk (fun _ h => h.2)) (fun _ h => h.1)); have n1_ := Aside0.mk (KeepBut.trans (by repeat (first | (with_reducible first | exact HK.out | apply KeepBut.set_ | apply keep_drewN | apply keep_drew | apply keep_alloc) | exact HK.out)) hk (.inl rfl)); have n2_ := Aside0.mk (hb); have n3_ := Aside0.mk (hi); clear HO214; clear HK; clear HB; clear HI0; have HO214 := n0_; have HK := n1_; have HB := n2_; have HI0 := n3_; clear n0_ n1_ n2_ n3_; (try clear hb); (try clear hb2); (try clear hk); (try clear hi); have p13 : 0 ≤ (t218 : Int) := of_decide_eq_true (by first | (with_reducible assumption) | assumption); have q13 : (t218 : Int) < ((t212.length : Int) : Int) := of_decide_eq_true (by first | (with_reducible assumption) | assumption); obtain ⟨go13, co13, eo13, gb13, gl13, cl13, HG13⟩ := Kd.S_form HO214.out (by omega); (first | cases eo13 | (injection eo13 with ea_ en_ ec_; (first | subst ea_ | (injection ea_ with ea_; subst ea_)); subst ec_; clear en_)); have GB13 := Aside0.mk gb13; have GG13 := Aside0.mk HG13; clear gb13 gl13 HG13; obtain ⟨_, ce13, hcl13, hM13, hcc13, hfr13, _, _⟩ := Kd.S_elem HO214.out z38 (t218 : Int) p13 q13; obtain ⟨ve13_1, rfl, ge13_1⟩ := k38_openM hM13; have hx13_0 : w19.cell? ⟨go13, (t218 : Int).toNat * 2, none⟩ = some (.int .i64 ((rd_T38 t212 t218).f0)) := hcc13 0 _ rfl; have hx13_1 : w19.cell? ⟨go13, (t218 : Int).toNat * 2 + 1, none⟩ = some (ve13_1) := hcc13 1 _ rfl; have hf13_0 : w19.frozen? ⟨go13, (t218 : Int).toNat * 2, none⟩ = false := hfr13 0; have hf13_1 : w19.frozen? ⟨go13, (t218 : Int).toNat * 2 + 1, none⟩ = false := hfr13 1; clear hcl13 hcc13 hfr13 hM13; replace p13 := eq_true p13; replace q13 := eq_true q13; have HX20 := Aside0.mk (show Kd.S k38 38 w19 w.heap.size (fun k_ => ((fun _ => True)) k_ ∧ ¬ ((fun _ => False)) k_) (.slice (some ⟨go13, 0, none⟩) t212.length co16) t212 from (by (with_reducible repeat (first | apply Kd.S_alloc | apply Kd.S_drewN | apply Kd.S_drew)); exact Kd.S_mono HO214.out (fun k_ hk => ⟨trivial, fun e_ => e_⟩))); obtain ⟨oki20, ce20, hcl20, hM20, hcc20, hfr20, hoki20, hH20⟩ := Kd.S_elem HX20.out z38 (t218 : Int) (of_decide_eq_true (by first | (with_reducible assumption) | assumption)) (by have h_ : (t218 : Int) < ((t212.length : Int) : Int) := of_decide_eq_true (by first | (with_reducible assumption) | assumption); first | exact h_ | (have e_ := (Kd.S_reads' HO214.out).1; omega) | simpa using h_); obtain ⟨ve20_1, rfl, ge20_1⟩ := k38_openM hM20; have HP20 := Kd.S_seg hH20 (of_decide_eq_true (by first | (with_reducible assumption) | assumption)) (by have h_ : (t218 : Int) < ((t212.length : Int) : Int) := of_decide_eq_true (by first | (with_reducible assumption) | assumption); first | exact h_ | (have e_ := (Kd.S_reads' HO214.out).1; omega) | simpa using h_) (seg := [.int .i64 (wrap64 (t222 - 1))]) (j := 0) (show 1 ≤ 2 from by decide) (x' := (⟨wrap64 (t222 - 1), (rd_T38 t212 t218).f1⟩ : S38)) (k38_mkM _ _ _ (⟨wrap64 (t222 - 1), (rd_T38 t212 t218).f1⟩ : S38) (Kd.R_mono ge20_1 (fun _ h_ => Or.inl h_))) (fun _ hk => hk) (fun k_ hk_ => hk_.elim); have hx20_0 := hcc20 0 _ rfl; (try simp only [show (k38).sz = 2 from rfl, Nat.mul_one, Nat.add_zero] at hx20_0); have hf20_0 := hfr20 0; (try simp only [show (k38).sz = 2 from rfl, Nat.mul_one, Nat.add_zero] at hf20_0); clear hcl20 hcc20 hfr20 hM20 hoki20 hH20) | ((with_reducible refine gate_store (t := 3) (p := 29) rfl ?_); refine store_event (t := 3) (p := 29) (v := ?vo_w21) (w1 := (w19.setCell ⟨go13, (t218 : Int).toNat * 2, none⟩ (.int .i64 (wrap64 (t222 - 1))))) ?hg ?ho ?hn ?hr ?_; (case ho => rfl); (case hg => rfl); (case hn => rfl); (case hr => first | (go_simp; done) | (go_simp; rfl)); intro w21 hw; have hg : w19.grownBy w21 (some go13) := (by rw [hw]; exact HP20.2); have hp_ : Kd.S k38 38 w21 w.heap.size (fun _ => True) (.slice (some ⟨go13, 0, none⟩) t212.length co16) y224 := (by rw [hw, Ny224.out]; exact HP20.1); clear HP20; have n0_ := Aside0.mk (IsS92.grown (by repeat (first | (with_reducible first | exact HI0.out | apply IsS92.alloc | apply IsS92.drewN | apply IsS92.drew | apply IsS92.set_1) | exact HI0.out)) hg (IsS92.own_neS HI0.out HO214.out (by decide))); have n1_ := Aside0.mk (hp_); have n2_ := Aside0.mk ((by rw [hw]; exact below_set (HB.out) (Nat.le_trans HL.out GB13.out) : Below w0.heap.size w0 w21)); have n3_ := Aside0.mk (KeepBut.trans (by repeat (first | (with_reducible first | exact HK.out | apply KeepBut.set_ | apply keep_drewN | apply keep_drew | apply keep_alloc) | exact HK.out)) (KeepBut.of_grown hg g) (Kd.S_base2 HO214.out)); clear HI0; clear HO214; clear HB; clear HK; have HI0 := n0_; have HO214 := n1_; have HB := n2_; have HK := n3_; clear n0_ n1_ n2_ n3_; clear hg hw hp_))
          go_ret
          exact ⟨_, by first | rfl | (simp [errW_none, errW_some] <;> rfl) | (simp [*, errW_none, errW_some] <;> rfl), by (with_reducible repeat (first | apply Kd.S_alloc | apply Kd.S_drewN | apply Kd.S_drew)); exact HO214.out, by repeat (first | (with_reducible first | exact HI0.out | apply IsS92.alloc | apply IsS92.drewN | apply IsS92.drew | apply IsS92.set_1) | exact HI0.out), by repeat (first | (with_reducible first | exact HB.out | apply below_alloc | apply pw_below_drewN | apply below_drew1 | refine below_set ?_ (IsS92.ge HI0.out)) | exact HB.out), by repeat (first | (with_reducible first | exact HK.out | apply KeepBut.set_ | apply keep_drewN | apply keep_drew | apply keep_alloc) | exact HK.out)⟩
        · rw [if_neg c12] at H
          exact absurd H (by simp)
      · rw [if_neg c11] at H
        exact absurd H (by simp)
    · rw [if_neg c9] at H
      have c9b0 : (t220 == 0) = false := beq_eq_false_iff_ne.mpr c9
      have c9b1 : (t220 != 0) = true := bne_iff_ne.mpr c9
      by_cases c22 : t220 = 1
      · rw [if_pos c22] at H
        have c22b0 : (t220 == 1) = true := beq_iff_eq.mpr c22
        have c22b1 : (t220 != 1) = false := bne_eq_false_iff_eq.mpr c22
        clear c22
        by_cases c23 : 0 ≤ t218
        · rw [if_pos c23] at H
          have c23b0 : decide (0 ≤ t218) = true := decide_eq_true c23
          clear c23
          by_cases c24 : t218 < (t212.length : Int)
          · rw [if_pos c24] at H
            have c24b0 : decide (t218 < (t212.length : Int)) = true := decide_eq_true c24
            clear c24
            obtain ⟨y226, hy226⟩ : ∃ y_ : List Int, y_ = (([0, 2, 13, 5] : List Int)) := ⟨_, rfl⟩
            replace H : ((spec_l6Rd_pick.f k s0_0 t221 4).bind fun bt229 => (if 0 ≤ bt229.1 then (if bt229.1 < (y226.length : Int) then (if ((rd_T38 t212 t218).f1).length < 17592186044416 then (some ((t212.set (t218 : Int).toNat (⟨(rd_T38 t212 t218).f0, (((rd_T38 t212 t218).f1) ++ [rd y226 bt229.1])⟩ : S38)), bt229.2)) else (none)) else (none)) else (none))) = some (r1, r2) := by first | (rw [hy226]; with_reducible exact H) | (have H2_ := (Option.bind_some _ _).symm.trans H; rw [hy226]; with_reducible exact H2_) | (have H2_ := (Option.bind_some _ _).symm.trans H; with_reducible exact H2_) | with_reducible exact H | (rw [hy226]; exact H) | exact H
            have Ny226 := Aside0.mk hy226
            clear hy226
            replace H := Option.bind_eq_some_iff.mp H
            obtain ⟨⟨t229, t230⟩, A250, H⟩ := H
            replace H : (if 0 ≤ t229 then (if t229 < (y226.length : Int) then (if ((rd_T38 t212 t218).f1).length < 17592186044416 then (some ((t212.set (t218 : Int).toNat (⟨(rd_T38 t212 t218).f0, (((rd_T38 t212 t218).f1) ++ [rd y226 t229])⟩ : S38)), t230)) else (none)) else (none)) else (none)) = some (r1, r2) := H
            have A25 := Aside0.mk A250
            clear A250
            by_cases c26 : 0 ≤ t229
            · rw [if_pos c26] at H
              have c26b0 : decide (0 ≤ t229) = true := decide_eq_true c26
              clear c26
              by_cases c27 : t229 < (y226.length : Int)
              · rw [if_pos c27] at H
                have c27b0 : decide (t229 < (y226.length : Int)) = true := decide_eq_true c27
                clear c27
                by_cases c28 : ((rd_T38 t212 t218).f1).length < 17592186044416
                · rw [if_pos c28] at H
                  have LMc28 := Aside0.mk c28
                  clear c28
                  obtain ⟨y232, hy232⟩ : ∃ y_ : List Int, y_ = (((rd_T38 t212 t218).f1) ++ [rd y226 t229]) := ⟨_, rfl⟩
                  replace H : (some ((t212.set (t218 : Int).toNat (⟨(rd_T38 t212 t218).f0, y232⟩ : S38)), t230)) = some (r1, r2) := by first | (rw [hy232]; with_reducible exact H) | (have H2_ := (Option.bind_some _ _).symm.trans H; rw [hy232]; with_reducible exact H2_) | (have H2_ := (Option.bind_some _ _).symm.trans H; with_reducible exact H2_) | with_reducible exact H | (rw [hy232]; exact H) | exact H
                  have Ny232 := Aside0.mk hy232
                  clear hy232
                  obtain ⟨y235, hy235⟩ : ∃ y_ : List (S38), y_ = (t212.set (t218 : Int).toNat (⟨(rd_T38 t212 t218).f0, y232⟩ : S38)) := ⟨_, rfl⟩
                  replace H : (some (y235, t230)) = some (r1, r2) := by first | (rw [hy235]; with_reducible exact H) | (have H2_ := (Option.bind_some _ _).symm.trans H; rw [hy235]; with_reducible exact H2_) | (have H2_ := (Option.bind_some _ _).symm.trans H; with_reducible exact H2_) | with_reducible exact H | (rw [hy235]; exact H) | exact H
                  have Ny235 := Aside0.mk hy235
                  clear hy235
                  simp only [Option.some.injEq, Prod.mk.injEq] at H
                  obtain ⟨rfl, rfl⟩ := H
                  go_enter Try.func64, Try.ntmps64
                  try go_wp2_with (first | ((with_reducible refine gate_callee (f := 88) rfl ?_); refine goesL_ (some 6) rfl rfl Try.func88 (by kernel_rfl) rfl #[.pointer (some ⟨g, 0, none⟩)] rfl (by (try simp only [List.map_toArray, List.map_cons, List.map_nil]); first | done | rfl | (simp only [List.length_drop, List.length_take]; rfl)) ?_; (with_reducible refine (spec_l71Classes.calls k g s0_0 s0_1 t212 t215 w0 _ ?side1 ?side2 A2.out).mono ?_); (case side1 => repeat (first | (with_reducible first | exact HI0.out | apply IsS92.alloc | apply IsS92.drewN | apply IsS92.drew | apply IsS92.set_1) | exact HI0.out)); (case side2 => repeat (first | (with_reducible first | exact HB.out | apply below_alloc | apply pw_below_drewN | apply below_drew1 | refine below_set ?_ (IsS92.ge HI0.out)) | exact HB.out)); rintro e w30 ⟨v213, rfl, ho0, hi, hb, hk⟩; refine ⟨_, rfl, ?_⟩; have n0_ := Aside0.mk (Kd.S_lower ho0 (keep_size (w := w) (g := g) (row := none) (by repeat (first | (with_reducible first | exact HK.out | apply KeepBut.set_ | apply keep_drewN | apply keep_drew | apply keep_alloc) | exact HK.out)))); have n1_ := Aside0.mk (KeepBut.trans (by repeat (first | (with_reducible first | exact HK.out | apply KeepBut.set_ | apply keep_drewN | apply keep_drew | apply keep_alloc) | exact HK.out)) hk (.inl rfl)); have n2_ := Aside0.mk (hb); have n3_ := Aside0.mk (hi); clear HK; clear HB; clear HI0; have HO214 := n0_; have HK := n1_; have HB := n2_; have HI0 := n3_; clear n0_ n1_ n2_ n3_; (try clear hb); (try clear hb2); (try clear hk); (try clear hi); (try clear ho0)) | ((with_reducible refine gate_callee (f := 65) rfl ?_); refine goesL_ (some 8) rfl rfl Try.func65 (by kernel_rfl) rfl #[.pointer (some ⟨g, 0, none⟩), .int .i64 20] rfl (by (try simp only [List.map_toArray, List.map_cons, List.map_nil]); first | done | rfl | (simp only [List.length_drop, List.length_take]; rfl)) ?_; (with_reducible refine (spec_l6Rd_pick.calls k g s0_0 t215 20 t216 t217 w0 _ ?side1 ?side2 A3.out).mono ?_); (case side1 => repeat (first | (with_reducible first | exact HI0.out | apply IsS92.alloc | apply IsS92.drewN | apply IsS92.drew | apply IsS92.set_1) | exact HI0.out)); (case side2 => repeat (first | (with_reducible first | exact HB.out | apply below_alloc | apply pw_below_drewN | apply below_drew1 | refine below_set ?_ (IsS92.ge HI0.out)) | exact HB.out)); rintro e w31 ⟨rfl, hi, hb, hk⟩; refine ⟨_, rfl, ?_⟩; have n0_ := Aside0.mk (Kd.S_mono (Kd.S_keep (IsS92.apartS (show IsS92 w0 _ g s0_0 t215 from by repeat (first | (with_reducible first | exact HI0.out | apply IsS92.alloc | apply IsS92.drewN | apply IsS92.drew | apply IsS92.set_1) | exact HI0.out)) (by (with_reducible repeat (first | apply Kd.S_alloc | apply Kd.S_drewN | apply Kd.S_drew)); exact HO214.out) (by decide)) hk (fun _ h => h.2)) (fun _ h => h.1)); have n1_ := Aside0.mk (KeepBut.trans (by repeat (first | (with_reducible first | exact HK.out | apply KeepBut.set_ | apply keep_drewN | apply keep_drew | apply keep_alloc) | exact HK.out)) hk (.inl rfl)); have n2_ := Aside0.mk (hb); have n3_ := Aside0.mk (hi); clear HO214; clear HK; clear HB; clear HI0; have HO214 := n0_; have HK := n1_; have HB := n2_; have HI0 := n3_; clear n0_ n1_ n2_ n3_; (try clear hb); (try clear hb2); (try clear hk); (try clear hi); obtain ⟨Ao32, co32, eo32⟩ := Kd.S_slice HO214.out; subst eo32) | ((with_reducible refine gate_callee (f := 65) rfl ?_); refine goesL_ (some 14) rfl rfl Try.func65 (by kernel_rfl) rfl #[.pointer (some ⟨g, 0, none⟩), .int .i64 (t212.length : Int)] rfl (by (try simp only [List.map_toArray, List.map_cons, List.map_nil]); first | done | rfl | (simp only [List.length_drop, List.length_take]; rfl)) ?_; (with_reducible refine (spec_l6Rd_pick.calls k g s0_0 t217 (t212.length : Int) t218 t219 w0 _ ?side1 ?side2 A7.out).mono ?_); (case side1 => repeat (first | (with_reducible first | exact HI0.out | apply IsS92.alloc | apply IsS92.drewN | apply IsS92.drew | apply IsS92.set_1) | exact HI0.out)); (case side2 => repeat (first | (with_reducible first | exact HB.out | apply below_alloc | apply pw_below_drewN | apply below_drew1 | refine below_set ?_ (IsS92.ge HI0.out)) | exact HB.out)); rintro e w33 ⟨rfl, hi, hb, hk⟩; refine ⟨_, rfl, ?_⟩; have n0_ := Aside0.mk (Kd.S_mono (Kd.S_keep (IsS92.apartS (show IsS92 w0 _ g s0_0 t217 from by repeat (first | (with_reducible first | exact HI0.out | apply IsS92.alloc | apply IsS92.drewN | apply IsS92.drew | apply IsS92.set_1) | exact HI0.out)) (by (with_reducible repeat (first | apply Kd.S_alloc | apply Kd.S_drewN | apply Kd.S_drew)); exact HO214.out) (by decide)) hk (fun _ h => h.2)) (fun _ h => h.1)); have n1_ := Aside0.mk (KeepBut.trans (by repeat (first | (with_reducible first | exact HK.out | apply KeepBut.set_ | apply keep_drewN | apply keep_drew | apply keep_alloc) | exact HK.out)) hk (.inl rfl)); have n2_ := Aside0.mk (hb); have n3_ := Aside0.mk (hi); clear HO214; clear HK; clear HB; clear HI0; have HO214 := n0_; have HK := n1_; have HB := n2_; have HI0 := n3_; clear n0_ n1_ n2_ n3_; (try clear hb); (try clear hb2); (try clear hk); (try clear hi)) | ((with_reducible refine gate_callee (f := 65) rfl ?_); refine goesL_ (some 16) rfl rfl Try.func65 (by kernel_rfl) rfl #[.pointer (some ⟨g, 0, none⟩), .int .i64 6] rfl (by (try simp only [List.map_toArray, List.map_cons, List.map_nil]); first | done | rfl | (simp only [List.length_drop, List.length_take]; rfl)) ?_; (with_reducible refine (spec_l6Rd_pick.calls k g s0_0 t219 6 t220 t221 w0 _ ?side1 ?side2 A8.out).mono ?_); (case side1 => repeat (first | (with_reducible first | exact HI0.out | apply IsS92.alloc | apply IsS92.drewN | apply IsS92.drew | apply IsS92.set_1) | exact HI0.out)); (case side2 => repeat (first | (with_reducible first | exact HB.out | apply below_alloc | apply pw_below_drewN | apply below_drew1 | refine below_set ?_ (IsS92.ge HI0.out)) | exact HB.out)); rintro e w34 ⟨rfl, hi, hb, hk⟩; refine ⟨_, rfl, ?_⟩; have n0_ := Aside0.mk (Kd.S_mono (Kd.S_keep (IsS92.apartS (show IsS92 w0 _ g s0_0 t219 from by repeat (first | (with_reducible first | exact HI0.out | apply IsS92.alloc | apply IsS92.drewN | apply IsS92.drew | apply IsS92.set_1) | exact HI0.out)) (by (with_reducible repeat (first | apply Kd.S_alloc | apply Kd.S_drewN | apply Kd.S_drew)); exact HO214.out) (by decide)) hk (fun _ h => h.2)) (fun _ h => h.1)); have n1_ := Aside0.mk (KeepBut.trans (by repeat (first | (with_reducible first | exact HK.out | apply KeepBut.set_ | apply keep_drewN | apply keep_drew | apply keep_alloc) | exact HK.out)) hk (.inl rfl)); have n2_ := Aside0.mk (hb); have n3_ := Aside0.mk (hi); clear HO214; clear HK; clear HB; clear HI0; have HO214 := n0_; have HK := n1_; have HB := n2_; have HI0 := n3_; clear n0_ n1_ n2_ n3_; (try clear hb); (try clear hb2); (try clear hk); (try clear hi)))
                  have pi231 : (0 ≤ (t229 : Int)) = True := eq_true (of_decide_eq_true (by first | (with_reducible assumption) | assumption))
                  have qi231 : (t229 < (y226.length : Int)) = True := eq_true (of_decide_eq_true (by first | (with_reducible assumption) | assumption))
                  have n0_ := Aside0.mk (Kd.S_drew HO214.out)
                  have n1_ := Aside0.mk (IsS92.drew HI0.out)
                  have n2_ := Aside0.mk (keep_drew HK.out)
                  have n3_ := Aside0.mk (below_drew1 HB.out)
                  clear HO214
                  clear HI0
                  clear HK
                  clear HB
                  have HO214 := n0_
                  have HI0 := n1_
                  have HK := n2_
                  have HB := n3_
                  clear n0_ n1_ n2_ n3_
                  have p225 : 0 ≤ (t218 : Int) := of_decide_eq_true (by first | (with_reducible assumption) | assumption)
                  have q225 : t218 < (t212.length : Int) := of_decide_eq_true (by first | (with_reducible assumption) | assumption)
                  obtain ⟨ad225, A225_1, c225_1, e225, hx225_0, hx225_1, hl225_1, hi225_1⟩ := at_T38 (Kd.S_reads' HO214.out).2.2 t218 p225 q225
                  cases e225
                  obtain ⟨ce225, hce225, hMe225, hcc225⟩ := Kd.S_get HO214.out z38 t218 p225 (by first | exact q225 | exact of_decide_eq_true (by first | (with_reducible assumption) | assumption) | (have e_ := (Kd.S_reads' HO214.out).1; omega))
                  obtain ⟨ve225_1, rfl, ge225_1⟩ := k38_openM hMe225
                  have hv225_1 := hcc225 1 _ rfl
                  rw [add_field _ _ 1 (by omega)] at hv225_1
                  replace hv225_1 := Option.some.inj (hv225_1.symm.trans hx225_1)
                  rw [hv225_1] at ge225_1
                  have HL225_1 := Aside0.mk (show Kd.R (Kd.int .i64) 3 _ _ _ _ ((rd_T38 t212 t218).f1) from ge225_1)
                  clear hv225_1 ge225_1
                  have HX225_1 := Aside0.mk hx225_1
                  clear hcc225 hce225
                  have HR225_1 := Aside0.mk hi225_1
                  have HC225_1 := Aside0.mk hl225_1
                  clear hi225_1 hl225_1
                  replace p225 := eq_true p225
                  replace q225 := eq_true q225
                  refine start_ (n := 17) (S := fun w' => w'.cell? (ad225.add ((t218).toNat * 2)) = some (.int .i64 ((rd_T38 t212 t218).f0)) ∧ w'.cell? ⟨(ad225.add ((t218).toNat * 2)).block, (ad225.add ((t218).toNat * 2)).off + 1, none⟩ = some (.slice A225_1 ((rd_T38 t212 t218).f1).length c225_1)) (ds := [16]) #[false, false, false, false, false, false, false, false, false, false, false, false, false, false, false, false, false] (by kernel_rfl) rfl rfl ⟨hx225_0, hx225_1⟩ (fun hHeld => ?_); refine with_tabW spec_l71OffA.tab10 spec_l71OffA.bits10 (fun HT_ HW_ => ?_)
                  generalize w34.drew = w35 at HO214 HI0 HK HB HL225_1 HR225_1 HX225_1 hx225_0 hx225_1 hHeld ⊢
                  refine pure_ (i := 0) (N := some 32) (v := ?_) (a' := ?_) #[true, false, false, false, false, false, false, false, false, false, false, false, false, false, false, false, false] rfl rfl (any_of HT_.out (by kernel_rfl)) (fun _ _ _ h => h) (Or.inl ⟨by rfl, ?_⟩) ?_ ?_
                  rotate_left
                  · intro w'
                    go_simp
                    with_reducible rfl
                  rotate_left
                  · simp only [Act.put, List.setIfInBounds_toArray, List.set_cons_zero, List.set_cons_succ, i64_w, i32_w]
                    rfl
                  refine pure_ (i := 1) (N := some 33) (v := ?_) (a' := ?_) #[true, true, false, false, false, false, false, false, false, false, false, false, false, false, false, false, false] rfl rfl (any_of HT_.out (by kernel_rfl)) (fun _ _ _ h => h) (Or.inl ⟨by rfl, ?_⟩) ?_ ?_
                  rotate_left
                  · intro w'
                    go_simp
                    with_reducible rfl
                  rotate_left
                  · simp only [Act.put, List.setIfInBounds_toArray, List.set_cons_zero, List.set_cons_succ, i64_w, i32_w]
                    rfl
                  refine pure_ (i := 2) (N := some 34) (v := ?_) (a' := ?_) #[true, true, true, false, false, false, false, false, false, false, false, false, false, false, false, false, false] rfl rfl (any_of HT_.out (by kernel_rfl)) (fun _ _ _ h => h) (Or.inl ⟨by rfl, ?_⟩) ?_ ?_
                  rotate_left
                  · intro w'
                    go_simp
                    with_reducible rfl
                  rotate_left
                  · simp only [Act.put, List.setIfInBounds_toArray, List.set_cons_zero, List.set_cons_succ, i64_w, i32_w]
                    rfl
                  refine pure_ (i := 3) (N := some 35) (v := ?_) (a' := ?_) #[true, true, true, true, false, false, false, false, false, false, false, false, false, false, false, false, false] rfl rfl (any_of HT_.out (by kernel_rfl)) (fun _ _ _ h => h) (Or.inl ⟨by rfl, ?_⟩) ?_ ?_
                  rotate_left
                  · intro w'
                    go_simp
                    with_reducible rfl
                  rotate_left
                  · simp only [Act.put, List.setIfInBounds_toArray, List.set_cons_zero, List.set_cons_succ, i64_w, i32_w]
                    rfl
                  refine pure_ (i := 4) (N := some 36) (v := ?_) (a' := ?_) #[true, true, true, true, true, false, false, false, false, false, false, false, false, false, false, false, false] rfl rfl (any_of HT_.out (by kernel_rfl)) (fun _ _ _ h => h) (Or.inl ⟨by rfl, ?_⟩) ?_ ?_
                  rotate_left
                  · intro w'
                    go_simp
                    with_reducible rfl
                  rotate_left
                  · simp only [Act.put, List.setIfInBounds_toArray, List.set_cons_zero, List.set_cons_succ, i64_w, i32_w]
                    rfl
                  refine pure_ (i := 5) (N := some 37) (v := ?_) (a' := ?_) #[true, true, true, true, true, true, false, false, false, false, false, false, false, false, false, false, false] rfl rfl (any_of HT_.out (by kernel_rfl)) (fun _ _ _ h => h) (Or.inl ⟨by rfl, ?_⟩) ?_ ?_
                  rotate_left
                  · intro w'
                    go_simp
                    with_reducible rfl
                  rotate_left
                  · simp only [Act.put, List.setIfInBounds_toArray, List.set_cons_zero, List.set_cons_succ, i64_w, i32_w]
                    rfl
                  refine pure_ (i := 8) (N := some 40) (v := ?_) (a' := ?_) #[true, true, true, true, true, true, false, false, true, false, false, false, false, false, false, false, false] rfl rfl (any_of HT_.out (by kernel_rfl)) (fun _ _ _ h => h) (Or.inl ⟨by rfl, ?_⟩) ?_ ?_
                  rotate_left
                  · intro w'
                    go_simp
                    with_reducible rfl
                  rotate_left
                  · simp only [Act.put, List.setIfInBounds_toArray, List.set_cons_zero, List.set_cons_succ, i64_w, i32_w]
                    rfl
                  refine take_ (i := 6) (N := some 38) (v := ?_) (a' := ?_) #[true, true, true, true, true, true, true, false, true, false, false, false, false, false, false, false, false] rfl rfl (take_ofW HT_.out HW_.out (by kernel_rfl)) (fun _ _ _ h => h) (Or.inl ⟨by rfl, ?_⟩) hHeld ?_ ?_
                  rotate_left
                  · rintro w' ⟨s0, s1⟩
                    go_simp
                    with_reducible rfl
                  rotate_left
                  · simp only [Act.put, List.setIfInBounds_toArray, List.set_cons_zero, List.set_cons_succ, i64_w, i32_w]
                    rfl
                  refine join_ (σ := Value × Addr) 7 #[true, true, true, true, true, true, true, true, true, true, false, false, false, false, false, false, false] (fun s_ => [(39, s_.1), (41, .int .i64 t229)]) (fun s_ w' => (w'.cell? (ad225.add ((t218).toNat * 2)) = some (.int .i64 ((rd_T38 t212 t218).f0)) ∧ w'.cell? ⟨(ad225.add ((t218).toNat * 2)).block, (ad225.add ((t218).toNat * 2)).off + 1, none⟩ = some (.slice A225_1 ((rd_T38 t212 t218).f1).length c225_1)) ∧ (Kd.R (Kd.int .i64) 3 w' w.heap.size (fun k_ => some k_ ≠ (.slice (some ad225) t212.length co32 : Value).ownBlock ∧ some k_ ≠ (s_.1 : Value).ownBlock) (.slice A225_1 ((rd_T38 t212 t218).f1).length c225_1) ((rd_T38 t212 t218).f1)) ∧ (Kd.S k38 38 w' w.heap.size (fun k_ => some k_ ≠ (s_.1 : Value).ownBlock) (.slice (some ad225) t212.length co32) t212) ∧ (Kd.R (Kd.int .i64) 3 w' w.heap.size (fun k_ => some k_ ≠ (.slice A225_1 ((rd_T38 t212 t218).f1).length c225_1 : Value).ownBlock) s_.1 y226) ∧ (∃ c_, (s_.1 : Value) = .slice (some s_.2) y226.length c_) ∧ (w'.cell? ⟨(ad225.add ((t218).toNat * 2)).block, (ad225.add ((t218).toNat * 2)).off + 1, none⟩ = some (.slice A225_1 ((rd_T38 t212 t218).f1).length c225_1)) ∧ (IsS92 w0 w' g s0_0 t230) ∧ (KeepBut w w' g none) ∧ (Below w0.heap.size w0 w')) ?_ ?_
                  rotate_left
                  · intro hCont
                    refine two_ (i := 7) (j := 9) (Ni := some 39) (Nj := some 41) #[true, true, true, true, true, true, true, true, true, false, false, false, false, false, false, false, false] #[true, true, true, true, true, true, true, false, true, true, false, false, false, false, false, false, false] rfl rfl rfl rfl (two_of HT_.out (by kernel_rfl)) (by decide) (by decide) (fun K hK => ?_) (fun K hK => ?_)
                    · skip
                      refine Kd.R_lit_step (Kd.int .i64) _ 3 ?hg (N := 39) ?hd (xs := ([0, 2, 13, 5] : List Int)) (inner := [.int .i64 0, .int .i64 2, .int .i64 13, .int .i64 5]) (ok := fun _ => True) (okp := fun _ => True) ?hr ?hp (fun _ hk => hk) trivial (Below.refl _ _) (Nat.le_refl _) (by simp) ?_; (case hd => rfl); (case hg => rfl); (case hr => first | (go_simp; done) | (go_simp; rfl)); (case hp => exact (Reps.one (show Kd.M (Kd.int .i64) _ _ _ 0 [.int .i64 0] from rfl) (Reps.one (show Kd.M (Kd.int .i64) _ _ _ 2 [.int .i64 2] from rfl) (Reps.one (show Kd.M (Kd.int .i64) _ _ _ 13 [.int .i64 13] from rfl) (Reps.one (show Kd.M (Kd.int .i64) _ _ _ 5 [.int .i64 5] from rfl) (Reps.none _ _))))))
                      intro v227 w36 ho37 hb hg_ hnew_
                      have HS0_ := (hb.cell (World.block_lt_of_cell? _ _ (hHeld.1))).trans (hHeld.1)
                      have HS1_ := (hb.cell (World.block_lt_of_cell? _ _ (hHeld.2))).trans (hHeld.2)
                      clear hg_ hnew_
                      (first | rw [← Ny226.out] at ho37 | (simp only [Int.reduceToNat] at ho37; rw [← Ny226.out] at ho37))
                      have n0_ := Aside0.mk (Kd.S_elder' (by (with_reducible repeat (first | apply Kd.S_alloc | apply Kd.S_drewN | apply Kd.S_drew)); exact HO214.out) (Kd.R_base ho37) hb)
                      have n1_ := Aside0.mk (Kd.R_elder' (by (with_reducible repeat (first | apply Kd.R_alloc | apply Kd.R_drewN | apply Kd.R_drew)); exact HL225_1.out) (Kd.R_base ho37) hb)
                      have n2_ := Aside0.mk (Kd.R_lower (Kd.R_new' ho37 (Kd.R_lt (by (with_reducible repeat (first | apply Kd.R_alloc | apply Kd.R_drewN | apply Kd.R_drew)); exact HL225_1.out))) (keep_size (w := w) (g := g) (row := none) (by repeat (first | (with_reducible first | exact HK.out | apply KeepBut.set_ | apply keep_drewN | apply keep_drew | apply keep_alloc) | exact HK.out))))
                      have n3_ := Aside0.mk (IsS92.below (by repeat (first | (with_reducible first | exact HI0.out | apply IsS92.alloc | apply IsS92.drewN | apply IsS92.drew | apply IsS92.set_1) | exact HI0.out)) hb)
                      have n4_ := Aside0.mk (Kd.C_below (by repeat (first | (with_reducible exact HR225_1.out) | (with_reducible refine Kd.C_alloc ?_ _) | (with_reducible refine Kd.C_drewN ?_ _) | (with_reducible refine Kd.C_drew ?_) | exact HR225_1.out)) hb)
                      have n5_ := Aside0.mk (pw_cell_below hb HX225_1.out)
                      have n6_ := Aside0.mk (KeepBut.trans (by repeat (first | (with_reducible first | exact HK.out | apply KeepBut.set_ | apply keep_drewN | apply keep_drew | apply keep_alloc) | exact HK.out)) (KeepBut.of_below hb g none) (.inl rfl))
                      have n7_ := Aside0.mk (below_step (by repeat (first | (with_reducible first | exact HB.out | apply below_alloc | apply pw_below_drewN | apply below_drew1 | refine below_set ?_ (IsS92.ge HI0.out)) | exact HB.out)) hb)
                      clear HO214
                      clear HL225_1
                      clear HI0
                      clear HR225_1
                      clear HX225_1
                      clear HK
                      clear HB
                      have HO214 := n0_
                      have HL225_1 := n1_
                      have HO228 := n2_
                      have HI0 := n3_
                      have HR225_1 := n4_
                      have HX225_1 := n5_
                      have HK := n6_
                      have HB := n7_
                      clear n0_ n1_ n2_ n3_ n4_ n5_ n6_ n7_
                      clear hb ho37
                      obtain ⟨Ao38, co38, eo38⟩ := Kd.R_slice HO228.out
                      subst eo38
                      obtain ⟨ado38, fo38, _⟩ := Kd.at_int (Kd.R_reads' HO228.out).2.2 0 (by decide) (by rw [Ny226.out]; simp)
                      cases fo38
                      refine hK.out _ _ ⟨HS0_, HS1_⟩ (fun hHeld => ?_)
                      clear hK K
                      refine norm_ (a' := ?_) ?_ ?_
                      rotate_left
                      · show Act.put _ (some 39) _ = _
                        simp only [Act.put, List.setIfInBounds_toArray, List.set_cons_zero, List.set_cons_succ, i64_w, i32_w]
                        rfl
                      refine one_ (i := 9) (N := some 41) #[true, true, true, true, true, true, true, true, true, true, false, false, false, false, false, false, false] rfl rfl (one_of HT_.out (by kernel_rfl)) (by decide) (fun K hK => ?_)
                      refine goes_ Try.func65 (by kernel_rfl) rfl #[.pointer (some ⟨g, 0, none⟩), .int .i64 4] (by rfl) rfl rfl (by (try simp only [List.map_toArray, List.map_cons, List.map_nil]); first | done | rfl | (simp only [List.length_drop, List.length_take]; rfl)) ?_
                      with_reducible refine (spec_l6Rd_pick.calls k g s0_0 t221 4 t229 t230 w0 _ ?side1 ?side2 A25.out).mono ?_
                      (case side1 => repeat (first | (with_reducible first | exact HI0.out | apply IsS92.alloc | apply IsS92.drewN | apply IsS92.drew | apply IsS92.set_1) | exact HI0.out))
                      (case side2 => repeat (first | (with_reducible first | exact HB.out | apply below_alloc | apply pw_below_drewN | apply below_drew1 | refine below_set ?_ (IsS92.ge HI0.out)) | exact HB.out))
                      rintro e w39 ⟨rfl, hi, hb, hk⟩
                      have HS0_ := keep_cell hk (hHeld.1) (by first | (rw [add_block]; exact Kd.own_blk (IsS92.own_neS HI0.out HO214.out (by decide))) | (show (Addr.add _ _).block ≠ _; rw [add_block]; exact Kd.own_blk (IsS92.own_neS HI0.out HO214.out (by decide))) | exact Kd.own_blk (IsS92.own_neS HI0.out HO214.out (by decide)))
                      have HS1_ := keep_cell hk (hHeld.2) (by first | (rw [add_block]; exact Kd.own_blk (IsS92.own_neS HI0.out HO214.out (by decide))) | (show (Addr.add _ _).block ≠ _; rw [add_block]; exact Kd.own_blk (IsS92.own_neS HI0.out HO214.out (by decide))) | exact Kd.own_blk (IsS92.own_neS HI0.out HO214.out (by decide)))
                      refine ⟨_, rfl, ?_⟩
                      have n0_ := Aside0.mk (Kd.S_mono (Kd.S_keep (IsS92.apartS (show IsS92 w0 _ g s0_0 t221 from by repeat (first | (with_reducible first | exact HI0.out | apply IsS92.alloc | apply IsS92.drewN | apply IsS92.drew | apply IsS92.set_1) | exact HI0.out)) (by (with_reducible repeat (first | apply Kd.S_alloc | apply Kd.S_drewN | apply Kd.S_drew)); exact HO214.out) (by decide)) hk (fun _ h => h.2)) (fun _ h => h.1))
                      have n1_ := Aside0.mk (Kd.R_mono (Kd.R_keep (IsS92.apart (show IsS92 w0 _ g s0_0 t221 from by repeat (first | (with_reducible first | exact HI0.out | apply IsS92.alloc | apply IsS92.drewN | apply IsS92.drew | apply IsS92.set_1) | exact HI0.out)) (by (with_reducible repeat (first | apply Kd.R_alloc | apply Kd.R_drewN | apply Kd.R_drew)); exact HL225_1.out) (by decide)) hk (fun _ h => h.2)) (fun _ h => h.1))
                      have n2_ := Aside0.mk (keep_cell hk HX225_1.out (by first | (rw [add_block]; exact Kd.own_blk (IsS92.own_neS HI0.out HO214.out (by decide))) | (show (Addr.add _ _).block ≠ _; rw [add_block]; exact Kd.own_blk (IsS92.own_neS HI0.out HO214.out (by decide))) | exact Kd.own_blk (IsS92.own_neS HI0.out HO214.out (by decide)) | (dsimp only; exact Kd.own_blk (IsS92.own_neS HI0.out HO214.out (by decide)))))
                      have n3_ := Aside0.mk (Kd.R_mono (Kd.R_keep (IsS92.apart (show IsS92 w0 _ g s0_0 t221 from by repeat (first | (with_reducible first | exact HI0.out | apply IsS92.alloc | apply IsS92.drewN | apply IsS92.drew | apply IsS92.set_1) | exact HI0.out)) (by (with_reducible repeat (first | apply Kd.R_alloc | apply Kd.R_drewN | apply Kd.R_drew)); exact HO228.out) (by decide)) hk (fun _ h => h.2)) (fun _ h => h.1))
                      have n4_ := Aside0.mk (KeepBut.trans (by repeat (first | (with_reducible first | exact HK.out | apply KeepBut.set_ | apply keep_drewN | apply keep_drew | apply keep_alloc) | exact HK.out)) hk (.inl rfl))
                      have n5_ := Aside0.mk (hb)
                      have n6_ := Aside0.mk (hi)
                      clear HO214
                      clear HL225_1
                      clear HX225_1
                      clear HO228
                      clear HK
                      clear HB
                      clear HI0
                      have HO214 := n0_
                      have HL225_1 := n1_
                      have HX225_1 := n2_
                      have HO228 := n3_
                      have HK := n4_
                      have HB := n5_
                      have HI0 := n6_
                      clear n0_ n1_ n2_ n3_ n4_ n5_ n6_
                      (try clear hb)
                      (try clear hb2)
                      (try clear hk)
                      (try clear hi)
                      refine hK.out _ _ ⟨HS0_, HS1_⟩ (fun hHeld => ?_)
                      clear hK K
                      refine norm_ (a' := ?_) ?_ ?_
                      rotate_left
                      · show Act.put _ (some 41) _ = _
                        simp only [Act.put, List.setIfInBounds_toArray, List.set_cons_zero, List.set_cons_succ, i64_w, i32_w]
                        rfl
                      exact norm_ (by simp only [putAll, Act.put, List.setIfInBounds_toArray, List.set_cons_zero, List.set_cons_succ]) (hCont (.slice (some ado38) y226.length co38, ado38) _ ⟨hHeld, (by (with_reducible repeat (first | apply Kd.R_alloc | apply Kd.R_drewN | apply Kd.R_drew)); exact Kd.R_mono HL225_1.out (fun _ hk => ⟨hk.1.2, hk.2⟩)), (by (with_reducible repeat (first | apply Kd.S_alloc | apply Kd.S_drewN | apply Kd.S_drew)); exact Kd.S_mono HO214.out (fun _ hk => hk.2)), (by (with_reducible repeat (first | apply Kd.R_alloc | apply Kd.R_drewN | apply Kd.R_drew)); exact Kd.R_mono HO228.out (fun _ hk => hk.2)), ⟨_, rfl⟩, HX225_1.out, (by repeat (first | (with_reducible first | exact HI0.out | apply IsS92.alloc | apply IsS92.drewN | apply IsS92.drew | apply IsS92.set_1) | exact HI0.out)), (by repeat (first | (with_reducible first | exact HK.out | apply KeepBut.set_ | apply keep_drewN | apply keep_drew | apply keep_alloc) | exact HK.out)), (by repeat (first | (with_reducible first | exact HB.out | apply below_alloc | apply pw_below_drewN | apply below_drew1 | refine below_set ?_ (IsS92.ge HI0.out)) | exact HB.out))⟩)
                    · skip
                      refine goes_ Try.func65 (by kernel_rfl) rfl #[.pointer (some ⟨g, 0, none⟩), .int .i64 4] (by rfl) rfl rfl (by (try simp only [List.map_toArray, List.map_cons, List.map_nil]); first | done | rfl | (simp only [List.length_drop, List.length_take]; rfl)) ?_
                      with_reducible refine (spec_l6Rd_pick.calls k g s0_0 t221 4 t229 t230 w0 _ ?side1 ?side2 A25.out).mono ?_
                      (case side1 => repeat (first | (with_reducible first | exact HI0.out | apply IsS92.alloc | apply IsS92.drewN | apply IsS92.drew | apply IsS92.set_1) | exact HI0.out))
                      (case side2 => repeat (first | (with_reducible first | exact HB.out | apply below_alloc | apply pw_below_drewN | apply below_drew1 | refine below_set ?_ (IsS92.ge HI0.out)) | exact HB.out))
                      rintro e w36 ⟨rfl, hi, hb, hk⟩
                      have HS0_ := keep_cell hk (hHeld.1) (by first | (rw [add_block]; exact Kd.own_blk (IsS92.own_neS HI0.out HO214.out (by decide))) | (show (Addr.add _ _).block ≠ _; rw [add_block]; exact Kd.own_blk (IsS92.own_neS HI0.out HO214.out (by decide))) | exact Kd.own_blk (IsS92.own_neS HI0.out HO214.out (by decide)))
                      have HS1_ := keep_cell hk (hHeld.2) (by first | (rw [add_block]; exact Kd.own_blk (IsS92.own_neS HI0.out HO214.out (by decide))) | (show (Addr.add _ _).block ≠ _; rw [add_block]; exact Kd.own_blk (IsS92.own_neS HI0.out HO214.out (by decide))) | exact Kd.own_blk (IsS92.own_neS HI0.out HO214.out (by decide)))
                      refine ⟨_, rfl, ?_⟩
                      have n0_ := Aside0.mk (Kd.S_mono (Kd.S_keep (IsS92.apartS (show IsS92 w0 _ g s0_0 t221 from by repeat (first | (with_reducible first | exact HI0.out | apply IsS92.alloc | apply IsS92.drewN | apply IsS92.drew | apply IsS92.set_1) | exact HI0.out)) (by (with_reducible repeat (first | apply Kd.S_alloc | apply Kd.S_drewN | apply Kd.S_drew)); exact HO214.out) (by decide)) hk (fun _ h => h.2)) (fun _ h => h.1))
                      have n1_ := Aside0.mk (Kd.R_mono (Kd.R_keep (IsS92.apart (show IsS92 w0 _ g s0_0 t221 from by repeat (first | (with_reducible first | exact HI0.out | apply IsS92.alloc | apply IsS92.drewN | apply IsS92.drew | apply IsS92.set_1) | exact HI0.out)) (by (with_reducible repeat (first | apply Kd.R_alloc | apply Kd.R_drewN | apply Kd.R_drew)); exact HL225_1.out) (by decide)) hk (fun _ h => h.2)) (fun _ h => h.1))
                      have n2_ := Aside0.mk (keep_cell hk HX225_1.out (by first | (rw [add_block]; exact Kd.own_blk (IsS92.own_neS HI0.out HO214.out (by decide))) | (show (Addr.add _ _).block ≠ _; rw [add_block]; exact Kd.own_blk (IsS92.own_neS HI0.out HO214.out (by decide))) | exact Kd.own_blk (IsS92.own_neS HI0.out HO214.out (by decide)) | (dsimp only; exact Kd.own_blk (IsS92.own_neS HI0.out HO214.out (by decide)))))
                      have n3_ := Aside0.mk (KeepBut.trans (by repeat (first | (with_reducible first | exact HK.out | apply KeepBut.set_ | apply keep_drewN | apply keep_drew | apply keep_alloc) | exact HK.out)) hk (.inl rfl))
                      have n4_ := Aside0.mk (hb)
                      have n5_ := Aside0.mk (hi)
                      clear HO214
                      clear HL225_1
                      clear HX225_1
                      clear HK
                      clear HB
                      clear HI0
                      have HO214 := n0_
                      have HL225_1 := n1_
                      have HX225_1 := n2_
                      have HK := n3_
                      have HB := n4_
                      have HI0 := n5_
                      clear n0_ n1_ n2_ n3_ n4_ n5_
                      (try clear hb)
                      (try clear hb2)
                      (try clear hk)
                      (try clear hi)
                      refine hK.out _ _ ⟨HS0_, HS1_⟩ (fun hHeld => ?_)
                      clear hK K
                      refine norm_ (a' := ?_) ?_ ?_
                      rotate_left
                      · show Act.put _ (some 41) _ = _
                        simp only [Act.put, List.setIfInBounds_toArray, List.set_cons_zero, List.set_cons_succ, i64_w, i32_w]
                        rfl
                      refine one_ (i := 7) (N := some 39) #[true, true, true, true, true, true, true, true, true, true, false, false, false, false, false, false, false] rfl rfl (one_of HT_.out (by kernel_rfl)) (by decide) (fun K hK => ?_)
                      refine Kd.R_lit_step (Kd.int .i64) _ 3 ?hg (N := 39) ?hd (xs := ([0, 2, 13, 5] : List Int)) (inner := [.int .i64 0, .int .i64 2, .int .i64 13, .int .i64 5]) (ok := fun _ => True) (okp := fun _ => True) ?hr ?hp (fun _ hk => hk) trivial (Below.refl _ _) (Nat.le_refl _) (by simp) ?_; (case hd => rfl); (case hg => rfl); (case hr => first | (go_simp; done) | (go_simp; rfl)); (case hp => exact (Reps.one (show Kd.M (Kd.int .i64) _ _ _ 0 [.int .i64 0] from rfl) (Reps.one (show Kd.M (Kd.int .i64) _ _ _ 2 [.int .i64 2] from rfl) (Reps.one (show Kd.M (Kd.int .i64) _ _ _ 13 [.int .i64 13] from rfl) (Reps.one (show Kd.M (Kd.int .i64) _ _ _ 5 [.int .i64 5] from rfl) (Reps.none _ _))))))
                      intro v227 w37 ho38 hb hg_ hnew_
                      have HS0_ := (hb.cell (World.block_lt_of_cell? _ _ (hHeld.1))).trans (hHeld.1)
                      have HS1_ := (hb.cell (World.block_lt_of_cell? _ _ (hHeld.2))).trans (hHeld.2)
                      clear hg_ hnew_
                      (first | rw [← Ny226.out] at ho38 | (simp only [Int.reduceToNat] at ho38; rw [← Ny226.out] at ho38))
                      have n0_ := Aside0.mk (Kd.S_elder' (by (with_reducible repeat (first | apply Kd.S_alloc | apply Kd.S_drewN | apply Kd.S_drew)); exact HO214.out) (Kd.R_base ho38) hb)
                      have n1_ := Aside0.mk (Kd.R_elder' (by (with_reducible repeat (first | apply Kd.R_alloc | apply Kd.R_drewN | apply Kd.R_drew)); exact HL225_1.out) (Kd.R_base ho38) hb)
                      have n2_ := Aside0.mk (Kd.R_lower (Kd.R_new' ho38 (Kd.R_lt (by (with_reducible repeat (first | apply Kd.R_alloc | apply Kd.R_drewN | apply Kd.R_drew)); exact HL225_1.out))) (keep_size (w := w) (g := g) (row := none) (by repeat (first | (with_reducible first | exact HK.out | apply KeepBut.set_ | apply keep_drewN | apply keep_drew | apply keep_alloc) | exact HK.out))))
                      have n3_ := Aside0.mk (IsS92.below (by repeat (first | (with_reducible first | exact HI0.out | apply IsS92.alloc | apply IsS92.drewN | apply IsS92.drew | apply IsS92.set_1) | exact HI0.out)) hb)
                      have n4_ := Aside0.mk (pw_cell_below hb HX225_1.out)
                      have n5_ := Aside0.mk (KeepBut.trans (by repeat (first | (with_reducible first | exact HK.out | apply KeepBut.set_ | apply keep_drewN | apply keep_drew | apply keep_alloc) | exact HK.out)) (KeepBut.of_below hb g none) (.inl rfl))
                      have n6_ := Aside0.mk (below_step (by repeat (first | (with_reducible first | exact HB.out | apply below_alloc | apply pw_below_drewN | apply below_drew1 | refine below_set ?_ (IsS92.ge HI0.out)) | exact HB.out)) hb)
                      clear HO214
                      clear HL225_1
                      clear HI0
                      clear HX225_1
                      clear HK
                      clear HB
                      have HO214 := n0_
                      have HL225_1 := n1_
                      have HO228 := n2_
                      have HI0 := n3_
                      have HX225_1 := n4_
                      have HK := n5_
                      have HB := n6_
                      clear n0_ n1_ n2_ n3_ n4_ n5_ n6_
                      clear hb ho38
                      obtain ⟨Ao39, co39, eo39⟩ := Kd.R_slice HO228.out
                      subst eo39
                      obtain ⟨ado39, fo39, _⟩ := Kd.at_int (Kd.R_reads' HO228.out).2.2 0 (by decide) (by rw [Ny226.out]; simp)
                      cases fo39
                      refine hK.out _ _ ⟨HS0_, HS1_⟩ (fun hHeld => ?_)
                      clear hK K
                      refine norm_ (a' := ?_) ?_ ?_
                      rotate_left
                      · show Act.put _ (some 39) _ = _
                        simp only [Act.put, List.setIfInBounds_toArray, List.set_cons_zero, List.set_cons_succ, i64_w, i32_w]
                        rfl
                      exact norm_ (by simp only [putAll, Act.put, List.setIfInBounds_toArray, List.set_cons_zero, List.set_cons_succ]) (hCont (.slice (some ado39) y226.length co39, ado39) _ ⟨hHeld, (by (with_reducible repeat (first | apply Kd.R_alloc | apply Kd.R_drewN | apply Kd.R_drew)); exact Kd.R_mono HL225_1.out (fun _ hk => ⟨hk.1.2, hk.2⟩)), (by (with_reducible repeat (first | apply Kd.S_alloc | apply Kd.S_drewN | apply Kd.S_drew)); exact Kd.S_mono HO214.out (fun _ hk => hk.2)), (by (with_reducible repeat (first | apply Kd.R_alloc | apply Kd.R_drewN | apply Kd.R_drew)); exact Kd.R_mono HO228.out (fun _ hk => hk.2)), ⟨_, rfl⟩, HX225_1.out, (by repeat (first | (with_reducible first | exact HI0.out | apply IsS92.alloc | apply IsS92.drewN | apply IsS92.drew | apply IsS92.set_1) | exact HI0.out)), (by repeat (first | (with_reducible first | exact HK.out | apply KeepBut.set_ | apply keep_drewN | apply keep_drew | apply keep_alloc) | exact HK.out)), (by repeat (first | (with_reducible first | exact HB.out | apply below_alloc | apply pw_below_drewN | apply below_drew1 | refine below_set ?_ (IsS92.ge HI0.out)) | exact HB.out))⟩)
                  rintro ⟨v227, adz_v227⟩ w40 ⟨hS_, h0_, h1_, h2_, h3_, h4_, h5_, h6_, h7_⟩
                  have n0_ : Aside0 (Kd.R (Kd.int .i64) 3 w40 w.heap.size (fun k_ => some k_ ≠ (.slice (some ad225) t212.length co32 : Value).ownBlock ∧ some k_ ≠ (v227 : Value).ownBlock) (.slice A225_1 ((rd_T38 t212 t218).f1).length c225_1) ((rd_T38 t212 t218).f1)) := ⟨h0_⟩
                  have n1_ : Aside0 (Kd.S k38 38 w40 w.heap.size (fun k_ => some k_ ≠ (v227 : Value).ownBlock) (.slice (some ad225) t212.length co32) t212) := ⟨h1_⟩
                  have n2_ : Aside0 (Kd.R (Kd.int .i64) 3 w40 w.heap.size (fun k_ => some k_ ≠ (.slice A225_1 ((rd_T38 t212 t218).f1).length c225_1 : Value).ownBlock) v227 y226) := ⟨h2_⟩
                  have n3_ : Aside0 (∃ c_, (v227 : Value) = .slice (some adz_v227) y226.length c_) := ⟨h3_⟩
                  have n4_ : Aside0 (w40.cell? ⟨(ad225.add ((t218).toNat * 2)).block, (ad225.add ((t218).toNat * 2)).off + 1, none⟩ = some (.slice A225_1 ((rd_T38 t212 t218).f1).length c225_1)) := ⟨h4_⟩
                  have n5_ : Aside0 (IsS92 w0 w40 g s0_0 t230) := ⟨h5_⟩
                  have n6_ : Aside0 (KeepBut w w40 g none) := ⟨h6_⟩
                  have n7_ : Aside0 (Below w0.heap.size w0 w40) := ⟨h7_⟩
                  clear HO214
                  clear HI0
                  clear HK
                  clear HB
                  clear h0_ h1_ h2_ h3_ h4_ h5_ h6_ h7_
                  have HL225_1 := n0_
                  have HO214 := n1_
                  have HO228 := n2_
                  have HA_HO228 := n3_
                  have HX225_1 := n4_
                  have HI0 := n5_
                  have HK := n6_
                  have HB := n7_
                  clear n0_ n1_ n2_ n3_ n4_ n5_ n6_ n7_
                  have hHeld : w40.cell? (ad225.add ((t218).toNat * 2)) = some (.int .i64 ((rd_T38 t212 t218).f0)) ∧ w40.cell? ⟨(ad225.add ((t218).toNat * 2)).block, (ad225.add ((t218).toNat * 2)).off + 1, none⟩ = some (.slice A225_1 ((rd_T38 t212 t218).f1).length c225_1) := hS_
                  obtain ⟨co41, eo41⟩ := HA_HO228.out
                  clear HA_HO228
                  subst eo41
                  obtain ⟨go42, co42, eo42, gb42, gl42, cl42, HG42⟩ := Kd.S_form HO214.out (by have h_ : (t218 : Int) < ((t212.length : Int) : Int) := of_decide_eq_true (by first | (with_reducible assumption) | assumption); have h2_ : 0 ≤ (t218 : Int) := (of_decide_eq_true (by first | (with_reducible assumption) | assumption)); omega)
                  (first | cases eo42 | (injection eo42 with ea_ en_ ec_; (first | subst ea_ | (injection ea_ with ea_; subst ea_)); subst ec_; clear en_))
                  have GB42 := Aside0.mk gb42
                  have GG42 := Aside0.mk HG42
                  clear gb42 gl42 HG42
                  (first | simp only [add_plain] at hx225_0 | skip)
                  (first | simp only [add_plain] at hx225_1 | skip)
                  obtain ⟨oki42, ce42, hcl42, hM42, hcc42, _, _, hH42⟩ := Kd.S_elem HO214.out z38 (t218 : Int) (of_decide_eq_true (by first | (with_reducible assumption) | assumption)) (by have h_ : (t218 : Int) < ((t212.length : Int) : Int) := of_decide_eq_true (by first | (with_reducible assumption) | assumption); first | exact h_ | (have e_ := (Kd.S_reads' HO214.out).1; omega) | simpa using h_)
                  obtain ⟨ve42_1, rfl, ge42_1⟩ := k38_openM hM42
                  have hv42 := hcc42 1 _ rfl
                  have hX42 := HX225_1.out
                  (try simp only [add_plain] at hX42)
                  (try simp only [Nat.add_zero] at hv42)
                  replace hv42 := Option.some.inj (hv42.symm.trans hX42)
                  subst hv42
                  clear hX42 hcc42 hcl42
                  have UU42 := Aside0.mk (show Kd.R (Kd.int .i64) 3 _ w.heap.size oki42 (.slice A225_1 ((rd_T38 t212 t218).f1).length c225_1) ((rd_T38 t212 t218).f1) from ge42_1)
                  have HH42 := Aside0.mk hH42
                  have HN42 := Aside0.mk (Kd.S_reads' HO214.out).1
                  clear hH42 ge42_1
                  refine norm_ (a' := ?_) ?_ ?_
                  rotate_left
                  · simp only [putAll, Act.put, List.setIfInBounds_toArray, List.set_cons_zero, List.set_cons_succ]
                    rfl
                  refine pure_ (i := 10) (N := some 42) (v := ?_) (a' := ?_) #[true, true, true, true, true, true, true, true, true, true, true, false, false, false, false, false, false] rfl rfl (any_of HT_.out (by kernel_rfl)) (fun _ _ _ h => h) (Or.inl ⟨by rfl, ?_⟩) ?_ ?_
                  rotate_left
                  · intro w'
                    go_simp
                    with_reducible rfl
                  rotate_left
                  · simp only [Act.put, List.setIfInBounds_toArray, List.set_cons_zero, List.set_cons_succ, i64_w, i32_w]
                    rfl
                  refine one_ (i := 11) (N := some 43) #[true, true, true, true, true, true, true, true, true, true, true, true, false, false, false, false, false] rfl rfl (one_of HT_.out (by kernel_rfl)) (by decide) (fun K hK => ?_)
                  (have p231 : 0 ≤ (t229 : Int) := of_decide_eq_true (by first | (with_reducible assumption) | assumption); have q231 : t229 < (y226.length : Int) := of_decide_eq_true (by first | (with_reducible assumption) | assumption); obtain ⟨ad231, e231, hx231_0⟩ := Kd.at_int (Kd.R_reads' HO228.out).2.2 t229 p231 q231; obtain rfl : adz_v227 = ad231 := (by injection e231))
                  refine value_ (w1 := ?_) (v := ?_) (by rfl) rfl ?_ ?_
                  rotate_left 2
                  · go_simp
                    constructor
                    · rfl
                    · rfl
                  clear hx231_0
                  refine hK.out _ _ ⟨hHeld.1, hHeld.2⟩ (fun hHeld => ?_)
                  clear hK K
                  refine norm_ (a' := ?_) ?_ ?_
                  rotate_left
                  · show Act.put _ (some 43) _ = _
                    simp only [Act.put, List.setIfInBounds_toArray, List.set_cons_zero, List.set_cons_succ, i64_w, i32_w]
                    rfl
                  refine one_ (i := 12) (N := some 44) #[true, true, true, true, true, true, true, true, true, true, true, true, true, false, false, false, false] rfl rfl (one_of HT_.out (by kernel_rfl)) (by decide) (fun K hK => ?_)
                  refine value_ (w1 := ?_) (v := ?_) (by rfl) rfl ?_ ?_
                  rotate_left 2
                  · go_simp
                    constructor
                    · rfl
                    · rfl
                  refine hK.out _ _ ⟨(World.cell?_alloc_lt _ _ _ (World.block_lt_of_cell? _ _ (hHeld.1))).trans (hHeld.1), (World.cell?_alloc_lt _ _ _ (World.block_lt_of_cell? _ _ (hHeld.2))).trans (hHeld.2)⟩ (fun hHeld => ?_)
                  clear hK K
                  refine norm_ (a' := ?_) ?_ ?_
                  rotate_left
                  · show Act.put _ (some 44) _ = _
                    simp only [Act.put, List.setIfInBounds_toArray, List.set_cons_zero, List.set_cons_succ, i64_w, i32_w]
                    rfl
                  refine one_ (i := 13) (N := some 45) #[true, true, true, true, true, true, true, true, true, true, true, true, true, true, false, false, false] rfl rfl (one_of HT_.out (by kernel_rfl)) (by decide) (fun K hK => ?_)
                  refine Kd.R_append_step (Kd.int .i64) w.heap.size (by rfl) (.tmp 38) (.tmp 44) 36 3 (.int .i64 0) 8 rfl Try.underlying36 info3 rfl (by decide) (by omega) (.slice A225_1 ((rd_T38 t212 t218).f1).length c225_1) ((rd_T38 t212 t218).f1) (rd y226 t229) [.int .i64 (rd y226 t229)] (fun k_ => oki42 k_ ∨ ((fun k_ => some k_ ≠ (.slice (some adz_v227) y226.length co41 : Value).ownBlock)) k_ ∧ w40.heap.size ≤ k_) (fun _ => False) rfl rfl ?aP (fun _ hk => hk.elim) ?aF ?aO (Below.refl _ _) ?aS ?aL ?_
                  (case aP => exact rfl)
                  (case aF => exact (fun k_ hk => .inr ⟨Kd.fresh' (Kd.R_lt (by (with_reducible repeat (first | apply Kd.R_alloc | apply Kd.R_drewN | apply Kd.R_drew)); exact HO228.out)) k_ hk, hk⟩))
                  (case aO => exact (by (with_reducible repeat (first | apply Kd.R_alloc | apply Kd.R_drewN | apply Kd.R_drew)); exact Kd.R_mono UU42.out (fun _ hk => .inl hk)))
                  (case aS => exact (keep_size (w := w) (g := g) (row := none) (by repeat (first | (with_reducible first | exact HK.out | apply KeepBut.set_ | apply keep_drewN | apply keep_drew | apply keep_alloc) | exact HK.out))))
                  (case aL => have := LMc28.out; omega)
                  intro v233 w43 ho hb hg hat
                  (first | have HS0_ := cell_grown hg (hHeld.1) (by first | (rw [add_block]; exact (fun e_ => ((HL225_1.out.1 _ e_.symm).1) rfl)) | (show some (Addr.add _ _).block ≠ _; rw [add_block]; exact (fun e_ => ((HL225_1.out.1 _ e_.symm).1) rfl)) | exact (fun e_ => ((HL225_1.out.1 _ e_.symm).1) rfl)) | have HS0_ := cell_grown hg (cell_unalloc (hHeld.1) (by first | (rw [add_block]; exact Kd.S_lt HO214.out _ rfl) | (show (Addr.add _ _).block < _; rw [add_block]; exact Kd.S_lt HO214.out _ rfl) | exact Kd.S_lt HO214.out _ rfl)) (by first | (rw [add_block]; exact (fun e_ => ((HL225_1.out.1 _ e_.symm).1) rfl)) | (show some (Addr.add _ _).block ≠ _; rw [add_block]; exact (fun e_ => ((HL225_1.out.1 _ e_.symm).1) rfl)) | exact (fun e_ => ((HL225_1.out.1 _ e_.symm).1) rfl)))
                  (first | have HS1_ := cell_grown hg (hHeld.2) (by first | (rw [add_block]; exact (fun e_ => ((HL225_1.out.1 _ e_.symm).1) rfl)) | (show some (Addr.add _ _).block ≠ _; rw [add_block]; exact (fun e_ => ((HL225_1.out.1 _ e_.symm).1) rfl)) | exact (fun e_ => ((HL225_1.out.1 _ e_.symm).1) rfl)) | have HS1_ := cell_grown hg (cell_unalloc (hHeld.2) (by first | (rw [add_block]; exact Kd.S_lt HO214.out _ rfl) | (show (Addr.add _ _).block < _; rw [add_block]; exact Kd.S_lt HO214.out _ rfl) | exact Kd.S_lt HO214.out _ rfl)) (by first | (rw [add_block]; exact (fun e_ => ((HL225_1.out.1 _ e_.symm).1) rfl)) | (show some (Addr.add _ _).block ≠ _; rw [add_block]; exact (fun e_ => ((HL225_1.out.1 _ e_.symm).1) rfl)) | exact (fun e_ => ((HL225_1.out.1 _ e_.symm).1) rfl)))
                  rw [← Ny232.out] at ho
                  have n0_ := Aside0.mk (IsS92.grown (by repeat (first | (with_reducible first | exact HI0.out | apply IsS92.alloc | apply IsS92.drewN | apply IsS92.drew | apply IsS92.set_1) | exact HI0.out)) hg (IsS92.own_ne HI0.out HL225_1.out (by decide)))
                  have n1_ := Aside0.mk (Kd.R_grown2 (by (with_reducible repeat (first | apply Kd.R_alloc | apply Kd.R_drewN | apply Kd.R_drew)); exact HO228.out) rfl hg (fun k_ e_ => (HL225_1.out.1 k_ e_).2))
                  have n2_ := Aside0.mk (below_weaken (by repeat (first | (with_reducible first | exact HB.out | apply below_alloc | apply pw_below_drewN | apply below_drew1 | refine below_set ?_ (IsS92.ge HI0.out)) | exact HB.out)) HL.out hb)
                  have n3_ := Aside0.mk (KeepBut.trans (by repeat (first | (with_reducible first | exact HK.out | apply KeepBut.set_ | apply keep_drewN | apply keep_drew | apply keep_alloc) | exact HK.out)) (KeepBut.of_grown hg g) (Kd.R_base2 HL225_1.out))
                  have n4_ := Aside0.mk (Kd.H_grown (Kd.H_widen (by repeat (first | exact HH42.out | refine Kd.H_alloc ?_ _ | refine Kd.H_drewN ?_ _ | refine Kd.H_drew ?_))) hg (fun k_ e_ => .inl (UU42.out.1 k_ e_)))
                  have n5_ := Aside0.mk (ho)
                  clear HI0
                  clear HO228
                  clear HB
                  clear HK
                  clear HH42
                  clear HO214
                  clear UU42
                  clear HL225_1
                  have HI0 := n0_
                  have HO228 := n1_
                  have HB := n2_
                  have HK := n3_
                  have HH42 := n4_
                  have HO234 := n5_
                  clear n0_ n1_ n2_ n3_ n4_ n5_
                  clear ho hb hg hat
                  have p29 : 0 ≤ (t218 : Int) := of_decide_eq_true (by first | (with_reducible assumption) | assumption)
                  have q29 : (t218 : Int) < ((t212.length : Int) : Int) := of_decide_eq_true (by first | (with_reducible assumption) | assumption)
                  replace p29 := eq_true p29
                  replace q29 := eq_true q29
                  obtain ⟨Ao46, co46, eo46⟩ := Kd.R_slice HO234.out
                  (first | subst eo46 | (injection eo46 with f1_ f2_ f3_; have f4_ := f1_.symm; have f5_ := f3_.symm; clear f1_ f2_ f3_; subst f4_; subst f5_))
                  obtain ⟨_, _, hraw44, _, _, hcc44, _⟩ := Kd.H_raw HH42.out (of_decide_eq_true (by first | (with_reducible assumption) | assumption)) (by have h_ : (t218 : Int) < ((t212.length : Int) : Int) := of_decide_eq_true (by first | (with_reducible assumption) | assumption); first | exact h_ | (have e_ := (HN42.out); omega) | simpa using h_)
                  obtain ⟨_, hfr44⟩ := Kd.H_at HH42.out (of_decide_eq_true (by first | (with_reducible assumption) | assumption)) (by have h_ : (t218 : Int) < ((t212.length : Int) : Int) := of_decide_eq_true (by first | (with_reducible assumption) | assumption); first | exact h_ | (have e_ := (HN42.out); omega) | simpa using h_)
                  have hx44_0 := hcc44 1 _ rfl
                  have hf44_0 := hfr44 1
                  (try rw [show (k38).sz = 2 from rfl] at hx44_0)
                  (try rw [show (k38).sz = 2 from rfl] at hf44_0)
                  have HP44 := Kd.S_seg0 HH42.out (of_decide_eq_true (by first | (with_reducible assumption) | assumption)) (by have h_ : (t218 : Int) < ((t212.length : Int) : Int) := of_decide_eq_true (by first | (with_reducible assumption) | assumption); first | exact h_ | (have e_ := (HN42.out); omega) | simpa using h_) (seg := [.slice Ao46 y232.length co46]) (j := 1) (show 2 ≤ 2 from by decide) (x' := (⟨(rd_T38 t212 t218).f0, y232⟩ : S38)) (k38_mkM _ _ _ (⟨(rd_T38 t212 t218).f0, y232⟩ : S38) HO234.out) (fun _ hk => hk)
                  clear hcc44 hfr44
                  have HN0_go42 := Aside0.mk (show g ≠ go42 from by have h_ := IsS92.own_ne HI0.out hraw44 (by decide); intro e_; exact h_ (by rw [e_]; rfl))
                  have HS44 := HP44.1
                  rw [← Ny235.out] at HS44
                  have HQ44 := Aside0.mk HS44
                  obtain ⟨_, hgg44⟩ := Kd.R_typed hraw44 go42 rfl
                  have GG44_ := Aside0.mk hgg44
                  clear HP44 HS44 hgg44
                  refine hK.out _ _ ⟨HS0_, HS1_⟩ (fun hHeld => ?_)
                  clear hK K
                  refine norm_ (a' := ?_) ?_ ?_
                  rotate_left
                  · show Act.put _ (some 45) _ = _
                    simp only [Act.put, List.setIfInBounds_toArray, List.set_cons_zero, List.set_cons_succ, i64_w, i32_w]
                    rfl
                  refine pure_ (i := 14) (N := some 46) (v := ?_) (a' := ?_) #[true, true, true, true, true, true, true, true, true, true, true, true, true, true, true, false, false] rfl rfl (any_of HT_.out (by kernel_rfl)) (fun _ _ _ h => h) (Or.inl ⟨by rfl, ?_⟩) ?_ ?_
                  rotate_left
                  · intro w'
                    go_simp
                    with_reducible rfl
                  rotate_left
                  · simp only [Act.put, List.setIfInBounds_toArray, List.set_cons_zero, List.set_cons_succ, i64_w, i32_w]
                    rfl
                  refine pure_ (i := 15) (N := some 47) (v := ?_) (a' := ?_) #[true, true, true, true, true, true, true, true, true, true, true, true, true, true, true, true, false] rfl rfl (any_of HT_.out (by kernel_rfl)) (fun _ _ _ h => h) (Or.inl ⟨by rfl, ?_⟩) ?_ ?_
                  rotate_left
                  · intro w'
                    go_simp
                    with_reducible rfl
                  rotate_left
                  · simp only [Act.put, List.setIfInBounds_toArray, List.set_cons_zero, List.set_cons_succ, i64_w, i32_w]
                    rfl
                  refine last_ (i := 16) (N := none) #[true, true, true, true, true, true, true, true, true, true, true, true, true, true, true, true, true] rfl rfl (one_of HT_.out (by kernel_rfl)) (by decide) (fun K hK => ?_)
                  refine skip_ (w1 := ?_) (by rfl) rfl ?_ ?_
                  rotate_left
                  · go_simp
                    rfl
                  refine hK.out _ _ ?_
                  clear hK K
                  refine done_ (done_of HT_.out (by kernel_rfl)) ?_
                  try go_wp2
                  go_ret
                  exact ⟨_, by first | rfl | (simp [errW_none, errW_some] <;> rfl) | (simp [*, errW_none, errW_some] <;> rfl), by (with_reducible repeat (first | apply Kd.S_alloc | apply Kd.S_drewN | apply Kd.S_drew)); exact Kd.S_mono HQ44.out (fun _ hk => trivial), by repeat (first | (with_reducible first | exact HI0.out | apply IsS92.alloc | apply IsS92.drewN | apply IsS92.drew | apply IsS92.set_1 | refine IsS92.far ?_ HN0_go42.out _) | exact HI0.out), by repeat (first | (with_reducible first | exact HB.out | apply below_alloc | apply pw_below_drewN | apply below_drew1 | refine below_set ?_ (Nat.le_trans HL.out GB42.out) | refine below_set ?_ (IsS92.ge HI0.out)) | exact HB.out), by repeat (first | (with_reducible first | exact HK.out | apply KeepBut.set_ | apply keep_drewN | apply keep_drew | apply keep_alloc | refine keep_far ?_ GB42.out _) | exact HK.out)⟩
                · rw [if_neg c28] at H
                  exact absurd H (by simp)
              · rw [if_neg c27] at H
                exact absurd H (by simp)
            · rw [if_neg c26] at H
              exact absurd H (by simp)
          · rw [if_neg c24] at H
            exact absurd H (by simp)
        · rw [if_neg c23] at H
          exact absurd H (by simp)
      · rw [if_neg c22] at H
        have c22b0 : (t220 == 1) = false := beq_eq_false_iff_ne.mpr c22
        have c22b1 : (t220 != 1) = true := bne_iff_ne.mpr c22
        by_cases c47 : t220 = 2
        · rw [if_pos c47] at H
          have c47b0 : (t220 == 2) = true := beq_iff_eq.mpr c47
          have c47b1 : (t220 != 2) = false := bne_eq_false_iff_eq.mpr c47
          clear c47
          by_cases c48 : 1 ≤ (t212.length : Int)
          · rw [if_pos c48] at H
            have c48b0 := eq_true c48
            have c48b1 : decide (1 ≤ (t212.length : Int)) = true := decide_eq_true c48
            clear c48
            obtain ⟨y236, hy236⟩ : ∃ y_ : List (S38), y_ = (t212.take (1 : Int).toNat) := ⟨_, rfl⟩
            replace H : (some (y236, t221)) = some (r1, r2) := by first | (rw [hy236]; with_reducible exact H) | (have H2_ := (Option.bind_some _ _).symm.trans H; rw [hy236]; with_reducible exact H2_) | (have H2_ := (Option.bind_some _ _).symm.trans H; with_reducible exact H2_) | with_reducible exact H | (rw [hy236]; exact H) | exact H
            have Ny236 := Aside0.mk hy236
            clear hy236
            simp only [Option.some.injEq, Prod.mk.injEq] at H
            obtain ⟨rfl, rfl⟩ := H
            go_enter Try.func64, Try.ntmps64
            go_wp2_with (first | ((with_reducible refine gate_callee (f := 88) rfl ?_); refine goesL_ (some 6) rfl rfl Try.func88 (by kernel_rfl) rfl #[.pointer (some ⟨g, 0, none⟩)] rfl (by (try simp only [List.map_toArray, List.map_cons, List.map_nil]); first | done | rfl | (simp only [List.length_drop, List.length_take]; rfl)) ?_; (with_reducible refine (spec_l71Classes.calls k g s0_0 s0_1 t212 t215 w0 _ ?side1 ?side2 A2.out).mono ?_); (case side1 => repeat (first | (with_reducible first | exact HI0.out | apply IsS92.alloc | apply IsS92.drewN | apply IsS92.drew | apply IsS92.set_1) | exact HI0.out)); (case side2 => repeat (first | (with_reducible first | exact HB.out | apply below_alloc | apply pw_below_drewN | apply below_drew1 | refine below_set ?_ (IsS92.ge HI0.out)) | exact HB.out)); rintro e w49 ⟨v213, rfl, ho0, hi, hb, hk⟩; refine ⟨_, rfl, ?_⟩; have n0_ := Aside0.mk (Kd.S_lower ho0 (keep_size (w := w) (g := g) (row := none) (by repeat (first | (with_reducible first | exact HK.out | apply KeepBut.set_ | apply keep_drewN | apply keep_drew | apply keep_alloc) | exact HK.out)))); have n1_ := Aside0.mk (KeepBut.trans (by repeat (first | (with_reducible first | exact HK.out | apply KeepBut.set_ | apply keep_drewN | apply keep_drew | apply keep_alloc) | exact HK.out)) hk (.inl rfl)); have n2_ := Aside0.mk (hb); have n3_ := Aside0.mk (hi); clear HK; clear HB; clear HI0; have HO214 := n0_; have HK := n1_; have HB := n2_; have HI0 := n3_; clear n0_ n1_ n2_ n3_; (try clear hb); (try clear hb2); (try clear hk); (try clear hi); (try clear ho0)) | ((with_reducible refine gate_callee (f := 65) rfl ?_); refine goesL_ (some 8) rfl rfl Try.func65 (by kernel_rfl) rfl #[.pointer (some ⟨g, 0, none⟩), .int .i64 20] rfl (by (try simp only [List.map_toArray, List.map_cons, List.map_nil]); first | done | rfl | (simp only [List.length_drop, List.length_take]; rfl)) ?_; (with_reducible refine (spec_l6Rd_pick.calls k g s0_0 t215 20 t216 t217 w0 _ ?side1 ?side2 A3.out).mono ?_); (case side1 => repeat (first | (with_reducible first | exact HI0.out | apply IsS92.alloc | apply IsS92.drewN | apply IsS92.drew | apply IsS92.set_1) | exact HI0.out)); (case side2 => repeat (first | (with_reducible first | exact HB.out | apply below_alloc | apply pw_below_drewN | apply below_drew1 | refine below_set ?_ (IsS92.ge HI0.out)) | exact HB.out)); rintro e w50 ⟨rfl, hi, hb, hk⟩; refine ⟨_, rfl, ?_⟩; have n0_ := Aside0.mk (Kd.S_mono (Kd.S_keep (IsS92.apartS (show IsS92 w0 _ g s0_0 t215 from by repeat (first | (with_reducible first | exact HI0.out | apply IsS92.alloc | apply IsS92.drewN | apply IsS92.drew | apply IsS92.set_1) | exact HI0.out)) (by (with_reducible repeat (first | apply Kd.S_alloc | apply Kd.S_drewN | apply Kd.S_drew)); exact HO214.out) (by decide)) hk (fun _ h => h.2)) (fun _ h => h.1)); have n1_ := Aside0.mk (KeepBut.trans (by repeat (first | (with_reducible first | exact HK.out | apply KeepBut.set_ | apply keep_drewN | apply keep_drew | apply keep_alloc) | exact HK.out)) hk (.inl rfl)); have n2_ := Aside0.mk (hb); have n3_ := Aside0.mk (hi); clear HO214; clear HK; clear HB; clear HI0; have HO214 := n0_; have HK := n1_; have HB := n2_; have HI0 := n3_; clear n0_ n1_ n2_ n3_; (try clear hb); (try clear hb2); (try clear hk); (try clear hi); obtain ⟨Ao51, co51, eo51⟩ := Kd.S_slice HO214.out; subst eo51) | ((with_reducible refine gate_callee (f := 65) rfl ?_); refine goesL_ (some 14) rfl rfl Try.func65 (by kernel_rfl) rfl #[.pointer (some ⟨g, 0, none⟩), .int .i64 (t212.length : Int)] rfl (by (try simp only [List.map_toArray, List.map_cons, List.map_nil]); first | done | rfl | (simp only [List.length_drop, List.length_take]; rfl)) ?_; (with_reducible refine (spec_l6Rd_pick.calls k g s0_0 t217 (t212.length : Int) t218 t219 w0 _ ?side1 ?side2 A7.out).mono ?_); (case side1 => repeat (first | (with_reducible first | exact HI0.out | apply IsS92.alloc | apply IsS92.drewN | apply IsS92.drew | apply IsS92.set_1) | exact HI0.out)); (case side2 => repeat (first | (with_reducible first | exact HB.out | apply below_alloc | apply pw_below_drewN | apply below_drew1 | refine below_set ?_ (IsS92.ge HI0.out)) | exact HB.out)); rintro e w52 ⟨rfl, hi, hb, hk⟩; refine ⟨_, rfl, ?_⟩; have n0_ := Aside0.mk (Kd.S_mono (Kd.S_keep (IsS92.apartS (show IsS92 w0 _ g s0_0 t217 from by repeat (first | (with_reducible first | exact HI0.out | apply IsS92.alloc | apply IsS92.drewN | apply IsS92.drew | apply IsS92.set_1) | exact HI0.out)) (by (with_reducible repeat (first | apply Kd.S_alloc | apply Kd.S_drewN | apply Kd.S_drew)); exact HO214.out) (by decide)) hk (fun _ h => h.2)) (fun _ h => h.1)); have n1_ := Aside0.mk (KeepBut.trans (by repeat (first | (with_reducible first | exact HK.out | apply KeepBut.set_ | apply keep_drewN | apply keep_drew | apply keep_alloc) | exact HK.out)) hk (.inl rfl)); have n2_ := Aside0.mk (hb); have n3_ := Aside0.mk (hi); clear HO214; clear HK; clear HB; clear HI0; have HO214 := n0_; have HK := n1_; have HB := n2_; have HI0 := n3_; clear n0_ n1_ n2_ n3_; (try clear hb); (try clear hb2); (try clear hk); (try clear hi)) | ((with_reducible refine gate_callee (f := 65) rfl ?_); refine goesL_ (some 16) rfl rfl Try.func65 (by kernel_rfl) rfl #[.pointer (some ⟨g, 0, none⟩), .int .i64 6] rfl (by (try simp only [List.map_toArray, List.map_cons, List.map_nil]); first | done | rfl | (simp only [List.length_drop, List.length_take]; rfl)) ?_; (with_reducible refine (spec_l6Rd_pick.calls k g s0_0 t219 6 t220 t221 w0 _ ?side1 ?side2 A8.out).mono ?_); (case side1 => repeat (first | (with_reducible first | exact HI0.out | apply IsS92.alloc | apply IsS92.drewN | apply IsS92.drew | apply IsS92.set_1) | exact HI0.out)); (case side2 => repeat (first | (with_reducible first | exact HB.out | apply below_alloc | apply pw_below_drewN | apply below_drew1 | refine below_set ?_ (IsS92.ge HI0.out)) | exact HB.out)); rintro e w53 ⟨rfl, hi, hb, hk⟩; refine ⟨_, rfl, ?_⟩; have n0_ := Aside0.mk (Kd.S_mono (Kd.S_keep (IsS92.apartS (show IsS92 w0 _ g s0_0 t219 from by repeat (first | (with_reducible first | exact HI0.out | apply IsS92.alloc | apply IsS92.drewN | apply IsS92.drew | apply IsS92.set_1) | exact HI0.out)) (by (with_reducible repeat (first | apply Kd.S_alloc | apply Kd.S_drewN | apply Kd.S_drew)); exact HO214.out) (by decide)) hk (fun _ h => h.2)) (fun _ h => h.1)); have n1_ := Aside0.mk (KeepBut.trans (by repeat (first | (with_reducible first | exact HK.out | apply KeepBut.set_ | apply keep_drewN | apply keep_drew | apply keep_alloc) | exact HK.out)) hk (.inl rfl)); have n2_ := Aside0.mk (hb); have n3_ := Aside0.mk (hi); clear HO214; clear HK; clear HB; clear HI0; have HO214 := n0_; have HK := n1_; have HB := n2_; have HI0 := n3_; clear n0_ n1_ n2_ n3_; (try clear hb); (try clear hb2); (try clear hk); (try clear hi); have q54 : (1 : Int) ≤ ((t212.length : Int) : Int) := of_decide_eq_true (by first | (with_reducible assumption) | assumption); obtain ⟨i054, hi054, _, hsz54, _⟩ := info_parts info38; have hcut54 := cut_to (P := Try.prog) 25 38 .i64 Try.underlying25 hi054 Ao51 t212.length co51 1 (by omega) q54 (Kd.S_reads' HO214.out).2.1; have hr54 := Kd.S_take (m := (1 : Int).toNat) HO214.out (by omega); have hy54 : y236.length = (1 : Int).toNat := (by rw [Ny236.out, List.length_take]; omega); rw [← Ny236.out] at hr54; rw [← hy54] at hr54 hcut54; clear hy54 hi054 hsz54 HO214; have HO238 := Aside0.mk hr54; clear hr54; replace q54 := eq_true q54))
            go_ret
            exact ⟨_, by first | rfl | (simp [errW_none, errW_some] <;> rfl) | (simp [*, errW_none, errW_some] <;> rfl), by (with_reducible repeat (first | apply Kd.S_alloc | apply Kd.S_drewN | apply Kd.S_drew)); exact HO238.out, by repeat (first | (with_reducible first | exact HI0.out | apply IsS92.alloc | apply IsS92.drewN | apply IsS92.drew | apply IsS92.set_1) | exact HI0.out), by repeat (first | (with_reducible first | exact HB.out | apply below_alloc | apply pw_below_drewN | apply below_drew1 | refine below_set ?_ (IsS92.ge HI0.out)) | exact HB.out), by repeat (first | (with_reducible first | exact HK.out | apply KeepBut.set_ | apply keep_drewN | apply keep_drew | apply keep_alloc) | exact HK.out)⟩
          · rw [if_neg c48] at H
            exact absurd H (by simp)
        · rw [if_neg c47] at H
          have c47b0 : (t220 == 2) = false := beq_eq_false_iff_ne.mpr c47
          have c47b1 : (t220 != 2) = true := bne_iff_ne.mpr c47
          by_cases c55 : t220 = 3
          · rw [if_pos c55] at H
            have c55b0 : (t220 == 3) = true := beq_iff_eq.mpr c55
            have c55b1 : (t220 != 3) = false := bne_eq_false_iff_eq.mpr c55
            clear c55
            by_cases c56 : 1 < (t212.length : Int)
            · rw [if_pos c56] at H
              have c56b0 : decide (1 < (t212.length : Int)) = true := decide_eq_true c56
              have c56b1 : decide (1 < t212.length) = true := decide_eq_true (by omega)
              clear c56
              exact absurd H (by simp)
            · rw [if_neg c56] at H
              exact absurd H (by simp)
          · rw [if_neg c55] at H
            have c55b0 : (t220 == 3) = false := beq_eq_false_iff_ne.mpr c55
            have c55b1 : (t220 != 3) = true := bne_iff_ne.mpr c55
            by_cases c57 : t220 = 4
            · rw [if_pos c57] at H
              have c57b0 : (t220 == 4) = true := beq_iff_eq.mpr c57
              have c57b1 : (t220 != 4) = false := bne_eq_false_iff_eq.mpr c57
              clear c57
              obtain ⟨y243, hy243⟩ : ∃ y_ : List Int, y_ = (([1, 1, 1] : List Int)) := ⟨_, rfl⟩
              replace H : (if 0 ≤ t218 then (if t218 < (t212.length : Int) then (some ((t212.set (t218 : Int).toNat (⟨(rd_T38 t212 t218).f0, y243⟩ : S38)), t221)) else (none)) else (none)) = some (r1, r2) := by first | (rw [hy243]; with_reducible exact H) | (have H2_ := (Option.bind_some _ _).symm.trans H; rw [hy243]; with_reducible exact H2_) | (have H2_ := (Option.bind_some _ _).symm.trans H; with_reducible exact H2_) | with_reducible exact H | (rw [hy243]; exact H) | exact H
              have Ny243 := Aside0.mk hy243
              clear hy243
              by_cases c58 : 0 ≤ t218
              · rw [if_pos c58] at H
                have c58b0 : decide (0 ≤ t218) = true := decide_eq_true c58
                clear c58
                by_cases c59 : t218 < (t212.length : Int)
                · rw [if_pos c59] at H
                  have c59b0 : decide (t218 < (t212.length : Int)) = true := decide_eq_true c59
                  clear c59
                  obtain ⟨y246, hy246⟩ : ∃ y_ : List (S38), y_ = (t212.set (t218 : Int).toNat (⟨(rd_T38 t212 t218).f0, y243⟩ : S38)) := ⟨_, rfl⟩
                  replace H : (some (y246, t221)) = some (r1, r2) := by first | (rw [hy246]; with_reducible exact H) | (have H2_ := (Option.bind_some _ _).symm.trans H; rw [hy246]; with_reducible exact H2_) | (have H2_ := (Option.bind_some _ _).symm.trans H; with_reducible exact H2_) | with_reducible exact H | (rw [hy246]; exact H) | exact H
                  have Ny246 := Aside0.mk hy246
                  clear hy246
                  simp only [Option.some.injEq, Prod.mk.injEq] at H
                  obtain ⟨rfl, rfl⟩ := H
                  go_enter Try.func64, Try.ntmps64
                  go_wp2_with (first | ((with_reducible refine gate_callee (f := 88) rfl ?_); refine goesL_ (some 6) rfl rfl Try.func88 (by kernel_rfl) rfl #[.pointer (some ⟨g, 0, none⟩)] rfl (by (try simp only [List.map_toArray, List.map_cons, List.map_nil]); first | done | rfl | (simp only [List.length_drop, List.length_take]; rfl)) ?_; (with_reducible refine (spec_l71Classes.calls k g s0_0 s0_1 t212 t215 w0 _ ?side1 ?side2 A2.out).mono ?_); (case side1 => repeat (first | (with_reducible first | exact HI0.out | apply IsS92.alloc | apply IsS92.drewN | apply IsS92.drew | apply IsS92.set_1) | exact HI0.out)); (case side2 => repeat (first | (with_reducible first | exact HB.out | apply below_alloc | apply pw_below_drewN | apply below_drew1 | refine below_set ?_ (IsS92.ge HI0.out)) | exact HB.out)); rintro e w61 ⟨v213, rfl, ho0, hi, hb, hk⟩; refine ⟨_, rfl, ?_⟩; have n0_ := Aside0.mk (Kd.S_lower ho0 (keep_size (w := w) (g := g) (row := none) (by repeat (first | (with_reducible first | exact HK.out | apply KeepBut.set_ | apply keep_drewN | apply keep_drew | apply keep_alloc) | exact HK.out)))); have n1_ := Aside0.mk (KeepBut.trans (by repeat (first | (with_reducible first | exact HK.out | apply KeepBut.set_ | apply keep_drewN | apply keep_drew | apply keep_alloc) | exact HK.out)) hk (.inl rfl)); have n2_ := Aside0.mk (hb); have n3_ := Aside0.mk (hi); clear HK; clear HB; clear HI0; have HO214 := n0_; have HK := n1_; have HB := n2_; have HI0 := n3_; clear n0_ n1_ n2_ n3_; (try clear hb); (try clear hb2); (try clear hk); (try clear hi); (try clear ho0)) | ((with_reducible refine gate_callee (f := 65) rfl ?_); refine goesL_ (some 8) rfl rfl Try.func65 (by kernel_rfl) rfl #[.pointer (some ⟨g, 0, none⟩), .int .i64 20] rfl (by (try simp only [List.map_toArray, List.map_cons, List.map_nil]); first | done | rfl | (simp only [List.length_drop, List.length_take]; rfl)) ?_; (with_reducible refine (spec_l6Rd_pick.calls k g s0_0 t215 20 t216 t217 w0 _ ?side1 ?side2 A3.out).mono ?_); (case side1 => repeat (first | (with_reducible first | exact HI0.out | apply IsS92.alloc | apply IsS92.drewN | apply IsS92.drew | apply IsS92.set_1) | exact HI0.out)); (case side2 => repeat (first | (with_reducible first | exact HB.out | apply below_alloc | apply pw_below_drewN | apply below_drew1 | refine below_set ?_ (IsS92.ge HI0.out)) | exact HB.out)); rintro e w62 ⟨rfl, hi, hb, hk⟩; refine ⟨_, rfl, ?_⟩; have n0_ := Aside0.mk (Kd.S_mono (Kd.S_keep (IsS92.apartS (show IsS92 w0 _ g s0_0 t215 from by repeat (first | (with_reducible first | exact HI0.out | apply IsS92.alloc | apply IsS92.drewN | apply IsS92.drew | apply IsS92.set_1) | exact HI0.out)) (by (with_reducible repeat (first | apply Kd.S_alloc | apply Kd.S_drewN | apply Kd.S_drew)); exact HO214.out) (by decide)) hk (fun _ h => h.2)) (fun _ h => h.1)); have n1_ := Aside0.mk (KeepBut.trans (by repeat (first | (with_reducible first | exact HK.out | apply KeepBut.set_ | apply keep_drewN | apply keep_drew | apply keep_alloc) | exact HK.out)) hk (.inl rfl)); have n2_ := Aside0.mk (hb); have n3_ := Aside0.mk (hi); clear HO214; clear HK; clear HB; clear HI0; have HO214 := n0_; have HK := n1_; have HB := n2_; have HI0 := n3_; clear n0_ n1_ n2_ n3_; (try clear hb); (try clear hb2); (try clear hk); (try clear hi); obtain ⟨Ao63, co63, eo63⟩ := Kd.S_slice HO214.out; subst eo63) | ((with_reducible refine gate_callee (f := 65) rfl ?_); refine goesL_ (some 14) rfl rfl Try.func65 (by kernel_rfl) rfl #[.pointer (some ⟨g, 0, none⟩), .int .i64 (t212.length : Int)] rfl (by (try simp only [List.map_toArray, List.map_cons, List.map_nil]); first | done | rfl | (simp only [List.length_drop, List.length_take]; rfl)) ?_; (with_reducible refine (spec_l6Rd_pick.calls k g s0_0 t217 (t212.length : Int) t218 t219 w0 _ ?side1 ?side2 A7.out).mono ?_); (case side1 => repeat (first | (with_reducible first | exact HI0.out | apply IsS92.alloc | apply IsS92.drewN | apply IsS92.drew | apply IsS92.set_1) | exact HI0.out)); (case side2 => repeat (first | (with_reducible first | exact HB.out | apply below_alloc | apply pw_below_drewN | apply below_drew1 | refine below_set ?_ (IsS92.ge HI0.out)) | exact HB.out)); rintro e w64 ⟨rfl, hi, hb, hk⟩; refine ⟨_, rfl, ?_⟩; have n0_ := Aside0.mk (Kd.S_mono (Kd.S_keep (IsS92.apartS (show IsS92 w0 _ g s0_0 t217 from by repeat (first | (with_reducible first | exact HI0.out | apply IsS92.alloc | apply IsS92.drewN | apply IsS92.drew | apply IsS92.set_1) | exact HI0.out)) (by (with_reducible repeat (first | apply Kd.S_alloc | apply Kd.S_drewN | apply Kd.S_drew)); exact HO214.out) (by decide)) hk (fun _ h => h.2)) (fun _ h => h.1)); have n1_ := Aside0.mk (KeepBut.trans (by repeat (first | (with_reducible first | exact HK.out | apply KeepBut.set_ | apply keep_drewN | apply keep_drew | apply keep_alloc) | exact HK.out)) hk (.inl rfl)); have n2_ := Aside0.mk (hb); have n3_ := Aside0.mk (hi); clear HO214; clear HK; clear HB; clear HI0; have HO214 := n0_; have HK := n1_; have HB := n2_; have HI0 := n3_; clear n0_ n1_ n2_ n3_; (try clear hb); (try clear hb2); (try clear hk); (try clear hi)) | ((with_reducible refine gate_callee (f := 65) rfl ?_); refine goesL_ (some 16) rfl rfl Try.func65 (by kernel_rfl) rfl #[.pointer (some ⟨g, 0, none⟩), .int .i64 6] rfl (by (try simp only [List.map_toArray, List.map_cons, List.map_nil]); first | done | rfl | (simp only [List.length_drop, List.length_take]; rfl)) ?_; (with_reducible refine (spec_l6Rd_pick.calls k g s0_0 t219 6 t220 t221 w0 _ ?side1 ?side2 A8.out).mono ?_); (case side1 => repeat (first | (with_reducible first | exact HI0.out | apply IsS92.alloc | apply IsS92.drewN | apply IsS92.drew | apply IsS92.set_1) | exact HI0.out)); (case side2 => repeat (first | (with_reducible first | exact HB.out | apply below_alloc | apply pw_below_drewN | apply below_drew1 | refine below_set ?_ (IsS92.ge HI0.out)) | exact HB.out)); rintro e w65 ⟨rfl, hi, hb, hk⟩; refine ⟨_, rfl, ?_⟩; have n0_ := Aside0.mk (Kd.S_mono (Kd.S_keep (IsS92.apartS (show IsS92 w0 _ g s0_0 t219 from by repeat (first | (with_reducible first | exact HI0.out | apply IsS92.alloc | apply IsS92.drewN | apply IsS92.drew | apply IsS92.set_1) | exact HI0.out)) (by (with_reducible repeat (first | apply Kd.S_alloc | apply Kd.S_drewN | apply Kd.S_drew)); exact HO214.out) (by decide)) hk (fun _ h => h.2)) (fun _ h => h.1)); have n1_ := Aside0.mk (KeepBut.trans (by repeat (first | (with_reducible first | exact HK.out | apply KeepBut.set_ | apply keep_drewN | apply keep_drew | apply keep_alloc) | exact HK.out)) hk (.inl rfl)); have n2_ := Aside0.mk (hb); have n3_ := Aside0.mk (hi); clear HO214; clear HK; clear HB; clear HI0; have HO214 := n0_; have HK := n1_; have HB := n2_; have HI0 := n3_; clear n0_ n1_ n2_ n3_; (try clear hb); (try clear hb2); (try clear hk); (try clear hi)) | ((with_reducible refine gate_dst (N := 73) rfl ?_); refine Kd.R_lit (Kd.int .i64) _ 3 ?hg (N := 73) ?hd (xs := ([1, 1, 1] : List Int)) (inner := [.int .i64 1, .int .i64 1, .int .i64 1]) (ok := fun _ => True) (okp := fun _ => True) ?hr ?hp (fun _ hk => hk) trivial (Below.refl _ _) (Nat.le_refl _) (by simp) ?_; (case hd => rfl); (case hg => rfl); (case hr => first | (go_simp; done) | (go_simp; rfl)); (case hp => exact (Reps.one (show Kd.M (Kd.int .i64) _ _ _ 1 [.int .i64 1] from rfl) (Reps.one (show Kd.M (Kd.int .i64) _ _ _ 1 [.int .i64 1] from rfl) (Reps.one (show Kd.M (Kd.int .i64) _ _ _ 1 [.int .i64 1] from rfl) (Reps.none _ _))))); intro v244 w66 ho67 hb hg_ hnew_; clear hg_ hnew_; (first | rw [← Ny243.out] at ho67 | (simp only [Int.reduceToNat] at ho67; rw [← Ny243.out] at ho67)); have n0_ := Aside0.mk (Kd.S_elder' (by (with_reducible repeat (first | apply Kd.S_alloc | apply Kd.S_drewN | apply Kd.S_drew)); exact HO214.out) (Kd.R_base ho67) hb); have n1_ := Aside0.mk (Kd.R_lower ho67 (keep_size (w := w) (g := g) (row := none) (by repeat (first | (with_reducible first | exact HK.out | apply KeepBut.set_ | apply keep_drewN | apply keep_drew | apply keep_alloc) | exact HK.out)))); have n2_ := Aside0.mk (IsS92.below (by repeat (first | (with_reducible first | exact HI0.out | apply IsS92.alloc | apply IsS92.drewN | apply IsS92.drew | apply IsS92.set_1) | exact HI0.out)) hb); have n3_ := Aside0.mk (KeepBut.trans (by repeat (first | (with_reducible first | exact HK.out | apply KeepBut.set_ | apply keep_drewN | apply keep_drew | apply keep_alloc) | exact HK.out)) (KeepBut.of_below hb g none) (.inl rfl)); have n4_ := Aside0.mk (below_step (by repeat (first | (with_reducible first | exact HB.out | apply below_alloc | apply pw_below_drewN | apply below_drew1 | refine below_set ?_ (IsS92.ge HI0.out)) | exact HB.out)) hb); clear HO214; clear HI0; clear HK; clear HB; have HO214 := n0_; have HO245 := n1_; have HI0 := n2_; have HK := n3_; have HB := n4_; clear n0_ n1_ n2_ n3_ n4_; clear hb ho67; have p60 : 0 ≤ (t218 : Int) := of_decide_eq_true (by first | (with_reducible assumption) | assumption); have q60 : (t218 : Int) < ((t212.length : Int) : Int) := of_decide_eq_true (by first | (with_reducible assumption) | assumption); obtain ⟨go60, co60, eo60, gb60, gl60, cl60, HG60⟩ := Kd.S_form HO214.out (by omega); (first | cases eo60 | (injection eo60 with ea_ en_ ec_; (first | subst ea_ | (injection ea_ with ea_; subst ea_)); subst ec_; clear en_)); have GB60 := Aside0.mk gb60; have GG60 := Aside0.mk HG60; clear gb60 gl60 HG60; obtain ⟨_, ce60, hcl60, hM60, hcc60, hfr60, _, _⟩ := Kd.S_elem HO214.out z38 (t218 : Int) p60 q60; obtain ⟨ve60_1, rfl, ge60_1⟩ := k38_openM hM60; have hx60_0 : w66.cell? ⟨go60, (t218 : Int).toNat * 2, none⟩ = some (.int .i64 ((rd_T38 t212 t218).f0)) := hcc60 0 _ rfl; have hx60_1 : w66.cell? ⟨go60, (t218 : Int).toNat * 2 + 1, none⟩ = some (ve60_1) := hcc60 1 _ rfl; have hf60_0 : w66.frozen? ⟨go60, (t218 : Int).toNat * 2, none⟩ = false := hfr60 0; have hf60_1 : w66.frozen? ⟨go60, (t218 : Int).toNat * 2 + 1, none⟩ = false := hfr60 1; clear hcl60 hcc60 hfr60 hM60; replace p60 := eq_true p60; replace q60 := eq_true q60; have n_ := Aside0.mk (Kd.S_mono (ok' := (fun k_ => some k_ ≠ (v244 : Value).ownBlock)) HO214.out (fun k_ hk => hk.2)); clear HO214; have HO214 := n_; clear n_; have HX68 := Aside0.mk (show Kd.S k38 38 w66 w.heap.size (fun k_ => ((fun _ => True)) k_ ∧ ¬ ((fun k_ => some k_ = (v244 : Value).ownBlock)) k_) (.slice (some ⟨go60, 0, none⟩) t212.length co63) t212 from (by (with_reducible repeat (first | apply Kd.S_alloc | apply Kd.S_drewN | apply Kd.S_drew)); exact Kd.S_mono HO214.out (fun k_ hk => ⟨trivial, fun e_ => hk e_⟩))); obtain ⟨oki68, ce68, hcl68, hM68, hcc68, hfr68, hoki68, hH68⟩ := Kd.S_elem HX68.out z38 (t218 : Int) (of_decide_eq_true (by first | (with_reducible assumption) | assumption)) (by have h_ : (t218 : Int) < ((t212.length : Int) : Int) := of_decide_eq_true (by first | (with_reducible assumption) | assumption); first | exact h_ | (have e_ := (Kd.S_reads' HO214.out).1; omega) | simpa using h_); obtain ⟨ve68_1, rfl, ge68_1⟩ := k38_openM hM68; have HP68 := Kd.S_seg hH68 (of_decide_eq_true (by first | (with_reducible assumption) | assumption)) (by have h_ : (t218 : Int) < ((t212.length : Int) : Int) := of_decide_eq_true (by first | (with_reducible assumption) | assumption); first | exact h_ | (have e_ := (Kd.S_reads' HO214.out).1; omega) | simpa using h_) (seg := [v244]) (j := 1) (show 2 ≤ 2 from by decide) (x' := (⟨(rd_T38 t212 t218).f0, y243⟩ : S38)) (k38_mkM _ _ _ (⟨(rd_T38 t212 t218).f0, y243⟩ : S38) (Kd.R_mono (Kd.R_tight rfl (Kd.R_mono (ok' := fun k_ => ((fun _ => True)) k_ ∧ k_ ≠ go60) (Kd.R_apart' (HO245.out) (Kd.S_typed HO214.out) (by decide)) (fun k_ hk => ⟨trivial, fun e_ => (hk.2) (by rw [e_]; rfl)⟩))) (fun _ h_ => Or.inr (h_)))) (fun _ hk => hk) (fun k_ hk_ => ((Kd.R_mono (ok' := fun k_ => ((fun _ => True)) k_ ∧ k_ ≠ go60) (Kd.R_apart' (HO245.out) (Kd.S_typed HO214.out) (by decide)) (fun k_ hk => ⟨trivial, fun e_ => (hk.2) (by rw [e_]; rfl)⟩))).1 k_ hk_.symm); have hx68_1 := hcc68 1 _ rfl; (try simp only [show (k38).sz = 2 from rfl, Nat.mul_one, Nat.add_zero] at hx68_1); have hf68_1 := hfr68 1; (try simp only [show (k38).sz = 2 from rfl, Nat.mul_one, Nat.add_zero] at hf68_1); clear hcl68 hcc68 hfr68 hM68 hoki68 hH68) | ((with_reducible refine gate_store (t := 36) (p := 75) rfl ?_); refine store_event (t := 36) (p := 75) (v := ?vo_w69) (w1 := (w66.setCell ⟨go60, (t218 : Int).toNat * 2 + 1, none⟩ (v244))) ?hg ?ho ?hn ?hr ?_; (case ho => rfl); (case hg => rfl); (case hn => rfl); (case hr => first | (go_simp; done) | (go_simp; rfl) | (obtain ⟨_, _, rfl⟩ := Kd.R_slice HO245.out; first | (go_simp; done) | (go_simp; rfl))); intro w69 hw; have hg : w66.grownBy w69 (some go60) := (by rw [hw]; exact HP68.2); have hp_ : Kd.S k38 38 w69 w.heap.size (fun _ => True) (.slice (some ⟨go60, 0, none⟩) t212.length co63) y246 := (by rw [hw, Ny246.out]; exact HP68.1); clear HP68; have n0_ := Aside0.mk (IsS92.grown (by repeat (first | (with_reducible first | exact HI0.out | apply IsS92.alloc | apply IsS92.drewN | apply IsS92.drew | apply IsS92.set_1) | exact HI0.out)) hg (IsS92.own_neS HI0.out HO214.out (by decide))); have n1_ := Aside0.mk (hp_); have n2_ := Aside0.mk ((by rw [hw]; exact below_set (HB.out) (Nat.le_trans HL.out GB60.out) : Below w0.heap.size w0 w69)); have n3_ := Aside0.mk (KeepBut.trans (by repeat (first | (with_reducible first | exact HK.out | apply KeepBut.set_ | apply keep_drewN | apply keep_drew | apply keep_alloc) | exact HK.out)) (KeepBut.of_grown hg g) (Kd.S_base2 HO214.out)); clear HI0; clear HO214; clear HB; clear HK; clear HO245; have HI0 := n0_; have HO214 := n1_; have HB := n2_; have HK := n3_; clear n0_ n1_ n2_ n3_; clear hg hw hp_))
                  go_ret
                  exact ⟨_, by first | rfl | (simp [errW_none, errW_some] <;> rfl) | (simp [*, errW_none, errW_some] <;> rfl), by (with_reducible repeat (first | apply Kd.S_alloc | apply Kd.S_drewN | apply Kd.S_drew)); exact HO214.out, by repeat (first | (with_reducible first | exact HI0.out | apply IsS92.alloc | apply IsS92.drewN | apply IsS92.drew | apply IsS92.set_1) | exact HI0.out), by repeat (first | (with_reducible first | exact HB.out | apply below_alloc | apply pw_below_drewN | apply below_drew1 | refine below_set ?_ (IsS92.ge HI0.out)) | exact HB.out), by repeat (first | (with_reducible first | exact HK.out | apply KeepBut.set_ | apply keep_drewN | apply keep_drew | apply keep_alloc) | exact HK.out)⟩
                · rw [if_neg c59] at H
                  exact absurd H (by simp)
              · rw [if_neg c58] at H
                exact absurd H (by simp)
            · rw [if_neg c57] at H
              have c57b0 : (t220 == 4) = false := beq_eq_false_iff_ne.mpr c57
              have c57b1 : (t220 != 4) = true := bne_iff_ne.mpr c57
              by_cases c70 : 0 ≤ t218
              · rw [if_pos c70] at H
                have c70b0 : decide (0 ≤ t218) = true := decide_eq_true c70
                clear c70
                by_cases c71 : t218 < (t212.length : Int)
                · rw [if_pos c71] at H
                  have c71b0 : decide (t218 < (t212.length : Int)) = true := decide_eq_true c71
                  clear c71
                  obtain ⟨y247, hy247⟩ : ∃ y_ : List (S38), y_ = (t212.set (t218 : Int).toNat (⟨(rd_T38 t212 t218).f0, ([] : List Int)⟩ : S38)) := ⟨_, rfl⟩
                  replace H : (some (y247, t221)) = some (r1, r2) := by first | (rw [hy247]; with_reducible exact H) | (have H2_ := (Option.bind_some _ _).symm.trans H; rw [hy247]; with_reducible exact H2_) | (have H2_ := (Option.bind_some _ _).symm.trans H; with_reducible exact H2_) | with_reducible exact H | (rw [hy247]; exact H) | exact H
                  have Ny247 := Aside0.mk hy247
                  clear hy247
                  simp only [Option.some.injEq, Prod.mk.injEq] at H
                  obtain ⟨rfl, rfl⟩ := H
                  go_enter Try.func64, Try.ntmps64
                  go_wp2_with (first | ((with_reducible refine gate_callee (f := 88) rfl ?_); refine goesL_ (some 6) rfl rfl Try.func88 (by kernel_rfl) rfl #[.pointer (some ⟨g, 0, none⟩)] rfl (by (try simp only [List.map_toArray, List.map_cons, List.map_nil]); first | done | rfl | (simp only [List.length_drop, List.length_take]; rfl)) ?_; (with_reducible refine (spec_l71Classes.calls k g s0_0 s0_1 t212 t215 w0 _ ?side1 ?side2 A2.out).mono ?_); (case side1 => repeat (first | (with_reducible first | exact HI0.out | apply IsS92.alloc | apply IsS92.drewN | apply IsS92.drew | apply IsS92.set_1) | exact HI0.out)); (case side2 => repeat (first | (with_reducible first | exact HB.out | apply below_alloc | apply pw_below_drewN | apply below_drew1 | refine below_set ?_ (IsS92.ge HI0.out)) | exact HB.out)); rintro e w73 ⟨v213, rfl, ho0, hi, hb, hk⟩; refine ⟨_, rfl, ?_⟩; have n0_ := Aside0.mk (Kd.S_lower ho0 (keep_size (w := w) (g := g) (row := none) (by repeat (first | (with_reducible first | exact HK.out | apply KeepBut.set_ | apply keep_drewN | apply keep_drew | apply keep_alloc) | exact HK.out)))); have n1_ := Aside0.mk (KeepBut.trans (by repeat (first | (with_reducible first | exact HK.out | apply KeepBut.set_ | apply keep_drewN | apply keep_drew | apply keep_alloc) | exact HK.out)) hk (.inl rfl)); have n2_ := Aside0.mk (hb); have n3_ := Aside0.mk (hi); clear HK; clear HB; clear HI0; have HO214 := n0_; have HK := n1_; have HB := n2_; have HI0 := n3_; clear n0_ n1_ n2_ n3_; (try clear hb); (try clear hb2); (try clear hk); (try clear hi); (try clear ho0)) | ((with_reducible refine gate_callee (f := 65) rfl ?_); refine goesL_ (some 8) rfl rfl Try.func65 (by kernel_rfl) rfl #[.pointer (some ⟨g, 0, none⟩), .int .i64 20] rfl (by (try simp only [List.map_toArray, List.map_cons, List.map_nil]); first | done | rfl | (simp only [List.length_drop, List.length_take]; rfl)) ?_; (with_reducible refine (spec_l6Rd_pick.calls k g s0_0 t215 20 t216 t217 w0 _ ?side1 ?side2 A3.out).mono ?_); (case side1 => repeat (first | (with_reducible first | exact HI0.out | apply IsS92.alloc | apply IsS92.drewN | apply IsS92.drew | apply IsS92.set_1) | exact HI0.out)); (case side2 => repeat (first | (with_reducible first | exact HB.out | apply below_alloc | apply pw_below_drewN | apply below_drew1 | refine below_set ?_ (IsS92.ge HI0.out)) | exact HB.out)); rintro e w74 ⟨rfl, hi, hb, hk⟩; refine ⟨_, rfl, ?_⟩; have n0_ := Aside0.mk (Kd.S_mono (Kd.S_keep (IsS92.apartS (show IsS92 w0 _ g s0_0 t215 from by repeat (first | (with_reducible first | exact HI0.out | apply IsS92.alloc | apply IsS92.drewN | apply IsS92.drew | apply IsS92.set_1) | exact HI0.out)) (by (with_reducible repeat (first | apply Kd.S_alloc | apply Kd.S_drewN | apply Kd.S_drew)); exact HO214.out) (by decide)) hk (fun _ h => h.2)) (fun _ h => h.1)); have n1_ := Aside0.mk (KeepBut.trans (by repeat (first | (with_reducible first | exact HK.out | apply KeepBut.set_ | apply keep_drewN | apply keep_drew | apply keep_alloc) | exact HK.out)) hk (.inl rfl)); have n2_ := Aside0.mk (hb); have n3_ := Aside0.mk (hi); clear HO214; clear HK; clear HB; clear HI0; have HO214 := n0_; have HK := n1_; have HB := n2_; have HI0 := n3_; clear n0_ n1_ n2_ n3_; (try clear hb); (try clear hb2); (try clear hk); (try clear hi); obtain ⟨Ao75, co75, eo75⟩ := Kd.S_slice HO214.out; subst eo75) | ((with_reducible refine gate_callee (f := 65) rfl ?_); refine goesL_ (some 14) rfl rfl Try.func65 (by kernel_rfl) rfl #[.pointer (some ⟨g, 0, none⟩), .int .i64 (t212.length : Int)] rfl (by (try simp only [List.map_toArray, List.map_cons, List.map_nil]); first | done | rfl | (simp only [List.length_drop, List.length_take]; rfl)) ?_; (with_reducible refine (spec_l6Rd_pick.calls k g s0_0 t217 (t212.length : Int) t218 t219 w0 _ ?side1 ?side2 A7.out).mono ?_); (case side1 => repeat (first | (with_reducible first | exact HI0.out | apply IsS92.alloc | apply IsS92.drewN | apply IsS92.drew | apply IsS92.set_1) | exact HI0.out)); (case side2 => repeat (first | (with_reducible first | exact HB.out | apply below_alloc | apply pw_below_drewN | apply below_drew1 | refine below_set ?_ (IsS92.ge HI0.out)) | exact HB.out)); rintro e w76 ⟨rfl, hi, hb, hk⟩; refine ⟨_, rfl, ?_⟩; have n0_ := Aside0.mk (Kd.S_mono (Kd.S_keep (IsS92.apartS (show IsS92 w0 _ g s0_0 t217 from by repeat (first | (with_reducible first | exact HI0.out | apply IsS92.alloc | apply IsS92.drewN | apply IsS92.drew | apply IsS92.set_1) | exact HI0.out)) (by (with_reducible repeat (first | apply Kd.S_alloc | apply Kd.S_drewN | apply Kd.S_drew)); exact HO214.out) (by decide)) hk (fun _ h => h.2)) (fun _ h => h.1)); have n1_ := Aside0.mk (KeepBut.trans (by repeat (first | (with_reducible first | exact HK.out | apply KeepBut.set_ | apply keep_drewN | apply keep_drew | apply keep_alloc) | exact HK.out)) hk (.inl rfl)); have n2_ := Aside0.mk (hb); have n3_ := Aside0.mk (hi); clear HO214; clear HK; clear HB; clear HI0; have HO214 := n0_; have HK := n1_; have HB := n2_; have HI0 := n3_; clear n0_ n1_ n2_ n3_; (try clear hb); (try clear hb2); (try clear hk); (try clear hi)) | ((with_reducible refine gate_callee (f := 65) rfl ?_); refine goesL_ (some 16) rfl rfl Try.func65 (by kernel_rfl) rfl #[.pointer (some ⟨g, 0, none⟩), .int .i64 6] rfl (by (try simp only [List.map_toArray, List.map_cons, List.map_nil]); first | done | rfl | (simp only [List.length_drop, List.length_take]; rfl)) ?_; (with_reducible refine (spec_l6Rd_pick.calls k g s0_0 t219 6 t220 t221 w0 _ ?side1 ?side2 A8.out).mono ?_); (case side1 => repeat (first | (with_reducible first | exact HI0.out | apply IsS92.alloc | apply IsS92.drewN | apply IsS92.drew | apply IsS92.set_1) | exact HI0.out)); (case side2 => repeat (first | (with_reducible first | exact HB.out | apply below_alloc | apply pw_below_drewN | apply below_drew1 | refine below_set ?_ (IsS92.ge HI0.out)) | exact HB.out)); rintro e w77 ⟨rfl, hi, hb, hk⟩; refine ⟨_, rfl, ?_⟩; have n0_ := Aside0.mk (Kd.S_mono (Kd.S_keep (IsS92.apartS (show IsS92 w0 _ g s0_0 t219 from by repeat (first | (with_reducible first | exact HI0.out | apply IsS92.alloc | apply IsS92.drewN | apply IsS92.drew | apply IsS92.set_1) | exact HI0.out)) (by (with_reducible repeat (first | apply Kd.S_alloc | apply Kd.S_drewN | apply Kd.S_drew)); exact HO214.out) (by decide)) hk (fun _ h => h.2)) (fun _ h => h.1)); have n1_ := Aside0.mk (KeepBut.trans (by repeat (first | (with_reducible first | exact HK.out | apply KeepBut.set_ | apply keep_drewN | apply keep_drew | apply keep_alloc) | exact HK.out)) hk (.inl rfl)); have n2_ := Aside0.mk (hb); have n3_ := Aside0.mk (hi); clear HO214; clear HK; clear HB; clear HI0; have HO214 := n0_; have HK := n1_; have HB := n2_; have HI0 := n3_; clear n0_ n1_ n2_ n3_; (try clear hb); (try clear hb2); (try clear hk); (try clear hi); have p72 : 0 ≤ (t218 : Int) := of_decide_eq_true (by first | (with_reducible assumption) | assumption); have q72 : (t218 : Int) < ((t212.length : Int) : Int) := of_decide_eq_true (by first | (with_reducible assumption) | assumption); obtain ⟨go72, co72, eo72, gb72, gl72, cl72, HG72⟩ := Kd.S_form HO214.out (by omega); (first | cases eo72 | (injection eo72 with ea_ en_ ec_; (first | subst ea_ | (injection ea_ with ea_; subst ea_)); subst ec_; clear en_)); have GB72 := Aside0.mk gb72; have GG72 := Aside0.mk HG72; clear gb72 gl72 HG72; obtain ⟨_, ce72, hcl72, hM72, hcc72, hfr72, _, _⟩ := Kd.S_elem HO214.out z38 (t218 : Int) p72 q72; obtain ⟨ve72_1, rfl, ge72_1⟩ := k38_openM hM72; have hx72_0 : w77.cell? ⟨go72, (t218 : Int).toNat * 2, none⟩ = some (.int .i64 ((rd_T38 t212 t218).f0)) := hcc72 0 _ rfl; have hx72_1 : w77.cell? ⟨go72, (t218 : Int).toNat * 2 + 1, none⟩ = some (ve72_1) := hcc72 1 _ rfl; have hf72_0 : w77.frozen? ⟨go72, (t218 : Int).toNat * 2, none⟩ = false := hfr72 0; have hf72_1 : w77.frozen? ⟨go72, (t218 : Int).toNat * 2 + 1, none⟩ = false := hfr72 1; clear hcl72 hcc72 hfr72 hM72; replace p72 := eq_true p72; replace q72 := eq_true q72; have HX78 := Aside0.mk (show Kd.S k38 38 w77 w.heap.size (fun k_ => ((fun _ => True)) k_ ∧ ¬ ((fun _ => False)) k_) (.slice (some ⟨go72, 0, none⟩) t212.length co75) t212 from (by (with_reducible repeat (first | apply Kd.S_alloc | apply Kd.S_drewN | apply Kd.S_drew)); exact Kd.S_mono HO214.out (fun k_ hk => ⟨trivial, fun e_ => e_⟩))); obtain ⟨oki78, ce78, hcl78, hM78, hcc78, hfr78, hoki78, hH78⟩ := Kd.S_elem HX78.out z38 (t218 : Int) (of_decide_eq_true (by first | (with_reducible assumption) | assumption)) (by have h_ : (t218 : Int) < ((t212.length : Int) : Int) := of_decide_eq_true (by first | (with_reducible assumption) | assumption); first | exact h_ | (have e_ := (Kd.S_reads' HO214.out).1; omega) | simpa using h_); obtain ⟨ve78_1, rfl, ge78_1⟩ := k38_openM hM78; have HP78 := Kd.S_seg hH78 (of_decide_eq_true (by first | (with_reducible assumption) | assumption)) (by have h_ : (t218 : Int) < ((t212.length : Int) : Int) := of_decide_eq_true (by first | (with_reducible assumption) | assumption); first | exact h_ | (have e_ := (Kd.S_reads' HO214.out).1; omega) | simpa using h_) (seg := [.slice none 0 0]) (j := 1) (show 2 ≤ 2 from by decide) (x' := (⟨(rd_T38 t212 t218).f0, ([] : List Int)⟩ : S38)) (k38_mkM _ _ _ (⟨(rd_T38 t212 t218).f0, ([] : List Int)⟩ : S38) (Kd.R_nil _ _ _ _ _)) (fun _ hk => hk) (fun k_ hk_ => hk_.elim); have hx78_1 := hcc78 1 _ rfl; (try simp only [show (k38).sz = 2 from rfl, Nat.mul_one, Nat.add_zero] at hx78_1); have hf78_1 := hfr78 1; (try simp only [show (k38).sz = 2 from rfl, Nat.mul_one, Nat.add_zero] at hf78_1); clear hcl78 hcc78 hfr78 hM78 hoki78 hH78) | ((with_reducible refine gate_store (t := 36) (p := 20) rfl ?_); refine store_event (t := 36) (p := 20) (v := ?vo_w79) (w1 := (w77.setCell ⟨go72, (t218 : Int).toNat * 2 + 1, none⟩ (.slice none 0 0))) ?hg ?ho ?hn ?hr ?_; (case ho => rfl); (case hg => rfl); (case hn => rfl); (case hr => first | (go_simp; done) | (go_simp; rfl)); intro w79 hw; have hg : w77.grownBy w79 (some go72) := (by rw [hw]; exact HP78.2); have hp_ : Kd.S k38 38 w79 w.heap.size (fun _ => True) (.slice (some ⟨go72, 0, none⟩) t212.length co75) y247 := (by rw [hw, Ny247.out]; exact HP78.1); clear HP78; have n0_ := Aside0.mk (IsS92.grown (by repeat (first | (with_reducible first | exact HI0.out | apply IsS92.alloc | apply IsS92.drewN | apply IsS92.drew | apply IsS92.set_1) | exact HI0.out)) hg (IsS92.own_neS HI0.out HO214.out (by decide))); have n1_ := Aside0.mk (hp_); have n2_ := Aside0.mk ((by rw [hw]; exact below_set (HB.out) (Nat.le_trans HL.out GB72.out) : Below w0.heap.size w0 w79)); have n3_ := Aside0.mk (KeepBut.trans (by repeat (first | (with_reducible first | exact HK.out | apply KeepBut.set_ | apply keep_drewN | apply keep_drew | apply keep_alloc) | exact HK.out)) (KeepBut.of_grown hg g) (Kd.S_base2 HO214.out)); clear HI0; clear HO214; clear HB; clear HK; have HI0 := n0_; have HO214 := n1_; have HB := n2_; have HK := n3_; clear n0_ n1_ n2_ n3_; clear hg hw hp_))
                  go_ret
                  exact ⟨_, by first | rfl | (simp [errW_none, errW_some] <;> rfl) | (simp [*, errW_none, errW_some] <;> rfl), by (with_reducible repeat (first | apply Kd.S_alloc | apply Kd.S_drewN | apply Kd.S_drew)); exact HO214.out, by repeat (first | (with_reducible first | exact HI0.out | apply IsS92.alloc | apply IsS92.drewN | apply IsS92.drew | apply IsS92.set_1) | exact HI0.out), by repeat (first | (with_reducible first | exact HB.out | apply below_alloc | apply pw_below_drewN | apply below_drew1 | refine below_set ?_ (IsS92.ge HI0.out)) | exact HB.out), by repeat (first | (with_reducible first | exact HK.out | apply KeepBut.set_ | apply keep_drewN | apply keep_drew | apply keep_alloc) | exact HK.out)⟩
                · rw [if_neg c71] at H
                  exact absurd H (by simp)
              · rw [if_neg c70] at H
                exact absurd H (by simp)

end Go.Proofs.Ytgmjolngnhdafaa.P

end
section
namespace Go.Proofs.Ytgmjolngnhdafaa.P
open Go.RowKit Go.Proofs.YtgmjolngnhdafaaW.PrintWords Go.Proofs.YtgmjolngnhdafaaW.PrintLast Go.Proofs.YtgmjolngnhdafaaW.PrintMore
attribute [local go_sem] max2_int min2_int max_two min_two max_three min_three max_four min_four
set_option linter.unusedVariables false
set_option linter.unusedSimpArgs false

def spec_l71OffB.T14 : Bool × List (List Nat × List Nat) := (true, [([], []), ([], []), ([1], [1]), ([2], [2]), ([], []), ([4], [4]), ([5], [5]), ([], []), ([7], [7]), ([8], [8]), ([], []), ([10], [10]), ([11], [11]), ([3, 6, 9, 12], [3, 6, 9, 12]), ([0, 13], [0, 13]), ([14, 14, 0, 1, 2, 3, 4, 5, 6, 7, 8, 9, 10, 11, 12, 13, 14], [14])])
def spec_l71OffB.B14 : List Nat := [0, 0, 2, 6, 0, 16, 48, 0, 128, 384, 0, 1024, 3072, 8190, 16383, 32767]
theorem spec_l71OffB.tab14 : rtab .any (opsOf Try.f64 14) = spec_l71OffB.T14 := by kernel_rfl
theorem spec_l71OffB.bits14 : waitsOk spec_l71OffB.T14.2 spec_l71OffB.B14 = true := by kernel_rfl
set_option maxHeartbeats 8000000 in
set_option maxRecDepth 100000 in
theorem spec_l71OffB.calls (k : Nat) (g : Nat) (s0_0 : List Int) (s0_1 : Int) (r1 : List (S38)) (r2 : Int) (w0 w : World) (hI : IsS92 w0 w g s0_0 s0_1) (hB : Below w0.heap.size w0 w) (h : spec_l71OffB.f k s0_0 s0_1 = some (r1, r2)) :
    Calls Try.prog 64 #[.pointer (some ⟨g, 0, none⟩)] w fun e w' => ∃ v0_ : Value, e = .returned (v0_) ∧ Kd.N k38 38 w' w.heap.size (fun k_ => (w.heap.size ≤ k_)) v0_ r1 ∧ IsS92 w0 w' g s0_0 r2 ∧ Below w0.heap.size w0 w' ∧ KeepBut w w' g none := by
  have hu38 := Try.underlying38
  have HI0 := Aside0.mk hI
  have HK := Aside0.mk (KeepBut.refl w g none)
  have HL := Aside0.mk hB.size
  clear hI
  have HW0 := Aside0.mk hB.size
  have HB := Aside0.mk hB
  clear hB
  have H : ((spec_l71Classes.f k s0_0 s0_1).bind fun bt212 => ((spec_l6Rd_pick.f k s0_0 bt212.2 20).bind fun bt216 => (if bt216.1 > 0 then (some (bt212.1, bt216.2)) else ((spec_l6Rd_pick.f k s0_0 bt216.2 (bt212.1.length : Int)).bind fun bt218 => ((spec_l6Rd_pick.f k s0_0 bt218.2 6).bind fun bt220 => (if bt220.1 = 0 then ((spec_l6Rd_pick.f k s0_0 bt220.2 7).bind fun bt222 => (if 0 ≤ bt218.1 then (if bt218.1 < (bt212.1.length : Int) then (some ((bt212.1.set (bt218.1 : Int).toNat (⟨wrap64 (bt222.1 - 1), (rd_T38 bt212.1 bt218.1).f1⟩ : S38)), bt222.2)) else (none)) else (none))) else (if bt220.1 = 1 then (if 0 ≤ bt218.1 then (if bt218.1 < (bt212.1.length : Int) then (none) else (none)) else (none)) else (if bt220.1 = 2 then (if 1 ≤ (bt212.1.length : Int) then (some ((bt212.1.take (1 : Int).toNat), bt220.2)) else (none)) else (if bt220.1 = 3 then (if 1 < (bt212.1.length : Int) then ((some (([(⟨(rd_T38 bt212.1 1).f0, (rd_T38 bt212.1 1).f1⟩ : S38), (⟨(rd_T38 bt212.1 1).f0, (rd_T38 bt212.1 1).f1⟩ : S38), (⟨(rd_T38 bt212.1 1).f0, (rd_T38 bt212.1 1).f1⟩ : S38), (⟨(rd_T38 bt212.1 1).f0, (rd_T38 bt212.1 1).f1⟩ : S38)] : List (S38)) : List (S38))).bind fun y233 => (if bt212.1.length + y233.length < 4398046511104 then (some ((bt212.1 ++ y233), bt220.2)) else (none))) else (none)) else (if bt220.1 = 4 then (none) else (if 0 ≤ bt218.1 then (if bt218.1 < (bt212.1.length : Int) then (some ((bt212.1.set (bt218.1 : Int).toNat (⟨(rd_T38 bt212.1 bt218.1).f0, ([] : List Int)⟩ : S38)), bt220.2)) else (none)) else (none)))))))))))) = some (r1, r2) := h
  clear h
  replace H := Option.bind_eq_some_iff.mp H
  obtain ⟨⟨t212, t215⟩, A20, H⟩ := H
  replace H : ((spec_l6Rd_pick.f k s0_0 t215 20).bind fun bt216 => (if bt216.1 > 0 then (some (t212, bt216.2)) else ((spec_l6Rd_pick.f k s0_0 bt216.2 (t212.length : Int)).bind fun bt218 => ((spec_l6Rd_pick.f k s0_0 bt218.2 6).bind fun bt220 => (if bt220.1 = 0 then ((spec_l6Rd_pick.f k s0_0 bt220.2 7).bind fun bt222 => (if 0 ≤ bt218.1 then (if bt218.1 < (t212.length : Int) then (some ((t212.set (bt218.1 : Int).toNat (⟨wrap64 (bt222.1 - 1), (rd_T38 t212 bt218.1).f1⟩ : S38)), bt222.2)) else (none)) else (none))) else (if bt220.1 = 1 then (if 0 ≤ bt218.1 then (if bt218.1 < (t212.length : Int) then (none) else (none)) else (none)) else (if bt220.1 = 2 then (if 1 ≤ (t212.length : Int) then (some ((t212.take (1 : Int).toNat), bt220.2)) else (none)) else (if bt220.1 = 3 then (if 1 < (t212.length : Int) then ((some (([(⟨(rd_T38 t212 1).f0, (rd_T38 t212 1).f1⟩ : S38), (⟨(rd_T38 t212 1).f0, (rd_T38 t212 1).f1⟩ : S38), (⟨(rd_T38 t212 1).f0, (rd_T38 t212 1).f1⟩ : S38), (⟨(rd_T38 t212 1).f0, (rd_T38 t212 1).f1⟩ : S38)] : List (S38)) : List (S38))).bind fun y233 => (if t212.length + y233.length < 4398046511104 then (some ((t212 ++ y233), bt220.2)) else (none))) else (none)) else (if bt220.1 = 4 then (none) else (if 0 ≤ bt218.1 then (if bt218.1 < (t212.length : Int) then (some ((t212.set (bt218.1 : Int).toNat (⟨(rd_T38 t212 bt218.1).f0, ([] : List Int)⟩ : S38)), bt220.2)) else (none)) else (none))))))))))) = some (r1, r2) := H
  have A2 := Aside0.mk A20
  clear A20
  replace H := Option.bind_eq_some_iff.mp H
  obtain ⟨⟨t216, t217⟩, A30, H⟩ := H
  replace H : (if t216 > 0 then (some (t212, t217)) else ((spec_l6Rd_pick.f k s0_0 t217 (t212.length : Int)).bind fun bt218 => ((spec_l6Rd_pick.f k s0_0 bt218.2 6).bind fun bt220 => (if bt220.1 = 0 then ((spec_l6Rd_pick.f k s0_0 bt220.2 7).bind fun bt222 => (if 0 ≤ bt218.1 then (if bt218.1 < (t212.length : Int) then (some ((t212.set (bt218.1 : Int).toNat (⟨wrap64 (bt222.1 - 1), (rd_T38 t212 bt218.1).f1⟩ : S38)), bt222.2)) else (none)) else (none))) else (if bt220.1 = 1 then (if 0 ≤ bt218.1 then (if bt218.1 < (t212.length : Int) then (none) else (none)) else (none)) else (if bt220.1 = 2 then (if 1 ≤ (t212.length : Int) then (some ((t212.take (1 : Int).toNat), bt220.2)) else (none)) else (if bt220.1 = 3 then (if 1 < (t212.length : Int) then ((some (([(⟨(rd_T38 t212 1).f0, (rd_T38 t212 1).f1⟩ : S38), (⟨(rd_T38 t212 1).f0, (rd_T38 t212 1).f1⟩ : S38), (⟨(rd_T38 t212 1).f0, (rd_T38 t212 1).f1⟩ : S38), (⟨(rd_T38 t212 1).f0, (rd_T38 t212 1).f1⟩ : S38)] : List (S38)) : List (S38))).bind fun y233 => (if t212.length + y233.length < 4398046511104 then (some ((t212 ++ y233), bt220.2)) else (none))) else (none)) else (if bt220.1 = 4 then (none) else (if 0 ≤ bt218.1 then (if bt218.1 < (t212.length : Int) then (some ((t212.set (bt218.1 : Int).toNat (⟨(rd_T38 t212 bt218.1).f0, ([] : List Int)⟩ : S38)), bt220.2)) else (none)) else (none)))))))))) = some (r1, r2) := H
  have A3 := Aside0.mk A30
  clear A30
  by_cases c4 : t216 > 0
  · rw [if_pos c4] at H
    have c4b0 : decide (0 < t216) = true := decide_eq_true c4
    clear c4
    simp only [Option.some.injEq, Prod.mk.injEq] at H
    obtain ⟨rfl, rfl⟩ := H
    go_enter Try.func64, Try.ntmps64
    go_wp2_with (first | ((with_reducible refine gate_callee (f := 88) rfl ?_); refine goesL_ (some 6) rfl rfl Try.func88 (by kernel_rfl) rfl #[.pointer (some ⟨g, 0, none⟩)] rfl (by (try simp only [List.map_toArray, List.map_cons, List.map_nil]); first | done | rfl | (simp only [List.length_drop, List.length_take]; rfl)) ?_; (with_reducible refine (spec_l71Classes.calls k g s0_0 s0_1 t212 t215 w0 _ ?side1 ?side2 A2.out).mono ?_); (case side1 => repeat (first | (with_reducible first | exact HI0.out | apply IsS92.alloc | apply IsS92.drewN | apply IsS92.drew | apply IsS92.set_1) | exact HI0.out)); (case side2 => repeat (first | (with_reducible first | exact HB.out | apply below_alloc | apply pw_below_drewN | apply below_drew1 | refine below_set ?_ (IsS92.ge HI0.out)) | exact HB.out)); rintro e w5 ⟨v213, rfl, ho0, hi, hb, hk⟩; refine ⟨_, rfl, ?_⟩; have n0_ := Aside0.mk (Kd.N_lower (Kd.N_mono (ok' := fun k_ => (w.heap.size ≤ k_) ∧ k_ ≠ g) (Kd.S_N (Kd.S_bound ho0)) (fun k_ hk_ => ⟨(Nat.le_trans (keep_size (w := w) (g := g) (row := none) (by repeat (first | (with_reducible first | exact HK.out | apply KeepBut.set_ | apply keep_drewN | apply keep_drew | apply keep_alloc) | exact HK.out))) hk_.2.1), (IsS92.fresh (by repeat (first | (with_reducible first | exact HI0.out | apply IsS92.alloc | apply IsS92.drewN | apply IsS92.drew | apply IsS92.set_1) | exact HI0.out)) k_ hk_.2.1)⟩)) (keep_size (w := w) (g := g) (row := none) (by repeat (first | (with_reducible first | exact HK.out | apply KeepBut.set_ | apply keep_drewN | apply keep_drew | apply keep_alloc) | exact HK.out)))); have n1_ := Aside0.mk (KeepBut.trans (by repeat (first | (with_reducible first | exact HK.out | apply KeepBut.set_ | apply keep_drewN | apply keep_drew | apply keep_alloc) | exact HK.out)) hk (.inl rfl)); have n2_ := Aside0.mk (hb); have n3_ := Aside0.mk (hi); clear HK; clear HB; clear HI0; have HO214 := n0_; have HK := n1_; have HB := n2_; have HI0 := n3_; clear n0_ n1_ n2_ n3_; (try clear hb); (try clear hb2); (try clear hk); (try clear hi); (try clear ho0)) | ((with_reducible refine gate_callee (f := 65) rfl ?_); refine goesL_ (some 8) rfl rfl Try.func65 (by kernel_rfl) rfl #[.pointer (some ⟨g, 0, none⟩), .int .i64 20] rfl (by (try simp only [List.map_toArray, List.map_cons, List.map_nil]); first | done | rfl | (simp only [List.length_drop, List.length_take]; rfl)) ?_; (with_reducible refine (spec_l6Rd_pick.calls k g s0_0 t215 20 t216 t217 w0 _ ?side1 ?side2 A3.out).mono ?_); (case side1 => repeat (first | (with_reducible first | exact HI0.out | apply IsS92.alloc | apply IsS92.drewN | apply IsS92.drew | apply IsS92.set_1) | exact HI0.out)); (case side2 => repeat (first | (with_reducible first | exact HB.out | apply below_alloc | apply pw_below_drewN | apply below_drew1 | refine below_set ?_ (IsS92.ge HI0.out)) | exact HB.out)); rintro e w6 ⟨rfl, hi, hb, hk⟩; refine ⟨_, rfl, ?_⟩; have n0_ := Aside0.mk (Kd.N_mono (Kd.N_keep (Kd.N_mono (ok := fun k_ => (((w.heap.size ≤ k_)) ∧ k_ ≠ g)) (by (with_reducible repeat (first | apply Kd.N_alloc | apply Kd.N_drewN | apply Kd.N_drew)); exact HO214.out) (fun k_ hk_ => (⟨hk_, hk_.2⟩ : _ ∧ k_ ≠ g))) hk (fun _ h => h.2)) (fun _ h => h.1)); have n1_ := Aside0.mk (KeepBut.trans (by repeat (first | (with_reducible first | exact HK.out | apply KeepBut.set_ | apply keep_drewN | apply keep_drew | apply keep_alloc) | exact HK.out)) hk (.inl rfl)); have n2_ := Aside0.mk (hb); have n3_ := Aside0.mk (hi); clear HO214; clear HK; clear HB; clear HI0; have HO214 := n0_; have HK := n1_; have HB := n2_; have HI0 := n3_; clear n0_ n1_ n2_ n3_; (try clear hb); (try clear hb2); (try clear hk); (try clear hi)))
    go_ret
    exact ⟨_, by first | rfl | (simp [errW_none, errW_some] <;> rfl) | (simp [*, errW_none, errW_some] <;> rfl), by (with_reducible repeat (first | apply Kd.N_alloc | apply Kd.N_drewN | apply Kd.N_drew)); exact Kd.N_mono HO214.out (fun _ hk => hk.1), by repeat (first | (with_reducible first | exact HI0.out | apply IsS92.alloc | apply IsS92.drewN | apply IsS92.drew | apply IsS92.set_1) | exact HI0.out), by repeat (first | (with_reducible first | exact HB.out | apply below_alloc | apply pw_below_drewN | apply below_drew1 | refine below_set ?_ (IsS92.ge HI0.out)) | exact HB.out), by repeat (first | (with_reducible first | exact HK.out | apply KeepBut.set_ | apply keep_drewN | apply keep_drew | apply keep_alloc) | exact HK.out)⟩
  · rw [if_neg c4] at H
    have c4b0 : decide (0 < t216) = false := decide_eq_false c4
    clear c4
    replace H := Option.bind_eq_some_iff.mp H
    obtain ⟨⟨t218, t219⟩, A70, H⟩ := H
    replace H : ((spec_l6Rd_pick.f k s0_0 t219 6).bind fun bt220 => (if bt220.1 = 0 then ((spec_l6Rd_pick.f k s0_0 bt220.2 7).bind fun bt222 => (if 0 ≤ t218 then (if t218 < (t212.length : Int) then (some ((t212.set (t218 : Int).toNat (⟨wrap64 (bt222.1 - 1), (rd_T38 t212 t218).f1⟩ : S38)), bt222.2)) else (none)) else (none))) else (if bt220.1 = 1 then (if 0 ≤ t218 then (if t218 < (t212.length : Int) then (none) else (none)) else (none)) else (if bt220.1 = 2 then (if 1 ≤ (t212.length : Int) then (some ((t212.take (1 : Int).toNat), bt220.2)) else (none)) else (if bt220.1 = 3 then (if 1 < (t212.length : Int) then ((some (([(⟨(rd_T38 t212 1).f0, (rd_T38 t212 1).f1⟩ : S38), (⟨(rd_T38 t212 1).f0, (rd_T38 t212 1).f1⟩ : S38), (⟨(rd_T38 t212 1).f0, (rd_T38 t212 1).f1⟩ : S38), (⟨(rd_T38 t212 1).f0, (rd_T38 t212 1).f1⟩ : S38)] : List (S38)) : List (S38))).bind fun y233 => (if t212.length + y233.length < 4398046511104 then (some ((t212 ++ y233), bt220.2)) else (none))) else (none)) else (if bt220.1 = 4 then (none) else (if 0 ≤ t218 then (if t218 < (t212.length : Int) then (some ((t212.set (t218 : Int).toNat (⟨(rd_T38 t212 t218).f0, ([] : List Int)⟩ : S38)), bt220.2)) else (none)) else (none)))))))) = some (r1, r2) := H
    have A7 := Aside0.mk A70
    clear A70
    replace H := Option.bind_eq_some_iff.mp H
    obtain ⟨⟨t220, t221⟩, A80, H⟩ := H
    replace H : (if t220 = 0 then ((spec_l6Rd_pick.f k s0_0 t221 7).bind fun bt222 => (if 0 ≤ t218 then (if t218 < (t212.length : Int) then (some ((t212.set (t218 : Int).toNat (⟨wrap64 (bt222.1 - 1), (rd_T38 t212 t218).f1⟩ : S38)), bt222.2)) else (none)) else (none))) else (if t220 = 1 then (if 0 ≤ t218 then (if t218 < (t212.length : Int) then (none) else (none)) else (none)) else (if t220 = 2 then (if 1 ≤ (t212.length : Int) then (some ((t212.take (1 : Int).toNat), t221)) else (none)) else (if t220 = 3 then (if 1 < (t212.length : Int) then ((some (([(⟨(rd_T38 t212 1).f0, (rd_T38 t212 1).f1⟩ : S38), (⟨(rd_T38 t212 1).f0, (rd_T38 t212 1).f1⟩ : S38), (⟨(rd_T38 t212 1).f0, (rd_T38 t212 1).f1⟩ : S38), (⟨(rd_T38 t212 1).f0, (rd_T38 t212 1).f1⟩ : S38)] : List (S38)) : List (S38))).bind fun y233 => (if t212.length + y233.length < 4398046511104 then (some ((t212 ++ y233), t221)) else (none))) else (none)) else (if t220 = 4 then (none) else (if 0 ≤ t218 then (if t218 < (t212.length : Int) then (some ((t212.set (t218 : Int).toNat (⟨(rd_T38 t212 t218).f0, ([] : List Int)⟩ : S38)), t221)) else (none)) else (none))))))) = some (r1, r2) := H
    have A8 := Aside0.mk A80
    clear A80
    by_cases c9 : t220 = 0
    · rw [if_pos c9] at H
      have c9b0 : (t220 == 0) = true := beq_iff_eq.mpr c9
      have c9b1 : (t220 != 0) = false := bne_eq_false_iff_eq.mpr c9
      clear c9
      replace H := Option.bind_eq_some_iff.mp H
      obtain ⟨⟨t222, t223⟩, A100, H⟩ := H
      replace H : (if 0 ≤ t218 then (if t218 < (t212.length : Int) then (some ((t212.set (t218 : Int).toNat (⟨wrap64 (t222 - 1), (rd_T38 t212 t218).f1⟩ : S38)), t223)) else (none)) else (none)) = some (r1, r2) := H
      have A10 := Aside0.mk A100
      clear A100
      by_cases c11 : 0 ≤ t218
      · rw [if_pos c11] at H
        have c11b0 : decide (0 ≤ t218) = true := decide_eq_true c11
        clear c11
        by_cases c12 : t218 < (t212.length : Int)
        · rw [if_pos c12] at H
          have c12b0 : decide (t218 < (t212.length : Int)) = true := decide_eq_true c12
          clear c12
          obtain ⟨y224, hy224⟩ : ∃ y_ : List (S38), y_ = (t212.set (t218 : Int).toNat (⟨wrap64 (t222 - 1), (rd_T38 t212 t218).f1⟩ : S38)) := ⟨_, rfl⟩
          replace H : (some (y224, t223)) = some (r1, r2) := by first | (rw [hy224]; with_reducible exact H) | (have H2_ := (Option.bind_some _ _).symm.trans H; rw [hy224]; with_reducible exact H2_) | (have H2_ := (Option.bind_some _ _).symm.trans H; with_reducible exact H2_) | with_reducible exact H | (rw [hy224]; exact H) | exact H
          have Ny224 := Aside0.mk hy224
          clear hy224
          simp only [Option.some.injEq, Prod.mk.injEq] at H
          obtain ⟨rfl, rfl⟩ := H
          go_enter Try.func64, Try.ntmps64
          go_wp2_with (first | ((with_reducible refine gate_callee (f := 88) rfl ?_); refine goesL_ (some 6) rfl rfl Try.func88 (by kernel_rfl) rfl #[.pointer (some ⟨g, 0, none⟩)] rfl (by (try simp only [List.map_toArray, List.map_cons, List.map_nil]); first | done | rfl | (simp only [List.length_drop, List.length_take]; rfl)) ?_; (with_reducible refine (spec_l71Classes.calls k g s0_0 s0_1 t212 t215 w0 _ ?side1 ?side2 A2.out).mono ?_); (case side1 => repeat (first | (with_reducible first | exact HI0.out | apply IsS92.alloc | apply IsS92.drewN | apply IsS92.drew | apply IsS92.set_1) | exact HI0.out)); (case side2 => repeat (first | (with_reducible first | exact HB.out | apply below_alloc | apply pw_below_drewN | apply below_drew1 | refine below_set ?_ (IsS92.ge HI0.out)) | exact HB.out)); rintro e w14 ⟨v213, rfl, ho0, hi, hb, hk⟩; refine ⟨_, rfl, ?_⟩; have n0_ := Aside0.mk (Kd.N_lower (Kd.N_mono (ok' := fun k_ => (w.heap.size ≤ k_) ∧ k_ ≠ g) (Kd.S_N (Kd.S_bound ho0)) (fun k_ hk_ => ⟨(Nat.le_trans (keep_size (w := w) (g := g) (row := none) (by repeat (first | (with_reducible first | exact HK.out | apply KeepBut.set_ | apply keep_drewN | apply keep_drew | apply keep_alloc) | exact HK.out))) hk_.2.1), (IsS92.fresh (by repeat (first | (with_reducible first | exact HI0.out | apply IsS92.alloc | apply IsS92.drewN | apply IsS92.drew | apply IsS92.set_1) | exact HI0.out)) k_ hk_.2.1)⟩)) (keep_size (w := w) (g := g) (row := none) (by repeat (first | (with_reducible first | exact HK.out | apply KeepBut.set_ | apply keep_drewN | apply keep_drew | apply keep_alloc) | exact HK.out)))); have n1_ := Aside0.mk (KeepBut.trans (by repeat (first | (with_reducible first | exact HK.out | apply KeepBut.set_ | apply keep_drewN | apply keep_drew | apply keep_alloc) | exact HK.out)) hk (.inl rfl)); have n2_ := Aside0.mk (hb); have n3_ := Aside0.mk (hi); clear HK; clear HB; clear HI0; have HO214 := n0_; have HK := n1_; have HB := n2_; have HI0 := n3_; clear n0_ n1_ n2_ n3_; (try clear hb); (try clear hb2); (try clear hk); (try clear hi); (try clear ho0)) | ((with_reducible refine gate_callee (f := 65) rfl ?_); refine goesL_ (some 8) rfl rfl Try.func65 (by kernel_rfl) rfl #[.pointer (some ⟨g, 0, none⟩), .int .i64 20] rfl (by (try simp only [List.map_toArray, List.map_cons, List.map_nil]); first | done | rfl | (simp only [List.length_drop, List.length_take]; rfl)) ?_; (with_reducible refine (spec_l6Rd_pick.calls k g s0_0 t215 20 t216 t217 w0 _ ?side1 ?side2 A3.out).mono ?_); (case side1 => repeat (first | (with_reducible first | exact HI0.out | apply IsS92.alloc | apply IsS92.drewN | apply IsS92.drew | apply IsS92.set_1) | exact HI0.out)); (case side2 => repeat (first | (with_reducible first | exact HB.out | apply below_alloc | apply pw_below_drewN | apply below_drew1 | refine below_set ?_ (IsS92.ge HI0.out)) | exact HB.out)); rintro e w15 ⟨rfl, hi, hb, hk⟩; refine ⟨_, rfl, ?_⟩; have n0_ := Aside0.mk (Kd.N_mono (Kd.N_keep (Kd.N_mono (ok := fun k_ => (((w.heap.size ≤ k_)) ∧ k_ ≠ g)) (by (with_reducible repeat (first | apply Kd.N_alloc | apply Kd.N_drewN | apply Kd.N_drew)); exact HO214.out) (fun k_ hk_ => (⟨hk_, hk_.2⟩ : _ ∧ k_ ≠ g))) hk (fun _ h => h.2)) (fun _ h => h.1)); have n1_ := Aside0.mk (KeepBut.trans (by repeat (first | (with_reducible first | exact HK.out | apply KeepBut.set_ | apply keep_drewN | apply keep_drew | apply keep_alloc) | exact HK.out)) hk (.inl rfl)); have n2_ := Aside0.mk (hb); have n3_ := Aside0.mk (hi); clear HO214; clear HK; clear HB; clear HI0; have HO214 := n0_; have HK := n1_; have HB := n2_; have HI0 := n3_; clear n0_ n1_ n2_ n3_; (try clear hb); (try clear hb2); (try clear hk); (try clear hi); obtain ⟨Ao16, co16, eo16⟩ := Kd.N_slice HO214.out; subst eo16) | ((with_reducible refine gate_callee (f := 65) rfl ?_); refine goesL_ (some 14) rfl rfl Try.func65 (by kernel_rfl) rfl #[.pointer (some ⟨g, 0, none⟩), .int .i64 (t212.length : Int)] rfl (by (try simp only [List.map_toArray, List.map_cons, List.map_nil]); first | done | rfl | (simp only [List.length_drop, List.length_take]; rfl)) ?_; (with_reducible refine (spec_l6Rd_pick.calls k g s0_0 t217 (t212.length : Int) t218 t219 w0 _ ?side1 ?side2 A7.out).mono ?_); (case side1 => repeat (first | (with_reducible first | exact HI0.out | apply IsS92.alloc | apply IsS92.drewN | apply IsS92.drew | apply IsS92.set_1) | exact HI0.out)); (case side2 => repeat (first | (with_reducible first | exact HB.out | apply below_alloc | apply pw_below_drewN | apply below_drew1 | refine below_set ?_ (IsS92.ge HI0.out)) | exact HB.out)); rintro e w17 ⟨rfl, hi, hb, hk⟩; refine ⟨_, rfl, ?_⟩; have n0_ := Aside0.mk (Kd.N_mono (Kd.N_keep (Kd.N_mono (ok := fun k_ => (((w.heap.size ≤ k_)) ∧ k_ ≠ g)) (by (with_reducible repeat (first | apply Kd.N_alloc | apply Kd.N_drewN | apply Kd.N_drew)); exact HO214.out) (fun k_ hk_ => (⟨hk_, hk_.2⟩ : _ ∧ k_ ≠ g))) hk (fun _ h => h.2)) (fun _ h => h.1)); have n1_ := Aside0.mk (KeepBut.trans (by repeat (first | (with_reducible first | exact HK.out | apply KeepBut.set_ | apply keep_drewN | apply keep_drew | apply keep_alloc) | exact HK.out)) hk (.inl rfl)); have n2_ := Aside0.mk (hb); have n3_ := Aside0.mk (hi); clear HO214; clear HK; clear HB; clear HI0; have HO214 := n0_; have HK := n1_; have HB := n2_; have HI0 := n3_; clear n0_ n1_ n2_ n3_; (try clear hb); (try clear hb2); (try clear hk); (try clear hi)) | ((with_reducible refine gate_callee (f := 65) rfl ?_); refine goesL_ (some 16) rfl rfl Try.func65 (by kernel_rfl) rfl #[.pointer (some ⟨g, 0, none⟩), .int .i64 6] rfl (by (try simp only [List.map_toArray, List.map_cons, List.map_nil]); first | done | rfl | (simp only [List.length_drop, List.length_take]; rfl)) ?_; (with_reducible refine (spec_l6Rd_pick.calls k g s0_0 t219 6 t220 t221 w0 _ ?side1 ?side2 A8.out).mono ?_); (case side1 => repeat (first | (with_reducible first | exact HI0.out | apply IsS92.alloc | apply IsS92.drewN | apply IsS92.drew | apply IsS92.set_1) | exact HI0.out)); (case side2 => repeat (first | (with_reducible first | exact HB.out | apply below_alloc | apply pw_below_drewN | apply below_drew1 | refine below_set ?_ (IsS92.ge HI0.out)) | exact HB.out)); rintro e w18 ⟨rfl, hi, hb, hk⟩; refine ⟨_, rfl, ?_⟩; have n0_ := Aside0.mk (Kd.N_mono (Kd.N_keep (Kd.N_mono (ok := fun k_ => (((w.heap.size ≤ k_)) ∧ k_ ≠ g)) (by (with_reducible repeat (first | apply Kd.N_alloc | apply Kd.N_drewN | apply Kd.N_drew)); exact HO214.out) (fun k_ hk_ => (⟨hk_, hk_.2⟩ : _ ∧ k_ ≠ g))) hk (fun _ h => h.2)) (fun _ h => h.1)); have n1_ := Aside0.mk (KeepBut.trans (by repeat (first | (with_reducible first | exact HK.out | apply KeepBut.set_ | apply keep_drewN | apply keep_drew | apply keep_alloc) | exact HK.out)) hk (.inl rfl)); have n2_ := Aside0.mk (hb); have n3_ := Aside0.mk (hi); clear HO214; clear HK; clear HB; clear HI0; have HO214 := n0_; have HK := n1_; have HB := n2_; have HI0 := n3_; clear n0_ n1_ n2_ n3_; (try clear hb); (try clear hb2); (try clear hk); (try clear hi)) | ((with_reducible refine gate_callee (f := 65) rfl ?_); refine goesL_ (some 26) rfl rfl Try.func65 (by kernel_rfl) rfl #[.pointer (some ⟨g, 0, none⟩), .int .i64 7] rfl (by (try simp only [List.map_toArray, List.map_cons, List.map_nil]); first | done | rfl | (simp only [List.length_drop, List.length_take]; rfl)) ?_; (with_reducible refine (spec_l6Rd_pick.calls k g s0_0 t221 7 t222 t223 w0 _ ?side1 ?side2 A10.out).mono ?_); (case side1 => repeat (first | (with_reducible first | exact HI0.out | apply IsS92.alloc | apply IsS92.drewN | apply IsS92.drew | apply IsS92.set_1) | exact HI0.out)); (case side2 => repeat (first | (with_reducible first | exact HB.out | apply below_alloc | apply pw_below_drewN | apply below_drew1 | refine below_set ?_ (IsS92.ge HI0.out)) | exact HB.out)); rintro e w19 ⟨rfl, hi, hb, hk⟩; refine ⟨_, rfl, ?_⟩; have n0_ := Aside0.mk (Kd.N_mono (Kd.N_keep (Kd.N_mono (ok := fun k_ => (((w.heap.size ≤ k_)) ∧ k_ ≠ g)) (by (with_reducible repeat (first | apply Kd.N_alloc | apply Kd.N_drewN | apply Kd.N_drew)); exact HO214.out) (fun k_ hk_ => (⟨hk_, hk_.2⟩ : _ ∧ k_ ≠ g))) hk (fun _ h => h.2)) (fun _ h => h.1)); have n1_ := Aside0.mk (KeepBut.trans (by repeat (first | (with_reducible first | exact HK.out | apply KeepBut.set_ | apply keep_drewN | apply keep_drew | apply keep_alloc) | exact HK.out)) hk (.inl rfl)); have n2_ := Aside0.mk (hb); have n3_ := Aside0.mk (hi); clear HO214; clear HK; clear HB; clear HI0; have HO214 := n0_; have HK := n1_; have HB := n2_; have HI0 := n3_; clear n0_ n1_ n2_ n3_; (try clear hb); (try clear hb2); (try clear hk); (try clear hi); have p13 : 0 ≤ (t218 : Int) := of_decide_eq_true (by first | (with_reducible assumption) | assumption); have q13 : (t218 : Int) < ((t212.length : Int) : Int) := of_decide_eq_true (by first | (with_reducible assumption) | assumption); obtain ⟨go13, co13, eo13, gb13, gl13, cl13, HG13⟩ := Kd.N_form HO214.out (by omega); (first | cases eo13 | (injection eo13 with ea_ en_ ec_; (first | subst ea_ | (injection ea_ with ea_; subst ea_)); subst ec_; clear en_)); have GB13 := Aside0.mk gb13; have GG13 := Aside0.mk HG13; clear gb13 gl13 HG13; obtain ⟨ce13, hcl13, hM13, hcc13, hfr13⟩ := Kd.N_elem HO214.out z38 (t218 : Int) p13 q13; obtain ⟨ua13_1, uc13_1, rfl, ul13_1, ge13_1⟩ := k38_openF hM13; have hx13_0 : w19.cell? ⟨go13, (t218 : Int).toNat * 2, none⟩ = some (.int .i64 ((rd_T38 t212 t218).f0)) := hcc13 0 _ rfl; have hx13_1 : w19.cell? ⟨go13, (t218 : Int).toNat * 2 + 1, none⟩ = some (.slice ua13_1 ((rd_T38 t212 t218).f1).length uc13_1) := hcc13 1 _ rfl; have hf13_0 : w19.frozen? ⟨go13, (t218 : Int).toNat * 2, none⟩ = false := hfr13 0; have hf13_1 : w19.frozen? ⟨go13, (t218 : Int).toNat * 2 + 1, none⟩ = false := hfr13 1; clear hcl13 hcc13 hfr13 hM13; replace p13 := eq_true p13; replace q13 := eq_true q13; have HX20 := Aside0.mk (show Kd.N k38 38 w19 w.heap.size (fun k_ => (w.heap.size ≤ k_) ∧ k_ ≠ g) (.slice (some ⟨go13, 0, none⟩) t212.length co16) t212 from (by (with_reducible repeat (first | apply Kd.N_alloc | apply Kd.N_drewN | apply Kd.N_drew)); exact HO214.out)); obtain ⟨ce20, hcl20, hM20, hcc20, hfr20⟩ := Kd.N_elem HX20.out z38 (t218 : Int) (of_decide_eq_true (by first | (with_reducible assumption) | assumption)) (by have h_ : (t218 : Int) < ((t212.length : Int) : Int) := of_decide_eq_true (by first | (with_reducible assumption) | assumption); first | exact h_ | (have e_ := (Kd.N_reads' HO214.out).1; omega) | simpa using h_); obtain ⟨ua20_1, uc20_1, rfl, ul20_1, ge20_1⟩ := k38_openF hM20; have HP20 := Kd.N_seg HX20.out (t218 : Int) (of_decide_eq_true (by first | (with_reducible assumption) | assumption)) (by have h_ : (t218 : Int) < ((t212.length : Int) : Int) := of_decide_eq_true (by first | (with_reducible assumption) | assumption); first | exact h_ | (have e_ := (Kd.N_reads' HO214.out).1; omega) | simpa using h_) (seg := [.int .i64 (wrap64 (t222 - 1))]) (j := 0) hcl20 hcc20 (show 1 ≤ 2 from by decide) (x' := (⟨wrap64 (t222 - 1), (rd_T38 t212 t218).f1⟩ : S38)) (k38_mkF _ _ (⟨wrap64 (t222 - 1), (rd_T38 t212 t218).f1⟩ : S38) ul20_1 ge20_1) (fun _ hk => hk); have hx20_0 := hcc20 0 _ rfl; (try simp only [show (k38).sz = 2 from rfl, Nat.mul_one, Nat.add_zero] at hx20_0); have hf20_0 := hfr20 0; (try simp only [show (k38).sz = 2 from rfl, Nat.mul_one, Nat.add_zero] at hf20_0); clear hcl20 hcc20 hfr20 hM20) | ((with_reducible refine gate_store (t := 3) (p := 29) rfl ?_); refine store_event (t := 3) (p := 29) (v := ?vo_w21) (w1 := (w19.setCell ⟨go13, (t218 : Int).toNat * 2, none⟩ (.int .i64 (wrap64 (t222 - 1))))) ?hg ?ho ?hn ?hr ?_; (case ho => rfl); (case hg => rfl); (case hn => rfl); (case hr => first | (go_simp; done) | (go_simp; rfl)); intro w21 hw; have hg : w19.grownBy w21 (some go13) := (by rw [hw]; exact HP20.2); have hp_ : Kd.N k38 38 w21 w.heap.size (fun k_ => (w.heap.size ≤ k_) ∧ k_ ≠ g) (.slice (some ⟨go13, 0, none⟩) t212.length co16) y224 := (by rw [hw, Ny224.out]; exact HP20.1); clear HP20; have n0_ := Aside0.mk (IsS92.grown (by repeat (first | (with_reducible first | exact HI0.out | apply IsS92.alloc | apply IsS92.drewN | apply IsS92.drew | apply IsS92.set_1) | exact HI0.out)) hg (IsS92.own_neN HI0.out HO214.out (by decide))); have n1_ := Aside0.mk (hp_); have n2_ := Aside0.mk ((by rw [hw]; exact below_set (HB.out) (Nat.le_trans HL.out GB13.out) : Below w0.heap.size w0 w21)); have n3_ := Aside0.mk (KeepBut.trans (by repeat (first | (with_reducible first | exact HK.out | apply KeepBut.set_ | apply keep_drewN | apply keep_drew | apply keep_alloc) | exact HK.out)) (KeepBut.of_grown hg g) (Kd.N_base2 HO214.out)); clear HI0; clear HO214; clear HB; clear HK; have HI0 := n0_; have HO214 := n1_; have HB := n2_; have HK := n3_; clear n0_ n1_ n2_ n3_; clear hg hw hp_))
          go_ret
          exact ⟨_, by first | rfl | (simp [errW_none, errW_some] <;> rfl) | (simp [*, errW_none, errW_some] <;> rfl), by (with_reducible repeat (first | apply Kd.N_alloc | apply Kd.N_drewN | apply Kd.N_drew)); exact Kd.N_mono HO214.out (fun _ hk => hk.1), by repeat (first | (with_reducible first | exact HI0.out | apply IsS92.alloc | apply IsS92.drewN | apply IsS92.drew | apply IsS92.set_1) | exact HI0.out), by repeat (first | (with_reducible first | exact HB.out | apply below_alloc | apply pw_below_drewN | apply below_drew1 | refine below_set ?_ (IsS92.ge HI0.out)) | exact HB.out), by repeat (first | (with_reducible first | exact HK.out | apply KeepBut.set_ | apply keep_drewN | apply keep_drew | apply keep_alloc) | exact HK.out)⟩
        · rw [if_neg c12] at H
          exact absurd H (by simp)
      · rw [if_neg c11] at H
        exact absurd H (by simp)
    · rw [if_neg c9] at H
      have c9b0 : (t220 == 0) = false := beq_eq_false_iff_ne.mpr c9
      have c9b1 : (t220 != 0) = true := bne_iff_ne.mpr c9
      by_cases c22 : t220 = 1
      · rw [if_pos c22] at H
        have c22b0 : (t220 == 1) = true := beq_iff_eq.mpr c22
        have c22b1 : (t220 != 1) = false := bne_eq_false_iff_eq.mpr c22
        clear c22
        by_cases c23 : 0 ≤ t218
        · rw [if_pos c23] at H
          have c23b0 : decide (0 ≤ t218) = true := decide_eq_true c23
          clear c23
          by_cases c24 : t218 < (t212.length : Int)
          · rw [if_pos c24] at H
            have c24b0 : decide (t218 < (t212.length : Int)) = true := decide_eq_true c24
            clear c24
            exact absurd H (by simp)
          · rw [if_neg c24] at H
            exact absurd H (by simp)
        · rw [if_neg c23] at H
          exact absurd H (by simp)
      · rw [if_neg c22] at H
        have c22b0 : (t220 == 1) = false := beq_eq_false_iff_ne.mpr c22
        have c22b1 : (t220 != 1) = true := bne_iff_ne.mpr c22
        by_cases c25 : t220 = 2
        · rw [if_pos c25] at H
          have c25b0 : (t220 == 2) = true := beq_iff_eq.mpr c25
          have c25b1 : (t220 != 2) = false := bne_eq_false_iff_eq.mpr c25
          clear c25
          by_cases c26 : 1 ≤ (t212.length : Int)
          · rw [if_pos c26] at H
            have c26b0 := eq_true c26
            have c26b1 : decide (1 ≤ (t212.length : Int)) = true := decide_eq_true c26
            clear c26
            obtain ⟨y226, hy226⟩ : ∃ y_ : List (S38), y_ = (t212.take (1 : Int).toNat) := ⟨_, rfl⟩
            replace H : (some (y226, t221)) = some (r1, r2) := by first | (rw [hy226]; with_reducible exact H) | (have H2_ := (Option.bind_some _ _).symm.trans H; rw [hy226]; with_reducible exact H2_) | (have H2_ := (Option.bind_some _ _).symm.trans H; with_reducible exact H2_) | with_reducible exact H | (rw [hy226]; exact H) | exact H
            have Ny226 := Aside0.mk hy226
            clear hy226
            simp only [Option.some.injEq, Prod.mk.injEq] at H
            obtain ⟨rfl, rfl⟩ := H
            go_enter Try.func64, Try.ntmps64
            go_wp2_with (first | ((with_reducible refine gate_callee (f := 88) rfl ?_); refine goesL_ (some 6) rfl rfl Try.func88 (by kernel_rfl) rfl #[.pointer (some ⟨g, 0, none⟩)] rfl (by (try simp only [List.map_toArray, List.map_cons, List.map_nil]); first | done | rfl | (simp only [List.length_drop, List.length_take]; rfl)) ?_; (with_reducible refine (spec_l71Classes.calls k g s0_0 s0_1 t212 t215 w0 _ ?side1 ?side2 A2.out).mono ?_); (case side1 => repeat (first | (with_reducible first | exact HI0.out | apply IsS92.alloc | apply IsS92.drewN | apply IsS92.drew | apply IsS92.set_1) | exact HI0.out)); (case side2 => repeat (first | (with_reducible first | exact HB.out | apply below_alloc | apply pw_below_drewN | apply below_drew1 | refine below_set ?_ (IsS92.ge HI0.out)) | exact HB.out)); rintro e w27 ⟨v213, rfl, ho0, hi, hb, hk⟩; refine ⟨_, rfl, ?_⟩; have n0_ := Aside0.mk (Kd.N_lower (Kd.N_mono (ok' := fun k_ => (w.heap.size ≤ k_) ∧ k_ ≠ g) (Kd.S_N (Kd.S_bound ho0)) (fun k_ hk_ => ⟨(Nat.le_trans (keep_size (w := w) (g := g) (row := none) (by repeat (first | (with_reducible first | exact HK.out | apply KeepBut.set_ | apply keep_drewN | apply keep_drew | apply keep_alloc) | exact HK.out))) hk_.2.1), (IsS92.fresh (by repeat (first | (with_reducible first | exact HI0.out | apply IsS92.alloc | apply IsS92.drewN | apply IsS92.drew | apply IsS92.set_1) | exact HI0.out)) k_ hk_.2.1)⟩)) (keep_size (w := w) (g := g) (row := none) (by repeat (first | (with_reducible first | exact HK.out | apply KeepBut.set_ | apply keep_drewN | apply keep_drew | apply keep_alloc) | exact HK.out)))); have n1_ := Aside0.mk (KeepBut.trans (by repeat (first | (with_reducible first | exact HK.out | apply KeepBut.set_ | apply keep_drewN | apply keep_drew | apply keep_alloc) | exact HK.out)) hk (.inl rfl)); have n2_ := Aside0.mk (hb); have n3_ := Aside0.mk (hi); clear HK; clear HB; clear HI0; have HO214 := n0_; have HK := n1_; have HB := n2_; have HI0 := n3_; clear n0_ n1_ n2_ n3_; (try clear hb); (try clear hb2); (try clear hk); (try clear hi); (try clear ho0)) | ((with_reducible refine gate_callee (f := 65) rfl ?_); refine goesL_ (some 8) rfl rfl Try.func65 (by kernel_rfl) rfl #[.pointer (some ⟨g, 0, none⟩), .int .i64 20] rfl (by (try simp only [List.map_toArray, List.map_cons, List.map_nil]); first | done | rfl | (simp only [List.length_drop, List.length_take]; rfl)) ?_; (with_reducible refine (spec_l6Rd_pick.calls k g s0_0 t215 20 t216 t217 w0 _ ?side1 ?side2 A3.out).mono ?_); (case side1 => repeat (first | (with_reducible first | exact HI0.out | apply IsS92.alloc | apply IsS92.drewN | apply IsS92.drew | apply IsS92.set_1) | exact HI0.out)); (case side2 => repeat (first | (with_reducible first | exact HB.out | apply below_alloc | apply pw_below_drewN | apply below_drew1 | refine below_set ?_ (IsS92.ge HI0.out)) | exact HB.out)); rintro e w28 ⟨rfl, hi, hb, hk⟩; refine ⟨_, rfl, ?_⟩; have n0_ := Aside0.mk (Kd.N_mono (Kd.N_keep (Kd.N_mono (ok := fun k_ => (((w.heap.size ≤ k_)) ∧ k_ ≠ g)) (by (with_reducible repeat (first | apply Kd.N_alloc | apply Kd.N_drewN | apply Kd.N_drew)); exact HO214.out) (fun k_ hk_ => (⟨hk_, hk_.2⟩ : _ ∧ k_ ≠ g))) hk (fun _ h => h.2)) (fun _ h => h.1)); have n1_ := Aside0.mk (KeepBut.trans (by repeat (first | (with_reducible first | exact HK.out | apply KeepBut.set_ | apply keep_drewN | apply keep_drew | apply keep_alloc) | exact HK.out)) hk (.inl rfl)); have n2_ := Aside0.mk (hb); have n3_ := Aside0.mk (hi); clear HO214; clear HK; clear HB; clear HI0; have HO214 := n0_; have HK := n1_; have HB := n2_; have HI0 := n3_; clear n0_ n1_ n2_ n3_; (try clear hb); (try clear hb2); (try clear hk); (try clear hi); obtain ⟨Ao29, co29, eo29⟩ := Kd.N_slice HO214.out; subst eo29) | ((with_reducible refine gate_callee (f := 65) rfl ?_); refine goesL_ (some 14) rfl rfl Try.func65 (by kernel_rfl) rfl #[.pointer (some ⟨g, 0, none⟩), .int .i64 (t212.length : Int)] rfl (by (try simp only [List.map_toArray, List.map_cons, List.map_nil]); first | done | rfl | (simp only [List.length_drop, List.length_take]; rfl)) ?_; (with_reducible refine (spec_l6Rd_pick.calls k g s0_0 t217 (t212.length : Int) t218 t219 w0 _ ?side1 ?side2 A7.out).mono ?_); (case side1 => repeat (first | (with_reducible first | exact HI0.out | apply IsS92.alloc | apply IsS92.drewN | apply IsS92.drew | apply IsS92.set_1) | exact HI0.out)); (case side2 => repeat (first | (with_reducible first | exact HB.out | apply below_alloc | apply pw_below_drewN | apply below_drew1 | refine below_set ?_ (IsS92.ge HI0.out)) | exact HB.out)); rintro e w30 ⟨rfl, hi, hb, hk⟩; refine ⟨_, rfl, ?_⟩; have n0_ := Aside0.mk (Kd.N_mono (Kd.N_keep (Kd.N_mono (ok := fun k_ => (((w.heap.size ≤ k_)) ∧ k_ ≠ g)) (by (with_reducible repeat (first | apply Kd.N_alloc | apply Kd.N_drewN | apply Kd.N_drew)); exact HO214.out) (fun k_ hk_ => (⟨hk_, hk_.2⟩ : _ ∧ k_ ≠ g))) hk (fun _ h => h.2)) (fun _ h => h.1)); have n1_ := Aside0.mk (KeepBut.trans (by repeat (first | (with_reducible first | exact HK.out | apply KeepBut.set_ | apply keep_drewN | apply keep_drew | apply keep_alloc) | exact HK.out)) hk (.inl rfl)); have n2_ := Aside0.mk (hb); have n3_ := Aside0.mk (hi); clear HO214; clear HK; clear HB; clear HI0; have HO214 := n0_; have HK := n1_; have HB := n2_; have HI0 := n3_; clear n0_ n1_ n2_ n3_; (try clear hb); (try clear hb2); (try clear hk); (try clear hi)) | ((with_reducible refine gate_callee (f := 65) rfl ?_); refine goesL_ (some 16) rfl rfl Try.func65 (by kernel_rfl) rfl #[.pointer (some ⟨g, 0, none⟩), .int .i64 6] rfl (by (try simp only [List.map_toArray, List.map_cons, List.map_nil]); first | done | rfl | (simp only [List.length_drop, List.length_take]; rfl)) ?_; (with_reducible refine (spec_l6Rd_pick.calls k g s0_0 t219 6 t220 t221 w0 _ ?side1 ?side2 A8.out).mono ?_); (case side1 => repeat (first | (with_reducible first | exact HI0.out | apply IsS92.alloc | apply IsS92.drewN | apply IsS92.drew | apply IsS92.set_1) | exact HI0.out)); (case side2 => repeat (first | (with_reducible first | exact HB.out | apply below_alloc | apply pw_below_drewN | apply below_drew1 | refine below_set ?_ (IsS92.ge HI0.out)) | exact HB.out)); rintro e w31 ⟨rfl, hi, hb, hk⟩; refine ⟨_, rfl, ?_⟩; have n0_ := Aside0.mk (Kd.N_mono (Kd.N_keep (Kd.N_mono (ok := fun k_ => (((w.heap.size ≤ k_)) ∧ k_ ≠ g)) (by (with_reducible repeat (first | apply Kd.N_alloc | apply Kd.N_drewN | apply Kd.N_drew)); exact HO214.out) (fun k_ hk_ => (⟨hk_, hk_.2⟩ : _ ∧ k_ ≠ g))) hk (fun _ h => h.2)) (fun _ h => h.1)); have n1_ := Aside0.mk (KeepBut.trans (by repeat (first | (with_reducible first | exact HK.out | apply KeepBut.set_ | apply keep_drewN | apply keep_drew | apply keep_alloc) | exact HK.out)) hk (.inl rfl)); have n2_ := Aside0.mk (hb); have n3_ := Aside0.mk (hi); clear HO214; clear HK; clear HB; clear HI0; have HO214 := n0_; have HK := n1_; have HB := n2_; have HI0 := n3_; clear n0_ n1_ n2_ n3_; (try clear hb); (try clear hb2); (try clear hk); (try clear hi); have q32 : (1 : Int) ≤ ((t212.length : Int) : Int) := of_decide_eq_true (by first | (with_reducible assumption) | assumption); obtain ⟨i032, hi032, _, hsz32, _⟩ := info_parts info38; have hcut32 := cut_to (P := Try.prog) 25 38 .i64 Try.underlying25 hi032 Ao29 t212.length co29 1 (by omega) q32 (Kd.N_reads' HO214.out).2.1; have hr32 := Kd.N_take (m := (1 : Int).toNat) HO214.out (by omega); have hy32 : y226.length = (1 : Int).toNat := (by rw [Ny226.out, List.length_take]; omega); rw [← Ny226.out] at hr32; rw [← hy32] at hr32 hcut32; clear hy32 hi032 hsz32 HO214; have HO228 := Aside0.mk hr32; clear hr32; replace q32 := eq_true q32))
            go_ret
            exact ⟨_, by first | rfl | (simp [errW_none, errW_some] <;> rfl) | (simp [*, errW_none, errW_some] <;> rfl), by (with_reducible repeat (first | apply Kd.N_alloc | apply Kd.N_drewN | apply Kd.N_drew)); exact Kd.N_mono HO228.out (fun _ hk => hk.1), by repeat (first | (with_reducible first | exact HI0.out | apply IsS92.alloc | apply IsS92.drewN | apply IsS92.drew | apply IsS92.set_1) | exact HI0.out), by repeat (first | (with_reducible first | exact HB.out | apply below_alloc | apply pw_below_drewN | apply below_drew1 | refine below_set ?_ (IsS92.ge HI0.out)) | exact HB.out), by repeat (first | (with_reducible first | exact HK.out | apply KeepBut.set_ | apply keep_drewN | apply keep_drew | apply keep_alloc) | exact HK.out)⟩
          · rw [if_neg c26] at H
            exact absurd H (by simp)
        · rw [if_neg c25] at H
          have c25b0 : (t220 == 2) = false := beq_eq_false_iff_ne.mpr c25
          have c25b1 : (t220 != 2) = true := bne_iff_ne.mpr c25
          by_cases c33 : t220 = 3
          · rw [if_pos c33] at H
            have c33b0 : (t220 == 3) = true := beq_iff_eq.mpr c33
            have c33b1 : (t220 != 3) = false := bne_eq_false_iff_eq.mpr c33
            clear c33
            by_cases c34 : 1 < (t212.length : Int)
            · rw [if_pos c34] at H
              have c34b0 : decide (1 < (t212.length : Int)) = true := decide_eq_true c34
              have c34b1 : decide (1 < t212.length) = true := decide_eq_true (by omega)
              clear c34
              obtain ⟨y233, hy233⟩ : ∃ y_ : List (S38), y_ = (([(⟨(rd_T38 t212 1).f0, (rd_T38 t212 1).f1⟩ : S38), (⟨(rd_T38 t212 1).f0, (rd_T38 t212 1).f1⟩ : S38), (⟨(rd_T38 t212 1).f0, (rd_T38 t212 1).f1⟩ : S38), (⟨(rd_T38 t212 1).f0, (rd_T38 t212 1).f1⟩ : S38)] : List (S38))) := ⟨_, rfl⟩
              replace H : (if t212.length + y233.length < 4398046511104 then (some ((t212 ++ y233), t221)) else (none)) = some (r1, r2) := by first | (rw [hy233]; with_reducible exact H) | (have H2_ := (Option.bind_some _ _).symm.trans H; rw [hy233]; with_reducible exact H2_) | (have H2_ := (Option.bind_some _ _).symm.trans H; with_reducible exact H2_) | with_reducible exact H | (rw [hy233]; exact H) | exact H
              have Ny233 := Aside0.mk hy233
              clear hy233
              by_cases c35 : t212.length + y233.length < 4398046511104
              · rw [if_pos c35] at H
                have LMc35 := Aside0.mk c35
                clear c35
                obtain ⟨y236, hy236⟩ : ∃ y_ : List (S38), y_ = (t212 ++ y233) := ⟨_, rfl⟩
                replace H : (some (y236, t221)) = some (r1, r2) := by first | (rw [hy236]; with_reducible exact H) | (have H2_ := (Option.bind_some _ _).symm.trans H; rw [hy236]; with_reducible exact H2_) | (have H2_ := (Option.bind_some _ _).symm.trans H; with_reducible exact H2_) | with_reducible exact H | (rw [hy236]; exact H) | exact H
                have Ny236 := Aside0.mk hy236
                clear hy236
                simp only [Option.some.injEq, Prod.mk.injEq] at H
                obtain ⟨rfl, rfl⟩ := H
                go_enter Try.func64, Try.ntmps64
                try go_wp2_with (first | ((with_reducible refine gate_callee (f := 88) rfl ?_); refine goesL_ (some 6) rfl rfl Try.func88 (by kernel_rfl) rfl #[.pointer (some ⟨g, 0, none⟩)] rfl (by (try simp only [List.map_toArray, List.map_cons, List.map_nil]); first | done | rfl | (simp only [List.length_drop, List.length_take]; rfl)) ?_; (with_reducible refine (spec_l71Classes.calls k g s0_0 s0_1 t212 t215 w0 _ ?side1 ?side2 A2.out).mono ?_); (case side1 => repeat (first | (with_reducible first | exact HI0.out | apply IsS92.alloc | apply IsS92.drewN | apply IsS92.drew | apply IsS92.set_1) | exact HI0.out)); (case side2 => repeat (first | (with_reducible first | exact HB.out | apply below_alloc | apply pw_below_drewN | apply below_drew1 | refine below_set ?_ (IsS92.ge HI0.out)) | exact HB.out)); rintro e w36 ⟨v213, rfl, ho0, hi, hb, hk⟩; refine ⟨_, rfl, ?_⟩; have n0_ := Aside0.mk (Kd.N_lower (Kd.N_mono (ok' := fun k_ => (w.heap.size ≤ k_) ∧ k_ ≠ g) (Kd.S_N (Kd.S_bound ho0)) (fun k_ hk_ => ⟨(Nat.le_trans (keep_size (w := w) (g := g) (row := none) (by repeat (first | (with_reducible first | exact HK.out | apply KeepBut.set_ | apply keep_drewN | apply keep_drew | apply keep_alloc) | exact HK.out))) hk_.2.1), (IsS92.fresh (by repeat (first | (with_reducible first | exact HI0.out | apply IsS92.alloc | apply IsS92.drewN | apply IsS92.drew | apply IsS92.set_1) | exact HI0.out)) k_ hk_.2.1)⟩)) (keep_size (w := w) (g := g) (row := none) (by repeat (first | (with_reducible first | exact HK.out | apply KeepBut.set_ | apply keep_drewN | apply keep_drew | apply keep_alloc) | exact HK.out)))); have n1_ := Aside0.mk (KeepBut.trans (by repeat (first | (with_reducible first | exact HK.out | apply KeepBut.set_ | apply keep_drewN | apply keep_drew | apply keep_alloc) | exact HK.out)) hk (.inl rfl)); have n2_ := Aside0.mk (hb); have n3_ := Aside0.mk (hi); clear HK; clear HB; clear HI0; have HO214 := n0_; have HK := n1_; have HB := n2_; have HI0 := n3_; clear n0_ n1_ n2_ n3_; (try clear hb); (try clear hb2); (try clear hk); (try clear hi); (try clear ho0)) | ((with_reducible refine gate_callee (f := 65) rfl ?_); refine goesL_ (some 8) rfl rfl Try.func65 (by kernel_rfl) rfl #[.pointer (some ⟨g, 0, none⟩), .int .i64 20] rfl (by (try simp only [List.map_toArray, List.map_cons, List.map_nil]); first | done | rfl | (simp only [List.length_drop, List.length_take]; rfl)) ?_; (with_reducible refine (spec_l6Rd_pick.calls k g s0_0 t215 20 t216 t217 w0 _ ?side1 ?side2 A3.out).mono ?_); (case side1 => repeat (first | (with_reducible first | exact HI0.out | apply IsS92.alloc | apply IsS92.drewN | apply IsS92.drew | apply IsS92.set_1) | exact HI0.out)); (case side2 => repeat (first | (with_reducible first | exact HB.out | apply below_alloc | apply pw_below_drewN | apply below_drew1 | refine below_set ?_ (IsS92.ge HI0.out)) | exact HB.out)); rintro e w37 ⟨rfl, hi, hb, hk⟩; refine ⟨_, rfl, ?_⟩; have n0_ := Aside0.mk (Kd.N_mono (Kd.N_keep (Kd.N_mono (ok := fun k_ => (((w.heap.size ≤ k_)) ∧ k_ ≠ g)) (by (with_reducible repeat (first | apply Kd.N_alloc | apply Kd.N_drewN | apply Kd.N_drew)); exact HO214.out) (fun k_ hk_ => (⟨hk_, hk_.2⟩ : _ ∧ k_ ≠ g))) hk (fun _ h => h.2)) (fun _ h => h.1)); have n1_ := Aside0.mk (KeepBut.trans (by repeat (first | (with_reducible first | exact HK.out | apply KeepBut.set_ | apply keep_drewN | apply keep_drew | apply keep_alloc) | exact HK.out)) hk (.inl rfl)); have n2_ := Aside0.mk (hb); have n3_ := Aside0.mk (hi); clear HO214; clear HK; clear HB; clear HI0; have HO214 := n0_; have HK := n1_; have HB := n2_; have HI0 := n3_; clear n0_ n1_ n2_ n3_; (try clear hb); (try clear hb2); (try clear hk); (try clear hi); obtain ⟨Ao38, co38, eo38⟩ := Kd.N_slice HO214.out; subst eo38) | ((with_reducible refine gate_callee (f := 65) rfl ?_); refine goesL_ (some 14) rfl rfl Try.func65 (by kernel_rfl) rfl #[.pointer (some ⟨g, 0, none⟩), .int .i64 (t212.length : Int)] rfl (by (try simp only [List.map_toArray, List.map_cons, List.map_nil]); first | done | rfl | (simp only [List.length_drop, List.length_take]; rfl)) ?_; (with_reducible refine (spec_l6Rd_pick.calls k g s0_0 t217 (t212.length : Int) t218 t219 w0 _ ?side1 ?side2 A7.out).mono ?_); (case side1 => repeat (first | (with_reducible first | exact HI0.out | apply IsS92.alloc | apply IsS92.drewN | apply IsS92.drew | apply IsS92.set_1) | exact HI0.out)); (case side2 => repeat (first | (with_reducible first | exact HB.out | apply below_alloc | apply pw_below_drewN | apply below_drew1 | refine below_set ?_ (IsS92.ge HI0.out)) | exact HB.out)); rintro e w39 ⟨rfl, hi, hb, hk⟩; refine ⟨_, rfl, ?_⟩; have n0_ := Aside0.mk (Kd.N_mono (Kd.N_keep (Kd.N_mono (ok := fun k_ => (((w.heap.size ≤ k_)) ∧ k_ ≠ g)) (by (with_reducible repeat (first | apply Kd.N_alloc | apply Kd.N_drewN | apply Kd.N_drew)); exact HO214.out) (fun k_ hk_ => (⟨hk_, hk_.2⟩ : _ ∧ k_ ≠ g))) hk (fun _ h => h.2)) (fun _ h => h.1)); have n1_ := Aside0.mk (KeepBut.trans (by repeat (first | (with_reducible first | exact HK.out | apply KeepBut.set_ | apply keep_drewN | apply keep_drew | apply keep_alloc) | exact HK.out)) hk (.inl rfl)); have n2_ := Aside0.mk (hb); have n3_ := Aside0.mk (hi); clear HO214; clear HK; clear HB; clear HI0; have HO214 := n0_; have HK := n1_; have HB := n2_; have HI0 := n3_; clear n0_ n1_ n2_ n3_; (try clear hb); (try clear hb2); (try clear hk); (try clear hi)) | ((with_reducible refine gate_callee (f := 65) rfl ?_); refine goesL_ (some 16) rfl rfl Try.func65 (by kernel_rfl) rfl #[.pointer (some ⟨g, 0, none⟩), .int .i64 6] rfl (by (try simp only [List.map_toArray, List.map_cons, List.map_nil]); first | done | rfl | (simp only [List.length_drop, List.length_take]; rfl)) ?_; (with_reducible refine (spec_l6Rd_pick.calls k g s0_0 t219 6 t220 t221 w0 _ ?side1 ?side2 A8.out).mono ?_); (case side1 => repeat (first | (with_reducible first | exact HI0.out | apply IsS92.alloc | apply IsS92.drewN | apply IsS92.drew | apply IsS92.set_1) | exact HI0.out)); (case side2 => repeat (first | (with_reducible first | exact HB.out | apply below_alloc | apply pw_below_drewN | apply below_drew1 | refine below_set ?_ (IsS92.ge HI0.out)) | exact HB.out)); rintro e w40 ⟨rfl, hi, hb, hk⟩; refine ⟨_, rfl, ?_⟩; have n0_ := Aside0.mk (Kd.N_mono (Kd.N_keep (Kd.N_mono (ok := fun k_ => (((w.heap.size ≤ k_)) ∧ k_ ≠ g)) (by (with_reducible repeat (first | apply Kd.N_alloc | apply Kd.N_drewN | apply Kd.N_drew)); exact HO214.out) (fun k_ hk_ => (⟨hk_, hk_.2⟩ : _ ∧ k_ ≠ g))) hk (fun _ h => h.2)) (fun _ h => h.1)); have n1_ := Aside0.mk (KeepBut.trans (by repeat (first | (with_reducible first | exact HK.out | apply KeepBut.set_ | apply keep_drewN | apply keep_drew | apply keep_alloc) | exact HK.out)) hk (.inl rfl)); have n2_ := Aside0.mk (hb); have n3_ := Aside0.mk (hi); clear HO214; clear HK; clear HB; clear HI0; have HO214 := n0_; have HK := n1_; have HB := n2_; have HI0 := n3_; clear n0_ n1_ n2_ n3_; (try clear hb); (try clear hb2); (try clear hk); (try clear hi)))
                have n0_ := Aside0.mk (Kd.N_drew HO214.out)
                have n1_ := Aside0.mk (IsS92.drew HI0.out)
                have n2_ := Aside0.mk (keep_drew HK.out)
                have n3_ := Aside0.mk (below_drew1 HB.out)
                clear HO214
                clear HI0
                clear HK
                clear HB
                have HO214 := n0_
                have HI0 := n1_
                have HK := n2_
                have HB := n3_
                clear n0_ n1_ n2_ n3_
                have p229 : 0 ≤ (1 : Int) := (by omega)
                have q229 : 1 < (t212.length : Int) := of_decide_eq_true (by first | (with_reducible assumption) | assumption)
                obtain ⟨ad229, A229_1, c229_1, e229, hx229_0, hx229_1, hl229_1, hi229_1⟩ := at_T38 (Kd.N_reads' HO214.out).2.2 1 p229 q229
                cases e229
                obtain ⟨ce229, hce229, hMe229, hcc229⟩ := Kd.N_get HO214.out z38 1 p229 (by first | exact q229 | exact of_decide_eq_true (by first | (with_reducible assumption) | assumption) | (have e_ := (Kd.N_reads' HO214.out).1; omega))
                obtain ⟨ua229_1, uc229_1, rfl, ul229_1, ge229_1⟩ := k38_openF hMe229
                have hv229_1 := hcc229 1 _ rfl
                rw [add_field _ _ 1 (by omega)] at hv229_1
                replace hv229_1 := Option.some.inj (hv229_1.symm.trans hx229_1)
                injection hv229_1 with hva_ hvn_ hvc_
                rw [hva_] at ge229_1
                rw [hvc_] at ul229_1
                have HL229_1 := Aside0.mk (show Kd.V (Kd.int .i64) 3 _ w.heap.size _ _ ((rd_T38 t212 1).f1) from Kd.V_mk ul229_1 ge229_1)
                clear hva_ hvn_ hvc_ ge229_1 ul229_1
                clear hcc229 hce229
                (try simp only [show (1 : Int).toNat = 1 from rfl, Nat.reduceMul, Nat.reduceEqDiff, Go.Addr.add, ↓reduceIte] at hx229_0)
                (try simp only [show (1 : Int).toNat = 1 from rfl, Nat.reduceMul, Nat.reduceEqDiff, Go.Addr.add, ↓reduceIte] at hx229_1)
                have qi229 : (1 < t212.length) = True := eq_true (by omega)
                (try rw [show ((1 : Int)).toNat = 1 from rfl] at hx229_0)
                (try rw [show 1 * 2 = 2 from rfl] at hx229_0)
                (try rw [show ((1 : Int)).toNat = 1 from rfl] at hx229_1)
                (try rw [show 1 * 2 = 2 from rfl] at hx229_1)
                have HR229_1 := Aside0.mk hi229_1
                have HC229_1 := Aside0.mk hl229_1
                clear hi229_1 hl229_1
                replace p229 := eq_true p229
                replace q229 := eq_true q229
                have p230 : 0 ≤ (1 : Int) := (by omega)
                have q230 : 1 < (t212.length : Int) := of_decide_eq_true (by first | (with_reducible assumption) | assumption)
                obtain ⟨ad230, A230_1, c230_1, e230, hx230_0, hx230_1, hl230_1, hi230_1⟩ := at_T38 (Kd.N_reads' HO214.out).2.2 1 p230 q230
                obtain rfl : ad229 = ad230 := (by injection e230)
                obtain ⟨ce230, hce230, hMe230, hcc230⟩ := Kd.N_get HO214.out z38 1 p230 (by first | exact q230 | exact of_decide_eq_true (by first | (with_reducible assumption) | assumption) | (have e_ := (Kd.N_reads' HO214.out).1; omega))
                obtain ⟨ua230_1, uc230_1, rfl, ul230_1, ge230_1⟩ := k38_openF hMe230
                have hv230_1 := hcc230 1 _ rfl
                rw [add_field _ _ 1 (by omega)] at hv230_1
                replace hv230_1 := Option.some.inj (hv230_1.symm.trans hx230_1)
                injection hv230_1 with hva_ hvn_ hvc_
                rw [hva_] at ge230_1
                rw [hvc_] at ul230_1
                have HL230_1 := Aside0.mk (show Kd.V (Kd.int .i64) 3 _ w.heap.size _ _ ((rd_T38 t212 1).f1) from Kd.V_mk ul230_1 ge230_1)
                clear hva_ hvn_ hvc_ ge230_1 ul230_1
                clear hcc230 hce230
                (try simp only [show (1 : Int).toNat = 1 from rfl, Nat.reduceMul, Nat.reduceEqDiff, Go.Addr.add, ↓reduceIte] at hx230_0)
                (try simp only [show (1 : Int).toNat = 1 from rfl, Nat.reduceMul, Nat.reduceEqDiff, Go.Addr.add, ↓reduceIte] at hx230_1)
                have qi230 : (1 < t212.length) = True := eq_true (by omega)
                (try rw [show ((1 : Int)).toNat = 1 from rfl] at hx230_0)
                (try rw [show 1 * 2 = 2 from rfl] at hx230_0)
                (try rw [show ((1 : Int)).toNat = 1 from rfl] at hx230_1)
                (try rw [show 1 * 2 = 2 from rfl] at hx230_1)
                have HR230_1 := Aside0.mk hi230_1
                have HC230_1 := Aside0.mk hl230_1
                clear hi230_1 hl230_1
                replace p230 := eq_true p230
                replace q230 := eq_true q230
                have ea_ := Option.some.inj (hx229_1.symm.trans hx230_1)
                injection ea_ with ea_ en_ ec_
                subst ea_
                subst ec_
                clear en_
                have p231 : 0 ≤ (1 : Int) := (by omega)
                have q231 : 1 < (t212.length : Int) := of_decide_eq_true (by first | (with_reducible assumption) | assumption)
                obtain ⟨ad231, A231_1, c231_1, e231, hx231_0, hx231_1, hl231_1, hi231_1⟩ := at_T38 (Kd.N_reads' HO214.out).2.2 1 p231 q231
                obtain rfl : ad229 = ad231 := (by injection e231)
                obtain ⟨ce231, hce231, hMe231, hcc231⟩ := Kd.N_get HO214.out z38 1 p231 (by first | exact q231 | exact of_decide_eq_true (by first | (with_reducible assumption) | assumption) | (have e_ := (Kd.N_reads' HO214.out).1; omega))
                obtain ⟨ua231_1, uc231_1, rfl, ul231_1, ge231_1⟩ := k38_openF hMe231
                have hv231_1 := hcc231 1 _ rfl
                rw [add_field _ _ 1 (by omega)] at hv231_1
                replace hv231_1 := Option.some.inj (hv231_1.symm.trans hx231_1)
                injection hv231_1 with hva_ hvn_ hvc_
                rw [hva_] at ge231_1
                rw [hvc_] at ul231_1
                have HL231_1 := Aside0.mk (show Kd.V (Kd.int .i64) 3 _ w.heap.size _ _ ((rd_T38 t212 1).f1) from Kd.V_mk ul231_1 ge231_1)
                clear hva_ hvn_ hvc_ ge231_1 ul231_1
                clear hcc231 hce231
                (try simp only [show (1 : Int).toNat = 1 from rfl, Nat.reduceMul, Nat.reduceEqDiff, Go.Addr.add, ↓reduceIte] at hx231_0)
                (try simp only [show (1 : Int).toNat = 1 from rfl, Nat.reduceMul, Nat.reduceEqDiff, Go.Addr.add, ↓reduceIte] at hx231_1)
                have qi231 : (1 < t212.length) = True := eq_true (by omega)
                (try rw [show ((1 : Int)).toNat = 1 from rfl] at hx231_0)
                (try rw [show 1 * 2 = 2 from rfl] at hx231_0)
                (try rw [show ((1 : Int)).toNat = 1 from rfl] at hx231_1)
                (try rw [show 1 * 2 = 2 from rfl] at hx231_1)
                have HR231_1 := Aside0.mk hi231_1
                have HC231_1 := Aside0.mk hl231_1
                clear hi231_1 hl231_1
                replace p231 := eq_true p231
                replace q231 := eq_true q231
                have ea_ := Option.some.inj (hx229_1.symm.trans hx231_1)
                injection ea_ with ea_ en_ ec_
                subst ea_
                subst ec_
                clear en_
                have p232 : 0 ≤ (1 : Int) := (by omega)
                have q232 : 1 < (t212.length : Int) := of_decide_eq_true (by first | (with_reducible assumption) | assumption)
                obtain ⟨ad232, A232_1, c232_1, e232, hx232_0, hx232_1, hl232_1, hi232_1⟩ := at_T38 (Kd.N_reads' HO214.out).2.2 1 p232 q232
                obtain rfl : ad229 = ad232 := (by injection e232)
                obtain ⟨ce232, hce232, hMe232, hcc232⟩ := Kd.N_get HO214.out z38 1 p232 (by first | exact q232 | exact of_decide_eq_true (by first | (with_reducible assumption) | assumption) | (have e_ := (Kd.N_reads' HO214.out).1; omega))
                obtain ⟨ua232_1, uc232_1, rfl, ul232_1, ge232_1⟩ := k38_openF hMe232
                have hv232_1 := hcc232 1 _ rfl
                rw [add_field _ _ 1 (by omega)] at hv232_1
                replace hv232_1 := Option.some.inj (hv232_1.symm.trans hx232_1)
                injection hv232_1 with hva_ hvn_ hvc_
                rw [hva_] at ge232_1
                rw [hvc_] at ul232_1
                have HL232_1 := Aside0.mk (show Kd.V (Kd.int .i64) 3 _ w.heap.size _ _ ((rd_T38 t212 1).f1) from Kd.V_mk ul232_1 ge232_1)
                clear hva_ hvn_ hvc_ ge232_1 ul232_1
                clear hcc232 hce232
                (try simp only [show (1 : Int).toNat = 1 from rfl, Nat.reduceMul, Nat.reduceEqDiff, Go.Addr.add, ↓reduceIte] at hx232_0)
                (try simp only [show (1 : Int).toNat = 1 from rfl, Nat.reduceMul, Nat.reduceEqDiff, Go.Addr.add, ↓reduceIte] at hx232_1)
                have qi232 : (1 < t212.length) = True := eq_true (by omega)
                (try rw [show ((1 : Int)).toNat = 1 from rfl] at hx232_0)
                (try rw [show 1 * 2 = 2 from rfl] at hx232_0)
                (try rw [show ((1 : Int)).toNat = 1 from rfl] at hx232_1)
                (try rw [show 1 * 2 = 2 from rfl] at hx232_1)
                have HR232_1 := Aside0.mk hi232_1
                have HC232_1 := Aside0.mk hl232_1
                clear hi232_1 hl232_1
                replace p232 := eq_true p232
                replace q232 := eq_true q232
                have ea_ := Option.some.inj (hx229_1.symm.trans hx232_1)
                injection ea_ with ea_ en_ ec_
                subst ea_
                subst ec_
                clear en_
                refine start_ (n := 16) (S := fun w' => w'.cell? ⟨ad229.block, ad229.off + 2, none⟩ = some (.int .i64 ((rd_T38 t212 1).f0)) ∧ w'.cell? ⟨ad229.block, ad229.off + 2 + 1, none⟩ = some (.slice A229_1 ((rd_T38 t212 1).f1).length c229_1) ∧ w'.cell? ⟨ad229.block, ad229.off + 2, none⟩ = some (.int .i64 ((rd_T38 t212 1).f0)) ∧ w'.cell? ⟨ad229.block, ad229.off + 2 + 1, none⟩ = some (.slice A229_1 ((rd_T38 t212 1).f1).length c229_1) ∧ w'.cell? ⟨ad229.block, ad229.off + 2, none⟩ = some (.int .i64 ((rd_T38 t212 1).f0)) ∧ w'.cell? ⟨ad229.block, ad229.off + 2 + 1, none⟩ = some (.slice A229_1 ((rd_T38 t212 1).f1).length c229_1) ∧ w'.cell? ⟨ad229.block, ad229.off + 2, none⟩ = some (.int .i64 ((rd_T38 t212 1).f0)) ∧ w'.cell? ⟨ad229.block, ad229.off + 2 + 1, none⟩ = some (.slice A229_1 ((rd_T38 t212 1).f1).length c229_1)) (ds := [14]) #[false, false, false, false, false, false, false, false, false, false, false, false, false, false, false, false] (by kernel_rfl) rfl rfl ⟨hx229_0, hx229_1, hx230_0, hx230_1, hx231_0, hx231_1, hx232_0, hx232_1⟩ (fun hHeld => ?_); refine with_tabW spec_l71OffB.tab14 spec_l71OffB.bits14 (fun HT_ HW_ => ?_)
                generalize w40.drew = w41 at HO214 HI0 HK HB HL229_1 HL230_1 HL231_1 HL232_1 HR229_1 HR230_1 HR231_1 HR232_1 hx229_0 hx229_1 hx230_0 hx230_1 hx231_0 hx231_1 hx232_0 hx232_1 hHeld ⊢
                refine pure_ (i := 0) (N := some 54) (v := ?_) (a' := ?_) #[true, false, false, false, false, false, false, false, false, false, false, false, false, false, false, false] rfl rfl (any_of HT_.out (by kernel_rfl)) (fun _ _ _ h => h) (Or.inl ⟨by rfl, ?_⟩) ?_ ?_
                rotate_left
                · intro w'
                  go_simp
                  with_reducible rfl
                rotate_left
                · simp only [Act.put, List.setIfInBounds_toArray, List.set_cons_zero, List.set_cons_succ, i64_w, i32_w]
                  rfl
                refine pure_ (i := 1) (N := some 55) (v := ?_) (a' := ?_) #[true, true, false, false, false, false, false, false, false, false, false, false, false, false, false, false] rfl rfl (any_of HT_.out (by kernel_rfl)) (fun _ _ _ h => h) (Or.inl ⟨by rfl, ?_⟩) ?_ ?_
                rotate_left
                · intro w'
                  go_simp
                  with_reducible rfl
                rotate_left
                · simp only [Act.put, List.setIfInBounds_toArray, List.set_cons_zero, List.set_cons_succ, i64_w, i32_w]
                  rfl
                refine pure_ (i := 2) (N := some 56) (v := ?_) (a' := ?_) #[true, true, true, false, false, false, false, false, false, false, false, false, false, false, false, false] rfl rfl (any_of HT_.out (by kernel_rfl)) (fun _ _ _ h => h) (Or.inl ⟨by rfl, ?_⟩) ?_ ?_
                rotate_left
                · intro w'
                  go_simp
                  with_reducible rfl
                rotate_left
                · simp only [Act.put, List.setIfInBounds_toArray, List.set_cons_zero, List.set_cons_succ, i64_w, i32_w]
                  rfl
                refine pure_ (i := 4) (N := some 58) (v := ?_) (a' := ?_) #[true, true, true, false, true, false, false, false, false, false, false, false, false, false, false, false] rfl rfl (any_of HT_.out (by kernel_rfl)) (fun _ _ _ h => h) (Or.inl ⟨by rfl, ?_⟩) ?_ ?_
                rotate_left
                · intro w'
                  go_simp
                  with_reducible rfl
                rotate_left
                · simp only [Act.put, List.setIfInBounds_toArray, List.set_cons_zero, List.set_cons_succ, i64_w, i32_w]
                  rfl
                refine pure_ (i := 5) (N := some 59) (v := ?_) (a' := ?_) #[true, true, true, false, true, true, false, false, false, false, false, false, false, false, false, false] rfl rfl (any_of HT_.out (by kernel_rfl)) (fun _ _ _ h => h) (Or.inl ⟨by rfl, ?_⟩) ?_ ?_
                rotate_left
                · intro w'
                  go_simp
                  with_reducible rfl
                rotate_left
                · simp only [Act.put, List.setIfInBounds_toArray, List.set_cons_zero, List.set_cons_succ, i64_w, i32_w]
                  rfl
                refine pure_ (i := 7) (N := some 61) (v := ?_) (a' := ?_) #[true, true, true, false, true, true, false, true, false, false, false, false, false, false, false, false] rfl rfl (any_of HT_.out (by kernel_rfl)) (fun _ _ _ h => h) (Or.inl ⟨by rfl, ?_⟩) ?_ ?_
                rotate_left
                · intro w'
                  go_simp
                  with_reducible rfl
                rotate_left
                · simp only [Act.put, List.setIfInBounds_toArray, List.set_cons_zero, List.set_cons_succ, i64_w, i32_w]
                  rfl
                refine pure_ (i := 8) (N := some 62) (v := ?_) (a' := ?_) #[true, true, true, false, true, true, false, true, true, false, false, false, false, false, false, false] rfl rfl (any_of HT_.out (by kernel_rfl)) (fun _ _ _ h => h) (Or.inl ⟨by rfl, ?_⟩) ?_ ?_
                rotate_left
                · intro w'
                  go_simp
                  with_reducible rfl
                rotate_left
                · simp only [Act.put, List.setIfInBounds_toArray, List.set_cons_zero, List.set_cons_succ, i64_w, i32_w]
                  rfl
                refine pure_ (i := 10) (N := some 64) (v := ?_) (a' := ?_) #[true, true, true, false, true, true, false, true, true, false, true, false, false, false, false, false] rfl rfl (any_of HT_.out (by kernel_rfl)) (fun _ _ _ h => h) (Or.inl ⟨by rfl, ?_⟩) ?_ ?_
                rotate_left
                · intro w'
                  go_simp
                  with_reducible rfl
                rotate_left
                · simp only [Act.put, List.setIfInBounds_toArray, List.set_cons_zero, List.set_cons_succ, i64_w, i32_w]
                  rfl
                refine pure_ (i := 11) (N := some 65) (v := ?_) (a' := ?_) #[true, true, true, false, true, true, false, true, true, false, true, true, false, false, false, false] rfl rfl (any_of HT_.out (by kernel_rfl)) (fun _ _ _ h => h) (Or.inl ⟨by rfl, ?_⟩) ?_ ?_
                rotate_left
                · intro w'
                  go_simp
                  with_reducible rfl
                rotate_left
                · simp only [Act.put, List.setIfInBounds_toArray, List.set_cons_zero, List.set_cons_succ, i64_w, i32_w]
                  rfl
                refine take_ (i := 3) (N := some 57) (v := ?_) (a' := ?_) #[true, true, true, true, true, true, false, true, true, false, true, true, false, false, false, false] rfl rfl (take_ofW HT_.out HW_.out (by kernel_rfl)) (fun _ _ _ h => h) (Or.inl ⟨by rfl, ?_⟩) hHeld ?_ ?_
                rotate_left
                · rintro w' ⟨s0, s1, s2, s3, s4, s5, s6, s7⟩
                  go_simp
                  with_reducible rfl
                rotate_left
                · simp only [Act.put, List.setIfInBounds_toArray, List.set_cons_zero, List.set_cons_succ, i64_w, i32_w]
                  rfl
                refine take_ (i := 6) (N := some 60) (v := ?_) (a' := ?_) #[true, true, true, true, true, true, true, true, true, false, true, true, false, false, false, false] rfl rfl (take_ofW HT_.out HW_.out (by kernel_rfl)) (fun _ _ _ h => h) (Or.inl ⟨by rfl, ?_⟩) hHeld ?_ ?_
                rotate_left
                · rintro w' ⟨s0, s1, s2, s3, s4, s5, s6, s7⟩
                  go_simp
                  with_reducible rfl
                rotate_left
                · simp only [Act.put, List.setIfInBounds_toArray, List.set_cons_zero, List.set_cons_succ, i64_w, i32_w]
                  rfl
                refine take_ (i := 9) (N := some 63) (v := ?_) (a' := ?_) #[true, true, true, true, true, true, true, true, true, true, true, true, false, false, false, false] rfl rfl (take_ofW HT_.out HW_.out (by kernel_rfl)) (fun _ _ _ h => h) (Or.inl ⟨by rfl, ?_⟩) hHeld ?_ ?_
                rotate_left
                · rintro w' ⟨s0, s1, s2, s3, s4, s5, s6, s7⟩
                  go_simp
                  with_reducible rfl
                rotate_left
                · simp only [Act.put, List.setIfInBounds_toArray, List.set_cons_zero, List.set_cons_succ, i64_w, i32_w]
                  rfl
                refine take_ (i := 12) (N := some 66) (v := ?_) (a' := ?_) #[true, true, true, true, true, true, true, true, true, true, true, true, true, false, false, false] rfl rfl (take_ofW HT_.out HW_.out (by kernel_rfl)) (fun _ _ _ h => h) (Or.inl ⟨by rfl, ?_⟩) hHeld ?_ ?_
                rotate_left
                · rintro w' ⟨s0, s1, s2, s3, s4, s5, s6, s7⟩
                  go_simp
                  with_reducible rfl
                rotate_left
                · simp only [Act.put, List.setIfInBounds_toArray, List.set_cons_zero, List.set_cons_succ, i64_w, i32_w]
                  rfl
                refine one_ (i := 13) (N := some 67) #[true, true, true, true, true, true, true, true, true, true, true, true, true, true, false, false] rfl rfl (one_of HT_.out (by kernel_rfl)) (by decide) (fun K hK => ?_)
                refine Kd.N_lit_step k38 _ 38 ?hg (N' := 67) ?hd (xs := ([(⟨(rd_T38 t212 1).f0, (rd_T38 t212 1).f1⟩ : S38), (⟨(rd_T38 t212 1).f0, (rd_T38 t212 1).f1⟩ : S38), (⟨(rd_T38 t212 1).f0, (rd_T38 t212 1).f1⟩ : S38), (⟨(rd_T38 t212 1).f0, (rd_T38 t212 1).f1⟩ : S38)] : List (S38))) (inner := [.int .i64 ((rd_T38 t212 1).f0), .slice A229_1 ((rd_T38 t212 1).f1).length c229_1, .int .i64 ((rd_T38 t212 1).f0), .slice A229_1 ((rd_T38 t212 1).f1).length c229_1, .int .i64 ((rd_T38 t212 1).f0), .slice A229_1 ((rd_T38 t212 1).f1).length c229_1, .int .i64 ((rd_T38 t212 1).f0), .slice A229_1 ((rd_T38 t212 1).f1).length c229_1]) (ok := (fun k_ => (w.heap.size ≤ k_) ∧ some k_ ≠ (.slice (some ad229) t212.length co38 : Value).ownBlock ∧ k_ ≠ g)) (okp := (fun k_ => (w.heap.size ≤ k_) ∧ some k_ ≠ (.slice (some ad229) t212.length co38 : Value).ownBlock ∧ k_ ≠ g)) ?hr ?hp (fun _ hk => hk) ((show ∀ k_, w41.heap.size ≤ k_ → (fun k_ => (w.heap.size ≤ k_) ∧ some k_ ≠ (.slice (some ad229) t212.length co38 : Value).ownBlock ∧ k_ ≠ g) k_ from fun k_ hk => ⟨(Nat.le_trans (keep_size (w := w) (g := g) (row := none) (by repeat (first | (with_reducible first | exact HK.out | apply KeepBut.set_ | apply keep_drewN | apply keep_drew | apply keep_alloc) | exact HK.out))) hk), Kd.fresh' (Kd.N_lt (by (with_reducible repeat (first | apply Kd.N_alloc | apply Kd.N_drewN | apply Kd.N_drew)); exact HO214.out)) k_ hk, IsS92.fresh (by repeat (first | (with_reducible first | exact HI0.out | apply IsS92.alloc | apply IsS92.drewN | apply IsS92.drew | apply IsS92.set_1) | exact HI0.out)) k_ hk⟩) _ (Nat.le_refl _)) (Below.refl _ _) (Nat.le_refl _) (by simp) ?_; (case hd => rfl); (case hg => rfl); (case hr => first | (go_simp; done) | (go_simp; rfl)); (case hp => exact (Reps.c2 (show Kd.FK k38 _ _ (⟨(rd_T38 t212 1).f0, (rd_T38 t212 1).f1⟩ : S38) [.int .i64 ((rd_T38 t212 1).f0), .slice A229_1 ((rd_T38 t212 1).f1).length c229_1] from (k38_mkF _ _ (⟨(rd_T38 t212 1).f0, (rd_T38 t212 1).f1⟩ : S38) (Kd.V_reads' (Kd.V_mono (ok' := (fun k_ => (w.heap.size ≤ k_) ∧ some k_ ≠ (.slice (some ad229) t212.length co38 : Value).ownBlock ∧ k_ ≠ g)) (HL229_1.out) (fun k_ hk => ⟨hk.1.1, ⟨hk.2, hk.1.2⟩⟩))).2.1 (Kd.V_F (Kd.V_mono (ok' := (fun k_ => (w.heap.size ≤ k_) ∧ some k_ ≠ (.slice (some ad229) t212.length co38 : Value).ownBlock ∧ k_ ≠ g)) (HL229_1.out) (fun k_ hk => ⟨hk.1.1, ⟨hk.2, hk.1.2⟩⟩))))) (Reps.c2 (show Kd.FK k38 _ _ (⟨(rd_T38 t212 1).f0, (rd_T38 t212 1).f1⟩ : S38) [.int .i64 ((rd_T38 t212 1).f0), .slice A229_1 ((rd_T38 t212 1).f1).length c229_1] from (k38_mkF _ _ (⟨(rd_T38 t212 1).f0, (rd_T38 t212 1).f1⟩ : S38) (Kd.V_reads' (Kd.V_mono (ok' := (fun k_ => (w.heap.size ≤ k_) ∧ some k_ ≠ (.slice (some ad229) t212.length co38 : Value).ownBlock ∧ k_ ≠ g)) (HL230_1.out) (fun k_ hk => ⟨hk.1.1, ⟨hk.2, hk.1.2⟩⟩))).2.1 (Kd.V_F (Kd.V_mono (ok' := (fun k_ => (w.heap.size ≤ k_) ∧ some k_ ≠ (.slice (some ad229) t212.length co38 : Value).ownBlock ∧ k_ ≠ g)) (HL230_1.out) (fun k_ hk => ⟨hk.1.1, ⟨hk.2, hk.1.2⟩⟩))))) (Reps.c2 (show Kd.FK k38 _ _ (⟨(rd_T38 t212 1).f0, (rd_T38 t212 1).f1⟩ : S38) [.int .i64 ((rd_T38 t212 1).f0), .slice A229_1 ((rd_T38 t212 1).f1).length c229_1] from (k38_mkF _ _ (⟨(rd_T38 t212 1).f0, (rd_T38 t212 1).f1⟩ : S38) (Kd.V_reads' (Kd.V_mono (ok' := (fun k_ => (w.heap.size ≤ k_) ∧ some k_ ≠ (.slice (some ad229) t212.length co38 : Value).ownBlock ∧ k_ ≠ g)) (HL231_1.out) (fun k_ hk => ⟨hk.1.1, ⟨hk.2, hk.1.2⟩⟩))).2.1 (Kd.V_F (Kd.V_mono (ok' := (fun k_ => (w.heap.size ≤ k_) ∧ some k_ ≠ (.slice (some ad229) t212.length co38 : Value).ownBlock ∧ k_ ≠ g)) (HL231_1.out) (fun k_ hk => ⟨hk.1.1, ⟨hk.2, hk.1.2⟩⟩))))) (Reps.c2 (show Kd.FK k38 _ _ (⟨(rd_T38 t212 1).f0, (rd_T38 t212 1).f1⟩ : S38) [.int .i64 ((rd_T38 t212 1).f0), .slice A229_1 ((rd_T38 t212 1).f1).length c229_1] from (k38_mkF _ _ (⟨(rd_T38 t212 1).f0, (rd_T38 t212 1).f1⟩ : S38) (Kd.V_reads' (Kd.V_mono (ok' := (fun k_ => (w.heap.size ≤ k_) ∧ some k_ ≠ (.slice (some ad229) t212.length co38 : Value).ownBlock ∧ k_ ≠ g)) (HL232_1.out) (fun k_ hk => ⟨hk.1.1, ⟨hk.2, hk.1.2⟩⟩))).2.1 (Kd.V_F (Kd.V_mono (ok' := (fun k_ => (w.heap.size ≤ k_) ∧ some k_ ≠ (.slice (some ad229) t212.length co38 : Value).ownBlock ∧ k_ ≠ g)) (HL232_1.out) (fun k_ hk => ⟨hk.1.1, ⟨hk.2, hk.1.2⟩⟩))))) (Reps.none _ _))))))
                intro v234 w42 ho43 hb hg_ hnew_
                have HS0_ := (hb.cell (World.block_lt_of_cell? _ _ (hHeld.1))).trans (hHeld.1)
                have HS1_ := (hb.cell (World.block_lt_of_cell? _ _ (hHeld.2.1))).trans (hHeld.2.1)
                have HS2_ := (hb.cell (World.block_lt_of_cell? _ _ (hHeld.2.2.1))).trans (hHeld.2.2.1)
                have HS3_ := (hb.cell (World.block_lt_of_cell? _ _ (hHeld.2.2.2.1))).trans (hHeld.2.2.2.1)
                have HS4_ := (hb.cell (World.block_lt_of_cell? _ _ (hHeld.2.2.2.2.1))).trans (hHeld.2.2.2.2.1)
                have HS5_ := (hb.cell (World.block_lt_of_cell? _ _ (hHeld.2.2.2.2.2.1))).trans (hHeld.2.2.2.2.2.1)
                have HS6_ := (hb.cell (World.block_lt_of_cell? _ _ (hHeld.2.2.2.2.2.2.1))).trans (hHeld.2.2.2.2.2.2.1)
                have HS7_ := (hb.cell (World.block_lt_of_cell? _ _ (hHeld.2.2.2.2.2.2.2))).trans (hHeld.2.2.2.2.2.2.2)
                clear hg_ hnew_
                (first | rw [← Ny233.out] at ho43 | (simp only [Int.reduceToNat] at ho43; rw [← Ny233.out] at ho43))
                have n0_ := Aside0.mk (Kd.N_elder' (by (with_reducible repeat (first | apply Kd.N_alloc | apply Kd.N_drewN | apply Kd.N_drew)); exact HO214.out) (Kd.N_base ho43) hb)
                have n1_ := Aside0.mk (Kd.V_elder' (by (with_reducible repeat (first | apply Kd.V_alloc | apply Kd.V_drewN | apply Kd.V_drew)); exact HL229_1.out) (Kd.N_base ho43) hb)
                have n2_ := Aside0.mk (Kd.V_elder' (by (with_reducible repeat (first | apply Kd.V_alloc | apply Kd.V_drewN | apply Kd.V_drew)); exact HL230_1.out) (Kd.N_base ho43) hb)
                have n3_ := Aside0.mk (Kd.V_elder' (by (with_reducible repeat (first | apply Kd.V_alloc | apply Kd.V_drewN | apply Kd.V_drew)); exact HL231_1.out) (Kd.N_base ho43) hb)
                have n4_ := Aside0.mk (Kd.V_elder' (by (with_reducible repeat (first | apply Kd.V_alloc | apply Kd.V_drewN | apply Kd.V_drew)); exact HL232_1.out) (Kd.N_base ho43) hb)
                have n5_ := Aside0.mk (Kd.N_lower ho43 (keep_size (w := w) (g := g) (row := none) (by repeat (first | (with_reducible first | exact HK.out | apply KeepBut.set_ | apply keep_drewN | apply keep_drew | apply keep_alloc) | exact HK.out))))
                have n6_ := Aside0.mk (IsS92.below (by repeat (first | (with_reducible first | exact HI0.out | apply IsS92.alloc | apply IsS92.drewN | apply IsS92.drew | apply IsS92.set_1) | exact HI0.out)) hb)
                have n7_ := Aside0.mk (Kd.C_below (by repeat (first | (with_reducible exact HR229_1.out) | (with_reducible refine Kd.C_alloc ?_ _) | (with_reducible refine Kd.C_drewN ?_ _) | (with_reducible refine Kd.C_drew ?_) | exact HR229_1.out)) hb)
                have n8_ := Aside0.mk (Kd.C_below (by repeat (first | (with_reducible exact HR230_1.out) | (with_reducible refine Kd.C_alloc ?_ _) | (with_reducible refine Kd.C_drewN ?_ _) | (with_reducible refine Kd.C_drew ?_) | exact HR230_1.out)) hb)
                have n9_ := Aside0.mk (Kd.C_below (by repeat (first | (with_reducible exact HR231_1.out) | (with_reducible refine Kd.C_alloc ?_ _) | (with_reducible refine Kd.C_drewN ?_ _) | (with_reducible refine Kd.C_drew ?_) | exact HR231_1.out)) hb)
                have n10_ := Aside0.mk (Kd.C_below (by repeat (first | (with_reducible exact HR232_1.out) | (with_reducible refine Kd.C_alloc ?_ _) | (with_reducible refine Kd.C_drewN ?_ _) | (with_reducible refine Kd.C_drew ?_) | exact HR232_1.out)) hb)
                have n11_ := Aside0.mk (KeepBut.trans (by repeat (first | (with_reducible first | exact HK.out | apply KeepBut.set_ | apply keep_drewN | apply keep_drew | apply keep_alloc) | exact HK.out)) (KeepBut.of_below hb g none) (.inl rfl))
                have n12_ := Aside0.mk (below_step (by repeat (first | (with_reducible first | exact HB.out | apply below_alloc | apply pw_below_drewN | apply below_drew1 | refine below_set ?_ (IsS92.ge HI0.out)) | exact HB.out)) hb)
                clear HO214
                clear HL229_1
                clear HL230_1
                clear HL231_1
                clear HL232_1
                clear HI0
                clear HR229_1
                clear HR230_1
                clear HR231_1
                clear HR232_1
                clear HK
                clear HB
                have HO214 := n0_
                have HL229_1 := n1_
                have HL230_1 := n2_
                have HL231_1 := n3_
                have HL232_1 := n4_
                have HO235 := n5_
                have HI0 := n6_
                have HR229_1 := n7_
                have HR230_1 := n8_
                have HR231_1 := n9_
                have HR232_1 := n10_
                have HK := n11_
                have HB := n12_
                clear n0_ n1_ n2_ n3_ n4_ n5_ n6_ n7_ n8_ n9_ n10_ n11_ n12_
                clear hb ho43
                obtain ⟨Ao45, co45, eo45⟩ := Kd.N_slice HO235.out
                (first | subst eo45 | (injection eo45 with f1_ f2_ f3_; have f4_ := f1_.symm; have f5_ := f3_.symm; clear f1_ f2_ f3_; subst f4_; subst f5_))
                refine hK.out _ _ ⟨HS0_, HS1_, HS2_, HS3_, HS4_, HS5_, HS6_, HS7_⟩ (fun hHeld => ?_)
                clear hK K
                refine norm_ (a' := ?_) ?_ ?_
                rotate_left
                · show Act.put _ (some 67) _ = _
                  simp only [Act.put, List.setIfInBounds_toArray, List.set_cons_zero, List.set_cons_succ, i64_w, i32_w]
                  rfl
                refine last_ (i := 14) (N := some 68) #[true, true, true, true, true, true, true, true, true, true, true, true, true, true, true, false] rfl rfl (one_of HT_.out (by kernel_rfl)) (by decide) (fun K hK => ?_)
                refine Kd.N_append_rows_step k38 w.heap.size (by rfl) (.tmp 54) (.tmp 67) 25 38 (.agg #[(.int .i64 0), (.slice none 0 0)]) 32 rfl Try.underlying25 info38 rfl (by decide) (by omega) (.slice (some ad229) t212.length co38) t212 y233 _ _ _ (fun k_ => (w.heap.size ≤ k_) ∧ k_ ≠ g) (fun k_ => ((fun k_ => (w.heap.size ≤ k_) ∧ k_ ≠ g)) k_ ∧ some k_ ≠ (.slice (some ad229) t212.length co38 : Value).ownBlock) rfl rfl ?aO ?aR (fun _ hk => hk) ?aF (Below.refl _ _) ?aS ?aL ?_
                (case aR => exact (by skip; exact Kd.N_F (Kd.N_mono (ok' := (fun k_ => ((fun k_ => (w.heap.size ≤ k_) ∧ k_ ≠ g)) k_ ∧ some k_ ≠ (.slice (some ad229) t212.length co38 : Value).ownBlock)) (HO235.out) (fun k_ hk => ⟨⟨hk.1, hk.2.2⟩, hk.2.1⟩))))
                (case aF => exact (fun k_ hk => ⟨(Nat.le_trans (keep_size (w := w) (g := g) (row := none) (by repeat (first | (with_reducible first | exact HK.out | apply KeepBut.set_ | apply keep_drewN | apply keep_drew | apply keep_alloc) | exact HK.out))) hk), IsS92.fresh (by repeat (first | (with_reducible first | exact HI0.out | apply IsS92.alloc | apply IsS92.drewN | apply IsS92.drew | apply IsS92.set_1) | exact HI0.out)) k_ hk⟩))
                (case aO => exact (by (with_reducible repeat (first | apply Kd.N_alloc | apply Kd.N_drewN | apply Kd.N_drew)); exact Kd.N_mono HO214.out (fun _ hk => ⟨hk.1.1, hk.1.2⟩)))
                (case aS => exact (keep_size (w := w) (g := g) (row := none) (by repeat (first | (with_reducible first | exact HK.out | apply KeepBut.set_ | apply keep_drewN | apply keep_drew | apply keep_alloc) | exact HK.out))))
                (case aL => have := LMc35.out; omega)
                intro v237 w44 ho hb hg hat
                rw [← Ny236.out] at ho
                have n0_ := Aside0.mk (IsS92.grown (by repeat (first | (with_reducible first | exact HI0.out | apply IsS92.alloc | apply IsS92.drewN | apply IsS92.drew | apply IsS92.set_1) | exact HI0.out)) hg (IsS92.own_neN HI0.out HO214.out (by decide)))
                have n1_ := Aside0.mk (Kd.V_afterv (ok := (fun k_ => (w.heap.size ≤ k_) ∧ some k_ ≠ (.slice Ao45 y233.length co45 : Value).ownBlock ∧ k_ ≠ g)) (by (with_reducible repeat (first | apply Kd.V_alloc | apply Kd.V_drewN | apply Kd.V_drew)); exact Kd.V_mono HL229_1.out (fun _ hk => ⟨⟨hk.1.1.1, ⟨hk.2, hk.1.1.2⟩⟩, hk.1.2⟩)) hg hat)
                have n2_ := Aside0.mk (Kd.V_afterv (ok := (fun k_ => (w.heap.size ≤ k_) ∧ some k_ ≠ (.slice Ao45 y233.length co45 : Value).ownBlock ∧ k_ ≠ g)) (by (with_reducible repeat (first | apply Kd.V_alloc | apply Kd.V_drewN | apply Kd.V_drew)); exact Kd.V_mono HL230_1.out (fun _ hk => ⟨⟨hk.1.1.1, ⟨hk.2, hk.1.1.2⟩⟩, hk.1.2⟩)) hg hat)
                have n3_ := Aside0.mk (Kd.V_afterv (ok := (fun k_ => (w.heap.size ≤ k_) ∧ some k_ ≠ (.slice Ao45 y233.length co45 : Value).ownBlock ∧ k_ ≠ g)) (by (with_reducible repeat (first | apply Kd.V_alloc | apply Kd.V_drewN | apply Kd.V_drew)); exact Kd.V_mono HL231_1.out (fun _ hk => ⟨⟨hk.1.1.1, ⟨hk.2, hk.1.1.2⟩⟩, hk.1.2⟩)) hg hat)
                have n4_ := Aside0.mk (Kd.V_afterv (ok := (fun k_ => (w.heap.size ≤ k_) ∧ some k_ ≠ (.slice Ao45 y233.length co45 : Value).ownBlock ∧ k_ ≠ g)) (by (with_reducible repeat (first | apply Kd.V_alloc | apply Kd.V_drewN | apply Kd.V_drew)); exact Kd.V_mono HL232_1.out (fun _ hk => ⟨⟨hk.1.1.1, ⟨hk.2, hk.1.1.2⟩⟩, hk.1.2⟩)) hg hat)
                have n5_ := Aside0.mk (Kd.N_afterv (ok := (fun k_ => (w.heap.size ≤ k_) ∧ k_ ≠ g)) (by (with_reducible repeat (first | apply Kd.N_alloc | apply Kd.N_drewN | apply Kd.N_drew)); exact Kd.N_mono HO235.out (fun _ hk => ⟨⟨hk.1, hk.2.2⟩, hk.2.1⟩)) hg hat)
                have n6_ := Aside0.mk (below_weaken (by repeat (first | (with_reducible first | exact HB.out | apply below_alloc | apply pw_below_drewN | apply below_drew1 | refine below_set ?_ (IsS92.ge HI0.out)) | exact HB.out)) HL.out hb)
                have n7_ := Aside0.mk (KeepBut.trans (by repeat (first | (with_reducible first | exact HK.out | apply KeepBut.set_ | apply keep_drewN | apply keep_drew | apply keep_alloc) | exact HK.out)) (KeepBut.of_grown hg g) (Kd.N_base2 HO214.out))
                have n8_ := Aside0.mk (ho)
                clear HI0
                clear HL229_1
                clear HL230_1
                clear HL231_1
                clear HL232_1
                clear HO235
                clear HB
                clear HK
                clear HO214
                have HI0 := n0_
                have HL229_1 := n1_
                have HL230_1 := n2_
                have HL231_1 := n3_
                have HL232_1 := n4_
                have HO235 := n5_
                have HB := n6_
                have HK := n7_
                have HO238 := n8_
                clear n0_ n1_ n2_ n3_ n4_ n5_ n6_ n7_ n8_
                clear ho hb hg hat
                refine hK.out _ _ ?_
                clear hK K
                refine norm_ (a' := ?_) ?_ ?_
                rotate_left
                · show Act.put _ (some 68) _ = _
                  simp only [Act.put, List.setIfInBounds_toArray, List.set_cons_zero, List.set_cons_succ, i64_w, i32_w]
                  rfl
                refine pure_ (i := 15) (N := some 2) (v := ?_) (a' := ?_) #[true, true, true, true, true, true, true, true, true, true, true, true, true, true, true, true] rfl rfl (any_of HT_.out (by kernel_rfl)) (fun _ _ _ h => h) (Or.inl ⟨by rfl, ?_⟩) ?_ ?_
                rotate_left
                · intro w'
                  go_simp
                  with_reducible rfl
                rotate_left
                · simp only [Act.put, List.setIfInBounds_toArray, List.set_cons_zero, List.set_cons_succ, i64_w, i32_w]
                  rfl
                refine done_ (done_of HT_.out (by kernel_rfl)) ?_
                try go_wp2
                go_ret
                exact ⟨_, by first | rfl | (simp [errW_none, errW_some] <;> rfl) | (simp [*, errW_none, errW_some] <;> rfl), by (with_reducible repeat (first | apply Kd.N_alloc | apply Kd.N_drewN | apply Kd.N_drew)); exact Kd.N_mono HO238.out (fun _ hk => hk.1), by repeat (first | (with_reducible first | exact HI0.out | apply IsS92.alloc | apply IsS92.drewN | apply IsS92.drew | apply IsS92.set_1) | exact HI0.out), by repeat (first | (with_reducible first | exact HB.out | apply below_alloc | apply pw_below_drewN | apply below_drew1 | refine below_set ?_ (IsS92.ge HI0.out)) | exact HB.out), by repeat (first | (with_reducible first | exact HK.out | apply KeepBut.set_ | apply keep_drewN | apply keep_drew | apply keep_alloc) | exact HK.out)⟩
              · rw [if_neg c35] at H
                exact absurd H (by simp)
            · rw [if_neg c34] at H
              exact absurd H (by simp)
          · rw [if_neg c33] at H
            have c33b0 : (t220 == 3) = false := beq_eq_false_iff_ne.mpr c33
            have c33b1 : (t220 != 3) = true := bne_iff_ne.mpr c33
            by_cases c46 : t220 = 4
            · rw [if_pos c46] at H
              exact absurd H (by simp)
            · rw [if_neg c46] at H
              have c46b0 : (t220 == 4) = false := beq_eq_false_iff_ne.mpr c46
              have c46b1 : (t220 != 4) = true := bne_iff_ne.mpr c46
              by_cases c47 : 0 ≤ t218
              · rw [if_pos c47] at H
                have c47b0 : decide (0 ≤ t218) = true := decide_eq_true c47
                clear c47
                by_cases c48 : t218 < (t212.length : Int)
                · rw [if_pos c48] at H
                  have c48b0 : decide (t218 < (t212.length : Int)) = true := decide_eq_true c48
                  clear c48
                  obtain ⟨y239, hy239⟩ : ∃ y_ : List (S38), y_ = (t212.set (t218 : Int).toNat (⟨(rd_T38 t212 t218).f0, ([] : List Int)⟩ : S38)) := ⟨_, rfl⟩
                  replace H : (some (y239, t221)) = some (r1, r2) := by first | (rw [hy239]; with_reducible exact H) | (have H2_ := (Option.bind_some _ _).symm.trans H; rw [hy239]; with_reducible exact H2_) | (have H2_ := (Option.bind_some _ _).symm.trans H; with_reducible exact H2_) | with_reducible exact H | (rw [hy239]; exact H) | exact H
                  have Ny239 := Aside0.mk hy239
                  clear hy239
                  simp only [Option.some.injEq, Prod.mk.injEq] at H
                  obtain ⟨rfl, rfl⟩ := H
                  go_enter Try.func64, Try.ntmps64
                  go_wp2_with (first | ((with_reducible refine gate_callee (f := 88) rfl ?_); refine goesL_ (some 6) rfl rfl Try.func88 (by kernel_rfl) rfl #[.pointer (some ⟨g, 0, none⟩)] rfl (by (try simp only [List.map_toArray, List.map_cons, List.map_nil]); first | done | rfl | (simp only [List.length_drop, List.length_take]; rfl)) ?_; (with_reducible refine (spec_l71Classes.calls k g s0_0 s0_1 t212 t215 w0 _ ?side1 ?side2 A2.out).mono ?_); (case side1 => repeat (first | (with_reducible first | exact HI0.out | apply IsS92.alloc | apply IsS92.drewN | apply IsS92.drew | apply IsS92.set_1) | exact HI0.out)); (case side2 => repeat (first | (with_reducible first | exact HB.out | apply below_alloc | apply pw_below_drewN | apply below_drew1 | refine below_set ?_ (IsS92.ge HI0.out)) | exact HB.out)); rintro e w50 ⟨v213, rfl, ho0, hi, hb, hk⟩; refine ⟨_, rfl, ?_⟩; have n0_ := Aside0.mk (Kd.N_lower (Kd.N_mono (ok' := fun k_ => (w.heap.size ≤ k_) ∧ k_ ≠ g) (Kd.S_N (Kd.S_bound ho0)) (fun k_ hk_ => ⟨(Nat.le_trans (keep_size (w := w) (g := g) (row := none) (by repeat (first | (with_reducible first | exact HK.out | apply KeepBut.set_ | apply keep_drewN | apply keep_drew | apply keep_alloc) | exact HK.out))) hk_.2.1), (IsS92.fresh (by repeat (first | (with_reducible first | exact HI0.out | apply IsS92.alloc | apply IsS92.drewN | apply IsS92.drew | apply IsS92.set_1) | exact HI0.out)) k_ hk_.2.1)⟩)) (keep_size (w := w) (g := g) (row := none) (by repeat (first | (with_reducible first | exact HK.out | apply KeepBut.set_ | apply keep_drewN | apply keep_drew | apply keep_alloc) | exact HK.out)))); have n1_ := Aside0.mk (KeepBut.trans (by repeat (first | (with_reducible first | exact HK.out | apply KeepBut.set_ | apply keep_drewN | apply keep_drew | apply keep_alloc) | exact HK.out)) hk (.inl rfl)); have n2_ := Aside0.mk (hb); have n3_ := Aside0.mk (hi); clear HK; clear HB; clear HI0; have HO214 := n0_; have HK := n1_; have HB := n2_; have HI0 := n3_; clear n0_ n1_ n2_ n3_; (try clear hb); (try clear hb2); (try clear hk); (try clear hi); (try clear ho0)) | ((with_reducible refine gate_callee (f := 65) rfl ?_); refine goesL_ (some 8) rfl rfl Try.func65 (by kernel_rfl) rfl #[.pointer (some ⟨g, 0, none⟩), .int .i64 20] rfl (by (try simp only [List.map_toArray, List.map_cons, List.map_nil]); first | done | rfl | (simp only [List.length_drop, List.length_take]; rfl)) ?_; (with_reducible refine (spec_l6Rd_pick.calls k g s0_0 t215 20 t216 t217 w0 _ ?side1 ?side2 A3.out).mono ?_); (case side1 => repeat (first | (with_reducible first | exact HI0.out | apply IsS92.alloc | apply IsS92.drewN | apply IsS92.drew | apply IsS92.set_1) | exact HI0.out)); (case side2 => repeat (first | (with_reducible first | exact HB.out | apply below_alloc | apply pw_below_drewN | apply below_drew1 | refine below_set ?_ (IsS92.ge HI0.out)) | exact HB.out)); rintro e w51 ⟨rfl, hi, hb, hk⟩; refine ⟨_, rfl, ?_⟩; have n0_ := Aside0.mk (Kd.N_mono (Kd.N_keep (Kd.N_mono (ok := fun k_ => (((w.heap.size ≤ k_)) ∧ k_ ≠ g)) (by (with_reducible repeat (first | apply Kd.N_alloc | apply Kd.N_drewN | apply Kd.N_drew)); exact HO214.out) (fun k_ hk_ => (⟨hk_, hk_.2⟩ : _ ∧ k_ ≠ g))) hk (fun _ h => h.2)) (fun _ h => h.1)); have n1_ := Aside0.mk (KeepBut.trans (by repeat (first | (with_reducible first | exact HK.out | apply KeepBut.set_ | apply keep_drewN | apply keep_drew | apply keep_alloc) | exact HK.out)) hk (.inl rfl)); have n2_ := Aside0.mk (hb); have n3_ := Aside0.mk (hi); clear HO214; clear HK; clear HB; clear HI0; have HO214 := n0_; have HK := n1_; have HB := n2_; have HI0 := n3_; clear n0_ n1_ n2_ n3_; (try clear hb); (try clear hb2); (try clear hk); (try clear hi); obtain ⟨Ao52, co52, eo52⟩ := Kd.N_slice HO214.out; subst eo52) | ((with_reducible refine gate_callee (f := 65) rfl ?_); refine goesL_ (some 14) rfl rfl Try.func65 (by kernel_rfl) rfl #[.pointer (some ⟨g, 0, none⟩), .int .i64 (t212.length : Int)] rfl (by (try simp only [List.map_toArray, List.map_cons, List.map_nil]); first | done | rfl | (simp only [List.length_drop, List.length_take]; rfl)) ?_; (with_reducible refine (spec_l6Rd_pick.calls k g s0_0 t217 (t212.length : Int) t218 t219 w0 _ ?side1 ?side2 A7.out).mono ?_); (case side1 => repeat (first | (with_reducible first | exact HI0.out | apply IsS92.alloc | apply IsS92.drewN | apply IsS92.drew | apply IsS92.set_1) | exact HI0.out)); (case side2 => repeat (first | (with_reducible first | exact HB.out | apply below_alloc | apply pw_below_drewN | apply below_drew1 | refine below_set ?_ (IsS92.ge HI0.out)) | exact HB.out)); rintro e w53 ⟨rfl, hi, hb, hk⟩; refine ⟨_, rfl, ?_⟩; have n0_ := Aside0.mk (Kd.N_mono (Kd.N_keep (Kd.N_mono (ok := fun k_ => (((w.heap.size ≤ k_)) ∧ k_ ≠ g)) (by (with_reducible repeat (first | apply Kd.N_alloc | apply Kd.N_drewN | apply Kd.N_drew)); exact HO214.out) (fun k_ hk_ => (⟨hk_, hk_.2⟩ : _ ∧ k_ ≠ g))) hk (fun _ h => h.2)) (fun _ h => h.1)); have n1_ := Aside0.mk (KeepBut.trans (by repeat (first | (with_reducible first | exact HK.out | apply KeepBut.set_ | apply keep_drewN | apply keep_drew | apply keep_alloc) | exact HK.out)) hk (.inl rfl)); have n2_ := Aside0.mk (hb); have n3_ := Aside0.mk (hi); clear HO214; clear HK; clear HB; clear HI0; have HO214 := n0_; have HK := n1_; have HB := n2_; have HI0 := n3_; clear n0_ n1_ n2_ n3_; (try clear hb); (try clear hb2); (try clear hk); (try clear hi)) | ((with_reducible refine gate_callee (f := 65) rfl ?_); refine goesL_ (some 16) rfl rfl Try.func65 (by kernel_rfl) rfl #[.pointer (some ⟨g, 0, none⟩), .int .i64 6] rfl (by (try simp only [List.map_toArray, List.map_cons, List.map_nil]); first | done | rfl | (simp only [List.length_drop, List.length_take]; rfl)) ?_; (with_reducible refine (spec_l6Rd_pick.calls k g s0_0 t219 6 t220 t221 w0 _ ?side1 ?side2 A8.out).mono ?_); (case side1 => repeat (first | (with_reducible first | exact HI0.out | apply IsS92.alloc | apply IsS92.drewN | apply IsS92.drew | apply IsS92.set_1) | exact HI0.out)); (case side2 => repeat (first | (with_reducible first | exact HB.out | apply below_alloc | apply pw_below_drewN | apply below_drew1 | refine below_set ?_ (IsS92.ge HI0.out)) | exact HB.out)); rintro e w54 ⟨rfl, hi, hb, hk⟩; refine ⟨_, rfl, ?_⟩; have n0_ := Aside0.mk (Kd.N_mono (Kd.N_keep (Kd.N_mono (ok := fun k_ => (((w.heap.size ≤ k_)) ∧ k_ ≠ g)) (by (with_reducible repeat (first | apply Kd.N_alloc | apply Kd.N_drewN | apply Kd.N_drew)); exact HO214.out) (fun k_ hk_ => (⟨hk_, hk_.2⟩ : _ ∧ k_ ≠ g))) hk (fun _ h => h.2)) (fun _ h => h.1)); have n1_ := Aside0.mk (KeepBut.trans (by repeat (first | (with_reducible first | exact HK.out | apply KeepBut.set_ | apply keep_drewN | apply keep_drew | apply keep_alloc) | exact HK.out)) hk (.inl rfl)); have n2_ := Aside0.mk (hb); have n3_ := Aside0.mk (hi); clear HO214; clear HK; clear HB; clear HI0; have HO214 := n0_; have HK := n1_; have HB := n2_; have HI0 := n3_; clear n0_ n1_ n2_ n3_; (try clear hb); (try clear hb2); (try clear hk); (try clear hi); have p49 : 0 ≤ (t218 : Int) := of_decide_eq_true (by first | (with_reducible assumption) | assumption); have q49 : (t218 : Int) < ((t212.length : Int) : Int) := of_decide_eq_true (by first | (with_reducible assumption) | assumption); obtain ⟨go49, co49, eo49, gb49, gl49, cl49, HG49⟩ := Kd.N_form HO214.out (by omega); (first | cases eo49 | (injection eo49 with ea_ en_ ec_; (first | subst ea_ | (injection ea_ with ea_; subst ea_)); subst ec_; clear en_)); have GB49 := Aside0.mk gb49; have GG49 := Aside0.mk HG49; clear gb49 gl49 HG49; obtain ⟨ce49, hcl49, hM49, hcc49, hfr49⟩ := Kd.N_elem HO214.out z38 (t218 : Int) p49 q49; obtain ⟨ua49_1, uc49_1, rfl, ul49_1, ge49_1⟩ := k38_openF hM49; have hx49_0 : w54.cell? ⟨go49, (t218 : Int).toNat * 2, none⟩ = some (.int .i64 ((rd_T38 t212 t218).f0)) := hcc49 0 _ rfl; have hx49_1 : w54.cell? ⟨go49, (t218 : Int).toNat * 2 + 1, none⟩ = some (.slice ua49_1 ((rd_T38 t212 t218).f1).length uc49_1) := hcc49 1 _ rfl; have hf49_0 : w54.frozen? ⟨go49, (t218 : Int).toNat * 2, none⟩ = false := hfr49 0; have hf49_1 : w54.frozen? ⟨go49, (t218 : Int).toNat * 2 + 1, none⟩ = false := hfr49 1; clear hcl49 hcc49 hfr49 hM49; replace p49 := eq_true p49; replace q49 := eq_true q49; have HX55 := Aside0.mk (show Kd.N k38 38 w54 w.heap.size (fun k_ => (w.heap.size ≤ k_) ∧ k_ ≠ g) (.slice (some ⟨go49, 0, none⟩) t212.length co52) t212 from (by (with_reducible repeat (first | apply Kd.N_alloc | apply Kd.N_drewN | apply Kd.N_drew)); exact HO214.out)); obtain ⟨ce55, hcl55, hM55, hcc55, hfr55⟩ := Kd.N_elem HX55.out z38 (t218 : Int) (of_decide_eq_true (by first | (with_reducible assumption) | assumption)) (by have h_ : (t218 : Int) < ((t212.length : Int) : Int) := of_decide_eq_true (by first | (with_reducible assumption) | assumption); first | exact h_ | (have e_ := (Kd.N_reads' HO214.out).1; omega) | simpa using h_); obtain ⟨ua55_1, uc55_1, rfl, ul55_1, ge55_1⟩ := k38_openF hM55; have HP55 := Kd.N_seg HX55.out (t218 : Int) (of_decide_eq_true (by first | (with_reducible assumption) | assumption)) (by have h_ : (t218 : Int) < ((t212.length : Int) : Int) := of_decide_eq_true (by first | (with_reducible assumption) | assumption); first | exact h_ | (have e_ := (Kd.N_reads' HO214.out).1; omega) | simpa using h_) (seg := [.slice none 0 0]) (j := 1) hcl55 hcc55 (show 2 ≤ 2 from by decide) (x' := (⟨(rd_T38 t212 t218).f0, ([] : List Int)⟩ : S38)) (k38_mkF _ _ (⟨(rd_T38 t212 t218).f0, ([] : List Int)⟩ : S38) (Nat.le_refl _) (Kd.F_nil _ _ _)) (fun _ hk => hk); have hx55_1 := hcc55 1 _ rfl; (try simp only [show (k38).sz = 2 from rfl, Nat.mul_one, Nat.add_zero] at hx55_1); have hf55_1 := hfr55 1; (try simp only [show (k38).sz = 2 from rfl, Nat.mul_one, Nat.add_zero] at hf55_1); clear hcl55 hcc55 hfr55 hM55) | ((with_reducible refine gate_store (t := 36) (p := 20) rfl ?_); refine store_event (t := 36) (p := 20) (v := ?vo_w56) (w1 := (w54.setCell ⟨go49, (t218 : Int).toNat * 2 + 1, none⟩ (.slice none 0 0))) ?hg ?ho ?hn ?hr ?_; (case ho => rfl); (case hg => rfl); (case hn => rfl); (case hr => first | (go_simp; done) | (go_simp; rfl)); intro w56 hw; have hg : w54.grownBy w56 (some go49) := (by rw [hw]; exact HP55.2); have hp_ : Kd.N k38 38 w56 w.heap.size (fun k_ => (w.heap.size ≤ k_) ∧ k_ ≠ g) (.slice (some ⟨go49, 0, none⟩) t212.length co52) y239 := (by rw [hw, Ny239.out]; exact HP55.1); clear HP55; have n0_ := Aside0.mk (IsS92.grown (by repeat (first | (with_reducible first | exact HI0.out | apply IsS92.alloc | apply IsS92.drewN | apply IsS92.drew | apply IsS92.set_1) | exact HI0.out)) hg (IsS92.own_neN HI0.out HO214.out (by decide))); have n1_ := Aside0.mk (hp_); have n2_ := Aside0.mk ((by rw [hw]; exact below_set (HB.out) (Nat.le_trans HL.out GB49.out) : Below w0.heap.size w0 w56)); have n3_ := Aside0.mk (KeepBut.trans (by repeat (first | (with_reducible first | exact HK.out | apply KeepBut.set_ | apply keep_drewN | apply keep_drew | apply keep_alloc) | exact HK.out)) (KeepBut.of_grown hg g) (Kd.N_base2 HO214.out)); clear HI0; clear HO214; clear HB; clear HK; have HI0 := n0_; have HO214 := n1_; have HB := n2_; have HK := n3_; clear n0_ n1_ n2_ n3_; clear hg hw hp_))
                  go_ret
                  exact ⟨_, by first | rfl | (simp [errW_none, errW_some] <;> rfl) | (simp [*, errW_none, errW_some] <;> rfl), by (with_reducible repeat (first | apply Kd.N_alloc | apply Kd.N_drewN | apply Kd.N_drew)); exact Kd.N_mono HO214.out (fun _ hk => hk.1), by repeat (first | (with_reducible first | exact HI0.out | apply IsS92.alloc | apply IsS92.drewN | apply IsS92.drew | apply IsS92.set_1) | exact HI0.out), by repeat (first | (with_reducible first | exact HB.out | apply below_alloc | apply pw_below_drewN | apply below_drew1 | refine below_set ?_ (IsS92.ge HI0.out)) | exact HB.out), by repeat (first | (with_reducible first | exact HK.out | apply KeepBut.set_ | apply keep_drewN | apply keep_drew | apply keep_alloc) | exact HK.out)⟩
                · rw [if_neg c48] at H
                  exact absurd H (by simp)
              · rw [if_neg c47] at H
                exact absurd H (by simp)

end Go.Proofs.Ytgmjolngnhdafaa.P

end
section
-- By off.py, a program of this session: the contract of spec.l71Off, out of its two printed ways. Lean checks it.
namespace Go.Proofs.Ytgmjolngnhdafaa.P
open Go.RowKit Go.Proofs.YtgmjolngnhdafaaW.PrintWords Go.Proofs.YtgmjolngnhdafaaW.PrintLast Go.Proofs.YtgmjolngnhdafaaW.PrintMore
theorem spec_l71Off.calls (k : Nat) (g : Nat) (s0_0 : List Int) (s0_1 : Int) (r1 : List (S38)) (r2 : Int) (w0 w : World) (hI : IsS92 w0 w g s0_0 s0_1) (hB : Below w0.heap.size w0 w) (h : spec_l71Off.f k s0_0 s0_1 = some (r1, r2)) :
    Calls Try.prog 64 #[.pointer (some ⟨g, 0, none⟩)] w fun e w' => ∃ v0_ : Value, e = .returned (v0_) ∧ Kd.N k38 38 w' w.heap.size (fun k_ => (w.heap.size ≤ k_)) v0_ r1 ∧ IsS92 w0 w' g s0_0 r2 ∧ Below w0.heap.size w0 w' ∧ KeepBut w w' g none := by
  rcases spec_l71Off.or k s0_0 s0_1 (r1, r2) h with h | h
  · refine (spec_l71OffA.calls k g s0_0 s0_1 r1 r2 w0 w hI hB h).mono ?_
    rintro e w' ⟨v0_, he, hS, hI', hB', hK⟩
    exact ⟨v0_, he, Kd.R_N (Kd.R_mono (Kd.R_bound (Kd.S_R hS)) (fun k_ hk => hk.2.1)), hI', hB', hK⟩
  · exact spec_l71OffB.calls k g s0_0 s0_1 r1 r2 w0 w hI hB h
end Go.Proofs.Ytgmjolngnhdafaa.P

end
section
namespace Go.Proofs.Ytgmjolngnhdafaa.P
open Go.RowKit Go.Proofs.YtgmjolngnhdafaaW.PrintWords Go.Proofs.YtgmjolngnhdafaaW.PrintLast Go.Proofs.YtgmjolngnhdafaaW.PrintMore
attribute [local go_sem] max2_int min2_int max_two min_two max_three min_three max_four min_four
set_option linter.unusedVariables false
set_option linter.unusedSimpArgs false

set_option maxHeartbeats 8000000 in
set_option maxRecDepth 100000 in
theorem spec_DrawClassUp.calls (k : Nat) (A0 : Option Addr) (c0 : Nat) (l0 : List Int) (r1 : List (S38)) (r2 : Int) (r3 : Int) (w : World) (hr0 : Kd.C (Kd.int .u8) w A0 l0.length l0) (hc0 : l0.length ≤ c0) (h : spec_DrawClassUp.f k l0 = some (r1, r2, r3)) :
    Calls Try.prog 27 #[.slice A0 l0.length c0] w fun e w' => ∃ v0_ : Value, e = .returned (.tuple #[v0_, .int .i64 r2, .int .i64 r3]) ∧ Kd.N k38 38 w' w.heap.size (fun k_ => (w.heap.size ≤ k_)) v0_ r1 ∧ Below w.heap.size w w' := by
  have HR0 := Aside0.mk hr0
  have HC0 := Aside0.mk hc0
  clear hr0 hc0
  have HB := Aside0.mk (Below.refl w.heap.size w)
  have H : ((spec_l6Open.f l0).bind fun bt212 => ((spec_l71Off.f k bt212.1 bt212.2).bind fun bt215 => ((spec_l6Rd_pick.f k bt212.1 bt215.2 (bt215.1.length : Int)).bind fun bt219 => ((spec_l6Rd_pick.f k bt212.1 bt219.2 24).bind fun bt221 => ((spec_l6Rd_pick.f k bt212.1 bt221.2 (bt215.1.length : Int)).bind fun bt223 => ((spec_l6Rd_pick.f k bt212.1 bt223.2 24).bind fun bt225 => (some (bt215.1, wrap64 (bt219.1 - (wrap64 (Int.tdiv bt221.1 23))), wrap64 (bt223.1 + (wrap64 (Int.tdiv bt225.1 23))))))))))) = some (r1, r2, r3) := h
  clear h
  replace H := Option.bind_eq_some_iff.mp H
  obtain ⟨⟨t212, t213⟩, A20, H⟩ := H
  replace H : ((spec_l71Off.f k t212 t213).bind fun bt215 => ((spec_l6Rd_pick.f k t212 bt215.2 (bt215.1.length : Int)).bind fun bt219 => ((spec_l6Rd_pick.f k t212 bt219.2 24).bind fun bt221 => ((spec_l6Rd_pick.f k t212 bt221.2 (bt215.1.length : Int)).bind fun bt223 => ((spec_l6Rd_pick.f k t212 bt223.2 24).bind fun bt225 => (some (bt215.1, wrap64 (bt219.1 - (wrap64 (Int.tdiv bt221.1 23))), wrap64 (bt223.1 + (wrap64 (Int.tdiv bt225.1 23)))))))))) = some (r1, r2, r3) := H
  have A2 := Aside0.mk A20
  clear A20
  replace H := Option.bind_eq_some_iff.mp H
  obtain ⟨⟨t215, t218⟩, A30, H⟩ := H
  replace H : ((spec_l6Rd_pick.f k t212 t218 (t215.length : Int)).bind fun bt219 => ((spec_l6Rd_pick.f k t212 bt219.2 24).bind fun bt221 => ((spec_l6Rd_pick.f k t212 bt221.2 (t215.length : Int)).bind fun bt223 => ((spec_l6Rd_pick.f k t212 bt223.2 24).bind fun bt225 => (some (t215, wrap64 (bt219.1 - (wrap64 (Int.tdiv bt221.1 23))), wrap64 (bt223.1 + (wrap64 (Int.tdiv bt225.1 23))))))))) = some (r1, r2, r3) := H
  have A3 := Aside0.mk A30
  clear A30
  replace H := Option.bind_eq_some_iff.mp H
  obtain ⟨⟨t219, t220⟩, A40, H⟩ := H
  replace H : ((spec_l6Rd_pick.f k t212 t220 24).bind fun bt221 => ((spec_l6Rd_pick.f k t212 bt221.2 (t215.length : Int)).bind fun bt223 => ((spec_l6Rd_pick.f k t212 bt223.2 24).bind fun bt225 => (some (t215, wrap64 (t219 - (wrap64 (Int.tdiv bt221.1 23))), wrap64 (bt223.1 + (wrap64 (Int.tdiv bt225.1 23)))))))) = some (r1, r2, r3) := H
  have A4 := Aside0.mk A40
  clear A40
  replace H := Option.bind_eq_some_iff.mp H
  obtain ⟨⟨t221, t222⟩, A50, H⟩ := H
  replace H : ((spec_l6Rd_pick.f k t212 t222 (t215.length : Int)).bind fun bt223 => ((spec_l6Rd_pick.f k t212 bt223.2 24).bind fun bt225 => (some (t215, wrap64 (t219 - (wrap64 (Int.tdiv t221 23))), wrap64 (bt223.1 + (wrap64 (Int.tdiv bt225.1 23))))))) = some (r1, r2, r3) := H
  have A5 := Aside0.mk A50
  clear A50
  replace H := Option.bind_eq_some_iff.mp H
  obtain ⟨⟨t223, t224⟩, A60, H⟩ := H
  replace H : ((spec_l6Rd_pick.f k t212 t224 24).bind fun bt225 => (some (t215, wrap64 (t219 - (wrap64 (Int.tdiv t221 23))), wrap64 (t223 + (wrap64 (Int.tdiv bt225.1 23)))))) = some (r1, r2, r3) := H
  have A6 := Aside0.mk A60
  clear A60
  replace H := Option.bind_eq_some_iff.mp H
  obtain ⟨⟨t225, t226⟩, A70, H⟩ := H
  replace H : (some (t215, wrap64 (t219 - (wrap64 (Int.tdiv t221 23))), wrap64 (t223 + (wrap64 (Int.tdiv t225 23))))) = some (r1, r2, r3) := H
  have A7 := Aside0.mk A70
  clear A70
  simp only [Option.some.injEq, Prod.mk.injEq] at H
  obtain ⟨rfl, rfl, rfl⟩ := H
  go_enter Try.func27, Try.ntmps27
  go_wp2_with (first | ((with_reducible refine gate_callee (f := 63) rfl ?_); refine goesL_ (some 8) rfl rfl Try.func63 (by kernel_rfl) rfl #[.slice A0 l0.length c0] rfl (by (try simp only [List.map_toArray, List.map_cons, List.map_nil]); first | done | rfl | (simp only [List.length_drop, List.length_take]; rfl)) ?_; (with_reducible refine (spec_l6Open.calls _ _ l0 t212 t213 w _ ?side1 ?side2 ?side3 A2.out).mono ?_); (case side1 => repeat (first | (with_reducible first | exact HB.out | apply below_alloc | apply pw_below_drewN | apply below_drew1) | exact HB.out)); (case side2 => exact HR0.out); (case side3 => exact HC0.out); rintro e w8 ⟨g214, rfl, hi, hb, hb2⟩; refine ⟨_, rfl, ?_⟩; have n0_ := Aside0.mk (hb); have n1_ := Aside0.mk (hi); clear HB; have HB := n0_; have HI214 := n1_; clear n0_ n1_; (try clear hb); (try clear hb2); (try clear hk); (try clear hi)) | ((with_reducible refine gate_callee (f := 64) rfl ?_); refine goesL_ (some 10) rfl rfl Try.func64 (by kernel_rfl) rfl #[.pointer (some ⟨g214, 0, none⟩)] rfl (by (try simp only [List.map_toArray, List.map_cons, List.map_nil]); first | done | rfl | (simp only [List.length_drop, List.length_take]; rfl)) ?_; (with_reducible refine (spec_l71Off.calls k g214 t212 t213 t215 t218 w _ ?side1 ?side2 A3.out).mono ?_); (case side1 => repeat (first | (with_reducible first | exact HI214.out | apply IsS92.alloc | apply IsS92.drewN | apply IsS92.drew | apply IsS92.set_1) | exact HI214.out)); (case side2 => repeat (first | (with_reducible first | exact HB.out | apply below_alloc | apply pw_below_drewN | apply below_drew1 | refine below_set ?_ (IsS92.ge HI214.out)) | exact HB.out)); rintro e w9 ⟨v216, rfl, ho0, hi, hb, hk⟩; refine ⟨_, rfl, ?_⟩; have n0_ := Aside0.mk (Kd.N_lower (Kd.N_mono (ok' := fun k_ => (w.heap.size ≤ k_) ∧ k_ ≠ g214) ho0 (fun k_ hk_ => ⟨(Nat.le_trans (below_size (by repeat (first | (with_reducible first | exact HB.out | apply below_alloc | apply pw_below_drewN | apply below_drew1 | refine below_set ?_ (IsS92.ge HI214.out)) | exact HB.out))) hk_), (IsS92.fresh (by repeat (first | (with_reducible first | exact HI214.out | apply IsS92.alloc | apply IsS92.drewN | apply IsS92.drew | apply IsS92.set_1) | exact HI214.out)) k_ hk_)⟩)) (below_size (by repeat (first | (with_reducible first | exact HB.out | apply below_alloc | apply pw_below_drewN | apply below_drew1 | refine below_set ?_ (IsS92.ge HI214.out)) | exact HB.out)))); have n1_ := Aside0.mk (hb); have n2_ := Aside0.mk (hi); clear HB; clear HI214; have HO217 := n0_; have HB := n1_; have HI214 := n2_; clear n0_ n1_ n2_; (try clear hb); (try clear hb2); (try clear hk); (try clear hi); (try clear ho0); obtain ⟨Ao10, co10, eo10⟩ := Kd.N_slice HO217.out; subst eo10) | ((with_reducible refine gate_callee (f := 65) rfl ?_); refine goesL_ (some 15) rfl rfl Try.func65 (by kernel_rfl) rfl #[.pointer (some ⟨g214, 0, none⟩), .int .i64 (t215.length : Int)] rfl (by (try simp only [List.map_toArray, List.map_cons, List.map_nil]); first | done | rfl | (simp only [List.length_drop, List.length_take]; rfl)) ?_; (with_reducible refine (spec_l6Rd_pick.calls k g214 t212 t218 (t215.length : Int) t219 t220 w _ ?side1 ?side2 A4.out).mono ?_); (case side1 => repeat (first | (with_reducible first | exact HI214.out | apply IsS92.alloc | apply IsS92.drewN | apply IsS92.drew | apply IsS92.set_1) | exact HI214.out)); (case side2 => repeat (first | (with_reducible first | exact HB.out | apply below_alloc | apply pw_below_drewN | apply below_drew1 | refine below_set ?_ (IsS92.ge HI214.out)) | exact HB.out)); rintro e w11 ⟨rfl, hi, hb, hk⟩; refine ⟨_, rfl, ?_⟩; have n0_ := Aside0.mk (Kd.N_mono (Kd.N_keep (Kd.N_mono (ok := fun k_ => (((w.heap.size ≤ k_)) ∧ k_ ≠ g214)) (by (with_reducible repeat (first | apply Kd.N_alloc | apply Kd.N_drewN | apply Kd.N_drew)); exact HO217.out) (fun k_ hk_ => (⟨hk_, hk_.2⟩ : _ ∧ k_ ≠ g214))) hk (fun _ h => h.2)) (fun _ h => h.1)); have n1_ := Aside0.mk (hb); have n2_ := Aside0.mk (hi); clear HO217; clear HB; clear HI214; have HO217 := n0_; have HB := n1_; have HI214 := n2_; clear n0_ n1_ n2_; (try clear hb); (try clear hb2); (try clear hk); (try clear hi)) | ((with_reducible refine gate_callee (f := 65) rfl ?_); refine goesL_ (some 17) rfl rfl Try.func65 (by kernel_rfl) rfl #[.pointer (some ⟨g214, 0, none⟩), .int .i64 24] rfl (by (try simp only [List.map_toArray, List.map_cons, List.map_nil]); first | done | rfl | (simp only [List.length_drop, List.length_take]; rfl)) ?_; (with_reducible refine (spec_l6Rd_pick.calls k g214 t212 t220 24 t221 t222 w _ ?side1 ?side2 A5.out).mono ?_); (case side1 => repeat (first | (with_reducible first | exact HI214.out | apply IsS92.alloc | apply IsS92.drewN | apply IsS92.drew | apply IsS92.set_1) | exact HI214.out)); (case side2 => repeat (first | (with_reducible first | exact HB.out | apply below_alloc | apply pw_below_drewN | apply below_drew1 | refine below_set ?_ (IsS92.ge HI214.out)) | exact HB.out)); rintro e w12 ⟨rfl, hi, hb, hk⟩; refine ⟨_, rfl, ?_⟩; have n0_ := Aside0.mk (Kd.N_mono (Kd.N_keep (Kd.N_mono (ok := fun k_ => (((w.heap.size ≤ k_)) ∧ k_ ≠ g214)) (by (with_reducible repeat (first | apply Kd.N_alloc | apply Kd.N_drewN | apply Kd.N_drew)); exact HO217.out) (fun k_ hk_ => (⟨hk_, hk_.2⟩ : _ ∧ k_ ≠ g214))) hk (fun _ h => h.2)) (fun _ h => h.1)); have n1_ := Aside0.mk (hb); have n2_ := Aside0.mk (hi); clear HO217; clear HB; clear HI214; have HO217 := n0_; have HB := n1_; have HI214 := n2_; clear n0_ n1_ n2_; (try clear hb); (try clear hb2); (try clear hk); (try clear hi)) | ((with_reducible refine gate_callee (f := 65) rfl ?_); refine goesL_ (some 23) rfl rfl Try.func65 (by kernel_rfl) rfl #[.pointer (some ⟨g214, 0, none⟩), .int .i64 (t215.length : Int)] rfl (by (try simp only [List.map_toArray, List.map_cons, List.map_nil]); first | done | rfl | (simp only [List.length_drop, List.length_take]; rfl)) ?_; (with_reducible refine (spec_l6Rd_pick.calls k g214 t212 t222 (t215.length : Int) t223 t224 w _ ?side1 ?side2 A6.out).mono ?_); (case side1 => repeat (first | (with_reducible first | exact HI214.out | apply IsS92.alloc | apply IsS92.drewN | apply IsS92.drew | apply IsS92.set_1) | exact HI214.out)); (case side2 => repeat (first | (with_reducible first | exact HB.out | apply below_alloc | apply pw_below_drewN | apply below_drew1 | refine below_set ?_ (IsS92.ge HI214.out)) | exact HB.out)); rintro e w13 ⟨rfl, hi, hb, hk⟩; refine ⟨_, rfl, ?_⟩; have n0_ := Aside0.mk (Kd.N_mono (Kd.N_keep (Kd.N_mono (ok := fun k_ => (((w.heap.size ≤ k_)) ∧ k_ ≠ g214)) (by (with_reducible repeat (first | apply Kd.N_alloc | apply Kd.N_drewN | apply Kd.N_drew)); exact HO217.out) (fun k_ hk_ => (⟨hk_, hk_.2⟩ : _ ∧ k_ ≠ g214))) hk (fun _ h => h.2)) (fun _ h => h.1)); have n1_ := Aside0.mk (hb); have n2_ := Aside0.mk (hi); clear HO217; clear HB; clear HI214; have HO217 := n0_; have HB := n1_; have HI214 := n2_; clear n0_ n1_ n2_; (try clear hb); (try clear hb2); (try clear hk); (try clear hi)) | ((with_reducible refine gate_callee (f := 65) rfl ?_); refine goesL_ (some 25) rfl rfl Try.func65 (by kernel_rfl) rfl #[.pointer (some ⟨g214, 0, none⟩), .int .i64 24] rfl (by (try simp only [List.map_toArray, List.map_cons, List.map_nil]); first | done | rfl | (simp only [List.length_drop, List.length_take]; rfl)) ?_; (with_reducible refine (spec_l6Rd_pick.calls k g214 t212 t224 24 t225 t226 w _ ?side1 ?side2 A7.out).mono ?_); (case side1 => repeat (first | (with_reducible first | exact HI214.out | apply IsS92.alloc | apply IsS92.drewN | apply IsS92.drew | apply IsS92.set_1) | exact HI214.out)); (case side2 => repeat (first | (with_reducible first | exact HB.out | apply below_alloc | apply pw_below_drewN | apply below_drew1 | refine below_set ?_ (IsS92.ge HI214.out)) | exact HB.out)); rintro e w14 ⟨rfl, hi, hb, hk⟩; refine ⟨_, rfl, ?_⟩; have n0_ := Aside0.mk (Kd.N_mono (Kd.N_keep (Kd.N_mono (ok := fun k_ => (((w.heap.size ≤ k_)) ∧ k_ ≠ g214)) (by (with_reducible repeat (first | apply Kd.N_alloc | apply Kd.N_drewN | apply Kd.N_drew)); exact HO217.out) (fun k_ hk_ => (⟨hk_, hk_.2⟩ : _ ∧ k_ ≠ g214))) hk (fun _ h => h.2)) (fun _ h => h.1)); have n1_ := Aside0.mk (hb); have n2_ := Aside0.mk (hi); clear HO217; clear HB; clear HI214; have HO217 := n0_; have HB := n1_; have HI214 := n2_; clear n0_ n1_ n2_; (try clear hb); (try clear hb2); (try clear hk); (try clear hi)))
  go_ret3
  exact ⟨_, by first | rfl | (simp [errW_none, errW_some] <;> rfl) | (simp [*, errW_none, errW_some] <;> rfl), by (with_reducible repeat (first | apply Kd.N_alloc | apply Kd.N_drewN | apply Kd.N_drew)); exact Kd.N_mono HO217.out (fun _ hk => hk.1), by repeat (first | (with_reducible first | exact HB.out | apply below_alloc | apply pw_below_drewN | apply below_drew1 | refine below_set ?_ (IsS92.ge HI214.out)) | exact HB.out)⟩

end Go.Proofs.Ytgmjolngnhdafaa.P

end
section
namespace Go.Proofs.Ytgmjolngnhdafaa.P
open Go.RowKit Go.Proofs.YtgmjolngnhdafaaW.PrintWords Go.Proofs.YtgmjolngnhdafaaW.PrintLast Go.Proofs.YtgmjolngnhdafaaW.PrintMore
attribute [local go_sem] max2_int min2_int max_two min_two max_three min_three max_four min_four
set_option linter.unusedVariables false
set_option linter.unusedSimpArgs false

set_option maxHeartbeats 8000000 in
set_option maxRecDepth 100000 in
theorem impl_isClass.calls (A0 : Option Addr) (c0 : Nat) (l0 : List (S38)) (a1 : Int) (r : Bool) (w : World) (hr0 : Kd.C k38 w A0 l0.length l0) (hc0 : l0.length ≤ c0) (h : impl_isClass.f l0 a1 = some r) :
    Calls Try.prog 66 #[.slice A0 l0.length c0, .int .i64 a1] w fun e w' => e = .returned (.bool r) ∧ Drawn0 w w' := by
  have HR0 := Aside0.mk hr0
  have HC0 := Aside0.mk hc0
  clear hr0 hc0
  have H : (if a1 ≥ 0 then (some (decide (a1 < (l0.length : Int)))) else (some false)) = some r := h
  clear h
  by_cases c3 : a1 ≥ 0
  · rw [if_pos c3] at H
    have c3b0 : decide (0 ≤ a1) = true := decide_eq_true c3
    clear c3
    obtain rfl := Option.some.inj H
    simp only [Option.some.injEq, Prod.mk.injEq] at H
    obtain ⟨rfl⟩ := H
    go_enter Try.func66, Try.ntmps66
    go_wp2
    go_ret
    exact ⟨by first | rfl | (simp; done) | (simp [*]; done), by repeat (first | exact Drawn0.refl _ | apply Drawn0.step)⟩
  · rw [if_neg c3] at H
    have c3b0 : decide (0 ≤ a1) = false := decide_eq_false c3
    clear c3
    obtain rfl := Option.some.inj H
    simp only [Option.some.injEq, Prod.mk.injEq] at H
    obtain ⟨rfl⟩ := H
    go_enter Try.func66, Try.ntmps66
    go_wp2
    go_ret
    exact ⟨by first | rfl | (simp; done) | (simp [*]; done), by repeat (first | exact Drawn0.refl _ | apply Drawn0.step)⟩

end Go.Proofs.Ytgmjolngnhdafaa.P

end
section
namespace Go.Proofs.Ytgmjolngnhdafaa.P
open Go.RowKit Go.Proofs.YtgmjolngnhdafaaW.PrintWords Go.Proofs.YtgmjolngnhdafaaW.PrintLast Go.Proofs.YtgmjolngnhdafaaW.PrintMore
attribute [local go_sem] max2_int min2_int max_two min_two max_three min_three max_four min_four
set_option linter.unusedVariables false
set_option linter.unusedSimpArgs false

set_option maxHeartbeats 8000000 in
set_option maxRecDepth 100000 in
theorem impl_classUp.calls (k : Nat) (A0 : Option Addr) (c0 : Nat) (l0 : List (S38)) (a1 : Int) (a2 : Int) (r : Bool) (w : World) (hr0 : Kd.C k38 w A0 l0.length l0) (hc0 : l0.length ≤ c0) (h : impl_classUp.f k l0 a1 a2 = some r) :
    Calls Try.prog 67 #[.slice A0 l0.length c0, .int .i64 a1, .int .i64 a2] w fun e w' => e = .returned (.bool r) ∧ Drawn0 w w' := by
  have HR0 := Aside0.mk hr0
  have HC0 := Aside0.mk hc0
  clear hr0 hc0
  have H : (impl_classUp.l0 k l0 a2 a1) = some r := h
  clear h
  have H' := Aside0.mk H
  clear H
  go_enter Try.func67, Try.ntmps67
  go_wp2
  go_loopg [7] k (fun kq v7 w' => ∃ (x7_1 : Int), v7 = .int .i64 x7_1 ∧ Aside0 (impl_classUp.l0 kq l0 a2 x7_1 = some r) ∧ Aside0 (kq ≤ k) ∧ Drawn0 w w')
  case atStart => exact ⟨(a1), (by first | rfl | (simp; done) | (simp [*]; done)), H', ⟨Nat.le_refl _⟩, by repeat (first | exact Drawn0.refl _ | apply Drawn0.step)⟩
  case round =>
    clear H'
    try clear p2
    obtain ⟨x7_1, rfl, HA, HK1, ⟨m1, rfl⟩⟩ := hrel
    cases gk with
    | zero => exact absurd HA.out (by simp [impl_classUp.l0])
    | succ k1 =>
      have H := HA.out
      clear HA
      simp only [impl_classUp.l0] at H
      by_cases c4 : x7_1 ≥ 0
      · rw [if_pos c4] at H
        have c4b0 : decide (0 ≤ x7_1) = true := decide_eq_true c4
        clear c4
        by_cases c5 : x7_1 = a2
        · rw [if_pos c5] at H
          have c5b0 : (x7_1 == a2) = true := beq_iff_eq.mpr c5
          have c5b1 : (x7_1 != a2) = false := bne_eq_false_iff_eq.mpr c5
          clear c5
          obtain rfl := Option.some.inj H
          simp only [Option.some.injEq, Prod.mk.injEq] at H
          obtain ⟨rfl⟩ := H
          go_wp2
          go_ret
          exact ⟨by first | rfl | (simp; done) | (simp [*]; done), by repeat (first | exact Drawn0.refl _ | apply Drawn0.step)⟩
        · rw [if_neg c5] at H
          have c5b0 : (x7_1 == a2) = false := beq_eq_false_iff_ne.mpr c5
          have c5b1 : (x7_1 != a2) = true := bne_iff_ne.mpr c5
          by_cases c6 : 0 ≤ x7_1
          · rw [if_pos c6] at H
            have c6b0 : decide (0 ≤ x7_1) = true := decide_eq_true c6
            clear c6
            by_cases c7 : x7_1 < (l0.length : Int)
            · rw [if_pos c7] at H
              have c7b0 : decide (x7_1 < (l0.length : Int)) = true := decide_eq_true c7
              clear c7
              have H' := Aside0.mk H
              clear H
              have p227 : 0 ≤ (x7_1 : Int) := of_decide_eq_true (by first | (with_reducible assumption) | assumption)
              have q227 : x7_1 < (l0.length : Int) := of_decide_eq_true (by first | (with_reducible assumption) | assumption)
              obtain ⟨ad227, A227_1, c227_1, e227, hx227_0, hx227_1, hl227_1, hi227_1⟩ := at_T38 HR0.out x7_1 p227 q227
              cases e227
              have HR227_1 := Aside0.mk hi227_1
              have HC227_1 := Aside0.mk hl227_1
              clear hi227_1 hl227_1
              replace p227 := eq_true p227
              replace q227 := eq_true q227
              go_wp2
              go_roundg k1
              case measure => have := HK1.out; omega
              case rel => exact ⟨((rd_T38 l0 x7_1).f0), (by first | rfl | (simp; done) | (simp [*]; done)), H', ⟨by have := HK1.out; omega⟩, by repeat (first | exact Drawn0.refl _ | apply Drawn0.step)⟩
            · rw [if_neg c7] at H
              exact absurd H (by simp)
          · rw [if_neg c6] at H
            exact absurd H (by simp)
      · rw [if_neg c4] at H
        have c4b0 : decide (0 ≤ x7_1) = false := decide_eq_false c4
        clear c4
        obtain rfl := Option.some.inj H
        simp only [Option.some.injEq, Prod.mk.injEq] at H
        obtain ⟨rfl⟩ := H
        go_wp2
        go_ret
        exact ⟨by first | rfl | (simp; done) | (simp [*]; done), by repeat (first | exact Drawn0.refl _ | apply Drawn0.step)⟩

end Go.Proofs.Ytgmjolngnhdafaa.P

end
section
namespace Go.Proofs.Ytgmjolngnhdafaa.P
open Go.RowKit Go.Proofs.YtgmjolngnhdafaaW.PrintWords Go.Proofs.YtgmjolngnhdafaaW.PrintLast Go.Proofs.YtgmjolngnhdafaaW.PrintMore
attribute [local go_sem] max2_int min2_int max_two min_two max_three min_three max_four min_four
set_option linter.unusedVariables false
set_option linter.unusedSimpArgs false

set_option maxHeartbeats 8000000 in
set_option maxRecDepth 100000 in
theorem impl_ClassUp.calls (k : Nat) (A0 : Option Addr) (c0 : Nat) (l0 : List (S38)) (a1 : Int) (a2 : Int) (r : Bool) (w : World) (hr0 : Kd.C k38 w A0 l0.length l0) (hc0 : l0.length ≤ c0) (h : impl_ClassUp.f k l0 a1 a2 = some r) :
    Calls Try.prog 28 #[.slice A0 l0.length c0, .int .i64 a1, .int .i64 a2] w fun e w' => e = .returned (.bool r) ∧ Below w.heap.size w w' := by
  have HR0 := Aside0.mk hr0
  have HC0 := Aside0.mk hc0
  clear hr0 hc0
  have HB := Aside0.mk (Below.refl w.heap.size w)
  have H : ((impl_ClassesOk.f k l0).bind fun t228 => (if t228 = true then ((impl_isClass.f l0 a1).bind fun t229 => (if t229 = true then ((impl_isClass.f l0 a2).bind fun t230 => (if t230 = true then ((impl_classUp.f k l0 a1 a2).bind fun t231 => (some t231)) else (some false))) else (some false))) else (some false))) = some r := h
  clear h
  replace H := Option.bind_eq_some_iff.mp H
  obtain ⟨t228, A40, H⟩ := H
  replace H : (if t228 = true then ((impl_isClass.f l0 a1).bind fun t229 => (if t229 = true then ((impl_isClass.f l0 a2).bind fun t230 => (if t230 = true then ((impl_classUp.f k l0 a1 a2).bind fun t231 => (some t231)) else (some false))) else (some false))) else (some false)) = some r := H
  have A4 := Aside0.mk A40
  clear A40
  by_cases c5 : t228 = true
  · subst c5
    have H1 : ((impl_isClass.f l0 a1).bind fun t229 => (if t229 = true then ((impl_isClass.f l0 a2).bind fun t230 => (if t230 = true then ((impl_classUp.f k l0 a1 a2).bind fun t231 => (some t231)) else (some false))) else (some false))) = some r := by rw [if_pos rfl] at H; exact H
    clear H
    have H := H1
    clear H1
    replace H := Option.bind_eq_some_iff.mp H
    obtain ⟨t229, A60, H⟩ := H
    replace H : (if t229 = true then ((impl_isClass.f l0 a2).bind fun t230 => (if t230 = true then ((impl_classUp.f k l0 a1 a2).bind fun t231 => (some t231)) else (some false))) else (some false)) = some r := H
    have A6 := Aside0.mk A60
    clear A60
    by_cases c7 : t229 = true
    · subst c7
      have H1 : ((impl_isClass.f l0 a2).bind fun t230 => (if t230 = true then ((impl_classUp.f k l0 a1 a2).bind fun t231 => (some t231)) else (some false))) = some r := by rw [if_pos rfl] at H; exact H
      clear H
      have H := H1
      clear H1
      replace H := Option.bind_eq_some_iff.mp H
      obtain ⟨t230, A80, H⟩ := H
      replace H : (if t230 = true then ((impl_classUp.f k l0 a1 a2).bind fun t231 => (some t231)) else (some false)) = some r := H
      have A8 := Aside0.mk A80
      clear A80
      by_cases c9 : t230 = true
      · subst c9
        have H1 : ((impl_classUp.f k l0 a1 a2).bind fun t231 => (some t231)) = some r := by rw [if_pos rfl] at H; exact H
        clear H
        have H := H1
        clear H1
        replace H := Option.bind_eq_some_iff.mp H
        obtain ⟨t231, A100, H⟩ := H
        replace H : (some t231) = some r := H
        have A10 := Aside0.mk A100
        clear A100
        obtain rfl := Option.some.inj H
        simp only [Option.some.injEq, Prod.mk.injEq] at H
        obtain ⟨rfl⟩ := H
        go_enter Try.func28, Try.ntmps28
        go_wp2_with (first | ((with_reducible refine gate_callee (f := 23) rfl ?_); refine goesL_ (some 8) rfl rfl Try.func23 (by kernel_rfl) rfl #[.slice A0 l0.length c0] rfl (by (try simp only [List.map_toArray, List.map_cons, List.map_nil]); first | done | rfl | (simp only [List.length_drop, List.length_take]; rfl)) ?_; (with_reducible refine (impl_ClassesOk.calls k _ _ l0 true _ ?side1 ?side2 A4.out).mono ?_); (case side1 => repeat (first | exact HR0.out | (with_reducible refine Kd.C_alloc ?_ _) | (with_reducible refine Kd.C_drewN ?_ _) | (with_reducible refine Kd.C_drew ?_))); (case side2 => exact HC0.out); rintro e w11 ⟨rfl, hb⟩; refine ⟨_, rfl, ?_⟩; have n0_ := Aside0.mk (below_step (by repeat (first | (with_reducible first | exact HB.out | apply below_alloc | apply pw_below_drewN | apply below_drew1) | exact HB.out)) hb); clear HB; have HB := n0_; clear n0_; (try clear hb); (try clear hb2); (try clear hk); (try clear hi)) | (go_at_call 66; (with_reducible refine (impl_isClass.calls _ _ l0 a1 true _ ?side1 ?side2 A6.out).mono ?_); (case side1 => repeat (first | exact (Kd.C_below HR0.out HB.out) | (with_reducible refine Kd.C_alloc ?_ _) | (with_reducible refine Kd.C_drewN ?_ _) | (with_reducible refine Kd.C_drew ?_))); (case side2 => exact HC0.out); rintro e w' ⟨rfl, ⟨nd, rfl⟩⟩) | (go_at_call 66; (with_reducible refine (impl_isClass.calls _ _ l0 a2 true _ ?side1 ?side2 A8.out).mono ?_); (case side1 => repeat (first | exact (Kd.C_below HR0.out (by repeat (first | (with_reducible first | exact HB.out | apply below_alloc | apply pw_below_drewN | apply below_drew1) | exact HB.out))) | (with_reducible refine Kd.C_alloc ?_ _) | (with_reducible refine Kd.C_drewN ?_ _) | (with_reducible refine Kd.C_drew ?_))); (case side2 => exact HC0.out); rintro e w' ⟨rfl, ⟨nd, rfl⟩⟩) | (go_at_call 67; (with_reducible refine (impl_classUp.calls k _ _ l0 a1 a2 t231 _ ?side1 ?side2 A10.out).mono ?_); (case side1 => repeat (first | exact (Kd.C_below HR0.out (by repeat (first | (with_reducible first | exact HB.out | apply below_alloc | apply pw_below_drewN | apply below_drew1) | exact HB.out))) | (with_reducible refine Kd.C_alloc ?_ _) | (with_reducible refine Kd.C_drewN ?_ _) | (with_reducible refine Kd.C_drew ?_))); (case side2 => exact HC0.out); rintro e w' ⟨rfl, ⟨nd, rfl⟩⟩))
        go_ret
        exact ⟨by first | rfl | (simp [errW_none, errW_some] <;> rfl) | (simp [*, errW_none, errW_some] <;> rfl), by repeat (first | (with_reducible first | exact HB.out | apply below_alloc | apply pw_below_drewN | apply below_drew1) | exact HB.out)⟩
      · replace c9 := Bool.eq_false_iff.mpr c9
        subst c9
        have H1 : (some false) = some r := by rw [if_neg (show ¬ (false = true) by decide)] at H; exact H
        clear H
        have H := H1
        clear H1
        obtain rfl := Option.some.inj H
        simp only [Option.some.injEq, Prod.mk.injEq] at H
        obtain ⟨rfl⟩ := H
        go_enter Try.func28, Try.ntmps28
        go_wp2_with (first | ((with_reducible refine gate_callee (f := 23) rfl ?_); refine goesL_ (some 8) rfl rfl Try.func23 (by kernel_rfl) rfl #[.slice A0 l0.length c0] rfl (by (try simp only [List.map_toArray, List.map_cons, List.map_nil]); first | done | rfl | (simp only [List.length_drop, List.length_take]; rfl)) ?_; (with_reducible refine (impl_ClassesOk.calls k _ _ l0 true _ ?side1 ?side2 A4.out).mono ?_); (case side1 => repeat (first | exact HR0.out | (with_reducible refine Kd.C_alloc ?_ _) | (with_reducible refine Kd.C_drewN ?_ _) | (with_reducible refine Kd.C_drew ?_))); (case side2 => exact HC0.out); rintro e w12 ⟨rfl, hb⟩; refine ⟨_, rfl, ?_⟩; have n0_ := Aside0.mk (below_step (by repeat (first | (with_reducible first | exact HB.out | apply below_alloc | apply pw_below_drewN | apply below_drew1) | exact HB.out)) hb); clear HB; have HB := n0_; clear n0_; (try clear hb); (try clear hb2); (try clear hk); (try clear hi)) | (go_at_call 66; (with_reducible refine (impl_isClass.calls _ _ l0 a1 true _ ?side1 ?side2 A6.out).mono ?_); (case side1 => repeat (first | exact (Kd.C_below HR0.out HB.out) | (with_reducible refine Kd.C_alloc ?_ _) | (with_reducible refine Kd.C_drewN ?_ _) | (with_reducible refine Kd.C_drew ?_))); (case side2 => exact HC0.out); rintro e w' ⟨rfl, ⟨nd, rfl⟩⟩) | (go_at_call 66; (with_reducible refine (impl_isClass.calls _ _ l0 a2 false _ ?side1 ?side2 A8.out).mono ?_); (case side1 => repeat (first | exact (Kd.C_below HR0.out (by repeat (first | (with_reducible first | exact HB.out | apply below_alloc | apply pw_below_drewN | apply below_drew1) | exact HB.out))) | (with_reducible refine Kd.C_alloc ?_ _) | (with_reducible refine Kd.C_drewN ?_ _) | (with_reducible refine Kd.C_drew ?_))); (case side2 => exact HC0.out); rintro e w' ⟨rfl, ⟨nd, rfl⟩⟩))
        go_ret
        exact ⟨by first | rfl | (simp [errW_none, errW_some] <;> rfl) | (simp [*, errW_none, errW_some] <;> rfl), by repeat (first | (with_reducible first | exact HB.out | apply below_alloc | apply pw_below_drewN | apply below_drew1) | exact HB.out)⟩
    · replace c7 := Bool.eq_false_iff.mpr c7
      subst c7
      have H1 : (some false) = some r := by rw [if_neg (show ¬ (false = true) by decide)] at H; exact H
      clear H
      have H := H1
      clear H1
      obtain rfl := Option.some.inj H
      simp only [Option.some.injEq, Prod.mk.injEq] at H
      obtain ⟨rfl⟩ := H
      go_enter Try.func28, Try.ntmps28
      go_wp2_with (first | ((with_reducible refine gate_callee (f := 23) rfl ?_); refine goesL_ (some 8) rfl rfl Try.func23 (by kernel_rfl) rfl #[.slice A0 l0.length c0] rfl (by (try simp only [List.map_toArray, List.map_cons, List.map_nil]); first | done | rfl | (simp only [List.length_drop, List.length_take]; rfl)) ?_; (with_reducible refine (impl_ClassesOk.calls k _ _ l0 true _ ?side1 ?side2 A4.out).mono ?_); (case side1 => repeat (first | exact HR0.out | (with_reducible refine Kd.C_alloc ?_ _) | (with_reducible refine Kd.C_drewN ?_ _) | (with_reducible refine Kd.C_drew ?_))); (case side2 => exact HC0.out); rintro e w13 ⟨rfl, hb⟩; refine ⟨_, rfl, ?_⟩; have n0_ := Aside0.mk (below_step (by repeat (first | (with_reducible first | exact HB.out | apply below_alloc | apply pw_below_drewN | apply below_drew1) | exact HB.out)) hb); clear HB; have HB := n0_; clear n0_; (try clear hb); (try clear hb2); (try clear hk); (try clear hi)) | (go_at_call 66; (with_reducible refine (impl_isClass.calls _ _ l0 a1 false _ ?side1 ?side2 A6.out).mono ?_); (case side1 => repeat (first | exact (Kd.C_below HR0.out HB.out) | (with_reducible refine Kd.C_alloc ?_ _) | (with_reducible refine Kd.C_drewN ?_ _) | (with_reducible refine Kd.C_drew ?_))); (case side2 => exact HC0.out); rintro e w' ⟨rfl, ⟨nd, rfl⟩⟩))
      go_ret
      exact ⟨by first | rfl | (simp [errW_none, errW_some] <;> rfl) | (simp [*, errW_none, errW_some] <;> rfl), by repeat (first | (with_reducible first | exact HB.out | apply below_alloc | apply pw_below_drewN | apply below_drew1) | exact HB.out)⟩
  · replace c5 := Bool.eq_false_iff.mpr c5
    subst c5
    have H1 : (some false) = some r := by rw [if_neg (show ¬ (false = true) by decide)] at H; exact H
    clear H
    have H := H1
    clear H1
    obtain rfl := Option.some.inj H
    simp only [Option.some.injEq, Prod.mk.injEq] at H
    obtain ⟨rfl⟩ := H
    go_enter Try.func28, Try.ntmps28
    go_wp2_with (first | ((with_reducible refine gate_callee (f := 23) rfl ?_); refine goesL_ (some 8) rfl rfl Try.func23 (by kernel_rfl) rfl #[.slice A0 l0.length c0] rfl (by (try simp only [List.map_toArray, List.map_cons, List.map_nil]); first | done | rfl | (simp only [List.length_drop, List.length_take]; rfl)) ?_; (with_reducible refine (impl_ClassesOk.calls k _ _ l0 false _ ?side1 ?side2 A4.out).mono ?_); (case side1 => repeat (first | exact HR0.out | (with_reducible refine Kd.C_alloc ?_ _) | (with_reducible refine Kd.C_drewN ?_ _) | (with_reducible refine Kd.C_drew ?_))); (case side2 => exact HC0.out); rintro e w14 ⟨rfl, hb⟩; refine ⟨_, rfl, ?_⟩; have n0_ := Aside0.mk (below_step (by repeat (first | (with_reducible first | exact HB.out | apply below_alloc | apply pw_below_drewN | apply below_drew1) | exact HB.out)) hb); clear HB; have HB := n0_; clear n0_; (try clear hb); (try clear hb2); (try clear hk); (try clear hi)))
    go_ret
    exact ⟨by first | rfl | (simp [errW_none, errW_some] <;> rfl) | (simp [*, errW_none, errW_some] <;> rfl), by repeat (first | (with_reducible first | exact HB.out | apply below_alloc | apply pw_below_drewN | apply below_drew1) | exact HB.out)⟩

end Go.Proofs.Ytgmjolngnhdafaa.P

end
section
namespace Go.Proofs.Ytgmjolngnhdafaa.P
open Go.RowKit Go.Proofs.YtgmjolngnhdafaaW.PrintWords Go.Proofs.YtgmjolngnhdafaaW.PrintLast Go.Proofs.YtgmjolngnhdafaaW.PrintMore
attribute [local go_sem] max2_int min2_int max_two min_two max_three min_three max_four min_four
set_option linter.unusedVariables false
set_option linter.unusedSimpArgs false

set_option maxHeartbeats 8000000 in
set_option maxRecDepth 100000 in
theorem spec_l6In.calls (a0 : Int) (a1 : Int) (a2 : Int) (r : Bool) (w : World) (h : spec_l6In.f a0 a1 a2 = some r) :
    Calls Try.prog 56 #[.int .i64 a0, .int .i64 a1, .int .i64 a2] w fun e w' => e = .returned (.bool r) ∧ Drawn0 w w' := by
  have H : (if a0 ≥ a1 then (some (decide (a0 ≤ a2))) else (some false)) = some r := h
  clear h
  by_cases c4 : a0 ≥ a1
  · rw [if_pos c4] at H
    have c4b0 : decide (a1 ≤ a0) = true := decide_eq_true c4
    clear c4
    obtain rfl := Option.some.inj H
    simp only [Option.some.injEq, Prod.mk.injEq] at H
    obtain ⟨rfl⟩ := H
    go_enter Try.func56, Try.ntmps56
    go_wp2
    go_ret
    exact ⟨by first | rfl | (simp; done) | (simp [*]; done), by repeat (first | exact Drawn0.refl _ | apply Drawn0.step)⟩
  · rw [if_neg c4] at H
    have c4b0 : decide (a1 ≤ a0) = false := decide_eq_false c4
    clear c4
    obtain rfl := Option.some.inj H
    simp only [Option.some.injEq, Prod.mk.injEq] at H
    obtain ⟨rfl⟩ := H
    go_enter Try.func56, Try.ntmps56
    go_wp2
    go_ret
    exact ⟨by first | rfl | (simp; done) | (simp [*]; done), by repeat (first | exact Drawn0.refl _ | apply Drawn0.step)⟩

end Go.Proofs.Ytgmjolngnhdafaa.P

end
section
namespace Go.Proofs.Ytgmjolngnhdafaa.P
open Go.RowKit Go.Proofs.YtgmjolngnhdafaaW.PrintWords Go.Proofs.YtgmjolngnhdafaaW.PrintLast Go.Proofs.YtgmjolngnhdafaaW.PrintMore
attribute [local go_sem] max2_int min2_int max_two min_two max_three min_three max_four min_four
set_option linter.unusedVariables false
set_option linter.unusedSimpArgs false

set_option maxHeartbeats 8000000 in
set_option maxRecDepth 100000 in
theorem spec_l2Field.calls (A0 : Option Addr) (c0 : Nat) (l0 : List (S38)) (a1 : Int) (r : Bool) (w : World) (hr0 : Kd.C k38 w A0 l0.length l0) (hc0 : l0.length ≤ c0) (h : spec_l2Field.f l0 a1 = some r) :
    Calls Try.prog 61 #[.slice A0 l0.length c0, .int .i64 a1] w fun e w' => e = .returned (.bool r) ∧ Drawn0 w w' := by
  have HR0 := Aside0.mk hr0
  have HC0 := Aside0.mk hc0
  clear hr0 hc0
  have H : (if a1 = 1 then (some true) else (if a1 = 3 then (some true) else (if a1 = 4 then (some true) else ((spec_l6In.f a1 8 (wrap64 ((wrap64 (8 + (l0.length : Int))) - 1))).bind fun t105 => (some t105))))) = some r := h
  clear h
  by_cases c3 : a1 = 1
  · rw [if_pos c3] at H
    have c3b0 : (a1 == 1) = true := beq_iff_eq.mpr c3
    have c3b1 : (a1 != 1) = false := bne_eq_false_iff_eq.mpr c3
    clear c3
    obtain rfl := Option.some.inj H
    simp only [Option.some.injEq, Prod.mk.injEq] at H
    obtain ⟨rfl⟩ := H
    go_enter Try.func61, Try.ntmps61
    go_wp2
    go_ret
    exact ⟨by first | rfl | (simp; done) | (simp [*]; done), by repeat (first | exact Drawn0.refl _ | apply Drawn0.step)⟩
  · rw [if_neg c3] at H
    have c3b0 : (a1 == 1) = false := beq_eq_false_iff_ne.mpr c3
    have c3b1 : (a1 != 1) = true := bne_iff_ne.mpr c3
    by_cases c4 : a1 = 3
    · rw [if_pos c4] at H
      have c4b0 : (a1 == 3) = true := beq_iff_eq.mpr c4
      have c4b1 : (a1 != 3) = false := bne_eq_false_iff_eq.mpr c4
      clear c4
      obtain rfl := Option.some.inj H
      simp only [Option.some.injEq, Prod.mk.injEq] at H
      obtain ⟨rfl⟩ := H
      go_enter Try.func61, Try.ntmps61
      go_wp2
      go_ret
      exact ⟨by first | rfl | (simp; done) | (simp [*]; done), by repeat (first | exact Drawn0.refl _ | apply Drawn0.step)⟩
    · rw [if_neg c4] at H
      have c4b0 : (a1 == 3) = false := beq_eq_false_iff_ne.mpr c4
      have c4b1 : (a1 != 3) = true := bne_iff_ne.mpr c4
      by_cases c5 : a1 = 4
      · rw [if_pos c5] at H
        have c5b0 : (a1 == 4) = true := beq_iff_eq.mpr c5
        have c5b1 : (a1 != 4) = false := bne_eq_false_iff_eq.mpr c5
        clear c5
        obtain rfl := Option.some.inj H
        simp only [Option.some.injEq, Prod.mk.injEq] at H
        obtain ⟨rfl⟩ := H
        go_enter Try.func61, Try.ntmps61
        go_wp2
        go_ret
        exact ⟨by first | rfl | (simp; done) | (simp [*]; done), by repeat (first | exact Drawn0.refl _ | apply Drawn0.step)⟩
      · rw [if_neg c5] at H
        have c5b0 : (a1 == 4) = false := beq_eq_false_iff_ne.mpr c5
        have c5b1 : (a1 != 4) = true := bne_iff_ne.mpr c5
        replace H := Option.bind_eq_some_iff.mp H
        obtain ⟨t105, A60, H⟩ := H
        replace H : (some t105) = some r := H
        have A6 := Aside0.mk A60
        clear A60
        obtain rfl := Option.some.inj H
        simp only [Option.some.injEq, Prod.mk.injEq] at H
        obtain ⟨rfl⟩ := H
        go_enter Try.func61, Try.ntmps61
        go_wp2_with (first | (go_at_call 56; (with_reducible refine (spec_l6In.calls a1 8 (wrap64 ((wrap64 (8 + (l0.length : Int))) - 1)) t105 _ A6.out).mono ?_); rintro e w' ⟨rfl, ⟨nd, rfl⟩⟩))
        go_ret
        exact ⟨by first | rfl | (simp; done) | (simp [*]; done), by repeat (first | exact Drawn0.refl _ | apply Drawn0.step)⟩

end Go.Proofs.Ytgmjolngnhdafaa.P

end
