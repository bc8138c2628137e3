/- A part of the claim FnClassJoin: texts of this session and texts that its program printed out of the translation, joined. -/
import Derived.Test.YtgmjolngnhdafaaCFnClassJoin0
import Derived.Test.YtgmjolngnhdafaaCFnClassJoin1
import Derived.Test.YtgmjolngnhdafaaWMore
section
namespace Go.Proofs.Ytgmjolngnhdafaa.P
open Go.RowKit Go.Proofs.YtgmjolngnhdafaaW.PrintWords Go.Proofs.YtgmjolngnhdafaaW.PrintLast Go.Proofs.YtgmjolngnhdafaaW.PrintMore
attribute [local go_sem] max2_int min2_int max_two min_two max_three min_three max_four min_four
set_option linter.unusedVariables false
set_option linter.unusedSimpArgs false

def spec_l71OffB.T14 : Bool × List (List Nat × List Nat) := (true, [([], []), ([], []), ([1], [1]), ([2], [2]), ([], []), ([4], [4]), ([5], [5]), ([], []), ([7], [7]), ([8], [8]), ([], []), ([10], [10]), ([11], [11]), ([3, 6, 9, 12], [3, 6, 9, 12]), ([0, 13], [0, 13]), ([14, 14, 0, 1, 2, 3, 4, 5, 6, 7, 8, 9, 10, 11, 12, 13, 14], [14])])
def spec_l71OffB.B14 : List Nat := [0, 0, 2, 6, 0, 16, 48, 0, 128, 384, 0, 1024, 3072, 8190, 16383, 32767]
theorem spec_l71OffB.tab14 : rtab .any (opsOf Try.f64 14) = spec_l71OffB.T14 := by kernel_rfl
theorem spec_l71OffB.bits14 : waitsOk spec_l71OffB.T14.2 spec_l71OffB.B14 = true := by kernel_rfl
set_option maxHeartbeats 8000000 in
set_option maxRecDepth 100000 in
theorem spec_l71OffB.calls (k : Nat) (g : Nat) (s0_0 : List Int) (s0_1 : Int) (r1 : List (S38)) (r2 : Int) (w0 w : World) (hI : IsS92 w0 w g s0_0 s0_1) (hB : Below w0.heap.size w0 w) (h : spec_l71OffB.f k s0_0 s0_1 = some (r1, r2)) :
    Calls Try.prog 64 #[.pointer (some ⟨g, 0, none⟩)] w fun e w' => ∃ v0_ : Value, e = .returned (v0_) ∧ Kd.N k38 38 w' w.heap.size (fun k_ => (w.heap.size ≤ k_)) v0_ r1 ∧ IsS92 w0 w' g s0_0 r2 ∧ Below w0.heap.size w0 w' ∧ KeepBut w w' g none := by
  have hu38 := Try.underlying38
  have HI0 := Aside0.mk hI
  have HK := Aside0.mk (KeepBut.refl w g none)
  have HL := Aside0.mk hB.size
  clear hI
  have HW0 := Aside0.mk hB.size
  have HB := Aside0.mk hB
  clear hB
  have H : ((spec_l71Classes.f k s0_0 s0_1).bind fun bt212 => ((spec_l6Rd_pick.f k s0_0 bt212.2 20).bind fun bt216 => (if bt216.1 > 0 then (some (bt212.1, bt216.2)) else ((spec_l6Rd_pick.f k s0_0 bt216.2 (bt212.1.length : Int)).bind fun bt218 => ((spec_l6Rd_pick.f k s0_0 bt218.2 6).bind fun bt220 => (if bt220.1 = 0 then ((spec_l6Rd_pick.f k s0_0 bt220.2 7).bind fun bt222 => (if 0 ≤ bt218.1 then (if bt218.1 < (bt212.1.length : Int) then (some ((bt212.1.set (bt218.1 : Int).toNat (⟨wrap64 (bt222.1 - 1), (rd_T38 bt212.1 bt218.1).f1⟩ : S38)), bt222.2)) else (none)) else (none))) else (if bt220.1 = 1 then (if 0 ≤ bt218.1 then (if bt218.1 < (bt212.1.length : Int) then (none) else (none)) else (none)) else (if bt220.1 = 2 then (if 1 ≤ (bt212.1.length : Int) then (some ((bt212.1.take (1 : Int).toNat), bt220.2)) else (none)) else (if bt220.1 = 3 then (if 1 < (bt212.1.length : Int) then ((some (([(⟨(rd_T38 bt212.1 1).f0, (rd_T38 bt212.1 1).f1⟩ : S38), (⟨(rd_T38 bt212.1 1).f0, (rd_T38 bt212.1 1).f1⟩ : S38), (⟨(rd_T38 bt212.1 1).f0, (rd_T38 bt212.1 1).f1⟩ : S38), (⟨(rd_T38 bt212.1 1).f0, (rd_T38 bt212.1 1).f1⟩ : S38)] : List (S38)) : List (S38))).bind fun y233 => (if bt212.1.length + y233.length < 4398046511104 then (some ((bt212.1 ++ y233), bt220.2)) else (none))) else (none)) else (if bt220.1 = 4 then (none) else (if 0 ≤ bt218.1 then (if bt218.1 < (bt212.1.length : Int) then (some ((bt212.1.set (bt218.1 : Int).toNat (⟨(rd_T38 bt212.1 bt218.1).f0, ([] : List Int)⟩ : S38)), bt220.2)) else (none)) else (none)))))))))))) = some (r1, r2) := h
  clear h
  replace H := Option.bind_eq_some_iff.mp H
  obtain ⟨⟨t212, t215⟩, A20, H⟩ := H
  replace H : ((spec_l6Rd_pick.f k s0_0 t215 20).bind fun bt216 => (if bt216.1 > 0 then (some (t212, bt216.2)) else ((spec_l6Rd_pick.f k s0_0 bt216.2 (t212.length : Int)).bind fun bt218 => ((spec_l6Rd_pick.f k s0_0 bt218.2 6).bind fun bt220 => (if bt220.1 = 0 then ((spec_l6Rd_pick.f k s0_0 bt220.2 7).bind fun bt222 => (if 0 ≤ bt218.1 then (if bt218.1 < (t212.length : Int) then (some ((t212.set (bt218.1 : Int).toNat (⟨wrap64 (bt222.1 - 1), (rd_T38 t212 bt218.1).f1⟩ : S38)), bt222.2)) else (none)) else (none))) else (if bt220.1 = 1 then (if 0 ≤ bt218.1 then (if bt218.1 < (t212.length : Int) then (none) else (none)) else (none)) else (if bt220.1 = 2 then (if 1 ≤ (t212.length : Int) then (some ((t212.take (1 : Int).toNat), bt220.2)) else (none)) else (if bt220.1 = 3 then (if 1 < (t212.length : Int) then ((some (([(⟨(rd_T38 t212 1).f0, (rd_T38 t212 1).f1⟩ : S38), (⟨(rd_T38 t212 1).f0, (rd_T38 t212 1).f1⟩ : S38), (⟨(rd_T38 t212 1).f0, (rd_T38 t212 1).f1⟩ : S38), (⟨(rd_T38 t212 1).f0, (rd_T38 t212 1).f1⟩ : S38)] : List (S38)) : List (S38))).bind fun y233 => (if t212.length + y233.length < 4398046511104 then (some ((t212 ++ y233), bt220.2)) else (none))) else (none)) else (if bt220.1 = 4 then (none) else (if 0 ≤ bt218.1 then (if bt218.1 < (t212.length : Int) then (some ((t212.set (bt218.1 : Int).toNat (⟨(rd_T38 t212 bt218.1).f0, ([] : List Int)⟩ : S38)), bt220.2)) else (none)) else (none))))))))))) = some (r1, r2) := H
  have A2 := Aside0.mk A20
  clear A20
  replace H := Option.bind_eq_some_iff.mp H
  obtain ⟨⟨t216, t217⟩, A30, H⟩ := H
  replace H : (if t216 > 0 then (some (t212, t217)) else ((spec_l6Rd_pick.f k s0_0 t217 (t212.length : Int)).bind fun bt218 => ((spec_l6Rd_pick.f k s0_0 bt218.2 6).bind fun bt220 => (if bt220.1 = 0 then ((spec_l6Rd_pick.f k s0_0 bt220.2 7).bind fun bt222 => (if 0 ≤ bt218.1 then (if bt218.1 < (t212.length : Int) then (some ((t212.set (bt218.1 : Int).toNat (⟨wrap64 (bt222.1 - 1), (rd_T38 t212 bt218.1).f1⟩ : S38)), bt222.2)) else (none)) else (none))) else (if bt220.1 = 1 then (if 0 ≤ bt218.1 then (if bt218.1 < (t212.length : Int) then (none) else (none)) else (none)) else (if bt220.1 = 2 then (if 1 ≤ (t212.length : Int) then (some ((t212.take (1 : Int).toNat), bt220.2)) else (none)) else (if bt220.1 = 3 then (if 1 < (t212.length : Int) then ((some (([(⟨(rd_T38 t212 1).f0, (rd_T38 t212 1).f1⟩ : S38), (⟨(rd_T38 t212 1).f0, (rd_T38 t212 1).f1⟩ : S38), (⟨(rd_T38 t212 1).f0, (rd_T38 t212 1).f1⟩ : S38), (⟨(rd_T38 t212 1).f0, (rd_T38 t212 1).f1⟩ : S38)] : List (S38)) : List (S38))).bind fun y233 => (if t212.length + y233.length < 4398046511104 then (some ((t212 ++ y233), bt220.2)) else (none))) else (none)) else (if bt220.1 = 4 then (none) else (if 0 ≤ bt218.1 then (if bt218.1 < (t212.length : Int) then (some ((t212.set (bt218.1 : Int).toNat (⟨(rd_T38 t212 bt218.1).f0, ([] : List Int)⟩ : S38)), bt220.2)) else (none)) else (none)))))))))) = some (r1, r2) := H
  have A3 := Aside0.mk A30
  clear A30
  by_cases c4 : t216 > 0
  · rw [if_pos c4] at H
    have c4b0 : decide (0 < t216) = true := decide_eq_true c4
    clear c4
    simp only [Option.some.injEq, Prod.mk.injEq] at H
    obtain ⟨rfl, rfl⟩ := H
    go_enter Try.func64, Try.ntmps64
    go_wp2_with (first | ((with_reducible refine gate_callee (f := 88) rfl ?_); refine goesL_ (some 6) rfl rfl Try.func88 (by kernel_rfl) rfl #[.pointer (some ⟨g, 0, none⟩)] rfl (by (try simp only [List.map_toArray, List.map_cons, List.map_nil]); first | done | rfl | (simp only [List.length_drop, List.length_take]; rfl)) ?_; (with_reducible refine (spec_l71Classes.calls k g s0_0 s0_1 t212 t215 w0 _ ?side1 ?side2 A2.out).mono ?_); (case side1 => repeat (first | (with_reducible first | exact HI0.out | apply IsS92.alloc | apply IsS92.drewN | apply IsS92.drew | apply IsS92.set_1) | exact HI0.out)); (case side2 => repeat (first | (with_reducible first | exact HB.out | apply below_alloc | apply pw_below_drewN | apply below_drew1 | refine below_set ?_ (IsS92.ge HI0.out)) | exact HB.out)); rintro e w5 ⟨v213, rfl, ho0, hi, hb, hk⟩; refine ⟨_, rfl, ?_⟩; have n0_ := Aside0.mk (Kd.N_lower (Kd.N_mono (ok' := fun k_ => (w.heap.size ≤ k_) ∧ k_ ≠ g) (Kd.S_N (Kd.S_bound ho0)) (fun k_ hk_ => ⟨(Nat.le_trans (keep_size (w := w) (g := g) (row := none) (by repeat (first | (with_reducible first | exact HK.out | apply KeepBut.set_ | apply keep_drewN | apply keep_drew | apply keep_alloc) | exact HK.out))) hk_.2.1), (IsS92.fresh (by repeat (first | (with_reducible first | exact HI0.out | apply IsS92.alloc | apply IsS92.drewN | apply IsS92.drew | apply IsS92.set_1) | exact HI0.out)) k_ hk_.2.1)⟩)) (keep_size (w := w) (g := g) (row := none) (by repeat (first | (with_reducible first | exact HK.out | apply KeepBut.set_ | apply keep_drewN | apply keep_drew | apply keep_alloc) | exact HK.out)))); have n1_ := Aside0.mk (KeepBut.trans (by repeat (first | (with_reducible first | exact HK.out | apply KeepBut.set_ | apply keep_drewN | apply keep_drew | apply keep_alloc) | exact HK.out)) hk (.inl rfl)); have n2_ := Aside0.mk (hb); have n3_ := Aside0.mk (hi); clear HK; clear HB; clear HI0; have HO214 := n0_; have HK := n1_; have HB := n2_; have HI0 := n3_; clear n0_ n1_ n2_ n3_; (try clear hb); (try clear hb2); (try clear hk); (try clear hi); (try clear ho0)) | ((with_reducible refine gate_callee (f := 65) rfl ?_); refine goesL_ (some 8) rfl rfl Try.func65 (by kernel_rfl) rfl #[.pointer (some ⟨g, 0, none⟩), .int .i64 20] rfl (by (try simp only [List.map_toArray, List.map_cons, List.map_nil]); first | done | rfl | (simp only [List.length_drop, List.length_take]; rfl)) ?_; (with_reducible refine (spec_l6Rd_pick.calls k g s0_0 t215 20 t216 t217 w0 _ ?side1 ?side2 A3.out).mono ?_); (case side1 => repeat (first | (with_reducible first | exact HI0.out | apply IsS92.alloc | apply IsS92.drewN | apply IsS92.drew | apply IsS92.set_1) | exact HI0.out)); (case side2 => repeat (first | (with_reducible first | exact HB.out | apply below_alloc | apply pw_below_drewN | apply below_drew1 | refine below_set ?_ (IsS92.ge HI0.out)) | exact HB.out)); rintro e w6 ⟨rfl, hi, hb, hk⟩; refine ⟨_, rfl, ?_⟩; have n0_ := Aside0.mk (Kd.N_mono (Kd.N_keep (Kd.N_mono (ok := fun k_ => (((w.heap.size ≤ k_)) ∧ k_ ≠ g)) (by (with_reducible repeat (first | apply Kd.N_alloc | apply Kd.N_drewN | apply Kd.N_drew)); exact HO214.out) (fun k_ hk_ => (⟨hk_, hk_.2⟩ : _ ∧ k_ ≠ g))) hk (fun _ h => h.2)) (fun _ h => h.1)); have n1_ := Aside0.mk (KeepBut.trans (by repeat (first | (with_reducible first | exact HK.out | apply KeepBut.set_ | apply keep_drewN | apply keep_drew | apply keep_alloc) | exact HK.out)) hk (.inl rfl)); have n2_ := Aside0.mk (hb); have n3_ := Aside0.mk (hi); clear HO214; clear HK; clear HB; clear HI0; have HO214 := n0_; have HK := n1_; have HB := n2_; have HI0 := n3_; clear n0_ n1_ n2_ n3_; (try clear hb); (try clear hb2); (try clear hk); (try clear hi)))
    go_ret
    exact ⟨_, by first | rfl | (simp [errW_none, errW_some] <;> rfl) | (simp [*, errW_none, errW_some] <;> rfl), by (with_reducible repeat (first | apply Kd.N_alloc | apply Kd.N_drewN | apply Kd.N_drew)); exact Kd.N_mono HO214.out (fun _ hk => hk.1), by repeat (first | (with_reducible first | exact HI0.out | apply IsS92.alloc | apply IsS92.drewN | apply IsS92.drew | apply IsS92.set_1) | exact HI0.out), by repeat (first | (with_reducible first | exact HB.out | apply below_alloc | apply pw_below_drewN | apply below_drew1 | refine below_set ?_ (IsS92.ge HI0.out)) | exact HB.out), by repeat (first | (with_reducible first | exact HK.out | apply KeepBut.set_ | apply keep_drewN | apply keep_drew | apply keep_alloc) | exact HK.out)⟩
  · rw [if_neg c4] at H
    have c4b0 : decide (0 < t216) = false := decide_eq_false c4
    clear c4
    replace H := Option.bind_eq_some_iff.mp H
    obtain ⟨⟨t218, t219⟩, A70, H⟩ := H
    replace H : ((spec_l6Rd_pick.f k s0_0 t219 6).bind fun bt220 => (if bt220.1 = 0 then ((spec_l6Rd_pick.f k s0_0 bt220.2 7).bind fun bt222 => (if 0 ≤ t218 then (if t218 < (t212.length : Int) then (some ((t212.set (t218 : Int).toNat (⟨wrap64 (bt222.1 - 1), (rd_T38 t212 t218).f1⟩ : S38)), bt222.2)) else (none)) else (none))) else (if bt220.1 = 1 then (if 0 ≤ t218 then (if t218 < (t212.length : Int) then (none) else (none)) else (none)) else (if bt220.1 = 2 then (if 1 ≤ (t212.length : Int) then (some ((t212.take (1 : Int).toNat), bt220.2)) else (none)) else (if bt220.1 = 3 then (if 1 < (t212.length : Int) then ((some (([(⟨(rd_T38 t212 1).f0, (rd_T38 t212 1).f1⟩ : S38), (⟨(rd_T38 t212 1).f0, (rd_T38 t212 1).f1⟩ : S38), (⟨(rd_T38 t212 1).f0, (rd_T38 t212 1).f1⟩ : S38), (⟨(rd_T38 t212 1).f0, (rd_T38 t212 1).f1⟩ : S38)] : List (S38)) : List (S38))).bind fun y233 => (if t212.length + y233.length < 4398046511104 then (some ((t212 ++ y233), bt220.2)) else (none))) else (none)) else (if bt220.1 = 4 then (none) else (if 0 ≤ t218 then (if t218 < (t212.length : Int) then (some ((t212.set (t218 : Int).toNat (⟨(rd_T38 t212 t218).f0, ([] : List Int)⟩ : S38)), bt220.2)) else (none)) else (none)))))))) = some (r1, r2) := H
    have A7 := Aside0.mk A70
    clear A70
    replace H := Option.bind_eq_some_iff.mp H
    obtain ⟨⟨t220, t221⟩, A80, H⟩ := H
    replace H : (if t220 = 0 then ((spec_l6Rd_pick.f k s0_0 t221 7).bind fun bt222 => (if 0 ≤ t218 then (if t218 < (t212.length : Int) then (some ((t212.set (t218 : Int).toNat (⟨wrap64 (bt222.1 - 1), (rd_T38 t212 t218).f1⟩ : S38)), bt222.2)) else (none)) else (none))) else (if t220 = 1 then (if 0 ≤ t218 then (if t218 < (t212.length : Int) then (none) else (none)) else (none)) else (if t220 = 2 then (if 1 ≤ (t212.length : Int) then (some ((t212.take (1 : Int).toNat), t221)) else (none)) else (if t220 = 3 then (if 1 < (t212.length : Int) then ((some (([(⟨(rd_T38 t212 1).f0, (rd_T38 t212 1).f1⟩ : S38), (⟨(rd_T38 t212 1).f0, (rd_T38 t212 1).f1⟩ : S38), (⟨(rd_T38 t212 1).f0, (rd_T38 t212 1).f1⟩ : S38), (⟨(rd_T38 t212 1).f0, (rd_T38 t212 1).f1⟩ : S38)] : List (S38)) : List (S38))).bind fun y233 => (if t212.length + y233.length < 4398046511104 then (some ((t212 ++ y233), t221)) else (none))) else (none)) else (if t220 = 4 then (none) else (if 0 ≤ t218 then (if t218 < (t212.length : Int) then (some ((t212.set (t218 : Int).toNat (⟨(rd_T38 t212 t218).f0, ([] : List Int)⟩ : S38)), t221)) else (none)) else (none))))))) = some (r1, r2) := H
    have A8 := Aside0.mk A80
    clear A80
    by_cases c9 : t220 = 0
    · rw [if_pos c9] at H
      have c9b0 : (t220 == 0) = true := beq_iff_eq.mpr c9
      have c9b1 : (t220 != 0) = false := bne_eq_false_iff_eq.mpr c9
      clear c9
      replace H := Option.bind_eq_some_iff.mp H
      obtain ⟨⟨t222, t223⟩, A100, H⟩ := H
      replace H : (if 0 ≤ t218 then (if t218 < (t212.length : Int) then (some ((t212.set (t218 : Int).toNat (⟨wrap64 (t222 - 1), (rd_T38 t212 t218).f1⟩ : S38)), t223)) else (none)) else (none)) = some (r1, r2) := H
      have A10 := Aside0.mk A100
      clear A100
      by_cases c11 : 0 ≤ t218
      · rw [if_pos c11] at H
        have c11b0 : decide (0 ≤ t218) = true := decide_eq_true c11
        clear c11
        by_cases c12 : t218 < (t212.length : Int)
        · rw [if_pos c12] at H
          have c12b0 : decide (t218 < (t212.length : Int)) = true := decide_eq_true c12
          clear c12
          obtain ⟨y224, hy224⟩ : ∃ y_ : List (S38), y_ = (t212.set (t218 : Int).toNat (⟨wrap64 (t222 - 1), (rd_T38 t212 t218).f1⟩ : S38)) := ⟨_, rfl⟩
          replace H : (some (y224, t223)) = some (r1, r2) := by first | (rw [hy224]; with_reducible exact H) | (have H2_ := (Option.bind_some _ _).symm.trans H; rw [hy224]; with_reducible exact H2_) | (have H2_ := (Option.bind_some _ _).symm.trans H; with_reducible exact H2_) | with_reducible exact H | (rw [hy224]; exact H) | exact H
          have Ny224 := Aside0.mk hy224
          clear hy224
          simp only [Option.some.injEq, Prod.mk.injEq] at H
          obtain ⟨rfl, rfl⟩ := H
          go_enter Try.func64, Try.ntmps64
          go_wp2_with (first | ((with_reducible refine gate_callee (f := 88) rfl ?_); refine goesL_ (some 6) rfl rfl Try.func88 (by kernel_rfl) rfl #[.pointer (some ⟨g, 0, none⟩)] rfl (by (try simp only [List.map_toArray, List.map_cons, List.map_nil]); first | done | rfl | (simp only [List.length_drop, List.length_take]; rfl)) ?_; (with_reducible refine (spec_l71Classes.calls k g s0_0 s0_1 t212 t215 w0 _ ?side1 ?side2 A2.out).mono ?_); (case side1 => repeat (first | (with_reducible first | exact HI0.out | apply IsS92.alloc | apply IsS92.drewN | apply IsS92.drew | apply IsS92.set_1) | exact HI0.out)); (case side2 => repeat (first | (with_reducible first | exact HB.out | apply below_alloc | apply pw_below_drewN | apply below_drew1 | refine below_set ?_ (IsS92.ge HI0.out)) | exact HB.out)); rintro e w14 ⟨v213, rfl, ho0, hi, hb, hk⟩; refine ⟨_, rfl, ?_⟩; have n0_ := Aside0.mk (Kd.N_lower (Kd.N_mono (ok' := fun k_ => (w.heap.size ≤ k_) ∧ k_ ≠ g) (Kd.S_N (Kd.S_bound ho0)) (fun k_ hk_ => ⟨(Nat.le_trans (keep_size (w := w) (g := g) (row := none) (by repeat (first | (with_reducible first | exact HK.out | apply KeepBut.set_ | apply keep_drewN | apply keep_drew | apply keep_alloc) | exact HK.out))) hk_.2.1), (IsS92.fresh (by repeat (first | (with_reducible first | exact HI0.out | apply IsS92.alloc | apply IsS92.drewN | apply IsS92.drew | apply IsS92.set_1) | exact HI0.out)) k_ hk_.2.1)⟩)) (keep_size (w := w) (g := g) (row := none) (by repeat (first | (with_reducible first | exact HK.out | apply KeepBut.set_ | apply keep_drewN | apply keep_drew | apply keep_alloc) | exact HK.out)))); have n1_ := Aside0.mk (KeepBut.trans (by repeat (first | (with_reducible first | exact HK.out | apply KeepBut.set_ | apply keep_drewN | apply keep_drew | apply keep_alloc) | exact HK.out)) hk (.inl rfl)); have n2_ := Aside0.mk (hb); have n3_ := Aside0.mk (hi); clear HK; clear HB; clear HI0; have HO214 := n0_; have HK := n1_; have HB := n2_; have HI0 := n3_; clear n0_ n1_ n2_ n3_; (try clear hb); (try clear hb2); (try clear hk); (try clear hi); (try clear ho0)) | ((with_reducible refine gate_callee (f := 65) rfl ?_); refine goesL_ (some 8) rfl rfl Try.func65 (by kernel_rfl) rfl #[.pointer (some ⟨g, 0, none⟩), .int .i64 20] rfl (by (try simp only [List.map_toArray, List.map_cons, List.map_nil]); first | done | rfl | (simp only [List.length_drop, List.length_take]; rfl)) ?_; (with_reducible refine (spec_l6Rd_pick.calls k g s0_0 t215 20 t216 t217 w0 _ ?side1 ?side2 A3.out).mono ?_); (case side1 => repeat (first | (with_reducible first | exact HI0.out | apply IsS92.alloc | apply IsS92.drewN | apply IsS92.drew | apply IsS92.set_1) | exact HI0.out)); (case side2 => repeat (first | (with_reducible first | exact HB.out | apply below_alloc | apply pw_below_drewN | apply below_drew1 | refine below_set ?_ (IsS92.ge HI0.out)) | exact HB.out)); rintro e w15 ⟨rfl, hi, hb, hk⟩; refine ⟨_, rfl, ?_⟩; have n0_ := Aside0.mk (Kd.N_mono (Kd.N_keep (Kd.N_mono (ok := fun k_ => (((w.heap.size ≤ k_)) ∧ k_ ≠ g)) (by (with_reducible repeat (first | apply Kd.N_alloc | apply Kd.N_drewN | apply Kd.N_drew)); exact HO214.out) (fun k_ hk_ => (⟨hk_, hk_.2⟩ : _ ∧ k_ ≠ g))) hk (fun _ h => h.2)) (fun _ h => h.1)); have n1_ := Aside0.mk (KeepBut.trans (by repeat (first | (with_reducible first | exact HK.out | apply KeepBut.set_ | apply keep_drewN | apply keep_drew | apply keep_alloc) | exact HK.out)) hk (.inl rfl)); have n2_ := Aside0.mk (hb); have n3_ := Aside0.mk (hi); clear HO214; clear HK; clear HB; clear HI0; have HO214 := n0_; have HK := n1_; have HB := n2_; have HI0 := n3_; clear n0_ n1_ n2_ n3_; (try clear hb); (try clear hb2); (try clear hk); (try clear hi); obtain ⟨Ao16, co16, eo16⟩ := Kd.N_slice HO214.out; subst eo16) | ((with_reducible refine gate_callee (f := 65) rfl ?_); refine goesL_ (some 14) rfl rfl Try.func65 (by kernel_rfl) rfl #[.pointer (some ⟨g, 0, none⟩), .int .i64 (t212.length : Int)] rfl (by (try simp only [List.map_toArray, List.map_cons, List.map_nil]); first | done | rfl | (simp only [List.length_drop, List.length_take]; rfl)) ?_; (with_reducible refine (spec_l6Rd_pick.calls k g s0_0 t217 (t212.length : Int) t218 t219 w0 _ ?side1 ?side2 A7.out).mono ?_); (case side1 => repeat (first | (with_reducible first | exact HI0.out | apply IsS92.alloc | apply IsS92.drewN | apply IsS92.drew | apply IsS92.set_1) | exact HI0.out)); (case side2 => repeat (first | (with_reducible first | exact HB.out | apply below_alloc | apply pw_below_drewN | apply below_drew1 | refine below_set ?_ (IsS92.ge HI0.out)) | exact HB.out)); rintro e w17 ⟨rfl, hi, hb, hk⟩; refine ⟨_, rfl, ?_⟩; have n0_ := Aside0.mk (Kd.N_mono (Kd.N_keep (Kd.N_mono (ok := fun k_ => (((w.heap.size ≤ k_)) ∧ k_ ≠ g)) (by (with_reducible repeat (first | apply Kd.N_alloc | apply Kd.N_drewN | apply Kd.N_drew)); exact HO214.out) (fun k_ hk_ => (⟨hk_, hk_.2⟩ : _ ∧ k_ ≠ g))) hk (fun _ h => h.2)) (fun _ h => h.1)); have n1_ := Aside0.mk (KeepBut.trans (by repeat (first | (with_reducible first | exact HK.out | apply KeepBut.set_ | apply keep_drewN | apply keep_drew | apply keep_alloc) | exact HK.out)) hk (.inl rfl)); have n2_ := Aside0.mk (hb); have n3_ := Aside0.mk (hi); clear HO214; clear HK; clear HB; clear HI0; have HO214 := n0_; have HK := n1_; have HB := n2_; have HI0 := n3_; clear n0_ n1_ n2_ n3_; (try clear hb); (try clear hb2); (try clear hk); (try clear hi)) | ((with_reducible refine gate_callee (f := 65) rfl ?_); refine goesL_ (some 16) rfl rfl Try.func65 (by kernel_rfl) rfl #[.pointer (some ⟨g, 0, none⟩), .int .i64 6] rfl (by (try simp only [List.map_toArray, List.map_cons, List.map_nil]); first | done | rfl | (simp only [List.length_drop, List.length_take]; rfl)) ?_; (with_reducible refine (spec_l6Rd_pick.calls k g s0_0 t219 6 t220 t221 w0 _ ?side1 ?side2 A8.out).mono ?_); (case side1 => repeat (first | (with_reducible first | exact HI0.out | apply IsS92.alloc | apply IsS92.drewN | apply IsS92.drew | apply IsS92.set_1) | exact HI0.out)); (case side2 => repeat (first | (with_reducible first | exact HB.out | apply below_alloc | apply pw_below_drewN | apply below_drew1 | refine below_set ?_ (IsS92.ge HI0.out)) | exact HB.out)); rintro e w18 ⟨rfl, hi, hb, hk⟩; refine ⟨_, rfl, ?_⟩; have n0_ := Aside0.mk (Kd.N_mono (Kd.N_keep (Kd.N_mono (ok := fun k_ => (((w.heap.size ≤ k_)) ∧ k_ ≠ g)) (by (with_reducible repeat (first | apply Kd.N_alloc | apply Kd.N_drewN | apply Kd.N_drew)); exact HO214.out) (fun k_ hk_ => (⟨hk_, hk_.2⟩ : _ ∧ k_ ≠ g))) hk (fun _ h => h.2)) (fun _ h => h.1)); have n1_ := Aside0.mk (KeepBut.trans (by repeat (first | (with_reducible first | exact HK.out | apply KeepBut.set_ | apply keep_drewN | apply keep_drew | apply keep_alloc) | exact HK.out)) hk (.inl rfl)); have n2_ := Aside0.mk (hb); have n3_ := Aside0.mk (hi); clear HO214; clear HK; clear HB; clear HI0; have HO214 := n0_; have HK := n1_; have HB := n2_; have HI0 := n3_; clear n0_ n1_ n2_ n3_; (try clear hb); (try clear hb2); (try clear hk); (try clear hi)) | ((with_reducible refine gate_callee (f := 65) rfl ?_); refine goesL_ (some 26) rfl rfl Try.func65 (by kernel_rfl) rfl #[.pointer (some ⟨g, 0, none⟩), .int .i64 7] rfl (by (try simp only [List.map_toArray, List.map_cons, List.map_nil]); first | done | rfl | (simp only [List.length_drop, List.length_take]; rfl)) ?_; (with_reducible refine (spec_l6Rd_pick.calls k g s0_0 t221 7 t222 t223 w0 _ ?side1 ?side2 A10.out).mono ?_); (case side1 => repeat (first | (with_reducible first | exact HI0.out | apply IsS92.alloc | apply IsS92.drewN | apply IsS92.drew | apply IsS92.set_1) | exact HI0.out)); (case side2 => repeat (first | (with_reducible first | exact HB.out | apply below_alloc | apply pw_below_drewN | apply below_drew1 | refine below_set ?_ (IsS92.ge HI0.out)) | exact HB.out)); rintro e w19 ⟨rfl, hi, hb, hk⟩; refine ⟨_, rfl, ?_⟩; have n0_ := Aside0.mk (Kd.N_mono (Kd.N_keep (Kd.N_mono (ok := fun k_ => (((w.heap.size ≤ k_)) ∧ k_ ≠ g)) (by (with_reducible repeat (first | apply Kd.N_alloc | apply Kd.N_drewN | apply Kd.N_drew)); exact HO214.out) (fun k_ hk_ => (⟨hk_, hk_.2⟩ : _ ∧ k_ ≠ g))) hk (fun _ h => h.2)) (fun _ h => h.1)); have n1_ := Aside0.mk (KeepBut.trans (by repeat (first | (with_reducible first | exact HK.out | apply KeepBut.set_ | apply keep_drewN | apply keep_drew | apply keep_alloc) | exact HK.out)) hk (.inl rfl)); have n2_ := Aside0.mk (hb); have n3_ := Aside0.mk (hi); clear HO214; clear HK; clear HB; clear HI0; have HO214 := n0_; have HK := n1_; have HB := n2_; have HI0 := n3_; clear n0_ n1_ n2_ n3_; (try clear hb); (try clear hb2); (try clear hk); (try clear hi); have p13 : 0 ≤ (t218 : Int) := of_decide_eq_true (by first | (with_reducible assumption) | assumption); have q13 : (t218 : Int) < ((t212.length : Int) : Int) := of_decide_eq_true (by first | (with_reducible assumption) | assumption); obtain ⟨go13, co13, eo13, gb13, gl13, cl13, HG13⟩ := Kd.N_form HO214.out (by omega); (first | cases eo13 | (injection eo13 with ea_ en_ ec_; (first | subst ea_ | (injection ea_ with ea_; subst ea_)); subst ec_; clear en_)); have GB13 := Aside0.mk gb13; have GG13 := Aside0.mk HG13; clear gb13 gl13 HG13; obtain ⟨ce13, hcl13, hM13, hcc13, hfr13⟩ := Kd.N_elem HO214.out z38 (t218 : Int) p13 q13; obtain ⟨ua13_1, uc13_1, rfl, ul13_1, ge13_1⟩ := k38_openF hM13; have hx13_0 : w19.cell? ⟨go13, (t218 : Int).toNat * 2, none⟩ = some (.int .i64 ((rd_T38 t212 t218).f0)) := hcc13 0 _ rfl; have hx13_1 : w19.cell? ⟨go13, (t218 : Int).toNat * 2 + 1, none⟩ = some (.slice ua13_1 ((rd_T38 t212 t218).f1).length uc13_1) := hcc13 1 _ rfl; have hf13_0 : w19.frozen? ⟨go13, (t218 : Int).toNat * 2, none⟩ = false := hfr13 0; have hf13_1 : w19.frozen? ⟨go13, (t218 : Int).toNat * 2 + 1, none⟩ = false := hfr13 1; clear hcl13 hcc13 hfr13 hM13; replace p13 := eq_true p13; replace q13 := eq_true q13; have HX20 := Aside0.mk (show Kd.N k38 38 w19 w.heap.size (fun k_ => (w.heap.size ≤ k_) ∧ k_ ≠ g) (.slice (some ⟨go13, 0, none⟩) t212.length co16) t212 from (by (with_reducible repeat (first | apply Kd.N_alloc | apply Kd.N_drewN | apply Kd.N_drew)); exact HO214.out)); obtain ⟨ce20, hcl20, hM20, hcc20, hfr20⟩ := Kd.N_elem HX20.out z38 (t218 : Int) (of_decide_eq_true (by first | (with_reducible assumption) | assumption)) (by have h_ : (t218 : Int) < ((t212.length : Int) : Int) := of_decide_eq_true (by first | (with_reducible assumption) | assumption); first | exact h_ | (have e_ := (Kd.N_reads' HO214.out).1; omega) | simpa using h_); obtain ⟨ua20_1, uc20_1, rfl, ul20_1, ge20_1⟩ := k38_openF hM20; have HP20 := Kd.N_seg HX20.out (t218 : Int) (of_decide_eq_true (by first | (with_reducible assumption) | assumption)) (by have h_ : (t218 : Int) < ((t212.length : Int) : Int) := of_decide_eq_true (by first | (with_reducible assumption) | assumption); first | exact h_ | (have e_ := (Kd.N_reads' HO214.out).1; omega) | simpa using h_) (seg := [.int .i64 (wrap64 (t222 - 1))]) (j := 0) hcl20 hcc20 (show 1 ≤ 2 from by decide) (x' := (⟨wrap64 (t222 - 1), (rd_T38 t212 t218).f1⟩ : S38)) (k38_mkF _ _ (⟨wrap64 (t222 - 1), (rd_T38 t212 t218).f1⟩ : S38) ul20_1 ge20_1) (fun _ hk => hk); have hx20_0 := hcc20 0 _ rfl; (try simp only [show (k38).sz = 2 from rfl, Nat.mul_one, Nat.add_zero] at hx20_0); have hf20_0 := hfr20 0; (try simp only [show (k38).sz = 2 from rfl, Nat.mul_one, Nat.add_zero] at hf20_0); clear hcl20 hcc20 hfr20 hM20) | ((with_reducible refine gate_store (t := 3) (p := 29) rfl ?_); refine store_event (t := 3) (p := 29) (v := ?vo_w21) (w1 := (w19.setCell ⟨go13, (t218 : Int).toNat * 2, none⟩ (.int .i64 (wrap64 (t222 - 1))))) ?hg ?ho ?hn ?hr ?_; (case ho => rfl); (case hg => rfl); (case hn => rfl); (case hr => first | (go_simp; done) | (go_simp; rfl)); intro w21 hw; have hg : w19.grownBy w21 (some go13) := (by rw [hw]; exact HP20.2); have hp_ : Kd.N k38 38 w21 w.heap.size (fun k_ => (w.heap.size ≤ k_) ∧ k_ ≠ g) (.slice (some ⟨go13, 0, none⟩) t212.length co16) y224 := (by rw [hw, Ny224.out]; exact HP20.1); clear HP20; have n0_ := Aside0.mk (IsS92.grown (by repeat (first | (with_reducible first | exact HI0.out | apply IsS92.alloc | apply IsS92.drewN | apply IsS92.drew | apply IsS92.set_1) | exact HI0.out)) hg (IsS92.own_neN HI0.out HO214.out (by decide))); have n1_ := Aside0.mk (hp_); have n2_ := Aside0.mk ((by rw [hw]; exact below_set (HB.out) (Nat.le_trans HL.out GB13.out) : Below w0.heap.size w0 w21)); have n3_ := Aside0.mk (KeepBut.trans (by repeat (first | (with_reducible first | exact HK.out | apply KeepBut.set_ | apply keep_drewN | apply keep_drew | apply keep_alloc) | exact HK.out)) (KeepBut.of_grown hg g) (Kd.N_base2 HO214.out)); clear HI0; clear HO214; clear HB; clear HK; have HI0 := n0_; have HO214 := n1_; have HB := n2_; have HK := n3_; clear n0_ n1_ n2_ n3_; clear hg hw hp_))
          go_ret
          exact ⟨_, by first | rfl | (simp [errW_none, errW_some] <;> rfl) | (simp [*, errW_none, errW_some] <;> rfl), by (with_reducible repeat (first | apply Kd.N_alloc | apply Kd.N_drewN | apply Kd.N_drew)); exact Kd.N_mono HO214.out (fun _ hk => hk.1), by repeat (first | (with_reducible first | exact HI0.out | apply IsS92.alloc | apply IsS92.drewN | apply IsS92.drew | apply IsS92.set_1) | exact HI0.out), by repeat (first | (with_reducible first | exact HB.out | apply below_alloc | apply pw_below_drewN | apply below_drew1 | refine below_set ?_ (IsS92.ge HI0.out)) | exact HB.out), by repeat (first | (with_reducible first | exact HK.out | apply KeepBut.set_ | apply keep_drewN | apply keep_drew | apply keep_alloc) | exact HK.out)⟩
        · rw [if_neg c12] at H
          exact absurd H (by simp)
      · rw [if_neg c11] at H
        exact absurd H (by simp)
    · rw [if_neg c9] at H
      have c9b0 : (t220 == 0) = false := beq_eq_false_iff_ne.mpr c9
      have c9b1 : (t220 != 0) = true := bne_iff_ne.mpr c9
      by_cases c22 : t220 = 1
      · rw [if_pos c22] at H
        have c22b0 : (t220 == 1) = true := beq_iff_eq.mpr c22
        have c22b1 : (t220 != 1) = false := bne_eq_false_iff_eq.mpr c22
        clear c22
        by_cases c23 : 0 ≤ t218
        · rw [if_pos c23] at H
          have c23b0 : decide (0 ≤ t218) = true := decide_eq_true c23
          clear c23
          by_cases c24 : t218 < (t212.length : Int)
          · rw [if_pos c24] at H
            have c24b0 : decide (t218 < (t212.length : Int)) = true := decide_eq_true c24
            clear c24
            exact absurd H (by simp)
          · rw [if_neg c24] at H
            exact absurd H (by simp)
        · rw [if_neg c23] at H
          exact absurd H (by simp)
      · rw [if_neg c22] at H
        have c22b0 : (t220 == 1) = false := beq_eq_false_iff_ne.mpr c22
        have c22b1 : (t220 != 1) = true := bne_iff_ne.mpr c22
        by_cases c25 : t220 = 2
        · rw [if_pos c25] at H
          have c25b0 : (t220 == 2) = true := beq_iff_eq.mpr c25
          have c25b1 : (t220 != 2) = false := bne_eq_false_iff_eq.mpr c25
          clear c25
          by_cases c26 : 1 ≤ (t212.length : Int)
          · rw [if_pos c26] at H
            have c26b0 := eq_true c26
            have c26b1 : decide (1 ≤ (t212.length : Int)) = true := decide_eq_true c26
            clear c26
            obtain ⟨y226, hy226⟩ : ∃ y_ : List (S38), y_ = (t212.take (1 : Int).toNat) := ⟨_, rfl⟩
            replace H : (some (y226, t221)) = some (r1, r2) := by first | (rw [hy226]; with_reducible exact H) | (have H2_ := (Option.bind_some _ _).symm.trans H; rw [hy226]; with_reducible exact H2_) | (have H2_ := (Option.bind_some _ _).symm.trans H; with_reducible exact H2_) | with_reducible exact H | (rw [hy226]; exact H) | exact H
            have Ny226 := Aside0.mk hy226
            clear hy226
            simp only [Option.some.injEq, Prod.mk.injEq] at H
            obtain ⟨rfl, rfl⟩ := H
            go_enter Try.func64, Try.ntmps64
            go_wp2_with (first | ((with_reducible refine gate_callee (f := 88) rfl ?_); refine goesL_ (some 6) rfl rfl Try.func88 (by kernel_rfl) rfl #[.pointer (some ⟨g, 0, none⟩)] rfl (by (try simp only [List.map_toArray, List.map_cons, List.map_nil]); first | done | rfl | (simp only [List.length_drop, List.length_take]; rfl)) ?_; (with_reducible refine (spec_l71Classes.calls k g s0_0 s0_1 t212 t215 w0 _ ?side1 ?side2 A2.out).mono ?_); (case side1 => repeat (first | (with_reducible first | exact HI0.out | apply IsS92.alloc | apply IsS92.drewN | apply IsS92.drew | apply IsS92.set_1) | exact HI0.out)); (case side2 => repeat (first | (with_reducible first | exact HB.out | apply below_alloc | apply pw_below_drewN | apply below_drew1 | refine below_set ?_ (IsS92.ge HI0.out)) | exact HB.out)); rintro e w27 ⟨v213, rfl, ho0, hi, hb, hk⟩; refine ⟨_, rfl, ?_⟩; have n0_ := Aside0.mk (Kd.N_lower (Kd.N_mono (ok' := fun k_ => (w.heap.size ≤ k_) ∧ k_ ≠ g) (Kd.S_N (Kd.S_bound ho0)) (fun k_ hk_ => ⟨(Nat.le_trans (keep_size (w := w) (g := g) (row := none) (by repeat (first | (with_reducible first | exact HK.out | apply KeepBut.set_ | apply keep_drewN | apply keep_drew | apply keep_alloc) | exact HK.out))) hk_.2.1), (IsS92.fresh (by repeat (first | (with_reducible first | exact HI0.out | apply IsS92.alloc | apply IsS92.drewN | apply IsS92.drew | apply IsS92.set_1) | exact HI0.out)) k_ hk_.2.1)⟩)) (keep_size (w := w) (g := g) (row := none) (by repeat (first | (with_reducible first | exact HK.out | apply KeepBut.set_ | apply keep_drewN | apply keep_drew | apply keep_alloc) | exact HK.out)))); have n1_ := Aside0.mk (KeepBut.trans (by repeat (first | (with_reducible first | exact HK.out | apply KeepBut.set_ | apply keep_drewN | apply keep_drew | apply keep_alloc) | exact HK.out)) hk (.inl rfl)); have n2_ := Aside0.mk (hb); have n3_ := Aside0.mk (hi); clear HK; clear HB; clear HI0; have HO214 := n0_; have HK := n1_; have HB := n2_; have HI0 := n3_; clear n0_ n1_ n2_ n3_; (try clear hb); (try clear hb2); (try clear hk); (try clear hi); (try clear ho0)) | ((with_reducible refine gate_callee (f := 65) rfl ?_); refine goesL_ (some 8) rfl rfl Try.func65 (by kernel_rfl) rfl #[.pointer (some ⟨g, 0, none⟩), .int .i64 20] rfl (by (try simp only [List.map_toArray, List.map_cons, List.map_nil]); first | done | rfl | (simp only [List.length_drop, List.length_take]; rfl)) ?_; (with_reducible refine (spec_l6Rd_pick.calls k g s0_0 t215 20 t216 t217 w0 _ ?side1 ?side2 A3.out).mono ?_); (case side1 => repeat (first | (with_reducible first | exact HI0.out | apply IsS92.alloc | apply IsS92.drewN | apply IsS92.drew | apply IsS92.set_1) | exact HI0.out)); (case side2 => repeat (first | (with_reducible first | exact HB.out | apply below_alloc | apply pw_below_drewN | apply below_drew1 | refine below_set ?_ (IsS92.ge HI0.out)) | exact HB.out)); rintro e w28 ⟨rfl, hi, hb, hk⟩; refine ⟨_, rfl, ?_⟩; have n0_ := Aside0.mk (Kd.N_mono (Kd.N_keep (Kd.N_mono (ok := fun k_ => (((w.heap.size ≤ k_)) ∧ k_ ≠ g)) (by (with_reducible repeat (first | apply Kd.N_alloc | apply Kd.N_drewN | apply Kd.N_drew)); exact HO214.out) (fun k_ hk_ => (⟨hk_, hk_.2⟩ : _ ∧ k_ ≠ g))) hk (fun _ h => h.2)) (fun _ h => h.1)); have n1_ := Aside0.mk (KeepBut.trans (by repeat (first | (with_reducible first | exact HK.out | apply KeepBut.set_ | apply keep_drewN | apply keep_drew | apply keep_alloc) | exact HK.out)) hk (.inl rfl)); have n2_ := Aside0.mk (hb); have n3_ := Aside0.mk (hi); clear HO214; clear HK; clear HB; clear HI0; have HO214 := n0_; have HK := n1_; have HB := n2_; have HI0 := n3_; clear n0_ n1_ n2_ n3_; (try clear hb); (try clear hb2); (try clear hk); (try clear hi); obtain ⟨Ao29, co29, eo29⟩ := Kd.N_slice HO214.out; subst eo29) | ((with_reducible refine gate_callee (f := 65) rfl ?_); refine goesL_ (some 14) rfl rfl Try.func65 (by kernel_rfl) rfl #[.pointer (some ⟨g, 0, none⟩), .int .i64 (t212.length : Int)] rfl (by (try simp only [List.map_toArray, List.map_cons, List.map_nil]); first | done | rfl | (simp only [List.length_drop, List.length_take]; rfl)) ?_; (with_reducible refine (spec_l6Rd_pick.calls k g s0_0 t217 (t212.length : Int) t218 t219 w0 _ ?side1 ?side2 A7.out).mono ?_); (case side1 => repeat (first | (with_reducible first | exact HI0.out | apply IsS92.alloc | apply IsS92.drewN | apply IsS92.drew | apply IsS92.set_1) | exact HI0.out)); (case side2 => repeat (first | (with_reducible first | exact HB.out | apply below_alloc | apply pw_below_drewN | apply below_drew1 | refine below_set ?_ (IsS92.ge HI0.out)) | exact HB.out)); rintro e w30 ⟨rfl, hi, hb, hk⟩; refine ⟨_, rfl, ?_⟩; have n0_ := Aside0.mk (Kd.N_mono (Kd.N_keep (Kd.N_mono (ok := fun k_ => (((w.heap.size ≤ k_)) ∧ k_ ≠ g)) (by (with_reducible repeat (first | apply Kd.N_alloc | apply Kd.N_drewN | apply Kd.N_drew)); exact HO214.out) (fun k_ hk_ => (⟨hk_, hk_.2⟩ : _ ∧ k_ ≠ g))) hk (fun _ h => h.2)) (fun _ h => h.1)); have n1_ := Aside0.mk (KeepBut.trans (by repeat (first | (with_reducible first | exact HK.out | apply KeepBut.set_ | apply keep_drewN | apply keep_drew | apply keep_alloc) | exact HK.out)) hk (.inl rfl)); have n2_ := Aside0.mk (hb); have n3_ := Aside0.mk (hi); clear HO214; clear HK; clear HB; clear HI0; have HO214 := n0_; have HK := n1_; have HB := n2_; have HI0 := n3_; clear n0_ n1_ n2_ n3_; (try clear hb); (try clear hb2); (try clear hk); (try clear hi)) | ((with_reducible refine gate_callee (f := 65) rfl ?_); refine goesL_ (some 16) rfl rfl Try.func65 (by kernel_rfl) rfl #[.pointer (some ⟨g, 0, none⟩), .int .i64 6] rfl (by (try simp only [List.map_toArray, List.map_cons, List.map_nil]); first | done | rfl | (simp only [List.length_drop, List.length_take]; rfl)) ?_; (with_reducible refine (spec_l6Rd_pick.calls k g s0_0 t219 6 t220 t221 w0 _ ?side1 ?side2 A8.out).mono ?_); (case side1 => repeat (first | (with_reducible first | exact HI0.out | apply IsS92.alloc | apply IsS92.drewN | apply IsS92.drew | apply IsS92.set_1) | exact HI0.out)); (case side2 => repeat (first | (with_reducible first | exact HB.out | apply below_alloc | apply pw_below_drewN | apply below_drew1 | refine below_set ?_ (IsS92.ge HI0.out)) | exact HB.out)); rintro e w31 ⟨rfl, hi, hb, hk⟩; refine ⟨_, rfl, ?_⟩; have n0_ := Aside0.mk (Kd.N_mono (Kd.N_keep (Kd.N_mono (ok := fun k_ => (((w.heap.size ≤ k_)) ∧ k_ ≠ g)) (by (with_reducible repeat (first | apply Kd.N_alloc | apply Kd.N_drewN | apply Kd.N_drew)); exact HO214.out) (fun k_ hk_ => (⟨hk_, hk_.2⟩ : _ ∧ k_ ≠ g))) hk (fun _ h => h.2)) (fun _ h => h.1)); have n1_ := Aside0.mk (KeepBut.trans (by repeat (first | (with_reducible first | exact HK.out | apply KeepBut.set_ | apply keep_drewN | apply keep_drew | apply keep_alloc) | exact HK.out)) hk (.inl rfl)); have n2_ := Aside0.mk (hb); have n3_ := Aside0.mk (hi); clear HO214; clear HK; clear HB; clear HI0; have HO214 := n0_; have HK := n1_; have HB := n2_; have HI0 := n3_; clear n0_ n1_ n2_ n3_; (try clear hb); (try clear hb2); (try clear hk); (try clear hi); have q32 : (1 : Int) ≤ ((t212.length : Int) : Int) := of_decide_eq_true (by first | (with_reducible assumption) | assumption); obtain ⟨i032, hi032, _, hsz32, _⟩ := info_parts info38; have hcut32 := cut_to (P := Try.prog) 25 38 .i64 Try.underlying25 hi032 Ao29 t212.length co29 1 (by omega) q32 (Kd.N_reads' HO214.out).2.1; have hr32 := Kd.N_take (m := (1 : Int).toNat) HO214.out (by omega); have hy32 : y226.length = (1 : Int).toNat := (by rw [Ny226.out, List.length_take]; omega); rw [← Ny226.out] at hr32; rw [← hy32] at hr32 hcut32; clear hy32 hi032 hsz32 HO214; have HO228 := Aside0.mk hr32; clear hr32; replace q32 := eq_true q32))
            go_ret
            exact ⟨_, by first | rfl | (simp [errW_none, errW_some] <;> rfl) | (simp [*, errW_none, errW_some] <;> rfl), by (with_reducible repeat (first | apply Kd.N_alloc | apply Kd.N_drewN | apply Kd.N_drew)); exact Kd.N_mono HO228.out (fun _ hk => hk.1), by repeat (first | (with_reducible first | exact HI0.out | apply IsS92.alloc | apply IsS92.drewN | apply IsS92.drew | apply IsS92.set_1) | exact HI0.out), by repeat (first | (with_reducible first | exact HB.out | apply below_alloc | apply pw_below_drewN | apply below_drew1 | refine below_set ?_ (IsS92.ge HI0.out)) | exact HB.out), by repeat (first | (with_reducible first | exact HK.out | apply KeepBut.set_ | apply keep_drewN | apply keep_drew | apply keep_alloc) | exact HK.out)⟩
          · rw [if_neg c26] at H
            exact absurd H (by simp)
        · rw [if_neg c25] at H
          have c25b0 : (t220 == 2) = false := beq_eq_false_iff_ne.mpr c25
          have c25b1 : (t220 != 2) = true := bne_iff_ne.mpr c25
          by_cases c33 : t220 = 3
          · rw [if_pos c33] at H
            have c33b0 : (t220 == 3) = true := beq_iff_eq.mpr c33
            have c33b1 : (t220 != 3) = false := bne_eq_false_iff_eq.mpr c33
            clear c33
            by_cases c34 : 1 < (t212.length : Int)
            · rw [if_pos c34] at H
              have c34b0 : decide (1 < (t212.length : Int)) = true := decide_eq_true c34
              have c34b1 : decide (1 < t212.length) = true := decide_eq_true (by omega)
              clear c34
              obtain ⟨y233, hy233⟩ : ∃ y_ : List (S38), y_ = (([(⟨(rd_T38 t212 1).f0, (rd_T38 t212 1).f1⟩ : S38), (⟨(rd_T38 t212 1).f0, (rd_T38 t212 1).f1⟩ : S38), (⟨(rd_T38 t212 1).f0, (rd_T38 t212 1).f1⟩ : S38), (⟨(rd_T38 t212 1).f0, (rd_T38 t212 1).f1⟩ : S38)] : List (S38))) := ⟨_, rfl⟩
              replace H : (if t212.length + y233.length < 4398046511104 then (some ((t212 ++ y233), t221)) else (none)) = some (r1, r2) := by first | (rw [hy233]; with_reducible exact H) | (have H2_ := (Option.bind_some _ _).symm.trans H; rw [hy233]; with_reducible exact H2_) | (have H2_ := (Option.bind_some _ _).symm.trans H; with_reducible exact H2_) | with_reducible exact H | (rw [hy233]; exact H) | exact H
              have Ny233 := Aside0.mk hy233
              clear hy233
              by_cases c35 : t212.length + y233.length < 4398046511104
              · rw [if_pos c35] at H
                have LMc35 := Aside0.mk c35
                clear c35
                obtain ⟨y236, hy236⟩ : ∃ y_ : List (S38), y_ = (t212 ++ y233) := ⟨_, rfl⟩
                replace H : (some (y236, t221)) = some (r1, r2) := by first | (rw [hy236]; with_reducible exact H) | (have H2_ := (Option.bind_some _ _).symm.trans H; rw [hy236]; with_reducible exact H2_) | (have H2_ := (Option.bind_some _ _).symm.trans H; with_reducible exact H2_) | with_reducible exact H | (rw [hy236]; exact H) | exact H
                have Ny236 := Aside0.mk hy236
                clear hy236
                simp only [Option.some.injEq, Prod.mk.injEq] at H
                obtain ⟨rfl, rfl⟩ := H
                go_enter Try.func64, Try.ntmps64
                try go_wp2_with (first | ((with_reducible refine gate_callee (f := 88) rfl ?_); refine goesL_ (some 6) rfl rfl Try.func88 (by kernel_rfl) rfl #[.pointer (some ⟨g, 0, none⟩)] rfl (by (try simp only [List.map_toArray, List.map_cons, List.map_nil]); first | done | rfl | (simp only [List.length_drop, List.length_take]; rfl)) ?_; (with_reducible refine (spec_l71Classes.calls k g s0_0 s0_1 t212 t215 w0 _ ?side1 ?side2 A2.out).mono ?_); (case side1 => repeat (first | (with_reducible first | exact HI0.out | apply IsS92.alloc | apply IsS92.drewN | apply IsS92.drew | apply IsS92.set_1) | exact HI0.out)); (case side2 => repeat (first | (with_reducible first | exact HB.out | apply below_alloc | apply pw_below_drewN | apply below_drew1 | refine below_set ?_ (IsS92.ge HI0.out)) | exact HB.out)); rintro e w36 ⟨v213, rfl, ho0, hi, hb, hk⟩; refine ⟨_, rfl, ?_⟩; have n0_ := Aside0.mk (Kd.N_lower (Kd.N_mono (ok' := fun k_ => (w.heap.size ≤ k_) ∧ k_ ≠ g) (Kd.S_N (Kd.S_bound ho0)) (fun k_ hk_ => ⟨(Nat.le_trans (keep_size (w := w) (g := g) (row := none) (by repeat (first | (with_reducible first | exact HK.out | apply KeepBut.set_ | apply keep_drewN | apply keep_drew | apply keep_alloc) | exact HK.out))) hk_.2.1), (IsS92.fresh (by repeat (first | (with_reducible first | exact HI0.out | apply IsS92.alloc | apply IsS92.drewN | apply IsS92.drew | apply IsS92.set_1) | exact HI0.out)) k_ hk_.2.1)⟩)) (keep_size (w := w) (g := g) (row := none) (by repeat (first | (with_reducible first | exact HK.out | apply KeepBut.set_ | apply keep_drewN | apply keep_drew | apply keep_alloc) | exact HK.out)))); have n1_ := Aside0.mk (KeepBut.trans (by repeat (first | (with_reducible first | exact HK.out | apply KeepBut.set_ | apply keep_drewN | apply keep_drew | apply keep_alloc) | exact HK.out)) hk (.inl rfl)); have n2_ := Aside0.mk (hb); have n3_ := Aside0.mk (hi); clear HK; clear HB; clear HI0; have HO214 := n0_; have HK := n1_; have HB := n2_; have HI0 := n3_; clear n0_ n1_ n2_ n3_; (try clear hb); (try clear hb2); (try clear hk); (try clear hi); (try clear ho0)) | ((with_reducible refine gate_callee (f := 65) rfl ?_); refine goesL_ (some 8) rfl rfl Try.func65 (by kernel_rfl) rfl #[.pointer (some ⟨g, 0, none⟩), .int .i64 20] rfl (by (try simp only [List.map_toArray, List.map_cons, List.map_nil]); first | done | rfl | (simp only [List.length_drop, List.length_take]; rfl)) ?_; (with_reducible refine (spec_l6Rd_pick.calls k g s0_0 t215 20 t216 t217 w0 _ ?side1 ?side2 A3.out).mono ?_); (case side1 => repeat (first | (with_reducible first | exact HI0.out | apply IsS92.alloc | apply IsS92.drewN | apply IsS92.drew | apply IsS92.set_1) | exact HI0.out)); (case side2 => repeat (first | (with_reducible first | exact HB.out | apply below_alloc | apply pw_below_drewN | apply below_drew1 | refine below_set ?_ (IsS92.ge HI0.out)) | exact HB.out)); rintro e w37 ⟨rfl, hi, hb, hk⟩; refine ⟨_, rfl, ?_⟩; have n0_ := Aside0.mk (Kd.N_mono (Kd.N_keep (Kd.N_mono (ok := fun k_ => (((w.heap.size ≤ k_)) ∧ k_ ≠ g)) (by (with_reducible repeat (first | apply Kd.N_alloc | apply Kd.N_drewN | apply Kd.N_drew)); exact HO214.out) (fun k_ hk_ => (⟨hk_, hk_.2⟩ : _ ∧ k_ ≠ g))) hk (fun _ h => h.2)) (fun _ h => h.1)); have n1_ := Aside0.mk (KeepBut.trans (by repeat (first | (with_reducible first | exact HK.out | apply KeepBut.set_ | apply keep_drewN | apply keep_drew | apply keep_alloc) | exact HK.out)) hk (.inl rfl)); have n2_ := Aside0.mk (hb); have n3_ := Aside0.mk (hi); clear HO214; clear HK; clear HB; clear HI0; have HO214 := n0_; have HK := n1_; have HB := n2_; have HI0 := n3_; clear n0_ n1_ n2_ n3_; (try clear hb); (try clear hb2); (try clear hk); (try clear hi); obtain ⟨Ao38, co38, eo38⟩ := Kd.N_slice HO214.out; subst eo38) | ((with_reducible refine gate_callee (f := 65) rfl ?_); refine goesL_ (some 14) rfl rfl Try.func65 (by kernel_rfl) rfl #[.pointer (some ⟨g, 0, none⟩), .int .i64 (t212.length : Int)] rfl (by (try simp only [List.map_toArray, List.map_cons, List.map_nil]); first | done | rfl | (simp only [List.length_drop, List.length_take]; rfl)) ?_; (with_reducible refine (spec_l6Rd_pick.calls k g s0_0 t217 (t212.length : Int) t218 t219 w0 _ ?side1 ?side2 A7.out).mono ?_); (case side1 => repeat (first | (with_reducible first | exact HI0.out | apply IsS92.alloc | apply IsS92.drewN | apply IsS92.drew | apply IsS92.set_1) | exact HI0.out)); (case side2 => repeat (first | (with_reducible first | exact HB.out | apply below_alloc | apply pw_below_drewN | apply below_drew1 | refine below_set ?_ (IsS92.ge HI0.out)) | exact HB.out)); rintro e w39 ⟨rfl, hi, hb, hk⟩; refine ⟨_, rfl, ?_⟩; have n0_ := Aside0.mk (Kd.N_mono (Kd.N_keep (Kd.N_mono (ok := fun k_ => (((w.heap.size ≤ k_)) ∧ k_ ≠ g)) (by (with_reducible repeat (first | apply Kd.N_alloc | apply Kd.N_drewN | apply Kd.N_drew)); exact HO214.out) (fun k_ hk_ => (⟨hk_, hk_.2⟩ : _ ∧ k_ ≠ g))) hk (fun _ h => h.2)) (fun _ h => h.1)); have n1_ := Aside0.mk (KeepBut.trans (by repeat (first | (with_reducible first | exact HK.out | apply KeepBut.set_ | apply keep_drewN | apply keep_drew | apply keep_alloc) | exact HK.out)) hk (.inl rfl)); have n2_ := Aside0.mk (hb); have n3_ := Aside0.mk (hi); clear HO214; clear HK; clear HB; clear HI0; have HO214 := n0_; have HK := n1_; have HB := n2_; have HI0 := n3_; clear n0_ n1_ n2_ n3_; (try clear hb); (try clear hb2); (try clear hk); (try clear hi)) | ((with_reducible refine gate_callee (f := 65) rfl ?_); refine goesL_ (some 16) rfl rfl Try.func65 (by kernel_rfl) rfl #[.pointer (some ⟨g, 0, none⟩), .int .i64 6] rfl (by (try simp only [List.map_toArray, List.map_cons, List.map_nil]); first | done | rfl | (simp only [List.length_drop, List.length_take]; rfl)) ?_; (with_reducible refine (spec_l6Rd_pick.calls k g s0_0 t219 6 t220 t221 w0 _ ?side1 ?side2 A8.out).mono ?_); (case side1 => repeat (first | (with_reducible first | exact HI0.out | apply IsS92.alloc | apply IsS92.drewN | apply IsS92.drew | apply IsS92.set_1) | exact HI0.out)); (case side2 => repeat (first | (with_reducible first | exact HB.out | apply below_alloc | apply pw_below_drewN | apply below_drew1 | refine below_set ?_ (IsS92.ge HI0.out)) | exact HB.out)); rintro e w40 ⟨rfl, hi, hb, hk⟩; refine ⟨_, rfl, ?_⟩; have n0_ := Aside0.mk (Kd.N_mono (Kd.N_keep (Kd.N_mono (ok := fun k_ => (((w.heap.size ≤ k_)) ∧ k_ ≠ g)) (by (with_reducible repeat (first | apply Kd.N_alloc | apply Kd.N_drewN | apply Kd.N_drew)); exact HO214.out) (fun k_ hk_ => (⟨hk_, hk_.2⟩ : _ ∧ k_ ≠ g))) hk (fun _ h => h.2)) (fun _ h => h.1)); have n1_ := Aside0.mk (KeepBut.trans (by repeat (first | (with_reducible first | exact HK.out | apply KeepBut.set_ | apply keep_drewN | apply keep_drew | apply keep_alloc) | exact HK.out)) hk (.inl rfl)); have n2_ := Aside0.mk (hb); have n3_ := Aside0.mk (hi); clear HO214; clear HK; clear HB; clear HI0; have HO214 := n0_; have HK := n1_; have HB := n2_; have HI0 := n3_; clear n0_ n1_ n2_ n3_; (try clear hb); (try clear hb2); (try clear hk); (try clear hi)))
                have n0_ := Aside0.mk (Kd.N_drew HO214.out)
                have n1_ := Aside0.mk (IsS92.drew HI0.out)
                have n2_ := Aside0.mk (keep_drew HK.out)
                have n3_ := Aside0.mk (below_drew1 HB.out)
                clear HO214
                clear HI0
                clear HK
                clear HB
                have HO214 := n0_
                have HI0 := n1_
                have HK := n2_
                have HB := n3_
                clear n0_ n1_ n2_ n3_
                have p229 : 0 ≤ (1 : Int) := (by omega)
                have q229 : 1 < (t212.length : Int) := of_decide_eq_true (by first | (with_reducible assumption) | assumption)
                obtain ⟨ad229, A229_1, c229_1, e229, hx229_0, hx229_1, hl229_1, hi229_1⟩ := at_T38 (Kd.N_reads' HO214.out).2.2 1 p229 q229
                cases e229
                obtain ⟨ce229, hce229, hMe229, hcc229⟩ := Kd.N_get HO214.out z38 1 p229 (by first | exact q229 | exact of_decide_eq_true (by first | (with_reducible assumption) | assumption) | (have e_ := (Kd.N_reads' HO214.out).1; omega))
                obtain ⟨ua229_1, uc229_1, rfl, ul229_1, ge229_1⟩ := k38_openF hMe229
                have hv229_1 := hcc229 1 _ rfl
                rw [add_field _ _ 1 (by omega)] at hv229_1
                replace hv229_1 := Option.some.inj (hv229_1.symm.trans hx229_1)
                injection hv229_1 with hva_ hvn_ hvc_
                rw [hva_] at ge229_1
                rw [hvc_] at ul229_1
                have HL229_1 := Aside0.mk (show Kd.V (Kd.int .i64) 3 _ w.heap.size _ _ ((rd_T38 t212 1).f1) from Kd.V_mk ul229_1 ge229_1)
                clear hva_ hvn_ hvc_ ge229_1 ul229_1
                clear hcc229 hce229
                (try simp only [show (1 : Int).toNat = 1 from rfl, Nat.reduceMul, Nat.reduceEqDiff, Go.Addr.add, ↓reduceIte] at hx229_0)
                (try simp only [show (1 : Int).toNat = 1 from rfl, Nat.reduceMul, Nat.reduceEqDiff, Go.Addr.add, ↓reduceIte] at hx229_1)
                have qi229 : (1 < t212.length) = True := eq_true (by omega)
                (try rw [show ((1 : Int)).toNat = 1 from rfl] at hx229_0)
                (try rw [show 1 * 2 = 2 from rfl] at hx229_0)
                (try rw [show ((1 : Int)).toNat = 1 from rfl] at hx229_1)
                (try rw [show 1 * 2 = 2 from rfl] at hx229_1)
                have HR229_1 := Aside0.mk hi229_1
                have HC229_1 := Aside0.mk hl229_1
                clear hi229_1 hl229_1
                replace p229 := eq_true p229
                replace q229 := eq_true q229
                have p230 : 0 ≤ (1 : Int) := (by omega)
                have q230 : 1 < (t212.length : Int) := of_decide_eq_true (by first | (with_reducible assumption) | assumption)
                obtain ⟨ad230, A230_1, c230_1, e230, hx230_0, hx230_1, hl230_1, hi230_1⟩ := at_T38 (Kd.N_reads' HO214.out).2.2 1 p230 q230
                obtain rfl : ad229 = ad230 := (by injection e230)
                obtain ⟨ce230, hce230, hMe230, hcc230⟩ := Kd.N_get HO214.out z38 1 p230 (by first | exact q230 | exact of_decide_eq_true (by first | (with_reducible assumption) | assumption) | (have e_ := (Kd.N_reads' HO214.out).1; omega))
                obtain ⟨ua230_1, uc230_1, rfl, ul230_1, ge230_1⟩ := k38_openF hMe230
                have hv230_1 := hcc230 1 _ rfl
                rw [add_field _ _ 1 (by omega)] at hv230_1
                replace hv230_1 := Option.some.inj (hv230_1.symm.trans hx230_1)
                injection hv230_1 with hva_ hvn_ hvc_
                rw [hva_] at ge230_1
                rw [hvc_] at ul230_1
                have HL230_1 := Aside0.mk (show Kd.V (Kd.int .i64) 3 _ w.heap.size _ _ ((rd_T38 t212 1).f1) from Kd.V_mk ul230_1 ge230_1)
                clear hva_ hvn_ hvc_ ge230_1 ul230_1
                clear hcc230 hce230
                (try simp only [show (1 : Int).toNat = 1 from rfl, Nat.reduceMul, Nat.reduceEqDiff, Go.Addr.add, ↓reduceIte] at hx230_0)
                (try simp only [show (1 : Int).toNat = 1 from rfl, Nat.reduceMul, Nat.reduceEqDiff, Go.Addr.add, ↓reduceIte] at hx230_1)
                have qi230 : (1 < t212.length) = True := eq_true (by omega)
                (try rw [show ((1 : Int)).toNat = 1 from rfl] at hx230_0)
                (try rw [show 1 * 2 = 2 from rfl] at hx230_0)
                (try rw [show ((1 : Int)).toNat = 1 from rfl] at hx230_1)
                (try rw [show 1 * 2 = 2 from rfl] at hx230_1)
                have HR230_1 := Aside0.mk hi230_1
                have HC230_1 := Aside0.mk hl230_1
                clear hi230_1 hl230_1
                replace p230 := eq_true p230
                replace q230 := eq_true q230
                have ea_ := Option.some.inj (hx229_1.symm.trans hx230_1)
                injection ea_ with ea_ en_ ec_
                subst ea_
                subst ec_
                clear en_
                have p231 : 0 ≤ (1 : Int) := (by omega)
                have q231 : 1 < (t212.length : Int) := of_decide_eq_true (by first | (with_reducible assumption) | assumption)
                obtain ⟨ad231, A231_1, c231_1, e231, hx231_0, hx231_1, hl231_1, hi231_1⟩ := at_T38 (Kd.N_reads' HO214.out).2.2 1 p231 q231
                obtain rfl : ad229 = ad231 := (by injection e231)
                obtain ⟨ce231, hce231, hMe231, hcc231⟩ := Kd.N_get HO214.out z38 1 p231 (by first | exact q231 | exact of_decide_eq_true (by first | (with_reducible assumption) | assumption) | (have e_ := (Kd.N_reads' HO214.out).1; omega))
                obtain ⟨ua231_1, uc231_1, rfl, ul231_1, ge231_1⟩ := k38_openF hMe231
                have hv231_1 := hcc231 1 _ rfl
                rw [add_field _ _ 1 (by omega)] at hv231_1
                replace hv231_1 := Option.some.inj (hv231_1.symm.trans hx231_1)
                injection hv231_1 with hva_ hvn_ hvc_
                rw [hva_] at ge231_1
                rw [hvc_] at ul231_1
                have HL231_1 := Aside0.mk (show Kd.V (Kd.int .i64) 3 _ w.heap.size _ _ ((rd_T38 t212 1).f1) from Kd.V_mk ul231_1 ge231_1)
                clear hva_ hvn_ hvc_ ge231_1 ul231_1
                clear hcc231 hce231
                (try simp only [show (1 : Int).toNat = 1 from rfl, Nat.reduceMul, Nat.reduceEqDiff, Go.Addr.add, ↓reduceIte] at hx231_0)
                (try simp only [show (1 : Int).toNat = 1 from rfl, Nat.reduceMul, Nat.reduceEqDiff, Go.Addr.add, ↓reduceIte] at hx231_1)
                have qi231 : (1 < t212.length) = True := eq_true (by omega)
                (try rw [show ((1 : Int)).toNat = 1 from rfl] at hx231_0)
                (try rw [show 1 * 2 = 2 from rfl] at hx231_0)
                (try rw [show ((1 : Int)).toNat = 1 from rfl] at hx231_1)
                (try rw [show 1 * 2 = 2 from rfl] at hx231_1)
                have HR231_1 := Aside0.mk hi231_1
                have HC231_1 := Aside0.mk hl231_1
                clear hi231_1 hl231_1
                replace p231 := eq_true p231
                replace q231 := eq_true q231
                have ea_ := Option.some.inj (hx229_1.symm.trans hx231_1)
                injection ea_ with ea_ en_ ec_
                subst ea_
                subst ec_
                clear en_
                have p232 : 0 ≤ (1 : Int) := (by omega)
                have q232 : 1 < (t212.length : Int) := of_decide_eq_true (by first | (with_reducible assumption) | assumption)
                obtain ⟨ad232, A232_1, c232_1, e232, hx232_0, hx232_1, hl232_1, hi232_1⟩ := at_T38 (Kd.N_reads' HO214.out).2.2 1 p232 q232
                obtain rfl : ad229 = ad232 := (by injection e232)
                obtain ⟨ce232, hce232, hMe232, hcc232⟩ := Kd.N_get HO214.out z38 1 p232 (by first | exact q232 | exact of_decide_eq_true (by first | (with_reducible assumption) | assumption) | (have e_ := (Kd.N_reads' HO214.out).1; omega))
                obtain ⟨ua232_1, uc232_1, rfl, ul232_1, ge232_1⟩ := k38_openF hMe232
                have hv232_1 := hcc232 1 _ rfl
                rw [add_field _ _ 1 (by omega)] at hv232_1
                replace hv232_1 := Option.some.inj (hv232_1.symm.trans hx232_1)
                injection hv232_1 with hva_ hvn_ hvc_
                rw [hva_] at ge232_1
                rw [hvc_] at ul232_1
                have HL232_1 := Aside0.mk (show Kd.V (Kd.int .i64) 3 _ w.heap.size _ _ ((rd_T38 t212 1).f1) from Kd.V_mk ul232_1 ge232_1)
                clear hva_ hvn_ hvc_ ge232_1 ul232_1
                clear hcc232 hce232
                (try simp only [show (1 : Int).toNat = 1 from rfl, Nat.reduceMul, Nat.reduceEqDiff, Go.Addr.add, ↓reduceIte] at hx232_0)
                (try simp only [show (1 : Int).toNat = 1 from rfl, Nat.reduceMul, Nat.reduceEqDiff, Go.Addr.add, ↓reduceIte] at hx232_1)
                have qi232 : (1 < t212.length) = True := eq_true (by omega)
                (try rw [show ((1 : Int)).toNat = 1 from rfl] at hx232_0)
                (try rw [show 1 * 2 = 2 from rfl] at hx232_0)
                (try rw [show ((1 : Int)).toNat = 1 from rfl] at hx232_1)
                (try rw [show 1 * 2 = 2 from rfl] at hx232_1)
                have HR232_1 := Aside0.mk hi232_1
                have HC232_1 := Aside0.mk hl232_1
                clear hi232_1 hl232_1
                replace p232 := eq_true p232
                replace q232 := eq_true q232
                have ea_ := Option.some.inj (hx229_1.symm.trans hx232_1)
                injection ea_ with ea_ en_ ec_
                subst ea_
                subst ec_
                clear en_
                refine start_ (n := 16) (S := fun w' => w'.cell? ⟨ad229.block, ad229.off + 2, none⟩ = some (.int .i64 ((rd_T38 t212 1).f0)) ∧ w'.cell? ⟨ad229.block, ad229.off + 2 + 1, none⟩ = some (.slice A229_1 ((rd_T38 t212 1).f1).length c229_1) ∧ w'.cell? ⟨ad229.block, ad229.off + 2, none⟩ = some (.int .i64 ((rd_T38 t212 1).f0)) ∧ w'.cell? ⟨ad229.block, ad229.off + 2 + 1, none⟩ = some (.slice A229_1 ((rd_T38 t212 1).f1).length c229_1) ∧ w'.cell? ⟨ad229.block, ad229.off + 2, none⟩ = some (.int .i64 ((rd_T38 t212 1).f0)) ∧ w'.cell? ⟨ad229.block, ad229.off + 2 + 1, none⟩ = some (.slice A229_1 ((rd_T38 t212 1).f1).length c229_1) ∧ w'.cell? ⟨ad229.block, ad229.off + 2, none⟩ = some (.int .i64 ((rd_T38 t212 1).f0)) ∧ w'.cell? ⟨ad229.block, ad229.off + 2 + 1, none⟩ = some (.slice A229_1 ((rd_T38 t212 1).f1).length c229_1)) (ds := [14]) #[false, false, false, false, false, false, false, false, false, false, false, false, false, false, false, false] (by kernel_rfl) rfl rfl ⟨hx229_0, hx229_1, hx230_0, hx230_1, hx231_0, hx231_1, hx232_0, hx232_1⟩ (fun hHeld => ?_); refine with_tabW spec_l71OffB.tab14 spec_l71OffB.bits14 (fun HT_ HW_ => ?_)
                generalize w40.drew = w41 at HO214 HI0 HK HB HL229_1 HL230_1 HL231_1 HL232_1 HR229_1 HR230_1 HR231_1 HR232_1 hx229_0 hx229_1 hx230_0 hx230_1 hx231_0 hx231_1 hx232_0 hx232_1 hHeld ⊢
                refine pure_ (i := 0) (N := some 54) (v := ?_) (a' := ?_) #[true, false, false, false, false, false, false, false, false, false, false, false, false, false, false, false] rfl rfl (any_of HT_.out (by kernel_rfl)) (fun _ _ _ h => h) (Or.inl ⟨by rfl, ?_⟩) ?_ ?_
                rotate_left
                · intro w'
                  go_simp
                  with_reducible rfl
                rotate_left
                · simp only [Act.put, List.setIfInBounds_toArray, List.set_cons_zero, List.set_cons_succ, i64_w, i32_w]
                  rfl
                refine pure_ (i := 1) (N := some 55) (v := ?_) (a' := ?_) #[true, true, false, false, false, false, false, false, false, false, false, false, false, false, false, false] rfl rfl (any_of HT_.out (by kernel_rfl)) (fun _ _ _ h => h) (Or.inl ⟨by rfl, ?_⟩) ?_ ?_
                rotate_left
                · intro w'
                  go_simp
                  with_reducible rfl
                rotate_left
                · simp only [Act.put, List.setIfInBounds_toArray, List.set_cons_zero, List.set_cons_succ, i64_w, i32_w]
                  rfl
                refine pure_ (i := 2) (N := some 56) (v := ?_) (a' := ?_) #[true, true, true, false, false, false, false, false, false, false, false, false, false, false, false, false] rfl rfl (any_of HT_.out (by kernel_rfl)) (fun _ _ _ h => h) (Or.inl ⟨by rfl, ?_⟩) ?_ ?_
                rotate_left
                · intro w'
                  go_simp
                  with_reducible rfl
                rotate_left
                · simp only [Act.put, List.setIfInBounds_toArray, List.set_cons_zero, List.set_cons_succ, i64_w, i32_w]
                  rfl
                refine pure_ (i := 4) (N := some 58) (v := ?_) (a' := ?_) #[true, true, true, false, true, false, false, false, false, false, false, false, false, false, false, false] rfl rfl (any_of HT_.out (by kernel_rfl)) (fun _ _ _ h => h) (Or.inl ⟨by rfl, ?_⟩) ?_ ?_
                rotate_left
                · intro w'
                  go_simp
                  with_reducible rfl
                rotate_left
                · simp only [Act.put, List.setIfInBounds_toArray, List.set_cons_zero, List.set_cons_succ, i64_w, i32_w]
                  rfl
                refine pure_ (i := 5) (N := some 59) (v := ?_) (a' := ?_) #[true, true, true, false, true, true, false, false, false, false, false, false, false, false, false, false] rfl rfl (any_of HT_.out (by kernel_rfl)) (fun _ _ _ h => h) (Or.inl ⟨by rfl, ?_⟩) ?_ ?_
                rotate_left
                · intro w'
                  go_simp
                  with_reducible rfl
                rotate_left
                · simp only [Act.put, List.setIfInBounds_toArray, List.set_cons_zero, List.set_cons_succ, i64_w, i32_w]
                  rfl
                refine pure_ (i := 7) (N := some 61) (v := ?_) (a' := ?_) #[true, true, true, false, true, true, false, true, false, false, false, false, false, false, false, false] rfl rfl (any_of HT_.out (by kernel_rfl)) (fun _ _ _ h => h) (Or.inl ⟨by rfl, ?_⟩) ?_ ?_
                rotate_left
                · intro w'
                  go_simp
                  with_reducible rfl
                rotate_left
                · simp only [Act.put, List.setIfInBounds_toArray, List.set_cons_zero, List.set_cons_succ, i64_w, i32_w]
                  rfl
                refine pure_ (i := 8) (N := some 62) (v := ?_) (a' := ?_) #[true, true, true, false, true, true, false, true, true, false, false, false, false, false, false, false] rfl rfl (any_of HT_.out (by kernel_rfl)) (fun _ _ _ h => h) (Or.inl ⟨by rfl, ?_⟩) ?_ ?_
                rotate_left
                · intro w'
                  go_simp
                  with_reducible rfl
                rotate_left
                · simp only [Act.put, List.setIfInBounds_toArray, List.set_cons_zero, List.set_cons_succ, i64_w, i32_w]
                  rfl
                refine pure_ (i := 10) (N := some 64) (v := ?_) (a' := ?_) #[true, true, true, false, true, true, false, true, true, false, true, false, false, false, false, false] rfl rfl (any_of HT_.out (by kernel_rfl)) (fun _ _ _ h => h) (Or.inl ⟨by rfl, ?_⟩) ?_ ?_
                rotate_left
                · intro w'
                  go_simp
                  with_reducible rfl
                rotate_left
                · simp only [Act.put, List.setIfInBounds_toArray, List.set_cons_zero, List.set_cons_succ, i64_w, i32_w]
                  rfl
                refine pure_ (i := 11) (N := some 65) (v := ?_) (a' := ?_) #[true, true, true, false, true, true, false, true, true, false, true, true, false, false, false, false] rfl rfl (any_of HT_.out (by kernel_rfl)) (fun _ _ _ h => h) (Or.inl ⟨by rfl, ?_⟩) ?_ ?_
                rotate_left
                · intro w'
                  go_simp
                  with_reducible rfl
                rotate_left
                · simp only [Act.put, List.setIfInBounds_toArray, List.set_cons_zero, List.set_cons_succ, i64_w, i32_w]
                  rfl
                refine take_ (i := 3) (N := some 57) (v := ?_) (a' := ?_) #[true, true, true, true, true, true, false, true, true, false, true, true, false, false, false, false] rfl rfl (take_ofW HT_.out HW_.out (by kernel_rfl)) (fun _ _ _ h => h) (Or.inl ⟨by rfl, ?_⟩) hHeld ?_ ?_
                rotate_left
                · rintro w' ⟨s0, s1, s2, s3, s4, s5, s6, s7⟩
                  go_simp
                  with_reducible rfl
                rotate_left
                · simp only [Act.put, List.setIfInBounds_toArray, List.set_cons_zero, List.set_cons_succ, i64_w, i32_w]
                  rfl
                refine take_ (i := 6) (N := some 60) (v := ?_) (a' := ?_) #[true, true, true, true, true, true, true, true, true, false, true, true, false, false, false, false] rfl rfl (take_ofW HT_.out HW_.out (by kernel_rfl)) (fun _ _ _ h => h) (Or.inl ⟨by rfl, ?_⟩) hHeld ?_ ?_
                rotate_left
                · rintro w' ⟨s0, s1, s2, s3, s4, s5, s6, s7⟩
                  go_simp
                  with_reducible rfl
                rotate_left
                · simp only [Act.put, List.setIfInBounds_toArray, List.set_cons_zero, List.set_cons_succ, i64_w, i32_w]
                  rfl
                refine take_ (i := 9) (N := some 63) (v := ?_) (a' := ?_) #[true, true, true, true, true, true, true, true, true, true, true, true, false, false, false, false] rfl rfl (take_ofW HT_.out HW_.out (by kernel_rfl)) (fun _ _ _ h => h) (Or.inl ⟨by rfl, ?_⟩) hHeld ?_ ?_
                rotate_left
                · rintro w' ⟨s0, s1, s2, s3, s4, s5, s6, s7⟩
                  go_simp
                  with_reducible rfl
                rotate_left
                · simp only [Act.put, List.setIfInBounds_toArray, List.set_cons_zero, List.set_cons_succ, i64_w, i32_w]
                  rfl
                refine take_ (i := 12) (N := some 66) (v := ?_) (a' := ?_) #[true, true, true, true, true, true, true, true, true, true, true, true, true, false, false, false] rfl rfl (take_ofW HT_.out HW_.out (by kernel_rfl)) (fun _ _ _ h => h) (Or.inl ⟨by rfl, ?_⟩) hHeld ?_ ?_
                rotate_left
                · rintro w' ⟨s0, s1, s2, s3, s4, s5, s6, s7⟩
                  go_simp
                  with_reducible rfl
                rotate_left
                · simp only [Act.put, List.setIfInBounds_toArray, List.set_cons_zero, List.set_cons_succ, i64_w, i32_w]
                  rfl
                refine one_ (i := 13) (N := some 67) #[true, true, true, true, true, true, true, true, true, true, true, true, true, true, false, false] rfl rfl (one_of HT_.out (by kernel_rfl)) (by decide) (fun K hK => ?_)
                refine Kd.N_lit_step k38 _ 38 ?hg (N' := 67) ?hd (xs := ([(⟨(rd_T38 t212 1).f0, (rd_T38 t212 1).f1⟩ : S38), (⟨(rd_T38 t212 1).f0, (rd_T38 t212 1).f1⟩ : S38), (⟨(rd_T38 t212 1).f0, (rd_T38 t212 1).f1⟩ : S38), (⟨(rd_T38 t212 1).f0, (rd_T38 t212 1).f1⟩ : S38)] : List (S38))) (inner := [.int .i64 ((rd_T38 t212 1).f0), .slice A229_1 ((rd_T38 t212 1).f1).length c229_1, .int .i64 ((rd_T38 t212 1).f0), .slice A229_1 ((rd_T38 t212 1).f1).length c229_1, .int .i64 ((rd_T38 t212 1).f0), .slice A229_1 ((rd_T38 t212 1).f1).length c229_1, .int .i64 ((rd_T38 t212 1).f0), .slice A229_1 ((rd_T38 t212 1).f1).length c229_1]) (ok := (fun k_ => (w.heap.size ≤ k_) ∧ some k_ ≠ (.slice (some ad229) t212.length co38 : Value).ownBlock ∧ k_ ≠ g)) (okp := (fun k_ => (w.heap.size ≤ k_) ∧ some k_ ≠ (.slice (some ad229) t212.length co38 : Value).ownBlock ∧ k_ ≠ g)) ?hr ?hp (fun _ hk => hk) ((show ∀ k_, w41.heap.size ≤ k_ → (fun k_ => (w.heap.size ≤ k_) ∧ some k_ ≠ (.slice (some ad229) t212.length co38 : Value).ownBlock ∧ k_ ≠ g) k_ from fun k_ hk => ⟨(Nat.le_trans (keep_size (w := w) (g := g) (row := none) (by repeat (first | (with_reducible first | exact HK.out | apply KeepBut.set_ | apply keep_drewN | apply keep_drew | apply keep_alloc) | exact HK.out))) hk), Kd.fresh' (Kd.N_lt (by (with_reducible repeat (first | apply Kd.N_alloc | apply Kd.N_drewN | apply Kd.N_drew)); exact HO214.out)) k_ hk, IsS92.fresh (by repeat (first | (with_reducible first | exact HI0.out | apply IsS92.alloc | apply IsS92.drewN | apply IsS92.drew | apply IsS92.set_1) | exact HI0.out)) k_ hk⟩) _ (Nat.le_refl _)) (Below.refl _ _) (Nat.le_refl _) (by simp) ?_; (case hd => rfl); (case hg => rfl); (case hr => first | (go_simp; done) | (go_simp; rfl)); (case hp => exact (Reps.c2 (show Kd.FK k38 _ _ (⟨(rd_T38 t212 1).f0, (rd_T38 t212 1).f1⟩ : S38) [.int .i64 ((rd_T38 t212 1).f0), .slice A229_1 ((rd_T38 t212 1).f1).length c229_1] from (k38_mkF _ _ (⟨(rd_T38 t212 1).f0, (rd_T38 t212 1).f1⟩ : S38) (Kd.V_reads' (Kd.V_mono (ok' := (fun k_ => (w.heap.size ≤ k_) ∧ some k_ ≠ (.slice (some ad229) t212.length co38 : Value).ownBlock ∧ k_ ≠ g)) (HL229_1.out) (fun k_ hk => ⟨hk.1.1, ⟨hk.2, hk.1.2⟩⟩))).2.1 (Kd.V_F (Kd.V_mono (ok' := (fun k_ => (w.heap.size ≤ k_) ∧ some k_ ≠ (.slice (some ad229) t212.length co38 : Value).ownBlock ∧ k_ ≠ g)) (HL229_1.out) (fun k_ hk => ⟨hk.1.1, ⟨hk.2, hk.1.2⟩⟩))))) (Reps.c2 (show Kd.FK k38 _ _ (⟨(rd_T38 t212 1).f0, (rd_T38 t212 1).f1⟩ : S38) [.int .i64 ((rd_T38 t212 1).f0), .slice A229_1 ((rd_T38 t212 1).f1).length c229_1] from (k38_mkF _ _ (⟨(rd_T38 t212 1).f0, (rd_T38 t212 1).f1⟩ : S38) (Kd.V_reads' (Kd.V_mono (ok' := (fun k_ => (w.heap.size ≤ k_) ∧ some k_ ≠ (.slice (some ad229) t212.length co38 : Value).ownBlock ∧ k_ ≠ g)) (HL230_1.out) (fun k_ hk => ⟨hk.1.1, ⟨hk.2, hk.1.2⟩⟩))).2.1 (Kd.V_F (Kd.V_mono (ok' := (fun k_ => (w.heap.size ≤ k_) ∧ some k_ ≠ (.slice (some ad229) t212.length co38 : Value).ownBlock ∧ k_ ≠ g)) (HL230_1.out) (fun k_ hk => ⟨hk.1.1, ⟨hk.2, hk.1.2⟩⟩))))) (Reps.c2 (show Kd.FK k38 _ _ (⟨(rd_T38 t212 1).f0, (rd_T38 t212 1).f1⟩ : S38) [.int .i64 ((rd_T38 t212 1).f0), .slice A229_1 ((rd_T38 t212 1).f1).length c229_1] from (k38_mkF _ _ (⟨(rd_T38 t212 1).f0, (rd_T38 t212 1).f1⟩ : S38) (Kd.V_reads' (Kd.V_mono (ok' := (fun k_ => (w.heap.size ≤ k_) ∧ some k_ ≠ (.slice (some ad229) t212.length co38 : Value).ownBlock ∧ k_ ≠ g)) (HL231_1.out) (fun k_ hk => ⟨hk.1.1, ⟨hk.2, hk.1.2⟩⟩))).2.1 (Kd.V_F (Kd.V_mono (ok' := (fun k_ => (w.heap.size ≤ k_) ∧ some k_ ≠ (.slice (some ad229) t212.length co38 : Value).ownBlock ∧ k_ ≠ g)) (HL231_1.out) (fun k_ hk => ⟨hk.1.1, ⟨hk.2, hk.1.2⟩⟩))))) (Reps.c2 (show Kd.FK k38 _ _ (⟨(rd_T38 t212 1).f0, (rd_T38 t212 1).f1⟩ : S38) [.int .i64 ((rd_T38 t212 1).f0), .slice A229_1 ((rd_T38 t212 1).f1).length c229_1] from (k38_mkF _ _ (⟨(rd_T38 t212 1).f0, (rd_T38 t212 1).f1⟩ : S38) (Kd.V_reads' (Kd.V_mono (ok' := (fun k_ => (w.heap.size ≤ k_) ∧ some k_ ≠ (.slice (some ad229) t212.length co38 : Value).ownBlock ∧ k_ ≠ g)) (HL232_1.out) (fun k_ hk => ⟨hk.1.1, ⟨hk.2, hk.1.2⟩⟩))).2.1 (Kd.V_F (Kd.V_mono (ok' := (fun k_ => (w.heap.size ≤ k_) ∧ some k_ ≠ (.slice (some ad229) t212.length co38 : Value).ownBlock ∧ k_ ≠ g)) (HL232_1.out) (fun k_ hk => ⟨hk.1.1, ⟨hk.2, hk.1.2⟩⟩))))) (Reps.none _ _))))))
                intro v234 w42 ho43 hb hg_ hnew_
                have HS0_ := (hb.cell (World.block_lt_of_cell? _ _ (hHeld.1))).trans (hHeld.1)
                have HS1_ := (hb.cell (World.block_lt_of_cell? _ _ (hHeld.2.1))).trans (hHeld.2.1)
                have HS2_ := (hb.cell (World.block_lt_of_cell? _ _ (hHeld.2.2.1))).trans (hHeld.2.2.1)
                have HS3_ := (hb.cell (World.block_lt_of_cell? _ _ (hHeld.2.2.2.1))).trans (hHeld.2.2.2.1)
                have HS4_ := (hb.cell (World.block_lt_of_cell? _ _ (hHeld.2.2.2.2.1))).trans (hHeld.2.2.2.2.1)
                have HS5_ := (hb.cell (World.block_lt_of_cell? _ _ (hHeld.2.2.2.2.2.1))).trans (hHeld.2.2.2.2.2.1)
                have HS6_ := (hb.cell (World.block_lt_of_cell? _ _ (hHeld.2.2.2.2.2.2.1))).trans (hHeld.2.2.2.2.2.2.1)
                have HS7_ := (hb.cell (World.block_lt_of_cell? _ _ (hHeld.2.2.2.2.2.2.2))).trans (hHeld.2.2.2.2.2.2.2)
                clear hg_ hnew_
                (first | rw [← Ny233.out] at ho43 | (simp only [Int.reduceToNat] at ho43; rw [← Ny233.out] at ho43))
                have n0_ := Aside0.mk (Kd.N_elder' (by (with_reducible repeat (first | apply Kd.N_alloc | apply Kd.N_drewN | apply Kd.N_drew)); exact HO214.out) (Kd.N_base ho43) hb)
                have n1_ := Aside0.mk (Kd.V_elder' (by (with_reducible repeat (first | apply Kd.V_alloc | apply Kd.V_drewN | apply Kd.V_drew)); exact HL229_1.out) (Kd.N_base ho43) hb)
                have n2_ := Aside0.mk (Kd.V_elder' (by (with_reducible repeat (first | apply Kd.V_alloc | apply Kd.V_drewN | apply Kd.V_drew)); exact HL230_1.out) (Kd.N_base ho43) hb)
                have n3_ := Aside0.mk (Kd.V_elder' (by (with_reducible repeat (first | apply Kd.V_alloc | apply Kd.V_drewN | apply Kd.V_drew)); exact HL231_1.out) (Kd.N_base ho43) hb)
                have n4_ := Aside0.mk (Kd.V_elder' (by (with_reducible repeat (first | apply Kd.V_alloc | apply Kd.V_drewN | apply Kd.V_drew)); exact HL232_1.out) (Kd.N_base ho43) hb)
                have n5_ := Aside0.mk (Kd.N_lower ho43 (keep_size (w := w) (g := g) (row := none) (by repeat (first | (with_reducible first | exact HK.out | apply KeepBut.set_ | apply keep_drewN | apply keep_drew | apply keep_alloc) | exact HK.out))))
                have n6_ := Aside0.mk (IsS92.below (by repeat (first | (with_reducible first | exact HI0.out | apply IsS92.alloc | apply IsS92.drewN | apply IsS92.drew | apply IsS92.set_1) | exact HI0.out)) hb)
                have n7_ := Aside0.mk (Kd.C_below (by repeat (first | (with_reducible exact HR229_1.out) | (with_reducible refine Kd.C_alloc ?_ _) | (with_reducible refine Kd.C_drewN ?_ _) | (with_reducible refine Kd.C_drew ?_) | exact HR229_1.out)) hb)
                have n8_ := Aside0.mk (Kd.C_below (by repeat (first | (with_reducible exact HR230_1.out) | (with_reducible refine Kd.C_alloc ?_ _) | (with_reducible refine Kd.C_drewN ?_ _) | (with_reducible refine Kd.C_drew ?_) | exact HR230_1.out)) hb)
                have n9_ := Aside0.mk (Kd.C_below (by repeat (first | (with_reducible exact HR231_1.out) | (with_reducible refine Kd.C_alloc ?_ _) | (with_reducible refine Kd.C_drewN ?_ _) | (with_reducible refine Kd.C_drew ?_) | exact HR231_1.out)) hb)
                have n10_ := Aside0.mk (Kd.C_below (by repeat (first | (with_reducible exact HR232_1.out) | (with_reducible refine Kd.C_alloc ?_ _) | (with_reducible refine Kd.C_drewN ?_ _) | (with_reducible refine Kd.C_drew ?_) | exact HR232_1.out)) hb)
                have n11_ := Aside0.mk (KeepBut.trans (by repeat (first | (with_reducible first | exact HK.out | apply KeepBut.set_ | apply keep_drewN | apply keep_drew | apply keep_alloc) | exact HK.out)) (KeepBut.of_below hb g none) (.inl rfl))
                have n12_ := Aside0.mk (below_step (by repeat (first | (with_reducible first | exact HB.out | apply below_alloc | apply pw_below_drewN | apply below_drew1 | refine below_set ?_ (IsS92.ge HI0.out)) | exact HB.out)) hb)
                clear HO214
                clear HL229_1
                clear HL230_1
                clear HL231_1
                clear HL232_1
                clear HI0
                clear HR229_1
                clear HR230_1
                clear HR231_1
                clear HR232_1
                clear HK
                clear HB
                have HO214 := n0_
                have HL229_1 := n1_
                have HL230_1 := n2_
                have HL231_1 := n3_
                have HL232_1 := n4_
                have HO235 := n5_
                have HI0 := n6_
                have HR229_1 := n7_
                have HR230_1 := n8_
                have HR231_1 := n9_
                have HR232_1 := n10_
                have HK := n11_
                have HB := n12_
                clear n0_ n1_ n2_ n3_ n4_ n5_ n6_ n7_ n8_ n9_ n10_ n11_ n12_
                clear hb ho43
                obtain ⟨Ao45, co45, eo45⟩ := Kd.N_slice HO235.out
                (first | subst eo45 | (injection eo45 with f1_ f2_ f3_; have f4_ := f1_.symm; have f5_ := f3_.symm; clear f1_ f2_ f3_; subst f4_; subst f5_))
                refine hK.out _ _ ⟨HS0_, HS1_, HS2_, HS3_, HS4_, HS5_, HS6_, HS7_⟩ (fun hHeld => ?_)
                clear hK K
                refine norm_ (a' := ?_) ?_ ?_
                rotate_left
                · show Act.put _ (some 67) _ = _
                  simp only [Act.put, List.setIfInBounds_toArray, List.set_cons_zero, List.set_cons_succ, i64_w, i32_w]
                  rfl
                refine last_ (i := 14) (N := some 68) #[true, true, true, true, true, true, true, true, true, true, true, true, true, true, true, false] rfl rfl (one_of HT_.out (by kernel_rfl)) (by decide) (fun K hK => ?_)
                refine Kd.N_append_rows_step k38 w.heap.size (by rfl) (.tmp 54) (.tmp 67) 25 38 (.agg #[(.int .i64 0), (.slice none 0 0)]) 32 rfl Try.underlying25 info38 rfl (by decide) (by omega) (.slice (some ad229) t212.length co38) t212 y233 _ _ _ (fun k_ => (w.heap.size ≤ k_) ∧ k_ ≠ g) (fun k_ => ((fun k_ => (w.heap.size ≤ k_) ∧ k_ ≠ g)) k_ ∧ some k_ ≠ (.slice (some ad229) t212.length co38 : Value).ownBlock) rfl rfl ?aO ?aR (fun _ hk => hk) ?aF (Below.refl _ _) ?aS ?aL ?_
                (case aR => exact (by skip; exact Kd.N_F (Kd.N_mono (ok' := (fun k_ => ((fun k_ => (w.heap.size ≤ k_) ∧ k_ ≠ g)) k_ ∧ some k_ ≠ (.slice (some ad229) t212.length co38 : Value).ownBlock)) (HO235.out) (fun k_ hk => ⟨⟨hk.1, hk.2.2⟩, hk.2.1⟩))))
                (case aF => exact (fun k_ hk => ⟨(Nat.le_trans (keep_size (w := w) (g := g) (row := none) (by repeat (first | (with_reducible first | exact HK.out | apply KeepBut.set_ | apply keep_drewN | apply keep_drew | apply keep_alloc) | exact HK.out))) hk), IsS92.fresh (by repeat (first | (with_reducible first | exact HI0.out | apply IsS92.alloc | apply IsS92.drewN | apply IsS92.drew | apply IsS92.set_1) | exact HI0.out)) k_ hk⟩))
                (case aO => exact (by (with_reducible repeat (first | apply Kd.N_alloc | apply Kd.N_drewN | apply Kd.N_drew)); exact Kd.N_mono HO214.out (fun _ hk => ⟨hk.1.1, hk.1.2⟩)))
                (case aS => exact (keep_size (w := w) (g := g) (row := none) (by repeat (first | (with_reducible first | exact HK.out | apply KeepBut.set_ | apply keep_drewN | apply keep_drew | apply keep_alloc) | exact HK.out))))
                (case aL => have := LMc35.out; omega)
                intro v237 w44 ho hb hg hat
                rw [← Ny236.out] at ho
                have n0_ := Aside0.mk (IsS92.grown (by repeat (first | (with_reducible first | exact HI0.out | apply IsS92.alloc | apply IsS92.drewN | apply IsS92.drew | apply IsS92.set_1) | exact HI0.out)) hg (IsS92.own_neN HI0.out HO214.out (by decide)))
                have n1_ := Aside0.mk (Kd.V_afterv (ok := (fun k_ => (w.heap.size ≤ k_) ∧ some k_ ≠ (.slice Ao45 y233.length co45 : Value).ownBlock ∧ k_ ≠ g)) (by (with_reducible repeat (first | apply Kd.V_alloc | apply Kd.V_drewN | apply Kd.V_drew)); exact Kd.V_mono HL229_1.out (fun _ hk => ⟨⟨hk.1.1.1, ⟨hk.2, hk.1.1.2⟩⟩, hk.1.2⟩)) hg hat)
                have n2_ := Aside0.mk (Kd.V_afterv (ok := (fun k_ => (w.heap.size ≤ k_) ∧ some k_ ≠ (.slice Ao45 y233.length co45 : Value).ownBlock ∧ k_ ≠ g)) (by (with_reducible repeat (first | apply Kd.V_alloc | apply Kd.V_drewN | apply Kd.V_drew)); exact Kd.V_mono HL230_1.out (fun _ hk => ⟨⟨hk.1.1.1, ⟨hk.2, hk.1.1.2⟩⟩, hk.1.2⟩)) hg hat)
                have n3_ := Aside0.mk (Kd.V_afterv (ok := (fun k_ => (w.heap.size ≤ k_) ∧ some k_ ≠ (.slice Ao45 y233.length co45 : Value).ownBlock ∧ k_ ≠ g)) (by (with_reducible repeat (first | apply Kd.V_alloc | apply Kd.V_drewN | apply Kd.V_drew)); exact Kd.V_mono HL231_1.out (fun _ hk => ⟨⟨hk.1.1.1, ⟨hk.2, hk.1.1.2⟩⟩, hk.1.2⟩)) hg hat)
                have n4_ := Aside0.mk (Kd.V_afterv (ok := (fun k_ => (w.heap.size ≤ k_) ∧ some k_ ≠ (.slice Ao45 y233.length co45 : Value).ownBlock ∧ k_ ≠ g)) (by (with_reducible repeat (first | apply Kd.V_alloc | apply Kd.V_drewN | apply Kd.V_drew)); exact Kd.V_mono HL232_1.out (fun _ hk => ⟨⟨hk.1.1.1, ⟨hk.2, hk.1.1.2⟩⟩, hk.1.2⟩)) hg hat)
                have n5_ := Aside0.mk (Kd.N_afterv (ok := (fun k_ => (w.heap.size ≤ k_) ∧ k_ ≠ g)) (by (with_reducible repeat (first | apply Kd.N_alloc | apply Kd.N_drewN | apply Kd.N_drew)); exact Kd.N_mono HO235.out (fun _ hk => ⟨⟨hk.1, hk.2.2⟩, hk.2.1⟩)) hg hat)
                have n6_ := Aside0.mk (below_weaken (by repeat (first | (with_reducible first | exact HB.out | apply below_alloc | apply pw_below_drewN | apply below_drew1 | refine below_set ?_ (IsS92.ge HI0.out)) | exact HB.out)) HL.out hb)
                have n7_ := Aside0.mk (KeepBut.trans (by repeat (first | (with_reducible first | exact HK.out | apply KeepBut.set_ | apply keep_drewN | apply keep_drew | apply keep_alloc) | exact HK.out)) (KeepBut.of_grown hg g) (Kd.N_base2 HO214.out))
                have n8_ := Aside0.mk (ho)
                clear HI0
                clear HL229_1
                clear HL230_1
                clear HL231_1
                clear HL232_1
                clear HO235
                clear HB
                clear HK
                clear HO214
                have HI0 := n0_
                have HL229_1 := n1_
                have HL230_1 := n2_
                have HL231_1 := n3_
                have HL232_1 := n4_
                have HO235 := n5_
                have HB := n6_
                have HK := n7_
                have HO238 := n8_
                clear n0_ n1_ n2_ n3_ n4_ n5_ n6_ n7_ n8_
                clear ho hb hg hat
                refine hK.out _ _ ?_
                clear hK K
                refine norm_ (a' := ?_) ?_ ?_
                rotate_left
                · show Act.put _ (some 68) _ = _
                  simp only [Act.put, List.setIfInBounds_toArray, List.set_cons_zero, List.set_cons_succ, i64_w, i32_w]
                  rfl
                refine pure_ (i := 15) (N := some 2) (v := ?_) (a' := ?_) #[true, true, true, true, true, true, true, true, true, true, true, true, true, true, true, true] rfl rfl (any_of HT_.out (by kernel_rfl)) (fun _ _ _ h => h) (Or.inl ⟨by rfl, ?_⟩) ?_ ?_
                rotate_left
                · intro w'
                  go_simp
                  with_reducible rfl
                rotate_left
                · simp only [Act.put, List.setIfInBounds_toArray, List.set_cons_zero, List.set_cons_succ, i64_w, i32_w]
                  rfl
                refine done_ (done_of HT_.out (by kernel_rfl)) ?_
                try go_wp2
                go_ret
                exact ⟨_, by first | rfl | (simp [errW_none, errW_some] <;> rfl) | (simp [*, errW_none, errW_some] <;> rfl), by (with_reducible repeat (first | apply Kd.N_alloc | apply Kd.N_drewN | apply Kd.N_drew)); exact Kd.N_mono HO238.out (fun _ hk => hk.1), by repeat (first | (with_reducible first | exact HI0.out | apply IsS92.alloc | apply IsS92.drewN | apply IsS92.drew | apply IsS92.set_1) | exact HI0.out), by repeat (first | (with_reducible first | exact HB.out | apply below_alloc | apply pw_below_drewN | apply below_drew1 | refine below_set ?_ (IsS92.ge HI0.out)) | exact HB.out), by repeat (first | (with_reducible first | exact HK.out | apply KeepBut.set_ | apply keep_drewN | apply keep_drew | apply keep_alloc) | exact HK.out)⟩
              · rw [if_neg c35] at H
                exact absurd H (by simp)
            · rw [if_neg c34] at H
              exact absurd H (by simp)
          · rw [if_neg c33] at H
            have c33b0 : (t220 == 3) = false := beq_eq_false_iff_ne.mpr c33
            have c33b1 : (t220 != 3) = true := bne_iff_ne.mpr c33
            by_cases c46 : t220 = 4
            · rw [if_pos c46] at H
              exact absurd H (by simp)
            · rw [if_neg c46] at H
              have c46b0 : (t220 == 4) = false := beq_eq_false_iff_ne.mpr c46
              have c46b1 : (t220 != 4) = true := bne_iff_ne.mpr c46
              by_cases c47 : 0 ≤ t218
              · rw [if_pos c47] at H
                have c47b0 : decide (0 ≤ t218) = true := decide_eq_true c47
                clear c47
                by_cases c48 : t218 < (t212.length : Int)
                · rw [if_pos c48] at H
                  have c48b0 : decide (t218 < (t212.length : Int)) = true := decide_eq_true c48
                  clear c48
                  obtain ⟨y239, hy239⟩ : ∃ y_ : List (S38), y_ = (t212.set (t218 : Int).toNat (⟨(rd_T38 t212 t218).f0, ([] : List Int)⟩ : S38)) := ⟨_, rfl⟩
                  replace H : (some (y239, t221)) = some (r1, r2) := by first | (rw [hy239]; with_reducible exact H) | (have H2_ := (Option.bind_some _ _).symm.trans H; rw [hy239]; with_reducible exact H2_) | (have H2_ := (Option.bind_some _ _).symm.trans H; with_reducible exact H2_) | with_reducible exact H | (rw [hy239]; exact H) | exact H
                  have Ny239 := Aside0.mk hy239
                  clear hy239
                  simp only [Option.some.injEq, Prod.mk.injEq] at H
                  obtain ⟨rfl, rfl⟩ := H
                  go_enter Try.func64, Try.ntmps64
                  go_wp2_with (first | ((with_reducible refine gate_callee (f := 88) rfl ?_); refine goesL_ (some 6) rfl rfl Try.func88 (by kernel_rfl) rfl #[.pointer (some ⟨g, 0, none⟩)] rfl (by (try simp only [List.map_toArray, List.map_cons, List.map_nil]); first | done | rfl | (simp only [List.length_drop, List.length_take]; rfl)) ?_; (with_reducible refine (spec_l71Classes.calls k g s0_0 s0_1 t212 t215 w0 _ ?side1 ?side2 A2.out).mono ?_); (case side1 => repeat (first | (with_reducible first | exact HI0.out | apply IsS92.alloc | apply IsS92.drewN | apply IsS92.drew | apply IsS92.set_1) | exact HI0.out)); (case side2 => repeat (first | (with_reducible first | exact HB.out | apply below_alloc | apply pw_below_drewN | apply below_drew1 | refine below_set ?_ (IsS92.ge HI0.out)) | exact HB.out)); rintro e w50 ⟨v213, rfl, ho0, hi, hb, hk⟩; refine ⟨_, rfl, ?_⟩; have n0_ := Aside0.mk (Kd.N_lower (Kd.N_mono (ok' := fun k_ => (w.heap.size ≤ k_) ∧ k_ ≠ g) (Kd.S_N (Kd.S_bound ho0)) (fun k_ hk_ => ⟨(Nat.le_trans (keep_size (w := w) (g := g) (row := none) (by repeat (first | (with_reducible first | exact HK.out | apply KeepBut.set_ | apply keep_drewN | apply keep_drew | apply keep_alloc) | exact HK.out))) hk_.2.1), (IsS92.fresh (by repeat (first | (with_reducible first | exact HI0.out | apply IsS92.alloc | apply IsS92.drewN | apply IsS92.drew | apply IsS92.set_1) | exact HI0.out)) k_ hk_.2.1)⟩)) (keep_size (w := w) (g := g) (row := none) (by repeat (first | (with_reducible first | exact HK.out | apply KeepBut.set_ | apply keep_drewN | apply keep_drew | apply keep_alloc) | exact HK.out)))); have n1_ := Aside0.mk (KeepBut.trans (by repeat (first | (with_reducible first | exact HK.out | apply KeepBut.set_ | apply keep_drewN | apply keep_drew | apply keep_alloc) | exact HK.out)) hk (.inl rfl)); have n2_ := Aside0.mk (hb); have n3_ := Aside0.mk (hi); clear HK; clear HB; clear HI0; have HO214 := n0_; have HK := n1_; have HB := n2_; have HI0 := n3_; clear n0_ n1_ n2_ n3_; (try clear hb); (try clear hb2); (try clear hk); (try clear hi); (try clear ho0)) | ((with_reducible refine gate_callee (f := 65) rfl ?_); refine goesL_ (some 8) rfl rfl Try.func65 (by kernel_rfl) rfl #[.pointer (some ⟨g, 0, none⟩), .int .i64 20] rfl (by (try simp only [List.map_toArray, List.map_cons, List.map_nil]); first | done | rfl | (simp only [List.length_drop, List.length_take]; rfl)) ?_; (with_reducible refine (spec_l6Rd_pick.calls k g s0_0 t215 20 t216 t217 w0 _ ?side1 ?side2 A3.out).mono ?_); (case side1 => repeat (first | (with_reducible first | exact HI0.out | apply IsS92.alloc | apply IsS92.drewN | apply IsS92.drew | apply IsS92.set_1) | exact HI0.out)); (case side2 => repeat (first | (with_reducible first | exact HB.out | apply below_alloc | apply pw_below_drewN | apply below_drew1 | refine below_set ?_ (IsS92.ge HI0.out)) | exact HB.out)); rintro e w51 ⟨rfl, hi, hb, hk⟩; refine ⟨_, rfl, ?_⟩; have n0_ := Aside0.mk (Kd.N_mono (Kd.N_keep (Kd.N_mono (ok := fun k_ => (((w.heap.size ≤ k_)) ∧ k_ ≠ g)) (by (with_reducible repeat (first | apply Kd.N_alloc | apply Kd.N_drewN | apply Kd.N_drew)); exact HO214.out) (fun k_ hk_ => (⟨hk_, hk_.2⟩ : _ ∧ k_ ≠ g))) hk (fun _ h => h.2)) (fun _ h => h.1)); have n1_ := Aside0.mk (KeepBut.trans (by repeat (first | (with_reducible first | exact HK.out | apply KeepBut.set_ | apply keep_drewN | apply keep_drew | apply keep_alloc) | exact HK.out)) hk (.inl rfl)); have n2_ := Aside0.mk (hb); have n3_ := Aside0.mk (hi); clear HO214; clear HK; clear HB; clear HI0; have HO214 := n0_; have HK := n1_; have HB := n2_; have HI0 := n3_; clear n0_ n1_ n2_ n3_; (try clear hb); (try clear hb2); (try clear hk); (try clear hi); obtain ⟨Ao52, co52, eo52⟩ := Kd.N_slice HO214.out; subst eo52) | ((with_reducible refine gate_callee (f := 65) rfl ?_); refine goesL_ (some 14) rfl rfl Try.func65 (by kernel_rfl) rfl #[.pointer (some ⟨g, 0, none⟩), .int .i64 (t212.length : Int)] rfl (by (try simp only [List.map_toArray, List.map_cons, List.map_nil]); first | done | rfl | (simp only [List.length_drop, List.length_take]; rfl)) ?_; (with_reducible refine (spec_l6Rd_pick.calls k g s0_0 t217 (t212.length : Int) t218 t219 w0 _ ?side1 ?side2 A7.out).mono ?_); (case side1 => repeat (first | (with_reducible first | exact HI0.out | apply IsS92.alloc | apply IsS92.drewN | apply IsS92.drew | apply IsS92.set_1) | exact HI0.out)); (case side2 => repeat (first | (with_reducible first | exact HB.out | apply below_alloc | apply pw_below_drewN | apply below_drew1 | refine below_set ?_ (IsS92.ge HI0.out)) | exact HB.out)); rintro e w53 ⟨rfl, hi, hb, hk⟩; refine ⟨_, rfl, ?_⟩; have n0_ := Aside0.mk (Kd.N_mono (Kd.N_keep (Kd.N_mono (ok := fun k_ => (((w.heap.size ≤ k_)) ∧ k_ ≠ g)) (by (with_reducible repeat (first | apply Kd.N_alloc | apply Kd.N_drewN | apply Kd.N_drew)); exact HO214.out) (fun k_ hk_ => (⟨hk_, hk_.2⟩ : _ ∧ k_ ≠ g))) hk (fun _ h => h.2)) (fun _ h => h.1)); have n1_ := Aside0.mk (KeepBut.trans (by repeat (first | (with_reducible first | exact HK.out | apply KeepBut.set_ | apply keep_drewN | apply keep_drew | apply keep_alloc) | exact HK.out)) hk (.inl rfl)); have n2_ := Aside0.mk (hb); have n3_ := Aside0.mk (hi); clear HO214; clear HK; clear HB; clear HI0; have HO214 := n0_; have HK := n1_; have HB := n2_; have HI0 := n3_; clear n0_ n1_ n2_ n3_; (try clear hb); (try clear hb2); (try clear hk); (try clear hi)) | ((with_reducible refine gate_callee (f := 65) rfl ?_); refine goesL_ (some 16) rfl rfl Try.func65 (by kernel_rfl) rfl #[.pointer (some ⟨g, 0, none⟩), .int .i64 6] rfl (by (try simp only [List.map_toArray, List.map_cons, List.map_nil]); first | done | rfl | (simp only [List.length_drop, List.length_take]; rfl)) ?_; (with_reducible refine (spec_l6Rd_pick.calls k g s0_0 t219 6 t220 t221 w0 _ ?side1 ?side2 A8.out).mono ?_); (case side1 => repeat (first | (with_reducible first | exact HI0.out | apply IsS92.alloc | apply IsS92.drewN | apply IsS92.drew | apply IsS92.set_1) | exact HI0.out)); (case side2 => repeat (first | (with_reducible first | exact HB.out | apply below_alloc | apply pw_below_drewN | apply below_drew1 | refine below_set ?_ (IsS92.ge HI0.out)) | exact HB.out)); rintro e w54 ⟨rfl, hi, hb, hk⟩; refine ⟨_, rfl, ?_⟩; have n0_ := Aside0.mk (Kd.N_mono (Kd.N_keep (Kd.N_mono (ok := fun k_ => (((w.heap.size ≤ k_)) ∧ k_ ≠ g)) (by (with_reducible repeat (first | apply Kd.N_alloc | apply Kd.N_drewN | apply Kd.N_drew)); exact HO214.out) (fun k_ hk_ => (⟨hk_, hk_.2⟩ : _ ∧ k_ ≠ g))) hk (fun _ h => h.2)) (fun _ h => h.1)); have n1_ := Aside0.mk (KeepBut.trans (by repeat (first | (with_reducible first | exact HK.out | apply KeepBut.set_ | apply keep_drewN | apply keep_drew | apply keep_alloc) | exact HK.out)) hk (.inl rfl)); have n2_ := Aside0.mk (hb); have n3_ := Aside0.mk (hi); clear HO214; clear HK; clear HB; clear HI0; have HO214 := n0_; have HK := n1_; have HB := n2_; have HI0 := n3_; clear n0_ n1_ n2_ n3_; (try clear hb); (try clear hb2); (try clear hk); (try clear hi); have p49 : 0 ≤ (t218 : Int) := of_decide_eq_true (by first | (with_reducible assumption) | assumption); have q49 : (t218 : Int) < ((t212.length : Int) : Int) := of_decide_eq_true (by first | (with_reducible assumption) | assumption); obtain ⟨go49, co49, eo49, gb49, gl49, cl49, HG49⟩ := Kd.N_form HO214.out (by omega); (first | cases eo49 | (injection eo49 with ea_ en_ ec_; (first | subst ea_ | (injection ea_ with ea_; subst ea_)); subst ec_; clear en_)); have GB49 := Aside0.mk gb49; have GG49 := Aside0.mk HG49; clear gb49 gl49 HG49; obtain ⟨ce49, hcl49, hM49, hcc49, hfr49⟩ := Kd.N_elem HO214.out z38 (t218 : Int) p49 q49; obtain ⟨ua49_1, uc49_1, rfl, ul49_1, ge49_1⟩ := k38_openF hM49; have hx49_0 : w54.cell? ⟨go49, (t218 : Int).toNat * 2, none⟩ = some (.int .i64 ((rd_T38 t212 t218).f0)) := hcc49 0 _ rfl; have hx49_1 : w54.cell? ⟨go49, (t218 : Int).toNat * 2 + 1, none⟩ = some (.slice ua49_1 ((rd_T38 t212 t218).f1).length uc49_1) := hcc49 1 _ rfl; have hf49_0 : w54.frozen? ⟨go49, (t218 : Int).toNat * 2, none⟩ = false := hfr49 0; have hf49_1 : w54.frozen? ⟨go49, (t218 : Int).toNat * 2 + 1, none⟩ = false := hfr49 1; clear hcl49 hcc49 hfr49 hM49; replace p49 := eq_true p49; replace q49 := eq_true q49; have HX55 := Aside0.mk (show Kd.N k38 38 w54 w.heap.size (fun k_ => (w.heap.size ≤ k_) ∧ k_ ≠ g) (.slice (some ⟨go49, 0, none⟩) t212.length co52) t212 from (by (with_reducible repeat (first | apply Kd.N_alloc | apply Kd.N_drewN | apply Kd.N_drew)); exact HO214.out)); obtain ⟨ce55, hcl55, hM55, hcc55, hfr55⟩ := Kd.N_elem HX55.out z38 (t218 : Int) (of_decide_eq_true (by first | (with_reducible assumption) | assumption)) (by have h_ : (t218 : Int) < ((t212.length : Int) : Int) := of_decide_eq_true (by first | (with_reducible assumption) | assumption); first | exact h_ | (have e_ := (Kd.N_reads' HO214.out).1; omega) | simpa using h_); obtain ⟨ua55_1, uc55_1, rfl, ul55_1, ge55_1⟩ := k38_openF hM55; have HP55 := Kd.N_seg HX55.out (t218 : Int) (of_decide_eq_true (by first | (with_reducible assumption) | assumption)) (by have h_ : (t218 : Int) < ((t212.length : Int) : Int) := of_decide_eq_true (by first | (with_reducible assumption) | assumption); first | exact h_ | (have e_ := (Kd.N_reads' HO214.out).1; omega) | simpa using h_) (seg := [.slice none 0 0]) (j := 1) hcl55 hcc55 (show 2 ≤ 2 from by decide) (x' := (⟨(rd_T38 t212 t218).f0, ([] : List Int)⟩ : S38)) (k38_mkF _ _ (⟨(rd_T38 t212 t218).f0, ([] : List Int)⟩ : S38) (Nat.le_refl _) (Kd.F_nil _ _ _)) (fun _ hk => hk); have hx55_1 := hcc55 1 _ rfl; (try simp only [show (k38).sz = 2 from rfl, Nat.mul_one, Nat.add_zero] at hx55_1); have hf55_1 := hfr55 1; (try simp only [show (k38).sz = 2 from rfl, Nat.mul_one, Nat.add_zero] at hf55_1); clear hcl55 hcc55 hfr55 hM55) | ((with_reducible refine gate_store (t := 36) (p := 20) rfl ?_); refine store_event (t := 36) (p := 20) (v := ?vo_w56) (w1 := (w54.setCell ⟨go49, (t218 : Int).toNat * 2 + 1, none⟩ (.slice none 0 0))) ?hg ?ho ?hn ?hr ?_; (case ho => rfl); (case hg => rfl); (case hn => rfl); (case hr => first | (go_simp; done) | (go_simp; rfl)); intro w56 hw; have hg : w54.grownBy w56 (some go49) := (by rw [hw]; exact HP55.2); have hp_ : Kd.N k38 38 w56 w.heap.size (fun k_ => (w.heap.size ≤ k_) ∧ k_ ≠ g) (.slice (some ⟨go49, 0, none⟩) t212.length co52) y239 := (by rw [hw, Ny239.out]; exact HP55.1); clear HP55; have n0_ := Aside0.mk (IsS92.grown (by repeat (first | (with_reducible first | exact HI0.out | apply IsS92.alloc | apply IsS92.drewN | apply IsS92.drew | apply IsS92.set_1) | exact HI0.out)) hg (IsS92.own_neN HI0.out HO214.out (by decide))); have n1_ := Aside0.mk (hp_); have n2_ := Aside0.mk ((by rw [hw]; exact below_set (HB.out) (Nat.le_trans HL.out GB49.out) : Below w0.heap.size w0 w56)); have n3_ := Aside0.mk (KeepBut.trans (by repeat (first | (with_reducible first | exact HK.out | apply KeepBut.set_ | apply keep_drewN | apply keep_drew | apply keep_alloc) | exact HK.out)) (KeepBut.of_grown hg g) (Kd.N_base2 HO214.out)); clear HI0; clear HO214; clear HB; clear HK; have HI0 := n0_; have HO214 := n1_; have HB := n2_; have HK := n3_; clear n0_ n1_ n2_ n3_; clear hg hw hp_))
                  go_ret
                  exact ⟨_, by first | rfl | (simp [errW_none, errW_some] <;> rfl) | (simp [*, errW_none, errW_some] <;> rfl), by (with_reducible repeat (first | apply Kd.N_alloc | apply Kd.N_drewN | apply Kd.N_drew)); exact Kd.N_mono HO214.out (fun _ hk => hk.1), by repeat (first | (with_reducible first | exact HI0.out | apply IsS92.alloc | apply IsS92.drewN | apply IsS92.drew | apply IsS92.set_1) | exact HI0.out), by repeat (first | (with_reducible first | exact HB.out | apply below_alloc | apply pw_below_drewN | apply below_drew1 | refine below_set ?_ (IsS92.ge HI0.out)) | exact HB.out), by repeat (first | (with_reducible first | exact HK.out | apply KeepBut.set_ | apply keep_drewN | apply keep_drew | apply keep_alloc) | exact HK.out)⟩
                · rw [if_neg c48] at H
                  exact absurd H (by simp)
              · rw [if_neg c47] at H
                exact absurd H (by simp)

end Go.Proofs.Ytgmjolngnhdafaa.P

end
section
-- By off.py, a program of this session: the contract of spec.l71Off, out of its two printed ways. Lean checks it.
namespace Go.Proofs.Ytgmjolngnhdafaa.P
open Go.RowKit Go.Proofs.YtgmjolngnhdafaaW.PrintWords Go.Proofs.YtgmjolngnhdafaaW.PrintLast Go.Proofs.YtgmjolngnhdafaaW.PrintMore
theorem spec_l71Off.calls (k : Nat) (g : Nat) (s0_0 : List Int) (s0_1 : Int) (r1 : List (S38)) (r2 : Int) (w0 w : World) (hI : IsS92 w0 w g s0_0 s0_1) (hB : Below w0.heap.size w0 w) (h : spec_l71Off.f k s0_0 s0_1 = some (r1, r2)) :
    Calls Try.prog 64 #[.pointer (some ⟨g, 0, none⟩)] w fun e w' => ∃ v0_ : Value, e = .returned (v0_) ∧ Kd.N k38 38 w' w.heap.size (fun k_ => (w.heap.size ≤ k_)) v0_ r1 ∧ IsS92 w0 w' g s0_0 r2 ∧ Below w0.heap.size w0 w' ∧ KeepBut w w' g none := by
  rcases spec_l71Off.or k s0_0 s0_1 (r1, r2) h with h | h
  · refine (spec_l71OffA.calls k g s0_0 s0_1 r1 r2 w0 w hI hB h).mono ?_
    rintro e w' ⟨v0_, he, hS, hI', hB', hK⟩
    exact ⟨v0_, he, Kd.R_N (Kd.R_mono (Kd.R_bound (Kd.S_R hS)) (fun k_ hk => hk.2.1)), hI', hB', hK⟩
  · exact spec_l71OffB.calls k g s0_0 s0_1 r1 r2 w0 w hI hB h
end Go.Proofs.Ytgmjolngnhdafaa.P

end
section
namespace Go.Proofs.Ytgmjolngnhdafaa.P
open Go.RowKit Go.Proofs.YtgmjolngnhdafaaW.PrintWords Go.Proofs.YtgmjolngnhdafaaW.PrintLast Go.Proofs.YtgmjolngnhdafaaW.PrintMore
attribute [local go_sem] max2_int min2_int max_two min_two max_three min_three max_four min_four
set_option linter.unusedVariables false
set_option linter.unusedSimpArgs false

set_option maxHeartbeats 8000000 in
set_option maxRecDepth 100000 in
theorem spec_DrawClassUp.calls (k : Nat) (A0 : Option Addr) (c0 : Nat) (l0 : List Int) (r1 : List (S38)) (r2 : Int) (r3 : Int) (w : World) (hr0 : Kd.C (Kd.int .u8) w A0 l0.length l0) (hc0 : l0.length ≤ c0) (h : spec_DrawClassUp.f k l0 = some (r1, r2, r3)) :
    Calls Try.prog 27 #[.slice A0 l0.length c0] w fun e w' => ∃ v0_ : Value, e = .returned (.tuple #[v0_, .int .i64 r2, .int .i64 r3]) ∧ Kd.N k38 38 w' w.heap.size (fun k_ => (w.heap.size ≤ k_)) v0_ r1 ∧ Below w.heap.size w w' := by
  have HR0 := Aside0.mk hr0
  have HC0 := Aside0.mk hc0
  clear hr0 hc0
  have HB := Aside0.mk (Below.refl w.heap.size w)
  have H : ((spec_l6Open.f l0).bind fun bt212 => ((spec_l71Off.f k bt212.1 bt212.2).bind fun bt215 => ((spec_l6Rd_pick.f k bt212.1 bt215.2 (bt215.1.length : Int)).bind fun bt219 => ((spec_l6Rd_pick.f k bt212.1 bt219.2 24).bind fun bt221 => ((spec_l6Rd_pick.f k bt212.1 bt221.2 (bt215.1.length : Int)).bind fun bt223 => ((spec_l6Rd_pick.f k bt212.1 bt223.2 24).bind fun bt225 => (some (bt215.1, wrap64 (bt219.1 - (wrap64 (Int.tdiv bt221.1 23))), wrap64 (bt223.1 + (wrap64 (Int.tdiv bt225.1 23))))))))))) = some (r1, r2, r3) := h
  clear h
  replace H := Option.bind_eq_some_iff.mp H
  obtain ⟨⟨t212, t213⟩, A20, H⟩ := H
  replace H : ((spec_l71Off.f k t212 t213).bind fun bt215 => ((spec_l6Rd_pick.f k t212 bt215.2 (bt215.1.length : Int)).bind fun bt219 => ((spec_l6Rd_pick.f k t212 bt219.2 24).bind fun bt221 => ((spec_l6Rd_pick.f k t212 bt221.2 (bt215.1.length : Int)).bind fun bt223 => ((spec_l6Rd_pick.f k t212 bt223.2 24).bind fun bt225 => (some (bt215.1, wrap64 (bt219.1 - (wrap64 (Int.tdiv bt221.1 23))), wrap64 (bt223.1 + (wrap64 (Int.tdiv bt225.1 23)))))))))) = some (r1, r2, r3) := H
  have A2 := Aside0.mk A20
  clear A20
  replace H := Option.bind_eq_some_iff.mp H
  obtain ⟨⟨t215, t218⟩, A30, H⟩ := H
  replace H : ((spec_l6Rd_pick.f k t212 t218 (t215.length : Int)).bind fun bt219 => ((spec_l6Rd_pick.f k t212 bt219.2 24).bind fun bt221 => ((spec_l6Rd_pick.f k t212 bt221.2 (t215.length : Int)).bind fun bt223 => ((spec_l6Rd_pick.f k t212 bt223.2 24).bind fun bt225 => (some (t215, wrap64 (bt219.1 - (wrap64 (Int.tdiv bt221.1 23))), wrap64 (bt223.1 + (wrap64 (Int.tdiv bt225.1 23))))))))) = some (r1, r2, r3) := H
  have A3 := Aside0.mk A30
  clear A30
  replace H := Option.bind_eq_some_iff.mp H
  obtain ⟨⟨t219, t220⟩, A40, H⟩ := H
  replace H : ((spec_l6Rd_pick.f k t212 t220 24).bind fun bt221 => ((spec_l6Rd_pick.f k t212 bt221.2 (t215.length : Int)).bind fun bt223 => ((spec_l6Rd_pick.f k t212 bt223.2 24).bind fun bt225 => (some (t215, wrap64 (t219 - (wrap64 (Int.tdiv bt221.1 23))), wrap64 (bt223.1 + (wrap64 (Int.tdiv bt225.1 23)))))))) = some (r1, r2, r3) := H
  have A4 := Aside0.mk A40
  clear A40
  replace H := Option.bind_eq_some_iff.mp H
  obtain ⟨⟨t221, t222⟩, A50, H⟩ := H
  replace H : ((spec_l6Rd_pick.f k t212 t222 (t215.length : Int)).bind fun bt223 => ((spec_l6Rd_pick.f k t212 bt223.2 24).bind fun bt225 => (some (t215, wrap64 (t219 - (wrap64 (Int.tdiv t221 23))), wrap64 (bt223.1 + (wrap64 (Int.tdiv bt225.1 23))))))) = some (r1, r2, r3) := H
  have A5 := Aside0.mk A50
  clear A50
  replace H := Option.bind_eq_some_iff.mp H
  obtain ⟨⟨t223, t224⟩, A60, H⟩ := H
  replace H : ((spec_l6Rd_pick.f k t212 t224 24).bind fun bt225 => (some (t215, wrap64 (t219 - (wrap64 (Int.tdiv t221 23))), wrap64 (t223 + (wrap64 (Int.tdiv bt225.1 23)))))) = some (r1, r2, r3) := H
  have A6 := Aside0.mk A60
  clear A60
  replace H := Option.bind_eq_some_iff.mp H
  obtain ⟨⟨t225, t226⟩, A70, H⟩ := H
  replace H : (some (t215, wrap64 (t219 - (wrap64 (Int.tdiv t221 23))), wrap64 (t223 + (wrap64 (Int.tdiv t225 23))))) = some (r1, r2, r3) := H
  have A7 := Aside0.mk A70
  clear A70
  simp only [Option.some.injEq, Prod.mk.injEq] at H
  obtain ⟨rfl, rfl, rfl⟩ := H
  go_enter Try.func27, Try.ntmps27
  go_wp2_with (first | ((with_reducible refine gate_callee (f := 63) rfl ?_); refine goesL_ (some 8) rfl rfl Try.func63 (by kernel_rfl) rfl #[.slice A0 l0.length c0] rfl (by (try simp only [List.map_toArray, List.map_cons, List.map_nil]); first | done | rfl | (simp only [List.length_drop, List.length_take]; rfl)) ?_; (with_reducible refine (spec_l6Open.calls _ _ l0 t212 t213 w _ ?side1 ?side2 ?side3 A2.out).mono ?_); (case side1 => repeat (first | (with_reducible first | exact HB.out | apply below_alloc | apply pw_below_drewN | apply below_drew1) | exact HB.out)); (case side2 => exact HR0.out); (case side3 => exact HC0.out); rintro e w8 ⟨g214, rfl, hi, hb, hb2⟩; refine ⟨_, rfl, ?_⟩; have n0_ := Aside0.mk (hb); have n1_ := Aside0.mk (hi); clear HB; have HB := n0_; have HI214 := n1_; clear n0_ n1_; (try clear hb); (try clear hb2); (try clear hk); (try clear hi)) | ((with_reducible refine gate_callee (f := 64) rfl ?_); refine goesL_ (some 10) rfl rfl Try.func64 (by kernel_rfl) rfl #[.pointer (some ⟨g214, 0, none⟩)] rfl (by (try simp only [List.map_toArray, List.map_cons, List.map_nil]); first | done | rfl | (simp only [List.length_drop, List.length_take]; rfl)) ?_; (with_reducible refine (spec_l71Off.calls k g214 t212 t213 t215 t218 w _ ?side1 ?side2 A3.out).mono ?_); (case side1 => repeat (first | (with_reducible first | exact HI214.out | apply IsS92.alloc | apply IsS92.drewN | apply IsS92.drew | apply IsS92.set_1) | exact HI214.out)); (case side2 => repeat (first | (with_reducible first | exact HB.out | apply below_alloc | apply pw_below_drewN | apply below_drew1 | refine below_set ?_ (IsS92.ge HI214.out)) | exact HB.out)); rintro e w9 ⟨v216, rfl, ho0, hi, hb, hk⟩; refine ⟨_, rfl, ?_⟩; have n0_ := Aside0.mk (Kd.N_lower (Kd.N_mono (ok' := fun k_ => (w.heap.size ≤ k_) ∧ k_ ≠ g214) ho0 (fun k_ hk_ => ⟨(Nat.le_trans (below_size (by repeat (first | (with_reducible first | exact HB.out | apply below_alloc | apply pw_below_drewN | apply below_drew1 | refine below_set ?_ (IsS92.ge HI214.out)) | exact HB.out))) hk_), (IsS92.fresh (by repeat (first | (with_reducible first | exact HI214.out | apply IsS92.alloc | apply IsS92.drewN | apply IsS92.drew | apply IsS92.set_1) | exact HI214.out)) k_ hk_)⟩)) (below_size (by repeat (first | (with_reducible first | exact HB.out | apply below_alloc | apply pw_below_drewN | apply below_drew1 | refine below_set ?_ (IsS92.ge HI214.out)) | exact HB.out)))); have n1_ := Aside0.mk (hb); have n2_ := Aside0.mk (hi); clear HB; clear HI214; have HO217 := n0_; have HB := n1_; have HI214 := n2_; clear n0_ n1_ n2_; (try clear hb); (try clear hb2); (try clear hk); (try clear hi); (try clear ho0); obtain ⟨Ao10, co10, eo10⟩ := Kd.N_slice HO217.out; subst eo10) | ((with_reducible refine gate_callee (f := 65) rfl ?_); refine goesL_ (some 15) rfl rfl Try.func65 (by kernel_rfl) rfl #[.pointer (some ⟨g214, 0, none⟩), .int .i64 (t215.length : Int)] rfl (by (try simp only [List.map_toArray, List.map_cons, List.map_nil]); first | done | rfl | (simp only [List.length_drop, List.length_take]; rfl)) ?_; (with_reducible refine (spec_l6Rd_pick.calls k g214 t212 t218 (t215.length : Int) t219 t220 w _ ?side1 ?side2 A4.out).mono ?_); (case side1 => repeat (first | (with_reducible first | exact HI214.out | apply IsS92.alloc | apply IsS92.drewN | apply IsS92.drew | apply IsS92.set_1) | exact HI214.out)); (case side2 => repeat (first | (with_reducible first | exact HB.out | apply below_alloc | apply pw_below_drewN | apply below_drew1 | refine below_set ?_ (IsS92.ge HI214.out)) | exact HB.out)); rintro e w11 ⟨rfl, hi, hb, hk⟩; refine ⟨_, rfl, ?_⟩; have n0_ := Aside0.mk (Kd.N_mono (Kd.N_keep (Kd.N_mono (ok := fun k_ => (((w.heap.size ≤ k_)) ∧ k_ ≠ g214)) (by (with_reducible repeat (first | apply Kd.N_alloc | apply Kd.N_drewN | apply Kd.N_drew)); exact HO217.out) (fun k_ hk_ => (⟨hk_, hk_.2⟩ : _ ∧ k_ ≠ g214))) hk (fun _ h => h.2)) (fun _ h => h.1)); have n1_ := Aside0.mk (hb); have n2_ := Aside0.mk (hi); clear HO217; clear HB; clear HI214; have HO217 := n0_; have HB := n1_; have HI214 := n2_; clear n0_ n1_ n2_; (try clear hb); (try clear hb2); (try clear hk); (try clear hi)) | ((with_reducible refine gate_callee (f := 65) rfl ?_); refine goesL_ (some 17) rfl rfl Try.func65 (by kernel_rfl) rfl #[.pointer (some ⟨g214, 0, none⟩), .int .i64 24] rfl (by (try simp only [List.map_toArray, List.map_cons, List.map_nil]); first | done | rfl | (simp only [List.length_drop, List.length_take]; rfl)) ?_; (with_reducible refine (spec_l6Rd_pick.calls k g214 t212 t220 24 t221 t222 w _ ?side1 ?side2 A5.out).mono ?_); (case side1 => repeat (first | (with_reducible first | exact HI214.out | apply IsS92.alloc | apply IsS92.drewN | apply IsS92.drew | apply IsS92.set_1) | exact HI214.out)); (case side2 => repeat (first | (with_reducible first | exact HB.out | apply below_alloc | apply pw_below_drewN | apply below_drew1 | refine below_set ?_ (IsS92.ge HI214.out)) | exact HB.out)); rintro e w12 ⟨rfl, hi, hb, hk⟩; refine ⟨_, rfl, ?_⟩; have n0_ := Aside0.mk (Kd.N_mono (Kd.N_keep (Kd.N_mono (ok := fun k_ => (((w.heap.size ≤ k_)) ∧ k_ ≠ g214)) (by (with_reducible repeat (first | apply Kd.N_alloc | apply Kd.N_drewN | apply Kd.N_drew)); exact HO217.out) (fun k_ hk_ => (⟨hk_, hk_.2⟩ : _ ∧ k_ ≠ g214))) hk (fun _ h => h.2)) (fun _ h => h.1)); have n1_ := Aside0.mk (hb); have n2_ := Aside0.mk (hi); clear HO217; clear HB; clear HI214; have HO217 := n0_; have HB := n1_; have HI214 := n2_; clear n0_ n1_ n2_; (try clear hb); (try clear hb2); (try clear hk); (try clear hi)) | ((with_reducible refine gate_callee (f := 65) rfl ?_); refine goesL_ (some 23) rfl rfl Try.func65 (by kernel_rfl) rfl #[.pointer (some ⟨g214, 0, none⟩), .int .i64 (t215.length : Int)] rfl (by (try simp only [List.map_toArray, List.map_cons, List.map_nil]); first | done | rfl | (simp only [List.length_drop, List.length_take]; rfl)) ?_; (with_reducible refine (spec_l6Rd_pick.calls k g214 t212 t222 (t215.length : Int) t223 t224 w _ ?side1 ?side2 A6.out).mono ?_); (case side1 => repeat (first | (with_reducible first | exact HI214.out | apply IsS92.alloc | apply IsS92.drewN | apply IsS92.drew | apply IsS92.set_1) | exact HI214.out)); (case side2 => repeat (first | (with_reducible first | exact HB.out | apply below_alloc | apply pw_below_drewN | apply below_drew1 | refine below_set ?_ (IsS92.ge HI214.out)) | exact HB.out)); rintro e w13 ⟨rfl, hi, hb, hk⟩; refine ⟨_, rfl, ?_⟩; have n0_ := Aside0.mk (Kd.N_mono (Kd.N_keep (Kd.N_mono (ok := fun k_ => (((w.heap.size ≤ k_)) ∧ k_ ≠ g214)) (by (with_reducible repeat (first | apply Kd.N_alloc | apply Kd.N_drewN | apply Kd.N_drew)); exact HO217.out) (fun k_ hk_ => (⟨hk_, hk_.2⟩ : _ ∧ k_ ≠ g214))) hk (fun _ h => h.2)) (fun _ h => h.1)); have n1_ := Aside0.mk (hb); have n2_ := Aside0.mk (hi); clear HO217; clear HB; clear HI214; have HO217 := n0_; have HB := n1_; have HI214 := n2_; clear n0_ n1_ n2_; (try clear hb); (try clear hb2); (try clear hk); (try clear hi)) | ((with_reducible refine gate_callee (f := 65) rfl ?_); refine goesL_ (some 25) rfl rfl Try.func65 (by kernel_rfl) rfl #[.pointer (some ⟨g214, 0, none⟩), .int .i64 24] rfl (by (try simp only [List.map_toArray, List.map_cons, List.map_nil]); first | done | rfl | (simp only [List.length_drop, List.length_take]; rfl)) ?_; (with_reducible refine (spec_l6Rd_pick.calls k g214 t212 t224 24 t225 t226 w _ ?side1 ?side2 A7.out).mono ?_); (case side1 => repeat (first | (with_reducible first | exact HI214.out | apply IsS92.alloc | apply IsS92.drewN | apply IsS92.drew | apply IsS92.set_1) | exact HI214.out)); (case side2 => repeat (first | (with_reducible first | exact HB.out | apply below_alloc | apply pw_below_drewN | apply below_drew1 | refine below_set ?_ (IsS92.ge HI214.out)) | exact HB.out)); rintro e w14 ⟨rfl, hi, hb, hk⟩; refine ⟨_, rfl, ?_⟩; have n0_ := Aside0.mk (Kd.N_mono (Kd.N_keep (Kd.N_mono (ok := fun k_ => (((w.heap.size ≤ k_)) ∧ k_ ≠ g214)) (by (with_reducible repeat (first | apply Kd.N_alloc | apply Kd.N_drewN | apply Kd.N_drew)); exact HO217.out) (fun k_ hk_ => (⟨hk_, hk_.2⟩ : _ ∧ k_ ≠ g214))) hk (fun _ h => h.2)) (fun _ h => h.1)); have n1_ := Aside0.mk (hb); have n2_ := Aside0.mk (hi); clear HO217; clear HB; clear HI214; have HO217 := n0_; have HB := n1_; have HI214 := n2_; clear n0_ n1_ n2_; (try clear hb); (try clear hb2); (try clear hk); (try clear hi)))
  go_ret3
  exact ⟨_, by first | rfl | (simp [errW_none, errW_some] <;> rfl) | (simp [*, errW_none, errW_some] <;> rfl), by (with_reducible repeat (first | apply Kd.N_alloc | apply Kd.N_drewN | apply Kd.N_drew)); exact Kd.N_mono HO217.out (fun _ hk => hk.1), by repeat (first | (with_reducible first | exact HB.out | apply below_alloc | apply pw_below_drewN | apply below_drew1 | refine below_set ?_ (IsS92.ge HI214.out)) | exact HB.out)⟩

end Go.Proofs.Ytgmjolngnhdafaa.P

end
section
namespace Go.Proofs.Ytgmjolngnhdafaa.P
open Go.RowKit Go.Proofs.YtgmjolngnhdafaaW.PrintWords Go.Proofs.YtgmjolngnhdafaaW.PrintLast Go.Proofs.YtgmjolngnhdafaaW.PrintMore
attribute [local go_sem] max2_int min2_int max_two min_two max_three min_three max_four min_four
set_option linter.unusedVariables false
set_option linter.unusedSimpArgs false

set_option maxHeartbeats 8000000 in
set_option maxRecDepth 100000 in
theorem spec_DrawClassJoin.calls (k : Nat) (A0 : Option Addr) (c0 : Nat) (l0 : List Int) (r1 : List (S38)) (r2 : Int) (r3 : Int) (w : World) (hr0 : Kd.C (Kd.int .u8) w A0 l0.length l0) (hc0 : l0.length ≤ c0) (h : spec_DrawClassJoin.f k l0 = some (r1, r2, r3)) :
    Calls Try.prog 42 #[.slice A0 l0.length c0] w fun e w' => ∃ v0_ : Value, e = .returned (.tuple #[v0_, .int .i64 r2, .int .i64 r3]) ∧ Kd.N k38 38 w' w.heap.size (fun k_ => (w.heap.size ≤ k_)) v0_ r1 ∧ Below w.heap.size w w' := by
  have HR0 := Aside0.mk hr0
  have HC0 := Aside0.mk hc0
  clear hr0 hc0
  have HB := Aside0.mk (Below.refl w.heap.size w)
  have H : ((spec_DrawClassUp.f k l0).bind fun bt456 => (some (bt456.1, bt456.2.1, bt456.2.2))) = some (r1, r2, r3) := h
  clear h
  replace H := Option.bind_eq_some_iff.mp H
  obtain ⟨⟨t456, t459, t460⟩, A20, H⟩ := H
  replace H : (some (t456, t459, t460)) = some (r1, r2, r3) := H
  have A2 := Aside0.mk A20
  clear A20
  simp only [Option.some.injEq, Prod.mk.injEq] at H
  obtain ⟨rfl, rfl, rfl⟩ := H
  go_enter Try.func42, Try.ntmps42
  go_wp2_with (first | ((with_reducible refine gate_callee (f := 27) rfl ?_); refine goesL_ (some 6) rfl rfl Try.func27 (by kernel_rfl) rfl #[.slice A0 l0.length c0] rfl (by (try simp only [List.map_toArray, List.map_cons, List.map_nil]); first | done | rfl | (simp only [List.length_drop, List.length_take]; rfl)) ?_; (with_reducible refine (spec_DrawClassUp.calls k _ _ l0 t456 t459 t460 _ ?side1 ?side2 A2.out).mono ?_); (case side1 => repeat (first | exact HR0.out | (with_reducible refine Kd.C_alloc ?_ _) | (with_reducible refine Kd.C_drewN ?_ _) | (with_reducible refine Kd.C_drew ?_))); (case side2 => exact HC0.out); rintro e w3 ⟨v457, rfl, ho0, hb⟩; refine ⟨_, rfl, ?_⟩; have n0_ := Aside0.mk (Kd.N_lower (Kd.N_mono (ok' := fun k_ => (w.heap.size ≤ k_)) ho0 (fun k_ hk_ => (Nat.le_trans (below_size (by repeat (first | (with_reducible first | exact HB.out | apply below_alloc | apply pw_below_drewN | apply below_drew1) | exact HB.out))) hk_))) (below_size (by repeat (first | (with_reducible first | exact HB.out | apply below_alloc | apply pw_below_drewN | apply below_drew1) | exact HB.out)))); have n1_ := Aside0.mk (below_step (by repeat (first | (with_reducible first | exact HB.out | apply below_alloc | apply pw_below_drewN | apply below_drew1) | exact HB.out)) hb); clear HB; have HO458 := n0_; have HB := n1_; clear n0_ n1_; (try clear hb); (try clear hb2); (try clear hk); (try clear hi); (try clear ho0)))
  go_ret3
  exact ⟨_, by first | rfl | (simp [errW_none, errW_some] <;> rfl) | (simp [*, errW_none, errW_some] <;> rfl), by (with_reducible repeat (first | apply Kd.N_alloc | apply Kd.N_drewN | apply Kd.N_drew)); exact HO458.out, by repeat (first | (with_reducible first | exact HB.out | apply below_alloc | apply pw_below_drewN | apply below_drew1) | exact HB.out)⟩

end Go.Proofs.Ytgmjolngnhdafaa.P

end
section
namespace Go.Proofs.Ytgmjolngnhdafaa.P
open Go.RowKit Go.Proofs.YtgmjolngnhdafaaW.PrintWords Go.Proofs.YtgmjolngnhdafaaW.PrintLast Go.Proofs.YtgmjolngnhdafaaW.PrintMore
attribute [local go_sem] max2_int min2_int max_two min_two max_three min_three max_four min_four
set_option linter.unusedVariables false
set_option linter.unusedSimpArgs false

set_option maxHeartbeats 8000000 in
set_option maxRecDepth 100000 in
theorem spec_l2Is.calls (k : Nat) (A0 : Option Addr) (c0 : Nat) (l0 : List (S38)) (a1 : Int) (r : Bool) (w : World) (hr0 : Kd.C k38 w A0 l0.length l0) (hc0 : l0.length ≤ c0) (h : spec_l2Is.f k l0 a1 = some r) :
    Calls Try.prog 68 #[.slice A0 l0.length c0, .int .i64 a1] w fun e w' => e = .returned (.bool r) ∧ Below w.heap.size w w' := by
  have HR0 := Aside0.mk hr0
  have HC0 := Aside0.mk hc0
  clear hr0 hc0
  have HB := Aside0.mk (Below.refl w.heap.size w)
  have H : ((spec_ClassesOk.f k l0).bind fun t232 => (if t232 = true then ((spec_l6In.f a1 0 (wrap64 ((l0.length : Int) - 1))).bind fun t233 => (some t233)) else (some false))) = some r := h
  clear h
  replace H := Option.bind_eq_some_iff.mp H
  obtain ⟨t232, A30, H⟩ := H
  replace H : (if t232 = true then ((spec_l6In.f a1 0 (wrap64 ((l0.length : Int) - 1))).bind fun t233 => (some t233)) else (some false)) = some r := H
  have A3 := Aside0.mk A30
  clear A30
  by_cases c4 : t232 = true
  · subst c4
    have H1 : ((spec_l6In.f a1 0 (wrap64 ((l0.length : Int) - 1))).bind fun t233 => (some t233)) = some r := by rw [if_pos rfl] at H; exact H
    clear H
    have H := H1
    clear H1
    replace H := Option.bind_eq_some_iff.mp H
    obtain ⟨t233, A50, H⟩ := H
    replace H : (some t233) = some r := H
    have A5 := Aside0.mk A50
    clear A50
    obtain rfl := Option.some.inj H
    simp only [Option.some.injEq, Prod.mk.injEq] at H
    obtain ⟨rfl⟩ := H
    go_enter Try.func68, Try.ntmps68
    go_wp2_with (first | ((with_reducible refine gate_callee (f := 21) rfl ?_); refine goesL_ (some 6) rfl rfl Try.func21 (by kernel_rfl) rfl #[.slice A0 l0.length c0] rfl (by (try simp only [List.map_toArray, List.map_cons, List.map_nil]); first | done | rfl | (simp only [List.length_drop, List.length_take]; rfl)) ?_; (with_reducible refine (spec_ClassesOk.calls k _ _ l0 true _ ?side1 ?side2 A3.out).mono ?_); (case side1 => repeat (first | exact HR0.out | (with_reducible refine Kd.C_alloc ?_ _) | (with_reducible refine Kd.C_drewN ?_ _) | (with_reducible refine Kd.C_drew ?_))); (case side2 => exact HC0.out); rintro e w6 ⟨rfl, hb⟩; refine ⟨_, rfl, ?_⟩; have n0_ := Aside0.mk (below_step (by repeat (first | (with_reducible first | exact HB.out | apply below_alloc | apply pw_below_drewN | apply below_drew1) | exact HB.out)) hb); clear HB; have HB := n0_; clear n0_; (try clear hb); (try clear hb2); (try clear hk); (try clear hi)) | (go_at_call 56; (with_reducible refine (spec_l6In.calls a1 0 (wrap64 ((l0.length : Int) - 1)) t233 _ A5.out).mono ?_); rintro e w' ⟨rfl, ⟨nd, rfl⟩⟩))
    go_ret
    exact ⟨by first | rfl | (simp [errW_none, errW_some] <;> rfl) | (simp [*, errW_none, errW_some] <;> rfl), by repeat (first | (with_reducible first | exact HB.out | apply below_alloc | apply pw_below_drewN | apply below_drew1) | exact HB.out)⟩
  · replace c4 := Bool.eq_false_iff.mpr c4
    subst c4
    have H1 : (some false) = some r := by rw [if_neg (show ¬ (false = true) by decide)] at H; exact H
    clear H
    have H := H1
    clear H1
    obtain rfl := Option.some.inj H
    simp only [Option.some.injEq, Prod.mk.injEq] at H
    obtain ⟨rfl⟩ := H
    go_enter Try.func68, Try.ntmps68
    go_wp2_with (first | ((with_reducible refine gate_callee (f := 21) rfl ?_); refine goesL_ (some 6) rfl rfl Try.func21 (by kernel_rfl) rfl #[.slice A0 l0.length c0] rfl (by (try simp only [List.map_toArray, List.map_cons, List.map_nil]); first | done | rfl | (simp only [List.length_drop, List.length_take]; rfl)) ?_; (with_reducible refine (spec_ClassesOk.calls k _ _ l0 false _ ?side1 ?side2 A3.out).mono ?_); (case side1 => repeat (first | exact HR0.out | (with_reducible refine Kd.C_alloc ?_ _) | (with_reducible refine Kd.C_drewN ?_ _) | (with_reducible refine Kd.C_drew ?_))); (case side2 => exact HC0.out); rintro e w7 ⟨rfl, hb⟩; refine ⟨_, rfl, ?_⟩; have n0_ := Aside0.mk (below_step (by repeat (first | (with_reducible first | exact HB.out | apply below_alloc | apply pw_below_drewN | apply below_drew1) | exact HB.out)) hb); clear HB; have HB := n0_; clear n0_; (try clear hb); (try clear hb2); (try clear hk); (try clear hi)))
    go_ret
    exact ⟨by first | rfl | (simp [errW_none, errW_some] <;> rfl) | (simp [*, errW_none, errW_some] <;> rfl), by repeat (first | (with_reducible first | exact HB.out | apply below_alloc | apply pw_below_drewN | apply below_drew1) | exact HB.out)⟩

end Go.Proofs.Ytgmjolngnhdafaa.P

end
section
namespace Go.Proofs.Ytgmjolngnhdafaa.P
open Go.RowKit Go.Proofs.YtgmjolngnhdafaaW.PrintWords Go.Proofs.YtgmjolngnhdafaaW.PrintLast Go.Proofs.YtgmjolngnhdafaaW.PrintMore
attribute [local go_sem] max2_int min2_int max_two min_two max_three min_three max_four min_four
set_option linter.unusedVariables false
set_option linter.unusedSimpArgs false

set_option maxHeartbeats 8000000 in
set_option maxRecDepth 100000 in
theorem spec_l2Up.calls (k : Nat) (A0 : Option Addr) (c0 : Nat) (l0 : List (S38)) (a1 : Int) (a2 : Int) (r : Bool) (w : World) (hr0 : Kd.C k38 w A0 l0.length l0) (hc0 : l0.length ≤ c0) (h : spec_l2Up.f k l0 a1 a2 = some r) :
    Calls Try.prog 69 #[.slice A0 l0.length c0, .int .i64 a1, .int .i64 a2] w fun e w' => e = .returned (.bool r) ∧ Drawn0 w w' := by
  have HR0 := Aside0.mk hr0
  have HC0 := Aside0.mk hc0
  clear hr0 hc0
  have H : (spec_l2Up.l0 k l0 a1 a2) = some r := h
  clear h
  have H' := Aside0.mk H
  clear H
  go_enter Try.func69, Try.ntmps69
  go_wp2
  go_loopg [1] k (fun kq v1 w' => ∃ (x1_1 : Int), v1 = .int .i64 x1_1 ∧ Aside0 (spec_l2Up.l0 kq l0 x1_1 a2 = some r) ∧ Aside0 (kq ≤ k) ∧ Drawn0 w w')
  case atStart => exact ⟨(a1), (by first | rfl | (simp; done) | (simp [*]; done)), H', ⟨Nat.le_refl _⟩, by repeat (first | exact Drawn0.refl _ | apply Drawn0.step)⟩
  case round =>
    clear H'
    try clear p2
    obtain ⟨x1_1, rfl, HA, HK1, ⟨m1, rfl⟩⟩ := hrel
    cases gk with
    | zero => exact absurd HA.out (by simp [spec_l2Up.l0])
    | succ k1 =>
      have H := HA.out
      clear HA
      simp only [spec_l2Up.l0] at H
      by_cases c4 : x1_1 > a2
      · rw [if_pos c4] at H
        have c4b0 : decide (a2 < x1_1) = true := decide_eq_true c4
        clear c4
        by_cases c5 : 0 ≤ x1_1
        · rw [if_pos c5] at H
          have c5b0 : decide (0 ≤ x1_1) = true := decide_eq_true c5
          clear c5
          by_cases c6 : x1_1 < (l0.length : Int)
          · rw [if_pos c6] at H
            have c6b0 : decide (x1_1 < (l0.length : Int)) = true := decide_eq_true c6
            clear c6
            have H' := Aside0.mk H
            clear H
            have p234 : 0 ≤ (x1_1 : Int) := of_decide_eq_true (by first | (with_reducible assumption) | assumption)
            have q234 : x1_1 < (l0.length : Int) := of_decide_eq_true (by first | (with_reducible assumption) | assumption)
            obtain ⟨ad234, A234_1, c234_1, e234, hx234_0, hx234_1, hl234_1, hi234_1⟩ := at_T38 HR0.out x1_1 p234 q234
            cases e234
            have HR234_1 := Aside0.mk hi234_1
            have HC234_1 := Aside0.mk hl234_1
            clear hi234_1 hl234_1
            replace p234 := eq_true p234
            replace q234 := eq_true q234
            go_wp2
            go_roundg k1
            case measure => have := HK1.out; omega
            case rel => exact ⟨((rd_T38 l0 x1_1).f0), (by first | rfl | (simp; done) | (simp [*]; done)), H', ⟨by have := HK1.out; omega⟩, by repeat (first | exact Drawn0.refl _ | apply Drawn0.step)⟩
          · rw [if_neg c6] at H
            exact absurd H (by simp)
        · rw [if_neg c5] at H
          exact absurd H (by simp)
      · rw [if_neg c4] at H
        have c4b0 : decide (a2 < x1_1) = false := decide_eq_false c4
        clear c4
        obtain rfl := Option.some.inj H
        simp only [Option.some.injEq, Prod.mk.injEq] at H
        obtain ⟨rfl⟩ := H
        go_wp2
        go_ret
        exact ⟨by first | rfl | (simp; done) | (simp [*]; done), by repeat (first | exact Drawn0.refl _ | apply Drawn0.step)⟩

end Go.Proofs.Ytgmjolngnhdafaa.P

end
section
namespace Go.Proofs.Ytgmjolngnhdafaa.P
open Go.RowKit Go.Proofs.YtgmjolngnhdafaaW.PrintWords Go.Proofs.YtgmjolngnhdafaaW.PrintLast Go.Proofs.YtgmjolngnhdafaaW.PrintMore
attribute [local go_sem] max2_int min2_int max_two min_two max_three min_three max_four min_four
set_option linter.unusedVariables false
set_option linter.unusedSimpArgs false

set_option maxHeartbeats 8000000 in
set_option maxRecDepth 100000 in
theorem spec_l2Join.calls (k : Nat) (A0 : Option Addr) (c0 : Nat) (l0 : List (S38)) (a1 : Int) (a2 : Int) (r : Int) (w : World) (hr0 : Kd.C k38 w A0 l0.length l0) (hc0 : l0.length ≤ c0) (h : spec_l2Join.f k l0 a1 a2 = some r) :
    Calls Try.prog 78 #[.slice A0 l0.length c0, .int .i64 a1, .int .i64 a2] w fun e w' => e = .returned (.int .i64 r) ∧ Drawn0 w w' := by
  have HR0 := Aside0.mk hr0
  have HC0 := Aside0.mk hc0
  clear hr0 hc0
  have H : (spec_l2Join.l0 k l0 a1 a2) = some r := h
  clear h
  have H' := Aside0.mk H
  clear H
  go_enter Try.func78, Try.ntmps78
  go_wp2
  go_loopg [1] k (fun kq v1 w' => ∃ (x1_1 : Int), v1 = .int .i64 x1_1 ∧ Aside0 (spec_l2Join.l0 kq l0 x1_1 a2 = some r) ∧ Aside0 (kq ≤ k) ∧ Drawn0 w w')
  case atStart => exact ⟨(a1), (by first | rfl | (simp; done) | (simp [*]; done)), H', ⟨Nat.le_refl _⟩, by repeat (first | exact Drawn0.refl _ | apply Drawn0.step)⟩
  case round =>
    clear H'
    try clear p2
    obtain ⟨x1_1, rfl, HA, HK1, ⟨m1, rfl⟩⟩ := hrel
    cases gk with
    | zero => exact absurd HA.out (by simp [spec_l2Join.l0])
    | succ k1 =>
      have H := HA.out
      clear HA
      simp only [spec_l2Join.l0] at H
      replace H := Option.bind_eq_some_iff.mp H
      obtain ⟨t461, A40, H⟩ := H
      replace H : (if t461 = true then (some x1_1) else (if 0 ≤ x1_1 then (if x1_1 < (l0.length : Int) then (spec_l2Join.l0 k1 l0 ((rd_T38 l0 x1_1).f0) a2) else (none)) else (none))) = some r := H
      have A4 := Aside0.mk A40
      clear A40
      by_cases c5 : t461 = true
      · subst c5
        have H1 : (some x1_1) = some r := by rw [if_pos rfl] at H; exact H
        clear H
        have H := H1
        clear H1
        obtain rfl := Option.some.inj H
        simp only [Option.some.injEq, Prod.mk.injEq] at H
        obtain ⟨rfl⟩ := H
        go_wp2_with (first | ((with_reducible refine gate_callee (f := 69) rfl ?_); refine goesL_ (some 10) rfl rfl Try.func69 (by kernel_rfl) rfl #[.slice A0 l0.length c0, .int .i64 a2, .int .i64 x1_1] rfl (by (try simp only [List.map_toArray, List.map_cons, List.map_nil]); first | done | rfl | (simp only [List.length_drop, List.length_take]; rfl)) ?_; (with_reducible refine (spec_l2Up.calls k1 _ _ l0 a2 x1_1 true _ ?side1 ?side2 A4.out).mono ?_); (case side1 => repeat (first | exact HR0.out | (with_reducible refine Kd.C_alloc ?_ _) | (with_reducible refine Kd.C_drewN ?_ _) | (with_reducible refine Kd.C_drew ?_))); (case side2 => exact HC0.out); rintro e w' ⟨rfl, ⟨nd, rfl⟩⟩; refine ⟨_, rfl, ?_⟩))
        go_ret
        exact ⟨by first | rfl | (simp; done) | (simp [*]; done), by repeat (first | exact Drawn0.refl _ | apply Drawn0.step)⟩
      · replace c5 := Bool.eq_false_iff.mpr c5
        subst c5
        have H1 : (if 0 ≤ x1_1 then (if x1_1 < (l0.length : Int) then (spec_l2Join.l0 k1 l0 ((rd_T38 l0 x1_1).f0) a2) else (none)) else (none)) = some r := by rw [if_neg (show ¬ (false = true) by decide)] at H; exact H
        clear H
        have H := H1
        clear H1
        by_cases c6 : 0 ≤ x1_1
        · rw [if_pos c6] at H
          have c6b0 : decide (0 ≤ x1_1) = true := decide_eq_true c6
          clear c6
          by_cases c7 : x1_1 < (l0.length : Int)
          · rw [if_pos c7] at H
            have c7b0 : decide (x1_1 < (l0.length : Int)) = true := decide_eq_true c7
            clear c7
            have H' := Aside0.mk H
            clear H
            go_wp2_with (first | ((with_reducible refine gate_callee (f := 69) rfl ?_); refine goesL_ (some 10) rfl rfl Try.func69 (by kernel_rfl) rfl #[.slice A0 l0.length c0, .int .i64 a2, .int .i64 x1_1] rfl (by (try simp only [List.map_toArray, List.map_cons, List.map_nil]); first | done | rfl | (simp only [List.length_drop, List.length_take]; rfl)) ?_; (with_reducible refine (spec_l2Up.calls k1 _ _ l0 a2 x1_1 false _ ?side1 ?side2 A4.out).mono ?_); (case side1 => repeat (first | exact HR0.out | (with_reducible refine Kd.C_alloc ?_ _) | (with_reducible refine Kd.C_drewN ?_ _) | (with_reducible refine Kd.C_drew ?_))); (case side2 => exact HC0.out); rintro e w' ⟨rfl, ⟨nd, rfl⟩⟩; refine ⟨_, rfl, ?_⟩; have p462 : 0 ≤ (x1_1 : Int) := of_decide_eq_true (by first | (with_reducible assumption) | assumption); have q462 : x1_1 < (l0.length : Int) := of_decide_eq_true (by first | (with_reducible assumption) | assumption); obtain ⟨ad462, A462_1, c462_1, e462, hx462_0, hx462_1, hl462_1, hi462_1⟩ := at_T38 HR0.out x1_1 p462 q462; cases e462; have HR462_1 := Aside0.mk hi462_1; have HC462_1 := Aside0.mk hl462_1; clear hi462_1 hl462_1; replace p462 := eq_true p462; replace q462 := eq_true q462))
            go_roundg k1
            case measure => have := HK1.out; omega
            case rel => exact ⟨((rd_T38 l0 x1_1).f0), (by first | rfl | (simp; done) | (simp [*]; done)), H', ⟨by have := HK1.out; omega⟩, by repeat (first | exact Drawn0.refl _ | apply Drawn0.step)⟩
          · rw [if_neg c7] at H
            exact absurd H (by simp)
        · rw [if_neg c6] at H
          exact absurd H (by simp)

end Go.Proofs.Ytgmjolngnhdafaa.P

end
section
namespace Go.Proofs.Ytgmjolngnhdafaa.P
open Go.RowKit Go.Proofs.YtgmjolngnhdafaaW.PrintWords Go.Proofs.YtgmjolngnhdafaaW.PrintLast Go.Proofs.YtgmjolngnhdafaaW.PrintMore
attribute [local go_sem] max2_int min2_int max_two min_two max_three min_three max_four min_four
set_option linter.unusedVariables false
set_option linter.unusedSimpArgs false

set_option maxHeartbeats 8000000 in
set_option maxRecDepth 100000 in
theorem spec_ClassJoin.calls (k : Nat) (A0 : Option Addr) (c0 : Nat) (l0 : List (S38)) (a1 : Int) (a2 : Int) (r : Int) (w : World) (hr0 : Kd.C k38 w A0 l0.length l0) (hc0 : l0.length ≤ c0) (h : spec_ClassJoin.f k l0 a1 a2 = some r) :
    Calls Try.prog 44 #[.slice A0 l0.length c0, .int .i64 a1, .int .i64 a2] w fun e w' => e = .returned (.int .i64 r) ∧ Below w.heap.size w w' := by
  have HR0 := Aside0.mk hr0
  have HC0 := Aside0.mk hc0
  clear hr0 hc0
  have HB := Aside0.mk (Below.refl w.heap.size w)
  have H : ((spec_l2Is.f k l0 a1).bind fun t463 => (if t463 = true then ((spec_l2Is.f k l0 a2).bind fun t464 => (if t464 = true then ((spec_l2Join.f k l0 a1 a2).bind fun t465 => (some t465)) else (some (-1)))) else (some (-1)))) = some r := h
  clear h
  replace H := Option.bind_eq_some_iff.mp H
  obtain ⟨t463, A40, H⟩ := H
  replace H : (if t463 = true then ((spec_l2Is.f k l0 a2).bind fun t464 => (if t464 = true then ((spec_l2Join.f k l0 a1 a2).bind fun t465 => (some t465)) else (some (-1)))) else (some (-1))) = some r := H
  have A4 := Aside0.mk A40
  clear A40
  by_cases c5 : t463 = true
  · subst c5
    have H1 : ((spec_l2Is.f k l0 a2).bind fun t464 => (if t464 = true then ((spec_l2Join.f k l0 a1 a2).bind fun t465 => (some t465)) else (some (-1)))) = some r := by rw [if_pos rfl] at H; exact H
    clear H
    have H := H1
    clear H1
    replace H := Option.bind_eq_some_iff.mp H
    obtain ⟨t464, A60, H⟩ := H
    replace H : (if t464 = true then ((spec_l2Join.f k l0 a1 a2).bind fun t465 => (some t465)) else (some (-1))) = some r := H
    have A6 := Aside0.mk A60
    clear A60
    by_cases c7 : t464 = true
    · subst c7
      have H1 : ((spec_l2Join.f k l0 a1 a2).bind fun t465 => (some t465)) = some r := by rw [if_pos rfl] at H; exact H
      clear H
      have H := H1
      clear H1
      replace H := Option.bind_eq_some_iff.mp H
      obtain ⟨t465, A80, H⟩ := H
      replace H : (some t465) = some r := H
      have A8 := Aside0.mk A80
      clear A80
      obtain rfl := Option.some.inj H
      simp only [Option.some.injEq, Prod.mk.injEq] at H
      obtain ⟨rfl⟩ := H
      go_enter Try.func44, Try.ntmps44
      go_wp2_with (first | ((with_reducible refine gate_callee (f := 68) rfl ?_); refine goesL_ (some 9) rfl rfl Try.func68 (by kernel_rfl) rfl #[.slice A0 l0.length c0, .int .i64 a1] rfl (by (try simp only [List.map_toArray, List.map_cons, List.map_nil]); first | done | rfl | (simp only [List.length_drop, List.length_take]; rfl)) ?_; (with_reducible refine (spec_l2Is.calls k _ _ l0 a1 true _ ?side1 ?side2 A4.out).mono ?_); (case side1 => repeat (first | exact HR0.out | (with_reducible refine Kd.C_alloc ?_ _) | (with_reducible refine Kd.C_drewN ?_ _) | (with_reducible refine Kd.C_drew ?_))); (case side2 => exact HC0.out); rintro e w9 ⟨rfl, hb⟩; refine ⟨_, rfl, ?_⟩; have n0_ := Aside0.mk (below_step (by repeat (first | (with_reducible first | exact HB.out | apply below_alloc | apply pw_below_drewN | apply below_drew1) | exact HB.out)) hb); clear HB; have HB := n0_; clear n0_; (try clear hb); (try clear hb2); (try clear hk); (try clear hi)) | (go_at_call 68; (with_reducible refine (spec_l2Is.calls k _ _ l0 a2 true _ ?side1 ?side2 A6.out).mono ?_); (case side1 => repeat (first | exact (Kd.C_below HR0.out HB.out) | (with_reducible refine Kd.C_alloc ?_ _) | (with_reducible refine Kd.C_drewN ?_ _) | (with_reducible refine Kd.C_drew ?_))); (case side2 => exact HC0.out); rintro e w10 ⟨rfl, hb⟩; have n0_ := Aside0.mk (below_step (by repeat (first | (with_reducible first | exact HB.out | apply below_alloc | apply pw_below_drewN | apply below_drew1) | exact HB.out)) hb); clear HB; have HB := n0_; clear n0_; (try clear hb); (try clear hb2); (try clear hk); (try clear hi)) | ((with_reducible refine gate_callee (f := 78) rfl ?_); refine goesL_ (some 20) rfl rfl Try.func78 (by kernel_rfl) rfl #[.slice A0 l0.length c0, .int .i64 a1, .int .i64 a2] rfl (by (try simp only [List.map_toArray, List.map_cons, List.map_nil]); first | done | rfl | (simp only [List.length_drop, List.length_take]; rfl)) ?_; (with_reducible refine (spec_l2Join.calls k _ _ l0 a1 a2 t465 _ ?side1 ?side2 A8.out).mono ?_); (case side1 => repeat (first | exact (Kd.C_below HR0.out HB.out) | (with_reducible refine Kd.C_alloc ?_ _) | (with_reducible refine Kd.C_drewN ?_ _) | (with_reducible refine Kd.C_drew ?_))); (case side2 => exact HC0.out); rintro e w' ⟨rfl, ⟨nd, rfl⟩⟩; refine ⟨_, rfl, ?_⟩))
      go_ret
      exact ⟨by first | rfl | (simp [errW_none, errW_some] <;> rfl) | (simp [*, errW_none, errW_some] <;> rfl), by repeat (first | (with_reducible first | exact HB.out | apply below_alloc | apply pw_below_drewN | apply below_drew1) | exact HB.out)⟩
    · replace c7 := Bool.eq_false_iff.mpr c7
      subst c7
      have H1 : (some (-1)) = some r := by rw [if_neg (show ¬ (false = true) by decide)] at H; exact H
      clear H
      have H := H1
      clear H1
      obtain rfl := Option.some.inj H
      simp only [Option.some.injEq, Prod.mk.injEq] at H
      obtain ⟨rfl⟩ := H
      go_enter Try.func44, Try.ntmps44
      go_wp2_with (first | ((with_reducible refine gate_callee (f := 68) rfl ?_); refine goesL_ (some 9) rfl rfl Try.func68 (by kernel_rfl) rfl #[.slice A0 l0.length c0, .int .i64 a1] rfl (by (try simp only [List.map_toArray, List.map_cons, List.map_nil]); first | done | rfl | (simp only [List.length_drop, List.length_take]; rfl)) ?_; (with_reducible refine (spec_l2Is.calls k _ _ l0 a1 true _ ?side1 ?side2 A4.out).mono ?_); (case side1 => repeat (first | exact HR0.out | (with_reducible refine Kd.C_alloc ?_ _) | (with_reducible refine Kd.C_drewN ?_ _) | (with_reducible refine Kd.C_drew ?_))); (case side2 => exact HC0.out); rintro e w11 ⟨rfl, hb⟩; refine ⟨_, rfl, ?_⟩; have n0_ := Aside0.mk (below_step (by repeat (first | (with_reducible first | exact HB.out | apply below_alloc | apply pw_below_drewN | apply below_drew1) | exact HB.out)) hb); clear HB; have HB := n0_; clear n0_; (try clear hb); (try clear hb2); (try clear hk); (try clear hi)) | (go_at_call 68; (with_reducible refine (spec_l2Is.calls k _ _ l0 a2 false _ ?side1 ?side2 A6.out).mono ?_); (case side1 => repeat (first | exact (Kd.C_below HR0.out HB.out) | (with_reducible refine Kd.C_alloc ?_ _) | (with_reducible refine Kd.C_drewN ?_ _) | (with_reducible refine Kd.C_drew ?_))); (case side2 => exact HC0.out); rintro e w12 ⟨rfl, hb⟩; have n0_ := Aside0.mk (below_step (by repeat (first | (with_reducible first | exact HB.out | apply below_alloc | apply pw_below_drewN | apply below_drew1) | exact HB.out)) hb); clear HB; have HB := n0_; clear n0_; (try clear hb); (try clear hb2); (try clear hk); (try clear hi)))
      go_ret
      exact ⟨by first | rfl | (simp [errW_none, errW_some] <;> rfl) | (simp [*, errW_none, errW_some] <;> rfl), by repeat (first | (with_reducible first | exact HB.out | apply below_alloc | apply pw_below_drewN | apply below_drew1) | exact HB.out)⟩
  · replace c5 := Bool.eq_false_iff.mpr c5
    subst c5
    have H1 : (some (-1)) = some r := by rw [if_neg (show ¬ (false = true) by decide)] at H; exact H
    clear H
    have H := H1
    clear H1
    obtain rfl := Option.some.inj H
    simp only [Option.some.injEq, Prod.mk.injEq] at H
    obtain ⟨rfl⟩ := H
    go_enter Try.func44, Try.ntmps44
    go_wp2_with (first | ((with_reducible refine gate_callee (f := 68) rfl ?_); refine goesL_ (some 9) rfl rfl Try.func68 (by kernel_rfl) rfl #[.slice A0 l0.length c0, .int .i64 a1] rfl (by (try simp only [List.map_toArray, List.map_cons, List.map_nil]); first | done | rfl | (simp only [List.length_drop, List.length_take]; rfl)) ?_; (with_reducible refine (spec_l2Is.calls k _ _ l0 a1 false _ ?side1 ?side2 A4.out).mono ?_); (case side1 => repeat (first | exact HR0.out | (with_reducible refine Kd.C_alloc ?_ _) | (with_reducible refine Kd.C_drewN ?_ _) | (with_reducible refine Kd.C_drew ?_))); (case side2 => exact HC0.out); rintro e w13 ⟨rfl, hb⟩; refine ⟨_, rfl, ?_⟩; have n0_ := Aside0.mk (below_step (by repeat (first | (with_reducible first | exact HB.out | apply below_alloc | apply pw_below_drewN | apply below_drew1) | exact HB.out)) hb); clear HB; have HB := n0_; clear n0_; (try clear hb); (try clear hb2); (try clear hk); (try clear hi)))
    go_ret
    exact ⟨by first | rfl | (simp [errW_none, errW_some] <;> rfl) | (simp [*, errW_none, errW_some] <;> rfl), by repeat (first | (with_reducible first | exact HB.out | apply below_alloc | apply pw_below_drewN | apply below_drew1) | exact HB.out)⟩

end Go.Proofs.Ytgmjolngnhdafaa.P

end
section
namespace Go.Proofs.Ytgmjolngnhdafaa.P
open Go Go.RowKit Go.Proofs.YtgmjolngnhdafaaW.PrintWords Go.Proofs.YtgmjolngnhdafaaW.PrintLast Go.Proofs.YtgmjolngnhdafaaW.PrintMore
set_option linter.unusedVariables false
set_option linter.unusedSimpArgs false
theorem cell_drewN {w : World} {p : Addr} {v : Value} (h : w.cell? p = some v) (m : Nat) : (w.drewN m).cell? p = some v := ((pw_below_drewN (Below.refl w.heap.size w) m).cell (World.block_lt_of_cell? w _ h)).trans h
set_option maxHeartbeats 8000000 in
set_option maxRecDepth 100000 in
theorem joinBoth.calls (k : Nat) (A0 : Option Addr) (c0 : Nat) (l0 : List S38) (a b c : Int) (r : Bool) (w : World) (g1 g2 g3 : Nat) (hr0 : Kd.C k38 w A0 l0.length l0) (hc0 : l0.length ≤ c0)
    (h1 : w.cell? ⟨g1, 0, none⟩ = some (.slice A0 l0.length c0)) (h2 : w.cell? ⟨g2, 0, none⟩ = some (.int .i64 a)) (h3 : w.cell? ⟨g3, 0, none⟩ = some (.int .i64 b)) (h : joinBoth.f k l0 a b c = some r) :
    Calls Try.prog 75 #[.int .i64 c, .pointer (some ⟨g1, 0, none⟩), .pointer (some ⟨g2, 0, none⟩), .pointer (some ⟨g3, 0, none⟩)] w fun e w' => e = .returned (.bool r) ∧ Drawn0 w w' := by
  have HR0 := Aside0.mk hr0
  have HC0 := Aside0.mk hc0
  clear hr0 hc0
  have H : ((impl_classUp.f k l0 a c).bind fun t1 => (if t1 = true then ((impl_classUp.f k l0 b c).bind fun t2 => (some t2)) else (some false))) = some r := h
  clear h
  replace H := Option.bind_eq_some_iff.mp H
  obtain ⟨t1, A40, H⟩ := H
  have A4 := Aside0.mk A40
  clear A40
  have d1 := fun m => cell_drewN h1 m
  have d3 := fun m => cell_drewN h3 m
  by_cases c5 : t1 = true
  · subst c5
    rw [if_pos rfl] at H
    replace H := Option.bind_eq_some_iff.mp H
    obtain ⟨t2, A60, H⟩ := H
    have A6 := Aside0.mk A60
    clear A60
    obtain rfl := Option.some.inj H
    clear H
    go_enter Try.func75, Try.ntmps75
    go_wp2_with (first | (go_at_call 67; (with_reducible refine (impl_classUp.calls k _ _ l0 a c true _ ?side1 ?side2 A4.out).mono ?_); (case side1 => repeat (first | exact HR0.out | (with_reducible refine Kd.C_alloc ?_ _) | (with_reducible refine Kd.C_drewN ?_ _) | (with_reducible refine Kd.C_drew ?_))); (case side2 => exact HC0.out); rintro e w' ⟨rfl, ⟨nd, rfl⟩⟩) | (go_at_call 67; (with_reducible refine (impl_classUp.calls k _ _ l0 b c t2 _ ?side1 ?side2 A6.out).mono ?_); (case side1 => repeat (first | exact HR0.out | (with_reducible refine Kd.C_alloc ?_ _) | (with_reducible refine Kd.C_drewN ?_ _) | (with_reducible refine Kd.C_drew ?_))); (case side2 => exact HC0.out); rintro e w' ⟨rfl, ⟨nd, rfl⟩⟩))
    go_ret
    exact ⟨by first | rfl | (simp; done) | (simp [*]; done), by repeat (first | exact Drawn0.refl _ | apply Drawn0.step)⟩
  · replace c5 := Bool.eq_false_iff.mpr c5
    subst c5
    rw [if_neg (by decide)] at H
    obtain rfl := Option.some.inj H
    clear H
    go_enter Try.func75, Try.ntmps75
    go_wp2_with (first | (go_at_call 67; (with_reducible refine (impl_classUp.calls k _ _ l0 a c false _ ?side1 ?side2 A4.out).mono ?_); (case side1 => repeat (first | exact HR0.out | (with_reducible refine Kd.C_alloc ?_ _) | (with_reducible refine Kd.C_drewN ?_ _) | (with_reducible refine Kd.C_drew ?_))); (case side2 => exact HC0.out); rintro e w' ⟨rfl, ⟨nd, rfl⟩⟩))
    go_ret
    exact ⟨by first | rfl | (simp; done) | (simp [*]; done), by repeat (first | exact Drawn0.refl _ | apply Drawn0.step)⟩
set_option maxHeartbeats 8000000 in
set_option maxRecDepth 100000 in
theorem joinUnder.calls (k : Nat) (A0 : Option Addr) (c0 : Nat) (l0 : List S38) (c d : Int) (r : Bool) (w : World) (g1 : Nat) (hr0 : Kd.C k38 w A0 l0.length l0) (hc0 : l0.length ≤ c0)
    (h1 : w.cell? ⟨g1, 0, none⟩ = some (.slice A0 l0.length c0)) (h : impl_classUp.f k l0 c d = some r) :
    Calls Try.prog 76 #[.int .i64 c, .int .i64 d, .pointer (some ⟨g1, 0, none⟩)] w fun e w' => e = .returned (.bool r) ∧ Drawn0 w w' := by
  have HR0 := Aside0.mk hr0
  have HC0 := Aside0.mk hc0
  clear hr0 hc0
  have A4 := Aside0.mk h
  clear h
  go_enter Try.func76, Try.ntmps76
  go_wp2_with (first | (go_at_call 67; (with_reducible refine (impl_classUp.calls k _ _ l0 c d r _ ?side1 ?side2 A4.out).mono ?_); (case side1 => repeat (first | exact HR0.out | (with_reducible refine Kd.C_alloc ?_ _) | (with_reducible refine Kd.C_drewN ?_ _) | (with_reducible refine Kd.C_drew ?_))); (case side2 => exact HC0.out); rintro e w' ⟨rfl, ⟨nd, rfl⟩⟩))
  go_ret
  exact ⟨by first | rfl | (simp; done) | (simp [*]; done), by repeat (first | exact Drawn0.refl _ | apply Drawn0.step)⟩
end Go.Proofs.Ytgmjolngnhdafaa.P

end
section
namespace Go.Proofs.Ytgmjolngnhdafaa.P
open Go Go.RowKit Go.Proofs.YtgmjolngnhdafaaW.PrintWords Go.Proofs.YtgmjolngnhdafaaW.PrintLast Go.Proofs.YtgmjolngnhdafaaW.PrintMore
set_option linter.unusedVariables false
set_option linter.unusedSimpArgs false
set_option maxHeartbeats 8000000 in
set_option maxRecDepth 100000 in
theorem impl_nearest.calls (k : Nat) (A0 : Option Addr) (c0 : Nat) (l0 : List S38) (a b : Int) (B0 : Option Addr) (cb : Nat) (xs : List Int) (r1 : Int) (r2 : Bool) (w : World) (g1 g2 g3 : Nat) (hr0 : Kd.C k38 w A0 l0.length l0) (hc0 : l0.length ≤ c0)
    (hb0 : Kd.C (Kd.int .i64) w B0 xs.length xs) (hcb : xs.length ≤ cb)
    (h1 : w.cell? ⟨g1, 0, none⟩ = some (.slice A0 l0.length c0)) (h2 : w.cell? ⟨g2, 0, none⟩ = some (.int .i64 a)) (h3 : w.cell? ⟨g3, 0, none⟩ = some (.int .i64 b)) (h : impl_nearest.f k l0 a b xs = some (r1, r2)) :
    Calls Try.prog 77 #[.slice B0 xs.length cb, .func (.func 75) #[] #[.pointer (some ⟨g1, 0, none⟩), .pointer (some ⟨g2, 0, none⟩), .pointer (some ⟨g3, 0, none⟩)], .func (.func 76) #[] #[.pointer (some ⟨g1, 0, none⟩)]] w fun e w' => e = .returned (.tuple #[.int .i64 r1, .bool r2]) ∧ Drawn0 w w' := by
  have HR0 := Aside0.mk hr0
  have HC0 := Aside0.mk hc0
  have HB0 := Aside0.mk hb0
  have HD0 := Aside0.mk hcb
  have G1 := Aside0.mk h1
  have G2 := Aside0.mk h2
  have G3 := Aside0.mk h3
  clear hr0 hc0 hb0 hcb h1 h2 h3
  have H' := Aside0.mk (show impl_nearest.l0 k l0 a b xs 0 = some (r1, r2) from h)
  clear h
  go_enter Try.func77, Try.ntmps77
  go_wp2
  go_loopg [16] k (fun kq v16 w' => ∃ (x16 : Int), v16 = .int .i64 x16 ∧ Aside0 (impl_nearest.l0 kq l0 a b xs x16 = some (r1, r2)) ∧ Aside0 (kq ≤ k) ∧ Drawn0 w w')
  case atStart => exact ⟨(0), (by first | rfl | (simp; done) | (simp [*]; done)), H', ⟨Nat.le_refl _⟩, by repeat (first | exact Drawn0.refl _ | apply Drawn0.step)⟩
  case round =>
    clear H'
    try clear p2
    obtain ⟨x16, rfl, HA, HK1, ⟨m1, rfl⟩⟩ := hrel
    cases gk with
    | zero => exact absurd HA.out (by simp [impl_nearest.l0])
    | succ k1 =>
      have H := HA.out
      clear HA
      simp only [impl_nearest.l0] at H
      by_cases c4 : x16 < (xs.length : Int)
      · rw [if_pos c4] at H
        have c4b0 : decide (x16 < (xs.length : Int)) = true := decide_eq_true c4
        by_cases c5 : 0 ≤ x16
        · rw [if_pos c5] at H
          have c5b0 : decide (0 ≤ x16) = true := decide_eq_true c5
          replace H := Option.bind_eq_some_iff.mp H
          obtain ⟨t1, A60, H⟩ := H
          have A6 := Aside0.mk A60
          clear A60
          obtain ⟨ad7, e7, hx7⟩ := Kd.at_int HB0.out x16 c5 c4
          cases e7
          replace c4 := eq_true c4
          replace c5 := eq_true c5
          by_cases c6 : t1 = true
          · subst c6
            rw [if_pos rfl] at H
            have H' := Aside0.mk H
            clear H
            go_wp2_with (first | (go_loud (refine (joinBoth.calls k1 _ _ l0 a b (rd xs x16) true _ g1 g2 g3 (Kd.C_drewN HR0.out _) HC0.out (cell_drewN G1.out _) (cell_drewN G2.out _) (cell_drewN G3.out _) A6.out).mono ?_; rintro e w' ⟨rfl, ⟨nd, rfl⟩⟩)))
            go_loopg [10, 26] k1 (fun kq v10 v26 w' => ∃ (x26 : Int), v10 = .bool true ∧ v26 = .int .i64 x26 ∧ Aside0 (impl_nearest.l1 kq l0 a b xs x16 (rd xs x16) x26 = some (r1, r2)) ∧ Aside0 (kq ≤ k1) ∧ Drawn0 w w')
            case atStart => exact ⟨(0), (by first | rfl | (simp; done) | (simp [*]; done)), (by first | rfl | (simp; done) | (simp [*]; done)), H', ⟨Nat.le_refl _⟩, by repeat (first | exact Drawn0.refl _ | apply Drawn0.step)⟩
            case round =>
              clear H'
              try clear p2
              obtain ⟨x26, rfl, rfl, HA, HK2, ⟨m2, rfl⟩⟩ := hrel
              cases gk with
              | zero => exact absurd HA.out (by simp [impl_nearest.l1])
              | succ k2 =>
                have H := HA.out
                clear HA
                simp only [impl_nearest.l1] at H
                by_cases c14 : x26 < (xs.length : Int)
                · rw [if_pos c14] at H
                  have c14b0 : decide (x26 < (xs.length : Int)) = true := decide_eq_true c14
                  by_cases c15 : 0 ≤ x26
                  · rw [if_pos c15] at H
                    have c15b0 : decide (0 ≤ x26) = true := decide_eq_true c15
                    replace H := Option.bind_eq_some_iff.mp H
                    obtain ⟨t2, A160, H⟩ := H
                    have A16 := Aside0.mk A160
                    clear A160
                    obtain ⟨ad8, e8, hx8⟩ := Kd.at_int HB0.out x26 c15 c14
                    cases e8
                    replace c14 := eq_true c14
                    replace c15 := eq_true c15
                    by_cases c16 : t2 = true
                    · subst c16
                      rw [if_pos rfl] at H
                      replace H := Option.bind_eq_some_iff.mp H
                      obtain ⟨u2, A180, H⟩ := H
                      have A18 := Aside0.mk A180
                      clear A180
                      by_cases c18 : u2 = true
                      · subst c18
                        rw [if_pos rfl] at H
                        have H' := Aside0.mk H
                        clear H
                        go_wp2_with (first | (go_loud (refine (joinBoth.calls k2 _ _ l0 a b (rd xs x26) true _ g1 g2 g3 (Kd.C_drewN HR0.out _) HC0.out (cell_drewN G1.out _) (cell_drewN G2.out _) (cell_drewN G3.out _) A16.out).mono ?_; rintro e w' ⟨rfl, ⟨nd, rfl⟩⟩)) | (go_loud (refine (joinUnder.calls k2 _ _ l0 (rd xs x16) (rd xs x26) true _ g1 (by repeat (first | exact HR0.out | refine Kd.C_drewN ?_ _)) HC0.out (by repeat (first | exact G1.out | refine cell_drewN ?_ _)) A18.out).mono ?_; rintro e w' ⟨rfl, ⟨nd, rfl⟩⟩)))
                        go_roundg k2
                        case measure => have := HK1.out; have := HK2.out; omega
                        case rel => exact ⟨(wrap64 (x26 + 1)), (by first | rfl | (simp; done) | (simp [*]; done)), (by first | rfl | (simp; done) | (simp [*]; done)), H', ⟨by have := HK1.out; have := HK2.out; omega⟩, by repeat (first | exact Drawn0.refl _ | apply Drawn0.step)⟩
                      · replace c18 := Bool.eq_false_iff.mpr c18
                        subst c18
                        rw [if_neg (by decide)] at H
                        have H' := Aside0.mk H
                        clear H
                        go_wp2_with (first | (go_loud (refine (joinBoth.calls k2 _ _ l0 a b (rd xs x26) true _ g1 g2 g3 (Kd.C_drewN HR0.out _) HC0.out (cell_drewN G1.out _) (cell_drewN G2.out _) (cell_drewN G3.out _) A16.out).mono ?_; rintro e w' ⟨rfl, ⟨nd, rfl⟩⟩)) | (go_loud (refine (joinUnder.calls k2 _ _ l0 (rd xs x16) (rd xs x26) false _ g1 (by repeat (first | exact HR0.out | refine Kd.C_drewN ?_ _)) HC0.out (by repeat (first | exact G1.out | refine cell_drewN ?_ _)) A18.out).mono ?_; rintro e w' ⟨rfl, ⟨nd, rfl⟩⟩)))
                        go_roundg k2
                        case measure => have := HK1.out; have := HK2.out; omega
                        case rel => exact ⟨(wrap64 (x16 + 1)), (by first | rfl | (simp; done) | (simp [*]; done)), H', ⟨by have := HK1.out; have := HK2.out; omega⟩, by repeat (first | exact Drawn0.refl _ | apply Drawn0.step)⟩
                    · replace c16 := Bool.eq_false_iff.mpr c16
                      subst c16
                      rw [if_neg (by decide)] at H
                      have H' := Aside0.mk H
                      clear H
                      go_wp2_with (first | (go_loud (refine (joinBoth.calls k2 _ _ l0 a b (rd xs x26) false _ g1 g2 g3 (Kd.C_drewN HR0.out _) HC0.out (cell_drewN G1.out _) (cell_drewN G2.out _) (cell_drewN G3.out _) A16.out).mono ?_; rintro e w' ⟨rfl, ⟨nd, rfl⟩⟩)))
                      go_roundg k2
                      case measure => have := HK1.out; have := HK2.out; omega
                      case rel => exact ⟨(wrap64 (x26 + 1)), (by first | rfl | (simp; done) | (simp [*]; done)), (by first | rfl | (simp; done) | (simp [*]; done)), H', ⟨by have := HK1.out; have := HK2.out; omega⟩, by repeat (first | exact Drawn0.refl _ | apply Drawn0.step)⟩
                  · rw [if_neg c15] at H
                    exact absurd H (by simp)
                · rw [if_neg c14] at H
                  have c14b0 : decide (x26 < (xs.length : Int)) = false := decide_eq_false c14
                  clear c14
                  simp only [Option.some.injEq, Prod.mk.injEq] at H
                  obtain ⟨rfl, rfl⟩ := H
                  go_wp2
                  go_ret2
                  exact ⟨by first | rfl | (simp; done) | (simp [*]; done), by repeat (first | exact Drawn0.refl _ | apply Drawn0.step)⟩
          · replace c6 := Bool.eq_false_iff.mpr c6
            subst c6
            rw [if_neg (by decide)] at H
            have H' := Aside0.mk H
            clear H
            go_wp2_with (first | (go_loud (refine (joinBoth.calls k1 _ _ l0 a b (rd xs x16) false _ g1 g2 g3 (Kd.C_drewN HR0.out _) HC0.out (cell_drewN G1.out _) (cell_drewN G2.out _) (cell_drewN G3.out _) A6.out).mono ?_; rintro e w' ⟨rfl, ⟨nd, rfl⟩⟩)))
            go_roundg k1
            case measure => have := HK1.out; omega
            case rel => exact ⟨(wrap64 (x16 + 1)), (by first | rfl | (simp; done) | (simp [*]; done)), H', ⟨by have := HK1.out; omega⟩, by repeat (first | exact Drawn0.refl _ | apply Drawn0.step)⟩
        · rw [if_neg c5] at H
          exact absurd H (by simp)
      · rw [if_neg c4] at H
        have c4b0 : decide (x16 < (xs.length : Int)) = false := decide_eq_false c4
        clear c4
        simp only [Option.some.injEq, Prod.mk.injEq] at H
        obtain ⟨rfl, rfl⟩ := H
        go_wp2
        go_ret2
        exact ⟨by first | rfl | (simp; done) | (simp [*]; done), by repeat (first | exact Drawn0.refl _ | apply Drawn0.step)⟩
end Go.Proofs.Ytgmjolngnhdafaa.P

end
section
namespace Go.Proofs.Ytgmjolngnhdafaa.P
open Go Go.RowKit Go.Proofs.YtgmjolngnhdafaaW.PrintWords Go.Proofs.YtgmjolngnhdafaaW.PrintLast Go.Proofs.YtgmjolngnhdafaaW.PrintMore
set_option linter.unusedVariables false
set_option linter.unusedSimpArgs false
set_option maxHeartbeats 8000000 in
set_option maxRecDepth 100000 in
theorem impl_ClassJoin.calls (k : Nat) (A0 : Option Addr) (c0 : Nat) (l0 : List S38) (a b : Int) (r : Int) (w : World) (hr0 : Kd.C k38 w A0 l0.length l0) (hc0 : l0.length ≤ c0) (h : impl_ClassJoin.f k l0 a b = some r) :
    Calls Try.prog 43 #[.slice A0 l0.length c0, .int .i64 a, .int .i64 b] w fun e w' => e = .returned (.int .i64 r) ∧ Below w.heap.size w w' := by
  have HR0 := Aside0.mk hr0
  have HC0 := Aside0.mk hc0
  clear hr0 hc0
  have HB := Aside0.mk (Below.refl w.heap.size w)
  have H : (impl_ClassJoin.f k l0 a b) = some r := h
  clear h
  unfold impl_ClassJoin.f at H
  replace H := Option.bind_eq_some_iff.mp H
  obtain ⟨t1, A40, H⟩ := H
  have A4 := Aside0.mk A40
  clear A40
  by_cases c4 : t1 = true
  · subst c4
    rw [if_pos rfl] at H
    replace H := Option.bind_eq_some_iff.mp H
    obtain ⟨t2, A60, H⟩ := H
    have A6 := Aside0.mk A60
    clear A60
    by_cases c6_ : t2 = true
    · subst c6_
      rw [if_pos rfl] at H
      replace H := Option.bind_eq_some_iff.mp H
      obtain ⟨t3, A80, H⟩ := H
      have A8 := Aside0.mk A80
      clear A80
      by_cases c8_ : t3 = true
      · subst c8_
        rw [if_pos rfl] at H
        by_cases C30 : ((l0.length : Int) : Int).toNat ≤ 35184372088832
        · rw [if_pos C30] at H
          have C3 := Aside0.mk C30
          clear C30
          obtain ⟨y0, hy⟩ : ∃ y_ : List Int, y_ = (List.replicate ((l0.length : Int) : Int).toNat 0) := ⟨_, rfl⟩
          rw [← hy] at H
          have Ny := Aside0.mk hy
          clear hy
          have H' := Aside0.mk H
          clear H
          have hmf : ∀ (fn : Fn) (first cap : Array Value) (W : World), (Instr.makeFunc fn first cap).run Try.prog W = .ok (.func fn first cap) W := fun _ _ _ _ => rfl
          go_enter Try.func43, Try.ntmps43
          go_wp2_with (first | ((with_reducible refine gate_dst (N := 3) rfl ?_); (try (refine gate_guard (by rfl) ?_; dsimp only)); refine box_event ?hg (N := 3) ?hd (cs := #[(.slice A0 l0.length c0)]) (t := 25) ?hr ?_; (case hd => rfl); (case hg => rfl); (case hr => first | (go_simp; done) | (go_simp; rfl)); intro g1 hg wb1 hbox hb; have GE1 := Aside0.mk ((by rw [hg]; exact (below_size (by repeat (first | (with_reducible first | exact HB.out | apply below_alloc | apply pw_below_drewN | apply below_drew1) | exact HB.out))) : w.heap.size ≤ g1)); have n0_ := Aside0.mk (below_step (by repeat (first | (with_reducible first | exact HB.out | apply below_alloc | apply pw_below_drewN | apply below_drew1) | exact HB.out)) hb); clear HB; have HB := n0_; clear n0_; have BK1 := Aside0.mk hbox; clear hb hbox hg; have z1_wb1 : wb1.cell? ⟨g1, 0, none⟩ = some (.slice A0 l0.length c0) := (blk_cell BK1.out 0).trans rfl) | ((with_reducible refine gate_dst (N := 4) rfl ?_); (try (refine gate_guard (by rfl) ?_; dsimp only)); refine box_event ?hg (N := 4) ?hd (cs := #[(.int .i64 a)]) (t := 3) ?hr ?_; (case hd => rfl); (case hg => rfl); (case hr => first | (go_simp; done) | (go_simp; rfl)); intro g2 hg wb2 hbox hb; have GE2 := Aside0.mk ((by rw [hg]; exact (below_size (by repeat (first | (with_reducible first | exact HB.out | apply below_alloc | apply pw_below_drewN | apply below_drew1) | exact HB.out))) : w.heap.size ≤ g2)); have n0_ := Aside0.mk (below_step (by repeat (first | (with_reducible first | exact HB.out | apply below_alloc | apply pw_below_drewN | apply below_drew1) | exact HB.out)) hb); have nk1_ := Aside0.mk (blk_below (by repeat (first | exact BK1.out | refine blk_drewN ?_ _ | refine blk_drew ?_ | refine blk_alloc ?_ _)) hb); clear HB; have HB := n0_; clear n0_; clear BK1; have BK1 := nk1_; clear nk1_; have BK2 := Aside0.mk hbox; clear hb hbox hg; have z1_wb2 : wb2.cell? ⟨g1, 0, none⟩ = some (.slice A0 l0.length c0) := (blk_cell BK1.out 0).trans rfl; have z2_wb2 : wb2.cell? ⟨g2, 0, none⟩ = some (.int .i64 a) := (blk_cell BK2.out 0).trans rfl) | ((with_reducible refine gate_dst (N := 5) rfl ?_); (try (refine gate_guard (by rfl) ?_; dsimp only)); refine box_event ?hg (N := 5) ?hd (cs := #[(.int .i64 b)]) (t := 3) ?hr ?_; (case hd => rfl); (case hg => rfl); (case hr => first | (go_simp; done) | (go_simp; rfl)); intro g3 hg wb3 hbox hb; have GE3 := Aside0.mk ((by rw [hg]; exact (below_size (by repeat (first | (with_reducible first | exact HB.out | apply below_alloc | apply pw_below_drewN | apply below_drew1) | exact HB.out))) : w.heap.size ≤ g3)); have n0_ := Aside0.mk (below_step (by repeat (first | (with_reducible first | exact HB.out | apply below_alloc | apply pw_below_drewN | apply below_drew1) | exact HB.out)) hb); have nk1_ := Aside0.mk (blk_below (by repeat (first | exact BK1.out | refine blk_drewN ?_ _ | refine blk_drew ?_ | refine blk_alloc ?_ _)) hb); have nk2_ := Aside0.mk (blk_below (by repeat (first | exact BK2.out | refine blk_drewN ?_ _ | refine blk_drew ?_ | refine blk_alloc ?_ _)) hb); clear HB; have HB := n0_; clear n0_; clear BK1; have BK1 := nk1_; clear nk1_; clear BK2; have BK2 := nk2_; clear nk2_; have BK3 := Aside0.mk hbox; clear hb hbox hg; have z1_wb3 : wb3.cell? ⟨g1, 0, none⟩ = some (.slice A0 l0.length c0) := (blk_cell BK1.out 0).trans rfl; have z2_wb3 : wb3.cell? ⟨g2, 0, none⟩ = some (.int .i64 a) := (blk_cell BK2.out 0).trans rfl; have z3_wb3 : wb3.cell? ⟨g3, 0, none⟩ = some (.int .i64 b) := (blk_cell BK3.out 0).trans rfl) | ((with_reducible refine gate_callee (f := 23) rfl ?_); refine goesL_ (some 14) rfl rfl Try.func23 (by kernel_rfl) rfl #[.slice A0 l0.length c0] rfl (by (try simp only [List.map_toArray, List.map_cons, List.map_nil]); first | done | rfl | (simp only [List.length_drop, List.length_take]; rfl)) ?_; (with_reducible refine (impl_ClassesOk.calls k _ _ l0 true _ ?side1 ?side2 A4.out).mono ?_); (case side1 => repeat (first | exact (Kd.C_below HR0.out (by repeat (first | (with_reducible first | exact HB.out | apply below_alloc | apply pw_below_drewN | apply below_drew1) | exact HB.out))) | (with_reducible refine Kd.C_alloc ?_ _) | (with_reducible refine Kd.C_drewN ?_ _) | (with_reducible refine Kd.C_drew ?_))); (case side2 => exact HC0.out); rintro e wc ⟨rfl, hb⟩; refine ⟨_, rfl, ?_⟩; have n0_ := Aside0.mk (below_step (by repeat (first | (with_reducible first | exact HB.out | apply below_alloc | apply pw_below_drewN | apply below_drew1) | exact HB.out)) hb); have nk1_ := Aside0.mk (blk_below (by repeat (first | exact BK1.out | refine blk_drewN ?_ _ | refine blk_drew ?_ | refine blk_alloc ?_ _)) hb); have nk2_ := Aside0.mk (blk_below (by repeat (first | exact BK2.out | refine blk_drewN ?_ _ | refine blk_drew ?_ | refine blk_alloc ?_ _)) hb); have nk3_ := Aside0.mk (blk_below (by repeat (first | exact BK3.out | refine blk_drewN ?_ _ | refine blk_drew ?_ | refine blk_alloc ?_ _)) hb); clear HB; have HB := n0_; clear n0_; clear BK1; have BK1 := nk1_; clear nk1_; clear BK2; have BK2 := nk2_; clear nk2_; clear BK3; have BK3 := nk3_; clear nk3_; clear hb; have z1_wc : wc.cell? ⟨g1, 0, none⟩ = some (.slice A0 l0.length c0) := (blk_cell BK1.out 0).trans rfl; have z2_wc : wc.cell? ⟨g2, 0, none⟩ = some (.int .i64 a) := (blk_cell BK2.out 0).trans rfl; have z3_wc : wc.cell? ⟨g3, 0, none⟩ = some (.int .i64 b) := (blk_cell BK3.out 0).trans rfl) | (go_at_call 66; (with_reducible refine (impl_isClass.calls _ _ l0 a true _ ?side1 ?side2 A6.out).mono ?_); (case side1 => repeat (first | exact (Kd.C_below HR0.out (by repeat (first | (with_reducible first | exact HB.out | apply below_alloc | apply pw_below_drewN | apply below_drew1) | exact HB.out))) | (with_reducible refine Kd.C_alloc ?_ _) | (with_reducible refine Kd.C_drewN ?_ _) | (with_reducible refine Kd.C_drew ?_))); (case side2 => exact HC0.out); rintro e w' ⟨rfl, ⟨nd, rfl⟩⟩) | (go_at_call 66; (with_reducible refine (impl_isClass.calls _ _ l0 b true _ ?side1 ?side2 A8.out).mono ?_); (case side1 => repeat (first | exact (Kd.C_below HR0.out (by repeat (first | (with_reducible first | exact HB.out | apply below_alloc | apply pw_below_drewN | apply below_drew1) | exact HB.out))) | (with_reducible refine Kd.C_alloc ?_ _) | (with_reducible refine Kd.C_drewN ?_ _) | (with_reducible refine Kd.C_drew ?_))); (case side2 => exact HC0.out); rintro e w' ⟨rfl, ⟨nd, rfl⟩⟩) | ((with_reducible refine gate_dst (N := 30) rfl ?_); refine Kd.R_make (Kd.int .i64) _ 3 rfl (N := 30) rfl 36 _ _ rfl (l0.length : Int) rfl rfl Try.underlying36 (.int .i64 0) 8 info3 rfl (by decide) (by omega) 0 (ok := fun _ => True) (okp := fun _ => True) rfl (fun _ hk => hk) trivial (Int.natCast_nonneg _) (Nat.le_trans (Nat.mul_le_mul_right _ C3.out) (by omega)) (Below.refl _ _) (Nat.le_refl _) ?_; intro v7 wm ho5 hb hg_ hnew_; clear hg_ hnew_; have HBS := Aside0.mk (below_size (by repeat (first | (with_reducible first | exact HB.out | apply below_alloc | apply pw_below_drewN | apply below_drew1) | exact HB.out))); have l1_ := Aside0.mk (blk_lt (by repeat (first | exact BK1.out | refine blk_drewN ?_ _ | refine blk_drew ?_ | refine blk_alloc ?_ _))); have l2_ := Aside0.mk (blk_lt (by repeat (first | exact BK2.out | refine blk_drewN ?_ _ | refine blk_drew ?_ | refine blk_alloc ?_ _))); have l3_ := Aside0.mk (blk_lt (by repeat (first | exact BK3.out | refine blk_drewN ?_ _ | refine blk_drew ?_ | refine blk_alloc ?_ _))); rw [← Ny.out] at ho5; have HO := Aside0.mk ho5; have n0_ := Aside0.mk (below_step (by repeat (first | (with_reducible first | exact HB.out | apply below_alloc | apply pw_below_drewN | apply below_drew1) | exact HB.out)) hb); have nk1_ := Aside0.mk (blk_below (by repeat (first | exact BK1.out | refine blk_drewN ?_ _ | refine blk_drew ?_ | refine blk_alloc ?_ _)) hb); have nk2_ := Aside0.mk (blk_below (by repeat (first | exact BK2.out | refine blk_drewN ?_ _ | refine blk_drew ?_ | refine blk_alloc ?_ _)) hb); have nk3_ := Aside0.mk (blk_below (by repeat (first | exact BK3.out | refine blk_drewN ?_ _ | refine blk_drew ?_ | refine blk_alloc ?_ _)) hb); clear HB; have HB := n0_; clear n0_; clear BK1; have BK1 := nk1_; clear nk1_; clear BK2; have BK2 := nk2_; clear nk2_; clear BK3; have BK3 := nk3_; clear nk3_; clear hb ho5; have z1_wm : wm.cell? ⟨g1, 0, none⟩ = some (.slice A0 l0.length c0) := (blk_cell BK1.out 0).trans rfl; have z2_wm : wm.cell? ⟨g2, 0, none⟩ = some (.int .i64 a) := (blk_cell BK2.out 0).trans rfl; have z3_wm : wm.cell? ⟨g3, 0, none⟩ = some (.int .i64 b) := (blk_cell BK3.out 0).trans rfl))
          have HOx : ∃ b0 : Nat, w.heap.size ≤ b0 ∧ g1 < b0 ∧ g2 < b0 ∧ g3 < b0 ∧ Kd.R (Kd.int .i64) 3 wm b0 (fun _ => True) v7 y0 := ⟨_, HBS.out, l1_.out, l2_.out, l3_.out, HO.out⟩
          obtain ⟨b0, hb0, hl1, hl2, hl3, ho⟩ := HOx
          clear HO HBS l1_ l2_ l3_
          have HO := Aside0.mk ho
          have HL0 := Aside0.mk hb0
          have HL1 := Aside0.mk hl1
          have HL2 := Aside0.mk hl2
          have HL3 := Aside0.mk hl3
          clear ho hb0 hl1 hl2 hl3
          go_loopg [33] k (fun kq v33 w' => ∃ (xs : List Int) (x33 : Int), v33 = .int .i64 x33 ∧ Aside0 (impl_ClassJoin.l0 kq l0 a b xs x33 = some r) ∧ Aside0 (kq ≤ k) ∧ Aside0 (Kd.R (Kd.int .i64) 3 w' b0 (fun _ => True) v7 xs) ∧ Aside0 (w'.heap[g1]? = some (.cells #[.slice A0 l0.length c0] 25 (0, 0))) ∧ Aside0 (w'.heap[g2]? = some (.cells #[.int .i64 a] 3 (0, 0))) ∧ Aside0 (w'.heap[g3]? = some (.cells #[.int .i64 b] 3 (0, 0))) ∧ Aside0 (Below w.heap.size w w'))
          case atStart => exact ⟨y0, (0), (by first | rfl | (simp; done) | (simp [*]; done)), H', ⟨Nat.le_refl _⟩, ⟨by (with_reducible repeat (first | apply Kd.R_alloc | apply Kd.R_drewN | apply Kd.R_drew)); exact HO.out⟩, ⟨by repeat (first | exact BK1.out | refine blk_drewN ?_ _ | refine blk_drew ?_ | refine blk_alloc ?_ _)⟩, ⟨by repeat (first | exact BK2.out | refine blk_drewN ?_ _ | refine blk_drew ?_ | refine blk_alloc ?_ _)⟩, ⟨by repeat (first | exact BK3.out | refine blk_drewN ?_ _ | refine blk_drew ?_ | refine blk_alloc ?_ _)⟩, ⟨by repeat (first | (with_reducible first | exact HB.out | apply below_alloc | apply pw_below_drewN | apply below_drew1) | exact HB.out)⟩⟩
          case round =>
            clear H'
            try clear p2
            obtain ⟨xs, x33, rfl, HA, HK1, HO_3, BKa, BKb, BKc, HBn⟩ := hrel
            clear BK1 BK2 BK3 HB
            have BK1 := BKa
            have BK2 := BKb
            have BK3 := BKc
            have HB := HBn
            clear BKa BKb BKc HBn
            cases gk with
            | zero => exact absurd HA.out (by simp [impl_ClassJoin.l0])
            | succ k1 =>
              have H := HA.out
              clear HA
              simp only [impl_ClassJoin.l0] at H
              have y1 : wr.cell? ⟨g1, 0, none⟩ = some (.slice A0 l0.length c0) := (blk_cell BK1.out 0).trans rfl
              have y2 : wr.cell? ⟨g2, 0, none⟩ = some (.int .i64 a) := (blk_cell BK2.out 0).trans rfl
              have y3 : wr.cell? ⟨g3, 0, none⟩ = some (.int .i64 b) := (blk_cell BK3.out 0).trans rfl
              by_cases c6 : x33 < (l0.length : Int)
              · rw [if_pos c6] at H
                have c6b0 : decide (x33 < (l0.length : Int)) = true := decide_eq_true c6
                clear c6
                by_cases c7 : 0 ≤ x33
                · rw [if_pos c7] at H
                  have c7b0 : decide (0 ≤ x33) = true := decide_eq_true c7
                  clear c7
                  by_cases c8 : x33 < (xs.length : Int)
                  · rw [if_pos c8] at H
                    have c8b0 : decide (x33 < (xs.length : Int)) = true := decide_eq_true c8
                    clear c8
                    obtain ⟨y118, hy118⟩ : ∃ y_ : List Int, y_ = (xs.set (x33 : Int).toNat x33) := ⟨_, rfl⟩
                    rw [← hy118] at H
                    have Ny118 := Aside0.mk hy118
                    clear hy118
                    have H' := Aside0.mk H
                    clear H
                    have p9 : 0 ≤ (x33 : Int) := of_decide_eq_true (by first | (with_reducible assumption) | assumption)
                    have q9 : (x33 : Int) < ((xs.length : Int) : Int) := of_decide_eq_true (by first | (with_reducible assumption) | assumption)
                    obtain ⟨go9, co9, eo9, gb9, gl9, cl9, HG9⟩ := Kd.R_form HO_3.out (by omega)
                    (first | cases eo9 | (injection eo9 with ea_ en_ ec_; (first | subst ea_ | (injection ea_ with ea_; subst ea_)); subst ec_; clear en_))
                    have GB9 := Aside0.mk gb9
                    have GG9 := Aside0.mk HG9
                    clear gb9 gl9 HG9
                    obtain ⟨hx9_0, hf9_0⟩ := Kd.R_celln 0 HO_3.out (x33 : Int) p9 q9
                    replace p9 := eq_true p9
                    replace q9 := eq_true q9
                    have HP10 := Kd.R_putg HO_3.out (x33 : Int) x33
                    go_wp2_with (first | ((with_reducible refine gate_store (t := 3) (p := 39) rfl ?_); refine store_event (t := 3) (p := 39) (v := ?vo_w11) (w1 := (wr.setCell ⟨go9, (x33 : Int).toNat, none⟩ (.int .i64 x33))) ?hg ?ho ?hn ?hr ?_; (case ho => rfl); (case hg => rfl); (case hn => rfl); (case hr => first | (go_simp; done) | (go_simp; rfl)); intro w11 hw; have hg : wr.grownBy w11 (some go9) := (by rw [hw]; exact HP10.2); have hp_ : Kd.R (Kd.int .i64) 3 w11 b0 (fun _ => True) (.slice (some ⟨go9, 0, none⟩) xs.length co9) y118 := (by rw [hw, Ny118.out]; exact HP10.1); clear HP10; have n0_ := Aside0.mk (hp_); have n1_ := Aside0.mk ((by rw [hw]; exact below_set (HB.out) (Nat.le_trans HL0.out GB9.out) : Below w.heap.size w w11)); have m1_ := Aside0.mk (blk_grown BK1.out hg (fun e_ => by have h1_ := GB9.out; have h2_ := HL1.out; injection e_ with e_; omega)); have m2_ := Aside0.mk (blk_grown BK2.out hg (fun e_ => by have h1_ := GB9.out; have h2_ := HL2.out; injection e_ with e_; omega)); have m3_ := Aside0.mk (blk_grown BK3.out hg (fun e_ => by have h1_ := GB9.out; have h2_ := HL3.out; injection e_ with e_; omega)); clear HO_3 HB BK1 BK2 BK3; have HO_3 := n0_; have HB := n1_; have BK1 := m1_; have BK2 := m2_; have BK3 := m3_; clear n0_ n1_ m1_ m2_ m3_; clear hg hw hp_))
                    go_roundg k1
                    case measure => have := HK1.out; omega
                    case rel => exact ⟨y118, (wrap64 (x33 + 1)), (by first | rfl | (simp; done) | (simp [*]; done)), H', ⟨by have := HK1.out; omega⟩, ⟨by (with_reducible repeat (first | apply Kd.R_alloc | apply Kd.R_drewN | apply Kd.R_drew)); exact HO_3.out⟩, ⟨by repeat (first | exact BK1.out | refine blk_drewN ?_ _ | refine blk_drew ?_ | refine blk_alloc ?_ _)⟩, ⟨by repeat (first | exact BK2.out | refine blk_drewN ?_ _ | refine blk_drew ?_ | refine blk_alloc ?_ _)⟩, ⟨by repeat (first | exact BK3.out | refine blk_drewN ?_ _ | refine blk_drew ?_ | refine blk_alloc ?_ _)⟩, ⟨by repeat (first | (with_reducible first | exact HB.out | apply below_alloc | apply pw_below_drewN | apply below_drew1) | exact HB.out)⟩⟩
                  · rw [if_neg c8] at H
                    exact absurd H (by simp)
                · rw [if_neg c7] at H
                  exact absurd H (by simp)
              · rw [if_neg c6] at H
                have c6b0 : decide (x33 < (l0.length : Int)) = false := decide_eq_false c6
                clear c6
                replace H := Option.bind_eq_some_iff.mp H
                obtain ⟨⟨p1, p2⟩, A90, H⟩ := H
                have A9 := Aside0.mk A90
                clear A90
                obtain ⟨Ao9, co9, eo9⟩ := Kd.R_slice HO_3.out
                subst eo9
                have HRO := Aside0.mk (Kd.R_reads' HO_3.out)
                cases p2 with
                | true =>
                  rw [if_pos rfl] at H
                  obtain rfl := Option.some.inj H
                  clear H
                  go_wp2_with (first | (go_at_call 77; go_loud (refine (impl_nearest.calls k1 A0 c0 l0 a b Ao9 co9 xs p1 _ wr g1 g2 g3 (Kd.C_below HR0.out HB.out) HC0.out HRO.out.2.2 HRO.out.2.1 y1 y2 y3 A9.out).mono ?_; rintro e w' ⟨rfl, ⟨nd, rfl⟩⟩)))
                  go_ret
                  exact ⟨rfl, by repeat (first | (with_reducible first | exact HB.out | apply below_alloc | apply pw_below_drewN | apply below_drew1) | exact HB.out)⟩
                | false =>
                  rw [if_neg (by simp)] at H
                  obtain rfl := Option.some.inj H
                  clear H
                  go_wp2_with (first | (go_at_call 77; go_loud (refine (impl_nearest.calls k1 A0 c0 l0 a b Ao9 co9 xs p1 _ wr g1 g2 g3 (Kd.C_below HR0.out HB.out) HC0.out HRO.out.2.2 HRO.out.2.1 y1 y2 y3 A9.out).mono ?_; rintro e w' ⟨rfl, ⟨nd, rfl⟩⟩)))
                  go_ret
                  exact ⟨rfl, by repeat (first | (with_reducible first | exact HB.out | apply below_alloc | apply pw_below_drewN | apply below_drew1) | exact HB.out)⟩
        · rw [if_neg C30] at H
          exact absurd H (by simp)
      · replace c8_ := Bool.eq_false_iff.mpr c8_
        subst c8_
        have H1 : (some (-1) : Option Int) = some r := by rw [if_neg (by decide)] at H; exact H
        obtain rfl := Option.some.inj H1
        clear H H1
        go_enter Try.func43, Try.ntmps43
        go_wp2_with (first | ((with_reducible refine gate_dst (N := 3) rfl ?_); (try (refine gate_guard (by rfl) ?_; dsimp only)); refine box_event ?hg (N := 3) ?hd (cs := #[(.slice A0 l0.length c0)]) (t := 25) ?hr ?_; (case hd => rfl); (case hg => rfl); (case hr => first | (go_simp; done) | (go_simp; rfl)); intro g1 hg wb1 hbox hb; have GE1 := Aside0.mk ((by rw [hg]; exact (below_size (by repeat (first | (with_reducible first | exact HB.out | apply below_alloc | apply pw_below_drewN | apply below_drew1) | exact HB.out))) : w.heap.size ≤ g1)); have n0_ := Aside0.mk (below_step (by repeat (first | (with_reducible first | exact HB.out | apply below_alloc | apply pw_below_drewN | apply below_drew1) | exact HB.out)) hb); clear HB; have HB := n0_; clear n0_; have BK1 := Aside0.mk hbox; clear hb hbox hg; have z1_wb1 : wb1.cell? ⟨g1, 0, none⟩ = some (.slice A0 l0.length c0) := (blk_cell BK1.out 0).trans rfl) | ((with_reducible refine gate_dst (N := 4) rfl ?_); (try (refine gate_guard (by rfl) ?_; dsimp only)); refine box_event ?hg (N := 4) ?hd (cs := #[(.int .i64 a)]) (t := 3) ?hr ?_; (case hd => rfl); (case hg => rfl); (case hr => first | (go_simp; done) | (go_simp; rfl)); intro g2 hg wb2 hbox hb; have GE2 := Aside0.mk ((by rw [hg]; exact (below_size (by repeat (first | (with_reducible first | exact HB.out | apply below_alloc | apply pw_below_drewN | apply below_drew1) | exact HB.out))) : w.heap.size ≤ g2)); have n0_ := Aside0.mk (below_step (by repeat (first | (with_reducible first | exact HB.out | apply below_alloc | apply pw_below_drewN | apply below_drew1) | exact HB.out)) hb); have nk1_ := Aside0.mk (blk_below (by repeat (first | exact BK1.out | refine blk_drewN ?_ _ | refine blk_drew ?_ | refine blk_alloc ?_ _)) hb); clear HB; have HB := n0_; clear n0_; clear BK1; have BK1 := nk1_; clear nk1_; have BK2 := Aside0.mk hbox; clear hb hbox hg; have z1_wb2 : wb2.cell? ⟨g1, 0, none⟩ = some (.slice A0 l0.length c0) := (blk_cell BK1.out 0).trans rfl; have z2_wb2 : wb2.cell? ⟨g2, 0, none⟩ = some (.int .i64 a) := (blk_cell BK2.out 0).trans rfl) | ((with_reducible refine gate_dst (N := 5) rfl ?_); (try (refine gate_guard (by rfl) ?_; dsimp only)); refine box_event ?hg (N := 5) ?hd (cs := #[(.int .i64 b)]) (t := 3) ?hr ?_; (case hd => rfl); (case hg => rfl); (case hr => first | (go_simp; done) | (go_simp; rfl)); intro g3 hg wb3 hbox hb; have GE3 := Aside0.mk ((by rw [hg]; exact (below_size (by repeat (first | (with_reducible first | exact HB.out | apply below_alloc | apply pw_below_drewN | apply below_drew1) | exact HB.out))) : w.heap.size ≤ g3)); have n0_ := Aside0.mk (below_step (by repeat (first | (with_reducible first | exact HB.out | apply below_alloc | apply pw_below_drewN | apply below_drew1) | exact HB.out)) hb); have nk1_ := Aside0.mk (blk_below (by repeat (first | exact BK1.out | refine blk_drewN ?_ _ | refine blk_drew ?_ | refine blk_alloc ?_ _)) hb); have nk2_ := Aside0.mk (blk_below (by repeat (first | exact BK2.out | refine blk_drewN ?_ _ | refine blk_drew ?_ | refine blk_alloc ?_ _)) hb); clear HB; have HB := n0_; clear n0_; clear BK1; have BK1 := nk1_; clear nk1_; clear BK2; have BK2 := nk2_; clear nk2_; have BK3 := Aside0.mk hbox; clear hb hbox hg; have z1_wb3 : wb3.cell? ⟨g1, 0, none⟩ = some (.slice A0 l0.length c0) := (blk_cell BK1.out 0).trans rfl; have z2_wb3 : wb3.cell? ⟨g2, 0, none⟩ = some (.int .i64 a) := (blk_cell BK2.out 0).trans rfl; have z3_wb3 : wb3.cell? ⟨g3, 0, none⟩ = some (.int .i64 b) := (blk_cell BK3.out 0).trans rfl) | ((with_reducible refine gate_callee (f := 23) rfl ?_); refine goesL_ (some 14) rfl rfl Try.func23 (by kernel_rfl) rfl #[.slice A0 l0.length c0] rfl (by (try simp only [List.map_toArray, List.map_cons, List.map_nil]); first | done | rfl | (simp only [List.length_drop, List.length_take]; rfl)) ?_; (with_reducible refine (impl_ClassesOk.calls k _ _ l0 true _ ?side1 ?side2 A4.out).mono ?_); (case side1 => repeat (first | exact (Kd.C_below HR0.out (by repeat (first | (with_reducible first | exact HB.out | apply below_alloc | apply pw_below_drewN | apply below_drew1) | exact HB.out))) | (with_reducible refine Kd.C_alloc ?_ _) | (with_reducible refine Kd.C_drewN ?_ _) | (with_reducible refine Kd.C_drew ?_))); (case side2 => exact HC0.out); rintro e wc ⟨rfl, hb⟩; refine ⟨_, rfl, ?_⟩; have n0_ := Aside0.mk (below_step (by repeat (first | (with_reducible first | exact HB.out | apply below_alloc | apply pw_below_drewN | apply below_drew1) | exact HB.out)) hb); have nk1_ := Aside0.mk (blk_below (by repeat (first | exact BK1.out | refine blk_drewN ?_ _ | refine blk_drew ?_ | refine blk_alloc ?_ _)) hb); have nk2_ := Aside0.mk (blk_below (by repeat (first | exact BK2.out | refine blk_drewN ?_ _ | refine blk_drew ?_ | refine blk_alloc ?_ _)) hb); have nk3_ := Aside0.mk (blk_below (by repeat (first | exact BK3.out | refine blk_drewN ?_ _ | refine blk_drew ?_ | refine blk_alloc ?_ _)) hb); clear HB; have HB := n0_; clear n0_; clear BK1; have BK1 := nk1_; clear nk1_; clear BK2; have BK2 := nk2_; clear nk2_; clear BK3; have BK3 := nk3_; clear nk3_; clear hb; have z1_wc : wc.cell? ⟨g1, 0, none⟩ = some (.slice A0 l0.length c0) := (blk_cell BK1.out 0).trans rfl; have z2_wc : wc.cell? ⟨g2, 0, none⟩ = some (.int .i64 a) := (blk_cell BK2.out 0).trans rfl; have z3_wc : wc.cell? ⟨g3, 0, none⟩ = some (.int .i64 b) := (blk_cell BK3.out 0).trans rfl) | (go_at_call 66; (with_reducible refine (impl_isClass.calls _ _ l0 a true _ ?side1 ?side2 A6.out).mono ?_); (case side1 => repeat (first | exact (Kd.C_below HR0.out (by repeat (first | (with_reducible first | exact HB.out | apply below_alloc | apply pw_below_drewN | apply below_drew1) | exact HB.out))) | (with_reducible refine Kd.C_alloc ?_ _) | (with_reducible refine Kd.C_drewN ?_ _) | (with_reducible refine Kd.C_drew ?_))); (case side2 => exact HC0.out); rintro e w' ⟨rfl, ⟨nd, rfl⟩⟩) | (go_at_call 66; (with_reducible refine (impl_isClass.calls _ _ l0 b false _ ?side1 ?side2 A8.out).mono ?_); (case side1 => repeat (first | exact (Kd.C_below HR0.out (by repeat (first | (with_reducible first | exact HB.out | apply below_alloc | apply pw_below_drewN | apply below_drew1) | exact HB.out))) | (with_reducible refine Kd.C_alloc ?_ _) | (with_reducible refine Kd.C_drewN ?_ _) | (with_reducible refine Kd.C_drew ?_))); (case side2 => exact HC0.out); rintro e w' ⟨rfl, ⟨nd, rfl⟩⟩))
        go_ret
        exact ⟨rfl, (by repeat (first | (with_reducible first | exact HB.out | apply below_alloc | apply pw_below_drewN | apply below_drew1) | exact HB.out))⟩
    · replace c6_ := Bool.eq_false_iff.mpr c6_
      subst c6_
      have H1 : (some (-1) : Option Int) = some r := by rw [if_neg (by decide)] at H; exact H
      obtain rfl := Option.some.inj H1
      clear H H1
      go_enter Try.func43, Try.ntmps43
      go_wp2_with (first | ((with_reducible refine gate_dst (N := 3) rfl ?_); (try (refine gate_guard (by rfl) ?_; dsimp only)); refine box_event ?hg (N := 3) ?hd (cs := #[(.slice A0 l0.length c0)]) (t := 25) ?hr ?_; (case hd => rfl); (case hg => rfl); (case hr => first | (go_simp; done) | (go_simp; rfl)); intro g1 hg wb1 hbox hb; have GE1 := Aside0.mk ((by rw [hg]; exact (below_size (by repeat (first | (with_reducible first | exact HB.out | apply below_alloc | apply pw_below_drewN | apply below_drew1) | exact HB.out))) : w.heap.size ≤ g1)); have n0_ := Aside0.mk (below_step (by repeat (first | (with_reducible first | exact HB.out | apply below_alloc | apply pw_below_drewN | apply below_drew1) | exact HB.out)) hb); clear HB; have HB := n0_; clear n0_; have BK1 := Aside0.mk hbox; clear hb hbox hg; have z1_wb1 : wb1.cell? ⟨g1, 0, none⟩ = some (.slice A0 l0.length c0) := (blk_cell BK1.out 0).trans rfl) | ((with_reducible refine gate_dst (N := 4) rfl ?_); (try (refine gate_guard (by rfl) ?_; dsimp only)); refine box_event ?hg (N := 4) ?hd (cs := #[(.int .i64 a)]) (t := 3) ?hr ?_; (case hd => rfl); (case hg => rfl); (case hr => first | (go_simp; done) | (go_simp; rfl)); intro g2 hg wb2 hbox hb; have GE2 := Aside0.mk ((by rw [hg]; exact (below_size (by repeat (first | (with_reducible first | exact HB.out | apply below_alloc | apply pw_below_drewN | apply below_drew1) | exact HB.out))) : w.heap.size ≤ g2)); have n0_ := Aside0.mk (below_step (by repeat (first | (with_reducible first | exact HB.out | apply below_alloc | apply pw_below_drewN | apply below_drew1) | exact HB.out)) hb); have nk1_ := Aside0.mk (blk_below (by repeat (first | exact BK1.out | refine blk_drewN ?_ _ | refine blk_drew ?_ | refine blk_alloc ?_ _)) hb); clear HB; have HB := n0_; clear n0_; clear BK1; have BK1 := nk1_; clear nk1_; have BK2 := Aside0.mk hbox; clear hb hbox hg; have z1_wb2 : wb2.cell? ⟨g1, 0, none⟩ = some (.slice A0 l0.length c0) := (blk_cell BK1.out 0).trans rfl; have z2_wb2 : wb2.cell? ⟨g2, 0, none⟩ = some (.int .i64 a) := (blk_cell BK2.out 0).trans rfl) | ((with_reducible refine gate_dst (N := 5) rfl ?_); (try (refine gate_guard (by rfl) ?_; dsimp only)); refine box_event ?hg (N := 5) ?hd (cs := #[(.int .i64 b)]) (t := 3) ?hr ?_; (case hd => rfl); (case hg => rfl); (case hr => first | (go_simp; done) | (go_simp; rfl)); intro g3 hg wb3 hbox hb; have GE3 := Aside0.mk ((by rw [hg]; exact (below_size (by repeat (first | (with_reducible first | exact HB.out | apply below_alloc | apply pw_below_drewN | apply below_drew1) | exact HB.out))) : w.heap.size ≤ g3)); have n0_ := Aside0.mk (below_step (by repeat (first | (with_reducible first | exact HB.out | apply below_alloc | apply pw_below_drewN | apply below_drew1) | exact HB.out)) hb); have nk1_ := Aside0.mk (blk_below (by repeat (first | exact BK1.out | refine blk_drewN ?_ _ | refine blk_drew ?_ | refine blk_alloc ?_ _)) hb); have nk2_ := Aside0.mk (blk_below (by repeat (first | exact BK2.out | refine blk_drewN ?_ _ | refine blk_drew ?_ | refine blk_alloc ?_ _)) hb); clear HB; have HB := n0_; clear n0_; clear BK1; have BK1 := nk1_; clear nk1_; clear BK2; have BK2 := nk2_; clear nk2_; have BK3 := Aside0.mk hbox; clear hb hbox hg; have z1_wb3 : wb3.cell? ⟨g1, 0, none⟩ = some (.slice A0 l0.length c0) := (blk_cell BK1.out 0).trans rfl; have z2_wb3 : wb3.cell? ⟨g2, 0, none⟩ = some (.int .i64 a) := (blk_cell BK2.out 0).trans rfl; have z3_wb3 : wb3.cell? ⟨g3, 0, none⟩ = some (.int .i64 b) := (blk_cell BK3.out 0).trans rfl) | ((with_reducible refine gate_callee (f := 23) rfl ?_); refine goesL_ (some 14) rfl rfl Try.func23 (by kernel_rfl) rfl #[.slice A0 l0.length c0] rfl (by (try simp only [List.map_toArray, List.map_cons, List.map_nil]); first | done | rfl | (simp only [List.length_drop, List.length_take]; rfl)) ?_; (with_reducible refine (impl_ClassesOk.calls k _ _ l0 true _ ?side1 ?side2 A4.out).mono ?_); (case side1 => repeat (first | exact (Kd.C_below HR0.out (by repeat (first | (with_reducible first | exact HB.out | apply below_alloc | apply pw_below_drewN | apply below_drew1) | exact HB.out))) | (with_reducible refine Kd.C_alloc ?_ _) | (with_reducible refine Kd.C_drewN ?_ _) | (with_reducible refine Kd.C_drew ?_))); (case side2 => exact HC0.out); rintro e wc ⟨rfl, hb⟩; refine ⟨_, rfl, ?_⟩; have n0_ := Aside0.mk (below_step (by repeat (first | (with_reducible first | exact HB.out | apply below_alloc | apply pw_below_drewN | apply below_drew1) | exact HB.out)) hb); have nk1_ := Aside0.mk (blk_below (by repeat (first | exact BK1.out | refine blk_drewN ?_ _ | refine blk_drew ?_ | refine blk_alloc ?_ _)) hb); have nk2_ := Aside0.mk (blk_below (by repeat (first | exact BK2.out | refine blk_drewN ?_ _ | refine blk_drew ?_ | refine blk_alloc ?_ _)) hb); have nk3_ := Aside0.mk (blk_below (by repeat (first | exact BK3.out | refine blk_drewN ?_ _ | refine blk_drew ?_ | refine blk_alloc ?_ _)) hb); clear HB; have HB := n0_; clear n0_; clear BK1; have BK1 := nk1_; clear nk1_; clear BK2; have BK2 := nk2_; clear nk2_; clear BK3; have BK3 := nk3_; clear nk3_; clear hb; have z1_wc : wc.cell? ⟨g1, 0, none⟩ = some (.slice A0 l0.length c0) := (blk_cell BK1.out 0).trans rfl; have z2_wc : wc.cell? ⟨g2, 0, none⟩ = some (.int .i64 a) := (blk_cell BK2.out 0).trans rfl; have z3_wc : wc.cell? ⟨g3, 0, none⟩ = some (.int .i64 b) := (blk_cell BK3.out 0).trans rfl) | (go_at_call 66; (with_reducible refine (impl_isClass.calls _ _ l0 a false _ ?side1 ?side2 A6.out).mono ?_); (case side1 => repeat (first | exact (Kd.C_below HR0.out (by repeat (first | (with_reducible first | exact HB.out | apply below_alloc | apply pw_below_drewN | apply below_drew1) | exact HB.out))) | (with_reducible refine Kd.C_alloc ?_ _) | (with_reducible refine Kd.C_drewN ?_ _) | (with_reducible refine Kd.C_drew ?_))); (case side2 => exact HC0.out); rintro e w' ⟨rfl, ⟨nd, rfl⟩⟩))
      go_ret
      exact ⟨rfl, (by repeat (first | (with_reducible first | exact HB.out | apply below_alloc | apply pw_below_drewN | apply below_drew1) | exact HB.out))⟩
  · replace c4 := Bool.eq_false_iff.mpr c4
    subst c4
    have H1 : (some (-1) : Option Int) = some r := by rw [if_neg (by decide)] at H; exact H
    obtain rfl := Option.some.inj H1
    clear H H1
    go_enter Try.func43, Try.ntmps43
    go_wp2_with (first | ((with_reducible refine gate_dst (N := 3) rfl ?_); (try (refine gate_guard (by rfl) ?_; dsimp only)); refine box_event ?hg (N := 3) ?hd (cs := #[(.slice A0 l0.length c0)]) (t := 25) ?hr ?_; (case hd => rfl); (case hg => rfl); (case hr => first | (go_simp; done) | (go_simp; rfl)); intro g1 hg wb1 hbox hb; have GE1 := Aside0.mk ((by rw [hg]; exact (below_size (by repeat (first | (with_reducible first | exact HB.out | apply below_alloc | apply pw_below_drewN | apply below_drew1) | exact HB.out))) : w.heap.size ≤ g1)); have n0_ := Aside0.mk (below_step (by repeat (first | (with_reducible first | exact HB.out | apply below_alloc | apply pw_below_drewN | apply below_drew1) | exact HB.out)) hb); clear HB; have HB := n0_; clear n0_; have BK1 := Aside0.mk hbox; clear hb hbox hg; have z1_wb1 : wb1.cell? ⟨g1, 0, none⟩ = some (.slice A0 l0.length c0) := (blk_cell BK1.out 0).trans rfl) | ((with_reducible refine gate_dst (N := 4) rfl ?_); (try (refine gate_guard (by rfl) ?_; dsimp only)); refine box_event ?hg (N := 4) ?hd (cs := #[(.int .i64 a)]) (t := 3) ?hr ?_; (case hd => rfl); (case hg => rfl); (case hr => first | (go_simp; done) | (go_simp; rfl)); intro g2 hg wb2 hbox hb; have GE2 := Aside0.mk ((by rw [hg]; exact (below_size (by repeat (first | (with_reducible first | exact HB.out | apply below_alloc | apply pw_below_drewN | apply below_drew1) | exact HB.out))) : w.heap.size ≤ g2)); have n0_ := Aside0.mk (below_step (by repeat (first | (with_reducible first | exact HB.out | apply below_alloc | apply pw_below_drewN | apply below_drew1) | exact HB.out)) hb); have nk1_ := Aside0.mk (blk_below (by repeat (first | exact BK1.out | refine blk_drewN ?_ _ | refine blk_drew ?_ | refine blk_alloc ?_ _)) hb); clear HB; have HB := n0_; clear n0_; clear BK1; have BK1 := nk1_; clear nk1_; have BK2 := Aside0.mk hbox; clear hb hbox hg; have z1_wb2 : wb2.cell? ⟨g1, 0, none⟩ = some (.slice A0 l0.length c0) := (blk_cell BK1.out 0).trans rfl; have z2_wb2 : wb2.cell? ⟨g2, 0, none⟩ = some (.int .i64 a) := (blk_cell BK2.out 0).trans rfl) | ((with_reducible refine gate_dst (N := 5) rfl ?_); (try (refine gate_guard (by rfl) ?_; dsimp only)); refine box_event ?hg (N := 5) ?hd (cs := #[(.int .i64 b)]) (t := 3) ?hr ?_; (case hd => rfl); (case hg => rfl); (case hr => first | (go_simp; done) | (go_simp; rfl)); intro g3 hg wb3 hbox hb; have GE3 := Aside0.mk ((by rw [hg]; exact (below_size (by repeat (first | (with_reducible first | exact HB.out | apply below_alloc | apply pw_below_drewN | apply below_drew1) | exact HB.out))) : w.heap.size ≤ g3)); have n0_ := Aside0.mk (below_step (by repeat (first | (with_reducible first | exact HB.out | apply below_alloc | apply pw_below_drewN | apply below_drew1) | exact HB.out)) hb); have nk1_ := Aside0.mk (blk_below (by repeat (first | exact BK1.out | refine blk_drewN ?_ _ | refine blk_drew ?_ | refine blk_alloc ?_ _)) hb); have nk2_ := Aside0.mk (blk_below (by repeat (first | exact BK2.out | refine blk_drewN ?_ _ | refine blk_drew ?_ | refine blk_alloc ?_ _)) hb); clear HB; have HB := n0_; clear n0_; clear BK1; have BK1 := nk1_; clear nk1_; clear BK2; have BK2 := nk2_; clear nk2_; have BK3 := Aside0.mk hbox; clear hb hbox hg; have z1_wb3 : wb3.cell? ⟨g1, 0, none⟩ = some (.slice A0 l0.length c0) := (blk_cell BK1.out 0).trans rfl; have z2_wb3 : wb3.cell? ⟨g2, 0, none⟩ = some (.int .i64 a) := (blk_cell BK2.out 0).trans rfl; have z3_wb3 : wb3.cell? ⟨g3, 0, none⟩ = some (.int .i64 b) := (blk_cell BK3.out 0).trans rfl) | ((with_reducible refine gate_callee (f := 23) rfl ?_); refine goesL_ (some 14) rfl rfl Try.func23 (by kernel_rfl) rfl #[.slice A0 l0.length c0] rfl (by (try simp only [List.map_toArray, List.map_cons, List.map_nil]); first | done | rfl | (simp only [List.length_drop, List.length_take]; rfl)) ?_; (with_reducible refine (impl_ClassesOk.calls k _ _ l0 false _ ?side1 ?side2 A4.out).mono ?_); (case side1 => repeat (first | exact (Kd.C_below HR0.out (by repeat (first | (with_reducible first | exact HB.out | apply below_alloc | apply pw_below_drewN | apply below_drew1) | exact HB.out))) | (with_reducible refine Kd.C_alloc ?_ _) | (with_reducible refine Kd.C_drewN ?_ _) | (with_reducible refine Kd.C_drew ?_))); (case side2 => exact HC0.out); rintro e wc ⟨rfl, hb⟩; refine ⟨_, rfl, ?_⟩; have n0_ := Aside0.mk (below_step (by repeat (first | (with_reducible first | exact HB.out | apply below_alloc | apply pw_below_drewN | apply below_drew1) | exact HB.out)) hb); have nk1_ := Aside0.mk (blk_below (by repeat (first | exact BK1.out | refine blk_drewN ?_ _ | refine blk_drew ?_ | refine blk_alloc ?_ _)) hb); have nk2_ := Aside0.mk (blk_below (by repeat (first | exact BK2.out | refine blk_drewN ?_ _ | refine blk_drew ?_ | refine blk_alloc ?_ _)) hb); have nk3_ := Aside0.mk (blk_below (by repeat (first | exact BK3.out | refine blk_drewN ?_ _ | refine blk_drew ?_ | refine blk_alloc ?_ _)) hb); clear HB; have HB := n0_; clear n0_; clear BK1; have BK1 := nk1_; clear nk1_; clear BK2; have BK2 := nk2_; clear nk2_; clear BK3; have BK3 := nk3_; clear nk3_; clear hb; have z1_wc : wc.cell? ⟨g1, 0, none⟩ = some (.slice A0 l0.length c0) := (blk_cell BK1.out 0).trans rfl; have z2_wc : wc.cell? ⟨g2, 0, none⟩ = some (.int .i64 a) := (blk_cell BK2.out 0).trans rfl; have z3_wc : wc.cell? ⟨g3, 0, none⟩ = some (.int .i64 b) := (blk_cell BK3.out 0).trans rfl))
    go_ret
    exact ⟨rfl, (by repeat (first | (with_reducible first | exact HB.out | apply below_alloc | apply pw_below_drewN | apply below_drew1) | exact HB.out))⟩
end Go.Proofs.Ytgmjolngnhdafaa.P

end
section
namespace Go.Proofs.Ytgmjolngnhdafaa.P
open Go.RowKit Go.Proofs.YtgmjolngnhdafaaW.PrintWords Go.Proofs.YtgmjolngnhdafaaW.PrintLast Go.Proofs.YtgmjolngnhdafaaW.PrintMore
attribute [local go_sem] max2_int min2_int max_two min_two max_three min_three max_four min_four
set_option linter.unusedVariables false
set_option linter.unusedSimpArgs false

set_option maxHeartbeats 8000000 in
set_option maxRecDepth 100000 in
theorem laws_FnClassJoin.calls (k : Nat) (A0 : Option Addr) (c0 : Nat) (l0 : List Int) (A1 : Option Addr) (c1 : Nat) (l1 : List Int) (r : Bool) (w : World) (hr0 : Kd.C (Kd.int .u8) w A0 l0.length l0) (hc0 : l0.length ≤ c0) (hr1 : Kd.C (Kd.int .u8) w A1 l1.length l1) (hc1 : l1.length ≤ c1) (h : laws_FnClassJoin.f k l0 l1 = some r) (hr_ : r = true) :
    Calls Try.prog 13 #[.slice A0 l0.length c0, .slice A1 l1.length c1] w fun e w' => e = .returned (.bool r) ∧ Below w.heap.size w w' := by
  have HR0 := Aside0.mk hr0
  have HC0 := Aside0.mk hc0
  clear hr0 hc0
  have HR1 := Aside0.mk hr1
  have HC1 := Aside0.mk hc1
  clear hr1 hc1
  have HB := Aside0.mk (Below.refl w.heap.size w)
  have H : (if (l0.length : Int) > 1048576 then (laws_FnClassJoin.j0 k l0 l1 true) else (laws_FnClassJoin.j0 k l0 l1 (decide ((l1.length : Int) > 1048576)))) = some r := h
  clear h
  have HC3 := Aside0.mk H
  clear H
  go_enter Try.func13, Try.ntmps13
  go_upto_region 1 with (fail)
  go_cut [17] (fun v17 wc => ∃ (kq : Nat) (x17_2 : Bool), v17 = .bool x17_2 ∧ Aside0 (laws_FnClassJoin.j0 kq l0 l1 x17_2 = some r) ∧ Aside0 (kq ≤ k) ∧ Aside0 (Below w.heap.size w wc))
  case first =>
    have H := HC3.out
    clear HC3
    by_cases c4 : (l0.length : Int) > 1048576
    · rw [if_pos c4] at H
      have c4b0 : decide (1048576 < (l0.length : Int)) = true := decide_eq_true c4
      have c4b1 : decide (1048576 < l0.length) = true := decide_eq_true (by omega)
      clear c4
      (first | rw [c4b0] | (simp only [i64_w, i32_w]; rw [c4b0]) | skip)
      have H' := Aside0.mk H
      clear H
      go_wp2
      go_meet
      case rel => exact ⟨_, (true), (by first | rfl | (simp; done) | (simp [*]; done)), H', ⟨by first | omega | exact Nat.le_refl _⟩, ⟨by repeat (first | (with_reducible first | exact HB.out | apply below_alloc | apply pw_below_drewN | apply below_drew1) | exact HB.out)⟩⟩
    · rw [if_neg c4] at H
      have c4b0 : decide (1048576 < (l0.length : Int)) = false := decide_eq_false c4
      have c4b1 : decide (1048576 < l0.length) = false := decide_eq_false (by omega)
      clear c4
      (first | rw [c4b0] | (simp only [i64_w, i32_w]; rw [c4b0]) | skip)
      have H' := Aside0.mk H
      clear H
      go_wp2
      go_meet
      case rel => exact ⟨_, (decide ((l1.length : Int) > 1048576)), (by first | rfl | (simp; done) | (simp [*]; done)), H', ⟨by first | omega | exact Nat.le_refl _⟩, ⟨by repeat (first | (with_reducible first | exact HB.out | apply below_alloc | apply pw_below_drewN | apply below_drew1) | exact HB.out)⟩⟩
  case rest =>
    clear HC3
    try clear c1
    try clear p2
    try clear c4
    try clear c4b0
    try clear c4b1
    obtain ⟨kq, x17_2, rfl, HA, HJ2, HB⟩ := hcut
    cases kq with
    | zero => exact absurd HA.out (by simp [laws_FnClassJoin.j0])
    | succ kj2 =>
      have H := HA.out
      clear HA
      simp only [laws_FnClassJoin.j0] at H
      by_cases c5 : x17_2 = true
      · subst c5
        have H1 : (some true) = some r := by rw [if_pos rfl] at H; exact H
        clear H
        have H := H1
        clear H1
        obtain rfl := Option.some.inj H
        simp only [Option.some.injEq, Prod.mk.injEq] at H
        obtain ⟨rfl⟩ := H
        go_wp2
        go_ret
        exact ⟨by first | rfl | (simp [errW_none, errW_some] <;> rfl) | (simp [*, errW_none, errW_some] <;> rfl), by repeat (first | (with_reducible first | exact HB.out | apply below_alloc | apply pw_below_drewN | apply below_drew1) | exact HB.out)⟩
      · replace c5 := Bool.eq_false_iff.mpr c5
        subst c5
        have H1 : ((spec_DrawClassJoin.f kj2 l0).bind fun bt466 => ((impl_ClassJoin.f kj2 bt466.1 bt466.2.1 bt466.2.2).bind fun t471 => ((spec_ClassJoin.f kj2 bt466.1 bt466.2.1 bt466.2.2).bind fun t472 => (if t471 = t472 then ((laws_leIs.f kj2 bt466.1 bt466.2.1).bind fun t473 => (if t473 = true then ((laws_leIs.f kj2 bt466.1 bt466.2.2).bind fun t474 => (laws_FnClassJoin.j1 kj2 l1 bt466.1 bt466.2.1 bt466.2.2 t471 (!t474))) else (laws_FnClassJoin.j1 kj2 l1 bt466.1 bt466.2.1 bt466.2.2 t471 true))) else (laws_FnClassJoin.j1 kj2 l1 bt466.1 bt466.2.1 bt466.2.2 t471 true))))) = some r := by rw [if_neg (show ¬ (false = true) by decide)] at H; exact H
        clear H
        have H := H1
        clear H1
        replace H := Option.bind_eq_some_iff.mp H
        obtain ⟨⟨t466, t469, t470⟩, A60, H⟩ := H
        replace H : ((impl_ClassJoin.f kj2 t466 t469 t470).bind fun t471 => ((spec_ClassJoin.f kj2 t466 t469 t470).bind fun t472 => (if t471 = t472 then ((laws_leIs.f kj2 t466 t469).bind fun t473 => (if t473 = true then ((laws_leIs.f kj2 t466 t470).bind fun t474 => (laws_FnClassJoin.j1 kj2 l1 t466 t469 t470 t471 (!t474))) else (laws_FnClassJoin.j1 kj2 l1 t466 t469 t470 t471 true))) else (laws_FnClassJoin.j1 kj2 l1 t466 t469 t470 t471 true)))) = some r := H
        have A6 := Aside0.mk A60
        clear A60
        replace H := Option.bind_eq_some_iff.mp H
        obtain ⟨t471, A70, H⟩ := H
        replace H : ((spec_ClassJoin.f kj2 t466 t469 t470).bind fun t472 => (if t471 = t472 then ((laws_leIs.f kj2 t466 t469).bind fun t473 => (if t473 = true then ((laws_leIs.f kj2 t466 t470).bind fun t474 => (laws_FnClassJoin.j1 kj2 l1 t466 t469 t470 t471 (!t474))) else (laws_FnClassJoin.j1 kj2 l1 t466 t469 t470 t471 true))) else (laws_FnClassJoin.j1 kj2 l1 t466 t469 t470 t471 true))) = some r := H
        have A7 := Aside0.mk A70
        clear A70
        have HC8 := Aside0.mk H
        clear H
        go_upto_region 5 with (first | ((with_reducible refine gate_callee (f := 42) rfl ?_); refine goesL_ (some 20) rfl rfl Try.func42 (by kernel_rfl) rfl #[.slice A0 l0.length c0] rfl (by (try simp only [List.map_toArray, List.map_cons, List.map_nil]); first | done | rfl | (simp only [List.length_drop, List.length_take]; rfl)) ?_; (with_reducible refine (spec_DrawClassJoin.calls kj2 _ _ l0 t466 t469 t470 _ ?side1 ?side2 A6.out).mono ?_); (case side1 => repeat (first | exact (Kd.C_below HR0.out HB.out) | (with_reducible refine Kd.C_alloc ?_ _) | (with_reducible refine Kd.C_drewN ?_ _) | (with_reducible refine Kd.C_drew ?_))); (case side2 => exact HC0.out); rintro e w9 ⟨v467, rfl, ho0, hb⟩; refine ⟨_, rfl, ?_⟩; have n0_ := Aside0.mk (Kd.N_lower (Kd.N_mono (ok' := fun k_ => True) ho0 (fun k_ hk_ => trivial)) (below_size (by repeat (first | (with_reducible first | exact HB.out | apply below_alloc | apply pw_below_drewN | apply below_drew1) | exact HB.out)))); have n1_ := Aside0.mk (below_step (by repeat (first | (with_reducible first | exact HB.out | apply below_alloc | apply pw_below_drewN | apply below_drew1) | exact HB.out)) hb); clear HB; have HO468 := n0_; have HB := n1_; clear n0_ n1_; (try clear hb); (try clear hb2); (try clear hk); (try clear hi); (try clear ho0); obtain ⟨Ao10, co10, eo10⟩ := Kd.N_slice HO468.out; subst eo10) | ((with_reducible refine gate_callee (f := 43) rfl ?_); refine goesL_ (some 27) rfl rfl Try.func43 (by kernel_rfl) rfl #[.slice Ao10 t466.length co10, .int .i64 t469, .int .i64 t470] rfl (by (try simp only [List.map_toArray, List.map_cons, List.map_nil]); first | done | rfl | (simp only [List.length_drop, List.length_take]; rfl)) ?_; (with_reducible refine (impl_ClassJoin.calls kj2 _ _ t466 t469 t470 t471 _ ?side1 ?side2 A7.out).mono ?_); (case side1 => repeat (first | exact (Kd.N_reads' HO468.out).2.2 | (with_reducible refine Kd.C_alloc ?_ _) | (with_reducible refine Kd.C_drewN ?_ _) | (with_reducible refine Kd.C_drew ?_))); (case side2 => exact (Kd.N_reads' HO468.out).2.1); rintro e w11 ⟨rfl, hb⟩; refine ⟨_, rfl, ?_⟩; have n0_ := Aside0.mk (Kd.N_below (by (with_reducible repeat (first | apply Kd.N_alloc | apply Kd.N_drewN | apply Kd.N_drew)); exact HO468.out) hb); have n1_ := Aside0.mk (below_step (by repeat (first | (with_reducible first | exact HB.out | apply below_alloc | apply pw_below_drewN | apply below_drew1) | exact HB.out)) hb); clear HO468; clear HB; have HO468 := n0_; have HB := n1_; clear n0_ n1_; (try clear hb); (try clear hb2); (try clear hk); (try clear hi)))
        (try simp only [Act.put, List.setIfInBounds_toArray, List.set_cons_zero, List.set_cons_succ])
        go_cut [45] (fun v45 wc => ∃ (kq : Nat) (x45_7 : Bool), v45 = .bool x45_7 ∧ Aside0 (laws_FnClassJoin.j1 kq l1 t466 t469 t470 t471 x45_7 = some r) ∧ Aside0 (kq ≤ kj2) ∧ Aside0 (Kd.N k38 38 wc w.heap.size (fun _ => True) (.slice Ao10 t466.length co10) t466) ∧ Aside0 (Below w.heap.size w wc))
        case first =>
          have H := HC8.out
          clear HC8
          replace H := Option.bind_eq_some_iff.mp H
          obtain ⟨t472, A120, H⟩ := H
          replace H : (if t471 = t472 then ((laws_leIs.f kj2 t466 t469).bind fun t473 => (if t473 = true then ((laws_leIs.f kj2 t466 t470).bind fun t474 => (laws_FnClassJoin.j1 kj2 l1 t466 t469 t470 t471 (!t474))) else (laws_FnClassJoin.j1 kj2 l1 t466 t469 t470 t471 true))) else (laws_FnClassJoin.j1 kj2 l1 t466 t469 t470 t471 true)) = some r := H
          have A12 := Aside0.mk A120
          clear A120
          by_cases c13 : t471 = t472
          · rw [if_pos c13] at H
            have c13b0 : (t471 == t472) = true := beq_iff_eq.mpr c13
            have c13b1 : (t471 != t472) = false := bne_eq_false_iff_eq.mpr c13
            clear c13
            (first | rw [c13b0] | (simp only [i64_w, i32_w]; rw [c13b0]) | skip)
            replace H := Option.bind_eq_some_iff.mp H
            obtain ⟨t473, A140, H⟩ := H
            replace H : (if t473 = true then ((laws_leIs.f kj2 t466 t470).bind fun t474 => (laws_FnClassJoin.j1 kj2 l1 t466 t469 t470 t471 (!t474))) else (laws_FnClassJoin.j1 kj2 l1 t466 t469 t470 t471 true)) = some r := H
            have A14 := Aside0.mk A140
            clear A140
            by_cases c15 : t473 = true
            · subst c15
              have H1 : ((laws_leIs.f kj2 t466 t470).bind fun t474 => (laws_FnClassJoin.j1 kj2 l1 t466 t469 t470 t471 (!t474))) = some r := by rw [if_pos rfl] at H; exact H
              clear H
              have H := H1
              clear H1
              replace H := Option.bind_eq_some_iff.mp H
              obtain ⟨t474, A160, H⟩ := H
              replace H : (laws_FnClassJoin.j1 kj2 l1 t466 t469 t470 t471 (!t474)) = some r := H
              have A16 := Aside0.mk A160
              clear A160
              have H' := Aside0.mk H
              clear H
              go_wp2_with (first | ((with_reducible refine gate_callee (f := 44) rfl ?_); refine goesL_ (some 32) rfl rfl Try.func44 (by kernel_rfl) rfl #[.slice Ao10 t466.length co10, .int .i64 t469, .int .i64 t470] rfl (by (try simp only [List.map_toArray, List.map_cons, List.map_nil]); first | done | rfl | (simp only [List.length_drop, List.length_take]; rfl)) ?_; (with_reducible refine (spec_ClassJoin.calls kj2 _ _ t466 t469 t470 t472 _ ?side1 ?side2 A12.out).mono ?_); (case side1 => repeat (first | exact (Kd.N_reads' HO468.out).2.2 | (with_reducible refine Kd.C_alloc ?_ _) | (with_reducible refine Kd.C_drewN ?_ _) | (with_reducible refine Kd.C_drew ?_))); (case side2 => exact (Kd.N_reads' HO468.out).2.1); rintro e w17 ⟨rfl, hb⟩; refine ⟨_, rfl, ?_⟩; have n0_ := Aside0.mk (Kd.N_below (by (with_reducible repeat (first | apply Kd.N_alloc | apply Kd.N_drewN | apply Kd.N_drew)); exact HO468.out) hb); have n1_ := Aside0.mk (below_step (by repeat (first | (with_reducible first | exact HB.out | apply below_alloc | apply pw_below_drewN | apply below_drew1) | exact HB.out)) hb); clear HO468; clear HB; have HO468 := n0_; have HB := n1_; clear n0_ n1_; (try clear hb); (try clear hb2); (try clear hk); (try clear hi)) | (go_at_call 30; (with_reducible refine (laws_leIs.calls kj2 _ _ t466 t469 true _ ?side1 ?side2 A14.out).mono ?_); (case side1 => repeat (first | exact (Kd.N_reads' HO468.out).2.2 | (with_reducible refine Kd.C_alloc ?_ _) | (with_reducible refine Kd.C_drewN ?_ _) | (with_reducible refine Kd.C_drew ?_))); (case side2 => exact (Kd.N_reads' HO468.out).2.1); rintro e w18 ⟨rfl, hb⟩; have n0_ := Aside0.mk (Kd.N_below (by (with_reducible repeat (first | apply Kd.N_alloc | apply Kd.N_drewN | apply Kd.N_drew)); exact HO468.out) hb); have n1_ := Aside0.mk (below_step (by repeat (first | (with_reducible first | exact HB.out | apply below_alloc | apply pw_below_drewN | apply below_drew1) | exact HB.out)) hb); clear HO468; clear HB; have HO468 := n0_; have HB := n1_; clear n0_ n1_; (try clear hb); (try clear hb2); (try clear hk); (try clear hi)) | (go_at_call 30; (with_reducible refine (laws_leIs.calls kj2 _ _ t466 t470 t474 _ ?side1 ?side2 A16.out).mono ?_); (case side1 => repeat (first | exact (Kd.N_reads' HO468.out).2.2 | (with_reducible refine Kd.C_alloc ?_ _) | (with_reducible refine Kd.C_drewN ?_ _) | (with_reducible refine Kd.C_drew ?_))); (case side2 => exact (Kd.N_reads' HO468.out).2.1); rintro e w19 ⟨rfl, hb⟩; have n0_ := Aside0.mk (Kd.N_below (by (with_reducible repeat (first | apply Kd.N_alloc | apply Kd.N_drewN | apply Kd.N_drew)); exact HO468.out) hb); have n1_ := Aside0.mk (below_step (by repeat (first | (with_reducible first | exact HB.out | apply below_alloc | apply pw_below_drewN | apply below_drew1) | exact HB.out)) hb); clear HO468; clear HB; have HO468 := n0_; have HB := n1_; clear n0_ n1_; (try clear hb); (try clear hb2); (try clear hk); (try clear hi)))
              go_meet
              case rel => exact ⟨_, (!t474), (by first | rfl | (simp; done) | (simp [*]; done)), H', ⟨by have := HJ2.out; first | omega | exact Nat.le_refl _⟩, ⟨by (with_reducible repeat (first | apply Kd.N_alloc | apply Kd.N_drewN | apply Kd.N_drew)); exact HO468.out⟩, ⟨by repeat (first | (with_reducible first | exact HB.out | apply below_alloc | apply pw_below_drewN | apply below_drew1) | exact HB.out)⟩⟩
            · replace c15 := Bool.eq_false_iff.mpr c15
              subst c15
              have H1 : (laws_FnClassJoin.j1 kj2 l1 t466 t469 t470 t471 true) = some r := by rw [if_neg (show ¬ (false = true) by decide)] at H; exact H
              clear H
              have H := H1
              clear H1
              have H' := Aside0.mk H
              clear H
              go_wp2_with (first | ((with_reducible refine gate_callee (f := 44) rfl ?_); refine goesL_ (some 32) rfl rfl Try.func44 (by kernel_rfl) rfl #[.slice Ao10 t466.length co10, .int .i64 t469, .int .i64 t470] rfl (by (try simp only [List.map_toArray, List.map_cons, List.map_nil]); first | done | rfl | (simp only [List.length_drop, List.length_take]; rfl)) ?_; (with_reducible refine (spec_ClassJoin.calls kj2 _ _ t466 t469 t470 t472 _ ?side1 ?side2 A12.out).mono ?_); (case side1 => repeat (first | exact (Kd.N_reads' HO468.out).2.2 | (with_reducible refine Kd.C_alloc ?_ _) | (with_reducible refine Kd.C_drewN ?_ _) | (with_reducible refine Kd.C_drew ?_))); (case side2 => exact (Kd.N_reads' HO468.out).2.1); rintro e w20 ⟨rfl, hb⟩; refine ⟨_, rfl, ?_⟩; have n0_ := Aside0.mk (Kd.N_below (by (with_reducible repeat (first | apply Kd.N_alloc | apply Kd.N_drewN | apply Kd.N_drew)); exact HO468.out) hb); have n1_ := Aside0.mk (below_step (by repeat (first | (with_reducible first | exact HB.out | apply below_alloc | apply pw_below_drewN | apply below_drew1) | exact HB.out)) hb); clear HO468; clear HB; have HO468 := n0_; have HB := n1_; clear n0_ n1_; (try clear hb); (try clear hb2); (try clear hk); (try clear hi)) | (go_at_call 30; (with_reducible refine (laws_leIs.calls kj2 _ _ t466 t469 false _ ?side1 ?side2 A14.out).mono ?_); (case side1 => repeat (first | exact (Kd.N_reads' HO468.out).2.2 | (with_reducible refine Kd.C_alloc ?_ _) | (with_reducible refine Kd.C_drewN ?_ _) | (with_reducible refine Kd.C_drew ?_))); (case side2 => exact (Kd.N_reads' HO468.out).2.1); rintro e w21 ⟨rfl, hb⟩; have n0_ := Aside0.mk (Kd.N_below (by (with_reducible repeat (first | apply Kd.N_alloc | apply Kd.N_drewN | apply Kd.N_drew)); exact HO468.out) hb); have n1_ := Aside0.mk (below_step (by repeat (first | (with_reducible first | exact HB.out | apply below_alloc | apply pw_below_drewN | apply below_drew1) | exact HB.out)) hb); clear HO468; clear HB; have HO468 := n0_; have HB := n1_; clear n0_ n1_; (try clear hb); (try clear hb2); (try clear hk); (try clear hi)))
              go_meet
              case rel => exact ⟨_, (true), (by first | rfl | (simp; done) | (simp [*]; done)), H', ⟨by have := HJ2.out; first | omega | exact Nat.le_refl _⟩, ⟨by (with_reducible repeat (first | apply Kd.N_alloc | apply Kd.N_drewN | apply Kd.N_drew)); exact HO468.out⟩, ⟨by repeat (first | (with_reducible first | exact HB.out | apply below_alloc | apply pw_below_drewN | apply below_drew1) | exact HB.out)⟩⟩
          · rw [if_neg c13] at H
            have c13b0 : (t471 == t472) = false := beq_eq_false_iff_ne.mpr c13
            have c13b1 : (t471 != t472) = true := bne_iff_ne.mpr c13
            (first | rw [c13b0] | (simp only [i64_w, i32_w]; rw [c13b0]) | skip)
            have H' := Aside0.mk H
            clear H
            go_wp2_with (first | ((with_reducible refine gate_callee (f := 44) rfl ?_); refine goesL_ (some 32) rfl rfl Try.func44 (by kernel_rfl) rfl #[.slice Ao10 t466.length co10, .int .i64 t469, .int .i64 t470] rfl (by (try simp only [List.map_toArray, List.map_cons, List.map_nil]); first | done | rfl | (simp only [List.length_drop, List.length_take]; rfl)) ?_; (with_reducible refine (spec_ClassJoin.calls kj2 _ _ t466 t469 t470 t472 _ ?side1 ?side2 A12.out).mono ?_); (case side1 => repeat (first | exact (Kd.N_reads' HO468.out).2.2 | (with_reducible refine Kd.C_alloc ?_ _) | (with_reducible refine Kd.C_drewN ?_ _) | (with_reducible refine Kd.C_drew ?_))); (case side2 => exact (Kd.N_reads' HO468.out).2.1); rintro e w22 ⟨rfl, hb⟩; refine ⟨_, rfl, ?_⟩; have n0_ := Aside0.mk (Kd.N_below (by (with_reducible repeat (first | apply Kd.N_alloc | apply Kd.N_drewN | apply Kd.N_drew)); exact HO468.out) hb); have n1_ := Aside0.mk (below_step (by repeat (first | (with_reducible first | exact HB.out | apply below_alloc | apply pw_below_drewN | apply below_drew1) | exact HB.out)) hb); clear HO468; clear HB; have HO468 := n0_; have HB := n1_; clear n0_ n1_; (try clear hb); (try clear hb2); (try clear hk); (try clear hi)))
            go_meet
            case rel => exact ⟨_, (true), (by first | rfl | (simp; done) | (simp [*]; done)), H', ⟨by have := HJ2.out; first | omega | exact Nat.le_refl _⟩, ⟨by (with_reducible repeat (first | apply Kd.N_alloc | apply Kd.N_drewN | apply Kd.N_drew)); exact HO468.out⟩, ⟨by repeat (first | (with_reducible first | exact HB.out | apply below_alloc | apply pw_below_drewN | apply below_drew1) | exact HB.out)⟩⟩
        case rest =>
          clear HC8
          try clear c1
          try clear p2
          try clear c4
          try clear c4b0
          try clear c4b1
          try clear c5
          try clear c13
          try clear c13b0
          try clear c13b1
          try clear c15
          try clear p2
          obtain ⟨kq, x45_7, rfl, HA, HJ7, HO_5, HB⟩ := hcut
          cases kq with
          | zero => exact absurd HA.out (by simp [laws_FnClassJoin.j1])
          | succ kj7 =>
            have H := HA.out
            clear HA
            simp only [laws_FnClassJoin.j1] at H
            by_cases c23 : x45_7 = true
            · subst c23
              have H1 : ((spec_ClassJoin.f kj7 t466 t469 t470).bind fun t475 => (some (t471 == t475))) = some r := by rw [if_pos rfl] at H; exact H
              clear H
              have H := H1
              clear H1
              replace H := Option.bind_eq_some_iff.mp H
              obtain ⟨t475, A240, H⟩ := H
              replace H : (some (t471 == t475)) = some r := H
              have A24 := Aside0.mk A240
              clear A240
              obtain rfl := Option.some.inj H
              simp only [Option.some.injEq, Prod.mk.injEq] at H
              obtain ⟨rfl⟩ := H
              go_wp2_with (first | ((with_reducible refine gate_callee (f := 44) rfl ?_); refine goesL_ (some 50) rfl rfl Try.func44 (by kernel_rfl) rfl #[.slice Ao10 t466.length co10, .int .i64 t469, .int .i64 t470] rfl (by (try simp only [List.map_toArray, List.map_cons, List.map_nil]); first | done | rfl | (simp only [List.length_drop, List.length_take]; rfl)) ?_; (with_reducible refine (spec_ClassJoin.calls kj7 _ _ t466 t469 t470 t475 _ ?side1 ?side2 A24.out).mono ?_); (case side1 => repeat (first | exact (Kd.N_reads' HO_5.out).2.2 | (with_reducible refine Kd.C_alloc ?_ _) | (with_reducible refine Kd.C_drewN ?_ _) | (with_reducible refine Kd.C_drew ?_))); (case side2 => exact (Kd.N_reads' HO_5.out).2.1); rintro e w25 ⟨rfl, hb⟩; refine ⟨_, rfl, ?_⟩; have n0_ := Aside0.mk (Kd.N_below (by (with_reducible repeat (first | apply Kd.N_alloc | apply Kd.N_drewN | apply Kd.N_drew)); exact HO_5.out) hb); have n1_ := Aside0.mk (below_step (by repeat (first | (with_reducible first | exact HB.out | apply below_alloc | apply pw_below_drewN | apply below_drew1) | exact HB.out)) hb); clear HO_5; clear HB; have HO_5 := n0_; have HB := n1_; clear n0_ n1_; (try clear hb); (try clear hb2); (try clear hk); (try clear hi)))
              go_ret
              exact ⟨by first | rfl | (simp [errW_none, errW_some] <;> rfl) | (simp [*, errW_none, errW_some] <;> rfl), by repeat (first | (with_reducible first | exact HB.out | apply below_alloc | apply pw_below_drewN | apply below_drew1) | exact HB.out)⟩
            · replace c23 := Bool.eq_false_iff.mpr c23
              subst c23
              have H1 : (if (t466.length : Int) = 0 then (none) else ((impl_ClassUp.f kj7 t466 t469 t471).bind fun t476 => (if t476 = true then ((impl_ClassUp.f kj7 t466 t470 t471).bind fun t477 => (if t477 = true then ((impl_ClassJoin.f kj7 t466 t470 t469).bind fun t478 => (laws_FnClassJoin.j2 kj7 t466 t469 t470 t471 ((l1.length : Int) % (t466.length : Int)) (t478 != t471))) else (laws_FnClassJoin.j2 kj7 t466 t469 t470 t471 ((l1.length : Int) % (t466.length : Int)) true))) else (laws_FnClassJoin.j2 kj7 t466 t469 t470 t471 ((l1.length : Int) % (t466.length : Int)) true)))) = some r := by rw [if_neg (show ¬ (false = true) by decide)] at H; exact H
              clear H
              have H := H1
              clear H1
              by_cases c26 : (t466.length : Int) = 0
              · rw [if_pos c26] at H
                exact absurd H (by simp)
              · rw [if_neg c26] at H
                have c26b0 : ((t466.length : Int) == 0) = false := beq_eq_false_iff_ne.mpr c26
                have c26b1 : ((t466.length : Int) != 0) = true := bne_iff_ne.mpr c26
                have c26b2 : ¬ (t466 = []) := fun h_ => c26 (by rw [h_]; rfl)
                have HC27 := Aside0.mk H
                clear H
                go_upto_region 8 with (fail)
                go_cut [76] (fun v76 wc => ∃ (kq : Nat) (x76_26 : Bool), v76 = .bool x76_26 ∧ Aside0 (laws_FnClassJoin.j2 kq t466 t469 t470 t471 ((l1.length : Int) % (t466.length : Int)) x76_26 = some r) ∧ Aside0 (kq ≤ kj7) ∧ Aside0 (Kd.N k38 38 wc w.heap.size (fun _ => True) (.slice Ao10 t466.length co10) t466) ∧ Aside0 (Below w.heap.size w wc))
                case first =>
                  have H := HC27.out
                  clear HC27
                  replace H := Option.bind_eq_some_iff.mp H
                  obtain ⟨t476, A280, H⟩ := H
                  replace H : (if t476 = true then ((impl_ClassUp.f kj7 t466 t470 t471).bind fun t477 => (if t477 = true then ((impl_ClassJoin.f kj7 t466 t470 t469).bind fun t478 => (laws_FnClassJoin.j2 kj7 t466 t469 t470 t471 ((l1.length : Int) % (t466.length : Int)) (t478 != t471))) else (laws_FnClassJoin.j2 kj7 t466 t469 t470 t471 ((l1.length : Int) % (t466.length : Int)) true))) else (laws_FnClassJoin.j2 kj7 t466 t469 t470 t471 ((l1.length : Int) % (t466.length : Int)) true)) = some r := H
                  have A28 := Aside0.mk A280
                  clear A280
                  by_cases c29 : t476 = true
                  · subst c29
                    have H1 : ((impl_ClassUp.f kj7 t466 t470 t471).bind fun t477 => (if t477 = true then ((impl_ClassJoin.f kj7 t466 t470 t469).bind fun t478 => (laws_FnClassJoin.j2 kj7 t466 t469 t470 t471 ((l1.length : Int) % (t466.length : Int)) (t478 != t471))) else (laws_FnClassJoin.j2 kj7 t466 t469 t470 t471 ((l1.length : Int) % (t466.length : Int)) true))) = some r := by rw [if_pos rfl] at H; exact H
                    clear H
                    have H := H1
                    clear H1
                    replace H := Option.bind_eq_some_iff.mp H
                    obtain ⟨t477, A300, H⟩ := H
                    replace H : (if t477 = true then ((impl_ClassJoin.f kj7 t466 t470 t469).bind fun t478 => (laws_FnClassJoin.j2 kj7 t466 t469 t470 t471 ((l1.length : Int) % (t466.length : Int)) (t478 != t471))) else (laws_FnClassJoin.j2 kj7 t466 t469 t470 t471 ((l1.length : Int) % (t466.length : Int)) true)) = some r := H
                    have A30 := Aside0.mk A300
                    clear A300
                    by_cases c31 : t477 = true
                    · subst c31
                      have H1 : ((impl_ClassJoin.f kj7 t466 t470 t469).bind fun t478 => (laws_FnClassJoin.j2 kj7 t466 t469 t470 t471 ((l1.length : Int) % (t466.length : Int)) (t478 != t471))) = some r := by rw [if_pos rfl] at H; exact H
                      clear H
                      have H := H1
                      clear H1
                      replace H := Option.bind_eq_some_iff.mp H
                      obtain ⟨t478, A320, H⟩ := H
                      replace H : (laws_FnClassJoin.j2 kj7 t466 t469 t470 t471 ((l1.length : Int) % (t466.length : Int)) (t478 != t471)) = some r := H
                      have A32 := Aside0.mk A320
                      clear A320
                      have H' := Aside0.mk H
                      clear H
                      go_wp2_with (first | ((with_reducible refine gate_callee (f := 28) rfl ?_); refine goesL_ (some 60) rfl rfl Try.func28 (by kernel_rfl) rfl #[.slice Ao10 t466.length co10, .int .i64 t469, .int .i64 t471] rfl (by (try simp only [List.map_toArray, List.map_cons, List.map_nil]); first | done | rfl | (simp only [List.length_drop, List.length_take]; rfl)) ?_; (with_reducible refine (impl_ClassUp.calls kj7 _ _ t466 t469 t471 true _ ?side1 ?side2 A28.out).mono ?_); (case side1 => repeat (first | exact (Kd.N_reads' HO_5.out).2.2 | (with_reducible refine Kd.C_alloc ?_ _) | (with_reducible refine Kd.C_drewN ?_ _) | (with_reducible refine Kd.C_drew ?_))); (case side2 => exact (Kd.N_reads' HO_5.out).2.1); rintro e w33 ⟨rfl, hb⟩; refine ⟨_, rfl, ?_⟩; have n0_ := Aside0.mk (Kd.N_below (by (with_reducible repeat (first | apply Kd.N_alloc | apply Kd.N_drewN | apply Kd.N_drew)); exact HO_5.out) hb); have n1_ := Aside0.mk (below_step (by repeat (first | (with_reducible first | exact HB.out | apply below_alloc | apply pw_below_drewN | apply below_drew1) | exact HB.out)) hb); clear HO_5; clear HB; have HO_5 := n0_; have HB := n1_; clear n0_ n1_; (try clear hb); (try clear hb2); (try clear hk); (try clear hi)) | (go_at_call 28; (with_reducible refine (impl_ClassUp.calls kj7 _ _ t466 t470 t471 true _ ?side1 ?side2 A30.out).mono ?_); (case side1 => repeat (first | exact (Kd.N_reads' HO_5.out).2.2 | (with_reducible refine Kd.C_alloc ?_ _) | (with_reducible refine Kd.C_drewN ?_ _) | (with_reducible refine Kd.C_drew ?_))); (case side2 => exact (Kd.N_reads' HO_5.out).2.1); rintro e w34 ⟨rfl, hb⟩; have n0_ := Aside0.mk (Kd.N_below (by (with_reducible repeat (first | apply Kd.N_alloc | apply Kd.N_drewN | apply Kd.N_drew)); exact HO_5.out) hb); have n1_ := Aside0.mk (below_step (by repeat (first | (with_reducible first | exact HB.out | apply below_alloc | apply pw_below_drewN | apply below_drew1) | exact HB.out)) hb); clear HO_5; clear HB; have HO_5 := n0_; have HB := n1_; clear n0_ n1_; (try clear hb); (try clear hb2); (try clear hk); (try clear hi)) | (go_at_call 43; (with_reducible refine (impl_ClassJoin.calls kj7 _ _ t466 t470 t469 t478 _ ?side1 ?side2 A32.out).mono ?_); (case side1 => repeat (first | exact (Kd.N_reads' HO_5.out).2.2 | (with_reducible refine Kd.C_alloc ?_ _) | (with_reducible refine Kd.C_drewN ?_ _) | (with_reducible refine Kd.C_drew ?_))); (case side2 => exact (Kd.N_reads' HO_5.out).2.1); rintro e w35 ⟨rfl, hb⟩; have n0_ := Aside0.mk (Kd.N_below (by (with_reducible repeat (first | apply Kd.N_alloc | apply Kd.N_drewN | apply Kd.N_drew)); exact HO_5.out) hb); have n1_ := Aside0.mk (below_step (by repeat (first | (with_reducible first | exact HB.out | apply below_alloc | apply pw_below_drewN | apply below_drew1) | exact HB.out)) hb); clear HO_5; clear HB; have HO_5 := n0_; have HB := n1_; clear n0_ n1_; (try clear hb); (try clear hb2); (try clear hk); (try clear hi)))
                      go_meet
                      case rel => exact ⟨_, ((t478 != t471)), (by first | rfl | (simp; done) | (simp [*]; done)), H', ⟨by have := HJ2.out; have := HJ7.out; first | omega | exact Nat.le_refl _⟩, ⟨by (with_reducible repeat (first | apply Kd.N_alloc | apply Kd.N_drewN | apply Kd.N_drew)); exact HO_5.out⟩, ⟨by repeat (first | (with_reducible first | exact HB.out | apply below_alloc | apply pw_below_drewN | apply below_drew1) | exact HB.out)⟩⟩
                    · replace c31 := Bool.eq_false_iff.mpr c31
                      subst c31
                      have H1 : (laws_FnClassJoin.j2 kj7 t466 t469 t470 t471 ((l1.length : Int) % (t466.length : Int)) true) = some r := by rw [if_neg (show ¬ (false = true) by decide)] at H; exact H
                      clear H
                      have H := H1
                      clear H1
                      have H' := Aside0.mk H
                      clear H
                      go_wp2_with (first | ((with_reducible refine gate_callee (f := 28) rfl ?_); refine goesL_ (some 60) rfl rfl Try.func28 (by kernel_rfl) rfl #[.slice Ao10 t466.length co10, .int .i64 t469, .int .i64 t471] rfl (by (try simp only [List.map_toArray, List.map_cons, List.map_nil]); first | done | rfl | (simp only [List.length_drop, List.length_take]; rfl)) ?_; (with_reducible refine (impl_ClassUp.calls kj7 _ _ t466 t469 t471 true _ ?side1 ?side2 A28.out).mono ?_); (case side1 => repeat (first | exact (Kd.N_reads' HO_5.out).2.2 | (with_reducible refine Kd.C_alloc ?_ _) | (with_reducible refine Kd.C_drewN ?_ _) | (with_reducible refine Kd.C_drew ?_))); (case side2 => exact (Kd.N_reads' HO_5.out).2.1); rintro e w36 ⟨rfl, hb⟩; refine ⟨_, rfl, ?_⟩; have n0_ := Aside0.mk (Kd.N_below (by (with_reducible repeat (first | apply Kd.N_alloc | apply Kd.N_drewN | apply Kd.N_drew)); exact HO_5.out) hb); have n1_ := Aside0.mk (below_step (by repeat (first | (with_reducible first | exact HB.out | apply below_alloc | apply pw_below_drewN | apply below_drew1) | exact HB.out)) hb); clear HO_5; clear HB; have HO_5 := n0_; have HB := n1_; clear n0_ n1_; (try clear hb); (try clear hb2); (try clear hk); (try clear hi)) | (go_at_call 28; (with_reducible refine (impl_ClassUp.calls kj7 _ _ t466 t470 t471 false _ ?side1 ?side2 A30.out).mono ?_); (case side1 => repeat (first | exact (Kd.N_reads' HO_5.out).2.2 | (with_reducible refine Kd.C_alloc ?_ _) | (with_reducible refine Kd.C_drewN ?_ _) | (with_reducible refine Kd.C_drew ?_))); (case side2 => exact (Kd.N_reads' HO_5.out).2.1); rintro e w37 ⟨rfl, hb⟩; have n0_ := Aside0.mk (Kd.N_below (by (with_reducible repeat (first | apply Kd.N_alloc | apply Kd.N_drewN | apply Kd.N_drew)); exact HO_5.out) hb); have n1_ := Aside0.mk (below_step (by repeat (first | (with_reducible first | exact HB.out | apply below_alloc | apply pw_below_drewN | apply below_drew1) | exact HB.out)) hb); clear HO_5; clear HB; have HO_5 := n0_; have HB := n1_; clear n0_ n1_; (try clear hb); (try clear hb2); (try clear hk); (try clear hi)))
                      go_meet
                      case rel => exact ⟨_, (true), (by first | rfl | (simp; done) | (simp [*]; done)), H', ⟨by have := HJ2.out; have := HJ7.out; first | omega | exact Nat.le_refl _⟩, ⟨by (with_reducible repeat (first | apply Kd.N_alloc | apply Kd.N_drewN | apply Kd.N_drew)); exact HO_5.out⟩, ⟨by repeat (first | (with_reducible first | exact HB.out | apply below_alloc | apply pw_below_drewN | apply below_drew1) | exact HB.out)⟩⟩
                  · replace c29 := Bool.eq_false_iff.mpr c29
                    subst c29
                    have H1 : (laws_FnClassJoin.j2 kj7 t466 t469 t470 t471 ((l1.length : Int) % (t466.length : Int)) true) = some r := by rw [if_neg (show ¬ (false = true) by decide)] at H; exact H
                    clear H
                    have H := H1
                    clear H1
                    have H' := Aside0.mk H
                    clear H
                    go_wp2_with (first | ((with_reducible refine gate_callee (f := 28) rfl ?_); refine goesL_ (some 60) rfl rfl Try.func28 (by kernel_rfl) rfl #[.slice Ao10 t466.length co10, .int .i64 t469, .int .i64 t471] rfl (by (try simp only [List.map_toArray, List.map_cons, List.map_nil]); first | done | rfl | (simp only [List.length_drop, List.length_take]; rfl)) ?_; (with_reducible refine (impl_ClassUp.calls kj7 _ _ t466 t469 t471 false _ ?side1 ?side2 A28.out).mono ?_); (case side1 => repeat (first | exact (Kd.N_reads' HO_5.out).2.2 | (with_reducible refine Kd.C_alloc ?_ _) | (with_reducible refine Kd.C_drewN ?_ _) | (with_reducible refine Kd.C_drew ?_))); (case side2 => exact (Kd.N_reads' HO_5.out).2.1); rintro e w38 ⟨rfl, hb⟩; refine ⟨_, rfl, ?_⟩; have n0_ := Aside0.mk (Kd.N_below (by (with_reducible repeat (first | apply Kd.N_alloc | apply Kd.N_drewN | apply Kd.N_drew)); exact HO_5.out) hb); have n1_ := Aside0.mk (below_step (by repeat (first | (with_reducible first | exact HB.out | apply below_alloc | apply pw_below_drewN | apply below_drew1) | exact HB.out)) hb); clear HO_5; clear HB; have HO_5 := n0_; have HB := n1_; clear n0_ n1_; (try clear hb); (try clear hb2); (try clear hk); (try clear hi)))
                    go_meet
                    case rel => exact ⟨_, (true), (by first | rfl | (simp; done) | (simp [*]; done)), H', ⟨by have := HJ2.out; have := HJ7.out; first | omega | exact Nat.le_refl _⟩, ⟨by (with_reducible repeat (first | apply Kd.N_alloc | apply Kd.N_drewN | apply Kd.N_drew)); exact HO_5.out⟩, ⟨by repeat (first | (with_reducible first | exact HB.out | apply below_alloc | apply pw_below_drewN | apply below_drew1) | exact HB.out)⟩⟩
                case rest =>
                  clear HC27
                  try clear c1
                  try clear c2
                  try clear p2
                  try clear c3
                  try clear c4
                  try clear c4b0
                  try clear c4b1
                  try clear c5
                  try clear c13
                  try clear c13b0
                  try clear c13b1
                  try clear c15
                  try clear c23
                  try clear c26
                  try clear c26b0
                  try clear c26b1
                  try clear c26b2
                  try clear c28
                  try clear c29
                  try clear c31
                  try clear p2
                  obtain ⟨kq, x76_26, rfl, HA, HJ26, HO_5, HB⟩ := hcut
                  cases kq with
                  | zero => exact absurd HA.out (by simp [laws_FnClassJoin.j2])
                  | succ kj26 =>
                    have H := HA.out
                    clear HA
                    simp only [laws_FnClassJoin.j2] at H
                    by_cases c39 : x76_26 = true
                    · subst c39
                      have H1 : (some false) = some r := by rw [if_pos rfl] at H; exact H
                      clear H
                      have H := H1
                      clear H1
                      obtain rfl := Option.some.inj H
                      exact absurd hr_ (by decide)
                    · replace c39 := Bool.eq_false_iff.mpr c39
                      subst c39
                      have H1 : ((impl_ClassUp.f kj26 t466 t469 ((l1.length : Int) % (t466.length : Int))).bind fun t479 => (if t479 = true then ((impl_ClassUp.f kj26 t466 t470 ((l1.length : Int) % (t466.length : Int))).bind fun t480 => (if t480 = true then ((impl_ClassUp.f kj26 t466 t471 ((l1.length : Int) % (t466.length : Int))).bind fun t481 => (some t481)) else (some true))) else (some true))) = some r := by rw [if_neg (show ¬ (false = true) by decide)] at H; exact H
                      clear H
                      have H := H1
                      clear H1
                      replace H := Option.bind_eq_some_iff.mp H
                      obtain ⟨t479, A400, H⟩ := H
                      replace H : (if t479 = true then ((impl_ClassUp.f kj26 t466 t470 ((l1.length : Int) % (t466.length : Int))).bind fun t480 => (if t480 = true then ((impl_ClassUp.f kj26 t466 t471 ((l1.length : Int) % (t466.length : Int))).bind fun t481 => (some t481)) else (some true))) else (some true)) = some r := H
                      have A40 := Aside0.mk A400
                      clear A400
                      by_cases c41 : t479 = true
                      · subst c41
                        have H1 : ((impl_ClassUp.f kj26 t466 t470 ((l1.length : Int) % (t466.length : Int))).bind fun t480 => (if t480 = true then ((impl_ClassUp.f kj26 t466 t471 ((l1.length : Int) % (t466.length : Int))).bind fun t481 => (some t481)) else (some true))) = some r := by rw [if_pos rfl] at H; exact H
                        clear H
                        have H := H1
                        clear H1
                        replace H := Option.bind_eq_some_iff.mp H
                        obtain ⟨t480, A420, H⟩ := H
                        replace H : (if t480 = true then ((impl_ClassUp.f kj26 t466 t471 ((l1.length : Int) % (t466.length : Int))).bind fun t481 => (some t481)) else (some true)) = some r := H
                        have A42 := Aside0.mk A420
                        clear A420
                        by_cases c43 : t480 = true
                        · subst c43
                          have H1 : ((impl_ClassUp.f kj26 t466 t471 ((l1.length : Int) % (t466.length : Int))).bind fun t481 => (some t481)) = some r := by rw [if_pos rfl] at H; exact H
                          clear H
                          have H := H1
                          clear H1
                          replace H := Option.bind_eq_some_iff.mp H
                          obtain ⟨t481, A440, H⟩ := H
                          replace H : (some t481) = some r := H
                          have A44 := Aside0.mk A440
                          clear A440
                          obtain rfl := Option.some.inj H
                          simp only [Option.some.injEq, Prod.mk.injEq] at H
                          obtain ⟨rfl⟩ := H
                          go_wp2_with (first | ((with_reducible refine gate_callee (f := 28) rfl ?_); refine goesL_ (some 80) rfl rfl Try.func28 (by kernel_rfl) rfl #[.slice Ao10 t466.length co10, .int .i64 t469, .int .i64 ((l1.length : Int) % (t466.length : Int))] rfl (by (try simp only [List.map_toArray, List.map_cons, List.map_nil]); first | done | rfl | (simp only [List.length_drop, List.length_take]; rfl)) ?_; (with_reducible refine (impl_ClassUp.calls kj26 _ _ t466 t469 ((l1.length : Int) % (t466.length : Int)) true _ ?side1 ?side2 A40.out).mono ?_); (case side1 => repeat (first | exact (Kd.N_reads' HO_5.out).2.2 | (with_reducible refine Kd.C_alloc ?_ _) | (with_reducible refine Kd.C_drewN ?_ _) | (with_reducible refine Kd.C_drew ?_))); (case side2 => exact (Kd.N_reads' HO_5.out).2.1); rintro e w45 ⟨rfl, hb⟩; refine ⟨_, rfl, ?_⟩; have n0_ := Aside0.mk (Kd.N_below (by (with_reducible repeat (first | apply Kd.N_alloc | apply Kd.N_drewN | apply Kd.N_drew)); exact HO_5.out) hb); have n1_ := Aside0.mk (below_step (by repeat (first | (with_reducible first | exact HB.out | apply below_alloc | apply pw_below_drewN | apply below_drew1) | exact HB.out)) hb); clear HO_5; clear HB; have HO_5 := n0_; have HB := n1_; clear n0_ n1_; (try clear hb); (try clear hb2); (try clear hk); (try clear hi)) | (go_at_call 28; (with_reducible refine (impl_ClassUp.calls kj26 _ _ t466 t470 ((l1.length : Int) % (t466.length : Int)) true _ ?side1 ?side2 A42.out).mono ?_); (case side1 => repeat (first | exact (Kd.N_reads' HO_5.out).2.2 | (with_reducible refine Kd.C_alloc ?_ _) | (with_reducible refine Kd.C_drewN ?_ _) | (with_reducible refine Kd.C_drew ?_))); (case side2 => exact (Kd.N_reads' HO_5.out).2.1); rintro e w46 ⟨rfl, hb⟩; have n0_ := Aside0.mk (Kd.N_below (by (with_reducible repeat (first | apply Kd.N_alloc | apply Kd.N_drewN | apply Kd.N_drew)); exact HO_5.out) hb); have n1_ := Aside0.mk (below_step (by repeat (first | (with_reducible first | exact HB.out | apply below_alloc | apply pw_below_drewN | apply below_drew1) | exact HB.out)) hb); clear HO_5; clear HB; have HO_5 := n0_; have HB := n1_; clear n0_ n1_; (try clear hb); (try clear hb2); (try clear hk); (try clear hi)) | (go_at_call 28; (with_reducible refine (impl_ClassUp.calls kj26 _ _ t466 t471 ((l1.length : Int) % (t466.length : Int)) t481 _ ?side1 ?side2 A44.out).mono ?_); (case side1 => repeat (first | exact (Kd.N_reads' HO_5.out).2.2 | (with_reducible refine Kd.C_alloc ?_ _) | (with_reducible refine Kd.C_drewN ?_ _) | (with_reducible refine Kd.C_drew ?_))); (case side2 => exact (Kd.N_reads' HO_5.out).2.1); rintro e w47 ⟨rfl, hb⟩; have n0_ := Aside0.mk (Kd.N_below (by (with_reducible repeat (first | apply Kd.N_alloc | apply Kd.N_drewN | apply Kd.N_drew)); exact HO_5.out) hb); have n1_ := Aside0.mk (below_step (by repeat (first | (with_reducible first | exact HB.out | apply below_alloc | apply pw_below_drewN | apply below_drew1) | exact HB.out)) hb); clear HO_5; clear HB; have HO_5 := n0_; have HB := n1_; clear n0_ n1_; (try clear hb); (try clear hb2); (try clear hk); (try clear hi)))
                          go_ret
                          exact ⟨by first | rfl | (simp [errW_none, errW_some] <;> rfl) | (simp [*, errW_none, errW_some] <;> rfl), by repeat (first | (with_reducible first | exact HB.out | apply below_alloc | apply pw_below_drewN | apply below_drew1) | exact HB.out)⟩
                        · replace c43 := Bool.eq_false_iff.mpr c43
                          subst c43
                          have H1 : (some true) = some r := by rw [if_neg (show ¬ (false = true) by decide)] at H; exact H
                          clear H
                          have H := H1
                          clear H1
                          obtain rfl := Option.some.inj H
                          simp only [Option.some.injEq, Prod.mk.injEq] at H
                          obtain ⟨rfl⟩ := H
                          go_wp2_with (first | ((with_reducible refine gate_callee (f := 28) rfl ?_); refine goesL_ (some 80) rfl rfl Try.func28 (by kernel_rfl) rfl #[.slice Ao10 t466.length co10, .int .i64 t469, .int .i64 ((l1.length : Int) % (t466.length : Int))] rfl (by (try simp only [List.map_toArray, List.map_cons, List.map_nil]); first | done | rfl | (simp only [List.length_drop, List.length_take]; rfl)) ?_; (with_reducible refine (impl_ClassUp.calls kj26 _ _ t466 t469 ((l1.length : Int) % (t466.length : Int)) true _ ?side1 ?side2 A40.out).mono ?_); (case side1 => repeat (first | exact (Kd.N_reads' HO_5.out).2.2 | (with_reducible refine Kd.C_alloc ?_ _) | (with_reducible refine Kd.C_drewN ?_ _) | (with_reducible refine Kd.C_drew ?_))); (case side2 => exact (Kd.N_reads' HO_5.out).2.1); rintro e w48 ⟨rfl, hb⟩; refine ⟨_, rfl, ?_⟩; have n0_ := Aside0.mk (Kd.N_below (by (with_reducible repeat (first | apply Kd.N_alloc | apply Kd.N_drewN | apply Kd.N_drew)); exact HO_5.out) hb); have n1_ := Aside0.mk (below_step (by repeat (first | (with_reducible first | exact HB.out | apply below_alloc | apply pw_below_drewN | apply below_drew1) | exact HB.out)) hb); clear HO_5; clear HB; have HO_5 := n0_; have HB := n1_; clear n0_ n1_; (try clear hb); (try clear hb2); (try clear hk); (try clear hi)) | (go_at_call 28; (with_reducible refine (impl_ClassUp.calls kj26 _ _ t466 t470 ((l1.length : Int) % (t466.length : Int)) false _ ?side1 ?side2 A42.out).mono ?_); (case side1 => repeat (first | exact (Kd.N_reads' HO_5.out).2.2 | (with_reducible refine Kd.C_alloc ?_ _) | (with_reducible refine Kd.C_drewN ?_ _) | (with_reducible refine Kd.C_drew ?_))); (case side2 => exact (Kd.N_reads' HO_5.out).2.1); rintro e w49 ⟨rfl, hb⟩; have n0_ := Aside0.mk (Kd.N_below (by (with_reducible repeat (first | apply Kd.N_alloc | apply Kd.N_drewN | apply Kd.N_drew)); exact HO_5.out) hb); have n1_ := Aside0.mk (below_step (by repeat (first | (with_reducible first | exact HB.out | apply below_alloc | apply pw_below_drewN | apply below_drew1) | exact HB.out)) hb); clear HO_5; clear HB; have HO_5 := n0_; have HB := n1_; clear n0_ n1_; (try clear hb); (try clear hb2); (try clear hk); (try clear hi)))
                          go_ret
                          exact ⟨by first | rfl | (simp [errW_none, errW_some] <;> rfl) | (simp [*, errW_none, errW_some] <;> rfl), by repeat (first | (with_reducible first | exact HB.out | apply below_alloc | apply pw_below_drewN | apply below_drew1) | exact HB.out)⟩
                      · replace c41 := Bool.eq_false_iff.mpr c41
                        subst c41
                        have H1 : (some true) = some r := by rw [if_neg (show ¬ (false = true) by decide)] at H; exact H
                        clear H
                        have H := H1
                        clear H1
                        obtain rfl := Option.some.inj H
                        simp only [Option.some.injEq, Prod.mk.injEq] at H
                        obtain ⟨rfl⟩ := H
                        go_wp2_with (first | ((with_reducible refine gate_callee (f := 28) rfl ?_); refine goesL_ (some 80) rfl rfl Try.func28 (by kernel_rfl) rfl #[.slice Ao10 t466.length co10, .int .i64 t469, .int .i64 ((l1.length : Int) % (t466.length : Int))] rfl (by (try simp only [List.map_toArray, List.map_cons, List.map_nil]); first | done | rfl | (simp only [List.length_drop, List.length_take]; rfl)) ?_; (with_reducible refine (impl_ClassUp.calls kj26 _ _ t466 t469 ((l1.length : Int) % (t466.length : Int)) false _ ?side1 ?side2 A40.out).mono ?_); (case side1 => repeat (first | exact (Kd.N_reads' HO_5.out).2.2 | (with_reducible refine Kd.C_alloc ?_ _) | (with_reducible refine Kd.C_drewN ?_ _) | (with_reducible refine Kd.C_drew ?_))); (case side2 => exact (Kd.N_reads' HO_5.out).2.1); rintro e w50 ⟨rfl, hb⟩; refine ⟨_, rfl, ?_⟩; have n0_ := Aside0.mk (Kd.N_below (by (with_reducible repeat (first | apply Kd.N_alloc | apply Kd.N_drewN | apply Kd.N_drew)); exact HO_5.out) hb); have n1_ := Aside0.mk (below_step (by repeat (first | (with_reducible first | exact HB.out | apply below_alloc | apply pw_below_drewN | apply below_drew1) | exact HB.out)) hb); clear HO_5; clear HB; have HO_5 := n0_; have HB := n1_; clear n0_ n1_; (try clear hb); (try clear hb2); (try clear hk); (try clear hi)))
                        go_ret
                        exact ⟨by first | rfl | (simp [errW_none, errW_some] <;> rfl) | (simp [*, errW_none, errW_some] <;> rfl), by repeat (first | (with_reducible first | exact HB.out | apply below_alloc | apply pw_below_drewN | apply below_drew1) | exact HB.out)⟩

theorem laws_FnClassJoin.walk (P : laws_FnClassJoin.Pure) (a0 : Option Addr) (len0 cap0 : Nat) (z0 : List Int) (a1 : Option Addr) (len1 cap1 : Nat) (z1 : List Int) (w : World) (w0 : (a0 = none ∧ len0 = 0 ∧ cap0 = 0 ∧ z0 = []) ∨ ∃ x, a0 = some x ∧ len0 ≤ cap0 ∧ cap0 ≤ maxLen ∧ z0.length = cap0 ∧ (∀ i, i < z0.length → w.cell? (x.add i) = some (.int .u8 (z0.getD i 0))) ∧ ∀ n ∈ z0, (Lit.int .u8 n).wf = true) (y0 : len0 * 1 ≤ 140737488351232) (w1 : (a1 = none ∧ len1 = 0 ∧ cap1 = 0 ∧ z1 = []) ∨ ∃ x, a1 = some x ∧ len1 ≤ cap1 ∧ cap1 ≤ maxLen ∧ z1.length = cap1 ∧ (∀ i, i < z1.length → w.cell? (x.add i) = some (.int .u8 (z1.getD i 0))) ∧ ∀ n ∈ z1, (Lit.int .u8 n).wf = true) (y1 : len1 * 1 ≤ 140737488351232) :
    Calls Try.prog 13 #[.slice a0 len0 cap0, .slice a1 len1 cap1] w fun e w' => e = .returned (.bool true) ∧ Below w.heap.size w w' := by
  obtain ⟨l0, rfl, hr0, hm0, hw0, hc0⟩ := ReadsInt.ofRowC w0
  obtain ⟨l1, rfl, hr1, hm1, hw1, hc1⟩ := ReadsInt.ofRowC w1
  obtain ⟨k, h⟩ := P l0 l1 hm0 y0 hw0 hm1 y1 hw1
  refine (laws_FnClassJoin.calls k _ _ l0 _ _ l1 true w (Kd.C_of_reads (d := (0 : Int)) (h1 := fun _ => rfl) hr0) hc0 (Kd.C_of_reads (d := (0 : Int)) (h1 := fun _ => rfl) hr1) hc1 h rfl).mono ?_
  rintro e w' ⟨rfl, hd⟩
  exact ⟨rfl, hd⟩

end Go.Proofs.Ytgmjolngnhdafaa.P

end
section
namespace Go.Proofs.Ytgmjolngnhdafaa.Kit
open Go Go.RowKit Go.Proofs.YtgmjolngnhdafaaW.PrintWords
set_option linter.unusedVariables false

/-- From some number of rounds on the answer is one that has P. -/
def Evp {α : Type} (g : Nat → Option α) (P : α → Prop) : Prop := ∃ r, Ev g r ∧ P r
theorem Evp.pure {α : Type} {P : α → Prop} (r : α) (h : P r) : Evp (fun _ => some r) P := ⟨r, Ev.now r, h⟩
theorem Evp.bind {α β : Type} {g : Nat → Option α} {f : Nat → α → Option β} {P : α → Prop} {Q : β → Prop} (h : Evp g P) (k : ∀ a, P a → Evp (fun n => f n a) Q) : Evp (fun n => (g n).bind (f n)) Q := by
  obtain ⟨a, ha, hp⟩ := h
  obtain ⟨r, hr, hq⟩ := k a hp
  exact ⟨r, Ev.bind ha hr, hq⟩
theorem Evp.step {α : Type} {g f : Nat → Option α} {P : α → Prop} (h : ∀ k, g (k + 1) = f k) (k : Evp f P) : Evp g P := by
  obtain ⟨r, hr, hp⟩ := k
  exact ⟨r, Ev.step h hr, hp⟩
theorem Evp.congr {α : Type} {g f : Nat → Option α} {P : α → Prop} (h : ∀ k, g k = f k) (k : Evp f P) : Evp g P := by
  obtain ⟨r, hr, hp⟩ := k
  exact ⟨r, Ev.congr h hr, hp⟩
theorem Evp.mono {α : Type} {g : Nat → Option α} {P Q : α → Prop} (h : Evp g P) (hpq : ∀ r, P r → Q r) : Evp g Q := by
  obtain ⟨r, hr, hp⟩ := h
  exact ⟨r, hr, hpq r hp⟩
theorem Evp.yes {α : Type} {c : Prop} [Decidable c] {f g : Nat → Option α} {P : α → Prop} (hc : c) (h : Evp f P) : Evp (fun n => if c then f n else g n) P := by
  simp only [if_pos hc]; exact h
theorem Evp.no {α : Type} {c : Prop} [Decidable c] {f g : Nat → Option α} {P : α → Prop} (hc : ¬ c) (h : Evp g P) : Evp (fun n => if c then f n else g n) P := by
  simp only [if_neg hc]; exact h
theorem Evp.ite {α : Type} {c : Prop} [Decidable c] {f g : Nat → Option α} {P : α → Prop} (h : c → Evp f P) (k : ¬ c → Evp g P) : Evp (fun n => if c then f n else g n) P := by
  by_cases hc : c
  · exact Evp.yes hc (h hc)
  · exact Evp.no hc (k hc)
theorem Evp.ev {α : Type} {g : Nat → Option α} {r : α} (h : Ev g r) : Evp g (fun x => x = r) := ⟨r, h, rfl⟩
theorem Ev.of_evp {α : Type} {g : Nat → Option α} {r : α} (h : Evp g (fun x => x = r)) : Ev g r := by
  obtain ⟨x, hx, rfl⟩ := h
  exact hx
theorem Evp.const {α : Type} {o : Option α} {r : α} {P : α → Prop} (h : o = some r) (hp : P r) : Evp (fun _ => o) P := ⟨r, ⟨0, fun _ _ => h⟩, hp⟩
theorem Evp.rounds {α : Type} {g : Nat → Option α} {r : α} (h : Evp g (fun x => x = r)) : ∃ k, g k = some r := (Ev.of_evp h).rounds
/-- Two that come to answers. -/
theorem Evp.and {α : Type} {g : Nat → Option α} {P Q : α → Prop} (h : Evp g P) (k : Evp g Q) : Evp g (fun x => P x ∧ Q x) := by
  obtain ⟨r, ⟨K, hr⟩, hp⟩ := h
  obtain ⟨r', ⟨K', hr'⟩, hq⟩ := k
  have e : r = r' := Option.some.inj ((hr (max K K') (by omega)).symm.trans (hr' (max K K') (by omega)))
  subst e
  exact ⟨r, ⟨K, hr⟩, hp, hq⟩

/-- A loop over places, by what is left. -/
theorem Evp.for_ {ρ : Type} {n : Nat} {g : Nat → Nat → Option ρ} {R : Nat → ρ → Prop} (hend : Evp (g n) (R n)) (hstep : ∀ i, i < n → Evp (g (i + 1)) (R (i + 1)) → Evp (g i) (R i)) : ∀ i, i ≤ n → Evp (g i) (R i) := by
  have key : ∀ d i, i + d = n → Evp (g i) (R i) := by
    intro d
    induction d with
    | zero => intro i hi; have : i = n := by omega
              subst this; exact hend
    | succ d ih => intro i hi; exact hstep i (by omega) (ih (i + 1) (by omega))
  intro i hi
  exact key (n - i) i (by omega)
/-- A loop over places with a state. -/
theorem Evp.fors {σ ρ : Type} {n : Nat} {g : Nat → σ → Nat → Option ρ} {I : Nat → σ → Prop} {R : Nat → σ → ρ → Prop} (hend : ∀ s, I n s → Evp (g n s) (R n s))
    (hstep : ∀ i, i < n → (∀ s, I (i + 1) s → Evp (g (i + 1) s) (R (i + 1) s)) → ∀ s, I i s → Evp (g i s) (R i s)) : ∀ i, i ≤ n → ∀ s, I i s → Evp (g i s) (R i s) := by
  have key : ∀ d i, i + d = n → ∀ s, I i s → Evp (g i s) (R i s) := by
    intro d
    induction d with
    | zero => intro i hi; have : i = n := by omega
              subst this; exact hend
    | succ d ih => intro i hi; exact hstep i (by omega) (ih (i + 1) (by omega))
  intro i hi
  exact key (n - i) i (by omega)
theorem drop_at {α : Type} {xs : List α} {i : Nat} (h : i < xs.length) : xs.drop i = xs[i] :: xs.drop (i + 1) := List.drop_eq_getElem_cons h
theorem getD_at {α : Type} {xs : List α} {i : Nat} (h : i < xs.length) (d : α) : xs.getD i d = xs[i] := by
  rw [List.getD_eq_getElem?_getD, List.getElem?_eq_getElem h]; rfl
theorem w64' {i n : Nat} (h : i < n) (hn : n ≤ 9223372036854775807) : wrap64 ((i : Int) + 1) = ((i + 1 : Nat) : Int) := by unfold wrap64; omega
theorem w64 {n : Int} (h0 : -9223372036854775808 ≤ n) (h1 : n ≤ 9223372036854775807) : wrap64 n = n := by unfold wrap64; omega
theorem tmod_pos {a b : Int} (h0 : 0 ≤ a) : Int.tmod a b = a % b := Int.tmod_eq_emod_of_nonneg h0
theorem tdiv_pos {a b : Int} (h0 : 0 ≤ a) : Int.tdiv a b = a / b := Int.tdiv_eq_ediv_of_nonneg h0
theorem tmod_lo {a b : Int} (h0 : 0 ≤ a) (hb : 0 < b) : 0 ≤ Int.tmod a b ∧ Int.tmod a b < b := by
  rw [tmod_pos h0]; exact ⟨Int.emod_nonneg _ (by omega), Int.emod_lt_of_pos _ hb⟩
theorem tmod256 (n : Int) : Int.tmod n 256 = if 0 ≤ n then n % 256 else -((-n) % 256) := by
  split
  · rename_i h; exact Int.tmod_eq_emod_of_nonneg h
  · rename_i h
    have h1 : Int.tmod (-n) 256 = (-n) % 256 := Int.tmod_eq_emod_of_nonneg (by omega)
    rw [Int.neg_tmod] at h1; omega
theorem tmod256' (n : Int) : ∃ m, Int.tmod n 256 = m ∧ (0 ≤ n ∧ m = n % 256 ∨ n < 0 ∧ m = -((-n) % 256)) := by
  refine ⟨_, tmod256 n, ?_⟩
  by_cases h : 0 ≤ n
  · exact .inl ⟨h, if_pos h⟩
  · exact .inr ⟨by omega, if_neg h⟩
theorem i8wrap (n : Int) : IntKind.i8.wrap n = (n + 128) % 256 - 128 := by
  simp [IntKind.wrap, IntKind.bits, IntKind.signed]
  omega
theorem xor_nonneg {a b : Int} (ha : 0 ≤ a) (ha' : a < 4611686018427387904) (hb : 0 ≤ b) (hb' : b < 4611686018427387904) :
    0 ≤ Go.bits .xor .i64 a b ∧ Go.bits .xor .i64 a b < 4611686018427387904 := by
  obtain ⟨x, rfl⟩ := Int.eq_ofNat_of_zero_le ha
  obtain ⟨y, rfl⟩ := Int.eq_ofNat_of_zero_le hb
  have hx : x < 2 ^ 62 := by omega
  have hy : y < 2 ^ 62 := by omega
  have hxy := Nat.xor_lt_two_pow hx hy
  have e : Go.bits .xor .i64 (x : Int) (y : Int) = ((x ^^^ y : Nat) : Int) := by
    show IntKind.i64.wrap (((BitVec.ofInt 64 (x : Int)) ^^^ (BitVec.ofInt 64 (y : Int))).toNat : Int) = _
    rw [BitVec.toNat_xor]
    have e1 : (BitVec.ofInt 64 (x : Int)).toNat = x := by simp; omega
    have e2 : (BitVec.ofInt 64 (y : Int)).toNat = y := by simp; omega
    rw [e1, e2, IntKind.wrap_i64]
    omega
  rw [e]
  omega
end Go.Proofs.Ytgmjolngnhdafaa.Kit

end
section
namespace Go.Proofs.Ytgmjolngnhdafaa.Kit
open Go Go.RowKit Go.Proofs.YtgmjolngnhdafaaW.PrintWords Go.Proofs.Ytgmjolngnhdafaa.P
set_option linter.unusedVariables false

/-- Bytes of a code, as many as are read. -/
def Bytes (bs : List Int) : Prop := bs.length ≤ 2000 ∧ ∀ x ∈ bs, 0 ≤ x ∧ x ≤ 255
theorem Bytes.rd {bs : List Int} (h : Bytes bs) (i : Int) : 0 ≤ rd bs i ∧ rd bs i ≤ 255 := by
  unfold Go.Proofs.YtgmjolngnhdafaaW.PrintWords.rd
  rw [List.getD_eq_getElem?_getD]
  by_cases hi : i.toNat < bs.length
  · rw [List.getElem?_eq_getElem hi]
    exact h.2 _ (List.getElem_mem hi)
  · rw [List.getElem?_eq_none (by omega)]
    simp
theorem open_evp {l : List Int} (h : ∀ x ∈ l, (Lit.int .u8 x).wf = true) : ∃ bs, spec_l6Open.f l = some (bs, 0) ∧ Bytes bs := by
  have hb : ∀ x ∈ l, 0 ≤ x ∧ x ≤ 255 := by
    intro x hx
    have := h x hx
    simp [Lit.wf, IntKind.min, IntKind.max, IntKind.signed, IntKind.bits] at this
    omega
  unfold spec_l6Open.f
  by_cases h1 : (l.length : Int) > 2000
  · rw [if_pos h1, if_pos (by omega)]
    exact ⟨_, rfl, by rw [List.length_take]; omega, fun x hx => hb x (List.mem_of_mem_take hx)⟩
  · rw [if_neg h1]
    exact ⟨_, rfl, by omega, hb⟩
theorem pick_evp {bs : List Int} (h : Bytes bs) {p n : Int} (h0 : 0 ≤ p) (h1 : p ≤ 1000000000) (hn : n ≤ 1000000000) :
    Evp (fun k => spec_l6Rd_pick.f k bs p n) (fun r => 0 ≤ r.1 ∧ (1 ≤ n → r.1 < n) ∧ r.2 = p + 1) := by
  have hp : wrap64 (p + 1) = p + 1 := w64 (by omega) (by omega)
  have hp1 : wrap64 (p + 1 - 1) = p := by rw [w64 (by omega) (by omega)]; omega
  have key : ∀ b : Bool, (b = false → 1 ≤ n ∧ bs.length ≠ 0) → Evp (fun k => spec_l6Rd_pick.j0 k n b bs (p + 1)) (fun r => 0 ≤ r.1 ∧ (1 ≤ n → r.1 < n) ∧ r.2 = p + 1) := by
    intro b hb
    refine Evp.step (f := fun k => _) (fun k => by rw [spec_l6Rd_pick.j0]) ?_
    rw [hp1]
    cases b with
    | true =>
      refine Evp.yes rfl (Evp.pure _ ⟨by omega, fun h => by show (0 : Int) < n; omega, rfl⟩)
    | false =>
      obtain ⟨hn1, hl⟩ := hb rfl
      have hlen : (bs.length : Int) ≤ 2000 := by have := h.1; omega
      refine Evp.no (by decide) (Evp.ite (fun hlt => ?_) (fun hge => ?_))
      · refine Evp.yes h0 (Evp.no (by omega) (Evp.pure _ ?_))
        have hr := h.rd p
        rw [w64 (by omega) (by omega)]
        have := tmod_lo (b := n) hr.1 (by omega)
        exact ⟨this.1, fun _ => this.2, rfl⟩
      · have hm1 := tmod_lo (a := p) (b := (bs.length : Int)) h0 (by omega)
        have e7 : wrap64 (wrap64 (p * 7) + 3) = p * 7 + 3 := by rw [w64 (n := p * 7) (by omega) (by omega), w64 (by omega) (by omega)]
        have hm2 := tmod_lo (a := p * 7 + 3) (b := (bs.length : Int)) (by omega) (by omega)
        rw [e7]
        refine Evp.no (by omega) (Evp.yes hm1.1 (Evp.yes hm1.2 (Evp.yes hm2.1 (Evp.yes hm2.2 (Evp.no (by omega) (Evp.pure _ ?_))))))
        have r1 := h.rd (Int.tmod p (bs.length : Int))
        have r2 := h.rd (Int.tmod (p * 7 + 3) (bs.length : Int))
        generalize rd bs (Int.tmod p (bs.length : Int)) = a at r1 ⊢
        generalize rd bs (Int.tmod (p * 7 + 3) (bs.length : Int)) = c at r2 ⊢
        have hq : 0 ≤ Int.tdiv p (bs.length : Int) ∧ Int.tdiv p (bs.length : Int) ≤ p := by
          rw [tdiv_pos h0]
          exact ⟨Int.ediv_nonneg h0 (by omega), Int.ediv_le_self _ h0⟩
        generalize Int.tdiv p (bs.length : Int) = q at hq ⊢
        have ea : wrap64 (wrap64 a * 131) = a * 131 := by rw [w64 (n := a) (by omega) (by omega), w64 (by omega) (by omega)]
        have ec : wrap64 (wrap64 c * 1117) = c * 1117 := by rw [w64 (n := c) (by omega) (by omega), w64 (by omega) (by omega)]
        have e29 : wrap64 (p * 29) = p * 29 := w64 (by omega) (by omega)
        have eq5 : wrap64 (wrap64 q * 53) = q * 53 := by rw [w64 (n := q) (by omega) (by omega), w64 (by omega) (by omega)]
        have ex : wrap64 (wrap64 (wrap64 (a * 131 + c * 1117) + p * 29) + q * 53) = a * 131 + c * 1117 + p * 29 + q * 53 := by
          rw [w64 (n := a * 131 + c * 1117) (by omega) (by omega), w64 (n := a * 131 + c * 1117 + p * 29) (by omega) (by omega), w64 (by omega) (by omega)]
        rw [ea, ec, e29, eq5, ex]
        generalize hx : a * 131 + c * 1117 + p * 29 + q * 53 = X
        have hX : 0 ≤ X ∧ X < 4611686018427387904 := by omega
        have hd : 0 ≤ Int.tdiv X 64 ∧ Int.tdiv X 64 ≤ X := by rw [tdiv_pos hX.1]; omega
        rw [w64 (n := Int.tdiv X 64) (by omega) (by omega)]
        have hz := xor_nonneg hX.1 hX.2 hd.1 (by omega)
        have := tmod_lo (b := n) hz.1 (by omega)
        exact ⟨this.1, fun _ => this.2, rfl⟩
  unfold spec_l6Rd_pick.f
  rw [hp]
  refine Evp.ite (fun hn1 => key true (fun h => by cases h)) (fun hn1 => key _ (fun hb => ⟨by omega, ?_⟩))
  intro hl
  rw [hl] at hb
  simp at hb
end Go.Proofs.Ytgmjolngnhdafaa.Kit

end
section
namespace Go.Proofs.Ytgmjolngnhdafaa.Kit
open Go Go.RowKit Go.Proofs.YtgmjolngnhdafaaW.PrintWords Go.Proofs.Ytgmjolngnhdafaa.P
set_option linter.unusedVariables false
abbrev Cls := S38
def sup (cs : List Cls) (i : Nat) : Int := (cs.getD i z38).f0
def flds (cs : List Cls) (i : Nat) : List Int := (cs.getD i z38).f1
def FieldTy (n : Nat) (t : Int) : Prop := t = 1 ∨ t = 3 ∨ t = 4 ∨ (8 ≤ t ∧ t < 8 + (n : Int))
structure ClsOk (cs : List Cls) : Prop where
  lo : 2 ≤ cs.length
  hi : cs.length ≤ 5
  root : sup cs 0 = -1 ∧ flds cs 0 = []
  fail : sup cs 1 = 0 ∧ flds cs 1 = [1]
  up : ∀ i, 2 ≤ i → i < cs.length → 0 ≤ sup cs i ∧ sup cs i < (i : Int) ∧ (flds cs i).length ≤ 2
  fld : ∀ i, i < cs.length → ∀ t ∈ flds cs i, FieldTy cs.length t
/-- a is b, or below it. -/
inductive Up (cs : List Cls) : Nat → Nat → Prop
  | refl (a : Nat) : Up cs a a
  | step {a b : Nat} (p : Nat) (hp : sup cs a = (p : Int)) (h : Up cs p b) : Up cs a b
theorem ClsOk.sup_pos {cs : List Cls} (h : ClsOk cs) {i : Nat} (h1 : 1 ≤ i) (h2 : i < cs.length) : 0 ≤ sup cs i ∧ sup cs i < (i : Int) := by
  rcases Nat.lt_or_ge i 2 with h3 | h3
  · have : i = 1 := by omega
    subst this
    rw [h.fail.1]
    decide
  · have := h.up i h3 h2
    exact ⟨this.1, this.2.1⟩
theorem ClsOk.sup_nat {cs : List Cls} (h : ClsOk cs) {i : Nat} (h1 : 1 ≤ i) (h2 : i < cs.length) : ∃ p : Nat, sup cs i = (p : Int) ∧ p < i := by
  obtain ⟨h3, h4⟩ := h.sup_pos h1 h2
  exact ⟨(sup cs i).toNat, by omega, by omega⟩
theorem ClsOk.len2 {cs : List Cls} (h : ClsOk cs) {i : Nat} (h2 : i < cs.length) : (flds cs i).length ≤ 2 := by
  rcases Nat.lt_or_ge i 2 with h3 | h3
  · rcases Nat.lt_or_ge i 1 with h4 | h4
    · have : i = 0 := by omega
      subst this
      rw [h.root.2]; decide
    · have : i = 1 := by omega
      subst this
      rw [h.fail.2]; decide
  · exact (h.up i h3 h2).2.2
theorem Up.le {cs : List Cls} (h : ClsOk cs) {a b : Nat} (hu : Up cs a b) (ha : a < cs.length) : b ≤ a := by
  induction hu with
  | refl a => exact Nat.le_refl _
  | @step a b p hp _ ih =>
    rcases Nat.eq_zero_or_pos a with h0 | h0
    · subst h0
      have := h.root.1
      omega
    · have := h.sup_pos h0 ha
      have := ih (by omega)
      omega
theorem Up.inv {cs : List Cls} {a b : Nat} (hu : Up cs a b) : a = b ∨ ∃ p : Nat, sup cs a = (p : Int) ∧ Up cs p b := by
  cases hu with
  | refl => exact .inl rfl
  | step p hp h => exact .inr ⟨p, hp, h⟩
theorem Up.trans {cs : List Cls} {a b c : Nat} (h1 : Up cs a b) (h2 : Up cs b c) : Up cs a c := by
  induction h1 with
  | refl => exact h2
  | step p hp _ ih => exact .step p hp (ih h2)
theorem Up.antisymm {cs : List Cls} (h : ClsOk cs) {a b : Nat} (ha : a < cs.length) (hb : b < cs.length) (h1 : Up cs a b) (h2 : Up cs b a) : a = b := by
  have := h1.le h ha
  have := h2.le h hb
  omega
theorem Up.root {cs : List Cls} (h : ClsOk cs) : ∀ {a : Nat}, a < cs.length → Up cs a 0 := by
  intro a
  induction a using Nat.strongRecOn with
  | _ a ih =>
    intro ha
    rcases Nat.eq_zero_or_pos a with h0 | h0
    · subst h0; exact .refl 0
    · obtain ⟨p, hp, hlt⟩ := h.sup_nat h0 ha
      exact .step p hp (ih p hlt (by omega))
/-- Of two above one, one is below the other. -/
theorem Up.line {cs : List Cls} {a b c : Nat} (h1 : Up cs a b) (h2 : Up cs a c) : Up cs b c ∨ Up cs c b := by
  induction h1 with
  | refl => exact .inl h2
  | step p hp hu ih =>
    rcases h2.inv with rfl | ⟨q, hq, hqc⟩
    · exact .inr (.step p hp hu)
    · have : p = q := by omega
      subst this
      exact ih hqc
/-- All fields of a class. -/
inductive Flds (cs : List Cls) : Nat → List Int → Prop
  | root : Flds cs 0 []
  | step {c : Nat} {l : List Int} (p : Nat) (hc : c ≠ 0) (hp : sup cs c = (p : Int)) (h : Flds cs p l) : Flds cs c (l ++ flds cs c)
theorem Flds.fn {cs : List Cls} {c : Nat} {l l' : List Int} (h : Flds cs c l) (h' : Flds cs c l') : l = l' := by
  induction h generalizing l' with
  | root =>
    cases h' with
    | root => rfl
    | step p hc _ _ => exact absurd rfl hc
  | step p hc hp _ ih =>
    cases h' with
    | root => exact absurd rfl hc
    | step q _ hq hl =>
      have : p = q := by omega
      subst this
      rw [ih hl]
theorem Flds.ex {cs : List Cls} (h : ClsOk cs) : ∀ {c : Nat}, c < cs.length → ∃ l, Flds cs c l ∧ l.length ≤ 2 * c := by
  intro c
  induction c using Nat.strongRecOn with
  | _ c ih =>
    intro hc
    rcases Nat.eq_zero_or_pos c with h0 | h0
    · subst h0; exact ⟨[], .root, by simp⟩
    · obtain ⟨p, hp, hlt⟩ := h.sup_nat h0 hc
      obtain ⟨l, hl, hn⟩ := ih p hlt (by omega)
      exact ⟨_, .step p (by omega) hp hl, by have := h.len2 hc; simp; omega⟩
theorem rdCls {cs : List Cls} (i : Nat) : rd_T38 cs (i : Int) = cs.getD i z38 := rfl
theorem rdSup {cs : List Cls} (i : Nat) : (rd_T38 cs (i : Int)).f0 = sup cs i := rfl
theorem rdFlds {cs : List Cls} (i : Nat) : (rd_T38 cs (i : Int)).f1 = flds cs i := rfl
theorem rdInt {xs : List Int} {i : Nat} (h : i < xs.length) : rd xs (i : Int) = xs[i] := getD_at h _
/-- Classes, each with not too many fields. -/
def SmallC (cs : List Cls) : Prop := cs.length ≤ 1048576 ∧ ∀ i, i < cs.length → (flds cs i).length ≤ 1048576 ∧ (∀ t ∈ flds cs i, -9223372036854775808 ≤ t ∧ t ≤ 9223372036854775807)
/-- Two answers, each told by the same. -/
theorem same_of {p : Prop} {a b : Bool} (ha : a = true ↔ p) (hb : b = true ↔ p) : a = b := by
  rw [Bool.eq_iff_iff, ha, hb]
theorem bne_no {a b : Bool} {p : Prop} (ha : a = true ↔ p) (hb : b = true ↔ p) : ¬ ((b != a) = true) := by
  rw [same_of hb ha]; simp
end Go.Proofs.Ytgmjolngnhdafaa.Kit

end
section
namespace Go.Proofs.Ytgmjolngnhdafaa.Kit
open Go Go.RowKit Go.Proofs.YtgmjolngnhdafaaW.PrintWords Go.Proofs.Ytgmjolngnhdafaa.P
set_option linter.unusedVariables false
def Few (l : List Int) : Prop := ∀ t ∈ l, -1000 ≤ t ∧ t ≤ 1000
theorem Few.nil : Few [] := by intro t ht; cases ht
theorem Few.snoc {l : List Int} {t : Int} (h : Few l) (h0 : -1000 ≤ t) (h1 : t ≤ 1000) : Few (l ++ [t]) := by
  intro x hx
  rcases List.mem_append.1 hx with hx | hx
  · exact h x hx
  · rw [List.mem_singleton.1 hx]; exact ⟨h0, h1⟩
def OkC (c : Nat) (x : Cls) : Prop := x.f1.length ≤ c ∧ Few x.f1
/-- Drawn classes: from 1 to m of them. -/
def Drawn (c m : Nat) (cs : List Cls) : Prop := 1 ≤ cs.length ∧ cs.length ≤ m ∧ ∀ x ∈ cs, OkC c x
theorem Drawn.mono {c c' m m' : Nat} {cs : List Cls} (h : Drawn c m cs) (hc : c ≤ c') (hm : m ≤ m') : Drawn c' m' cs := ⟨h.1, Nat.le_trans h.2.1 hm, fun x hx => ⟨Nat.le_trans (h.2.2 x hx).1 hc, (h.2.2 x hx).2⟩⟩
theorem Drawn.at {c m : Nat} {cs : List Cls} (h : Drawn c m cs) (i : Nat) : OkC c (cs.getD i z38) := by
  rw [List.getD_eq_getElem?_getD]
  by_cases hi : i < cs.length
  · rw [List.getElem?_eq_getElem hi]; exact h.2.2 _ (List.getElem_mem hi)
  · rw [List.getElem?_eq_none (by omega)]; exact ⟨Nat.zero_le _, Few.nil⟩
theorem Drawn.small {c m : Nat} {cs : List Cls} (h : Drawn c m cs) (hc : c ≤ 1048576) (hm : m ≤ 1048576) : SmallC cs := by
  refine ⟨Nat.le_trans h.2.1 hm, fun i hi => ?_⟩
  have := h.at i
  exact ⟨Nat.le_trans this.1 hc, fun t ht => by have := this.2 t ht; omega⟩
theorem Drawn.set {c m : Nat} {cs : List Cls} (h : Drawn c m cs) (i : Nat) {x : Cls} (hx : OkC c x) : Drawn c m (cs.set i x) := by
  refine ⟨by rw [List.length_set]; exact h.1, by rw [List.length_set]; exact h.2.1, fun y hy => ?_⟩
  rcases List.mem_or_eq_of_mem_set hy with h1 | h1
  · exact h.2.2 y h1
  · rw [h1]; exact hx
theorem Drawn.snoc {c m : Nat} {cs : List Cls} (h : Drawn c m cs) {x : Cls} (hx : OkC c x) : Drawn c (m + 1) (cs ++ [x]) := by
  refine ⟨by simp, by rw [List.length_append]; have := h.2.1; simp; omega, fun y hy => ?_⟩
  rcases List.mem_append.1 hy with h1 | h1
  · exact h.2.2 y h1
  · rw [List.mem_singleton.1 h1]; exact hx
theorem field_evp {bs : List Int} (h : Bytes bs) {p n : Int} (h0 : 0 ≤ p) (h1 : p ≤ 100000000) (hn : 1 ≤ n) (hn2 : n ≤ 100) :
    Evp (fun k => spec_l71Field.f k bs p n) (fun r => 1 ≤ r.1 ∧ r.1 < 8 + n ∧ p ≤ r.2 ∧ r.2 ≤ p + 2) := by
  unfold spec_l71Field.f
  refine Evp.bind (pick_evp h h0 (by omega) (by omega)) fun a ha => ?_
  have key : ∀ b : Bool, Evp (fun k => spec_l71Field.j0 k n a.1 b bs a.2) (fun r => 1 ≤ r.1 ∧ r.1 < 8 + n ∧ p ≤ r.2 ∧ r.2 ≤ p + 2) := by
    intro b
    refine Evp.step (f := fun k => _) (fun k => by rw [spec_l71Field.j0]) ?_
    refine Evp.ite (fun _ => Evp.pure _ (by dsimp only; omega)) (fun _ => Evp.ite (fun _ => Evp.pure _ (by dsimp only; omega)) (fun _ => Evp.ite (fun _ => Evp.pure _ (by dsimp only; omega)) (fun _ => ?_)))
    refine Evp.bind (pick_evp h (by omega) (by omega) (by omega)) fun c hc => Evp.pure _ ?_
    have := hc.2.1 hn
    dsimp only
    rw [w64 (by omega) (by omega)]
    omega
  exact Evp.ite (fun _ => key _) (fun _ => key _)
theorem classes_evp {bs : List Int} (h : Bytes bs) {p : Int} (h0 : 0 ≤ p) (h1 : p ≤ 10000000) :
    Evp (fun k => spec_l71Classes.f k bs p) (fun r => Drawn 3 5 r.1 ∧ 2 ≤ r.1.length ∧ p ≤ r.2 ∧ r.2 ≤ p + 100) := by
  unfold spec_l71Classes.f
  refine Evp.bind (pick_evp h h0 (by omega) (by omega)) fun a ha => ?_
  have ha2 := ha.2.1 (by omega)
  obtain ⟨n, hn⟩ : ∃ n : Nat, wrap64 (2 + a.1) = (n : Int) := ⟨(2 + a.1).toNat, by rw [w64 (by omega) (by omega)]; omega⟩
  rw [w64 (by omega) (by omega)] at hn
  rw [w64 (by omega) (by omega), hn]
  have k0 : ∀ d i : Nat, i + d = n → ∀ (cs : List Cls) (q : Int), Drawn 3 i cs → cs.length = i → 2 ≤ i → 0 ≤ q → q + 6 * (d : Int) ≤ 20000000 → Evp (fun k => spec_l71Classes.l0 k (n : Int) cs (i : Int) bs q) (fun r => Drawn 3 5 r.1 ∧ 2 ≤ r.1.length ∧ q ≤ r.2 ∧ r.2 ≤ q + 6 * d) := by
    intro d
    induction d with
    | zero =>
      intro i hi cs q hd hl h2 hq0 hq1
      refine Evp.step (f := fun k => _) (fun k => by rw [spec_l71Classes.l0]) (Evp.no (by omega) (Evp.pure _ ?_))
      exact ⟨hd.mono (by decide) (by omega), by dsimp only; omega, by dsimp only; omega, by dsimp only; omega⟩
    | succ d ih =>
      intro i hi cs q hd hl h2 hq0 hq1
      refine Evp.step (f := fun k => _) (fun k => by rw [spec_l71Classes.l0]) (Evp.yes (by omega) ?_)
      refine Evp.bind (pick_evp h hq0 (by omega) (by omega)) fun b hb => Evp.bind (pick_evp h (by omega) (by omega) (by omega)) fun c hc => ?_
      have hc2 := hc.2.1 (by omega)
      have k1 : ∀ j : Nat, ∀ (s : List Int) (q' : Int), s.length + j ≤ 2 → Few s → 0 ≤ q' → q' + 2 * (j : Int) + 6 * (d : Int) ≤ 20000000 → Evp (fun k => spec_l71Classes.l1 k (n : Int) cs (i : Int) (j : Int) bs q' b.1 s) (fun r => Drawn 3 5 r.1 ∧ 2 ≤ r.1.length ∧ q' ≤ r.2 ∧ r.2 ≤ q' + 2 * j + 6 * d) := by
        intro j
        induction j with
        | zero =>
          intro s q' hs hf hq0' hq1'
          refine Evp.step (f := fun k => _) (fun k => by rw [spec_l71Classes.l1]) (Evp.no (by omega) (Evp.yes (by omega) ?_))
          rw [w64' (n := n) (by omega) (by omega)]
          refine (ih (i + 1) (by omega) (cs ++ [⟨b.1, s⟩]) q' (hd.snoc ⟨by dsimp only; omega, hf⟩) (by simp; omega) (by omega) hq0' (by omega)).mono fun r hr => ?_
          exact ⟨hr.1, hr.2.1, hr.2.2.1, by omega⟩
        | succ j ihj =>
          intro s q' hs hf hq0' hq1'
          refine Evp.step (f := fun k => _) (fun k => by rw [spec_l71Classes.l1]) (Evp.yes (by omega) ?_)
          refine Evp.bind (field_evp h hq0' (by omega) (n := (n : Int)) (by omega) (by omega)) fun e he => Evp.yes (by omega) ?_
          rw [show wrap64 (((j + 1 : Nat) : Int) - 1) = (j : Int) by rw [w64 (by omega) (by omega)]; omega]
          refine (ihj (s ++ [e.1]) e.2 (by simp; omega) (hf.snoc (by omega) (by omega)) (by omega) (by omega)).mono fun r hr => ?_
          exact ⟨hr.1, hr.2.1, by omega, by omega⟩
      obtain ⟨j, hj⟩ : ∃ j : Nat, c.1 = (j : Int) := ⟨c.1.toNat, by omega⟩
      rw [hj]
      refine (k1 j [] c.2 (by simp; omega) Few.nil (by omega) (by omega)).mono fun r hr => ?_
      exact ⟨hr.1, hr.2.1, by omega, by omega⟩
  have hok : Drawn 3 2 ([(⟨-1, []⟩ : Cls), ⟨0, [1]⟩]) := by
    refine ⟨by decide, by decide, fun x hx => ?_⟩
    rcases List.mem_cons.1 hx with rfl | hx
    · exact ⟨Nat.zero_le _, Few.nil⟩
    · rw [List.mem_singleton.1 hx]
      exact ⟨by decide, Few.nil.snoc (by decide) (by decide)⟩
  refine Evp.mono (k0 (n - 2) 2 (by omega) _ a.2 hok rfl (by omega) (by omega) (by omega)) fun r hr => ?_
  exact ⟨hr.1, hr.2.1, by omega, by omega⟩
theorem off_evp {bs : List Int} (h : Bytes bs) {p : Int} (h0 : 0 ≤ p) (h1 : p ≤ 1000000) :
    Evp (fun k => spec_l71Off.f k bs p) (fun r => Drawn 4 9 r.1 ∧ p ≤ r.2 ∧ r.2 ≤ p + 110) := by
  unfold spec_l71Off.f
  refine Evp.bind (classes_evp h h0 (by omega)) fun a ha => Evp.bind (pick_evp h (by omega) (by omega) (by omega)) fun b hb => ?_
  have hd : Drawn 4 9 a.1 := ha.1.mono (by decide) (by decide)
  have hl := ha.2.1
  have hl5 := ha.1.2.1
  refine Evp.ite (fun _ => Evp.pure _ ⟨hd, by dsimp only; omega, by dsimp only; omega⟩) (fun _ => ?_)
  refine Evp.bind (pick_evp h (by omega) (by omega) (by omega)) fun c hc => Evp.bind (pick_evp h (by omega) (by omega) (by omega)) fun d hd' => ?_
  have hc2 := hc.2.1 (by omega)
  have at_ : ∀ i : Int, OkC 4 (rd_T38 a.1 i) := fun i => hd.at _
  refine Evp.ite (fun _ => ?_) (fun _ => Evp.ite (fun _ => ?_) (fun _ => Evp.ite (fun _ => ?_) (fun _ => Evp.ite (fun _ => ?_) (fun _ => Evp.ite (fun _ => ?_) (fun _ => ?_)))))
  · refine Evp.bind (pick_evp h (by omega) (by omega) (by omega)) fun e he => Evp.yes hc.1 (Evp.yes (by omega) (Evp.pure _ ⟨hd.set _ (at_ _), by dsimp only; omega, by dsimp only; omega⟩))
  · refine Evp.yes hc.1 (Evp.yes (by omega) ?_)
    simp only [Option.bind_some]
    refine Evp.bind (pick_evp h (by omega) (by omega) (by omega)) fun e he => ?_
    have he2 := he.2.1 (by omega)
    have hx : OkC 3 (rd_T38 a.1 c.1) := ha.1.at _
    refine Evp.yes he.1 (Evp.yes (by simp; omega) (Evp.yes (by have := hx.1; omega) (Evp.pure _ ⟨hd.set _ ⟨?_, ?_⟩, by dsimp only; omega, by dsimp only; omega⟩)))
    · have := hx.1
      simp
      omega
    · have key : ∀ e : Int, 0 ≤ e → e < 4 → -1000 ≤ rd [0, 2, 13, 5] e ∧ rd [0, 2, 13, 5] e ≤ 1000 := by
        intro e h0 h1
        have : e = 0 ∨ e = 1 ∨ e = 2 ∨ e = 3 := by omega
        rcases this with rfl | rfl | rfl | rfl <;> exact ⟨by decide, by decide⟩
      exact hx.2.snoc (key e.1 he.1 he2).1 (key e.1 he.1 he2).2
  · exact Evp.yes (by omega) (Evp.pure _ ⟨⟨by simp; omega, by simp; omega, fun x hx => hd.2.2 x (List.mem_of_mem_take hx)⟩, by dsimp only; omega, by dsimp only; omega⟩)
  · refine Evp.yes (by omega) ?_
    simp only [Option.bind_some]
    refine Evp.yes (by simp; omega) (Evp.pure _ ⟨⟨by simp, by simp; omega, fun x hx => ?_⟩, by dsimp only; omega, by dsimp only; omega⟩)
    rcases List.mem_append.1 hx with hx | hx
    · exact hd.2.2 x hx
    · have : x = rd_T38 a.1 1 := by
        simp only [List.mem_cons, List.not_mem_nil, or_false, or_self] at hx
        exact hx
      rw [this]; exact at_ 1
  · refine Evp.yes hc.1 (Evp.yes (by omega) (Evp.pure _ ⟨hd.set _ ⟨(by dsimp only; decide), ?_⟩, by dsimp only; omega, by dsimp only; omega⟩))
    intro t ht
    simp at ht
    omega
  · exact Evp.yes hc.1 (Evp.yes (by omega) (Evp.pure _ ⟨hd.set _ ⟨Nat.zero_le _, Few.nil⟩, by dsimp only; omega, by dsimp only; omega⟩))
end Go.Proofs.Ytgmjolngnhdafaa.Kit

end
section
namespace Go.Proofs.Ytgmjolngnhdafaa.P
open Go.RowKit Go.Proofs.YtgmjolngnhdafaaW.PrintWords Go.Proofs.YtgmjolngnhdafaaW.PrintLast Go.Proofs.YtgmjolngnhdafaaW.PrintMore
attribute [local go_sem] max2_int min2_int max_two min_two max_three min_three max_four min_four
set_option linter.unusedVariables false
set_option linter.unusedSimpArgs false

/-! ### spec_ClassUp: function 29 -/
def spec_ClassUp.f (k : Nat) (l0 : List (S38)) (a1 : Int) (a2 : Int) : Option (Bool) := (spec_l2Is.f k l0 a1).bind fun t235 => (if t235 = true then ((spec_l2Is.f k l0 a2).bind fun t236 => (if t236 = true then ((spec_l2Up.f k l0 a1 a2).bind fun t237 => (some t237)) else (some false))) else (some false))
theorem spec_ClassUp.mono : ∀ a0 a1 a2 k, LeO (spec_ClassUp.f k a0 a1 a2) (spec_ClassUp.f (k + 1) a0 a1 a2) := by
  intro a0 a1 a2 k
  unfold spec_ClassUp.f
  repeat' first
      | (with_reducible exact spec_l2Is.mono _ _ _)
      | (with_reducible exact spec_l2Up.mono _ _ _ _)
      | (with_reducible exact LeO.refl _)
      | (with_reducible exact LeO.none _)
      | (with_reducible refine LeO.ite ?_ ?_)
      | (with_reducible refine LeO.bind ?_ (fun _ => ?_))
      | exact spec_l2Is.mono _ _ _
      | exact spec_l2Up.mono _ _ _ _
      | exact LeO.none _
      | refine LeO.ite ?_ ?_
      | refine LeO.bind ?_ (fun _ => ?_)

end Go.Proofs.Ytgmjolngnhdafaa.P

end
