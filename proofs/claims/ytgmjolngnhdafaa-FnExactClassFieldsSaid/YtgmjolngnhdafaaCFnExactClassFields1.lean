/- FnExactClassFields: for all classes (of at most 2^20 values together) and a class the program's ClassFields answers as the reference does, leaves its argument, keeps nothing of it, and its answer owns its memory. -/
import Derived.Test.YtgmjolngnhdafaaCFnExactClassFields0
import Derived.Test.YtgmjolngnhdafaaWMore
import Derived.Deep.Slices
import Derived.Lib.SmallJoins
import Derived.DataReads
import Derived.WideShapes
import Derived.Test.YtgmjolngnhdafaaRows
import Derived.WalkKit
import Derived.ProofKit
import Derived.OpenShut
import Derived.ShutString
import Derived.ChangeOld
import Derived.Below
import Derived.SizedLaws
section
namespace Go.Proofs.Ytgmjolngnhdafaa.P
open Go.RowKit Go.Proofs.YtgmjolngnhdafaaW.PrintWords Go.Proofs.YtgmjolngnhdafaaW.PrintLast Go.Proofs.YtgmjolngnhdafaaW.PrintMore
attribute [local go_sem] max2_int min2_int max_two min_two max_three min_three max_four min_four
set_option linter.unusedVariables false
set_option linter.unusedSimpArgs false

set_option maxHeartbeats 8000000 in
set_option maxRecDepth 100000 in
theorem impl_isClass.calls (A0 : Option Addr) (c0 : Nat) (l0 : List (S38)) (a1 : Int) (r : Bool) (w : World) (hr0 : Kd.C k38 w A0 l0.length l0) (hc0 : l0.length ≤ c0) (h : impl_isClass.f l0 a1 = some r) :
    Calls Try.prog 66 #[.slice A0 l0.length c0, .int .i64 a1] w fun e w' => e = .returned (.bool r) ∧ Drawn0 w w' := by
  have HR0 := Aside0.mk hr0
  have HC0 := Aside0.mk hc0
  clear hr0 hc0
  have H : (if a1 ≥ 0 then (some (decide (a1 < (l0.length : Int)))) else (some false)) = some r := h
  clear h
  by_cases c3 : a1 ≥ 0
  · rw [if_pos c3] at H
    have c3b0 : decide (0 ≤ a1) = true := decide_eq_true c3
    clear c3
    obtain rfl := Option.some.inj H
    simp only [Option.some.injEq, Prod.mk.injEq] at H
    obtain ⟨rfl⟩ := H
    go_enter Try.func66, Try.ntmps66
    go_wp2
    go_ret
    exact ⟨by first | rfl | (simp; done) | (simp [*]; done), by repeat (first | exact Drawn0.refl _ | apply Drawn0.step)⟩
  · rw [if_neg c3] at H
    have c3b0 : decide (0 ≤ a1) = false := decide_eq_false c3
    clear c3
    obtain rfl := Option.some.inj H
    simp only [Option.some.injEq, Prod.mk.injEq] at H
    obtain ⟨rfl⟩ := H
    go_enter Try.func66, Try.ntmps66
    go_wp2
    go_ret
    exact ⟨by first | rfl | (simp; done) | (simp [*]; done), by repeat (first | exact Drawn0.refl _ | apply Drawn0.step)⟩

end Go.Proofs.Ytgmjolngnhdafaa.P

end
section
namespace Go.Proofs.Ytgmjolngnhdafaa.P
open Go.RowKit Go.Proofs.YtgmjolngnhdafaaW.PrintWords Go.Proofs.YtgmjolngnhdafaaW.PrintLast Go.Proofs.YtgmjolngnhdafaaW.PrintMore
attribute [local go_sem] max2_int min2_int max_two min_two max_three min_three max_four min_four
set_option linter.unusedVariables false
set_option linter.unusedSimpArgs false

def impl_classFields.T3 : Bool × List (List Nat × List Nat) := (true, [([], []), ([], []), ([], []), ([1, 2], [1, 2]), ([3], [3]), ([4], [4]), ([0, 5], [0, 5]), ([], []), ([], []), ([7, 8], [7, 8]), ([9], [9]), ([10], [10]), ([6, 11, 6], [6, 11]), ([12, 12, 0, 1, 2, 3, 4, 5, 6, 7, 8, 9, 10, 11, 12], [12])])
def impl_classFields.B3 : List Nat := [0, 0, 0, 6, 14, 30, 63, 0, 0, 384, 896, 1920, 4095, 8191]
theorem impl_classFields.tab3 : rtab .any (opsOf Try.f70 3) = impl_classFields.T3 := by kernel_rfl
theorem impl_classFields.bits3 : waitsOk impl_classFields.T3.2 impl_classFields.B3 = true := by kernel_rfl
set_option maxHeartbeats 8000000 in
set_option maxRecDepth 100000 in
theorem impl_classFields.calls (k : Nat) : ∀ (A0 : Option Addr) (c0 : Nat) (l0 : List (S38)) (a1 : Int) (r : List Int) (w : World) (hr0 : Kd.C k38 w A0 l0.length l0) (hc0 : l0.length ≤ c0) (h : impl_classFields.f k l0 a1 = some r),
    Calls Try.prog 70 #[.slice A0 l0.length c0, .int .i64 a1] w fun e w' => ∃ v0_ : Value, e = .returned (v0_) ∧ Kd.R (Kd.int .i64) 3 w' w.heap.size (fun _ => True) v0_ r ∧ Below w.heap.size w w' := by
  induction k using Nat.strongRecOn with
  | _ k ih =>
  intro A0 c0 l0 a1 r w hr0 hc0 h
  cases k with
  | zero => exact absurd h (by simp [impl_classFields.f])
  | succ k =>
  simp only [impl_classFields.f] at h
  have HR0 := Aside0.mk hr0
  have HC0 := Aside0.mk hc0
  clear hr0 hc0
  have HB := Aside0.mk (Below.refl w.heap.size w)
  have H : (if a1 = 0 then (some ([] : List Int)) else (if 0 ≤ a1 then (if a1 < (l0.length : Int) then ((impl_classFields.f k l0 ((rd_T38 l0 a1).f0)).bind fun t291 => (if t291.length + ((rd_T38 l0 a1).f1).length < 17592186044416 then (some (t291 ++ ((rd_T38 l0 a1).f1))) else (none))) else (none)) else (none))) = some r := h
  clear h
  by_cases c3 : a1 = 0
  · rw [if_pos c3] at H
    have c3b0 : (a1 == 0) = true := beq_iff_eq.mpr c3
    have c3b1 : (a1 != 0) = false := bne_eq_false_iff_eq.mpr c3
    clear c3
    obtain rfl := Option.some.inj H
    simp only [Option.some.injEq, Prod.mk.injEq] at H
    obtain ⟨rfl⟩ := H
    go_enter Try.func70, Try.ntmps70
    go_wp2
    go_ret
    exact ⟨_, by first | rfl | (simp [errW_none, errW_some] <;> rfl) | (simp [*, errW_none, errW_some] <;> rfl), by first | exact Kd.R_nil _ _ _ _ _ | exact Kd.N_nil _ _ _ _ _ | exact Kd.V_nil _ _ _ _ _ | exact Kd.Q_nil _ _ _ _ _ | exact Kd.S_nil _ _ _ _ _, by repeat (first | (with_reducible first | exact HB.out | apply below_alloc | apply pw_below_drewN | apply below_drew1) | exact HB.out)⟩
  · rw [if_neg c3] at H
    have c3b0 : (a1 == 0) = false := beq_eq_false_iff_ne.mpr c3
    have c3b1 : (a1 != 0) = true := bne_iff_ne.mpr c3
    by_cases c4 : 0 ≤ a1
    · rw [if_pos c4] at H
      have c4b0 : decide (0 ≤ a1) = true := decide_eq_true c4
      clear c4
      by_cases c5 : a1 < (l0.length : Int)
      · rw [if_pos c5] at H
        have c5b0 : decide (a1 < (l0.length : Int)) = true := decide_eq_true c5
        clear c5
        replace H := Option.bind_eq_some_iff.mp H
        obtain ⟨t291, A60, H⟩ := H
        replace H : (if t291.length + ((rd_T38 l0 a1).f1).length < 17592186044416 then (some (t291 ++ ((rd_T38 l0 a1).f1))) else (none)) = some r := H
        have A6 := Aside0.mk A60
        clear A60
        by_cases c7 : t291.length + ((rd_T38 l0 a1).f1).length < 17592186044416
        · rw [if_pos c7] at H
          have LMc7 := Aside0.mk c7
          clear c7
          obtain ⟨y295, hy295⟩ : ∃ y_ : List Int, y_ = (t291 ++ ((rd_T38 l0 a1).f1)) := ⟨_, rfl⟩
          replace H : (some y295) = some r := by first | (rw [hy295]; with_reducible exact H) | (have H2_ := (Option.bind_some _ _).symm.trans H; rw [hy295]; with_reducible exact H2_) | (have H2_ := (Option.bind_some _ _).symm.trans H; with_reducible exact H2_) | with_reducible exact H | (rw [hy295]; exact H) | exact H
          have Ny295 := Aside0.mk hy295
          clear hy295
          obtain rfl := Option.some.inj H
          simp only [Option.some.injEq, Prod.mk.injEq] at H
          obtain ⟨rfl⟩ := H
          go_enter Try.func70, Try.ntmps70
          try go_wp2
          have n0_ := Aside0.mk (below_drew1 HB.out)
          clear HB
          have HB := n0_
          clear n0_
          have p290 : 0 ≤ (a1 : Int) := of_decide_eq_true (by first | (with_reducible assumption) | assumption)
          have q290 : a1 < (l0.length : Int) := of_decide_eq_true (by first | (with_reducible assumption) | assumption)
          obtain ⟨ad290, A290_1, c290_1, e290, hx290_0, hx290_1, hl290_1, hi290_1⟩ := at_T38 HR0.out a1 p290 q290
          have hw290_1 := hx290_1
          have hw290_0 := hx290_0
          cases e290
          replace hx290_0 := (HB.out.cell (World.block_lt_of_cell? w _ hx290_0)).trans hx290_0
          replace hx290_1 := (HB.out.cell (World.block_lt_of_cell? w _ hx290_1)).trans hx290_1
          have HR290_1 := Aside0.mk hi290_1
          have HC290_1 := Aside0.mk hl290_1
          clear hi290_1 hl290_1
          replace p290 := eq_true p290
          replace q290 := eq_true q290
          have p294 : 0 ≤ (a1 : Int) := of_decide_eq_true (by first | (with_reducible assumption) | assumption)
          have q294 : a1 < (l0.length : Int) := of_decide_eq_true (by first | (with_reducible assumption) | assumption)
          obtain ⟨ad294, A294_1, c294_1, e294, hx294_0, hx294_1, hl294_1, hi294_1⟩ := at_T38 HR0.out a1 p294 q294
          have hw294_1 := hx294_1
          have hw294_0 := hx294_0
          obtain rfl : ad290 = ad294 := (by injection e294)
          replace hx294_0 := (HB.out.cell (World.block_lt_of_cell? w _ hx294_0)).trans hx294_0
          replace hx294_1 := (HB.out.cell (World.block_lt_of_cell? w _ hx294_1)).trans hx294_1
          have HR294_1 := Aside0.mk hi294_1
          have HC294_1 := Aside0.mk hl294_1
          clear hi294_1 hl294_1
          replace p294 := eq_true p294
          replace q294 := eq_true q294
          have ea_ := Option.some.inj (hx290_1.symm.trans hx294_1)
          injection ea_ with ea_ en_ ec_
          subst ea_
          subst ec_
          clear en_
          refine start_ (n := 14) (S := fun w' => w'.cell? (ad290.add ((a1).toNat * 2)) = some (.int .i64 ((rd_T38 l0 a1).f0)) ∧ w'.cell? ⟨(ad290.add ((a1).toNat * 2)).block, (ad290.add ((a1).toNat * 2)).off + 1, none⟩ = some (.slice A290_1 ((rd_T38 l0 a1).f1).length c290_1) ∧ w'.cell? (ad290.add ((a1).toNat * 2)) = some (.int .i64 ((rd_T38 l0 a1).f0)) ∧ w'.cell? ⟨(ad290.add ((a1).toNat * 2)).block, (ad290.add ((a1).toNat * 2)).off + 1, none⟩ = some (.slice A290_1 ((rd_T38 l0 a1).f1).length c290_1)) (ds := []) #[false, false, false, false, false, false, false, false, false, false, false, false, false, false] (by kernel_rfl) rfl rfl ⟨((HB.out.cell (World.block_lt_of_cell? w _ hw290_0)).trans hw290_0), ((HB.out.cell (World.block_lt_of_cell? w _ hw290_1)).trans hw290_1), ((HB.out.cell (World.block_lt_of_cell? w _ hw294_0)).trans hw294_0), ((HB.out.cell (World.block_lt_of_cell? w _ hw294_1)).trans hw294_1)⟩ (fun hHeld => ?_); refine with_tabW impl_classFields.tab3 impl_classFields.bits3 (fun HT_ HW_ => ?_)
          generalize w.drew = w8 at HB HR290_1 HR294_1 hx290_0 hx290_1 hx294_0 hx294_1 hHeld ⊢
          refine pure_ (i := 0) (N := some 7) (v := ?_) (a' := ?_) #[true, false, false, false, false, false, false, false, false, false, false, false, false, false] rfl rfl (any_of HT_.out (by kernel_rfl)) (fun _ _ _ h => h) (Or.inl ⟨by rfl, ?_⟩) ?_ ?_
          rotate_left
          · intro w'
            go_simp
            with_reducible rfl
          rotate_left
          · simp only [Act.put, List.setIfInBounds_toArray, List.set_cons_zero, List.set_cons_succ, i64_w, i32_w]
            rfl
          refine pure_ (i := 1) (N := some 8) (v := ?_) (a' := ?_) #[true, true, false, false, false, false, false, false, false, false, false, false, false, false] rfl rfl (any_of HT_.out (by kernel_rfl)) (fun _ _ _ h => h) (Or.inl ⟨by rfl, ?_⟩) ?_ ?_
          rotate_left
          · intro w'
            go_simp
            with_reducible rfl
          rotate_left
          · simp only [Act.put, List.setIfInBounds_toArray, List.set_cons_zero, List.set_cons_succ, i64_w, i32_w]
            rfl
          refine pure_ (i := 2) (N := some 9) (v := ?_) (a' := ?_) #[true, true, true, false, false, false, false, false, false, false, false, false, false, false] rfl rfl (any_of HT_.out (by kernel_rfl)) (fun _ _ _ h => h) (Or.inl ⟨by rfl, ?_⟩) ?_ ?_
          rotate_left
          · intro w'
            go_simp
            with_reducible rfl
          rotate_left
          · simp only [Act.put, List.setIfInBounds_toArray, List.set_cons_zero, List.set_cons_succ, i64_w, i32_w]
            rfl
          refine pure_ (i := 3) (N := some 10) (v := ?_) (a' := ?_) #[true, true, true, true, false, false, false, false, false, false, false, false, false, false] rfl rfl (any_of HT_.out (by kernel_rfl)) (fun _ _ _ h => h) (Or.inl ⟨by rfl, ?_⟩) ?_ ?_
          rotate_left
          · intro w'
            go_simp
            with_reducible rfl
          rotate_left
          · simp only [Act.put, List.setIfInBounds_toArray, List.set_cons_zero, List.set_cons_succ, i64_w, i32_w]
            rfl
          refine pure_ (i := 4) (N := some 11) (v := ?_) (a' := ?_) #[true, true, true, true, true, false, false, false, false, false, false, false, false, false] rfl rfl (any_of HT_.out (by kernel_rfl)) (fun _ _ _ h => h) (Or.inl ⟨by rfl, ?_⟩) ?_ ?_
          rotate_left
          · intro w'
            go_simp
            with_reducible rfl
          rotate_left
          · simp only [Act.put, List.setIfInBounds_toArray, List.set_cons_zero, List.set_cons_succ, i64_w, i32_w]
            rfl
          refine pure_ (i := 7) (N := some 14) (v := ?_) (a' := ?_) #[true, true, true, true, true, false, false, true, false, false, false, false, false, false] rfl rfl (any_of HT_.out (by kernel_rfl)) (fun _ _ _ h => h) (Or.inl ⟨by rfl, ?_⟩) ?_ ?_
          rotate_left
          · intro w'
            go_simp
            with_reducible rfl
          rotate_left
          · simp only [Act.put, List.setIfInBounds_toArray, List.set_cons_zero, List.set_cons_succ, i64_w, i32_w]
            rfl
          refine pure_ (i := 8) (N := some 15) (v := ?_) (a' := ?_) #[true, true, true, true, true, false, false, true, true, false, false, false, false, false] rfl rfl (any_of HT_.out (by kernel_rfl)) (fun _ _ _ h => h) (Or.inl ⟨by rfl, ?_⟩) ?_ ?_
          rotate_left
          · intro w'
            go_simp
            with_reducible rfl
          rotate_left
          · simp only [Act.put, List.setIfInBounds_toArray, List.set_cons_zero, List.set_cons_succ, i64_w, i32_w]
            rfl
          refine pure_ (i := 9) (N := some 16) (v := ?_) (a' := ?_) #[true, true, true, true, true, false, false, true, true, true, false, false, false, false] rfl rfl (any_of HT_.out (by kernel_rfl)) (fun _ _ _ h => h) (Or.inl ⟨by rfl, ?_⟩) ?_ ?_
          rotate_left
          · intro w'
            go_simp
            with_reducible rfl
          rotate_left
          · simp only [Act.put, List.setIfInBounds_toArray, List.set_cons_zero, List.set_cons_succ, i64_w, i32_w]
            rfl
          refine pure_ (i := 10) (N := some 17) (v := ?_) (a' := ?_) #[true, true, true, true, true, false, false, true, true, true, true, false, false, false] rfl rfl (any_of HT_.out (by kernel_rfl)) (fun _ _ _ h => h) (Or.inl ⟨by rfl, ?_⟩) ?_ ?_
          rotate_left
          · intro w'
            go_simp
            with_reducible rfl
          rotate_left
          · simp only [Act.put, List.setIfInBounds_toArray, List.set_cons_zero, List.set_cons_succ, i64_w, i32_w]
            rfl
          refine take_ (i := 5) (N := some 12) (v := ?_) (a' := ?_) #[true, true, true, true, true, true, false, true, true, true, true, false, false, false] rfl rfl (take_ofW HT_.out HW_.out (by kernel_rfl)) (fun _ _ _ h => h) (Or.inl ⟨by rfl, ?_⟩) hHeld ?_ ?_
          rotate_left
          · rintro w' ⟨s0, s1, s2, s3⟩
            go_simp
            with_reducible rfl
          rotate_left
          · simp only [Act.put, List.setIfInBounds_toArray, List.set_cons_zero, List.set_cons_succ, i64_w, i32_w]
            rfl
          refine take_ (i := 11) (N := some 18) (v := ?_) (a' := ?_) #[true, true, true, true, true, true, false, true, true, true, true, true, false, false] rfl rfl (take_ofW HT_.out HW_.out (by kernel_rfl)) (fun _ _ _ h => h) (Or.inl ⟨by rfl, ?_⟩) hHeld ?_ ?_
          rotate_left
          · rintro w' ⟨s0, s1, s2, s3⟩
            go_simp
            with_reducible rfl
          rotate_left
          · simp only [Act.put, List.setIfInBounds_toArray, List.set_cons_zero, List.set_cons_succ, i64_w, i32_w]
            rfl
          refine one_ (i := 6) (N := some 13) #[true, true, true, true, true, true, true, true, true, true, true, true, false, false] rfl rfl (one_of HT_.out (by kernel_rfl)) (by decide) (fun K hK => ?_)
          refine goes_ Try.func70 (by kernel_rfl) rfl #[.slice (some ad290) l0.length c0, .int .i64 ((rd_T38 l0 a1).f0)] (by rfl) rfl rfl (by (try simp only [List.map_toArray, List.map_cons, List.map_nil]); first | done | rfl | (simp only [List.length_drop, List.length_take]; rfl)) ?_
          with_reducible refine (ih k (by omega) _ _ l0 ((rd_T38 l0 a1).f0) t291 _ ?side1 ?side2 A6.out).mono ?_
          (case side1 => repeat (first | exact (Kd.C_below HR0.out HB.out) | (with_reducible refine Kd.C_alloc ?_ _) | (with_reducible refine Kd.C_drewN ?_ _) | (with_reducible refine Kd.C_drew ?_)))
          (case side2 => exact HC0.out)
          rintro e w9 ⟨v292, rfl, ho0, hb⟩
          refine ⟨_, rfl, ?_⟩
          have n0_ := Aside0.mk (Kd.R_lower ho0 (below_size (by repeat (first | (with_reducible first | exact HB.out | apply below_alloc | apply pw_below_drewN | apply below_drew1) | exact HB.out))))
          have n1_ := Aside0.mk (below_step (by repeat (first | (with_reducible first | exact HB.out | apply below_alloc | apply pw_below_drewN | apply below_drew1) | exact HB.out)) hb)
          clear HB
          have HO293 := n0_
          have HB := n1_
          clear n0_ n1_
          (try clear hb)
          (try clear hb2)
          (try clear hk)
          (try clear hi)
          (try clear ho0)
          refine hK.out _ _ ⟨((HB.out.cell (World.block_lt_of_cell? w _ hw290_0)).trans hw290_0), ((HB.out.cell (World.block_lt_of_cell? w _ hw290_1)).trans hw290_1), ((HB.out.cell (World.block_lt_of_cell? w _ hw294_0)).trans hw294_0), ((HB.out.cell (World.block_lt_of_cell? w _ hw294_1)).trans hw294_1)⟩ (fun hHeld => ?_)
          clear hK K
          refine norm_ (a' := ?_) ?_ ?_
          rotate_left
          · show Act.put _ (some 13) _ = _
            simp only [Act.put, List.setIfInBounds_toArray, List.set_cons_zero, List.set_cons_succ, i64_w, i32_w]
            rfl
          refine one_ (i := 12) (N := some 19) #[true, true, true, true, true, true, true, true, true, true, true, true, true, false] rfl rfl (one_of HT_.out (by kernel_rfl)) (by decide) (fun K hK => ?_)
          refine Kd.R_append_rows_step (Kd.int .i64) (w0 := w) w.heap.size (by rfl) (.tmp 13) (.tmp 18) 36 3 (.int .i64 0) 8 rfl Try.underlying36 info3 rfl (by decide) (by omega) v292 t291 ((rd_T38 l0 a1).f1) _ _ _ (fun _ => True) (fun _ => False) rfl rfl ?aO ?aR (fun _ _ h => h) (fun _ h => h.elim) ?aF ?aB ?aS ?aL ?_
          (case aR => repeat (first | exact (Kd.C_below HR294_1.out HB.out) | (with_reducible refine Kd.C_alloc ?_ _) | (with_reducible refine Kd.C_drewN ?_ _) | (with_reducible refine Kd.C_drew ?_)))
          (case aB => exact (by repeat (first | (with_reducible first | exact HB.out | apply below_alloc | apply pw_below_drewN | apply below_drew1) | exact HB.out)))
          (case aF => exact (fun _ _ => trivial))
          (case aO => exact (by (with_reducible repeat (first | apply Kd.R_alloc | apply Kd.R_drewN | apply Kd.R_drew)); exact HO293.out))
          (case aS => exact (below_size (by repeat (first | (with_reducible first | exact HB.out | apply below_alloc | apply pw_below_drewN | apply below_drew1) | exact HB.out))))
          (case aL => have := LMc7.out; omega)
          intro v296 w10 ho hb hg hat
          rw [← Ny295.out] at ho
          have n0_ := Aside0.mk (hb)
          have n1_ := Aside0.mk (ho)
          clear HB
          clear HO293
          have HB := n0_
          have HO297 := n1_
          clear n0_ n1_
          clear ho hb hg hat
          refine hK.out _ _ ⟨((HB.out.cell (World.block_lt_of_cell? w _ hw290_0)).trans hw290_0), ((HB.out.cell (World.block_lt_of_cell? w _ hw290_1)).trans hw290_1), ((HB.out.cell (World.block_lt_of_cell? w _ hw294_0)).trans hw294_0), ((HB.out.cell (World.block_lt_of_cell? w _ hw294_1)).trans hw294_1)⟩ (fun hHeld => ?_)
          clear hK K
          refine norm_ (a' := ?_) ?_ ?_
          rotate_left
          · show Act.put _ (some 19) _ = _
            simp only [Act.put, List.setIfInBounds_toArray, List.set_cons_zero, List.set_cons_succ, i64_w, i32_w]
            rfl
          refine pure_ (i := 13) (N := some 4) (v := ?_) (a' := ?_) #[true, true, true, true, true, true, true, true, true, true, true, true, true, true] rfl rfl (any_of HT_.out (by kernel_rfl)) (fun _ _ _ h => h) (Or.inl ⟨by rfl, ?_⟩) ?_ ?_
          rotate_left
          · intro w'
            go_simp
            with_reducible rfl
          rotate_left
          · simp only [Act.put, List.setIfInBounds_toArray, List.set_cons_zero, List.set_cons_succ, i64_w, i32_w]
            rfl
          refine done_ (done_of HT_.out (by kernel_rfl)) ?_
          try go_wp2
          go_ret
          exact ⟨_, by first | rfl | (simp [errW_none, errW_some] <;> rfl) | (simp [*, errW_none, errW_some] <;> rfl), by (with_reducible repeat (first | apply Kd.R_alloc | apply Kd.R_drewN | apply Kd.R_drew)); exact HO297.out, by repeat (first | (with_reducible first | exact HB.out | apply below_alloc | apply pw_below_drewN | apply below_drew1) | exact HB.out)⟩
        · rw [if_neg c7] at H
          exact absurd H (by simp)
      · rw [if_neg c5] at H
        exact absurd H (by simp)
    · rw [if_neg c4] at H
      exact absurd H (by simp)

end Go.Proofs.Ytgmjolngnhdafaa.P

end
section
namespace Go.Proofs.Ytgmjolngnhdafaa.P
open Go.RowKit Go.Proofs.YtgmjolngnhdafaaW.PrintWords Go.Proofs.YtgmjolngnhdafaaW.PrintLast Go.Proofs.YtgmjolngnhdafaaW.PrintMore
attribute [local go_sem] max2_int min2_int max_two min_two max_three min_three max_four min_four
set_option linter.unusedVariables false
set_option linter.unusedSimpArgs false

set_option maxHeartbeats 8000000 in
set_option maxRecDepth 100000 in
theorem impl_ClassFields.calls (k : Nat) (A0 : Option Addr) (c0 : Nat) (l0 : List (S38)) (a1 : Int) (r : List Int) (w : World) (hr0 : Kd.C k38 w A0 l0.length l0) (hc0 : l0.length ≤ c0) (h : impl_ClassFields.f k l0 a1 = some r) :
    Calls Try.prog 32 #[.slice A0 l0.length c0, .int .i64 a1] w fun e w' => ∃ v0_ : Value, e = .returned (v0_) ∧ Kd.R (Kd.int .i64) 3 w' w.heap.size (fun _ => True) v0_ r ∧ Below w.heap.size w w' := by
  have HR0 := Aside0.mk hr0
  have HC0 := Aside0.mk hc0
  clear hr0 hc0
  have HB := Aside0.mk (Below.refl w.heap.size w)
  have H : ((impl_ClassesOk.f k l0).bind fun t298 => (if t298 = true then ((impl_isClass.f l0 a1).bind fun t299 => (if t299 = true then ((impl_classFields.f k l0 a1).bind fun t300 => (some t300)) else (some ([] : List Int)))) else (some ([] : List Int)))) = some r := h
  clear h
  replace H := Option.bind_eq_some_iff.mp H
  obtain ⟨t298, A30, H⟩ := H
  replace H : (if t298 = true then ((impl_isClass.f l0 a1).bind fun t299 => (if t299 = true then ((impl_classFields.f k l0 a1).bind fun t300 => (some t300)) else (some ([] : List Int)))) else (some ([] : List Int))) = some r := H
  have A3 := Aside0.mk A30
  clear A30
  by_cases c4 : t298 = true
  · subst c4
    have H1 : ((impl_isClass.f l0 a1).bind fun t299 => (if t299 = true then ((impl_classFields.f k l0 a1).bind fun t300 => (some t300)) else (some ([] : List Int)))) = some r := by rw [if_pos rfl] at H; exact H
    clear H
    have H := H1
    clear H1
    replace H := Option.bind_eq_some_iff.mp H
    obtain ⟨t299, A50, H⟩ := H
    replace H : (if t299 = true then ((impl_classFields.f k l0 a1).bind fun t300 => (some t300)) else (some ([] : List Int))) = some r := H
    have A5 := Aside0.mk A50
    clear A50
    by_cases c6 : t299 = true
    · subst c6
      have H1 : ((impl_classFields.f k l0 a1).bind fun t300 => (some t300)) = some r := by rw [if_pos rfl] at H; exact H
      clear H
      have H := H1
      clear H1
      replace H := Option.bind_eq_some_iff.mp H
      obtain ⟨t300, A70, H⟩ := H
      replace H : (some t300) = some r := H
      have A7 := Aside0.mk A70
      clear A70
      obtain rfl := Option.some.inj H
      simp only [Option.some.injEq, Prod.mk.injEq] at H
      obtain ⟨rfl⟩ := H
      go_enter Try.func32, Try.ntmps32
      go_wp2_with (first | ((with_reducible refine gate_callee (f := 23) rfl ?_); refine goesL_ (some 6) rfl rfl Try.func23 (by kernel_rfl) rfl #[.slice A0 l0.length c0] rfl (by (try simp only [List.map_toArray, List.map_cons, List.map_nil]); first | done | rfl | (simp only [List.length_drop, List.length_take]; rfl)) ?_; (with_reducible refine (impl_ClassesOk.calls k _ _ l0 true _ ?side1 ?side2 A3.out).mono ?_); (case side1 => repeat (first | exact HR0.out | (with_reducible refine Kd.C_alloc ?_ _) | (with_reducible refine Kd.C_drewN ?_ _) | (with_reducible refine Kd.C_drew ?_))); (case side2 => exact HC0.out); rintro e w8 ⟨rfl, hb⟩; refine ⟨_, rfl, ?_⟩; have n0_ := Aside0.mk (below_step (by repeat (first | (with_reducible first | exact HB.out | apply below_alloc | apply pw_below_drewN | apply below_drew1) | exact HB.out)) hb); clear HB; have HB := n0_; clear n0_; (try clear hb); (try clear hb2); (try clear hk); (try clear hi)) | (go_at_call 66; (with_reducible refine (impl_isClass.calls _ _ l0 a1 true _ ?side1 ?side2 A5.out).mono ?_); (case side1 => repeat (first | exact (Kd.C_below HR0.out HB.out) | (with_reducible refine Kd.C_alloc ?_ _) | (with_reducible refine Kd.C_drewN ?_ _) | (with_reducible refine Kd.C_drew ?_))); (case side2 => exact HC0.out); rintro e w' ⟨rfl, ⟨nd, rfl⟩⟩) | ((with_reducible refine gate_callee (f := 70) rfl ?_); refine goesL_ (some 16) rfl rfl Try.func70 (by kernel_rfl) rfl #[.slice A0 l0.length c0, .int .i64 a1] rfl (by (try simp only [List.map_toArray, List.map_cons, List.map_nil]); first | done | rfl | (simp only [List.length_drop, List.length_take]; rfl)) ?_; (with_reducible refine (impl_classFields.calls k _ _ l0 a1 t300 _ ?side1 ?side2 A7.out).mono ?_); (case side1 => repeat (first | exact (Kd.C_below HR0.out (by repeat (first | (with_reducible first | exact HB.out | apply below_alloc | apply pw_below_drewN | apply below_drew1) | exact HB.out))) | (with_reducible refine Kd.C_alloc ?_ _) | (with_reducible refine Kd.C_drewN ?_ _) | (with_reducible refine Kd.C_drew ?_))); (case side2 => exact HC0.out); rintro e w9 ⟨v301, rfl, ho0, hb⟩; refine ⟨_, rfl, ?_⟩; have n0_ := Aside0.mk (Kd.R_lower ho0 (below_size (by repeat (first | (with_reducible first | exact HB.out | apply below_alloc | apply pw_below_drewN | apply below_drew1) | exact HB.out)))); have n1_ := Aside0.mk (below_step (by repeat (first | (with_reducible first | exact HB.out | apply below_alloc | apply pw_below_drewN | apply below_drew1) | exact HB.out)) hb); clear HB; have HO302 := n0_; have HB := n1_; clear n0_ n1_; (try clear hb); (try clear hb2); (try clear hk); (try clear hi); (try clear ho0)))
      go_ret
      exact ⟨_, by first | rfl | (simp [errW_none, errW_some] <;> rfl) | (simp [*, errW_none, errW_some] <;> rfl), by (with_reducible repeat (first | apply Kd.R_alloc | apply Kd.R_drewN | apply Kd.R_drew)); exact HO302.out, by repeat (first | (with_reducible first | exact HB.out | apply below_alloc | apply pw_below_drewN | apply below_drew1) | exact HB.out)⟩
    · replace c6 := Bool.eq_false_iff.mpr c6
      subst c6
      have H1 : (some ([] : List Int)) = some r := by rw [if_neg (show ¬ (false = true) by decide)] at H; exact H
      clear H
      have H := H1
      clear H1
      obtain rfl := Option.some.inj H
      simp only [Option.some.injEq, Prod.mk.injEq] at H
      obtain ⟨rfl⟩ := H
      go_enter Try.func32, Try.ntmps32
      go_wp2_with (first | ((with_reducible refine gate_callee (f := 23) rfl ?_); refine goesL_ (some 6) rfl rfl Try.func23 (by kernel_rfl) rfl #[.slice A0 l0.length c0] rfl (by (try simp only [List.map_toArray, List.map_cons, List.map_nil]); first | done | rfl | (simp only [List.length_drop, List.length_take]; rfl)) ?_; (with_reducible refine (impl_ClassesOk.calls k _ _ l0 true _ ?side1 ?side2 A3.out).mono ?_); (case side1 => repeat (first | exact HR0.out | (with_reducible refine Kd.C_alloc ?_ _) | (with_reducible refine Kd.C_drewN ?_ _) | (with_reducible refine Kd.C_drew ?_))); (case side2 => exact HC0.out); rintro e w10 ⟨rfl, hb⟩; refine ⟨_, rfl, ?_⟩; have n0_ := Aside0.mk (below_step (by repeat (first | (with_reducible first | exact HB.out | apply below_alloc | apply pw_below_drewN | apply below_drew1) | exact HB.out)) hb); clear HB; have HB := n0_; clear n0_; (try clear hb); (try clear hb2); (try clear hk); (try clear hi)) | (go_at_call 66; (with_reducible refine (impl_isClass.calls _ _ l0 a1 false _ ?side1 ?side2 A5.out).mono ?_); (case side1 => repeat (first | exact (Kd.C_below HR0.out HB.out) | (with_reducible refine Kd.C_alloc ?_ _) | (with_reducible refine Kd.C_drewN ?_ _) | (with_reducible refine Kd.C_drew ?_))); (case side2 => exact HC0.out); rintro e w' ⟨rfl, ⟨nd, rfl⟩⟩))
      go_ret
      exact ⟨_, by first | rfl | (simp [errW_none, errW_some] <;> rfl) | (simp [*, errW_none, errW_some] <;> rfl), by first | exact Kd.R_nil _ _ _ _ _ | exact Kd.N_nil _ _ _ _ _ | exact Kd.V_nil _ _ _ _ _ | exact Kd.Q_nil _ _ _ _ _ | exact Kd.S_nil _ _ _ _ _, by repeat (first | (with_reducible first | exact HB.out | apply below_alloc | apply pw_below_drewN | apply below_drew1) | exact HB.out)⟩
  · replace c4 := Bool.eq_false_iff.mpr c4
    subst c4
    have H1 : (some ([] : List Int)) = some r := by rw [if_neg (show ¬ (false = true) by decide)] at H; exact H
    clear H
    have H := H1
    clear H1
    obtain rfl := Option.some.inj H
    simp only [Option.some.injEq, Prod.mk.injEq] at H
    obtain ⟨rfl⟩ := H
    go_enter Try.func32, Try.ntmps32
    go_wp2_with (first | ((with_reducible refine gate_callee (f := 23) rfl ?_); refine goesL_ (some 6) rfl rfl Try.func23 (by kernel_rfl) rfl #[.slice A0 l0.length c0] rfl (by (try simp only [List.map_toArray, List.map_cons, List.map_nil]); first | done | rfl | (simp only [List.length_drop, List.length_take]; rfl)) ?_; (with_reducible refine (impl_ClassesOk.calls k _ _ l0 false _ ?side1 ?side2 A3.out).mono ?_); (case side1 => repeat (first | exact HR0.out | (with_reducible refine Kd.C_alloc ?_ _) | (with_reducible refine Kd.C_drewN ?_ _) | (with_reducible refine Kd.C_drew ?_))); (case side2 => exact HC0.out); rintro e w11 ⟨rfl, hb⟩; refine ⟨_, rfl, ?_⟩; have n0_ := Aside0.mk (below_step (by repeat (first | (with_reducible first | exact HB.out | apply below_alloc | apply pw_below_drewN | apply below_drew1) | exact HB.out)) hb); clear HB; have HB := n0_; clear n0_; (try clear hb); (try clear hb2); (try clear hk); (try clear hi)))
    go_ret
    exact ⟨_, by first | rfl | (simp [errW_none, errW_some] <;> rfl) | (simp [*, errW_none, errW_some] <;> rfl), by first | exact Kd.R_nil _ _ _ _ _ | exact Kd.N_nil _ _ _ _ _ | exact Kd.V_nil _ _ _ _ _ | exact Kd.Q_nil _ _ _ _ _ | exact Kd.S_nil _ _ _ _ _, by repeat (first | (with_reducible first | exact HB.out | apply below_alloc | apply pw_below_drewN | apply below_drew1) | exact HB.out)⟩

end Go.Proofs.Ytgmjolngnhdafaa.P

end
section
namespace Go.Proofs.Ytgmjolngnhdafaa.P
open Go.RowKit Go.Proofs.YtgmjolngnhdafaaW.PrintWords Go.Proofs.YtgmjolngnhdafaaW.PrintLast Go.Proofs.YtgmjolngnhdafaaW.PrintMore
attribute [local go_sem] max2_int min2_int max_two min_two max_three min_three max_four min_four
set_option linter.unusedVariables false
set_option linter.unusedSimpArgs false

set_option maxHeartbeats 8000000 in
set_option maxRecDepth 100000 in
theorem spec_l6In.calls (a0 : Int) (a1 : Int) (a2 : Int) (r : Bool) (w : World) (h : spec_l6In.f a0 a1 a2 = some r) :
    Calls Try.prog 56 #[.int .i64 a0, .int .i64 a1, .int .i64 a2] w fun e w' => e = .returned (.bool r) ∧ Drawn0 w w' := by
  have H : (if a0 ≥ a1 then (some (decide (a0 ≤ a2))) else (some false)) = some r := h
  clear h
  by_cases c4 : a0 ≥ a1
  · rw [if_pos c4] at H
    have c4b0 : decide (a1 ≤ a0) = true := decide_eq_true c4
    clear c4
    obtain rfl := Option.some.inj H
    simp only [Option.some.injEq, Prod.mk.injEq] at H
    obtain ⟨rfl⟩ := H
    go_enter Try.func56, Try.ntmps56
    go_wp2
    go_ret
    exact ⟨by first | rfl | (simp; done) | (simp [*]; done), by repeat (first | exact Drawn0.refl _ | apply Drawn0.step)⟩
  · rw [if_neg c4] at H
    have c4b0 : decide (a1 ≤ a0) = false := decide_eq_false c4
    clear c4
    obtain rfl := Option.some.inj H
    simp only [Option.some.injEq, Prod.mk.injEq] at H
    obtain ⟨rfl⟩ := H
    go_enter Try.func56, Try.ntmps56
    go_wp2
    go_ret
    exact ⟨by first | rfl | (simp; done) | (simp [*]; done), by repeat (first | exact Drawn0.refl _ | apply Drawn0.step)⟩

end Go.Proofs.Ytgmjolngnhdafaa.P

end
section
namespace Go.Proofs.Ytgmjolngnhdafaa.P
open Go.RowKit Go.Proofs.YtgmjolngnhdafaaW.PrintWords Go.Proofs.YtgmjolngnhdafaaW.PrintLast Go.Proofs.YtgmjolngnhdafaaW.PrintMore
attribute [local go_sem] max2_int min2_int max_two min_two max_three min_three max_four min_four
set_option linter.unusedVariables false
set_option linter.unusedSimpArgs false

set_option maxHeartbeats 8000000 in
set_option maxRecDepth 100000 in
theorem spec_l2Field.calls (A0 : Option Addr) (c0 : Nat) (l0 : List (S38)) (a1 : Int) (r : Bool) (w : World) (hr0 : Kd.C k38 w A0 l0.length l0) (hc0 : l0.length ≤ c0) (h : spec_l2Field.f l0 a1 = some r) :
    Calls Try.prog 61 #[.slice A0 l0.length c0, .int .i64 a1] w fun e w' => e = .returned (.bool r) ∧ Drawn0 w w' := by
  have HR0 := Aside0.mk hr0
  have HC0 := Aside0.mk hc0
  clear hr0 hc0
  have H : (if a1 = 1 then (some true) else (if a1 = 3 then (some true) else (if a1 = 4 then (some true) else ((spec_l6In.f a1 8 (wrap64 ((wrap64 (8 + (l0.length : Int))) - 1))).bind fun t105 => (some t105))))) = some r := h
  clear h
  by_cases c3 : a1 = 1
  · rw [if_pos c3] at H
    have c3b0 : (a1 == 1) = true := beq_iff_eq.mpr c3
    have c3b1 : (a1 != 1) = false := bne_eq_false_iff_eq.mpr c3
    clear c3
    obtain rfl := Option.some.inj H
    simp only [Option.some.injEq, Prod.mk.injEq] at H
    obtain ⟨rfl⟩ := H
    go_enter Try.func61, Try.ntmps61
    go_wp2
    go_ret
    exact ⟨by first | rfl | (simp; done) | (simp [*]; done), by repeat (first | exact Drawn0.refl _ | apply Drawn0.step)⟩
  · rw [if_neg c3] at H
    have c3b0 : (a1 == 1) = false := beq_eq_false_iff_ne.mpr c3
    have c3b1 : (a1 != 1) = true := bne_iff_ne.mpr c3
    by_cases c4 : a1 = 3
    · rw [if_pos c4] at H
      have c4b0 : (a1 == 3) = true := beq_iff_eq.mpr c4
      have c4b1 : (a1 != 3) = false := bne_eq_false_iff_eq.mpr c4
      clear c4
      obtain rfl := Option.some.inj H
      simp only [Option.some.injEq, Prod.mk.injEq] at H
      obtain ⟨rfl⟩ := H
      go_enter Try.func61, Try.ntmps61
      go_wp2
      go_ret
      exact ⟨by first | rfl | (simp; done) | (simp [*]; done), by repeat (first | exact Drawn0.refl _ | apply Drawn0.step)⟩
    · rw [if_neg c4] at H
      have c4b0 : (a1 == 3) = false := beq_eq_false_iff_ne.mpr c4
      have c4b1 : (a1 != 3) = true := bne_iff_ne.mpr c4
      by_cases c5 : a1 = 4
      · rw [if_pos c5] at H
        have c5b0 : (a1 == 4) = true := beq_iff_eq.mpr c5
        have c5b1 : (a1 != 4) = false := bne_eq_false_iff_eq.mpr c5
        clear c5
        obtain rfl := Option.some.inj H
        simp only [Option.some.injEq, Prod.mk.injEq] at H
        obtain ⟨rfl⟩ := H
        go_enter Try.func61, Try.ntmps61
        go_wp2
        go_ret
        exact ⟨by first | rfl | (simp; done) | (simp [*]; done), by repeat (first | exact Drawn0.refl _ | apply Drawn0.step)⟩
      · rw [if_neg c5] at H
        have c5b0 : (a1 == 4) = false := beq_eq_false_iff_ne.mpr c5
        have c5b1 : (a1 != 4) = true := bne_iff_ne.mpr c5
        replace H := Option.bind_eq_some_iff.mp H
        obtain ⟨t105, A60, H⟩ := H
        replace H : (some t105) = some r := H
        have A6 := Aside0.mk A60
        clear A60
        obtain rfl := Option.some.inj H
        simp only [Option.some.injEq, Prod.mk.injEq] at H
        obtain ⟨rfl⟩ := H
        go_enter Try.func61, Try.ntmps61
        go_wp2_with (first | (go_at_call 56; (with_reducible refine (spec_l6In.calls a1 8 (wrap64 ((wrap64 (8 + (l0.length : Int))) - 1)) t105 _ A6.out).mono ?_); rintro e w' ⟨rfl, ⟨nd, rfl⟩⟩))
        go_ret
        exact ⟨by first | rfl | (simp; done) | (simp [*]; done), by repeat (first | exact Drawn0.refl _ | apply Drawn0.step)⟩

end Go.Proofs.Ytgmjolngnhdafaa.P

end
section
namespace Go.Proofs.Ytgmjolngnhdafaa.P
open Go.RowKit Go.Proofs.YtgmjolngnhdafaaW.PrintWords Go.Proofs.YtgmjolngnhdafaaW.PrintLast Go.Proofs.YtgmjolngnhdafaaW.PrintMore
attribute [local go_sem] max2_int min2_int max_two min_two max_three min_three max_four min_four
set_option linter.unusedVariables false
set_option linter.unusedSimpArgs false

set_option maxHeartbeats 8000000 in
set_option maxRecDepth 100000 in
theorem spec_l2Class.calls (k : Nat) (A0 : Option Addr) (c0 : Nat) (l0 : List (S38)) (a1 : Int) (r : Bool) (w : World) (hr0 : Kd.C k38 w A0 l0.length l0) (hc0 : l0.length ≤ c0) (h : spec_l2Class.f k l0 a1 = some r) :
    Calls Try.prog 57 #[.slice A0 l0.length c0, .int .i64 a1] w fun e w' => e = .returned (.bool r) ∧ Below w.heap.size w w' := by
  have hu38 := Try.underlying38
  have HR0 := Aside0.mk hr0
  have HC0 := Aside0.mk hc0
  clear hr0 hc0
  have HB := Aside0.mk (Below.refl w.heap.size w)
  have H : (if 0 ≤ a1 then (if a1 < (l0.length : Int) then (spec_l2Class.l0 k l0 a1 0 ((rd_T38 l0 a1).f0) ((rd_T38 l0 a1).f1)) else (none)) else (none)) = some r := h
  clear h
  by_cases c3 : 0 ≤ a1
  · rw [if_pos c3] at H
    have c3b0 : decide (0 ≤ a1) = true := decide_eq_true c3
    clear c3
    by_cases c4 : a1 < (l0.length : Int)
    · rw [if_pos c4] at H
      have c4b0 : decide (a1 < (l0.length : Int)) = true := decide_eq_true c4
      clear c4
      have H' := Aside0.mk H
      clear H
      have p106 : 0 ≤ (a1 : Int) := of_decide_eq_true (by first | (with_reducible assumption) | assumption)
      have q106 : a1 < (l0.length : Int) := of_decide_eq_true (by first | (with_reducible assumption) | assumption)
      obtain ⟨ad106, A106_1, c106_1, e106, hx106_0, hx106_1, hl106_1, hi106_1⟩ := at_T38 HR0.out a1 p106 q106
      cases e106
      have HR106_1 := Aside0.mk hi106_1
      have HC106_1 := Aside0.mk hl106_1
      clear hi106_1 hl106_1
      replace p106 := eq_true p106
      replace q106 := eq_true q106
      go_enter Try.func57, Try.ntmps57
      go_wp2_with (first | ((with_reducible refine gate_dst (N := 5) rfl ?_); (try (refine gate_guard (by rfl) ?_; dsimp only)); refine box_event ?hg (N := 5) ?hd (cs := #[.int .i64 0, .slice none 0 0]) (t := 38) ?hr ?_; (case hd => rfl); (case hg => rfl); (case hr => first | (go_simp; done) | (go_simp; rfl)); intro gb107 hg w5 hbox hb; have n0_ := Aside0.mk (below_step (by repeat (first | (with_reducible first | exact HB.out | apply below_alloc | apply pw_below_drewN | apply below_drew1) | exact HB.out)) hb); have n1_ := Aside0.mk (hbox); have n2_ := Aside0.mk ((by rw [hg]; exact (below_size (by repeat (first | (with_reducible first | exact HB.out | apply below_alloc | apply pw_below_drewN | apply below_drew1) | exact HB.out))) : w.heap.size ≤ gb107)); have n3_ := Aside0.mk ((by rw [hg]; exact (below_size (by repeat (first | (with_reducible first | exact HB.out | apply below_alloc | apply pw_below_drewN | apply below_drew1) | exact HB.out))) : w.heap.size ≤ gb107)); clear HB; have HB := n0_; have BK107 := n1_; have GW107 := n2_; have GE107 := n3_; clear n0_ n1_ n2_ n3_; clear hb hbox hg; have hcz6_0 : w5.cell? ⟨gb107, 0, none⟩ = some (.int .i64 0) := (blk_cell BK107.out 0).trans rfl; have hcz6_1 : w5.cell? ⟨gb107, 1, none⟩ = some (.slice none 0 0) := (blk_cell BK107.out 1).trans rfl; have hfz6_0 := blk_frozen BK107.out 0; have hfz6_1 := blk_frozen BK107.out 1))
      go_loopg [6] k (fun kq v6 w' => ∃ (x6_1 : Int), v6 = .int .i64 x6_1 ∧ Aside0 (spec_l2Class.l0 kq l0 a1 x6_1 ((rd_T38 l0 a1).f0) ((rd_T38 l0 a1).f1) = some r) ∧ Aside0 (kq ≤ k) ∧ Aside0 (w'.heap[gb107]? = some (.cells #[.int .i64 ((rd_T38 l0 a1).f0), (.slice A106_1 ((rd_T38 l0 a1).f1).length c106_1)] 38 (0, 0))) ∧ Aside0 (Below w.heap.size w w'))
      case atStart => exact ⟨(0), (by first | rfl | (simp; done) | (simp [*]; done)), H', ⟨Nat.le_refl _⟩, ⟨by (with_reducible repeat (first | refine blk_drewN ?_ _ | refine blk_drew ?_ | refine blk_alloc ?_ _)); refine blk_put (cs := #[.int .i64 ((rd_T38 l0 a1).f0), .slice none 0 0]) ?_ 1 _ rfl; (with_reducible repeat (first | refine blk_drewN ?_ _ | refine blk_drew ?_ | refine blk_alloc ?_ _)); refine blk_put (cs := #[.int .i64 0, .slice none 0 0]) ?_ 0 _ rfl; (with_reducible repeat (first | refine blk_drewN ?_ _ | refine blk_drew ?_ | refine blk_alloc ?_ _)); exact BK107.out⟩, ⟨by repeat (first | (with_reducible first | exact HB.out | apply below_alloc | apply pw_below_drewN | apply below_drew1 | refine below_set ?_ GE107.out) | exact HB.out)⟩⟩
      case round =>
        clear H'
        try clear c1
        try clear p1
        try clear q1
        try clear hx1
        try clear p2
        try clear c3
        try clear c3b0
        try clear c4
        try clear c4b0
        try clear c5
        try clear hcz6_0
        try clear hcz6_1
        try clear hfz6_0
        try clear hfz6_1
        try clear hx106_0
        try clear hx106_1
        try clear p106
        try clear q106
        obtain ⟨x6_1, rfl, HA, HK1, BK107, HB⟩ := hrel
        cases gk with
        | zero => exact absurd HA.out (by simp [spec_l2Class.l0])
        | succ k1 =>
          have H := HA.out
          clear HA
          simp only [spec_l2Class.l0] at H
          by_cases c7 : x6_1 < (((rd_T38 l0 a1).f1).length : Int)
          · rw [if_pos c7] at H
            have c7b0 : decide (x6_1 < (((rd_T38 l0 a1).f1).length : Int)) = true := decide_eq_true c7
            clear c7
            by_cases c8 : 0 ≤ x6_1
            · rw [if_pos c8] at H
              have c8b0 : decide (0 ≤ x6_1) = true := decide_eq_true c8
              clear c8
              replace H := Option.bind_eq_some_iff.mp H
              obtain ⟨t109, A90, H⟩ := H
              replace H : (if t109 = true then (spec_l2Class.l0 k1 l0 a1 (wrap64 (x6_1 + 1)) ((rd_T38 l0 a1).f0) ((rd_T38 l0 a1).f1)) else (some false)) = some r := H
              have A9 := Aside0.mk A90
              clear A90
              by_cases c10 : t109 = true
              · subst c10
                have H1 : (spec_l2Class.l0 k1 l0 a1 (wrap64 (x6_1 + 1)) ((rd_T38 l0 a1).f0) ((rd_T38 l0 a1).f1)) = some r := by rw [if_pos rfl] at H; exact H
                clear H
                have H := H1
                clear H1
                have H' := Aside0.mk H
                clear H
                have hcz11_0 : wr.cell? ⟨gb107, 0, none⟩ = some (.int .i64 ((rd_T38 l0 a1).f0)) := (blk_cell BK107.out 0).trans rfl
                have hcz11_1 : wr.cell? ⟨gb107, 1, none⟩ = some (.slice A106_1 ((rd_T38 l0 a1).f1).length c106_1) := (blk_cell BK107.out 1).trans rfl
                have hfz11_0 := blk_frozen BK107.out 0
                have hfz11_1 := blk_frozen BK107.out 1
                have p108 : 0 ≤ (x6_1 : Int) := of_decide_eq_true (by first | (with_reducible assumption) | assumption)
                have q108 : x6_1 < (((rd_T38 l0 a1).f1).length : Int) := of_decide_eq_true (by first | (with_reducible assumption) | assumption)
                obtain ⟨ad108, e108, hx108_0⟩ := Kd.at_int HR106_1.out x6_1 p108 q108
                cases e108
                replace hx108_0 := (HB.out.cell (World.block_lt_of_cell? w _ hx108_0)).trans hx108_0
                replace p108 := eq_true p108
                replace q108 := eq_true q108
                go_wp2_with (first | ((with_reducible refine gate_callee (f := 61) rfl ?_); refine goesL_ (some 24) rfl rfl Try.func61 (by kernel_rfl) rfl #[.slice (some ad106) l0.length c0, .int .i64 (rd ((rd_T38 l0 a1).f1) x6_1)] rfl (by (try simp only [List.map_toArray, List.map_cons, List.map_nil]); first | done | rfl | (simp only [List.length_drop, List.length_take]; rfl)) ?_; (with_reducible refine (spec_l2Field.calls _ _ l0 (rd ((rd_T38 l0 a1).f1) x6_1) true _ ?side1 ?side2 A9.out).mono ?_); (case side1 => repeat (first | exact (Kd.C_below HR0.out HB.out) | (with_reducible refine Kd.C_alloc ?_ _) | (with_reducible refine Kd.C_drewN ?_ _) | (with_reducible refine Kd.C_drew ?_))); (case side2 => exact HC0.out); rintro e w' ⟨rfl, ⟨nd, rfl⟩⟩; refine ⟨_, rfl, ?_⟩))
                go_roundg k1
                case measure => have := HK1.out; omega
                case rel => exact ⟨(wrap64 (x6_1 + 1)), (by first | rfl | (simp; done) | (simp [*]; done)), H', ⟨by have := HK1.out; omega⟩, ⟨by (with_reducible repeat (first | refine blk_drewN ?_ _ | refine blk_drew ?_ | refine blk_alloc ?_ _)); exact BK107.out⟩, ⟨by repeat (first | (with_reducible first | exact HB.out | apply below_alloc | apply pw_below_drewN | apply below_drew1 | refine below_set ?_ GE107.out) | exact HB.out)⟩⟩
              · replace c10 := Bool.eq_false_iff.mpr c10
                subst c10
                have H1 : (some false) = some r := by rw [if_neg (show ¬ (false = true) by decide)] at H; exact H
                clear H
                have H := H1
                clear H1
                obtain rfl := Option.some.inj H
                simp only [Option.some.injEq, Prod.mk.injEq] at H
                obtain ⟨rfl⟩ := H
                have hcz12_0 : wr.cell? ⟨gb107, 0, none⟩ = some (.int .i64 ((rd_T38 l0 a1).f0)) := (blk_cell BK107.out 0).trans rfl
                have hcz12_1 : wr.cell? ⟨gb107, 1, none⟩ = some (.slice A106_1 ((rd_T38 l0 a1).f1).length c106_1) := (blk_cell BK107.out 1).trans rfl
                have hfz12_0 := blk_frozen BK107.out 0
                have hfz12_1 := blk_frozen BK107.out 1
                have p108 : 0 ≤ (x6_1 : Int) := of_decide_eq_true (by first | (with_reducible assumption) | assumption)
                have q108 : x6_1 < (((rd_T38 l0 a1).f1).length : Int) := of_decide_eq_true (by first | (with_reducible assumption) | assumption)
                obtain ⟨ad108, e108, hx108_0⟩ := Kd.at_int HR106_1.out x6_1 p108 q108
                cases e108
                replace hx108_0 := (HB.out.cell (World.block_lt_of_cell? w _ hx108_0)).trans hx108_0
                replace p108 := eq_true p108
                replace q108 := eq_true q108
                go_wp2_with (first | ((with_reducible refine gate_callee (f := 61) rfl ?_); refine goesL_ (some 24) rfl rfl Try.func61 (by kernel_rfl) rfl #[.slice (some ad106) l0.length c0, .int .i64 (rd ((rd_T38 l0 a1).f1) x6_1)] rfl (by (try simp only [List.map_toArray, List.map_cons, List.map_nil]); first | done | rfl | (simp only [List.length_drop, List.length_take]; rfl)) ?_; (with_reducible refine (spec_l2Field.calls _ _ l0 (rd ((rd_T38 l0 a1).f1) x6_1) false _ ?side1 ?side2 A9.out).mono ?_); (case side1 => repeat (first | exact (Kd.C_below HR0.out HB.out) | (with_reducible refine Kd.C_alloc ?_ _) | (with_reducible refine Kd.C_drewN ?_ _) | (with_reducible refine Kd.C_drew ?_))); (case side2 => exact HC0.out); rintro e w' ⟨rfl, ⟨nd, rfl⟩⟩; refine ⟨_, rfl, ?_⟩))
                go_ret
                exact ⟨by first | rfl | (simp [errW_none, errW_some] <;> rfl) | (simp [*, errW_none, errW_some] <;> rfl), by repeat (first | (with_reducible first | exact HB.out | apply below_alloc | apply pw_below_drewN | apply below_drew1 | refine below_set ?_ GE107.out) | exact HB.out)⟩
            · rw [if_neg c8] at H
              exact absurd H (by simp)
          · rw [if_neg c7] at H
            have c7b0 : decide (x6_1 < (((rd_T38 l0 a1).f1).length : Int)) = false := decide_eq_false c7
            clear c7
            by_cases c13 : a1 = 0
            · rw [if_pos c13] at H
              have c13b0 : (a1 == 0) = true := beq_iff_eq.mpr c13
              have c13b1 : (a1 != 0) = false := bne_eq_false_iff_eq.mpr c13
              clear c13
              by_cases c14 : ((rd_T38 l0 a1).f0) = (-1)
              · rw [if_pos c14] at H
                have c14b0 : (((rd_T38 l0 a1).f0) == (-1)) = true := beq_iff_eq.mpr c14
                have c14b1 : (((rd_T38 l0 a1).f0) != (-1)) = false := bne_eq_false_iff_eq.mpr c14
                clear c14
                obtain rfl := Option.some.inj H
                simp only [Option.some.injEq, Prod.mk.injEq] at H
                obtain ⟨rfl⟩ := H
                have hcz15_0 : wr.cell? ⟨gb107, 0, none⟩ = some (.int .i64 ((rd_T38 l0 a1).f0)) := (blk_cell BK107.out 0).trans rfl
                have hcz15_1 : wr.cell? ⟨gb107, 1, none⟩ = some (.slice A106_1 ((rd_T38 l0 a1).f1).length c106_1) := (blk_cell BK107.out 1).trans rfl
                have hfz15_0 := blk_frozen BK107.out 0
                have hfz15_1 := blk_frozen BK107.out 1
                go_wp2
                go_ret
                exact ⟨by first | rfl | (simp [errW_none, errW_some] <;> rfl) | (simp [*, errW_none, errW_some] <;> rfl), by repeat (first | (with_reducible first | exact HB.out | apply below_alloc | apply pw_below_drewN | apply below_drew1 | refine below_set ?_ GE107.out) | exact HB.out)⟩
              · rw [if_neg c14] at H
                have c14b0 : (((rd_T38 l0 a1).f0) == (-1)) = false := beq_eq_false_iff_ne.mpr c14
                have c14b1 : (((rd_T38 l0 a1).f0) != (-1)) = true := bne_iff_ne.mpr c14
                obtain rfl := Option.some.inj H
                simp only [Option.some.injEq, Prod.mk.injEq] at H
                obtain ⟨rfl⟩ := H
                have hcz16_0 : wr.cell? ⟨gb107, 0, none⟩ = some (.int .i64 ((rd_T38 l0 a1).f0)) := (blk_cell BK107.out 0).trans rfl
                have hcz16_1 : wr.cell? ⟨gb107, 1, none⟩ = some (.slice A106_1 ((rd_T38 l0 a1).f1).length c106_1) := (blk_cell BK107.out 1).trans rfl
                have hfz16_0 := blk_frozen BK107.out 0
                have hfz16_1 := blk_frozen BK107.out 1
                go_wp2
                go_ret
                exact ⟨by first | rfl | (simp [errW_none, errW_some] <;> rfl) | (simp [*, errW_none, errW_some] <;> rfl), by repeat (first | (with_reducible first | exact HB.out | apply below_alloc | apply pw_below_drewN | apply below_drew1 | refine below_set ?_ GE107.out) | exact HB.out)⟩
            · rw [if_neg c13] at H
              have c13b0 : (a1 == 0) = false := beq_eq_false_iff_ne.mpr c13
              have c13b1 : (a1 != 0) = true := bne_iff_ne.mpr c13
              by_cases c17 : a1 = 1
              · rw [if_pos c17] at H
                have c17b0 : (a1 == 1) = true := beq_iff_eq.mpr c17
                have c17b1 : (a1 != 1) = false := bne_eq_false_iff_eq.mpr c17
                clear c17
                by_cases c18 : ((rd_T38 l0 a1).f0) = 0
                · rw [if_pos c18] at H
                  have c18b0 : (((rd_T38 l0 a1).f0) == 0) = true := beq_iff_eq.mpr c18
                  have c18b1 : (((rd_T38 l0 a1).f0) != 0) = false := bne_eq_false_iff_eq.mpr c18
                  clear c18
                  by_cases c19 : (((rd_T38 l0 a1).f1).length : Int) = 1
                  · rw [if_pos c19] at H
                    have c19b0 : ((((rd_T38 l0 a1).f1).length : Int) == 1) = true := beq_iff_eq.mpr c19
                    have c19b1 : ((((rd_T38 l0 a1).f1).length : Int) != 1) = false := bne_eq_false_iff_eq.mpr c19
                    clear c19
                    by_cases c20 : 0 < (((rd_T38 l0 a1).f1).length : Int)
                    · rw [if_pos c20] at H
                      have c20b0 : decide (0 < (((rd_T38 l0 a1).f1).length : Int)) = true := decide_eq_true c20
                      have c20b1 : decide (0 < ((rd_T38 l0 a1).f1).length) = true := decide_eq_true (by omega)
                      clear c20
                      obtain rfl := Option.some.inj H
                      simp only [Option.some.injEq, Prod.mk.injEq] at H
                      obtain ⟨rfl⟩ := H
                      have hcz21_0 : wr.cell? ⟨gb107, 0, none⟩ = some (.int .i64 ((rd_T38 l0 a1).f0)) := (blk_cell BK107.out 0).trans rfl
                      have hcz21_1 : wr.cell? ⟨gb107, 1, none⟩ = some (.slice A106_1 ((rd_T38 l0 a1).f1).length c106_1) := (blk_cell BK107.out 1).trans rfl
                      have hfz21_0 := blk_frozen BK107.out 0
                      have hfz21_1 := blk_frozen BK107.out 1
                      have p110 : 0 ≤ (0 : Int) := (by omega)
                      have q110 : 0 < (((rd_T38 l0 a1).f1).length : Int) := of_decide_eq_true (by first | (with_reducible assumption) | assumption)
                      obtain ⟨ad110, e110, hx110_0⟩ := Kd.at_int HR106_1.out 0 p110 q110
                      cases e110
                      have qi110 : (0 < ((rd_T38 l0 a1).f1).length) = True := eq_true (by omega)
                      (try rw [show ((0 : Int)).toNat = 0 from rfl] at hx110_0)
                      (try rw [Addr.add_zero'] at hx110_0)
                      replace hx110_0 := (HB.out.cell (World.block_lt_of_cell? w _ hx110_0)).trans hx110_0
                      replace p110 := eq_true p110
                      replace q110 := eq_true q110
                      go_wp2
                      go_ret
                      exact ⟨by first | rfl | (simp [errW_none, errW_some] <;> rfl) | (simp [*, errW_none, errW_some] <;> rfl), by repeat (first | (with_reducible first | exact HB.out | apply below_alloc | apply pw_below_drewN | apply below_drew1 | refine below_set ?_ GE107.out) | exact HB.out)⟩
                    · rw [if_neg c20] at H
                      exact absurd H (by simp)
                  · rw [if_neg c19] at H
                    have c19b0 : ((((rd_T38 l0 a1).f1).length : Int) == 1) = false := beq_eq_false_iff_ne.mpr c19
                    have c19b1 : ((((rd_T38 l0 a1).f1).length : Int) != 1) = true := bne_iff_ne.mpr c19
                    obtain rfl := Option.some.inj H
                    simp only [Option.some.injEq, Prod.mk.injEq] at H
                    obtain ⟨rfl⟩ := H
                    have hcz22_0 : wr.cell? ⟨gb107, 0, none⟩ = some (.int .i64 ((rd_T38 l0 a1).f0)) := (blk_cell BK107.out 0).trans rfl
                    have hcz22_1 : wr.cell? ⟨gb107, 1, none⟩ = some (.slice A106_1 ((rd_T38 l0 a1).f1).length c106_1) := (blk_cell BK107.out 1).trans rfl
                    have hfz22_0 := blk_frozen BK107.out 0
                    have hfz22_1 := blk_frozen BK107.out 1
                    go_wp2
                    go_ret
                    exact ⟨by first | rfl | (simp [errW_none, errW_some] <;> rfl) | (simp [*, errW_none, errW_some] <;> rfl), by repeat (first | (with_reducible first | exact HB.out | apply below_alloc | apply pw_below_drewN | apply below_drew1 | refine below_set ?_ GE107.out) | exact HB.out)⟩
                · rw [if_neg c18] at H
                  have c18b0 : (((rd_T38 l0 a1).f0) == 0) = false := beq_eq_false_iff_ne.mpr c18
                  have c18b1 : (((rd_T38 l0 a1).f0) != 0) = true := bne_iff_ne.mpr c18
                  obtain rfl := Option.some.inj H
                  simp only [Option.some.injEq, Prod.mk.injEq] at H
                  obtain ⟨rfl⟩ := H
                  have hcz23_0 : wr.cell? ⟨gb107, 0, none⟩ = some (.int .i64 ((rd_T38 l0 a1).f0)) := (blk_cell BK107.out 0).trans rfl
                  have hcz23_1 : wr.cell? ⟨gb107, 1, none⟩ = some (.slice A106_1 ((rd_T38 l0 a1).f1).length c106_1) := (blk_cell BK107.out 1).trans rfl
                  have hfz23_0 := blk_frozen BK107.out 0
                  have hfz23_1 := blk_frozen BK107.out 1
                  go_wp2
                  go_ret
                  exact ⟨by first | rfl | (simp [errW_none, errW_some] <;> rfl) | (simp [*, errW_none, errW_some] <;> rfl), by repeat (first | (with_reducible first | exact HB.out | apply below_alloc | apply pw_below_drewN | apply below_drew1 | refine below_set ?_ GE107.out) | exact HB.out)⟩
              · rw [if_neg c17] at H
                have c17b0 : (a1 == 1) = false := beq_eq_false_iff_ne.mpr c17
                have c17b1 : (a1 != 1) = true := bne_iff_ne.mpr c17
                replace H := Option.bind_eq_some_iff.mp H
                obtain ⟨t111, A240, H⟩ := H
                replace H : (if t111 = true then (some (decide ((((rd_T38 l0 a1).f1).length : Int) ≤ 2))) else (some false)) = some r := H
                have A24 := Aside0.mk A240
                clear A240
                by_cases c25 : t111 = true
                · subst c25
                  have H1 : (some (decide ((((rd_T38 l0 a1).f1).length : Int) ≤ 2))) = some r := by rw [if_pos rfl] at H; exact H
                  clear H
                  have H := H1
                  clear H1
                  obtain rfl := Option.some.inj H
                  simp only [Option.some.injEq, Prod.mk.injEq] at H
                  obtain ⟨rfl⟩ := H
                  have hcz26_0 : wr.cell? ⟨gb107, 0, none⟩ = some (.int .i64 ((rd_T38 l0 a1).f0)) := (blk_cell BK107.out 0).trans rfl
                  have hcz26_1 : wr.cell? ⟨gb107, 1, none⟩ = some (.slice A106_1 ((rd_T38 l0 a1).f1).length c106_1) := (blk_cell BK107.out 1).trans rfl
                  have hfz26_0 := blk_frozen BK107.out 0
                  have hfz26_1 := blk_frozen BK107.out 1
                  go_wp2_with (first | ((with_reducible refine gate_callee (f := 56) rfl ?_); refine goesL_ (some 60) rfl rfl Try.func56 (by kernel_rfl) rfl #[.int .i64 ((rd_T38 l0 a1).f0), .int .i64 0, .int .i64 (wrap64 (a1 - 1))] rfl (by (try simp only [List.map_toArray, List.map_cons, List.map_nil]); first | done | rfl | (simp only [List.length_drop, List.length_take]; rfl)) ?_; (with_reducible refine (spec_l6In.calls ((rd_T38 l0 a1).f0) 0 (wrap64 (a1 - 1)) true _ A24.out).mono ?_); rintro e w' ⟨rfl, ⟨nd, rfl⟩⟩; refine ⟨_, rfl, ?_⟩))
                  go_ret
                  exact ⟨by first | rfl | (simp [errW_none, errW_some] <;> rfl) | (simp [*, errW_none, errW_some] <;> rfl), by repeat (first | (with_reducible first | exact HB.out | apply below_alloc | apply pw_below_drewN | apply below_drew1 | refine below_set ?_ GE107.out) | exact HB.out)⟩
                · replace c25 := Bool.eq_false_iff.mpr c25
                  subst c25
                  have H1 : (some false) = some r := by rw [if_neg (show ¬ (false = true) by decide)] at H; exact H
                  clear H
                  have H := H1
                  clear H1
                  obtain rfl := Option.some.inj H
                  simp only [Option.some.injEq, Prod.mk.injEq] at H
                  obtain ⟨rfl⟩ := H
                  have hcz27_0 : wr.cell? ⟨gb107, 0, none⟩ = some (.int .i64 ((rd_T38 l0 a1).f0)) := (blk_cell BK107.out 0).trans rfl
                  have hcz27_1 : wr.cell? ⟨gb107, 1, none⟩ = some (.slice A106_1 ((rd_T38 l0 a1).f1).length c106_1) := (blk_cell BK107.out 1).trans rfl
                  have hfz27_0 := blk_frozen BK107.out 0
                  have hfz27_1 := blk_frozen BK107.out 1
                  go_wp2_with (first | ((with_reducible refine gate_callee (f := 56) rfl ?_); refine goesL_ (some 60) rfl rfl Try.func56 (by kernel_rfl) rfl #[.int .i64 ((rd_T38 l0 a1).f0), .int .i64 0, .int .i64 (wrap64 (a1 - 1))] rfl (by (try simp only [List.map_toArray, List.map_cons, List.map_nil]); first | done | rfl | (simp only [List.length_drop, List.length_take]; rfl)) ?_; (with_reducible refine (spec_l6In.calls ((rd_T38 l0 a1).f0) 0 (wrap64 (a1 - 1)) false _ A24.out).mono ?_); rintro e w' ⟨rfl, ⟨nd, rfl⟩⟩; refine ⟨_, rfl, ?_⟩))
                  go_ret
                  exact ⟨by first | rfl | (simp [errW_none, errW_some] <;> rfl) | (simp [*, errW_none, errW_some] <;> rfl), by repeat (first | (with_reducible first | exact HB.out | apply below_alloc | apply pw_below_drewN | apply below_drew1 | refine below_set ?_ GE107.out) | exact HB.out)⟩
    · rw [if_neg c4] at H
      exact absurd H (by simp)
  · rw [if_neg c3] at H
    exact absurd H (by simp)

end Go.Proofs.Ytgmjolngnhdafaa.P

end
section
namespace Go.Proofs.Ytgmjolngnhdafaa.P
open Go.RowKit Go.Proofs.YtgmjolngnhdafaaW.PrintWords Go.Proofs.YtgmjolngnhdafaaW.PrintLast Go.Proofs.YtgmjolngnhdafaaW.PrintMore
attribute [local go_sem] max2_int min2_int max_two min_two max_three min_three max_four min_four
set_option linter.unusedVariables false
set_option linter.unusedSimpArgs false

set_option maxHeartbeats 8000000 in
set_option maxRecDepth 100000 in
theorem spec_ClassesOk.calls (k : Nat) (A0 : Option Addr) (c0 : Nat) (l0 : List (S38)) (r : Bool) (w : World) (hr0 : Kd.C k38 w A0 l0.length l0) (hc0 : l0.length ≤ c0) (h : spec_ClassesOk.f k l0 = some r) :
    Calls Try.prog 21 #[.slice A0 l0.length c0] w fun e w' => e = .returned (.bool r) ∧ Below w.heap.size w w' := by
  have HR0 := Aside0.mk hr0
  have HC0 := Aside0.mk hc0
  clear hr0 hc0
  have HB := Aside0.mk (Below.refl w.heap.size w)
  have H : ((spec_l6In.f (l0.length : Int) 2 5).bind fun t112 => (if t112 = true then (spec_ClassesOk.l0 k l0 0) else (some false))) = some r := h
  clear h
  replace H := Option.bind_eq_some_iff.mp H
  obtain ⟨t112, A20, H⟩ := H
  replace H : (if t112 = true then (spec_ClassesOk.l0 k l0 0) else (some false)) = some r := H
  have A2 := Aside0.mk A20
  clear A20
  by_cases c3 : t112 = true
  · subst c3
    have H1 : (spec_ClassesOk.l0 k l0 0) = some r := by rw [if_pos rfl] at H; exact H
    clear H
    have H := H1
    clear H1
    have H' := Aside0.mk H
    clear H
    go_enter Try.func21, Try.ntmps21
    go_wp2_with (first | ((with_reducible refine gate_callee (f := 56) rfl ?_); refine goesL_ (some 6) rfl rfl Try.func56 (by kernel_rfl) rfl #[.int .i64 (l0.length : Int), .int .i64 2, .int .i64 5] rfl (by (try simp only [List.map_toArray, List.map_cons, List.map_nil]); first | done | rfl | (simp only [List.length_drop, List.length_take]; rfl)) ?_; (with_reducible refine (spec_l6In.calls (l0.length : Int) 2 5 true _ A2.out).mono ?_); rintro e w' ⟨rfl, ⟨nd, rfl⟩⟩; refine ⟨_, rfl, ?_⟩))
    go_loopg [3] k (fun kq v3 w' => ∃ (x3_1 : Int), v3 = .int .i64 x3_1 ∧ Aside0 (spec_ClassesOk.l0 kq l0 x3_1 = some r) ∧ Aside0 (kq ≤ k) ∧ Aside0 (Below w.heap.size w w'))
    case atStart => exact ⟨(0), (by first | rfl | (simp; done) | (simp [*]; done)), H', ⟨Nat.le_refl _⟩, ⟨by repeat (first | (with_reducible first | exact HB.out | apply below_alloc | apply pw_below_drewN | apply below_drew1) | exact HB.out)⟩⟩
    case round =>
      clear H'
      try clear c2
      try clear p2
      try clear c3
      obtain ⟨x3_1, rfl, HA, HK1, HB⟩ := hrel
      cases gk with
      | zero => exact absurd HA.out (by simp [spec_ClassesOk.l0])
      | succ k1 =>
        have H := HA.out
        clear HA
        simp only [spec_ClassesOk.l0] at H
        by_cases c4 : x3_1 < (l0.length : Int)
        · rw [if_pos c4] at H
          have c4b0 : decide (x3_1 < (l0.length : Int)) = true := decide_eq_true c4
          clear c4
          replace H := Option.bind_eq_some_iff.mp H
          obtain ⟨t113, A50, H⟩ := H
          replace H : (if t113 = true then (spec_ClassesOk.l0 k1 l0 (wrap64 (x3_1 + 1))) else (some false)) = some r := H
          have A5 := Aside0.mk A50
          clear A50
          by_cases c6 : t113 = true
          · subst c6
            have H1 : (spec_ClassesOk.l0 k1 l0 (wrap64 (x3_1 + 1))) = some r := by rw [if_pos rfl] at H; exact H
            clear H
            have H := H1
            clear H1
            have H' := Aside0.mk H
            clear H
            go_wp2_with (first | ((with_reducible refine gate_callee (f := 57) rfl ?_); refine goesL_ (some 16) rfl rfl Try.func57 (by kernel_rfl) rfl #[.slice A0 l0.length c0, .int .i64 x3_1] rfl (by (try simp only [List.map_toArray, List.map_cons, List.map_nil]); first | done | rfl | (simp only [List.length_drop, List.length_take]; rfl)) ?_; (with_reducible refine (spec_l2Class.calls k1 _ _ l0 x3_1 true _ ?side1 ?side2 A5.out).mono ?_); (case side1 => repeat (first | exact (Kd.C_below HR0.out HB.out) | (with_reducible refine Kd.C_alloc ?_ _) | (with_reducible refine Kd.C_drewN ?_ _) | (with_reducible refine Kd.C_drew ?_))); (case side2 => exact HC0.out); rintro e w7 ⟨rfl, hb⟩; refine ⟨_, rfl, ?_⟩; have n0_ := Aside0.mk (below_step (by repeat (first | (with_reducible first | exact HB.out | apply below_alloc | apply pw_below_drewN | apply below_drew1) | exact HB.out)) hb); clear HB; have HB := n0_; clear n0_; (try clear hb); (try clear hb2); (try clear hk); (try clear hi)))
            go_roundg k1
            case measure => have := HK1.out; omega
            case rel => exact ⟨(wrap64 (x3_1 + 1)), (by first | rfl | (simp; done) | (simp [*]; done)), H', ⟨by have := HK1.out; omega⟩, ⟨by repeat (first | (with_reducible first | exact HB.out | apply below_alloc | apply pw_below_drewN | apply below_drew1) | exact HB.out)⟩⟩
          · replace c6 := Bool.eq_false_iff.mpr c6
            subst c6
            have H1 : (some false) = some r := by rw [if_neg (show ¬ (false = true) by decide)] at H; exact H
            clear H
            have H := H1
            clear H1
            obtain rfl := Option.some.inj H
            simp only [Option.some.injEq, Prod.mk.injEq] at H
            obtain ⟨rfl⟩ := H
            go_wp2_with (first | ((with_reducible refine gate_callee (f := 57) rfl ?_); refine goesL_ (some 16) rfl rfl Try.func57 (by kernel_rfl) rfl #[.slice A0 l0.length c0, .int .i64 x3_1] rfl (by (try simp only [List.map_toArray, List.map_cons, List.map_nil]); first | done | rfl | (simp only [List.length_drop, List.length_take]; rfl)) ?_; (with_reducible refine (spec_l2Class.calls k1 _ _ l0 x3_1 false _ ?side1 ?side2 A5.out).mono ?_); (case side1 => repeat (first | exact (Kd.C_below HR0.out HB.out) | (with_reducible refine Kd.C_alloc ?_ _) | (with_reducible refine Kd.C_drewN ?_ _) | (with_reducible refine Kd.C_drew ?_))); (case side2 => exact HC0.out); rintro e w8 ⟨rfl, hb⟩; refine ⟨_, rfl, ?_⟩; have n0_ := Aside0.mk (below_step (by repeat (first | (with_reducible first | exact HB.out | apply below_alloc | apply pw_below_drewN | apply below_drew1) | exact HB.out)) hb); clear HB; have HB := n0_; clear n0_; (try clear hb); (try clear hb2); (try clear hk); (try clear hi)))
            go_ret
            exact ⟨by first | rfl | (simp [errW_none, errW_some] <;> rfl) | (simp [*, errW_none, errW_some] <;> rfl), by repeat (first | (with_reducible first | exact HB.out | apply below_alloc | apply pw_below_drewN | apply below_drew1) | exact HB.out)⟩
        · rw [if_neg c4] at H
          have c4b0 : decide (x3_1 < (l0.length : Int)) = false := decide_eq_false c4
          clear c4
          obtain rfl := Option.some.inj H
          simp only [Option.some.injEq, Prod.mk.injEq] at H
          obtain ⟨rfl⟩ := H
          go_wp2
          go_ret
          exact ⟨by first | rfl | (simp [errW_none, errW_some] <;> rfl) | (simp [*, errW_none, errW_some] <;> rfl), by repeat (first | (with_reducible first | exact HB.out | apply below_alloc | apply pw_below_drewN | apply below_drew1) | exact HB.out)⟩
  · replace c3 := Bool.eq_false_iff.mpr c3
    subst c3
    have H1 : (some false) = some r := by rw [if_neg (show ¬ (false = true) by decide)] at H; exact H
    clear H
    have H := H1
    clear H1
    obtain rfl := Option.some.inj H
    simp only [Option.some.injEq, Prod.mk.injEq] at H
    obtain ⟨rfl⟩ := H
    go_enter Try.func21, Try.ntmps21
    go_wp2_with (first | ((with_reducible refine gate_callee (f := 56) rfl ?_); refine goesL_ (some 6) rfl rfl Try.func56 (by kernel_rfl) rfl #[.int .i64 (l0.length : Int), .int .i64 2, .int .i64 5] rfl (by (try simp only [List.map_toArray, List.map_cons, List.map_nil]); first | done | rfl | (simp only [List.length_drop, List.length_take]; rfl)) ?_; (with_reducible refine (spec_l6In.calls (l0.length : Int) 2 5 false _ A2.out).mono ?_); rintro e w' ⟨rfl, ⟨nd, rfl⟩⟩; refine ⟨_, rfl, ?_⟩))
    go_ret
    exact ⟨by first | rfl | (simp [errW_none, errW_some] <;> rfl) | (simp [*, errW_none, errW_some] <;> rfl), by repeat (first | (with_reducible first | exact HB.out | apply below_alloc | apply pw_below_drewN | apply below_drew1) | exact HB.out)⟩

end Go.Proofs.Ytgmjolngnhdafaa.P

end
section
namespace Go.Proofs.Ytgmjolngnhdafaa.P
open Go.RowKit Go.Proofs.YtgmjolngnhdafaaW.PrintWords Go.Proofs.YtgmjolngnhdafaaW.PrintLast Go.Proofs.YtgmjolngnhdafaaW.PrintMore
attribute [local go_sem] max2_int min2_int max_two min_two max_three min_three max_four min_four
set_option linter.unusedVariables false
set_option linter.unusedSimpArgs false

set_option maxHeartbeats 8000000 in
set_option maxRecDepth 100000 in
theorem spec_l2Is.calls (k : Nat) (A0 : Option Addr) (c0 : Nat) (l0 : List (S38)) (a1 : Int) (r : Bool) (w : World) (hr0 : Kd.C k38 w A0 l0.length l0) (hc0 : l0.length ≤ c0) (h : spec_l2Is.f k l0 a1 = some r) :
    Calls Try.prog 68 #[.slice A0 l0.length c0, .int .i64 a1] w fun e w' => e = .returned (.bool r) ∧ Below w.heap.size w w' := by
  have HR0 := Aside0.mk hr0
  have HC0 := Aside0.mk hc0
  clear hr0 hc0
  have HB := Aside0.mk (Below.refl w.heap.size w)
  have H : ((spec_ClassesOk.f k l0).bind fun t232 => (if t232 = true then ((spec_l6In.f a1 0 (wrap64 ((l0.length : Int) - 1))).bind fun t233 => (some t233)) else (some false))) = some r := h
  clear h
  replace H := Option.bind_eq_some_iff.mp H
  obtain ⟨t232, A30, H⟩ := H
  replace H : (if t232 = true then ((spec_l6In.f a1 0 (wrap64 ((l0.length : Int) - 1))).bind fun t233 => (some t233)) else (some false)) = some r := H
  have A3 := Aside0.mk A30
  clear A30
  by_cases c4 : t232 = true
  · subst c4
    have H1 : ((spec_l6In.f a1 0 (wrap64 ((l0.length : Int) - 1))).bind fun t233 => (some t233)) = some r := by rw [if_pos rfl] at H; exact H
    clear H
    have H := H1
    clear H1
    replace H := Option.bind_eq_some_iff.mp H
    obtain ⟨t233, A50, H⟩ := H
    replace H : (some t233) = some r := H
    have A5 := Aside0.mk A50
    clear A50
    obtain rfl := Option.some.inj H
    simp only [Option.some.injEq, Prod.mk.injEq] at H
    obtain ⟨rfl⟩ := H
    go_enter Try.func68, Try.ntmps68
    go_wp2_with (first | ((with_reducible refine gate_callee (f := 21) rfl ?_); refine goesL_ (some 6) rfl rfl Try.func21 (by kernel_rfl) rfl #[.slice A0 l0.length c0] rfl (by (try simp only [List.map_toArray, List.map_cons, List.map_nil]); first | done | rfl | (simp only [List.length_drop, List.length_take]; rfl)) ?_; (with_reducible refine (spec_ClassesOk.calls k _ _ l0 true _ ?side1 ?side2 A3.out).mono ?_); (case side1 => repeat (first | exact HR0.out | (with_reducible refine Kd.C_alloc ?_ _) | (with_reducible refine Kd.C_drewN ?_ _) | (with_reducible refine Kd.C_drew ?_))); (case side2 => exact HC0.out); rintro e w6 ⟨rfl, hb⟩; refine ⟨_, rfl, ?_⟩; have n0_ := Aside0.mk (below_step (by repeat (first | (with_reducible first | exact HB.out | apply below_alloc | apply pw_below_drewN | apply below_drew1) | exact HB.out)) hb); clear HB; have HB := n0_; clear n0_; (try clear hb); (try clear hb2); (try clear hk); (try clear hi)) | (go_at_call 56; (with_reducible refine (spec_l6In.calls a1 0 (wrap64 ((l0.length : Int) - 1)) t233 _ A5.out).mono ?_); rintro e w' ⟨rfl, ⟨nd, rfl⟩⟩))
    go_ret
    exact ⟨by first | rfl | (simp [errW_none, errW_some] <;> rfl) | (simp [*, errW_none, errW_some] <;> rfl), by repeat (first | (with_reducible first | exact HB.out | apply below_alloc | apply pw_below_drewN | apply below_drew1) | exact HB.out)⟩
  · replace c4 := Bool.eq_false_iff.mpr c4
    subst c4
    have H1 : (some false) = some r := by rw [if_neg (show ¬ (false = true) by decide)] at H; exact H
    clear H
    have H := H1
    clear H1
    obtain rfl := Option.some.inj H
    simp only [Option.some.injEq, Prod.mk.injEq] at H
    obtain ⟨rfl⟩ := H
    go_enter Try.func68, Try.ntmps68
    go_wp2_with (first | ((with_reducible refine gate_callee (f := 21) rfl ?_); refine goesL_ (some 6) rfl rfl Try.func21 (by kernel_rfl) rfl #[.slice A0 l0.length c0] rfl (by (try simp only [List.map_toArray, List.map_cons, List.map_nil]); first | done | rfl | (simp only [List.length_drop, List.length_take]; rfl)) ?_; (with_reducible refine (spec_ClassesOk.calls k _ _ l0 false _ ?side1 ?side2 A3.out).mono ?_); (case side1 => repeat (first | exact HR0.out | (with_reducible refine Kd.C_alloc ?_ _) | (with_reducible refine Kd.C_drewN ?_ _) | (with_reducible refine Kd.C_drew ?_))); (case side2 => exact HC0.out); rintro e w7 ⟨rfl, hb⟩; refine ⟨_, rfl, ?_⟩; have n0_ := Aside0.mk (below_step (by repeat (first | (with_reducible first | exact HB.out | apply below_alloc | apply pw_below_drewN | apply below_drew1) | exact HB.out)) hb); clear HB; have HB := n0_; clear n0_; (try clear hb); (try clear hb2); (try clear hk); (try clear hi)))
    go_ret
    exact ⟨by first | rfl | (simp [errW_none, errW_some] <;> rfl) | (simp [*, errW_none, errW_some] <;> rfl), by repeat (first | (with_reducible first | exact HB.out | apply below_alloc | apply pw_below_drewN | apply below_drew1) | exact HB.out)⟩

end Go.Proofs.Ytgmjolngnhdafaa.P

end
section
namespace Go.Proofs.Ytgmjolngnhdafaa.P
open Go.RowKit Go.Proofs.YtgmjolngnhdafaaW.PrintWords Go.Proofs.YtgmjolngnhdafaaW.PrintLast Go.Proofs.YtgmjolngnhdafaaW.PrintMore
attribute [local go_sem] max2_int min2_int max_two min_two max_three min_three max_four min_four
set_option linter.unusedVariables false
set_option linter.unusedSimpArgs false

def spec_l2Fields.T3 : Bool × List (List Nat × List Nat) := (true, [([], []), ([], []), ([], []), ([1, 2], [1, 2]), ([3], [3]), ([4], [4]), ([0, 5], [0, 5]), ([], []), ([], []), ([7, 8], [7, 8]), ([9], [9]), ([10], [10]), ([6, 11, 6], [6, 11]), ([12, 12, 0, 1, 2, 3, 4, 5, 6, 7, 8, 9, 10, 11, 12], [12])])
def spec_l2Fields.B3 : List Nat := [0, 0, 0, 6, 14, 30, 63, 0, 0, 384, 896, 1920, 4095, 8191]
theorem spec_l2Fields.tab3 : rtab .any (opsOf Try.f71 3) = spec_l2Fields.T3 := by kernel_rfl
theorem spec_l2Fields.bits3 : waitsOk spec_l2Fields.T3.2 spec_l2Fields.B3 = true := by kernel_rfl
set_option maxHeartbeats 8000000 in
set_option maxRecDepth 100000 in
theorem spec_l2Fields.calls (k : Nat) : ∀ (A0 : Option Addr) (c0 : Nat) (l0 : List (S38)) (a1 : Int) (r : List Int) (w : World) (hr0 : Kd.C k38 w A0 l0.length l0) (hc0 : l0.length ≤ c0) (h : spec_l2Fields.f k l0 a1 = some r),
    Calls Try.prog 71 #[.slice A0 l0.length c0, .int .i64 a1] w fun e w' => ∃ v0_ : Value, e = .returned (v0_) ∧ Kd.R (Kd.int .i64) 3 w' w.heap.size (fun _ => True) v0_ r ∧ Below w.heap.size w w' := by
  induction k using Nat.strongRecOn with
  | _ k ih =>
  intro A0 c0 l0 a1 r w hr0 hc0 h
  cases k with
  | zero => exact absurd h (by simp [spec_l2Fields.f])
  | succ k =>
  simp only [spec_l2Fields.f] at h
  have HR0 := Aside0.mk hr0
  have HC0 := Aside0.mk hc0
  clear hr0 hc0
  have HB := Aside0.mk (Below.refl w.heap.size w)
  have H : (if a1 = 0 then (some (([] : List Int))) else (if 0 ≤ a1 then (if a1 < (l0.length : Int) then ((spec_l2Fields.f k l0 ((rd_T38 l0 a1).f0)).bind fun t309 => (if t309.length + ((rd_T38 l0 a1).f1).length < 17592186044416 then (some (t309 ++ ((rd_T38 l0 a1).f1))) else (none))) else (none)) else (none))) = some r := h
  clear h
  by_cases c3 : a1 = 0
  · rw [if_pos c3] at H
    have c3b0 : (a1 == 0) = true := beq_iff_eq.mpr c3
    have c3b1 : (a1 != 0) = false := bne_eq_false_iff_eq.mpr c3
    clear c3
    obtain ⟨y305, hy305⟩ : ∃ y_ : List Int, y_ = (([] : List Int)) := ⟨_, rfl⟩
    replace H : (some y305) = some r := by first | (rw [hy305]; with_reducible exact H) | (have H2_ := (Option.bind_some _ _).symm.trans H; rw [hy305]; with_reducible exact H2_) | (have H2_ := (Option.bind_some _ _).symm.trans H; with_reducible exact H2_) | with_reducible exact H | (rw [hy305]; exact H) | exact H
    have Ny305 := Aside0.mk hy305
    clear hy305
    obtain rfl := Option.some.inj H
    simp only [Option.some.injEq, Prod.mk.injEq] at H
    obtain ⟨rfl⟩ := H
    go_enter Try.func71, Try.ntmps71
    go_wp2_with (first | ((with_reducible refine gate_dst (N := 7) rfl ?_); refine Kd.R_lit (Kd.int .i64) _ 3 ?hg (N := 7) ?hd (xs := ([] : List Int)) (inner := []) (ok := fun _ => True) (okp := fun _ => True) ?hr ?hp (fun _ hk => hk) trivial (Below.refl _ _) (Nat.le_refl _) (by simp) ?_; (case hd => rfl); (case hg => rfl); (case hr => first | (go_simp; done) | (go_simp; rfl)); (case hp => exact (Reps.none _ _)); intro v306 w4 ho5 hb hg_ hnew_; clear hg_ hnew_; (first | rw [← Ny305.out] at ho5 | (simp only [Int.reduceToNat] at ho5; rw [← Ny305.out] at ho5)); have n0_ := Aside0.mk (Kd.R_lower ho5 (below_size (by repeat (first | (with_reducible first | exact HB.out | apply below_alloc | apply pw_below_drewN | apply below_drew1) | exact HB.out)))); have n1_ := Aside0.mk (below_step (by repeat (first | (with_reducible first | exact HB.out | apply below_alloc | apply pw_below_drewN | apply below_drew1) | exact HB.out)) hb); clear HB; have HO307 := n0_; have HB := n1_; clear n0_ n1_; clear hb ho5))
    go_ret
    exact ⟨_, by first | rfl | (simp [errW_none, errW_some] <;> rfl) | (simp [*, errW_none, errW_some] <;> rfl), by (with_reducible repeat (first | apply Kd.R_alloc | apply Kd.R_drewN | apply Kd.R_drew)); exact HO307.out, by repeat (first | (with_reducible first | exact HB.out | apply below_alloc | apply pw_below_drewN | apply below_drew1) | exact HB.out)⟩
  · rw [if_neg c3] at H
    have c3b0 : (a1 == 0) = false := beq_eq_false_iff_ne.mpr c3
    have c3b1 : (a1 != 0) = true := bne_iff_ne.mpr c3
    by_cases c6 : 0 ≤ a1
    · rw [if_pos c6] at H
      have c6b0 : decide (0 ≤ a1) = true := decide_eq_true c6
      clear c6
      by_cases c7 : a1 < (l0.length : Int)
      · rw [if_pos c7] at H
        have c7b0 : decide (a1 < (l0.length : Int)) = true := decide_eq_true c7
        clear c7
        replace H := Option.bind_eq_some_iff.mp H
        obtain ⟨t309, A80, H⟩ := H
        replace H : (if t309.length + ((rd_T38 l0 a1).f1).length < 17592186044416 then (some (t309 ++ ((rd_T38 l0 a1).f1))) else (none)) = some r := H
        have A8 := Aside0.mk A80
        clear A80
        by_cases c9 : t309.length + ((rd_T38 l0 a1).f1).length < 17592186044416
        · rw [if_pos c9] at H
          have LMc9 := Aside0.mk c9
          clear c9
          obtain ⟨y313, hy313⟩ : ∃ y_ : List Int, y_ = (t309 ++ ((rd_T38 l0 a1).f1)) := ⟨_, rfl⟩
          replace H : (some y313) = some r := by first | (rw [hy313]; with_reducible exact H) | (have H2_ := (Option.bind_some _ _).symm.trans H; rw [hy313]; with_reducible exact H2_) | (have H2_ := (Option.bind_some _ _).symm.trans H; with_reducible exact H2_) | with_reducible exact H | (rw [hy313]; exact H) | exact H
          have Ny313 := Aside0.mk hy313
          clear hy313
          obtain rfl := Option.some.inj H
          simp only [Option.some.injEq, Prod.mk.injEq] at H
          obtain ⟨rfl⟩ := H
          go_enter Try.func71, Try.ntmps71
          try go_wp2
          have n0_ := Aside0.mk (below_drew1 HB.out)
          clear HB
          have HB := n0_
          clear n0_
          have p308 : 0 ≤ (a1 : Int) := of_decide_eq_true (by first | (with_reducible assumption) | assumption)
          have q308 : a1 < (l0.length : Int) := of_decide_eq_true (by first | (with_reducible assumption) | assumption)
          obtain ⟨ad308, A308_1, c308_1, e308, hx308_0, hx308_1, hl308_1, hi308_1⟩ := at_T38 HR0.out a1 p308 q308
          have hw308_1 := hx308_1
          have hw308_0 := hx308_0
          cases e308
          replace hx308_0 := (HB.out.cell (World.block_lt_of_cell? w _ hx308_0)).trans hx308_0
          replace hx308_1 := (HB.out.cell (World.block_lt_of_cell? w _ hx308_1)).trans hx308_1
          have HR308_1 := Aside0.mk hi308_1
          have HC308_1 := Aside0.mk hl308_1
          clear hi308_1 hl308_1
          replace p308 := eq_true p308
          replace q308 := eq_true q308
          have p312 : 0 ≤ (a1 : Int) := of_decide_eq_true (by first | (with_reducible assumption) | assumption)
          have q312 : a1 < (l0.length : Int) := of_decide_eq_true (by first | (with_reducible assumption) | assumption)
          obtain ⟨ad312, A312_1, c312_1, e312, hx312_0, hx312_1, hl312_1, hi312_1⟩ := at_T38 HR0.out a1 p312 q312
          have hw312_1 := hx312_1
          have hw312_0 := hx312_0
          obtain rfl : ad308 = ad312 := (by injection e312)
          replace hx312_0 := (HB.out.cell (World.block_lt_of_cell? w _ hx312_0)).trans hx312_0
          replace hx312_1 := (HB.out.cell (World.block_lt_of_cell? w _ hx312_1)).trans hx312_1
          have HR312_1 := Aside0.mk hi312_1
          have HC312_1 := Aside0.mk hl312_1
          clear hi312_1 hl312_1
          replace p312 := eq_true p312
          replace q312 := eq_true q312
          have ea_ := Option.some.inj (hx308_1.symm.trans hx312_1)
          injection ea_ with ea_ en_ ec_
          subst ea_
          subst ec_
          clear en_
          refine start_ (n := 14) (S := fun w' => w'.cell? (ad308.add ((a1).toNat * 2)) = some (.int .i64 ((rd_T38 l0 a1).f0)) ∧ w'.cell? ⟨(ad308.add ((a1).toNat * 2)).block, (ad308.add ((a1).toNat * 2)).off + 1, none⟩ = some (.slice A308_1 ((rd_T38 l0 a1).f1).length c308_1) ∧ w'.cell? (ad308.add ((a1).toNat * 2)) = some (.int .i64 ((rd_T38 l0 a1).f0)) ∧ w'.cell? ⟨(ad308.add ((a1).toNat * 2)).block, (ad308.add ((a1).toNat * 2)).off + 1, none⟩ = some (.slice A308_1 ((rd_T38 l0 a1).f1).length c308_1)) (ds := []) #[false, false, false, false, false, false, false, false, false, false, false, false, false, false] (by kernel_rfl) rfl rfl ⟨((HB.out.cell (World.block_lt_of_cell? w _ hw308_0)).trans hw308_0), ((HB.out.cell (World.block_lt_of_cell? w _ hw308_1)).trans hw308_1), ((HB.out.cell (World.block_lt_of_cell? w _ hw312_0)).trans hw312_0), ((HB.out.cell (World.block_lt_of_cell? w _ hw312_1)).trans hw312_1)⟩ (fun hHeld => ?_); refine with_tabW spec_l2Fields.tab3 spec_l2Fields.bits3 (fun HT_ HW_ => ?_)
          generalize w.drew = w10 at HB HR308_1 HR312_1 hx308_0 hx308_1 hx312_0 hx312_1 hHeld ⊢
          refine pure_ (i := 0) (N := some 8) (v := ?_) (a' := ?_) #[true, false, false, false, false, false, false, false, false, false, false, false, false, false] rfl rfl (any_of HT_.out (by kernel_rfl)) (fun _ _ _ h => h) (Or.inl ⟨by rfl, ?_⟩) ?_ ?_
          rotate_left
          · intro w'
            go_simp
            with_reducible rfl
          rotate_left
          · simp only [Act.put, List.setIfInBounds_toArray, List.set_cons_zero, List.set_cons_succ, i64_w, i32_w]
            rfl
          refine pure_ (i := 1) (N := some 9) (v := ?_) (a' := ?_) #[true, true, false, false, false, false, false, false, false, false, false, false, false, false] rfl rfl (any_of HT_.out (by kernel_rfl)) (fun _ _ _ h => h) (Or.inl ⟨by rfl, ?_⟩) ?_ ?_
          rotate_left
          · intro w'
            go_simp
            with_reducible rfl
          rotate_left
          · simp only [Act.put, List.setIfInBounds_toArray, List.set_cons_zero, List.set_cons_succ, i64_w, i32_w]
            rfl
          refine pure_ (i := 2) (N := some 10) (v := ?_) (a' := ?_) #[true, true, true, false, false, false, false, false, false, false, false, false, false, false] rfl rfl (any_of HT_.out (by kernel_rfl)) (fun _ _ _ h => h) (Or.inl ⟨by rfl, ?_⟩) ?_ ?_
          rotate_left
          · intro w'
            go_simp
            with_reducible rfl
          rotate_left
          · simp only [Act.put, List.setIfInBounds_toArray, List.set_cons_zero, List.set_cons_succ, i64_w, i32_w]
            rfl
          refine pure_ (i := 3) (N := some 11) (v := ?_) (a' := ?_) #[true, true, true, true, false, false, false, false, false, false, false, false, false, false] rfl rfl (any_of HT_.out (by kernel_rfl)) (fun _ _ _ h => h) (Or.inl ⟨by rfl, ?_⟩) ?_ ?_
          rotate_left
          · intro w'
            go_simp
            with_reducible rfl
          rotate_left
          · simp only [Act.put, List.setIfInBounds_toArray, List.set_cons_zero, List.set_cons_succ, i64_w, i32_w]
            rfl
          refine pure_ (i := 4) (N := some 12) (v := ?_) (a' := ?_) #[true, true, true, true, true, false, false, false, false, false, false, false, false, false] rfl rfl (any_of HT_.out (by kernel_rfl)) (fun _ _ _ h => h) (Or.inl ⟨by rfl, ?_⟩) ?_ ?_
          rotate_left
          · intro w'
            go_simp
            with_reducible rfl
          rotate_left
          · simp only [Act.put, List.setIfInBounds_toArray, List.set_cons_zero, List.set_cons_succ, i64_w, i32_w]
            rfl
          refine pure_ (i := 7) (N := some 15) (v := ?_) (a' := ?_) #[true, true, true, true, true, false, false, true, false, false, false, false, false, false] rfl rfl (any_of HT_.out (by kernel_rfl)) (fun _ _ _ h => h) (Or.inl ⟨by rfl, ?_⟩) ?_ ?_
          rotate_left
          · intro w'
            go_simp
            with_reducible rfl
          rotate_left
          · simp only [Act.put, List.setIfInBounds_toArray, List.set_cons_zero, List.set_cons_succ, i64_w, i32_w]
            rfl
          refine pure_ (i := 8) (N := some 16) (v := ?_) (a' := ?_) #[true, true, true, true, true, false, false, true, true, false, false, false, false, false] rfl rfl (any_of HT_.out (by kernel_rfl)) (fun _ _ _ h => h) (Or.inl ⟨by rfl, ?_⟩) ?_ ?_
          rotate_left
          · intro w'
            go_simp
            with_reducible rfl
          rotate_left
          · simp only [Act.put, List.setIfInBounds_toArray, List.set_cons_zero, List.set_cons_succ, i64_w, i32_w]
            rfl
          refine pure_ (i := 9) (N := some 17) (v := ?_) (a' := ?_) #[true, true, true, true, true, false, false, true, true, true, false, false, false, false] rfl rfl (any_of HT_.out (by kernel_rfl)) (fun _ _ _ h => h) (Or.inl ⟨by rfl, ?_⟩) ?_ ?_
          rotate_left
          · intro w'
            go_simp
            with_reducible rfl
          rotate_left
          · simp only [Act.put, List.setIfInBounds_toArray, List.set_cons_zero, List.set_cons_succ, i64_w, i32_w]
            rfl
          refine pure_ (i := 10) (N := some 18) (v := ?_) (a' := ?_) #[true, true, true, true, true, false, false, true, true, true, true, false, false, false] rfl rfl (any_of HT_.out (by kernel_rfl)) (fun _ _ _ h => h) (Or.inl ⟨by rfl, ?_⟩) ?_ ?_
          rotate_left
          · intro w'
            go_simp
            with_reducible rfl
          rotate_left
          · simp only [Act.put, List.setIfInBounds_toArray, List.set_cons_zero, List.set_cons_succ, i64_w, i32_w]
            rfl
          refine take_ (i := 5) (N := some 13) (v := ?_) (a' := ?_) #[true, true, true, true, true, true, false, true, true, true, true, false, false, false] rfl rfl (take_ofW HT_.out HW_.out (by kernel_rfl)) (fun _ _ _ h => h) (Or.inl ⟨by rfl, ?_⟩) hHeld ?_ ?_
          rotate_left
          · rintro w' ⟨s0, s1, s2, s3⟩
            go_simp
            with_reducible rfl
          rotate_left
          · simp only [Act.put, List.setIfInBounds_toArray, List.set_cons_zero, List.set_cons_succ, i64_w, i32_w]
            rfl
          refine take_ (i := 11) (N := some 19) (v := ?_) (a' := ?_) #[true, true, true, true, true, true, false, true, true, true, true, true, false, false] rfl rfl (take_ofW HT_.out HW_.out (by kernel_rfl)) (fun _ _ _ h => h) (Or.inl ⟨by rfl, ?_⟩) hHeld ?_ ?_
          rotate_left
          · rintro w' ⟨s0, s1, s2, s3⟩
            go_simp
            with_reducible rfl
          rotate_left
          · simp only [Act.put, List.setIfInBounds_toArray, List.set_cons_zero, List.set_cons_succ, i64_w, i32_w]
            rfl
          refine one_ (i := 6) (N := some 14) #[true, true, true, true, true, true, true, true, true, true, true, true, false, false] rfl rfl (one_of HT_.out (by kernel_rfl)) (by decide) (fun K hK => ?_)
          refine goes_ Try.func71 (by kernel_rfl) rfl #[.slice (some ad308) l0.length c0, .int .i64 ((rd_T38 l0 a1).f0)] (by rfl) rfl rfl (by (try simp only [List.map_toArray, List.map_cons, List.map_nil]); first | done | rfl | (simp only [List.length_drop, List.length_take]; rfl)) ?_
          with_reducible refine (ih k (by omega) _ _ l0 ((rd_T38 l0 a1).f0) t309 _ ?side1 ?side2 A8.out).mono ?_
          (case side1 => repeat (first | exact (Kd.C_below HR0.out HB.out) | (with_reducible refine Kd.C_alloc ?_ _) | (with_reducible refine Kd.C_drewN ?_ _) | (with_reducible refine Kd.C_drew ?_)))
          (case side2 => exact HC0.out)
          rintro e w11 ⟨v310, rfl, ho0, hb⟩
          refine ⟨_, rfl, ?_⟩
          have n0_ := Aside0.mk (Kd.R_lower ho0 (below_size (by repeat (first | (with_reducible first | exact HB.out | apply below_alloc | apply pw_below_drewN | apply below_drew1) | exact HB.out))))
          have n1_ := Aside0.mk (below_step (by repeat (first | (with_reducible first | exact HB.out | apply below_alloc | apply pw_below_drewN | apply below_drew1) | exact HB.out)) hb)
          clear HB
          have HO311 := n0_
          have HB := n1_
          clear n0_ n1_
          (try clear hb)
          (try clear hb2)
          (try clear hk)
          (try clear hi)
          (try clear ho0)
          refine hK.out _ _ ⟨((HB.out.cell (World.block_lt_of_cell? w _ hw308_0)).trans hw308_0), ((HB.out.cell (World.block_lt_of_cell? w _ hw308_1)).trans hw308_1), ((HB.out.cell (World.block_lt_of_cell? w _ hw312_0)).trans hw312_0), ((HB.out.cell (World.block_lt_of_cell? w _ hw312_1)).trans hw312_1)⟩ (fun hHeld => ?_)
          clear hK K
          refine norm_ (a' := ?_) ?_ ?_
          rotate_left
          · show Act.put _ (some 14) _ = _
            simp only [Act.put, List.setIfInBounds_toArray, List.set_cons_zero, List.set_cons_succ, i64_w, i32_w]
            rfl
          refine one_ (i := 12) (N := some 20) #[true, true, true, true, true, true, true, true, true, true, true, true, true, false] rfl rfl (one_of HT_.out (by kernel_rfl)) (by decide) (fun K hK => ?_)
          refine Kd.R_append_rows_step (Kd.int .i64) (w0 := w) w.heap.size (by rfl) (.tmp 14) (.tmp 19) 36 3 (.int .i64 0) 8 rfl Try.underlying36 info3 rfl (by decide) (by omega) v310 t309 ((rd_T38 l0 a1).f1) _ _ _ (fun _ => True) (fun _ => False) rfl rfl ?aO ?aR (fun _ _ h => h) (fun _ h => h.elim) ?aF ?aB ?aS ?aL ?_
          (case aR => repeat (first | exact (Kd.C_below HR312_1.out HB.out) | (with_reducible refine Kd.C_alloc ?_ _) | (with_reducible refine Kd.C_drewN ?_ _) | (with_reducible refine Kd.C_drew ?_)))
          (case aB => exact (by repeat (first | (with_reducible first | exact HB.out | apply below_alloc | apply pw_below_drewN | apply below_drew1) | exact HB.out)))
          (case aF => exact (fun _ _ => trivial))
          (case aO => exact (by (with_reducible repeat (first | apply Kd.R_alloc | apply Kd.R_drewN | apply Kd.R_drew)); exact HO311.out))
          (case aS => exact (below_size (by repeat (first | (with_reducible first | exact HB.out | apply below_alloc | apply pw_below_drewN | apply below_drew1) | exact HB.out))))
          (case aL => have := LMc9.out; omega)
          intro v314 w12 ho hb hg hat
          rw [← Ny313.out] at ho
          have n0_ := Aside0.mk (hb)
          have n1_ := Aside0.mk (ho)
          clear HB
          clear HO311
          have HB := n0_
          have HO315 := n1_
          clear n0_ n1_
          clear ho hb hg hat
          refine hK.out _ _ ⟨((HB.out.cell (World.block_lt_of_cell? w _ hw308_0)).trans hw308_0), ((HB.out.cell (World.block_lt_of_cell? w _ hw308_1)).trans hw308_1), ((HB.out.cell (World.block_lt_of_cell? w _ hw312_0)).trans hw312_0), ((HB.out.cell (World.block_lt_of_cell? w _ hw312_1)).trans hw312_1)⟩ (fun hHeld => ?_)
          clear hK K
          refine norm_ (a' := ?_) ?_ ?_
          rotate_left
          · show Act.put _ (some 20) _ = _
            simp only [Act.put, List.setIfInBounds_toArray, List.set_cons_zero, List.set_cons_succ, i64_w, i32_w]
            rfl
          refine pure_ (i := 13) (N := some 4) (v := ?_) (a' := ?_) #[true, true, true, true, true, true, true, true, true, true, true, true, true, true] rfl rfl (any_of HT_.out (by kernel_rfl)) (fun _ _ _ h => h) (Or.inl ⟨by rfl, ?_⟩) ?_ ?_
          rotate_left
          · intro w'
            go_simp
            with_reducible rfl
          rotate_left
          · simp only [Act.put, List.setIfInBounds_toArray, List.set_cons_zero, List.set_cons_succ, i64_w, i32_w]
            rfl
          refine done_ (done_of HT_.out (by kernel_rfl)) ?_
          try go_wp2
          go_ret
          exact ⟨_, by first | rfl | (simp [errW_none, errW_some] <;> rfl) | (simp [*, errW_none, errW_some] <;> rfl), by (with_reducible repeat (first | apply Kd.R_alloc | apply Kd.R_drewN | apply Kd.R_drew)); exact HO315.out, by repeat (first | (with_reducible first | exact HB.out | apply below_alloc | apply pw_below_drewN | apply below_drew1) | exact HB.out)⟩
        · rw [if_neg c9] at H
          exact absurd H (by simp)
      · rw [if_neg c7] at H
        exact absurd H (by simp)
    · rw [if_neg c6] at H
      exact absurd H (by simp)

end Go.Proofs.Ytgmjolngnhdafaa.P

end
section
namespace Go.Proofs.Ytgmjolngnhdafaa.P
open Go.RowKit Go.Proofs.YtgmjolngnhdafaaW.PrintWords Go.Proofs.YtgmjolngnhdafaaW.PrintLast Go.Proofs.YtgmjolngnhdafaaW.PrintMore
attribute [local go_sem] max2_int min2_int max_two min_two max_three min_three max_four min_four
set_option linter.unusedVariables false
set_option linter.unusedSimpArgs false

set_option maxHeartbeats 8000000 in
set_option maxRecDepth 100000 in
theorem spec_ClassFields.calls (k : Nat) (A0 : Option Addr) (c0 : Nat) (l0 : List (S38)) (a1 : Int) (r : List Int) (w : World) (hr0 : Kd.C k38 w A0 l0.length l0) (hc0 : l0.length ≤ c0) (h : spec_ClassFields.f k l0 a1 = some r) :
    Calls Try.prog 34 #[.slice A0 l0.length c0, .int .i64 a1] w fun e w' => ∃ v0_ : Value, e = .returned (v0_) ∧ Kd.R (Kd.int .i64) 3 w' w.heap.size (fun _ => True) v0_ r ∧ Below w.heap.size w w' := by
  have HR0 := Aside0.mk hr0
  have HC0 := Aside0.mk hc0
  clear hr0 hc0
  have HB := Aside0.mk (Below.refl w.heap.size w)
  have H : ((spec_l2Is.f k l0 a1).bind fun t316 => (if t316 = true then ((spec_l2Fields.f k l0 a1).bind fun t317 => (some t317)) else (some (([] : List Int))))) = some r := h
  clear h
  replace H := Option.bind_eq_some_iff.mp H
  obtain ⟨t316, A30, H⟩ := H
  replace H : (if t316 = true then ((spec_l2Fields.f k l0 a1).bind fun t317 => (some t317)) else (some (([] : List Int)))) = some r := H
  have A3 := Aside0.mk A30
  clear A30
  by_cases c4 : t316 = true
  · subst c4
    have H1 : ((spec_l2Fields.f k l0 a1).bind fun t317 => (some t317)) = some r := by rw [if_pos rfl] at H; exact H
    clear H
    have H := H1
    clear H1
    replace H := Option.bind_eq_some_iff.mp H
    obtain ⟨t317, A50, H⟩ := H
    replace H : (some t317) = some r := H
    have A5 := Aside0.mk A50
    clear A50
    obtain rfl := Option.some.inj H
    simp only [Option.some.injEq, Prod.mk.injEq] at H
    obtain ⟨rfl⟩ := H
    go_enter Try.func34, Try.ntmps34
    go_wp2_with (first | ((with_reducible refine gate_callee (f := 68) rfl ?_); refine goesL_ (some 7) rfl rfl Try.func68 (by kernel_rfl) rfl #[.slice A0 l0.length c0, .int .i64 a1] rfl (by (try simp only [List.map_toArray, List.map_cons, List.map_nil]); first | done | rfl | (simp only [List.length_drop, List.length_take]; rfl)) ?_; (with_reducible refine (spec_l2Is.calls k _ _ l0 a1 true _ ?side1 ?side2 A3.out).mono ?_); (case side1 => repeat (first | exact HR0.out | (with_reducible refine Kd.C_alloc ?_ _) | (with_reducible refine Kd.C_drewN ?_ _) | (with_reducible refine Kd.C_drew ?_))); (case side2 => exact HC0.out); rintro e w6 ⟨rfl, hb⟩; refine ⟨_, rfl, ?_⟩; have n0_ := Aside0.mk (below_step (by repeat (first | (with_reducible first | exact HB.out | apply below_alloc | apply pw_below_drewN | apply below_drew1) | exact HB.out)) hb); clear HB; have HB := n0_; clear n0_; (try clear hb); (try clear hb2); (try clear hk); (try clear hi)) | ((with_reducible refine gate_callee (f := 71) rfl ?_); refine goesL_ (some 12) rfl rfl Try.func71 (by kernel_rfl) rfl #[.slice A0 l0.length c0, .int .i64 a1] rfl (by (try simp only [List.map_toArray, List.map_cons, List.map_nil]); first | done | rfl | (simp only [List.length_drop, List.length_take]; rfl)) ?_; (with_reducible refine (spec_l2Fields.calls k _ _ l0 a1 t317 _ ?side1 ?side2 A5.out).mono ?_); (case side1 => repeat (first | exact (Kd.C_below HR0.out HB.out) | (with_reducible refine Kd.C_alloc ?_ _) | (with_reducible refine Kd.C_drewN ?_ _) | (with_reducible refine Kd.C_drew ?_))); (case side2 => exact HC0.out); rintro e w7 ⟨v318, rfl, ho0, hb⟩; refine ⟨_, rfl, ?_⟩; have n0_ := Aside0.mk (Kd.R_lower ho0 (below_size (by repeat (first | (with_reducible first | exact HB.out | apply below_alloc | apply pw_below_drewN | apply below_drew1) | exact HB.out)))); have n1_ := Aside0.mk (below_step (by repeat (first | (with_reducible first | exact HB.out | apply below_alloc | apply pw_below_drewN | apply below_drew1) | exact HB.out)) hb); clear HB; have HO319 := n0_; have HB := n1_; clear n0_ n1_; (try clear hb); (try clear hb2); (try clear hk); (try clear hi); (try clear ho0)))
    go_ret
    exact ⟨_, by first | rfl | (simp [errW_none, errW_some] <;> rfl) | (simp [*, errW_none, errW_some] <;> rfl), by (with_reducible repeat (first | apply Kd.R_alloc | apply Kd.R_drewN | apply Kd.R_drew)); exact HO319.out, by repeat (first | (with_reducible first | exact HB.out | apply below_alloc | apply pw_below_drewN | apply below_drew1) | exact HB.out)⟩
  · replace c4 := Bool.eq_false_iff.mpr c4
    subst c4
    have H1 : (some (([] : List Int))) = some r := by rw [if_neg (show ¬ (false = true) by decide)] at H; exact H
    clear H
    have H := H1
    clear H1
    obtain ⟨y320, hy320⟩ : ∃ y_ : List Int, y_ = (([] : List Int)) := ⟨_, rfl⟩
    replace H : (some y320) = some r := by first | (rw [hy320]; with_reducible exact H) | (have H2_ := (Option.bind_some _ _).symm.trans H; rw [hy320]; with_reducible exact H2_) | (have H2_ := (Option.bind_some _ _).symm.trans H; with_reducible exact H2_) | with_reducible exact H | (rw [hy320]; exact H) | exact H
    have Ny320 := Aside0.mk hy320
    clear hy320
    obtain rfl := Option.some.inj H
    simp only [Option.some.injEq, Prod.mk.injEq] at H
    obtain ⟨rfl⟩ := H
    go_enter Try.func34, Try.ntmps34
    go_wp2_with (first | ((with_reducible refine gate_callee (f := 68) rfl ?_); refine goesL_ (some 7) rfl rfl Try.func68 (by kernel_rfl) rfl #[.slice A0 l0.length c0, .int .i64 a1] rfl (by (try simp only [List.map_toArray, List.map_cons, List.map_nil]); first | done | rfl | (simp only [List.length_drop, List.length_take]; rfl)) ?_; (with_reducible refine (spec_l2Is.calls k _ _ l0 a1 false _ ?side1 ?side2 A3.out).mono ?_); (case side1 => repeat (first | exact HR0.out | (with_reducible refine Kd.C_alloc ?_ _) | (with_reducible refine Kd.C_drewN ?_ _) | (with_reducible refine Kd.C_drew ?_))); (case side2 => exact HC0.out); rintro e w8 ⟨rfl, hb⟩; refine ⟨_, rfl, ?_⟩; have n0_ := Aside0.mk (below_step (by repeat (first | (with_reducible first | exact HB.out | apply below_alloc | apply pw_below_drewN | apply below_drew1) | exact HB.out)) hb); clear HB; have HB := n0_; clear n0_; (try clear hb); (try clear hb2); (try clear hk); (try clear hi)) | ((with_reducible refine gate_dst (N := 9) rfl ?_); refine Kd.R_lit (Kd.int .i64) _ 3 ?hg (N := 9) ?hd (xs := ([] : List Int)) (inner := []) (ok := fun _ => True) (okp := fun _ => True) ?hr ?hp (fun _ hk => hk) trivial (Below.refl _ _) (Nat.le_refl _) (by simp) ?_; (case hd => rfl); (case hg => rfl); (case hr => first | (go_simp; done) | (go_simp; rfl)); (case hp => exact (Reps.none _ _)); intro v321 w9 ho10 hb hg_ hnew_; clear hg_ hnew_; (first | rw [← Ny320.out] at ho10 | (simp only [Int.reduceToNat] at ho10; rw [← Ny320.out] at ho10)); have n0_ := Aside0.mk (Kd.R_lower ho10 (below_size (by repeat (first | (with_reducible first | exact HB.out | apply below_alloc | apply pw_below_drewN | apply below_drew1) | exact HB.out)))); have n1_ := Aside0.mk (below_step (by repeat (first | (with_reducible first | exact HB.out | apply below_alloc | apply pw_below_drewN | apply below_drew1) | exact HB.out)) hb); clear HB; have HO322 := n0_; have HB := n1_; clear n0_ n1_; clear hb ho10))
    go_ret
    exact ⟨_, by first | rfl | (simp [errW_none, errW_some] <;> rfl) | (simp [*, errW_none, errW_some] <;> rfl), by (with_reducible repeat (first | apply Kd.R_alloc | apply Kd.R_drewN | apply Kd.R_drew)); exact HO322.out, by repeat (first | (with_reducible first | exact HB.out | apply below_alloc | apply pw_below_drewN | apply below_drew1) | exact HB.out)⟩

end Go.Proofs.Ytgmjolngnhdafaa.P

end
section
namespace Go.Proofs.Ytgmjolngnhdafaa.P
open Go.RowKit Go.Proofs.YtgmjolngnhdafaaW.PrintWords Go.Proofs.YtgmjolngnhdafaaW.PrintLast Go.Proofs.YtgmjolngnhdafaaW.PrintMore
attribute [local go_sem] max2_int min2_int max_two min_two max_three min_three max_four min_four
set_option linter.unusedVariables false
set_option linter.unusedSimpArgs false

set_option maxHeartbeats 8000000 in
set_option maxRecDepth 100000 in
theorem laws_markIntS.calls (k : Nat) (P0_ : Nat → Prop) (u9000_ : Value) (l0 : List Int) (a1 : Int) (r1 : Int) (r2 : List Int) (w0 w : World) (hB : Below w0.heap.size w0 w) (ho0 : Kd.R (Kd.int .i64) 3 w w0.heap.size P0_ u9000_ l0) (h : laws_markIntS.f k l0 a1 = some (r1, r2)) :
    Calls Try.prog 38 #[u9000_, .int .i64 a1] w fun e w' => e = .returned (.int .i64 r1) ∧ Kd.R (Kd.int .i64) 3 w' w0.heap.size (fun k_ => (P0_ k_ ∨ w.heap.size ≤ k_)) u9000_ r2 ∧ Below w0.heap.size w0 w' ∧ Kept w w' (fun k_ => P0_ k_) := by
  have HO0 := Aside0.mk (show Kd.R (Kd.int .i64) 3 w w0.heap.size (fun k_ => (P0_ k_ ∨ w.heap.size ≤ k_)) u9000_ l0 from Kd.R_mono ho0 (fun k_ hk => (.inl hk)))
  have HK := Aside0.mk (Kept.refl w (fun k_ => P0_ k_))
  have HW0 := Aside0.mk hB.size
  have HB := Aside0.mk hB
  clear hB
  have H : (laws_markIntS.l0 k l0 a1 0) = some (r1, r2) := h
  clear h
  have H' := Aside0.mk H
  clear H
  go_enter Try.func38, Try.ntmps38
  go_wp2
  go_loopg [1, 5] k (fun kq v1 v5 w' => ∃ (x0_1 : List Int) (x1_1 : Int) (x5_1 : Int), v1 = .int .i64 x1_1 ∧ v5 = .int .i64 x5_1 ∧ Aside0 (laws_markIntS.l0 kq x0_1 x1_1 x5_1 = some (r1, r2)) ∧ Aside0 (kq ≤ k) ∧ Aside0 (Kd.R (Kd.int .i64) 3 w' w0.heap.size (fun k_ => (P0_ k_ ∨ w.heap.size ≤ k_)) u9000_ x0_1) ∧ Aside0 (Kept w w' (fun k_ => P0_ k_)) ∧ Aside0 (Below w0.heap.size w0 w'))
  case atStart => exact ⟨(l0), (a1), (0), (by first | rfl | (simp; done) | (simp [*]; done)), (by first | rfl | (simp; done) | (simp [*]; done)), H', ⟨Nat.le_refl _⟩, ⟨by (with_reducible repeat (first | apply Kd.R_alloc | apply Kd.R_drewN | apply Kd.R_drew)); exact HO0.out⟩, ⟨by repeat (first | (with_reducible first | exact HK.out | apply Kept.alloc | apply Kept.drewN | apply Kept.drew) | exact HK.out)⟩, ⟨by repeat (first | (with_reducible first | exact HB.out | apply below_alloc | apply pw_below_drewN | apply below_drew1) | exact HB.out)⟩⟩
  case round =>
    clear H'
    try clear p2
    obtain ⟨x0_1, x1_1, x5_1, rfl, rfl, HA, HK1, HO_0, HK, HB⟩ := hrel
    cases gk with
    | zero => exact absurd HA.out (by simp [laws_markIntS.l0])
    | succ k1 =>
      have H := HA.out
      clear HA
      simp only [laws_markIntS.l0] at H
      by_cases c3 : x5_1 < (x0_1.length : Int)
      · rw [if_pos c3] at H
        have c3b0 : decide (x5_1 < (x0_1.length : Int)) = true := decide_eq_true c3
        clear c3
        by_cases c4 : 0 ≤ x5_1
        · rw [if_pos c4] at H
          have c4b0 : decide (0 ≤ x5_1) = true := decide_eq_true c4
          clear c4
          obtain ⟨y377, hy377⟩ : ∃ y_ : List Int, y_ = (x0_1.set (x5_1 : Int).toNat x1_1) := ⟨_, rfl⟩
          replace H : (laws_markIntS.l0 k1 y377 (wrap64 (x1_1 + 1)) (wrap64 (x5_1 + 1))) = some (r1, r2) := by first | (rw [hy377]; with_reducible exact H) | (have H2_ := (Option.bind_some _ _).symm.trans H; rw [hy377]; with_reducible exact H2_) | (have H2_ := (Option.bind_some _ _).symm.trans H; with_reducible exact H2_) | with_reducible exact H | (rw [hy377]; exact H) | exact H
          have Ny377 := Aside0.mk hy377
          clear hy377
          have H' := Aside0.mk H
          clear H
          obtain ⟨Ao6, co6, eo6⟩ := Kd.R_slice HO_0.out
          subst eo6
          have p5 : 0 ≤ (x5_1 : Int) := of_decide_eq_true (by first | (with_reducible assumption) | assumption)
          have q5 : (x5_1 : Int) < ((x0_1.length : Int) : Int) := of_decide_eq_true (by first | (with_reducible assumption) | assumption)
          obtain ⟨go5, co5, eo5, gb5, gl5, cl5, HG5⟩ := Kd.R_form HO_0.out (by omega)
          (first | cases eo5 | (injection eo5 with ea_ en_ ec_; (first | subst ea_ | (injection ea_ with ea_; subst ea_)); subst ec_; clear en_))
          have GB5 := Aside0.mk gb5
          have GG5 := Aside0.mk HG5
          clear gb5 gl5 HG5
          have HMgo5 := Aside0.mk (show (P0_ go5 ∨ w.heap.size ≤ go5) from (HO_0.out.1 _ rfl))
          obtain ⟨hx5_0, hf5_0⟩ := Kd.R_celln 0 HO_0.out (x5_1 : Int) p5 q5
          replace p5 := eq_true p5
          replace q5 := eq_true q5
          have HP7 := Kd.R_putg HO_0.out (x5_1 : Int) x1_1
          go_wp2_with (first | ((with_reducible refine gate_store (t := 3) (p := 15) rfl ?_); refine store_event (t := 3) (p := 15) (v := ?vo_w8) (w1 := (wr.setCell ⟨go5, (x5_1 : Int).toNat, none⟩ (.int .i64 x1_1))) ?hg ?ho ?hn ?hr ?_; (case ho => rfl); (case hg => rfl); (case hn => rfl); (case hr => first | (go_simp; done) | (go_simp; rfl)); intro w8 hw; have hg : wr.grownBy w8 (some go5) := (by rw [hw]; exact HP7.2); have hp_ : Kd.R (Kd.int .i64) 3 w8 w0.heap.size (fun k_ => (P0_ k_ ∨ w.heap.size ≤ k_)) (.slice (some ⟨go5, 0, none⟩) x0_1.length co6) y377 := (by rw [hw, Ny377.out]; exact HP7.1); clear HP7; have n0_ := Aside0.mk (hp_); have n1_ := Aside0.mk ((by rw [hw]; exact below_set (HB.out) GB5.out : Below w0.heap.size w0 w8)); have n2_ := Aside0.mk (Kept.of_grown (S := (fun k_ => P0_ k_)) hg (by repeat (first | (with_reducible first | exact HK.out | apply Kept.alloc | apply Kept.drewN | apply Kept.drew) | exact HK.out)) (fun k_ e_ => (HO_0.out.1 k_ e_))); clear HO_0; clear HB; clear HK; have HO_0 := n0_; have HB := n1_; have HK := n2_; clear n0_ n1_ n2_; clear hg hw hp_))
          go_roundg k1
          case measure => have := HK1.out; omega
          case rel => exact ⟨(y377), (wrap64 (x1_1 + 1)), (wrap64 (x5_1 + 1)), (by first | rfl | (simp; done) | (simp [*]; done)), (by first | rfl | (simp; done) | (simp [*]; done)), H', ⟨by have := HK1.out; omega⟩, ⟨by (with_reducible repeat (first | apply Kd.R_alloc | apply Kd.R_drewN | apply Kd.R_drew)); exact HO_0.out⟩, ⟨by repeat (first | (with_reducible first | exact HK.out | apply Kept.alloc | apply Kept.drewN | apply Kept.drew) | exact HK.out)⟩, ⟨by repeat (first | (with_reducible first | exact HB.out | apply below_alloc | apply pw_below_drewN | apply below_drew1) | exact HB.out)⟩⟩
        · rw [if_neg c4] at H
          exact absurd H (by simp)
      · rw [if_neg c3] at H
        have c3b0 : decide (x5_1 < (x0_1.length : Int)) = false := decide_eq_false c3
        clear c3
        simp only [Option.some.injEq, Prod.mk.injEq] at H
        obtain ⟨rfl, rfl⟩ := H
        obtain ⟨Ao9, co9, eo9⟩ := Kd.R_slice HO_0.out
        subst eo9
        go_wp2
        go_ret
        exact ⟨by first | rfl | (simp [errW_none, errW_some] <;> rfl) | (simp [*, errW_none, errW_some] <;> rfl), by (with_reducible repeat (first | apply Kd.R_alloc | apply Kd.R_drewN | apply Kd.R_drew)); exact HO_0.out, by repeat (first | (with_reducible first | exact HB.out | apply below_alloc | apply pw_below_drewN | apply below_drew1) | exact HB.out), by repeat (first | (with_reducible first | exact HK.out | apply Kept.alloc | apply Kept.drewN | apply Kept.drew) | exact HK.out)⟩

end Go.Proofs.Ytgmjolngnhdafaa.P

end
section
namespace Go.Proofs.Ytgmjolngnhdafaa.P
open Go.RowKit Go.Proofs.YtgmjolngnhdafaaW.PrintWords Go.Proofs.YtgmjolngnhdafaaW.PrintLast Go.Proofs.YtgmjolngnhdafaaW.PrintMore
attribute [local go_sem] max2_int min2_int max_two min_two max_three min_three max_four min_four
set_option linter.unusedVariables false
set_option linter.unusedSimpArgs false

set_option maxHeartbeats 8000000 in
set_option maxRecDepth 100000 in
theorem laws_heldIntS.calls (k : Nat) (A0 : Option Addr) (c0 : Nat) (l0 : List Int) (a1 : Int) (r : Int) (w : World) (hr0 : Kd.C (Kd.int .i64) w A0 l0.length l0) (hc0 : l0.length ≤ c0) (h : laws_heldIntS.f k l0 a1 = some r) :
    Calls Try.prog 39 #[.slice A0 l0.length c0, .int .i64 a1] w fun e w' => e = .returned (.int .i64 r) ∧ Drawn0 w w' := by
  have HR0 := Aside0.mk hr0
  have HC0 := Aside0.mk hc0
  clear hr0 hc0
  have H : (laws_heldIntS.l0 k l0 a1 0) = some r := h
  clear h
  have H' := Aside0.mk H
  clear H
  go_enter Try.func39, Try.ntmps39
  go_wp2
  go_loopg [1, 5] k (fun kq v1 v5 w' => ∃ (x1_1 : Int) (x5_1 : Int), v1 = .int .i64 x1_1 ∧ v5 = .int .i64 x5_1 ∧ Aside0 (laws_heldIntS.l0 kq l0 x1_1 x5_1 = some r) ∧ Aside0 (kq ≤ k) ∧ Drawn0 w w')
  case atStart => exact ⟨(a1), (0), (by first | rfl | (simp; done) | (simp [*]; done)), (by first | rfl | (simp; done) | (simp [*]; done)), H', ⟨Nat.le_refl _⟩, by repeat (first | exact Drawn0.refl _ | apply Drawn0.step)⟩
  case round =>
    clear H'
    try clear p2
    obtain ⟨x1_1, x5_1, rfl, rfl, HA, HK1, ⟨m1, rfl⟩⟩ := hrel
    cases gk with
    | zero => exact absurd HA.out (by simp [laws_heldIntS.l0])
    | succ k1 =>
      have H := HA.out
      clear HA
      simp only [laws_heldIntS.l0] at H
      by_cases c3 : x5_1 < (l0.length : Int)
      · rw [if_pos c3] at H
        have c3b0 : decide (x5_1 < (l0.length : Int)) = true := decide_eq_true c3
        clear c3
        by_cases c4 : 0 ≤ x5_1
        · rw [if_pos c4] at H
          have c4b0 : decide (0 ≤ x5_1) = true := decide_eq_true c4
          clear c4
          by_cases c5 : (rd l0 x5_1) = x1_1
          · rw [if_pos c5] at H
            have c5b0 : ((rd l0 x5_1) == x1_1) = true := beq_iff_eq.mpr c5
            have c5b1 : ((rd l0 x5_1) != x1_1) = false := bne_eq_false_iff_eq.mpr c5
            clear c5
            have H' := Aside0.mk H
            clear H
            have p378 : 0 ≤ (x5_1 : Int) := of_decide_eq_true (by first | (with_reducible assumption) | assumption)
            have q378 : x5_1 < (l0.length : Int) := of_decide_eq_true (by first | (with_reducible assumption) | assumption)
            obtain ⟨ad378, e378, hx378_0⟩ := Kd.at_int HR0.out x5_1 p378 q378
            cases e378
            replace p378 := eq_true p378
            replace q378 := eq_true q378
            go_wp2
            go_roundg k1
            case measure => have := HK1.out; omega
            case rel => exact ⟨(wrap64 (x1_1 + 1)), (wrap64 (x5_1 + 1)), (by first | rfl | (simp; done) | (simp [*]; done)), (by first | rfl | (simp; done) | (simp [*]; done)), H', ⟨by have := HK1.out; omega⟩, by repeat (first | exact Drawn0.refl _ | apply Drawn0.step)⟩
          · rw [if_neg c5] at H
            have c5b0 : ((rd l0 x5_1) == x1_1) = false := beq_eq_false_iff_ne.mpr c5
            have c5b1 : ((rd l0 x5_1) != x1_1) = true := bne_iff_ne.mpr c5
            obtain rfl := Option.some.inj H
            simp only [Option.some.injEq, Prod.mk.injEq] at H
            obtain ⟨rfl⟩ := H
            have p378 : 0 ≤ (x5_1 : Int) := of_decide_eq_true (by first | (with_reducible assumption) | assumption)
            have q378 : x5_1 < (l0.length : Int) := of_decide_eq_true (by first | (with_reducible assumption) | assumption)
            obtain ⟨ad378, e378, hx378_0⟩ := Kd.at_int HR0.out x5_1 p378 q378
            cases e378
            replace p378 := eq_true p378
            replace q378 := eq_true q378
            go_wp2
            go_ret
            exact ⟨by first | rfl | (simp; done) | (simp [*]; done), by repeat (first | exact Drawn0.refl _ | apply Drawn0.step)⟩
        · rw [if_neg c4] at H
          exact absurd H (by simp)
      · rw [if_neg c3] at H
        have c3b0 : decide (x5_1 < (l0.length : Int)) = false := decide_eq_false c3
        clear c3
        obtain rfl := Option.some.inj H
        simp only [Option.some.injEq, Prod.mk.injEq] at H
        obtain ⟨rfl⟩ := H
        go_wp2
        go_ret
        exact ⟨by first | rfl | (simp; done) | (simp [*]; done), by repeat (first | exact Drawn0.refl _ | apply Drawn0.step)⟩

end Go.Proofs.Ytgmjolngnhdafaa.P

end
section
namespace Go.Proofs.Ytgmjolngnhdafaa.P
open Go Go.RowKit Go.Proofs.YtgmjolngnhdafaaW.PrintWords Go.Proofs.YtgmjolngnhdafaaW.PrintLast Go.Proofs.YtgmjolngnhdafaaW.PrintMore
set_option linter.unusedVariables false
set_option linter.unusedSimpArgs false
theorem setCls_at {xs : List S38} {i : Int} {x : S38} (h0 : 0 ≤ i) (h1 : i < (xs.length : Int)) : (xs.set i.toNat x).getD i.toNat z38 = x := by
  rw [List.getD_eq_getElem?_getD, List.getElem?_set_self (by omega)]; rfl
set_option maxHeartbeats 8000000 in
set_option maxRecDepth 100000 in
theorem laws_markClassS.calls (k : Nat) (P0_ : Nat → Prop) (u9000_ : Value) (l0 : List S38) (a1 : Int) (r1 : Int) (w0 w : World) (hB : Below w0.heap.size w0 w) (ho0 : Kd.S k38 38 w w0.heap.size P0_ u9000_ l0) (h : laws_markClassS.f k l0 a1 = some r1) :
    Calls Try.prog 37 #[u9000_, .int .i64 a1] w fun e w' => e = .returned (.int .i64 r1) ∧ Below w0.heap.size w0 w' ∧ Kept w w' P0_ := by
  have HO0 := Aside0.mk ho0
  have HK := Aside0.mk (Kept.refl w P0_)
  have HB := Aside0.mk hB
  clear hB ho0
  have H' := Aside0.mk (show laws_markClassS.l0 k l0 a1 0 = some r1 from h)
  clear h
  go_enter Try.func37, Try.ntmps37
  go_wp2
  go_loopg [1, 5] k (fun kq v1 v5 w' => ∃ (xs : List S38) (x1 x5 : Int), v1 = .int .i64 x1 ∧ v5 = .int .i64 x5 ∧ Aside0 (laws_markClassS.l0 kq xs x1 x5 = some r1) ∧ Aside0 (kq ≤ k) ∧ Aside0 (Kd.S k38 38 w' w0.heap.size P0_ u9000_ xs) ∧ Aside0 (Kept w w' P0_) ∧ Aside0 (Below w0.heap.size w0 w'))
  case atStart => exact ⟨l0, a1, (0), (by first | rfl | (simp; done) | (simp [*]; done)), (by first | rfl | (simp; done) | (simp [*]; done)), H', ⟨Nat.le_refl _⟩, ⟨by (with_reducible repeat (first | apply Kd.S_alloc | apply Kd.S_drewN | apply Kd.S_drew)); exact HO0.out⟩, ⟨by repeat (first | exact HK.out | apply Kept.alloc | apply Kept.drewN | apply Kept.drew)⟩, ⟨by repeat (first | (with_reducible first | exact HB.out | apply below_alloc | apply pw_below_drewN | apply below_drew1) | exact HB.out)⟩⟩
  case round =>
    clear H'
    try clear p2
    obtain ⟨xs, x1, x5, rfl, rfl, HA, HK1, HO, HKn, HBn⟩ := hrel
    clear HK HB HO0
    have HK := HKn
    have HB := HBn
    clear HKn HBn
    cases gk with
    | zero => exact absurd HA.out (by simp [laws_markClassS.l0])
    | succ k1 =>
      have H := HA.out
      clear HA
      simp only [laws_markClassS.l0] at H
      by_cases c3 : x5 < (xs.length : Int)
      · rw [if_pos c3] at H
        have c3b0 : decide (x5 < (xs.length : Int)) = true := decide_eq_true c3
        by_cases c4 : 0 ≤ x5
        · rw [if_pos c4] at H
          have c4b0 : decide (0 ≤ x5) = true := decide_eq_true c4
          replace H := Option.bind_eq_some_iff.mp H
          obtain ⟨⟨p1, p2⟩, A60, H⟩ := H
          have A6 := Aside0.mk A60
          clear A60
          have H' := Aside0.mk H
          clear H
          obtain ⟨go5, co5, eo5, gb5, gl5, cl5, HG5⟩ := Kd.S_form HO.out (by omega)
          (first | cases eo5 | (injection eo5 with ea_ en_ ec_; (first | subst ea_ | (injection ea_ with ea_; subst ea_)); subst ec_; clear en_))
          have GB5 := Aside0.mk gb5
          clear gb5 gl5 HG5
          obtain ⟨oki, ce, hcl, hM, hcc, hfr, hoki, hH⟩ := Kd.S_elem HO.out z38 x5 c4 c3
          obtain ⟨ve1, rfl, ge1⟩ := k38_openM hM
          have HP := Kd.S_seg0 hH c4 c3 (seg := [.int .i64 x1]) (j := 0) (show 1 ≤ 2 from by decide) (x' := (⟨x1, (rd_T38 xs x5).f1⟩ : S38)) (k38_mkM _ _ _ (⟨x1, (rd_T38 xs x5).f1⟩ : S38) ge1) (fun _ hk => hk)
          have hx0 := hcc 0 _ rfl
          have hf0 := hfr 0
          simp only [show (k38).sz = 2 from rfl, Nat.add_zero] at hx0 hf0
          clear hcl hcc hfr hM hoki hH
          obtain ⟨y1, hy1⟩ : ∃ y_, y_ = xs.set (x5 : Int).toNat (⟨x1, (rd_T38 xs x5).f1⟩ : S38) := ⟨_, rfl⟩
          have Ny := Aside0.mk hy1
          clear hy1
          have C3 := Aside0.mk c3
          have C4 := Aside0.mk c4
          replace c3 := eq_true c3
          replace c4 := eq_true c4
          go_wp2_with (first | ((with_reducible refine gate_store (t := 3) (p := 16) rfl ?_); refine store_event (t := 3) (p := 16) (v := ?vo_w8) (w1 := (wr.setCell ⟨go5, (x5 : Int).toNat * 2, none⟩ (.int .i64 x1))) ?hg ?ho ?hn ?hr ?_; (case ho => rfl); (case hg => rfl); (case hn => rfl); (case hr => first | (go_simp; done) | (go_simp; rfl)); intro w8 hw; have hg : wr.grownBy w8 (some go5) := (by rw [hw]; exact HP.2); have hp_ : Kd.S k38 38 w8 w0.heap.size P0_ (.slice (some ⟨go5, 0, none⟩) xs.length co5) y1 := (by rw [hw, Ny.out]; exact HP.1); clear HP; have n0_ := Aside0.mk (hp_); have n1_ := Aside0.mk ((by rw [hw]; exact below_set (HB.out) GB5.out : Below w0.heap.size w0 w8)); have n2_ := Aside0.mk (Kept.of_grown (S := P0_) hg (by repeat (first | (with_reducible first | exact HK.out | apply Kept.alloc | apply Kept.drewN | apply Kept.drew) | exact HK.out)) (fun k_ e_ => .inl (HO.out.choose_spec.1 k_ e_))); clear HO HB HK; have HO := n0_; have HB := n1_; have HK := n2_; clear n0_ n1_ n2_; clear hg hw hp_; obtain ⟨oki, ce, hcl, hM, hcc, hfr, hoki, hH⟩ := Kd.S_elem HO.out z38 x5 C4.out C3.out; rw [Ny.out, setCls_at C4.out C3.out] at hM; obtain ⟨ve2, rfl, ge2⟩ := k38_openM hM; have hx1 := hcc 1 _ rfl; simp only [show (k38).sz = 2 from rfl] at hx1; have HH := Aside0.mk hH; have GE := Aside0.mk ge2; have HI := Aside0.mk hoki; clear hH hM hcc hfr hcl ge2 hoki) | ((with_reducible refine gate_callee (f := 38) rfl ?_); refine goesL_ (some 25) rfl rfl Try.func38 (by kernel_rfl) rfl #[ve2, .int .i64 (wrap64 (x1 + 1))] rfl (by (try simp only [List.map_toArray, List.map_cons, List.map_nil]); first | done | rfl | (simp only [List.length_drop, List.length_take]; rfl)) ?_; (refine (laws_markIntS.calls k1 oki ve2 ((rd_T38 xs x5).f1) (wrap64 (x1 + 1)) p1 p2 w0 _ ?side1 ?side2 A6.out).mono ?_); (case side1 => repeat (first | (with_reducible first | exact HB.out | apply below_alloc | apply pw_below_drewN | apply below_drew1) | exact HB.out)); (case side2 => (with_reducible repeat (first | apply Kd.R_alloc | apply Kd.R_drewN | apply Kd.R_drew)); exact GE.out); rintro e w12 ⟨rfl, ho2, hb2, hk2⟩; refine ⟨_, rfl, ?_⟩; have hM2 : (k38).M w12 w0.heap.size oki (⟨x1, p2⟩ : S38) [.int .i64 x1, ve2] := k38_mkM _ _ _ (⟨x1, p2⟩ : S38) (Kd.R_mono (Kd.R_tight rfl ho2) (fun k_ hk => GE.out.1 k_ hk.symm)); have hH2 := Kd.H_kept (by (with_reducible repeat (first | apply Kd.H_alloc | apply Kd.H_drewN | apply Kd.H_drew)); exact HH.out) hk2 (fun _ _ hn hs => hn hs); have n0_ := Aside0.mk (Kd.H_back hH2 hM2 (fun _ hk => hk)); have n1_ := Aside0.mk hb2; have n2_ := Aside0.mk (Kept.then_ (by repeat (first | (with_reducible first | exact HK.out | apply Kept.alloc | apply Kept.drewN | apply Kept.drew) | exact HK.out)) hk2 (fun k_ hs => .inl (HI.out k_ hs).1)); clear HO HB HK; have HO := n0_; have HB := n1_; have HK := n2_; clear n0_ n1_ n2_ hH2 hM2 ho2 hb2 hk2))
          go_roundg k1
          case measure => have := HK1.out; omega
          case rel => exact ⟨_, p1, (wrap64 (x5 + 1)), (by first | rfl | (simp; done) | (simp [*]; done)), (by first | rfl | (simp; done) | (simp [*]; done)), ⟨by have h_ := H'.out; rw [← Ny.out] at h_; exact h_⟩, ⟨by have := HK1.out; omega⟩, ⟨by (with_reducible repeat (first | apply Kd.S_alloc | apply Kd.S_drewN | apply Kd.S_drew)); exact HO.out⟩, ⟨by repeat (first | (with_reducible first | exact HK.out | apply Kept.alloc | apply Kept.drewN | apply Kept.drew) | exact HK.out)⟩, ⟨by repeat (first | (with_reducible first | exact HB.out | apply below_alloc | apply pw_below_drewN | apply below_drew1) | exact HB.out)⟩⟩
        · rw [if_neg c4] at H
          exact absurd H (by simp)
      · rw [if_neg c3] at H
        have c3b0 : decide (x5 < (xs.length : Int)) = false := decide_eq_false c3
        clear c3
        obtain rfl := Option.some.inj H
        clear H
        obtain ⟨Ao9, co9, eo9⟩ := Kd.S_slice HO.out
        subst eo9
        go_wp2
        go_ret
        exact ⟨rfl, by repeat (first | (with_reducible first | exact HB.out | apply below_alloc | apply pw_below_drewN | apply below_drew1) | exact HB.out), by repeat (first | (with_reducible first | exact HK.out | apply Kept.alloc | apply Kept.drewN | apply Kept.drew) | exact HK.out)⟩
end Go.Proofs.Ytgmjolngnhdafaa.P

end
section
namespace Go.Proofs.Ytgmjolngnhdafaa.P
open Go.RowKit Go.Proofs.YtgmjolngnhdafaaW.PrintWords Go.Proofs.YtgmjolngnhdafaaW.PrintLast Go.Proofs.YtgmjolngnhdafaaW.PrintMore
attribute [local go_sem] max2_int min2_int max_two min_two max_three min_three max_four min_four
set_option linter.unusedVariables false
set_option linter.unusedSimpArgs false

set_option maxHeartbeats 8000000 in
set_option maxRecDepth 100000 in
theorem laws_FnExactClassFields.calls (k : Nat) (A0 : Option Addr) (c0 : Nat) (l0 : List (S63)) (a1 : Int) (r : Bool) (w : World) (hr0 : Kd.C k63 w A0 l0.length l0) (hc0 : l0.length ≤ c0) (h : laws_FnExactClassFields.f k l0 a1 = some r) (hr_ : r = true) :
    Calls Try.prog 10 #[.slice A0 l0.length c0, .int .i64 a1] w fun e w' => e = .returned (.bool r) ∧ Below w.heap.size w w' := by
  have HR0 := Aside0.mk hr0
  have HC0 := Aside0.mk hc0
  clear hr0 hc0
  have HB := Aside0.mk (Below.refl w.heap.size w)
  have H : ((laws_szClassS.f k l0 1048576).bind fun t379 => (if t379 < 0 then (some true) else ((laws_toClassS.f k l0).bind fun t380 => ((spec_ClassFields.f k t380 a1).bind fun t383 => ((laws_toClassS.f k l0).bind fun t386 => ((impl_ClassFields.f k t386 a1).bind fun t389 => ((laws_eqIntS.f k t389 t383).bind fun t392 => (if t392 = true then ((laws_toClassS.f k l0).bind fun t393 => ((laws_eqClassS.f k t386 t393).bind fun t396 => (if t396 = true then ((laws_markClassS.f k t386 1).bind fun t397 => (if t397 < 0 then (laws_FnExactClassFields.j0 k l0 a1 t383 t389 true) else ((laws_eqIntS.f k t389 t383).bind fun t398 => (laws_FnExactClassFields.j0 k l0 a1 t383 t389 (!t398))))) else (some false)))) else (some false))))))))) = some r := h
  clear h
  replace H := Option.bind_eq_some_iff.mp H
  obtain ⟨t379, A30, H⟩ := H
  replace H : (if t379 < 0 then (some true) else ((laws_toClassS.f k l0).bind fun t380 => ((spec_ClassFields.f k t380 a1).bind fun t383 => ((laws_toClassS.f k l0).bind fun t386 => ((impl_ClassFields.f k t386 a1).bind fun t389 => ((laws_eqIntS.f k t389 t383).bind fun t392 => (if t392 = true then ((laws_toClassS.f k l0).bind fun t393 => ((laws_eqClassS.f k t386 t393).bind fun t396 => (if t396 = true then ((laws_markClassS.f k t386 1).bind fun t397 => (if t397 < 0 then (laws_FnExactClassFields.j0 k l0 a1 t383 t389 true) else ((laws_eqIntS.f k t389 t383).bind fun t398 => (laws_FnExactClassFields.j0 k l0 a1 t383 t389 (!t398))))) else (some false)))) else (some false)))))))) = some r := H
  have A3 := Aside0.mk A30
  clear A30
  by_cases c4 : t379 < 0
  · rw [if_pos c4] at H
    have c4b0 : decide (t379 < 0) = true := decide_eq_true c4
    clear c4
    obtain rfl := Option.some.inj H
    simp only [Option.some.injEq, Prod.mk.injEq] at H
    obtain ⟨rfl⟩ := H
    go_enter Try.func10, Try.ntmps10
    go_wp2_with (first | ((with_reducible refine gate_callee (f := 20) rfl ?_); refine goesL_ (some 15) rfl rfl Try.func20 (by kernel_rfl) rfl #[.slice A0 l0.length c0, .int .i64 1048576] rfl (by (try simp only [List.map_toArray, List.map_cons, List.map_nil]); first | done | rfl | (simp only [List.length_drop, List.length_take]; rfl)) ?_; (with_reducible refine (laws_szClassS.calls k _ _ l0 1048576 t379 _ ?side1 ?side2 A3.out).mono ?_); (case side1 => repeat (first | exact HR0.out | (with_reducible refine Kd.C_alloc ?_ _) | (with_reducible refine Kd.C_drewN ?_ _) | (with_reducible refine Kd.C_drew ?_))); (case side2 => exact HC0.out); rintro e w5 ⟨rfl, hb⟩; refine ⟨_, rfl, ?_⟩; have n0_ := Aside0.mk (below_step (by repeat (first | (with_reducible first | exact HB.out | apply below_alloc | apply pw_below_drewN | apply below_drew1) | exact HB.out)) hb); clear HB; have HB := n0_; clear n0_; (try clear hb); (try clear hb2); (try clear hk); (try clear hi)))
    go_ret
    exact ⟨by first | rfl | (simp [errW_none, errW_some] <;> rfl) | (simp [*, errW_none, errW_some] <;> rfl), by repeat (first | (with_reducible first | exact HB.out | apply below_alloc | apply pw_below_drewN | apply below_drew1) | exact HB.out)⟩
  · rw [if_neg c4] at H
    have c4b0 : decide (t379 < 0) = false := decide_eq_false c4
    clear c4
    replace H := Option.bind_eq_some_iff.mp H
    obtain ⟨t380, A60, H⟩ := H
    replace H : ((spec_ClassFields.f k t380 a1).bind fun t383 => ((laws_toClassS.f k l0).bind fun t386 => ((impl_ClassFields.f k t386 a1).bind fun t389 => ((laws_eqIntS.f k t389 t383).bind fun t392 => (if t392 = true then ((laws_toClassS.f k l0).bind fun t393 => ((laws_eqClassS.f k t386 t393).bind fun t396 => (if t396 = true then ((laws_markClassS.f k t386 1).bind fun t397 => (if t397 < 0 then (laws_FnExactClassFields.j0 k l0 a1 t383 t389 true) else ((laws_eqIntS.f k t389 t383).bind fun t398 => (laws_FnExactClassFields.j0 k l0 a1 t383 t389 (!t398))))) else (some false)))) else (some false)))))) = some r := H
    have A6 := Aside0.mk A60
    clear A60
    replace H := Option.bind_eq_some_iff.mp H
    obtain ⟨t383, A70, H⟩ := H
    replace H : ((laws_toClassS.f k l0).bind fun t386 => ((impl_ClassFields.f k t386 a1).bind fun t389 => ((laws_eqIntS.f k t389 t383).bind fun t392 => (if t392 = true then ((laws_toClassS.f k l0).bind fun t393 => ((laws_eqClassS.f k t386 t393).bind fun t396 => (if t396 = true then ((laws_markClassS.f k t386 1).bind fun t397 => (if t397 < 0 then (laws_FnExactClassFields.j0 k l0 a1 t383 t389 true) else ((laws_eqIntS.f k t389 t383).bind fun t398 => (laws_FnExactClassFields.j0 k l0 a1 t383 t389 (!t398))))) else (some false)))) else (some false))))) = some r := H
    have A7 := Aside0.mk A70
    clear A70
    replace H := Option.bind_eq_some_iff.mp H
    obtain ⟨t386, A80, H⟩ := H
    replace H : ((impl_ClassFields.f k t386 a1).bind fun t389 => ((laws_eqIntS.f k t389 t383).bind fun t392 => (if t392 = true then ((laws_toClassS.f k l0).bind fun t393 => ((laws_eqClassS.f k t386 t393).bind fun t396 => (if t396 = true then ((laws_markClassS.f k t386 1).bind fun t397 => (if t397 < 0 then (laws_FnExactClassFields.j0 k l0 a1 t383 t389 true) else ((laws_eqIntS.f k t389 t383).bind fun t398 => (laws_FnExactClassFields.j0 k l0 a1 t383 t389 (!t398))))) else (some false)))) else (some false)))) = some r := H
    have A8 := Aside0.mk A80
    clear A80
    replace H := Option.bind_eq_some_iff.mp H
    obtain ⟨t389, A90, H⟩ := H
    replace H : ((laws_eqIntS.f k t389 t383).bind fun t392 => (if t392 = true then ((laws_toClassS.f k l0).bind fun t393 => ((laws_eqClassS.f k t386 t393).bind fun t396 => (if t396 = true then ((laws_markClassS.f k t386 1).bind fun t397 => (if t397 < 0 then (laws_FnExactClassFields.j0 k l0 a1 t383 t389 true) else ((laws_eqIntS.f k t389 t383).bind fun t398 => (laws_FnExactClassFields.j0 k l0 a1 t383 t389 (!t398))))) else (some false)))) else (some false))) = some r := H
    have A9 := Aside0.mk A90
    clear A90
    replace H := Option.bind_eq_some_iff.mp H
    obtain ⟨t392, A100, H⟩ := H
    replace H : (if t392 = true then ((laws_toClassS.f k l0).bind fun t393 => ((laws_eqClassS.f k t386 t393).bind fun t396 => (if t396 = true then ((laws_markClassS.f k t386 1).bind fun t397 => (if t397 < 0 then (laws_FnExactClassFields.j0 k l0 a1 t383 t389 true) else ((laws_eqIntS.f k t389 t383).bind fun t398 => (laws_FnExactClassFields.j0 k l0 a1 t383 t389 (!t398))))) else (some false)))) else (some false)) = some r := H
    have A10 := Aside0.mk A100
    clear A100
    by_cases c11 : t392 = true
    · subst c11
      have H1 : ((laws_toClassS.f k l0).bind fun t393 => ((laws_eqClassS.f k t386 t393).bind fun t396 => (if t396 = true then ((laws_markClassS.f k t386 1).bind fun t397 => (if t397 < 0 then (laws_FnExactClassFields.j0 k l0 a1 t383 t389 true) else ((laws_eqIntS.f k t389 t383).bind fun t398 => (laws_FnExactClassFields.j0 k l0 a1 t383 t389 (!t398))))) else (some false)))) = some r := by rw [if_pos rfl] at H; exact H
      clear H
      have H := H1
      clear H1
      replace H := Option.bind_eq_some_iff.mp H
      obtain ⟨t393, A120, H⟩ := H
      replace H : ((laws_eqClassS.f k t386 t393).bind fun t396 => (if t396 = true then ((laws_markClassS.f k t386 1).bind fun t397 => (if t397 < 0 then (laws_FnExactClassFields.j0 k l0 a1 t383 t389 true) else ((laws_eqIntS.f k t389 t383).bind fun t398 => (laws_FnExactClassFields.j0 k l0 a1 t383 t389 (!t398))))) else (some false))) = some r := H
      have A12 := Aside0.mk A120
      clear A120
      replace H := Option.bind_eq_some_iff.mp H
      obtain ⟨t396, A130, H⟩ := H
      replace H : (if t396 = true then ((laws_markClassS.f k t386 1).bind fun t397 => (if t397 < 0 then (laws_FnExactClassFields.j0 k l0 a1 t383 t389 true) else ((laws_eqIntS.f k t389 t383).bind fun t398 => (laws_FnExactClassFields.j0 k l0 a1 t383 t389 (!t398))))) else (some false)) = some r := H
      have A13 := Aside0.mk A130
      clear A130
      by_cases c14 : t396 = true
      · subst c14
        have H1 : ((laws_markClassS.f k t386 1).bind fun t397 => (if t397 < 0 then (laws_FnExactClassFields.j0 k l0 a1 t383 t389 true) else ((laws_eqIntS.f k t389 t383).bind fun t398 => (laws_FnExactClassFields.j0 k l0 a1 t383 t389 (!t398))))) = some r := by rw [if_pos rfl] at H; exact H
        clear H
        have H := H1
        clear H1
        replace H := Option.bind_eq_some_iff.mp H
        obtain ⟨t397, A150, H⟩ := H
        replace H : (if t397 < 0 then (laws_FnExactClassFields.j0 k l0 a1 t383 t389 true) else ((laws_eqIntS.f k t389 t383).bind fun t398 => (laws_FnExactClassFields.j0 k l0 a1 t383 t389 (!t398)))) = some r := H
        have A15 := Aside0.mk A150
        clear A150
        have HC16 := Aside0.mk H
        clear H
        go_enter Try.func10, Try.ntmps10
        go_upto_region 14 with (first | ((with_reducible refine gate_callee (f := 20) rfl ?_); refine goesL_ (some 15) rfl rfl Try.func20 (by kernel_rfl) rfl #[.slice A0 l0.length c0, .int .i64 1048576] rfl (by (try simp only [List.map_toArray, List.map_cons, List.map_nil]); first | done | rfl | (simp only [List.length_drop, List.length_take]; rfl)) ?_; (with_reducible refine (laws_szClassS.calls k _ _ l0 1048576 t379 _ ?side1 ?side2 A3.out).mono ?_); (case side1 => repeat (first | exact HR0.out | (with_reducible refine Kd.C_alloc ?_ _) | (with_reducible refine Kd.C_drewN ?_ _) | (with_reducible refine Kd.C_drew ?_))); (case side2 => exact HC0.out); rintro e w17 ⟨rfl, hb⟩; refine ⟨_, rfl, ?_⟩; have n0_ := Aside0.mk (below_step (by repeat (first | (with_reducible first | exact HB.out | apply below_alloc | apply pw_below_drewN | apply below_drew1) | exact HB.out)) hb); clear HB; have HB := n0_; clear n0_; (try clear hb); (try clear hb2); (try clear hk); (try clear hi)) | ((with_reducible refine gate_callee (f := 22) rfl ?_); refine goesL_ (some 19) rfl rfl Try.func22 (by kernel_rfl) rfl #[.slice A0 l0.length c0] rfl (by (try simp only [List.map_toArray, List.map_cons, List.map_nil]); first | done | rfl | (simp only [List.length_drop, List.length_take]; rfl)) ?_; (with_reducible refine (laws_toClassS.calls k _ _ l0 t380 _ ?side1 ?side2 A6.out).mono ?_); (case side1 => repeat (first | exact (Kd.C_below HR0.out HB.out) | (with_reducible refine Kd.C_alloc ?_ _) | (with_reducible refine Kd.C_drewN ?_ _) | (with_reducible refine Kd.C_drew ?_))); (case side2 => exact HC0.out); rintro e w18 ⟨v381, rfl, ho0, hb⟩; refine ⟨_, rfl, ?_⟩; have n0_ := Aside0.mk (Kd.S_lower ho0 (below_size (by repeat (first | (with_reducible first | exact HB.out | apply below_alloc | apply pw_below_drewN | apply below_drew1) | exact HB.out)))); have n1_ := Aside0.mk (below_step (by repeat (first | (with_reducible first | exact HB.out | apply below_alloc | apply pw_below_drewN | apply below_drew1) | exact HB.out)) hb); clear HB; have HO382 := n0_; have HB := n1_; clear n0_ n1_; (try clear hb); (try clear hb2); (try clear hk); (try clear hi); (try clear ho0); obtain ⟨Ao19, co19, eo19⟩ := Kd.S_slice HO382.out; subst eo19) | ((with_reducible refine gate_callee (f := 34) rfl ?_); refine goesL_ (some 21) rfl rfl Try.func34 (by kernel_rfl) rfl #[.slice Ao19 t380.length co19, .int .i64 a1] rfl (by (try simp only [List.map_toArray, List.map_cons, List.map_nil]); first | done | rfl | (simp only [List.length_drop, List.length_take]; rfl)) ?_; (with_reducible refine (spec_ClassFields.calls k _ _ t380 a1 t383 _ ?side1 ?side2 A7.out).mono ?_); (case side1 => repeat (first | exact (Kd.S_reads' HO382.out).2.2 | (with_reducible refine Kd.C_alloc ?_ _) | (with_reducible refine Kd.C_drewN ?_ _) | (with_reducible refine Kd.C_drew ?_))); (case side2 => exact (Kd.S_reads' HO382.out).2.1); rintro e w20 ⟨v384, rfl, ho0, hb⟩; refine ⟨_, rfl, ?_⟩; have n0_ := Aside0.mk (Kd.S_elder' (by (with_reducible repeat (first | apply Kd.S_alloc | apply Kd.S_drewN | apply Kd.S_drew)); exact HO382.out) (Kd.R_base ho0) hb); have n1_ := Aside0.mk (Kd.R_lower ho0 (below_size (by repeat (first | (with_reducible first | exact HB.out | apply below_alloc | apply pw_below_drewN | apply below_drew1) | exact HB.out)))); have n2_ := Aside0.mk (below_step (by repeat (first | (with_reducible first | exact HB.out | apply below_alloc | apply pw_below_drewN | apply below_drew1) | exact HB.out)) hb); clear HO382; clear HB; have HO382 := n0_; have HO385 := n1_; have HB := n2_; clear n0_ n1_ n2_; (try clear hb); (try clear hb2); (try clear hk); (try clear hi); (try clear ho0)) | ((with_reducible refine gate_callee (f := 22) rfl ?_); refine goesL_ (some 23) rfl rfl Try.func22 (by kernel_rfl) rfl #[.slice A0 l0.length c0] rfl (by (try simp only [List.map_toArray, List.map_cons, List.map_nil]); first | done | rfl | (simp only [List.length_drop, List.length_take]; rfl)) ?_; (with_reducible refine (laws_toClassS.calls k _ _ l0 t386 _ ?side1 ?side2 A8.out).mono ?_); (case side1 => repeat (first | exact (Kd.C_below HR0.out HB.out) | (with_reducible refine Kd.C_alloc ?_ _) | (with_reducible refine Kd.C_drewN ?_ _) | (with_reducible refine Kd.C_drew ?_))); (case side2 => exact HC0.out); rintro e w21 ⟨v387, rfl, ho0, hb⟩; refine ⟨_, rfl, ?_⟩; have n0_ := Aside0.mk (Kd.S_elder' (by (with_reducible repeat (first | apply Kd.S_alloc | apply Kd.S_drewN | apply Kd.S_drew)); exact HO382.out) (Kd.S_base ho0) hb); have n1_ := Aside0.mk (Kd.R_below (by (with_reducible repeat (first | apply Kd.R_alloc | apply Kd.R_drewN | apply Kd.R_drew)); exact HO385.out) hb); have n2_ := Aside0.mk (Kd.S_lower (Kd.S_new' (Kd.S_new' ho0 (Kd.S_lt (by (with_reducible repeat (first | apply Kd.S_alloc | apply Kd.S_drewN | apply Kd.S_drew)); exact HO382.out))) (Kd.R_lt (by (with_reducible repeat (first | apply Kd.R_alloc | apply Kd.R_drewN | apply Kd.R_drew)); exact HO385.out))) (below_size (by repeat (first | (with_reducible first | exact HB.out | apply below_alloc | apply pw_below_drewN | apply below_drew1) | exact HB.out)))); have n3_ := Aside0.mk (below_step (by repeat (first | (with_reducible first | exact HB.out | apply below_alloc | apply pw_below_drewN | apply below_drew1) | exact HB.out)) hb); clear HO382; clear HO385; clear HB; have HO382 := n0_; have HO385 := n1_; have HO388 := n2_; have HB := n3_; clear n0_ n1_ n2_ n3_; (try clear hb); (try clear hb2); (try clear hk); (try clear hi); (try clear ho0); obtain ⟨Ao22, co22, eo22⟩ := Kd.S_slice HO388.out; subst eo22) | ((with_reducible refine gate_callee (f := 32) rfl ?_); refine goesL_ (some 26) rfl rfl Try.func32 (by kernel_rfl) rfl #[.slice Ao22 t386.length co22, .int .i64 a1] rfl (by (try simp only [List.map_toArray, List.map_cons, List.map_nil]); first | done | rfl | (simp only [List.length_drop, List.length_take]; rfl)) ?_; (with_reducible refine (impl_ClassFields.calls k _ _ t386 a1 t389 _ ?side1 ?side2 A9.out).mono ?_); (case side1 => repeat (first | exact (Kd.S_reads' HO388.out).2.2 | (with_reducible refine Kd.C_alloc ?_ _) | (with_reducible refine Kd.C_drewN ?_ _) | (with_reducible refine Kd.C_drew ?_))); (case side2 => exact (Kd.S_reads' HO388.out).2.1); rintro e w23 ⟨v390, rfl, ho0, hb⟩; refine ⟨_, rfl, ?_⟩; have n0_ := Aside0.mk (Kd.S_elder' (by (with_reducible repeat (first | apply Kd.S_alloc | apply Kd.S_drewN | apply Kd.S_drew)); exact HO382.out) (Kd.R_base ho0) hb); have n1_ := Aside0.mk (Kd.R_elder' (by (with_reducible repeat (first | apply Kd.R_alloc | apply Kd.R_drewN | apply Kd.R_drew)); exact HO385.out) (Kd.R_base ho0) hb); have n2_ := Aside0.mk (Kd.S_elder' (by (with_reducible repeat (first | apply Kd.S_alloc | apply Kd.S_drewN | apply Kd.S_drew)); exact HO388.out) (Kd.R_base ho0) hb); have n3_ := Aside0.mk (Kd.R_lower (Kd.R_new' ho0 (Kd.R_lt (by (with_reducible repeat (first | apply Kd.R_alloc | apply Kd.R_drewN | apply Kd.R_drew)); exact HO385.out))) (below_size (by repeat (first | (with_reducible first | exact HB.out | apply below_alloc | apply pw_below_drewN | apply below_drew1) | exact HB.out)))); have n4_ := Aside0.mk (below_step (by repeat (first | (with_reducible first | exact HB.out | apply below_alloc | apply pw_below_drewN | apply below_drew1) | exact HB.out)) hb); clear HO382; clear HO385; clear HO388; clear HB; have HO382 := n0_; have HO385 := n1_; have HO388 := n2_; have HO391 := n3_; have HB := n4_; clear n0_ n1_ n2_ n3_ n4_; (try clear hb); (try clear hb2); (try clear hk); (try clear hi); (try clear ho0); obtain ⟨Ao24, co24, eo24⟩ := Kd.R_slice HO391.out; subst eo24; obtain ⟨Ao25, co25, eo25⟩ := Kd.R_slice HO385.out; subst eo25) | ((with_reducible refine gate_callee (f := 36) rfl ?_); refine goesL_ (some 29) rfl rfl Try.func36 (by kernel_rfl) rfl #[.slice Ao24 t389.length co24, .slice Ao25 t383.length co25] rfl (by (try simp only [List.map_toArray, List.map_cons, List.map_nil]); first | done | rfl | (simp only [List.length_drop, List.length_take]; rfl)) ?_; (with_reducible refine (laws_eqIntS.calls k _ _ t389 _ _ t383 true _ ?side1 ?side2 ?side3 ?side4 A10.out).mono ?_); (case side1 => repeat (first | exact (Kd.R_reads' HO391.out).2.2 | (with_reducible refine Kd.C_alloc ?_ _) | (with_reducible refine Kd.C_drewN ?_ _) | (with_reducible refine Kd.C_drew ?_))); (case side2 => exact (Kd.R_reads' HO391.out).2.1); (case side3 => repeat (first | exact (Kd.R_reads' HO385.out).2.2 | (with_reducible refine Kd.C_alloc ?_ _) | (with_reducible refine Kd.C_drewN ?_ _) | (with_reducible refine Kd.C_drew ?_))); (case side4 => exact (Kd.R_reads' HO385.out).2.1); rintro e w' ⟨rfl, ⟨nd, rfl⟩⟩; refine ⟨_, rfl, ?_⟩) | ((with_reducible refine gate_callee (f := 22) rfl ?_); refine goesL_ (some 33) rfl rfl Try.func22 (by kernel_rfl) rfl #[.slice A0 l0.length c0] rfl (by (try simp only [List.map_toArray, List.map_cons, List.map_nil]); first | done | rfl | (simp only [List.length_drop, List.length_take]; rfl)) ?_; (with_reducible refine (laws_toClassS.calls k _ _ l0 t393 _ ?side1 ?side2 A12.out).mono ?_); (case side1 => repeat (first | exact (Kd.C_below HR0.out (by repeat (first | (with_reducible first | exact HB.out | apply below_alloc | apply pw_below_drewN | apply below_drew1) | exact HB.out))) | (with_reducible refine Kd.C_alloc ?_ _) | (with_reducible refine Kd.C_drewN ?_ _) | (with_reducible refine Kd.C_drew ?_))); (case side2 => exact HC0.out); rintro e w26 ⟨v394, rfl, ho0, hb⟩; refine ⟨_, rfl, ?_⟩; have n0_ := Aside0.mk (Kd.S_elder' (by (with_reducible repeat (first | apply Kd.S_alloc | apply Kd.S_drewN | apply Kd.S_drew)); exact HO382.out) (Kd.S_base ho0) hb); have n1_ := Aside0.mk (Kd.R_below (by (with_reducible repeat (first | apply Kd.R_alloc | apply Kd.R_drewN | apply Kd.R_drew)); exact HO385.out) hb); have n2_ := Aside0.mk (Kd.S_elder' (by (with_reducible repeat (first | apply Kd.S_alloc | apply Kd.S_drewN | apply Kd.S_drew)); exact HO388.out) (Kd.S_base ho0) hb); have n3_ := Aside0.mk (Kd.R_below (by (with_reducible repeat (first | apply Kd.R_alloc | apply Kd.R_drewN | apply Kd.R_drew)); exact HO391.out) hb); have n4_ := Aside0.mk (Kd.S_lower (Kd.S_new' (Kd.S_new' (Kd.S_new' (Kd.S_new' ho0 (Kd.S_lt (by (with_reducible repeat (first | apply Kd.S_alloc | apply Kd.S_drewN | apply Kd.S_drew)); exact HO382.out))) (Kd.R_lt (by (with_reducible repeat (first | apply Kd.R_alloc | apply Kd.R_drewN | apply Kd.R_drew)); exact HO385.out))) (Kd.S_lt (by (with_reducible repeat (first | apply Kd.S_alloc | apply Kd.S_drewN | apply Kd.S_drew)); exact HO388.out))) (Kd.R_lt (by (with_reducible repeat (first | apply Kd.R_alloc | apply Kd.R_drewN | apply Kd.R_drew)); exact HO391.out))) (below_size (by repeat (first | (with_reducible first | exact HB.out | apply below_alloc | apply pw_below_drewN | apply below_drew1) | exact HB.out)))); have n5_ := Aside0.mk (below_step (by repeat (first | (with_reducible first | exact HB.out | apply below_alloc | apply pw_below_drewN | apply below_drew1) | exact HB.out)) hb); clear HO382; clear HO385; clear HO388; clear HO391; clear HB; have HO382 := n0_; have HO385 := n1_; have HO388 := n2_; have HO391 := n3_; have HO395 := n4_; have HB := n5_; clear n0_ n1_ n2_ n3_ n4_ n5_; (try clear hb); (try clear hb2); (try clear hk); (try clear hi); (try clear ho0); obtain ⟨Ao27, co27, eo27⟩ := Kd.S_slice HO395.out; subst eo27) | ((with_reducible refine gate_callee (f := 24) rfl ?_); refine goesL_ (some 34) rfl rfl Try.func24 (by kernel_rfl) rfl #[.slice Ao22 t386.length co22, .slice Ao27 t393.length co27] rfl (by (try simp only [List.map_toArray, List.map_cons, List.map_nil]); first | done | rfl | (simp only [List.length_drop, List.length_take]; rfl)) ?_; (with_reducible refine (laws_eqClassS.calls k _ _ t386 _ _ t393 true _ ?side1 ?side2 ?side3 ?side4 A13.out).mono ?_); (case side1 => repeat (first | exact (Kd.S_reads' HO388.out).2.2 | (with_reducible refine Kd.C_alloc ?_ _) | (with_reducible refine Kd.C_drewN ?_ _) | (with_reducible refine Kd.C_drew ?_))); (case side2 => exact (Kd.S_reads' HO388.out).2.1); (case side3 => repeat (first | exact (Kd.S_reads' HO395.out).2.2 | (with_reducible refine Kd.C_alloc ?_ _) | (with_reducible refine Kd.C_drewN ?_ _) | (with_reducible refine Kd.C_drew ?_))); (case side4 => exact (Kd.S_reads' HO395.out).2.1); rintro e w28 ⟨rfl, hb⟩; refine ⟨_, rfl, ?_⟩; have n0_ := Aside0.mk (Kd.S_below (by (with_reducible repeat (first | apply Kd.S_alloc | apply Kd.S_drewN | apply Kd.S_drew)); exact HO382.out) hb); have n1_ := Aside0.mk (Kd.R_below (by (with_reducible repeat (first | apply Kd.R_alloc | apply Kd.R_drewN | apply Kd.R_drew)); exact HO385.out) hb); have n2_ := Aside0.mk (Kd.S_below (by (with_reducible repeat (first | apply Kd.S_alloc | apply Kd.S_drewN | apply Kd.S_drew)); exact HO388.out) hb); have n3_ := Aside0.mk (Kd.R_below (by (with_reducible repeat (first | apply Kd.R_alloc | apply Kd.R_drewN | apply Kd.R_drew)); exact HO391.out) hb); have n4_ := Aside0.mk (Kd.S_below (by (with_reducible repeat (first | apply Kd.S_alloc | apply Kd.S_drewN | apply Kd.S_drew)); exact HO395.out) hb); have n5_ := Aside0.mk (below_step (by repeat (first | (with_reducible first | exact HB.out | apply below_alloc | apply pw_below_drewN | apply below_drew1) | exact HB.out)) hb); clear HO382; clear HO385; clear HO388; clear HO391; clear HO395; clear HB; have HO382 := n0_; have HO385 := n1_; have HO388 := n2_; have HO391 := n3_; have HO395 := n4_; have HB := n5_; clear n0_ n1_ n2_ n3_ n4_ n5_; (try clear hb); (try clear hb2); (try clear hk); (try clear hi)) | ((with_reducible refine gate_callee (f := 37) rfl ?_); refine goesL_ (some 38) rfl rfl Try.func37 (by kernel_rfl) rfl #[.slice Ao22 t386.length co22, .int .i64 1] rfl (by (try simp only [List.map_toArray, List.map_cons, List.map_nil]); first | done | rfl | (simp only [List.length_drop, List.length_take]; rfl)) ?_; (with_reducible refine (laws_markClassS.calls k (fun k_ => some k_ ≠ (.slice Ao25 t383.length co25 : Value).ownBlock ∧ some k_ ≠ (.slice Ao24 t389.length co24 : Value).ownBlock) (.slice Ao22 t386.length co22) t386 1 t397 w _ ?side1 ?side2 A15.out).mono ?_); (case side1 => repeat (first | (with_reducible first | exact HB.out | apply below_alloc | apply pw_below_drewN | apply below_drew1) | exact HB.out)); (case side2 => exact Kd.S_mono (HO388.out) (fun k_ hk => ⟨hk.1.1.2, hk.1.2⟩)); rintro e w29 ⟨rfl, hb, hkp⟩; refine ⟨_, rfl, ?_⟩; have n0_ := Aside0.mk (Kd.R_mono (ok' := fun k_ => some k_ ≠ (.slice Ao24 t389.length co24 : Value).ownBlock) (Kd.R_keptB (Kd.R_tight2 rfl (HO385.out)) hkp (fun k_ hk_ hs_ => hs_.1 hk_.1)) (fun k_ hk_ => hk_.1.2.2)); have n1_ := Aside0.mk (Kd.R_mono (ok' := fun k_ => some k_ ≠ (.slice Ao25 t383.length co25 : Value).ownBlock) (Kd.R_keptB (Kd.R_tight2 rfl (HO391.out)) hkp (fun k_ hk_ hs_ => hs_.2 hk_.1)) (fun k_ hk_ => hk_.1.2.2)); have n2_ := Aside0.mk (hb); clear HO385; clear HO391; clear HB; clear HO388; have HO385 := n0_; have HO391 := n1_; have HB := n2_; clear n0_ n1_ n2_; (try clear hb); (try clear hkp)))
        (try simp only [Act.put, List.setIfInBounds_toArray, List.set_cons_zero, List.set_cons_succ])
        go_cut [46] (fun v46 wc => ∃ (kq : Nat) (x46_15 : Bool), v46 = .bool x46_15 ∧ Aside0 (laws_FnExactClassFields.j0 kq l0 a1 t383 t389 x46_15 = some r) ∧ Aside0 (kq ≤ k) ∧ Aside0 (Kd.R (Kd.int .i64) 3 wc w.heap.size (fun k_ => some k_ ≠ ((.slice Ao24 t389.length co24) : Value).ownBlock) (.slice Ao25 t383.length co25) t383) ∧ Aside0 (Kd.R (Kd.int .i64) 3 wc w.heap.size (fun k_ => some k_ ≠ ((.slice Ao25 t383.length co25) : Value).ownBlock) (.slice Ao24 t389.length co24) t389) ∧ Aside0 (Below w.heap.size w wc))
        case first =>
          have H := HC16.out
          clear HC16
          by_cases c30 : t397 < 0
          · rw [if_pos c30] at H
            have c30b0 : decide (t397 < 0) = true := decide_eq_true c30
            clear c30
            (first | rw [c30b0] | (simp only [i64_w, i32_w]; rw [c30b0]) | skip)
            have H' := Aside0.mk H
            clear H
            go_wp2
            go_meet
            case rel => exact ⟨_, (true), (by first | rfl | (simp; done) | (simp [*]; done)), H', ⟨by first | omega | exact Nat.le_refl _⟩, ⟨by (with_reducible repeat (first | apply Kd.R_alloc | apply Kd.R_drewN | apply Kd.R_drew)); exact HO385.out⟩, ⟨by (with_reducible repeat (first | apply Kd.R_alloc | apply Kd.R_drewN | apply Kd.R_drew)); exact HO391.out⟩, ⟨by repeat (first | (with_reducible first | exact HB.out | apply below_alloc | apply pw_below_drewN | apply below_drew1) | exact HB.out)⟩⟩
          · rw [if_neg c30] at H
            have c30b0 : decide (t397 < 0) = false := decide_eq_false c30
            clear c30
            (first | rw [c30b0] | (simp only [i64_w, i32_w]; rw [c30b0]) | skip)
            replace H := Option.bind_eq_some_iff.mp H
            obtain ⟨t398, A310, H⟩ := H
            replace H : (laws_FnExactClassFields.j0 k l0 a1 t383 t389 (!t398)) = some r := H
            have A31 := Aside0.mk A310
            clear A310
            have H' := Aside0.mk H
            clear H
            go_wp2_with (first | (go_at_call 36; (with_reducible refine (laws_eqIntS.calls k _ _ t389 _ _ t383 t398 _ ?side1 ?side2 ?side3 ?side4 A31.out).mono ?_); (case side1 => repeat (first | exact (Kd.R_reads' HO391.out).2.2 | (with_reducible refine Kd.C_alloc ?_ _) | (with_reducible refine Kd.C_drewN ?_ _) | (with_reducible refine Kd.C_drew ?_))); (case side2 => exact (Kd.R_reads' HO391.out).2.1); (case side3 => repeat (first | exact (Kd.R_reads' HO385.out).2.2 | (with_reducible refine Kd.C_alloc ?_ _) | (with_reducible refine Kd.C_drewN ?_ _) | (with_reducible refine Kd.C_drew ?_))); (case side4 => exact (Kd.R_reads' HO385.out).2.1); rintro e w' ⟨rfl, ⟨nd, rfl⟩⟩))
            go_meet
            case rel => exact ⟨_, (!t398), (by first | rfl | (simp; done) | (simp [*]; done)), H', ⟨by first | omega | exact Nat.le_refl _⟩, ⟨by (with_reducible repeat (first | apply Kd.R_alloc | apply Kd.R_drewN | apply Kd.R_drew)); exact HO385.out⟩, ⟨by (with_reducible repeat (first | apply Kd.R_alloc | apply Kd.R_drewN | apply Kd.R_drew)); exact HO391.out⟩, ⟨by repeat (first | (with_reducible first | exact HB.out | apply below_alloc | apply pw_below_drewN | apply below_drew1) | exact HB.out)⟩⟩
        case rest =>
          clear HC16
          try clear c1
          try clear c2
          try clear p2
          try clear c3
          try clear c4
          try clear c4b0
          try clear c10
          try clear c11
          try clear c14
          try clear c20
          try clear c22
          try clear c24
          try clear c30
          try clear c30b0
          obtain ⟨kq, x46_15, rfl, HA, HJ15, HO_6, HO_8, HB⟩ := hcut
          cases kq with
          | zero => exact absurd HA.out (by simp [laws_FnExactClassFields.j0])
          | succ kj15 =>
            have H := HA.out
            clear HA
            simp only [laws_FnExactClassFields.j0] at H
            by_cases c32 : x46_15 = true
            · subst c32
              have H1 : (some false) = some r := by rw [if_pos rfl] at H; exact H
              clear H
              have H := H1
              clear H1
              obtain rfl := Option.some.inj H
              exact absurd hr_ (by decide)
            · replace c32 := Bool.eq_false_iff.mpr c32
              subst c32
              have H1 : ((laws_markIntS.f kj15 t389 1).bind fun bt399 => ((laws_heldIntS.f kj15 bt399.2 1).bind fun t401 => (if t401 < 0 then (some false) else (if t401 = bt399.1 then ((laws_toClassS.f kj15 l0).bind fun t402 => ((impl_ClassFields.f kj15 t402 a1).bind fun t405 => ((laws_eqIntS.f kj15 t405 t383).bind fun t408 => (if t408 = true then ((laws_heldIntS.f kj15 bt399.2 1).bind fun t409 => (if t409 < 0 then (some false) else (if t409 = bt399.1 then (some true) else (some false)))) else (some false))))) else (some false))))) = some r := by rw [if_neg (show ¬ (false = true) by decide)] at H; exact H
              clear H
              have H := H1
              clear H1
              replace H := Option.bind_eq_some_iff.mp H
              obtain ⟨⟨t399, t400⟩, A330, H⟩ := H
              replace H : ((laws_heldIntS.f kj15 t400 1).bind fun t401 => (if t401 < 0 then (some false) else (if t401 = t399 then ((laws_toClassS.f kj15 l0).bind fun t402 => ((impl_ClassFields.f kj15 t402 a1).bind fun t405 => ((laws_eqIntS.f kj15 t405 t383).bind fun t408 => (if t408 = true then ((laws_heldIntS.f kj15 t400 1).bind fun t409 => (if t409 < 0 then (some false) else (if t409 = t399 then (some true) else (some false)))) else (some false))))) else (some false)))) = some r := H
              have A33 := Aside0.mk A330
              clear A330
              replace H := Option.bind_eq_some_iff.mp H
              obtain ⟨t401, A340, H⟩ := H
              replace H : (if t401 < 0 then (some false) else (if t401 = t399 then ((laws_toClassS.f kj15 l0).bind fun t402 => ((impl_ClassFields.f kj15 t402 a1).bind fun t405 => ((laws_eqIntS.f kj15 t405 t383).bind fun t408 => (if t408 = true then ((laws_heldIntS.f kj15 t400 1).bind fun t409 => (if t409 < 0 then (some false) else (if t409 = t399 then (some true) else (some false)))) else (some false))))) else (some false))) = some r := H
              have A34 := Aside0.mk A340
              clear A340
              by_cases c35 : t401 < 0
              · rw [if_pos c35] at H
                have c35b0 : decide (t401 < 0) = true := decide_eq_true c35
                clear c35
                obtain rfl := Option.some.inj H
                exact absurd hr_ (by decide)
              · rw [if_neg c35] at H
                have c35b0 : decide (t401 < 0) = false := decide_eq_false c35
                clear c35
                by_cases c36 : t401 = t399
                · rw [if_pos c36] at H
                  have c36b0 : (t401 == t399) = true := beq_iff_eq.mpr c36
                  have c36b1 : (t401 != t399) = false := bne_eq_false_iff_eq.mpr c36
                  clear c36
                  replace H := Option.bind_eq_some_iff.mp H
                  obtain ⟨t402, A370, H⟩ := H
                  replace H : ((impl_ClassFields.f kj15 t402 a1).bind fun t405 => ((laws_eqIntS.f kj15 t405 t383).bind fun t408 => (if t408 = true then ((laws_heldIntS.f kj15 t400 1).bind fun t409 => (if t409 < 0 then (some false) else (if t409 = t399 then (some true) else (some false)))) else (some false)))) = some r := H
                  have A37 := Aside0.mk A370
                  clear A370
                  replace H := Option.bind_eq_some_iff.mp H
                  obtain ⟨t405, A380, H⟩ := H
                  replace H : ((laws_eqIntS.f kj15 t405 t383).bind fun t408 => (if t408 = true then ((laws_heldIntS.f kj15 t400 1).bind fun t409 => (if t409 < 0 then (some false) else (if t409 = t399 then (some true) else (some false)))) else (some false))) = some r := H
                  have A38 := Aside0.mk A380
                  clear A380
                  replace H := Option.bind_eq_some_iff.mp H
                  obtain ⟨t408, A390, H⟩ := H
                  replace H : (if t408 = true then ((laws_heldIntS.f kj15 t400 1).bind fun t409 => (if t409 < 0 then (some false) else (if t409 = t399 then (some true) else (some false)))) else (some false)) = some r := H
                  have A39 := Aside0.mk A390
                  clear A390
                  by_cases c40 : t408 = true
                  · subst c40
                    have H1 : ((laws_heldIntS.f kj15 t400 1).bind fun t409 => (if t409 < 0 then (some false) else (if t409 = t399 then (some true) else (some false)))) = some r := by rw [if_pos rfl] at H; exact H
                    clear H
                    have H := H1
                    clear H1
                    replace H := Option.bind_eq_some_iff.mp H
                    obtain ⟨t409, A410, H⟩ := H
                    replace H : (if t409 < 0 then (some false) else (if t409 = t399 then (some true) else (some false))) = some r := H
                    have A41 := Aside0.mk A410
                    clear A410
                    by_cases c42 : t409 < 0
                    · rw [if_pos c42] at H
                      have c42b0 : decide (t409 < 0) = true := decide_eq_true c42
                      clear c42
                      obtain rfl := Option.some.inj H
                      exact absurd hr_ (by decide)
                    · rw [if_neg c42] at H
                      have c42b0 : decide (t409 < 0) = false := decide_eq_false c42
                      clear c42
                      by_cases c43 : t409 = t399
                      · rw [if_pos c43] at H
                        have c43b0 : (t409 == t399) = true := beq_iff_eq.mpr c43
                        have c43b1 : (t409 != t399) = false := bne_eq_false_iff_eq.mpr c43
                        clear c43
                        obtain rfl := Option.some.inj H
                        simp only [Option.some.injEq, Prod.mk.injEq] at H
                        obtain ⟨rfl⟩ := H
                        go_wp2_with (first | ((with_reducible refine gate_callee (f := 38) rfl ?_); refine goesL_ (some 49) rfl rfl Try.func38 (by kernel_rfl) rfl #[.slice Ao24 t389.length co24, .int .i64 1] rfl (by (try simp only [List.map_toArray, List.map_cons, List.map_nil]); first | done | rfl | (simp only [List.length_drop, List.length_take]; rfl)) ?_; (with_reducible refine (laws_markIntS.calls kj15 (fun k_ => some k_ = (.slice Ao24 t389.length co24 : Value).ownBlock) (.slice Ao24 t389.length co24) t389 1 t399 t400 w _ ?side1 ?side2 A33.out).mono ?_); (case side1 => repeat (first | (with_reducible first | exact HB.out | apply below_alloc | apply pw_below_drewN | apply below_drew1) | exact HB.out)); (case side2 => exact Kd.R_tight rfl HO_8.out); rintro e w44 ⟨rfl, hy0, hb, hkp⟩; refine ⟨_, rfl, ?_⟩; have n0_ := Aside0.mk (Kd.R_mono (ok' := fun k_ => some k_ ≠ (.slice Ao24 t389.length co24 : Value).ownBlock) (Kd.R_keptB (HO_6.out) hkp (fun k_ hk_ hs_ => (hk_) hs_)) (fun k_ hk_ => hk_.1)); have n1_ := Aside0.mk (Kd.R_reok rfl hy0 (fun k_ e_ => HO_8.out.1 k_ e_)); have n2_ := Aside0.mk (hb); clear HO_6; clear HO_8; clear HB; have HO_6 := n0_; have HO_8 := n1_; have HB := n2_; clear n0_ n1_ n2_; (try clear hb); (try clear hkp); (try clear hy0)) | ((with_reducible refine gate_callee (f := 39) rfl ?_); refine goesL_ (some 52) rfl rfl Try.func39 (by kernel_rfl) rfl #[.slice Ao24 t400.length co24, .int .i64 1] rfl (by (try simp only [List.map_toArray, List.map_cons, List.map_nil]); first | done | (rw [show t400.length = t389.length from (Kd.R_reads' HO_8.out).1.symm] <;> rfl) | rfl | (simp only [List.length_drop, List.length_take]; rfl)) ?_; (with_reducible refine (laws_heldIntS.calls kj15 _ _ t400 1 t401 _ ?side1 ?side2 A34.out).mono ?_); (case side1 => repeat (first | exact (Kd.R_reads' HO_8.out).2.2 | (with_reducible refine Kd.C_alloc ?_ _) | (with_reducible refine Kd.C_drewN ?_ _) | (with_reducible refine Kd.C_drew ?_))); (case side2 => rw [show t400.length = t389.length from (Kd.R_reads' HO_8.out).1.symm]; exact (Kd.R_reads' HO_8.out).2.1); rintro e w' ⟨rfl, ⟨nd, rfl⟩⟩; refine ⟨_, rfl, ?_⟩) | ((with_reducible refine gate_callee (f := 22) rfl ?_); refine goesL_ (some 59) rfl rfl Try.func22 (by kernel_rfl) rfl #[.slice A0 l0.length c0] rfl (by (try simp only [List.map_toArray, List.map_cons, List.map_nil]); first | done | rfl | (simp only [List.length_drop, List.length_take]; rfl)) ?_; (with_reducible refine (laws_toClassS.calls kj15 _ _ l0 t402 _ ?side1 ?side2 A37.out).mono ?_); (case side1 => repeat (first | exact (Kd.C_below HR0.out (by repeat (first | (with_reducible first | exact HB.out | apply below_alloc | apply pw_below_drewN | apply below_drew1) | exact HB.out))) | (with_reducible refine Kd.C_alloc ?_ _) | (with_reducible refine Kd.C_drewN ?_ _) | (with_reducible refine Kd.C_drew ?_))); (case side2 => exact HC0.out); rintro e w45 ⟨v403, rfl, ho0, hb⟩; refine ⟨_, rfl, ?_⟩; have n0_ := Aside0.mk (Kd.R_below (by (with_reducible repeat (first | apply Kd.R_alloc | apply Kd.R_drewN | apply Kd.R_drew)); exact HO_6.out) hb); have n1_ := Aside0.mk (Kd.R_below (by (with_reducible repeat (first | apply Kd.R_alloc | apply Kd.R_drewN | apply Kd.R_drew)); exact HO_8.out) hb); have n2_ := Aside0.mk (Kd.S_lower (Kd.S_new' (Kd.S_new' ho0 (Kd.R_lt (by (with_reducible repeat (first | apply Kd.R_alloc | apply Kd.R_drewN | apply Kd.R_drew)); exact HO_6.out))) (Kd.R_lt (by (with_reducible repeat (first | apply Kd.R_alloc | apply Kd.R_drewN | apply Kd.R_drew)); exact HO_8.out))) (below_size (by repeat (first | (with_reducible first | exact HB.out | apply below_alloc | apply pw_below_drewN | apply below_drew1) | exact HB.out)))); have n3_ := Aside0.mk (below_step (by repeat (first | (with_reducible first | exact HB.out | apply below_alloc | apply pw_below_drewN | apply below_drew1) | exact HB.out)) hb); clear HO_6; clear HO_8; clear HB; have HO_6 := n0_; have HO_8 := n1_; have HO404 := n2_; have HB := n3_; clear n0_ n1_ n2_ n3_; (try clear hb); (try clear hb2); (try clear hk); (try clear hi); (try clear ho0); obtain ⟨Ao46, co46, eo46⟩ := Kd.S_slice HO404.out; subst eo46) | ((with_reducible refine gate_callee (f := 32) rfl ?_); refine goesL_ (some 61) rfl rfl Try.func32 (by kernel_rfl) rfl #[.slice Ao46 t402.length co46, .int .i64 a1] rfl (by (try simp only [List.map_toArray, List.map_cons, List.map_nil]); first | done | rfl | (simp only [List.length_drop, List.length_take]; rfl)) ?_; (with_reducible refine (impl_ClassFields.calls kj15 _ _ t402 a1 t405 _ ?side1 ?side2 A38.out).mono ?_); (case side1 => repeat (first | exact (Kd.S_reads' HO404.out).2.2 | (with_reducible refine Kd.C_alloc ?_ _) | (with_reducible refine Kd.C_drewN ?_ _) | (with_reducible refine Kd.C_drew ?_))); (case side2 => exact (Kd.S_reads' HO404.out).2.1); rintro e w47 ⟨v406, rfl, ho0, hb⟩; refine ⟨_, rfl, ?_⟩; have n0_ := Aside0.mk (Kd.R_elder' (by (with_reducible repeat (first | apply Kd.R_alloc | apply Kd.R_drewN | apply Kd.R_drew)); exact HO_6.out) (Kd.R_base ho0) hb); have n1_ := Aside0.mk (Kd.R_elder' (by (with_reducible repeat (first | apply Kd.R_alloc | apply Kd.R_drewN | apply Kd.R_drew)); exact HO_8.out) (Kd.R_base ho0) hb); have n2_ := Aside0.mk (Kd.S_elder' (by (with_reducible repeat (first | apply Kd.S_alloc | apply Kd.S_drewN | apply Kd.S_drew)); exact HO404.out) (Kd.R_base ho0) hb); have n3_ := Aside0.mk (Kd.R_lower (Kd.R_new' (Kd.R_new' ho0 (Kd.R_lt (by (with_reducible repeat (first | apply Kd.R_alloc | apply Kd.R_drewN | apply Kd.R_drew)); exact HO_6.out))) (Kd.R_lt (by (with_reducible repeat (first | apply Kd.R_alloc | apply Kd.R_drewN | apply Kd.R_drew)); exact HO_8.out))) (below_size (by repeat (first | (with_reducible first | exact HB.out | apply below_alloc | apply pw_below_drewN | apply below_drew1) | exact HB.out)))); have n4_ := Aside0.mk (below_step (by repeat (first | (with_reducible first | exact HB.out | apply below_alloc | apply pw_below_drewN | apply below_drew1) | exact HB.out)) hb); clear HO_6; clear HO_8; clear HO404; clear HB; have HO_6 := n0_; have HO_8 := n1_; have HO404 := n2_; have HO407 := n3_; have HB := n4_; clear n0_ n1_ n2_ n3_ n4_; (try clear hb); (try clear hb2); (try clear hk); (try clear hi); (try clear ho0); obtain ⟨Ao48, co48, eo48⟩ := Kd.R_slice HO407.out; subst eo48) | ((with_reducible refine gate_callee (f := 36) rfl ?_); refine goesL_ (some 64) rfl rfl Try.func36 (by kernel_rfl) rfl #[.slice Ao48 t405.length co48, .slice Ao25 t383.length co25] rfl (by (try simp only [List.map_toArray, List.map_cons, List.map_nil]); first | done | rfl | (simp only [List.length_drop, List.length_take]; rfl)) ?_; (with_reducible refine (laws_eqIntS.calls kj15 _ _ t405 _ _ t383 true _ ?side1 ?side2 ?side3 ?side4 A39.out).mono ?_); (case side1 => repeat (first | exact (Kd.R_reads' HO407.out).2.2 | (with_reducible refine Kd.C_alloc ?_ _) | (with_reducible refine Kd.C_drewN ?_ _) | (with_reducible refine Kd.C_drew ?_))); (case side2 => exact (Kd.R_reads' HO407.out).2.1); (case side3 => repeat (first | exact (Kd.R_reads' HO_6.out).2.2 | (with_reducible refine Kd.C_alloc ?_ _) | (with_reducible refine Kd.C_drewN ?_ _) | (with_reducible refine Kd.C_drew ?_))); (case side4 => exact (Kd.R_reads' HO_6.out).2.1); rintro e w' ⟨rfl, ⟨nd, rfl⟩⟩; refine ⟨_, rfl, ?_⟩) | ((with_reducible refine gate_callee (f := 39) rfl ?_); refine goesL_ (some 68) rfl rfl Try.func39 (by kernel_rfl) rfl #[.slice Ao24 t400.length co24, .int .i64 1] rfl (by (try simp only [List.map_toArray, List.map_cons, List.map_nil]); first | done | (rw [show t400.length = t389.length from (Kd.R_reads' HO_8.out).1.symm] <;> rfl) | rfl | (simp only [List.length_drop, List.length_take]; rfl)) ?_; (with_reducible refine (laws_heldIntS.calls kj15 _ _ t400 1 t409 _ ?side1 ?side2 A41.out).mono ?_); (case side1 => repeat (first | exact (Kd.R_reads' HO_8.out).2.2 | (with_reducible refine Kd.C_alloc ?_ _) | (with_reducible refine Kd.C_drewN ?_ _) | (with_reducible refine Kd.C_drew ?_))); (case side2 => rw [show t400.length = t389.length from (Kd.R_reads' HO_8.out).1.symm]; exact (Kd.R_reads' HO_8.out).2.1); rintro e w' ⟨rfl, ⟨nd, rfl⟩⟩; refine ⟨_, rfl, ?_⟩))
                        go_ret
                        exact ⟨by first | rfl | (simp [errW_none, errW_some] <;> rfl) | (simp [*, errW_none, errW_some] <;> rfl), by repeat (first | (with_reducible first | exact HB.out | apply below_alloc | apply pw_below_drewN | apply below_drew1) | exact HB.out)⟩
                      · rw [if_neg c43] at H
                        have c43b0 : (t409 == t399) = false := beq_eq_false_iff_ne.mpr c43
                        have c43b1 : (t409 != t399) = true := bne_iff_ne.mpr c43
                        obtain rfl := Option.some.inj H
                        exact absurd hr_ (by decide)
                  · replace c40 := Bool.eq_false_iff.mpr c40
                    subst c40
                    have H1 : (some false) = some r := by rw [if_neg (show ¬ (false = true) by decide)] at H; exact H
                    clear H
                    have H := H1
                    clear H1
                    obtain rfl := Option.some.inj H
                    exact absurd hr_ (by decide)
                · rw [if_neg c36] at H
                  have c36b0 : (t401 == t399) = false := beq_eq_false_iff_ne.mpr c36
                  have c36b1 : (t401 != t399) = true := bne_iff_ne.mpr c36
                  obtain rfl := Option.some.inj H
                  exact absurd hr_ (by decide)
      · replace c14 := Bool.eq_false_iff.mpr c14
        subst c14
        have H1 : (some false) = some r := by rw [if_neg (show ¬ (false = true) by decide)] at H; exact H
        clear H
        have H := H1
        clear H1
        obtain rfl := Option.some.inj H
        exact absurd hr_ (by decide)
    · replace c11 := Bool.eq_false_iff.mpr c11
      subst c11
      have H1 : (some false) = some r := by rw [if_neg (show ¬ (false = true) by decide)] at H; exact H
      clear H
      have H := H1
      clear H1
      obtain rfl := Option.some.inj H
      exact absurd hr_ (by decide)

end Go.Proofs.Ytgmjolngnhdafaa.P

end
section
namespace Go.Proofs.Ytgmjolngnhdafaa.Open
open Go Go.RowKit Go.ChangeShapes Go.WideShapes Go.Deep Go.Proofs.YtgmjolngnhdafaaW.PrintWords
set_option linter.unusedVariables false
set_option linter.unusedSectionVars false
/-- From 'for each i < n there is one' to a list of them. -/
theorem list_of {α : Type} {n : Nat} {p : Nat → α → Prop} (h : ∀ i, i < n → ∃ x, p i x) : ∃ xs : List α, xs.length = n ∧ ∀ i y, xs[i]? = some y → p i y := by
  induction n with
  | zero => exact ⟨[], rfl, fun i y hy => by simp at hy⟩
  | succ q ih =>
    obtain ⟨xs, hl, hxs⟩ := ih (fun i hi => h i (by omega))
    obtain ⟨z, hz⟩ := h q (by omega)
    refine ⟨xs ++ [z], by simp [hl], fun i y hy => ?_⟩
    by_cases hi : i < xs.length
    · rw [List.getElem?_append_left hi] at hy
      exact hxs i y hy
    · rw [List.getElem?_append_right (by omega)] at hy
      have hi2 : i = xs.length := by
        have := (List.getElem?_eq_some_iff.1 hy).1
        simp at this
        omega
      subst hi2
      simp at hy
      subst hy
      rw [hl]
      exact hz
section
variable {H : Type} {enc : TypeId × Value → H} {P : Program} {w : World} {base : Nat} {spare : Nat → Bool} {held : Bool}

/-- What reads as data of type t reads as d tells it. -/
def Opens {H : Type} (enc : TypeId × Value → H) (P : Program) (w : World) (base : Nat) (spare : Nat → Bool) (held : Bool) {α : Type} (t : TypeId) (d : Kd α) (wf : α → Prop) : Prop :=
  ∀ (fuel : Nat) (cs : List Value) (x : DataW H × List MemPlace), DataW.trod enc P w base spare held fuel t cs = some x → ∃ a, d.K w a cs ∧ wf a
theorem opens_int {k : IntKind} {t : TypeId} (hu : P.underlying t = some (.int k)) : Opens enc P w base spare held t (Kd.int k) (fun n => (Lit.int k n).wf = true) := by
  intro fuel cs x h
  obtain ⟨n, rfl, _, hw⟩ := DataW.trod_int hu h
  exact ⟨n, rfl, hw⟩
theorem opens_bool {t : TypeId} (hu : P.underlying t = some .bool) : Opens enc P w base spare held t Kd.bool (fun _ => True) := by
  intro fuel cs x h
  obtain ⟨b, rfl, _⟩ := DataW.trod_bool hu h
  exact ⟨b, rfl, trivial⟩
theorem cells_get {base n : Nat} {a : Addr} {cs : List Value} (h : w.cells? base a n = some cs) : cs.length = n ∧ ∀ i u, cs[i]? = some u → w.cell? (a.add i) = some u := by
  obtain ⟨hb, hl, hc⟩ := World.cells?_some h
  refine ⟨hl, fun i u hu => ?_⟩
  have hi : i < cs.length := (List.getElem?_eq_some_iff.1 hu).1
  rw [hc i (by omega), hu]
theorem opens_slice {α : Type} {d : Kd α} {wf : α → Prop} {t e : TypeId} (hu : P.underlying t = some (.slice e)) (hc : P.cellsOf e = d.sz) (ho : Opens enc P w base spare held e d wf) :
    Opens enc P w base spare held t (Kd.slice e d) (fun xs => xs.length ≤ 9223372036854775807 ∧ ∀ x ∈ xs, wf x) := by
  intro fuel cs x h
  rcases open_slice hu h with ⟨rfl, _⟩ | ⟨a, len, cap, m, n, D, Pl, rfl, _, hlc, hcm, hm, _, hel⟩
  · exact ⟨[], ⟨none, 0, rfl, Nat.le_refl 0, rfl, Nat.zero_le _, fun hp => absurd hp (Nat.lt_irrefl 0)⟩, Nat.zero_le _, fun x hx => by cases hx⟩
  · have hlm : len ≤ m := by rw [hm]; split <;> omega
    obtain ⟨xs, hxl, hxs⟩ := list_of (p := fun i y => ∃ c, w.cells? base (a.add (i * P.cellsOf e)) (P.cellsOf e) = some c ∧ d.K w y c ∧ wf y) (fun i hi => by
      obtain ⟨cs', h1, h2⟩ := hel i (by omega)
      obtain ⟨y, hy, hw⟩ := ho n cs' _ h2
      exact ⟨y, cs', h1, hy, hw⟩ : ∀ i, i < len → _)
    have hmax : len ≤ 9223372036854775807 := by unfold maxLen at hcm; omega
    subst hxl
    refine ⟨xs, ⟨some a, cap, rfl, hlc, rfl, hmax, fun _ => ⟨a, rfl, fun j p hj => ?_⟩⟩, hmax, fun y hy => ?_⟩
    · obtain ⟨c, h1, h2, _⟩ := hxs j p hj
      rw [hc] at h1
      obtain ⟨h3, h4⟩ := cells_get h1
      exact ⟨c, h3, h2, fun i u hu => by rw [← Go.Deep.add_add]; exact h4 i u hu⟩
    · obtain ⟨i, hi⟩ := List.getElem?_of_mem hy
      obtain ⟨_, _, _, h3⟩ := hxs i y hi
      exact h3
/-- Fields one behind the other, from a place on. -/
def OpensF {H : Type} (enc : TypeId × Value → H) (P : Program) (w : World) (base : Nat) (spare : Nat → Bool) (held : Bool) {β : Type} (fs : List Field) (off : Nat) (d : Kd β) (wf : β → Prop) : Prop :=
  ∀ (fuel : Nat) (cs : List Value), cs.length = off + d.sz → (∀ f ∈ fs, ∃ y, DataW.trod enc P w base spare held fuel f.type ((cs.drop f.offset).take (P.cellsOf f.type)) = some y) → ∃ b, d.K w b (cs.drop off) ∧ wf b
theorem opensF_one {α : Type} {d : Kd α} {wf : α → Prop} {f : Field} {off : Nat} (ho : f.offset = off) (hc : P.cellsOf f.type = d.sz) (h : Opens enc P w base spare held f.type d wf) : OpensF enc P w base spare held [f] off d wf := by
  intro fuel cs hl hf
  obtain ⟨y, hy⟩ := hf f (by simp)
  rw [ho, hc, List.take_of_length_le (by simp; omega)] at hy
  exact h fuel _ _ hy
theorem opensF_cons {α β : Type} {d : Kd α} {d2 : Kd β} {wf : α → Prop} {wf2 : β → Prop} {f : Field} {fs : List Field} {off off2 : Nat} (ho : f.offset = off) (hc : P.cellsOf f.type = d.sz) (h2 : off2 = off + d.sz)
    (h : Opens enc P w base spare held f.type d wf) (hr : OpensF enc P w base spare held fs off2 d2 wf2) : OpensF enc P w base spare held (f :: fs) off (Kd.pair d d2) (fun p => wf p.1 ∧ wf2 p.2) := by
  intro fuel cs hl hf
  have hl' : cs.length = off + (d.sz + d2.sz) := hl
  obtain ⟨y, hy⟩ := hf f (by simp)
  rw [ho, hc] at hy
  obtain ⟨a, ha, hwa⟩ := h fuel _ _ hy
  obtain ⟨b, hb, hwb⟩ := hr fuel cs (by omega) (fun g hg => hf g (by simp [hg]))
  refine ⟨(a, b), ⟨_, _, ?_, ha, hb⟩, hwa, hwb⟩
  rw [h2, ← List.drop_drop]
  exact (List.take_append_drop d.sz (cs.drop off)).symm
theorem opens_struct {α β : Type} {d : Kd β} {wf : β → Prop} {t : TypeId} {fs : Array Field} (hu : P.underlying t = some (.struct fs)) (hc : P.cellsOf t = d.sz) (h : OpensF enc P w base spare held fs.toList 0 d wf) (f : α → β) (g : β → α) (hfg : ∀ b, f (g b) = b) :
    Opens enc P w base spare held t (Kd.iso d f) (fun a => wf (f a)) := by
  intro fuel cs x hx
  obtain ⟨xs, n, _, _, hl, hxl, hfs⟩ := DataW.trod_struct hu hx
  obtain ⟨b, hb, hwb⟩ := h n cs (by omega) (fun q hq => by
    obtain ⟨i, hi⟩ := List.getElem?_of_mem hq
    rw [Array.getElem?_toList] at hi
    have hlt : i < xs.length := by rw [hxl]; exact (Array.getElem?_eq_some_iff.1 hi).1
    rw [hfs i q hi, List.getElem?_eq_getElem hlt]
    exact ⟨_, rfl⟩)
  exact ⟨g b, by show d.K w (f (g b)) cs; rw [hfg]; exact hb, by show wf (f (g b)); rw [hfg]; exact hwb⟩
/-- An argument: its value's cells. -/
theorem opens_arg {α : Type} {d : Kd α} {wf : α → Prop} {t : TypeId} {v : Value} {x : DataW H} {ps : List MemPlace} (h : DataW.Trod enc P w base spare held t v x ps) (ho : Opens enc P w base spare held t d wf) : ∃ a, d.K w a v.cells.toList ∧ wf a := by
  obtain ⟨fuel, hf⟩ := h
  exact ho fuel _ _ hf
end
end Go.Proofs.Ytgmjolngnhdafaa.Open

end
section
namespace Go.Proofs.Ytgmjolngnhdafaa.P
open Go.RowKit Go.Proofs.YtgmjolngnhdafaaW.PrintWords Go.Proofs.Ytgmjolngnhdafaa.Open
/-! #### struct type 49 -/
structure S49 where
  f0 : Bool
  f1 : (List Int)
  f2 : (List Int)
def z49 : S49 := ⟨false, ([] : List Int), ([] : List Int)⟩
def k49 : Kd S49 := Kd.iso (Kd.pair Kd.bool (Kd.pair (Kd.slice 3 (Kd.int .i64)) (Kd.slice 3 (Kd.int .i64)))) (fun x : S49 => (x.f0, x.f1, x.f2))
theorem k49_open {w : World} {x : S49} {cs : List Value} (h : k49.K w x cs) : ∃ A1 c1 A2 c2, cs = [.bool x.f0, .slice A1 x.f1.length c1, .slice A2 x.f2.length c2] ∧ x.f1.length ≤ c1 ∧ (Kd.int .i64).C w A1 x.f1.length x.f1 ∧ x.f2.length ≤ c2 ∧ (Kd.int .i64).C w A2 x.f2.length x.f2 := by
  obtain ⟨_, _, rfl, rfl, ⟨_, _, rfl, ⟨A1, c1, rfl, l1, g1⟩, ⟨A2, c2, rfl, l2, g2⟩⟩⟩ := h
  exact ⟨A1, c1, A2, c2, rfl, l1, g1, l2, g2⟩
theorem k49_openM {w : World} {base : Nat} {ok : Nat → Prop} {x : S49} {cs : List Value} (h : k49.M w base ok x cs) : ∃ v1 v2, cs = [.bool x.f0, v1, v2] ∧ (Kd.int .i64).R 3 w base ok v1 x.f1 ∧ (Kd.int .i64).R 3 w base ok v2 x.f2 := by
  obtain ⟨_, _, rfl, rfl, ⟨_, _, rfl, ⟨v1, rfl, g1⟩, ⟨v2, rfl, g2⟩⟩⟩ := h
  exact ⟨v1, v2, rfl, g1, g2⟩
theorem k49_mk (w : World) (x : S49) {A1 : Option Addr} {c1 : Nat} (l1 : x.f1.length ≤ c1) (g1 : (Kd.int .i64).C w A1 x.f1.length x.f1) {A2 : Option Addr} {c2 : Nat} (l2 : x.f2.length ≤ c2) (g2 : (Kd.int .i64).C w A2 x.f2.length x.f2) : k49.K w x [.bool x.f0, .slice A1 x.f1.length c1, .slice A2 x.f2.length c2] := ⟨[.bool x.f0], [.slice A1 x.f1.length c1, .slice A2 x.f2.length c2], rfl, rfl, ⟨[.slice A1 x.f1.length c1], [.slice A2 x.f2.length c2], rfl, ⟨A1, c1, rfl, l1, g1⟩, ⟨A2, c2, rfl, l2, g2⟩⟩⟩
theorem k49_mkM (w : World) (base : Nat) (ok : Nat → Prop) (x : S49) {v1 : Value} (g1 : (Kd.int .i64).R 3 w base ok v1 x.f1) {v2 : Value} (g2 : (Kd.int .i64).R 3 w base ok v2 x.f2) : k49.M w base ok x [.bool x.f0, v1, v2] := ⟨[.bool x.f0], [v1, v2], rfl, rfl, ⟨[v1], [v2], rfl, ⟨v1, rfl, g1⟩, ⟨v2, rfl, g2⟩⟩⟩
theorem k49_openF {W : World} {ok : Nat → Prop} {x : S49} {cs : List Value} (h : Kd.FK k49 W ok x cs) : ∃ A1 c1 A2 c2, cs = [.bool x.f0, .slice A1 x.f1.length c1, .slice A2 x.f2.length c2] ∧ x.f1.length ≤ c1 ∧ Kd.F (Kd.int .i64) W ok A1 x.f1.length x.f1 ∧ x.f2.length ≤ c2 ∧ Kd.F (Kd.int .i64) W ok A2 x.f2.length x.f2 := by
  obtain ⟨A1, c1, A2, c2, rfl, l1, _, l2, _⟩ := k49_open (Kd.FK_now h)
  exact ⟨A1, c1, A2, c2, rfl, l1, (fun W' hW => by obtain ⟨A1_, c1_, A2_, c2_, he, l1_, g1_, l2_, g2_⟩ := k49_open (h W' hW); injection (Option.some.inj (show some (Value.slice A1 x.f1.length c1) = some (Value.slice A1_ x.f1.length c1_) from congrArg (fun l => l[1]?) he)) with ha_ _ _; rw [ha_]; exact g1_), l2, (fun W' hW => by obtain ⟨A1_, c1_, A2_, c2_, he, l1_, g1_, l2_, g2_⟩ := k49_open (h W' hW); injection (Option.some.inj (show some (Value.slice A2 x.f2.length c2) = some (Value.slice A2_ x.f2.length c2_) from congrArg (fun l => l[2]?) he)) with ha_ _ _; rw [ha_]; exact g2_)⟩
theorem k49_mkF (W : World) (ok : Nat → Prop) (x : S49) {A1 : Option Addr} {c1 : Nat} (l1 : x.f1.length ≤ c1) (g1 : Kd.F (Kd.int .i64) W ok A1 x.f1.length x.f1) {A2 : Option Addr} {c2 : Nat} (l2 : x.f2.length ≤ c2) (g2 : Kd.F (Kd.int .i64) W ok A2 x.f2.length x.f2) : Kd.FK k49 W ok x [.bool x.f0, .slice A1 x.f1.length c1, .slice A2 x.f2.length c2] := fun W2 hW => k49_mk W2 x l1 (g1 W2 hW) l2 (g2 W2 hW)
def rd_T49 (xs : List S49) (i : Int) : S49 := xs.getD i.toNat z49
theorem at_T49 {w : World} {A : Option Addr} {n : Nat} {xs : List S49} (h : Kd.C k49 w A n xs) (i : Int) (h0 : 0 ≤ i) (h1 : i < n) : ∃ ad A1 c1 A2 c2, A = some ad ∧ w.cell? (ad.add (i.toNat * 3)) = some (.bool (rd_T49 xs i).f0) ∧ w.cell? ⟨(ad.add (i.toNat * 3)).block, (ad.add (i.toNat * 3)).off + 1, none⟩ = some (.slice A1 (rd_T49 xs i).f1.length c1) ∧ w.cell? ⟨(ad.add (i.toNat * 3)).block, (ad.add (i.toNat * 3)).off + 2, none⟩ = some (.slice A2 (rd_T49 xs i).f2.length c2) ∧ (rd_T49 xs i).f1.length ≤ c1 ∧ (Kd.int .i64).C w A1 (rd_T49 xs i).f1.length (rd_T49 xs i).f1 ∧ (rd_T49 xs i).f2.length ≤ c2 ∧ (Kd.int .i64).C w A2 (rd_T49 xs i).f2.length (rd_T49 xs i).f2 := by
  obtain ⟨ad, c, e, _, hK, hc0⟩ := Kd.C_get h z49 i h0 h1
  have hc : ∀ j u, c[j]? = some u → w.cell? (ad.add (i.toNat * 3 + j)) = some u := hc0
  obtain ⟨A1, c1, A2, c2, rfl, l1, g1, l2, g2⟩ := k49_open hK
  exact ⟨ad, A1, c1, A2, c2, e, hc 0 _ rfl, by rw [← add_field _ _ 1 (by omega)]; exact hc 1 _ rfl, by rw [← add_field _ _ 2 (by omega)]; exact hc 2 _ rfl, l1, g1, l2, g2⟩

def wfS63 (x : S63) : Prop := ((Lit.int .i64 x.f0).wf = true) ∧ ((x.f1.length ≤ 9223372036854775807 ∧ ∀ y ∈ x.f1, (Lit.int .i64 y).wf = true))
theorem opens63 (H : Type) (enc : TypeId × Value → H) (w : World) (base : Nat) (spare : Nat → Bool) (held : Bool) : Opens enc Try.prog w base spare held 63 k63 wfS63 :=
  opens_struct Try.underlying63 (by kernel_rfl) (opensF_cons rfl (by kernel_rfl) rfl (opens_int Try.underlying3) (opensF_one rfl (by kernel_rfl) (opens_slice Try.underlying36 (by kernel_rfl) (opens_int Try.underlying3)))) (fun x : S63 => (x.f0, x.f1)) (fun p => ⟨p.1, p.2⟩) (fun _ => rfl)
def wfS49 (x : S49) : Prop := (True) ∧ ((x.f1.length ≤ 9223372036854775807 ∧ ∀ y ∈ x.f1, (Lit.int .i64 y).wf = true)) ∧ ((x.f2.length ≤ 9223372036854775807 ∧ ∀ y ∈ x.f2, (Lit.int .i64 y).wf = true))
theorem opens49 (H : Type) (enc : TypeId × Value → H) (w : World) (base : Nat) (spare : Nat → Bool) (held : Bool) : Opens enc Try.prog w base spare held 49 k49 wfS49 :=
  opens_struct Try.underlying49 (by kernel_rfl) (opensF_cons rfl (by kernel_rfl) rfl (opens_bool Try.underlying4) (opensF_cons rfl (by kernel_rfl) rfl (opens_slice Try.underlying36 (by kernel_rfl) (opens_int Try.underlying3)) (opensF_one rfl (by kernel_rfl) (opens_slice Try.underlying36 (by kernel_rfl) (opens_int Try.underlying3))))) (fun x : S49 => (x.f0, (x.f1, x.f2))) (fun p => ⟨p.1, p.2.1, p.2.2⟩) (fun _ => rfl)
end Go.Proofs.Ytgmjolngnhdafaa.P

end
section
namespace Go.Proofs.Ytgmjolngnhdafaa.P
open Go.RowKit Go.Proofs.YtgmjolngnhdafaaW.PrintWords
def laws_FnExactClassFields.Pure : Prop := ∀ (l0 : List (S63)) (a1 : Int), ((l0.length ≤ 9223372036854775807 ∧ ∀ y ∈ l0, wfS63 y)) → ((Lit.int .i64 a1).wf = true) → ∃ k, laws_FnExactClassFields.f k l0 a1 = some true
end Go.Proofs.Ytgmjolngnhdafaa.P

end
section
namespace Go.Proofs.Ytgmjolngnhdafaa.Kit
open Go Go.RowKit Go.Proofs.YtgmjolngnhdafaaW.PrintWords
set_option linter.unusedVariables false

/-- From some number of rounds on the answer is one that has P. -/
def Evp {α : Type} (g : Nat → Option α) (P : α → Prop) : Prop := ∃ r, Ev g r ∧ P r
theorem Evp.pure {α : Type} {P : α → Prop} (r : α) (h : P r) : Evp (fun _ => some r) P := ⟨r, Ev.now r, h⟩
theorem Evp.bind {α β : Type} {g : Nat → Option α} {f : Nat → α → Option β} {P : α → Prop} {Q : β → Prop} (h : Evp g P) (k : ∀ a, P a → Evp (fun n => f n a) Q) : Evp (fun n => (g n).bind (f n)) Q := by
  obtain ⟨a, ha, hp⟩ := h
  obtain ⟨r, hr, hq⟩ := k a hp
  exact ⟨r, Ev.bind ha hr, hq⟩
theorem Evp.step {α : Type} {g f : Nat → Option α} {P : α → Prop} (h : ∀ k, g (k + 1) = f k) (k : Evp f P) : Evp g P := by
  obtain ⟨r, hr, hp⟩ := k
  exact ⟨r, Ev.step h hr, hp⟩
theorem Evp.congr {α : Type} {g f : Nat → Option α} {P : α → Prop} (h : ∀ k, g k = f k) (k : Evp f P) : Evp g P := by
  obtain ⟨r, hr, hp⟩ := k
  exact ⟨r, Ev.congr h hr, hp⟩
theorem Evp.mono {α : Type} {g : Nat → Option α} {P Q : α → Prop} (h : Evp g P) (hpq : ∀ r, P r → Q r) : Evp g Q := by
  obtain ⟨r, hr, hp⟩ := h
  exact ⟨r, hr, hpq r hp⟩
theorem Evp.yes {α : Type} {c : Prop} [Decidable c] {f g : Nat → Option α} {P : α → Prop} (hc : c) (h : Evp f P) : Evp (fun n => if c then f n else g n) P := by
  simp only [if_pos hc]; exact h
theorem Evp.no {α : Type} {c : Prop} [Decidable c] {f g : Nat → Option α} {P : α → Prop} (hc : ¬ c) (h : Evp g P) : Evp (fun n => if c then f n else g n) P := by
  simp only [if_neg hc]; exact h
theorem Evp.ite {α : Type} {c : Prop} [Decidable c] {f g : Nat → Option α} {P : α → Prop} (h : c → Evp f P) (k : ¬ c → Evp g P) : Evp (fun n => if c then f n else g n) P := by
  by_cases hc : c
  · exact Evp.yes hc (h hc)
  · exact Evp.no hc (k hc)
theorem Evp.ev {α : Type} {g : Nat → Option α} {r : α} (h : Ev g r) : Evp g (fun x => x = r) := ⟨r, h, rfl⟩
theorem Ev.of_evp {α : Type} {g : Nat → Option α} {r : α} (h : Evp g (fun x => x = r)) : Ev g r := by
  obtain ⟨x, hx, rfl⟩ := h
  exact hx
theorem Evp.const {α : Type} {o : Option α} {r : α} {P : α → Prop} (h : o = some r) (hp : P r) : Evp (fun _ => o) P := ⟨r, ⟨0, fun _ _ => h⟩, hp⟩
theorem Evp.rounds {α : Type} {g : Nat → Option α} {r : α} (h : Evp g (fun x => x = r)) : ∃ k, g k = some r := (Ev.of_evp h).rounds
/-- Two that come to answers. -/
theorem Evp.and {α : Type} {g : Nat → Option α} {P Q : α → Prop} (h : Evp g P) (k : Evp g Q) : Evp g (fun x => P x ∧ Q x) := by
  obtain ⟨r, ⟨K, hr⟩, hp⟩ := h
  obtain ⟨r', ⟨K', hr'⟩, hq⟩ := k
  have e : r = r' := Option.some.inj ((hr (max K K') (by omega)).symm.trans (hr' (max K K') (by omega)))
  subst e
  exact ⟨r, ⟨K, hr⟩, hp, hq⟩

/-- A loop over places, by what is left. -/
theorem Evp.for_ {ρ : Type} {n : Nat} {g : Nat → Nat → Option ρ} {R : Nat → ρ → Prop} (hend : Evp (g n) (R n)) (hstep : ∀ i, i < n → Evp (g (i + 1)) (R (i + 1)) → Evp (g i) (R i)) : ∀ i, i ≤ n → Evp (g i) (R i) := by
  have key : ∀ d i, i + d = n → Evp (g i) (R i) := by
    intro d
    induction d with
    | zero => intro i hi; have : i = n := by omega
              subst this; exact hend
    | succ d ih => intro i hi; exact hstep i (by omega) (ih (i + 1) (by omega))
  intro i hi
  exact key (n - i) i (by omega)
/-- A loop over places with a state. -/
theorem Evp.fors {σ ρ : Type} {n : Nat} {g : Nat → σ → Nat → Option ρ} {I : Nat → σ → Prop} {R : Nat → σ → ρ → Prop} (hend : ∀ s, I n s → Evp (g n s) (R n s))
    (hstep : ∀ i, i < n → (∀ s, I (i + 1) s → Evp (g (i + 1) s) (R (i + 1) s)) → ∀ s, I i s → Evp (g i s) (R i s)) : ∀ i, i ≤ n → ∀ s, I i s → Evp (g i s) (R i s) := by
  have key : ∀ d i, i + d = n → ∀ s, I i s → Evp (g i s) (R i s) := by
    intro d
    induction d with
    | zero => intro i hi; have : i = n := by omega
              subst this; exact hend
    | succ d ih => intro i hi; exact hstep i (by omega) (ih (i + 1) (by omega))
  intro i hi
  exact key (n - i) i (by omega)
theorem drop_at {α : Type} {xs : List α} {i : Nat} (h : i < xs.length) : xs.drop i = xs[i] :: xs.drop (i + 1) := List.drop_eq_getElem_cons h
theorem getD_at {α : Type} {xs : List α} {i : Nat} (h : i < xs.length) (d : α) : xs.getD i d = xs[i] := by
  rw [List.getD_eq_getElem?_getD, List.getElem?_eq_getElem h]; rfl
theorem w64' {i n : Nat} (h : i < n) (hn : n ≤ 9223372036854775807) : wrap64 ((i : Int) + 1) = ((i + 1 : Nat) : Int) := by unfold wrap64; omega
theorem w64 {n : Int} (h0 : -9223372036854775808 ≤ n) (h1 : n ≤ 9223372036854775807) : wrap64 n = n := by unfold wrap64; omega
theorem tmod_pos {a b : Int} (h0 : 0 ≤ a) : Int.tmod a b = a % b := Int.tmod_eq_emod_of_nonneg h0
theorem tdiv_pos {a b : Int} (h0 : 0 ≤ a) : Int.tdiv a b = a / b := Int.tdiv_eq_ediv_of_nonneg h0
theorem tmod_lo {a b : Int} (h0 : 0 ≤ a) (hb : 0 < b) : 0 ≤ Int.tmod a b ∧ Int.tmod a b < b := by
  rw [tmod_pos h0]; exact ⟨Int.emod_nonneg _ (by omega), Int.emod_lt_of_pos _ hb⟩
theorem tmod256 (n : Int) : Int.tmod n 256 = if 0 ≤ n then n % 256 else -((-n) % 256) := by
  split
  · rename_i h; exact Int.tmod_eq_emod_of_nonneg h
  · rename_i h
    have h1 : Int.tmod (-n) 256 = (-n) % 256 := Int.tmod_eq_emod_of_nonneg (by omega)
    rw [Int.neg_tmod] at h1; omega
theorem tmod256' (n : Int) : ∃ m, Int.tmod n 256 = m ∧ (0 ≤ n ∧ m = n % 256 ∨ n < 0 ∧ m = -((-n) % 256)) := by
  refine ⟨_, tmod256 n, ?_⟩
  by_cases h : 0 ≤ n
  · exact .inl ⟨h, if_pos h⟩
  · exact .inr ⟨by omega, if_neg h⟩
theorem i8wrap (n : Int) : IntKind.i8.wrap n = (n + 128) % 256 - 128 := by
  simp [IntKind.wrap, IntKind.bits, IntKind.signed]
  omega
theorem xor_nonneg {a b : Int} (ha : 0 ≤ a) (ha' : a < 4611686018427387904) (hb : 0 ≤ b) (hb' : b < 4611686018427387904) :
    0 ≤ Go.bits .xor .i64 a b ∧ Go.bits .xor .i64 a b < 4611686018427387904 := by
  obtain ⟨x, rfl⟩ := Int.eq_ofNat_of_zero_le ha
  obtain ⟨y, rfl⟩ := Int.eq_ofNat_of_zero_le hb
  have hx : x < 2 ^ 62 := by omega
  have hy : y < 2 ^ 62 := by omega
  have hxy := Nat.xor_lt_two_pow hx hy
  have e : Go.bits .xor .i64 (x : Int) (y : Int) = ((x ^^^ y : Nat) : Int) := by
    show IntKind.i64.wrap (((BitVec.ofInt 64 (x : Int)) ^^^ (BitVec.ofInt 64 (y : Int))).toNat : Int) = _
    rw [BitVec.toNat_xor]
    have e1 : (BitVec.ofInt 64 (x : Int)).toNat = x := by simp; omega
    have e2 : (BitVec.ofInt 64 (y : Int)).toNat = y := by simp; omega
    rw [e1, e2, IntKind.wrap_i64]
    omega
  rw [e]
  omega
end Go.Proofs.Ytgmjolngnhdafaa.Kit

end
section
namespace Go.Proofs.Ytgmjolngnhdafaa.Kit
open Go Go.RowKit Go.Proofs.YtgmjolngnhdafaaW.PrintWords Go.Proofs.Ytgmjolngnhdafaa.P
set_option linter.unusedVariables false
abbrev Cls := S38
def sup (cs : List Cls) (i : Nat) : Int := (cs.getD i z38).f0
def flds (cs : List Cls) (i : Nat) : List Int := (cs.getD i z38).f1
def FieldTy (n : Nat) (t : Int) : Prop := t = 1 ∨ t = 3 ∨ t = 4 ∨ (8 ≤ t ∧ t < 8 + (n : Int))
structure ClsOk (cs : List Cls) : Prop where
  lo : 2 ≤ cs.length
  hi : cs.length ≤ 5
  root : sup cs 0 = -1 ∧ flds cs 0 = []
  fail : sup cs 1 = 0 ∧ flds cs 1 = [1]
  up : ∀ i, 2 ≤ i → i < cs.length → 0 ≤ sup cs i ∧ sup cs i < (i : Int) ∧ (flds cs i).length ≤ 2
  fld : ∀ i, i < cs.length → ∀ t ∈ flds cs i, FieldTy cs.length t
/-- a is b, or below it. -/
inductive Up (cs : List Cls) : Nat → Nat → Prop
  | refl (a : Nat) : Up cs a a
  | step {a b : Nat} (p : Nat) (hp : sup cs a = (p : Int)) (h : Up cs p b) : Up cs a b
theorem ClsOk.sup_pos {cs : List Cls} (h : ClsOk cs) {i : Nat} (h1 : 1 ≤ i) (h2 : i < cs.length) : 0 ≤ sup cs i ∧ sup cs i < (i : Int) := by
  rcases Nat.lt_or_ge i 2 with h3 | h3
  · have : i = 1 := by omega
    subst this
    rw [h.fail.1]
    decide
  · have := h.up i h3 h2
    exact ⟨this.1, this.2.1⟩
theorem ClsOk.sup_nat {cs : List Cls} (h : ClsOk cs) {i : Nat} (h1 : 1 ≤ i) (h2 : i < cs.length) : ∃ p : Nat, sup cs i = (p : Int) ∧ p < i := by
  obtain ⟨h3, h4⟩ := h.sup_pos h1 h2
  exact ⟨(sup cs i).toNat, by omega, by omega⟩
theorem ClsOk.len2 {cs : List Cls} (h : ClsOk cs) {i : Nat} (h2 : i < cs.length) : (flds cs i).length ≤ 2 := by
  rcases Nat.lt_or_ge i 2 with h3 | h3
  · rcases Nat.lt_or_ge i 1 with h4 | h4
    · have : i = 0 := by omega
      subst this
      rw [h.root.2]; decide
    · have : i = 1 := by omega
      subst this
      rw [h.fail.2]; decide
  · exact (h.up i h3 h2).2.2
theorem Up.le {cs : List Cls} (h : ClsOk cs) {a b : Nat} (hu : Up cs a b) (ha : a < cs.length) : b ≤ a := by
  induction hu with
  | refl a => exact Nat.le_refl _
  | @step a b p hp _ ih =>
    rcases Nat.eq_zero_or_pos a with h0 | h0
    · subst h0
      have := h.root.1
      omega
    · have := h.sup_pos h0 ha
      have := ih (by omega)
      omega
theorem Up.inv {cs : List Cls} {a b : Nat} (hu : Up cs a b) : a = b ∨ ∃ p : Nat, sup cs a = (p : Int) ∧ Up cs p b := by
  cases hu with
  | refl => exact .inl rfl
  | step p hp h => exact .inr ⟨p, hp, h⟩
theorem Up.trans {cs : List Cls} {a b c : Nat} (h1 : Up cs a b) (h2 : Up cs b c) : Up cs a c := by
  induction h1 with
  | refl => exact h2
  | step p hp _ ih => exact .step p hp (ih h2)
theorem Up.antisymm {cs : List Cls} (h : ClsOk cs) {a b : Nat} (ha : a < cs.length) (hb : b < cs.length) (h1 : Up cs a b) (h2 : Up cs b a) : a = b := by
  have := h1.le h ha
  have := h2.le h hb
  omega
theorem Up.root {cs : List Cls} (h : ClsOk cs) : ∀ {a : Nat}, a < cs.length → Up cs a 0 := by
  intro a
  induction a using Nat.strongRecOn with
  | _ a ih =>
    intro ha
    rcases Nat.eq_zero_or_pos a with h0 | h0
    · subst h0; exact .refl 0
    · obtain ⟨p, hp, hlt⟩ := h.sup_nat h0 ha
      exact .step p hp (ih p hlt (by omega))
/-- Of two above one, one is below the other. -/
theorem Up.line {cs : List Cls} {a b c : Nat} (h1 : Up cs a b) (h2 : Up cs a c) : Up cs b c ∨ Up cs c b := by
  induction h1 with
  | refl => exact .inl h2
  | step p hp hu ih =>
    rcases h2.inv with rfl | ⟨q, hq, hqc⟩
    · exact .inr (.step p hp hu)
    · have : p = q := by omega
      subst this
      exact ih hqc
/-- All fields of a class. -/
inductive Flds (cs : List Cls) : Nat → List Int → Prop
  | root : Flds cs 0 []
  | step {c : Nat} {l : List Int} (p : Nat) (hc : c ≠ 0) (hp : sup cs c = (p : Int)) (h : Flds cs p l) : Flds cs c (l ++ flds cs c)
theorem Flds.fn {cs : List Cls} {c : Nat} {l l' : List Int} (h : Flds cs c l) (h' : Flds cs c l') : l = l' := by
  induction h generalizing l' with
  | root =>
    cases h' with
    | root => rfl
    | step p hc _ _ => exact absurd rfl hc
  | step p hc hp _ ih =>
    cases h' with
    | root => exact absurd rfl hc
    | step q _ hq hl =>
      have : p = q := by omega
      subst this
      rw [ih hl]
theorem Flds.ex {cs : List Cls} (h : ClsOk cs) : ∀ {c : Nat}, c < cs.length → ∃ l, Flds cs c l ∧ l.length ≤ 2 * c := by
  intro c
  induction c using Nat.strongRecOn with
  | _ c ih =>
    intro hc
    rcases Nat.eq_zero_or_pos c with h0 | h0
    · subst h0; exact ⟨[], .root, by simp⟩
    · obtain ⟨p, hp, hlt⟩ := h.sup_nat h0 hc
      obtain ⟨l, hl, hn⟩ := ih p hlt (by omega)
      exact ⟨_, .step p (by omega) hp hl, by have := h.len2 hc; simp; omega⟩
theorem rdCls {cs : List Cls} (i : Nat) : rd_T38 cs (i : Int) = cs.getD i z38 := rfl
theorem rdSup {cs : List Cls} (i : Nat) : (rd_T38 cs (i : Int)).f0 = sup cs i := rfl
theorem rdFlds {cs : List Cls} (i : Nat) : (rd_T38 cs (i : Int)).f1 = flds cs i := rfl
theorem rdInt {xs : List Int} {i : Nat} (h : i < xs.length) : rd xs (i : Int) = xs[i] := getD_at h _
/-- Classes, each with not too many fields. -/
def SmallC (cs : List Cls) : Prop := cs.length ≤ 1048576 ∧ ∀ i, i < cs.length → (flds cs i).length ≤ 1048576 ∧ (∀ t ∈ flds cs i, -9223372036854775808 ≤ t ∧ t ≤ 9223372036854775807)
/-- Two answers, each told by the same. -/
theorem same_of {p : Prop} {a b : Bool} (ha : a = true ↔ p) (hb : b = true ↔ p) : a = b := by
  rw [Bool.eq_iff_iff, ha, hb]
theorem bne_no {a b : Bool} {p : Prop} (ha : a = true ↔ p) (hb : b = true ↔ p) : ¬ ((b != a) = true) := by
  rw [same_of hb ha]; simp
end Go.Proofs.Ytgmjolngnhdafaa.Kit

end
section
namespace Go.Proofs.Ytgmjolngnhdafaa.P
open Go.RowKit Go.Proofs.YtgmjolngnhdafaaW.PrintWords Go.Proofs.YtgmjolngnhdafaaW.PrintLast Go.Proofs.YtgmjolngnhdafaaW.PrintMore
attribute [local go_sem] max2_int min2_int max_two min_two max_three min_three max_four min_four
set_option linter.unusedVariables false
set_option linter.unusedSimpArgs false

/-! ### impl_classUp: function 67 -/
def impl_classUp.l0 : Nat → List (S38) → Int → Int → Option (Bool)
  | 0, _, _, _ => none
  | k + 1, x0, x2, x7 => if x7 ≥ 0 then (if x7 = x2 then (some true) else (if 0 ≤ x7 then (if x7 < (x0.length : Int) then (impl_classUp.l0 k x0 x2 ((rd_T38 x0 x7).f0)) else (none)) else (none))) else (some false)
def impl_classUp.f (k : Nat) (l0 : List (S38)) (a1 : Int) (a2 : Int) : Option (Bool) := impl_classUp.l0 k l0 a2 a1
theorem impl_classUp.mono_l : ∀ k, (∀ y0 y1 y2, LeO (impl_classUp.l0 k y0 y1 y2) (impl_classUp.l0 (k + 1) y0 y1 y2))
  | 0 => fun _ _ _ r h => by simp [impl_classUp.l0] at h
  | k + 1 => by
    have ih0 := impl_classUp.mono_l k
    · intro y0 y1 y2
      unfold impl_classUp.l0
      repeat' first
      | (with_reducible exact ih0 _ _ _)
      | (with_reducible exact LeO.refl _)
      | (with_reducible exact LeO.none _)
      | (with_reducible refine LeO.ite ?_ ?_)
      | (with_reducible refine LeO.bind ?_ (fun _ => ?_))
      | exact ih0 _ _ _
      | exact LeO.none _
      | refine LeO.ite ?_ ?_
      | refine LeO.bind ?_ (fun _ => ?_)
theorem impl_classUp.mono : ∀ a0 a1 a2 k, LeO (impl_classUp.f k a0 a1 a2) (impl_classUp.f (k + 1) a0 a1 a2) := by
  intro a0 a1 a2 k
  have ih0 := impl_classUp.mono_l k
  unfold impl_classUp.f
  repeat' first
      | (with_reducible exact ih0 _ _ _)
      | (with_reducible exact LeO.refl _)
      | (with_reducible exact LeO.none _)
      | (with_reducible refine LeO.ite ?_ ?_)
      | (with_reducible refine LeO.bind ?_ (fun _ => ?_))
      | exact ih0 _ _ _
      | exact LeO.none _
      | refine LeO.ite ?_ ?_
      | refine LeO.bind ?_ (fun _ => ?_)

end Go.Proofs.Ytgmjolngnhdafaa.P

end
section
namespace Go.Proofs.Ytgmjolngnhdafaa.P
open Go.RowKit Go.Proofs.YtgmjolngnhdafaaW.PrintWords Go.Proofs.YtgmjolngnhdafaaW.PrintLast Go.Proofs.YtgmjolngnhdafaaW.PrintMore
attribute [local go_sem] max2_int min2_int max_two min_two max_three min_three max_four min_four
set_option linter.unusedVariables false
set_option linter.unusedSimpArgs false

/-! ### impl_ClassUp: function 28 -/
def impl_ClassUp.f (k : Nat) (l0 : List (S38)) (a1 : Int) (a2 : Int) : Option (Bool) := (impl_ClassesOk.f k l0).bind fun t228 => (if t228 = true then ((impl_isClass.f l0 a1).bind fun t229 => (if t229 = true then ((impl_isClass.f l0 a2).bind fun t230 => (if t230 = true then ((impl_classUp.f k l0 a1 a2).bind fun t231 => (some t231)) else (some false))) else (some false))) else (some false))
theorem impl_ClassUp.mono : ∀ a0 a1 a2 k, LeO (impl_ClassUp.f k a0 a1 a2) (impl_ClassUp.f (k + 1) a0 a1 a2) := by
  intro a0 a1 a2 k
  unfold impl_ClassUp.f
  repeat' first
      | (with_reducible exact impl_ClassesOk.mono _ _)
      | (with_reducible exact impl_classUp.mono _ _ _ _)
      | (with_reducible exact LeO.refl _)
      | (with_reducible exact LeO.none _)
      | (with_reducible refine LeO.ite ?_ ?_)
      | (with_reducible refine LeO.bind ?_ (fun _ => ?_))
      | exact impl_ClassesOk.mono _ _
      | exact impl_classUp.mono _ _ _ _
      | exact LeO.none _
      | refine LeO.ite ?_ ?_
      | refine LeO.bind ?_ (fun _ => ?_)

end Go.Proofs.Ytgmjolngnhdafaa.P

end
section
namespace Go.Proofs.Ytgmjolngnhdafaa.P
open Go.RowKit Go.Proofs.YtgmjolngnhdafaaW.PrintWords Go.Proofs.YtgmjolngnhdafaaW.PrintLast Go.Proofs.YtgmjolngnhdafaaW.PrintMore
attribute [local go_sem] max2_int min2_int max_two min_two max_three min_three max_four min_four
set_option linter.unusedVariables false
set_option linter.unusedSimpArgs false

/-! ### spec_l2Up: function 69 -/
def spec_l2Up.l0 : Nat → List (S38) → Int → Int → Option (Bool)
  | 0, _, _, _ => none
  | k + 1, x0, x1, x2 => if x1 > x2 then (if 0 ≤ x1 then (if x1 < (x0.length : Int) then (spec_l2Up.l0 k x0 ((rd_T38 x0 x1).f0) x2) else (none)) else (none)) else (some (x1 == x2))
def spec_l2Up.f (k : Nat) (l0 : List (S38)) (a1 : Int) (a2 : Int) : Option (Bool) := spec_l2Up.l0 k l0 a1 a2
theorem spec_l2Up.mono_l : ∀ k, (∀ y0 y1 y2, LeO (spec_l2Up.l0 k y0 y1 y2) (spec_l2Up.l0 (k + 1) y0 y1 y2))
  | 0 => fun _ _ _ r h => by simp [spec_l2Up.l0] at h
  | k + 1 => by
    have ih0 := spec_l2Up.mono_l k
    · intro y0 y1 y2
      unfold spec_l2Up.l0
      repeat' first
      | (with_reducible exact ih0 _ _ _)
      | (with_reducible exact LeO.refl _)
      | (with_reducible exact LeO.none _)
      | (with_reducible refine LeO.ite ?_ ?_)
      | (with_reducible refine LeO.bind ?_ (fun _ => ?_))
      | exact ih0 _ _ _
      | exact LeO.none _
      | refine LeO.ite ?_ ?_
      | refine LeO.bind ?_ (fun _ => ?_)
theorem spec_l2Up.mono : ∀ a0 a1 a2 k, LeO (spec_l2Up.f k a0 a1 a2) (spec_l2Up.f (k + 1) a0 a1 a2) := by
  intro a0 a1 a2 k
  have ih0 := spec_l2Up.mono_l k
  unfold spec_l2Up.f
  repeat' first
      | (with_reducible exact ih0 _ _ _)
      | (with_reducible exact LeO.refl _)
      | (with_reducible exact LeO.none _)
      | (with_reducible refine LeO.ite ?_ ?_)
      | (with_reducible refine LeO.bind ?_ (fun _ => ?_))
      | exact ih0 _ _ _
      | exact LeO.none _
      | refine LeO.ite ?_ ?_
      | refine LeO.bind ?_ (fun _ => ?_)

end Go.Proofs.Ytgmjolngnhdafaa.P

end
section
namespace Go.Proofs.Ytgmjolngnhdafaa.P
open Go.RowKit Go.Proofs.YtgmjolngnhdafaaW.PrintWords Go.Proofs.YtgmjolngnhdafaaW.PrintLast Go.Proofs.YtgmjolngnhdafaaW.PrintMore
attribute [local go_sem] max2_int min2_int max_two min_two max_three min_three max_four min_four
set_option linter.unusedVariables false
set_option linter.unusedSimpArgs false

/-! ### spec_ClassUp: function 29 -/
def spec_ClassUp.f (k : Nat) (l0 : List (S38)) (a1 : Int) (a2 : Int) : Option (Bool) := (spec_l2Is.f k l0 a1).bind fun t235 => (if t235 = true then ((spec_l2Is.f k l0 a2).bind fun t236 => (if t236 = true then ((spec_l2Up.f k l0 a1 a2).bind fun t237 => (some t237)) else (some false))) else (some false))
theorem spec_ClassUp.mono : ∀ a0 a1 a2 k, LeO (spec_ClassUp.f k a0 a1 a2) (spec_ClassUp.f (k + 1) a0 a1 a2) := by
  intro a0 a1 a2 k
  unfold spec_ClassUp.f
  repeat' first
      | (with_reducible exact spec_l2Is.mono _ _ _)
      | (with_reducible exact spec_l2Up.mono _ _ _ _)
      | (with_reducible exact LeO.refl _)
      | (with_reducible exact LeO.none _)
      | (with_reducible refine LeO.ite ?_ ?_)
      | (with_reducible refine LeO.bind ?_ (fun _ => ?_))
      | exact spec_l2Is.mono _ _ _
      | exact spec_l2Up.mono _ _ _ _
      | exact LeO.none _
      | refine LeO.ite ?_ ?_
      | refine LeO.bind ?_ (fun _ => ?_)

end Go.Proofs.Ytgmjolngnhdafaa.P

end
section
namespace Go.Proofs.Ytgmjolngnhdafaa.Kit
open Go Go.RowKit Go.Proofs.YtgmjolngnhdafaaW.PrintWords Go.Proofs.Ytgmjolngnhdafaa.P
set_option linter.unusedVariables false
theorem in_eq (a lo hi : Int) : spec_l6In.f a lo hi = some (decide (lo ≤ a ∧ a ≤ hi)) := by
  unfold spec_l6In.f
  by_cases h : lo ≤ a <;> simp [h]
theorem kindOf_eq {n : Nat} {t : Int} (hn : n ≤ 1000000000) (h0 : -9223372036854775808 ≤ t) (h1 : t ≤ 9223372036854775807) :
    impl_kindOf.f (n : Int) t = some (if (0 ≤ t ∧ t ≤ 4) ∨ (8 ≤ t ∧ t < 8 + (n : Int)) then t else -1) := by
  unfold impl_kindOf.f
  rw [if_pos ⟨by omega, by omega, h0, h1⟩]
  repeat' split
  all_goals first | omega | (congr 1; omega) | rfl
theorem fieldType_eq {n : Nat} {t : Int} (hn : n ≤ 1000000000) (h0 : -9223372036854775808 ≤ t) (h1 : t ≤ 9223372036854775807) :
    ∃ b, impl_fieldType.f (n : Int) t = some b ∧ (b = true ↔ FieldTy n t) := by
  unfold impl_fieldType.f
  rw [kindOf_eq hn h0 h1, Option.bind_some]
  refine ⟨_, rfl, ?_⟩
  rw [decide_eq_true_iff]
  unfold FieldTy
  split <;> omega
theorem field_eq {cs : List Cls} {t : Int} (hn : cs.length ≤ 1000000000) : ∃ b, spec_l2Field.f cs t = some b ∧ (b = true ↔ FieldTy cs.length t) := by
  unfold spec_l2Field.f FieldTy
  rw [in_eq, w64 (n := 8 + (cs.length : Int)) (by omega) (by omega), w64 (by omega) (by omega)]
  by_cases h1 : t = 1
  · exact ⟨true, by rw [if_pos h1], by simp [h1]⟩
  rw [if_neg h1]
  by_cases h2 : t = 3
  · exact ⟨true, by rw [if_pos h2], by simp [h2]⟩
  rw [if_neg h2]
  by_cases h3 : t = 4
  · exact ⟨true, by rw [if_pos h3], by simp [h3]⟩
  rw [if_neg h3]
  refine ⟨_, rfl, ?_⟩
  simp only [h1, h2, h3, false_or, decide_eq_true_iff]
  omega
theorem impl_isClass_eq (cs : List Cls) (a : Int) : ∃ b, impl_isClass.f cs a = some b ∧ (b = true ↔ 0 ≤ a ∧ a < (cs.length : Int)) := by
  unfold impl_isClass.f
  by_cases h : a ≥ 0
  · rw [if_pos h]; exact ⟨_, rfl, by rw [decide_eq_true_iff]; omega⟩
  · rw [if_neg h]; exact ⟨_, rfl, by simp; omega⟩
/-- What the reference asks of one class. -/
def Shp (cs : List Cls) (c : Nat) : Prop := (if c = 0 then sup cs 0 = -1 ∧ (flds cs 0).length = 0 else if c = 1 then sup cs 1 = 0 ∧ flds cs 1 = [1] else 0 ≤ sup cs c ∧ sup cs c < (c : Int) ∧ (flds cs c).length ≤ 2)
theorem shp0 {cs : List Cls} : Shp cs 0 ↔ sup cs 0 = -1 ∧ (flds cs 0).length = 0 := by unfold Shp; rw [if_pos rfl]
theorem shp1 {cs : List Cls} : Shp cs 1 ↔ sup cs 1 = 0 ∧ flds cs 1 = [1] := by unfold Shp; rw [if_neg (by decide), if_pos rfl]
theorem shp2 {cs : List Cls} {c : Nat} (h : 2 ≤ c) : Shp cs c ↔ 0 ≤ sup cs c ∧ sup cs c < (c : Int) ∧ (flds cs c).length ≤ 2 := by unfold Shp; rw [if_neg (by omega), if_neg (by omega)]
def At (cs : List Cls) (c : Nat) : Prop := (∀ t ∈ flds cs c, FieldTy cs.length t) ∧ Shp cs c
theorem clsOk_iff {cs : List Cls} : ClsOk cs ↔ 2 ≤ cs.length ∧ cs.length ≤ 5 ∧ ∀ c, c < cs.length → At cs c := by
  constructor
  · intro h
    refine ⟨h.lo, h.hi, fun c hc => ⟨h.fld c hc, ?_⟩⟩
    rcases Nat.lt_or_ge c 2 with h2 | h2
    · rcases Nat.lt_or_ge c 1 with h1 | h1
      · have : c = 0 := by omega
        subst this
        exact shp0.2 ⟨h.root.1, by rw [h.root.2]; rfl⟩
      · have : c = 1 := by omega
        subst this
        exact shp1.2 h.fail
    · exact (shp2 h2).2 (h.up c h2 hc)
  · intro ⟨h1, h2, h3⟩
    have a0 := shp0.1 (h3 0 (by omega)).2
    have a1 := shp1.1 (h3 1 (by omega)).2
    exact ⟨h1, h2, ⟨a0.1, List.eq_nil_of_length_eq_zero a0.2⟩, a1, fun i hi hl => (shp2 hi).1 (h3 i hl).2, fun i hi => (h3 i hi).1⟩
theorem spec_class {cs : List Cls} (hs : SmallC cs) {c : Nat} (hc : c < cs.length) : Evp (fun k => spec_l2Class.f k cs (c : Int)) (fun r => r = true ↔ At cs c) := by
  unfold spec_l2Class.f
  refine Evp.yes (by omega) (Evp.yes (by omega) ?_)
  rw [rdSup, rdFlds]
  have hl := (hs.2 c hc).1
  have hl0 := hs.1
  have key : ∀ i, i ≤ (flds cs c).length → Evp (fun k => spec_l2Class.l0 k cs (c : Int) (i : Int) (sup cs c) (flds cs c)) (fun r => r = true ↔ (∀ t ∈ (flds cs c).drop i, FieldTy cs.length t) ∧ Shp cs c) := by
    refine Evp.for_ ?_ (fun i hi ih => ?_)
    · refine Evp.step (f := fun k => _) (fun k => by rw [spec_l2Class.l0, in_eq]) (Evp.no (by omega) ?_)
      rw [List.drop_length]
      simp only [List.not_mem_nil, false_implies, implies_true, true_and]
      refine Evp.ite (fun h0 => ?_) (fun h0 => ?_)
      · have : c = 0 := by omega
        subst this
        rw [shp0]
        refine Evp.ite (fun h => Evp.pure _ ?_) (fun h => Evp.pure _ (by simp [h]))
        rw [beq_iff_eq]
        constructor
        · intro h2; exact ⟨h, by omega⟩
        · intro h2; omega
      · refine Evp.ite (fun h1 => ?_) (fun h1 => ?_)
        · have : c = 1 := by omega
          subst this
          rw [shp1]
          refine Evp.ite (fun h => ?_) (fun h => Evp.pure _ (by simp [h]))
          refine Evp.ite (fun h2 => ?_) (fun h2 => Evp.pure _ ?_)
          · refine Evp.yes (by omega) (Evp.pure _ ?_)
            obtain ⟨x, hx⟩ := List.length_eq_one_iff.1 (by omega : (flds cs 1).length = 1)
            rw [hx, show rd [x] 0 = x from rfl, beq_iff_eq]
            simp [h]
          · constructor
            · intro h3; cases h3
            · intro h3; rw [h3.2] at h2; exact absurd rfl h2
        · rw [shp2 (by omega)]
          refine Evp.congr (f := fun k => if 0 ≤ sup cs c ∧ sup cs c ≤ (c : Int) - 1 then some (decide (((flds cs c).length : Int) ≤ 2)) else some false) (fun k => by rw [w64 (n := (c : Int) - 1) (by omega) (by omega), Option.bind_some]; simp only [decide_eq_true_iff]) ?_
          refine Evp.ite (fun h => Evp.pure _ ?_) (fun h => Evp.pure _ ?_)
          · simp only [decide_eq_true_iff]
            omega
          · constructor
            · intro h3; cases h3
            · intro h3; omega
    · obtain ⟨b, hb, hb2⟩ := field_eq (cs := cs) (t := (flds cs c)[i]) (by omega)
      refine Evp.step (f := fun k => _) (fun k => by rw [spec_l2Class.l0, rdInt hi, hb, Option.bind_some]) (Evp.yes (by omega) (Evp.yes (by omega) ?_))
      rw [w64' hi (by omega), drop_at hi]
      refine Evp.ite (fun h => ih.mono fun r hr => ?_) (fun h => Evp.pure _ ?_)
      · rw [hr, List.forall_mem_cons]
        exact ⟨fun h2 => ⟨⟨hb2.1 h, h2.1⟩, h2.2⟩, fun h2 => ⟨h2.1.2, h2.2⟩⟩
      · rw [List.forall_mem_cons]
        exact ⟨fun h2 => (by cases h2), fun h2 => absurd (hb2.2 h2.1.1) h⟩
  exact key 0 (Nat.zero_le _)
theorem spec_classesOk {cs : List Cls} (hs : SmallC cs) : Evp (fun k => spec_ClassesOk.f k cs) (fun r => r = true ↔ ClsOk cs) := by
  have hl0 := hs.1
  unfold spec_ClassesOk.f
  rw [in_eq]
  simp only [Option.bind_some]
  refine Evp.ite (fun h => ?_) (fun h => Evp.pure _ ?_)
  · simp only [decide_eq_true_iff] at h
    have key : ∀ i, i ≤ cs.length → Evp (fun k => spec_ClassesOk.l0 k cs (i : Int)) (fun r => r = true ↔ ∀ c, i ≤ c → c < cs.length → At cs c) := by
      refine Evp.for_ ?_ (fun i hi ih => ?_)
      · refine Evp.step (f := fun k => _) (fun k => by rw [spec_ClassesOk.l0]) (Evp.no (by omega) (Evp.pure _ ?_))
        simp only [true_iff]
        intro c h1 h2; omega
      · refine Evp.step (f := fun k => _) (fun k => by rw [spec_ClassesOk.l0]) (Evp.yes (by omega) ?_)
        refine Evp.bind (spec_class hs hi) fun b hb => ?_
        rw [w64' hi (by omega)]
        refine Evp.ite (fun h1 => ih.mono fun r hr => ?_) (fun h1 => Evp.pure _ ?_)
        · rw [hr]
          constructor
          · intro h2 c h3 h4
            rcases Nat.lt_or_ge i c with h5 | h5
            · exact h2 c h5 h4
            · have : c = i := by omega
              subst this
              exact hb.1 h1
          · intro h2 c h3 h4; exact h2 c (by omega) h4
        · constructor
          · intro h2; cases h2
          · intro h2; exact absurd (hb.2 (h2 i (Nat.le_refl _) hi)) h1
    refine (key 0 (Nat.zero_le _)).mono fun r hr => ?_
    rw [hr, clsOk_iff]
    constructor
    · intro h2; exact ⟨by omega, by omega, fun c hc => h2 c (Nat.zero_le _) hc⟩
    · intro h2 c _ hc; exact h2.2.2 c hc
  · simp only [decide_eq_true_iff] at h
    constructor
    · intro h2; cases h2
    · intro h2; have := h2.lo; have := h2.hi; omega
theorem impl_classesOk {cs : List Cls} (hs : SmallC cs) : Evp (fun k => impl_ClassesOk.f k cs) (fun r => r = true ↔ ClsOk cs) := by
  have hl0 := hs.1
  have no : ∀ {p : Prop}, ¬ p → ((false = true) ↔ p) := fun h => ⟨fun h2 => (by cases h2), fun h2 => absurd h2 h⟩
  have jno : ¬ (2 ≤ cs.length ∧ cs.length ≤ 5) → Evp (fun k => impl_ClassesOk.j0 k cs true) (fun r => r = true ↔ ClsOk cs) := fun h =>
    Evp.step (f := fun k => _) (fun k => by rw [impl_ClassesOk.j0]) (Evp.yes rfl (Evp.pure _ (no fun h2 => h ⟨h2.lo, h2.hi⟩)))
  unfold impl_ClassesOk.f
  refine Evp.ite (fun h => jno (by omega)) (fun h => ?_)
  by_cases h5 : ¬ cs.length ≤ 5
  · rw [decide_eq_true (by omega)]; exact jno (by omega)
  rw [decide_eq_false (by omega)]
  have h2 : 2 ≤ cs.length := by omega
  -- the loop over all classes
  have loop : (sup cs 0 = -1 ∧ flds cs 0 = []) → (sup cs 1 = 0 ∧ flds cs 1 = [1]) → ∀ i, i ≤ cs.length → Evp (fun k => impl_ClassesOk.l0 k cs cs (cs.length : Int) (i : Int)) (fun r => r = true ↔ ∀ c, i ≤ c → c < cs.length → At cs c) := by
    intro hr hf
    refine Evp.for_ ?_ (fun i hi ih => ?_)
    · refine Evp.step (f := fun k => _) (fun k => by rw [impl_ClassesOk.l0]) (Evp.no (by omega) (Evp.pure _ ?_))
      simp only [true_iff]
      intro c h1 h2; omega
    · have ih2 : At cs i → ∀ r : Bool, (r = true ↔ ∀ c, i + 1 ≤ c → c < cs.length → At cs c) → (r = true ↔ ∀ c, i ≤ c → c < cs.length → At cs c) := by
        intro ha r hr
        rw [hr]
        constructor
        · intro h2 c h3 h4
          rcases Nat.lt_or_ge i c with h5 | h5
          · exact h2 c h5 h4
          · have : c = i := by omega
            subst this
            exact ha
        · intro h2 c h3 h4; exact h2 c (by omega) h4
      have hno : ¬ At cs i → ((false = true) ↔ ∀ c, i ≤ c → c < cs.length → At cs c) := fun h => no fun h2 => h (h2 i (Nat.le_refl _) hi)
      have hl := (hs.2 i hi).1
      have hb := (hs.2 i hi).2
      -- the loop over a class's fields
      have fl : Shp cs i →
          ∀ j, j ≤ (flds cs i).length → (∀ t ∈ (flds cs i).take j, FieldTy cs.length t) → Evp (fun k => impl_ClassesOk.l1 k cs cs (cs.length : Int) (i : Int) (flds cs i) ((flds cs i).length : Int) (j : Int)) (fun r => r = true ↔ ∀ c, i ≤ c → c < cs.length → At cs c) := by
        intro hc
        have key : ∀ j, j ≤ (flds cs i).length → ∀ _ : Unit, (∀ t ∈ (flds cs i).take j, FieldTy cs.length t) → Evp (fun k => impl_ClassesOk.l1 k cs cs (cs.length : Int) (i : Int) (flds cs i) ((flds cs i).length : Int) (j : Int)) (fun r => r = true ↔ ∀ c, i ≤ c → c < cs.length → At cs c) := by
          refine Evp.fors (g := fun j (_ : Unit) k => impl_ClassesOk.l1 k cs cs (cs.length : Int) (i : Int) (flds cs i) ((flds cs i).length : Int) (j : Int)) (I := fun j _ => ∀ t ∈ (flds cs i).take j, FieldTy cs.length t) (R := fun _ _ r => r = true ↔ ∀ c, i ≤ c → c < cs.length → At cs c) (fun _ hI => ?_) (fun j hj ihj _ hI => ?_)
          · refine Evp.step (f := fun k => _) (fun k => by rw [impl_ClassesOk.l1]) (Evp.no (by omega) ?_)
            rw [w64' hi (by omega)]
            refine ih.mono (ih2 ⟨?_, hc⟩)
            simpa using hI
          · obtain ⟨b, hb1, hb2⟩ := fieldType_eq (n := cs.length) (t := (flds cs i)[j]) (by omega) (hb _ (List.getElem_mem hj)).1 (hb _ (List.getElem_mem hj)).2
            refine Evp.step (f := fun k => _) (fun k => by rw [impl_ClassesOk.l1, rdInt hj, hb1, Option.bind_some]) (Evp.yes (by omega) (Evp.yes (by omega) (Evp.yes (by omega) ?_)))
            rw [w64' hj (by omega)]
            refine Evp.ite (fun h => ihj () ?_) (fun h => Evp.pure _ (hno ?_))
            · rw [List.take_succ_eq_append_getElem hj]
              intro t ht
              rcases List.mem_append.1 ht with ht | ht
              · exact hI t ht
              · rw [List.mem_singleton.1 ht]; exact hb2.1 h
            · intro ha; exact h (hb2.2 (ha.1 _ (List.getElem_mem hj)))
        exact fun j hj => key j hj ()
      have j4 : ∀ b : Bool, (b = true ↔ 2 ≤ i ∧ ¬ (0 ≤ sup cs i ∧ sup cs i < (i : Int))) → Evp (fun k => impl_ClassesOk.j4 k cs cs (cs.length : Int) (i : Int) b (sup cs i) (flds cs i)) (fun r => r = true ↔ ∀ c, i ≤ c → c < cs.length → At cs c) := by
        intro b hb4
        refine Evp.step (f := fun k => _) (fun k => by rw [impl_ClassesOk.j4]) ?_
        refine Evp.ite (fun h => Evp.pure _ (hno ?_)) (fun h => ?_)
        · intro ha
          have h6 := hb4.1 h
          have := (shp2 h6.1).1 ha.2
          omega
        · have h6 : ¬ (2 ≤ i ∧ ¬ (0 ≤ sup cs i ∧ sup cs i < (i : Int))) := fun h7 => h (hb4.2 h7)
          refine Evp.ite (fun h7 => Evp.pure _ (hno ?_)) (fun h7 => fl ?_ 0 (Nat.zero_le _) (by simp))
          · intro ha
            rcases Nat.lt_or_ge i 2 with h8 | h8
            · rcases Nat.lt_or_ge i 1 with h9 | h9
              · have : i = 0 := by omega
                subst this
                have := (shp0.1 ha.2).2
                omega
              · have : i = 1 := by omega
                subst this
                rw [hf.2] at h7; exact absurd h7 (by decide)
            · have := (shp2 h8).1 ha.2
              omega
          · rcases Nat.lt_or_ge i 2 with h8 | h8
            · rcases Nat.lt_or_ge i 1 with h9 | h9
              · have : i = 0 := by omega
                subst this
                exact shp0.2 ⟨hr.1, by rw [hr.2]; rfl⟩
              · have : i = 1 := by omega
                subst this
                exact shp1.2 hf
            · exact (shp2 h8).2 (by omega)
      refine Evp.step (f := fun k => _) (fun k => by rw [impl_ClassesOk.l0, rdSup, rdFlds]) (Evp.yes (by omega) (Evp.yes (by omega) (Evp.yes (by omega) ?_)))
      refine Evp.ite (fun h => Evp.ite (fun h8 => j4 _ ?_) (fun h8 => j4 _ ?_)) (fun h => j4 _ ?_)
      · simp; omega
      · rw [decide_eq_true_iff]; omega
      · simp; omega
  have done : (sup cs 0 = -1 ∧ flds cs 0 = []) → (sup cs 1 = 0 ∧ flds cs 1 = [1]) → Evp (fun k => impl_ClassesOk.l0 k cs cs (cs.length : Int) 0) (fun r => r = true ↔ ClsOk cs) := by
    intro hr hf
    refine (loop hr hf 0 (Nat.zero_le _)).mono fun r hr2 => ?_
    rw [hr2, clsOk_iff]
    constructor
    · intro h3; exact ⟨by omega, by omega, fun c hc => h3 c (Nat.zero_le _) hc⟩
    · intro h3 c _ hc; exact h3.2.2 c hc
  have j2 : (sup cs 0 = -1 ∧ flds cs 0 = []) → ∀ b : Bool, (b = false ↔ (sup cs 1 = 0 ∧ flds cs 1 = [1])) → Evp (fun k => impl_ClassesOk.j2 k cs b) (fun r => r = true ↔ ClsOk cs) := by
    intro hr b hb
    refine Evp.step (f := fun k => _) (fun k => by rw [impl_ClassesOk.j2]) ?_
    refine Evp.ite (fun h => Evp.pure _ (no fun h3 => ?_)) (fun h => done hr (hb.1 (by simpa using h)))
    have := hb.2 h3.fail
    rw [h] at this; cases this
  have j1 : ∀ b : Bool, (b = false ↔ (sup cs 0 = -1 ∧ flds cs 0 = [])) → Evp (fun k => impl_ClassesOk.j1 k cs b) (fun r => r = true ↔ ClsOk cs) := by
    intro b hb
    refine Evp.step (f := fun k => _) (fun k => by rw [impl_ClassesOk.j1, show (1 : Int) = ((1 : Nat) : Int) from rfl, rdSup, rdFlds]) ?_
    refine Evp.ite (fun h => Evp.pure _ (no fun h3 => ?_)) (fun h => ?_)
    · have := hb.2 h3.root
      rw [h] at this; cases this
    · have hr := hb.1 (by simpa using h)
      refine Evp.yes (by omega) (Evp.ite (fun h1 => Evp.ite (fun h3 => Evp.yes (by omega) (j2 hr _ ?_)) (fun h3 => j2 hr _ ?_)) (fun h1 => j2 hr _ ?_))
      · obtain ⟨x, hx⟩ := List.length_eq_one_iff.1 (by omega : (flds cs 1).length = 1)
        rw [hx, show rd [x] 0 = x from rfl]
        simp [h1]
      · constructor
        · intro h4; cases h4
        · intro h4; rw [h4.2] at h3; exact absurd rfl h3
      · constructor
        · intro h4; cases h4
        · intro h4; exact absurd h4.1 h1
  refine Evp.step (f := fun k => _) (fun k => by rw [impl_ClassesOk.j0, show (0 : Int) = ((0 : Nat) : Int) from rfl, rdSup, rdFlds]) (Evp.no (by decide) (Evp.yes (by omega) ?_))
  refine Evp.ite (fun h1 => j1 _ ?_) (fun h1 => j1 _ ?_)
  · constructor
    · intro h3
      have : (flds cs 0).length = 0 := by simpa using h3
      exact ⟨h1, List.eq_nil_of_length_eq_zero this⟩
    · intro h3; rw [h3.2]; rfl
  · constructor
    · intro h3; cases h3
    · intro h3; exact absurd h3.1 h1
end Go.Proofs.Ytgmjolngnhdafaa.Kit

end
section
namespace Go.Proofs.Ytgmjolngnhdafaa.P
open Go Go.RowKit Go.Proofs.YtgmjolngnhdafaaW.PrintWords
/-- The number of a kind that is one. -/
def KindOk (r : Int) : Prop := (0 ≤ r ∧ r ≤ 4) ∨ (8 ≤ r ∧ r ≤ 2000000000)
instance (r : Int) : Decidable (KindOk r) := by unfold KindOk; infer_instance
def impl_kindIn.f (k : Nat) (l0 : List S38) (a b : Int) : Option Bool :=
  if KindOk a ∧ KindOk b then
    (if a = b then some true else if b = 0 then some true else if a = 2 then some (b != 1) else if a = 3 ∨ a = 4 then some (b == 8) else if 8 ≤ a then (if 8 ≤ b then impl_classUp.f k l0 (a - 8) (b - 8) else some false) else some false)
  else none
theorem impl_kindIn.mono : ∀ a0 a1 a2 k, LeO (impl_kindIn.f k a0 a1 a2) (impl_kindIn.f (k + 1) a0 a1 a2) := by
  intro a0 a1 a2 k
  unfold impl_kindIn.f
  repeat' first
      | (with_reducible exact impl_classUp.mono _ _ _ _)
      | (with_reducible exact LeO.refl _)
      | (with_reducible exact LeO.none _)
      | (with_reducible refine LeO.ite ?_ ?_)
end Go.Proofs.Ytgmjolngnhdafaa.P

end
section
namespace Go.Proofs.Ytgmjolngnhdafaa.P
open Go.RowKit Go.Proofs.YtgmjolngnhdafaaW.PrintWords Go.Proofs.YtgmjolngnhdafaaW.PrintLast Go.Proofs.YtgmjolngnhdafaaW.PrintMore
attribute [local go_sem] max2_int min2_int max_two min_two max_three min_three max_four min_four
set_option linter.unusedVariables false
set_option linter.unusedSimpArgs false

/-! ### impl_typeIn: function 72 -/
def impl_typeIn.f (k : Nat) (l0 : List (S38)) (a1 : Int) (a2 : Int) : Option (Bool) := (impl_kindOf.f (l0.length : Int) a1).bind fun t354 => ((impl_kindOf.f (l0.length : Int) a2).bind fun t355 => (if t354 = (-1) then (some false) else (if t355 = (-1) then (some false) else ((impl_kindIn.f k l0 t354 t355).bind fun t356 => (some t356)))))
theorem impl_typeIn.mono : ∀ a0 a1 a2 k, LeO (impl_typeIn.f k a0 a1 a2) (impl_typeIn.f (k + 1) a0 a1 a2) := by
  intro a0 a1 a2 k
  unfold impl_typeIn.f
  repeat' first
      | (with_reducible exact impl_kindIn.mono _ _ _ _)
      | (with_reducible exact LeO.refl _)
      | (with_reducible exact LeO.none _)
      | (with_reducible refine LeO.ite ?_ ?_)
      | (with_reducible refine LeO.bind ?_ (fun _ => ?_))
      | exact impl_kindIn.mono _ _ _ _
      | exact LeO.none _
      | refine LeO.ite ?_ ?_
      | refine LeO.bind ?_ (fun _ => ?_)

end Go.Proofs.Ytgmjolngnhdafaa.P

end
section
namespace Go.Proofs.Ytgmjolngnhdafaa.P
open Go.RowKit Go.Proofs.YtgmjolngnhdafaaW.PrintWords Go.Proofs.YtgmjolngnhdafaaW.PrintLast Go.Proofs.YtgmjolngnhdafaaW.PrintMore
attribute [local go_sem] max2_int min2_int max_two min_two max_three min_three max_four min_four
set_option linter.unusedVariables false
set_option linter.unusedSimpArgs false

/-! ### impl_TypeIn: function 35 -/
def impl_TypeIn.f (k : Nat) (l0 : List (S38)) (a1 : Int) (a2 : Int) : Option (Bool) := (impl_ClassesOk.f k l0).bind fun t357 => (if t357 = true then ((impl_typeIn.f k l0 a1 a2).bind fun t358 => (some t358)) else (some false))
theorem impl_TypeIn.mono : ∀ a0 a1 a2 k, LeO (impl_TypeIn.f k a0 a1 a2) (impl_TypeIn.f (k + 1) a0 a1 a2) := by
  intro a0 a1 a2 k
  unfold impl_TypeIn.f
  repeat' first
      | (with_reducible exact impl_ClassesOk.mono _ _)
      | (with_reducible exact impl_typeIn.mono _ _ _ _)
      | (with_reducible exact LeO.refl _)
      | (with_reducible exact LeO.none _)
      | (with_reducible refine LeO.ite ?_ ?_)
      | (with_reducible refine LeO.bind ?_ (fun _ => ?_))
      | exact impl_ClassesOk.mono _ _
      | exact impl_typeIn.mono _ _ _ _
      | exact LeO.none _
      | refine LeO.ite ?_ ?_
      | refine LeO.bind ?_ (fun _ => ?_)

end Go.Proofs.Ytgmjolngnhdafaa.P

end
section
namespace Go.Proofs.Ytgmjolngnhdafaa.P
open Go.RowKit Go.Proofs.YtgmjolngnhdafaaW.PrintWords Go.Proofs.YtgmjolngnhdafaaW.PrintLast Go.Proofs.YtgmjolngnhdafaaW.PrintMore
attribute [local go_sem] max2_int min2_int max_two min_two max_three min_three max_four min_four
set_option linter.unusedVariables false
set_option linter.unusedSimpArgs false

/-! ### spec_TypeOk: function 25 -/
def spec_TypeOk.f (k : Nat) (l0 : List (S38)) (a1 : Int) : Option (Bool) := (spec_ClassesOk.f k l0).bind fun t164 => (if t164 = true then (if a1 = 0 then (some true) else (if a1 = 2 then (some true) else ((spec_l2Field.f l0 a1).bind fun t165 => (some t165)))) else (some false))
theorem spec_TypeOk.mono : ∀ a0 a1 k, LeO (spec_TypeOk.f k a0 a1) (spec_TypeOk.f (k + 1) a0 a1) := by
  intro a0 a1 k
  unfold spec_TypeOk.f
  repeat' first
      | (with_reducible exact spec_ClassesOk.mono _ _)
      | (with_reducible exact LeO.refl _)
      | (with_reducible exact LeO.none _)
      | (with_reducible refine LeO.ite ?_ ?_)
      | (with_reducible refine LeO.bind ?_ (fun _ => ?_))
      | exact spec_ClassesOk.mono _ _
      | exact LeO.none _
      | refine LeO.ite ?_ ?_
      | refine LeO.bind ?_ (fun _ => ?_)

end Go.Proofs.Ytgmjolngnhdafaa.P

end
section
namespace Go.Proofs.Ytgmjolngnhdafaa.P
open Go.RowKit Go.Proofs.YtgmjolngnhdafaaW.PrintWords Go.Proofs.YtgmjolngnhdafaaW.PrintLast Go.Proofs.YtgmjolngnhdafaaW.PrintMore
attribute [local go_sem] max2_int min2_int max_two min_two max_three min_three max_four min_four
set_option linter.unusedVariables false
set_option linter.unusedSimpArgs false

/-! ### spec_l2Ref: function 90 -/
def spec_l2Ref.f (a0 : Int) : Option (Bool) := some (decide (a0 ≥ 2))

end Go.Proofs.Ytgmjolngnhdafaa.P

end
section
namespace Go.Proofs.Ytgmjolngnhdafaa.P
open Go.RowKit Go.Proofs.YtgmjolngnhdafaaW.PrintWords Go.Proofs.YtgmjolngnhdafaaW.PrintLast Go.Proofs.YtgmjolngnhdafaaW.PrintMore
attribute [local go_sem] max2_int min2_int max_two min_two max_three min_three max_four min_four
set_option linter.unusedVariables false
set_option linter.unusedSimpArgs false

/-! ### spec_l2In: function 73 -/
mutual
def spec_l2In.j0 : Nat → List (S38) → Int → Int → Bool → Option (Bool)
  | 0, _, _, _, _ => none
  | k + 1, x0, x1, x2, x13 => if x13 = true then (some true) else (if x1 = 2 then ((spec_l2Ref.f x2).bind fun t410 => (some t410)) else ((spec_l2Ref.f x1).bind fun t411 => (if t411 = true then (spec_l2In.j1 k x0 x1 x2 (decide (x2 < 8))) else (spec_l2In.j1 k x0 x1 x2 true))))
def spec_l2In.j1 : Nat → List (S38) → Int → Int → Bool → Option (Bool)
  | 0, _, _, _, _ => none
  | k + 1, x0, x1, x2, x24 => if x24 = true then (some false) else (if x1 < 8 then (some (x2 == 8)) else ((spec_l2Up.f k x0 (wrap64 (x1 - 8)) (wrap64 (x2 - 8))).bind fun t412 => (some t412)))
end
def spec_l2In.f (k : Nat) (l0 : List (S38)) (a1 : Int) (a2 : Int) : Option (Bool) := if a1 = a2 then (spec_l2In.j0 k l0 a1 a2 true) else (spec_l2In.j0 k l0 a1 a2 (a2 == 0))
theorem spec_l2In.mono_l : ∀ k, (∀ y0 y1 y2 y3, LeO (spec_l2In.j0 k y0 y1 y2 y3) (spec_l2In.j0 (k + 1) y0 y1 y2 y3)) ∧ (∀ y0 y1 y2 y3, LeO (spec_l2In.j1 k y0 y1 y2 y3) (spec_l2In.j1 (k + 1) y0 y1 y2 y3))
  | 0 => ⟨fun _ _ _ _ r h => by simp [spec_l2In.j0] at h, fun _ _ _ _ r h => by simp [spec_l2In.j1] at h⟩
  | k + 1 => by
    obtain ⟨ih0, ih1⟩ := spec_l2In.mono_l k
    refine ⟨?_, ?_⟩
    · intro y0 y1 y2 y3
      unfold spec_l2In.j0
      repeat' first
      | (with_reducible exact ih0 _ _ _ _)
      | (with_reducible exact ih1 _ _ _ _)
      | (with_reducible exact spec_l2Up.mono _ _ _ _)
      | (with_reducible exact LeO.refl _)
      | (with_reducible exact LeO.none _)
      | (with_reducible refine LeO.ite ?_ ?_)
      | (with_reducible refine LeO.bind ?_ (fun _ => ?_))
      | exact ih0 _ _ _ _
      | exact ih1 _ _ _ _
      | exact spec_l2Up.mono _ _ _ _
      | exact LeO.none _
      | refine LeO.ite ?_ ?_
      | refine LeO.bind ?_ (fun _ => ?_)
    · intro y0 y1 y2 y3
      unfold spec_l2In.j1
      repeat' first
      | (with_reducible exact ih0 _ _ _ _)
      | (with_reducible exact ih1 _ _ _ _)
      | (with_reducible exact spec_l2Up.mono _ _ _ _)
      | (with_reducible exact LeO.refl _)
      | (with_reducible exact LeO.none _)
      | (with_reducible refine LeO.ite ?_ ?_)
      | (with_reducible refine LeO.bind ?_ (fun _ => ?_))
      | exact ih0 _ _ _ _
      | exact ih1 _ _ _ _
      | exact spec_l2Up.mono _ _ _ _
      | exact LeO.none _
      | refine LeO.ite ?_ ?_
      | refine LeO.bind ?_ (fun _ => ?_)
theorem spec_l2In.mono : ∀ a0 a1 a2 k, LeO (spec_l2In.f k a0 a1 a2) (spec_l2In.f (k + 1) a0 a1 a2) := by
  intro a0 a1 a2 k
  obtain ⟨ih0, ih1⟩ := spec_l2In.mono_l k
  unfold spec_l2In.f
  repeat' first
      | (with_reducible exact ih0 _ _ _ _)
      | (with_reducible exact ih1 _ _ _ _)
      | (with_reducible exact spec_l2Up.mono _ _ _ _)
      | (with_reducible exact LeO.refl _)
      | (with_reducible exact LeO.none _)
      | (with_reducible refine LeO.ite ?_ ?_)
      | (with_reducible refine LeO.bind ?_ (fun _ => ?_))
      | exact ih0 _ _ _ _
      | exact ih1 _ _ _ _
      | exact spec_l2Up.mono _ _ _ _
      | exact LeO.none _
      | refine LeO.ite ?_ ?_
      | refine LeO.bind ?_ (fun _ => ?_)

end Go.Proofs.Ytgmjolngnhdafaa.P

end
section
namespace Go.Proofs.Ytgmjolngnhdafaa.P
open Go.RowKit Go.Proofs.YtgmjolngnhdafaaW.PrintWords Go.Proofs.YtgmjolngnhdafaaW.PrintLast Go.Proofs.YtgmjolngnhdafaaW.PrintMore
attribute [local go_sem] max2_int min2_int max_two min_two max_three min_three max_four min_four
set_option linter.unusedVariables false
set_option linter.unusedSimpArgs false

/-! ### spec_TypeIn: function 40 -/
def spec_TypeIn.f (k : Nat) (l0 : List (S38)) (a1 : Int) (a2 : Int) : Option (Bool) := (spec_TypeOk.f k l0 a1).bind fun t413 => (if t413 = true then ((spec_TypeOk.f k l0 a2).bind fun t414 => (if t414 = true then ((spec_l2In.f k l0 a1 a2).bind fun t415 => (some t415)) else (some false))) else (some false))
theorem spec_TypeIn.mono : ∀ a0 a1 a2 k, LeO (spec_TypeIn.f k a0 a1 a2) (spec_TypeIn.f (k + 1) a0 a1 a2) := by
  intro a0 a1 a2 k
  unfold spec_TypeIn.f
  repeat' first
      | (with_reducible exact spec_TypeOk.mono _ _ _)
      | (with_reducible exact spec_l2In.mono _ _ _ _)
      | (with_reducible exact LeO.refl _)
      | (with_reducible exact LeO.none _)
      | (with_reducible refine LeO.ite ?_ ?_)
      | (with_reducible refine LeO.bind ?_ (fun _ => ?_))
      | exact spec_TypeOk.mono _ _ _
      | exact spec_l2In.mono _ _ _ _
      | exact LeO.none _
      | refine LeO.ite ?_ ?_
      | refine LeO.bind ?_ (fun _ => ?_)

end Go.Proofs.Ytgmjolngnhdafaa.P

end
section
namespace Go.Proofs.Ytgmjolngnhdafaa.P
open Go.RowKit Go.Proofs.YtgmjolngnhdafaaW.PrintWords Go.Proofs.YtgmjolngnhdafaaW.PrintLast Go.Proofs.YtgmjolngnhdafaaW.PrintMore
attribute [local go_sem] max2_int min2_int max_two min_two max_three min_three max_four min_four
set_option linter.unusedVariables false
set_option linter.unusedSimpArgs false

/-! ### impl_TypeOk: function 26 -/
def impl_TypeOk.f (k : Nat) (l0 : List (S38)) (a1 : Int) : Option (Bool) := (impl_ClassesOk.f k l0).bind fun t166 => (if t166 = true then ((impl_kindOf.f (l0.length : Int) a1).bind fun t167 => (some (t167 != (-1)))) else (some false))
theorem impl_TypeOk.mono : ∀ a0 a1 k, LeO (impl_TypeOk.f k a0 a1) (impl_TypeOk.f (k + 1) a0 a1) := by
  intro a0 a1 k
  unfold impl_TypeOk.f
  repeat' first
      | (with_reducible exact impl_ClassesOk.mono _ _)
      | (with_reducible exact LeO.refl _)
      | (with_reducible exact LeO.none _)
      | (with_reducible refine LeO.ite ?_ ?_)
      | (with_reducible refine LeO.bind ?_ (fun _ => ?_))
      | exact impl_ClassesOk.mono _ _
      | exact LeO.none _
      | refine LeO.ite ?_ ?_
      | refine LeO.bind ?_ (fun _ => ?_)

end Go.Proofs.Ytgmjolngnhdafaa.P

end
section
namespace Go.Proofs.Ytgmjolngnhdafaa.Kit
open Go Go.RowKit Go.Proofs.YtgmjolngnhdafaaW.PrintWords Go.Proofs.Ytgmjolngnhdafaa.P
set_option linter.unusedVariables false
theorem iff_no {p : Prop} (h : ¬ p) : (false = true) ↔ p := ⟨fun h2 => (by cases h2), fun h2 => absurd h2 h⟩
theorem iff_yes {p : Prop} (h : p) : (true = true) ↔ p := ⟨fun _ => h, fun _ => rfl⟩
theorem Up.via {cs : List Cls} {a b p : Nat} (hp : sup cs a = (p : Int)) (hne : a ≠ b) : Up cs a b ↔ Up cs p b := by
  constructor
  · intro h
    rcases h.inv with rfl | ⟨q, hq, h2⟩
    · exact absurd rfl hne
    · have : p = q := by omega
      subst this
      exact h2
  · intro h; exact .step p hp h
theorem spec_up {cs : List Cls} (h : ClsOk cs) (b : Nat) : ∀ a : Nat, a < cs.length → Evp (fun k => spec_l2Up.f k cs (a : Int) (b : Int)) (fun r => r = true ↔ Up cs a b) := by
  intro a
  induction a using Nat.strongRecOn with
  | _ a ih =>
    intro ha
    unfold spec_l2Up.f at ih ⊢
    refine Evp.step (f := fun k => _) (fun k => by rw [spec_l2Up.l0, rdSup]) (Evp.ite (fun hab => ?_) (fun hab => Evp.pure _ ?_))
    · obtain ⟨p, hp, hlt⟩ := h.sup_nat (by omega : 1 ≤ a) ha
      refine Evp.yes (by omega) (Evp.yes (by omega) ?_)
      rw [hp]
      exact (ih p hlt (by omega)).mono fun r hr => hr.trans (Up.via hp (by omega)).symm
    · rw [beq_iff_eq]
      constructor
      · intro h2
        have : a = b := by omega
        subst this; exact .refl _
      · intro h2
        have := h2.le h ha
        omega
theorem impl_up {cs : List Cls} (h : ClsOk cs) (b : Nat) : ∀ a : Nat, a < cs.length → Evp (fun k => impl_classUp.f k cs (a : Int) (b : Int)) (fun r => r = true ↔ Up cs a b) := by
  intro a
  induction a using Nat.strongRecOn with
  | _ a ih =>
    intro ha
    unfold impl_classUp.f at ih ⊢
    refine Evp.step (f := fun k => _) (fun k => by rw [impl_classUp.l0, rdSup]) (Evp.yes (by omega) (Evp.ite (fun hab => Evp.pure _ ?_) (fun hab => ?_)))
    · have : a = b := by omega
      subst this
      exact iff_yes (.refl _)
    · refine Evp.yes (by omega) (Evp.yes (by omega) ?_)
      rcases Nat.eq_zero_or_pos a with h0 | h0
      · subst h0
        rw [h.root.1]
        refine Evp.step (f := fun k => _) (fun k => by rw [impl_classUp.l0]) (Evp.no (by omega) (Evp.pure _ (iff_no ?_)))
        intro h2
        have := h2.le h ha
        omega
      · obtain ⟨p, hp, hlt⟩ := h.sup_nat h0 ha
        rw [hp]
        exact (ih p hlt (by omega)).mono fun r hr => hr.trans (Up.via hp (by omega)).symm
/-- A type of so many classes. -/
def TyOk (n : Nat) (t : Int) : Prop := t = 0 ∨ t = 2 ∨ FieldTy n t
theorem tyOk_iff {n : Nat} {t : Int} : TyOk n t ↔ (0 ≤ t ∧ t ≤ 4) ∨ (8 ≤ t ∧ t < 8 + (n : Int)) := by
  unfold TyOk FieldTy
  omega
theorem kindOf_ty {n : Nat} {t : Int} (hn : n ≤ 1000000000) (h0 : -9223372036854775808 ≤ t) (h1 : t ≤ 9223372036854775807) :
    ∃ r, impl_kindOf.f (n : Int) t = some r ∧ (TyOk n t ∧ r = t ∨ ¬ TyOk n t ∧ r = -1) := by
  refine ⟨_, kindOf_eq hn h0 h1, ?_⟩
  rw [tyOk_iff]
  by_cases h : (0 ≤ t ∧ t ≤ 4) ∨ (8 ≤ t ∧ t < 8 + (n : Int))
  · rw [if_pos h]; exact .inl ⟨h, rfl⟩
  · rw [if_neg h]; exact .inr ⟨h, rfl⟩
theorem spec_typeOk {cs : List Cls} (hs : SmallC cs) (t : Int) : Evp (fun k => spec_TypeOk.f k cs t) (fun r => r = true ↔ ClsOk cs ∧ TyOk cs.length t) := by
  have hl0 := hs.1
  unfold spec_TypeOk.f
  refine Evp.bind (spec_classesOk hs) fun b hb => Evp.ite (fun h => ?_) (fun h => Evp.pure _ (iff_no fun h2 => h (hb.2 h2.1)))
  refine Evp.ite (fun h0 => Evp.pure _ (iff_yes ⟨hb.1 h, .inl h0⟩)) (fun h0 => Evp.ite (fun h2 => Evp.pure _ (iff_yes ⟨hb.1 h, .inr (.inl h2)⟩)) (fun h2 => ?_))
  obtain ⟨c, hc, hc2⟩ := field_eq (cs := cs) (t := t) (by omega)
  simp only [hc, Option.bind_some]
  refine Evp.pure _ (hc2.trans ⟨fun h3 => ⟨hb.1 h, .inr (.inr h3)⟩, fun h3 => ?_⟩)
  rcases h3.2 with h4 | h4 | h4
  · exact absurd h4 h0
  · exact absurd h4 h2
  · exact h4
theorem impl_typeOk {cs : List Cls} (hs : SmallC cs) {t : Int} (ht0 : -9223372036854775808 ≤ t) (ht1 : t ≤ 9223372036854775807) : Evp (fun k => impl_TypeOk.f k cs t) (fun r => r = true ↔ ClsOk cs ∧ TyOk cs.length t) := by
  have hl0 := hs.1
  unfold impl_TypeOk.f
  refine Evp.bind (impl_classesOk hs) fun b hb => Evp.ite (fun h => ?_) (fun h => Evp.pure _ (iff_no fun h2 => h (hb.2 h2.1)))
  obtain ⟨c, hc, hc2⟩ := kindOf_ty (n := cs.length) (by omega) ht0 ht1
  simp only [hc, Option.bind_some]
  refine Evp.pure _ ?_
  rcases hc2 with ⟨h1, rfl⟩ | ⟨h1, rfl⟩
  · have := tyOk_iff.1 h1
    rw [bne_iff_ne]
    exact ⟨fun _ => ⟨hb.1 h, h1⟩, fun _ => by omega⟩
  · exact iff_no fun h2 => h1 h2.2
/-- A value of the one type is one of the other. -/
def TyIn (cs : List Cls) (a b : Int) : Prop := a = b ∨ b = 0 ∨ (a = 2 ∧ 2 ≤ b) ∨ ((a = 3 ∨ a = 4) ∧ b = 8) ∨ (8 ≤ a ∧ 8 ≤ b ∧ Up cs (a - 8).toNat (b - 8).toNat)
theorem spec_tyIn {cs : List Cls} (hs : SmallC cs) (h : ClsOk cs) {a b : Int} (ha : TyOk cs.length a) (hb : TyOk cs.length b) : Evp (fun k => spec_l2In.f k cs a b) (fun r => r = true ↔ TyIn cs a b) := by
  have hl0 := hs.1
  have ha' := tyOk_iff.1 ha
  have hb' := tyOk_iff.1 hb
  unfold spec_l2In.f
  have j0t : TyIn cs a b → Evp (fun k => spec_l2In.j0 k cs a b true) (fun r => r = true ↔ TyIn cs a b) := fun h =>
    Evp.step (f := fun k => _) (fun k => by rw [spec_l2In.j0]) (Evp.yes rfl (Evp.pure _ (iff_yes h)))
  have j1t : ¬ TyIn cs a b → Evp (fun k => spec_l2In.j1 k cs a b true) (fun r => r = true ↔ TyIn cs a b) := fun h =>
    Evp.step (f := fun k => _) (fun k => by rw [spec_l2In.j1]) (Evp.yes rfl (Evp.pure _ (iff_no h)))
  refine Evp.ite (fun h1 => j0t (.inl h1)) (fun h1 => ?_)
  by_cases h2 : b = 0
  · rw [h2, show ((0 : Int) == 0) = true from rfl, ← h2]; exact j0t (.inr (.inl h2))
  rw [show (b == 0) = false from beq_eq_false_iff_ne.2 h2]
  refine Evp.step (f := fun k => _) (fun k => by rw [spec_l2In.j0, spec_l2Ref.f, spec_l2Ref.f, Option.bind_some, Option.bind_some]) (Evp.no (by decide) (Evp.ite (fun h3 => Evp.pure _ ?_) (fun h3 => Evp.ite (fun h4 => ?_) (fun h4 => j1t ?_))))
  · rw [decide_eq_true_iff]
    unfold TyIn
    constructor
    · intro h4; exact .inr (.inr (.inl ⟨h3, by omega⟩))
    · intro h4; omega
  · rw [decide_eq_true_iff] at h4
    by_cases h5 : b < 8
    · rw [decide_eq_true h5]
      refine j1t ?_
      unfold TyIn
      omega
    · rw [decide_eq_false h5]
      refine Evp.step (f := fun k => _) (fun k => by rw [spec_l2In.j1]) (Evp.no (by decide) (Evp.ite (fun h6 => Evp.pure _ ?_) (fun h6 => ?_)))
      · rw [beq_iff_eq]
        unfold TyIn
        constructor
        · intro h7; exact .inr (.inr (.inr (.inl ⟨by omega, h7⟩)))
        · intro h7; omega
      · rw [w64 (n := a - 8) (by omega) (by omega), w64 (n := b - 8) (by omega) (by omega), show a - 8 = (((a - 8).toNat : Nat) : Int) by omega, show b - 8 = (((b - 8).toNat : Nat) : Int) by omega]
        refine Evp.bind (spec_up h _ _ (by omega)) fun c hc => Evp.pure _ (hc.trans ?_)
        unfold TyIn
        constructor
        · intro h7; exact .inr (.inr (.inr (.inr ⟨by omega, by omega, by simpa using h7⟩)))
        · intro h7
          rcases h7 with h7 | h7 | h7 | h7 | h7
          · omega
          · omega
          · omega
          · omega
          · simpa using h7.2.2
  · rw [decide_eq_true_iff] at h4
    unfold TyIn
    omega
theorem impl_kdIn {cs : List Cls} (hs : SmallC cs) (h : ClsOk cs) {a b : Int} (ha : TyOk cs.length a) (hb : TyOk cs.length b) : Evp (fun k => impl_kindIn.f k cs a b) (fun r => r = true ↔ TyIn cs a b) := by
  have hl0 := hs.1
  have ha' := tyOk_iff.1 ha
  have hb' := tyOk_iff.1 hb
  unfold impl_kindIn.f
  refine Evp.yes ⟨by unfold KindOk; omega, by unfold KindOk; omega⟩ ?_
  refine Evp.ite (fun h1 => Evp.pure _ (iff_yes (.inl h1))) (fun h1 => Evp.ite (fun h2 => Evp.pure _ (iff_yes (.inr (.inl h2)))) (fun h2 => Evp.ite (fun h3 => Evp.pure _ ?_) (fun h3 => Evp.ite (fun h4 => Evp.pure _ ?_) (fun h4 => Evp.ite (fun h5 => Evp.ite (fun h6 => ?_) (fun h6 => Evp.pure _ (iff_no ?_))) (fun h5 => Evp.pure _ (iff_no ?_))))))
  · rw [bne_iff_ne]
    unfold TyIn
    constructor
    · intro h4; exact .inr (.inr (.inl ⟨h3, by omega⟩))
    · intro h4; omega
  · rw [beq_iff_eq]
    unfold TyIn
    constructor
    · intro h7; exact .inr (.inr (.inr (.inl ⟨h4, h7⟩)))
    · intro h7; omega
  · rw [show a - 8 = (((a - 8).toNat : Nat) : Int) by omega, show b - 8 = (((b - 8).toNat : Nat) : Int) by omega]
    refine (impl_up h _ _ (by omega)).mono fun c hc => hc.trans ?_
    unfold TyIn
    constructor
    · intro h7; exact .inr (.inr (.inr (.inr ⟨by omega, by omega, by simpa using h7⟩)))
    · intro h7
      rcases h7 with h7 | h7 | h7 | h7 | h7
      · omega
      · omega
      · omega
      · omega
      · simpa using h7.2.2
  · unfold TyIn
    omega
  · unfold TyIn
    omega
theorem impl_tyIn {cs : List Cls} (hs : SmallC cs) (h : ClsOk cs) {a b : Int} (ha0 : -9223372036854775808 ≤ a) (ha1 : a ≤ 9223372036854775807) (hb0 : -9223372036854775808 ≤ b) (hb1 : b ≤ 9223372036854775807) :
    Evp (fun k => impl_typeIn.f k cs a b) (fun r => r = true ↔ TyOk cs.length a ∧ TyOk cs.length b ∧ TyIn cs a b) := by
  have hl0 := hs.1
  unfold impl_typeIn.f
  obtain ⟨r, hr, hr2⟩ := kindOf_ty (n := cs.length) (by omega) ha0 ha1
  obtain ⟨q, hq, hq2⟩ := kindOf_ty (n := cs.length) (by omega) hb0 hb1
  simp only [hr, hq, Option.bind_some]
  rcases hr2 with ⟨h1, rfl⟩ | ⟨h1, rfl⟩
  · refine Evp.no (by have := tyOk_iff.1 h1; omega) ?_
    rcases hq2 with ⟨h2, rfl⟩ | ⟨h2, rfl⟩
    · refine Evp.no (by have := tyOk_iff.1 h2; omega) ?_
      refine Evp.bind (impl_kdIn hs h h1 h2) fun c hc => Evp.pure _ (hc.trans ⟨fun h3 => ⟨h1, h2, h3⟩, fun h3 => h3.2.2⟩)
    · exact Evp.yes rfl (Evp.pure _ (iff_no fun h3 => h2 h3.2.1))
  · exact Evp.yes rfl (Evp.pure _ (iff_no fun h3 => h1 h3.1))
theorem impl_TypeIn' {cs : List Cls} (hs : SmallC cs) {a b : Int} (ha0 : -9223372036854775808 ≤ a) (ha1 : a ≤ 9223372036854775807) (hb0 : -9223372036854775808 ≤ b) (hb1 : b ≤ 9223372036854775807) :
    Evp (fun k => impl_TypeIn.f k cs a b) (fun r => r = true ↔ ClsOk cs ∧ TyOk cs.length a ∧ TyOk cs.length b ∧ TyIn cs a b) := by
  unfold impl_TypeIn.f
  refine Evp.bind (impl_classesOk hs) fun c hc => Evp.ite (fun h => ?_) (fun h => Evp.pure _ (iff_no fun h2 => h (hc.2 h2.1)))
  exact Evp.bind (impl_tyIn hs (hc.1 h) ha0 ha1 hb0 hb1) fun d hd => Evp.pure _ (hd.trans ⟨fun h3 => ⟨hc.1 h, h3⟩, fun h3 => h3.2⟩)
theorem spec_TypeIn' {cs : List Cls} (hs : SmallC cs) (a b : Int) :
    Evp (fun k => spec_TypeIn.f k cs a b) (fun r => r = true ↔ ClsOk cs ∧ TyOk cs.length a ∧ TyOk cs.length b ∧ TyIn cs a b) := by
  unfold spec_TypeIn.f
  refine Evp.bind (spec_typeOk hs a) fun c hc => Evp.ite (fun h => ?_) (fun h => Evp.pure _ (iff_no fun h2 => h (hc.2 ⟨h2.1, h2.2.1⟩)))
  refine Evp.bind (spec_typeOk hs b) fun d hd => Evp.ite (fun h' => ?_) (fun h' => Evp.pure _ (iff_no fun h2 => h' (hd.2 ⟨h2.1, h2.2.2.1⟩)))
  obtain ⟨h3, h4⟩ := hc.1 h
  have h5 := (hd.1 h').2
  exact Evp.bind (spec_tyIn hs h3 h4 h5) fun e he => Evp.pure _ (he.trans ⟨fun h6 => ⟨h3, h4, h5, h6⟩, fun h6 => h6.2.2.2⟩)
end Go.Proofs.Ytgmjolngnhdafaa.Kit

end
section
namespace Go.Proofs.Ytgmjolngnhdafaa.Kit
open Go Go.RowKit Go.Proofs.YtgmjolngnhdafaaW.PrintWords Go.Proofs.Ytgmjolngnhdafaa.P
/-- a and b are classes, and a is b or below it. -/
def UpC (cs : List Cls) (a b : Int) : Prop := ClsOk cs ∧ (0 ≤ a ∧ a < (cs.length : Int)) ∧ (0 ≤ b ∧ b < (cs.length : Int)) ∧ Up cs a.toNat b.toNat
theorem spec_is {cs : List Cls} (hs : SmallC cs) (a : Int) : Evp (fun k => spec_l2Is.f k cs a) (fun r => r = true ↔ ClsOk cs ∧ 0 ≤ a ∧ a < (cs.length : Int)) := by
  have hl0 := hs.1
  unfold spec_l2Is.f
  refine Evp.bind (spec_classesOk hs) fun b hb => Evp.ite (fun h => ?_) (fun h => Evp.pure _ (iff_no fun h2 => h (hb.2 h2.1)))
  have hc := hb.1 h
  have := hc.lo
  rw [w64 (by omega) (by omega), in_eq]
  refine Evp.pure _ ?_
  rw [decide_eq_true_iff]
  constructor
  · intro h2; exact ⟨hc, by omega, by omega⟩
  · intro h2; omega
theorem spec_ClassUp' {cs : List Cls} (hs : SmallC cs) (a b : Int) : Evp (fun k => spec_ClassUp.f k cs a b) (fun r => r = true ↔ UpC cs a b) := by
  unfold spec_ClassUp.f
  refine Evp.bind (spec_is hs a) fun c hc => Evp.ite (fun h => ?_) (fun h => Evp.pure _ (iff_no fun h2 => h (hc.2 ⟨h2.1, h2.2.1⟩)))
  refine Evp.bind (spec_is hs b) fun d hd => Evp.ite (fun h' => ?_) (fun h' => Evp.pure _ (iff_no fun h2 => h' (hd.2 ⟨h2.1, h2.2.2.1⟩)))
  obtain ⟨h3, h4⟩ := hc.1 h
  have h5 := (hd.1 h').2
  have ea : a = ((a.toNat : Nat) : Int) := by omega
  have eb : b = ((b.toNat : Nat) : Int) := by omega
  have := spec_up h3 b.toNat a.toNat (by omega)
  rw [← ea, ← eb] at this
  exact Evp.bind this fun e he => Evp.pure _ (he.trans ⟨fun h6 => ⟨h3, h4, h5, h6⟩, fun h6 => h6.2.2.2⟩)
theorem impl_ClassUp' {cs : List Cls} (hs : SmallC cs) (a b : Int) : Evp (fun k => impl_ClassUp.f k cs a b) (fun r => r = true ↔ UpC cs a b) := by
  unfold impl_ClassUp.f
  obtain ⟨x, hx, hx2⟩ := impl_isClass_eq cs a
  obtain ⟨y, hy, hy2⟩ := impl_isClass_eq cs b
  refine Evp.bind (impl_classesOk hs) fun c hc => Evp.ite (fun h => ?_) (fun h => Evp.pure _ (iff_no fun h2 => h (hc.2 h2.1)))
  simp only [hx, hy, Option.bind_some]
  refine Evp.ite (fun h1 => ?_) (fun h1 => Evp.pure _ (iff_no fun h2 => h1 (hx2.2 h2.2.1)))
  refine Evp.ite (fun h1' => ?_) (fun h1' => Evp.pure _ (iff_no fun h2 => h1' (hy2.2 h2.2.2.1)))
  have h3 := hc.1 h
  have h4 := hx2.1 h1
  have h5 := hy2.1 h1'
  have ea : a = ((a.toNat : Nat) : Int) := by omega
  have eb : b = ((b.toNat : Nat) : Int) := by omega
  have := impl_up h3 b.toNat a.toNat (by omega)
  rw [← ea, ← eb] at this
  exact Evp.bind this fun e he => Evp.pure _ (he.trans ⟨fun h6 => ⟨h3, h4, h5, h6⟩, fun h6 => h6.2.2.2⟩)
end Go.Proofs.Ytgmjolngnhdafaa.Kit

end
section
namespace Go.Proofs.Ytgmjolngnhdafaa.Kit
open Go Go.RowKit Go.Proofs.YtgmjolngnhdafaaW.PrintWords Go.Proofs.Ytgmjolngnhdafaa.P
set_option linter.unusedVariables false
theorem impl_flds {cs : List Cls} (h : ClsOk cs) : ∀ a : Nat, a < cs.length → Evp (fun k => impl_classFields.f k cs (a : Int)) (fun r => Flds cs a r ∧ r.length ≤ 2 * a) := by
  have hhi := h.hi
  intro a
  induction a using Nat.strongRecOn with
  | _ a ih =>
    intro ha
    refine Evp.step (f := fun k => _) (fun k => by rw [impl_classFields.f]) (Evp.ite (fun h0 => Evp.pure _ ?_) (fun h0 => ?_))
    · have : a = 0 := by omega
      subst this
      exact ⟨.root, Nat.le_refl _⟩
    · obtain ⟨p, hp, hlt⟩ := h.sup_nat (i := a) (by omega) ha
      have e : (rd_T38 cs (a : Int)).f0 = (p : Int) := hp
      have hl2 := h.len2 ha
      refine Evp.yes (by omega) (Evp.yes (by omega) ?_)
      rw [e, rdFlds]
      refine Evp.bind (ih p hlt (by omega)) fun l hl => Evp.yes (by have := hl.2; omega) (Evp.pure _ ⟨.step p (by omega) hp hl.1, ?_⟩)
      have := hl.2
      rw [List.length_append]; omega
theorem spec_flds {cs : List Cls} (h : ClsOk cs) : ∀ a : Nat, a < cs.length → Evp (fun k => spec_l2Fields.f k cs (a : Int)) (fun r => Flds cs a r ∧ r.length ≤ 2 * a) := by
  have hhi := h.hi
  intro a
  induction a using Nat.strongRecOn with
  | _ a ih =>
    intro ha
    refine Evp.step (f := fun k => _) (fun k => by rw [spec_l2Fields.f]) (Evp.ite (fun h0 => Evp.pure _ ?_) (fun h0 => ?_))
    · have : a = 0 := by omega
      subst this
      exact ⟨.root, Nat.le_refl _⟩
    · obtain ⟨p, hp, hlt⟩ := h.sup_nat (i := a) (by omega) ha
      have e : (rd_T38 cs (a : Int)).f0 = (p : Int) := hp
      have hl2 := h.len2 ha
      refine Evp.yes (by omega) (Evp.yes (by omega) ?_)
      rw [e, rdFlds]
      refine Evp.bind (ih p hlt (by omega)) fun l hl => Evp.yes (by have := hl.2; omega) (Evp.pure _ ⟨.step p (by omega) hp hl.1, ?_⟩)
      have := hl.2
      rw [List.length_append]; omega
/-- All fields of a class, where it is one. -/
def FldsC (cs : List Cls) (c : Int) (l : List Int) : Prop := l.length ≤ 10 ∧ ((ClsOk cs ∧ (0 ≤ c ∧ c < (cs.length : Int)) ∧ Flds cs c.toNat l) ∨ (¬ (ClsOk cs ∧ 0 ≤ c ∧ c < (cs.length : Int)) ∧ l = []))
theorem FldsC.fn {cs : List Cls} {c : Int} {l l' : List Int} (h : FldsC cs c l) (h' : FldsC cs c l') : l = l' := by
  rcases h.2 with h1 | h1 <;> rcases h'.2 with h2 | h2
  · exact h1.2.2.fn h2.2.2
  · exact absurd ⟨h1.1, h1.2.1⟩ h2.1
  · exact absurd ⟨h2.1, h2.2.1⟩ h1.1
  · rw [h1.2, h2.2]
theorem impl_ClassFields' {cs : List Cls} (hs : SmallC cs) (c : Int) : Evp (fun k => impl_ClassFields.f k cs c) (FldsC cs c) := by
  unfold impl_ClassFields.f
  obtain ⟨x, hx, hx2⟩ := impl_isClass_eq cs c
  refine Evp.bind (impl_classesOk hs) fun b hb => Evp.ite (fun h => ?_) (fun h => Evp.pure _ ⟨by decide, .inr ⟨fun h2 => h (hb.2 h2.1), rfl⟩⟩)
  simp only [hx, Option.bind_some]
  refine Evp.ite (fun h1 => ?_) (fun h1 => Evp.pure _ ⟨by decide, .inr ⟨fun h2 => h1 (hx2.2 h2.2), rfl⟩⟩)
  have h3 := hb.1 h
  have h4 := hx2.1 h1
  have hhi := h3.hi
  have := impl_flds h3 c.toNat (by omega)
  rw [show ((c.toNat : Nat) : Int) = c by omega] at this
  exact Evp.bind this fun l hl => Evp.pure _ ⟨by have := hl.2; omega, .inl ⟨h3, h4, hl.1⟩⟩
theorem spec_ClassFields' {cs : List Cls} (hs : SmallC cs) (c : Int) : Evp (fun k => spec_ClassFields.f k cs c) (FldsC cs c) := by
  unfold spec_ClassFields.f
  refine Evp.bind (spec_is hs c) fun b hb => Evp.ite (fun h => ?_) (fun h => Evp.pure _ ⟨by decide, .inr ⟨fun h2 => h (hb.2 h2), rfl⟩⟩)
  obtain ⟨h3, h4⟩ := hb.1 h
  have hhi := h3.hi
  have := spec_flds h3 c.toNat (by omega)
  rw [show ((c.toNat : Nat) : Int) = c by omega] at this
  exact Evp.bind this fun l hl => Evp.pure _ ⟨by have := hl.2; omega, .inl ⟨h3, h4, hl.1⟩⟩
end Go.Proofs.Ytgmjolngnhdafaa.Kit

end
section
namespace Go.Proofs.Ytgmjolngnhdafaa.P
open Go.RowKit Go.Proofs.YtgmjolngnhdafaaW.PrintWords Go.Proofs.YtgmjolngnhdafaaW.PrintLast Go.Proofs.YtgmjolngnhdafaaW.PrintMore
attribute [local go_sem] max2_int min2_int max_two min_two max_three min_three max_four min_four
set_option linter.unusedVariables false
set_option linter.unusedSimpArgs false

/-! ### laws_szShape: function 45 -/
def laws_szShape.f (a0_0 : Bool) (l0_1 : List Int) (l0_2 : List Int) (a1 : Int) : Option (Int) := (laws_szIntS.f l0_1 a1).bind fun t509 => (if t509 < 0 then (some (-1)) else ((laws_szIntS.f l0_2 t509).bind fun t510 => (if t510 < 0 then (some (-1)) else (some t510))))

end Go.Proofs.Ytgmjolngnhdafaa.P

end
section
namespace Go.Proofs.Ytgmjolngnhdafaa.P
open Go.RowKit Go.Proofs.YtgmjolngnhdafaaW.PrintWords Go.Proofs.YtgmjolngnhdafaaW.PrintLast Go.Proofs.YtgmjolngnhdafaaW.PrintMore
attribute [local go_sem] max2_int min2_int max_two min_two max_three min_three max_four min_four
set_option linter.unusedVariables false
set_option linter.unusedSimpArgs false

/-! ### laws_toShape: function 47 -/
def laws_toShape.f (k : Nat) (a0_0 : Bool) (l0_1 : List Int) (l0_2 : List Int) : Option (Bool × List Int × List Int) := (laws_toIntS.f k l0_1).bind fun t521 => ((laws_toIntS.f k l0_2).bind fun t524 => (some (a0_0, t521, t524)))
theorem laws_toShape.mono : ∀ a0 a1 a2 k, LeO (laws_toShape.f k a0 a1 a2) (laws_toShape.f (k + 1) a0 a1 a2) := by
  intro a0 a1 a2 k
  unfold laws_toShape.f
  repeat' first
      | (with_reducible exact laws_toIntS.mono _ _)
      | (with_reducible exact LeO.refl _)
      | (with_reducible exact LeO.none _)
      | (with_reducible refine LeO.ite ?_ ?_)
      | (with_reducible refine LeO.bind ?_ (fun _ => ?_))
      | exact laws_toIntS.mono _ _
      | exact LeO.none _
      | refine LeO.ite ?_ ?_
      | refine LeO.bind ?_ (fun _ => ?_)

end Go.Proofs.Ytgmjolngnhdafaa.P

end
section
namespace Go.Proofs.Ytgmjolngnhdafaa.P
open Go.RowKit Go.Proofs.YtgmjolngnhdafaaW.PrintWords Go.Proofs.YtgmjolngnhdafaaW.PrintLast Go.Proofs.YtgmjolngnhdafaaW.PrintMore
attribute [local go_sem] max2_int min2_int max_two min_two max_three min_three max_four min_four
set_option linter.unusedVariables false
set_option linter.unusedSimpArgs false

/-! ### laws_eqShape: function 49 -/
def laws_eqShape.f (k : Nat) (a0_0 : Bool) (l0_1 : List Int) (l0_2 : List Int) (a1_0 : Bool) (l1_1 : List Int) (l1_2 : List Int) : Option (Bool) := if (a0_0 != a1_0) = true then (some false) else ((laws_eqIntS.f k l0_1 l1_1).bind fun t537 => (if t537 = true then ((laws_eqIntS.f k l0_2 l1_2).bind fun t538 => (if t538 = true then (some true) else (some false))) else (some false)))
theorem laws_eqShape.mono : ∀ a0 a1 a2 a3 a4 a5 k, LeO (laws_eqShape.f k a0 a1 a2 a3 a4 a5) (laws_eqShape.f (k + 1) a0 a1 a2 a3 a4 a5) := by
  intro a0 a1 a2 a3 a4 a5 k
  unfold laws_eqShape.f
  repeat' first
      | (with_reducible exact laws_eqIntS.mono _ _ _)
      | (with_reducible exact LeO.refl _)
      | (with_reducible exact LeO.none _)
      | (with_reducible refine LeO.ite ?_ ?_)
      | (with_reducible refine LeO.bind ?_ (fun _ => ?_))
      | exact laws_eqIntS.mono _ _ _
      | exact LeO.none _
      | refine LeO.ite ?_ ?_
      | refine LeO.bind ?_ (fun _ => ?_)

end Go.Proofs.Ytgmjolngnhdafaa.P

end
section
namespace Go.Proofs.Ytgmjolngnhdafaa.Kit
open Go Go.RowKit Go.Proofs.YtgmjolngnhdafaaW.PrintWords Go.Proofs.Ytgmjolngnhdafaa.P
set_option linter.unusedVariables false
abbrev LCls := S63
def cvC (c : LCls) : Cls := ⟨c.f0, c.f1⟩
theorem rdL {xs : List LCls} {i : Nat} (h : i < xs.length) : rd_T63 xs (i : Int) = xs[i] := getD_at h _
theorem rdC {xs : List Cls} {i : Nat} (h : i < xs.length) : rd_T38 xs (i : Int) = xs[i] := getD_at h _
theorem wf64 {n : Int} (h : (Lit.int .i64 n).wf = true) : -9223372036854775808 ≤ n ∧ n ≤ 9223372036854775807 := by
  simp [Lit.wf, IntKind.min, IntKind.max, IntKind.bits, IntKind.signed] at h
  omega
theorem sz_ints {l : List Int} {a : Int} (h0 : 0 ≤ a) (h1 : a ≤ 1048576) (hl : l.length ≤ 9223372036854775807) : ∃ t, laws_szIntS.f l a = some t ∧ (0 ≤ t → (l.length : Int) + t = a) := by
  unfold laws_szIntS.f
  rw [w64 (by omega) (by omega)]
  by_cases h : a - (l.length : Int) < 0
  · rw [if_pos h]; exact ⟨_, rfl, by omega⟩
  · rw [if_neg h]; exact ⟨_, rfl, by omega⟩
theorem sz_cls {l : List LCls} (hl : l.length ≤ 9223372036854775807) (hw : ∀ y ∈ l, wfS63 y) :
    Evp (fun k => laws_szClassS.f k l 1048576) (fun t => 0 ≤ t → t ≤ 1048576 ∧ SmallC (l.map cvC)) := by
  unfold laws_szClassS.f
  rw [w64 (by omega) (by omega)]
  refine Evp.ite (fun _ => Evp.pure _ (by omega)) (fun h => ?_)
  have key : ∀ i, i ≤ l.length → ∀ s : Int, (0 ≤ s ∧ s ≤ 1048576) → Evp (fun k => laws_szClassS.l0 k l s (i : Int)) (fun t => 0 ≤ t → t ≤ s ∧ ∀ o ∈ l.drop i, o.f1.length ≤ 1048576) := by
    refine Evp.fors (g := fun i s k => laws_szClassS.l0 k l s (i : Int)) (I := fun _ s => 0 ≤ s ∧ s ≤ 1048576) (R := fun i s t => 0 ≤ t → t ≤ s ∧ ∀ o ∈ l.drop i, o.f1.length ≤ 1048576) (fun s hs => ?_) (fun i hil ih s hs => ?_)
    · refine Evp.step (f := fun k => _) (fun k => by rw [laws_szClassS.l0]) (Evp.no (by omega) (Evp.pure _ (fun _ => ⟨by omega, by simp⟩)))
    · have hil2 := (hw _ (List.getElem_mem hil)).2.1
      obtain ⟨t, ht, ht2⟩ := sz_ints (l := l[i].f1) hs.1 hs.2 hil2
      refine Evp.step (f := fun k => _) (fun k => by rw [laws_szClassS.l0, rdL hil, laws_szClass.f, ht, Option.bind_some]) (Evp.yes (by omega) (Evp.yes (by omega) ?_))
      by_cases h3 : t < 0
      · simp only [if_pos h3, Option.bind_some]
        exact Evp.pure _ (by omega)
      · simp only [if_neg h3, Option.bind_some]
        rw [w64' hil (by omega)]
        refine (ih t (by omega)).mono fun r hr h0 => ?_
        obtain ⟨h4, h5⟩ := hr h0
        refine ⟨by omega, ?_⟩
        rw [drop_at hil]
        intro o ho
        rcases List.mem_cons.1 ho with rfl | ho
        · omega
        · exact h5 o ho
  refine (key 0 (Nat.zero_le _) _ (by omega)).mono fun t ht h0 => ?_
  obtain ⟨h2, h3⟩ := ht h0
  refine ⟨by omega, by rw [List.length_map]; omega, fun i hi => ?_⟩
  rw [List.length_map] at hi
  have e : flds (l.map cvC) i = l[i].f1 := by unfold flds; rw [getD_at (by simpa using hi)]; simp [cvC]
  rw [e]
  exact ⟨h3 _ (by simp), fun t ht => wf64 ((hw _ (List.getElem_mem hi)).2.2 t ht)⟩
/-- A list filled place by place. -/
theorem set_fill {α β : Type} (l : List α) (f : α → β) (z : β) {i : Nat} (hi : i < l.length) : ((l.take i).map f ++ List.replicate (l.length - i) z).set i (f l[i]) = (l.take (i + 1)).map f ++ List.replicate (l.length - (i + 1)) z := by
  rw [List.take_succ_eq_append_getElem hi, List.map_append, List.append_assoc]
  rw [List.set_append_right _ _ (by simp; omega)]
  congr 1
  rw [show l.length - i = (l.length - (i + 1)) + 1 by omega, List.replicate_succ]
  simp [Nat.min_eq_left (Nat.le_of_lt hi)]
theorem to_ints {l : List Int} (hl : l.length ≤ 1048576) : Evp (fun k => laws_toIntS.f k l) (fun r => r = l) := by
  unfold laws_toIntS.f
  refine Evp.yes (by omega) (Evp.yes (by omega) ?_)
  have key : ∀ i, i ≤ l.length → ∀ s : List Int, s = (l.take i).map id ++ List.replicate (l.length - i) 0 → Evp (fun k => laws_toIntS.l0 k l s (i : Int)) (fun r => r = l) := by
    refine Evp.fors (g := fun i s k => laws_toIntS.l0 k l s (i : Int)) (I := fun i s => s = (l.take i).map id ++ List.replicate (l.length - i) 0) (R := fun _ _ r => r = l) (fun s hs => ?_) (fun i hi ih s hs => ?_)
    · subst hs
      refine Evp.step (f := fun k => _) (fun k => by rw [laws_toIntS.l0]) (Evp.no (by omega) (Evp.pure _ (by simp)))
    · have hsl : s.length = l.length := by rw [hs]; simp; omega
      refine Evp.step (f := fun k => _) (fun k => by rw [laws_toIntS.l0, rdInt hi]) (Evp.yes (by omega) (Evp.yes (by omega) (Evp.yes (by omega) ?_)))
      rw [w64' hi (by omega)]
      refine ih _ ?_
      rw [hs]
      exact set_fill l id 0 hi
  exact key 0 (Nat.zero_le _) _ (by simp)
theorem to_cls {l : List LCls} (hl : SmallC (l.map cvC)) : Evp (fun k => laws_toClassS.f k l) (fun r => r = l.map cvC) := by
  have hl1 := hl.1
  rw [List.length_map] at hl1
  unfold laws_toClassS.f
  refine Evp.yes (by omega) (Evp.yes (by omega) ?_)
  have key : ∀ i, i ≤ l.length → ∀ s : List Cls, s = (l.take i).map cvC ++ List.replicate (l.length - i) z38 → Evp (fun k => laws_toClassS.l0 k l s (i : Int)) (fun r => r = l.map cvC) := by
    refine Evp.fors (g := fun i s k => laws_toClassS.l0 k l s (i : Int)) (I := fun i s => s = (l.take i).map cvC ++ List.replicate (l.length - i) z38) (R := fun _ _ r => r = l.map cvC) (fun s hs => ?_) (fun i hi ih s hs => ?_)
    · subst hs
      refine Evp.step (f := fun k => _) (fun k => by rw [laws_toClassS.l0]) (Evp.no (by omega) (Evp.pure _ (by simp)))
    · have hsl : s.length = l.length := by rw [hs]; simp; omega
      refine Evp.step (f := fun k => _) (fun k => by rw [laws_toClassS.l0, rdL hi]) (Evp.yes (by omega) (Evp.yes (by omega) ?_))
      refine Evp.bind (P := fun r => r = (l[i].f0, l[i].f1)) ?_ (fun a ha => ?_)
      · unfold laws_toClass.f
        have e : flds (l.map cvC) i = l[i].f1 := by unfold flds; rw [getD_at (by simpa using hi)]; simp [cvC]
        have := (hl.2 i (by simpa using hi)).1
        rw [e] at this
        exact Evp.bind (to_ints this) (fun a ha => Evp.pure _ (by rw [ha]))
      · subst ha
        refine Evp.yes (by omega) ?_
        rw [w64' hi (by omega)]
        refine ih _ ?_
        rw [hs]
        exact set_fill l cvC z38 hi
  exact key 0 (Nat.zero_le _) _ (by simp)
theorem eq_ints {l : List Int} (hl : l.length ≤ 1048576) : Evp (fun k => laws_eqIntS.f k l l) (fun r => r = true) := by
  unfold laws_eqIntS.f
  refine Evp.yes rfl ?_
  refine Evp.for_ (n := l.length) (g := fun i k => laws_eqIntS.l0 k l l (i : Int)) (R := fun _ r => r = true) ?_ (fun i hi ih => ?_) 0 (Nat.zero_le _)
  · refine Evp.step (f := fun k => _) (fun k => by rw [laws_eqIntS.l0]) (Evp.no (by omega) (Evp.pure _ rfl))
  · refine Evp.step (f := fun k => _) (fun k => by rw [laws_eqIntS.l0]) (Evp.yes (by omega) (Evp.yes (by omega) (Evp.yes (by omega) (Evp.yes rfl ?_))))
    rw [w64' hi (by omega)]
    exact ih
theorem eq_cls {l : List Cls} (hl : SmallC l) : Evp (fun k => laws_eqClassS.f k l l) (fun r => r = true) := by
  have hl1 := hl.1
  unfold laws_eqClassS.f
  refine Evp.yes rfl ?_
  refine Evp.for_ (n := l.length) (g := fun i k => laws_eqClassS.l0 k l l (i : Int)) (R := fun _ r => r = true) ?_ (fun i h ih => ?_) 0 (Nat.zero_le _)
  · refine Evp.step (f := fun k => _) (fun k => by rw [laws_eqClassS.l0]) (Evp.no (by omega) (Evp.pure _ rfl))
  · refine Evp.step (f := fun k => _) (fun k => by rw [laws_eqClassS.l0]) (Evp.yes (by omega) (Evp.yes (by omega) (Evp.yes (by omega) ?_)))
    refine Evp.bind (P := fun r => r = true) ?_ (fun a ha => ?_)
    · unfold laws_eqClass.f
      rw [rdFlds]
      exact Evp.yes rfl (Evp.bind (eq_ints (hl.2 i h).1) (fun a ha => Evp.yes ha (Evp.pure _ rfl)))
    · refine Evp.yes ha ?_
      rw [w64' h (by omega)]
      exact ih
/-- A law over classes: the two answer alike, and the arguments stay. -/
theorem exact_cls {l : List LCls} (hl : l.length ≤ 9223372036854775807) (hw : ∀ y ∈ l, wfS63 y) {s i : Nat → List Cls → Option Bool} {p : List Cls → Prop}
    (hs : ∀ cs, SmallC cs → Evp (fun k => s k cs) (fun r => r = true ↔ p cs)) (hi : ∀ cs, SmallC cs → Evp (fun k => i k cs) (fun r => r = true ↔ p cs)) :
    Evp (fun k => (laws_szClassS.f k l 1048576).bind fun t => (if t < 0 then (some true) else ((laws_toClassS.f k l).bind fun a => ((s k a).bind fun x => ((laws_toClassS.f k l).bind fun b => ((i k b).bind fun y => (if (y != x) = true then (some false) else ((laws_toClassS.f k l).bind fun c => ((laws_eqClassS.f k b c).bind fun e => (if e = true then (some true) else (some false)))))))))))
      (fun r => r = true) := by
  refine Evp.bind (sz_cls hl hw) fun t ht => Evp.ite (fun _ => Evp.pure _ rfl) (fun h => ?_)
  have hc := (ht (by omega)).2
  refine Evp.bind (to_cls hc) fun a ha => ?_
  subst ha
  refine Evp.bind (hs _ hc) fun x hx => Evp.bind (to_cls hc) fun b hb => ?_
  subst hb
  refine Evp.bind (hi _ hc) fun y hy => Evp.no (bne_no hx hy) (Evp.bind (to_cls hc) fun c hc' => ?_)
  subst hc'
  exact Evp.bind (eq_cls hc) fun e he => Evp.yes he (Evp.pure _ rfl)
theorem sz_shape {x0 : Bool} {l1 l2 : List Int} {a : Int} (h0 : 0 ≤ a) (h1 : a ≤ 1048576) (hl1 : l1.length ≤ 9223372036854775807) (hl2 : l2.length ≤ 9223372036854775807) :
    ∃ t, laws_szShape.f x0 l1 l2 a = some t ∧ (0 ≤ t → t ≤ a ∧ l1.length ≤ 1048576 ∧ l2.length ≤ 1048576) := by
  unfold laws_szShape.f
  obtain ⟨t, ht, ht2⟩ := sz_ints (l := l1) h0 h1 hl1
  rw [ht, Option.bind_some]
  by_cases h : t < 0
  · rw [if_pos h]; exact ⟨_, rfl, by omega⟩
  · rw [if_neg h]
    obtain ⟨q, hq, hq2⟩ := sz_ints (l := l2) (a := t) (by omega) (by omega) hl2
    rw [hq, Option.bind_some]
    by_cases h' : q < 0
    · rw [if_pos h']; exact ⟨_, rfl, by omega⟩
    · rw [if_neg h']; exact ⟨_, rfl, by omega⟩
theorem to_shape {x0 : Bool} {l1 l2 : List Int} (hl1 : l1.length ≤ 1048576) (hl2 : l2.length ≤ 1048576) : Evp (fun k => laws_toShape.f k x0 l1 l2) (fun r => r = (x0, l1, l2)) := by
  unfold laws_toShape.f
  exact Evp.bind (to_ints hl1) fun a ha => Evp.bind (to_ints hl2) fun b hb => Evp.pure _ (by rw [ha, hb])
theorem eq_shape {x0 : Bool} {l1 l2 : List Int} (hl1 : l1.length ≤ 1048576) (hl2 : l2.length ≤ 1048576) : Evp (fun k => laws_eqShape.f k x0 l1 l2 x0 l1 l2) (fun r => r = true) := by
  unfold laws_eqShape.f
  exact Evp.no (by simp) (Evp.bind (eq_ints hl1) fun a ha => Evp.yes ha (Evp.bind (eq_ints hl2) fun b hb => Evp.yes hb (Evp.pure _ rfl)))
end Go.Proofs.Ytgmjolngnhdafaa.Kit

end
section
namespace Go.Proofs.Ytgmjolngnhdafaa.Kit
open Go Go.RowKit Go.Proofs.YtgmjolngnhdafaaW.PrintWords Go.Proofs.Ytgmjolngnhdafaa.P
set_option linter.unusedVariables false
theorem rd_set {xs : List Int} {i : Nat} (hi : i < xs.length) (v : Int) (j : Nat) : rd (xs.set (i : Int).toNat v) (j : Int) = if j = i then v else rd xs (j : Int) := by
  show (xs.set (i : Int).toNat v).getD (j : Int).toNat 0 = if j = i then v else xs.getD (j : Int).toNat 0
  rw [Int.toNat_natCast, Int.toNat_natCast, List.getD_eq_getElem?_getD, List.getD_eq_getElem?_getD]
  split
  · rename_i h; subst h
    rw [List.getElem?_set_self hi]; rfl
  · rename_i h
    rw [List.getElem?_set_ne (fun e => h e.symm)]
theorem markInts_evp {l : List Int} (hl : l.length ≤ 1048576) {a : Int} (h0 : 0 ≤ a) (h1 : a ≤ 4611686018427387904) :
    Evp (fun k => laws_markIntS.f k l a) (fun r => r.1 = a + (l.length : Int) ∧ r.2.length = l.length ∧ ∀ j : Nat, j < l.length → rd r.2 (j : Int) = a + (j : Int)) := by
  unfold laws_markIntS.f
  have key : ∀ d i : Nat, i + d = l.length → ∀ (xs : List Int) (b : Int), b = a + (i : Int) → xs.length = l.length → (∀ j : Nat, j < i → rd xs (j : Int) = a + (j : Int)) → Evp (fun k => laws_markIntS.l0 k xs b (i : Int)) (fun r => r.1 = a + (l.length : Int) ∧ r.2.length = l.length ∧ ∀ j : Nat, j < l.length → rd r.2 (j : Int) = a + (j : Int)) := by
    intro d
    induction d with
    | zero =>
      intro i hi xs b hb hx hr
      refine Evp.step (f := fun k => _) (fun k => by rw [laws_markIntS.l0]) (Evp.no (by omega) (Evp.pure _ ⟨?_, hx, fun j hj => hr j (by omega)⟩))
      show b = _
      omega
    | succ d ih =>
      intro i hi xs b hb hx hr
      refine Evp.step (f := fun k => _) (fun k => by rw [laws_markIntS.l0]) (Evp.yes (by omega) (Evp.yes (by omega) ?_))
      rw [w64 (n := b + 1) (by omega) (by omega), w64' (n := l.length) (by omega) (by omega)]
      refine ih (i + 1) (by omega) _ _ (by omega) (by rw [List.length_set]; exact hx) (fun j hj => ?_)
      rw [rd_set (by omega)]
      split
      · rename_i h; subst h; exact hb
      · exact hr j (by omega)
  exact key l.length 0 (by omega) l a (by omega) rfl (fun j hj => absurd hj (Nat.not_lt_zero _))
theorem held_evp {l : List Int} (hl : l.length ≤ 1048576) {a : Int} (h0 : 0 ≤ a) (h1 : a ≤ 4611686018427387904) (h : ∀ j : Nat, j < l.length → rd l (j : Int) = a + (j : Int)) :
    Evp (fun k => laws_heldIntS.f k l a) (fun r => r = a + (l.length : Int)) := by
  unfold laws_heldIntS.f
  have key : ∀ d i : Nat, i + d = l.length → ∀ b : Int, b = a + (i : Int) → Evp (fun k => laws_heldIntS.l0 k l b (i : Int)) (fun r => r = a + (l.length : Int)) := by
    intro d
    induction d with
    | zero =>
      intro i hi b hb
      exact Evp.step (f := fun k => _) (fun k => by rw [laws_heldIntS.l0]) (Evp.no (by omega) (Evp.pure _ (by omega)))
    | succ d ih =>
      intro i hi b hb
      refine Evp.step (f := fun k => _) (fun k => by rw [laws_heldIntS.l0]) (Evp.yes (by omega) (Evp.yes (by omega) (Evp.yes (by rw [h i (by omega)]; omega) ?_)))
      rw [w64 (n := b + 1) (by omega) (by omega), w64' (n := l.length) (by omega) (by omega)]
      exact ih (i + 1) (by omega) _ (by omega)
  exact key l.length 0 (by omega) a (by omega)
theorem flds_set {xs : List Cls} {i : Nat} (hi : i < xs.length) (v : Cls) (j : Nat) : flds (xs.set i v) j = if j = i then v.f1 else flds xs j := by
  unfold flds
  rw [List.getD_eq_getElem?_getD, List.getD_eq_getElem?_getD]
  split
  · rename_i h; subst h
    rw [List.getElem?_set_self hi]; rfl
  · rename_i h
    rw [List.getElem?_set_ne (fun e => h e.symm)]
theorem markCls_evp {cs : List Cls} (hs : SmallC cs) : Evp (fun k => laws_markClassS.f k cs 1) (fun r => 1 ≤ r) := by
  have hl0 := hs.1
  unfold laws_markClassS.f
  have key : ∀ d i : Nat, i + d = cs.length → ∀ (xs : List Cls) (a : Int), xs.length = cs.length → (∀ j, j < xs.length → (flds xs j).length ≤ 1048576) → 1 ≤ a → a + (d : Int) * 1048577 ≤ 4611686018427387904 → Evp (fun k => laws_markClassS.l0 k xs a (i : Int)) (fun r => 1 ≤ r) := by
    intro d
    induction d with
    | zero =>
      intro i hi xs a hx hf h1 h2
      exact Evp.step (f := fun k => _) (fun k => by rw [laws_markClassS.l0]) (Evp.no (by omega) (Evp.pure _ h1))
    | succ d ih =>
      intro i hi xs a hx hf h1 h2
      have hil : i < xs.length := by omega
      have hfi := hf i hil
      refine Evp.step (f := fun k => _) (fun k => by rw [laws_markClassS.l0, rdFlds]) (Evp.yes (by omega) (Evp.yes (by omega) ?_))
      rw [w64 (n := a + 1) (by omega) (by omega), w64' (n := cs.length) (by omega) (by omega)]
      refine Evp.bind (markInts_evp hfi (by omega) (by omega)) fun p hp => ?_
      refine ih (i + 1) (by omega) _ _ (by rw [List.length_set, List.length_set]; exact hx) (fun j hj => ?_) (by rw [hp.1]; omega) (by rw [hp.1]; omega)
      rw [List.length_set, List.length_set] at hj
      rw [Int.toNat_natCast, flds_set (by rw [List.length_set]; exact hil), flds_set hil]
      split
      · show p.2.length ≤ _
        rw [hp.2.1]; exact hfi
      · exact hf j hj
  exact key cs.length 0 (by omega) cs 1 rfl (fun j hj => (hs.2 j hj).1) (by omega) (by omega)
end Go.Proofs.Ytgmjolngnhdafaa.Kit

end
section
namespace Go.Proofs.Ytgmjolngnhdafaa.Pure
open Go Go.RowKit Go.Proofs.YtgmjolngnhdafaaW.PrintWords Go.Proofs.Ytgmjolngnhdafaa.P Go.Proofs.Ytgmjolngnhdafaa.Kit
theorem FnExactClassFields : laws_FnExactClassFields.Pure := by
  intro l0 a w0 wa
  refine Evp.rounds ?_
  unfold laws_FnExactClassFields.f
  refine Evp.bind (sz_cls w0.1 w0.2) fun t ht => Evp.ite (fun _ => Evp.pure _ rfl) (fun h => ?_)
  have hc := (ht (by omega)).2
  refine Evp.bind (to_cls hc) fun x hx => ?_
  subst hx
  refine Evp.bind (spec_ClassFields' hc a) fun u hu => Evp.bind (to_cls hc) fun y hy => ?_
  subst hy
  refine Evp.bind (impl_ClassFields' hc a) fun v hv => ?_
  have e := hv.fn hu
  subst e
  have hl : v.length ≤ 1048576 := Nat.le_trans hv.1 (by decide)
  have hv10 := hv.1
  refine Evp.bind (eq_ints hl) fun t1 h1 => Evp.yes h1 (Evp.bind (to_cls hc) fun z hz => ?_)
  subst hz
  refine Evp.bind (eq_cls hc) fun t2 h2 => Evp.yes h2 (Evp.bind (markCls_evp hc) fun t3 h3 => Evp.no (by omega) (Evp.bind (eq_ints hl) fun t4 h4 => ?_))
  rw [h4]
  refine Evp.step (f := fun k => _) (fun k => by rw [laws_FnExactClassFields.j0]) (Evp.no (by decide) ?_)
  refine Evp.bind (markInts_evp hl (by decide) (by decide)) fun m hm => ?_
  have hml : m.2.length ≤ 1048576 := by rw [hm.2.1]; exact hl
  have held : Evp (fun k => laws_heldIntS.f k m.2 1) (fun r => r = 1 + (m.2.length : Int)) := held_evp hml (by decide) (by decide) (fun j hj => hm.2.2 j (by rw [← hm.2.1]; exact hj))
  have e1 := hm.1
  have e2 := hm.2.1
  refine Evp.bind held fun q hq => Evp.no (by omega) (Evp.yes (by omega) (Evp.bind (to_cls hc) fun z hz => ?_))
  subst hz
  refine Evp.bind (impl_ClassFields' hc a) fun v' hv' => ?_
  rw [hv'.fn hu]
  refine Evp.bind (eq_ints hl) fun t5 h5 => Evp.yes h5 (Evp.bind held fun q' hq' => Evp.no (by omega) (Evp.yes (by omega) (Evp.pure _ rfl)))
end Go.Proofs.Ytgmjolngnhdafaa.Pure

end
section
namespace Go.Proofs.Ytgmjolngnhdafaa.fnExactClassFields
open Go Go.ChangeShapes Go.WideShapes Go.ChangeAt Go.RowKit Go.Proofs.YtgmjolngnhdafaaW.PrintWords Go.Proofs.Ytgmjolngnhdafaa.P Go.Proofs.Ytgmjolngnhdafaa.Open
set_option linter.unusedVariables false
theorem own : ownKnob Try.prog.godebug = none := by kernel_rfl
theorem laidOut : laidOutB Try.prog = true := by kernel_rfl
set_option maxRecDepth 100000 in
theorem lifted (os : Os) (started : os.Started) (H : Type) (enc : TypeId × Value → H) :
    ReturnsInHanded {} Try.checked os 10 .any (Rows.fnExactClassFieldsSpec.pre6 enc Try.prog Try.f10 Rows.fnExactClassFieldsRow.domain false) (Rows.fnExactClassFieldsSpec.post enc Try.prog Try.f10 false true false false) := by
  refine returnsInHanded_of_change_sized (C := Try.checked) own started (by kernel_rfl) Try.func10
    (ChangeSpec.witness6 (enc := enc) (C := Try.checked) false ⟨#[], #[.slice none 0 0, .int .i64 0], []⟩ 8 (by kernel_rfl) (by kernel_rfl) (by kernel_rfl) (by kernel_rfl)) ?_
  intro W base args ds gs before hval0 hW hcnd hsz0 _
  have hval : ∀ (j : Nat) t v, Try.f10.params[j]? = some t → args[j]? = some v → Value.okWide Try.prog W .any base t v := hval0
  have hW' := hW
  obtain ⟨p, q, hA0, hV, rfl, hfz, hnd⟩ := hW
  have hA : DataW.TrodAll enc Try.prog W 0 (fun _ => true) true Try.f10.params.toList args.toList ds p := hA0
  rw [Try.params10] at hA hval
  obtain ⟨v0, vs0, d0, ds0, p0, q0, hargs, rfl, rfl, h0, r0⟩ := trodAll_cons hA
  obtain ⟨v1, vs1, d1, ds1, p1, q1, rfl, rfl, rfl, h1, r1⟩ := trodAll_cons r0
  obtain ⟨rfl, rfl, rfl⟩ := trodAll_nil r1
  obtain rfl : args = #[v0, v1] := by cases args; simp_all
  obtain ⟨rfl, rfl⟩ := trodVars_none hV
  have k0 := h0
  have lt0 : ∀ x ∈ p0, x.block < W.heap.size := by obtain ⟨m, hm⟩ := k0; exact DataW.trod_lt m _ _ _ hm
  obtain ⟨l0, g0, wf0⟩ := opens_arg (v := v0) h0 (opens_slice Try.underlying22 (by kernel_rfl) (opens63 H enc W 0 (fun _ => true) true))
  obtain ⟨a0, len0, cap0, rfl⟩ := okWide_slice Try.underlying22 (hval 0 22 v0 rfl rfl)
  obtain ⟨A0, c0, e0, hc0, hr0⟩ := g0
  simp only [Value.cells, List.cons.injEq, Value.slice.injEq, and_true] at e0
  obtain ⟨rfl, rfl, rfl⟩ := e0
  obtain ⟨a1, rfl, rfl, rfl, w1⟩ := open_int Try.underlying3 (hval 1 3 v1 rfl rfl) h1
  clear hA0 hval0 hsz0
  obtain ⟨k, h⟩ := Pure.FnExactClassFields l0 a1 wf0 w1
  refine (laws_FnExactClassFields.calls k _ _ l0 a1 true W hr0 hc0 h rfl).mono fun e W' ⟨he, bel⟩ => ?_
  subst he
  exact ⟨_, rfl, _, _, _, [], _, [], hW', trodAll_mk1 (shut_bool Try.underlying4 _), (trodAll_cons_mk (Below.trod laidOut (by kernel_rfl) (of_decide_eq_true (by kernel_rfl)) k0 bel lt0) (trodAll_cons_mk (shut_int Try.underlying3 w1) trodAll_mk0)), rfl, bel.frame _, fun h => by cases h⟩
theorem over : Rows.fnExactClassFieldsRow.holds Try.pinned (OpenSpec.ofChange Rows.fnExactClassFieldsSpec) :=
  OpenClaim.holds_of_wide 10 Try.f10 rfl rfl rfl rfl rfl rfl rfl ⟨rfl, rfl, rfl, rfl, rfl⟩ rfl rfl rfl rfl rfl (by kernel_rfl) Try.func10 (by show joinedFacts Try.prog _ _ _ _ = true; unfold joinedFacts; rw [Go.Proofs.Ytgmjolngnhdafaa.enter, Go.Proofs.Ytgmjolngnhdafaa.make, Go.Proofs.Ytgmjolngnhdafaa.lifts]; kernel_rfl)
    (of_decide_eq_true (by kernel_rfl)) (by unfold Func.isWrapper; first | (rw [if_pos (by decide +kernel)]; kernel_rfl) | (rw [if_neg (by decide +kernel)]; exact ⟨rfl, rfl⟩))
    (fun os started H enc _ => lifted os started H enc)
theorem proved : Rows.FnExactClassFieldsSaid := over
end Go.Proofs.Ytgmjolngnhdafaa.fnExactClassFields
namespace Go.Proofs.Ytgmjolngnhdafaa
/-- The row, under a short name, for the claim. -/
theorem fnExactClassFields_holds : Rows.FnExactClassFieldsSaid := fnExactClassFields.proved
end Go.Proofs.Ytgmjolngnhdafaa

end
