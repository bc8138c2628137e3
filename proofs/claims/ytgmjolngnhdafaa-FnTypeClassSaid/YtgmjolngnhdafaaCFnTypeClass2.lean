/- A part of the claim FnTypeClass: texts of this session and texts that its program printed out of the translation, joined. -/
import Derived.Test.YtgmjolngnhdafaaCFnTypeClass0
import Derived.Test.YtgmjolngnhdafaaCFnTypeClass1
import Derived.Outline
import Derived.Test.YtgmjolngnhdafaaWMore
section
namespace Go.Proofs.Ytgmjolngnhdafaa.P
open Go.RowKit Go.Proofs.YtgmjolngnhdafaaW.PrintWords Go.Proofs.YtgmjolngnhdafaaW.PrintLast Go.Proofs.YtgmjolngnhdafaaW.PrintMore
attribute [local go_sem] max2_int min2_int max_two min_two max_three min_three max_four min_four
set_option linter.unusedVariables false
set_option linter.unusedSimpArgs false

set_option maxHeartbeats 8000000 in
set_option maxRecDepth 100000 in
theorem impl_ClassesOk.calls (k : Nat) (A0 : Option Addr) (c0 : Nat) (l0 : List (S38)) (r : Bool) (w : World) (hr0 : Kd.C k38 w A0 l0.length l0) (hc0 : l0.length ≤ c0) (h : impl_ClassesOk.f k l0 = some r) :
    Calls Try.prog 23 #[.slice A0 l0.length c0] w fun e w' => e = .returned (.bool r) ∧ Below w.heap.size w w' := by
  have hu38 := Try.underlying38
  have HR0 := Aside0.mk hr0
  have HC0 := Aside0.mk hc0
  clear hr0 hc0
  have HB := Aside0.mk (Below.refl w.heap.size w)
  have H : (if (l0.length : Int) < 2 then (impl_ClassesOk.j0 k l0 true) else (impl_ClassesOk.j0 k l0 (decide ((l0.length : Int) > 5)))) = some r := h
  clear h
  have HC2 := Aside0.mk H
  clear H
  go_enter Try.func23, Try.ntmps23
  go_upto_region 1 with (fail)
  go_cut [15] (fun v15 wc => ∃ (kq : Nat) (x15_1 : Bool), v15 = .bool x15_1 ∧ Aside0 (impl_ClassesOk.j0 kq l0 x15_1 = some r) ∧ Aside0 (kq ≤ k) ∧ Aside0 (Below w.heap.size w wc))
  case first =>
    have H := HC2.out
    clear HC2
    by_cases c3 : (l0.length : Int) < 2
    · rw [if_pos c3] at H
      have c3b0 : decide ((l0.length : Int) < 2) = true := decide_eq_true c3
      have c3b1 : decide (l0.length < 2) = true := decide_eq_true (by omega)
      clear c3
      (first | rw [c3b0] | (simp only [i64_w, i32_w]; rw [c3b0]) | skip)
      have H' := Aside0.mk H
      clear H
      go_wp2
      go_meet
      case rel => exact ⟨_, (true), (by first | rfl | (simp; done) | (simp [*]; done)), H', ⟨by first | omega | exact Nat.le_refl _⟩, ⟨by repeat (first | (with_reducible first | exact HB.out | apply below_alloc | apply pw_below_drewN | apply below_drew1) | exact HB.out)⟩⟩
    · rw [if_neg c3] at H
      have c3b0 : decide ((l0.length : Int) < 2) = false := decide_eq_false c3
      have c3b1 : decide (l0.length < 2) = false := decide_eq_false (by omega)
      clear c3
      (first | rw [c3b0] | (simp only [i64_w, i32_w]; rw [c3b0]) | skip)
      have H' := Aside0.mk H
      clear H
      go_wp2
      go_meet
      case rel => exact ⟨_, (decide ((l0.length : Int) > 5)), (by first | rfl | (simp; done) | (simp [*]; done)), H', ⟨by first | omega | exact Nat.le_refl _⟩, ⟨by repeat (first | (with_reducible first | exact HB.out | apply below_alloc | apply pw_below_drewN | apply below_drew1) | exact HB.out)⟩⟩
  case rest =>
    clear HC2
    try clear c2
    try clear p2
    try clear c3
    try clear c3b0
    try clear c3b1
    obtain ⟨kq, x15_1, rfl, HA, HJ1, HB⟩ := hcut
    cases kq with
    | zero => exact absurd HA.out (by simp [impl_ClassesOk.j0])
    | succ kj1 =>
      have H := HA.out
      clear HA
      simp only [impl_ClassesOk.j0] at H
      by_cases c4 : x15_1 = true
      · subst c4
        have H1 : (some false) = some r := by rw [if_pos rfl] at H; exact H
        clear H
        have H := H1
        clear H1
        obtain rfl := Option.some.inj H
        simp only [Option.some.injEq, Prod.mk.injEq] at H
        obtain ⟨rfl⟩ := H
        go_wp2
        go_ret
        exact ⟨by first | rfl | (simp [errW_none, errW_some] <;> rfl) | (simp [*, errW_none, errW_some] <;> rfl), by repeat (first | (with_reducible first | exact HB.out | apply below_alloc | apply pw_below_drewN | apply below_drew1) | exact HB.out)⟩
      · replace c4 := Bool.eq_false_iff.mpr c4
        subst c4
        have H1 : (if 0 < (l0.length : Int) then (if ((rd_T38 l0 0).f0) = (-1) then (impl_ClassesOk.j1 kj1 l0 ((((rd_T38 l0 0).f1).length : Int) != 0)) else (impl_ClassesOk.j1 kj1 l0 true)) else (none)) = some r := by rw [if_neg (show ¬ (false = true) by decide)] at H; exact H
        clear H
        have H := H1
        clear H1
        have HC5 := Aside0.mk H
        clear H
        go_upto_region 3 with (fail)
        go_cut [28] (fun v28 wc => ∃ (kq : Nat) (x28_4 : Bool), v28 = .bool x28_4 ∧ Aside0 (impl_ClassesOk.j1 kq l0 x28_4 = some r) ∧ Aside0 (kq ≤ kj1) ∧ Aside0 (Below w.heap.size w wc))
        case first =>
          have H := HC5.out
          clear HC5
          by_cases c6 : 0 < (l0.length : Int)
          · rw [if_pos c6] at H
            have c6b0 : decide (0 < (l0.length : Int)) = true := decide_eq_true c6
            have c6b1 : decide (0 < l0.length) = true := decide_eq_true (by omega)
            clear c6
            (first | rw [c6b0] | (simp only [i64_w, i32_w]; rw [c6b0]) | skip)
            by_cases c7 : ((rd_T38 l0 0).f0) = (-1)
            · rw [if_pos c7] at H
              have c7b0 : (((rd_T38 l0 0).f0) == (-1)) = true := beq_iff_eq.mpr c7
              have c7b1 : (((rd_T38 l0 0).f0) != (-1)) = false := bne_eq_false_iff_eq.mpr c7
              clear c7
              have H' := Aside0.mk H
              clear H
              have p134 : 0 ≤ (0 : Int) := (by omega)
              have q134 : 0 < (l0.length : Int) := of_decide_eq_true (by first | (with_reducible assumption) | assumption)
              obtain ⟨ad134, A134_1, c134_1, e134, hx134_0, hx134_1, hl134_1, hi134_1⟩ := at_T38 HR0.out 0 p134 q134
              cases e134
              have qi134 : (0 < l0.length) = True := eq_true (by omega)
              (try rw [show ((0 : Int)).toNat = 0 from rfl] at hx134_0)
              (try rw [show 0 * 2 = 0 from rfl] at hx134_0)
              (try rw [Addr.add_zero'] at hx134_0)
              (try rw [show ((0 : Int)).toNat = 0 from rfl] at hx134_1)
              (try rw [show 0 * 2 = 0 from rfl] at hx134_1)
              (try rw [Addr.add_zero'] at hx134_1)
              replace hx134_0 := (HB.out.cell (World.block_lt_of_cell? w _ hx134_0)).trans hx134_0
              replace hx134_1 := (HB.out.cell (World.block_lt_of_cell? w _ hx134_1)).trans hx134_1
              have HR134_1 := Aside0.mk hi134_1
              have HC134_1 := Aside0.mk hl134_1
              clear hi134_1 hl134_1
              replace p134 := eq_true p134
              replace q134 := eq_true q134
              have p135 : 0 ≤ (0 : Int) := (by omega)
              have q135 : 0 < (l0.length : Int) := of_decide_eq_true (by first | (with_reducible assumption) | assumption)
              obtain ⟨ad135, A135_1, c135_1, e135, hx135_0, hx135_1, hl135_1, hi135_1⟩ := at_T38 HR0.out 0 p135 q135
              obtain rfl : ad134 = ad135 := (by injection e135)
              have qi135 : (0 < l0.length) = True := eq_true (by omega)
              (try rw [show ((0 : Int)).toNat = 0 from rfl] at hx135_0)
              (try rw [show 0 * 2 = 0 from rfl] at hx135_0)
              (try rw [Addr.add_zero'] at hx135_0)
              (try rw [show ((0 : Int)).toNat = 0 from rfl] at hx135_1)
              (try rw [show 0 * 2 = 0 from rfl] at hx135_1)
              (try rw [Addr.add_zero'] at hx135_1)
              replace hx135_0 := (HB.out.cell (World.block_lt_of_cell? w _ hx135_0)).trans hx135_0
              replace hx135_1 := (HB.out.cell (World.block_lt_of_cell? w _ hx135_1)).trans hx135_1
              have HR135_1 := Aside0.mk hi135_1
              have HC135_1 := Aside0.mk hl135_1
              clear hi135_1 hl135_1
              replace p135 := eq_true p135
              replace q135 := eq_true q135
              have ea_ := Option.some.inj (hx134_1.symm.trans hx135_1)
              injection ea_ with ea_ en_ ec_
              subst ea_
              subst ec_
              clear en_
              go_wp2
              go_meet
              case rel => exact ⟨_, (((((rd_T38 l0 0).f1).length : Int) != 0)), (by first | rfl | (simp; done) | (simp [*]; done)), H', ⟨by have := HJ1.out; first | omega | exact Nat.le_refl _⟩, ⟨by repeat (first | (with_reducible first | exact HB.out | apply below_alloc | apply pw_below_drewN | apply below_drew1) | exact HB.out)⟩⟩
            · rw [if_neg c7] at H
              have c7b0 : (((rd_T38 l0 0).f0) == (-1)) = false := beq_eq_false_iff_ne.mpr c7
              have c7b1 : (((rd_T38 l0 0).f0) != (-1)) = true := bne_iff_ne.mpr c7
              have H' := Aside0.mk H
              clear H
              have p134 : 0 ≤ (0 : Int) := (by omega)
              have q134 : 0 < (l0.length : Int) := of_decide_eq_true (by first | (with_reducible assumption) | assumption)
              obtain ⟨ad134, A134_1, c134_1, e134, hx134_0, hx134_1, hl134_1, hi134_1⟩ := at_T38 HR0.out 0 p134 q134
              cases e134
              have qi134 : (0 < l0.length) = True := eq_true (by omega)
              (try rw [show ((0 : Int)).toNat = 0 from rfl] at hx134_0)
              (try rw [show 0 * 2 = 0 from rfl] at hx134_0)
              (try rw [Addr.add_zero'] at hx134_0)
              (try rw [show ((0 : Int)).toNat = 0 from rfl] at hx134_1)
              (try rw [show 0 * 2 = 0 from rfl] at hx134_1)
              (try rw [Addr.add_zero'] at hx134_1)
              replace hx134_0 := (HB.out.cell (World.block_lt_of_cell? w _ hx134_0)).trans hx134_0
              replace hx134_1 := (HB.out.cell (World.block_lt_of_cell? w _ hx134_1)).trans hx134_1
              have HR134_1 := Aside0.mk hi134_1
              have HC134_1 := Aside0.mk hl134_1
              clear hi134_1 hl134_1
              replace p134 := eq_true p134
              replace q134 := eq_true q134
              go_wp2
              go_meet
              case rel => exact ⟨_, (true), (by first | rfl | (simp; done) | (simp [*]; done)), H', ⟨by have := HJ1.out; first | omega | exact Nat.le_refl _⟩, ⟨by repeat (first | (with_reducible first | exact HB.out | apply below_alloc | apply pw_below_drewN | apply below_drew1) | exact HB.out)⟩⟩
          · rw [if_neg c6] at H
            exact absurd H (by simp)
        case rest =>
          clear HC5
          try clear c1
          try clear p1
          try clear q1
          try clear hx1
          try clear qi1
          try clear c2
          try clear p2
          try clear c3
          try clear c3b0
          try clear c3b1
          try clear c4
          try clear c6
          try clear c6b0
          try clear c6b1
          try clear c7
          try clear c7b0
          try clear c7b1
          try clear hx134_0
          try clear hx134_1
          try clear hx135_0
          try clear hx135_1
          try clear p134
          try clear p135
          try clear p2
          try clear q134
          try clear q135
          obtain ⟨kq, x28_4, rfl, HA, HJ4, HB⟩ := hcut
          cases kq with
          | zero => exact absurd HA.out (by simp [impl_ClassesOk.j1])
          | succ kj4 =>
            have H := HA.out
            clear HA
            simp only [impl_ClassesOk.j1] at H
            by_cases c8 : x28_4 = true
            · subst c8
              have H1 : (some false) = some r := by rw [if_pos rfl] at H; exact H
              clear H
              have H := H1
              clear H1
              obtain rfl := Option.some.inj H
              simp only [Option.some.injEq, Prod.mk.injEq] at H
              obtain ⟨rfl⟩ := H
              go_wp2
              go_ret
              exact ⟨by first | rfl | (simp [errW_none, errW_some] <;> rfl) | (simp [*, errW_none, errW_some] <;> rfl), by repeat (first | (with_reducible first | exact HB.out | apply below_alloc | apply pw_below_drewN | apply below_drew1) | exact HB.out)⟩
            · replace c8 := Bool.eq_false_iff.mpr c8
              subst c8
              have H1 : (if 1 < (l0.length : Int) then (if ((rd_T38 l0 1).f0) = 0 then (if (((rd_T38 l0 1).f1).length : Int) = 1 then (if 0 < (((rd_T38 l0 1).f1).length : Int) then (impl_ClassesOk.j2 kj4 l0 ((rd ((rd_T38 l0 1).f1) 0) != 1)) else (none)) else (impl_ClassesOk.j2 kj4 l0 true)) else (impl_ClassesOk.j2 kj4 l0 true)) else (none)) = some r := by rw [if_neg (show ¬ (false = true) by decide)] at H; exact H
              clear H
              have H := H1
              clear H1
              by_cases c9 : 1 < (l0.length : Int)
              · rw [if_pos c9] at H
                have c9b0 : decide (1 < (l0.length : Int)) = true := decide_eq_true c9
                have c9b1 : decide (1 < l0.length) = true := decide_eq_true (by omega)
                clear c9
                have HC10 := Aside0.mk H
                clear H
                have p136 : 0 ≤ (1 : Int) := (by omega)
                have q136 : 1 < (l0.length : Int) := of_decide_eq_true (by first | (with_reducible assumption) | assumption)
                obtain ⟨ad136, A136_1, c136_1, e136, hx136_0, hx136_1, hl136_1, hi136_1⟩ := at_T38 HR0.out 1 p136 q136
                cases e136
                (try simp only [show (1 : Int).toNat = 1 from rfl, Nat.reduceMul, Nat.reduceEqDiff, Go.Addr.add, ↓reduceIte] at hx136_0)
                (try simp only [show (1 : Int).toNat = 1 from rfl, Nat.reduceMul, Nat.reduceEqDiff, Go.Addr.add, ↓reduceIte] at hx136_1)
                have qi136 : (1 < l0.length) = True := eq_true (by omega)
                (try rw [show ((1 : Int)).toNat = 1 from rfl] at hx136_0)
                (try rw [show 1 * 2 = 2 from rfl] at hx136_0)
                (try rw [show ((1 : Int)).toNat = 1 from rfl] at hx136_1)
                (try rw [show 1 * 2 = 2 from rfl] at hx136_1)
                replace hx136_0 := (HB.out.cell (World.block_lt_of_cell? w _ hx136_0)).trans hx136_0
                replace hx136_1 := (HB.out.cell (World.block_lt_of_cell? w _ hx136_1)).trans hx136_1
                have HR136_1 := Aside0.mk hi136_1
                have HC136_1 := Aside0.mk hl136_1
                clear hi136_1 hl136_1
                replace p136 := eq_true p136
                replace q136 := eq_true q136
                go_upto_region 6 with (first | ((with_reducible refine gate_dst (N := 3) rfl ?_); (try (refine gate_guard (by rfl) ?_; dsimp only)); refine box_event ?hg (N := 3) ?hd (cs := #[.int .i64 0, .slice none 0 0]) (t := 38) ?hr ?_; (case hd => rfl); (case hg => rfl); (case hr => first | (go_simp; done) | (go_simp; rfl)); intro gb137 hg w11 hbox hb; have n0_ := Aside0.mk (below_step (by repeat (first | (with_reducible first | exact HB.out | apply below_alloc | apply pw_below_drewN | apply below_drew1) | exact HB.out)) hb); have n1_ := Aside0.mk (hbox); have n2_ := Aside0.mk ((by rw [hg]; exact (below_size (by repeat (first | (with_reducible first | exact HB.out | apply below_alloc | apply pw_below_drewN | apply below_drew1) | exact HB.out))) : w.heap.size ≤ gb137)); have n3_ := Aside0.mk ((by rw [hg]; exact (below_size (by repeat (first | (with_reducible first | exact HB.out | apply below_alloc | apply pw_below_drewN | apply below_drew1) | exact HB.out))) : w.heap.size ≤ gb137)); clear HB; have HB := n0_; have BK137 := n1_; have GW137 := n2_; have GE137 := n3_; clear n0_ n1_ n2_ n3_; clear hb hbox hg; have hcz12_0 : w11.cell? ⟨gb137, 0, none⟩ = some (.int .i64 0) := (blk_cell BK137.out 0).trans rfl; have hcz12_1 : w11.cell? ⟨gb137, 1, none⟩ = some (.slice none 0 0) := (blk_cell BK137.out 1).trans rfl; have hfz12_0 := blk_frozen BK137.out 0; have hfz12_1 := blk_frozen BK137.out 1))
                (try simp only [Act.put, List.setIfInBounds_toArray, List.set_cons_zero, List.set_cons_succ])
                go_cut [47] (fun v47 wc => ∃ (kq : Nat) (x47_9 : Bool), v47 = .bool x47_9 ∧ Aside0 (impl_ClassesOk.j2 kq l0 x47_9 = some r) ∧ Aside0 (kq ≤ kj4) ∧ Aside0 (wc.heap[gb137]? = some (.cells #[.int .i64 ((rd_T38 l0 1).f0), (.slice A136_1 ((rd_T38 l0 1).f1).length c136_1)] 38 (0, 0))) ∧ Aside0 (Below w.heap.size w wc))
                case first =>
                  have H := HC10.out
                  clear HC10
                  by_cases c13 : ((rd_T38 l0 1).f0) = 0
                  · rw [if_pos c13] at H
                    have c13b0 : (((rd_T38 l0 1).f0) == 0) = true := beq_iff_eq.mpr c13
                    have c13b1 : (((rd_T38 l0 1).f0) != 0) = false := bne_eq_false_iff_eq.mpr c13
                    clear c13
                    (first | rw [c13b0] | (simp only [i64_w, i32_w]; rw [c13b0]) | skip)
                    by_cases c14 : (((rd_T38 l0 1).f1).length : Int) = 1
                    · rw [if_pos c14] at H
                      have c14b0 : ((((rd_T38 l0 1).f1).length : Int) == 1) = true := beq_iff_eq.mpr c14
                      have c14b1 : ((((rd_T38 l0 1).f1).length : Int) != 1) = false := bne_eq_false_iff_eq.mpr c14
                      clear c14
                      by_cases c15 : 0 < (((rd_T38 l0 1).f1).length : Int)
                      · rw [if_pos c15] at H
                        have c15b0 : decide (0 < (((rd_T38 l0 1).f1).length : Int)) = true := decide_eq_true c15
                        have c15b1 : decide (0 < ((rd_T38 l0 1).f1).length) = true := decide_eq_true (by omega)
                        clear c15
                        have H' := Aside0.mk H
                        clear H
                        have hcz16_0 : w11.cell? ⟨gb137, 0, none⟩ = some (.int .i64 0) := (blk_cell BK137.out 0).trans rfl
                        have hcz16_1 : w11.cell? ⟨gb137, 1, none⟩ = some (.slice none 0 0) := (blk_cell BK137.out 1).trans rfl
                        have hfz16_0 := blk_frozen BK137.out 0
                        have hfz16_1 := blk_frozen BK137.out 1
                        have p138 : 0 ≤ (0 : Int) := (by omega)
                        have q138 : 0 < (((rd_T38 l0 1).f1).length : Int) := of_decide_eq_true (by first | (with_reducible assumption) | assumption)
                        obtain ⟨ad138, e138, hx138_0⟩ := Kd.at_int HR136_1.out 0 p138 q138
                        cases e138
                        have qi138 : (0 < ((rd_T38 l0 1).f1).length) = True := eq_true (by omega)
                        (try rw [show ((0 : Int)).toNat = 0 from rfl] at hx138_0)
                        (try rw [Addr.add_zero'] at hx138_0)
                        have hn138_0 : ad138.block ≠ gb137 := Nat.ne_of_lt (Nat.lt_of_lt_of_le (by have := World.block_lt_of_cell? _ _ hx138_0; first | rwa [add_block] at this | exact this) GW137.out)
                        have hn138_1 : ad138.block ≠ gb137 := Nat.ne_of_lt (Nat.lt_of_lt_of_le (by have := World.block_lt_of_cell? _ _ hx138_0; first | rwa [add_block] at this | exact this) GW137.out)
                        replace hx138_0 := (HB.out.cell (World.block_lt_of_cell? w _ hx138_0)).trans hx138_0
                        replace hx138_0 := (cell_far (p := ⟨gb137, 0, none⟩) (by first | (rw [add_block]; exact hn138_0) | (show (Addr.add _ _).block ≠ _; rw [add_block]; exact hn138_0) | exact hn138_0) (.int .i64 ((rd_T38 l0 1).f0))).trans hx138_0
                        replace hx138_0 := (cell_far (p := ⟨gb137, 1, none⟩) (by first | (rw [add_block]; exact hn138_1) | (show (Addr.add _ _).block ≠ _; rw [add_block]; exact hn138_1) | exact hn138_1) (.slice (some ad138) ((rd_T38 l0 1).f1).length c136_1)).trans hx138_0
                        clear hn138_0
                        clear hn138_1
                        replace p138 := eq_true p138
                        replace q138 := eq_true q138
                        go_wp2
                        go_meet
                        case rel => exact ⟨_, (((rd ((rd_T38 l0 1).f1) 0) != 1)), (by first | rfl | (simp; done) | (simp [*]; done)), H', ⟨by have := HJ1.out; have := HJ4.out; first | omega | exact Nat.le_refl _⟩, ⟨by (with_reducible repeat (first | refine blk_drewN ?_ _ | refine blk_drew ?_ | refine blk_alloc ?_ _)); refine blk_put (cs := #[.int .i64 ((rd_T38 l0 1).f0), .slice none 0 0]) ?_ 1 _ rfl; (with_reducible repeat (first | refine blk_drewN ?_ _ | refine blk_drew ?_ | refine blk_alloc ?_ _)); refine blk_put (cs := #[.int .i64 0, .slice none 0 0]) ?_ 0 _ rfl; (with_reducible repeat (first | refine blk_drewN ?_ _ | refine blk_drew ?_ | refine blk_alloc ?_ _)); exact BK137.out⟩, ⟨by repeat (first | (with_reducible first | exact HB.out | apply below_alloc | apply pw_below_drewN | apply below_drew1 | refine below_set ?_ GE137.out) | exact HB.out)⟩⟩
                      · rw [if_neg c15] at H
                        exact absurd H (by simp)
                    · rw [if_neg c14] at H
                      have c14b0 : ((((rd_T38 l0 1).f1).length : Int) == 1) = false := beq_eq_false_iff_ne.mpr c14
                      have c14b1 : ((((rd_T38 l0 1).f1).length : Int) != 1) = true := bne_iff_ne.mpr c14
                      have H' := Aside0.mk H
                      clear H
                      have hcz17_0 : w11.cell? ⟨gb137, 0, none⟩ = some (.int .i64 0) := (blk_cell BK137.out 0).trans rfl
                      have hcz17_1 : w11.cell? ⟨gb137, 1, none⟩ = some (.slice none 0 0) := (blk_cell BK137.out 1).trans rfl
                      have hfz17_0 := blk_frozen BK137.out 0
                      have hfz17_1 := blk_frozen BK137.out 1
                      go_wp2
                      go_meet
                      case rel => exact ⟨_, (true), (by first | rfl | (simp; done) | (simp [*]; done)), H', ⟨by have := HJ1.out; have := HJ4.out; first | omega | exact Nat.le_refl _⟩, ⟨by (with_reducible repeat (first | refine blk_drewN ?_ _ | refine blk_drew ?_ | refine blk_alloc ?_ _)); refine blk_put (cs := #[.int .i64 ((rd_T38 l0 1).f0), .slice none 0 0]) ?_ 1 _ rfl; (with_reducible repeat (first | refine blk_drewN ?_ _ | refine blk_drew ?_ | refine blk_alloc ?_ _)); refine blk_put (cs := #[.int .i64 0, .slice none 0 0]) ?_ 0 _ rfl; (with_reducible repeat (first | refine blk_drewN ?_ _ | refine blk_drew ?_ | refine blk_alloc ?_ _)); exact BK137.out⟩, ⟨by repeat (first | (with_reducible first | exact HB.out | apply below_alloc | apply pw_below_drewN | apply below_drew1 | refine below_set ?_ GE137.out) | exact HB.out)⟩⟩
                  · rw [if_neg c13] at H
                    have c13b0 : (((rd_T38 l0 1).f0) == 0) = false := beq_eq_false_iff_ne.mpr c13
                    have c13b1 : (((rd_T38 l0 1).f0) != 0) = true := bne_iff_ne.mpr c13
                    (first | rw [c13b0] | (simp only [i64_w, i32_w]; rw [c13b0]) | skip)
                    have H' := Aside0.mk H
                    clear H
                    have hcz18_0 : w11.cell? ⟨gb137, 0, none⟩ = some (.int .i64 0) := (blk_cell BK137.out 0).trans rfl
                    have hcz18_1 : w11.cell? ⟨gb137, 1, none⟩ = some (.slice none 0 0) := (blk_cell BK137.out 1).trans rfl
                    have hfz18_0 := blk_frozen BK137.out 0
                    have hfz18_1 := blk_frozen BK137.out 1
                    go_wp2
                    go_meet
                    case rel => exact ⟨_, (true), (by first | rfl | (simp; done) | (simp [*]; done)), H', ⟨by have := HJ1.out; have := HJ4.out; first | omega | exact Nat.le_refl _⟩, ⟨by (with_reducible repeat (first | refine blk_drewN ?_ _ | refine blk_drew ?_ | refine blk_alloc ?_ _)); refine blk_put (cs := #[.int .i64 ((rd_T38 l0 1).f0), .slice none 0 0]) ?_ 1 _ rfl; (with_reducible repeat (first | refine blk_drewN ?_ _ | refine blk_drew ?_ | refine blk_alloc ?_ _)); refine blk_put (cs := #[.int .i64 0, .slice none 0 0]) ?_ 0 _ rfl; (with_reducible repeat (first | refine blk_drewN ?_ _ | refine blk_drew ?_ | refine blk_alloc ?_ _)); exact BK137.out⟩, ⟨by repeat (first | (with_reducible first | exact HB.out | apply below_alloc | apply pw_below_drewN | apply below_drew1 | refine below_set ?_ GE137.out) | exact HB.out)⟩⟩
                case rest =>
                  clear HC10
                  try clear c1
                  try clear p1
                  try clear q1
                  try clear hx1
                  try clear qi1
                  try clear c2
                  try clear p2
                  try clear c3
                  try clear c3b0
                  try clear c3b1
                  try clear c4
                  try clear c6
                  try clear c6b0
                  try clear c6b1
                  try clear c7
                  try clear c7b0
                  try clear c7b1
                  try clear c8
                  try clear c9
                  try clear c9b0
                  try clear c9b1
                  try clear c13
                  try clear c13b0
                  try clear c13b1
                  try clear p13
                  try clear q13
                  try clear hx13
                  try clear qi13
                  try clear c14
                  try clear c14b0
                  try clear c14b1
                  try clear c15
                  try clear c15b0
                  try clear c15b1
                  try clear hcz12_0
                  try clear hcz12_1
                  try clear hcz16_0
                  try clear hcz16_1
                  try clear hcz17_0
                  try clear hcz17_1
                  try clear hcz18_0
                  try clear hcz18_1
                  try clear hfz12_0
                  try clear hfz12_1
                  try clear hfz16_0
                  try clear hfz16_1
                  try clear hfz17_0
                  try clear hfz17_1
                  try clear hfz18_0
                  try clear hfz18_1
                  try clear hx134_0
                  try clear hx134_1
                  try clear hx135_0
                  try clear hx135_1
                  try clear hx136_0
                  try clear hx136_1
                  try clear hx138_0
                  try clear p1
                  try clear p134
                  try clear p135
                  try clear p136
                  try clear p138
                  try clear p2
                  try clear q1
                  try clear q134
                  try clear q135
                  try clear q136
                  try clear q138
                  obtain ⟨kq, x47_9, rfl, HA, HJ9, BK137, HB⟩ := hcut
                  cases kq with
                  | zero => exact absurd HA.out (by simp [impl_ClassesOk.j2])
                  | succ kj9 =>
                    have H := HA.out
                    clear HA
                    simp only [impl_ClassesOk.j2] at H
                    by_cases c19 : x47_9 = true
                    · subst c19
                      have H1 : (some false) = some r := by rw [if_pos rfl] at H; exact H
                      clear H
                      have H := H1
                      clear H1
                      obtain rfl := Option.some.inj H
                      simp only [Option.some.injEq, Prod.mk.injEq] at H
                      obtain ⟨rfl⟩ := H
                      go_wp2
                      go_ret
                      exact ⟨by first | rfl | (simp [errW_none, errW_some] <;> rfl) | (simp [*, errW_none, errW_some] <;> rfl), by repeat (first | (with_reducible first | exact HB.out | apply below_alloc | apply pw_below_drewN | apply below_drew1 | refine below_set ?_ GE137.out) | exact HB.out)⟩
                    · replace c19 := Bool.eq_false_iff.mpr c19
                      subst c19
                      have H1 : (impl_ClassesOk.l0 kj9 l0 l0 (l0.length : Int) 0) = some r := by rw [if_neg (show ¬ (false = true) by decide)] at H; exact H
                      clear H
                      have H := H1
                      clear H1
                      have H' := Aside0.mk H
                      clear H
                      go_wp2
                      go_loopg [50] kj9 (fun kq v50 w' => ∃ (x50_4 : Int), v50 = .int .i64 x50_4 ∧ Aside0 (impl_ClassesOk.l0 kq l0 l0 (l0.length : Int) x50_4 = some r) ∧ Aside0 (kq ≤ kj9) ∧ Aside0 (w'.heap[gb137]? = some (.cells #[.int .i64 ((rd_T38 l0 1).f0), (.slice A136_1 ((rd_T38 l0 1).f1).length c136_1)] 38 (0, 0))) ∧ Aside0 (Below w.heap.size w w'))
                      case atStart => exact ⟨(0), (by first | rfl | (simp; done) | (simp [*]; done)), H', ⟨Nat.le_refl _⟩, ⟨by (with_reducible repeat (first | refine blk_drewN ?_ _ | refine blk_drew ?_ | refine blk_alloc ?_ _)); exact BK137.out⟩, ⟨by repeat (first | (with_reducible first | exact HB.out | apply below_alloc | apply pw_below_drewN | apply below_drew1 | refine below_set ?_ GE137.out) | exact HB.out)⟩⟩
                      case round =>
                        clear H'
                        try clear c1
                        try clear p1
                        try clear q1
                        try clear hx1
                        try clear qi1
                        try clear c2
                        try clear p2
                        try clear c3
                        try clear c3b0
                        try clear c3b1
                        try clear c4
                        try clear c6
                        try clear c6b0
                        try clear c6b1
                        try clear c7
                        try clear c7b0
                        try clear c7b1
                        try clear c8
                        try clear c9
                        try clear c9b0
                        try clear c9b1
                        try clear c13
                        try clear c13b0
                        try clear c13b1
                        try clear p13
                        try clear q13
                        try clear hx13
                        try clear qi13
                        try clear c14
                        try clear c14b0
                        try clear c14b1
                        try clear c15
                        try clear c15b0
                        try clear c15b1
                        try clear c19
                        try clear hcz12_0
                        try clear hcz12_1
                        try clear hcz16_0
                        try clear hcz16_1
                        try clear hcz17_0
                        try clear hcz17_1
                        try clear hcz18_0
                        try clear hcz18_1
                        try clear hfz12_0
                        try clear hfz12_1
                        try clear hfz16_0
                        try clear hfz16_1
                        try clear hfz17_0
                        try clear hfz17_1
                        try clear hfz18_0
                        try clear hfz18_1
                        try clear hx134_0
                        try clear hx134_1
                        try clear hx135_0
                        try clear hx135_1
                        try clear hx136_0
                        try clear hx136_1
                        try clear hx138_0
                        try clear p1
                        try clear p13
                        try clear p134
                        try clear p135
                        try clear p136
                        try clear p138
                        try clear p2
                        try clear q1
                        try clear q13
                        try clear q134
                        try clear q135
                        try clear q136
                        try clear q138
                        obtain ⟨x50_4, rfl, HA, HK4, BK137, HB⟩ := hrel
                        cases gk with
                        | zero => exact absurd HA.out (by simp [impl_ClassesOk.l0])
                        | succ k4 =>
                          have H := HA.out
                          clear HA
                          simp only [impl_ClassesOk.l0] at H
                          by_cases c20 : x50_4 < (l0.length : Int)
                          · rw [if_pos c20] at H
                            have c20b0 : decide (x50_4 < (l0.length : Int)) = true := decide_eq_true c20
                            clear c20
                            by_cases c21 : 0 ≤ x50_4
                            · rw [if_pos c21] at H
                              have c21b0 : decide (0 ≤ x50_4) = true := decide_eq_true c21
                              clear c21
                              by_cases c22 : x50_4 < (l0.length : Int)
                              · rw [if_pos c22] at H
                                have c22b0 : decide (x50_4 < (l0.length : Int)) = true := decide_eq_true c22
                                clear c22
                                have HC23 := Aside0.mk H
                                clear H
                                have p139 : 0 ≤ (x50_4 : Int) := of_decide_eq_true (by first | (with_reducible assumption) | assumption)
                                have q139 : x50_4 < (l0.length : Int) := of_decide_eq_true (by first | (with_reducible assumption) | assumption)
                                obtain ⟨ad139, A139_1, c139_1, e139, hx139_0, hx139_1, hl139_1, hi139_1⟩ := at_T38 HR0.out x50_4 p139 q139
                                obtain rfl : ad136 = ad139 := (by injection e139)
                                replace hx139_0 := (HB.out.cell (World.block_lt_of_cell? w _ hx139_0)).trans hx139_0
                                replace hx139_1 := (HB.out.cell (World.block_lt_of_cell? w _ hx139_1)).trans hx139_1
                                have HR139_1 := Aside0.mk hi139_1
                                have HC139_1 := Aside0.mk hl139_1
                                clear hi139_1 hl139_1
                                replace p139 := eq_true p139
                                replace q139 := eq_true q139
                                go_upto_region 11 with (first | ((with_reducible refine gate_dst (N := 5) rfl ?_); (try (refine gate_guard (by rfl) ?_; dsimp only)); refine box_event ?hg (N := 5) ?hd (cs := #[.int .i64 0, .slice none 0 0]) (t := 38) ?hr ?_; (case hd => rfl); (case hg => rfl); (case hr => first | (go_simp; done) | (go_simp; rfl)); intro gb140 hg w24 hbox hb; have n0_ := Aside0.mk (blk_below (g := gb137) (o := .cells #[.int .i64 ((rd_T38 l0 1).f0), .slice A136_1 ((rd_T38 l0 1).f1).length c136_1] 38 (0, 0)) (by (with_reducible repeat (first | refine blk_drewN ?_ _ | refine blk_drew ?_ | refine blk_alloc ?_ _)); exact BK137.out) hb); have n1_ := Aside0.mk (below_step (by repeat (first | (with_reducible first | exact HB.out | apply below_alloc | apply pw_below_drewN | apply below_drew1 | refine below_set ?_ GE137.out) | exact HB.out)) hb); have n2_ := Aside0.mk (hbox); have n3_ := Aside0.mk ((by rw [hg]; exact (below_size (by repeat (first | (with_reducible first | exact HB.out | apply below_alloc | apply pw_below_drewN | apply below_drew1 | refine below_set ?_ GE137.out) | exact HB.out))) : w.heap.size ≤ gb140)); have n4_ := Aside0.mk ((by rw [hg]; exact (below_size (by repeat (first | (with_reducible first | exact HB.out | apply below_alloc | apply pw_below_drewN | apply below_drew1 | refine below_set ?_ GE137.out) | exact HB.out))) : w.heap.size ≤ gb140)); have n5_ := Aside0.mk ((by rw [hg]; exact Nat.ne_of_lt (blk_lt (g := gb137) (o := .cells #[.int .i64 ((rd_T38 l0 1).f0), .slice A136_1 ((rd_T38 l0 1).f1).length c136_1] 38 (0, 0)) (by (with_reducible repeat (first | refine blk_drewN ?_ _ | refine blk_drew ?_ | refine blk_alloc ?_ _)); exact BK137.out)) : gb137 ≠ gb140)); have n6_ := Aside0.mk ((by rw [hg]; exact Nat.ne_of_gt (blk_lt (g := gb137) (o := .cells #[.int .i64 ((rd_T38 l0 1).f0), .slice A136_1 ((rd_T38 l0 1).f1).length c136_1] 38 (0, 0)) (by (with_reducible repeat (first | refine blk_drewN ?_ _ | refine blk_drew ?_ | refine blk_alloc ?_ _)); exact BK137.out)) : gb140 ≠ gb137)); clear BK137; clear HB; have BK137 := n0_; have HB := n1_; have BK140 := n2_; have GW140 := n3_; have GE140 := n4_; have NB137_140 := n5_; have NB140_137 := n6_; clear n0_ n1_ n2_ n3_ n4_ n5_ n6_; clear hb hbox hg; have hnb25 := NB140_137.out; have hnc25 := NB137_140.out; have hcz26_0 : w24.cell? ⟨gb140, 0, none⟩ = some (.int .i64 0) := (blk_cell BK140.out 0).trans rfl; have hcz26_1 : w24.cell? ⟨gb140, 1, none⟩ = some (.slice none 0 0) := (blk_cell BK140.out 1).trans rfl; have hfz26_0 := blk_frozen BK140.out 0; have hfz26_1 := blk_frozen BK140.out 1))
                                (try simp only [Act.put, List.setIfInBounds_toArray, List.set_cons_zero, List.set_cons_succ])
                                go_cut [67] (fun v67 wc => ∃ (kq : Nat) (x67_22 : Bool), v67 = .bool x67_22 ∧ Aside0 (impl_ClassesOk.j4 kq l0 l0 (l0.length : Int) x50_4 x67_22 ((rd_T38 l0 x50_4).f0) ((rd_T38 l0 x50_4).f1) = some r) ∧ Aside0 (kq ≤ k4) ∧ Aside0 (wc.heap[gb137]? = some (.cells #[.int .i64 ((rd_T38 l0 1).f0), (.slice A136_1 ((rd_T38 l0 1).f1).length c136_1)] 38 (0, 0))) ∧ Aside0 (wc.heap[gb140]? = some (.cells #[.int .i64 ((rd_T38 l0 x50_4).f0), (.slice A139_1 ((rd_T38 l0 x50_4).f1).length c139_1)] 38 (0, 0))) ∧ Aside0 (Below w.heap.size w wc))
                                case first =>
                                  have H := HC23.out
                                  clear HC23
                                  by_cases c27 : x50_4 > 1
                                  · rw [if_pos c27] at H
                                    have c27b0 : decide (1 < x50_4) = true := decide_eq_true c27
                                    clear c27
                                    (first | rw [c27b0] | (simp only [i64_w, i32_w]; rw [c27b0]) | skip)
                                    by_cases c28 : ((rd_T38 l0 x50_4).f0) < 0
                                    · rw [if_pos c28] at H
                                      have c28b0 : decide (((rd_T38 l0 x50_4).f0) < 0) = true := decide_eq_true c28
                                      clear c28
                                      have H' := Aside0.mk H
                                      clear H
                                      have hnb29 := NB140_137.out
                                      have hnc29 := NB137_140.out
                                      have hcz30_0 : w24.cell? ⟨gb140, 0, none⟩ = some (.int .i64 0) := (blk_cell BK140.out 0).trans rfl
                                      have hcz30_1 : w24.cell? ⟨gb140, 1, none⟩ = some (.slice none 0 0) := (blk_cell BK140.out 1).trans rfl
                                      have hfz30_0 := blk_frozen BK140.out 0
                                      have hfz30_1 := blk_frozen BK140.out 1
                                      go_wp2
                                      go_meet
                                      case rel => exact ⟨_, (true), (by first | rfl | (simp; done) | (simp [*]; done)), H', ⟨by have := HJ1.out; have := HJ4.out; have := HJ9.out; have := HK4.out; first | omega | exact Nat.le_refl _⟩, ⟨by (with_reducible repeat (first | refine blk_drewN ?_ _ | refine blk_drew ?_ | refine blk_alloc ?_ _)); refine blk_far ?_ NB137_140.out _; (with_reducible repeat (first | refine blk_drewN ?_ _ | refine blk_drew ?_ | refine blk_alloc ?_ _)); refine blk_far ?_ NB137_140.out _; (with_reducible repeat (first | refine blk_drewN ?_ _ | refine blk_drew ?_ | refine blk_alloc ?_ _)); exact BK137.out⟩, ⟨by (with_reducible repeat (first | refine blk_drewN ?_ _ | refine blk_drew ?_ | refine blk_alloc ?_ _)); refine blk_put (cs := #[.int .i64 ((rd_T38 l0 x50_4).f0), .slice none 0 0]) ?_ 1 _ rfl; (with_reducible repeat (first | refine blk_drewN ?_ _ | refine blk_drew ?_ | refine blk_alloc ?_ _)); refine blk_put (cs := #[.int .i64 0, .slice none 0 0]) ?_ 0 _ rfl; (with_reducible repeat (first | refine blk_drewN ?_ _ | refine blk_drew ?_ | refine blk_alloc ?_ _)); exact BK140.out⟩, ⟨by repeat (first | (with_reducible first | exact HB.out | apply below_alloc | apply pw_below_drewN | apply below_drew1 | refine below_set ?_ GE137.out | refine below_set ?_ GE140.out) | exact HB.out)⟩⟩
                                    · rw [if_neg c28] at H
                                      have c28b0 : decide (((rd_T38 l0 x50_4).f0) < 0) = false := decide_eq_false c28
                                      clear c28
                                      have H' := Aside0.mk H
                                      clear H
                                      have hnb31 := NB140_137.out
                                      have hnc31 := NB137_140.out
                                      have hcz32_0 : w24.cell? ⟨gb140, 0, none⟩ = some (.int .i64 0) := (blk_cell BK140.out 0).trans rfl
                                      have hcz32_1 : w24.cell? ⟨gb140, 1, none⟩ = some (.slice none 0 0) := (blk_cell BK140.out 1).trans rfl
                                      have hfz32_0 := blk_frozen BK140.out 0
                                      have hfz32_1 := blk_frozen BK140.out 1
                                      go_wp2
                                      go_meet
                                      case rel => exact ⟨_, (decide (((rd_T38 l0 x50_4).f0) ≥ x50_4)), (by first | rfl | (simp; done) | (simp [*]; done)), H', ⟨by have := HJ1.out; have := HJ4.out; have := HJ9.out; have := HK4.out; first | omega | exact Nat.le_refl _⟩, ⟨by (with_reducible repeat (first | refine blk_drewN ?_ _ | refine blk_drew ?_ | refine blk_alloc ?_ _)); refine blk_far ?_ NB137_140.out _; (with_reducible repeat (first | refine blk_drewN ?_ _ | refine blk_drew ?_ | refine blk_alloc ?_ _)); refine blk_far ?_ NB137_140.out _; (with_reducible repeat (first | refine blk_drewN ?_ _ | refine blk_drew ?_ | refine blk_alloc ?_ _)); exact BK137.out⟩, ⟨by (with_reducible repeat (first | refine blk_drewN ?_ _ | refine blk_drew ?_ | refine blk_alloc ?_ _)); refine blk_put (cs := #[.int .i64 ((rd_T38 l0 x50_4).f0), .slice none 0 0]) ?_ 1 _ rfl; (with_reducible repeat (first | refine blk_drewN ?_ _ | refine blk_drew ?_ | refine blk_alloc ?_ _)); refine blk_put (cs := #[.int .i64 0, .slice none 0 0]) ?_ 0 _ rfl; (with_reducible repeat (first | refine blk_drewN ?_ _ | refine blk_drew ?_ | refine blk_alloc ?_ _)); exact BK140.out⟩, ⟨by repeat (first | (with_reducible first | exact HB.out | apply below_alloc | apply pw_below_drewN | apply below_drew1 | refine below_set ?_ GE137.out | refine below_set ?_ GE140.out) | exact HB.out)⟩⟩
                                  · rw [if_neg c27] at H
                                    have c27b0 : decide (1 < x50_4) = false := decide_eq_false c27
                                    clear c27
                                    (first | rw [c27b0] | (simp only [i64_w, i32_w]; rw [c27b0]) | skip)
                                    have H' := Aside0.mk H
                                    clear H
                                    go_wp2
                                    go_meet
                                    case rel => exact ⟨_, (false), (by first | rfl | (simp; done) | (simp [*]; done)), H', ⟨by have := HJ1.out; have := HJ4.out; have := HJ9.out; have := HK4.out; first | omega | exact Nat.le_refl _⟩, ⟨by (with_reducible repeat (first | refine blk_drewN ?_ _ | refine blk_drew ?_ | refine blk_alloc ?_ _)); refine blk_far ?_ NB137_140.out _; (with_reducible repeat (first | refine blk_drewN ?_ _ | refine blk_drew ?_ | refine blk_alloc ?_ _)); refine blk_far ?_ NB137_140.out _; (with_reducible repeat (first | refine blk_drewN ?_ _ | refine blk_drew ?_ | refine blk_alloc ?_ _)); exact BK137.out⟩, ⟨by (with_reducible repeat (first | refine blk_drewN ?_ _ | refine blk_drew ?_ | refine blk_alloc ?_ _)); refine blk_put (cs := #[.int .i64 ((rd_T38 l0 x50_4).f0), .slice none 0 0]) ?_ 1 _ rfl; (with_reducible repeat (first | refine blk_drewN ?_ _ | refine blk_drew ?_ | refine blk_alloc ?_ _)); refine blk_put (cs := #[.int .i64 0, .slice none 0 0]) ?_ 0 _ rfl; (with_reducible repeat (first | refine blk_drewN ?_ _ | refine blk_drew ?_ | refine blk_alloc ?_ _)); exact BK140.out⟩, ⟨by repeat (first | (with_reducible first | exact HB.out | apply below_alloc | apply pw_below_drewN | apply below_drew1 | refine below_set ?_ GE137.out | refine below_set ?_ GE140.out) | exact HB.out)⟩⟩
                                case rest =>
                                  clear HC23
                                  try clear c1
                                  try clear p1
                                  try clear q1
                                  try clear hx1
                                  try clear qi1
                                  try clear c2
                                  try clear p2
                                  try clear c3
                                  try clear c3b0
                                  try clear c3b1
                                  try clear c4
                                  try clear c6
                                  try clear c6b0
                                  try clear c6b1
                                  try clear c7
                                  try clear c7b0
                                  try clear c7b1
                                  try clear c8
                                  try clear c9
                                  try clear c9b0
                                  try clear c9b1
                                  try clear c13
                                  try clear c13b0
                                  try clear c13b1
                                  try clear p13
                                  try clear q13
                                  try clear hx13
                                  try clear qi13
                                  try clear c14
                                  try clear c14b0
                                  try clear c14b1
                                  try clear c15
                                  try clear c15b0
                                  try clear c15b1
                                  try clear c19
                                  try clear c20
                                  try clear c20b0
                                  try clear c21
                                  try clear c21b0
                                  try clear c22
                                  try clear c22b0
                                  try clear c23
                                  try clear c25
                                  try clear c27
                                  try clear c27b0
                                  try clear c28
                                  try clear c28b0
                                  try clear c29
                                  try clear c31
                                  try clear hcz12_0
                                  try clear hcz12_1
                                  try clear hcz16_0
                                  try clear hcz16_1
                                  try clear hcz17_0
                                  try clear hcz17_1
                                  try clear hcz18_0
                                  try clear hcz18_1
                                  try clear hcz26_0
                                  try clear hcz26_1
                                  try clear hcz30_0
                                  try clear hcz30_1
                                  try clear hcz32_0
                                  try clear hcz32_1
                                  try clear hfz12_0
                                  try clear hfz12_1
                                  try clear hfz16_0
                                  try clear hfz16_1
                                  try clear hfz17_0
                                  try clear hfz17_1
                                  try clear hfz18_0
                                  try clear hfz18_1
                                  try clear hfz26_0
                                  try clear hfz26_1
                                  try clear hfz30_0
                                  try clear hfz30_1
                                  try clear hfz32_0
                                  try clear hfz32_1
                                  try clear hx134_0
                                  try clear hx134_1
                                  try clear hx135_0
                                  try clear hx135_1
                                  try clear hx136_0
                                  try clear hx136_1
                                  try clear hx138_0
                                  try clear hx139_0
                                  try clear hx139_1
                                  try clear p1
                                  try clear p13
                                  try clear p134
                                  try clear p135
                                  try clear p136
                                  try clear p138
                                  try clear p139
                                  try clear p2
                                  try clear q1
                                  try clear q13
                                  try clear q134
                                  try clear q135
                                  try clear q136
                                  try clear q138
                                  try clear q139
                                  obtain ⟨kq, x67_22, rfl, HA, HJ22, BK137, BK140, HB⟩ := hcut
                                  cases kq with
                                  | zero => exact absurd HA.out (by simp [impl_ClassesOk.j4])
                                  | succ kj22 =>
                                    have H := HA.out
                                    clear HA
                                    simp only [impl_ClassesOk.j4] at H
                                    by_cases c33 : x67_22 = true
                                    · subst c33
                                      have H1 : (some false) = some r := by rw [if_pos rfl] at H; exact H
                                      clear H
                                      have H := H1
                                      clear H1
                                      obtain rfl := Option.some.inj H
                                      simp only [Option.some.injEq, Prod.mk.injEq] at H
                                      obtain ⟨rfl⟩ := H
                                      go_wp2
                                      go_ret
                                      exact ⟨by first | rfl | (simp [errW_none, errW_some] <;> rfl) | (simp [*, errW_none, errW_some] <;> rfl), by repeat (first | (with_reducible first | exact HB.out | apply below_alloc | apply pw_below_drewN | apply below_drew1 | refine below_set ?_ GE137.out | refine below_set ?_ GE140.out) | exact HB.out)⟩
                                    · replace c33 := Bool.eq_false_iff.mpr c33
                                      subst c33
                                      have H1 : (if (((rd_T38 l0 x50_4).f1).length : Int) > 2 then (some false) else (impl_ClassesOk.l1 kj22 l0 l0 (l0.length : Int) x50_4 ((rd_T38 l0 x50_4).f1) (((rd_T38 l0 x50_4).f1).length : Int) 0)) = some r := by rw [if_neg (show ¬ (false = true) by decide)] at H; exact H
                                      clear H
                                      have H := H1
                                      clear H1
                                      by_cases c34 : (((rd_T38 l0 x50_4).f1).length : Int) > 2
                                      · rw [if_pos c34] at H
                                        have c34b0 : decide (2 < (((rd_T38 l0 x50_4).f1).length : Int)) = true := decide_eq_true c34
                                        have c34b1 : decide (2 < ((rd_T38 l0 x50_4).f1).length) = true := decide_eq_true (by omega)
                                        clear c34
                                        obtain rfl := Option.some.inj H
                                        simp only [Option.some.injEq, Prod.mk.injEq] at H
                                        obtain ⟨rfl⟩ := H
                                        have hnb35 := NB140_137.out
                                        have hnc35 := NB137_140.out
                                        have hcz36_0 : wc.cell? ⟨gb140, 0, none⟩ = some (.int .i64 ((rd_T38 l0 x50_4).f0)) := (blk_cell BK140.out 0).trans rfl
                                        have hcz36_1 : wc.cell? ⟨gb140, 1, none⟩ = some (.slice A139_1 ((rd_T38 l0 x50_4).f1).length c139_1) := (blk_cell BK140.out 1).trans rfl
                                        have hfz36_0 := blk_frozen BK140.out 0
                                        have hfz36_1 := blk_frozen BK140.out 1
                                        go_wp2
                                        go_ret
                                        exact ⟨by first | rfl | (simp [errW_none, errW_some] <;> rfl) | (simp [*, errW_none, errW_some] <;> rfl), by repeat (first | (with_reducible first | exact HB.out | apply below_alloc | apply pw_below_drewN | apply below_drew1 | refine below_set ?_ GE137.out | refine below_set ?_ GE140.out) | exact HB.out)⟩
                                      · rw [if_neg c34] at H
                                        have c34b0 : decide (2 < (((rd_T38 l0 x50_4).f1).length : Int)) = false := decide_eq_false c34
                                        have c34b1 : decide (2 < ((rd_T38 l0 x50_4).f1).length) = false := decide_eq_false (by omega)
                                        clear c34
                                        have H' := Aside0.mk H
                                        clear H
                                        have hnb37 := NB140_137.out
                                        have hnc37 := NB137_140.out
                                        have hcz38_0 : wc.cell? ⟨gb140, 0, none⟩ = some (.int .i64 ((rd_T38 l0 x50_4).f0)) := (blk_cell BK140.out 0).trans rfl
                                        have hcz38_1 : wc.cell? ⟨gb140, 1, none⟩ = some (.slice A139_1 ((rd_T38 l0 x50_4).f1).length c139_1) := (blk_cell BK140.out 1).trans rfl
                                        have hfz38_0 := blk_frozen BK140.out 0
                                        have hfz38_1 := blk_frozen BK140.out 1
                                        go_wp2
                                        go_loopg [75] kj22 (fun kq v75 w' => ∃ (x75_6 : Int), v75 = .int .i64 x75_6 ∧ Aside0 (impl_ClassesOk.l1 kq l0 l0 (l0.length : Int) x50_4 ((rd_T38 l0 x50_4).f1) (((rd_T38 l0 x50_4).f1).length : Int) x75_6 = some r) ∧ Aside0 (kq ≤ kj22) ∧ Aside0 (w'.heap[gb137]? = some (.cells #[.int .i64 ((rd_T38 l0 1).f0), (.slice A136_1 ((rd_T38 l0 1).f1).length c136_1)] 38 (0, 0))) ∧ Aside0 (w'.heap[gb140]? = some (.cells #[.int .i64 ((rd_T38 l0 x50_4).f0), (.slice A139_1 ((rd_T38 l0 x50_4).f1).length c139_1)] 38 (0, 0))) ∧ Aside0 (Below w.heap.size w w'))
                                        case atStart => exact ⟨(0), (by first | rfl | (simp; done) | (simp [*]; done)), H', ⟨Nat.le_refl _⟩, ⟨by (with_reducible repeat (first | refine blk_drewN ?_ _ | refine blk_drew ?_ | refine blk_alloc ?_ _)); exact BK137.out⟩, ⟨by (with_reducible repeat (first | refine blk_drewN ?_ _ | refine blk_drew ?_ | refine blk_alloc ?_ _)); exact BK140.out⟩, ⟨by repeat (first | (with_reducible first | exact HB.out | apply below_alloc | apply pw_below_drewN | apply below_drew1 | refine below_set ?_ GE137.out | refine below_set ?_ GE140.out) | exact HB.out)⟩⟩
                                        case round =>
                                          clear H'
                                          try clear c1
                                          try clear p1
                                          try clear q1
                                          try clear hx1
                                          try clear qi1
                                          try clear c2
                                          try clear p2
                                          try clear c3
                                          try clear c3b0
                                          try clear c3b1
                                          try clear c4
                                          try clear c6
                                          try clear c6b0
                                          try clear c6b1
                                          try clear c7
                                          try clear c7b0
                                          try clear c7b1
                                          try clear c8
                                          try clear c9
                                          try clear c9b0
                                          try clear c9b1
                                          try clear c13
                                          try clear c13b0
                                          try clear c13b1
                                          try clear p13
                                          try clear q13
                                          try clear hx13
                                          try clear qi13
                                          try clear c14
                                          try clear c14b0
                                          try clear c14b1
                                          try clear c15
                                          try clear c15b0
                                          try clear c15b1
                                          try clear c19
                                          try clear c20
                                          try clear c20b0
                                          try clear c21
                                          try clear c21b0
                                          try clear c22
                                          try clear c22b0
                                          try clear c23
                                          try clear c25
                                          try clear c27
                                          try clear c27b0
                                          try clear c28
                                          try clear c28b0
                                          try clear c29
                                          try clear c31
                                          try clear c33
                                          try clear c34
                                          try clear c34b0
                                          try clear c34b1
                                          try clear c35
                                          try clear c37
                                          try clear hcz12_0
                                          try clear hcz12_1
                                          try clear hcz16_0
                                          try clear hcz16_1
                                          try clear hcz17_0
                                          try clear hcz17_1
                                          try clear hcz18_0
                                          try clear hcz18_1
                                          try clear hcz26_0
                                          try clear hcz26_1
                                          try clear hcz30_0
                                          try clear hcz30_1
                                          try clear hcz32_0
                                          try clear hcz32_1
                                          try clear hcz36_0
                                          try clear hcz36_1
                                          try clear hcz38_0
                                          try clear hcz38_1
                                          try clear hfz12_0
                                          try clear hfz12_1
                                          try clear hfz16_0
                                          try clear hfz16_1
                                          try clear hfz17_0
                                          try clear hfz17_1
                                          try clear hfz18_0
                                          try clear hfz18_1
                                          try clear hfz26_0
                                          try clear hfz26_1
                                          try clear hfz30_0
                                          try clear hfz30_1
                                          try clear hfz32_0
                                          try clear hfz32_1
                                          try clear hfz36_0
                                          try clear hfz36_1
                                          try clear hfz38_0
                                          try clear hfz38_1
                                          try clear hx134_0
                                          try clear hx134_1
                                          try clear hx135_0
                                          try clear hx135_1
                                          try clear hx136_0
                                          try clear hx136_1
                                          try clear hx138_0
                                          try clear hx139_0
                                          try clear hx139_1
                                          try clear p1
                                          try clear p13
                                          try clear p134
                                          try clear p135
                                          try clear p136
                                          try clear p138
                                          try clear p139
                                          try clear p2
                                          try clear q1
                                          try clear q13
                                          try clear q134
                                          try clear q135
                                          try clear q136
                                          try clear q138
                                          try clear q139
                                          obtain ⟨x75_6, rfl, HA, HK6, BK137, BK140, HB⟩ := hrel
                                          cases gk with
                                          | zero => exact absurd HA.out (by simp [impl_ClassesOk.l1])
                                          | succ k6 =>
                                            have H := HA.out
                                            clear HA
                                            simp only [impl_ClassesOk.l1] at H
                                            by_cases c39 : x75_6 < (((rd_T38 l0 x50_4).f1).length : Int)
                                            · rw [if_pos c39] at H
                                              have c39b0 : decide (x75_6 < (((rd_T38 l0 x50_4).f1).length : Int)) = true := decide_eq_true c39
                                              clear c39
                                              by_cases c40 : 0 ≤ x75_6
                                              · rw [if_pos c40] at H
                                                have c40b0 : decide (0 ≤ x75_6) = true := decide_eq_true c40
                                                clear c40
                                                by_cases c41 : x75_6 < (((rd_T38 l0 x50_4).f1).length : Int)
                                                · rw [if_pos c41] at H
                                                  have c41b0 : decide (x75_6 < (((rd_T38 l0 x50_4).f1).length : Int)) = true := decide_eq_true c41
                                                  clear c41
                                                  replace H := Option.bind_eq_some_iff.mp H
                                                  obtain ⟨t142, A420, H⟩ := H
                                                  replace H : (if t142 = true then (impl_ClassesOk.l1 k6 l0 l0 (l0.length : Int) x50_4 ((rd_T38 l0 x50_4).f1) (((rd_T38 l0 x50_4).f1).length : Int) (wrap64 (x75_6 + 1))) else (some false)) = some r := H
                                                  have A42 := Aside0.mk A420
                                                  clear A420
                                                  by_cases c43 : t142 = true
                                                  · subst c43
                                                    have H1 : (impl_ClassesOk.l1 k6 l0 l0 (l0.length : Int) x50_4 ((rd_T38 l0 x50_4).f1) (((rd_T38 l0 x50_4).f1).length : Int) (wrap64 (x75_6 + 1))) = some r := by rw [if_pos rfl] at H; exact H
                                                    clear H
                                                    have H := H1
                                                    clear H1
                                                    have H' := Aside0.mk H
                                                    clear H
                                                    have p141 : 0 ≤ (x75_6 : Int) := of_decide_eq_true (by first | (with_reducible assumption) | assumption)
                                                    have q141 : x75_6 < (((rd_T38 l0 x50_4).f1).length : Int) := of_decide_eq_true (by first | (with_reducible assumption) | assumption)
                                                    obtain ⟨ad141, e141, hx141_0⟩ := Kd.at_int HR139_1.out x75_6 p141 q141
                                                    cases e141
                                                    replace hx141_0 := (HB.out.cell (World.block_lt_of_cell? w _ hx141_0)).trans hx141_0
                                                    replace p141 := eq_true p141
                                                    replace q141 := eq_true q141
                                                    go_wp2_with (first | ((with_reducible refine gate_callee (f := 59) rfl ?_); refine goesL_ (some 82) rfl rfl Try.func59 (by kernel_rfl) rfl #[.int .i64 (l0.length : Int), .int .i64 (rd ((rd_T38 l0 x50_4).f1) x75_6)] rfl (by (try simp only [List.map_toArray, List.map_cons, List.map_nil]); first | done | rfl | (simp only [List.length_drop, List.length_take]; rfl)) ?_; (with_reducible refine (impl_fieldType.calls (l0.length : Int) (rd ((rd_T38 l0 x50_4).f1) x75_6) true _ A42.out).mono ?_); rintro e w' ⟨rfl, ⟨nd, rfl⟩⟩; refine ⟨_, rfl, ?_⟩))
                                                    go_roundg k6
                                                    case measure => have := HJ1.out; have := HJ4.out; have := HJ9.out; have := HK4.out; have := HJ22.out; have := HK6.out; omega
                                                    case rel => exact ⟨(wrap64 (x75_6 + 1)), (by first | rfl | (simp; done) | (simp [*]; done)), H', ⟨by have := HJ1.out; have := HJ4.out; have := HJ9.out; have := HK4.out; have := HJ22.out; have := HK6.out; omega⟩, ⟨by (with_reducible repeat (first | refine blk_drewN ?_ _ | refine blk_drew ?_ | refine blk_alloc ?_ _)); exact BK137.out⟩, ⟨by (with_reducible repeat (first | refine blk_drewN ?_ _ | refine blk_drew ?_ | refine blk_alloc ?_ _)); exact BK140.out⟩, ⟨by repeat (first | (with_reducible first | exact HB.out | apply below_alloc | apply pw_below_drewN | apply below_drew1 | refine below_set ?_ GE137.out | refine below_set ?_ GE140.out) | exact HB.out)⟩⟩
                                                  · replace c43 := Bool.eq_false_iff.mpr c43
                                                    subst c43
                                                    have H1 : (some false) = some r := by rw [if_neg (show ¬ (false = true) by decide)] at H; exact H
                                                    clear H
                                                    have H := H1
                                                    clear H1
                                                    obtain rfl := Option.some.inj H
                                                    simp only [Option.some.injEq, Prod.mk.injEq] at H
                                                    obtain ⟨rfl⟩ := H
                                                    have p141 : 0 ≤ (x75_6 : Int) := of_decide_eq_true (by first | (with_reducible assumption) | assumption)
                                                    have q141 : x75_6 < (((rd_T38 l0 x50_4).f1).length : Int) := of_decide_eq_true (by first | (with_reducible assumption) | assumption)
                                                    obtain ⟨ad141, e141, hx141_0⟩ := Kd.at_int HR139_1.out x75_6 p141 q141
                                                    cases e141
                                                    replace hx141_0 := (HB.out.cell (World.block_lt_of_cell? w _ hx141_0)).trans hx141_0
                                                    replace p141 := eq_true p141
                                                    replace q141 := eq_true q141
                                                    go_wp2_with (first | ((with_reducible refine gate_callee (f := 59) rfl ?_); refine goesL_ (some 82) rfl rfl Try.func59 (by kernel_rfl) rfl #[.int .i64 (l0.length : Int), .int .i64 (rd ((rd_T38 l0 x50_4).f1) x75_6)] rfl (by (try simp only [List.map_toArray, List.map_cons, List.map_nil]); first | done | rfl | (simp only [List.length_drop, List.length_take]; rfl)) ?_; (with_reducible refine (impl_fieldType.calls (l0.length : Int) (rd ((rd_T38 l0 x50_4).f1) x75_6) false _ A42.out).mono ?_); rintro e w' ⟨rfl, ⟨nd, rfl⟩⟩; refine ⟨_, rfl, ?_⟩))
                                                    go_ret
                                                    exact ⟨by first | rfl | (simp [errW_none, errW_some] <;> rfl) | (simp [*, errW_none, errW_some] <;> rfl), by repeat (first | (with_reducible first | exact HB.out | apply below_alloc | apply pw_below_drewN | apply below_drew1 | refine below_set ?_ GE137.out | refine below_set ?_ GE140.out) | exact HB.out)⟩
                                                · rw [if_neg c41] at H
                                                  exact absurd H (by simp)
                                              · rw [if_neg c40] at H
                                                exact absurd H (by simp)
                                            · rw [if_neg c39] at H
                                              have c39b0 : decide (x75_6 < (((rd_T38 l0 x50_4).f1).length : Int)) = false := decide_eq_false c39
                                              clear c39
                                              have H' := Aside0.mk H
                                              clear H
                                              go_wp2
                                              go_roundg k6
                                              case measure => have := HJ1.out; have := HJ4.out; have := HJ9.out; have := HK4.out; have := HJ22.out; have := HK6.out; omega
                                              case rel => exact ⟨(wrap64 (x50_4 + 1)), (by first | rfl | (simp; done) | (simp [*]; done)), H', ⟨by have := HJ1.out; have := HJ4.out; have := HJ9.out; have := HK4.out; have := HJ22.out; have := HK6.out; omega⟩, ⟨by (with_reducible repeat (first | refine blk_drewN ?_ _ | refine blk_drew ?_ | refine blk_alloc ?_ _)); exact BK137.out⟩, ⟨by repeat (first | (with_reducible first | exact HB.out | apply below_alloc | apply pw_below_drewN | apply below_drew1 | refine below_set ?_ GE137.out | refine below_set ?_ GE140.out) | exact HB.out)⟩⟩
                              · rw [if_neg c22] at H
                                exact absurd H (by simp)
                            · rw [if_neg c21] at H
                              exact absurd H (by simp)
                          · rw [if_neg c20] at H
                            have c20b0 : decide (x50_4 < (l0.length : Int)) = false := decide_eq_false c20
                            clear c20
                            obtain rfl := Option.some.inj H
                            simp only [Option.some.injEq, Prod.mk.injEq] at H
                            obtain ⟨rfl⟩ := H
                            go_wp2
                            go_ret
                            exact ⟨by first | rfl | (simp [errW_none, errW_some] <;> rfl) | (simp [*, errW_none, errW_some] <;> rfl), by repeat (first | (with_reducible first | exact HB.out | apply below_alloc | apply pw_below_drewN | apply below_drew1 | refine below_set ?_ GE137.out) | exact HB.out)⟩
              · rw [if_neg c9] at H
                exact absurd H (by simp)

end Go.Proofs.Ytgmjolngnhdafaa.P

end
section
namespace Go.Proofs.Ytgmjolngnhdafaa.P
open Go.RowKit Go.Proofs.YtgmjolngnhdafaaW.PrintWords Go.Proofs.YtgmjolngnhdafaaW.PrintLast Go.Proofs.YtgmjolngnhdafaaW.PrintMore
attribute [local go_sem] max2_int min2_int max_two min_two max_three min_three max_four min_four
set_option linter.unusedVariables false
set_option linter.unusedSimpArgs false

set_option maxHeartbeats 8000000 in
set_option maxRecDepth 100000 in
theorem impl_isClass.calls (A0 : Option Addr) (c0 : Nat) (l0 : List (S38)) (a1 : Int) (r : Bool) (w : World) (hr0 : Kd.C k38 w A0 l0.length l0) (hc0 : l0.length ≤ c0) (h : impl_isClass.f l0 a1 = some r) :
    Calls Try.prog 66 #[.slice A0 l0.length c0, .int .i64 a1] w fun e w' => e = .returned (.bool r) ∧ Drawn0 w w' := by
  have HR0 := Aside0.mk hr0
  have HC0 := Aside0.mk hc0
  clear hr0 hc0
  have H : (if a1 ≥ 0 then (some (decide (a1 < (l0.length : Int)))) else (some false)) = some r := h
  clear h
  by_cases c3 : a1 ≥ 0
  · rw [if_pos c3] at H
    have c3b0 : decide (0 ≤ a1) = true := decide_eq_true c3
    clear c3
    obtain rfl := Option.some.inj H
    simp only [Option.some.injEq, Prod.mk.injEq] at H
    obtain ⟨rfl⟩ := H
    go_enter Try.func66, Try.ntmps66
    go_wp2
    go_ret
    exact ⟨by first | rfl | (simp; done) | (simp [*]; done), by repeat (first | exact Drawn0.refl _ | apply Drawn0.step)⟩
  · rw [if_neg c3] at H
    have c3b0 : decide (0 ≤ a1) = false := decide_eq_false c3
    clear c3
    obtain rfl := Option.some.inj H
    simp only [Option.some.injEq, Prod.mk.injEq] at H
    obtain ⟨rfl⟩ := H
    go_enter Try.func66, Try.ntmps66
    go_wp2
    go_ret
    exact ⟨by first | rfl | (simp; done) | (simp [*]; done), by repeat (first | exact Drawn0.refl _ | apply Drawn0.step)⟩

end Go.Proofs.Ytgmjolngnhdafaa.P

end
section
namespace Go.Proofs.Ytgmjolngnhdafaa.P
open Go.RowKit Go.Proofs.YtgmjolngnhdafaaW.PrintWords Go.Proofs.YtgmjolngnhdafaaW.PrintLast Go.Proofs.YtgmjolngnhdafaaW.PrintMore
attribute [local go_sem] max2_int min2_int max_two min_two max_three min_three max_four min_four
set_option linter.unusedVariables false
set_option linter.unusedSimpArgs false

set_option maxHeartbeats 8000000 in
set_option maxRecDepth 100000 in
theorem impl_classUp.calls (k : Nat) (A0 : Option Addr) (c0 : Nat) (l0 : List (S38)) (a1 : Int) (a2 : Int) (r : Bool) (w : World) (hr0 : Kd.C k38 w A0 l0.length l0) (hc0 : l0.length ≤ c0) (h : impl_classUp.f k l0 a1 a2 = some r) :
    Calls Try.prog 67 #[.slice A0 l0.length c0, .int .i64 a1, .int .i64 a2] w fun e w' => e = .returned (.bool r) ∧ Drawn0 w w' := by
  have HR0 := Aside0.mk hr0
  have HC0 := Aside0.mk hc0
  clear hr0 hc0
  have H : (impl_classUp.l0 k l0 a2 a1) = some r := h
  clear h
  have H' := Aside0.mk H
  clear H
  go_enter Try.func67, Try.ntmps67
  go_wp2
  go_loopg [7] k (fun kq v7 w' => ∃ (x7_1 : Int), v7 = .int .i64 x7_1 ∧ Aside0 (impl_classUp.l0 kq l0 a2 x7_1 = some r) ∧ Aside0 (kq ≤ k) ∧ Drawn0 w w')
  case atStart => exact ⟨(a1), (by first | rfl | (simp; done) | (simp [*]; done)), H', ⟨Nat.le_refl _⟩, by repeat (first | exact Drawn0.refl _ | apply Drawn0.step)⟩
  case round =>
    clear H'
    try clear p2
    obtain ⟨x7_1, rfl, HA, HK1, ⟨m1, rfl⟩⟩ := hrel
    cases gk with
    | zero => exact absurd HA.out (by simp [impl_classUp.l0])
    | succ k1 =>
      have H := HA.out
      clear HA
      simp only [impl_classUp.l0] at H
      by_cases c4 : x7_1 ≥ 0
      · rw [if_pos c4] at H
        have c4b0 : decide (0 ≤ x7_1) = true := decide_eq_true c4
        clear c4
        by_cases c5 : x7_1 = a2
        · rw [if_pos c5] at H
          have c5b0 : (x7_1 == a2) = true := beq_iff_eq.mpr c5
          have c5b1 : (x7_1 != a2) = false := bne_eq_false_iff_eq.mpr c5
          clear c5
          obtain rfl := Option.some.inj H
          simp only [Option.some.injEq, Prod.mk.injEq] at H
          obtain ⟨rfl⟩ := H
          go_wp2
          go_ret
          exact ⟨by first | rfl | (simp; done) | (simp [*]; done), by repeat (first | exact Drawn0.refl _ | apply Drawn0.step)⟩
        · rw [if_neg c5] at H
          have c5b0 : (x7_1 == a2) = false := beq_eq_false_iff_ne.mpr c5
          have c5b1 : (x7_1 != a2) = true := bne_iff_ne.mpr c5
          by_cases c6 : 0 ≤ x7_1
          · rw [if_pos c6] at H
            have c6b0 : decide (0 ≤ x7_1) = true := decide_eq_true c6
            clear c6
            by_cases c7 : x7_1 < (l0.length : Int)
            · rw [if_pos c7] at H
              have c7b0 : decide (x7_1 < (l0.length : Int)) = true := decide_eq_true c7
              clear c7
              have H' := Aside0.mk H
              clear H
              have p227 : 0 ≤ (x7_1 : Int) := of_decide_eq_true (by first | (with_reducible assumption) | assumption)
              have q227 : x7_1 < (l0.length : Int) := of_decide_eq_true (by first | (with_reducible assumption) | assumption)
              obtain ⟨ad227, A227_1, c227_1, e227, hx227_0, hx227_1, hl227_1, hi227_1⟩ := at_T38 HR0.out x7_1 p227 q227
              cases e227
              have HR227_1 := Aside0.mk hi227_1
              have HC227_1 := Aside0.mk hl227_1
              clear hi227_1 hl227_1
              replace p227 := eq_true p227
              replace q227 := eq_true q227
              go_wp2
              go_roundg k1
              case measure => have := HK1.out; omega
              case rel => exact ⟨((rd_T38 l0 x7_1).f0), (by first | rfl | (simp; done) | (simp [*]; done)), H', ⟨by have := HK1.out; omega⟩, by repeat (first | exact Drawn0.refl _ | apply Drawn0.step)⟩
            · rw [if_neg c7] at H
              exact absurd H (by simp)
          · rw [if_neg c6] at H
            exact absurd H (by simp)
      · rw [if_neg c4] at H
        have c4b0 : decide (0 ≤ x7_1) = false := decide_eq_false c4
        clear c4
        obtain rfl := Option.some.inj H
        simp only [Option.some.injEq, Prod.mk.injEq] at H
        obtain ⟨rfl⟩ := H
        go_wp2
        go_ret
        exact ⟨by first | rfl | (simp; done) | (simp [*]; done), by repeat (first | exact Drawn0.refl _ | apply Drawn0.step)⟩

end Go.Proofs.Ytgmjolngnhdafaa.P

end
section
namespace Go.Proofs.Ytgmjolngnhdafaa.P
open Go.RowKit Go.Proofs.YtgmjolngnhdafaaW.PrintWords Go.Proofs.YtgmjolngnhdafaaW.PrintLast Go.Proofs.YtgmjolngnhdafaaW.PrintMore
attribute [local go_sem] max2_int min2_int max_two min_two max_three min_three max_four min_four
set_option linter.unusedVariables false
set_option linter.unusedSimpArgs false

set_option maxHeartbeats 8000000 in
set_option maxRecDepth 100000 in
theorem impl_ClassUp.calls (k : Nat) (A0 : Option Addr) (c0 : Nat) (l0 : List (S38)) (a1 : Int) (a2 : Int) (r : Bool) (w : World) (hr0 : Kd.C k38 w A0 l0.length l0) (hc0 : l0.length ≤ c0) (h : impl_ClassUp.f k l0 a1 a2 = some r) :
    Calls Try.prog 28 #[.slice A0 l0.length c0, .int .i64 a1, .int .i64 a2] w fun e w' => e = .returned (.bool r) ∧ Below w.heap.size w w' := by
  have HR0 := Aside0.mk hr0
  have HC0 := Aside0.mk hc0
  clear hr0 hc0
  have HB := Aside0.mk (Below.refl w.heap.size w)
  have H : ((impl_ClassesOk.f k l0).bind fun t228 => (if t228 = true then ((impl_isClass.f l0 a1).bind fun t229 => (if t229 = true then ((impl_isClass.f l0 a2).bind fun t230 => (if t230 = true then ((impl_classUp.f k l0 a1 a2).bind fun t231 => (some t231)) else (some false))) else (some false))) else (some false))) = some r := h
  clear h
  replace H := Option.bind_eq_some_iff.mp H
  obtain ⟨t228, A40, H⟩ := H
  replace H : (if t228 = true then ((impl_isClass.f l0 a1).bind fun t229 => (if t229 = true then ((impl_isClass.f l0 a2).bind fun t230 => (if t230 = true then ((impl_classUp.f k l0 a1 a2).bind fun t231 => (some t231)) else (some false))) else (some false))) else (some false)) = some r := H
  have A4 := Aside0.mk A40
  clear A40
  by_cases c5 : t228 = true
  · subst c5
    have H1 : ((impl_isClass.f l0 a1).bind fun t229 => (if t229 = true then ((impl_isClass.f l0 a2).bind fun t230 => (if t230 = true then ((impl_classUp.f k l0 a1 a2).bind fun t231 => (some t231)) else (some false))) else (some false))) = some r := by rw [if_pos rfl] at H; exact H
    clear H
    have H := H1
    clear H1
    replace H := Option.bind_eq_some_iff.mp H
    obtain ⟨t229, A60, H⟩ := H
    replace H : (if t229 = true then ((impl_isClass.f l0 a2).bind fun t230 => (if t230 = true then ((impl_classUp.f k l0 a1 a2).bind fun t231 => (some t231)) else (some false))) else (some false)) = some r := H
    have A6 := Aside0.mk A60
    clear A60
    by_cases c7 : t229 = true
    · subst c7
      have H1 : ((impl_isClass.f l0 a2).bind fun t230 => (if t230 = true then ((impl_classUp.f k l0 a1 a2).bind fun t231 => (some t231)) else (some false))) = some r := by rw [if_pos rfl] at H; exact H
      clear H
      have H := H1
      clear H1
      replace H := Option.bind_eq_some_iff.mp H
      obtain ⟨t230, A80, H⟩ := H
      replace H : (if t230 = true then ((impl_classUp.f k l0 a1 a2).bind fun t231 => (some t231)) else (some false)) = some r := H
      have A8 := Aside0.mk A80
      clear A80
      by_cases c9 : t230 = true
      · subst c9
        have H1 : ((impl_classUp.f k l0 a1 a2).bind fun t231 => (some t231)) = some r := by rw [if_pos rfl] at H; exact H
        clear H
        have H := H1
        clear H1
        replace H := Option.bind_eq_some_iff.mp H
        obtain ⟨t231, A100, H⟩ := H
        replace H : (some t231) = some r := H
        have A10 := Aside0.mk A100
        clear A100
        obtain rfl := Option.some.inj H
        simp only [Option.some.injEq, Prod.mk.injEq] at H
        obtain ⟨rfl⟩ := H
        go_enter Try.func28, Try.ntmps28
        go_wp2_with (first | ((with_reducible refine gate_callee (f := 23) rfl ?_); refine goesL_ (some 8) rfl rfl Try.func23 (by kernel_rfl) rfl #[.slice A0 l0.length c0] rfl (by (try simp only [List.map_toArray, List.map_cons, List.map_nil]); first | done | rfl | (simp only [List.length_drop, List.length_take]; rfl)) ?_; (with_reducible refine (impl_ClassesOk.calls k _ _ l0 true _ ?side1 ?side2 A4.out).mono ?_); (case side1 => repeat (first | exact HR0.out | (with_reducible refine Kd.C_alloc ?_ _) | (with_reducible refine Kd.C_drewN ?_ _) | (with_reducible refine Kd.C_drew ?_))); (case side2 => exact HC0.out); rintro e w11 ⟨rfl, hb⟩; refine ⟨_, rfl, ?_⟩; have n0_ := Aside0.mk (below_step (by repeat (first | (with_reducible first | exact HB.out | apply below_alloc | apply pw_below_drewN | apply below_drew1) | exact HB.out)) hb); clear HB; have HB := n0_; clear n0_; (try clear hb); (try clear hb2); (try clear hk); (try clear hi)) | (go_at_call 66; (with_reducible refine (impl_isClass.calls _ _ l0 a1 true _ ?side1 ?side2 A6.out).mono ?_); (case side1 => repeat (first | exact (Kd.C_below HR0.out HB.out) | (with_reducible refine Kd.C_alloc ?_ _) | (with_reducible refine Kd.C_drewN ?_ _) | (with_reducible refine Kd.C_drew ?_))); (case side2 => exact HC0.out); rintro e w' ⟨rfl, ⟨nd, rfl⟩⟩) | (go_at_call 66; (with_reducible refine (impl_isClass.calls _ _ l0 a2 true _ ?side1 ?side2 A8.out).mono ?_); (case side1 => repeat (first | exact (Kd.C_below HR0.out (by repeat (first | (with_reducible first | exact HB.out | apply below_alloc | apply pw_below_drewN | apply below_drew1) | exact HB.out))) | (with_reducible refine Kd.C_alloc ?_ _) | (with_reducible refine Kd.C_drewN ?_ _) | (with_reducible refine Kd.C_drew ?_))); (case side2 => exact HC0.out); rintro e w' ⟨rfl, ⟨nd, rfl⟩⟩) | (go_at_call 67; (with_reducible refine (impl_classUp.calls k _ _ l0 a1 a2 t231 _ ?side1 ?side2 A10.out).mono ?_); (case side1 => repeat (first | exact (Kd.C_below HR0.out (by repeat (first | (with_reducible first | exact HB.out | apply below_alloc | apply pw_below_drewN | apply below_drew1) | exact HB.out))) | (with_reducible refine Kd.C_alloc ?_ _) | (with_reducible refine Kd.C_drewN ?_ _) | (with_reducible refine Kd.C_drew ?_))); (case side2 => exact HC0.out); rintro e w' ⟨rfl, ⟨nd, rfl⟩⟩))
        go_ret
        exact ⟨by first | rfl | (simp [errW_none, errW_some] <;> rfl) | (simp [*, errW_none, errW_some] <;> rfl), by repeat (first | (with_reducible first | exact HB.out | apply below_alloc | apply pw_below_drewN | apply below_drew1) | exact HB.out)⟩
      · replace c9 := Bool.eq_false_iff.mpr c9
        subst c9
        have H1 : (some false) = some r := by rw [if_neg (show ¬ (false = true) by decide)] at H; exact H
        clear H
        have H := H1
        clear H1
        obtain rfl := Option.some.inj H
        simp only [Option.some.injEq, Prod.mk.injEq] at H
        obtain ⟨rfl⟩ := H
        go_enter Try.func28, Try.ntmps28
        go_wp2_with (first | ((with_reducible refine gate_callee (f := 23) rfl ?_); refine goesL_ (some 8) rfl rfl Try.func23 (by kernel_rfl) rfl #[.slice A0 l0.length c0] rfl (by (try simp only [List.map_toArray, List.map_cons, List.map_nil]); first | done | rfl | (simp only [List.length_drop, List.length_take]; rfl)) ?_; (with_reducible refine (impl_ClassesOk.calls k _ _ l0 true _ ?side1 ?side2 A4.out).mono ?_); (case side1 => repeat (first | exact HR0.out | (with_reducible refine Kd.C_alloc ?_ _) | (with_reducible refine Kd.C_drewN ?_ _) | (with_reducible refine Kd.C_drew ?_))); (case side2 => exact HC0.out); rintro e w12 ⟨rfl, hb⟩; refine ⟨_, rfl, ?_⟩; have n0_ := Aside0.mk (below_step (by repeat (first | (with_reducible first | exact HB.out | apply below_alloc | apply pw_below_drewN | apply below_drew1) | exact HB.out)) hb); clear HB; have HB := n0_; clear n0_; (try clear hb); (try clear hb2); (try clear hk); (try clear hi)) | (go_at_call 66; (with_reducible refine (impl_isClass.calls _ _ l0 a1 true _ ?side1 ?side2 A6.out).mono ?_); (case side1 => repeat (first | exact (Kd.C_below HR0.out HB.out) | (with_reducible refine Kd.C_alloc ?_ _) | (with_reducible refine Kd.C_drewN ?_ _) | (with_reducible refine Kd.C_drew ?_))); (case side2 => exact HC0.out); rintro e w' ⟨rfl, ⟨nd, rfl⟩⟩) | (go_at_call 66; (with_reducible refine (impl_isClass.calls _ _ l0 a2 false _ ?side1 ?side2 A8.out).mono ?_); (case side1 => repeat (first | exact (Kd.C_below HR0.out (by repeat (first | (with_reducible first | exact HB.out | apply below_alloc | apply pw_below_drewN | apply below_drew1) | exact HB.out))) | (with_reducible refine Kd.C_alloc ?_ _) | (with_reducible refine Kd.C_drewN ?_ _) | (with_reducible refine Kd.C_drew ?_))); (case side2 => exact HC0.out); rintro e w' ⟨rfl, ⟨nd, rfl⟩⟩))
        go_ret
        exact ⟨by first | rfl | (simp [errW_none, errW_some] <;> rfl) | (simp [*, errW_none, errW_some] <;> rfl), by repeat (first | (with_reducible first | exact HB.out | apply below_alloc | apply pw_below_drewN | apply below_drew1) | exact HB.out)⟩
    · replace c7 := Bool.eq_false_iff.mpr c7
      subst c7
      have H1 : (some false) = some r := by rw [if_neg (show ¬ (false = true) by decide)] at H; exact H
      clear H
      have H := H1
      clear H1
      obtain rfl := Option.some.inj H
      simp only [Option.some.injEq, Prod.mk.injEq] at H
      obtain ⟨rfl⟩ := H
      go_enter Try.func28, Try.ntmps28
      go_wp2_with (first | ((with_reducible refine gate_callee (f := 23) rfl ?_); refine goesL_ (some 8) rfl rfl Try.func23 (by kernel_rfl) rfl #[.slice A0 l0.length c0] rfl (by (try simp only [List.map_toArray, List.map_cons, List.map_nil]); first | done | rfl | (simp only [List.length_drop, List.length_take]; rfl)) ?_; (with_reducible refine (impl_ClassesOk.calls k _ _ l0 true _ ?side1 ?side2 A4.out).mono ?_); (case side1 => repeat (first | exact HR0.out | (with_reducible refine Kd.C_alloc ?_ _) | (with_reducible refine Kd.C_drewN ?_ _) | (with_reducible refine Kd.C_drew ?_))); (case side2 => exact HC0.out); rintro e w13 ⟨rfl, hb⟩; refine ⟨_, rfl, ?_⟩; have n0_ := Aside0.mk (below_step (by repeat (first | (with_reducible first | exact HB.out | apply below_alloc | apply pw_below_drewN | apply below_drew1) | exact HB.out)) hb); clear HB; have HB := n0_; clear n0_; (try clear hb); (try clear hb2); (try clear hk); (try clear hi)) | (go_at_call 66; (with_reducible refine (impl_isClass.calls _ _ l0 a1 false _ ?side1 ?side2 A6.out).mono ?_); (case side1 => repeat (first | exact (Kd.C_below HR0.out HB.out) | (with_reducible refine Kd.C_alloc ?_ _) | (with_reducible refine Kd.C_drewN ?_ _) | (with_reducible refine Kd.C_drew ?_))); (case side2 => exact HC0.out); rintro e w' ⟨rfl, ⟨nd, rfl⟩⟩))
      go_ret
      exact ⟨by first | rfl | (simp [errW_none, errW_some] <;> rfl) | (simp [*, errW_none, errW_some] <;> rfl), by repeat (first | (with_reducible first | exact HB.out | apply below_alloc | apply pw_below_drewN | apply below_drew1) | exact HB.out)⟩
  · replace c5 := Bool.eq_false_iff.mpr c5
    subst c5
    have H1 : (some false) = some r := by rw [if_neg (show ¬ (false = true) by decide)] at H; exact H
    clear H
    have H := H1
    clear H1
    obtain rfl := Option.some.inj H
    simp only [Option.some.injEq, Prod.mk.injEq] at H
    obtain ⟨rfl⟩ := H
    go_enter Try.func28, Try.ntmps28
    go_wp2_with (first | ((with_reducible refine gate_callee (f := 23) rfl ?_); refine goesL_ (some 8) rfl rfl Try.func23 (by kernel_rfl) rfl #[.slice A0 l0.length c0] rfl (by (try simp only [List.map_toArray, List.map_cons, List.map_nil]); first | done | rfl | (simp only [List.length_drop, List.length_take]; rfl)) ?_; (with_reducible refine (impl_ClassesOk.calls k _ _ l0 false _ ?side1 ?side2 A4.out).mono ?_); (case side1 => repeat (first | exact HR0.out | (with_reducible refine Kd.C_alloc ?_ _) | (with_reducible refine Kd.C_drewN ?_ _) | (with_reducible refine Kd.C_drew ?_))); (case side2 => exact HC0.out); rintro e w14 ⟨rfl, hb⟩; refine ⟨_, rfl, ?_⟩; have n0_ := Aside0.mk (below_step (by repeat (first | (with_reducible first | exact HB.out | apply below_alloc | apply pw_below_drewN | apply below_drew1) | exact HB.out)) hb); clear HB; have HB := n0_; clear n0_; (try clear hb); (try clear hb2); (try clear hk); (try clear hi)))
    go_ret
    exact ⟨by first | rfl | (simp [errW_none, errW_some] <;> rfl) | (simp [*, errW_none, errW_some] <;> rfl), by repeat (first | (with_reducible first | exact HB.out | apply below_alloc | apply pw_below_drewN | apply below_drew1) | exact HB.out)⟩

end Go.Proofs.Ytgmjolngnhdafaa.P

end
section
namespace Go.Proofs.Ytgmjolngnhdafaa.P
open Go.RowKit Go.Proofs.YtgmjolngnhdafaaW.PrintWords Go.Proofs.YtgmjolngnhdafaaW.PrintLast Go.Proofs.YtgmjolngnhdafaaW.PrintMore
attribute [local go_sem] max2_int min2_int max_two min_two max_three min_three max_four min_four
set_option linter.unusedVariables false
set_option linter.unusedSimpArgs false

set_option maxHeartbeats 8000000 in
set_option maxRecDepth 100000 in
theorem spec_l6In.calls (a0 : Int) (a1 : Int) (a2 : Int) (r : Bool) (w : World) (h : spec_l6In.f a0 a1 a2 = some r) :
    Calls Try.prog 56 #[.int .i64 a0, .int .i64 a1, .int .i64 a2] w fun e w' => e = .returned (.bool r) ∧ Drawn0 w w' := by
  have H : (if a0 ≥ a1 then (some (decide (a0 ≤ a2))) else (some false)) = some r := h
  clear h
  by_cases c4 : a0 ≥ a1
  · rw [if_pos c4] at H
    have c4b0 : decide (a1 ≤ a0) = true := decide_eq_true c4
    clear c4
    obtain rfl := Option.some.inj H
    simp only [Option.some.injEq, Prod.mk.injEq] at H
    obtain ⟨rfl⟩ := H
    go_enter Try.func56, Try.ntmps56
    go_wp2
    go_ret
    exact ⟨by first | rfl | (simp; done) | (simp [*]; done), by repeat (first | exact Drawn0.refl _ | apply Drawn0.step)⟩
  · rw [if_neg c4] at H
    have c4b0 : decide (a1 ≤ a0) = false := decide_eq_false c4
    clear c4
    obtain rfl := Option.some.inj H
    simp only [Option.some.injEq, Prod.mk.injEq] at H
    obtain ⟨rfl⟩ := H
    go_enter Try.func56, Try.ntmps56
    go_wp2
    go_ret
    exact ⟨by first | rfl | (simp; done) | (simp [*]; done), by repeat (first | exact Drawn0.refl _ | apply Drawn0.step)⟩

end Go.Proofs.Ytgmjolngnhdafaa.P

end
section
namespace Go.Proofs.Ytgmjolngnhdafaa.P
open Go.RowKit Go.Proofs.YtgmjolngnhdafaaW.PrintWords Go.Proofs.YtgmjolngnhdafaaW.PrintLast Go.Proofs.YtgmjolngnhdafaaW.PrintMore
attribute [local go_sem] max2_int min2_int max_two min_two max_three min_three max_four min_four
set_option linter.unusedVariables false
set_option linter.unusedSimpArgs false

set_option maxHeartbeats 8000000 in
set_option maxRecDepth 100000 in
theorem spec_l2Field.calls (A0 : Option Addr) (c0 : Nat) (l0 : List (S38)) (a1 : Int) (r : Bool) (w : World) (hr0 : Kd.C k38 w A0 l0.length l0) (hc0 : l0.length ≤ c0) (h : spec_l2Field.f l0 a1 = some r) :
    Calls Try.prog 61 #[.slice A0 l0.length c0, .int .i64 a1] w fun e w' => e = .returned (.bool r) ∧ Drawn0 w w' := by
  have HR0 := Aside0.mk hr0
  have HC0 := Aside0.mk hc0
  clear hr0 hc0
  have H : (if a1 = 1 then (some true) else (if a1 = 3 then (some true) else (if a1 = 4 then (some true) else ((spec_l6In.f a1 8 (wrap64 ((wrap64 (8 + (l0.length : Int))) - 1))).bind fun t105 => (some t105))))) = some r := h
  clear h
  by_cases c3 : a1 = 1
  · rw [if_pos c3] at H
    have c3b0 : (a1 == 1) = true := beq_iff_eq.mpr c3
    have c3b1 : (a1 != 1) = false := bne_eq_false_iff_eq.mpr c3
    clear c3
    obtain rfl := Option.some.inj H
    simp only [Option.some.injEq, Prod.mk.injEq] at H
    obtain ⟨rfl⟩ := H
    go_enter Try.func61, Try.ntmps61
    go_wp2
    go_ret
    exact ⟨by first | rfl | (simp; done) | (simp [*]; done), by repeat (first | exact Drawn0.refl _ | apply Drawn0.step)⟩
  · rw [if_neg c3] at H
    have c3b0 : (a1 == 1) = false := beq_eq_false_iff_ne.mpr c3
    have c3b1 : (a1 != 1) = true := bne_iff_ne.mpr c3
    by_cases c4 : a1 = 3
    · rw [if_pos c4] at H
      have c4b0 : (a1 == 3) = true := beq_iff_eq.mpr c4
      have c4b1 : (a1 != 3) = false := bne_eq_false_iff_eq.mpr c4
      clear c4
      obtain rfl := Option.some.inj H
      simp only [Option.some.injEq, Prod.mk.injEq] at H
      obtain ⟨rfl⟩ := H
      go_enter Try.func61, Try.ntmps61
      go_wp2
      go_ret
      exact ⟨by first | rfl | (simp; done) | (simp [*]; done), by repeat (first | exact Drawn0.refl _ | apply Drawn0.step)⟩
    · rw [if_neg c4] at H
      have c4b0 : (a1 == 3) = false := beq_eq_false_iff_ne.mpr c4
      have c4b1 : (a1 != 3) = true := bne_iff_ne.mpr c4
      by_cases c5 : a1 = 4
      · rw [if_pos c5] at H
        have c5b0 : (a1 == 4) = true := beq_iff_eq.mpr c5
        have c5b1 : (a1 != 4) = false := bne_eq_false_iff_eq.mpr c5
        clear c5
        obtain rfl := Option.some.inj H
        simp only [Option.some.injEq, Prod.mk.injEq] at H
        obtain ⟨rfl⟩ := H
        go_enter Try.func61, Try.ntmps61
        go_wp2
        go_ret
        exact ⟨by first | rfl | (simp; done) | (simp [*]; done), by repeat (first | exact Drawn0.refl _ | apply Drawn0.step)⟩
      · rw [if_neg c5] at H
        have c5b0 : (a1 == 4) = false := beq_eq_false_iff_ne.mpr c5
        have c5b1 : (a1 != 4) = true := bne_iff_ne.mpr c5
        replace H := Option.bind_eq_some_iff.mp H
        obtain ⟨t105, A60, H⟩ := H
        replace H : (some t105) = some r := H
        have A6 := Aside0.mk A60
        clear A60
        obtain rfl := Option.some.inj H
        simp only [Option.some.injEq, Prod.mk.injEq] at H
        obtain ⟨rfl⟩ := H
        go_enter Try.func61, Try.ntmps61
        go_wp2_with (first | (go_at_call 56; (with_reducible refine (spec_l6In.calls a1 8 (wrap64 ((wrap64 (8 + (l0.length : Int))) - 1)) t105 _ A6.out).mono ?_); rintro e w' ⟨rfl, ⟨nd, rfl⟩⟩))
        go_ret
        exact ⟨by first | rfl | (simp; done) | (simp [*]; done), by repeat (first | exact Drawn0.refl _ | apply Drawn0.step)⟩

end Go.Proofs.Ytgmjolngnhdafaa.P

end
section
namespace Go.Proofs.Ytgmjolngnhdafaa.P
open Go.RowKit Go.Proofs.YtgmjolngnhdafaaW.PrintWords Go.Proofs.YtgmjolngnhdafaaW.PrintLast Go.Proofs.YtgmjolngnhdafaaW.PrintMore
attribute [local go_sem] max2_int min2_int max_two min_two max_three min_three max_four min_four
set_option linter.unusedVariables false
set_option linter.unusedSimpArgs false

set_option maxHeartbeats 8000000 in
set_option maxRecDepth 100000 in
theorem spec_l2Class.calls (k : Nat) (A0 : Option Addr) (c0 : Nat) (l0 : List (S38)) (a1 : Int) (r : Bool) (w : World) (hr0 : Kd.C k38 w A0 l0.length l0) (hc0 : l0.length ≤ c0) (h : spec_l2Class.f k l0 a1 = some r) :
    Calls Try.prog 57 #[.slice A0 l0.length c0, .int .i64 a1] w fun e w' => e = .returned (.bool r) ∧ Below w.heap.size w w' := by
  have hu38 := Try.underlying38
  have HR0 := Aside0.mk hr0
  have HC0 := Aside0.mk hc0
  clear hr0 hc0
  have HB := Aside0.mk (Below.refl w.heap.size w)
  have H : (if 0 ≤ a1 then (if a1 < (l0.length : Int) then (spec_l2Class.l0 k l0 a1 0 ((rd_T38 l0 a1).f0) ((rd_T38 l0 a1).f1)) else (none)) else (none)) = some r := h
  clear h
  by_cases c3 : 0 ≤ a1
  · rw [if_pos c3] at H
    have c3b0 : decide (0 ≤ a1) = true := decide_eq_true c3
    clear c3
    by_cases c4 : a1 < (l0.length : Int)
    · rw [if_pos c4] at H
      have c4b0 : decide (a1 < (l0.length : Int)) = true := decide_eq_true c4
      clear c4
      have H' := Aside0.mk H
      clear H
      have p106 : 0 ≤ (a1 : Int) := of_decide_eq_true (by first | (with_reducible assumption) | assumption)
      have q106 : a1 < (l0.length : Int) := of_decide_eq_true (by first | (with_reducible assumption) | assumption)
      obtain ⟨ad106, A106_1, c106_1, e106, hx106_0, hx106_1, hl106_1, hi106_1⟩ := at_T38 HR0.out a1 p106 q106
      cases e106
      have HR106_1 := Aside0.mk hi106_1
      have HC106_1 := Aside0.mk hl106_1
      clear hi106_1 hl106_1
      replace p106 := eq_true p106
      replace q106 := eq_true q106
      go_enter Try.func57, Try.ntmps57
      go_wp2_with (first | ((with_reducible refine gate_dst (N := 5) rfl ?_); (try (refine gate_guard (by rfl) ?_; dsimp only)); refine box_event ?hg (N := 5) ?hd (cs := #[.int .i64 0, .slice none 0 0]) (t := 38) ?hr ?_; (case hd => rfl); (case hg => rfl); (case hr => first | (go_simp; done) | (go_simp; rfl)); intro gb107 hg w5 hbox hb; have n0_ := Aside0.mk (below_step (by repeat (first | (with_reducible first | exact HB.out | apply below_alloc | apply pw_below_drewN | apply below_drew1) | exact HB.out)) hb); have n1_ := Aside0.mk (hbox); have n2_ := Aside0.mk ((by rw [hg]; exact (below_size (by repeat (first | (with_reducible first | exact HB.out | apply below_alloc | apply pw_below_drewN | apply below_drew1) | exact HB.out))) : w.heap.size ≤ gb107)); have n3_ := Aside0.mk ((by rw [hg]; exact (below_size (by repeat (first | (with_reducible first | exact HB.out | apply below_alloc | apply pw_below_drewN | apply below_drew1) | exact HB.out))) : w.heap.size ≤ gb107)); clear HB; have HB := n0_; have BK107 := n1_; have GW107 := n2_; have GE107 := n3_; clear n0_ n1_ n2_ n3_; clear hb hbox hg; have hcz6_0 : w5.cell? ⟨gb107, 0, none⟩ = some (.int .i64 0) := (blk_cell BK107.out 0).trans rfl; have hcz6_1 : w5.cell? ⟨gb107, 1, none⟩ = some (.slice none 0 0) := (blk_cell BK107.out 1).trans rfl; have hfz6_0 := blk_frozen BK107.out 0; have hfz6_1 := blk_frozen BK107.out 1))
      go_loopg [6] k (fun kq v6 w' => ∃ (x6_1 : Int), v6 = .int .i64 x6_1 ∧ Aside0 (spec_l2Class.l0 kq l0 a1 x6_1 ((rd_T38 l0 a1).f0) ((rd_T38 l0 a1).f1) = some r) ∧ Aside0 (kq ≤ k) ∧ Aside0 (w'.heap[gb107]? = some (.cells #[.int .i64 ((rd_T38 l0 a1).f0), (.slice A106_1 ((rd_T38 l0 a1).f1).length c106_1)] 38 (0, 0))) ∧ Aside0 (Below w.heap.size w w'))
      case atStart => exact ⟨(0), (by first | rfl | (simp; done) | (simp [*]; done)), H', ⟨Nat.le_refl _⟩, ⟨by (with_reducible repeat (first | refine blk_drewN ?_ _ | refine blk_drew ?_ | refine blk_alloc ?_ _)); refine blk_put (cs := #[.int .i64 ((rd_T38 l0 a1).f0), .slice none 0 0]) ?_ 1 _ rfl; (with_reducible repeat (first | refine blk_drewN ?_ _ | refine blk_drew ?_ | refine blk_alloc ?_ _)); refine blk_put (cs := #[.int .i64 0, .slice none 0 0]) ?_ 0 _ rfl; (with_reducible repeat (first | refine blk_drewN ?_ _ | refine blk_drew ?_ | refine blk_alloc ?_ _)); exact BK107.out⟩, ⟨by repeat (first | (with_reducible first | exact HB.out | apply below_alloc | apply pw_below_drewN | apply below_drew1 | refine below_set ?_ GE107.out) | exact HB.out)⟩⟩
      case round =>
        clear H'
        try clear c1
        try clear p1
        try clear q1
        try clear hx1
        try clear p2
        try clear c3
        try clear c3b0
        try clear c4
        try clear c4b0
        try clear c5
        try clear hcz6_0
        try clear hcz6_1
        try clear hfz6_0
        try clear hfz6_1
        try clear hx106_0
        try clear hx106_1
        try clear p106
        try clear q106
        obtain ⟨x6_1, rfl, HA, HK1, BK107, HB⟩ := hrel
        cases gk with
        | zero => exact absurd HA.out (by simp [spec_l2Class.l0])
        | succ k1 =>
          have H := HA.out
          clear HA
          simp only [spec_l2Class.l0] at H
          by_cases c7 : x6_1 < (((rd_T38 l0 a1).f1).length : Int)
          · rw [if_pos c7] at H
            have c7b0 : decide (x6_1 < (((rd_T38 l0 a1).f1).length : Int)) = true := decide_eq_true c7
            clear c7
            by_cases c8 : 0 ≤ x6_1
            · rw [if_pos c8] at H
              have c8b0 : decide (0 ≤ x6_1) = true := decide_eq_true c8
              clear c8
              replace H := Option.bind_eq_some_iff.mp H
              obtain ⟨t109, A90, H⟩ := H
              replace H : (if t109 = true then (spec_l2Class.l0 k1 l0 a1 (wrap64 (x6_1 + 1)) ((rd_T38 l0 a1).f0) ((rd_T38 l0 a1).f1)) else (some false)) = some r := H
              have A9 := Aside0.mk A90
              clear A90
              by_cases c10 : t109 = true
              · subst c10
                have H1 : (spec_l2Class.l0 k1 l0 a1 (wrap64 (x6_1 + 1)) ((rd_T38 l0 a1).f0) ((rd_T38 l0 a1).f1)) = some r := by rw [if_pos rfl] at H; exact H
                clear H
                have H := H1
                clear H1
                have H' := Aside0.mk H
                clear H
                have hcz11_0 : wr.cell? ⟨gb107, 0, none⟩ = some (.int .i64 ((rd_T38 l0 a1).f0)) := (blk_cell BK107.out 0).trans rfl
                have hcz11_1 : wr.cell? ⟨gb107, 1, none⟩ = some (.slice A106_1 ((rd_T38 l0 a1).f1).length c106_1) := (blk_cell BK107.out 1).trans rfl
                have hfz11_0 := blk_frozen BK107.out 0
                have hfz11_1 := blk_frozen BK107.out 1
                have p108 : 0 ≤ (x6_1 : Int) := of_decide_eq_true (by first | (with_reducible assumption) | assumption)
                have q108 : x6_1 < (((rd_T38 l0 a1).f1).length : Int) := of_decide_eq_true (by first | (with_reducible assumption) | assumption)
                obtain ⟨ad108, e108, hx108_0⟩ := Kd.at_int HR106_1.out x6_1 p108 q108
                cases e108
                replace hx108_0 := (HB.out.cell (World.block_lt_of_cell? w _ hx108_0)).trans hx108_0
                replace p108 := eq_true p108
                replace q108 := eq_true q108
                go_wp2_with (first | ((with_reducible refine gate_callee (f := 61) rfl ?_); refine goesL_ (some 24) rfl rfl Try.func61 (by kernel_rfl) rfl #[.slice (some ad106) l0.length c0, .int .i64 (rd ((rd_T38 l0 a1).f1) x6_1)] rfl (by (try simp only [List.map_toArray, List.map_cons, List.map_nil]); first | done | rfl | (simp only [List.length_drop, List.length_take]; rfl)) ?_; (with_reducible refine (spec_l2Field.calls _ _ l0 (rd ((rd_T38 l0 a1).f1) x6_1) true _ ?side1 ?side2 A9.out).mono ?_); (case side1 => repeat (first | exact (Kd.C_below HR0.out HB.out) | (with_reducible refine Kd.C_alloc ?_ _) | (with_reducible refine Kd.C_drewN ?_ _) | (with_reducible refine Kd.C_drew ?_))); (case side2 => exact HC0.out); rintro e w' ⟨rfl, ⟨nd, rfl⟩⟩; refine ⟨_, rfl, ?_⟩))
                go_roundg k1
                case measure => have := HK1.out; omega
                case rel => exact ⟨(wrap64 (x6_1 + 1)), (by first | rfl | (simp; done) | (simp [*]; done)), H', ⟨by have := HK1.out; omega⟩, ⟨by (with_reducible repeat (first | refine blk_drewN ?_ _ | refine blk_drew ?_ | refine blk_alloc ?_ _)); exact BK107.out⟩, ⟨by repeat (first | (with_reducible first | exact HB.out | apply below_alloc | apply pw_below_drewN | apply below_drew1 | refine below_set ?_ GE107.out) | exact HB.out)⟩⟩
              · replace c10 := Bool.eq_false_iff.mpr c10
                subst c10
                have H1 : (some false) = some r := by rw [if_neg (show ¬ (false = true) by decide)] at H; exact H
                clear H
                have H := H1
                clear H1
                obtain rfl := Option.some.inj H
                simp only [Option.some.injEq, Prod.mk.injEq] at H
                obtain ⟨rfl⟩ := H
                have hcz12_0 : wr.cell? ⟨gb107, 0, none⟩ = some (.int .i64 ((rd_T38 l0 a1).f0)) := (blk_cell BK107.out 0).trans rfl
                have hcz12_1 : wr.cell? ⟨gb107, 1, none⟩ = some (.slice A106_1 ((rd_T38 l0 a1).f1).length c106_1) := (blk_cell BK107.out 1).trans rfl
                have hfz12_0 := blk_frozen BK107.out 0
                have hfz12_1 := blk_frozen BK107.out 1
                have p108 : 0 ≤ (x6_1 : Int) := of_decide_eq_true (by first | (with_reducible assumption) | assumption)
                have q108 : x6_1 < (((rd_T38 l0 a1).f1).length : Int) := of_decide_eq_true (by first | (with_reducible assumption) | assumption)
                obtain ⟨ad108, e108, hx108_0⟩ := Kd.at_int HR106_1.out x6_1 p108 q108
                cases e108
                replace hx108_0 := (HB.out.cell (World.block_lt_of_cell? w _ hx108_0)).trans hx108_0
                replace p108 := eq_true p108
                replace q108 := eq_true q108
                go_wp2_with (first | ((with_reducible refine gate_callee (f := 61) rfl ?_); refine goesL_ (some 24) rfl rfl Try.func61 (by kernel_rfl) rfl #[.slice (some ad106) l0.length c0, .int .i64 (rd ((rd_T38 l0 a1).f1) x6_1)] rfl (by (try simp only [List.map_toArray, List.map_cons, List.map_nil]); first | done | rfl | (simp only [List.length_drop, List.length_take]; rfl)) ?_; (with_reducible refine (spec_l2Field.calls _ _ l0 (rd ((rd_T38 l0 a1).f1) x6_1) false _ ?side1 ?side2 A9.out).mono ?_); (case side1 => repeat (first | exact (Kd.C_below HR0.out HB.out) | (with_reducible refine Kd.C_alloc ?_ _) | (with_reducible refine Kd.C_drewN ?_ _) | (with_reducible refine Kd.C_drew ?_))); (case side2 => exact HC0.out); rintro e w' ⟨rfl, ⟨nd, rfl⟩⟩; refine ⟨_, rfl, ?_⟩))
                go_ret
                exact ⟨by first | rfl | (simp [errW_none, errW_some] <;> rfl) | (simp [*, errW_none, errW_some] <;> rfl), by repeat (first | (with_reducible first | exact HB.out | apply below_alloc | apply pw_below_drewN | apply below_drew1 | refine below_set ?_ GE107.out) | exact HB.out)⟩
            · rw [if_neg c8] at H
              exact absurd H (by simp)
          · rw [if_neg c7] at H
            have c7b0 : decide (x6_1 < (((rd_T38 l0 a1).f1).length : Int)) = false := decide_eq_false c7
            clear c7
            by_cases c13 : a1 = 0
            · rw [if_pos c13] at H
              have c13b0 : (a1 == 0) = true := beq_iff_eq.mpr c13
              have c13b1 : (a1 != 0) = false := bne_eq_false_iff_eq.mpr c13
              clear c13
              by_cases c14 : ((rd_T38 l0 a1).f0) = (-1)
              · rw [if_pos c14] at H
                have c14b0 : (((rd_T38 l0 a1).f0) == (-1)) = true := beq_iff_eq.mpr c14
                have c14b1 : (((rd_T38 l0 a1).f0) != (-1)) = false := bne_eq_false_iff_eq.mpr c14
                clear c14
                obtain rfl := Option.some.inj H
                simp only [Option.some.injEq, Prod.mk.injEq] at H
                obtain ⟨rfl⟩ := H
                have hcz15_0 : wr.cell? ⟨gb107, 0, none⟩ = some (.int .i64 ((rd_T38 l0 a1).f0)) := (blk_cell BK107.out 0).trans rfl
                have hcz15_1 : wr.cell? ⟨gb107, 1, none⟩ = some (.slice A106_1 ((rd_T38 l0 a1).f1).length c106_1) := (blk_cell BK107.out 1).trans rfl
                have hfz15_0 := blk_frozen BK107.out 0
                have hfz15_1 := blk_frozen BK107.out 1
                go_wp2
                go_ret
                exact ⟨by first | rfl | (simp [errW_none, errW_some] <;> rfl) | (simp [*, errW_none, errW_some] <;> rfl), by repeat (first | (with_reducible first | exact HB.out | apply below_alloc | apply pw_below_drewN | apply below_drew1 | refine below_set ?_ GE107.out) | exact HB.out)⟩
              · rw [if_neg c14] at H
                have c14b0 : (((rd_T38 l0 a1).f0) == (-1)) = false := beq_eq_false_iff_ne.mpr c14
                have c14b1 : (((rd_T38 l0 a1).f0) != (-1)) = true := bne_iff_ne.mpr c14
                obtain rfl := Option.some.inj H
                simp only [Option.some.injEq, Prod.mk.injEq] at H
                obtain ⟨rfl⟩ := H
                have hcz16_0 : wr.cell? ⟨gb107, 0, none⟩ = some (.int .i64 ((rd_T38 l0 a1).f0)) := (blk_cell BK107.out 0).trans rfl
                have hcz16_1 : wr.cell? ⟨gb107, 1, none⟩ = some (.slice A106_1 ((rd_T38 l0 a1).f1).length c106_1) := (blk_cell BK107.out 1).trans rfl
                have hfz16_0 := blk_frozen BK107.out 0
                have hfz16_1 := blk_frozen BK107.out 1
                go_wp2
                go_ret
                exact ⟨by first | rfl | (simp [errW_none, errW_some] <;> rfl) | (simp [*, errW_none, errW_some] <;> rfl), by repeat (first | (with_reducible first | exact HB.out | apply below_alloc | apply pw_below_drewN | apply below_drew1 | refine below_set ?_ GE107.out) | exact HB.out)⟩
            · rw [if_neg c13] at H
              have c13b0 : (a1 == 0) = false := beq_eq_false_iff_ne.mpr c13
              have c13b1 : (a1 != 0) = true := bne_iff_ne.mpr c13
              by_cases c17 : a1 = 1
              · rw [if_pos c17] at H
                have c17b0 : (a1 == 1) = true := beq_iff_eq.mpr c17
                have c17b1 : (a1 != 1) = false := bne_eq_false_iff_eq.mpr c17
                clear c17
                by_cases c18 : ((rd_T38 l0 a1).f0) = 0
                · rw [if_pos c18] at H
                  have c18b0 : (((rd_T38 l0 a1).f0) == 0) = true := beq_iff_eq.mpr c18
                  have c18b1 : (((rd_T38 l0 a1).f0) != 0) = false := bne_eq_false_iff_eq.mpr c18
                  clear c18
                  by_cases c19 : (((rd_T38 l0 a1).f1).length : Int) = 1
                  · rw [if_pos c19] at H
                    have c19b0 : ((((rd_T38 l0 a1).f1).length : Int) == 1) = true := beq_iff_eq.mpr c19
                    have c19b1 : ((((rd_T38 l0 a1).f1).length : Int) != 1) = false := bne_eq_false_iff_eq.mpr c19
                    clear c19
                    by_cases c20 : 0 < (((rd_T38 l0 a1).f1).length : Int)
                    · rw [if_pos c20] at H
                      have c20b0 : decide (0 < (((rd_T38 l0 a1).f1).length : Int)) = true := decide_eq_true c20
                      have c20b1 : decide (0 < ((rd_T38 l0 a1).f1).length) = true := decide_eq_true (by omega)
                      clear c20
                      obtain rfl := Option.some.inj H
                      simp only [Option.some.injEq, Prod.mk.injEq] at H
                      obtain ⟨rfl⟩ := H
                      have hcz21_0 : wr.cell? ⟨gb107, 0, none⟩ = some (.int .i64 ((rd_T38 l0 a1).f0)) := (blk_cell BK107.out 0).trans rfl
                      have hcz21_1 : wr.cell? ⟨gb107, 1, none⟩ = some (.slice A106_1 ((rd_T38 l0 a1).f1).length c106_1) := (blk_cell BK107.out 1).trans rfl
                      have hfz21_0 := blk_frozen BK107.out 0
                      have hfz21_1 := blk_frozen BK107.out 1
                      have p110 : 0 ≤ (0 : Int) := (by omega)
                      have q110 : 0 < (((rd_T38 l0 a1).f1).length : Int) := of_decide_eq_true (by first | (with_reducible assumption) | assumption)
                      obtain ⟨ad110, e110, hx110_0⟩ := Kd.at_int HR106_1.out 0 p110 q110
                      cases e110
                      have qi110 : (0 < ((rd_T38 l0 a1).f1).length) = True := eq_true (by omega)
                      (try rw [show ((0 : Int)).toNat = 0 from rfl] at hx110_0)
                      (try rw [Addr.add_zero'] at hx110_0)
                      replace hx110_0 := (HB.out.cell (World.block_lt_of_cell? w _ hx110_0)).trans hx110_0
                      replace p110 := eq_true p110
                      replace q110 := eq_true q110
                      go_wp2
                      go_ret
                      exact ⟨by first | rfl | (simp [errW_none, errW_some] <;> rfl) | (simp [*, errW_none, errW_some] <;> rfl), by repeat (first | (with_reducible first | exact HB.out | apply below_alloc | apply pw_below_drewN | apply below_drew1 | refine below_set ?_ GE107.out) | exact HB.out)⟩
                    · rw [if_neg c20] at H
                      exact absurd H (by simp)
                  · rw [if_neg c19] at H
                    have c19b0 : ((((rd_T38 l0 a1).f1).length : Int) == 1) = false := beq_eq_false_iff_ne.mpr c19
                    have c19b1 : ((((rd_T38 l0 a1).f1).length : Int) != 1) = true := bne_iff_ne.mpr c19
                    obtain rfl := Option.some.inj H
                    simp only [Option.some.injEq, Prod.mk.injEq] at H
                    obtain ⟨rfl⟩ := H
                    have hcz22_0 : wr.cell? ⟨gb107, 0, none⟩ = some (.int .i64 ((rd_T38 l0 a1).f0)) := (blk_cell BK107.out 0).trans rfl
                    have hcz22_1 : wr.cell? ⟨gb107, 1, none⟩ = some (.slice A106_1 ((rd_T38 l0 a1).f1).length c106_1) := (blk_cell BK107.out 1).trans rfl
                    have hfz22_0 := blk_frozen BK107.out 0
                    have hfz22_1 := blk_frozen BK107.out 1
                    go_wp2
                    go_ret
                    exact ⟨by first | rfl | (simp [errW_none, errW_some] <;> rfl) | (simp [*, errW_none, errW_some] <;> rfl), by repeat (first | (with_reducible first | exact HB.out | apply below_alloc | apply pw_below_drewN | apply below_drew1 | refine below_set ?_ GE107.out) | exact HB.out)⟩
                · rw [if_neg c18] at H
                  have c18b0 : (((rd_T38 l0 a1).f0) == 0) = false := beq_eq_false_iff_ne.mpr c18
                  have c18b1 : (((rd_T38 l0 a1).f0) != 0) = true := bne_iff_ne.mpr c18
                  obtain rfl := Option.some.inj H
                  simp only [Option.some.injEq, Prod.mk.injEq] at H
                  obtain ⟨rfl⟩ := H
                  have hcz23_0 : wr.cell? ⟨gb107, 0, none⟩ = some (.int .i64 ((rd_T38 l0 a1).f0)) := (blk_cell BK107.out 0).trans rfl
                  have hcz23_1 : wr.cell? ⟨gb107, 1, none⟩ = some (.slice A106_1 ((rd_T38 l0 a1).f1).length c106_1) := (blk_cell BK107.out 1).trans rfl
                  have hfz23_0 := blk_frozen BK107.out 0
                  have hfz23_1 := blk_frozen BK107.out 1
                  go_wp2
                  go_ret
                  exact ⟨by first | rfl | (simp [errW_none, errW_some] <;> rfl) | (simp [*, errW_none, errW_some] <;> rfl), by repeat (first | (with_reducible first | exact HB.out | apply below_alloc | apply pw_below_drewN | apply below_drew1 | refine below_set ?_ GE107.out) | exact HB.out)⟩
              · rw [if_neg c17] at H
                have c17b0 : (a1 == 1) = false := beq_eq_false_iff_ne.mpr c17
                have c17b1 : (a1 != 1) = true := bne_iff_ne.mpr c17
                replace H := Option.bind_eq_some_iff.mp H
                obtain ⟨t111, A240, H⟩ := H
                replace H : (if t111 = true then (some (decide ((((rd_T38 l0 a1).f1).length : Int) ≤ 2))) else (some false)) = some r := H
                have A24 := Aside0.mk A240
                clear A240
                by_cases c25 : t111 = true
                · subst c25
                  have H1 : (some (decide ((((rd_T38 l0 a1).f1).length : Int) ≤ 2))) = some r := by rw [if_pos rfl] at H; exact H
                  clear H
                  have H := H1
                  clear H1
                  obtain rfl := Option.some.inj H
                  simp only [Option.some.injEq, Prod.mk.injEq] at H
                  obtain ⟨rfl⟩ := H
                  have hcz26_0 : wr.cell? ⟨gb107, 0, none⟩ = some (.int .i64 ((rd_T38 l0 a1).f0)) := (blk_cell BK107.out 0).trans rfl
                  have hcz26_1 : wr.cell? ⟨gb107, 1, none⟩ = some (.slice A106_1 ((rd_T38 l0 a1).f1).length c106_1) := (blk_cell BK107.out 1).trans rfl
                  have hfz26_0 := blk_frozen BK107.out 0
                  have hfz26_1 := blk_frozen BK107.out 1
                  go_wp2_with (first | ((with_reducible refine gate_callee (f := 56) rfl ?_); refine goesL_ (some 60) rfl rfl Try.func56 (by kernel_rfl) rfl #[.int .i64 ((rd_T38 l0 a1).f0), .int .i64 0, .int .i64 (wrap64 (a1 - 1))] rfl (by (try simp only [List.map_toArray, List.map_cons, List.map_nil]); first | done | rfl | (simp only [List.length_drop, List.length_take]; rfl)) ?_; (with_reducible refine (spec_l6In.calls ((rd_T38 l0 a1).f0) 0 (wrap64 (a1 - 1)) true _ A24.out).mono ?_); rintro e w' ⟨rfl, ⟨nd, rfl⟩⟩; refine ⟨_, rfl, ?_⟩))
                  go_ret
                  exact ⟨by first | rfl | (simp [errW_none, errW_some] <;> rfl) | (simp [*, errW_none, errW_some] <;> rfl), by repeat (first | (with_reducible first | exact HB.out | apply below_alloc | apply pw_below_drewN | apply below_drew1 | refine below_set ?_ GE107.out) | exact HB.out)⟩
                · replace c25 := Bool.eq_false_iff.mpr c25
                  subst c25
                  have H1 : (some false) = some r := by rw [if_neg (show ¬ (false = true) by decide)] at H; exact H
                  clear H
                  have H := H1
                  clear H1
                  obtain rfl := Option.some.inj H
                  simp only [Option.some.injEq, Prod.mk.injEq] at H
                  obtain ⟨rfl⟩ := H
                  have hcz27_0 : wr.cell? ⟨gb107, 0, none⟩ = some (.int .i64 ((rd_T38 l0 a1).f0)) := (blk_cell BK107.out 0).trans rfl
                  have hcz27_1 : wr.cell? ⟨gb107, 1, none⟩ = some (.slice A106_1 ((rd_T38 l0 a1).f1).length c106_1) := (blk_cell BK107.out 1).trans rfl
                  have hfz27_0 := blk_frozen BK107.out 0
                  have hfz27_1 := blk_frozen BK107.out 1
                  go_wp2_with (first | ((with_reducible refine gate_callee (f := 56) rfl ?_); refine goesL_ (some 60) rfl rfl Try.func56 (by kernel_rfl) rfl #[.int .i64 ((rd_T38 l0 a1).f0), .int .i64 0, .int .i64 (wrap64 (a1 - 1))] rfl (by (try simp only [List.map_toArray, List.map_cons, List.map_nil]); first | done | rfl | (simp only [List.length_drop, List.length_take]; rfl)) ?_; (with_reducible refine (spec_l6In.calls ((rd_T38 l0 a1).f0) 0 (wrap64 (a1 - 1)) false _ A24.out).mono ?_); rintro e w' ⟨rfl, ⟨nd, rfl⟩⟩; refine ⟨_, rfl, ?_⟩))
                  go_ret
                  exact ⟨by first | rfl | (simp [errW_none, errW_some] <;> rfl) | (simp [*, errW_none, errW_some] <;> rfl), by repeat (first | (with_reducible first | exact HB.out | apply below_alloc | apply pw_below_drewN | apply below_drew1 | refine below_set ?_ GE107.out) | exact HB.out)⟩
    · rw [if_neg c4] at H
      exact absurd H (by simp)
  · rw [if_neg c3] at H
    exact absurd H (by simp)

end Go.Proofs.Ytgmjolngnhdafaa.P

end
section
namespace Go.Proofs.Ytgmjolngnhdafaa.P
open Go.RowKit Go.Proofs.YtgmjolngnhdafaaW.PrintWords Go.Proofs.YtgmjolngnhdafaaW.PrintLast Go.Proofs.YtgmjolngnhdafaaW.PrintMore
attribute [local go_sem] max2_int min2_int max_two min_two max_three min_three max_four min_four
set_option linter.unusedVariables false
set_option linter.unusedSimpArgs false

set_option maxHeartbeats 8000000 in
set_option maxRecDepth 100000 in
theorem spec_ClassesOk.calls (k : Nat) (A0 : Option Addr) (c0 : Nat) (l0 : List (S38)) (r : Bool) (w : World) (hr0 : Kd.C k38 w A0 l0.length l0) (hc0 : l0.length ≤ c0) (h : spec_ClassesOk.f k l0 = some r) :
    Calls Try.prog 21 #[.slice A0 l0.length c0] w fun e w' => e = .returned (.bool r) ∧ Below w.heap.size w w' := by
  have HR0 := Aside0.mk hr0
  have HC0 := Aside0.mk hc0
  clear hr0 hc0
  have HB := Aside0.mk (Below.refl w.heap.size w)
  have H : ((spec_l6In.f (l0.length : Int) 2 5).bind fun t112 => (if t112 = true then (spec_ClassesOk.l0 k l0 0) else (some false))) = some r := h
  clear h
  replace H := Option.bind_eq_some_iff.mp H
  obtain ⟨t112, A20, H⟩ := H
  replace H : (if t112 = true then (spec_ClassesOk.l0 k l0 0) else (some false)) = some r := H
  have A2 := Aside0.mk A20
  clear A20
  by_cases c3 : t112 = true
  · subst c3
    have H1 : (spec_ClassesOk.l0 k l0 0) = some r := by rw [if_pos rfl] at H; exact H
    clear H
    have H := H1
    clear H1
    have H' := Aside0.mk H
    clear H
    go_enter Try.func21, Try.ntmps21
    go_wp2_with (first | ((with_reducible refine gate_callee (f := 56) rfl ?_); refine goesL_ (some 6) rfl rfl Try.func56 (by kernel_rfl) rfl #[.int .i64 (l0.length : Int), .int .i64 2, .int .i64 5] rfl (by (try simp only [List.map_toArray, List.map_cons, List.map_nil]); first | done | rfl | (simp only [List.length_drop, List.length_take]; rfl)) ?_; (with_reducible refine (spec_l6In.calls (l0.length : Int) 2 5 true _ A2.out).mono ?_); rintro e w' ⟨rfl, ⟨nd, rfl⟩⟩; refine ⟨_, rfl, ?_⟩))
    go_loopg [3] k (fun kq v3 w' => ∃ (x3_1 : Int), v3 = .int .i64 x3_1 ∧ Aside0 (spec_ClassesOk.l0 kq l0 x3_1 = some r) ∧ Aside0 (kq ≤ k) ∧ Aside0 (Below w.heap.size w w'))
    case atStart => exact ⟨(0), (by first | rfl | (simp; done) | (simp [*]; done)), H', ⟨Nat.le_refl _⟩, ⟨by repeat (first | (with_reducible first | exact HB.out | apply below_alloc | apply pw_below_drewN | apply below_drew1) | exact HB.out)⟩⟩
    case round =>
      clear H'
      try clear c2
      try clear p2
      try clear c3
      obtain ⟨x3_1, rfl, HA, HK1, HB⟩ := hrel
      cases gk with
      | zero => exact absurd HA.out (by simp [spec_ClassesOk.l0])
      | succ k1 =>
        have H := HA.out
        clear HA
        simp only [spec_ClassesOk.l0] at H
        by_cases c4 : x3_1 < (l0.length : Int)
        · rw [if_pos c4] at H
          have c4b0 : decide (x3_1 < (l0.length : Int)) = true := decide_eq_true c4
          clear c4
          replace H := Option.bind_eq_some_iff.mp H
          obtain ⟨t113, A50, H⟩ := H
          replace H : (if t113 = true then (spec_ClassesOk.l0 k1 l0 (wrap64 (x3_1 + 1))) else (some false)) = some r := H
          have A5 := Aside0.mk A50
          clear A50
          by_cases c6 : t113 = true
          · subst c6
            have H1 : (spec_ClassesOk.l0 k1 l0 (wrap64 (x3_1 + 1))) = some r := by rw [if_pos rfl] at H; exact H
            clear H
            have H := H1
            clear H1
            have H' := Aside0.mk H
            clear H
            go_wp2_with (first | ((with_reducible refine gate_callee (f := 57) rfl ?_); refine goesL_ (some 16) rfl rfl Try.func57 (by kernel_rfl) rfl #[.slice A0 l0.length c0, .int .i64 x3_1] rfl (by (try simp only [List.map_toArray, List.map_cons, List.map_nil]); first | done | rfl | (simp only [List.length_drop, List.length_take]; rfl)) ?_; (with_reducible refine (spec_l2Class.calls k1 _ _ l0 x3_1 true _ ?side1 ?side2 A5.out).mono ?_); (case side1 => repeat (first | exact (Kd.C_below HR0.out HB.out) | (with_reducible refine Kd.C_alloc ?_ _) | (with_reducible refine Kd.C_drewN ?_ _) | (with_reducible refine Kd.C_drew ?_))); (case side2 => exact HC0.out); rintro e w7 ⟨rfl, hb⟩; refine ⟨_, rfl, ?_⟩; have n0_ := Aside0.mk (below_step (by repeat (first | (with_reducible first | exact HB.out | apply below_alloc | apply pw_below_drewN | apply below_drew1) | exact HB.out)) hb); clear HB; have HB := n0_; clear n0_; (try clear hb); (try clear hb2); (try clear hk); (try clear hi)))
            go_roundg k1
            case measure => have := HK1.out; omega
            case rel => exact ⟨(wrap64 (x3_1 + 1)), (by first | rfl | (simp; done) | (simp [*]; done)), H', ⟨by have := HK1.out; omega⟩, ⟨by repeat (first | (with_reducible first | exact HB.out | apply below_alloc | apply pw_below_drewN | apply below_drew1) | exact HB.out)⟩⟩
          · replace c6 := Bool.eq_false_iff.mpr c6
            subst c6
            have H1 : (some false) = some r := by rw [if_neg (show ¬ (false = true) by decide)] at H; exact H
            clear H
            have H := H1
            clear H1
            obtain rfl := Option.some.inj H
            simp only [Option.some.injEq, Prod.mk.injEq] at H
            obtain ⟨rfl⟩ := H
            go_wp2_with (first | ((with_reducible refine gate_callee (f := 57) rfl ?_); refine goesL_ (some 16) rfl rfl Try.func57 (by kernel_rfl) rfl #[.slice A0 l0.length c0, .int .i64 x3_1] rfl (by (try simp only [List.map_toArray, List.map_cons, List.map_nil]); first | done | rfl | (simp only [List.length_drop, List.length_take]; rfl)) ?_; (with_reducible refine (spec_l2Class.calls k1 _ _ l0 x3_1 false _ ?side1 ?side2 A5.out).mono ?_); (case side1 => repeat (first | exact (Kd.C_below HR0.out HB.out) | (with_reducible refine Kd.C_alloc ?_ _) | (with_reducible refine Kd.C_drewN ?_ _) | (with_reducible refine Kd.C_drew ?_))); (case side2 => exact HC0.out); rintro e w8 ⟨rfl, hb⟩; refine ⟨_, rfl, ?_⟩; have n0_ := Aside0.mk (below_step (by repeat (first | (with_reducible first | exact HB.out | apply below_alloc | apply pw_below_drewN | apply below_drew1) | exact HB.out)) hb); clear HB; have HB := n0_; clear n0_; (try clear hb); (try clear hb2); (try clear hk); (try clear hi)))
            go_ret
            exact ⟨by first | rfl | (simp [errW_none, errW_some] <;> rfl) | (simp [*, errW_none, errW_some] <;> rfl), by repeat (first | (with_reducible first | exact HB.out | apply below_alloc | apply pw_below_drewN | apply below_drew1) | exact HB.out)⟩
        · rw [if_neg c4] at H
          have c4b0 : decide (x3_1 < (l0.length : Int)) = false := decide_eq_false c4
          clear c4
          obtain rfl := Option.some.inj H
          simp only [Option.some.injEq, Prod.mk.injEq] at H
          obtain ⟨rfl⟩ := H
          go_wp2
          go_ret
          exact ⟨by first | rfl | (simp [errW_none, errW_some] <;> rfl) | (simp [*, errW_none, errW_some] <;> rfl), by repeat (first | (with_reducible first | exact HB.out | apply below_alloc | apply pw_below_drewN | apply below_drew1) | exact HB.out)⟩
  · replace c3 := Bool.eq_false_iff.mpr c3
    subst c3
    have H1 : (some false) = some r := by rw [if_neg (show ¬ (false = true) by decide)] at H; exact H
    clear H
    have H := H1
    clear H1
    obtain rfl := Option.some.inj H
    simp only [Option.some.injEq, Prod.mk.injEq] at H
    obtain ⟨rfl⟩ := H
    go_enter Try.func21, Try.ntmps21
    go_wp2_with (first | ((with_reducible refine gate_callee (f := 56) rfl ?_); refine goesL_ (some 6) rfl rfl Try.func56 (by kernel_rfl) rfl #[.int .i64 (l0.length : Int), .int .i64 2, .int .i64 5] rfl (by (try simp only [List.map_toArray, List.map_cons, List.map_nil]); first | done | rfl | (simp only [List.length_drop, List.length_take]; rfl)) ?_; (with_reducible refine (spec_l6In.calls (l0.length : Int) 2 5 false _ A2.out).mono ?_); rintro e w' ⟨rfl, ⟨nd, rfl⟩⟩; refine ⟨_, rfl, ?_⟩))
    go_ret
    exact ⟨by first | rfl | (simp [errW_none, errW_some] <;> rfl) | (simp [*, errW_none, errW_some] <;> rfl), by repeat (first | (with_reducible first | exact HB.out | apply below_alloc | apply pw_below_drewN | apply below_drew1) | exact HB.out)⟩

end Go.Proofs.Ytgmjolngnhdafaa.P

end
section
namespace Go.Proofs.Ytgmjolngnhdafaa.P
open Go.RowKit Go.Proofs.YtgmjolngnhdafaaW.PrintWords Go.Proofs.YtgmjolngnhdafaaW.PrintLast Go.Proofs.YtgmjolngnhdafaaW.PrintMore
attribute [local go_sem] max2_int min2_int max_two min_two max_three min_three max_four min_four
set_option linter.unusedVariables false
set_option linter.unusedSimpArgs false

set_option maxHeartbeats 8000000 in
set_option maxRecDepth 100000 in
theorem spec_l2Is.calls (k : Nat) (A0 : Option Addr) (c0 : Nat) (l0 : List (S38)) (a1 : Int) (r : Bool) (w : World) (hr0 : Kd.C k38 w A0 l0.length l0) (hc0 : l0.length ≤ c0) (h : spec_l2Is.f k l0 a1 = some r) :
    Calls Try.prog 68 #[.slice A0 l0.length c0, .int .i64 a1] w fun e w' => e = .returned (.bool r) ∧ Below w.heap.size w w' := by
  have HR0 := Aside0.mk hr0
  have HC0 := Aside0.mk hc0
  clear hr0 hc0
  have HB := Aside0.mk (Below.refl w.heap.size w)
  have H : ((spec_ClassesOk.f k l0).bind fun t232 => (if t232 = true then ((spec_l6In.f a1 0 (wrap64 ((l0.length : Int) - 1))).bind fun t233 => (some t233)) else (some false))) = some r := h
  clear h
  replace H := Option.bind_eq_some_iff.mp H
  obtain ⟨t232, A30, H⟩ := H
  replace H : (if t232 = true then ((spec_l6In.f a1 0 (wrap64 ((l0.length : Int) - 1))).bind fun t233 => (some t233)) else (some false)) = some r := H
  have A3 := Aside0.mk A30
  clear A30
  by_cases c4 : t232 = true
  · subst c4
    have H1 : ((spec_l6In.f a1 0 (wrap64 ((l0.length : Int) - 1))).bind fun t233 => (some t233)) = some r := by rw [if_pos rfl] at H; exact H
    clear H
    have H := H1
    clear H1
    replace H := Option.bind_eq_some_iff.mp H
    obtain ⟨t233, A50, H⟩ := H
    replace H : (some t233) = some r := H
    have A5 := Aside0.mk A50
    clear A50
    obtain rfl := Option.some.inj H
    simp only [Option.some.injEq, Prod.mk.injEq] at H
    obtain ⟨rfl⟩ := H
    go_enter Try.func68, Try.ntmps68
    go_wp2_with (first | ((with_reducible refine gate_callee (f := 21) rfl ?_); refine goesL_ (some 6) rfl rfl Try.func21 (by kernel_rfl) rfl #[.slice A0 l0.length c0] rfl (by (try simp only [List.map_toArray, List.map_cons, List.map_nil]); first | done | rfl | (simp only [List.length_drop, List.length_take]; rfl)) ?_; (with_reducible refine (spec_ClassesOk.calls k _ _ l0 true _ ?side1 ?side2 A3.out).mono ?_); (case side1 => repeat (first | exact HR0.out | (with_reducible refine Kd.C_alloc ?_ _) | (with_reducible refine Kd.C_drewN ?_ _) | (with_reducible refine Kd.C_drew ?_))); (case side2 => exact HC0.out); rintro e w6 ⟨rfl, hb⟩; refine ⟨_, rfl, ?_⟩; have n0_ := Aside0.mk (below_step (by repeat (first | (with_reducible first | exact HB.out | apply below_alloc | apply pw_below_drewN | apply below_drew1) | exact HB.out)) hb); clear HB; have HB := n0_; clear n0_; (try clear hb); (try clear hb2); (try clear hk); (try clear hi)) | (go_at_call 56; (with_reducible refine (spec_l6In.calls a1 0 (wrap64 ((l0.length : Int) - 1)) t233 _ A5.out).mono ?_); rintro e w' ⟨rfl, ⟨nd, rfl⟩⟩))
    go_ret
    exact ⟨by first | rfl | (simp [errW_none, errW_some] <;> rfl) | (simp [*, errW_none, errW_some] <;> rfl), by repeat (first | (with_reducible first | exact HB.out | apply below_alloc | apply pw_below_drewN | apply below_drew1) | exact HB.out)⟩
  · replace c4 := Bool.eq_false_iff.mpr c4
    subst c4
    have H1 : (some false) = some r := by rw [if_neg (show ¬ (false = true) by decide)] at H; exact H
    clear H
    have H := H1
    clear H1
    obtain rfl := Option.some.inj H
    simp only [Option.some.injEq, Prod.mk.injEq] at H
    obtain ⟨rfl⟩ := H
    go_enter Try.func68, Try.ntmps68
    go_wp2_with (first | ((with_reducible refine gate_callee (f := 21) rfl ?_); refine goesL_ (some 6) rfl rfl Try.func21 (by kernel_rfl) rfl #[.slice A0 l0.length c0] rfl (by (try simp only [List.map_toArray, List.map_cons, List.map_nil]); first | done | rfl | (simp only [List.length_drop, List.length_take]; rfl)) ?_; (with_reducible refine (spec_ClassesOk.calls k _ _ l0 false _ ?side1 ?side2 A3.out).mono ?_); (case side1 => repeat (first | exact HR0.out | (with_reducible refine Kd.C_alloc ?_ _) | (with_reducible refine Kd.C_drewN ?_ _) | (with_reducible refine Kd.C_drew ?_))); (case side2 => exact HC0.out); rintro e w7 ⟨rfl, hb⟩; refine ⟨_, rfl, ?_⟩; have n0_ := Aside0.mk (below_step (by repeat (first | (with_reducible first | exact HB.out | apply below_alloc | apply pw_below_drewN | apply below_drew1) | exact HB.out)) hb); clear HB; have HB := n0_; clear n0_; (try clear hb); (try clear hb2); (try clear hk); (try clear hi)))
    go_ret
    exact ⟨by first | rfl | (simp [errW_none, errW_some] <;> rfl) | (simp [*, errW_none, errW_some] <;> rfl), by repeat (first | (with_reducible first | exact HB.out | apply below_alloc | apply pw_below_drewN | apply below_drew1) | exact HB.out)⟩

end Go.Proofs.Ytgmjolngnhdafaa.P

end
section
namespace Go.Proofs.Ytgmjolngnhdafaa.P
open Go.RowKit Go.Proofs.YtgmjolngnhdafaaW.PrintWords Go.Proofs.YtgmjolngnhdafaaW.PrintLast Go.Proofs.YtgmjolngnhdafaaW.PrintMore
attribute [local go_sem] max2_int min2_int max_two min_two max_three min_three max_four min_four
set_option linter.unusedVariables false
set_option linter.unusedSimpArgs false

set_option maxHeartbeats 8000000 in
set_option maxRecDepth 100000 in
theorem spec_l2Up.calls (k : Nat) (A0 : Option Addr) (c0 : Nat) (l0 : List (S38)) (a1 : Int) (a2 : Int) (r : Bool) (w : World) (hr0 : Kd.C k38 w A0 l0.length l0) (hc0 : l0.length ≤ c0) (h : spec_l2Up.f k l0 a1 a2 = some r) :
    Calls Try.prog 69 #[.slice A0 l0.length c0, .int .i64 a1, .int .i64 a2] w fun e w' => e = .returned (.bool r) ∧ Drawn0 w w' := by
  have HR0 := Aside0.mk hr0
  have HC0 := Aside0.mk hc0
  clear hr0 hc0
  have H : (spec_l2Up.l0 k l0 a1 a2) = some r := h
  clear h
  have H' := Aside0.mk H
  clear H
  go_enter Try.func69, Try.ntmps69
  go_wp2
  go_loopg [1] k (fun kq v1 w' => ∃ (x1_1 : Int), v1 = .int .i64 x1_1 ∧ Aside0 (spec_l2Up.l0 kq l0 x1_1 a2 = some r) ∧ Aside0 (kq ≤ k) ∧ Drawn0 w w')
  case atStart => exact ⟨(a1), (by first | rfl | (simp; done) | (simp [*]; done)), H', ⟨Nat.le_refl _⟩, by repeat (first | exact Drawn0.refl _ | apply Drawn0.step)⟩
  case round =>
    clear H'
    try clear p2
    obtain ⟨x1_1, rfl, HA, HK1, ⟨m1, rfl⟩⟩ := hrel
    cases gk with
    | zero => exact absurd HA.out (by simp [spec_l2Up.l0])
    | succ k1 =>
      have H := HA.out
      clear HA
      simp only [spec_l2Up.l0] at H
      by_cases c4 : x1_1 > a2
      · rw [if_pos c4] at H
        have c4b0 : decide (a2 < x1_1) = true := decide_eq_true c4
        clear c4
        by_cases c5 : 0 ≤ x1_1
        · rw [if_pos c5] at H
          have c5b0 : decide (0 ≤ x1_1) = true := decide_eq_true c5
          clear c5
          by_cases c6 : x1_1 < (l0.length : Int)
          · rw [if_pos c6] at H
            have c6b0 : decide (x1_1 < (l0.length : Int)) = true := decide_eq_true c6
            clear c6
            have H' := Aside0.mk H
            clear H
            have p234 : 0 ≤ (x1_1 : Int) := of_decide_eq_true (by first | (with_reducible assumption) | assumption)
            have q234 : x1_1 < (l0.length : Int) := of_decide_eq_true (by first | (with_reducible assumption) | assumption)
            obtain ⟨ad234, A234_1, c234_1, e234, hx234_0, hx234_1, hl234_1, hi234_1⟩ := at_T38 HR0.out x1_1 p234 q234
            cases e234
            have HR234_1 := Aside0.mk hi234_1
            have HC234_1 := Aside0.mk hl234_1
            clear hi234_1 hl234_1
            replace p234 := eq_true p234
            replace q234 := eq_true q234
            go_wp2
            go_roundg k1
            case measure => have := HK1.out; omega
            case rel => exact ⟨((rd_T38 l0 x1_1).f0), (by first | rfl | (simp; done) | (simp [*]; done)), H', ⟨by have := HK1.out; omega⟩, by repeat (first | exact Drawn0.refl _ | apply Drawn0.step)⟩
          · rw [if_neg c6] at H
            exact absurd H (by simp)
        · rw [if_neg c5] at H
          exact absurd H (by simp)
      · rw [if_neg c4] at H
        have c4b0 : decide (a2 < x1_1) = false := decide_eq_false c4
        clear c4
        obtain rfl := Option.some.inj H
        simp only [Option.some.injEq, Prod.mk.injEq] at H
        obtain ⟨rfl⟩ := H
        go_wp2
        go_ret
        exact ⟨by first | rfl | (simp; done) | (simp [*]; done), by repeat (first | exact Drawn0.refl _ | apply Drawn0.step)⟩

end Go.Proofs.Ytgmjolngnhdafaa.P

end
section
namespace Go.Proofs.Ytgmjolngnhdafaa.P
open Go.RowKit Go.Proofs.YtgmjolngnhdafaaW.PrintWords Go.Proofs.YtgmjolngnhdafaaW.PrintLast Go.Proofs.YtgmjolngnhdafaaW.PrintMore
attribute [local go_sem] max2_int min2_int max_two min_two max_three min_three max_four min_four
set_option linter.unusedVariables false
set_option linter.unusedSimpArgs false

set_option maxHeartbeats 8000000 in
set_option maxRecDepth 100000 in
theorem spec_ClassUp.calls (k : Nat) (A0 : Option Addr) (c0 : Nat) (l0 : List (S38)) (a1 : Int) (a2 : Int) (r : Bool) (w : World) (hr0 : Kd.C k38 w A0 l0.length l0) (hc0 : l0.length ≤ c0) (h : spec_ClassUp.f k l0 a1 a2 = some r) :
    Calls Try.prog 29 #[.slice A0 l0.length c0, .int .i64 a1, .int .i64 a2] w fun e w' => e = .returned (.bool r) ∧ Below w.heap.size w w' := by
  have HR0 := Aside0.mk hr0
  have HC0 := Aside0.mk hc0
  clear hr0 hc0
  have HB := Aside0.mk (Below.refl w.heap.size w)
  have H : ((spec_l2Is.f k l0 a1).bind fun t235 => (if t235 = true then ((spec_l2Is.f k l0 a2).bind fun t236 => (if t236 = true then ((spec_l2Up.f k l0 a1 a2).bind fun t237 => (some t237)) else (some false))) else (some false))) = some r := h
  clear h
  replace H := Option.bind_eq_some_iff.mp H
  obtain ⟨t235, A40, H⟩ := H
  replace H : (if t235 = true then ((spec_l2Is.f k l0 a2).bind fun t236 => (if t236 = true then ((spec_l2Up.f k l0 a1 a2).bind fun t237 => (some t237)) else (some false))) else (some false)) = some r := H
  have A4 := Aside0.mk A40
  clear A40
  by_cases c5 : t235 = true
  · subst c5
    have H1 : ((spec_l2Is.f k l0 a2).bind fun t236 => (if t236 = true then ((spec_l2Up.f k l0 a1 a2).bind fun t237 => (some t237)) else (some false))) = some r := by rw [if_pos rfl] at H; exact H
    clear H
    have H := H1
    clear H1
    replace H := Option.bind_eq_some_iff.mp H
    obtain ⟨t236, A60, H⟩ := H
    replace H : (if t236 = true then ((spec_l2Up.f k l0 a1 a2).bind fun t237 => (some t237)) else (some false)) = some r := H
    have A6 := Aside0.mk A60
    clear A60
    by_cases c7 : t236 = true
    · subst c7
      have H1 : ((spec_l2Up.f k l0 a1 a2).bind fun t237 => (some t237)) = some r := by rw [if_pos rfl] at H; exact H
      clear H
      have H := H1
      clear H1
      replace H := Option.bind_eq_some_iff.mp H
      obtain ⟨t237, A80, H⟩ := H
      replace H : (some t237) = some r := H
      have A8 := Aside0.mk A80
      clear A80
      obtain rfl := Option.some.inj H
      simp only [Option.some.injEq, Prod.mk.injEq] at H
      obtain ⟨rfl⟩ := H
      go_enter Try.func29, Try.ntmps29
      go_wp2_with (first | ((with_reducible refine gate_callee (f := 68) rfl ?_); refine goesL_ (some 9) rfl rfl Try.func68 (by kernel_rfl) rfl #[.slice A0 l0.length c0, .int .i64 a1] rfl (by (try simp only [List.map_toArray, List.map_cons, List.map_nil]); first | done | rfl | (simp only [List.length_drop, List.length_take]; rfl)) ?_; (with_reducible refine (spec_l2Is.calls k _ _ l0 a1 true _ ?side1 ?side2 A4.out).mono ?_); (case side1 => repeat (first | exact HR0.out | (with_reducible refine Kd.C_alloc ?_ _) | (with_reducible refine Kd.C_drewN ?_ _) | (with_reducible refine Kd.C_drew ?_))); (case side2 => exact HC0.out); rintro e w9 ⟨rfl, hb⟩; refine ⟨_, rfl, ?_⟩; have n0_ := Aside0.mk (below_step (by repeat (first | (with_reducible first | exact HB.out | apply below_alloc | apply pw_below_drewN | apply below_drew1) | exact HB.out)) hb); clear HB; have HB := n0_; clear n0_; (try clear hb); (try clear hb2); (try clear hk); (try clear hi)) | (go_at_call 68; (with_reducible refine (spec_l2Is.calls k _ _ l0 a2 true _ ?side1 ?side2 A6.out).mono ?_); (case side1 => repeat (first | exact (Kd.C_below HR0.out HB.out) | (with_reducible refine Kd.C_alloc ?_ _) | (with_reducible refine Kd.C_drewN ?_ _) | (with_reducible refine Kd.C_drew ?_))); (case side2 => exact HC0.out); rintro e w10 ⟨rfl, hb⟩; have n0_ := Aside0.mk (below_step (by repeat (first | (with_reducible first | exact HB.out | apply below_alloc | apply pw_below_drewN | apply below_drew1) | exact HB.out)) hb); clear HB; have HB := n0_; clear n0_; (try clear hb); (try clear hb2); (try clear hk); (try clear hi)) | (go_at_call 69; (with_reducible refine (spec_l2Up.calls k _ _ l0 a1 a2 t237 _ ?side1 ?side2 A8.out).mono ?_); (case side1 => repeat (first | exact (Kd.C_below HR0.out HB.out) | (with_reducible refine Kd.C_alloc ?_ _) | (with_reducible refine Kd.C_drewN ?_ _) | (with_reducible refine Kd.C_drew ?_))); (case side2 => exact HC0.out); rintro e w' ⟨rfl, ⟨nd, rfl⟩⟩))
      go_ret
      exact ⟨by first | rfl | (simp [errW_none, errW_some] <;> rfl) | (simp [*, errW_none, errW_some] <;> rfl), by repeat (first | (with_reducible first | exact HB.out | apply below_alloc | apply pw_below_drewN | apply below_drew1) | exact HB.out)⟩
    · replace c7 := Bool.eq_false_iff.mpr c7
      subst c7
      have H1 : (some false) = some r := by rw [if_neg (show ¬ (false = true) by decide)] at H; exact H
      clear H
      have H := H1
      clear H1
      obtain rfl := Option.some.inj H
      simp only [Option.some.injEq, Prod.mk.injEq] at H
      obtain ⟨rfl⟩ := H
      go_enter Try.func29, Try.ntmps29
      go_wp2_with (first | ((with_reducible refine gate_callee (f := 68) rfl ?_); refine goesL_ (some 9) rfl rfl Try.func68 (by kernel_rfl) rfl #[.slice A0 l0.length c0, .int .i64 a1] rfl (by (try simp only [List.map_toArray, List.map_cons, List.map_nil]); first | done | rfl | (simp only [List.length_drop, List.length_take]; rfl)) ?_; (with_reducible refine (spec_l2Is.calls k _ _ l0 a1 true _ ?side1 ?side2 A4.out).mono ?_); (case side1 => repeat (first | exact HR0.out | (with_reducible refine Kd.C_alloc ?_ _) | (with_reducible refine Kd.C_drewN ?_ _) | (with_reducible refine Kd.C_drew ?_))); (case side2 => exact HC0.out); rintro e w11 ⟨rfl, hb⟩; refine ⟨_, rfl, ?_⟩; have n0_ := Aside0.mk (below_step (by repeat (first | (with_reducible first | exact HB.out | apply below_alloc | apply pw_below_drewN | apply below_drew1) | exact HB.out)) hb); clear HB; have HB := n0_; clear n0_; (try clear hb); (try clear hb2); (try clear hk); (try clear hi)) | (go_at_call 68; (with_reducible refine (spec_l2Is.calls k _ _ l0 a2 false _ ?side1 ?side2 A6.out).mono ?_); (case side1 => repeat (first | exact (Kd.C_below HR0.out HB.out) | (with_reducible refine Kd.C_alloc ?_ _) | (with_reducible refine Kd.C_drewN ?_ _) | (with_reducible refine Kd.C_drew ?_))); (case side2 => exact HC0.out); rintro e w12 ⟨rfl, hb⟩; have n0_ := Aside0.mk (below_step (by repeat (first | (with_reducible first | exact HB.out | apply below_alloc | apply pw_below_drewN | apply below_drew1) | exact HB.out)) hb); clear HB; have HB := n0_; clear n0_; (try clear hb); (try clear hb2); (try clear hk); (try clear hi)))
      go_ret
      exact ⟨by first | rfl | (simp [errW_none, errW_some] <;> rfl) | (simp [*, errW_none, errW_some] <;> rfl), by repeat (first | (with_reducible first | exact HB.out | apply below_alloc | apply pw_below_drewN | apply below_drew1) | exact HB.out)⟩
  · replace c5 := Bool.eq_false_iff.mpr c5
    subst c5
    have H1 : (some false) = some r := by rw [if_neg (show ¬ (false = true) by decide)] at H; exact H
    clear H
    have H := H1
    clear H1
    obtain rfl := Option.some.inj H
    simp only [Option.some.injEq, Prod.mk.injEq] at H
    obtain ⟨rfl⟩ := H
    go_enter Try.func29, Try.ntmps29
    go_wp2_with (first | ((with_reducible refine gate_callee (f := 68) rfl ?_); refine goesL_ (some 9) rfl rfl Try.func68 (by kernel_rfl) rfl #[.slice A0 l0.length c0, .int .i64 a1] rfl (by (try simp only [List.map_toArray, List.map_cons, List.map_nil]); first | done | rfl | (simp only [List.length_drop, List.length_take]; rfl)) ?_; (with_reducible refine (spec_l2Is.calls k _ _ l0 a1 false _ ?side1 ?side2 A4.out).mono ?_); (case side1 => repeat (first | exact HR0.out | (with_reducible refine Kd.C_alloc ?_ _) | (with_reducible refine Kd.C_drewN ?_ _) | (with_reducible refine Kd.C_drew ?_))); (case side2 => exact HC0.out); rintro e w13 ⟨rfl, hb⟩; refine ⟨_, rfl, ?_⟩; have n0_ := Aside0.mk (below_step (by repeat (first | (with_reducible first | exact HB.out | apply below_alloc | apply pw_below_drewN | apply below_drew1) | exact HB.out)) hb); clear HB; have HB := n0_; clear n0_; (try clear hb); (try clear hb2); (try clear hk); (try clear hi)))
    go_ret
    exact ⟨by first | rfl | (simp [errW_none, errW_some] <;> rfl) | (simp [*, errW_none, errW_some] <;> rfl), by repeat (first | (with_reducible first | exact HB.out | apply below_alloc | apply pw_below_drewN | apply below_drew1) | exact HB.out)⟩

end Go.Proofs.Ytgmjolngnhdafaa.P

end
section
namespace Go.Proofs.Ytgmjolngnhdafaa.P
open Go.RowKit Go.Proofs.YtgmjolngnhdafaaW.PrintWords Go.Proofs.YtgmjolngnhdafaaW.PrintLast Go.Proofs.YtgmjolngnhdafaaW.PrintMore
attribute [local go_sem] max2_int min2_int max_two min_two max_three min_three max_four min_four
set_option linter.unusedVariables false
set_option linter.unusedSimpArgs false

set_option maxHeartbeats 8000000 in
set_option maxRecDepth 100000 in
theorem laws_leIs.calls (k : Nat) (A0 : Option Addr) (c0 : Nat) (l0 : List (S38)) (a1 : Int) (r : Bool) (w : World) (hr0 : Kd.C k38 w A0 l0.length l0) (hc0 : l0.length ≤ c0) (h : laws_leIs.f k l0 a1 = some r) :
    Calls Try.prog 30 #[.slice A0 l0.length c0, .int .i64 a1] w fun e w' => e = .returned (.bool r) ∧ Below w.heap.size w w' := by
  have HR0 := Aside0.mk hr0
  have HC0 := Aside0.mk hc0
  clear hr0 hc0
  have HB := Aside0.mk (Below.refl w.heap.size w)
  have H : ((spec_ClassesOk.f k l0).bind fun t238 => (if t238 = true then (if a1 ≥ 0 then (some (decide (a1 < (l0.length : Int)))) else (some false)) else (some false))) = some r := h
  clear h
  replace H := Option.bind_eq_some_iff.mp H
  obtain ⟨t238, A30, H⟩ := H
  replace H : (if t238 = true then (if a1 ≥ 0 then (some (decide (a1 < (l0.length : Int)))) else (some false)) else (some false)) = some r := H
  have A3 := Aside0.mk A30
  clear A30
  by_cases c4 : t238 = true
  · subst c4
    have H1 : (if a1 ≥ 0 then (some (decide (a1 < (l0.length : Int)))) else (some false)) = some r := by rw [if_pos rfl] at H; exact H
    clear H
    have H := H1
    clear H1
    by_cases c5 : a1 ≥ 0
    · rw [if_pos c5] at H
      have c5b0 : decide (0 ≤ a1) = true := decide_eq_true c5
      clear c5
      obtain rfl := Option.some.inj H
      simp only [Option.some.injEq, Prod.mk.injEq] at H
      obtain ⟨rfl⟩ := H
      go_enter Try.func30, Try.ntmps30
      go_wp2_with (first | ((with_reducible refine gate_callee (f := 21) rfl ?_); refine goesL_ (some 6) rfl rfl Try.func21 (by kernel_rfl) rfl #[.slice A0 l0.length c0] rfl (by (try simp only [List.map_toArray, List.map_cons, List.map_nil]); first | done | rfl | (simp only [List.length_drop, List.length_take]; rfl)) ?_; (with_reducible refine (spec_ClassesOk.calls k _ _ l0 true _ ?side1 ?side2 A3.out).mono ?_); (case side1 => repeat (first | exact HR0.out | (with_reducible refine Kd.C_alloc ?_ _) | (with_reducible refine Kd.C_drewN ?_ _) | (with_reducible refine Kd.C_drew ?_))); (case side2 => exact HC0.out); rintro e w6 ⟨rfl, hb⟩; refine ⟨_, rfl, ?_⟩; have n0_ := Aside0.mk (below_step (by repeat (first | (with_reducible first | exact HB.out | apply below_alloc | apply pw_below_drewN | apply below_drew1) | exact HB.out)) hb); clear HB; have HB := n0_; clear n0_; (try clear hb); (try clear hb2); (try clear hk); (try clear hi)))
      go_ret
      exact ⟨by first | rfl | (simp [errW_none, errW_some] <;> rfl) | (simp [*, errW_none, errW_some] <;> rfl), by repeat (first | (with_reducible first | exact HB.out | apply below_alloc | apply pw_below_drewN | apply below_drew1) | exact HB.out)⟩
    · rw [if_neg c5] at H
      have c5b0 : decide (0 ≤ a1) = false := decide_eq_false c5
      clear c5
      obtain rfl := Option.some.inj H
      simp only [Option.some.injEq, Prod.mk.injEq] at H
      obtain ⟨rfl⟩ := H
      go_enter Try.func30, Try.ntmps30
      go_wp2_with (first | ((with_reducible refine gate_callee (f := 21) rfl ?_); refine goesL_ (some 6) rfl rfl Try.func21 (by kernel_rfl) rfl #[.slice A0 l0.length c0] rfl (by (try simp only [List.map_toArray, List.map_cons, List.map_nil]); first | done | rfl | (simp only [List.length_drop, List.length_take]; rfl)) ?_; (with_reducible refine (spec_ClassesOk.calls k _ _ l0 true _ ?side1 ?side2 A3.out).mono ?_); (case side1 => repeat (first | exact HR0.out | (with_reducible refine Kd.C_alloc ?_ _) | (with_reducible refine Kd.C_drewN ?_ _) | (with_reducible refine Kd.C_drew ?_))); (case side2 => exact HC0.out); rintro e w7 ⟨rfl, hb⟩; refine ⟨_, rfl, ?_⟩; have n0_ := Aside0.mk (below_step (by repeat (first | (with_reducible first | exact HB.out | apply below_alloc | apply pw_below_drewN | apply below_drew1) | exact HB.out)) hb); clear HB; have HB := n0_; clear n0_; (try clear hb); (try clear hb2); (try clear hk); (try clear hi)))
      go_ret
      exact ⟨by first | rfl | (simp [errW_none, errW_some] <;> rfl) | (simp [*, errW_none, errW_some] <;> rfl), by repeat (first | (with_reducible first | exact HB.out | apply below_alloc | apply pw_below_drewN | apply below_drew1) | exact HB.out)⟩
  · replace c4 := Bool.eq_false_iff.mpr c4
    subst c4
    have H1 : (some false) = some r := by rw [if_neg (show ¬ (false = true) by decide)] at H; exact H
    clear H
    have H := H1
    clear H1
    obtain rfl := Option.some.inj H
    simp only [Option.some.injEq, Prod.mk.injEq] at H
    obtain ⟨rfl⟩ := H
    go_enter Try.func30, Try.ntmps30
    go_wp2_with (first | ((with_reducible refine gate_callee (f := 21) rfl ?_); refine goesL_ (some 6) rfl rfl Try.func21 (by kernel_rfl) rfl #[.slice A0 l0.length c0] rfl (by (try simp only [List.map_toArray, List.map_cons, List.map_nil]); first | done | rfl | (simp only [List.length_drop, List.length_take]; rfl)) ?_; (with_reducible refine (spec_ClassesOk.calls k _ _ l0 false _ ?side1 ?side2 A3.out).mono ?_); (case side1 => repeat (first | exact HR0.out | (with_reducible refine Kd.C_alloc ?_ _) | (with_reducible refine Kd.C_drewN ?_ _) | (with_reducible refine Kd.C_drew ?_))); (case side2 => exact HC0.out); rintro e w8 ⟨rfl, hb⟩; refine ⟨_, rfl, ?_⟩; have n0_ := Aside0.mk (below_step (by repeat (first | (with_reducible first | exact HB.out | apply below_alloc | apply pw_below_drewN | apply below_drew1) | exact HB.out)) hb); clear HB; have HB := n0_; clear n0_; (try clear hb); (try clear hb2); (try clear hk); (try clear hi)))
    go_ret
    exact ⟨by first | rfl | (simp [errW_none, errW_some] <;> rfl) | (simp [*, errW_none, errW_some] <;> rfl), by repeat (first | (with_reducible first | exact HB.out | apply below_alloc | apply pw_below_drewN | apply below_drew1) | exact HB.out)⟩

end Go.Proofs.Ytgmjolngnhdafaa.P

end
section
namespace Go.Proofs.Ytgmjolngnhdafaa.P
open Go Go.RowKit Go.Proofs.YtgmjolngnhdafaaW.PrintWords Go.Proofs.YtgmjolngnhdafaaW.PrintLast Go.Proofs.YtgmjolngnhdafaaW.PrintMore
set_option linter.unusedVariables false
set_option linter.unusedSimpArgs false
theorem eqAClass (d : Nat) (w : World) (x0 y0 : Int) :
    (Op.equalIn (d + 2) 88 (.agg #[.int .i64 x0]) (.agg #[.int .i64 y0])).run Try.prog w = .ok (x0 == y0) w := by
  refine eqA_of Try.underlying88 (by kernel_rfl) ?_
  exact eqf_last (by rfl) (by go_simp; rfl) (by go_simp; rfl) (by go_simp)
theorem eqIClass (d : Nat) (vx vy : Value) (W : World) : (Op.equalIn (d+1) 69 (.iface 88 vx) (.iface 88 vy)).run Try.prog W = (Op.equalIn d 88 vx vy).run Try.prog W := by
  rw [Op.equalIn]
  rfl
theorem eqClassKinds (x y : Int) (W : World) : (binOp .eql 69 (.iface 88 (.agg #[.int .i64 x])) (.iface 88 (.agg #[.int .i64 y]))).run Try.prog W = .ok (.bool (x == y)) W := by
  simp only [binOp, Op.equal, Op.maxDepth]
  simp [eqIClass 9999, eqAClass 9997]
theorem eqAArray (d : Nat) (w : World) (x0 y0 : Bool) :
    (Op.equalIn (d + 2) 86 (.agg #[.bool x0]) (.agg #[.bool y0])).run Try.prog w = .ok (x0 == y0) w := by
  refine eqA_of Try.underlying86 (by kernel_rfl) ?_
  exact eqf_last (by rfl) (by go_simp; rfl) (by go_simp; rfl) (by go_simp)
theorem eqIArray (d : Nat) (vx vy : Value) (W : World) : (Op.equalIn (d+1) 69 (.iface 86 vx) (.iface 86 vy)).run Try.prog W = (Op.equalIn d 86 vx vy).run Try.prog W := by
  rw [Op.equalIn]
  rfl
theorem eqArrayKinds (x y : Bool) (W : World) : (binOp .eql 69 (.iface 86 (.agg #[.bool x])) (.iface 86 (.agg #[.bool y]))).run Try.prog W = .ok (.bool (x == y)) W := by
  simp only [binOp, Op.equal, Op.maxDepth]
  simp [eqIArray 9999, eqAArray 9997]
theorem kindOk5 {a : Int} (h : KindOk a) : a = 0 ∨ a = 1 ∨ a = 2 ∨ a = 3 ∨ a = 4 ∨ 8 ≤ a := by unfold KindOk at h; omega
theorem kindEq {a b : Int} (ha : KindOk a) (hb : KindOk b) (W : World) : (binOp .eql 69 (kindW a) (kindW b)).run Try.prog W = .ok (.bool (a == b)) W := by
  have ea : 8 ≤ a → ∀ c : Int, c ≤ 4 → (a == c) = false := by intro h c hc; simp; omega
  have eb : 8 ≤ b → ∀ c : Int, c ≤ 4 → (c == b) = false := by intro h c hc; simp; omega
  rcases kindOk5 ha with rfl | rfl | rfl | rfl | rfl | h
  all_goals rcases kindOk5 hb with rfl | rfl | rfl | rfl | rfl | h'
  all_goals first
    | (with_reducible rfl)
    | (rw [eb h' _ (by decide), kindW_8 h']; rfl)
    | (rw [ea h _ (by decide), kindW_8 h]; rfl)
    | (rw [kindW_8 h, kindW_8 h', eqClassKinds, show (a - 8 == b - 8) = (a == b) by rw [Bool.eq_iff_iff]; simp])
    | (exact eqArrayKinds _ _ W)
    | rfl
theorem kindEq0 {b : Int} (hb : KindOk b) (W : World) : (binOp .eql 69 (kindW b) (.iface 89 (.agg #[]))).run Try.prog W = .ok (.bool (b == 0)) W := kindEq (b := 0) hb (.inl ⟨by decide, by decide⟩) W
theorem kindEq8 {b : Int} (hb : KindOk b) (W : World) : (binOp .eql 69 (kindW b) (.iface 88 (.agg #[.int .i64 0]))).run Try.prog W = .ok (.bool (b == 8)) W := kindEq (b := 8) hb (.inr ⟨by decide, by decide⟩) W
theorem kindNe1 {b : Int} (hb : KindOk b) (W : World) : (binOp .neq 69 (kindW b) (.iface 84 (.agg #[]))).run Try.prog W = .ok (.bool (b != 1)) W := by
  rcases kindOk5 hb with rfl | rfl | rfl | rfl | rfl | h <;> (try rfl)
  rw [kindW_8 h, show (b != 1) = true by simp; omega]; rfl
theorem kindOk_no {a : Int} (h : KindOk a) : KindNo a := by unfold KindOk at h; unfold KindNo; omega
theorem guardKindE {a : Int} (h : KindOk a) (t : TypeId) (o o' : Operand) (v : Value) (W : World) : (eqGuard .eql t o o' (kindW a) v).run Try.prog W = .ok () W := by
  obtain ⟨u, x, e⟩ := kindIface (r := a) (by unfold KindOk at h; omega)
  rw [e]; cases v <;> rfl
theorem guardKindN {a : Int} (h : KindOk a) (t : TypeId) (o o' : Operand) (v : Value) (W : World) : (eqGuard .neq t o o' (kindW a) v).run Try.prog W = .ok () W := by
  obtain ⟨u, x, e⟩ := kindIface (r := a) (by unfold KindOk at h; omega)
  rw [e]; cases v <;> rfl
set_option maxHeartbeats 4000000 in
set_option maxRecDepth 100000 in
theorem impl_kindIn.calls (k : Nat) (A0 : Option Addr) (c0 : Nat) (l0 : List S38) (a1 a2 : Int) (r : Bool) (w : World) (hr0 : Kd.C k38 w A0 l0.length l0) (hc0 : l0.length ≤ c0) (h : impl_kindIn.f k l0 a1 a2 = some r) :
    Calls Try.prog 89 #[.slice A0 l0.length c0, kindW a1, kindW a2] w fun e w' => e = .returned (.bool r) ∧ Below w.heap.size w w' := by
  have HR0 := Aside0.mk hr0
  have HC0 := Aside0.mk hc0
  clear hr0 hc0
  unfold impl_kindIn.f at h
  split at h
  · rename_i hb
    obtain ⟨h1, h2⟩ := hb
    have q1 := kindEq h1 h2
    have q2 := kindEq0 h2
    have q3 := kindEq8 h2
    have q4 := kindNe1 h2
    have g1 := guardKindE h1
    have g2 := guardKindE h2
    have g3 := guardKindN h2
    have s1 := assertNull (kindOk_no h1)
    have s2 := assertArray (kindOk_no h1)
    have s3 := assertClass (kindOk_no h1)
    have s4 := assertClass (kindOk_no h2)
    by_cases c1 : a1 = a2
    · rw [if_pos c1] at h
      obtain rfl := Option.some.inj h
      have b1 : (a1 == a2) = true := by simpa using c1
      clear c1 h h1 h2
      go_enter Try.func89, Try.ntmps89
      go_wp2
      go_ret
      exact ⟨by simp, by repeat (first | (with_reducible exact Below.refl _ _) | apply below_alloc | apply pw_below_drewN | apply below_drew1 | exact Below.refl _ _)⟩
    rw [if_neg c1] at h
    have b1 : (a1 == a2) = false := by simpa using c1
    clear c1
    by_cases c2 : a2 = 0
    · rw [if_pos c2] at h
      obtain rfl := Option.some.inj h
      have b2 : (a2 == 0) = true := by simpa using c2
      clear c2 h h1 h2
      go_enter Try.func89, Try.ntmps89
      go_wp2
      go_ret
      exact ⟨by simp, by repeat (first | (with_reducible exact Below.refl _ _) | apply below_alloc | apply pw_below_drewN | apply below_drew1 | exact Below.refl _ _)⟩
    rw [if_neg c2] at h
    have b2 : (a2 == 0) = false := by simpa using c2
    clear c2
    by_cases c3 : a1 = 2
    · rw [if_pos c3] at h
      obtain rfl := Option.some.inj h
      have b3 : (a1 == 2) = true := by simpa using c3
      clear c3 h h1 h2
      go_enter Try.func89, Try.ntmps89
      go_wp2
      go_ret
      exact ⟨by simp, by repeat (first | (with_reducible exact Below.refl _ _) | apply below_alloc | apply pw_below_drewN | apply below_drew1 | exact Below.refl _ _)⟩
    rw [if_neg c3] at h
    have b3 : (a1 == 2) = false := by simpa using c3
    clear c3
    by_cases c4 : a1 = 3 ∨ a1 = 4
    · rw [if_pos c4] at h
      obtain rfl := Option.some.inj h
      have b4 : (a1 == 3 || a1 == 4) = true := by simpa using c4
      clear c4 h h1 h2
      go_enter Try.func89, Try.ntmps89
      go_wp2
      go_ret
      exact ⟨by simp, by repeat (first | (with_reducible exact Below.refl _ _) | apply below_alloc | apply pw_below_drewN | apply below_drew1 | exact Below.refl _ _)⟩
    rw [if_neg c4] at h
    have b4 : (a1 == 3 || a1 == 4) = false := by simpa using c4
    clear c4
    by_cases c5 : 8 ≤ a1
    · rw [if_pos c5] at h
      have b5 : decide (8 ≤ a1) = true := decide_eq_true c5
      rw [if_pos c5] at s3
      by_cases c6 : 8 ≤ a2
      · rw [if_pos c6] at h
        have b6 : decide (8 ≤ a2) = true := decide_eq_true c6
        rw [if_pos c6] at s4
        have A := Aside0.mk h
        clear c5 c6 h h1 h2
        go_enter Try.func89, Try.ntmps89
        go_wp2_with (go_at_call 67; refine (impl_classUp.calls k _ _ l0 _ _ _ _ (Kd.C_below HR0.out (by repeat (first | (with_reducible exact Below.refl _ _) | apply below_alloc | apply pw_below_drewN | apply below_drew1 | exact Below.refl _ _))) HC0.out A.out).mono ?_; rintro e w1 ⟨rfl, ⟨n1, rfl⟩⟩)
        go_ret
        exact ⟨by simp, by repeat (first | (with_reducible exact Below.refl _ _) | apply below_alloc | apply pw_below_drewN | apply below_drew1 | exact Below.refl _ _)⟩
      · rw [if_neg c6] at h
        obtain rfl := Option.some.inj h
        have b6 : decide (8 ≤ a2) = false := decide_eq_false c6
        rw [if_neg c6] at s4
        clear c5 c6 h h1 h2
        go_enter Try.func89, Try.ntmps89
        go_wp2
        go_ret
        exact ⟨by simp, by repeat (first | (with_reducible exact Below.refl _ _) | apply below_alloc | apply pw_below_drewN | apply below_drew1 | exact Below.refl _ _)⟩
    · rw [if_neg c5] at h
      obtain rfl := Option.some.inj h
      have b5 : decide (8 ≤ a1) = false := decide_eq_false c5
      rw [if_neg c5] at s3
      clear c5 h h1 h2
      go_enter Try.func89, Try.ntmps89
      go_wp2
      go_ret
      exact ⟨by simp, by repeat (first | (with_reducible exact Below.refl _ _) | apply below_alloc | apply pw_below_drewN | apply below_drew1 | exact Below.refl _ _)⟩
  · cases h
end Go.Proofs.Ytgmjolngnhdafaa.P

end
section
namespace Go.Proofs.Ytgmjolngnhdafaa.P
open Go.RowKit Go.Proofs.YtgmjolngnhdafaaW.PrintWords Go.Proofs.YtgmjolngnhdafaaW.PrintLast Go.Proofs.YtgmjolngnhdafaaW.PrintMore
attribute [local go_sem] max2_int min2_int max_two min_two max_three min_three max_four min_four
set_option linter.unusedVariables false
set_option linter.unusedSimpArgs false

set_option maxHeartbeats 8000000 in
set_option maxRecDepth 100000 in
theorem impl_typeIn.calls (k : Nat) (A0 : Option Addr) (c0 : Nat) (l0 : List (S38)) (a1 : Int) (a2 : Int) (r : Bool) (w : World) (hr0 : Kd.C k38 w A0 l0.length l0) (hc0 : l0.length ≤ c0) (h : impl_typeIn.f k l0 a1 a2 = some r) :
    Calls Try.prog 72 #[.slice A0 l0.length c0, .int .i64 a1, .int .i64 a2] w fun e w' => e = .returned (.bool r) ∧ Below w.heap.size w w' := by
  have hkq := kindEql
  have hkn := kindNeq
  have hkp := guardNilE
  have hkr := guardNilN
  have HR0 := Aside0.mk hr0
  have HC0 := Aside0.mk hc0
  clear hr0 hc0
  have HB := Aside0.mk (Below.refl w.heap.size w)
  have H : ((impl_kindOf.f (l0.length : Int) a1).bind fun t354 => ((impl_kindOf.f (l0.length : Int) a2).bind fun t355 => (if t354 = (-1) then (some false) else (if t355 = (-1) then (some false) else ((impl_kindIn.f k l0 t354 t355).bind fun t356 => (some t356)))))) = some r := h
  clear h
  replace H := Option.bind_eq_some_iff.mp H
  obtain ⟨t354, A40, H⟩ := H
  replace H : ((impl_kindOf.f (l0.length : Int) a2).bind fun t355 => (if t354 = (-1) then (some false) else (if t355 = (-1) then (some false) else ((impl_kindIn.f k l0 t354 t355).bind fun t356 => (some t356))))) = some r := H
  have A4 := Aside0.mk A40
  clear A40
  replace H := Option.bind_eq_some_iff.mp H
  obtain ⟨t355, A50, H⟩ := H
  replace H : (if t354 = (-1) then (some false) else (if t355 = (-1) then (some false) else ((impl_kindIn.f k l0 t354 t355).bind fun t356 => (some t356)))) = some r := H
  have A5 := Aside0.mk A50
  clear A50
  by_cases c6 : t354 = (-1)
  · rw [if_pos c6] at H
    have c6b0 : (t354 == (-1)) = true := beq_iff_eq.mpr c6
    have c6b1 : (t354 != (-1)) = false := bne_eq_false_iff_eq.mpr c6
    clear c6
    obtain rfl := Option.some.inj H
    simp only [Option.some.injEq, Prod.mk.injEq] at H
    obtain ⟨rfl⟩ := H
    go_enter Try.func72, Try.ntmps72
    go_wp2_with (first | ((with_reducible refine gate_callee (f := 62) rfl ?_); refine goesL_ (some 12) rfl rfl Try.func62 (by kernel_rfl) rfl #[.int .i64 (l0.length : Int), .int .i64 a1] rfl (by (try simp only [List.map_toArray, List.map_cons, List.map_nil]); first | done | rfl | (simp only [List.length_drop, List.length_take]; rfl)) ?_; (with_reducible refine (impl_kindOf.calls (l0.length : Int) a1 t354 _ A4.out).mono ?_); rintro e w' ⟨rfl, ⟨nd, rfl⟩⟩; refine ⟨_, rfl, ?_⟩) | ((with_reducible refine gate_callee (f := 62) rfl ?_); refine goesL_ (some 16) rfl rfl Try.func62 (by kernel_rfl) rfl #[.int .i64 (l0.length : Int), .int .i64 a2] rfl (by (try simp only [List.map_toArray, List.map_cons, List.map_nil]); first | done | rfl | (simp only [List.length_drop, List.length_take]; rfl)) ?_; (with_reducible refine (impl_kindOf.calls (l0.length : Int) a2 t355 _ A5.out).mono ?_); rintro e w' ⟨rfl, ⟨nd, rfl⟩⟩; refine ⟨_, rfl, ?_⟩))
    go_ret
    exact ⟨by first | rfl | (simp [errW_none, errW_some] <;> rfl) | (simp [*, errW_none, errW_some] <;> rfl), by repeat (first | (with_reducible first | exact HB.out | apply below_alloc | apply pw_below_drewN | apply below_drew1) | exact HB.out)⟩
  · rw [if_neg c6] at H
    have c6b0 : (t354 == (-1)) = false := beq_eq_false_iff_ne.mpr c6
    have c6b1 : (t354 != (-1)) = true := bne_iff_ne.mpr c6
    by_cases c7 : t355 = (-1)
    · rw [if_pos c7] at H
      have c7b0 : (t355 == (-1)) = true := beq_iff_eq.mpr c7
      have c7b1 : (t355 != (-1)) = false := bne_eq_false_iff_eq.mpr c7
      clear c7
      obtain rfl := Option.some.inj H
      simp only [Option.some.injEq, Prod.mk.injEq] at H
      obtain ⟨rfl⟩ := H
      go_enter Try.func72, Try.ntmps72
      go_wp2_with (first | ((with_reducible refine gate_callee (f := 62) rfl ?_); refine goesL_ (some 12) rfl rfl Try.func62 (by kernel_rfl) rfl #[.int .i64 (l0.length : Int), .int .i64 a1] rfl (by (try simp only [List.map_toArray, List.map_cons, List.map_nil]); first | done | rfl | (simp only [List.length_drop, List.length_take]; rfl)) ?_; (with_reducible refine (impl_kindOf.calls (l0.length : Int) a1 t354 _ A4.out).mono ?_); rintro e w' ⟨rfl, ⟨nd, rfl⟩⟩; refine ⟨_, rfl, ?_⟩) | ((with_reducible refine gate_callee (f := 62) rfl ?_); refine goesL_ (some 16) rfl rfl Try.func62 (by kernel_rfl) rfl #[.int .i64 (l0.length : Int), .int .i64 a2] rfl (by (try simp only [List.map_toArray, List.map_cons, List.map_nil]); first | done | rfl | (simp only [List.length_drop, List.length_take]; rfl)) ?_; (with_reducible refine (impl_kindOf.calls (l0.length : Int) a2 t355 _ A5.out).mono ?_); rintro e w' ⟨rfl, ⟨nd, rfl⟩⟩; refine ⟨_, rfl, ?_⟩))
      go_ret
      exact ⟨by first | rfl | (simp [errW_none, errW_some] <;> rfl) | (simp [*, errW_none, errW_some] <;> rfl), by repeat (first | (with_reducible first | exact HB.out | apply below_alloc | apply pw_below_drewN | apply below_drew1) | exact HB.out)⟩
    · rw [if_neg c7] at H
      have c7b0 : (t355 == (-1)) = false := beq_eq_false_iff_ne.mpr c7
      have c7b1 : (t355 != (-1)) = true := bne_iff_ne.mpr c7
      replace H := Option.bind_eq_some_iff.mp H
      obtain ⟨t356, A80, H⟩ := H
      replace H : (some t356) = some r := H
      have A8 := Aside0.mk A80
      clear A80
      obtain rfl := Option.some.inj H
      simp only [Option.some.injEq, Prod.mk.injEq] at H
      obtain ⟨rfl⟩ := H
      go_enter Try.func72, Try.ntmps72
      go_wp2_with (first | ((with_reducible refine gate_callee (f := 62) rfl ?_); refine goesL_ (some 12) rfl rfl Try.func62 (by kernel_rfl) rfl #[.int .i64 (l0.length : Int), .int .i64 a1] rfl (by (try simp only [List.map_toArray, List.map_cons, List.map_nil]); first | done | rfl | (simp only [List.length_drop, List.length_take]; rfl)) ?_; (with_reducible refine (impl_kindOf.calls (l0.length : Int) a1 t354 _ A4.out).mono ?_); rintro e w' ⟨rfl, ⟨nd, rfl⟩⟩; refine ⟨_, rfl, ?_⟩) | ((with_reducible refine gate_callee (f := 62) rfl ?_); refine goesL_ (some 16) rfl rfl Try.func62 (by kernel_rfl) rfl #[.int .i64 (l0.length : Int), .int .i64 a2] rfl (by (try simp only [List.map_toArray, List.map_cons, List.map_nil]); first | done | rfl | (simp only [List.length_drop, List.length_take]; rfl)) ?_; (with_reducible refine (impl_kindOf.calls (l0.length : Int) a2 t355 _ A5.out).mono ?_); rintro e w' ⟨rfl, ⟨nd, rfl⟩⟩; refine ⟨_, rfl, ?_⟩) | (go_at_call 89; (with_reducible refine (impl_kindIn.calls k _ _ l0 t354 t355 t356 _ ?side1 ?side2 A8.out).mono ?_); (case side1 => repeat (first | exact HR0.out | (with_reducible refine Kd.C_alloc ?_ _) | (with_reducible refine Kd.C_drewN ?_ _) | (with_reducible refine Kd.C_drew ?_))); (case side2 => exact HC0.out); rintro e w9 ⟨rfl, hb⟩; have n0_ := Aside0.mk (below_step (by repeat (first | (with_reducible first | exact HB.out | apply below_alloc | apply pw_below_drewN | apply below_drew1) | exact HB.out)) hb); clear HB; have HB := n0_; clear n0_; (try clear hb); (try clear hb2); (try clear hk); (try clear hi)))
      go_ret
      exact ⟨by first | rfl | (simp [errW_none, errW_some] <;> rfl) | (simp [*, errW_none, errW_some] <;> rfl), by repeat (first | (with_reducible first | exact HB.out | apply below_alloc | apply pw_below_drewN | apply below_drew1) | exact HB.out)⟩

end Go.Proofs.Ytgmjolngnhdafaa.P

end
section
namespace Go.Proofs.Ytgmjolngnhdafaa.P
open Go.RowKit Go.Proofs.YtgmjolngnhdafaaW.PrintWords Go.Proofs.YtgmjolngnhdafaaW.PrintLast Go.Proofs.YtgmjolngnhdafaaW.PrintMore
attribute [local go_sem] max2_int min2_int max_two min_two max_three min_three max_four min_four
set_option linter.unusedVariables false
set_option linter.unusedSimpArgs false

set_option maxHeartbeats 8000000 in
set_option maxRecDepth 100000 in
theorem impl_TypeIn.calls (k : Nat) (A0 : Option Addr) (c0 : Nat) (l0 : List (S38)) (a1 : Int) (a2 : Int) (r : Bool) (w : World) (hr0 : Kd.C k38 w A0 l0.length l0) (hc0 : l0.length ≤ c0) (h : impl_TypeIn.f k l0 a1 a2 = some r) :
    Calls Try.prog 35 #[.slice A0 l0.length c0, .int .i64 a1, .int .i64 a2] w fun e w' => e = .returned (.bool r) ∧ Below w.heap.size w w' := by
  have HR0 := Aside0.mk hr0
  have HC0 := Aside0.mk hc0
  clear hr0 hc0
  have HB := Aside0.mk (Below.refl w.heap.size w)
  have H : ((impl_ClassesOk.f k l0).bind fun t357 => (if t357 = true then ((impl_typeIn.f k l0 a1 a2).bind fun t358 => (some t358)) else (some false))) = some r := h
  clear h
  replace H := Option.bind_eq_some_iff.mp H
  obtain ⟨t357, A40, H⟩ := H
  replace H : (if t357 = true then ((impl_typeIn.f k l0 a1 a2).bind fun t358 => (some t358)) else (some false)) = some r := H
  have A4 := Aside0.mk A40
  clear A40
  by_cases c5 : t357 = true
  · subst c5
    have H1 : ((impl_typeIn.f k l0 a1 a2).bind fun t358 => (some t358)) = some r := by rw [if_pos rfl] at H; exact H
    clear H
    have H := H1
    clear H1
    replace H := Option.bind_eq_some_iff.mp H
    obtain ⟨t358, A60, H⟩ := H
    replace H : (some t358) = some r := H
    have A6 := Aside0.mk A60
    clear A60
    obtain rfl := Option.some.inj H
    simp only [Option.some.injEq, Prod.mk.injEq] at H
    obtain ⟨rfl⟩ := H
    go_enter Try.func35, Try.ntmps35
    go_wp2_with (first | ((with_reducible refine gate_callee (f := 23) rfl ?_); refine goesL_ (some 8) rfl rfl Try.func23 (by kernel_rfl) rfl #[.slice A0 l0.length c0] rfl (by (try simp only [List.map_toArray, List.map_cons, List.map_nil]); first | done | rfl | (simp only [List.length_drop, List.length_take]; rfl)) ?_; (with_reducible refine (impl_ClassesOk.calls k _ _ l0 true _ ?side1 ?side2 A4.out).mono ?_); (case side1 => repeat (first | exact HR0.out | (with_reducible refine Kd.C_alloc ?_ _) | (with_reducible refine Kd.C_drewN ?_ _) | (with_reducible refine Kd.C_drew ?_))); (case side2 => exact HC0.out); rintro e w7 ⟨rfl, hb⟩; refine ⟨_, rfl, ?_⟩; have n0_ := Aside0.mk (below_step (by repeat (first | (with_reducible first | exact HB.out | apply below_alloc | apply pw_below_drewN | apply below_drew1) | exact HB.out)) hb); clear HB; have HB := n0_; clear n0_; (try clear hb); (try clear hb2); (try clear hk); (try clear hi)) | (go_at_call 72; (with_reducible refine (impl_typeIn.calls k _ _ l0 a1 a2 t358 _ ?side1 ?side2 A6.out).mono ?_); (case side1 => repeat (first | exact (Kd.C_below HR0.out HB.out) | (with_reducible refine Kd.C_alloc ?_ _) | (with_reducible refine Kd.C_drewN ?_ _) | (with_reducible refine Kd.C_drew ?_))); (case side2 => exact HC0.out); rintro e w8 ⟨rfl, hb⟩; have n0_ := Aside0.mk (below_step (by repeat (first | (with_reducible first | exact HB.out | apply below_alloc | apply pw_below_drewN | apply below_drew1) | exact HB.out)) hb); clear HB; have HB := n0_; clear n0_; (try clear hb); (try clear hb2); (try clear hk); (try clear hi)))
    go_ret
    exact ⟨by first | rfl | (simp [errW_none, errW_some] <;> rfl) | (simp [*, errW_none, errW_some] <;> rfl), by repeat (first | (with_reducible first | exact HB.out | apply below_alloc | apply pw_below_drewN | apply below_drew1) | exact HB.out)⟩
  · replace c5 := Bool.eq_false_iff.mpr c5
    subst c5
    have H1 : (some false) = some r := by rw [if_neg (show ¬ (false = true) by decide)] at H; exact H
    clear H
    have H := H1
    clear H1
    obtain rfl := Option.some.inj H
    simp only [Option.some.injEq, Prod.mk.injEq] at H
    obtain ⟨rfl⟩ := H
    go_enter Try.func35, Try.ntmps35
    go_wp2_with (first | ((with_reducible refine gate_callee (f := 23) rfl ?_); refine goesL_ (some 8) rfl rfl Try.func23 (by kernel_rfl) rfl #[.slice A0 l0.length c0] rfl (by (try simp only [List.map_toArray, List.map_cons, List.map_nil]); first | done | rfl | (simp only [List.length_drop, List.length_take]; rfl)) ?_; (with_reducible refine (impl_ClassesOk.calls k _ _ l0 false _ ?side1 ?side2 A4.out).mono ?_); (case side1 => repeat (first | exact HR0.out | (with_reducible refine Kd.C_alloc ?_ _) | (with_reducible refine Kd.C_drewN ?_ _) | (with_reducible refine Kd.C_drew ?_))); (case side2 => exact HC0.out); rintro e w9 ⟨rfl, hb⟩; refine ⟨_, rfl, ?_⟩; have n0_ := Aside0.mk (below_step (by repeat (first | (with_reducible first | exact HB.out | apply below_alloc | apply pw_below_drewN | apply below_drew1) | exact HB.out)) hb); clear HB; have HB := n0_; clear n0_; (try clear hb); (try clear hb2); (try clear hk); (try clear hi)))
    go_ret
    exact ⟨by first | rfl | (simp [errW_none, errW_some] <;> rfl) | (simp [*, errW_none, errW_some] <;> rfl), by repeat (first | (with_reducible first | exact HB.out | apply below_alloc | apply pw_below_drewN | apply below_drew1) | exact HB.out)⟩

end Go.Proofs.Ytgmjolngnhdafaa.P

end
section
namespace Go.Proofs.Ytgmjolngnhdafaa.P
open Go.RowKit Go.Proofs.YtgmjolngnhdafaaW.PrintWords Go.Proofs.YtgmjolngnhdafaaW.PrintLast Go.Proofs.YtgmjolngnhdafaaW.PrintMore
attribute [local go_sem] max2_int min2_int max_two min_two max_three min_three max_four min_four
set_option linter.unusedVariables false
set_option linter.unusedSimpArgs false

set_option maxHeartbeats 8000000 in
set_option maxRecDepth 100000 in
theorem laws_FnTypeClass.calls (k : Nat) (A0 : Option Addr) (c0 : Nat) (l0 : List Int) (r : Bool) (w : World) (hr0 : Kd.C (Kd.int .u8) w A0 l0.length l0) (hc0 : l0.length ≤ c0) (h : laws_FnTypeClass.f k l0 = some r) (hr_ : r = true) :
    Calls Try.prog 9 #[.slice A0 l0.length c0] w fun e w' => e = .returned (.bool r) ∧ Below w.heap.size w w' := by
  have HR0 := Aside0.mk hr0
  have HC0 := Aside0.mk hc0
  clear hr0 hc0
  have HB := Aside0.mk (Below.refl w.heap.size w)
  have H : (if (l0.length : Int) > 1048576 then (some true) else ((spec_DrawClassUp.f k l0).bind fun bt359 => ((impl_ClassUp.f k bt359.1 bt359.2.1 bt359.2.2).bind fun t364 => ((spec_ClassUp.f k bt359.1 bt359.2.1 bt359.2.2).bind fun t365 => (if (t364 != t365) = true then (laws_FnTypeClass.j0 k bt359.1 bt359.2.1 bt359.2.2 t364 true) else ((laws_leIs.f k bt359.1 bt359.2.1).bind fun t366 => (if t366 = true then ((laws_leIs.f k bt359.1 bt359.2.2).bind fun t367 => (laws_FnTypeClass.j0 k bt359.1 bt359.2.1 bt359.2.2 t364 (!t367))) else (laws_FnTypeClass.j0 k bt359.1 bt359.2.1 bt359.2.2 t364 true)))))))) = some r := h
  clear h
  by_cases c2 : (l0.length : Int) > 1048576
  · rw [if_pos c2] at H
    have c2b0 : decide (1048576 < (l0.length : Int)) = true := decide_eq_true c2
    have c2b1 : decide (1048576 < l0.length) = true := decide_eq_true (by omega)
    clear c2
    obtain rfl := Option.some.inj H
    simp only [Option.some.injEq, Prod.mk.injEq] at H
    obtain ⟨rfl⟩ := H
    go_enter Try.func9, Try.ntmps9
    go_wp2
    go_ret
    exact ⟨by first | rfl | (simp [errW_none, errW_some] <;> rfl) | (simp [*, errW_none, errW_some] <;> rfl), by repeat (first | (with_reducible first | exact HB.out | apply below_alloc | apply pw_below_drewN | apply below_drew1) | exact HB.out)⟩
  · rw [if_neg c2] at H
    have c2b0 : decide (1048576 < (l0.length : Int)) = false := decide_eq_false c2
    have c2b1 : decide (1048576 < l0.length) = false := decide_eq_false (by omega)
    clear c2
    replace H := Option.bind_eq_some_iff.mp H
    obtain ⟨⟨t359, t362, t363⟩, A30, H⟩ := H
    replace H : ((impl_ClassUp.f k t359 t362 t363).bind fun t364 => ((spec_ClassUp.f k t359 t362 t363).bind fun t365 => (if (t364 != t365) = true then (laws_FnTypeClass.j0 k t359 t362 t363 t364 true) else ((laws_leIs.f k t359 t362).bind fun t366 => (if t366 = true then ((laws_leIs.f k t359 t363).bind fun t367 => (laws_FnTypeClass.j0 k t359 t362 t363 t364 (!t367))) else (laws_FnTypeClass.j0 k t359 t362 t363 t364 true)))))) = some r := H
    have A3 := Aside0.mk A30
    clear A30
    replace H := Option.bind_eq_some_iff.mp H
    obtain ⟨t364, A40, H⟩ := H
    replace H : ((spec_ClassUp.f k t359 t362 t363).bind fun t365 => (if (t364 != t365) = true then (laws_FnTypeClass.j0 k t359 t362 t363 t364 true) else ((laws_leIs.f k t359 t362).bind fun t366 => (if t366 = true then ((laws_leIs.f k t359 t363).bind fun t367 => (laws_FnTypeClass.j0 k t359 t362 t363 t364 (!t367))) else (laws_FnTypeClass.j0 k t359 t362 t363 t364 true))))) = some r := H
    have A4 := Aside0.mk A40
    clear A40
    have HC5 := Aside0.mk H
    clear H
    go_enter Try.func9, Try.ntmps9
    go_upto_region 5 with (first | ((with_reducible refine gate_callee (f := 27) rfl ?_); refine goesL_ (some 14) rfl rfl Try.func27 (by kernel_rfl) rfl #[.slice A0 l0.length c0] rfl (by (try simp only [List.map_toArray, List.map_cons, List.map_nil]); first | done | rfl | (simp only [List.length_drop, List.length_take]; rfl)) ?_; (with_reducible refine (spec_DrawClassUp.calls k _ _ l0 t359 t362 t363 _ ?side1 ?side2 A3.out).mono ?_); (case side1 => repeat (first | exact HR0.out | (with_reducible refine Kd.C_alloc ?_ _) | (with_reducible refine Kd.C_drewN ?_ _) | (with_reducible refine Kd.C_drew ?_))); (case side2 => exact HC0.out); rintro e w6 ⟨v360, rfl, ho0, hb⟩; refine ⟨_, rfl, ?_⟩; have n0_ := Aside0.mk (Kd.N_lower (Kd.N_mono (ok' := fun k_ => True) ho0 (fun k_ hk_ => trivial)) (below_size (by repeat (first | (with_reducible first | exact HB.out | apply below_alloc | apply pw_below_drewN | apply below_drew1) | exact HB.out)))); have n1_ := Aside0.mk (below_step (by repeat (first | (with_reducible first | exact HB.out | apply below_alloc | apply pw_below_drewN | apply below_drew1) | exact HB.out)) hb); clear HB; have HO361 := n0_; have HB := n1_; clear n0_ n1_; (try clear hb); (try clear hb2); (try clear hk); (try clear hi); (try clear ho0); obtain ⟨Ao7, co7, eo7⟩ := Kd.N_slice HO361.out; subst eo7) | ((with_reducible refine gate_callee (f := 28) rfl ?_); refine goesL_ (some 21) rfl rfl Try.func28 (by kernel_rfl) rfl #[.slice Ao7 t359.length co7, .int .i64 t362, .int .i64 t363] rfl (by (try simp only [List.map_toArray, List.map_cons, List.map_nil]); first | done | rfl | (simp only [List.length_drop, List.length_take]; rfl)) ?_; (with_reducible refine (impl_ClassUp.calls k _ _ t359 t362 t363 t364 _ ?side1 ?side2 A4.out).mono ?_); (case side1 => repeat (first | exact (Kd.N_reads' HO361.out).2.2 | (with_reducible refine Kd.C_alloc ?_ _) | (with_reducible refine Kd.C_drewN ?_ _) | (with_reducible refine Kd.C_drew ?_))); (case side2 => exact (Kd.N_reads' HO361.out).2.1); rintro e w8 ⟨rfl, hb⟩; refine ⟨_, rfl, ?_⟩; have n0_ := Aside0.mk (Kd.N_below (by (with_reducible repeat (first | apply Kd.N_alloc | apply Kd.N_drewN | apply Kd.N_drew)); exact HO361.out) hb); have n1_ := Aside0.mk (below_step (by repeat (first | (with_reducible first | exact HB.out | apply below_alloc | apply pw_below_drewN | apply below_drew1) | exact HB.out)) hb); clear HO361; clear HB; have HO361 := n0_; have HB := n1_; clear n0_ n1_; (try clear hb); (try clear hb2); (try clear hk); (try clear hi)))
    (try simp only [Act.put, List.setIfInBounds_toArray, List.set_cons_zero, List.set_cons_succ])
    go_cut [39] (fun v39 wc => ∃ (kq : Nat) (x39_4 : Bool), v39 = .bool x39_4 ∧ Aside0 (laws_FnTypeClass.j0 kq t359 t362 t363 t364 x39_4 = some r) ∧ Aside0 (kq ≤ k) ∧ Aside0 (Kd.N k38 38 wc w.heap.size (fun _ => True) (.slice Ao7 t359.length co7) t359) ∧ Aside0 (Below w.heap.size w wc))
    case first =>
      have H := HC5.out
      clear HC5
      replace H := Option.bind_eq_some_iff.mp H
      obtain ⟨t365, A90, H⟩ := H
      replace H : (if (t364 != t365) = true then (laws_FnTypeClass.j0 k t359 t362 t363 t364 true) else ((laws_leIs.f k t359 t362).bind fun t366 => (if t366 = true then ((laws_leIs.f k t359 t363).bind fun t367 => (laws_FnTypeClass.j0 k t359 t362 t363 t364 (!t367))) else (laws_FnTypeClass.j0 k t359 t362 t363 t364 true)))) = some r := H
      have A9 := Aside0.mk A90
      clear A90
      by_cases c10 : (t364 != t365) = true
      · rw [if_pos c10] at H
        have c10b0 : (t364 != t365) = true := c10
        (try (have c10b1 : decide (t364 = t365) = false := by simpa using c10))
        (try (have c10b2 : (t364 == t365) = false := by simpa using c10))
        (try (have c10b3 : ¬ (t364 = t365) := by simpa using c10))
        clear c10
        (first | rw [c10b0] | (simp only [i64_w, i32_w]; rw [c10b0]) | skip)
        have H' := Aside0.mk H
        clear H
        go_wp2_with (first | ((with_reducible refine gate_callee (f := 29) rfl ?_); refine goesL_ (some 26) rfl rfl Try.func29 (by kernel_rfl) rfl #[.slice Ao7 t359.length co7, .int .i64 t362, .int .i64 t363] rfl (by (try simp only [List.map_toArray, List.map_cons, List.map_nil]); first | done | rfl | (simp only [List.length_drop, List.length_take]; rfl)) ?_; (with_reducible refine (spec_ClassUp.calls k _ _ t359 t362 t363 t365 _ ?side1 ?side2 A9.out).mono ?_); (case side1 => repeat (first | exact (Kd.N_reads' HO361.out).2.2 | (with_reducible refine Kd.C_alloc ?_ _) | (with_reducible refine Kd.C_drewN ?_ _) | (with_reducible refine Kd.C_drew ?_))); (case side2 => exact (Kd.N_reads' HO361.out).2.1); rintro e w11 ⟨rfl, hb⟩; refine ⟨_, rfl, ?_⟩; have n0_ := Aside0.mk (Kd.N_below (by (with_reducible repeat (first | apply Kd.N_alloc | apply Kd.N_drewN | apply Kd.N_drew)); exact HO361.out) hb); have n1_ := Aside0.mk (below_step (by repeat (first | (with_reducible first | exact HB.out | apply below_alloc | apply pw_below_drewN | apply below_drew1) | exact HB.out)) hb); clear HO361; clear HB; have HO361 := n0_; have HB := n1_; clear n0_ n1_; (try clear hb); (try clear hb2); (try clear hk); (try clear hi)))
        go_meet
        case rel => exact ⟨_, (true), (by first | rfl | (simp; done) | (simp [*]; done)), H', ⟨by first | omega | exact Nat.le_refl _⟩, ⟨by (with_reducible repeat (first | apply Kd.N_alloc | apply Kd.N_drewN | apply Kd.N_drew)); exact HO361.out⟩, ⟨by repeat (first | (with_reducible first | exact HB.out | apply below_alloc | apply pw_below_drewN | apply below_drew1) | exact HB.out)⟩⟩
      · rw [if_neg c10] at H
        have c10b0 : (t364 != t365) = false := by simpa using c10
        (try (have c10b1 : decide (t364 = t365) = true := by simpa using c10))
        (try (have c10b2 : (t364 == t365) = true := by simpa using c10))
        clear c10
        (first | rw [c10b0] | (simp only [i64_w, i32_w]; rw [c10b0]) | skip)
        replace H := Option.bind_eq_some_iff.mp H
        obtain ⟨t366, A120, H⟩ := H
        replace H : (if t366 = true then ((laws_leIs.f k t359 t363).bind fun t367 => (laws_FnTypeClass.j0 k t359 t362 t363 t364 (!t367))) else (laws_FnTypeClass.j0 k t359 t362 t363 t364 true)) = some r := H
        have A12 := Aside0.mk A120
        clear A120
        by_cases c13 : t366 = true
        · subst c13
          have H1 : ((laws_leIs.f k t359 t363).bind fun t367 => (laws_FnTypeClass.j0 k t359 t362 t363 t364 (!t367))) = some r := by rw [if_pos rfl] at H; exact H
          clear H
          have H := H1
          clear H1
          replace H := Option.bind_eq_some_iff.mp H
          obtain ⟨t367, A140, H⟩ := H
          replace H : (laws_FnTypeClass.j0 k t359 t362 t363 t364 (!t367)) = some r := H
          have A14 := Aside0.mk A140
          clear A140
          have H' := Aside0.mk H
          clear H
          go_wp2_with (first | ((with_reducible refine gate_callee (f := 29) rfl ?_); refine goesL_ (some 26) rfl rfl Try.func29 (by kernel_rfl) rfl #[.slice Ao7 t359.length co7, .int .i64 t362, .int .i64 t363] rfl (by (try simp only [List.map_toArray, List.map_cons, List.map_nil]); first | done | rfl | (simp only [List.length_drop, List.length_take]; rfl)) ?_; (with_reducible refine (spec_ClassUp.calls k _ _ t359 t362 t363 t365 _ ?side1 ?side2 A9.out).mono ?_); (case side1 => repeat (first | exact (Kd.N_reads' HO361.out).2.2 | (with_reducible refine Kd.C_alloc ?_ _) | (with_reducible refine Kd.C_drewN ?_ _) | (with_reducible refine Kd.C_drew ?_))); (case side2 => exact (Kd.N_reads' HO361.out).2.1); rintro e w15 ⟨rfl, hb⟩; refine ⟨_, rfl, ?_⟩; have n0_ := Aside0.mk (Kd.N_below (by (with_reducible repeat (first | apply Kd.N_alloc | apply Kd.N_drewN | apply Kd.N_drew)); exact HO361.out) hb); have n1_ := Aside0.mk (below_step (by repeat (first | (with_reducible first | exact HB.out | apply below_alloc | apply pw_below_drewN | apply below_drew1) | exact HB.out)) hb); clear HO361; clear HB; have HO361 := n0_; have HB := n1_; clear n0_ n1_; (try clear hb); (try clear hb2); (try clear hk); (try clear hi)) | (go_at_call 30; (with_reducible refine (laws_leIs.calls k _ _ t359 t362 true _ ?side1 ?side2 A12.out).mono ?_); (case side1 => repeat (first | exact (Kd.N_reads' HO361.out).2.2 | (with_reducible refine Kd.C_alloc ?_ _) | (with_reducible refine Kd.C_drewN ?_ _) | (with_reducible refine Kd.C_drew ?_))); (case side2 => exact (Kd.N_reads' HO361.out).2.1); rintro e w16 ⟨rfl, hb⟩; have n0_ := Aside0.mk (Kd.N_below (by (with_reducible repeat (first | apply Kd.N_alloc | apply Kd.N_drewN | apply Kd.N_drew)); exact HO361.out) hb); have n1_ := Aside0.mk (below_step (by repeat (first | (with_reducible first | exact HB.out | apply below_alloc | apply pw_below_drewN | apply below_drew1) | exact HB.out)) hb); clear HO361; clear HB; have HO361 := n0_; have HB := n1_; clear n0_ n1_; (try clear hb); (try clear hb2); (try clear hk); (try clear hi)) | (go_at_call 30; (with_reducible refine (laws_leIs.calls k _ _ t359 t363 t367 _ ?side1 ?side2 A14.out).mono ?_); (case side1 => repeat (first | exact (Kd.N_reads' HO361.out).2.2 | (with_reducible refine Kd.C_alloc ?_ _) | (with_reducible refine Kd.C_drewN ?_ _) | (with_reducible refine Kd.C_drew ?_))); (case side2 => exact (Kd.N_reads' HO361.out).2.1); rintro e w17 ⟨rfl, hb⟩; have n0_ := Aside0.mk (Kd.N_below (by (with_reducible repeat (first | apply Kd.N_alloc | apply Kd.N_drewN | apply Kd.N_drew)); exact HO361.out) hb); have n1_ := Aside0.mk (below_step (by repeat (first | (with_reducible first | exact HB.out | apply below_alloc | apply pw_below_drewN | apply below_drew1) | exact HB.out)) hb); clear HO361; clear HB; have HO361 := n0_; have HB := n1_; clear n0_ n1_; (try clear hb); (try clear hb2); (try clear hk); (try clear hi)))
          go_meet
          case rel => exact ⟨_, (!t367), (by first | rfl | (simp; done) | (simp [*]; done)), H', ⟨by first | omega | exact Nat.le_refl _⟩, ⟨by (with_reducible repeat (first | apply Kd.N_alloc | apply Kd.N_drewN | apply Kd.N_drew)); exact HO361.out⟩, ⟨by repeat (first | (with_reducible first | exact HB.out | apply below_alloc | apply pw_below_drewN | apply below_drew1) | exact HB.out)⟩⟩
        · replace c13 := Bool.eq_false_iff.mpr c13
          subst c13
          have H1 : (laws_FnTypeClass.j0 k t359 t362 t363 t364 true) = some r := by rw [if_neg (show ¬ (false = true) by decide)] at H; exact H
          clear H
          have H := H1
          clear H1
          have H' := Aside0.mk H
          clear H
          go_wp2_with (first | ((with_reducible refine gate_callee (f := 29) rfl ?_); refine goesL_ (some 26) rfl rfl Try.func29 (by kernel_rfl) rfl #[.slice Ao7 t359.length co7, .int .i64 t362, .int .i64 t363] rfl (by (try simp only [List.map_toArray, List.map_cons, List.map_nil]); first | done | rfl | (simp only [List.length_drop, List.length_take]; rfl)) ?_; (with_reducible refine (spec_ClassUp.calls k _ _ t359 t362 t363 t365 _ ?side1 ?side2 A9.out).mono ?_); (case side1 => repeat (first | exact (Kd.N_reads' HO361.out).2.2 | (with_reducible refine Kd.C_alloc ?_ _) | (with_reducible refine Kd.C_drewN ?_ _) | (with_reducible refine Kd.C_drew ?_))); (case side2 => exact (Kd.N_reads' HO361.out).2.1); rintro e w18 ⟨rfl, hb⟩; refine ⟨_, rfl, ?_⟩; have n0_ := Aside0.mk (Kd.N_below (by (with_reducible repeat (first | apply Kd.N_alloc | apply Kd.N_drewN | apply Kd.N_drew)); exact HO361.out) hb); have n1_ := Aside0.mk (below_step (by repeat (first | (with_reducible first | exact HB.out | apply below_alloc | apply pw_below_drewN | apply below_drew1) | exact HB.out)) hb); clear HO361; clear HB; have HO361 := n0_; have HB := n1_; clear n0_ n1_; (try clear hb); (try clear hb2); (try clear hk); (try clear hi)) | (go_at_call 30; (with_reducible refine (laws_leIs.calls k _ _ t359 t362 false _ ?side1 ?side2 A12.out).mono ?_); (case side1 => repeat (first | exact (Kd.N_reads' HO361.out).2.2 | (with_reducible refine Kd.C_alloc ?_ _) | (with_reducible refine Kd.C_drewN ?_ _) | (with_reducible refine Kd.C_drew ?_))); (case side2 => exact (Kd.N_reads' HO361.out).2.1); rintro e w19 ⟨rfl, hb⟩; have n0_ := Aside0.mk (Kd.N_below (by (with_reducible repeat (first | apply Kd.N_alloc | apply Kd.N_drewN | apply Kd.N_drew)); exact HO361.out) hb); have n1_ := Aside0.mk (below_step (by repeat (first | (with_reducible first | exact HB.out | apply below_alloc | apply pw_below_drewN | apply below_drew1) | exact HB.out)) hb); clear HO361; clear HB; have HO361 := n0_; have HB := n1_; clear n0_ n1_; (try clear hb); (try clear hb2); (try clear hk); (try clear hi)))
          go_meet
          case rel => exact ⟨_, (true), (by first | rfl | (simp; done) | (simp [*]; done)), H', ⟨by first | omega | exact Nat.le_refl _⟩, ⟨by (with_reducible repeat (first | apply Kd.N_alloc | apply Kd.N_drewN | apply Kd.N_drew)); exact HO361.out⟩, ⟨by repeat (first | (with_reducible first | exact HB.out | apply below_alloc | apply pw_below_drewN | apply below_drew1) | exact HB.out)⟩⟩
    case rest =>
      clear HC5
      try clear c1
      try clear c2
      try clear c2b0
      try clear c2b1
      try clear p2
      try clear c9
      try clear c10
      try clear c10b0
      try clear c10b1
      try clear c10b2
      try clear c13
      obtain ⟨kq, x39_4, rfl, HA, HJ4, HO_3, HB⟩ := hcut
      cases kq with
      | zero => exact absurd HA.out (by simp [laws_FnTypeClass.j0])
      | succ kj4 =>
        have H := HA.out
        clear HA
        simp only [laws_FnTypeClass.j0] at H
        by_cases c20 : x39_4 = true
        · subst c20
          have H1 : ((spec_ClassUp.f kj4 t359 t362 t363).bind fun t368 => (some (t364 == t368))) = some r := by rw [if_pos rfl] at H; exact H
          clear H
          have H := H1
          clear H1
          replace H := Option.bind_eq_some_iff.mp H
          obtain ⟨t368, A210, H⟩ := H
          replace H : (some (t364 == t368)) = some r := H
          have A21 := Aside0.mk A210
          clear A210
          obtain rfl := Option.some.inj H
          simp only [Option.some.injEq, Prod.mk.injEq] at H
          obtain ⟨rfl⟩ := H
          go_wp2_with (first | ((with_reducible refine gate_callee (f := 29) rfl ?_); refine goesL_ (some 44) rfl rfl Try.func29 (by kernel_rfl) rfl #[.slice Ao7 t359.length co7, .int .i64 t362, .int .i64 t363] rfl (by (try simp only [List.map_toArray, List.map_cons, List.map_nil]); first | done | rfl | (simp only [List.length_drop, List.length_take]; rfl)) ?_; (with_reducible refine (spec_ClassUp.calls kj4 _ _ t359 t362 t363 t368 _ ?side1 ?side2 A21.out).mono ?_); (case side1 => repeat (first | exact (Kd.N_reads' HO_3.out).2.2 | (with_reducible refine Kd.C_alloc ?_ _) | (with_reducible refine Kd.C_drewN ?_ _) | (with_reducible refine Kd.C_drew ?_))); (case side2 => exact (Kd.N_reads' HO_3.out).2.1); rintro e w22 ⟨rfl, hb⟩; refine ⟨_, rfl, ?_⟩; have n0_ := Aside0.mk (Kd.N_below (by (with_reducible repeat (first | apply Kd.N_alloc | apply Kd.N_drewN | apply Kd.N_drew)); exact HO_3.out) hb); have n1_ := Aside0.mk (below_step (by repeat (first | (with_reducible first | exact HB.out | apply below_alloc | apply pw_below_drewN | apply below_drew1) | exact HB.out)) hb); clear HO_3; clear HB; have HO_3 := n0_; have HB := n1_; clear n0_ n1_; (try clear hb); (try clear hb2); (try clear hk); (try clear hi)))
          go_ret
          exact ⟨by first | rfl | (simp [errW_none, errW_some] <;> rfl) | (simp [*, errW_none, errW_some] <;> rfl), by repeat (first | (with_reducible first | exact HB.out | apply below_alloc | apply pw_below_drewN | apply below_drew1) | exact HB.out)⟩
        · replace c20 := Bool.eq_false_iff.mpr c20
          subst c20
          have H1 : ((impl_TypeIn.f kj4 t359 (wrap64 (8 + t362)) (wrap64 (8 + t363))).bind fun t369 => (if (t369 != t364) = true then (laws_FnTypeClass.j1 kj4 t359 (wrap64 (8 + t362)) (wrap64 (8 + t363)) true) else ((impl_TypeIn.f kj4 t359 3 (wrap64 (8 + t363))).bind fun t370 => (if (t370 != (t363 == 0)) = true then (laws_FnTypeClass.j1 kj4 t359 (wrap64 (8 + t362)) (wrap64 (8 + t363)) true) else ((impl_TypeIn.f kj4 t359 4 (wrap64 (8 + t363))).bind fun t371 => (if (t371 != (t363 == 0)) = true then (laws_FnTypeClass.j1 kj4 t359 (wrap64 (8 + t362)) (wrap64 (8 + t363)) true) else ((impl_TypeIn.f kj4 t359 2 (wrap64 (8 + t363))).bind fun t372 => (laws_FnTypeClass.j1 kj4 t359 (wrap64 (8 + t362)) (wrap64 (8 + t363)) (!t372))))))))) = some r := by rw [if_neg (show ¬ (false = true) by decide)] at H; exact H
          clear H
          have H := H1
          clear H1
          have HC23 := Aside0.mk H
          clear H
          go_upto_region 9 with (fail)
          go_cut [77] (fun v77 wc => ∃ (kq : Nat) (x77_22 : Bool), v77 = .bool x77_22 ∧ Aside0 (laws_FnTypeClass.j1 kq t359 (wrap64 (8 + t362)) (wrap64 (8 + t363)) x77_22 = some r) ∧ Aside0 (kq ≤ kj4) ∧ Aside0 (Kd.N k38 38 wc w.heap.size (fun _ => True) (.slice Ao7 t359.length co7) t359) ∧ Aside0 (Below w.heap.size w wc))
          case first =>
            have H := HC23.out
            clear HC23
            replace H := Option.bind_eq_some_iff.mp H
            obtain ⟨t369, A240, H⟩ := H
            replace H : (if (t369 != t364) = true then (laws_FnTypeClass.j1 kj4 t359 (wrap64 (8 + t362)) (wrap64 (8 + t363)) true) else ((impl_TypeIn.f kj4 t359 3 (wrap64 (8 + t363))).bind fun t370 => (if (t370 != (t363 == 0)) = true then (laws_FnTypeClass.j1 kj4 t359 (wrap64 (8 + t362)) (wrap64 (8 + t363)) true) else ((impl_TypeIn.f kj4 t359 4 (wrap64 (8 + t363))).bind fun t371 => (if (t371 != (t363 == 0)) = true then (laws_FnTypeClass.j1 kj4 t359 (wrap64 (8 + t362)) (wrap64 (8 + t363)) true) else ((impl_TypeIn.f kj4 t359 2 (wrap64 (8 + t363))).bind fun t372 => (laws_FnTypeClass.j1 kj4 t359 (wrap64 (8 + t362)) (wrap64 (8 + t363)) (!t372)))))))) = some r := H
            have A24 := Aside0.mk A240
            clear A240
            by_cases c25 : (t369 != t364) = true
            · rw [if_pos c25] at H
              have c25b0 : (t369 != t364) = true := c25
              (try (have c25b1 : decide (t369 = t364) = false := by simpa using c25))
              (try (have c25b2 : (t369 == t364) = false := by simpa using c25))
              (try (have c25b3 : ¬ (t369 = t364) := by simpa using c25))
              clear c25
              (first | rw [c25b0] | (simp only [i64_w, i32_w]; rw [c25b0]) | skip)
              have H' := Aside0.mk H
              clear H
              go_wp2_with (first | ((with_reducible refine gate_callee (f := 35) rfl ?_); refine goesL_ (some 53) rfl rfl Try.func35 (by kernel_rfl) rfl #[.slice Ao7 t359.length co7, .int .i64 (wrap64 (8 + t362)), .int .i64 (wrap64 (8 + t363))] rfl (by (try simp only [List.map_toArray, List.map_cons, List.map_nil]); first | done | rfl | (simp only [List.length_drop, List.length_take]; rfl)) ?_; (with_reducible refine (impl_TypeIn.calls kj4 _ _ t359 (wrap64 (8 + t362)) (wrap64 (8 + t363)) t369 _ ?side1 ?side2 A24.out).mono ?_); (case side1 => repeat (first | exact (Kd.N_reads' HO_3.out).2.2 | (with_reducible refine Kd.C_alloc ?_ _) | (with_reducible refine Kd.C_drewN ?_ _) | (with_reducible refine Kd.C_drew ?_))); (case side2 => exact (Kd.N_reads' HO_3.out).2.1); rintro e w26 ⟨rfl, hb⟩; refine ⟨_, rfl, ?_⟩; have n0_ := Aside0.mk (Kd.N_below (by (with_reducible repeat (first | apply Kd.N_alloc | apply Kd.N_drewN | apply Kd.N_drew)); exact HO_3.out) hb); have n1_ := Aside0.mk (below_step (by repeat (first | (with_reducible first | exact HB.out | apply below_alloc | apply pw_below_drewN | apply below_drew1) | exact HB.out)) hb); clear HO_3; clear HB; have HO_3 := n0_; have HB := n1_; clear n0_ n1_; (try clear hb); (try clear hb2); (try clear hk); (try clear hi)))
              go_meet
              case rel => exact ⟨_, (true), (by first | rfl | (simp; done) | (simp [*]; done)), H', ⟨by have := HJ4.out; first | omega | exact Nat.le_refl _⟩, ⟨by (with_reducible repeat (first | apply Kd.N_alloc | apply Kd.N_drewN | apply Kd.N_drew)); exact HO_3.out⟩, ⟨by repeat (first | (with_reducible first | exact HB.out | apply below_alloc | apply pw_below_drewN | apply below_drew1) | exact HB.out)⟩⟩
            · rw [if_neg c25] at H
              have c25b0 : (t369 != t364) = false := by simpa using c25
              (try (have c25b1 : decide (t369 = t364) = true := by simpa using c25))
              (try (have c25b2 : (t369 == t364) = true := by simpa using c25))
              clear c25
              (first | rw [c25b0] | (simp only [i64_w, i32_w]; rw [c25b0]) | skip)
              replace H := Option.bind_eq_some_iff.mp H
              obtain ⟨t370, A270, H⟩ := H
              replace H : (if (t370 != (t363 == 0)) = true then (laws_FnTypeClass.j1 kj4 t359 (wrap64 (8 + t362)) (wrap64 (8 + t363)) true) else ((impl_TypeIn.f kj4 t359 4 (wrap64 (8 + t363))).bind fun t371 => (if (t371 != (t363 == 0)) = true then (laws_FnTypeClass.j1 kj4 t359 (wrap64 (8 + t362)) (wrap64 (8 + t363)) true) else ((impl_TypeIn.f kj4 t359 2 (wrap64 (8 + t363))).bind fun t372 => (laws_FnTypeClass.j1 kj4 t359 (wrap64 (8 + t362)) (wrap64 (8 + t363)) (!t372)))))) = some r := H
              have A27 := Aside0.mk A270
              clear A270
              by_cases c28 : (t370 != (t363 == 0)) = true
              · rw [if_pos c28] at H
                have c28b0 : (t370 != (t363 == 0)) = true := c28
                (try (have c28b1 : decide (t370 = (t363 == 0)) = false := by simpa using c28))
                (try (have c28b2 : (t370 == (t363 == 0)) = false := by simpa using c28))
                (try (have c28b3 : ¬ (t370 = (t363 == 0)) := by simpa using c28))
                clear c28
                have H' := Aside0.mk H
                clear H
                go_wp2_with (first | ((with_reducible refine gate_callee (f := 35) rfl ?_); refine goesL_ (some 53) rfl rfl Try.func35 (by kernel_rfl) rfl #[.slice Ao7 t359.length co7, .int .i64 (wrap64 (8 + t362)), .int .i64 (wrap64 (8 + t363))] rfl (by (try simp only [List.map_toArray, List.map_cons, List.map_nil]); first | done | rfl | (simp only [List.length_drop, List.length_take]; rfl)) ?_; (with_reducible refine (impl_TypeIn.calls kj4 _ _ t359 (wrap64 (8 + t362)) (wrap64 (8 + t363)) t369 _ ?side1 ?side2 A24.out).mono ?_); (case side1 => repeat (first | exact (Kd.N_reads' HO_3.out).2.2 | (with_reducible refine Kd.C_alloc ?_ _) | (with_reducible refine Kd.C_drewN ?_ _) | (with_reducible refine Kd.C_drew ?_))); (case side2 => exact (Kd.N_reads' HO_3.out).2.1); rintro e w29 ⟨rfl, hb⟩; refine ⟨_, rfl, ?_⟩; have n0_ := Aside0.mk (Kd.N_below (by (with_reducible repeat (first | apply Kd.N_alloc | apply Kd.N_drewN | apply Kd.N_drew)); exact HO_3.out) hb); have n1_ := Aside0.mk (below_step (by repeat (first | (with_reducible first | exact HB.out | apply below_alloc | apply pw_below_drewN | apply below_drew1) | exact HB.out)) hb); clear HO_3; clear HB; have HO_3 := n0_; have HB := n1_; clear n0_ n1_; (try clear hb); (try clear hb2); (try clear hk); (try clear hi)) | (go_at_call 35; (with_reducible refine (impl_TypeIn.calls kj4 _ _ t359 3 (wrap64 (8 + t363)) t370 _ ?side1 ?side2 A27.out).mono ?_); (case side1 => repeat (first | exact (Kd.N_reads' HO_3.out).2.2 | (with_reducible refine Kd.C_alloc ?_ _) | (with_reducible refine Kd.C_drewN ?_ _) | (with_reducible refine Kd.C_drew ?_))); (case side2 => exact (Kd.N_reads' HO_3.out).2.1); rintro e w30 ⟨rfl, hb⟩; have n0_ := Aside0.mk (Kd.N_below (by (with_reducible repeat (first | apply Kd.N_alloc | apply Kd.N_drewN | apply Kd.N_drew)); exact HO_3.out) hb); have n1_ := Aside0.mk (below_step (by repeat (first | (with_reducible first | exact HB.out | apply below_alloc | apply pw_below_drewN | apply below_drew1) | exact HB.out)) hb); clear HO_3; clear HB; have HO_3 := n0_; have HB := n1_; clear n0_ n1_; (try clear hb); (try clear hb2); (try clear hk); (try clear hi)))
                go_meet
                case rel => exact ⟨_, (true), (by first | rfl | (simp; done) | (simp [*]; done)), H', ⟨by have := HJ4.out; first | omega | exact Nat.le_refl _⟩, ⟨by (with_reducible repeat (first | apply Kd.N_alloc | apply Kd.N_drewN | apply Kd.N_drew)); exact HO_3.out⟩, ⟨by repeat (first | (with_reducible first | exact HB.out | apply below_alloc | apply pw_below_drewN | apply below_drew1) | exact HB.out)⟩⟩
              · rw [if_neg c28] at H
                have c28b0 : (t370 != (t363 == 0)) = false := by simpa using c28
                (try (have c28b1 : decide (t370 = (t363 == 0)) = true := by simpa using c28))
                (try (have c28b2 : (t370 == (t363 == 0)) = true := by simpa using c28))
                clear c28
                replace H := Option.bind_eq_some_iff.mp H
                obtain ⟨t371, A310, H⟩ := H
                replace H : (if (t371 != (t363 == 0)) = true then (laws_FnTypeClass.j1 kj4 t359 (wrap64 (8 + t362)) (wrap64 (8 + t363)) true) else ((impl_TypeIn.f kj4 t359 2 (wrap64 (8 + t363))).bind fun t372 => (laws_FnTypeClass.j1 kj4 t359 (wrap64 (8 + t362)) (wrap64 (8 + t363)) (!t372)))) = some r := H
                have A31 := Aside0.mk A310
                clear A310
                by_cases c32 : (t371 != (t363 == 0)) = true
                · rw [if_pos c32] at H
                  have c32b0 : (t371 != (t363 == 0)) = true := c32
                  (try (have c32b1 : decide (t371 = (t363 == 0)) = false := by simpa using c32))
                  (try (have c32b2 : (t371 == (t363 == 0)) = false := by simpa using c32))
                  (try (have c32b3 : ¬ (t371 = (t363 == 0)) := by simpa using c32))
                  clear c32
                  have H' := Aside0.mk H
                  clear H
                  go_wp2_with (first | ((with_reducible refine gate_callee (f := 35) rfl ?_); refine goesL_ (some 53) rfl rfl Try.func35 (by kernel_rfl) rfl #[.slice Ao7 t359.length co7, .int .i64 (wrap64 (8 + t362)), .int .i64 (wrap64 (8 + t363))] rfl (by (try simp only [List.map_toArray, List.map_cons, List.map_nil]); first | done | rfl | (simp only [List.length_drop, List.length_take]; rfl)) ?_; (with_reducible refine (impl_TypeIn.calls kj4 _ _ t359 (wrap64 (8 + t362)) (wrap64 (8 + t363)) t369 _ ?side1 ?side2 A24.out).mono ?_); (case side1 => repeat (first | exact (Kd.N_reads' HO_3.out).2.2 | (with_reducible refine Kd.C_alloc ?_ _) | (with_reducible refine Kd.C_drewN ?_ _) | (with_reducible refine Kd.C_drew ?_))); (case side2 => exact (Kd.N_reads' HO_3.out).2.1); rintro e w33 ⟨rfl, hb⟩; refine ⟨_, rfl, ?_⟩; have n0_ := Aside0.mk (Kd.N_below (by (with_reducible repeat (first | apply Kd.N_alloc | apply Kd.N_drewN | apply Kd.N_drew)); exact HO_3.out) hb); have n1_ := Aside0.mk (below_step (by repeat (first | (with_reducible first | exact HB.out | apply below_alloc | apply pw_below_drewN | apply below_drew1) | exact HB.out)) hb); clear HO_3; clear HB; have HO_3 := n0_; have HB := n1_; clear n0_ n1_; (try clear hb); (try clear hb2); (try clear hk); (try clear hi)) | (go_at_call 35; (with_reducible refine (impl_TypeIn.calls kj4 _ _ t359 3 (wrap64 (8 + t363)) t370 _ ?side1 ?side2 A27.out).mono ?_); (case side1 => repeat (first | exact (Kd.N_reads' HO_3.out).2.2 | (with_reducible refine Kd.C_alloc ?_ _) | (with_reducible refine Kd.C_drewN ?_ _) | (with_reducible refine Kd.C_drew ?_))); (case side2 => exact (Kd.N_reads' HO_3.out).2.1); rintro e w34 ⟨rfl, hb⟩; have n0_ := Aside0.mk (Kd.N_below (by (with_reducible repeat (first | apply Kd.N_alloc | apply Kd.N_drewN | apply Kd.N_drew)); exact HO_3.out) hb); have n1_ := Aside0.mk (below_step (by repeat (first | (with_reducible first | exact HB.out | apply below_alloc | apply pw_below_drewN | apply below_drew1) | exact HB.out)) hb); clear HO_3; clear HB; have HO_3 := n0_; have HB := n1_; clear n0_ n1_; (try clear hb); (try clear hb2); (try clear hk); (try clear hi)) | (go_at_call 35; (with_reducible refine (impl_TypeIn.calls kj4 _ _ t359 4 (wrap64 (8 + t363)) t371 _ ?side1 ?side2 A31.out).mono ?_); (case side1 => repeat (first | exact (Kd.N_reads' HO_3.out).2.2 | (with_reducible refine Kd.C_alloc ?_ _) | (with_reducible refine Kd.C_drewN ?_ _) | (with_reducible refine Kd.C_drew ?_))); (case side2 => exact (Kd.N_reads' HO_3.out).2.1); rintro e w35 ⟨rfl, hb⟩; have n0_ := Aside0.mk (Kd.N_below (by (with_reducible repeat (first | apply Kd.N_alloc | apply Kd.N_drewN | apply Kd.N_drew)); exact HO_3.out) hb); have n1_ := Aside0.mk (below_step (by repeat (first | (with_reducible first | exact HB.out | apply below_alloc | apply pw_below_drewN | apply below_drew1) | exact HB.out)) hb); clear HO_3; clear HB; have HO_3 := n0_; have HB := n1_; clear n0_ n1_; (try clear hb); (try clear hb2); (try clear hk); (try clear hi)))
                  go_meet
                  case rel => exact ⟨_, (true), (by first | rfl | (simp; done) | (simp [*]; done)), H', ⟨by have := HJ4.out; first | omega | exact Nat.le_refl _⟩, ⟨by (with_reducible repeat (first | apply Kd.N_alloc | apply Kd.N_drewN | apply Kd.N_drew)); exact HO_3.out⟩, ⟨by repeat (first | (with_reducible first | exact HB.out | apply below_alloc | apply pw_below_drewN | apply below_drew1) | exact HB.out)⟩⟩
                · rw [if_neg c32] at H
                  have c32b0 : (t371 != (t363 == 0)) = false := by simpa using c32
                  (try (have c32b1 : decide (t371 = (t363 == 0)) = true := by simpa using c32))
                  (try (have c32b2 : (t371 == (t363 == 0)) = true := by simpa using c32))
                  clear c32
                  replace H := Option.bind_eq_some_iff.mp H
                  obtain ⟨t372, A360, H⟩ := H
                  replace H : (laws_FnTypeClass.j1 kj4 t359 (wrap64 (8 + t362)) (wrap64 (8 + t363)) (!t372)) = some r := H
                  have A36 := Aside0.mk A360
                  clear A360
                  have H' := Aside0.mk H
                  clear H
                  go_wp2_with (first | ((with_reducible refine gate_callee (f := 35) rfl ?_); refine goesL_ (some 53) rfl rfl Try.func35 (by kernel_rfl) rfl #[.slice Ao7 t359.length co7, .int .i64 (wrap64 (8 + t362)), .int .i64 (wrap64 (8 + t363))] rfl (by (try simp only [List.map_toArray, List.map_cons, List.map_nil]); first | done | rfl | (simp only [List.length_drop, List.length_take]; rfl)) ?_; (with_reducible refine (impl_TypeIn.calls kj4 _ _ t359 (wrap64 (8 + t362)) (wrap64 (8 + t363)) t369 _ ?side1 ?side2 A24.out).mono ?_); (case side1 => repeat (first | exact (Kd.N_reads' HO_3.out).2.2 | (with_reducible refine Kd.C_alloc ?_ _) | (with_reducible refine Kd.C_drewN ?_ _) | (with_reducible refine Kd.C_drew ?_))); (case side2 => exact (Kd.N_reads' HO_3.out).2.1); rintro e w37 ⟨rfl, hb⟩; refine ⟨_, rfl, ?_⟩; have n0_ := Aside0.mk (Kd.N_below (by (with_reducible repeat (first | apply Kd.N_alloc | apply Kd.N_drewN | apply Kd.N_drew)); exact HO_3.out) hb); have n1_ := Aside0.mk (below_step (by repeat (first | (with_reducible first | exact HB.out | apply below_alloc | apply pw_below_drewN | apply below_drew1) | exact HB.out)) hb); clear HO_3; clear HB; have HO_3 := n0_; have HB := n1_; clear n0_ n1_; (try clear hb); (try clear hb2); (try clear hk); (try clear hi)) | (go_at_call 35; (with_reducible refine (impl_TypeIn.calls kj4 _ _ t359 3 (wrap64 (8 + t363)) t370 _ ?side1 ?side2 A27.out).mono ?_); (case side1 => repeat (first | exact (Kd.N_reads' HO_3.out).2.2 | (with_reducible refine Kd.C_alloc ?_ _) | (with_reducible refine Kd.C_drewN ?_ _) | (with_reducible refine Kd.C_drew ?_))); (case side2 => exact (Kd.N_reads' HO_3.out).2.1); rintro e w38 ⟨rfl, hb⟩; have n0_ := Aside0.mk (Kd.N_below (by (with_reducible repeat (first | apply Kd.N_alloc | apply Kd.N_drewN | apply Kd.N_drew)); exact HO_3.out) hb); have n1_ := Aside0.mk (below_step (by repeat (first | (with_reducible first | exact HB.out | apply below_alloc | apply pw_below_drewN | apply below_drew1) | exact HB.out)) hb); clear HO_3; clear HB; have HO_3 := n0_; have HB := n1_; clear n0_ n1_; (try clear hb); (try clear hb2); (try clear hk); (try clear hi)) | (go_at_call 35; (with_reducible refine (impl_TypeIn.calls kj4 _ _ t359 4 (wrap64 (8 + t363)) t371 _ ?side1 ?side2 A31.out).mono ?_); (case side1 => repeat (first | exact (Kd.N_reads' HO_3.out).2.2 | (with_reducible refine Kd.C_alloc ?_ _) | (with_reducible refine Kd.C_drewN ?_ _) | (with_reducible refine Kd.C_drew ?_))); (case side2 => exact (Kd.N_reads' HO_3.out).2.1); rintro e w39 ⟨rfl, hb⟩; have n0_ := Aside0.mk (Kd.N_below (by (with_reducible repeat (first | apply Kd.N_alloc | apply Kd.N_drewN | apply Kd.N_drew)); exact HO_3.out) hb); have n1_ := Aside0.mk (below_step (by repeat (first | (with_reducible first | exact HB.out | apply below_alloc | apply pw_below_drewN | apply below_drew1) | exact HB.out)) hb); clear HO_3; clear HB; have HO_3 := n0_; have HB := n1_; clear n0_ n1_; (try clear hb); (try clear hb2); (try clear hk); (try clear hi)) | (go_at_call 35; (with_reducible refine (impl_TypeIn.calls kj4 _ _ t359 2 (wrap64 (8 + t363)) t372 _ ?side1 ?side2 A36.out).mono ?_); (case side1 => repeat (first | exact (Kd.N_reads' HO_3.out).2.2 | (with_reducible refine Kd.C_alloc ?_ _) | (with_reducible refine Kd.C_drewN ?_ _) | (with_reducible refine Kd.C_drew ?_))); (case side2 => exact (Kd.N_reads' HO_3.out).2.1); rintro e w40 ⟨rfl, hb⟩; have n0_ := Aside0.mk (Kd.N_below (by (with_reducible repeat (first | apply Kd.N_alloc | apply Kd.N_drewN | apply Kd.N_drew)); exact HO_3.out) hb); have n1_ := Aside0.mk (below_step (by repeat (first | (with_reducible first | exact HB.out | apply below_alloc | apply pw_below_drewN | apply below_drew1) | exact HB.out)) hb); clear HO_3; clear HB; have HO_3 := n0_; have HB := n1_; clear n0_ n1_; (try clear hb); (try clear hb2); (try clear hk); (try clear hi)))
                  go_meet
                  case rel => exact ⟨_, (!t372), (by first | rfl | (simp; done) | (simp [*]; done)), H', ⟨by have := HJ4.out; first | omega | exact Nat.le_refl _⟩, ⟨by (with_reducible repeat (first | apply Kd.N_alloc | apply Kd.N_drewN | apply Kd.N_drew)); exact HO_3.out⟩, ⟨by repeat (first | (with_reducible first | exact HB.out | apply below_alloc | apply pw_below_drewN | apply below_drew1) | exact HB.out)⟩⟩
          case rest =>
            clear HC23
            try clear c1
            try clear c2
            try clear c2b0
            try clear c2b1
            try clear p2
            try clear c3
            try clear p6
            try clear c9
            try clear c10
            try clear c10b0
            try clear c10b1
            try clear c10b2
            try clear c13
            try clear c20
            try clear c25
            try clear c25b0
            try clear c25b1
            try clear c25b2
            try clear c27
            try clear c28
            try clear c28b0
            try clear c28b1
            try clear c28b2
            try clear c29
            try clear c32
            try clear c32b0
            try clear c32b1
            try clear c32b2
            try clear c35
            try clear p2
            obtain ⟨kq, x77_22, rfl, HA, HJ22, HO_3, HB⟩ := hcut
            cases kq with
            | zero => exact absurd HA.out (by simp [laws_FnTypeClass.j1])
            | succ kj22 =>
              have H := HA.out
              clear HA
              simp only [laws_FnTypeClass.j1] at H
              by_cases c41 : x77_22 = true
              · subst c41
                have H1 : (some false) = some r := by rw [if_pos rfl] at H; exact H
                clear H
                have H := H1
                clear H1
                obtain rfl := Option.some.inj H
                exact absurd hr_ (by decide)
              · replace c41 := Bool.eq_false_iff.mpr c41
                subst c41
                have H1 : ((impl_TypeIn.f kj22 t359 1 (wrap64 (8 + t363))).bind fun t373 => (if t373 = true then (some false) else ((impl_TypeIn.f kj22 t359 (wrap64 (8 + t362)) 1).bind fun t374 => (if t374 = true then (some false) else ((impl_TypeIn.f kj22 t359 (wrap64 (8 + t362)) 3).bind fun t375 => (if t375 = true then (some false) else ((impl_TypeIn.f kj22 t359 2 1).bind fun t376 => (some (!t376))))))))) = some r := by rw [if_neg (show ¬ (false = true) by decide)] at H; exact H
                clear H
                have H := H1
                clear H1
                replace H := Option.bind_eq_some_iff.mp H
                obtain ⟨t373, A420, H⟩ := H
                replace H : (if t373 = true then (some false) else ((impl_TypeIn.f kj22 t359 (wrap64 (8 + t362)) 1).bind fun t374 => (if t374 = true then (some false) else ((impl_TypeIn.f kj22 t359 (wrap64 (8 + t362)) 3).bind fun t375 => (if t375 = true then (some false) else ((impl_TypeIn.f kj22 t359 2 1).bind fun t376 => (some (!t376)))))))) = some r := H
                have A42 := Aside0.mk A420
                clear A420
                by_cases c43 : t373 = true
                · subst c43
                  have H1 : (some false) = some r := by rw [if_pos rfl] at H; exact H
                  clear H
                  have H := H1
                  clear H1
                  obtain rfl := Option.some.inj H
                  exact absurd hr_ (by decide)
                · replace c43 := Bool.eq_false_iff.mpr c43
                  subst c43
                  have H1 : ((impl_TypeIn.f kj22 t359 (wrap64 (8 + t362)) 1).bind fun t374 => (if t374 = true then (some false) else ((impl_TypeIn.f kj22 t359 (wrap64 (8 + t362)) 3).bind fun t375 => (if t375 = true then (some false) else ((impl_TypeIn.f kj22 t359 2 1).bind fun t376 => (some (!t376))))))) = some r := by rw [if_neg (show ¬ (false = true) by decide)] at H; exact H
                  clear H
                  have H := H1
                  clear H1
                  replace H := Option.bind_eq_some_iff.mp H
                  obtain ⟨t374, A440, H⟩ := H
                  replace H : (if t374 = true then (some false) else ((impl_TypeIn.f kj22 t359 (wrap64 (8 + t362)) 3).bind fun t375 => (if t375 = true then (some false) else ((impl_TypeIn.f kj22 t359 2 1).bind fun t376 => (some (!t376)))))) = some r := H
                  have A44 := Aside0.mk A440
                  clear A440
                  by_cases c45 : t374 = true
                  · subst c45
                    have H1 : (some false) = some r := by rw [if_pos rfl] at H; exact H
                    clear H
                    have H := H1
                    clear H1
                    obtain rfl := Option.some.inj H
                    exact absurd hr_ (by decide)
                  · replace c45 := Bool.eq_false_iff.mpr c45
                    subst c45
                    have H1 : ((impl_TypeIn.f kj22 t359 (wrap64 (8 + t362)) 3).bind fun t375 => (if t375 = true then (some false) else ((impl_TypeIn.f kj22 t359 2 1).bind fun t376 => (some (!t376))))) = some r := by rw [if_neg (show ¬ (false = true) by decide)] at H; exact H
                    clear H
                    have H := H1
                    clear H1
                    replace H := Option.bind_eq_some_iff.mp H
                    obtain ⟨t375, A460, H⟩ := H
                    replace H : (if t375 = true then (some false) else ((impl_TypeIn.f kj22 t359 2 1).bind fun t376 => (some (!t376)))) = some r := H
                    have A46 := Aside0.mk A460
                    clear A460
                    by_cases c47 : t375 = true
                    · subst c47
                      have H1 : (some false) = some r := by rw [if_pos rfl] at H; exact H
                      clear H
                      have H := H1
                      clear H1
                      obtain rfl := Option.some.inj H
                      exact absurd hr_ (by decide)
                    · replace c47 := Bool.eq_false_iff.mpr c47
                      subst c47
                      have H1 : ((impl_TypeIn.f kj22 t359 2 1).bind fun t376 => (some (!t376))) = some r := by rw [if_neg (show ¬ (false = true) by decide)] at H; exact H
                      clear H
                      have H := H1
                      clear H1
                      replace H := Option.bind_eq_some_iff.mp H
                      obtain ⟨t376, A480, H⟩ := H
                      replace H : (some (!t376)) = some r := H
                      have A48 := Aside0.mk A480
                      clear A480
                      obtain rfl := Option.some.inj H
                      simp only [Option.some.injEq, Prod.mk.injEq] at H
                      obtain ⟨rfl⟩ := H
                      go_wp2_with (first | ((with_reducible refine gate_callee (f := 35) rfl ?_); refine goesL_ (some 80) rfl rfl Try.func35 (by kernel_rfl) rfl #[.slice Ao7 t359.length co7, .int .i64 1, .int .i64 (wrap64 (8 + t363))] rfl (by (try simp only [List.map_toArray, List.map_cons, List.map_nil]); first | done | rfl | (simp only [List.length_drop, List.length_take]; rfl)) ?_; (with_reducible refine (impl_TypeIn.calls kj22 _ _ t359 1 (wrap64 (8 + t363)) false _ ?side1 ?side2 A42.out).mono ?_); (case side1 => repeat (first | exact (Kd.N_reads' HO_3.out).2.2 | (with_reducible refine Kd.C_alloc ?_ _) | (with_reducible refine Kd.C_drewN ?_ _) | (with_reducible refine Kd.C_drew ?_))); (case side2 => exact (Kd.N_reads' HO_3.out).2.1); rintro e w49 ⟨rfl, hb⟩; refine ⟨_, rfl, ?_⟩; have n0_ := Aside0.mk (Kd.N_below (by (with_reducible repeat (first | apply Kd.N_alloc | apply Kd.N_drewN | apply Kd.N_drew)); exact HO_3.out) hb); have n1_ := Aside0.mk (below_step (by repeat (first | (with_reducible first | exact HB.out | apply below_alloc | apply pw_below_drewN | apply below_drew1) | exact HB.out)) hb); clear HO_3; clear HB; have HO_3 := n0_; have HB := n1_; clear n0_ n1_; (try clear hb); (try clear hb2); (try clear hk); (try clear hi)) | (go_at_call 35; (with_reducible refine (impl_TypeIn.calls kj22 _ _ t359 (wrap64 (8 + t362)) 1 false _ ?side1 ?side2 A44.out).mono ?_); (case side1 => repeat (first | exact (Kd.N_reads' HO_3.out).2.2 | (with_reducible refine Kd.C_alloc ?_ _) | (with_reducible refine Kd.C_drewN ?_ _) | (with_reducible refine Kd.C_drew ?_))); (case side2 => exact (Kd.N_reads' HO_3.out).2.1); rintro e w50 ⟨rfl, hb⟩; have n0_ := Aside0.mk (Kd.N_below (by (with_reducible repeat (first | apply Kd.N_alloc | apply Kd.N_drewN | apply Kd.N_drew)); exact HO_3.out) hb); have n1_ := Aside0.mk (below_step (by repeat (first | (with_reducible first | exact HB.out | apply below_alloc | apply pw_below_drewN | apply below_drew1) | exact HB.out)) hb); clear HO_3; clear HB; have HO_3 := n0_; have HB := n1_; clear n0_ n1_; (try clear hb); (try clear hb2); (try clear hk); (try clear hi)) | (go_at_call 35; (with_reducible refine (impl_TypeIn.calls kj22 _ _ t359 (wrap64 (8 + t362)) 3 false _ ?side1 ?side2 A46.out).mono ?_); (case side1 => repeat (first | exact (Kd.N_reads' HO_3.out).2.2 | (with_reducible refine Kd.C_alloc ?_ _) | (with_reducible refine Kd.C_drewN ?_ _) | (with_reducible refine Kd.C_drew ?_))); (case side2 => exact (Kd.N_reads' HO_3.out).2.1); rintro e w51 ⟨rfl, hb⟩; have n0_ := Aside0.mk (Kd.N_below (by (with_reducible repeat (first | apply Kd.N_alloc | apply Kd.N_drewN | apply Kd.N_drew)); exact HO_3.out) hb); have n1_ := Aside0.mk (below_step (by repeat (first | (with_reducible first | exact HB.out | apply below_alloc | apply pw_below_drewN | apply below_drew1) | exact HB.out)) hb); clear HO_3; clear HB; have HO_3 := n0_; have HB := n1_; clear n0_ n1_; (try clear hb); (try clear hb2); (try clear hk); (try clear hi)) | (go_at_call 35; (with_reducible refine (impl_TypeIn.calls kj22 _ _ t359 2 1 t376 _ ?side1 ?side2 A48.out).mono ?_); (case side1 => repeat (first | exact (Kd.N_reads' HO_3.out).2.2 | (with_reducible refine Kd.C_alloc ?_ _) | (with_reducible refine Kd.C_drewN ?_ _) | (with_reducible refine Kd.C_drew ?_))); (case side2 => exact (Kd.N_reads' HO_3.out).2.1); rintro e w52 ⟨rfl, hb⟩; have n0_ := Aside0.mk (Kd.N_below (by (with_reducible repeat (first | apply Kd.N_alloc | apply Kd.N_drewN | apply Kd.N_drew)); exact HO_3.out) hb); have n1_ := Aside0.mk (below_step (by repeat (first | (with_reducible first | exact HB.out | apply below_alloc | apply pw_below_drewN | apply below_drew1) | exact HB.out)) hb); clear HO_3; clear HB; have HO_3 := n0_; have HB := n1_; clear n0_ n1_; (try clear hb); (try clear hb2); (try clear hk); (try clear hi)))
                      go_ret
                      exact ⟨by first | rfl | (simp [errW_none, errW_some] <;> rfl) | (simp [*, errW_none, errW_some] <;> rfl), by repeat (first | (with_reducible first | exact HB.out | apply below_alloc | apply pw_below_drewN | apply below_drew1) | exact HB.out)⟩

theorem laws_FnTypeClass.walk (P : laws_FnTypeClass.Pure) (a0 : Option Addr) (len0 cap0 : Nat) (z0 : List Int) (w : World) (w0 : (a0 = none ∧ len0 = 0 ∧ cap0 = 0 ∧ z0 = []) ∨ ∃ x, a0 = some x ∧ len0 ≤ cap0 ∧ cap0 ≤ maxLen ∧ z0.length = cap0 ∧ (∀ i, i < z0.length → w.cell? (x.add i) = some (.int .u8 (z0.getD i 0))) ∧ ∀ n ∈ z0, (Lit.int .u8 n).wf = true) (y0 : len0 * 1 ≤ 140737488351232) :
    Calls Try.prog 9 #[.slice a0 len0 cap0] w fun e w' => e = .returned (.bool true) ∧ Below w.heap.size w w' := by
  obtain ⟨l0, rfl, hr0, hm0, hw0, hc0⟩ := ReadsInt.ofRowC w0
  obtain ⟨k, h⟩ := P l0 hm0 y0 hw0
  refine (laws_FnTypeClass.calls k _ _ l0 true w (Kd.C_of_reads (d := (0 : Int)) (h1 := fun _ => rfl) hr0) hc0 h rfl).mono ?_
  rintro e w' ⟨rfl, hd⟩
  exact ⟨rfl, hd⟩

end Go.Proofs.Ytgmjolngnhdafaa.P

end
section
namespace Go.Proofs.Ytgmjolngnhdafaa.Kit
open Go Go.RowKit Go.Proofs.YtgmjolngnhdafaaW.PrintWords
set_option linter.unusedVariables false

/-- From some number of rounds on the answer is one that has P. -/
def Evp {α : Type} (g : Nat → Option α) (P : α → Prop) : Prop := ∃ r, Ev g r ∧ P r
theorem Evp.pure {α : Type} {P : α → Prop} (r : α) (h : P r) : Evp (fun _ => some r) P := ⟨r, Ev.now r, h⟩
theorem Evp.bind {α β : Type} {g : Nat → Option α} {f : Nat → α → Option β} {P : α → Prop} {Q : β → Prop} (h : Evp g P) (k : ∀ a, P a → Evp (fun n => f n a) Q) : Evp (fun n => (g n).bind (f n)) Q := by
  obtain ⟨a, ha, hp⟩ := h
  obtain ⟨r, hr, hq⟩ := k a hp
  exact ⟨r, Ev.bind ha hr, hq⟩
theorem Evp.step {α : Type} {g f : Nat → Option α} {P : α → Prop} (h : ∀ k, g (k + 1) = f k) (k : Evp f P) : Evp g P := by
  obtain ⟨r, hr, hp⟩ := k
  exact ⟨r, Ev.step h hr, hp⟩
theorem Evp.congr {α : Type} {g f : Nat → Option α} {P : α → Prop} (h : ∀ k, g k = f k) (k : Evp f P) : Evp g P := by
  obtain ⟨r, hr, hp⟩ := k
  exact ⟨r, Ev.congr h hr, hp⟩
theorem Evp.mono {α : Type} {g : Nat → Option α} {P Q : α → Prop} (h : Evp g P) (hpq : ∀ r, P r → Q r) : Evp g Q := by
  obtain ⟨r, hr, hp⟩ := h
  exact ⟨r, hr, hpq r hp⟩
theorem Evp.yes {α : Type} {c : Prop} [Decidable c] {f g : Nat → Option α} {P : α → Prop} (hc : c) (h : Evp f P) : Evp (fun n => if c then f n else g n) P := by
  simp only [if_pos hc]; exact h
theorem Evp.no {α : Type} {c : Prop} [Decidable c] {f g : Nat → Option α} {P : α → Prop} (hc : ¬ c) (h : Evp g P) : Evp (fun n => if c then f n else g n) P := by
  simp only [if_neg hc]; exact h
theorem Evp.ite {α : Type} {c : Prop} [Decidable c] {f g : Nat → Option α} {P : α → Prop} (h : c → Evp f P) (k : ¬ c → Evp g P) : Evp (fun n => if c then f n else g n) P := by
  by_cases hc : c
  · exact Evp.yes hc (h hc)
  · exact Evp.no hc (k hc)
theorem Evp.ev {α : Type} {g : Nat → Option α} {r : α} (h : Ev g r) : Evp g (fun x => x = r) := ⟨r, h, rfl⟩
theorem Ev.of_evp {α : Type} {g : Nat → Option α} {r : α} (h : Evp g (fun x => x = r)) : Ev g r := by
  obtain ⟨x, hx, rfl⟩ := h
  exact hx
theorem Evp.const {α : Type} {o : Option α} {r : α} {P : α → Prop} (h : o = some r) (hp : P r) : Evp (fun _ => o) P := ⟨r, ⟨0, fun _ _ => h⟩, hp⟩
theorem Evp.rounds {α : Type} {g : Nat → Option α} {r : α} (h : Evp g (fun x => x = r)) : ∃ k, g k = some r := (Ev.of_evp h).rounds
/-- Two that come to answers. -/
theorem Evp.and {α : Type} {g : Nat → Option α} {P Q : α → Prop} (h : Evp g P) (k : Evp g Q) : Evp g (fun x => P x ∧ Q x) := by
  obtain ⟨r, ⟨K, hr⟩, hp⟩ := h
  obtain ⟨r', ⟨K', hr'⟩, hq⟩ := k
  have e : r = r' := Option.some.inj ((hr (max K K') (by omega)).symm.trans (hr' (max K K') (by omega)))
  subst e
  exact ⟨r, ⟨K, hr⟩, hp, hq⟩

/-- A loop over places, by what is left. -/
theorem Evp.for_ {ρ : Type} {n : Nat} {g : Nat → Nat → Option ρ} {R : Nat → ρ → Prop} (hend : Evp (g n) (R n)) (hstep : ∀ i, i < n → Evp (g (i + 1)) (R (i + 1)) → Evp (g i) (R i)) : ∀ i, i ≤ n → Evp (g i) (R i) := by
  have key : ∀ d i, i + d = n → Evp (g i) (R i) := by
    intro d
    induction d with
    | zero => intro i hi; have : i = n := by omega
              subst this; exact hend
    | succ d ih => intro i hi; exact hstep i (by omega) (ih (i + 1) (by omega))
  intro i hi
  exact key (n - i) i (by omega)
/-- A loop over places with a state. -/
theorem Evp.fors {σ ρ : Type} {n : Nat} {g : Nat → σ → Nat → Option ρ} {I : Nat → σ → Prop} {R : Nat → σ → ρ → Prop} (hend : ∀ s, I n s → Evp (g n s) (R n s))
    (hstep : ∀ i, i < n → (∀ s, I (i + 1) s → Evp (g (i + 1) s) (R (i + 1) s)) → ∀ s, I i s → Evp (g i s) (R i s)) : ∀ i, i ≤ n → ∀ s, I i s → Evp (g i s) (R i s) := by
  have key : ∀ d i, i + d = n → ∀ s, I i s → Evp (g i s) (R i s) := by
    intro d
    induction d with
    | zero => intro i hi; have : i = n := by omega
              subst this; exact hend
    | succ d ih => intro i hi; exact hstep i (by omega) (ih (i + 1) (by omega))
  intro i hi
  exact key (n - i) i (by omega)
theorem drop_at {α : Type} {xs : List α} {i : Nat} (h : i < xs.length) : xs.drop i = xs[i] :: xs.drop (i + 1) := List.drop_eq_getElem_cons h
theorem getD_at {α : Type} {xs : List α} {i : Nat} (h : i < xs.length) (d : α) : xs.getD i d = xs[i] := by
  rw [List.getD_eq_getElem?_getD, List.getElem?_eq_getElem h]; rfl
theorem w64' {i n : Nat} (h : i < n) (hn : n ≤ 9223372036854775807) : wrap64 ((i : Int) + 1) = ((i + 1 : Nat) : Int) := by unfold wrap64; omega
theorem w64 {n : Int} (h0 : -9223372036854775808 ≤ n) (h1 : n ≤ 9223372036854775807) : wrap64 n = n := by unfold wrap64; omega
theorem tmod_pos {a b : Int} (h0 : 0 ≤ a) : Int.tmod a b = a % b := Int.tmod_eq_emod_of_nonneg h0
theorem tdiv_pos {a b : Int} (h0 : 0 ≤ a) : Int.tdiv a b = a / b := Int.tdiv_eq_ediv_of_nonneg h0
theorem tmod_lo {a b : Int} (h0 : 0 ≤ a) (hb : 0 < b) : 0 ≤ Int.tmod a b ∧ Int.tmod a b < b := by
  rw [tmod_pos h0]; exact ⟨Int.emod_nonneg _ (by omega), Int.emod_lt_of_pos _ hb⟩
theorem tmod256 (n : Int) : Int.tmod n 256 = if 0 ≤ n then n % 256 else -((-n) % 256) := by
  split
  · rename_i h; exact Int.tmod_eq_emod_of_nonneg h
  · rename_i h
    have h1 : Int.tmod (-n) 256 = (-n) % 256 := Int.tmod_eq_emod_of_nonneg (by omega)
    rw [Int.neg_tmod] at h1; omega
theorem tmod256' (n : Int) : ∃ m, Int.tmod n 256 = m ∧ (0 ≤ n ∧ m = n % 256 ∨ n < 0 ∧ m = -((-n) % 256)) := by
  refine ⟨_, tmod256 n, ?_⟩
  by_cases h : 0 ≤ n
  · exact .inl ⟨h, if_pos h⟩
  · exact .inr ⟨by omega, if_neg h⟩
theorem i8wrap (n : Int) : IntKind.i8.wrap n = (n + 128) % 256 - 128 := by
  simp [IntKind.wrap, IntKind.bits, IntKind.signed]
  omega
theorem xor_nonneg {a b : Int} (ha : 0 ≤ a) (ha' : a < 4611686018427387904) (hb : 0 ≤ b) (hb' : b < 4611686018427387904) :
    0 ≤ Go.bits .xor .i64 a b ∧ Go.bits .xor .i64 a b < 4611686018427387904 := by
  obtain ⟨x, rfl⟩ := Int.eq_ofNat_of_zero_le ha
  obtain ⟨y, rfl⟩ := Int.eq_ofNat_of_zero_le hb
  have hx : x < 2 ^ 62 := by omega
  have hy : y < 2 ^ 62 := by omega
  have hxy := Nat.xor_lt_two_pow hx hy
  have e : Go.bits .xor .i64 (x : Int) (y : Int) = ((x ^^^ y : Nat) : Int) := by
    show IntKind.i64.wrap (((BitVec.ofInt 64 (x : Int)) ^^^ (BitVec.ofInt 64 (y : Int))).toNat : Int) = _
    rw [BitVec.toNat_xor]
    have e1 : (BitVec.ofInt 64 (x : Int)).toNat = x := by simp; omega
    have e2 : (BitVec.ofInt 64 (y : Int)).toNat = y := by simp; omega
    rw [e1, e2, IntKind.wrap_i64]
    omega
  rw [e]
  omega
end Go.Proofs.Ytgmjolngnhdafaa.Kit

end
section
namespace Go.Proofs.Ytgmjolngnhdafaa.Kit
open Go Go.RowKit Go.Proofs.YtgmjolngnhdafaaW.PrintWords Go.Proofs.Ytgmjolngnhdafaa.P
set_option linter.unusedVariables false

/-- Bytes of a code, as many as are read. -/
def Bytes (bs : List Int) : Prop := bs.length ≤ 2000 ∧ ∀ x ∈ bs, 0 ≤ x ∧ x ≤ 255
theorem Bytes.rd {bs : List Int} (h : Bytes bs) (i : Int) : 0 ≤ rd bs i ∧ rd bs i ≤ 255 := by
  unfold Go.Proofs.YtgmjolngnhdafaaW.PrintWords.rd
  rw [List.getD_eq_getElem?_getD]
  by_cases hi : i.toNat < bs.length
  · rw [List.getElem?_eq_getElem hi]
    exact h.2 _ (List.getElem_mem hi)
  · rw [List.getElem?_eq_none (by omega)]
    simp
theorem open_evp {l : List Int} (h : ∀ x ∈ l, (Lit.int .u8 x).wf = true) : ∃ bs, spec_l6Open.f l = some (bs, 0) ∧ Bytes bs := by
  have hb : ∀ x ∈ l, 0 ≤ x ∧ x ≤ 255 := by
    intro x hx
    have := h x hx
    simp [Lit.wf, IntKind.min, IntKind.max, IntKind.signed, IntKind.bits] at this
    omega
  unfold spec_l6Open.f
  by_cases h1 : (l.length : Int) > 2000
  · rw [if_pos h1, if_pos (by omega)]
    exact ⟨_, rfl, by rw [List.length_take]; omega, fun x hx => hb x (List.mem_of_mem_take hx)⟩
  · rw [if_neg h1]
    exact ⟨_, rfl, by omega, hb⟩
theorem pick_evp {bs : List Int} (h : Bytes bs) {p n : Int} (h0 : 0 ≤ p) (h1 : p ≤ 1000000000) (hn : n ≤ 1000000000) :
    Evp (fun k => spec_l6Rd_pick.f k bs p n) (fun r => 0 ≤ r.1 ∧ (1 ≤ n → r.1 < n) ∧ r.2 = p + 1) := by
  have hp : wrap64 (p + 1) = p + 1 := w64 (by omega) (by omega)
  have hp1 : wrap64 (p + 1 - 1) = p := by rw [w64 (by omega) (by omega)]; omega
  have key : ∀ b : Bool, (b = false → 1 ≤ n ∧ bs.length ≠ 0) → Evp (fun k => spec_l6Rd_pick.j0 k n b bs (p + 1)) (fun r => 0 ≤ r.1 ∧ (1 ≤ n → r.1 < n) ∧ r.2 = p + 1) := by
    intro b hb
    refine Evp.step (f := fun k => _) (fun k => by rw [spec_l6Rd_pick.j0]) ?_
    rw [hp1]
    cases b with
    | true =>
      refine Evp.yes rfl (Evp.pure _ ⟨by omega, fun h => by show (0 : Int) < n; omega, rfl⟩)
    | false =>
      obtain ⟨hn1, hl⟩ := hb rfl
      have hlen : (bs.length : Int) ≤ 2000 := by have := h.1; omega
      refine Evp.no (by decide) (Evp.ite (fun hlt => ?_) (fun hge => ?_))
      · refine Evp.yes h0 (Evp.no (by omega) (Evp.pure _ ?_))
        have hr := h.rd p
        rw [w64 (by omega) (by omega)]
        have := tmod_lo (b := n) hr.1 (by omega)
        exact ⟨this.1, fun _ => this.2, rfl⟩
      · have hm1 := tmod_lo (a := p) (b := (bs.length : Int)) h0 (by omega)
        have e7 : wrap64 (wrap64 (p * 7) + 3) = p * 7 + 3 := by rw [w64 (n := p * 7) (by omega) (by omega), w64 (by omega) (by omega)]
        have hm2 := tmod_lo (a := p * 7 + 3) (b := (bs.length : Int)) (by omega) (by omega)
        rw [e7]
        refine Evp.no (by omega) (Evp.yes hm1.1 (Evp.yes hm1.2 (Evp.yes hm2.1 (Evp.yes hm2.2 (Evp.no (by omega) (Evp.pure _ ?_))))))
        have r1 := h.rd (Int.tmod p (bs.length : Int))
        have r2 := h.rd (Int.tmod (p * 7 + 3) (bs.length : Int))
        generalize rd bs (Int.tmod p (bs.length : Int)) = a at r1 ⊢
        generalize rd bs (Int.tmod (p * 7 + 3) (bs.length : Int)) = c at r2 ⊢
        have hq : 0 ≤ Int.tdiv p (bs.length : Int) ∧ Int.tdiv p (bs.length : Int) ≤ p := by
          rw [tdiv_pos h0]
          exact ⟨Int.ediv_nonneg h0 (by omega), Int.ediv_le_self _ h0⟩
        generalize Int.tdiv p (bs.length : Int) = q at hq ⊢
        have ea : wrap64 (wrap64 a * 131) = a * 131 := by rw [w64 (n := a) (by omega) (by omega), w64 (by omega) (by omega)]
        have ec : wrap64 (wrap64 c * 1117) = c * 1117 := by rw [w64 (n := c) (by omega) (by omega), w64 (by omega) (by omega)]
        have e29 : wrap64 (p * 29) = p * 29 := w64 (by omega) (by omega)
        have eq5 : wrap64 (wrap64 q * 53) = q * 53 := by rw [w64 (n := q) (by omega) (by omega), w64 (by omega) (by omega)]
        have ex : wrap64 (wrap64 (wrap64 (a * 131 + c * 1117) + p * 29) + q * 53) = a * 131 + c * 1117 + p * 29 + q * 53 := by
          rw [w64 (n := a * 131 + c * 1117) (by omega) (by omega), w64 (n := a * 131 + c * 1117 + p * 29) (by omega) (by omega), w64 (by omega) (by omega)]
        rw [ea, ec, e29, eq5, ex]
        generalize hx : a * 131 + c * 1117 + p * 29 + q * 53 = X
        have hX : 0 ≤ X ∧ X < 4611686018427387904 := by omega
        have hd : 0 ≤ Int.tdiv X 64 ∧ Int.tdiv X 64 ≤ X := by rw [tdiv_pos hX.1]; omega
        rw [w64 (n := Int.tdiv X 64) (by omega) (by omega)]
        have hz := xor_nonneg hX.1 hX.2 hd.1 (by omega)
        have := tmod_lo (b := n) hz.1 (by omega)
        exact ⟨this.1, fun _ => this.2, rfl⟩
  unfold spec_l6Rd_pick.f
  rw [hp]
  refine Evp.ite (fun hn1 => key true (fun h => by cases h)) (fun hn1 => key _ (fun hb => ⟨by omega, ?_⟩))
  intro hl
  rw [hl] at hb
  simp at hb
end Go.Proofs.Ytgmjolngnhdafaa.Kit

end
section
namespace Go.Proofs.Ytgmjolngnhdafaa.Kit
open Go Go.RowKit Go.Proofs.YtgmjolngnhdafaaW.PrintWords Go.Proofs.Ytgmjolngnhdafaa.P
set_option linter.unusedVariables false
abbrev Cls := S38
def sup (cs : List Cls) (i : Nat) : Int := (cs.getD i z38).f0
def flds (cs : List Cls) (i : Nat) : List Int := (cs.getD i z38).f1
def FieldTy (n : Nat) (t : Int) : Prop := t = 1 ∨ t = 3 ∨ t = 4 ∨ (8 ≤ t ∧ t < 8 + (n : Int))
structure ClsOk (cs : List Cls) : Prop where
  lo : 2 ≤ cs.length
  hi : cs.length ≤ 5
  root : sup cs 0 = -1 ∧ flds cs 0 = []
  fail : sup cs 1 = 0 ∧ flds cs 1 = [1]
  up : ∀ i, 2 ≤ i → i < cs.length → 0 ≤ sup cs i ∧ sup cs i < (i : Int) ∧ (flds cs i).length ≤ 2
  fld : ∀ i, i < cs.length → ∀ t ∈ flds cs i, FieldTy cs.length t
/-- a is b, or below it. -/
inductive Up (cs : List Cls) : Nat → Nat → Prop
  | refl (a : Nat) : Up cs a a
  | step {a b : Nat} (p : Nat) (hp : sup cs a = (p : Int)) (h : Up cs p b) : Up cs a b
theorem ClsOk.sup_pos {cs : List Cls} (h : ClsOk cs) {i : Nat} (h1 : 1 ≤ i) (h2 : i < cs.length) : 0 ≤ sup cs i ∧ sup cs i < (i : Int) := by
  rcases Nat.lt_or_ge i 2 with h3 | h3
  · have : i = 1 := by omega
    subst this
    rw [h.fail.1]
    decide
  · have := h.up i h3 h2
    exact ⟨this.1, this.2.1⟩
theorem ClsOk.sup_nat {cs : List Cls} (h : ClsOk cs) {i : Nat} (h1 : 1 ≤ i) (h2 : i < cs.length) : ∃ p : Nat, sup cs i = (p : Int) ∧ p < i := by
  obtain ⟨h3, h4⟩ := h.sup_pos h1 h2
  exact ⟨(sup cs i).toNat, by omega, by omega⟩
theorem ClsOk.len2 {cs : List Cls} (h : ClsOk cs) {i : Nat} (h2 : i < cs.length) : (flds cs i).length ≤ 2 := by
  rcases Nat.lt_or_ge i 2 with h3 | h3
  · rcases Nat.lt_or_ge i 1 with h4 | h4
    · have : i = 0 := by omega
      subst this
      rw [h.root.2]; decide
    · have : i = 1 := by omega
      subst this
      rw [h.fail.2]; decide
  · exact (h.up i h3 h2).2.2
theorem Up.le {cs : List Cls} (h : ClsOk cs) {a b : Nat} (hu : Up cs a b) (ha : a < cs.length) : b ≤ a := by
  induction hu with
  | refl a => exact Nat.le_refl _
  | @step a b p hp _ ih =>
    rcases Nat.eq_zero_or_pos a with h0 | h0
    · subst h0
      have := h.root.1
      omega
    · have := h.sup_pos h0 ha
      have := ih (by omega)
      omega
theorem Up.inv {cs : List Cls} {a b : Nat} (hu : Up cs a b) : a = b ∨ ∃ p : Nat, sup cs a = (p : Int) ∧ Up cs p b := by
  cases hu with
  | refl => exact .inl rfl
  | step p hp h => exact .inr ⟨p, hp, h⟩
theorem Up.trans {cs : List Cls} {a b c : Nat} (h1 : Up cs a b) (h2 : Up cs b c) : Up cs a c := by
  induction h1 with
  | refl => exact h2
  | step p hp _ ih => exact .step p hp (ih h2)
theorem Up.antisymm {cs : List Cls} (h : ClsOk cs) {a b : Nat} (ha : a < cs.length) (hb : b < cs.length) (h1 : Up cs a b) (h2 : Up cs b a) : a = b := by
  have := h1.le h ha
  have := h2.le h hb
  omega
theorem Up.root {cs : List Cls} (h : ClsOk cs) : ∀ {a : Nat}, a < cs.length → Up cs a 0 := by
  intro a
  induction a using Nat.strongRecOn with
  | _ a ih =>
    intro ha
    rcases Nat.eq_zero_or_pos a with h0 | h0
    · subst h0; exact .refl 0
    · obtain ⟨p, hp, hlt⟩ := h.sup_nat h0 ha
      exact .step p hp (ih p hlt (by omega))
/-- Of two above one, one is below the other. -/
theorem Up.line {cs : List Cls} {a b c : Nat} (h1 : Up cs a b) (h2 : Up cs a c) : Up cs b c ∨ Up cs c b := by
  induction h1 with
  | refl => exact .inl h2
  | step p hp hu ih =>
    rcases h2.inv with rfl | ⟨q, hq, hqc⟩
    · exact .inr (.step p hp hu)
    · have : p = q := by omega
      subst this
      exact ih hqc
/-- All fields of a class. -/
inductive Flds (cs : List Cls) : Nat → List Int → Prop
  | root : Flds cs 0 []
  | step {c : Nat} {l : List Int} (p : Nat) (hc : c ≠ 0) (hp : sup cs c = (p : Int)) (h : Flds cs p l) : Flds cs c (l ++ flds cs c)
theorem Flds.fn {cs : List Cls} {c : Nat} {l l' : List Int} (h : Flds cs c l) (h' : Flds cs c l') : l = l' := by
  induction h generalizing l' with
  | root =>
    cases h' with
    | root => rfl
    | step p hc _ _ => exact absurd rfl hc
  | step p hc hp _ ih =>
    cases h' with
    | root => exact absurd rfl hc
    | step q _ hq hl =>
      have : p = q := by omega
      subst this
      rw [ih hl]
theorem Flds.ex {cs : List Cls} (h : ClsOk cs) : ∀ {c : Nat}, c < cs.length → ∃ l, Flds cs c l ∧ l.length ≤ 2 * c := by
  intro c
  induction c using Nat.strongRecOn with
  | _ c ih =>
    intro hc
    rcases Nat.eq_zero_or_pos c with h0 | h0
    · subst h0; exact ⟨[], .root, by simp⟩
    · obtain ⟨p, hp, hlt⟩ := h.sup_nat h0 hc
      obtain ⟨l, hl, hn⟩ := ih p hlt (by omega)
      exact ⟨_, .step p (by omega) hp hl, by have := h.len2 hc; simp; omega⟩
theorem rdCls {cs : List Cls} (i : Nat) : rd_T38 cs (i : Int) = cs.getD i z38 := rfl
theorem rdSup {cs : List Cls} (i : Nat) : (rd_T38 cs (i : Int)).f0 = sup cs i := rfl
theorem rdFlds {cs : List Cls} (i : Nat) : (rd_T38 cs (i : Int)).f1 = flds cs i := rfl
theorem rdInt {xs : List Int} {i : Nat} (h : i < xs.length) : rd xs (i : Int) = xs[i] := getD_at h _
/-- Classes, each with not too many fields. -/
def SmallC (cs : List Cls) : Prop := cs.length ≤ 1048576 ∧ ∀ i, i < cs.length → (flds cs i).length ≤ 1048576 ∧ (∀ t ∈ flds cs i, -9223372036854775808 ≤ t ∧ t ≤ 9223372036854775807)
/-- Two answers, each told by the same. -/
theorem same_of {p : Prop} {a b : Bool} (ha : a = true ↔ p) (hb : b = true ↔ p) : a = b := by
  rw [Bool.eq_iff_iff, ha, hb]
theorem bne_no {a b : Bool} {p : Prop} (ha : a = true ↔ p) (hb : b = true ↔ p) : ¬ ((b != a) = true) := by
  rw [same_of hb ha]; simp
end Go.Proofs.Ytgmjolngnhdafaa.Kit

end
section
namespace Go.Proofs.Ytgmjolngnhdafaa.Kit
open Go Go.RowKit Go.Proofs.YtgmjolngnhdafaaW.PrintWords Go.Proofs.Ytgmjolngnhdafaa.P
set_option linter.unusedVariables false
def Few (l : List Int) : Prop := ∀ t ∈ l, -1000 ≤ t ∧ t ≤ 1000
theorem Few.nil : Few [] := by intro t ht; cases ht
theorem Few.snoc {l : List Int} {t : Int} (h : Few l) (h0 : -1000 ≤ t) (h1 : t ≤ 1000) : Few (l ++ [t]) := by
  intro x hx
  rcases List.mem_append.1 hx with hx | hx
  · exact h x hx
  · rw [List.mem_singleton.1 hx]; exact ⟨h0, h1⟩
def OkC (c : Nat) (x : Cls) : Prop := x.f1.length ≤ c ∧ Few x.f1
/-- Drawn classes: from 1 to m of them. -/
def Drawn (c m : Nat) (cs : List Cls) : Prop := 1 ≤ cs.length ∧ cs.length ≤ m ∧ ∀ x ∈ cs, OkC c x
theorem Drawn.mono {c c' m m' : Nat} {cs : List Cls} (h : Drawn c m cs) (hc : c ≤ c') (hm : m ≤ m') : Drawn c' m' cs := ⟨h.1, Nat.le_trans h.2.1 hm, fun x hx => ⟨Nat.le_trans (h.2.2 x hx).1 hc, (h.2.2 x hx).2⟩⟩
theorem Drawn.at {c m : Nat} {cs : List Cls} (h : Drawn c m cs) (i : Nat) : OkC c (cs.getD i z38) := by
  rw [List.getD_eq_getElem?_getD]
  by_cases hi : i < cs.length
  · rw [List.getElem?_eq_getElem hi]; exact h.2.2 _ (List.getElem_mem hi)
  · rw [List.getElem?_eq_none (by omega)]; exact ⟨Nat.zero_le _, Few.nil⟩
theorem Drawn.small {c m : Nat} {cs : List Cls} (h : Drawn c m cs) (hc : c ≤ 1048576) (hm : m ≤ 1048576) : SmallC cs := by
  refine ⟨Nat.le_trans h.2.1 hm, fun i hi => ?_⟩
  have := h.at i
  exact ⟨Nat.le_trans this.1 hc, fun t ht => by have := this.2 t ht; omega⟩
theorem Drawn.set {c m : Nat} {cs : List Cls} (h : Drawn c m cs) (i : Nat) {x : Cls} (hx : OkC c x) : Drawn c m (cs.set i x) := by
  refine ⟨by rw [List.length_set]; exact h.1, by rw [List.length_set]; exact h.2.1, fun y hy => ?_⟩
  rcases List.mem_or_eq_of_mem_set hy with h1 | h1
  · exact h.2.2 y h1
  · rw [h1]; exact hx
theorem Drawn.snoc {c m : Nat} {cs : List Cls} (h : Drawn c m cs) {x : Cls} (hx : OkC c x) : Drawn c (m + 1) (cs ++ [x]) := by
  refine ⟨by simp, by rw [List.length_append]; have := h.2.1; simp; omega, fun y hy => ?_⟩
  rcases List.mem_append.1 hy with h1 | h1
  · exact h.2.2 y h1
  · rw [List.mem_singleton.1 h1]; exact hx
theorem field_evp {bs : List Int} (h : Bytes bs) {p n : Int} (h0 : 0 ≤ p) (h1 : p ≤ 100000000) (hn : 1 ≤ n) (hn2 : n ≤ 100) :
    Evp (fun k => spec_l71Field.f k bs p n) (fun r => 1 ≤ r.1 ∧ r.1 < 8 + n ∧ p ≤ r.2 ∧ r.2 ≤ p + 2) := by
  unfold spec_l71Field.f
  refine Evp.bind (pick_evp h h0 (by omega) (by omega)) fun a ha => ?_
  have key : ∀ b : Bool, Evp (fun k => spec_l71Field.j0 k n a.1 b bs a.2) (fun r => 1 ≤ r.1 ∧ r.1 < 8 + n ∧ p ≤ r.2 ∧ r.2 ≤ p + 2) := by
    intro b
    refine Evp.step (f := fun k => _) (fun k => by rw [spec_l71Field.j0]) ?_
    refine Evp.ite (fun _ => Evp.pure _ (by dsimp only; omega)) (fun _ => Evp.ite (fun _ => Evp.pure _ (by dsimp only; omega)) (fun _ => Evp.ite (fun _ => Evp.pure _ (by dsimp only; omega)) (fun _ => ?_)))
    refine Evp.bind (pick_evp h (by omega) (by omega) (by omega)) fun c hc => Evp.pure _ ?_
    have := hc.2.1 hn
    dsimp only
    rw [w64 (by omega) (by omega)]
    omega
  exact Evp.ite (fun _ => key _) (fun _ => key _)
theorem classes_evp {bs : List Int} (h : Bytes bs) {p : Int} (h0 : 0 ≤ p) (h1 : p ≤ 10000000) :
    Evp (fun k => spec_l71Classes.f k bs p) (fun r => Drawn 3 5 r.1 ∧ 2 ≤ r.1.length ∧ p ≤ r.2 ∧ r.2 ≤ p + 100) := by
  unfold spec_l71Classes.f
  refine Evp.bind (pick_evp h h0 (by omega) (by omega)) fun a ha => ?_
  have ha2 := ha.2.1 (by omega)
  obtain ⟨n, hn⟩ : ∃ n : Nat, wrap64 (2 + a.1) = (n : Int) := ⟨(2 + a.1).toNat, by rw [w64 (by omega) (by omega)]; omega⟩
  rw [w64 (by omega) (by omega)] at hn
  rw [w64 (by omega) (by omega), hn]
  have k0 : ∀ d i : Nat, i + d = n → ∀ (cs : List Cls) (q : Int), Drawn 3 i cs → cs.length = i → 2 ≤ i → 0 ≤ q → q + 6 * (d : Int) ≤ 20000000 → Evp (fun k => spec_l71Classes.l0 k (n : Int) cs (i : Int) bs q) (fun r => Drawn 3 5 r.1 ∧ 2 ≤ r.1.length ∧ q ≤ r.2 ∧ r.2 ≤ q + 6 * d) := by
    intro d
    induction d with
    | zero =>
      intro i hi cs q hd hl h2 hq0 hq1
      refine Evp.step (f := fun k => _) (fun k => by rw [spec_l71Classes.l0]) (Evp.no (by omega) (Evp.pure _ ?_))
      exact ⟨hd.mono (by decide) (by omega), by dsimp only; omega, by dsimp only; omega, by dsimp only; omega⟩
    | succ d ih =>
      intro i hi cs q hd hl h2 hq0 hq1
      refine Evp.step (f := fun k => _) (fun k => by rw [spec_l71Classes.l0]) (Evp.yes (by omega) ?_)
      refine Evp.bind (pick_evp h hq0 (by omega) (by omega)) fun b hb => Evp.bind (pick_evp h (by omega) (by omega) (by omega)) fun c hc => ?_
      have hc2 := hc.2.1 (by omega)
      have k1 : ∀ j : Nat, ∀ (s : List Int) (q' : Int), s.length + j ≤ 2 → Few s → 0 ≤ q' → q' + 2 * (j : Int) + 6 * (d : Int) ≤ 20000000 → Evp (fun k => spec_l71Classes.l1 k (n : Int) cs (i : Int) (j : Int) bs q' b.1 s) (fun r => Drawn 3 5 r.1 ∧ 2 ≤ r.1.length ∧ q' ≤ r.2 ∧ r.2 ≤ q' + 2 * j + 6 * d) := by
        intro j
        induction j with
        | zero =>
          intro s q' hs hf hq0' hq1'
          refine Evp.step (f := fun k => _) (fun k => by rw [spec_l71Classes.l1]) (Evp.no (by omega) (Evp.yes (by omega) ?_))
          rw [w64' (n := n) (by omega) (by omega)]
          refine (ih (i + 1) (by omega) (cs ++ [⟨b.1, s⟩]) q' (hd.snoc ⟨by dsimp only; omega, hf⟩) (by simp; omega) (by omega) hq0' (by omega)).mono fun r hr => ?_
          exact ⟨hr.1, hr.2.1, hr.2.2.1, by omega⟩
        | succ j ihj =>
          intro s q' hs hf hq0' hq1'
          refine Evp.step (f := fun k => _) (fun k => by rw [spec_l71Classes.l1]) (Evp.yes (by omega) ?_)
          refine Evp.bind (field_evp h hq0' (by omega) (n := (n : Int)) (by omega) (by omega)) fun e he => Evp.yes (by omega) ?_
          rw [show wrap64 (((j + 1 : Nat) : Int) - 1) = (j : Int) by rw [w64 (by omega) (by omega)]; omega]
          refine (ihj (s ++ [e.1]) e.2 (by simp; omega) (hf.snoc (by omega) (by omega)) (by omega) (by omega)).mono fun r hr => ?_
          exact ⟨hr.1, hr.2.1, by omega, by omega⟩
      obtain ⟨j, hj⟩ : ∃ j : Nat, c.1 = (j : Int) := ⟨c.1.toNat, by omega⟩
      rw [hj]
      refine (k1 j [] c.2 (by simp; omega) Few.nil (by omega) (by omega)).mono fun r hr => ?_
      exact ⟨hr.1, hr.2.1, by omega, by omega⟩
  have hok : Drawn 3 2 ([(⟨-1, []⟩ : Cls), ⟨0, [1]⟩]) := by
    refine ⟨by decide, by decide, fun x hx => ?_⟩
    rcases List.mem_cons.1 hx with rfl | hx
    · exact ⟨Nat.zero_le _, Few.nil⟩
    · rw [List.mem_singleton.1 hx]
      exact ⟨by decide, Few.nil.snoc (by decide) (by decide)⟩
  refine Evp.mono (k0 (n - 2) 2 (by omega) _ a.2 hok rfl (by omega) (by omega) (by omega)) fun r hr => ?_
  exact ⟨hr.1, hr.2.1, by omega, by omega⟩
theorem off_evp {bs : List Int} (h : Bytes bs) {p : Int} (h0 : 0 ≤ p) (h1 : p ≤ 1000000) :
    Evp (fun k => spec_l71Off.f k bs p) (fun r => Drawn 4 9 r.1 ∧ p ≤ r.2 ∧ r.2 ≤ p + 110) := by
  unfold spec_l71Off.f
  refine Evp.bind (classes_evp h h0 (by omega)) fun a ha => Evp.bind (pick_evp h (by omega) (by omega) (by omega)) fun b hb => ?_
  have hd : Drawn 4 9 a.1 := ha.1.mono (by decide) (by decide)
  have hl := ha.2.1
  have hl5 := ha.1.2.1
  refine Evp.ite (fun _ => Evp.pure _ ⟨hd, by dsimp only; omega, by dsimp only; omega⟩) (fun _ => ?_)
  refine Evp.bind (pick_evp h (by omega) (by omega) (by omega)) fun c hc => Evp.bind (pick_evp h (by omega) (by omega) (by omega)) fun d hd' => ?_
  have hc2 := hc.2.1 (by omega)
  have at_ : ∀ i : Int, OkC 4 (rd_T38 a.1 i) := fun i => hd.at _
  refine Evp.ite (fun _ => ?_) (fun _ => Evp.ite (fun _ => ?_) (fun _ => Evp.ite (fun _ => ?_) (fun _ => Evp.ite (fun _ => ?_) (fun _ => Evp.ite (fun _ => ?_) (fun _ => ?_)))))
  · refine Evp.bind (pick_evp h (by omega) (by omega) (by omega)) fun e he => Evp.yes hc.1 (Evp.yes (by omega) (Evp.pure _ ⟨hd.set _ (at_ _), by dsimp only; omega, by dsimp only; omega⟩))
  · refine Evp.yes hc.1 (Evp.yes (by omega) ?_)
    simp only [Option.bind_some]
    refine Evp.bind (pick_evp h (by omega) (by omega) (by omega)) fun e he => ?_
    have he2 := he.2.1 (by omega)
    have hx : OkC 3 (rd_T38 a.1 c.1) := ha.1.at _
    refine Evp.yes he.1 (Evp.yes (by simp; omega) (Evp.yes (by have := hx.1; omega) (Evp.pure _ ⟨hd.set _ ⟨?_, ?_⟩, by dsimp only; omega, by dsimp only; omega⟩)))
    · have := hx.1
      simp
      omega
    · have key : ∀ e : Int, 0 ≤ e → e < 4 → -1000 ≤ rd [0, 2, 13, 5] e ∧ rd [0, 2, 13, 5] e ≤ 1000 := by
        intro e h0 h1
        have : e = 0 ∨ e = 1 ∨ e = 2 ∨ e = 3 := by omega
        rcases this with rfl | rfl | rfl | rfl <;> exact ⟨by decide, by decide⟩
      exact hx.2.snoc (key e.1 he.1 he2).1 (key e.1 he.1 he2).2
  · exact Evp.yes (by omega) (Evp.pure _ ⟨⟨by simp; omega, by simp; omega, fun x hx => hd.2.2 x (List.mem_of_mem_take hx)⟩, by dsimp only; omega, by dsimp only; omega⟩)
  · refine Evp.yes (by omega) ?_
    simp only [Option.bind_some]
    refine Evp.yes (by simp; omega) (Evp.pure _ ⟨⟨by simp, by simp; omega, fun x hx => ?_⟩, by dsimp only; omega, by dsimp only; omega⟩)
    rcases List.mem_append.1 hx with hx | hx
    · exact hd.2.2 x hx
    · have : x = rd_T38 a.1 1 := by
        simp only [List.mem_cons, List.not_mem_nil, or_false, or_self] at hx
        exact hx
      rw [this]; exact at_ 1
  · refine Evp.yes hc.1 (Evp.yes (by omega) (Evp.pure _ ⟨hd.set _ ⟨(by dsimp only; decide), ?_⟩, by dsimp only; omega, by dsimp only; omega⟩))
    intro t ht
    simp at ht
    omega
  · exact Evp.yes hc.1 (Evp.yes (by omega) (Evp.pure _ ⟨hd.set _ ⟨Nat.zero_le _, Few.nil⟩, by dsimp only; omega, by dsimp only; omega⟩))
end Go.Proofs.Ytgmjolngnhdafaa.Kit

end
section
namespace Go.Proofs.Ytgmjolngnhdafaa.Kit
open Go Go.RowKit Go.Proofs.YtgmjolngnhdafaaW.PrintWords Go.Proofs.Ytgmjolngnhdafaa.P
set_option linter.unusedVariables false
theorem in_eq (a lo hi : Int) : spec_l6In.f a lo hi = some (decide (lo ≤ a ∧ a ≤ hi)) := by
  unfold spec_l6In.f
  by_cases h : lo ≤ a <;> simp [h]
theorem kindOf_eq {n : Nat} {t : Int} (hn : n ≤ 1000000000) (h0 : -9223372036854775808 ≤ t) (h1 : t ≤ 9223372036854775807) :
    impl_kindOf.f (n : Int) t = some (if (0 ≤ t ∧ t ≤ 4) ∨ (8 ≤ t ∧ t < 8 + (n : Int)) then t else -1) := by
  unfold impl_kindOf.f
  rw [if_pos ⟨by omega, by omega, h0, h1⟩]
  repeat' split
  all_goals first | omega | (congr 1; omega) | rfl
theorem fieldType_eq {n : Nat} {t : Int} (hn : n ≤ 1000000000) (h0 : -9223372036854775808 ≤ t) (h1 : t ≤ 9223372036854775807) :
    ∃ b, impl_fieldType.f (n : Int) t = some b ∧ (b = true ↔ FieldTy n t) := by
  unfold impl_fieldType.f
  rw [kindOf_eq hn h0 h1, Option.bind_some]
  refine ⟨_, rfl, ?_⟩
  rw [decide_eq_true_iff]
  unfold FieldTy
  split <;> omega
theorem field_eq {cs : List Cls} {t : Int} (hn : cs.length ≤ 1000000000) : ∃ b, spec_l2Field.f cs t = some b ∧ (b = true ↔ FieldTy cs.length t) := by
  unfold spec_l2Field.f FieldTy
  rw [in_eq, w64 (n := 8 + (cs.length : Int)) (by omega) (by omega), w64 (by omega) (by omega)]
  by_cases h1 : t = 1
  · exact ⟨true, by rw [if_pos h1], by simp [h1]⟩
  rw [if_neg h1]
  by_cases h2 : t = 3
  · exact ⟨true, by rw [if_pos h2], by simp [h2]⟩
  rw [if_neg h2]
  by_cases h3 : t = 4
  · exact ⟨true, by rw [if_pos h3], by simp [h3]⟩
  rw [if_neg h3]
  refine ⟨_, rfl, ?_⟩
  simp only [h1, h2, h3, false_or, decide_eq_true_iff]
  omega
theorem impl_isClass_eq (cs : List Cls) (a : Int) : ∃ b, impl_isClass.f cs a = some b ∧ (b = true ↔ 0 ≤ a ∧ a < (cs.length : Int)) := by
  unfold impl_isClass.f
  by_cases h : a ≥ 0
  · rw [if_pos h]; exact ⟨_, rfl, by rw [decide_eq_true_iff]; omega⟩
  · rw [if_neg h]; exact ⟨_, rfl, by simp; omega⟩
/-- What the reference asks of one class. -/
def Shp (cs : List Cls) (c : Nat) : Prop := (if c = 0 then sup cs 0 = -1 ∧ (flds cs 0).length = 0 else if c = 1 then sup cs 1 = 0 ∧ flds cs 1 = [1] else 0 ≤ sup cs c ∧ sup cs c < (c : Int) ∧ (flds cs c).length ≤ 2)
theorem shp0 {cs : List Cls} : Shp cs 0 ↔ sup cs 0 = -1 ∧ (flds cs 0).length = 0 := by unfold Shp; rw [if_pos rfl]
theorem shp1 {cs : List Cls} : Shp cs 1 ↔ sup cs 1 = 0 ∧ flds cs 1 = [1] := by unfold Shp; rw [if_neg (by decide), if_pos rfl]
theorem shp2 {cs : List Cls} {c : Nat} (h : 2 ≤ c) : Shp cs c ↔ 0 ≤ sup cs c ∧ sup cs c < (c : Int) ∧ (flds cs c).length ≤ 2 := by unfold Shp; rw [if_neg (by omega), if_neg (by omega)]
def At (cs : List Cls) (c : Nat) : Prop := (∀ t ∈ flds cs c, FieldTy cs.length t) ∧ Shp cs c
theorem clsOk_iff {cs : List Cls} : ClsOk cs ↔ 2 ≤ cs.length ∧ cs.length ≤ 5 ∧ ∀ c, c < cs.length → At cs c := by
  constructor
  · intro h
    refine ⟨h.lo, h.hi, fun c hc => ⟨h.fld c hc, ?_⟩⟩
    rcases Nat.lt_or_ge c 2 with h2 | h2
    · rcases Nat.lt_or_ge c 1 with h1 | h1
      · have : c = 0 := by omega
        subst this
        exact shp0.2 ⟨h.root.1, by rw [h.root.2]; rfl⟩
      · have : c = 1 := by omega
        subst this
        exact shp1.2 h.fail
    · exact (shp2 h2).2 (h.up c h2 hc)
  · intro ⟨h1, h2, h3⟩
    have a0 := shp0.1 (h3 0 (by omega)).2
    have a1 := shp1.1 (h3 1 (by omega)).2
    exact ⟨h1, h2, ⟨a0.1, List.eq_nil_of_length_eq_zero a0.2⟩, a1, fun i hi hl => (shp2 hi).1 (h3 i hl).2, fun i hi => (h3 i hi).1⟩
theorem spec_class {cs : List Cls} (hs : SmallC cs) {c : Nat} (hc : c < cs.length) : Evp (fun k => spec_l2Class.f k cs (c : Int)) (fun r => r = true ↔ At cs c) := by
  unfold spec_l2Class.f
  refine Evp.yes (by omega) (Evp.yes (by omega) ?_)
  rw [rdSup, rdFlds]
  have hl := (hs.2 c hc).1
  have hl0 := hs.1
  have key : ∀ i, i ≤ (flds cs c).length → Evp (fun k => spec_l2Class.l0 k cs (c : Int) (i : Int) (sup cs c) (flds cs c)) (fun r => r = true ↔ (∀ t ∈ (flds cs c).drop i, FieldTy cs.length t) ∧ Shp cs c) := by
    refine Evp.for_ ?_ (fun i hi ih => ?_)
    · refine Evp.step (f := fun k => _) (fun k => by rw [spec_l2Class.l0, in_eq]) (Evp.no (by omega) ?_)
      rw [List.drop_length]
      simp only [List.not_mem_nil, false_implies, implies_true, true_and]
      refine Evp.ite (fun h0 => ?_) (fun h0 => ?_)
      · have : c = 0 := by omega
        subst this
        rw [shp0]
        refine Evp.ite (fun h => Evp.pure _ ?_) (fun h => Evp.pure _ (by simp [h]))
        rw [beq_iff_eq]
        constructor
        · intro h2; exact ⟨h, by omega⟩
        · intro h2; omega
      · refine Evp.ite (fun h1 => ?_) (fun h1 => ?_)
        · have : c = 1 := by omega
          subst this
          rw [shp1]
          refine Evp.ite (fun h => ?_) (fun h => Evp.pure _ (by simp [h]))
          refine Evp.ite (fun h2 => ?_) (fun h2 => Evp.pure _ ?_)
          · refine Evp.yes (by omega) (Evp.pure _ ?_)
            obtain ⟨x, hx⟩ := List.length_eq_one_iff.1 (by omega : (flds cs 1).length = 1)
            rw [hx, show rd [x] 0 = x from rfl, beq_iff_eq]
            simp [h]
          · constructor
            · intro h3; cases h3
            · intro h3; rw [h3.2] at h2; exact absurd rfl h2
        · rw [shp2 (by omega)]
          refine Evp.congr (f := fun k => if 0 ≤ sup cs c ∧ sup cs c ≤ (c : Int) - 1 then some (decide (((flds cs c).length : Int) ≤ 2)) else some false) (fun k => by rw [w64 (n := (c : Int) - 1) (by omega) (by omega), Option.bind_some]; simp only [decide_eq_true_iff]) ?_
          refine Evp.ite (fun h => Evp.pure _ ?_) (fun h => Evp.pure _ ?_)
          · simp only [decide_eq_true_iff]
            omega
          · constructor
            · intro h3; cases h3
            · intro h3; omega
    · obtain ⟨b, hb, hb2⟩ := field_eq (cs := cs) (t := (flds cs c)[i]) (by omega)
      refine Evp.step (f := fun k => _) (fun k => by rw [spec_l2Class.l0, rdInt hi, hb, Option.bind_some]) (Evp.yes (by omega) (Evp.yes (by omega) ?_))
      rw [w64' hi (by omega), drop_at hi]
      refine Evp.ite (fun h => ih.mono fun r hr => ?_) (fun h => Evp.pure _ ?_)
      · rw [hr, List.forall_mem_cons]
        exact ⟨fun h2 => ⟨⟨hb2.1 h, h2.1⟩, h2.2⟩, fun h2 => ⟨h2.1.2, h2.2⟩⟩
      · rw [List.forall_mem_cons]
        exact ⟨fun h2 => (by cases h2), fun h2 => absurd (hb2.2 h2.1.1) h⟩
  exact key 0 (Nat.zero_le _)
theorem spec_classesOk {cs : List Cls} (hs : SmallC cs) : Evp (fun k => spec_ClassesOk.f k cs) (fun r => r = true ↔ ClsOk cs) := by
  have hl0 := hs.1
  unfold spec_ClassesOk.f
  rw [in_eq]
  simp only [Option.bind_some]
  refine Evp.ite (fun h => ?_) (fun h => Evp.pure _ ?_)
  · simp only [decide_eq_true_iff] at h
    have key : ∀ i, i ≤ cs.length → Evp (fun k => spec_ClassesOk.l0 k cs (i : Int)) (fun r => r = true ↔ ∀ c, i ≤ c → c < cs.length → At cs c) := by
      refine Evp.for_ ?_ (fun i hi ih => ?_)
      · refine Evp.step (f := fun k => _) (fun k => by rw [spec_ClassesOk.l0]) (Evp.no (by omega) (Evp.pure _ ?_))
        simp only [true_iff]
        intro c h1 h2; omega
      · refine Evp.step (f := fun k => _) (fun k => by rw [spec_ClassesOk.l0]) (Evp.yes (by omega) ?_)
        refine Evp.bind (spec_class hs hi) fun b hb => ?_
        rw [w64' hi (by omega)]
        refine Evp.ite (fun h1 => ih.mono fun r hr => ?_) (fun h1 => Evp.pure _ ?_)
        · rw [hr]
          constructor
          · intro h2 c h3 h4
            rcases Nat.lt_or_ge i c with h5 | h5
            · exact h2 c h5 h4
            · have : c = i := by omega
              subst this
              exact hb.1 h1
          · intro h2 c h3 h4; exact h2 c (by omega) h4
        · constructor
          · intro h2; cases h2
          · intro h2; exact absurd (hb.2 (h2 i (Nat.le_refl _) hi)) h1
    refine (key 0 (Nat.zero_le _)).mono fun r hr => ?_
    rw [hr, clsOk_iff]
    constructor
    · intro h2; exact ⟨by omega, by omega, fun c hc => h2 c (Nat.zero_le _) hc⟩
    · intro h2 c _ hc; exact h2.2.2 c hc
  · simp only [decide_eq_true_iff] at h
    constructor
    · intro h2; cases h2
    · intro h2; have := h2.lo; have := h2.hi; omega
theorem impl_classesOk {cs : List Cls} (hs : SmallC cs) : Evp (fun k => impl_ClassesOk.f k cs) (fun r => r = true ↔ ClsOk cs) := by
  have hl0 := hs.1
  have no : ∀ {p : Prop}, ¬ p → ((false = true) ↔ p) := fun h => ⟨fun h2 => (by cases h2), fun h2 => absurd h2 h⟩
  have jno : ¬ (2 ≤ cs.length ∧ cs.length ≤ 5) → Evp (fun k => impl_ClassesOk.j0 k cs true) (fun r => r = true ↔ ClsOk cs) := fun h =>
    Evp.step (f := fun k => _) (fun k => by rw [impl_ClassesOk.j0]) (Evp.yes rfl (Evp.pure _ (no fun h2 => h ⟨h2.lo, h2.hi⟩)))
  unfold impl_ClassesOk.f
  refine Evp.ite (fun h => jno (by omega)) (fun h => ?_)
  by_cases h5 : ¬ cs.length ≤ 5
  · rw [decide_eq_true (by omega)]; exact jno (by omega)
  rw [decide_eq_false (by omega)]
  have h2 : 2 ≤ cs.length := by omega
  -- the loop over all classes
  have loop : (sup cs 0 = -1 ∧ flds cs 0 = []) → (sup cs 1 = 0 ∧ flds cs 1 = [1]) → ∀ i, i ≤ cs.length → Evp (fun k => impl_ClassesOk.l0 k cs cs (cs.length : Int) (i : Int)) (fun r => r = true ↔ ∀ c, i ≤ c → c < cs.length → At cs c) := by
    intro hr hf
    refine Evp.for_ ?_ (fun i hi ih => ?_)
    · refine Evp.step (f := fun k => _) (fun k => by rw [impl_ClassesOk.l0]) (Evp.no (by omega) (Evp.pure _ ?_))
      simp only [true_iff]
      intro c h1 h2; omega
    · have ih2 : At cs i → ∀ r : Bool, (r = true ↔ ∀ c, i + 1 ≤ c → c < cs.length → At cs c) → (r = true ↔ ∀ c, i ≤ c → c < cs.length → At cs c) := by
        intro ha r hr
        rw [hr]
        constructor
        · intro h2 c h3 h4
          rcases Nat.lt_or_ge i c with h5 | h5
          · exact h2 c h5 h4
          · have : c = i := by omega
            subst this
            exact ha
        · intro h2 c h3 h4; exact h2 c (by omega) h4
      have hno : ¬ At cs i → ((false = true) ↔ ∀ c, i ≤ c → c < cs.length → At cs c) := fun h => no fun h2 => h (h2 i (Nat.le_refl _) hi)
      have hl := (hs.2 i hi).1
      have hb := (hs.2 i hi).2
      -- the loop over a class's fields
      have fl : Shp cs i →
          ∀ j, j ≤ (flds cs i).length → (∀ t ∈ (flds cs i).take j, FieldTy cs.length t) → Evp (fun k => impl_ClassesOk.l1 k cs cs (cs.length : Int) (i : Int) (flds cs i) ((flds cs i).length : Int) (j : Int)) (fun r => r = true ↔ ∀ c, i ≤ c → c < cs.length → At cs c) := by
        intro hc
        have key : ∀ j, j ≤ (flds cs i).length → ∀ _ : Unit, (∀ t ∈ (flds cs i).take j, FieldTy cs.length t) → Evp (fun k => impl_ClassesOk.l1 k cs cs (cs.length : Int) (i : Int) (flds cs i) ((flds cs i).length : Int) (j : Int)) (fun r => r = true ↔ ∀ c, i ≤ c → c < cs.length → At cs c) := by
          refine Evp.fors (g := fun j (_ : Unit) k => impl_ClassesOk.l1 k cs cs (cs.length : Int) (i : Int) (flds cs i) ((flds cs i).length : Int) (j : Int)) (I := fun j _ => ∀ t ∈ (flds cs i).take j, FieldTy cs.length t) (R := fun _ _ r => r = true ↔ ∀ c, i ≤ c → c < cs.length → At cs c) (fun _ hI => ?_) (fun j hj ihj _ hI => ?_)
          · refine Evp.step (f := fun k => _) (fun k => by rw [impl_ClassesOk.l1]) (Evp.no (by omega) ?_)
            rw [w64' hi (by omega)]
            refine ih.mono (ih2 ⟨?_, hc⟩)
            simpa using hI
          · obtain ⟨b, hb1, hb2⟩ := fieldType_eq (n := cs.length) (t := (flds cs i)[j]) (by omega) (hb _ (List.getElem_mem hj)).1 (hb _ (List.getElem_mem hj)).2
            refine Evp.step (f := fun k => _) (fun k => by rw [impl_ClassesOk.l1, rdInt hj, hb1, Option.bind_some]) (Evp.yes (by omega) (Evp.yes (by omega) (Evp.yes (by omega) ?_)))
            rw [w64' hj (by omega)]
            refine Evp.ite (fun h => ihj () ?_) (fun h => Evp.pure _ (hno ?_))
            · rw [List.take_succ_eq_append_getElem hj]
              intro t ht
              rcases List.mem_append.1 ht with ht | ht
              · exact hI t ht
              · rw [List.mem_singleton.1 ht]; exact hb2.1 h
            · intro ha; exact h (hb2.2 (ha.1 _ (List.getElem_mem hj)))
        exact fun j hj => key j hj ()
      have j4 : ∀ b : Bool, (b = true ↔ 2 ≤ i ∧ ¬ (0 ≤ sup cs i ∧ sup cs i < (i : Int))) → Evp (fun k => impl_ClassesOk.j4 k cs cs (cs.length : Int) (i : Int) b (sup cs i) (flds cs i)) (fun r => r = true ↔ ∀ c, i ≤ c → c < cs.length → At cs c) := by
        intro b hb4
        refine Evp.step (f := fun k => _) (fun k => by rw [impl_ClassesOk.j4]) ?_
        refine Evp.ite (fun h => Evp.pure _ (hno ?_)) (fun h => ?_)
        · intro ha
          have h6 := hb4.1 h
          have := (shp2 h6.1).1 ha.2
          omega
        · have h6 : ¬ (2 ≤ i ∧ ¬ (0 ≤ sup cs i ∧ sup cs i < (i : Int))) := fun h7 => h (hb4.2 h7)
          refine Evp.ite (fun h7 => Evp.pure _ (hno ?_)) (fun h7 => fl ?_ 0 (Nat.zero_le _) (by simp))
          · intro ha
            rcases Nat.lt_or_ge i 2 with h8 | h8
            · rcases Nat.lt_or_ge i 1 with h9 | h9
              · have : i = 0 := by omega
                subst this
                have := (shp0.1 ha.2).2
                omega
              · have : i = 1 := by omega
                subst this
                rw [hf.2] at h7; exact absurd h7 (by decide)
            · have := (shp2 h8).1 ha.2
              omega
          · rcases Nat.lt_or_ge i 2 with h8 | h8
            · rcases Nat.lt_or_ge i 1 with h9 | h9
              · have : i = 0 := by omega
                subst this
                exact shp0.2 ⟨hr.1, by rw [hr.2]; rfl⟩
              · have : i = 1 := by omega
                subst this
                exact shp1.2 hf
            · exact (shp2 h8).2 (by omega)
      refine Evp.step (f := fun k => _) (fun k => by rw [impl_ClassesOk.l0, rdSup, rdFlds]) (Evp.yes (by omega) (Evp.yes (by omega) (Evp.yes (by omega) ?_)))
      refine Evp.ite (fun h => Evp.ite (fun h8 => j4 _ ?_) (fun h8 => j4 _ ?_)) (fun h => j4 _ ?_)
      · simp; omega
      · rw [decide_eq_true_iff]; omega
      · simp; omega
  have done : (sup cs 0 = -1 ∧ flds cs 0 = []) → (sup cs 1 = 0 ∧ flds cs 1 = [1]) → Evp (fun k => impl_ClassesOk.l0 k cs cs (cs.length : Int) 0) (fun r => r = true ↔ ClsOk cs) := by
    intro hr hf
    refine (loop hr hf 0 (Nat.zero_le _)).mono fun r hr2 => ?_
    rw [hr2, clsOk_iff]
    constructor
    · intro h3; exact ⟨by omega, by omega, fun c hc => h3 c (Nat.zero_le _) hc⟩
    · intro h3 c _ hc; exact h3.2.2 c hc
  have j2 : (sup cs 0 = -1 ∧ flds cs 0 = []) → ∀ b : Bool, (b = false ↔ (sup cs 1 = 0 ∧ flds cs 1 = [1])) → Evp (fun k => impl_ClassesOk.j2 k cs b) (fun r => r = true ↔ ClsOk cs) := by
    intro hr b hb
    refine Evp.step (f := fun k => _) (fun k => by rw [impl_ClassesOk.j2]) ?_
    refine Evp.ite (fun h => Evp.pure _ (no fun h3 => ?_)) (fun h => done hr (hb.1 (by simpa using h)))
    have := hb.2 h3.fail
    rw [h] at this; cases this
  have j1 : ∀ b : Bool, (b = false ↔ (sup cs 0 = -1 ∧ flds cs 0 = [])) → Evp (fun k => impl_ClassesOk.j1 k cs b) (fun r => r = true ↔ ClsOk cs) := by
    intro b hb
    refine Evp.step (f := fun k => _) (fun k => by rw [impl_ClassesOk.j1, show (1 : Int) = ((1 : Nat) : Int) from rfl, rdSup, rdFlds]) ?_
    refine Evp.ite (fun h => Evp.pure _ (no fun h3 => ?_)) (fun h => ?_)
    · have := hb.2 h3.root
      rw [h] at this; cases this
    · have hr := hb.1 (by simpa using h)
      refine Evp.yes (by omega) (Evp.ite (fun h1 => Evp.ite (fun h3 => Evp.yes (by omega) (j2 hr _ ?_)) (fun h3 => j2 hr _ ?_)) (fun h1 => j2 hr _ ?_))
      · obtain ⟨x, hx⟩ := List.length_eq_one_iff.1 (by omega : (flds cs 1).length = 1)
        rw [hx, show rd [x] 0 = x from rfl]
        simp [h1]
      · constructor
        · intro h4; cases h4
        · intro h4; rw [h4.2] at h3; exact absurd rfl h3
      · constructor
        · intro h4; cases h4
        · intro h4; exact absurd h4.1 h1
  refine Evp.step (f := fun k => _) (fun k => by rw [impl_ClassesOk.j0, show (0 : Int) = ((0 : Nat) : Int) from rfl, rdSup, rdFlds]) (Evp.no (by decide) (Evp.yes (by omega) ?_))
  refine Evp.ite (fun h1 => j1 _ ?_) (fun h1 => j1 _ ?_)
  · constructor
    · intro h3
      have : (flds cs 0).length = 0 := by simpa using h3
      exact ⟨h1, List.eq_nil_of_length_eq_zero this⟩
    · intro h3; rw [h3.2]; rfl
  · constructor
    · intro h3; cases h3
    · intro h3; exact absurd h3.1 h1
end Go.Proofs.Ytgmjolngnhdafaa.Kit

end
section
namespace Go.Proofs.Ytgmjolngnhdafaa.P
open Go.RowKit Go.Proofs.YtgmjolngnhdafaaW.PrintWords Go.Proofs.YtgmjolngnhdafaaW.PrintLast Go.Proofs.YtgmjolngnhdafaaW.PrintMore
attribute [local go_sem] max2_int min2_int max_two min_two max_three min_three max_four min_four
set_option linter.unusedVariables false
set_option linter.unusedSimpArgs false

/-! ### spec_TypeOk: function 25 -/
def spec_TypeOk.f (k : Nat) (l0 : List (S38)) (a1 : Int) : Option (Bool) := (spec_ClassesOk.f k l0).bind fun t164 => (if t164 = true then (if a1 = 0 then (some true) else (if a1 = 2 then (some true) else ((spec_l2Field.f l0 a1).bind fun t165 => (some t165)))) else (some false))
theorem spec_TypeOk.mono : ∀ a0 a1 k, LeO (spec_TypeOk.f k a0 a1) (spec_TypeOk.f (k + 1) a0 a1) := by
  intro a0 a1 k
  unfold spec_TypeOk.f
  repeat' first
      | (with_reducible exact spec_ClassesOk.mono _ _)
      | (with_reducible exact LeO.refl _)
      | (with_reducible exact LeO.none _)
      | (with_reducible refine LeO.ite ?_ ?_)
      | (with_reducible refine LeO.bind ?_ (fun _ => ?_))
      | exact spec_ClassesOk.mono _ _
      | exact LeO.none _
      | refine LeO.ite ?_ ?_
      | refine LeO.bind ?_ (fun _ => ?_)

end Go.Proofs.Ytgmjolngnhdafaa.P

end
section
namespace Go.Proofs.Ytgmjolngnhdafaa.P
open Go.RowKit Go.Proofs.YtgmjolngnhdafaaW.PrintWords Go.Proofs.YtgmjolngnhdafaaW.PrintLast Go.Proofs.YtgmjolngnhdafaaW.PrintMore
attribute [local go_sem] max2_int min2_int max_two min_two max_three min_three max_four min_four
set_option linter.unusedVariables false
set_option linter.unusedSimpArgs false

/-! ### spec_l2Ref: function 90 -/
def spec_l2Ref.f (a0 : Int) : Option (Bool) := some (decide (a0 ≥ 2))

end Go.Proofs.Ytgmjolngnhdafaa.P

end
section
namespace Go.Proofs.Ytgmjolngnhdafaa.P
open Go.RowKit Go.Proofs.YtgmjolngnhdafaaW.PrintWords Go.Proofs.YtgmjolngnhdafaaW.PrintLast Go.Proofs.YtgmjolngnhdafaaW.PrintMore
attribute [local go_sem] max2_int min2_int max_two min_two max_three min_three max_four min_four
set_option linter.unusedVariables false
set_option linter.unusedSimpArgs false

/-! ### spec_l2In: function 73 -/
mutual
def spec_l2In.j0 : Nat → List (S38) → Int → Int → Bool → Option (Bool)
  | 0, _, _, _, _ => none
  | k + 1, x0, x1, x2, x13 => if x13 = true then (some true) else (if x1 = 2 then ((spec_l2Ref.f x2).bind fun t397 => (some t397)) else ((spec_l2Ref.f x1).bind fun t398 => (if t398 = true then (spec_l2In.j1 k x0 x1 x2 (decide (x2 < 8))) else (spec_l2In.j1 k x0 x1 x2 true))))
def spec_l2In.j1 : Nat → List (S38) → Int → Int → Bool → Option (Bool)
  | 0, _, _, _, _ => none
  | k + 1, x0, x1, x2, x24 => if x24 = true then (some false) else (if x1 < 8 then (some (x2 == 8)) else ((spec_l2Up.f k x0 (wrap64 (x1 - 8)) (wrap64 (x2 - 8))).bind fun t399 => (some t399)))
end
def spec_l2In.f (k : Nat) (l0 : List (S38)) (a1 : Int) (a2 : Int) : Option (Bool) := if a1 = a2 then (spec_l2In.j0 k l0 a1 a2 true) else (spec_l2In.j0 k l0 a1 a2 (a2 == 0))
theorem spec_l2In.mono_l : ∀ k, (∀ y0 y1 y2 y3, LeO (spec_l2In.j0 k y0 y1 y2 y3) (spec_l2In.j0 (k + 1) y0 y1 y2 y3)) ∧ (∀ y0 y1 y2 y3, LeO (spec_l2In.j1 k y0 y1 y2 y3) (spec_l2In.j1 (k + 1) y0 y1 y2 y3))
  | 0 => ⟨fun _ _ _ _ r h => by simp [spec_l2In.j0] at h, fun _ _ _ _ r h => by simp [spec_l2In.j1] at h⟩
  | k + 1 => by
    obtain ⟨ih0, ih1⟩ := spec_l2In.mono_l k
    refine ⟨?_, ?_⟩
    · intro y0 y1 y2 y3
      unfold spec_l2In.j0
      repeat' first
      | (with_reducible exact ih0 _ _ _ _)
      | (with_reducible exact ih1 _ _ _ _)
      | (with_reducible exact spec_l2Up.mono _ _ _ _)
      | (with_reducible exact LeO.refl _)
      | (with_reducible exact LeO.none _)
      | (with_reducible refine LeO.ite ?_ ?_)
      | (with_reducible refine LeO.bind ?_ (fun _ => ?_))
      | exact ih0 _ _ _ _
      | exact ih1 _ _ _ _
      | exact spec_l2Up.mono _ _ _ _
      | exact LeO.none _
      | refine LeO.ite ?_ ?_
      | refine LeO.bind ?_ (fun _ => ?_)
    · intro y0 y1 y2 y3
      unfold spec_l2In.j1
      repeat' first
      | (with_reducible exact ih0 _ _ _ _)
      | (with_reducible exact ih1 _ _ _ _)
      | (with_reducible exact spec_l2Up.mono _ _ _ _)
      | (with_reducible exact LeO.refl _)
      | (with_reducible exact LeO.none _)
      | (with_reducible refine LeO.ite ?_ ?_)
      | (with_reducible refine LeO.bind ?_ (fun _ => ?_))
      | exact ih0 _ _ _ _
      | exact ih1 _ _ _ _
      | exact spec_l2Up.mono _ _ _ _
      | exact LeO.none _
      | refine LeO.ite ?_ ?_
      | refine LeO.bind ?_ (fun _ => ?_)
theorem spec_l2In.mono : ∀ a0 a1 a2 k, LeO (spec_l2In.f k a0 a1 a2) (spec_l2In.f (k + 1) a0 a1 a2) := by
  intro a0 a1 a2 k
  obtain ⟨ih0, ih1⟩ := spec_l2In.mono_l k
  unfold spec_l2In.f
  repeat' first
      | (with_reducible exact ih0 _ _ _ _)
      | (with_reducible exact ih1 _ _ _ _)
      | (with_reducible exact spec_l2Up.mono _ _ _ _)
      | (with_reducible exact LeO.refl _)
      | (with_reducible exact LeO.none _)
      | (with_reducible refine LeO.ite ?_ ?_)
      | (with_reducible refine LeO.bind ?_ (fun _ => ?_))
      | exact ih0 _ _ _ _
      | exact ih1 _ _ _ _
      | exact spec_l2Up.mono _ _ _ _
      | exact LeO.none _
      | refine LeO.ite ?_ ?_
      | refine LeO.bind ?_ (fun _ => ?_)

end Go.Proofs.Ytgmjolngnhdafaa.P

end
section
namespace Go.Proofs.Ytgmjolngnhdafaa.P
open Go.RowKit Go.Proofs.YtgmjolngnhdafaaW.PrintWords Go.Proofs.YtgmjolngnhdafaaW.PrintLast Go.Proofs.YtgmjolngnhdafaaW.PrintMore
attribute [local go_sem] max2_int min2_int max_two min_two max_three min_three max_four min_four
set_option linter.unusedVariables false
set_option linter.unusedSimpArgs false

/-! ### spec_TypeIn: function 40 -/
def spec_TypeIn.f (k : Nat) (l0 : List (S38)) (a1 : Int) (a2 : Int) : Option (Bool) := (spec_TypeOk.f k l0 a1).bind fun t400 => (if t400 = true then ((spec_TypeOk.f k l0 a2).bind fun t401 => (if t401 = true then ((spec_l2In.f k l0 a1 a2).bind fun t402 => (some t402)) else (some false))) else (some false))
theorem spec_TypeIn.mono : ∀ a0 a1 a2 k, LeO (spec_TypeIn.f k a0 a1 a2) (spec_TypeIn.f (k + 1) a0 a1 a2) := by
  intro a0 a1 a2 k
  unfold spec_TypeIn.f
  repeat' first
      | (with_reducible exact spec_TypeOk.mono _ _ _)
      | (with_reducible exact spec_l2In.mono _ _ _ _)
      | (with_reducible exact LeO.refl _)
      | (with_reducible exact LeO.none _)
      | (with_reducible refine LeO.ite ?_ ?_)
      | (with_reducible refine LeO.bind ?_ (fun _ => ?_))
      | exact spec_TypeOk.mono _ _ _
      | exact spec_l2In.mono _ _ _ _
      | exact LeO.none _
      | refine LeO.ite ?_ ?_
      | refine LeO.bind ?_ (fun _ => ?_)

end Go.Proofs.Ytgmjolngnhdafaa.P

end
section
namespace Go.Proofs.Ytgmjolngnhdafaa.P
open Go.RowKit Go.Proofs.YtgmjolngnhdafaaW.PrintWords Go.Proofs.YtgmjolngnhdafaaW.PrintLast Go.Proofs.YtgmjolngnhdafaaW.PrintMore
attribute [local go_sem] max2_int min2_int max_two min_two max_three min_three max_four min_four
set_option linter.unusedVariables false
set_option linter.unusedSimpArgs false

/-! ### impl_TypeOk: function 26 -/
def impl_TypeOk.f (k : Nat) (l0 : List (S38)) (a1 : Int) : Option (Bool) := (impl_ClassesOk.f k l0).bind fun t166 => (if t166 = true then ((impl_kindOf.f (l0.length : Int) a1).bind fun t167 => (some (t167 != (-1)))) else (some false))
theorem impl_TypeOk.mono : ∀ a0 a1 k, LeO (impl_TypeOk.f k a0 a1) (impl_TypeOk.f (k + 1) a0 a1) := by
  intro a0 a1 k
  unfold impl_TypeOk.f
  repeat' first
      | (with_reducible exact impl_ClassesOk.mono _ _)
      | (with_reducible exact LeO.refl _)
      | (with_reducible exact LeO.none _)
      | (with_reducible refine LeO.ite ?_ ?_)
      | (with_reducible refine LeO.bind ?_ (fun _ => ?_))
      | exact impl_ClassesOk.mono _ _
      | exact LeO.none _
      | refine LeO.ite ?_ ?_
      | refine LeO.bind ?_ (fun _ => ?_)

end Go.Proofs.Ytgmjolngnhdafaa.P

end
