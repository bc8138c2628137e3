/- A part of the claim FnExactHeapGraph: texts of this session and texts that its program printed out of the translation, joined. -/
import Derived.Test.YteeakklnlcjgbaaCFnExactHeapGraph21
import Derived.OwnWalkIn
import Derived.Test.YteeakklnlcjgbaaCFnExactHeapGraph0
import Derived.Test.YteeakklnlcjgbaaCFnExactHeapGraph1
import Derived.Test.YteeakklnlcjgbaaCFnExactHeapGraph2
import Derived.Test.YteeakklnlcjgbaaCFnExactHeapGraph3
import Derived.Test.YteeakklnlcjgbaaCFnExactHeapGraph4
import Derived.Test.YteeakklnlcjgbaaCFnExactHeapGraph5
import Derived.Test.YteeakklnlcjgbaaCFnExactHeapGraph6
import Derived.Test.YteeakklnlcjgbaaCFnExactHeapGraph7
import Derived.Test.YteeakklnlcjgbaaCFnExactHeapGraph8
import Derived.Test.YteeakklnlcjgbaaCFnExactHeapGraph9
import Derived.Test.YteeakklnlcjgbaaCFnExactHeapGraph10
import Derived.Test.YteeakklnlcjgbaaCFnExactHeapGraph11
import Derived.Test.YteeakklnlcjgbaaCFnExactHeapGraph12
import Derived.Test.YteeakklnlcjgbaaCFnExactHeapGraph13
import Derived.Test.YteeakklnlcjgbaaCFnExactHeapGraph14
import Derived.Test.YteeakklnlcjgbaaCFnExactHeapGraph15
import Derived.Test.YteeakklnlcjgbaaCFnExactHeapGraph16
import Derived.Test.YteeakklnlcjgbaaCFnExactHeapGraph17
import Derived.Test.YteeakklnlcjgbaaCFnExactHeapGraph18
import Derived.Test.YteeakklnlcjgbaaCFnExactHeapGraph19
import Derived.Test.YteeakklnlcjgbaaCFnExactHeapGraph20
section

namespace Go.Proofs.Yteeakklnlcjgbaa.P
open Go Go.RowKit Go.Proofs.YteeakklnlcjgbaaW.PrintWords Go.Proofs.YteeakklnlcjgbaaW.PrintLast Go.Proofs.YteeakklnlcjgbaaW.PrintMore
attribute [local go_sem] max2_int min2_int max_two min_two max_three min_three max_four min_four
set_option linter.unusedVariables false
set_option linter.unusedSimpArgs false
def l12_come.T1 : Bool × List (List Nat × List Nat) := (true, [([], []), ([0], [0]), ([1], [1]), ([2], [2]), ([3, 2], [2, 3]), ([4, 2], [2, 4]), ([2, 5], [2, 5]), ([6, 2], [6]), ([7], [7]), ([8, 7], [7, 8]), ([9, 7], [7, 9]), ([10, 7], [7, 10]), ([7], [7]), ([12, 7], [7, 12]), ([13, 7], [7, 13]), ([11, 14, 7], [7, 11, 14]), ([15, 7], [7, 15]), ([16, 7], [7, 16]), ([7, 17], [7, 17])])
def l12_come.B1 : List Nat := [0, 1, 3, 7, 15, 31, 63, 127, 255, 511, 1023, 2047, 255, 4351, 12543, 32767, 65535, 131071, 262143]
theorem l12_come.tab1 : rtab .any (opsOf Try.f48 1) = l12_come.T1 := by kernel_rfl
theorem l12_come.bits1 : waitsOk l12_come.T1.2 l12_come.B1 = true := by kernel_rfl
def l12_come.T2 : Bool × List (List Nat × List Nat) := (true, [([], []), ([], []), ([1], [1]), ([2], [2]), ([3], [3]), ([], []), ([5], [5]), ([6], [6]), ([7], [7]), ([4, 8], [4, 8]), ([0, 0, 1, 2, 3, 4, 5, 6, 7, 8, 9], [0]), ([10, 0, 1, 2, 3, 4, 5, 6, 7, 8, 9], [10]), ([11, 9, 9, 0, 1, 2, 3, 4, 5, 6, 7, 8, 9], [9, 11])])
def l12_come.B2 : List Nat := [0, 0, 2, 6, 14, 0, 32, 96, 224, 510, 1023, 2047, 4095]
theorem l12_come.tab2 : rtab .any (opsOf Try.f48 2) = l12_come.T2 := by kernel_rfl
theorem l12_come.bits2 : waitsOk l12_come.T2.2 l12_come.B2 = true := by kernel_rfl
def l12_come.T3 : Bool × List (List Nat × List Nat) := (true, [([], []), ([0], [0]), ([1], [1]), ([2], [2]), ([], []), ([4], [4]), ([5], [5]), ([], []), ([7], [7]), ([8], [8]), ([9], [9]), ([10], [10]), ([3, 6, 0, 1, 2, 3, 4, 5, 6, 7, 8, 9, 10, 11], [3, 6]), ([12, 11, 0, 1, 2, 3, 4, 5, 6, 7, 8, 9, 10, 11], [11, 12])])
def l12_come.B3 : List Nat := [0, 1, 3, 7, 0, 16, 48, 0, 128, 384, 896, 1920, 4095, 8191]
theorem l12_come.tab3 : rtab .any (opsOf Try.f48 3) = l12_come.T3 := by kernel_rfl
theorem l12_come.bits3 : waitsOk l12_come.T3.2 l12_come.B3 = true := by kernel_rfl
theorem g_num_pos {o : List Int} {m : Int} (h : m ∈ o) : (g_num o m == 0) = false := by
  unfold g_num
  rw [if_pos h]
  have : ((o.idxOf m : Nat) : Int) + 1 ≠ 0 := by omega
  simpa using this
theorem g_num_none {o : List Int} {m : Int} (h : m ∉ o) : (g_num o m == 0) = true := by
  unfold g_num
  rw [if_neg h]
  rfl
theorem wpw_world {P : Program} {c : Code} {Q : Exit → Act → World → Prop} {a : Act} {w : World} (Pr : World → Prop) (h : Pr w) (k : ∀ w', Pr w' → c.wp P Q a w') : c.wp P Q a w := k w h
set_option maxHeartbeats 8000000 in
set_option maxRecDepth 100000 in
theorem l12_come.calls (w0 : World) (bw gn n : Nat) (hn : n + 1 < 8796093022208) (o r : List Int) (vo : Value) (w : World) (v : GVal) (hW : WS w0.heap.size bw gn n o o vo w) (hB : Below w0.heap.size w0 w) (h : g_step (n + 1) o v = some r) :
    Calls Try.prog 48 #[.pointer (some ⟨bw, 0, none⟩), .agg #[.bool v.f0, .int .i64 v.f1]] w fun e w' => (∃ u, e = .returned u) ∧ ∃ vo', WS w0.heap.size bw gn n r r vo' w' ∧ Below w0.heap.size w0 w' := by
  have HW := Aside0.mk hW
  have HB := Aside0.mk hB
  have HN := Aside0.mk hn
  obtain ⟨b, m⟩ := v
  have H := h
  clear h hW hB hn
  simp only [g_step] at H
  go_enter Try.func48, Try.ntmps48
  go_upto_region 1 with fail
  refine wpw_world (fun W => Aside0 (WS w0.heap.size bw gn n o o vo W ∧ Below w0.heap.size w0 W) ∧ W.heap[w.heap.size]? = some (.cells #[.bool b, .int .i64 m] 46 (0, 0))) ?_ ?_
  · exact ⟨⟨HW.out.alloc _, HB.out.alloc HB.out.size _⟩, blk_new _ _⟩
  obtain ⟨gv, hgv⟩ : ∃ g_, g_ = w.heap.size := ⟨_, rfl⟩
  rw [← hgv]
  clear HW HB hgv
  rintro w1 ⟨HG, hbk⟩
  have hv0 : w1.cell? ⟨gv, 0, none⟩ = some (.bool b) := (blk_cell hbk 0).trans rfl
  have hv1 : w1.cell? ⟨gv, 1, none⟩ = some (.int .i64 m) := (blk_cell hbk 1).trans rfl
  have hw0 : w1.cell? ⟨bw, 0, none⟩ = some (.slice (some ⟨gn, 0, none⟩) n n) := (blk_cell HG.out.1.b 0).trans rfl
  by_cases hb : b = true
  · subst hb
    rw [if_pos rfl] at H
    by_cases hm : m = 0
    · subst hm
      rw [if_pos rfl] at H
      obtain rfl := Option.some.inj H
      refine start_ (n := 19) (S := fun w' => w'.cell? ⟨gv, 0, none⟩ = some (.bool true) ∧ w'.cell? ⟨gv, 1, none⟩ = some (.int .i64 0) ∧ w'.cell? ⟨bw, 0, none⟩ = some (.slice (some ⟨gn, 0, none⟩) n n)) (ds := []) #[false, false, false, false, false, false, false, false, false, false, false, false, false, false, false, false, false, false, false] (by kernel_rfl) rfl rfl ⟨hv0, hv1, hw0⟩ (fun hHeld => ?_); refine with_tabW l12_come.tab1 l12_come.bits1 (fun HT_ HW_ => ?_)
      refine pu 0 4 #[true, false, false, false, false, false, false, false, false, false, false, false, false, false, false, false, false, false, false] HT_ rfl rfl ?_
      refine ta 1 5 #[true, true, false, false, false, false, false, false, false, false, false, false, false, false, false, false, false, false, false] HT_ HW_ hHeld rfl rfl ?_
      refine pu 2 6 #[true, true, true, false, false, false, false, false, false, false, false, false, false, false, false, false, false, false, false] HT_ rfl rfl ?_
      refine pu 3 7 #[true, true, true, true, false, false, false, false, false, false, false, false, false, false, false, false, false, false, false] HT_ rfl rfl ?_
      refine ta 4 8 #[true, true, true, true, true, false, false, false, false, false, false, false, false, false, false, false, false, false, false] HT_ HW_ hHeld rfl rfl ?_
      refine pu 5 9 #[true, true, true, true, true, true, false, false, false, false, false, false, false, false, false, false, false, false, false] HT_ rfl rfl ?_
      refine pu 6 10 #[true, true, true, true, true, true, true, false, false, false, false, false, false, false, false, false, false, false, false] HT_ rfl rfl ?_
      refine pu 7 11 #[true, true, true, true, true, true, true, true, false, false, false, false, false, false, false, false, false, false, false] HT_ rfl rfl ?_
      refine pv 8 12 #[true, true, true, true, true, true, true, true, true, false, false, false, false, false, false, false, false, false, false] HT_ rfl rfl ?_
      refine pv 9 13 #[true, true, true, true, true, true, true, true, true, true, false, false, false, false, false, false, false, false, false] HT_ rfl rfl ?_
      refine pv 10 14 #[true, true, true, true, true, true, true, true, true, true, true, false, false, false, false, false, false, false, false] HT_ rfl rfl ?_
      refine pv 11 15 #[true, true, true, true, true, true, true, true, true, true, true, true, false, false, false, false, false, false, false] HT_ rfl rfl ?_
      refine pv 12 16 #[true, true, true, true, true, true, true, true, true, true, true, true, true, false, false, false, false, false, false] HT_ rfl rfl ?_
      refine pv 13 17 #[true, true, true, true, true, true, true, true, true, true, true, true, true, true, false, false, false, false, false] HT_ rfl rfl ?_
      refine pv 14 18 #[true, true, true, true, true, true, true, true, true, true, true, true, true, true, true, false, false, false, false] HT_ rfl rfl ?_
      refine pv 15 19 #[true, true, true, true, true, true, true, true, true, true, true, true, true, true, true, true, false, false, false] HT_ rfl rfl ?_
      refine pv 16 20 #[true, true, true, true, true, true, true, true, true, true, true, true, true, true, true, true, true, false, false] HT_ rfl rfl ?_
      refine pv 17 21 #[true, true, true, true, true, true, true, true, true, true, true, true, true, true, true, true, true, true, false] HT_ rfl rfl ?_
      refine pu 18 22 #[true, true, true, true, true, true, true, true, true, true, true, true, true, true, true, true, true, true, true] HT_ rfl rfl ?_
      refine done_ (done_of HT_.out (by kernel_rfl)) ?_
      go_wp2
      go_end0
      exact ⟨⟨_, rfl⟩, ⟨vo, HG.out.1.drew⟩, HG.out.2.drew⟩
    · rw [if_neg hm] at H
      by_cases hr : 0 ≤ m ∧ m < ((n + 1 : Nat) : Int)
      · rw [if_pos hr] at H
        have hm0 : 0 < m := by omega
        have hm1 : m ≤ (n : Int) := by omega
        have hwm : wrap64 (m - 1) = m - 1 := by have := HN.out; unfold wrap64; omega
        have hs1 : w1.cell? ⟨gn, (wrap64 (m - 1)).toNat, none⟩ = some (.int .i64 (g_num o m)) := by rw [hwm]; exact (blk_cell HG.out.1.n _).trans (numL_get hm0 hm1)
        have q0 : (0 ≤ wrap64 (m - 1)) = True := eq_true (by rw [hwm]; omega)
        have q1 : (wrap64 (m - 1) < (n : Int)) = True := eq_true (by rw [hwm]; omega)
        have q2 : (0 < m) = True := eq_true hm0
        have HM0 := Aside0.mk hm0
        have HM1 := Aside0.mk hm1
        have HWM := Aside0.mk hwm
        clear hm hr hm0 hm1 hwm
        by_cases hmo : m ∈ o
        · rw [if_pos hmo] at H
          obtain rfl := Option.some.inj H
          have hz : (g_num o m == 0) = false := g_num_pos hmo
          refine start_ (n := 19) (S := fun w' => w'.cell? ⟨gv, 0, none⟩ = some (.bool true) ∧ w'.cell? ⟨gv, 1, none⟩ = some (.int .i64 m) ∧ w'.cell? ⟨bw, 0, none⟩ = some (.slice (some ⟨gn, 0, none⟩) n n) ∧ w'.cell? ⟨gn, (wrap64 (m - 1)).toNat, none⟩ = some (.int .i64 (g_num o m))) (ds := []) #[false, false, false, false, false, false, false, false, false, false, false, false, false, false, false, false, false, false, false] (by kernel_rfl) rfl rfl ⟨hv0, hv1, hw0, hs1⟩ (fun hHeld => ?_); refine with_tabW l12_come.tab1 l12_come.bits1 (fun HT_ HW_ => ?_)
          refine pu 0 4 #[true, false, false, false, false, false, false, false, false, false, false, false, false, false, false, false, false, false, false] HT_ rfl rfl ?_
          refine ta 1 5 #[true, true, false, false, false, false, false, false, false, false, false, false, false, false, false, false, false, false, false] HT_ HW_ hHeld rfl rfl ?_
          refine pu 2 6 #[true, true, true, false, false, false, false, false, false, false, false, false, false, false, false, false, false, false, false] HT_ rfl rfl ?_
          refine pu 3 7 #[true, true, true, true, false, false, false, false, false, false, false, false, false, false, false, false, false, false, false] HT_ rfl rfl ?_
          refine ta 4 8 #[true, true, true, true, true, false, false, false, false, false, false, false, false, false, false, false, false, false, false] HT_ HW_ hHeld rfl rfl ?_
          refine pu 5 9 #[true, true, true, true, true, true, false, false, false, false, false, false, false, false, false, false, false, false, false] HT_ rfl rfl ?_
          refine pu 6 10 #[true, true, true, true, true, true, true, false, false, false, false, false, false, false, false, false, false, false, false] HT_ rfl rfl ?_
          refine pu 7 11 #[true, true, true, true, true, true, true, true, false, false, false, false, false, false, false, false, false, false, false] HT_ rfl rfl ?_
          refine pu 8 12 #[true, true, true, true, true, true, true, true, true, false, false, false, false, false, false, false, false, false, false] HT_ rfl rfl ?_
          refine pu 9 13 #[true, true, true, true, true, true, true, true, true, true, false, false, false, false, false, false, false, false, false] HT_ rfl rfl ?_
          refine pu 10 14 #[true, true, true, true, true, true, true, true, true, true, true, false, false, false, false, false, false, false, false] HT_ rfl rfl ?_
          refine ta 11 15 #[true, true, true, true, true, true, true, true, true, true, true, true, false, false, false, false, false, false, false] HT_ HW_ hHeld rfl rfl ?_
          refine pu 12 16 #[true, true, true, true, true, true, true, true, true, true, true, true, true, false, false, false, false, false, false] HT_ rfl rfl ?_
          refine ta 13 17 #[true, true, true, true, true, true, true, true, true, true, true, true, true, true, false, false, false, false, false] HT_ HW_ hHeld rfl rfl ?_
          refine pu 14 18 #[true, true, true, true, true, true, true, true, true, true, true, true, true, true, true, false, false, false, false] HT_ rfl rfl ?_
          refine pu 15 19 #[true, true, true, true, true, true, true, true, true, true, true, true, true, true, true, true, false, false, false] HT_ rfl rfl ?_
          refine ta 16 20 #[true, true, true, true, true, true, true, true, true, true, true, true, true, true, true, true, true, false, false] HT_ HW_ hHeld rfl rfl ?_
          refine pu 17 21 #[true, true, true, true, true, true, true, true, true, true, true, true, true, true, true, true, true, true, false] HT_ rfl rfl ?_
          refine pu 18 22 #[true, true, true, true, true, true, true, true, true, true, true, true, true, true, true, true, true, true, true] HT_ rfl rfl ?_
          refine done_ (done_of HT_.out (by kernel_rfl)) ?_
          go_wp2
          go_end0
          exact ⟨⟨_, rfl⟩, ⟨vo, HG.out.1.drew⟩, HG.out.2.drew⟩
        · rw [if_neg hmo] at H
          by_cases hl : o.length < 8796093022208
          · rw [if_pos hl] at H
            obtain rfl := Option.some.inj H
            have hz : (g_num o m == 0) = true := g_num_none hmo
            have HMO := Aside0.mk hmo
            have HL := Aside0.mk hl
            clear hmo hl
            refine start_ (n := 19) (S := fun w' => w'.cell? ⟨gv, 0, none⟩ = some (.bool true) ∧ w'.cell? ⟨gv, 1, none⟩ = some (.int .i64 m) ∧ w'.cell? ⟨bw, 0, none⟩ = some (.slice (some ⟨gn, 0, none⟩) n n) ∧ w'.cell? ⟨gn, (wrap64 (m - 1)).toNat, none⟩ = some (.int .i64 (g_num o m))) (ds := []) #[false, false, false, false, false, false, false, false, false, false, false, false, false, false, false, false, false, false, false] (by kernel_rfl) rfl rfl ⟨hv0, hv1, hw0, hs1⟩ (fun hHeld => ?_); refine with_tabW l12_come.tab1 l12_come.bits1 (fun HT_ HW_ => ?_)
            refine pu 0 4 #[true, false, false, false, false, false, false, false, false, false, false, false, false, false, false, false, false, false, false] HT_ rfl rfl ?_
            refine ta 1 5 #[true, true, false, false, false, false, false, false, false, false, false, false, false, false, false, false, false, false, false] HT_ HW_ hHeld rfl rfl ?_
            refine pu 2 6 #[true, true, true, false, false, false, false, false, false, false, false, false, false, false, false, false, false, false, false] HT_ rfl rfl ?_
            refine pu 3 7 #[true, true, true, true, false, false, false, false, false, false, false, false, false, false, false, false, false, false, false] HT_ rfl rfl ?_
            refine ta 4 8 #[true, true, true, true, true, false, false, false, false, false, false, false, false, false, false, false, false, false, false] HT_ HW_ hHeld rfl rfl ?_
            refine pu 5 9 #[true, true, true, true, true, true, false, false, false, false, false, false, false, false, false, false, false, false, false] HT_ rfl rfl ?_
            refine pu 6 10 #[true, true, true, true, true, true, true, false, false, false, false, false, false, false, false, false, false, false, false] HT_ rfl rfl ?_
            refine pu 7 11 #[true, true, true, true, true, true, true, true, false, false, false, false, false, false, false, false, false, false, false] HT_ rfl rfl ?_
            refine pu 8 12 #[true, true, true, true, true, true, true, true, true, false, false, false, false, false, false, false, false, false, false] HT_ rfl rfl ?_
            refine pu 9 13 #[true, true, true, true, true, true, true, true, true, true, false, false, false, false, false, false, false, false, false] HT_ rfl rfl ?_
            refine pu 10 14 #[true, true, true, true, true, true, true, true, true, true, true, false, false, false, false, false, false, false, false] HT_ rfl rfl ?_
            refine ta 11 15 #[true, true, true, true, true, true, true, true, true, true, true, true, false, false, false, false, false, false, false] HT_ HW_ hHeld rfl rfl ?_
            refine pu 12 16 #[true, true, true, true, true, true, true, true, true, true, true, true, true, false, false, false, false, false, false] HT_ rfl rfl ?_
            refine ta 13 17 #[true, true, true, true, true, true, true, true, true, true, true, true, true, true, false, false, false, false, false] HT_ HW_ hHeld rfl rfl ?_
            refine pu 14 18 #[true, true, true, true, true, true, true, true, true, true, true, true, true, true, true, false, false, false, false] HT_ rfl rfl ?_
            refine pu 15 19 #[true, true, true, true, true, true, true, true, true, true, true, true, true, true, true, true, false, false, false] HT_ rfl rfl ?_
            refine ta 16 20 #[true, true, true, true, true, true, true, true, true, true, true, true, true, true, true, true, true, false, false] HT_ HW_ hHeld rfl rfl ?_
            refine pu 17 21 #[true, true, true, true, true, true, true, true, true, true, true, true, true, true, true, true, true, true, false] HT_ rfl rfl ?_
            refine pu 18 22 #[true, true, true, true, true, true, true, true, true, true, true, true, true, true, true, true, true, true, true] HT_ rfl rfl ?_
            refine done_ (done_of HT_.out (by kernel_rfl)) ?_
            go_upto_region 2 with fail
            refine wpw_world (fun W => Aside0 (WS w0.heap.size bw gn n o o vo W ∧ Below w0.heap.size w0 W ∧ W.heap[gv]? = some (.cells #[.bool true, .int .i64 m] 46 (0, 0)))) ?_ ?_
            · exact ⟨HG.out.1.drew, HG.out.2.drew, hbk⟩
            clear HG hbk hv0 hv1 hw0 hs1
            intro w2 HG2
            have hv1 : w2.cell? ⟨gv, 1, none⟩ = some (.int .i64 m) := (blk_cell HG2.out.2.2 1).trans rfl
            have ho1 : w2.cell? ⟨bw, 1, none⟩ = some vo := (blk_cell HG2.out.1.b 1).trans rfl
            have hof := blk_frozen HG2.out.1.b 1
            obtain ⟨i0, hi, hz0, hz1, hz2⟩ := info_parts info3
            refine start_ (n := 13) (S := fun w' => w'.cell? ⟨gv, 1, none⟩ = some (.int .i64 m) ∧ w'.cell? ⟨bw, 1, none⟩ = some vo) (ds := [12]) #[false, false, false, false, false, false, false, false, false, false, false, false, false] (by kernel_rfl) rfl rfl ⟨hv1, ho1⟩ (fun hHeld => ?_); refine with_tabW l12_come.tab2 l12_come.bits2 (fun HT_ HW_ => ?_)
            refine pu 0 23 #[true, false, false, false, false, false, false, false, false, false, false, false, false] HT_ rfl rfl ?_
            refine pu 1 24 #[true, true, false, false, false, false, false, false, false, false, false, false, false] HT_ rfl rfl ?_
            refine pu 2 25 #[true, true, true, false, false, false, false, false, false, false, false, false, false] HT_ rfl rfl ?_
            refine pu 3 26 #[true, true, true, true, false, false, false, false, false, false, false, false, false] HT_ rfl rfl ?_
            refine pu 5 28 #[true, true, true, true, false, true, false, false, false, false, false, false, false] HT_ rfl rfl ?_
            refine ta 4 27 #[true, true, true, true, true, true, false, false, false, false, false, false, false] HT_ HW_ hHeld rfl rfl ?_
            refine ta 6 29 #[true, true, true, true, true, true, true, false, false, false, false, false, false] HT_ HW_ hHeld rfl rfl ?_
            refine pu 7 30 #[true, true, true, true, true, true, true, true, false, false, false, false, false] HT_ rfl rfl ?_
            refine one_ (i := 8) (N := some 31) #[true, true, true, true, true, true, true, true, true, false, false, false, false] rfl rfl (one_of HT_.out (by kernel_rfl)) (by decide) (fun K hK => ?_)
            refine value_ (w1 := ?_) (v := ?_) (by rfl) rfl ?_ ?_
            rotate_left 2
            · go_simp
              constructor
              · rfl
              · rfl
            refine hK.out _ _ ⟨(blk_cell (blk_alloc HG2.out.2.2 _) 1).trans rfl, (blk_cell (blk_alloc HG2.out.1.b _) 1).trans rfl⟩ (fun hHeld => ?_)
            clear hK K
            refine no 31 ?_
            refine one_ (i := 9) (N := some 32) #[true, true, true, true, true, true, true, true, true, true, false, false, false] rfl rfl (one_of HT_.out (by kernel_rfl)) (by decide) (fun K hK => ?_)
            rw [if_pos (by rfl)]
            refine wp_append_lies _ (.tmp 27) (.tmp 31) 55 rfl w0.heap.size 3 i0 (.int .i64 0) 1 8 Try.underlying55 hi hz0 hz1 hz2 rfl (by decide) vo o.length (intV (o.map dec1)) rfl (HG2.out.1.drew.o.alloc _) ⟨w2.drew.heap.size, 0, none⟩ 1 1 [.int .i64 (wrap64 (m - 1))] rfl rfl (cell_one_new _ _ _) (by simp [Value.oneCell']) (by decide) (by have := HL.out; simp only [maxLen]; omega) (by have := HL.out; omega) (by have := HG2.out.2.1.drew.size; simp at this ⊢; omega) _ rfl ?_
            intro g' cap' w3 hown hgrow hat hlt
            have hat' : (Value.slice (some ⟨g', 0, none⟩) (o.length + 1) cap').ownBlock = vo.ownBlock ∨ (Value.slice (some ⟨g', 0, none⟩) (o.length + 1) cap').ownBlock = some (w2.drew.alloc (.cells #[.int .i64 (wrap64 (m - 1))] 3)).heap.size := by rcases hat with h_ | h_; exact .inl h_.symm; exact .inr (congrArg some h_)
            have HP := Aside0.mk (HG2.out.1.drew.push (m := m) hown rfl hgrow hat')
            have HB3 := Aside0.mk (HG2.out.2.1.drew.trans (((Below.refl w0.heap.size w2.drew).alloc HG2.out.2.1.drew.size _).grown hgrow (by have := HG2.out.2.1.drew.size; simp at this ⊢; omega) (fun b_ e_ => (own_lt HG2.out.1.o e_).2)))
            have hb3 := Aside0.mk (blk_grown (blk_alloc (blk_drew HG2.out.2.2) _) hgrow (fun e_ => own_ne HG2.out.1.o HG2.out.2.2 (fun _ => cells_ne (by decide)) e_.symm))
            refine hK.out _ _ ⟨(blk_cell hb3.out 1).trans rfl, (blk_cell HP.out.1 1).trans rfl⟩ (fun hHeld => ?_)
            clear hK K hown hgrow hat hat' hlt
            have hqf := blk_frozen HP.out.1 1
            refine no 32 ?_
            refine pu 10 33 #[true, true, true, true, true, true, true, true, true, true, true, false, false] HT_ rfl rfl ?_
            refine pu 11 34 #[true, true, true, true, true, true, true, true, true, true, true, true, false] HT_ rfl rfl ?_
            refine last_ (i := 12) (N := none) #[true, true, true, true, true, true, true, true, true, true, true, true, true] rfl rfl (one_of HT_.out (by kernel_rfl)) (by decide) (fun K hK => ?_)
            refine skip_ (w1 := ?_) (by rfl) rfl ?_ ?_
            rotate_left 1
            · go_simp
              rfl
            refine hK.out _ _ ?_
            clear hK K hHeld
            refine done_ (done_of HT_.out (by kernel_rfl)) ?_
            go_upto_region 3 with fail
            refine wpw_world (fun W => Aside0 (WS w0.heap.size bw gn n (o ++ [m]) o (.slice (some ⟨g', 0, none⟩) (o.length + 1) cap') W ∧ Below w0.heap.size w0 W ∧ W.heap[gv]? = some (.cells #[.bool true, .int .i64 m] 46 (0, 0)))) ?_ ?_
            · exact ⟨HP.out.2, HB3.out.setCell (p := ⟨bw, 1, none⟩) HG2.out.1.ge.1 _, blk_far hb3.out (ne_blk hb3.out HP.out.1 (cells_ne (by decide))) _⟩
            clear HP HB3 hb3 hqf HG2 hv1 ho1 hof
            intro w4 HG4
            have hv1 : w4.cell? ⟨gv, 1, none⟩ = some (.int .i64 m) := (blk_cell HG4.out.2.2 1).trans rfl
            have hw0 : w4.cell? ⟨bw, 0, none⟩ = some (.slice (some ⟨gn, 0, none⟩) n n) := (blk_cell HG4.out.1.b 0).trans rfl
            have hw1 : w4.cell? ⟨bw, 1, none⟩ = some (.slice (some ⟨g', 0, none⟩) (o.length + 1) cap') := (blk_cell HG4.out.1.b 1).trans rfl
            have hn0 : w4.cell? ⟨gn, (wrap64 (m - 1)).toNat, none⟩ = some (.int .i64 (g_num o m)) := by rw [HWM.out]; exact (blk_cell HG4.out.1.n _).trans (numL_get HM0.out HM1.out)
            have hnf := blk_frozen HG4.out.1.n (wrap64 (m - 1)).toNat
            refine start_ (n := 14) (S := fun w' => w'.cell? ⟨gv, 1, none⟩ = some (.int .i64 m) ∧ w'.cell? ⟨bw, 0, none⟩ = some (.slice (some ⟨gn, 0, none⟩) n n) ∧ w'.cell? ⟨bw, 1, none⟩ = some (.slice (some ⟨g', 0, none⟩) (o.length + 1) cap')) (ds := [13]) #[false, false, false, false, false, false, false, false, false, false, false, false, false, false] (by kernel_rfl) rfl rfl ⟨hv1, hw0, hw1⟩ (fun hHeld => ?_); refine with_tabW l12_come.tab3 l12_come.bits3 (fun HT_ HW_ => ?_)
            refine pu 0 35 #[true, false, false, false, false, false, false, false, false, false, false, false, false, false] HT_ rfl rfl ?_
            refine pu 1 36 #[true, true, false, false, false, false, false, false, false, false, false, false, false, false] HT_ rfl rfl ?_
            refine pu 2 37 #[true, true, true, false, false, false, false, false, false, false, false, false, false, false] HT_ rfl rfl ?_
            refine pu 4 39 #[true, true, true, false, true, false, false, false, false, false, false, false, false, false] HT_ rfl rfl ?_
            refine pu 7 42 #[true, true, true, false, true, false, false, true, false, false, false, false, false, false] HT_ rfl rfl ?_
            refine pu 8 43 #[true, true, true, false, true, false, false, true, true, false, false, false, false, false] HT_ rfl rfl ?_
            refine pu 9 44 #[true, true, true, false, true, false, false, true, true, true, false, false, false, false] HT_ rfl rfl ?_
            refine ta 3 38 #[true, true, true, true, true, false, false, true, true, true, false, false, false, false] HT_ HW_ hHeld rfl rfl ?_
            refine ta 5 40 #[true, true, true, true, true, true, false, true, true, true, false, false, false, false] HT_ HW_ hHeld rfl rfl ?_
            refine ta 10 45 #[true, true, true, true, true, true, false, true, true, true, true, false, false, false] HT_ HW_ hHeld rfl rfl ?_
            refine pu 6 41 #[true, true, true, true, true, true, true, true, true, true, true, false, false, false] HT_ rfl rfl ?_
            refine pu 11 46 #[true, true, true, true, true, true, true, true, true, true, true, true, false, false] HT_ rfl rfl ?_
            refine pu 12 47 #[true, true, true, true, true, true, true, true, true, true, true, true, true, false] HT_ rfl rfl ?_
            refine last_ (i := 13) (N := none) #[true, true, true, true, true, true, true, true, true, true, true, true, true, true] rfl rfl (one_of HT_.out (by kernel_rfl)) (by decide) (fun K hK => ?_)
            refine skip_ (w1 := ?_) (by rfl) rfl ?_ ?_
            rotate_left 1
            · go_simp
              rfl
            refine hK.out _ _ ?_
            clear hK K hHeld
            refine done_ (done_of HT_.out (by kernel_rfl)) ?_
            go_wp2
            go_end0
            have hk := HG4.out.1.drew.mark (u := (o.length : Int) + 1) HM0.out HMO.out rfl
            rw [← HWM.out] at hk
            exact ⟨⟨_, rfl⟩, ⟨_, hk⟩, HG4.out.2.1.drew.setCell (p := ⟨gn, (wrap64 (m - 1)).toNat, none⟩) HG4.out.1.ge.2 _⟩
          · rw [if_neg hl] at H
            exact absurd H (by simp)
      · rw [if_neg hr] at H
        exact absurd H (by simp)
  · obtain rfl := Bool.eq_false_iff.mpr hb
    rw [if_neg (by simp)] at H
    obtain rfl := Option.some.inj H
    refine start_ (n := 19) (S := fun w' => w'.cell? ⟨gv, 0, none⟩ = some (.bool false) ∧ w'.cell? ⟨gv, 1, none⟩ = some (.int .i64 m) ∧ w'.cell? ⟨bw, 0, none⟩ = some (.slice (some ⟨gn, 0, none⟩) n n)) (ds := []) #[false, false, false, false, false, false, false, false, false, false, false, false, false, false, false, false, false, false, false] (by kernel_rfl) rfl rfl ⟨hv0, hv1, hw0⟩ (fun hHeld => ?_); refine with_tabW l12_come.tab1 l12_come.bits1 (fun HT_ HW_ => ?_)
    refine pu 0 4 #[true, false, false, false, false, false, false, false, false, false, false, false, false, false, false, false, false, false, false] HT_ rfl rfl ?_
    refine ta 1 5 #[true, true, false, false, false, false, false, false, false, false, false, false, false, false, false, false, false, false, false] HT_ HW_ hHeld rfl rfl ?_
    refine pu 2 6 #[true, true, true, false, false, false, false, false, false, false, false, false, false, false, false, false, false, false, false] HT_ rfl rfl ?_
    refine pv 3 7 #[true, true, true, true, false, false, false, false, false, false, false, false, false, false, false, false, false, false, false] HT_ rfl rfl ?_
    refine pv 4 8 #[true, true, true, true, true, false, false, false, false, false, false, false, false, false, false, false, false, false, false] HT_ rfl rfl ?_
    refine pv 5 9 #[true, true, true, true, true, true, false, false, false, false, false, false, false, false, false, false, false, false, false] HT_ rfl rfl ?_
    refine pu 6 10 #[true, true, true, true, true, true, true, false, false, false, false, false, false, false, false, false, false, false, false] HT_ rfl rfl ?_
    refine pu 7 11 #[true, true, true, true, true, true, true, true, false, false, false, false, false, false, false, false, false, false, false] HT_ rfl rfl ?_
    refine pv 8 12 #[true, true, true, true, true, true, true, true, true, false, false, false, false, false, false, false, false, false, false] HT_ rfl rfl ?_
    refine pv 9 13 #[true, true, true, true, true, true, true, true, true, true, false, false, false, false, false, false, false, false, false] HT_ rfl rfl ?_
    refine pv 10 14 #[true, true, true, true, true, true, true, true, true, true, true, false, false, false, false, false, false, false, false] HT_ rfl rfl ?_
    refine pv 11 15 #[true, true, true, true, true, true, true, true, true, true, true, true, false, false, false, false, false, false, false] HT_ rfl rfl ?_
    refine pv 12 16 #[true, true, true, true, true, true, true, true, true, true, true, true, true, false, false, false, false, false, false] HT_ rfl rfl ?_
    refine pv 13 17 #[true, true, true, true, true, true, true, true, true, true, true, true, true, true, false, false, false, false, false] HT_ rfl rfl ?_
    refine pv 14 18 #[true, true, true, true, true, true, true, true, true, true, true, true, true, true, true, false, false, false, false] HT_ rfl rfl ?_
    refine pv 15 19 #[true, true, true, true, true, true, true, true, true, true, true, true, true, true, true, true, false, false, false] HT_ rfl rfl ?_
    refine pv 16 20 #[true, true, true, true, true, true, true, true, true, true, true, true, true, true, true, true, true, false, false] HT_ rfl rfl ?_
    refine pv 17 21 #[true, true, true, true, true, true, true, true, true, true, true, true, true, true, true, true, true, true, false] HT_ rfl rfl ?_
    refine pu 18 22 #[true, true, true, true, true, true, true, true, true, true, true, true, true, true, true, true, true, true, true] HT_ rfl rfl ?_
    refine done_ (done_of HT_.out (by kernel_rfl)) ?_
    go_wp2
    go_end0
    exact ⟨⟨_, rfl⟩, ⟨vo, HG.out.1.drew⟩, HG.out.2.drew⟩
end Go.Proofs.Yteeakklnlcjgbaa.P

end
section

namespace Go.Proofs.Yteeakklnlcjgbaa.P
open Go Go.RowKit Go.Proofs.YteeakklnlcjgbaaW.PrintWords Go.Proofs.YteeakklnlcjgbaaW.PrintLast Go.Proofs.YteeakklnlcjgbaaW.PrintMore
attribute [local go_sem] max2_int min2_int max_two min_two max_three min_three max_four min_four
set_option linter.unusedVariables false
set_option linter.unusedSimpArgs false
def l12_all.T7 : Bool × List (List Nat × List Nat) := (true, [([], []), ([0], [0]), ([1], [1]), ([2], [2]), ([], []), ([4], [4]), ([5], [5]), ([3, 6], [3, 6]), ([7], [7]), ([0, 1, 2, 3, 4, 5, 6, 7, 8], []), ([9, 8, 0, 1, 2, 3, 4, 5, 6, 7, 8], [8, 9])])
def l12_all.B7 : List Nat := [0, 1, 3, 7, 0, 16, 48, 127, 255, 511, 1023]
theorem l12_all.tab7 : rtab .any (opsOf Try.f49 7) = l12_all.T7 := by kernel_rfl
theorem l12_all.bits7 : waitsOk l12_all.T7.2 l12_all.B7 = true := by kernel_rfl
theorem addr_add0 (g k : Nat) : (⟨g, 0, none⟩ : Addr).add k = ⟨g, k, none⟩ := by cases k <;> simp [Addr.add]
def l12_mv (nl : List Int) (v : GVal) : Option GVal :=
  if v.f0 = true then (if 0 < v.f1 then (if 0 ≤ wrap64 (v.f1 - 1) ∧ wrap64 (v.f1 - 1) < (nl.length : Int) then some ⟨true, rd nl (wrap64 (v.f1 - 1))⟩ else none) else some v) else some v
def l12_all.l0 : Nat → List Int → List GVal → Int → List GVal → Option (List GVal)
  | 0, _, _, _, _ => none
  | k + 1, nl, vs, i, g => if i < (vs.length : Int) then (if 0 ≤ i then ((l12_mv nl (rd_T46 vs i)).bind fun u => (if g.length < 8796093022208 then l12_all.l0 k nl vs (wrap64 (i + 1)) (g ++ [u]) else none)) else none) else some g
def l12_all.f (k : Nat) (nl : List Int) (vs : List GVal) : Option (List GVal) := l12_all.l0 k nl vs 0 []
set_option maxHeartbeats 8000000 in
set_option maxRecDepth 100000 in
theorem l12_all.calls (k : Nat) (bw gn : Nat) (nl : List Int) (vo : Value) (A0 : Option Addr) (c0 : Nat) (l0 : List GVal) (r : List GVal) (w : World) (hb : w.heap[bw]? = some (.cells #[.slice (some ⟨gn, 0, none⟩) nl.length nl.length, vo] 76 (0, 0)))
    (hn : Kd.C (Kd.int .i64) w (some ⟨gn, 0, none⟩) nl.length nl) (hr0 : Kd.C k46 w A0 l0.length l0) (hc0 : l0.length ≤ c0) (h : l12_all.f k nl l0 = some r) :
    Calls Try.prog 49 #[.pointer (some ⟨bw, 0, none⟩), .slice A0 l0.length c0] w fun e w' => ∃ v0_ : Value, e = .returned (v0_) ∧ Kd.R k46 46 w' w.heap.size (fun _ => True) v0_ r ∧ Below w.heap.size w w' := by
  have HBW := Aside0.mk hb
  have HNL := Aside0.mk hn
  have HR0 := Aside0.mk hr0
  have HC0 := Aside0.mk hc0
  have HB := Aside0.mk (Below.refl w.heap.size w)
  have H' := Aside0.mk (show l12_all.l0 k nl l0 0 [] = some r from h)
  clear hb hn hr0 hc0 h
  go_enter Try.func49, Try.ntmps49
  go_wp2_with (first | ((with_reducible refine gate_dst (N := 8) rfl ?_); refine Kd.R_lit k46 _ 46 ?hg (N := 8) ?hd (xs := ([] : List GVal)) (inner := []) (ok := fun _ => True) (okp := fun _ => True) ?hr ?hp (fun _ hk => hk) trivial (Below.refl _ _) (Nat.le_refl _) (by simp) ?_; (case hd => rfl); (case hg => rfl); (case hr => first | (go_simp; done) | (go_simp; rfl)); (case hp => exact (Reps.none _ _)); intro v360 w4 ho5 hb hg_ hnew_; clear hg_ hnew_; have n0_ := Aside0.mk (Kd.R_lower ho5 (below_size HB.out)); have n1_ := Aside0.mk (below_step HB.out hb); clear HB; have HO := n0_; have HB := n1_; clear n0_ n1_; clear hb ho5))
  go_loopg [5, 6] k (fun kq v5 v6 w' => ∃ (g : List GVal) (i : Int), v6 = .int .i64 i ∧ Aside0 (l12_all.l0 kq nl l0 i g = some r) ∧ Aside0 (kq ≤ k) ∧ Aside0 (Kd.R k46 46 w' w.heap.size (fun _ => True) v5 g) ∧ Aside0 (Below w.heap.size w w'))
  case atStart => exact ⟨[], 0, rfl, H', ⟨Nat.le_refl _⟩, HO, HB⟩
  case round =>
    clear H' HO HB
    obtain ⟨g, i, rfl, HA, HK1, HO, HB⟩ := hrel
    cases gk with
    | zero => exact absurd HA.out (by simp [l12_all.l0])
    | succ k1 =>
      have H := HA.out
      clear HA
      rw [l12_all.l0] at H
      by_cases c3 : i < (l0.length : Int)
      · rw [if_pos c3] at H
        have c3b0 : decide (i < (l0.length : Int)) = true := decide_eq_true c3
        by_cases c4 : 0 ≤ i
        · rw [if_pos c4] at H
          have c4b0 : decide (0 ≤ i) = true := decide_eq_true c4
          replace H := Option.bind_eq_some_iff.mp H
          obtain ⟨u, HS, H⟩ := H
          by_cases hl : g.length < 8796093022208
          · rw [if_pos hl] at H
            have H' := Aside0.mk H
            have HL := Aside0.mk hl
            clear H hl
            obtain ⟨ad, e, hx0, hx1⟩ := at_T46 HR0.out i c4 c3
            cases e
            obtain ⟨y, hy⟩ : ∃ y_, y_ = rd_T46 l0 i := ⟨_, rfl⟩
            rw [← hy] at hx0 hx1 HS
            obtain ⟨b, m⟩ := y
            dsimp only at hx0 hx1
            simp only [l12_mv] at HS
            clear hy
            replace hx0 := (HB.out.cell (World.block_lt_of_cell? w _ hx0)).trans hx0
            replace hx1 := (HB.out.cell (World.block_lt_of_cell? w _ hx1)).trans hx1
            replace c3 := eq_true c3
            replace c4 := eq_true c4
            by_cases hb : b = true
            · subst hb
              rw [if_pos rfl] at HS
              go_upto_region 6 with fail
              refine wpw_world (fun W => Aside0 (Below wr.heap.size wr W ∧ W.heap[wr.heap.size]? = some (.cells #[.bool true, .int .i64 m] 46 (0, 0)))) ?_ ?_
              · exact ⟨by repeat (first | exact Below.refl _ _ | apply below_alloc | refine below_set ?_ (Nat.le_refl _)), blk_new _ _⟩
              clear hx0 hx1
              intro w1 HG
              have hv0 : w1.cell? ⟨wr.heap.size, 0, none⟩ = some (.bool true) := (blk_cell HG.out.2 0).trans rfl
              have hv1 : w1.cell? ⟨wr.heap.size, 1, none⟩ = some (.int .i64 m) := (blk_cell HG.out.2 1).trans rfl
              by_cases hm : 0 < m
              · rw [if_pos hm] at HS
                by_cases hr : 0 ≤ wrap64 (m - 1) ∧ wrap64 (m - 1) < (nl.length : Int)
                · rw [if_pos hr] at HS
                  obtain rfl := Option.some.inj HS
                  clear HS
                  obtain ⟨q0, q1⟩ := hr
                  obtain ⟨adn, en, hn0⟩ := Kd.at_int HNL.out (wrap64 (m - 1)) q0 q1
                  cases en
                  have hlt := HB.out.size
                  replace hn0 := (HG.out.1.cell (World.block_lt_of_cell? wr _ ((HB.out.cell (World.block_lt_of_cell? w _ hn0)).trans hn0))).trans ((HB.out.cell (World.block_lt_of_cell? w _ hn0)).trans hn0)
                  have hw0 : w1.cell? ⟨bw, 0, none⟩ = some (.slice (some ⟨gn, 0, none⟩) nl.length nl.length) := (blk_cell (blk_below (blk_below HBW.out HB.out) HG.out.1) 0).trans rfl
                  clear hlt
                  replace q0 := eq_true q0
                  replace q1 := eq_true q1
                  have q2 : (0 < m) = True := eq_true hm
                  clear hm
                  have hf1 := blk_frozen HG.out.2 1
                  go_upto_region 7 with fail
                  refine start_ (n := 11) (S := fun w' => w'.cell? ⟨wr.heap.size, 1, none⟩ = some (.int .i64 m) ∧ w'.cell? ⟨bw, 0, none⟩ = some (.slice (some ⟨gn, 0, none⟩) nl.length nl.length) ∧ w'.cell? ⟨gn, (wrap64 (m - 1)).toNat, none⟩ = some (.int .i64 (rd nl (wrap64 (m - 1))))) (ds := [10]) #[false, false, false, false, false, false, false, false, false, false, false] (by kernel_rfl) rfl rfl ⟨hv1, hw0, (by rw [addr_add0] at hn0; exact hn0)⟩ (fun hHeld => ?_); refine with_tabW l12_all.tab7 l12_all.bits7 (fun HT_ HW_ => ?_)
                  refine pu 0 26 #[true, false, false, false, false, false, false, false, false, false, false] HT_ rfl rfl ?_
                  refine pu 1 27 #[true, true, false, false, false, false, false, false, false, false, false] HT_ rfl rfl ?_
                  refine pu 2 28 #[true, true, true, false, false, false, false, false, false, false, false] HT_ rfl rfl ?_
                  refine pu 4 30 #[true, true, true, false, true, false, false, false, false, false, false] HT_ rfl rfl ?_
                  refine ta 3 29 #[true, true, true, true, true, false, false, false, false, false, false] HT_ HW_ hHeld rfl rfl ?_
                  refine ta 5 31 #[true, true, true, true, true, true, false, false, false, false, false] HT_ HW_ hHeld rfl rfl ?_
                  refine pu 6 32 #[true, true, true, true, true, true, true, false, false, false, false] HT_ rfl rfl ?_
                  refine pu 7 33 #[true, true, true, true, true, true, true, true, false, false, false] HT_ rfl rfl ?_
                  refine ta 8 34 #[true, true, true, true, true, true, true, true, true, false, false] HT_ HW_ hHeld rfl rfl ?_
                  refine pu 9 35 #[true, true, true, true, true, true, true, true, true, true, false] HT_ rfl rfl ?_
                  refine last_ (i := 10) (N := none) #[true, true, true, true, true, true, true, true, true, true, true] rfl rfl (one_of HT_.out (by kernel_rfl)) (by decide) (fun K hK => ?_)
                  refine skip_ (w1 := ?_) (by rfl) rfl ?_ ?_
                  rotate_left 1
                  · go_simp
                    rfl
                  refine hK.out _ _ ?_
                  clear hK K hHeld
                  refine done_ (done_of HT_.out (by kernel_rfl)) ?_
                  go_upto_region 8 with fail
                  refine wpw_world (fun W => Aside0 (Kd.R k46 46 W w.heap.size (fun _ => True) u5 g ∧ Below w.heap.size w W) ∧ W.heap[wr.heap.size]? = some (.cells #[.bool true, .int .i64 (rd nl (wrap64 (m - 1)))] 46 (0, 0))) ?_ ?_
                  · refine ⟨⟨Kd.R_below HO.out ?_, below_step HB.out ?_⟩, blk_put (cs := #[.bool true, .int .i64 m]) (blk_drew HG.out.2) 1 _ rfl⟩
                    · repeat (first | exact HG.out.1 | apply below_drew1 | refine below_set ?_ (Nat.le_refl _))
                    · repeat (first | exact HG.out.1 | apply below_drew1 | refine below_set ?_ (Nat.le_refl _))
                  clear HO HB
                  rintro w6 ⟨HG6, hbk⟩
                  have hb0 : w6.cell? ⟨wr.heap.size, 0, none⟩ = some (.bool true) := (blk_cell hbk 0).trans rfl
                  have hb1 : w6.cell? ⟨wr.heap.size, 1, none⟩ = some (.int .i64 (rd nl (wrap64 (m - 1)))) := (blk_cell hbk 1).trans rfl
                  go_wp2_with (first | ((with_reducible refine gate_builtin (b := .append) (xs := #[.tmp 36, .tmp 38]) rfl ?_); at_builtin; refine Kd.R_append k46 (w0 := w) w.heap.size rfl (.tmp 36) (.tmp 38) 35 46 (.agg #[(.bool false), (.int .i64 0)]) 16 rfl Try.underlying35 info46 rfl (by decide) (by omega) u5 g (⟨true, rd nl (wrap64 (m - 1))⟩ : GVal) [.bool true, .int .i64 (rd nl (wrap64 (m - 1)))] (fun _ => True) (fun _ => False) rfl (by first | (go_simp; done) | (go_simp; rfl)) ?aP (fun _ hk => hk.elim) (fun _ _ => trivial) ?aO ?aB ?aS ?aL ?_; (case aP => exact k46_mkM _ _ _ (⟨true, rd nl (wrap64 (m - 1))⟩ : GVal)); (case aB => exact HG6.out.2); (case aO => exact Kd.R_mono HG6.out.1 (fun _ _ => trivial)); (case aS => exact HG6.out.2.size); (case aL => have := HL.out; omega); intro v12 w12 ho hb hg hat; have HO := Aside0.mk ho; have HB := Aside0.mk hb; clear ho hb hg hat hbk hb0 hb1 HG6))
                  go_roundg k1
                  case measure => have := HK1.out; omega
                  case rel => exact ⟨_, wrap64 (i + 1), rfl, H', ⟨by have := HK1.out; omega⟩, HO, HB⟩
                · rw [if_neg hr] at HS
                  exact absurd HS (by simp)
              · rw [if_neg hm] at HS
                obtain rfl := Option.some.inj HS
                clear HS
                have q2 : (0 < m) = False := eq_false hm
                clear hm
                go_upto_region 8 with fail
                refine wpw_world (fun W => Aside0 (Kd.R k46 46 W w.heap.size (fun _ => True) u5 g ∧ Below w.heap.size w W) ∧ W.heap[wr.heap.size]? = some (.cells #[.bool true, .int .i64 m] 46 (0, 0))) ?_ ?_
                · refine ⟨⟨Kd.R_below HO.out ?_, below_step HB.out ?_⟩, HG.out.2⟩
                  · repeat (first | exact HG.out.1 | apply below_drew1 | refine below_set ?_ (Nat.le_refl _))
                  · repeat (first | exact HG.out.1 | apply below_drew1 | refine below_set ?_ (Nat.le_refl _))
                clear HO HB
                rintro w6 ⟨HG6, hbk⟩
                have hb0 : w6.cell? ⟨wr.heap.size, 0, none⟩ = some (.bool true) := (blk_cell hbk 0).trans rfl
                have hb1 : w6.cell? ⟨wr.heap.size, 1, none⟩ = some (.int .i64 m) := (blk_cell hbk 1).trans rfl
                go_wp2_with (first | ((with_reducible refine gate_builtin (b := .append) (xs := #[.tmp 36, .tmp 38]) rfl ?_); at_builtin; refine Kd.R_append k46 (w0 := w) w.heap.size rfl (.tmp 36) (.tmp 38) 35 46 (.agg #[(.bool false), (.int .i64 0)]) 16 rfl Try.underlying35 info46 rfl (by decide) (by omega) u5 g (⟨true, m⟩ : GVal) [.bool true, .int .i64 m] (fun _ => True) (fun _ => False) rfl (by first | (go_simp; done) | (go_simp; rfl)) ?aP (fun _ hk => hk.elim) (fun _ _ => trivial) ?aO ?aB ?aS ?aL ?_; (case aP => exact k46_mkM _ _ _ (⟨true, m⟩ : GVal)); (case aB => exact HG6.out.2); (case aO => exact Kd.R_mono HG6.out.1 (fun _ _ => trivial)); (case aS => exact HG6.out.2.size); (case aL => have := HL.out; omega); intro v12 w12 ho hb hg hat; have HO := Aside0.mk ho; have HB := Aside0.mk hb; clear ho hb hg hat hbk hb0 hb1 HG6))
                go_roundg k1
                case measure => have := HK1.out; omega
                case rel => exact ⟨_, wrap64 (i + 1), rfl, H', ⟨by have := HK1.out; omega⟩, HO, HB⟩
            · obtain rfl := Bool.eq_false_iff.mpr hb
              rw [if_neg (by simp)] at HS
              obtain rfl := Option.some.inj HS
              clear HS hb
              go_upto_region 6 with fail
              refine wpw_world (fun W => Aside0 (Below wr.heap.size wr W ∧ W.heap[wr.heap.size]? = some (.cells #[.bool false, .int .i64 m] 46 (0, 0)))) ?_ ?_
              · exact ⟨by repeat (first | exact Below.refl _ _ | apply below_alloc | refine below_set ?_ (Nat.le_refl _)), blk_new _ _⟩
              clear hx0 hx1
              intro w1 HG
              have hv0 : w1.cell? ⟨wr.heap.size, 0, none⟩ = some (.bool false) := (blk_cell HG.out.2 0).trans rfl
              have hv1 : w1.cell? ⟨wr.heap.size, 1, none⟩ = some (.int .i64 m) := (blk_cell HG.out.2 1).trans rfl
              go_upto_region 8 with fail
              refine wpw_world (fun W => Aside0 (Kd.R k46 46 W w.heap.size (fun _ => True) u5 g ∧ Below w.heap.size w W) ∧ W.heap[wr.heap.size]? = some (.cells #[.bool false, .int .i64 m] 46 (0, 0))) ?_ ?_
              · refine ⟨⟨Kd.R_below HO.out ?_, below_step HB.out ?_⟩, HG.out.2⟩
                · repeat (first | exact HG.out.1 | apply below_drew1 | refine below_set ?_ (Nat.le_refl _))
                · repeat (first | exact HG.out.1 | apply below_drew1 | refine below_set ?_ (Nat.le_refl _))
              clear HO HB
              rintro w6 ⟨HG6, hbk⟩
              have hb0 : w6.cell? ⟨wr.heap.size, 0, none⟩ = some (.bool false) := (blk_cell hbk 0).trans rfl
              have hb1 : w6.cell? ⟨wr.heap.size, 1, none⟩ = some (.int .i64 m) := (blk_cell hbk 1).trans rfl
              go_wp2_with (first | ((with_reducible refine gate_builtin (b := .append) (xs := #[.tmp 36, .tmp 38]) rfl ?_); at_builtin; refine Kd.R_append k46 (w0 := w) w.heap.size rfl (.tmp 36) (.tmp 38) 35 46 (.agg #[(.bool false), (.int .i64 0)]) 16 rfl Try.underlying35 info46 rfl (by decide) (by omega) u5 g (⟨false, m⟩ : GVal) [.bool false, .int .i64 m] (fun _ => True) (fun _ => False) rfl (by first | (go_simp; done) | (go_simp; rfl)) ?aP (fun _ hk => hk.elim) (fun _ _ => trivial) ?aO ?aB ?aS ?aL ?_; (case aP => exact k46_mkM _ _ _ (⟨false, m⟩ : GVal)); (case aB => exact HG6.out.2); (case aO => exact Kd.R_mono HG6.out.1 (fun _ _ => trivial)); (case aS => exact HG6.out.2.size); (case aL => have := HL.out; omega); intro v12 w12 ho hb hg hat; have HO := Aside0.mk ho; have HB := Aside0.mk hb; clear ho hb hg hat hbk hb0 hb1 HG6))
              go_roundg k1
              case measure => have := HK1.out; omega
              case rel => exact ⟨_, wrap64 (i + 1), rfl, H', ⟨by have := HK1.out; omega⟩, HO, HB⟩
          · rw [if_neg hl] at H
            exact absurd H (by simp)
        · rw [if_neg c4] at H
          exact absurd H (by simp)
      · rw [if_neg c3] at H
        have c3b0 : decide (i < (l0.length : Int)) = false := decide_eq_false c3
        obtain rfl := Option.some.inj H
        clear c3
        go_wp2
        go_ret
        exact ⟨_, rfl, HO.out, HB.out⟩
end Go.Proofs.Yteeakklnlcjgbaa.P

end
section

namespace Go.Proofs.Yteeakklnlcjgbaa.P
open Go Go.RowKit Go.Proofs.YteeakklnlcjgbaaW.PrintWords Go.Proofs.YteeakklnlcjgbaaW.PrintLast Go.Proofs.YteeakklnlcjgbaaW.PrintMore
set_option linter.unusedVariables false
def l12_out : Nat → List GObj → List Int → List Int → Int → List GObj → Option (List GObj)
  | 0, _, _, _, _, _ => none
  | k + 1, objs, nl, o, i, g => if i < (o.length : Int) then (if 0 ≤ i ∧ 0 ≤ wrap64 (rd o i - 1) ∧ wrap64 (rd o i - 1) < (objs.length : Int) then ((l12_all.f k nl (rd_T48 objs (wrap64 (rd o i - 1))).f1).bind fun vs => (if g.length < 4398046511104 then l12_out k objs nl o (wrap64 (i + 1)) (g ++ [(⟨(rd_T48 objs (wrap64 (rd o i - 1))).f0, vs⟩ : GObj)]) else none)) else none) else some g
def spec_l12Graph.f (k : Nat) (l0 : List GObj) (l1 : List GVal) : Option (List GObj × List GVal) :=
  if l0.length + 1 < 8796093022208 then ((g_comes k (l0.length + 1) l1 0 []).bind fun o1 => ((g_walk k l0 0 o1).bind fun o => ((l12_out k l0 (g_numL l0.length o) o 0 []).bind fun g => ((l12_all.f k (g_numL l0.length o) l1).bind fun r => some (g, r))))) else none
end Go.Proofs.Yteeakklnlcjgbaa.P

end
section

namespace Go.Proofs.Yteeakklnlcjgbaa.P
open Go.RowKit Go.Proofs.YteeakklnlcjgbaaW.PrintWords Go.Proofs.YteeakklnlcjgbaaW.PrintLast Go.Proofs.YteeakklnlcjgbaaW.PrintMore
attribute [local go_sem] max2_int min2_int max_two min_two max_three min_three max_four min_four
set_option linter.unusedVariables false
set_option linter.unusedSimpArgs false
def spec_HeapGraph.f (k : Nat) (l0 : List (S48)) (l1 : List (S46)) : Option ((List (S48)) × (List (S46))) := (spec_HeapOk.f k l0 l1).bind fun t232 => (if t232 = true then ((spec_l12Graph.f k l0 l1).bind fun bt233 => (some (bt233.1, bt233.2))) else (some ((([] : List (S48))), (([] : List (S46))))))
end Go.Proofs.Yteeakklnlcjgbaa.P

end
section

namespace Go.Proofs.Yteeakklnlcjgbaa.P
open Go.RowKit Go.Proofs.YteeakklnlcjgbaaW.PrintWords Go.Proofs.YteeakklnlcjgbaaW.PrintLast Go.Proofs.YteeakklnlcjgbaaW.PrintMore
attribute [local go_sem] max2_int min2_int max_two min_two max_three min_three max_four min_four
set_option linter.unusedVariables false
set_option linter.unusedSimpArgs false
def laws_szValS.f (l0 : List (S62)) (a1 : Int) : Option (Int) := if (wrap64 (a1 - (l0.length : Int))) < 0 then (some (-1)) else (some (wrap64 (a1 - (l0.length : Int))))
end Go.Proofs.Yteeakklnlcjgbaa.P

end
section

namespace Go.Proofs.Yteeakklnlcjgbaa.P
open Go.RowKit Go.Proofs.YteeakklnlcjgbaaW.PrintWords Go.Proofs.YteeakklnlcjgbaaW.PrintLast Go.Proofs.YteeakklnlcjgbaaW.PrintMore
attribute [local go_sem] max2_int min2_int max_two min_two max_three min_three max_four min_four
set_option linter.unusedVariables false
set_option linter.unusedSimpArgs false
def laws_szObj.f (a0_0 : Int) (l0_1 : List (S62)) (a1 : Int) : Option (Int) := (laws_szValS.f l0_1 a1).bind fun t135 => (if t135 < 0 then (some (-1)) else (some t135))
end Go.Proofs.Yteeakklnlcjgbaa.P

end
section

namespace Go.Proofs.Yteeakklnlcjgbaa.P
open Go.RowKit Go.Proofs.YteeakklnlcjgbaaW.PrintWords Go.Proofs.YteeakklnlcjgbaaW.PrintLast Go.Proofs.YteeakklnlcjgbaaW.PrintMore
attribute [local go_sem] max2_int min2_int max_two min_two max_three min_three max_four min_four
set_option linter.unusedVariables false
set_option linter.unusedSimpArgs false
def laws_szObjS.l0 : Nat → List (S58) → Int → Int → Option (Int)
  | 0, _, _, _ => none
  | k + 1, x0, x1, x5 => if x5 < (x0.length : Int) then (if 0 ≤ x5 then ((laws_szObj.f ((rd_T58 x0 x5).f0) ((rd_T58 x0 x5).f1) x1).bind fun t137 => (if t137 < 0 then (some (-1)) else (laws_szObjS.l0 k x0 t137 (wrap64 (x5 + 1))))) else (none)) else (some x1)
def laws_szObjS.f (k : Nat) (l0 : List (S58)) (a1 : Int) : Option (Int) := if (wrap64 (a1 - (l0.length : Int))) < 0 then (some (-1)) else (laws_szObjS.l0 k l0 (wrap64 (a1 - (l0.length : Int))) 0)
end Go.Proofs.Yteeakklnlcjgbaa.P

end
section

namespace Go.Proofs.Yteeakklnlcjgbaa.P
open Go.RowKit Go.Proofs.YteeakklnlcjgbaaW.PrintWords Go.Proofs.YteeakklnlcjgbaaW.PrintLast Go.Proofs.YteeakklnlcjgbaaW.PrintMore
attribute [local go_sem] max2_int min2_int max_two min_two max_three min_three max_four min_four
set_option linter.unusedVariables false
set_option linter.unusedSimpArgs false
def laws_toVal.f (a0_0 : Bool) (a0_1 : Int) : Option (Bool × Int) := some (a0_0, a0_1)
end Go.Proofs.Yteeakklnlcjgbaa.P

end
section

namespace Go.Proofs.Yteeakklnlcjgbaa.P
open Go.RowKit Go.Proofs.YteeakklnlcjgbaaW.PrintWords Go.Proofs.YteeakklnlcjgbaaW.PrintLast Go.Proofs.YteeakklnlcjgbaaW.PrintMore
attribute [local go_sem] max2_int min2_int max_two min_two max_three min_three max_four min_four
set_option linter.unusedVariables false
set_option linter.unusedSimpArgs false
def laws_toValS.l0 : Nat → List (S62) → List (S46) → Int → Option ((List (S46)))
  | 0, _, _, _ => none
  | k + 1, x0, x3, x4 => if x4 < (x0.length : Int) then (if 0 ≤ x4 then ((laws_toVal.f ((rd_T62 x0 x4).f0) ((rd_T62 x0 x4).f1)).bind fun bt153 => (if x4 < (x3.length : Int) then (laws_toValS.l0 k x0 (x3.set (x4 : Int).toNat (⟨bt153.1, bt153.2⟩ : S46)) (wrap64 (x4 + 1))) else (none))) else (none)) else (some x3)
def laws_toValS.f (k : Nat) (l0 : List (S62)) : Option ((List (S46))) := if 0 ≤ (l0.length : Int) then (if ((l0.length : Int) : Int).toNat ≤ 17592186044416 then (laws_toValS.l0 k l0 (List.replicate ((l0.length : Int) : Int).toNat z46) 0) else (none)) else (none)
end Go.Proofs.Yteeakklnlcjgbaa.P

end
section

namespace Go.Proofs.Yteeakklnlcjgbaa.P
open Go.RowKit Go.Proofs.YteeakklnlcjgbaaW.PrintWords Go.Proofs.YteeakklnlcjgbaaW.PrintLast Go.Proofs.YteeakklnlcjgbaaW.PrintMore
attribute [local go_sem] max2_int min2_int max_two min_two max_three min_three max_four min_four
set_option linter.unusedVariables false
set_option linter.unusedSimpArgs false
def laws_toObj.f (k : Nat) (a0_0 : Int) (l0_1 : List (S62)) : Option (Int × (List (S46))) := (laws_toValS.f k l0_1).bind fun t159 => (some (a0_0, t159))
end Go.Proofs.Yteeakklnlcjgbaa.P

end
section

namespace Go.Proofs.Yteeakklnlcjgbaa.P
open Go.RowKit Go.Proofs.YteeakklnlcjgbaaW.PrintWords Go.Proofs.YteeakklnlcjgbaaW.PrintLast Go.Proofs.YteeakklnlcjgbaaW.PrintMore
attribute [local go_sem] max2_int min2_int max_two min_two max_three min_three max_four min_four
set_option linter.unusedVariables false
set_option linter.unusedSimpArgs false
def laws_toObjS.l0 : Nat → List (S58) → List (S48) → Int → Option ((List (S48)))
  | 0, _, _, _ => none
  | k + 1, x0, x3, x4 => if x4 < (x0.length : Int) then (if 0 ≤ x4 then ((laws_toObj.f k ((rd_T58 x0 x4).f0) ((rd_T58 x0 x4).f1)).bind fun bt166 => (if x4 < (x3.length : Int) then (laws_toObjS.l0 k x0 (x3.set (x4 : Int).toNat (⟨bt166.1, bt166.2⟩ : S48)) (wrap64 (x4 + 1))) else (none))) else (none)) else (some x3)
def laws_toObjS.f (k : Nat) (l0 : List (S58)) : Option ((List (S48))) := if 0 ≤ (l0.length : Int) then (if ((l0.length : Int) : Int).toNat ≤ 8796093022208 then (laws_toObjS.l0 k l0 (List.replicate ((l0.length : Int) : Int).toNat z48) 0) else (none)) else (none)
end Go.Proofs.Yteeakklnlcjgbaa.P

end
section

namespace Go.Proofs.Yteeakklnlcjgbaa.P
open Go.RowKit Go.Proofs.YteeakklnlcjgbaaW.PrintWords Go.Proofs.YteeakklnlcjgbaaW.PrintLast Go.Proofs.YteeakklnlcjgbaaW.PrintMore
attribute [local go_sem] max2_int min2_int max_two min_two max_three min_three max_four min_four
set_option linter.unusedVariables false
set_option linter.unusedSimpArgs false
def laws_eqVal.f (a0_0 : Bool) (a0_1 : Int) (a1_0 : Bool) (a1_1 : Int) : Option (Bool) := if (a0_0 != a1_0) = true then (some false) else (if a0_1 = a1_1 then (some true) else (some false))
end Go.Proofs.Yteeakklnlcjgbaa.P

end
section

namespace Go.Proofs.Yteeakklnlcjgbaa.P
open Go.RowKit Go.Proofs.YteeakklnlcjgbaaW.PrintWords Go.Proofs.YteeakklnlcjgbaaW.PrintLast Go.Proofs.YteeakklnlcjgbaaW.PrintMore
attribute [local go_sem] max2_int min2_int max_two min_two max_three min_three max_four min_four
set_option linter.unusedVariables false
set_option linter.unusedSimpArgs false
def laws_eqValS.l0 : Nat → List (S46) → List (S46) → Int → Option (Bool)
  | 0, _, _, _ => none
  | k + 1, x0, x1, x5 => if x5 < (x0.length : Int) then (if 0 ≤ x5 then (if x5 < (x1.length : Int) then ((laws_eqVal.f ((rd_T46 x0 x5).f0) ((rd_T46 x0 x5).f1) ((rd_T46 x1 x5).f0) ((rd_T46 x1 x5).f1)).bind fun t184 => (if t184 = true then (laws_eqValS.l0 k x0 x1 (wrap64 (x5 + 1))) else (some false))) else (none)) else (none)) else (some true)
def laws_eqValS.f (k : Nat) (l0 : List (S46)) (l1 : List (S46)) : Option (Bool) := if (l0.length : Int) = (l1.length : Int) then (laws_eqValS.l0 k l0 l1 0) else (some false)
end Go.Proofs.Yteeakklnlcjgbaa.P

end
section

namespace Go.Proofs.Yteeakklnlcjgbaa.P
open Go.RowKit Go.Proofs.YteeakklnlcjgbaaW.PrintWords Go.Proofs.YteeakklnlcjgbaaW.PrintLast Go.Proofs.YteeakklnlcjgbaaW.PrintMore
attribute [local go_sem] max2_int min2_int max_two min_two max_three min_three max_four min_four
set_option linter.unusedVariables false
set_option linter.unusedSimpArgs false
def laws_eqObj.f (k : Nat) (a0_0 : Int) (l0_1 : List (S46)) (a1_0 : Int) (l1_1 : List (S46)) : Option (Bool) := if a0_0 = a1_0 then ((laws_eqValS.f k l0_1 l1_1).bind fun t187 => (if t187 = true then (some true) else (some false))) else (some false)
end Go.Proofs.Yteeakklnlcjgbaa.P

end
section

namespace Go.Proofs.Yteeakklnlcjgbaa.P
open Go.RowKit Go.Proofs.YteeakklnlcjgbaaW.PrintWords Go.Proofs.YteeakklnlcjgbaaW.PrintLast Go.Proofs.YteeakklnlcjgbaaW.PrintMore
attribute [local go_sem] max2_int min2_int max_two min_two max_three min_three max_four min_four
set_option linter.unusedVariables false
set_option linter.unusedSimpArgs false
def laws_eqObjS.l0 : Nat → List (S48) → List (S48) → Int → Option (Bool)
  | 0, _, _, _ => none
  | k + 1, x0, x1, x5 => if x5 < (x0.length : Int) then (if 0 ≤ x5 then (if x5 < (x1.length : Int) then ((laws_eqObj.f k ((rd_T48 x0 x5).f0) ((rd_T48 x0 x5).f1) ((rd_T48 x1 x5).f0) ((rd_T48 x1 x5).f1)).bind fun t190 => (if t190 = true then (laws_eqObjS.l0 k x0 x1 (wrap64 (x5 + 1))) else (some false))) else (none)) else (none)) else (some true)
def laws_eqObjS.f (k : Nat) (l0 : List (S48)) (l1 : List (S48)) : Option (Bool) := if (l0.length : Int) = (l1.length : Int) then (laws_eqObjS.l0 k l0 l1 0) else (some false)
end Go.Proofs.Yteeakklnlcjgbaa.P

end
section

namespace Go.Proofs.Yteeakklnlcjgbaa.P
open Go.RowKit Go.Proofs.YteeakklnlcjgbaaW.PrintWords Go.Proofs.YteeakklnlcjgbaaW.PrintLast Go.Proofs.YteeakklnlcjgbaaW.PrintMore
attribute [local go_sem] max2_int min2_int max_two min_two max_three min_three max_four min_four
set_option linter.unusedVariables false
set_option linter.unusedSimpArgs false
def laws_heldValS.l0 : Nat → List (S46) → Int → Int → Option (Int)
  | 0, _, _, _ => none
  | k + 1, x0, x1, x5 => if x5 < (x0.length : Int) then (if 0 ≤ x5 then (if (((rd_T46 x0 x5).f0) != ((Int.tmod x1 3) == 0)) = true then (some (-1)) else (if ((rd_T46 x0 x5).f1) = (wrap64 (x1 + 1)) then (laws_heldValS.l0 k x0 (wrap64 ((wrap64 (x1 + 1)) + 1)) (wrap64 (x5 + 1))) else (some (-1)))) else (none)) else (some x1)
def laws_heldValS.f (k : Nat) (l0 : List (S46)) (a1 : Int) : Option (Int) := laws_heldValS.l0 k l0 a1 0
end Go.Proofs.Yteeakklnlcjgbaa.P

end
section

namespace Go.Proofs.Yteeakklnlcjgbaa.P
open Go.RowKit Go.Proofs.YteeakklnlcjgbaaW.PrintWords Go.Proofs.YteeakklnlcjgbaaW.PrintLast Go.Proofs.YteeakklnlcjgbaaW.PrintMore
attribute [local go_sem] max2_int min2_int max_two min_two max_three min_three max_four min_four
set_option linter.unusedVariables false
set_option linter.unusedSimpArgs false
def laws_heldObjS.l0 : Nat → List (S48) → Int → Int → Option (Int)
  | 0, _, _, _ => none
  | k + 1, x0, x1, x5 => if x5 < (x0.length : Int) then (if 0 ≤ x5 then (if ((rd_T48 x0 x5).f0) = x1 then ((laws_heldValS.f k ((rd_T48 x0 x5).f1) (wrap64 (x1 + 1))).bind fun t260 => (if t260 < 0 then (some (-1)) else (laws_heldObjS.l0 k x0 t260 (wrap64 (x5 + 1))))) else (some (-1))) else (none)) else (some x1)
def laws_heldObjS.f (k : Nat) (l0 : List (S48)) (a1 : Int) : Option (Int) := laws_heldObjS.l0 k l0 a1 0
end Go.Proofs.Yteeakklnlcjgbaa.P

end
section

namespace Go.Proofs.Yteeakklnlcjgbaa.P
open Go Go.RowKit Go.Proofs.YteeakklnlcjgbaaW.PrintWords Go.Proofs.YteeakklnlcjgbaaW.PrintLast Go.Proofs.YteeakklnlcjgbaaW.PrintMore
set_option linter.unusedVariables false
def laws_FnExactHeapGraph.g (k : Nat) (x : List GObj) (y : List GVal) (w : List GObj × List GVal) (g : List GObj × List GVal) : Option Bool :=
  if laws_eqObjS.f k g.1 w.1 = some true ∧ laws_eqValS.f k g.2 w.2 = some true ∧ laws_eqObjS.f k x x = some true ∧ laws_eqValS.f k y y = some true then
    ((laws_markObjS.f k x 1).bind fun k1 => ((laws_markValS.f k y k1.1).bind fun k2 => (if k2.1 < 0 then none else ((laws_markObjS.f k g.1 1).bind fun m1 => ((laws_markValS.f k g.2 m1.1).bind fun m2 => ((laws_heldObjS.f k m1.2 1).bind fun q1 => (if q1 < 0 then none else ((laws_heldValS.f k m2.2 q1).bind fun q2 => (if q2 < 0 ∨ q2 ≠ m2.1 then none else some true)))))))))
  else none
def laws_FnExactHeapGraph.f (k : Nat) (l0 : List S58) (l1 : List S62) : Option Bool :=
  (laws_szObjS.f k l0 1048576).bind fun a => (if a < 0 then some true else ((laws_szValS.f l1 a).bind fun b => (if b < 0 then some true else ((laws_toObjS.f k l0).bind fun x => ((laws_toValS.f k l1).bind fun y => ((spec_HeapGraph.f k x y).bind fun w => ((impl_HeapGraph.f k x y).bind fun g => laws_FnExactHeapGraph.g k x y w g)))))))
end Go.Proofs.Yteeakklnlcjgbaa.P

end
section

namespace Go.Proofs.Yteeakklnlcjgbaa.P
open Go Go.RowKit Go.Proofs.YteeakklnlcjgbaaW.PrintWords Go.Proofs.YteeakklnlcjgbaaW.PrintLast Go.Proofs.YteeakklnlcjgbaaW.PrintMore
attribute [local go_sem] max2_int min2_int max_two min_two max_three min_three max_four min_four
set_option linter.unusedVariables false
set_option linter.unusedSimpArgs false
structure GB (w0 : World) (a : GA) (oq oc : List Int) (vq vo : Value) (w : World) : Prop where
  i : GI w0.heap.size a oq oq vq w
  c : GC w0.heap.size a oc oc vo w
  x : GX vq vo
  b : Below w0.heap.size w0 w
def GRound (w0 : World) (a : GA) : Prop := ∀ (o : List Int) (m : Int) (vq vo : Value) (W : World), GB w0 a (o ++ [m]) o vq vo W → 0 ≤ m → m < (a.N : Int) → m ∉ o → o.length < 8796093022208 →
  YieldAt Fence.wide 0 Try.prog a.L #[.int .i64 m] W fun e W' => e = .returned (.bool true) ∧ ∃ vo', GB w0 a (o ++ [m]) (o ++ [m]) vq vo' W'
theorem wp_world {P : Program} {c : Code} {Q : Exit → Act → World → Prop} {a : Act} {w : World} (Pr : World → Prop) (h : Pr w) (k : ∀ w', Pr w' → c.wp P Q a w') : c.wp P Q a w := k w h
theorem GB.below {w0 : World} {a : GA} {oq oc : List Int} {vq vo : Value} {w w' : World} (h : GB w0 a oq oc vq vo w) (hb : Below w.heap.size w w') : GB w0 a oq oc vq vo w' := by
  have hg : w.grownBy w' none := ⟨hb.os, hb.tape, hb.output, hb.size, fun k hk _ => hb.block k hk⟩
  exact ⟨h.i.kept hg (fun r e => by cases e), h.c.kept hg (fun r e => by cases e), h.x, below_then h.b h.b.size hb⟩
set_option maxHeartbeats 8000000 in
set_option maxRecDepth 100000 in
theorem reach_come.calls (k : Nat) (w0 : World) (a : GA) (hR : GRound w0 a) (A0 : Option Addr) (c0 : Nat) (l0 : List GVal) (hr0 : Kd.C k46 w0 A0 l0.length l0) (hc0 : l0.length ≤ c0) (o r : List Int) (vq vo : Value) (w : World)
    (hG : GB w0 a o o vq vo w) (h : g_comes k a.N l0 0 o = some r) :
    Calls Try.prog 51 #[.slice A0 l0.length c0, .pointer (some ⟨a.bs, 0, none⟩), .pointer (some ⟨a.bq, 0, none⟩), .pointer (some ⟨a.bj, 0, none⟩)] w fun e w' => e = .returned (.bool true) ∧ ∃ vq' vo', GB w0 a r r vq' vo' w' := by
  have HR0 := Aside0.mk hr0
  have HC0 := Aside0.mk hc0
  clear hr0 hc0
  have HR := Aside0.mk hR
  have HG := Aside0.mk hG
  have H' := Aside0.mk h
  clear h hG hR
  go_enter Try.func51, Try.ntmps51
  go_wp2
  go_loopg [10] k (fun kq v10 w' => ∃ (x10 : Int) (o1 : List Int) (vq1 vo1 : Value), v10 = .int .i64 x10 ∧ Aside0 (g_comes kq a.N l0 x10 o1 = some r) ∧ Aside0 (kq ≤ k) ∧ Aside0 (GB w0 a o1 o1 vq1 vo1 w'))
  case atStart => exact ⟨0, o, vq, vo, rfl, H', ⟨Nat.le_refl _⟩, HG⟩
  case round =>
    clear H' HG
    obtain ⟨x10, o1, vq1, vo1, rfl, HA, HK1, HG⟩ := hrel
    cases gk with
    | zero => exact absurd HA.out (by simp [g_comes])
    | succ k1 =>
      have H := HA.out
      clear HA
      rw [g_comes] at H
      by_cases c3 : x10 < (l0.length : Int)
      · rw [if_pos c3] at H
        have c3b0 : decide (x10 < (l0.length : Int)) = true := decide_eq_true c3
        by_cases c4 : 0 ≤ x10
        · rw [if_pos c4] at H
          have c4b0 : decide (0 ≤ x10) = true := decide_eq_true c4
          replace H := Option.bind_eq_some_iff.mp H
          obtain ⟨o2, HS, H⟩ := H
          obtain ⟨ad, e, hx0, hx1⟩ := at_T46 HR0.out x10 c4 c3
          cases e
          replace hx0 := (HG.out.b.cell (World.block_lt_of_cell? w0 _ hx0)).trans hx0
          replace hx1 := (HG.out.b.cell (World.block_lt_of_cell? w0 _ hx1)).trans hx1
          replace c3 := eq_true c3
          replace c4 := eq_true c4
          obtain ⟨y, hy⟩ : ∃ y_, y_ = rd_T46 l0 x10 := ⟨_, rfl⟩
          rw [← hy] at hx0 hx1 HS
          obtain ⟨b, n⟩ := y
          dsimp only at hx0 hx1
          simp only [g_step] at HS
          clear hy
          have H' := Aside0.mk H
          clear H
          by_cases hb : b = true
          · subst hb
            rw [if_pos rfl] at HS
            go_upto_region 4 with fail
            refine wp_world (fun W => Aside0 (GB w0 a o1 o1 vq1 vo1 W) ∧ W.heap[wr.heap.size]? = some (.cells #[.bool true, .int .i64 n] 46 (0, 0))) ?_ ?_
            · refine ⟨⟨HG.out.below (by repeat (first | exact Below.refl _ _ | apply below_alloc | refine below_set ?_ (Nat.le_refl _)))⟩, ?_⟩
              exact blk_new _ _
            clear HG hx0 hx1
            rintro w1 ⟨HG, hbk⟩
            have hc0 := (blk_cell hbk 0).trans rfl
            have hc1 := (blk_cell hbk 1).trans rfl
            have hf0 := blk_frozen hbk 0
            have hf1 := blk_frozen hbk 1
            by_cases hn : n = 0
            · subst hn
              rw [if_pos rfl] at HS
              obtain rfl := Option.some.inj HS
              clear HS
              go_wp2
              go_roundg k1
              case measure => have := HK1.out; omega
              case rel => exact ⟨wrap64 (x10 + 1), o1, vq1, vo1, rfl, H', ⟨by have := HK1.out; omega⟩, HG⟩
            · rw [if_neg hn] at HS
              have hnb : decide (n = 0) = false := decide_eq_false hn
              by_cases hr : 0 ≤ n ∧ n < (a.N : Int)
              · rw [if_pos hr] at HS
                obtain ⟨hn0, hn1⟩ := hr
                have hs0 := (blk_cell HG.out.i.sB 0).trans rfl
                have hs1 := (blk_cell HG.out.i.s n.toNat).trans (show _ = some (Value.bool (decide (n ∈ o1))) by simp [boolV, g_seenL_get hn0 hn1])
                replace hn0 := eq_true hn0
                replace hn1 := eq_true hn1
                by_cases hm : n ∈ o1
                · rw [if_pos hm] at HS
                  obtain rfl := Option.some.inj HS
                  rw [decide_eq_true hm] at hs1
                  clear HS hm
                  go_wp2
                  go_roundg k1
                  case measure => have := HK1.out; omega
                  case rel => exact ⟨wrap64 (x10 + 1), o1, vq1, vo1, rfl, H', ⟨by have := HK1.out; omega⟩, HG⟩
                · rw [if_neg hm] at HS
                  rw [decide_eq_false hm] at hs1
                  by_cases hl : o1.length < 8796093022208
                  · rw [if_pos hl] at HS
                    obtain rfl := Option.some.inj HS
                    clear HS
                    have HM := Aside0.mk hm
                    have HL := Aside0.mk hl
                    clear hm hl
                    have hsf := blk_frozen HG.out.i.s n.toNat
                    go_upto_region 6 with fail
                    have HN := Aside0.mk (of_eq_true hn0)
                    refine wp_world (fun W => Aside0 (GI w0.heap.size a (o1 ++ [n]) o1 vq1 W ∧ GC w0.heap.size a o1 o1 vo1 W ∧ GX vq1 vo1 ∧ Below w0.heap.size w0 W) ∧ W.heap[wr.heap.size]? = some (.cells #[.bool true, .int .i64 n] 46 (0, 0))) ?_ ?_
                    · have h2 := HG.out.i.see HG.out.c HG.out.x HN.out
                      exact ⟨⟨h2.1, h2.2, HG.out.x, HG.out.b.setCell (p := ⟨a.gs, n.toNat, none⟩) HG.out.i.ge.1 _⟩, blk_far hbk (ne_blk hbk HG.out.i.s (cells_ne (by decide))) _⟩
                    clear HG hbk hc0 hc1 hf0 hf1 hs0 hs1 hsf
                    rintro w2 ⟨HG2, hbk⟩
                    have hc0 := (blk_cell hbk 0).trans rfl
                    have hc1 := (blk_cell hbk 1).trans rfl
                    have hq0 := (blk_cell HG2.out.1.qB 0).trans rfl
                    obtain ⟨i0, hi, hz0, hz1, hz2⟩ := info_parts info3
                    go_upto_region 7 with (first | ((with_reducible refine gate_builtin (b := .append) (xs := #[.tmp 33, .tmp 36]) rfl ?_); at_builtin; refine wpList_append_own_at (w := _) rfl (.tmp 33) (.tmp 36) 55 rfl w0.heap.size 3 i0 (.int .i64 0) 1 8 Try.underlying55 hi hz0 hz1 hz2 rfl (by decide) vq1 o1.length (intV o1) rfl (HG2.out.1.q.alloc _) ⟨w2.heap.size, 0, none⟩ 1 1 [.int .i64 n] rfl rfl (cell_one_new _ _ _) (by simp [Value.oneCell']) (by have := HL.out; simp only [maxLen]; omega) (by have := HL.out; omega) (by have := HG2.out.2.2.2.size; simp; omega) ?_; intro v' w3 hown hgrow _ hat; obtain ⟨g', cap', rfl⟩ := ownsRow_succ hown; have HP := Aside0.mk (HG2.out.1.push HG2.out.2.1 HG2.out.2.2.1 hown rfl hgrow hat); have HB3 := Aside0.mk (HG2.out.2.2.2.trans (((Below.refl w0.heap.size w2).alloc HG2.out.2.2.2.size _).grown hgrow (by have := HG2.out.2.2.2.size; simp; omega) (fun b e => (own_lt HG2.out.1.q e).2))); have hb3 := Aside0.mk (blk_grown (blk_alloc hbk _) hgrow (fun e => own_ne HG2.out.1.q hbk (fun _ => cells_ne (by decide)) e.symm)); clear hown hgrow hat hbk hc0 hc1; have hq1 := (blk_cell HP.out.1 0).trans rfl; have hqf := blk_frozen HP.out.1 0))
                    refine wp_world (fun W => Aside0 (GB w0 a (o1 ++ [n]) o1 (.slice (some ⟨g', 0, none⟩) (o1.length + 1) cap') vo1 W) ∧ W.heap[wr.heap.size]? = some (.cells #[.bool true, .int .i64 n] 46 (0, 0))) ?_ ?_
                    · exact ⟨⟨⟨HP.out.2.1, HP.out.2.2.1, HP.out.2.2.2, HB3.out.setCell (p := ⟨a.bq, 0, none⟩) HG2.out.1.ge.2 _⟩⟩, blk_far hb3.out (ne_blk hb3.out HP.out.1 (cells_ne (by decide))) _⟩
                    clear HP HB3 hb3 hq1 hqf HG2 hq0
                    rintro w4 ⟨HG4, hbk⟩
                    have hc1 := (blk_cell hbk 1).trans rfl
                    have hy0 := (blk_cell HG4.out.i.yB 0).trans rfl
                    obtain ⟨fn, tmps, assign, body, hy, hR⟩ := HR.out o1 n _ vo1 w4 HG4.out HN.out (of_eq_true hn1) HM.out HL.out
                    refine (wpIn_wide (n := 1)).1 ?_
                    gi_wp2
                    refine hR.mono ?_
                    clear hR hy HG4
                    rintro e W5 ⟨rfl, vo5, hG5⟩
                    have HG5 := Aside0.mk hG5
                    clear hG5 hbk hc1 hy0
                    gi_wp2
                    go_wp2
                    go_roundg k1
                    case measure => have := HK1.out; omega
                    case rel => exact ⟨wrap64 (x10 + 1), o1 ++ [n], _, vo5, rfl, H', ⟨by have := HK1.out; omega⟩, HG5⟩
                  · rw [if_neg hl] at HS
                    exact absurd HS (by simp)
              · rw [if_neg hr] at HS
                exact absurd HS (by simp)
          · obtain rfl := Bool.eq_false_iff.mpr hb
            rw [if_neg (by simp)] at HS
            obtain rfl := Option.some.inj HS
            clear HS hb
            go_wp2
            go_roundg k1
            case measure => have := HK1.out; omega
            case rel => exact ⟨wrap64 (x10 + 1), o1, vq1, vo1, rfl, H', ⟨by have := HK1.out; omega⟩, ⟨HG.out.below (by repeat (first | exact Below.refl _ _ | apply below_alloc | refine below_set ?_ (Nat.le_refl _)))⟩⟩
        · rw [if_neg c4] at H
          exact absurd H (by simp)
      · rw [if_neg c3] at H
        have c3b0 : decide (x10 < (l0.length : Int)) = false := decide_eq_false c3
        obtain rfl := Option.some.inj H
        clear c3
        go_wp2
        go_ret
        exact ⟨rfl, vq1, vo1, HG.out⟩
end Go.Proofs.Yteeakklnlcjgbaa.P

end
section

namespace Go.Proofs.Yteeakklnlcjgbaa.P
open Go Go.RowKit Go.Proofs.YteeakklnlcjgbaaW.PrintWords Go.Proofs.YteeakklnlcjgbaaW.PrintLast Go.Proofs.YteeakklnlcjgbaaW.PrintMore
attribute [local go_sem] max2_int min2_int max_two min_two max_three min_three max_four min_four
set_option linter.unusedVariables false
set_option linter.unusedSimpArgs false
theorem infoB : (Try.prog.info? 4).map (fun i => (i.zero, i.size, i.bytes)) = some (some (.bool false), 1, 1) := by kernel_rfl
theorem made_one (u : Value) (m : Nat) : madeCells #[u] m = (List.replicate m u).toArray := by
  apply Array.ext
  · simp [madeCells]
  · intro i h1 h2
    simp [madeCells, Nat.mod_one]
theorem made_bool (m : Nat) : madeCells #[.bool false] m = (boolV (g_seenL m [])).toArray := by
  rw [made_one, g_seenL_nil, boolV, List.map_replicate]
theorem made_int (m : Nat) : madeCells #[.int .i64 0] m = (intV (g_toL m [])).toArray := by
  rw [made_one, g_toL_nil, intV, List.map_replicate]
def reach_run.T8 : Bool × List (List Nat × List Nat) := (true, [([], []), ([], []), ([], []), ([], []), ([2, 3], [2, 3]), ([4], [4]), ([5], [5]), ([1, 6], [1, 6]), ([7], [7]), ([8], [8]), ([0, 9], [0, 9]), ([10], [10])])
def reach_run.B8 : List Nat := [0, 0, 0, 0, 12, 28, 60, 126, 254, 510, 1023, 2047]
theorem reach_run.tab8 : rtab .any (opsOf Try.f50 8) = reach_run.T8 := by kernel_rfl
theorem reach_run.bits8 : waitsOk reach_run.T8.2 reach_run.B8 = true := by kernel_rfl
theorem blk_new' {w : World} {o : Obj} {n : Nat} (h : n = w.heap.size) : (w.alloc o).heap[n]? = some o := by subst h; exact blk_new _ _
def GA.at (a : GA) (bs gs bq bj bb : Nat) (vb : Value) : GA := { a with bs := bs, gs := gs, bq := bq, bj := bj, bb := bb, vb := vb }
set_option maxHeartbeats 8000000 in
set_option maxRecDepth 100000 in
theorem reach_run.calls (k : Nat) (w0 : World) (a : GA) (hR : ∀ bs gs bq bj bb vb, GRound w0 (a.at bs gs bq bj bb vb)) (A0 : Option Addr) (c0 : Nat) (l0 : List GObj) (hr0 : Kd.C k48 w0 A0 l0.length l0) (hc0 : l0.length ≤ c0)
    (A1 : Option Addr) (c1 : Nat) (l1 : List GVal) (hr1 : Kd.C k46 w0 A1 l1.length l1) (hc1 : l1.length ≤ c1) (bb br : Nat) (hN : a.N = l0.length + 1) (hl : l0.length + 1 < 8796093022208) (o1 r : List Int) (vo : Value) (w : World)
    (hbb : w.heap[bb]? = some (.cells #[.slice A0 l0.length c0] 33 (0, 0))) (hbr : w.heap[br]? = some (.cells #[.slice A1 l1.length c1] 35 (0, 0)))
    (hC : GC w0.heap.size a [] [] vo w) (hB : Below w0.heap.size w0 w) (h1 : g_comes k (l0.length + 1) l1 0 [] = some o1) (h : g_walk k l0 0 o1 = some r) :
    Calls Try.prog 50 #[.func (.yield a.L) #[] #[], .pointer (some ⟨bb, 0, none⟩), .pointer (some ⟨br, 0, none⟩)] w fun e w' => (∃ v, e = .returned v) ∧ ∃ vo', GC w0.heap.size a r r vo' w' ∧ Below w0.heap.size w0 w' := by
  have HR0 := Aside0.mk hr0
  have HC0 := Aside0.mk hc0
  have HR1 := Aside0.mk hr1
  have HC1 := Aside0.mk hc1
  clear hr0 hc0 hr1 hc1
  have HR := Aside0.mk hR
  have HC := Aside0.mk hC
  have HB := Aside0.mk hB
  have H1 := Aside0.mk h1
  have H' := Aside0.mk h
  clear h h1 hC hB hR
  have HN := Aside0.mk hN
  have HL := Aside0.mk hl
  have hk0 := (blk_cell hbb 0).trans rfl
  have hk1 := (blk_cell hbr 0).trans rfl
  have hwr : wrap64 ((l0.length : Int) + 1) = (l0.length : Int) + 1 := by unfold wrap64; omega
  have hmk : ∀ W : World, (Instr.makeSlice 79 (.int .i64 ((l0.length : Int) + 1)) (.int .i64 ((l0.length : Int) + 1))).run Try.prog W = .ok (.slice (some ⟨W.heap.size, 0, none⟩) (l0.length + 1) (l0.length + 1)) (W.alloc (.cells (boolV (g_seenL (l0.length + 1) [])).toArray 4)) := by
    have h_ := print_make_int (P := Try.prog) 79 4 (.bool false) 1 Try.underlying79 infoB rfl (by decide) ((l0.length + 1 : Nat) : Int) (by omega) (by simp; omega)
    rw [Int.toNat_natCast, made_bool] at h_
    exact h_
  go_enter Try.func50, Try.ntmps50
  go_upto_region 1 with fail
  refine wp_world (fun W => Aside0 (GC w0.heap.size a [] [] vo W ∧ Below w0.heap.size w0 W ∧ W.heap[w.heap.size]? = some (.cells #[.func (.yield a.L) #[] #[]] 24 (0, 0)) ∧ w.heap.size < W.heap.size) ∧ W.heap[bb]? = some (.cells #[.slice A0 l0.length c0] 33 (0, 0)) ∧ W.heap[br]? = some (.cells #[.slice A1 l1.length c1] 35 (0, 0))) ?_ ?_
  · exact ⟨⟨HC.out.alloc _, HB.out.alloc HB.out.size _, blk_new _ _, by simp⟩, blk_alloc hbb _, blk_alloc hbr _⟩
  obtain ⟨bj, hbj⟩ : ∃ b_, b_ = w.heap.size := ⟨_, rfl⟩
  have HJ := Aside0.mk (show w0.heap.size ≤ bj by rw [hbj]; exact HB.out.size)
  rw [← hbj]
  clear HC HB hk0 hk1 hbb hbr hbj
  rintro w1 ⟨HG1, hbb, hbr⟩
  have hk0 := (blk_cell hbb 0).trans rfl
  go_upto_region 3 with fail
  refine wp_world (fun W => Aside0 (GB w0 (a.at (w1.heap.size + 1) w1.heap.size (w1.heap.size + 1 + 1) bj bb (.slice A0 l0.length c0)) [] [] (.slice none 0 0) vo W) ∧ W.heap[br]? = some (.cells #[.slice A1 l1.length c1] 35 (0, 0))) ?_ ?_
  · obtain ⟨hC, hB, hy, hlt⟩ := HG1.out
    refine ⟨⟨⟨?_, ?_, blk_new' (by simp [GA.at]), ⟨by simp [intV], .inl ⟨rfl, rfl⟩⟩, blk_alloc (blk_alloc (blk_alloc hy _) _) _, blk_alloc (blk_alloc (blk_alloc hbb _) _) _, ?_, ?_, by simp [Value.ownBlock]⟩, ?_, fun b h => by simp [Value.ownBlock] at h, ((hB.alloc hB.size _).alloc (by have := hB.size; simp; omega) _).alloc (by have := hB.size; simp; omega) _⟩, blk_alloc (blk_alloc (blk_alloc hbr _) _) _⟩
    · show _ = some (Obj.cells #[.slice (some ⟨w1.heap.size, 0, none⟩) a.N a.N] _ _)
      rw [HN.out]
      exact blk_alloc (blk_new' (by simp [GA.at])) _
    · show _ = some (Obj.cells (boolV (g_seenL a.N [])).toArray _ _)
      rw [HN.out]
      exact blk_alloc (blk_alloc (blk_new _ _) _) _
    · have := hB.size
      exact ⟨by show _ ≤ w1.heap.size; omega, by show _ ≤ w1.heap.size + 1 + 1; omega⟩
    · have h1 := (Array.getElem?_eq_some_iff.1 hC.oB).1
      have h2 := (Array.getElem?_eq_some_iff.1 hC.tB).1
      exact ⟨by show w1.heap.size + 1 + 1 ≠ a.bo; omega, by show w1.heap.size + 1 + 1 ≠ a.bt; omega⟩
    · have hC' := ((hC.alloc (.cells (boolV (g_seenL (l0.length + 1) [])).toArray 4)).alloc (.cells #[Value.slice (some { block := w1.heap.size, off := 0 }) (l0.length + 1) (l0.length + 1)] 79)).alloc (.cells #[Value.slice none 0 0] 55)
      exact ⟨hC'.tB, hC'.t, hC'.oB, hC'.o, hC'.on, hC'.rc, hC'.df, hC'.ge, hC'.ne⟩
  obtain ⟨gs, hgs⟩ : ∃ b_, b_ = w1.heap.size := ⟨_, rfl⟩
  rw [← hgs]
  clear HG1 hbb hbr hk0 hmk hwr hgs
  rintro w2 ⟨HG, hbr⟩
  have hk1 := (blk_cell hbr 0).trans rfl
  go_wp2_with (first | (refine (reach_come.calls k w0 (a.at (gs + 1) gs (gs + 1 + 1) bj bb (.slice A0 l0.length c0)) (HR.out _ _ _ _ _ _) A1 c1 l1 HR1.out HC1.out [] o1 _ vo w2 HG.out (by show g_comes k a.N l1 0 [] = some o1; rw [HN.out]; exact H1.out)).mono ?_; rintro e w3 ⟨rfl, vq3, vo3, hG3⟩; have HG3 := Aside0.mk hG3; clear hG3))
  clear HG hk1 hbr
  go_loopg [7] k (fun kq v7 w' => ∃ (x7 : Int) (o : List Int) (vq vo : Value), v7 = .int .i64 x7 ∧ Aside0 (g_walk kq l0 x7 o = some r) ∧ Aside0 (kq ≤ k) ∧ Aside0 (GB w0 (a.at (gs + 1) gs (gs + 1 + 1) bj bb (.slice A0 l0.length c0)) o o vq vo w'))
  case atStart => exact ⟨0, o1, vq3, vo3, rfl, H', ⟨Nat.le_refl _⟩, HG3⟩
  case round =>
    clear H' HG3 H1
    obtain ⟨x7, o, vq, vo, rfl, HA, HK1, HG⟩ := hrel
    cases gk with
    | zero => exact absurd HA.out (by simp [g_walk])
    | succ k1 =>
      have H := HA.out
      clear HA
      rw [g_walk] at H
      obtain ⟨Aq, cq, rfl, hcq⟩ := own_slice HG.out.i.q
      have hq0 : wr.cell? ⟨gs + 1 + 1, 0, none⟩ = some (.slice Aq o.length cq) := (blk_cell HG.out.i.qB 0).trans rfl
      by_cases c3 : x7 < (o.length : Int)
      · rw [if_pos c3] at H
        have c3b0 : decide (x7 < (o.length : Int)) = true := decide_eq_true c3
        by_cases c4 : 0 ≤ x7 ∧ 0 ≤ wrap64 (rd o x7 - 1) ∧ wrap64 (rd o x7 - 1) < (l0.length : Int)
        · rw [if_pos c4] at H
          obtain ⟨c5, c6, c7⟩ := c4
          replace H := Option.bind_eq_some_iff.mp H
          obtain ⟨o2, A2, H⟩ := H
          have H' := Aside0.mk H
          have HA2 := Aside0.mk A2
          clear H A2
          obtain ⟨gq, rfl, hqe⟩ := own_read HG.out.i.q rfl x7 c5 c3
          obtain ⟨ad, A2, c2, e, hx0, hx1, hl2, hi2⟩ := at_T48 HR0.out (wrap64 (rd o x7 - 1)) c6 c7
          cases e
          have HR2 := Aside0.mk hi2
          have HC2 := Aside0.mk hl2
          clear hl2 hi2 hx0
          replace hx1 := (HG.out.b.cell (World.block_lt_of_cell? w0 _ hx1)).trans hx1
          have hj0 : wr.cell? ⟨bb, 0, none⟩ = some (.slice (some ad) l0.length c0) := (blk_cell HG.out.i.jB 0).trans rfl
          replace c3 := eq_true c3
          replace c5 := eq_true c5
          replace c6 := eq_true c6
          replace c7 := eq_true c7
          go_upto_region 8 with fail
          refine start_ (n := 12) (S := fun w' => w'.cell? ⟨bb, 0, none⟩ = some (.slice (some ad) l0.length c0) ∧ w'.cell? ⟨gs + 1 + 1, 0, none⟩ = some (.slice (some ⟨gq, 0, none⟩) o.length cq) ∧ w'.cell? ⟨gq, x7.toNat, none⟩ = some (.int .i64 (rd o x7)) ∧ w'.cell? ⟨(ad.add ((wrap64 (rd o x7 - 1)).toNat * 2)).block, (ad.add ((wrap64 (rd o x7 - 1)).toNat * 2)).off + 1, none⟩ = some (.slice A2 (rd_T48 l0 (wrap64 (rd o x7 - 1))).f1.length c2)) (ds := [10]) #[false, false, false, false, false, false, false, false, false, false, false, false] (by kernel_rfl) rfl rfl ⟨hj0, hq0, hqe, hx1⟩ (fun hHeld => ?_); refine with_tabW reach_run.tab8 reach_run.bits8 (fun HT_ HW_ => ?_)
          refine pu 0 23 #[true, false, false, false, false, false, false, false, false, false, false, false] HT_ rfl rfl ?_
          refine pu 3 26 #[true, false, false, true, false, false, false, false, false, false, false, false] HT_ rfl rfl ?_
          refine ta 1 24 #[true, true, false, true, false, false, false, false, false, false, false, false] HT_ HW_ hHeld rfl rfl ?_
          refine ta 2 25 #[true, true, true, true, false, false, false, false, false, false, false, false] HT_ HW_ hHeld rfl rfl ?_
          refine pu 4 27 #[true, true, true, true, true, false, false, false, false, false, false, false] HT_ rfl rfl ?_
          refine ta 5 28 #[true, true, true, true, true, true, false, false, false, false, false, false] HT_ HW_ hHeld rfl rfl ?_
          refine pu 6 29 #[true, true, true, true, true, true, true, false, false, false, false, false] HT_ rfl rfl ?_
          refine pu 7 30 #[true, true, true, true, true, true, true, true, false, false, false, false] HT_ rfl rfl ?_
          refine pu 8 31 #[true, true, true, true, true, true, true, true, true, false, false, false] HT_ rfl rfl ?_
          refine ta 9 32 #[true, true, true, true, true, true, true, true, true, true, false, false] HT_ HW_ hHeld rfl rfl ?_
          refine last_ (i := 10) (N := some 33) #[true, true, true, true, true, true, true, true, true, true, true, false] rfl rfl (one_of HT_.out (by kernel_rfl)) (by decide) (fun K hK => ?_)
          refine call_ 51 #[.slice A2 (rd_T48 l0 (wrap64 (rd o x7 - 1))).f1.length c2, .pointer (some ⟨gs + 1, 0, none⟩), .pointer (some ⟨gs + 1 + 1, 0, none⟩), .pointer (some ⟨bj, 0, none⟩)] (by rfl) rfl ?hrun ?_
          case hrun =>
            have he := enters_ (P := Try.prog) Try.func51 (by kernel_rfl) rfl #[.slice A2 (rd_T48 l0 (wrap64 (rd o x7 - 1))).f1.length c2, .pointer (some ⟨gs + 1, 0, none⟩), .pointer (some ⟨gs + 1 + 1, 0, none⟩), .pointer (some ⟨bj, 0, none⟩)] wr.drew
            unfold execOp
            simp [resolve, Deferred.ofValue, invoke, Act.eval, he]
          refine (reach_come.calls k1 w0 (a.at (gs + 1) gs (gs + 1 + 1) bj bb (.slice (some ad) l0.length c0)) (HR.out _ _ _ _ _ _) A2 c2 (rd_T48 l0 (wrap64 (rd o x7 - 1))).f1 HR2.out HC2.out o o2 _ vo wr.drew ⟨HG.out.i.drew, HG.out.c.drew, HG.out.x, HG.out.b.drew⟩ (by show g_comes k1 a.N _ 0 o = some o2; rw [HN.out]; exact HA2.out)).mono ?_
          rintro e w5 ⟨rfl, vq5, vo5, hG5⟩
          have HG5 := Aside0.mk hG5
          clear hG5
          refine ⟨_, rfl, ?_⟩
          refine hK.out _ _ ?_
          clear hK K hHeld hj0 hq0 hqe hx1
          refine no 33 ?_
          refine pu 11 34 #[true, true, true, true, true, true, true, true, true, true, true, true] HT_ rfl rfl ?_
          refine done_ (done_of HT_.out (by kernel_rfl)) ?_
          go_wp2
          go_roundg k1
          case measure => have := HK1.out; omega
          case rel => exact ⟨wrap64 (x7 + 1), o2, vq5, vo5, rfl, H', ⟨by have := HK1.out; omega⟩, HG5⟩
        · rw [if_neg c4] at H
          exact absurd H (by simp)
      · rw [if_neg c3] at H
        have c3b0 : decide (x7 < (o.length : Int)) = false := decide_eq_false c3
        obtain rfl := Option.some.inj H
        clear c3
        go_wp2
        go_end0
        have hC := HG.out.c
        exact ⟨⟨_, rfl⟩, ⟨vo, ⟨hC.tB, hC.t, hC.oB, hC.o, hC.on, hC.rc, hC.df, hC.ge, hC.ne⟩⟩, HG.out.b⟩
end Go.Proofs.Yteeakklnlcjgbaa.P

end
section

namespace Go.Proofs.Yteeakklnlcjgbaa.P
open Go Go.RowKit Go.Proofs.YteeakklnlcjgbaaW.PrintWords Go.Proofs.YteeakklnlcjgbaaW.PrintLast Go.Proofs.YteeakklnlcjgbaaW.PrintMore
attribute [local go_sem] max2_int min2_int max_two min_two max_three min_three max_four min_four
set_option linter.unusedVariables false
set_option linter.unusedSimpArgs false
theorem range_law {P : Program} {g : Operand} {ps : Array Tmp} {assign body : Code} {Q : Exit → Act → World → Prop} {a : Act} {w : World} (gf : FuncId) (lb : Array Value) (hg : a.eval g = .func (.func gf) #[] lb)
    (eg : ∀ args w, (callFunc gf args).run P w = .ok (.enter gf args) w)
    (h : ∀ (fn : FuncId) (rc : Loop), rc = { state := .ready, pending := none, fn, tmps := a.tmps, params := ps, assign, body, defers := w.heap.size } →
      Calls P gf (#[.func (.yield (w.heap.size + 1)) #[] #[]] ++ lb) ((w.alloc (.deferred (some []))).alloc (.loop rc)) fun e w3 => (∃ v, e = .returned v) ∧ w3.heap[w.heap.size + 1]? = some (.loop rc) ∧
        Q .normal { a with defers := { target := .collected w.heap.size, args := #[] } :: a.defers } (w3.putObj (w.heap.size + 1) (.loop { rc with state := .exhausted }))) :
    (Code.rangeFunc g ps assign body).wp P Q a w := by
  refine (wpIn_wide (n := 1)).1 (wpIn_rangeFunc ?_)
  intro fn hfn
  obtain ⟨rc, hrc⟩ : ∃ rc : Loop, rc = { state := .ready, pending := none, fn, tmps := a.tmps, params := ps, assign, body, defers := w.heap.size } := ⟨_, rfl⟩
  refine ⟨w.heap.size + 1, [{ target := .collected w.heap.size, args := #[] }], (w.alloc (.deferred (some []))).alloc (.loop rc), { target := .fn (.func gf) lb, args := #[.func (.yield (w.heap.size + 1)) #[] #[]] }, (w.alloc (.deferred (some []))).alloc (.loop rc), gf,
    #[.func (.yield (w.heap.size + 1)) #[] #[]] ++ lb, (w.alloc (.deferred (some []))).alloc (.loop rc), ?_, ?_, ?_, ?_, fun _ => Nat.le_refl _, ?_⟩
  · rw [hrc]; exact run_enterLoop_outer _ _ _ _ _
  · simp only [resolve, hg]
    simp [go_sem]
  · intro f' hf'; trivial
  · simp [invoke, go_sem, eg]
  · refine callsIn_wide.2 ((h fn rc hrc).mono ?_)
    rintro e w3 ⟨⟨v, rfl⟩, hl, hq⟩
    refine ⟨none, _, ?_, hq⟩
    have h_ := run_endLoop (P := P) hl (by rw [hrc]; simp)
    rw [h_, hrc]
theorem reached.calls (A0 : Option Addr) (n0 c0 : Nat) (A1 : Option Addr) (n1 c1 : Nat) (w : World) :
    Calls Try.prog 43 #[.slice A0 n0 c0, .slice A1 n1 c1] w fun e w' => e = .returned (.func (.func 50) #[] #[.pointer (some ⟨w.heap.size, 0, none⟩), .pointer (some ⟨w.heap.size + 1, 0, none⟩)]) ∧
      w' = (w.alloc (.cells #[.slice A0 n0 c0] 33 (0, 0))).alloc (.cells #[.slice A1 n1 c1] 35 (0, 0)) := by
  go_enter Try.func43, Try.ntmps43
  go_wp2
  go_ret
  exact ⟨rfl, rfl⟩
theorem wpListIn_append_at {F : Fence} {n : Nat} {P : Program} (w : World) {ops : Array Oper} {rest : List Oper} {o : Oper} {a : Act} {Q : Exit → Act → World → Prop}
    (hg : o.guard = none) (s x : Operand) (t : TypeId) (hop : o.op = Op.call { callee := Callee.builtin Builtin.append, args := #[s, x], argTypes := #[t, t] })
    (base : Nat) (e : TypeId) (i : TypeInfo) (z : Value) (size bytes : Nat) (h1 : P.underlying t = some (.slice e)) (h2 : P.info? e = some i) (h3 : i.zero = some z) (h4 : i.size = size) (h5 : i.bytes = bytes) (h6 : z.cells.size = size) (h7 : 0 < size)
    (v : Value) (k : Nat) (xs : List Value) (hs : a.eval s = v) (hown : w.ownsRow base e size v k xs) (ad : Addr) (m c : Nat) (news : List Value) (hx : a.eval x = .slice (some ad) m c) (hn : news.length = m * size)
    (hc : ∀ j u, news[j]? = some u → w.cell? (ad.add j) = some u) (h1c : ∀ u ∈ news, u.oneCell' = true) (b1 : k + m ≤ maxLen) (b2 : (k + m) * bytes ≤ 140737488355328) (b3 : base ≤ w.heap.size)
    (hK : ∀ v' w', w'.ownsRow base e size v' (k + m) (xs ++ news) → w.grownBy w' v.ownBlock → (v'.ownBlock = v.ownBlock ∨ v'.ownBlock = some w.heap.size) → wpListIn F n P ops Q rest (a.put o.dst v') w') :
    wpListIn F n P ops Q (o :: rest) a w := by
  refine wpListIn_plain hg fun K hK' => ?_
  obtain ⟨v', w', hrun, r1, r2, _, r3⟩ := run_append_own_at (P := P) w base t o.type e i z size bytes h1 h2 h3 h4 h5 h6 h7 v k xs hown ad m c news hn hc h1c b1 b2 b3
  unfold Oper.wpIn
  refine ⟨?_, ?_⟩
  · simp [Oper.about, hop, resolve, Target.leads, Sem.run_pure]
  · rw [Oper.semAt_plain F _ _ (by rw [hop]; intro c hc'; cases hc')]
    simp [execOp, hop, resolve, invoke, builtin, hs, hx, hrun, Result.andThen]
    exact hK' _ _ (hK v' w' r1 r2 r3)
theorem GC.turn {B : Nat} {a : GA} {oo ot : List Int} {vo : Value} {w : World} (h : GC B a oo ot vo w) (rc : Loop) : GC B { a with rc := rc } oo ot vo (w.putObj a.L (.loop rc)) := by
  have hg := grownBy_putObj' w a.L (.loop rc)
  have f : ∀ {b : Nat} {cs : Array Value} {t : TypeId}, w.heap[b]? = some (.cells cs t (0, 0)) → (w.putObj a.L (.loop rc)).heap[b]? = some (.cells cs t (0, 0)) := fun hb => blk_grown hb hg (by intro e; exact ne_blk hb h.rc (by intro e; cases e) (Option.some.inj e))
  exact ⟨f h.tB, f h.t, f h.oB, h.o.kept hg (.inr (own_ne h.o h.rc (by intro _ e; cases e))), h.on, World.putObj_heap_same (Array.getElem?_eq_some_iff.1 h.rc).1, blk_grown h.df hg (by intro e; exact ne_blk h.df h.rc (by intro e; cases e) (Option.some.inj e)), h.ge, h.ne⟩
theorem GI.turn {B : Nat} {a : GA} {os oq oo ot : List Int} {vq vo : Value} {w : World} (h : GI B a os oq vq w) (hC : GC B a oo ot vo w) (rc : Loop) : GI B { a with rc := rc } os oq vq (w.putObj a.L (.loop rc)) := by
  have hg := grownBy_putObj' w a.L (.loop rc)
  have f : ∀ {b : Nat} {cs : Array Value} {t : TypeId}, w.heap[b]? = some (.cells cs t (0, 0)) → (w.putObj a.L (.loop rc)).heap[b]? = some (.cells cs t (0, 0)) := fun hb => blk_grown hb hg (by intro e; exact ne_blk hb hC.rc (by intro e; cases e) (Option.some.inj e))
  exact ⟨f h.sB, f h.s, f h.qB, h.q.kept hg (.inr (own_ne h.q hC.rc (by intro _ e; cases e))), f h.yB, f h.jB, h.ge, h.ne, h.qt⟩
theorem GB.turn {w0 : World} {a : GA} {oq oc : List Int} {vq vo : Value} {w : World} (h : GB w0 a oq oc vq vo w) (rc : Loop) : GB w0 { a with rc := rc } oq oc vq vo (w.putObj a.L (.loop rc)) :=
  ⟨h.i.turn h.c rc, h.c.turn rc, h.x, h.b.grown (grownBy_putObj' w a.L (.loop rc)) h.b.size (fun k e => by cases e; exact h.c.ge.2.2)⟩
end Go.Proofs.Yteeakklnlcjgbaa.P

end
section

namespace Go.Proofs.Yteeakklnlcjgbaa.P
open Go.RowKit Go.Proofs.YteeakklnlcjgbaaW.PrintWords Go.Proofs.YteeakklnlcjgbaaW.PrintLast Go.Proofs.YteeakklnlcjgbaaW.PrintMore
attribute [local go_sem] max2_int min2_int max_two min_two max_three min_three max_four min_four
set_option linter.unusedVariables false
set_option linter.unusedSimpArgs false
set_option maxHeartbeats 8000000 in
set_option maxRecDepth 100000 in
theorem impl_leadsOk.calls (a0_0 : Bool) (a0_1 : Int) (a1 : Int) (r : Bool) (w : World) (h : impl_leadsOk.f a0_0 a0_1 a1 = some r) :
    Calls Try.prog 39 #[.agg #[.bool a0_0, .int .i64 a0_1], .int .i64 a1] w fun e w' => e = .returned (.bool r) ∧ Below w.heap.size w w' := by
  have hu46 := Try.underlying46
  have HB := Aside0.mk (Below.refl w.heap.size w)
  have H : (if a0_0 = true then (if a0_1 ≥ 0 then (some (decide (a0_1 ≤ a1))) else (some false)) else (some true)) = some r := h
  clear h
  by_cases c3 : a0_0 = true
  · subst c3
    have H1 : (if a0_1 ≥ 0 then (some (decide (a0_1 ≤ a1))) else (some false)) = some r := by rw [if_pos rfl] at H; exact H
    clear H
    have H := H1
    clear H1
    by_cases c4 : a0_1 ≥ 0
    · rw [if_pos c4] at H
      have c4b0 : decide (0 ≤ a0_1) = true := decide_eq_true c4
      clear c4
      obtain rfl := Option.some.inj H
      simp only [Option.some.injEq, Prod.mk.injEq] at H
      obtain ⟨rfl⟩ := H
      go_enter Try.func39, Try.ntmps39
      go_wp2_with (first | ((with_reducible refine gate_dst (N := 2) rfl ?_); refine box_event ?hg (N := 2) ?hd (cs := #[.bool true, .int .i64 a0_1]) (t := 46) ?hr ?_; (case hd => rfl); (case hg => rfl); (case hr => first | (go_simp; done) | (go_simp; rfl)); intro gb171 hg w5 hbox hb; have n0_ := Aside0.mk (below_step (by repeat (first | (with_reducible first | exact HB.out | apply below_alloc | apply pw_below_drewN | apply below_drew1) | exact HB.out)) hb); have n1_ := Aside0.mk (hbox); have n2_ := Aside0.mk ((by rw [hg]; exact (below_size (by repeat (first | (with_reducible first | exact HB.out | apply below_alloc | apply pw_below_drewN | apply below_drew1) | exact HB.out))) : w.heap.size ≤ gb171)); have n3_ := Aside0.mk ((by rw [hg]; exact (below_size (by repeat (first | (with_reducible first | exact HB.out | apply below_alloc | apply pw_below_drewN | apply below_drew1) | exact HB.out))) : w.heap.size ≤ gb171)); clear HB; have HB := n0_; have BK171 := n1_; have GW171 := n2_; have GE171 := n3_; clear n0_ n1_ n2_ n3_; clear hb hbox hg; have hcz6_0 : w5.cell? ⟨gb171, 0, none⟩ = some (.bool true) := (blk_cell BK171.out 0).trans rfl; have hcz6_1 : w5.cell? ⟨gb171, 1, none⟩ = some (.int .i64 a0_1) := (blk_cell BK171.out 1).trans rfl; have hfz6_0 := blk_frozen BK171.out 0; have hfz6_1 := blk_frozen BK171.out 1))
      go_ret
      exact ⟨by first | rfl | (simp [errW_none, errW_some] <;> rfl) | (simp [*, errW_none, errW_some] <;> rfl), by repeat (first | (with_reducible first | exact HB.out | apply below_alloc | apply pw_below_drewN | apply below_drew1 | refine below_set ?_ GE171.out) | exact HB.out)⟩
    · rw [if_neg c4] at H
      have c4b0 : decide (0 ≤ a0_1) = false := decide_eq_false c4
      clear c4
      obtain rfl := Option.some.inj H
      simp only [Option.some.injEq, Prod.mk.injEq] at H
      obtain ⟨rfl⟩ := H
      go_enter Try.func39, Try.ntmps39
      go_wp2_with (first | ((with_reducible refine gate_dst (N := 2) rfl ?_); refine box_event ?hg (N := 2) ?hd (cs := #[.bool true, .int .i64 a0_1]) (t := 46) ?hr ?_; (case hd => rfl); (case hg => rfl); (case hr => first | (go_simp; done) | (go_simp; rfl)); intro gb171 hg w7 hbox hb; have n0_ := Aside0.mk (below_step (by repeat (first | (with_reducible first | exact HB.out | apply below_alloc | apply pw_below_drewN | apply below_drew1) | exact HB.out)) hb); have n1_ := Aside0.mk (hbox); have n2_ := Aside0.mk ((by rw [hg]; exact (below_size (by repeat (first | (with_reducible first | exact HB.out | apply below_alloc | apply pw_below_drewN | apply below_drew1) | exact HB.out))) : w.heap.size ≤ gb171)); have n3_ := Aside0.mk ((by rw [hg]; exact (below_size (by repeat (first | (with_reducible first | exact HB.out | apply below_alloc | apply pw_below_drewN | apply below_drew1) | exact HB.out))) : w.heap.size ≤ gb171)); clear HB; have HB := n0_; have BK171 := n1_; have GW171 := n2_; have GE171 := n3_; clear n0_ n1_ n2_ n3_; clear hb hbox hg; have hcz8_0 : w7.cell? ⟨gb171, 0, none⟩ = some (.bool true) := (blk_cell BK171.out 0).trans rfl; have hcz8_1 : w7.cell? ⟨gb171, 1, none⟩ = some (.int .i64 a0_1) := (blk_cell BK171.out 1).trans rfl; have hfz8_0 := blk_frozen BK171.out 0; have hfz8_1 := blk_frozen BK171.out 1))
      go_ret
      exact ⟨by first | rfl | (simp [errW_none, errW_some] <;> rfl) | (simp [*, errW_none, errW_some] <;> rfl), by repeat (first | (with_reducible first | exact HB.out | apply below_alloc | apply pw_below_drewN | apply below_drew1 | refine below_set ?_ GE171.out) | exact HB.out)⟩
  · replace c3 := Bool.eq_false_iff.mpr c3
    subst c3
    have H1 : (some true) = some r := by rw [if_neg (show ¬ (false = true) by decide)] at H; exact H
    clear H
    have H := H1
    clear H1
    obtain rfl := Option.some.inj H
    simp only [Option.some.injEq, Prod.mk.injEq] at H
    obtain ⟨rfl⟩ := H
    go_enter Try.func39, Try.ntmps39
    go_wp2_with (first | ((with_reducible refine gate_dst (N := 2) rfl ?_); refine box_event ?hg (N := 2) ?hd (cs := #[.bool false, .int .i64 a0_1]) (t := 46) ?hr ?_; (case hd => rfl); (case hg => rfl); (case hr => first | (go_simp; done) | (go_simp; rfl)); intro gb171 hg w9 hbox hb; have n0_ := Aside0.mk (below_step (by repeat (first | (with_reducible first | exact HB.out | apply below_alloc | apply pw_below_drewN | apply below_drew1) | exact HB.out)) hb); have n1_ := Aside0.mk (hbox); have n2_ := Aside0.mk ((by rw [hg]; exact (below_size (by repeat (first | (with_reducible first | exact HB.out | apply below_alloc | apply pw_below_drewN | apply below_drew1) | exact HB.out))) : w.heap.size ≤ gb171)); have n3_ := Aside0.mk ((by rw [hg]; exact (below_size (by repeat (first | (with_reducible first | exact HB.out | apply below_alloc | apply pw_below_drewN | apply below_drew1) | exact HB.out))) : w.heap.size ≤ gb171)); clear HB; have HB := n0_; have BK171 := n1_; have GW171 := n2_; have GE171 := n3_; clear n0_ n1_ n2_ n3_; clear hb hbox hg; have hcz10_0 : w9.cell? ⟨gb171, 0, none⟩ = some (.bool false) := (blk_cell BK171.out 0).trans rfl; have hcz10_1 : w9.cell? ⟨gb171, 1, none⟩ = some (.int .i64 a0_1) := (blk_cell BK171.out 1).trans rfl; have hfz10_0 := blk_frozen BK171.out 0; have hfz10_1 := blk_frozen BK171.out 1))
    go_ret
    exact ⟨by first | rfl | (simp [errW_none, errW_some] <;> rfl) | (simp [*, errW_none, errW_some] <;> rfl), by repeat (first | (with_reducible first | exact HB.out | apply below_alloc | apply pw_below_drewN | apply below_drew1 | refine below_set ?_ GE171.out) | exact HB.out)⟩
end Go.Proofs.Yteeakklnlcjgbaa.P

end
