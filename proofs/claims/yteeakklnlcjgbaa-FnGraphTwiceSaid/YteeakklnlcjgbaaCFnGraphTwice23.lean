/- A part of the claim FnGraphTwice: texts of this session and texts that its program printed out of the translation, joined. -/
import Derived.Test.YteeakklnlcjgbaaCFnGraphTwice22
import Derived.Test.YteeakklnlcjgbaaCFnGraphTwice0
import Derived.Test.YteeakklnlcjgbaaCFnGraphTwice1
import Derived.Test.YteeakklnlcjgbaaCFnGraphTwice2
import Derived.Test.YteeakklnlcjgbaaCFnGraphTwice3
import Derived.Test.YteeakklnlcjgbaaCFnGraphTwice4
import Derived.Test.YteeakklnlcjgbaaCFnGraphTwice5
import Derived.Test.YteeakklnlcjgbaaCFnGraphTwice6
import Derived.Test.YteeakklnlcjgbaaCFnGraphTwice7
import Derived.Test.YteeakklnlcjgbaaCFnGraphTwice8
import Derived.Test.YteeakklnlcjgbaaCFnGraphTwice9
import Derived.Test.YteeakklnlcjgbaaCFnGraphTwice10
import Derived.Test.YteeakklnlcjgbaaCFnGraphTwice11
import Derived.Test.YteeakklnlcjgbaaCFnGraphTwice12
import Derived.Test.YteeakklnlcjgbaaCFnGraphTwice13
import Derived.Test.YteeakklnlcjgbaaCFnGraphTwice14
import Derived.Test.YteeakklnlcjgbaaCFnGraphTwice15
import Derived.Test.YteeakklnlcjgbaaCFnGraphTwice16
import Derived.Test.YteeakklnlcjgbaaCFnGraphTwice17
import Derived.Test.YteeakklnlcjgbaaCFnGraphTwice18
import Derived.Test.YteeakklnlcjgbaaCFnGraphTwice19
import Derived.Test.YteeakklnlcjgbaaCFnGraphTwice20
import Derived.Test.YteeakklnlcjgbaaCFnGraphTwice21
section

namespace Go.Proofs.Yteeakklnlcjgbaa.P
open Go Go.RowKit Go.Proofs.YteeakklnlcjgbaaW.PrintWords Go.Proofs.YteeakklnlcjgbaaW.PrintLast Go.Proofs.YteeakklnlcjgbaaW.PrintMore
attribute [local go_sem] max2_int min2_int max_two min_two max_three min_three max_four min_four
set_option linter.unusedVariables false
set_option linter.unusedSimpArgs false
def l12_all.T7 : Bool × List (List Nat × List Nat) := (true, [([], []), ([0], [0]), ([1], [1]), ([2], [2]), ([], []), ([4], [4]), ([5], [5]), ([3, 6], [3, 6]), ([7], [7]), ([0, 1, 2, 3, 4, 5, 6, 7, 8], []), ([9, 8, 0, 1, 2, 3, 4, 5, 6, 7, 8], [8, 9])])
def l12_all.B7 : List Nat := [0, 1, 3, 7, 0, 16, 48, 127, 255, 511, 1023]
theorem l12_all.tab7 : rtab .any (opsOf Try.f49 7) = l12_all.T7 := by kernel_rfl
theorem l12_all.bits7 : waitsOk l12_all.T7.2 l12_all.B7 = true := by kernel_rfl
theorem addr_add0 (g k : Nat) : (⟨g, 0, none⟩ : Addr).add k = ⟨g, k, none⟩ := by cases k <;> simp [Addr.add]
def l12_mv (nl : List Int) (v : GVal) : Option GVal :=
  if v.f0 = true then (if 0 < v.f1 then (if 0 ≤ wrap64 (v.f1 - 1) ∧ wrap64 (v.f1 - 1) < (nl.length : Int) then some ⟨true, rd nl (wrap64 (v.f1 - 1))⟩ else none) else some v) else some v
def l12_all.l0 : Nat → List Int → List GVal → Int → List GVal → Option (List GVal)
  | 0, _, _, _, _ => none
  | k + 1, nl, vs, i, g => if i < (vs.length : Int) then (if 0 ≤ i then ((l12_mv nl (rd_T46 vs i)).bind fun u => (if g.length < 8796093022208 then l12_all.l0 k nl vs (wrap64 (i + 1)) (g ++ [u]) else none)) else none) else some g
def l12_all.f (k : Nat) (nl : List Int) (vs : List GVal) : Option (List GVal) := l12_all.l0 k nl vs 0 []
set_option maxHeartbeats 8000000 in
set_option maxRecDepth 100000 in
theorem l12_all.calls (k : Nat) (bw gn : Nat) (nl : List Int) (vo : Value) (A0 : Option Addr) (c0 : Nat) (l0 : List GVal) (r : List GVal) (w : World) (hb : w.heap[bw]? = some (.cells #[.slice (some ⟨gn, 0, none⟩) nl.length nl.length, vo] 76 (0, 0)))
    (hn : Kd.C (Kd.int .i64) w (some ⟨gn, 0, none⟩) nl.length nl) (hr0 : Kd.C k46 w A0 l0.length l0) (hc0 : l0.length ≤ c0) (h : l12_all.f k nl l0 = some r) :
    Calls Try.prog 49 #[.pointer (some ⟨bw, 0, none⟩), .slice A0 l0.length c0] w fun e w' => ∃ v0_ : Value, e = .returned (v0_) ∧ Kd.R k46 46 w' w.heap.size (fun _ => True) v0_ r ∧ Below w.heap.size w w' := by
  have HBW := Aside0.mk hb
  have HNL := Aside0.mk hn
  have HR0 := Aside0.mk hr0
  have HC0 := Aside0.mk hc0
  have HB := Aside0.mk (Below.refl w.heap.size w)
  have H' := Aside0.mk (show l12_all.l0 k nl l0 0 [] = some r from h)
  clear hb hn hr0 hc0 h
  go_enter Try.func49, Try.ntmps49
  go_wp2_with (first | ((with_reducible refine gate_dst (N := 8) rfl ?_); refine Kd.R_lit k46 _ 46 ?hg (N := 8) ?hd (xs := ([] : List GVal)) (inner := []) (ok := fun _ => True) (okp := fun _ => True) ?hr ?hp (fun _ hk => hk) trivial (Below.refl _ _) (Nat.le_refl _) (by simp) ?_; (case hd => rfl); (case hg => rfl); (case hr => first | (go_simp; done) | (go_simp; rfl)); (case hp => exact (Reps.none _ _)); intro v360 w4 ho5 hb hg_ hnew_; clear hg_ hnew_; have n0_ := Aside0.mk (Kd.R_lower ho5 (below_size HB.out)); have n1_ := Aside0.mk (below_step HB.out hb); clear HB; have HO := n0_; have HB := n1_; clear n0_ n1_; clear hb ho5))
  go_loopg [5, 6] k (fun kq v5 v6 w' => ∃ (g : List GVal) (i : Int), v6 = .int .i64 i ∧ Aside0 (l12_all.l0 kq nl l0 i g = some r) ∧ Aside0 (kq ≤ k) ∧ Aside0 (Kd.R k46 46 w' w.heap.size (fun _ => True) v5 g) ∧ Aside0 (Below w.heap.size w w'))
  case atStart => exact ⟨[], 0, rfl, H', ⟨Nat.le_refl _⟩, HO, HB⟩
  case round =>
    clear H' HO HB
    obtain ⟨g, i, rfl, HA, HK1, HO, HB⟩ := hrel
    cases gk with
    | zero => exact absurd HA.out (by simp [l12_all.l0])
    | succ k1 =>
      have H := HA.out
      clear HA
      rw [l12_all.l0] at H
      by_cases c3 : i < (l0.length : Int)
      · rw [if_pos c3] at H
        have c3b0 : decide (i < (l0.length : Int)) = true := decide_eq_true c3
        by_cases c4 : 0 ≤ i
        · rw [if_pos c4] at H
          have c4b0 : decide (0 ≤ i) = true := decide_eq_true c4
          replace H := Option.bind_eq_some_iff.mp H
          obtain ⟨u, HS, H⟩ := H
          by_cases hl : g.length < 8796093022208
          · rw [if_pos hl] at H
            have H' := Aside0.mk H
            have HL := Aside0.mk hl
            clear H hl
            obtain ⟨ad, e, hx0, hx1⟩ := at_T46 HR0.out i c4 c3
            cases e
            obtain ⟨y, hy⟩ : ∃ y_, y_ = rd_T46 l0 i := ⟨_, rfl⟩
            rw [← hy] at hx0 hx1 HS
            obtain ⟨b, m⟩ := y
            dsimp only at hx0 hx1
            simp only [l12_mv] at HS
            clear hy
            replace hx0 := (HB.out.cell (World.block_lt_of_cell? w _ hx0)).trans hx0
            replace hx1 := (HB.out.cell (World.block_lt_of_cell? w _ hx1)).trans hx1
            replace c3 := eq_true c3
            replace c4 := eq_true c4
            by_cases hb : b = true
            · subst hb
              rw [if_pos rfl] at HS
              go_upto_region 6 with fail
              refine wpw_world (fun W => Aside0 (Below wr.heap.size wr W ∧ W.heap[wr.heap.size]? = some (.cells #[.bool true, .int .i64 m] 46 (0, 0)))) ?_ ?_
              · exact ⟨by repeat (first | exact Below.refl _ _ | apply below_alloc | refine below_set ?_ (Nat.le_refl _)), blk_new _ _⟩
              clear hx0 hx1
              intro w1 HG
              have hv0 : w1.cell? ⟨wr.heap.size, 0, none⟩ = some (.bool true) := (blk_cell HG.out.2 0).trans rfl
              have hv1 : w1.cell? ⟨wr.heap.size, 1, none⟩ = some (.int .i64 m) := (blk_cell HG.out.2 1).trans rfl
              by_cases hm : 0 < m
              · rw [if_pos hm] at HS
                by_cases hr : 0 ≤ wrap64 (m - 1) ∧ wrap64 (m - 1) < (nl.length : Int)
                · rw [if_pos hr] at HS
                  obtain rfl := Option.some.inj HS
                  clear HS
                  obtain ⟨q0, q1⟩ := hr
                  obtain ⟨adn, en, hn0⟩ := Kd.at_int HNL.out (wrap64 (m - 1)) q0 q1
                  cases en
                  have hlt := HB.out.size
                  replace hn0 := (HG.out.1.cell (World.block_lt_of_cell? wr _ ((HB.out.cell (World.block_lt_of_cell? w _ hn0)).trans hn0))).trans ((HB.out.cell (World.block_lt_of_cell? w _ hn0)).trans hn0)
                  have hw0 : w1.cell? ⟨bw, 0, none⟩ = some (.slice (some ⟨gn, 0, none⟩) nl.length nl.length) := (blk_cell (blk_below (blk_below HBW.out HB.out) HG.out.1) 0).trans rfl
                  clear hlt
                  replace q0 := eq_true q0
                  replace q1 := eq_true q1
                  have q2 : (0 < m) = True := eq_true hm
                  clear hm
                  have hf1 := blk_frozen HG.out.2 1
                  go_upto_region 7 with fail
                  refine start_ (n := 11) (S := fun w' => w'.cell? ⟨wr.heap.size, 1, none⟩ = some (.int .i64 m) ∧ w'.cell? ⟨bw, 0, none⟩ = some (.slice (some ⟨gn, 0, none⟩) nl.length nl.length) ∧ w'.cell? ⟨gn, (wrap64 (m - 1)).toNat, none⟩ = some (.int .i64 (rd nl (wrap64 (m - 1))))) (ds := [10]) #[false, false, false, false, false, false, false, false, false, false, false] (by kernel_rfl) rfl rfl ⟨hv1, hw0, (by rw [addr_add0] at hn0; exact hn0)⟩ (fun hHeld => ?_); refine with_tabW l12_all.tab7 l12_all.bits7 (fun HT_ HW_ => ?_)
                  refine pu 0 26 #[true, false, false, false, false, false, false, false, false, false, false] HT_ rfl rfl ?_
                  refine pu 1 27 #[true, true, false, false, false, false, false, false, false, false, false] HT_ rfl rfl ?_
                  refine pu 2 28 #[true, true, true, false, false, false, false, false, false, false, false] HT_ rfl rfl ?_
                  refine pu 4 30 #[true, true, true, false, true, false, false, false, false, false, false] HT_ rfl rfl ?_
                  refine ta 3 29 #[true, true, true, true, true, false, false, false, false, false, false] HT_ HW_ hHeld rfl rfl ?_
                  refine ta 5 31 #[true, true, true, true, true, true, false, false, false, false, false] HT_ HW_ hHeld rfl rfl ?_
                  refine pu 6 32 #[true, true, true, true, true, true, true, false, false, false, false] HT_ rfl rfl ?_
                  refine pu 7 33 #[true, true, true, true, true, true, true, true, false, false, false] HT_ rfl rfl ?_
                  refine ta 8 34 #[true, true, true, true, true, true, true, true, true, false, false] HT_ HW_ hHeld rfl rfl ?_
                  refine pu 9 35 #[true, true, true, true, true, true, true, true, true, true, false] HT_ rfl rfl ?_
                  refine last_ (i := 10) (N := none) #[true, true, true, true, true, true, true, true, true, true, true] rfl rfl (one_of HT_.out (by kernel_rfl)) (by decide) (fun K hK => ?_)
                  refine skip_ (w1 := ?_) (by rfl) rfl ?_ ?_
                  rotate_left 1
                  · go_simp
                    rfl
                  refine hK.out _ _ ?_
                  clear hK K hHeld
                  refine done_ (done_of HT_.out (by kernel_rfl)) ?_
                  go_upto_region 8 with fail
                  refine wpw_world (fun W => Aside0 (Kd.R k46 46 W w.heap.size (fun _ => True) u5 g ∧ Below w.heap.size w W) ∧ W.heap[wr.heap.size]? = some (.cells #[.bool true, .int .i64 (rd nl (wrap64 (m - 1)))] 46 (0, 0))) ?_ ?_
                  · refine ⟨⟨Kd.R_below HO.out ?_, below_step HB.out ?_⟩, blk_put (cs := #[.bool true, .int .i64 m]) (blk_drew HG.out.2) 1 _ rfl⟩
                    · repeat (first | exact HG.out.1 | apply below_drew1 | refine below_set ?_ (Nat.le_refl _))
                    · repeat (first | exact HG.out.1 | apply below_drew1 | refine below_set ?_ (Nat.le_refl _))
                  clear HO HB
                  rintro w6 ⟨HG6, hbk⟩
                  have hb0 : w6.cell? ⟨wr.heap.size, 0, none⟩ = some (.bool true) := (blk_cell hbk 0).trans rfl
                  have hb1 : w6.cell? ⟨wr.heap.size, 1, none⟩ = some (.int .i64 (rd nl (wrap64 (m - 1)))) := (blk_cell hbk 1).trans rfl
                  go_wp2_with (first | ((with_reducible refine gate_builtin (b := .append) (xs := #[.tmp 36, .tmp 38]) rfl ?_); at_builtin; refine Kd.R_append k46 (w0 := w) w.heap.size rfl (.tmp 36) (.tmp 38) 35 46 (.agg #[(.bool false), (.int .i64 0)]) 16 rfl Try.underlying35 info46 rfl (by decide) (by omega) u5 g (⟨true, rd nl (wrap64 (m - 1))⟩ : GVal) [.bool true, .int .i64 (rd nl (wrap64 (m - 1)))] (fun _ => True) (fun _ => False) rfl (by first | (go_simp; done) | (go_simp; rfl)) ?aP (fun _ hk => hk.elim) (fun _ _ => trivial) ?aO ?aB ?aS ?aL ?_; (case aP => exact k46_mkM _ _ _ (⟨true, rd nl (wrap64 (m - 1))⟩ : GVal)); (case aB => exact HG6.out.2); (case aO => exact Kd.R_mono HG6.out.1 (fun _ _ => trivial)); (case aS => exact HG6.out.2.size); (case aL => have := HL.out; omega); intro v12 w12 ho hb hg hat; have HO := Aside0.mk ho; have HB := Aside0.mk hb; clear ho hb hg hat hbk hb0 hb1 HG6))
                  go_roundg k1
                  case measure => have := HK1.out; omega
                  case rel => exact ⟨_, wrap64 (i + 1), rfl, H', ⟨by have := HK1.out; omega⟩, HO, HB⟩
                · rw [if_neg hr] at HS
                  exact absurd HS (by simp)
              · rw [if_neg hm] at HS
                obtain rfl := Option.some.inj HS
                clear HS
                have q2 : (0 < m) = False := eq_false hm
                clear hm
                go_upto_region 8 with fail
                refine wpw_world (fun W => Aside0 (Kd.R k46 46 W w.heap.size (fun _ => True) u5 g ∧ Below w.heap.size w W) ∧ W.heap[wr.heap.size]? = some (.cells #[.bool true, .int .i64 m] 46 (0, 0))) ?_ ?_
                · refine ⟨⟨Kd.R_below HO.out ?_, below_step HB.out ?_⟩, HG.out.2⟩
                  · repeat (first | exact HG.out.1 | apply below_drew1 | refine below_set ?_ (Nat.le_refl _))
                  · repeat (first | exact HG.out.1 | apply below_drew1 | refine below_set ?_ (Nat.le_refl _))
                clear HO HB
                rintro w6 ⟨HG6, hbk⟩
                have hb0 : w6.cell? ⟨wr.heap.size, 0, none⟩ = some (.bool true) := (blk_cell hbk 0).trans rfl
                have hb1 : w6.cell? ⟨wr.heap.size, 1, none⟩ = some (.int .i64 m) := (blk_cell hbk 1).trans rfl
                go_wp2_with (first | ((with_reducible refine gate_builtin (b := .append) (xs := #[.tmp 36, .tmp 38]) rfl ?_); at_builtin; refine Kd.R_append k46 (w0 := w) w.heap.size rfl (.tmp 36) (.tmp 38) 35 46 (.agg #[(.bool false), (.int .i64 0)]) 16 rfl Try.underlying35 info46 rfl (by decide) (by omega) u5 g (⟨true, m⟩ : GVal) [.bool true, .int .i64 m] (fun _ => True) (fun _ => False) rfl (by first | (go_simp; done) | (go_simp; rfl)) ?aP (fun _ hk => hk.elim) (fun _ _ => trivial) ?aO ?aB ?aS ?aL ?_; (case aP => exact k46_mkM _ _ _ (⟨true, m⟩ : GVal)); (case aB => exact HG6.out.2); (case aO => exact Kd.R_mono HG6.out.1 (fun _ _ => trivial)); (case aS => exact HG6.out.2.size); (case aL => have := HL.out; omega); intro v12 w12 ho hb hg hat; have HO := Aside0.mk ho; have HB := Aside0.mk hb; clear ho hb hg hat hbk hb0 hb1 HG6))
                go_roundg k1
                case measure => have := HK1.out; omega
                case rel => exact ⟨_, wrap64 (i + 1), rfl, H', ⟨by have := HK1.out; omega⟩, HO, HB⟩
            · obtain rfl := Bool.eq_false_iff.mpr hb
              rw [if_neg (by simp)] at HS
              obtain rfl := Option.some.inj HS
              clear HS hb
              go_upto_region 6 with fail
              refine wpw_world (fun W => Aside0 (Below wr.heap.size wr W ∧ W.heap[wr.heap.size]? = some (.cells #[.bool false, .int .i64 m] 46 (0, 0)))) ?_ ?_
              · exact ⟨by repeat (first | exact Below.refl _ _ | apply below_alloc | refine below_set ?_ (Nat.le_refl _)), blk_new _ _⟩
              clear hx0 hx1
              intro w1 HG
              have hv0 : w1.cell? ⟨wr.heap.size, 0, none⟩ = some (.bool false) := (blk_cell HG.out.2 0).trans rfl
              have hv1 : w1.cell? ⟨wr.heap.size, 1, none⟩ = some (.int .i64 m) := (blk_cell HG.out.2 1).trans rfl
              go_upto_region 8 with fail
              refine wpw_world (fun W => Aside0 (Kd.R k46 46 W w.heap.size (fun _ => True) u5 g ∧ Below w.heap.size w W) ∧ W.heap[wr.heap.size]? = some (.cells #[.bool false, .int .i64 m] 46 (0, 0))) ?_ ?_
              · refine ⟨⟨Kd.R_below HO.out ?_, below_step HB.out ?_⟩, HG.out.2⟩
                · repeat (first | exact HG.out.1 | apply below_drew1 | refine below_set ?_ (Nat.le_refl _))
                · repeat (first | exact HG.out.1 | apply below_drew1 | refine below_set ?_ (Nat.le_refl _))
              clear HO HB
              rintro w6 ⟨HG6, hbk⟩
              have hb0 : w6.cell? ⟨wr.heap.size, 0, none⟩ = some (.bool false) := (blk_cell hbk 0).trans rfl
              have hb1 : w6.cell? ⟨wr.heap.size, 1, none⟩ = some (.int .i64 m) := (blk_cell hbk 1).trans rfl
              go_wp2_with (first | ((with_reducible refine gate_builtin (b := .append) (xs := #[.tmp 36, .tmp 38]) rfl ?_); at_builtin; refine Kd.R_append k46 (w0 := w) w.heap.size rfl (.tmp 36) (.tmp 38) 35 46 (.agg #[(.bool false), (.int .i64 0)]) 16 rfl Try.underlying35 info46 rfl (by decide) (by omega) u5 g (⟨false, m⟩ : GVal) [.bool false, .int .i64 m] (fun _ => True) (fun _ => False) rfl (by first | (go_simp; done) | (go_simp; rfl)) ?aP (fun _ hk => hk.elim) (fun _ _ => trivial) ?aO ?aB ?aS ?aL ?_; (case aP => exact k46_mkM _ _ _ (⟨false, m⟩ : GVal)); (case aB => exact HG6.out.2); (case aO => exact Kd.R_mono HG6.out.1 (fun _ _ => trivial)); (case aS => exact HG6.out.2.size); (case aL => have := HL.out; omega); intro v12 w12 ho hb hg hat; have HO := Aside0.mk ho; have HB := Aside0.mk hb; clear ho hb hg hat hbk hb0 hb1 HG6))
              go_roundg k1
              case measure => have := HK1.out; omega
              case rel => exact ⟨_, wrap64 (i + 1), rfl, H', ⟨by have := HK1.out; omega⟩, HO, HB⟩
          · rw [if_neg hl] at H
            exact absurd H (by simp)
        · rw [if_neg c4] at H
          exact absurd H (by simp)
      · rw [if_neg c3] at H
        have c3b0 : decide (i < (l0.length : Int)) = false := decide_eq_false c3
        obtain rfl := Option.some.inj H
        clear c3
        go_wp2
        go_ret
        exact ⟨_, rfl, HO.out, HB.out⟩
end Go.Proofs.Yteeakklnlcjgbaa.P

end
section

namespace Go.Proofs.Yteeakklnlcjgbaa.P
open Go Go.RowKit Go.Proofs.YteeakklnlcjgbaaW.PrintWords Go.Proofs.YteeakklnlcjgbaaW.PrintLast Go.Proofs.YteeakklnlcjgbaaW.PrintMore
set_option linter.unusedVariables false
def l12_out : Nat → List GObj → List Int → List Int → Int → List GObj → Option (List GObj)
  | 0, _, _, _, _, _ => none
  | k + 1, objs, nl, o, i, g => if i < (o.length : Int) then (if 0 ≤ i ∧ 0 ≤ wrap64 (rd o i - 1) ∧ wrap64 (rd o i - 1) < (objs.length : Int) then ((l12_all.f k nl (rd_T48 objs (wrap64 (rd o i - 1))).f1).bind fun vs => (if g.length < 4398046511104 then l12_out k objs nl o (wrap64 (i + 1)) (g ++ [(⟨(rd_T48 objs (wrap64 (rd o i - 1))).f0, vs⟩ : GObj)]) else none)) else none) else some g
def spec_l12Graph.f (k : Nat) (l0 : List GObj) (l1 : List GVal) : Option (List GObj × List GVal) :=
  if l0.length + 1 < 8796093022208 then ((g_comes k (l0.length + 1) l1 0 []).bind fun o1 => ((g_walk k l0 0 o1).bind fun o => ((l12_out k l0 (g_numL l0.length o) o 0 []).bind fun g => ((l12_all.f k (g_numL l0.length o) l1).bind fun r => some (g, r))))) else none
end Go.Proofs.Yteeakklnlcjgbaa.P

end
section

namespace Go.Proofs.Yteeakklnlcjgbaa.P
open Go.RowKit Go.Proofs.YteeakklnlcjgbaaW.PrintWords Go.Proofs.YteeakklnlcjgbaaW.PrintLast Go.Proofs.YteeakklnlcjgbaaW.PrintMore
attribute [local go_sem] max2_int min2_int max_two min_two max_three min_three max_four min_four
set_option linter.unusedVariables false
set_option linter.unusedSimpArgs false
def spec_HeapGraph.f (k : Nat) (l0 : List (S48)) (l1 : List (S46)) : Option ((List (S48)) × (List (S46))) := (spec_HeapOk.f k l0 l1).bind fun t232 => (if t232 = true then ((spec_l12Graph.f k l0 l1).bind fun bt233 => (some (bt233.1, bt233.2))) else (some ((([] : List (S48))), (([] : List (S46))))))
end Go.Proofs.Yteeakklnlcjgbaa.P

end
section

namespace Go.Proofs.Yteeakklnlcjgbaa.P
open Go.RowKit Go.Proofs.YteeakklnlcjgbaaW.PrintWords Go.Proofs.YteeakklnlcjgbaaW.PrintLast Go.Proofs.YteeakklnlcjgbaaW.PrintMore
attribute [local go_sem] max2_int min2_int max_two min_two max_three min_three max_four min_four
set_option linter.unusedVariables false
set_option linter.unusedSimpArgs false
def spec_l6Open.f (l0 : List Int) : Option (List Int × Int) := if (l0.length : Int) > 2000 then (if 2000 ≤ (l0.length : Int) then (some (l0.take 2000, 0)) else (none)) else (some (l0, 0))
end Go.Proofs.Yteeakklnlcjgbaa.P

end
section

namespace Go.Proofs.Yteeakklnlcjgbaa.P
open Go.RowKit Go.Proofs.YteeakklnlcjgbaaW.PrintWords Go.Proofs.YteeakklnlcjgbaaW.PrintLast Go.Proofs.YteeakklnlcjgbaaW.PrintMore
attribute [local go_sem] max2_int min2_int max_two min_two max_three min_three max_four min_four
set_option linter.unusedVariables false
set_option linter.unusedSimpArgs false
def spec_l6Rd_pick.j0 : Nat → Int → Bool → List Int → Int → Option (Int × Int)
  | 0, _, _, _, _ => none
  | k + 1, x1, x24, x1000, x1001 => if x24 = true then (some (0, x1001)) else (if (wrap64 (x1001 - 1)) < (x1000.length : Int) then (if 0 ≤ (wrap64 (x1001 - 1)) then (if x1 = 0 then (none) else (some (Int.tmod (wrap64 (rd x1000 (wrap64 (x1001 - 1)))) x1, x1001))) else (none)) else (if (x1000.length : Int) = 0 then (none) else (if 0 ≤ (Int.tmod (wrap64 (x1001 - 1)) (x1000.length : Int)) then (if (Int.tmod (wrap64 (x1001 - 1)) (x1000.length : Int)) < (x1000.length : Int) then (if 0 ≤ (Int.tmod (wrap64 ((wrap64 ((wrap64 (x1001 - 1)) * 7)) + 3)) (x1000.length : Int)) then (if (Int.tmod (wrap64 ((wrap64 ((wrap64 (x1001 - 1)) * 7)) + 3)) (x1000.length : Int)) < (x1000.length : Int) then (if x1 = 0 then (none) else (some (Int.tmod (Go.bits .xor .i64 (wrap64 ((wrap64 ((wrap64 ((wrap64 ((wrap64 (rd x1000 (Int.tmod (wrap64 (x1001 - 1)) (x1000.length : Int)))) * 131)) + (wrap64 ((wrap64 (rd x1000 (Int.tmod (wrap64 ((wrap64 ((wrap64 (x1001 - 1)) * 7)) + 3)) (x1000.length : Int)))) * 1117)))) + (wrap64 ((wrap64 (x1001 - 1)) * 29)))) + (wrap64 ((wrap64 (Int.tdiv (wrap64 (x1001 - 1)) (x1000.length : Int))) * 53)))) (wrap64 (Int.tdiv (wrap64 ((wrap64 ((wrap64 ((wrap64 ((wrap64 (rd x1000 (Int.tmod (wrap64 (x1001 - 1)) (x1000.length : Int)))) * 131)) + (wrap64 ((wrap64 (rd x1000 (Int.tmod (wrap64 ((wrap64 ((wrap64 (x1001 - 1)) * 7)) + 3)) (x1000.length : Int)))) * 1117)))) + (wrap64 ((wrap64 (x1001 - 1)) * 29)))) + (wrap64 ((wrap64 (Int.tdiv (wrap64 (x1001 - 1)) (x1000.length : Int))) * 53)))) 64))) x1, x1001))) else (none)) else (none)) else (none)) else (none))))
def spec_l6Rd_pick.f (k : Nat) (s0_0 : List Int) (s0_1 : Int) (a1 : Int) : Option (Int × Int) := if a1 < 1 then (spec_l6Rd_pick.j0 k a1 true s0_0 (wrap64 (s0_1 + 1))) else (spec_l6Rd_pick.j0 k a1 ((s0_0.length : Int) == 0) s0_0 (wrap64 (s0_1 + 1)))
end Go.Proofs.Yteeakklnlcjgbaa.P

end
section

namespace Go.Proofs.Yteeakklnlcjgbaa.P
open Go.RowKit Go.Proofs.YteeakklnlcjgbaaW.PrintWords Go.Proofs.YteeakklnlcjgbaaW.PrintLast Go.Proofs.YteeakklnlcjgbaaW.PrintMore
attribute [local go_sem] max2_int min2_int max_two min_two max_three min_three max_four min_four
set_option linter.unusedVariables false
set_option linter.unusedSimpArgs false
def spec_l71Word.f (k : Nat) (s0_0 : List Int) (s0_1 : Int) : Option (Int × Int) := (spec_l6Rd_pick.f k s0_0 s0_1 3).bind fun bt305 => (if bt305.1 = 0 then ((some (([0, 1, 2, (-1), (-128), 127] : List Int) : List Int)).bind fun y307 => ((spec_l6Rd_pick.f k s0_0 bt305.2 6).bind fun bt310 => (if 0 ≤ bt310.1 then (if bt310.1 < (y307.length : Int) then (some (rd y307 bt310.1, bt310.2)) else (none)) else (none)))) else ((spec_l6Rd_pick.f k s0_0 bt305.2 12).bind fun bt313 => (some (wrap64 (bt313.1 - 3), bt313.2))))
end Go.Proofs.Yteeakklnlcjgbaa.P

end
section

namespace Go.Proofs.Yteeakklnlcjgbaa.P
open Go.RowKit Go.Proofs.YteeakklnlcjgbaaW.PrintWords Go.Proofs.YteeakklnlcjgbaaW.PrintLast Go.Proofs.YteeakklnlcjgbaaW.PrintMore
attribute [local go_sem] max2_int min2_int max_two min_two max_three min_three max_four min_four
set_option linter.unusedVariables false
set_option linter.unusedSimpArgs false
def spec_l72Val.f (k : Nat) (s0_0 : List Int) (s0_1 : Int) (a1 : Int) : Option (Bool × Int × Int) := (spec_l6Rd_pick.f k s0_0 s0_1 2).bind fun bt316 => (if bt316.1 = 0 then ((spec_l71Word.f k s0_0 bt316.2).bind fun bt318 => (some (false, bt318.1, bt318.2))) else ((spec_l6Rd_pick.f k s0_0 bt316.2 (wrap64 (a1 + 1))).bind fun bt320 => (some (true, bt320.1, bt320.2))))
end Go.Proofs.Yteeakklnlcjgbaa.P

end
section

namespace Go.Proofs.Yteeakklnlcjgbaa.P
open Go.RowKit Go.Proofs.YteeakklnlcjgbaaW.PrintWords Go.Proofs.YteeakklnlcjgbaaW.PrintLast Go.Proofs.YteeakklnlcjgbaaW.PrintMore
attribute [local go_sem] max2_int min2_int max_two min_two max_three min_three max_four min_four
set_option linter.unusedVariables false
set_option linter.unusedSimpArgs false
mutual
def spec_l72Heap.l0 : Nat → Int → List (S48) → Int → List Int → Int → Option ((List (S48)) × (List (S46)) × Int)
  | 0, _, _, _, _, _ => none
  | k + 1, x4, x5, x6, x1000, x1001 => if x6 < x4 then ((spec_l6Rd_pick.f k x1000 x1001 6).bind fun bt327 => ((spec_l6Rd_pick.f k x1000 bt327.2 4).bind fun bt330 => (spec_l72Heap.l1 k x4 x5 x6 bt330.1 x1000 bt330.2 (wrap64 (bt327.1 - 2)) ([] : List (S46))))) else ((spec_l6Rd_pick.f k x1000 x1001 5).bind fun bt344 => (spec_l72Heap.l2 k x4 x5 (([] : List (S46))) bt344.1 x1000 bt344.2))
def spec_l72Heap.l1 : Nat → Int → List (S48) → Int → Int → List Int → Int → Int → List (S46) → Option ((List (S48)) × (List (S46)) × Int)
  | 0, _, _, _, _, _, _, _, _ => none
  | k + 1, x4, x5, x6, x8, x1000, x1001, x330000, x330001 => if x8 > 0 then ((spec_l72Val.f k x1000 x1001 x4).bind fun bt332 => (if x330001.length < 8796093022208 then (spec_l72Heap.l1 k x4 x5 x6 (wrap64 (x8 - 1)) x1000 bt332.2.2 x330000 (x330001 ++ [(⟨bt332.1, bt332.2.1⟩ : S46)])) else (none))) else (if x5.length < 4398046511104 then (spec_l72Heap.l0 k x4 (x5 ++ [(⟨x330000, x330001⟩ : S48)]) (wrap64 (x6 + 1)) x1000 x1001) else (none))
def spec_l72Heap.l2 : Nat → Int → List (S48) → List (S46) → Int → List Int → Int → Option ((List (S48)) × (List (S46)) × Int)
  | 0, _, _, _, _, _, _ => none
  | k + 1, x4, x5, x9, x10, x1000, x1001 => if x10 > 0 then ((spec_l72Val.f k x1000 x1001 x4).bind fun bt346 => (if x9.length < 8796093022208 then (spec_l72Heap.l2 k x4 x5 (x9 ++ [(⟨bt346.1, bt346.2.1⟩ : S46)]) (wrap64 (x10 - 1)) x1000 bt346.2.2) else (none))) else ((spec_l6Rd_pick.f k x1000 x1001 24).bind fun bt352 => (if bt352.1 = 0 then ((some (([(-1), wrap64 (x4 + 1)] : List Int) : List Int)).bind fun y354 => ((spec_l6Rd_pick.f k x1000 bt352.2 2).bind fun bt357 => (if 0 ≤ bt357.1 then (if bt357.1 < (y354.length : Int) then (if x9.length < 8796093022208 then (some (x5, (x9 ++ [(⟨true, rd y354 bt357.1⟩ : S46)]), bt357.2)) else (none)) else (none)) else (none)))) else (some (x5, x9, bt352.2))))
end
def spec_l72Heap.f (k : Nat) (s0_0 : List Int) (s0_1 : Int) : Option ((List (S48)) × (List (S46)) × Int) := (spec_l6Rd_pick.f k s0_0 s0_1 8).bind fun bt322 => (spec_l72Heap.l0 k bt322.1 (([] : List (S48))) 0 s0_0 bt322.2)
end Go.Proofs.Yteeakklnlcjgbaa.P

end
section

namespace Go.Proofs.Yteeakklnlcjgbaa.P
open Go.RowKit Go.Proofs.YteeakklnlcjgbaaW.PrintWords Go.Proofs.YteeakklnlcjgbaaW.PrintLast Go.Proofs.YteeakklnlcjgbaaW.PrintMore
attribute [local go_sem] max2_int min2_int max_two min_two max_three min_three max_four min_four
set_option linter.unusedVariables false
set_option linter.unusedSimpArgs false
def spec_DrawHeapGraph.f (k : Nat) (l0 : List Int) : Option ((List (S48)) × (List (S46))) := (spec_l6Open.f l0).bind fun bt363 => ((spec_l72Heap.f k bt363.1 bt363.2).bind fun bt366 => (some (bt366.1, bt366.2.1)))
end Go.Proofs.Yteeakklnlcjgbaa.P

end
section

namespace Go.Proofs.Yteeakklnlcjgbaa.P
open Go.RowKit Go.Proofs.YteeakklnlcjgbaaW.PrintWords Go.Proofs.YteeakklnlcjgbaaW.PrintLast Go.Proofs.YteeakklnlcjgbaaW.PrintMore
attribute [local go_sem] max2_int min2_int max_two min_two max_three min_three max_four min_four
set_option linter.unusedVariables false
set_option linter.unusedSimpArgs false
def laws_leVals.l0 : Nat → List (S46) → List (S46) → Int → Option (Bool)
  | 0, _, _, _ => none
  | k + 1, x0, x1, x5 => if x5 < (x0.length : Int) then (if 0 ≤ x5 then (if x5 < (x1.length : Int) then (if (!(((rd_T46 x0 x5).f0) == ((rd_T46 x1 x5).f0)) || (!(((rd_T46 x0 x5).f1) == ((rd_T46 x1 x5).f1)))) = true then (some false) else (laws_leVals.l0 k x0 x1 (wrap64 (x5 + 1)))) else (none)) else (none)) else (some true)
def laws_leVals.f (k : Nat) (l0 : List (S46)) (l1 : List (S46)) : Option (Bool) := if (l0.length : Int) = (l1.length : Int) then (laws_leVals.l0 k l0 l1 0) else (some false)
end Go.Proofs.Yteeakklnlcjgbaa.P

end
section

namespace Go.Proofs.Yteeakklnlcjgbaa.P
open Go.RowKit Go.Proofs.YteeakklnlcjgbaaW.PrintWords Go.Proofs.YteeakklnlcjgbaaW.PrintLast Go.Proofs.YteeakklnlcjgbaaW.PrintMore
attribute [local go_sem] max2_int min2_int max_two min_two max_three min_three max_four min_four
set_option linter.unusedVariables false
set_option linter.unusedSimpArgs false
def laws_leObjs.l0 : Nat → List (S48) → List (S48) → Int → Option (Bool)
  | 0, _, _, _ => none
  | k + 1, x0, x1, x5 => if x5 < (x0.length : Int) then (if 0 ≤ x5 then (if x5 < (x1.length : Int) then (if ((rd_T48 x0 x5).f0) = ((rd_T48 x1 x5).f0) then ((laws_leVals.f k ((rd_T48 x0 x5).f1) ((rd_T48 x1 x5).f1)).bind fun t379 => (if t379 = true then (laws_leObjs.l0 k x0 x1 (wrap64 (x5 + 1))) else (some false))) else (some false)) else (none)) else (none)) else (some true)
def laws_leObjs.f (k : Nat) (l0 : List (S48)) (l1 : List (S48)) : Option (Bool) := if (l0.length : Int) = (l1.length : Int) then (laws_leObjs.l0 k l0 l1 0) else (some false)
end Go.Proofs.Yteeakklnlcjgbaa.P

end
section

namespace Go.Proofs.Yteeakklnlcjgbaa.P
open Go.RowKit Go.Proofs.YteeakklnlcjgbaaW.PrintWords Go.Proofs.YteeakklnlcjgbaaW.PrintLast Go.Proofs.YteeakklnlcjgbaaW.PrintMore
attribute [local go_sem] max2_int min2_int max_two min_two max_three min_three max_four min_four
set_option linter.unusedVariables false
set_option linter.unusedSimpArgs false
def laws_FnGraphTwice.j0 : Nat → List (S48) → List (S48) → List (S46) → Bool → Option (Bool)
  | 0, _, _, _, _ => none
  | k + 1, x3, x5, x6, x40 => if x40 = true then (some false) else ((impl_HeapGraph.f k x5 x6).bind fun bt474 => ((laws_leObjs.f k bt474.1 x5).bind fun t480 => (if t480 = true then ((laws_leVals.f k bt474.2 x6).bind fun t481 => (if t481 = true then (if (x5.length : Int) ≤ (x3.length : Int) then ((impl_HeapOk.f k x5 x6).bind fun t482 => (some t482)) else (some false)) else (some false))) else (some false))))
def laws_FnGraphTwice.f (k : Nat) (l0 : List Int) : Option (Bool) := if (l0.length : Int) > 1048576 then (some true) else ((spec_DrawHeapGraph.f k l0).bind fun bt454 => ((impl_HeapGraph.f k bt454.1 bt454.2).bind fun bt460 => ((spec_HeapGraph.f k bt454.1 bt454.2).bind fun bt466 => ((laws_leObjs.f k bt460.1 bt466.1).bind fun t472 => (if t472 = true then ((laws_leVals.f k bt460.2 bt466.2).bind fun t473 => (laws_FnGraphTwice.j0 k bt454.1 bt460.1 bt460.2 (!t473))) else (laws_FnGraphTwice.j0 k bt454.1 bt460.1 bt460.2 true))))))
def laws_FnGraphTwice.Pure : Prop := ∀ (l0 : List Int), l0.length ≤ maxLen → l0.length * 1 ≤ 140737488351232 → (∀ x ∈ l0, (Lit.int .u8 x).wf = true) → ∃ k, laws_FnGraphTwice.f k l0 = some true
end Go.Proofs.Yteeakklnlcjgbaa.P

end
section

namespace Go.Proofs.Yteeakklnlcjgbaa.P
open Go.RowKit Go.Proofs.YteeakklnlcjgbaaW.PrintWords Go.Proofs.YteeakklnlcjgbaaW.PrintLast Go.Proofs.YteeakklnlcjgbaaW.PrintMore
attribute [local go_sem] max2_int min2_int max_two min_two max_three min_three max_four min_four
set_option linter.unusedVariables false
set_option linter.unusedSimpArgs false
set_option maxHeartbeats 8000000 in
set_option maxRecDepth 100000 in
theorem impl_leadsOk.calls (a0_0 : Bool) (a0_1 : Int) (a1 : Int) (r : Bool) (w : World) (h : impl_leadsOk.f a0_0 a0_1 a1 = some r) :
    Calls Try.prog 39 #[.agg #[.bool a0_0, .int .i64 a0_1], .int .i64 a1] w fun e w' => e = .returned (.bool r) ∧ Below w.heap.size w w' := by
  have hu46 := Try.underlying46
  have HB := Aside0.mk (Below.refl w.heap.size w)
  have H : (if a0_0 = true then (if a0_1 ≥ 0 then (some (decide (a0_1 ≤ a1))) else (some false)) else (some true)) = some r := h
  clear h
  by_cases c3 : a0_0 = true
  · subst c3
    have H1 : (if a0_1 ≥ 0 then (some (decide (a0_1 ≤ a1))) else (some false)) = some r := by rw [if_pos rfl] at H; exact H
    clear H
    have H := H1
    clear H1
    by_cases c4 : a0_1 ≥ 0
    · rw [if_pos c4] at H
      have c4b0 : decide (0 ≤ a0_1) = true := decide_eq_true c4
      clear c4
      obtain rfl := Option.some.inj H
      simp only [Option.some.injEq, Prod.mk.injEq] at H
      obtain ⟨rfl⟩ := H
      go_enter Try.func39, Try.ntmps39
      go_wp2_with (first | ((with_reducible refine gate_dst (N := 2) rfl ?_); refine box_event ?hg (N := 2) ?hd (cs := #[.bool true, .int .i64 a0_1]) (t := 46) ?hr ?_; (case hd => rfl); (case hg => rfl); (case hr => first | (go_simp; done) | (go_simp; rfl)); intro gb171 hg w5 hbox hb; have n0_ := Aside0.mk (below_step (by repeat (first | (with_reducible first | exact HB.out | apply below_alloc | apply pw_below_drewN | apply below_drew1) | exact HB.out)) hb); have n1_ := Aside0.mk (hbox); have n2_ := Aside0.mk ((by rw [hg]; exact (below_size (by repeat (first | (with_reducible first | exact HB.out | apply below_alloc | apply pw_below_drewN | apply below_drew1) | exact HB.out))) : w.heap.size ≤ gb171)); have n3_ := Aside0.mk ((by rw [hg]; exact (below_size (by repeat (first | (with_reducible first | exact HB.out | apply below_alloc | apply pw_below_drewN | apply below_drew1) | exact HB.out))) : w.heap.size ≤ gb171)); clear HB; have HB := n0_; have BK171 := n1_; have GW171 := n2_; have GE171 := n3_; clear n0_ n1_ n2_ n3_; clear hb hbox hg; have hcz6_0 : w5.cell? ⟨gb171, 0, none⟩ = some (.bool true) := (blk_cell BK171.out 0).trans rfl; have hcz6_1 : w5.cell? ⟨gb171, 1, none⟩ = some (.int .i64 a0_1) := (blk_cell BK171.out 1).trans rfl; have hfz6_0 := blk_frozen BK171.out 0; have hfz6_1 := blk_frozen BK171.out 1))
      go_ret
      exact ⟨by first | rfl | (simp [errW_none, errW_some] <;> rfl) | (simp [*, errW_none, errW_some] <;> rfl), by repeat (first | (with_reducible first | exact HB.out | apply below_alloc | apply pw_below_drewN | apply below_drew1 | refine below_set ?_ GE171.out) | exact HB.out)⟩
    · rw [if_neg c4] at H
      have c4b0 : decide (0 ≤ a0_1) = false := decide_eq_false c4
      clear c4
      obtain rfl := Option.some.inj H
      simp only [Option.some.injEq, Prod.mk.injEq] at H
      obtain ⟨rfl⟩ := H
      go_enter Try.func39, Try.ntmps39
      go_wp2_with (first | ((with_reducible refine gate_dst (N := 2) rfl ?_); refine box_event ?hg (N := 2) ?hd (cs := #[.bool true, .int .i64 a0_1]) (t := 46) ?hr ?_; (case hd => rfl); (case hg => rfl); (case hr => first | (go_simp; done) | (go_simp; rfl)); intro gb171 hg w7 hbox hb; have n0_ := Aside0.mk (below_step (by repeat (first | (with_reducible first | exact HB.out | apply below_alloc | apply pw_below_drewN | apply below_drew1) | exact HB.out)) hb); have n1_ := Aside0.mk (hbox); have n2_ := Aside0.mk ((by rw [hg]; exact (below_size (by repeat (first | (with_reducible first | exact HB.out | apply below_alloc | apply pw_below_drewN | apply below_drew1) | exact HB.out))) : w.heap.size ≤ gb171)); have n3_ := Aside0.mk ((by rw [hg]; exact (below_size (by repeat (first | (with_reducible first | exact HB.out | apply below_alloc | apply pw_below_drewN | apply below_drew1) | exact HB.out))) : w.heap.size ≤ gb171)); clear HB; have HB := n0_; have BK171 := n1_; have GW171 := n2_; have GE171 := n3_; clear n0_ n1_ n2_ n3_; clear hb hbox hg; have hcz8_0 : w7.cell? ⟨gb171, 0, none⟩ = some (.bool true) := (blk_cell BK171.out 0).trans rfl; have hcz8_1 : w7.cell? ⟨gb171, 1, none⟩ = some (.int .i64 a0_1) := (blk_cell BK171.out 1).trans rfl; have hfz8_0 := blk_frozen BK171.out 0; have hfz8_1 := blk_frozen BK171.out 1))
      go_ret
      exact ⟨by first | rfl | (simp [errW_none, errW_some] <;> rfl) | (simp [*, errW_none, errW_some] <;> rfl), by repeat (first | (with_reducible first | exact HB.out | apply below_alloc | apply pw_below_drewN | apply below_drew1 | refine below_set ?_ GE171.out) | exact HB.out)⟩
  · replace c3 := Bool.eq_false_iff.mpr c3
    subst c3
    have H1 : (some true) = some r := by rw [if_neg (show ¬ (false = true) by decide)] at H; exact H
    clear H
    have H := H1
    clear H1
    obtain rfl := Option.some.inj H
    simp only [Option.some.injEq, Prod.mk.injEq] at H
    obtain ⟨rfl⟩ := H
    go_enter Try.func39, Try.ntmps39
    go_wp2_with (first | ((with_reducible refine gate_dst (N := 2) rfl ?_); refine box_event ?hg (N := 2) ?hd (cs := #[.bool false, .int .i64 a0_1]) (t := 46) ?hr ?_; (case hd => rfl); (case hg => rfl); (case hr => first | (go_simp; done) | (go_simp; rfl)); intro gb171 hg w9 hbox hb; have n0_ := Aside0.mk (below_step (by repeat (first | (with_reducible first | exact HB.out | apply below_alloc | apply pw_below_drewN | apply below_drew1) | exact HB.out)) hb); have n1_ := Aside0.mk (hbox); have n2_ := Aside0.mk ((by rw [hg]; exact (below_size (by repeat (first | (with_reducible first | exact HB.out | apply below_alloc | apply pw_below_drewN | apply below_drew1) | exact HB.out))) : w.heap.size ≤ gb171)); have n3_ := Aside0.mk ((by rw [hg]; exact (below_size (by repeat (first | (with_reducible first | exact HB.out | apply below_alloc | apply pw_below_drewN | apply below_drew1) | exact HB.out))) : w.heap.size ≤ gb171)); clear HB; have HB := n0_; have BK171 := n1_; have GW171 := n2_; have GE171 := n3_; clear n0_ n1_ n2_ n3_; clear hb hbox hg; have hcz10_0 : w9.cell? ⟨gb171, 0, none⟩ = some (.bool false) := (blk_cell BK171.out 0).trans rfl; have hcz10_1 : w9.cell? ⟨gb171, 1, none⟩ = some (.int .i64 a0_1) := (blk_cell BK171.out 1).trans rfl; have hfz10_0 := blk_frozen BK171.out 0; have hfz10_1 := blk_frozen BK171.out 1))
    go_ret
    exact ⟨by first | rfl | (simp [errW_none, errW_some] <;> rfl) | (simp [*, errW_none, errW_some] <;> rfl), by repeat (first | (with_reducible first | exact HB.out | apply below_alloc | apply pw_below_drewN | apply below_drew1 | refine below_set ?_ GE171.out) | exact HB.out)⟩
end Go.Proofs.Yteeakklnlcjgbaa.P

end
section

namespace Go.Proofs.Yteeakklnlcjgbaa.P
open Go.RowKit Go.Proofs.YteeakklnlcjgbaaW.PrintWords Go.Proofs.YteeakklnlcjgbaaW.PrintLast Go.Proofs.YteeakklnlcjgbaaW.PrintMore
attribute [local go_sem] max2_int min2_int max_two min_two max_three min_three max_four min_four
set_option linter.unusedVariables false
set_option linter.unusedSimpArgs false
set_option maxHeartbeats 8000000 in
set_option maxRecDepth 100000 in
theorem impl_HeapOk.calls (k : Nat) (A0 : Option Addr) (c0 : Nat) (l0 : List (S48)) (A1 : Option Addr) (c1 : Nat) (l1 : List (S46)) (r : Bool) (w : World) (hr0 : Kd.C k48 w A0 l0.length l0) (hc0 : l0.length ≤ c0) (hr1 : Kd.C k46 w A1 l1.length l1) (hc1 : l1.length ≤ c1) (h : impl_HeapOk.f k l0 l1 = some r) :
    Calls Try.prog 20 #[.slice A0 l0.length c0, .slice A1 l1.length c1] w fun e w' => e = .returned (.bool r) ∧ Below w.heap.size w w' := by
  have hu46 := Try.underlying46
  have hu48 := Try.underlying48
  have HR0 := Aside0.mk hr0
  have HC0 := Aside0.mk hc0
  clear hr0 hc0
  have HR1 := Aside0.mk hr1
  have HC1 := Aside0.mk hc1
  clear hr1 hc1
  have HB := Aside0.mk (Below.refl w.heap.size w)
  have H : (impl_HeapOk.l0 k l0 l1 (l1.length : Int) 0) = some r := h
  clear h
  have H' := Aside0.mk H
  clear H
  go_enter Try.func20, Try.ntmps20
  go_wp2
  go_loopg [13] k (fun kq v13 w' => ∃ (x13_1 : Int), v13 = .int .i64 x13_1 ∧ Aside0 (impl_HeapOk.l0 kq l0 l1 (l1.length : Int) x13_1 = some r) ∧ Aside0 (kq ≤ k) ∧ Aside0 (Below w.heap.size w w'))
  case atStart => exact ⟨(0), (by first | rfl | (simp; done) | (simp [*]; done)), H', ⟨Nat.le_refl _⟩, ⟨by repeat (first | (with_reducible first | exact HB.out | apply below_alloc | apply pw_below_drewN | apply below_drew1) | exact HB.out)⟩⟩
  case round =>
    clear H'
    try clear c1
    try clear c2
    try clear p2
    obtain ⟨x13_1, rfl, HA, HK1, HB⟩ := hrel
    cases gk with
    | zero => exact absurd HA.out (by simp [impl_HeapOk.l0])
    | succ k1 =>
      have H := HA.out
      clear HA
      simp only [impl_HeapOk.l0] at H
      by_cases c3 : x13_1 < (l1.length : Int)
      · rw [if_pos c3] at H
        have c3b0 : decide (x13_1 < (l1.length : Int)) = true := decide_eq_true c3
        clear c3
        by_cases c4 : 0 ≤ x13_1
        · rw [if_pos c4] at H
          have c4b0 : decide (0 ≤ x13_1) = true := decide_eq_true c4
          clear c4
          by_cases c5 : x13_1 < (l1.length : Int)
          · rw [if_pos c5] at H
            have c5b0 : decide (x13_1 < (l1.length : Int)) = true := decide_eq_true c5
            clear c5
            replace H := Option.bind_eq_some_iff.mp H
            obtain ⟨t174, A60, H⟩ := H
            replace H : (if t174 = true then (impl_HeapOk.l0 k1 l0 l1 (l1.length : Int) (wrap64 (x13_1 + 1))) else (some false)) = some r := H
            have A6 := Aside0.mk A60
            clear A60
            by_cases c7 : t174 = true
            · subst c7
              have H1 : (impl_HeapOk.l0 k1 l0 l1 (l1.length : Int) (wrap64 (x13_1 + 1))) = some r := by rw [if_pos rfl] at H; exact H
              clear H
              have H := H1
              clear H1
              have H' := Aside0.mk H
              clear H
              have p172 : 0 ≤ (x13_1 : Int) := of_decide_eq_true (by first | (with_reducible assumption) | assumption)
              have q172 : x13_1 < (l1.length : Int) := of_decide_eq_true (by first | (with_reducible assumption) | assumption)
              obtain ⟨ad172, e172, hx172_0, hx172_1⟩ := at_T46 HR1.out x13_1 p172 q172
              cases e172
              replace hx172_0 := (HB.out.cell (World.block_lt_of_cell? w _ hx172_0)).trans hx172_0
              replace hx172_1 := (HB.out.cell (World.block_lt_of_cell? w _ hx172_1)).trans hx172_1
              replace p172 := eq_true p172
              replace q172 := eq_true q172
              go_wp2_with (first | ((with_reducible refine gate_dst (N := 6) rfl ?_); refine box_event ?hg (N := 6) ?hd (cs := #[.bool false, .int .i64 0]) (t := 46) ?hr ?_; (case hd => rfl); (case hg => rfl); (case hr => first | (go_simp; done) | (go_simp; rfl)); intro gb173 hg w8 hbox hb; have n0_ := Aside0.mk (below_step (by repeat (first | (with_reducible first | exact HB.out | apply below_alloc | apply pw_below_drewN | apply below_drew1) | exact HB.out)) hb); have n1_ := Aside0.mk (hbox); have n2_ := Aside0.mk ((by rw [hg]; exact (below_size (by repeat (first | (with_reducible first | exact HB.out | apply below_alloc | apply pw_below_drewN | apply below_drew1) | exact HB.out))) : w.heap.size ≤ gb173)); have n3_ := Aside0.mk ((by rw [hg]; exact (below_size (by repeat (first | (with_reducible first | exact HB.out | apply below_alloc | apply pw_below_drewN | apply below_drew1) | exact HB.out))) : w.heap.size ≤ gb173)); clear HB; have HB := n0_; have BK173 := n1_; have GW173 := n2_; have GE173 := n3_; clear n0_ n1_ n2_ n3_; clear hb hbox hg; have hcz9_0 : w8.cell? ⟨gb173, 0, none⟩ = some (.bool false) := (blk_cell BK173.out 0).trans rfl; have hcz9_1 : w8.cell? ⟨gb173, 1, none⟩ = some (.int .i64 0) := (blk_cell BK173.out 1).trans rfl; have hfz9_0 := blk_frozen BK173.out 0; have hfz9_1 := blk_frozen BK173.out 1) | ((with_reducible refine gate_callee (f := 39) rfl ?_); refine goesL_ (some 20) rfl rfl Try.func39 (by kernel_rfl) rfl #[.agg #[.bool ((rd_T46 l1 x13_1).f0), .int .i64 ((rd_T46 l1 x13_1).f1)], .int .i64 (l0.length : Int)] rfl (by (try simp only [List.map_toArray, List.map_cons, List.map_nil]); first | done | rfl | (simp only [List.length_drop, List.length_take]; rfl)) ?_; (with_reducible refine (impl_leadsOk.calls ((rd_T46 l1 x13_1).f0) ((rd_T46 l1 x13_1).f1) (l0.length : Int) true _ A6.out).mono ?_); rintro e w10 ⟨rfl, hb⟩; refine ⟨_, rfl, ?_⟩; have n0_ := Aside0.mk (blk_below (g := gb173) (o := .cells #[.bool ((rd_T46 l1 x13_1).f0), .int .i64 ((rd_T46 l1 x13_1).f1)] 46 (0, 0)) (by (with_reducible repeat (first | refine blk_drewN ?_ _ | refine blk_drew ?_ | refine blk_alloc ?_ _)); refine blk_put (cs := #[.bool ((rd_T46 l1 x13_1).f0), .int .i64 0]) ?_ 1 _ rfl; (with_reducible repeat (first | refine blk_drewN ?_ _ | refine blk_drew ?_ | refine blk_alloc ?_ _)); refine blk_put (cs := #[.bool false, .int .i64 0]) ?_ 0 _ rfl; (with_reducible repeat (first | refine blk_drewN ?_ _ | refine blk_drew ?_ | refine blk_alloc ?_ _)); exact BK173.out) hb); have n1_ := Aside0.mk (below_step (by repeat (first | (with_reducible first | exact HB.out | apply below_alloc | apply pw_below_drewN | apply below_drew1 | refine below_set ?_ GE173.out) | exact HB.out)) hb); clear BK173; clear HB; have BK173 := n0_; have HB := n1_; clear n0_ n1_; (try clear hb); (try clear hb2); (try clear hk); (try clear hi)))
              go_roundg k1
              case measure => have := HK1.out; omega
              case rel => exact ⟨(wrap64 (x13_1 + 1)), (by first | rfl | (simp; done) | (simp [*]; done)), H', ⟨by have := HK1.out; omega⟩, ⟨by repeat (first | (with_reducible first | exact HB.out | apply below_alloc | apply pw_below_drewN | apply below_drew1 | refine below_set ?_ GE173.out) | exact HB.out)⟩⟩
            · replace c7 := Bool.eq_false_iff.mpr c7
              subst c7
              have H1 : (some false) = some r := by rw [if_neg (show ¬ (false = true) by decide)] at H; exact H
              clear H
              have H := H1
              clear H1
              obtain rfl := Option.some.inj H
              simp only [Option.some.injEq, Prod.mk.injEq] at H
              obtain ⟨rfl⟩ := H
              have p172 : 0 ≤ (x13_1 : Int) := of_decide_eq_true (by first | (with_reducible assumption) | assumption)
              have q172 : x13_1 < (l1.length : Int) := of_decide_eq_true (by first | (with_reducible assumption) | assumption)
              obtain ⟨ad172, e172, hx172_0, hx172_1⟩ := at_T46 HR1.out x13_1 p172 q172
              cases e172
              replace hx172_0 := (HB.out.cell (World.block_lt_of_cell? w _ hx172_0)).trans hx172_0
              replace hx172_1 := (HB.out.cell (World.block_lt_of_cell? w _ hx172_1)).trans hx172_1
              replace p172 := eq_true p172
              replace q172 := eq_true q172
              go_wp2_with (first | ((with_reducible refine gate_dst (N := 6) rfl ?_); refine box_event ?hg (N := 6) ?hd (cs := #[.bool false, .int .i64 0]) (t := 46) ?hr ?_; (case hd => rfl); (case hg => rfl); (case hr => first | (go_simp; done) | (go_simp; rfl)); intro gb173 hg w11 hbox hb; have n0_ := Aside0.mk (below_step (by repeat (first | (with_reducible first | exact HB.out | apply below_alloc | apply pw_below_drewN | apply below_drew1) | exact HB.out)) hb); have n1_ := Aside0.mk (hbox); have n2_ := Aside0.mk ((by rw [hg]; exact (below_size (by repeat (first | (with_reducible first | exact HB.out | apply below_alloc | apply pw_below_drewN | apply below_drew1) | exact HB.out))) : w.heap.size ≤ gb173)); have n3_ := Aside0.mk ((by rw [hg]; exact (below_size (by repeat (first | (with_reducible first | exact HB.out | apply below_alloc | apply pw_below_drewN | apply below_drew1) | exact HB.out))) : w.heap.size ≤ gb173)); clear HB; have HB := n0_; have BK173 := n1_; have GW173 := n2_; have GE173 := n3_; clear n0_ n1_ n2_ n3_; clear hb hbox hg; have hcz12_0 : w11.cell? ⟨gb173, 0, none⟩ = some (.bool false) := (blk_cell BK173.out 0).trans rfl; have hcz12_1 : w11.cell? ⟨gb173, 1, none⟩ = some (.int .i64 0) := (blk_cell BK173.out 1).trans rfl; have hfz12_0 := blk_frozen BK173.out 0; have hfz12_1 := blk_frozen BK173.out 1) | ((with_reducible refine gate_callee (f := 39) rfl ?_); refine goesL_ (some 20) rfl rfl Try.func39 (by kernel_rfl) rfl #[.agg #[.bool ((rd_T46 l1 x13_1).f0), .int .i64 ((rd_T46 l1 x13_1).f1)], .int .i64 (l0.length : Int)] rfl (by (try simp only [List.map_toArray, List.map_cons, List.map_nil]); first | done | rfl | (simp only [List.length_drop, List.length_take]; rfl)) ?_; (with_reducible refine (impl_leadsOk.calls ((rd_T46 l1 x13_1).f0) ((rd_T46 l1 x13_1).f1) (l0.length : Int) false _ A6.out).mono ?_); rintro e w13 ⟨rfl, hb⟩; refine ⟨_, rfl, ?_⟩; have n0_ := Aside0.mk (blk_below (g := gb173) (o := .cells #[.bool ((rd_T46 l1 x13_1).f0), .int .i64 ((rd_T46 l1 x13_1).f1)] 46 (0, 0)) (by (with_reducible repeat (first | refine blk_drewN ?_ _ | refine blk_drew ?_ | refine blk_alloc ?_ _)); refine blk_put (cs := #[.bool ((rd_T46 l1 x13_1).f0), .int .i64 0]) ?_ 1 _ rfl; (with_reducible repeat (first | refine blk_drewN ?_ _ | refine blk_drew ?_ | refine blk_alloc ?_ _)); refine blk_put (cs := #[.bool false, .int .i64 0]) ?_ 0 _ rfl; (with_reducible repeat (first | refine blk_drewN ?_ _ | refine blk_drew ?_ | refine blk_alloc ?_ _)); exact BK173.out) hb); have n1_ := Aside0.mk (below_step (by repeat (first | (with_reducible first | exact HB.out | apply below_alloc | apply pw_below_drewN | apply below_drew1 | refine below_set ?_ GE173.out) | exact HB.out)) hb); clear BK173; clear HB; have BK173 := n0_; have HB := n1_; clear n0_ n1_; (try clear hb); (try clear hb2); (try clear hk); (try clear hi)))
              go_ret
              exact ⟨by first | rfl | (simp [errW_none, errW_some] <;> rfl) | (simp [*, errW_none, errW_some] <;> rfl), by repeat (first | (with_reducible first | exact HB.out | apply below_alloc | apply pw_below_drewN | apply below_drew1 | refine below_set ?_ GE173.out) | exact HB.out)⟩
          · rw [if_neg c5] at H
            exact absurd H (by simp)
        · rw [if_neg c4] at H
          exact absurd H (by simp)
      · rw [if_neg c3] at H
        have c3b0 : decide (x13_1 < (l1.length : Int)) = false := decide_eq_false c3
        clear c3
        have H' := Aside0.mk H
        clear H
        go_wp2
        go_loopg [25] k1 (fun kq v25 w' => ∃ (x25_2 : Int), v25 = .int .i64 x25_2 ∧ Aside0 (impl_HeapOk.l1 kq l0 l0 (l0.length : Int) x25_2 = some r) ∧ Aside0 (kq ≤ k1) ∧ Aside0 (Below w.heap.size w w'))
        case atStart => exact ⟨(0), (by first | rfl | (simp; done) | (simp [*]; done)), H', ⟨Nat.le_refl _⟩, ⟨by repeat (first | (with_reducible first | exact HB.out | apply below_alloc | apply pw_below_drewN | apply below_drew1) | exact HB.out)⟩⟩
        case round =>
          clear H'
          try clear c1
          try clear p1
          try clear q1
          try clear hx1
          try clear c2
          try clear p2
          try clear c3
          try clear c3b0
          try clear c4
          try clear c4b0
          try clear c5
          try clear c5b0
          try clear p6
          try clear c7
          try clear hcz12_0
          try clear hcz12_1
          try clear hcz9_0
          try clear hcz9_1
          try clear hfz12_0
          try clear hfz12_1
          try clear hfz9_0
          try clear hfz9_1
          try clear hx172_0
          try clear hx172_1
          try clear p172
          try clear p2
          try clear q172
          obtain ⟨x25_2, rfl, HA, HK2, HB⟩ := hrel
          cases gk with
          | zero => exact absurd HA.out (by simp [impl_HeapOk.l1])
          | succ k2 =>
            have H := HA.out
            clear HA
            simp only [impl_HeapOk.l1] at H
            by_cases c14 : x25_2 < (l0.length : Int)
            · rw [if_pos c14] at H
              have c14b0 : decide (x25_2 < (l0.length : Int)) = true := decide_eq_true c14
              clear c14
              by_cases c15 : 0 ≤ x25_2
              · rw [if_pos c15] at H
                have c15b0 : decide (0 ≤ x25_2) = true := decide_eq_true c15
                clear c15
                by_cases c16 : x25_2 < (l0.length : Int)
                · rw [if_pos c16] at H
                  have c16b0 : decide (x25_2 < (l0.length : Int)) = true := decide_eq_true c16
                  clear c16
                  have H' := Aside0.mk H
                  clear H
                  have p175 : 0 ≤ (x25_2 : Int) := of_decide_eq_true (by first | (with_reducible assumption) | assumption)
                  have q175 : x25_2 < (l0.length : Int) := of_decide_eq_true (by first | (with_reducible assumption) | assumption)
                  obtain ⟨ad175, A175_1, c175_1, e175, hx175_0, hx175_1, hl175_1, hi175_1⟩ := at_T48 HR0.out x25_2 p175 q175
                  cases e175
                  replace hx175_0 := (HB.out.cell (World.block_lt_of_cell? w _ hx175_0)).trans hx175_0
                  replace hx175_1 := (HB.out.cell (World.block_lt_of_cell? w _ hx175_1)).trans hx175_1
                  have HR175_1 := Aside0.mk hi175_1
                  have HC175_1 := Aside0.mk hl175_1
                  clear hi175_1 hl175_1
                  replace p175 := eq_true p175
                  replace q175 := eq_true q175
                  go_wp2_with (first | ((with_reducible refine gate_dst (N := 8) rfl ?_); refine box_event ?hg (N := 8) ?hd (cs := #[.int .i64 0, .slice none 0 0]) (t := 48) ?hr ?_; (case hd => rfl); (case hg => rfl); (case hr => first | (go_simp; done) | (go_simp; rfl)); intro gb176 hg w17 hbox hb; have n0_ := Aside0.mk (below_step (by repeat (first | (with_reducible first | exact HB.out | apply below_alloc | apply pw_below_drewN | apply below_drew1) | exact HB.out)) hb); have n1_ := Aside0.mk (hbox); have n2_ := Aside0.mk ((by rw [hg]; exact (below_size (by repeat (first | (with_reducible first | exact HB.out | apply below_alloc | apply pw_below_drewN | apply below_drew1) | exact HB.out))) : w.heap.size ≤ gb176)); have n3_ := Aside0.mk ((by rw [hg]; exact (below_size (by repeat (first | (with_reducible first | exact HB.out | apply below_alloc | apply pw_below_drewN | apply below_drew1) | exact HB.out))) : w.heap.size ≤ gb176)); clear HB; have HB := n0_; have BK176 := n1_; have GW176 := n2_; have GE176 := n3_; clear n0_ n1_ n2_ n3_; clear hb hbox hg; have hcz18_0 : w17.cell? ⟨gb176, 0, none⟩ = some (.int .i64 0) := (blk_cell BK176.out 0).trans rfl; have hcz18_1 : w17.cell? ⟨gb176, 1, none⟩ = some (.slice none 0 0) := (blk_cell BK176.out 1).trans rfl; have hfz18_0 := blk_frozen BK176.out 0; have hfz18_1 := blk_frozen BK176.out 1))
                  go_loopg [32] k2 (fun kq v32 w' => ∃ (x32_3 : Int), v32 = .int .i64 x32_3 ∧ Aside0 (impl_HeapOk.l2 kq l0 l0 (l0.length : Int) x25_2 ((rd_T48 l0 x25_2).f1) (((rd_T48 l0 x25_2).f1).length : Int) x32_3 = some r) ∧ Aside0 (kq ≤ k2) ∧ Aside0 (w'.heap[gb176]? = some (.cells #[.int .i64 ((rd_T48 l0 x25_2).f0), (.slice A175_1 ((rd_T48 l0 x25_2).f1).length c175_1)] 48 (0, 0))) ∧ Aside0 (Below w.heap.size w w'))
                  case atStart => exact ⟨(0), (by first | rfl | (simp; done) | (simp [*]; done)), H', ⟨Nat.le_refl _⟩, ⟨by (with_reducible repeat (first | refine blk_drewN ?_ _ | refine blk_drew ?_ | refine blk_alloc ?_ _)); refine blk_put (cs := #[.int .i64 ((rd_T48 l0 x25_2).f0), .slice none 0 0]) ?_ 1 _ rfl; (with_reducible repeat (first | refine blk_drewN ?_ _ | refine blk_drew ?_ | refine blk_alloc ?_ _)); refine blk_put (cs := #[.int .i64 0, .slice none 0 0]) ?_ 0 _ rfl; (with_reducible repeat (first | refine blk_drewN ?_ _ | refine blk_drew ?_ | refine blk_alloc ?_ _)); exact BK176.out⟩, ⟨by repeat (first | (with_reducible first | exact HB.out | apply below_alloc | apply pw_below_drewN | apply below_drew1 | refine below_set ?_ GE176.out) | exact HB.out)⟩⟩
                  case round =>
                    clear H'
                    try clear c1
                    try clear p1
                    try clear q1
                    try clear hx1
                    try clear c2
                    try clear p2
                    try clear c3
                    try clear c3b0
                    try clear c4
                    try clear c4b0
                    try clear c5
                    try clear c5b0
                    try clear p6
                    try clear c7
                    try clear c14
                    try clear c14b0
                    try clear c15
                    try clear c15b0
                    try clear c16
                    try clear c16b0
                    try clear c17
                    try clear p17
                    try clear q17
                    try clear hx17
                    try clear hcz12_0
                    try clear hcz12_1
                    try clear hcz18_0
                    try clear hcz18_1
                    try clear hcz9_0
                    try clear hcz9_1
                    try clear hfz12_0
                    try clear hfz12_1
                    try clear hfz18_0
                    try clear hfz18_1
                    try clear hfz9_0
                    try clear hfz9_1
                    try clear hx172_0
                    try clear hx172_1
                    try clear hx175_0
                    try clear hx175_1
                    try clear p1
                    try clear p172
                    try clear p175
                    try clear p2
                    try clear p6
                    try clear q1
                    try clear q172
                    try clear q175
                    obtain ⟨x32_3, rfl, HA, HK3, BK176, HB⟩ := hrel
                    cases gk with
                    | zero => exact absurd HA.out (by simp [impl_HeapOk.l2])
                    | succ k3 =>
                      have H := HA.out
                      clear HA
                      simp only [impl_HeapOk.l2] at H
                      by_cases c19 : x32_3 < (((rd_T48 l0 x25_2).f1).length : Int)
                      · rw [if_pos c19] at H
                        have c19b0 : decide (x32_3 < (((rd_T48 l0 x25_2).f1).length : Int)) = true := decide_eq_true c19
                        clear c19
                        by_cases c20 : 0 ≤ x32_3
                        · rw [if_pos c20] at H
                          have c20b0 : decide (0 ≤ x32_3) = true := decide_eq_true c20
                          clear c20
                          by_cases c21 : x32_3 < (((rd_T48 l0 x25_2).f1).length : Int)
                          · rw [if_pos c21] at H
                            have c21b0 : decide (x32_3 < (((rd_T48 l0 x25_2).f1).length : Int)) = true := decide_eq_true c21
                            clear c21
                            replace H := Option.bind_eq_some_iff.mp H
                            obtain ⟨t179, A220, H⟩ := H
                            replace H : (if t179 = true then (impl_HeapOk.l2 k3 l0 l0 (l0.length : Int) x25_2 ((rd_T48 l0 x25_2).f1) (((rd_T48 l0 x25_2).f1).length : Int) (wrap64 (x32_3 + 1))) else (some false)) = some r := H
                            have A22 := Aside0.mk A220
                            clear A220
                            by_cases c23 : t179 = true
                            · subst c23
                              have H1 : (impl_HeapOk.l2 k3 l0 l0 (l0.length : Int) x25_2 ((rd_T48 l0 x25_2).f1) (((rd_T48 l0 x25_2).f1).length : Int) (wrap64 (x32_3 + 1))) = some r := by rw [if_pos rfl] at H; exact H
                              clear H
                              have H := H1
                              clear H1
                              have H' := Aside0.mk H
                              clear H
                              have p177 : 0 ≤ (x32_3 : Int) := of_decide_eq_true (by first | (with_reducible assumption) | assumption)
                              have q177 : x32_3 < (((rd_T48 l0 x25_2).f1).length : Int) := of_decide_eq_true (by first | (with_reducible assumption) | assumption)
                              obtain ⟨ad177, e177, hx177_0, hx177_1⟩ := at_T46 HR175_1.out x32_3 p177 q177
                              cases e177
                              replace hx177_0 := (HB.out.cell (World.block_lt_of_cell? w _ hx177_0)).trans hx177_0
                              replace hx177_1 := (HB.out.cell (World.block_lt_of_cell? w _ hx177_1)).trans hx177_1
                              replace p177 := eq_true p177
                              replace q177 := eq_true q177
                              go_wp2_with (first | ((with_reducible refine gate_dst (N := 10) rfl ?_); refine box_event ?hg (N := 10) ?hd (cs := #[.bool false, .int .i64 0]) (t := 46) ?hr ?_; (case hd => rfl); (case hg => rfl); (case hr => first | (go_simp; done) | (go_simp; rfl)); intro gb178 hg w24 hbox hb; have n0_ := Aside0.mk (blk_below (g := gb176) (o := .cells #[.int .i64 ((rd_T48 l0 x25_2).f0), .slice (some ad177) ((rd_T48 l0 x25_2).f1).length c175_1] 48 (0, 0)) (by (with_reducible repeat (first | refine blk_drewN ?_ _ | refine blk_drew ?_ | refine blk_alloc ?_ _)); exact BK176.out) hb); have n1_ := Aside0.mk (below_step (by repeat (first | (with_reducible first | exact HB.out | apply below_alloc | apply pw_below_drewN | apply below_drew1 | refine below_set ?_ GE176.out) | exact HB.out)) hb); have n2_ := Aside0.mk (hbox); have n3_ := Aside0.mk ((by rw [hg]; exact (below_size (by repeat (first | (with_reducible first | exact HB.out | apply below_alloc | apply pw_below_drewN | apply below_drew1 | refine below_set ?_ GE176.out) | exact HB.out))) : w.heap.size ≤ gb178)); have n4_ := Aside0.mk ((by rw [hg]; exact (below_size (by repeat (first | (with_reducible first | exact HB.out | apply below_alloc | apply pw_below_drewN | apply below_drew1 | refine below_set ?_ GE176.out) | exact HB.out))) : w.heap.size ≤ gb178)); have n5_ := Aside0.mk ((by rw [hg]; exact Nat.ne_of_lt (blk_lt (g := gb176) (o := .cells #[.int .i64 ((rd_T48 l0 x25_2).f0), .slice (some ad177) ((rd_T48 l0 x25_2).f1).length c175_1] 48 (0, 0)) (by (with_reducible repeat (first | refine blk_drewN ?_ _ | refine blk_drew ?_ | refine blk_alloc ?_ _)); exact BK176.out)) : gb176 ≠ gb178)); have n6_ := Aside0.mk ((by rw [hg]; exact Nat.ne_of_gt (blk_lt (g := gb176) (o := .cells #[.int .i64 ((rd_T48 l0 x25_2).f0), .slice (some ad177) ((rd_T48 l0 x25_2).f1).length c175_1] 48 (0, 0)) (by (with_reducible repeat (first | refine blk_drewN ?_ _ | refine blk_drew ?_ | refine blk_alloc ?_ _)); exact BK176.out)) : gb178 ≠ gb176)); clear BK176; clear HB; have BK176 := n0_; have HB := n1_; have BK178 := n2_; have GW178 := n3_; have GE178 := n4_; have NB176_178 := n5_; have NB178_176 := n6_; clear n0_ n1_ n2_ n3_ n4_ n5_ n6_; clear hb hbox hg; have hnb25 := NB178_176.out; have hnc25 := NB176_178.out; have hcz26_0 : w24.cell? ⟨gb178, 0, none⟩ = some (.bool false) := (blk_cell BK178.out 0).trans rfl; have hcz26_1 : w24.cell? ⟨gb178, 1, none⟩ = some (.int .i64 0) := (blk_cell BK178.out 1).trans rfl; have hfz26_0 := blk_frozen BK178.out 0; have hfz26_1 := blk_frozen BK178.out 1) | ((with_reducible refine gate_callee (f := 39) rfl ?_); refine goesL_ (some 39) rfl rfl Try.func39 (by kernel_rfl) rfl #[.agg #[.bool ((rd_T46 ((rd_T48 l0 x25_2).f1) x32_3).f0), .int .i64 ((rd_T46 ((rd_T48 l0 x25_2).f1) x32_3).f1)], .int .i64 (l0.length : Int)] rfl (by (try simp only [List.map_toArray, List.map_cons, List.map_nil]); first | done | rfl | (simp only [List.length_drop, List.length_take]; rfl)) ?_; (with_reducible refine (impl_leadsOk.calls ((rd_T46 ((rd_T48 l0 x25_2).f1) x32_3).f0) ((rd_T46 ((rd_T48 l0 x25_2).f1) x32_3).f1) (l0.length : Int) true _ A22.out).mono ?_); rintro e w27 ⟨rfl, hb⟩; refine ⟨_, rfl, ?_⟩; have n0_ := Aside0.mk (blk_below (g := gb176) (o := .cells #[.int .i64 ((rd_T48 l0 x25_2).f0), .slice (some ad177) ((rd_T48 l0 x25_2).f1).length c175_1] 48 (0, 0)) (by (with_reducible repeat (first | refine blk_drewN ?_ _ | refine blk_drew ?_ | refine blk_alloc ?_ _)); refine blk_far ?_ NB176_178.out _; (with_reducible repeat (first | refine blk_drewN ?_ _ | refine blk_drew ?_ | refine blk_alloc ?_ _)); refine blk_far ?_ NB176_178.out _; (with_reducible repeat (first | refine blk_drewN ?_ _ | refine blk_drew ?_ | refine blk_alloc ?_ _)); exact BK176.out) hb); have n1_ := Aside0.mk (blk_below (g := gb178) (o := .cells #[.bool ((rd_T46 ((rd_T48 l0 x25_2).f1) x32_3).f0), .int .i64 ((rd_T46 ((rd_T48 l0 x25_2).f1) x32_3).f1)] 46 (0, 0)) (by (with_reducible repeat (first | refine blk_drewN ?_ _ | refine blk_drew ?_ | refine blk_alloc ?_ _)); refine blk_put (cs := #[.bool ((rd_T46 ((rd_T48 l0 x25_2).f1) x32_3).f0), .int .i64 0]) ?_ 1 _ rfl; (with_reducible repeat (first | refine blk_drewN ?_ _ | refine blk_drew ?_ | refine blk_alloc ?_ _)); refine blk_put (cs := #[.bool false, .int .i64 0]) ?_ 0 _ rfl; (with_reducible repeat (first | refine blk_drewN ?_ _ | refine blk_drew ?_ | refine blk_alloc ?_ _)); exact BK178.out) hb); have n2_ := Aside0.mk (below_step (by repeat (first | (with_reducible first | exact HB.out | apply below_alloc | apply pw_below_drewN | apply below_drew1 | refine below_set ?_ GE176.out | refine below_set ?_ GE178.out) | exact HB.out)) hb); clear BK176; clear BK178; clear HB; have BK176 := n0_; have BK178 := n1_; have HB := n2_; clear n0_ n1_ n2_; (try clear hb); (try clear hb2); (try clear hk); (try clear hi)))
                              go_roundg k3
                              case measure => have := HK1.out; have := HK2.out; have := HK3.out; omega
                              case rel => exact ⟨(wrap64 (x32_3 + 1)), (by first | rfl | (simp; done) | (simp [*]; done)), H', ⟨by have := HK1.out; have := HK2.out; have := HK3.out; omega⟩, ⟨by (with_reducible repeat (first | refine blk_drewN ?_ _ | refine blk_drew ?_ | refine blk_alloc ?_ _)); exact BK176.out⟩, ⟨by repeat (first | (with_reducible first | exact HB.out | apply below_alloc | apply pw_below_drewN | apply below_drew1 | refine below_set ?_ GE176.out | refine below_set ?_ GE178.out) | exact HB.out)⟩⟩
                            · replace c23 := Bool.eq_false_iff.mpr c23
                              subst c23
                              have H1 : (some false) = some r := by rw [if_neg (show ¬ (false = true) by decide)] at H; exact H
                              clear H
                              have H := H1
                              clear H1
                              obtain rfl := Option.some.inj H
                              simp only [Option.some.injEq, Prod.mk.injEq] at H
                              obtain ⟨rfl⟩ := H
                              have p177 : 0 ≤ (x32_3 : Int) := of_decide_eq_true (by first | (with_reducible assumption) | assumption)
                              have q177 : x32_3 < (((rd_T48 l0 x25_2).f1).length : Int) := of_decide_eq_true (by first | (with_reducible assumption) | assumption)
                              obtain ⟨ad177, e177, hx177_0, hx177_1⟩ := at_T46 HR175_1.out x32_3 p177 q177
                              cases e177
                              replace hx177_0 := (HB.out.cell (World.block_lt_of_cell? w _ hx177_0)).trans hx177_0
                              replace hx177_1 := (HB.out.cell (World.block_lt_of_cell? w _ hx177_1)).trans hx177_1
                              replace p177 := eq_true p177
                              replace q177 := eq_true q177
                              go_wp2_with (first | ((with_reducible refine gate_dst (N := 10) rfl ?_); refine box_event ?hg (N := 10) ?hd (cs := #[.bool false, .int .i64 0]) (t := 46) ?hr ?_; (case hd => rfl); (case hg => rfl); (case hr => first | (go_simp; done) | (go_simp; rfl)); intro gb178 hg w28 hbox hb; have n0_ := Aside0.mk (blk_below (g := gb176) (o := .cells #[.int .i64 ((rd_T48 l0 x25_2).f0), .slice (some ad177) ((rd_T48 l0 x25_2).f1).length c175_1] 48 (0, 0)) (by (with_reducible repeat (first | refine blk_drewN ?_ _ | refine blk_drew ?_ | refine blk_alloc ?_ _)); exact BK176.out) hb); have n1_ := Aside0.mk (below_step (by repeat (first | (with_reducible first | exact HB.out | apply below_alloc | apply pw_below_drewN | apply below_drew1 | refine below_set ?_ GE176.out) | exact HB.out)) hb); have n2_ := Aside0.mk (hbox); have n3_ := Aside0.mk ((by rw [hg]; exact (below_size (by repeat (first | (with_reducible first | exact HB.out | apply below_alloc | apply pw_below_drewN | apply below_drew1 | refine below_set ?_ GE176.out) | exact HB.out))) : w.heap.size ≤ gb178)); have n4_ := Aside0.mk ((by rw [hg]; exact (below_size (by repeat (first | (with_reducible first | exact HB.out | apply below_alloc | apply pw_below_drewN | apply below_drew1 | refine below_set ?_ GE176.out) | exact HB.out))) : w.heap.size ≤ gb178)); have n5_ := Aside0.mk ((by rw [hg]; exact Nat.ne_of_lt (blk_lt (g := gb176) (o := .cells #[.int .i64 ((rd_T48 l0 x25_2).f0), .slice (some ad177) ((rd_T48 l0 x25_2).f1).length c175_1] 48 (0, 0)) (by (with_reducible repeat (first | refine blk_drewN ?_ _ | refine blk_drew ?_ | refine blk_alloc ?_ _)); exact BK176.out)) : gb176 ≠ gb178)); have n6_ := Aside0.mk ((by rw [hg]; exact Nat.ne_of_gt (blk_lt (g := gb176) (o := .cells #[.int .i64 ((rd_T48 l0 x25_2).f0), .slice (some ad177) ((rd_T48 l0 x25_2).f1).length c175_1] 48 (0, 0)) (by (with_reducible repeat (first | refine blk_drewN ?_ _ | refine blk_drew ?_ | refine blk_alloc ?_ _)); exact BK176.out)) : gb178 ≠ gb176)); clear BK176; clear HB; have BK176 := n0_; have HB := n1_; have BK178 := n2_; have GW178 := n3_; have GE178 := n4_; have NB176_178 := n5_; have NB178_176 := n6_; clear n0_ n1_ n2_ n3_ n4_ n5_ n6_; clear hb hbox hg; have hnb29 := NB178_176.out; have hnc29 := NB176_178.out; have hcz30_0 : w28.cell? ⟨gb178, 0, none⟩ = some (.bool false) := (blk_cell BK178.out 0).trans rfl; have hcz30_1 : w28.cell? ⟨gb178, 1, none⟩ = some (.int .i64 0) := (blk_cell BK178.out 1).trans rfl; have hfz30_0 := blk_frozen BK178.out 0; have hfz30_1 := blk_frozen BK178.out 1) | ((with_reducible refine gate_callee (f := 39) rfl ?_); refine goesL_ (some 39) rfl rfl Try.func39 (by kernel_rfl) rfl #[.agg #[.bool ((rd_T46 ((rd_T48 l0 x25_2).f1) x32_3).f0), .int .i64 ((rd_T46 ((rd_T48 l0 x25_2).f1) x32_3).f1)], .int .i64 (l0.length : Int)] rfl (by (try simp only [List.map_toArray, List.map_cons, List.map_nil]); first | done | rfl | (simp only [List.length_drop, List.length_take]; rfl)) ?_; (with_reducible refine (impl_leadsOk.calls ((rd_T46 ((rd_T48 l0 x25_2).f1) x32_3).f0) ((rd_T46 ((rd_T48 l0 x25_2).f1) x32_3).f1) (l0.length : Int) false _ A22.out).mono ?_); rintro e w31 ⟨rfl, hb⟩; refine ⟨_, rfl, ?_⟩; have n0_ := Aside0.mk (blk_below (g := gb176) (o := .cells #[.int .i64 ((rd_T48 l0 x25_2).f0), .slice (some ad177) ((rd_T48 l0 x25_2).f1).length c175_1] 48 (0, 0)) (by (with_reducible repeat (first | refine blk_drewN ?_ _ | refine blk_drew ?_ | refine blk_alloc ?_ _)); refine blk_far ?_ NB176_178.out _; (with_reducible repeat (first | refine blk_drewN ?_ _ | refine blk_drew ?_ | refine blk_alloc ?_ _)); refine blk_far ?_ NB176_178.out _; (with_reducible repeat (first | refine blk_drewN ?_ _ | refine blk_drew ?_ | refine blk_alloc ?_ _)); exact BK176.out) hb); have n1_ := Aside0.mk (blk_below (g := gb178) (o := .cells #[.bool ((rd_T46 ((rd_T48 l0 x25_2).f1) x32_3).f0), .int .i64 ((rd_T46 ((rd_T48 l0 x25_2).f1) x32_3).f1)] 46 (0, 0)) (by (with_reducible repeat (first | refine blk_drewN ?_ _ | refine blk_drew ?_ | refine blk_alloc ?_ _)); refine blk_put (cs := #[.bool ((rd_T46 ((rd_T48 l0 x25_2).f1) x32_3).f0), .int .i64 0]) ?_ 1 _ rfl; (with_reducible repeat (first | refine blk_drewN ?_ _ | refine blk_drew ?_ | refine blk_alloc ?_ _)); refine blk_put (cs := #[.bool false, .int .i64 0]) ?_ 0 _ rfl; (with_reducible repeat (first | refine blk_drewN ?_ _ | refine blk_drew ?_ | refine blk_alloc ?_ _)); exact BK178.out) hb); have n2_ := Aside0.mk (below_step (by repeat (first | (with_reducible first | exact HB.out | apply below_alloc | apply pw_below_drewN | apply below_drew1 | refine below_set ?_ GE176.out | refine below_set ?_ GE178.out) | exact HB.out)) hb); clear BK176; clear BK178; clear HB; have BK176 := n0_; have BK178 := n1_; have HB := n2_; clear n0_ n1_ n2_; (try clear hb); (try clear hb2); (try clear hk); (try clear hi)))
                              go_ret
                              exact ⟨by first | rfl | (simp [errW_none, errW_some] <;> rfl) | (simp [*, errW_none, errW_some] <;> rfl), by repeat (first | (with_reducible first | exact HB.out | apply below_alloc | apply pw_below_drewN | apply below_drew1 | refine below_set ?_ GE176.out | refine below_set ?_ GE178.out) | exact HB.out)⟩
                          · rw [if_neg c21] at H
                            exact absurd H (by simp)
                        · rw [if_neg c20] at H
                          exact absurd H (by simp)
                      · rw [if_neg c19] at H
                        have c19b0 : decide (x32_3 < (((rd_T48 l0 x25_2).f1).length : Int)) = false := decide_eq_false c19
                        clear c19
                        have H' := Aside0.mk H
                        clear H
                        go_wp2
                        go_roundg k3
                        case measure => have := HK1.out; have := HK2.out; have := HK3.out; omega
                        case rel => exact ⟨(wrap64 (x25_2 + 1)), (by first | rfl | (simp; done) | (simp [*]; done)), H', ⟨by have := HK1.out; have := HK2.out; have := HK3.out; omega⟩, ⟨by repeat (first | (with_reducible first | exact HB.out | apply below_alloc | apply pw_below_drewN | apply below_drew1 | refine below_set ?_ GE176.out) | exact HB.out)⟩⟩
                · rw [if_neg c16] at H
                  exact absurd H (by simp)
              · rw [if_neg c15] at H
                exact absurd H (by simp)
            · rw [if_neg c14] at H
              have c14b0 : decide (x25_2 < (l0.length : Int)) = false := decide_eq_false c14
              clear c14
              obtain rfl := Option.some.inj H
              simp only [Option.some.injEq, Prod.mk.injEq] at H
              obtain ⟨rfl⟩ := H
              go_wp2
              go_ret
              exact ⟨by first | rfl | (simp [errW_none, errW_some] <;> rfl) | (simp [*, errW_none, errW_some] <;> rfl), by repeat (first | (with_reducible first | exact HB.out | apply below_alloc | apply pw_below_drewN | apply below_drew1) | exact HB.out)⟩
end Go.Proofs.Yteeakklnlcjgbaa.P

end
section

namespace Go.Proofs.Yteeakklnlcjgbaa.P
open Go.RowKit Go.Proofs.YteeakklnlcjgbaaW.PrintWords Go.Proofs.YteeakklnlcjgbaaW.PrintLast Go.Proofs.YteeakklnlcjgbaaW.PrintMore
attribute [local go_sem] max2_int min2_int max_two min_two max_three min_three max_four min_four
set_option linter.unusedVariables false
set_option linter.unusedSimpArgs false
set_option maxHeartbeats 8000000 in
set_option maxRecDepth 100000 in
theorem spec_l6In.calls (a0 : Int) (a1 : Int) (a2 : Int) (r : Bool) (w : World) (h : spec_l6In.f a0 a1 a2 = some r) :
    Calls Try.prog 47 #[.int .i64 a0, .int .i64 a1, .int .i64 a2] w fun e w' => e = .returned (.bool r) ∧ Drawn0 w w' := by
  have H : (if a0 ≥ a1 then (some (decide (a0 ≤ a2))) else (some false)) = some r := h
  clear h
  by_cases c4 : a0 ≥ a1
  · rw [if_pos c4] at H
    have c4b0 : decide (a1 ≤ a0) = true := decide_eq_true c4
    clear c4
    obtain rfl := Option.some.inj H
    simp only [Option.some.injEq, Prod.mk.injEq] at H
    obtain ⟨rfl⟩ := H
    go_enter Try.func47, Try.ntmps47
    go_wp2
    go_ret
    exact ⟨by first | rfl | (simp; done) | (simp [*]; done), by repeat (first | exact Drawn0.refl _ | apply Drawn0.step)⟩
  · rw [if_neg c4] at H
    have c4b0 : decide (a1 ≤ a0) = false := decide_eq_false c4
    clear c4
    obtain rfl := Option.some.inj H
    simp only [Option.some.injEq, Prod.mk.injEq] at H
    obtain ⟨rfl⟩ := H
    go_enter Try.func47, Try.ntmps47
    go_wp2
    go_ret
    exact ⟨by first | rfl | (simp; done) | (simp [*]; done), by repeat (first | exact Drawn0.refl _ | apply Drawn0.step)⟩
end Go.Proofs.Yteeakklnlcjgbaa.P

end
section

namespace Go.Proofs.Yteeakklnlcjgbaa.P
open Go.RowKit Go.Proofs.YteeakklnlcjgbaaW.PrintWords Go.Proofs.YteeakklnlcjgbaaW.PrintLast Go.Proofs.YteeakklnlcjgbaaW.PrintMore
attribute [local go_sem] max2_int min2_int max_two min_two max_three min_three max_four min_four
set_option linter.unusedVariables false
set_option linter.unusedSimpArgs false
set_option maxHeartbeats 8000000 in
set_option maxRecDepth 100000 in
theorem spec_l12Val.calls (a0_0 : Bool) (a0_1 : Int) (a1 : Int) (r : Bool) (w : World) (h : spec_l12Val.f a0_0 a0_1 a1 = some r) :
    Calls Try.prog 36 #[.agg #[.bool a0_0, .int .i64 a0_1], .int .i64 a1] w fun e w' => e = .returned (.bool r) ∧ Below w.heap.size w w' := by
  have hu46 := Try.underlying46
  have HB := Aside0.mk (Below.refl w.heap.size w)
  have H : (if a0_0 = true then ((spec_l6In.f a0_1 0 a1).bind fun t139 => (some t139)) else (some true)) = some r := h
  clear h
  by_cases c3 : a0_0 = true
  · subst c3
    have H1 : ((spec_l6In.f a0_1 0 a1).bind fun t139 => (some t139)) = some r := by rw [if_pos rfl] at H; exact H
    clear H
    have H := H1
    clear H1
    replace H := Option.bind_eq_some_iff.mp H
    obtain ⟨t139, A40, H⟩ := H
    replace H : (some t139) = some r := H
    have A4 := Aside0.mk A40
    clear A40
    obtain rfl := Option.some.inj H
    simp only [Option.some.injEq, Prod.mk.injEq] at H
    obtain ⟨rfl⟩ := H
    go_enter Try.func36, Try.ntmps36
    go_wp2_with (first | ((with_reducible refine gate_dst (N := 2) rfl ?_); refine box_event ?hg (N := 2) ?hd (cs := #[.bool true, .int .i64 a0_1]) (t := 46) ?hr ?_; (case hd => rfl); (case hg => rfl); (case hr => first | (go_simp; done) | (go_simp; rfl)); intro gb138 hg w5 hbox hb; have n0_ := Aside0.mk (below_step (by repeat (first | (with_reducible first | exact HB.out | apply below_alloc | apply pw_below_drewN | apply below_drew1) | exact HB.out)) hb); have n1_ := Aside0.mk (hbox); have n2_ := Aside0.mk ((by rw [hg]; exact (below_size (by repeat (first | (with_reducible first | exact HB.out | apply below_alloc | apply pw_below_drewN | apply below_drew1) | exact HB.out))) : w.heap.size ≤ gb138)); have n3_ := Aside0.mk ((by rw [hg]; exact (below_size (by repeat (first | (with_reducible first | exact HB.out | apply below_alloc | apply pw_below_drewN | apply below_drew1) | exact HB.out))) : w.heap.size ≤ gb138)); clear HB; have HB := n0_; have BK138 := n1_; have GW138 := n2_; have GE138 := n3_; clear n0_ n1_ n2_ n3_; clear hb hbox hg; have hcz6_0 : w5.cell? ⟨gb138, 0, none⟩ = some (.bool true) := (blk_cell BK138.out 0).trans rfl; have hcz6_1 : w5.cell? ⟨gb138, 1, none⟩ = some (.int .i64 a0_1) := (blk_cell BK138.out 1).trans rfl; have hfz6_0 := blk_frozen BK138.out 0; have hfz6_1 := blk_frozen BK138.out 1) | (go_at_call 47; (with_reducible refine (spec_l6In.calls a0_1 0 a1 t139 _ A4.out).mono ?_); rintro e w' ⟨rfl, ⟨nd, rfl⟩⟩))
    go_ret
    exact ⟨by first | rfl | (simp [errW_none, errW_some] <;> rfl) | (simp [*, errW_none, errW_some] <;> rfl), by repeat (first | (with_reducible first | exact HB.out | apply below_alloc | apply pw_below_drewN | apply below_drew1 | refine below_set ?_ GE138.out) | exact HB.out)⟩
  · replace c3 := Bool.eq_false_iff.mpr c3
    subst c3
    have H1 : (some true) = some r := by rw [if_neg (show ¬ (false = true) by decide)] at H; exact H
    clear H
    have H := H1
    clear H1
    obtain rfl := Option.some.inj H
    simp only [Option.some.injEq, Prod.mk.injEq] at H
    obtain ⟨rfl⟩ := H
    go_enter Try.func36, Try.ntmps36
    go_wp2_with (first | ((with_reducible refine gate_dst (N := 2) rfl ?_); refine box_event ?hg (N := 2) ?hd (cs := #[.bool false, .int .i64 a0_1]) (t := 46) ?hr ?_; (case hd => rfl); (case hg => rfl); (case hr => first | (go_simp; done) | (go_simp; rfl)); intro gb138 hg w7 hbox hb; have n0_ := Aside0.mk (below_step (by repeat (first | (with_reducible first | exact HB.out | apply below_alloc | apply pw_below_drewN | apply below_drew1) | exact HB.out)) hb); have n1_ := Aside0.mk (hbox); have n2_ := Aside0.mk ((by rw [hg]; exact (below_size (by repeat (first | (with_reducible first | exact HB.out | apply below_alloc | apply pw_below_drewN | apply below_drew1) | exact HB.out))) : w.heap.size ≤ gb138)); have n3_ := Aside0.mk ((by rw [hg]; exact (below_size (by repeat (first | (with_reducible first | exact HB.out | apply below_alloc | apply pw_below_drewN | apply below_drew1) | exact HB.out))) : w.heap.size ≤ gb138)); clear HB; have HB := n0_; have BK138 := n1_; have GW138 := n2_; have GE138 := n3_; clear n0_ n1_ n2_ n3_; clear hb hbox hg; have hcz8_0 : w7.cell? ⟨gb138, 0, none⟩ = some (.bool false) := (blk_cell BK138.out 0).trans rfl; have hcz8_1 : w7.cell? ⟨gb138, 1, none⟩ = some (.int .i64 a0_1) := (blk_cell BK138.out 1).trans rfl; have hfz8_0 := blk_frozen BK138.out 0; have hfz8_1 := blk_frozen BK138.out 1))
    go_ret
    exact ⟨by first | rfl | (simp [errW_none, errW_some] <;> rfl) | (simp [*, errW_none, errW_some] <;> rfl), by repeat (first | (with_reducible first | exact HB.out | apply below_alloc | apply pw_below_drewN | apply below_drew1 | refine below_set ?_ GE138.out) | exact HB.out)⟩
end Go.Proofs.Yteeakklnlcjgbaa.P

end
