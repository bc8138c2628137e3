/- A part of the claim FnGraphLed: texts of this session and texts that its program printed out of the translation, joined. -/
import Derived.Test.YteeakklnlcjgbaaCFnGraphLed22
import Derived.Test.YteeakklnlcjgbaaCFnGraphLed0
import Derived.Test.YteeakklnlcjgbaaCFnGraphLed1
import Derived.Test.YteeakklnlcjgbaaCFnGraphLed2
import Derived.Test.YteeakklnlcjgbaaCFnGraphLed3
import Derived.Test.YteeakklnlcjgbaaCFnGraphLed4
import Derived.Test.YteeakklnlcjgbaaCFnGraphLed5
import Derived.Test.YteeakklnlcjgbaaCFnGraphLed6
import Derived.Test.YteeakklnlcjgbaaCFnGraphLed7
import Derived.Test.YteeakklnlcjgbaaCFnGraphLed8
import Derived.Test.YteeakklnlcjgbaaCFnGraphLed9
import Derived.Test.YteeakklnlcjgbaaCFnGraphLed10
import Derived.Test.YteeakklnlcjgbaaCFnGraphLed11
import Derived.Test.YteeakklnlcjgbaaCFnGraphLed12
import Derived.Test.YteeakklnlcjgbaaCFnGraphLed13
import Derived.Test.YteeakklnlcjgbaaCFnGraphLed14
import Derived.Test.YteeakklnlcjgbaaCFnGraphLed15
import Derived.Test.YteeakklnlcjgbaaCFnGraphLed16
import Derived.Test.YteeakklnlcjgbaaCFnGraphLed17
import Derived.Test.YteeakklnlcjgbaaCFnGraphLed18
import Derived.Test.YteeakklnlcjgbaaCFnGraphLed19
import Derived.Test.YteeakklnlcjgbaaCFnGraphLed20
import Derived.Test.YteeakklnlcjgbaaCFnGraphLed21
section

namespace Go.Proofs.Yteeakklnlcjgbaa.P
open Go Go.RowKit Go.Proofs.YteeakklnlcjgbaaW.PrintWords Go.Proofs.YteeakklnlcjgbaaW.PrintLast Go.Proofs.YteeakklnlcjgbaaW.PrintMore
attribute [local go_sem] max2_int min2_int max_two min_two max_three min_three max_four min_four
set_option linter.unusedVariables false
set_option linter.unusedSimpArgs false
def l12_all.T7 : Bool × List (List Nat × List Nat) := (true, [([], []), ([0], [0]), ([1], [1]), ([2], [2]), ([], []), ([4], [4]), ([5], [5]), ([3, 6], [3, 6]), ([7], [7]), ([0, 1, 2, 3, 4, 5, 6, 7, 8], []), ([9, 8, 0, 1, 2, 3, 4, 5, 6, 7, 8], [8, 9])])
def l12_all.B7 : List Nat := [0, 1, 3, 7, 0, 16, 48, 127, 255, 511, 1023]
theorem l12_all.tab7 : rtab .any (opsOf Try.f49 7) = l12_all.T7 := by kernel_rfl
theorem l12_all.bits7 : waitsOk l12_all.T7.2 l12_all.B7 = true := by kernel_rfl
theorem addr_add0 (g k : Nat) : (⟨g, 0, none⟩ : Addr).add k = ⟨g, k, none⟩ := by cases k <;> simp [Addr.add]
def l12_mv (nl : List Int) (v : GVal) : Option GVal :=
  if v.f0 = true then (if 0 < v.f1 then (if 0 ≤ wrap64 (v.f1 - 1) ∧ wrap64 (v.f1 - 1) < (nl.length : Int) then some ⟨true, rd nl (wrap64 (v.f1 - 1))⟩ else none) else some v) else some v
def l12_all.l0 : Nat → List Int → List GVal → Int → List GVal → Option (List GVal)
  | 0, _, _, _, _ => none
  | k + 1, nl, vs, i, g => if i < (vs.length : Int) then (if 0 ≤ i then ((l12_mv nl (rd_T46 vs i)).bind fun u => (if g.length < 8796093022208 then l12_all.l0 k nl vs (wrap64 (i + 1)) (g ++ [u]) else none)) else none) else some g
def l12_all.f (k : Nat) (nl : List Int) (vs : List GVal) : Option (List GVal) := l12_all.l0 k nl vs 0 []
set_option maxHeartbeats 8000000 in
set_option maxRecDepth 100000 in
theorem l12_all.calls (k : Nat) (bw gn : Nat) (nl : List Int) (vo : Value) (A0 : Option Addr) (c0 : Nat) (l0 : List GVal) (r : List GVal) (w : World) (hb : w.heap[bw]? = some (.cells #[.slice (some ⟨gn, 0, none⟩) nl.length nl.length, vo] 76 (0, 0)))
    (hn : Kd.C (Kd.int .i64) w (some ⟨gn, 0, none⟩) nl.length nl) (hr0 : Kd.C k46 w A0 l0.length l0) (hc0 : l0.length ≤ c0) (h : l12_all.f k nl l0 = some r) :
    Calls Try.prog 49 #[.pointer (some ⟨bw, 0, none⟩), .slice A0 l0.length c0] w fun e w' => ∃ v0_ : Value, e = .returned (v0_) ∧ Kd.R k46 46 w' w.heap.size (fun _ => True) v0_ r ∧ Below w.heap.size w w' := by
  have HBW := Aside0.mk hb
  have HNL := Aside0.mk hn
  have HR0 := Aside0.mk hr0
  have HC0 := Aside0.mk hc0
  have HB := Aside0.mk (Below.refl w.heap.size w)
  have H' := Aside0.mk (show l12_all.l0 k nl l0 0 [] = some r from h)
  clear hb hn hr0 hc0 h
  go_enter Try.func49, Try.ntmps49
  go_wp2_with (first | ((with_reducible refine gate_dst (N := 8) rfl ?_); refine Kd.R_lit k46 _ 46 ?hg (N := 8) ?hd (xs := ([] : List GVal)) (inner := []) (ok := fun _ => True) (okp := fun _ => True) ?hr ?hp (fun _ hk => hk) trivial (Below.refl _ _) (Nat.le_refl _) (by simp) ?_; (case hd => rfl); (case hg => rfl); (case hr => first | (go_simp; done) | (go_simp; rfl)); (case hp => exact (Reps.none _ _)); intro v360 w4 ho5 hb hg_ hnew_; clear hg_ hnew_; have n0_ := Aside0.mk (Kd.R_lower ho5 (below_size HB.out)); have n1_ := Aside0.mk (below_step HB.out hb); clear HB; have HO := n0_; have HB := n1_; clear n0_ n1_; clear hb ho5))
  go_loopg [5, 6] k (fun kq v5 v6 w' => ∃ (g : List GVal) (i : Int), v6 = .int .i64 i ∧ Aside0 (l12_all.l0 kq nl l0 i g = some r) ∧ Aside0 (kq ≤ k) ∧ Aside0 (Kd.R k46 46 w' w.heap.size (fun _ => True) v5 g) ∧ Aside0 (Below w.heap.size w w'))
  case atStart => exact ⟨[], 0, rfl, H', ⟨Nat.le_refl _⟩, HO, HB⟩
  case round =>
    clear H' HO HB
    obtain ⟨g, i, rfl, HA, HK1, HO, HB⟩ := hrel
    cases gk with
    | zero => exact absurd HA.out (by simp [l12_all.l0])
    | succ k1 =>
      have H := HA.out
      clear HA
      rw [l12_all.l0] at H
      by_cases c3 : i < (l0.length : Int)
      · rw [if_pos c3] at H
        have c3b0 : decide (i < (l0.length : Int)) = true := decide_eq_true c3
        by_cases c4 : 0 ≤ i
        · rw [if_pos c4] at H
          have c4b0 : decide (0 ≤ i) = true := decide_eq_true c4
          replace H := Option.bind_eq_some_iff.mp H
          obtain ⟨u, HS, H⟩ := H
          by_cases hl : g.length < 8796093022208
          · rw [if_pos hl] at H
            have H' := Aside0.mk H
            have HL := Aside0.mk hl
            clear H hl
            obtain ⟨ad, e, hx0, hx1⟩ := at_T46 HR0.out i c4 c3
            cases e
            obtain ⟨y, hy⟩ : ∃ y_, y_ = rd_T46 l0 i := ⟨_, rfl⟩
            rw [← hy] at hx0 hx1 HS
            obtain ⟨b, m⟩ := y
            dsimp only at hx0 hx1
            simp only [l12_mv] at HS
            clear hy
            replace hx0 := (HB.out.cell (World.block_lt_of_cell? w _ hx0)).trans hx0
            replace hx1 := (HB.out.cell (World.block_lt_of_cell? w _ hx1)).trans hx1
            replace c3 := eq_true c3
            replace c4 := eq_true c4
            by_cases hb : b = true
            · subst hb
              rw [if_pos rfl] at HS
              go_upto_region 6 with fail
              refine wpw_world (fun W => Aside0 (Below wr.heap.size wr W ∧ W.heap[wr.heap.size]? = some (.cells #[.bool true, .int .i64 m] 46 (0, 0)))) ?_ ?_
              · exact ⟨by repeat (first | exact Below.refl _ _ | apply below_alloc | refine below_set ?_ (Nat.le_refl _)), blk_new _ _⟩
              clear hx0 hx1
              intro w1 HG
              have hv0 : w1.cell? ⟨wr.heap.size, 0, none⟩ = some (.bool true) := (blk_cell HG.out.2 0).trans rfl
              have hv1 : w1.cell? ⟨wr.heap.size, 1, none⟩ = some (.int .i64 m) := (blk_cell HG.out.2 1).trans rfl
              by_cases hm : 0 < m
              · rw [if_pos hm] at HS
                by_cases hr : 0 ≤ wrap64 (m - 1) ∧ wrap64 (m - 1) < (nl.length : Int)
                · rw [if_pos hr] at HS
                  obtain rfl := Option.some.inj HS
                  clear HS
                  obtain ⟨q0, q1⟩ := hr
                  obtain ⟨adn, en, hn0⟩ := Kd.at_int HNL.out (wrap64 (m - 1)) q0 q1
                  cases en
                  have hlt := HB.out.size
                  replace hn0 := (HG.out.1.cell (World.block_lt_of_cell? wr _ ((HB.out.cell (World.block_lt_of_cell? w _ hn0)).trans hn0))).trans ((HB.out.cell (World.block_lt_of_cell? w _ hn0)).trans hn0)
                  have hw0 : w1.cell? ⟨bw, 0, none⟩ = some (.slice (some ⟨gn, 0, none⟩) nl.length nl.length) := (blk_cell (blk_below (blk_below HBW.out HB.out) HG.out.1) 0).trans rfl
                  clear hlt
                  replace q0 := eq_true q0
                  replace q1 := eq_true q1
                  have q2 : (0 < m) = True := eq_true hm
                  clear hm
                  have hf1 := blk_frozen HG.out.2 1
                  go_upto_region 7 with fail
                  refine start_ (n := 11) (S := fun w' => w'.cell? ⟨wr.heap.size, 1, none⟩ = some (.int .i64 m) ∧ w'.cell? ⟨bw, 0, none⟩ = some (.slice (some ⟨gn, 0, none⟩) nl.length nl.length) ∧ w'.cell? ⟨gn, (wrap64 (m - 1)).toNat, none⟩ = some (.int .i64 (rd nl (wrap64 (m - 1))))) (ds := [10]) #[false, false, false, false, false, false, false, false, false, false, false] (by kernel_rfl) rfl rfl ⟨hv1, hw0, (by rw [addr_add0] at hn0; exact hn0)⟩ (fun hHeld => ?_); refine with_tabW l12_all.tab7 l12_all.bits7 (fun HT_ HW_ => ?_)
                  refine pu 0 26 #[true, false, false, false, false, false, false, false, false, false, false] HT_ rfl rfl ?_
                  refine pu 1 27 #[true, true, false, false, false, false, false, false, false, false, false] HT_ rfl rfl ?_
                  refine pu 2 28 #[true, true, true, false, false, false, false, false, false, false, false] HT_ rfl rfl ?_
                  refine pu 4 30 #[true, true, true, false, true, false, false, false, false, false, false] HT_ rfl rfl ?_
                  refine ta 3 29 #[true, true, true, true, true, false, false, false, false, false, false] HT_ HW_ hHeld rfl rfl ?_
                  refine ta 5 31 #[true, true, true, true, true, true, false, false, false, false, false] HT_ HW_ hHeld rfl rfl ?_
                  refine pu 6 32 #[true, true, true, true, true, true, true, false, false, false, false] HT_ rfl rfl ?_
                  refine pu 7 33 #[true, true, true, true, true, true, true, true, false, false, false] HT_ rfl rfl ?_
                  refine ta 8 34 #[true, true, true, true, true, true, true, true, true, false, false] HT_ HW_ hHeld rfl rfl ?_
                  refine pu 9 35 #[true, true, true, true, true, true, true, true, true, true, false] HT_ rfl rfl ?_
                  refine last_ (i := 10) (N := none) #[true, true, true, true, true, true, true, true, true, true, true] rfl rfl (one_of HT_.out (by kernel_rfl)) (by decide) (fun K hK => ?_)
                  refine skip_ (w1 := ?_) (by rfl) rfl ?_ ?_
                  rotate_left 1
                  · go_simp
                    rfl
                  refine hK.out _ _ ?_
                  clear hK K hHeld
                  refine done_ (done_of HT_.out (by kernel_rfl)) ?_
                  go_upto_region 8 with fail
                  refine wpw_world (fun W => Aside0 (Kd.R k46 46 W w.heap.size (fun _ => True) u5 g ∧ Below w.heap.size w W) ∧ W.heap[wr.heap.size]? = some (.cells #[.bool true, .int .i64 (rd nl (wrap64 (m - 1)))] 46 (0, 0))) ?_ ?_
                  · refine ⟨⟨Kd.R_below HO.out ?_, below_step HB.out ?_⟩, blk_put (cs := #[.bool true, .int .i64 m]) (blk_drew HG.out.2) 1 _ rfl⟩
                    · repeat (first | exact HG.out.1 | apply below_drew1 | refine below_set ?_ (Nat.le_refl _))
                    · repeat (first | exact HG.out.1 | apply below_drew1 | refine below_set ?_ (Nat.le_refl _))
                  clear HO HB
                  rintro w6 ⟨HG6, hbk⟩
                  have hb0 : w6.cell? ⟨wr.heap.size, 0, none⟩ = some (.bool true) := (blk_cell hbk 0).trans rfl
                  have hb1 : w6.cell? ⟨wr.heap.size, 1, none⟩ = some (.int .i64 (rd nl (wrap64 (m - 1)))) := (blk_cell hbk 1).trans rfl
                  go_wp2_with (first | ((with_reducible refine gate_builtin (b := .append) (xs := #[.tmp 36, .tmp 38]) rfl ?_); at_builtin; refine Kd.R_append k46 (w0 := w) w.heap.size rfl (.tmp 36) (.tmp 38) 35 46 (.agg #[(.bool false), (.int .i64 0)]) 16 rfl Try.underlying35 info46 rfl (by decide) (by omega) u5 g (⟨true, rd nl (wrap64 (m - 1))⟩ : GVal) [.bool true, .int .i64 (rd nl (wrap64 (m - 1)))] (fun _ => True) (fun _ => False) rfl (by first | (go_simp; done) | (go_simp; rfl)) ?aP (fun _ hk => hk.elim) (fun _ _ => trivial) ?aO ?aB ?aS ?aL ?_; (case aP => exact k46_mkM _ _ _ (⟨true, rd nl (wrap64 (m - 1))⟩ : GVal)); (case aB => exact HG6.out.2); (case aO => exact Kd.R_mono HG6.out.1 (fun _ _ => trivial)); (case aS => exact HG6.out.2.size); (case aL => have := HL.out; omega); intro v12 w12 ho hb hg hat; have HO := Aside0.mk ho; have HB := Aside0.mk hb; clear ho hb hg hat hbk hb0 hb1 HG6))
                  go_roundg k1
                  case measure => have := HK1.out; omega
                  case rel => exact ⟨_, wrap64 (i + 1), rfl, H', ⟨by have := HK1.out; omega⟩, HO, HB⟩
                · rw [if_neg hr] at HS
                  exact absurd HS (by simp)
              · rw [if_neg hm] at HS
                obtain rfl := Option.some.inj HS
                clear HS
                have q2 : (0 < m) = False := eq_false hm
                clear hm
                go_upto_region 8 with fail
                refine wpw_world (fun W => Aside0 (Kd.R k46 46 W w.heap.size (fun _ => True) u5 g ∧ Below w.heap.size w W) ∧ W.heap[wr.heap.size]? = some (.cells #[.bool true, .int .i64 m] 46 (0, 0))) ?_ ?_
                · refine ⟨⟨Kd.R_below HO.out ?_, below_step HB.out ?_⟩, HG.out.2⟩
                  · repeat (first | exact HG.out.1 | apply below_drew1 | refine below_set ?_ (Nat.le_refl _))
                  · repeat (first | exact HG.out.1 | apply below_drew1 | refine below_set ?_ (Nat.le_refl _))
                clear HO HB
                rintro w6 ⟨HG6, hbk⟩
                have hb0 : w6.cell? ⟨wr.heap.size, 0, none⟩ = some (.bool true) := (blk_cell hbk 0).trans rfl
                have hb1 : w6.cell? ⟨wr.heap.size, 1, none⟩ = some (.int .i64 m) := (blk_cell hbk 1).trans rfl
                go_wp2_with (first | ((with_reducible refine gate_builtin (b := .append) (xs := #[.tmp 36, .tmp 38]) rfl ?_); at_builtin; refine Kd.R_append k46 (w0 := w) w.heap.size rfl (.tmp 36) (.tmp 38) 35 46 (.agg #[(.bool false), (.int .i64 0)]) 16 rfl Try.underlying35 info46 rfl (by decide) (by omega) u5 g (⟨true, m⟩ : GVal) [.bool true, .int .i64 m] (fun _ => True) (fun _ => False) rfl (by first | (go_simp; done) | (go_simp; rfl)) ?aP (fun _ hk => hk.elim) (fun _ _ => trivial) ?aO ?aB ?aS ?aL ?_; (case aP => exact k46_mkM _ _ _ (⟨true, m⟩ : GVal)); (case aB => exact HG6.out.2); (case aO => exact Kd.R_mono HG6.out.1 (fun _ _ => trivial)); (case aS => exact HG6.out.2.size); (case aL => have := HL.out; omega); intro v12 w12 ho hb hg hat; have HO := Aside0.mk ho; have HB := Aside0.mk hb; clear ho hb hg hat hbk hb0 hb1 HG6))
                go_roundg k1
                case measure => have := HK1.out; omega
                case rel => exact ⟨_, wrap64 (i + 1), rfl, H', ⟨by have := HK1.out; omega⟩, HO, HB⟩
            · obtain rfl := Bool.eq_false_iff.mpr hb
              rw [if_neg (by simp)] at HS
              obtain rfl := Option.some.inj HS
              clear HS hb
              go_upto_region 6 with fail
              refine wpw_world (fun W => Aside0 (Below wr.heap.size wr W ∧ W.heap[wr.heap.size]? = some (.cells #[.bool false, .int .i64 m] 46 (0, 0)))) ?_ ?_
              · exact ⟨by repeat (first | exact Below.refl _ _ | apply below_alloc | refine below_set ?_ (Nat.le_refl _)), blk_new _ _⟩
              clear hx0 hx1
              intro w1 HG
              have hv0 : w1.cell? ⟨wr.heap.size, 0, none⟩ = some (.bool false) := (blk_cell HG.out.2 0).trans rfl
              have hv1 : w1.cell? ⟨wr.heap.size, 1, none⟩ = some (.int .i64 m) := (blk_cell HG.out.2 1).trans rfl
              go_upto_region 8 with fail
              refine wpw_world (fun W => Aside0 (Kd.R k46 46 W w.heap.size (fun _ => True) u5 g ∧ Below w.heap.size w W) ∧ W.heap[wr.heap.size]? = some (.cells #[.bool false, .int .i64 m] 46 (0, 0))) ?_ ?_
              · refine ⟨⟨Kd.R_below HO.out ?_, below_step HB.out ?_⟩, HG.out.2⟩
                · repeat (first | exact HG.out.1 | apply below_drew1 | refine below_set ?_ (Nat.le_refl _))
                · repeat (first | exact HG.out.1 | apply below_drew1 | refine below_set ?_ (Nat.le_refl _))
              clear HO HB
              rintro w6 ⟨HG6, hbk⟩
              have hb0 : w6.cell? ⟨wr.heap.size, 0, none⟩ = some (.bool false) := (blk_cell hbk 0).trans rfl
              have hb1 : w6.cell? ⟨wr.heap.size, 1, none⟩ = some (.int .i64 m) := (blk_cell hbk 1).trans rfl
              go_wp2_with (first | ((with_reducible refine gate_builtin (b := .append) (xs := #[.tmp 36, .tmp 38]) rfl ?_); at_builtin; refine Kd.R_append k46 (w0 := w) w.heap.size rfl (.tmp 36) (.tmp 38) 35 46 (.agg #[(.bool false), (.int .i64 0)]) 16 rfl Try.underlying35 info46 rfl (by decide) (by omega) u5 g (⟨false, m⟩ : GVal) [.bool false, .int .i64 m] (fun _ => True) (fun _ => False) rfl (by first | (go_simp; done) | (go_simp; rfl)) ?aP (fun _ hk => hk.elim) (fun _ _ => trivial) ?aO ?aB ?aS ?aL ?_; (case aP => exact k46_mkM _ _ _ (⟨false, m⟩ : GVal)); (case aB => exact HG6.out.2); (case aO => exact Kd.R_mono HG6.out.1 (fun _ _ => trivial)); (case aS => exact HG6.out.2.size); (case aL => have := HL.out; omega); intro v12 w12 ho hb hg hat; have HO := Aside0.mk ho; have HB := Aside0.mk hb; clear ho hb hg hat hbk hb0 hb1 HG6))
              go_roundg k1
              case measure => have := HK1.out; omega
              case rel => exact ⟨_, wrap64 (i + 1), rfl, H', ⟨by have := HK1.out; omega⟩, HO, HB⟩
          · rw [if_neg hl] at H
            exact absurd H (by simp)
        · rw [if_neg c4] at H
          exact absurd H (by simp)
      · rw [if_neg c3] at H
        have c3b0 : decide (i < (l0.length : Int)) = false := decide_eq_false c3
        obtain rfl := Option.some.inj H
        clear c3
        go_wp2
        go_ret
        exact ⟨_, rfl, HO.out, HB.out⟩
end Go.Proofs.Yteeakklnlcjgbaa.P

end
section

namespace Go.Proofs.Yteeakklnlcjgbaa.P
open Go Go.RowKit Go.Proofs.YteeakklnlcjgbaaW.PrintWords Go.Proofs.YteeakklnlcjgbaaW.PrintLast Go.Proofs.YteeakklnlcjgbaaW.PrintMore
set_option linter.unusedVariables false
def l12_out : Nat → List GObj → List Int → List Int → Int → List GObj → Option (List GObj)
  | 0, _, _, _, _, _ => none
  | k + 1, objs, nl, o, i, g => if i < (o.length : Int) then (if 0 ≤ i ∧ 0 ≤ wrap64 (rd o i - 1) ∧ wrap64 (rd o i - 1) < (objs.length : Int) then ((l12_all.f k nl (rd_T48 objs (wrap64 (rd o i - 1))).f1).bind fun vs => (if g.length < 4398046511104 then l12_out k objs nl o (wrap64 (i + 1)) (g ++ [(⟨(rd_T48 objs (wrap64 (rd o i - 1))).f0, vs⟩ : GObj)]) else none)) else none) else some g
def spec_l12Graph.f (k : Nat) (l0 : List GObj) (l1 : List GVal) : Option (List GObj × List GVal) :=
  if l0.length + 1 < 8796093022208 then ((g_comes k (l0.length + 1) l1 0 []).bind fun o1 => ((g_walk k l0 0 o1).bind fun o => ((l12_out k l0 (g_numL l0.length o) o 0 []).bind fun g => ((l12_all.f k (g_numL l0.length o) l1).bind fun r => some (g, r))))) else none
end Go.Proofs.Yteeakklnlcjgbaa.P

end
section

namespace Go.Proofs.Yteeakklnlcjgbaa.P
open Go.RowKit Go.Proofs.YteeakklnlcjgbaaW.PrintWords Go.Proofs.YteeakklnlcjgbaaW.PrintLast Go.Proofs.YteeakklnlcjgbaaW.PrintMore
attribute [local go_sem] max2_int min2_int max_two min_two max_three min_three max_four min_four
set_option linter.unusedVariables false
set_option linter.unusedSimpArgs false
def spec_HeapGraph.f (k : Nat) (l0 : List (S48)) (l1 : List (S46)) : Option ((List (S48)) × (List (S46))) := (spec_HeapOk.f k l0 l1).bind fun t232 => (if t232 = true then ((spec_l12Graph.f k l0 l1).bind fun bt233 => (some (bt233.1, bt233.2))) else (some ((([] : List (S48))), (([] : List (S46))))))
end Go.Proofs.Yteeakklnlcjgbaa.P

end
section

namespace Go.Proofs.Yteeakklnlcjgbaa.P
open Go.RowKit Go.Proofs.YteeakklnlcjgbaaW.PrintWords Go.Proofs.YteeakklnlcjgbaaW.PrintLast Go.Proofs.YteeakklnlcjgbaaW.PrintMore
attribute [local go_sem] max2_int min2_int max_two min_two max_three min_three max_four min_four
set_option linter.unusedVariables false
set_option linter.unusedSimpArgs false
def spec_l6Open.f (l0 : List Int) : Option (List Int × Int) := if (l0.length : Int) > 2000 then (if 2000 ≤ (l0.length : Int) then (some (l0.take 2000, 0)) else (none)) else (some (l0, 0))
end Go.Proofs.Yteeakklnlcjgbaa.P

end
section

namespace Go.Proofs.Yteeakklnlcjgbaa.P
open Go.RowKit Go.Proofs.YteeakklnlcjgbaaW.PrintWords Go.Proofs.YteeakklnlcjgbaaW.PrintLast Go.Proofs.YteeakklnlcjgbaaW.PrintMore
attribute [local go_sem] max2_int min2_int max_two min_two max_three min_three max_four min_four
set_option linter.unusedVariables false
set_option linter.unusedSimpArgs false
def spec_l6Rd_pick.j0 : Nat → Int → Bool → List Int → Int → Option (Int × Int)
  | 0, _, _, _, _ => none
  | k + 1, x1, x24, x1000, x1001 => if x24 = true then (some (0, x1001)) else (if (wrap64 (x1001 - 1)) < (x1000.length : Int) then (if 0 ≤ (wrap64 (x1001 - 1)) then (if x1 = 0 then (none) else (some (Int.tmod (wrap64 (rd x1000 (wrap64 (x1001 - 1)))) x1, x1001))) else (none)) else (if (x1000.length : Int) = 0 then (none) else (if 0 ≤ (Int.tmod (wrap64 (x1001 - 1)) (x1000.length : Int)) then (if (Int.tmod (wrap64 (x1001 - 1)) (x1000.length : Int)) < (x1000.length : Int) then (if 0 ≤ (Int.tmod (wrap64 ((wrap64 ((wrap64 (x1001 - 1)) * 7)) + 3)) (x1000.length : Int)) then (if (Int.tmod (wrap64 ((wrap64 ((wrap64 (x1001 - 1)) * 7)) + 3)) (x1000.length : Int)) < (x1000.length : Int) then (if x1 = 0 then (none) else (some (Int.tmod (Go.bits .xor .i64 (wrap64 ((wrap64 ((wrap64 ((wrap64 ((wrap64 (rd x1000 (Int.tmod (wrap64 (x1001 - 1)) (x1000.length : Int)))) * 131)) + (wrap64 ((wrap64 (rd x1000 (Int.tmod (wrap64 ((wrap64 ((wrap64 (x1001 - 1)) * 7)) + 3)) (x1000.length : Int)))) * 1117)))) + (wrap64 ((wrap64 (x1001 - 1)) * 29)))) + (wrap64 ((wrap64 (Int.tdiv (wrap64 (x1001 - 1)) (x1000.length : Int))) * 53)))) (wrap64 (Int.tdiv (wrap64 ((wrap64 ((wrap64 ((wrap64 ((wrap64 (rd x1000 (Int.tmod (wrap64 (x1001 - 1)) (x1000.length : Int)))) * 131)) + (wrap64 ((wrap64 (rd x1000 (Int.tmod (wrap64 ((wrap64 ((wrap64 (x1001 - 1)) * 7)) + 3)) (x1000.length : Int)))) * 1117)))) + (wrap64 ((wrap64 (x1001 - 1)) * 29)))) + (wrap64 ((wrap64 (Int.tdiv (wrap64 (x1001 - 1)) (x1000.length : Int))) * 53)))) 64))) x1, x1001))) else (none)) else (none)) else (none)) else (none))))
def spec_l6Rd_pick.f (k : Nat) (s0_0 : List Int) (s0_1 : Int) (a1 : Int) : Option (Int × Int) := if a1 < 1 then (spec_l6Rd_pick.j0 k a1 true s0_0 (wrap64 (s0_1 + 1))) else (spec_l6Rd_pick.j0 k a1 ((s0_0.length : Int) == 0) s0_0 (wrap64 (s0_1 + 1)))
end Go.Proofs.Yteeakklnlcjgbaa.P

end
section

namespace Go.Proofs.Yteeakklnlcjgbaa.P
open Go.RowKit Go.Proofs.YteeakklnlcjgbaaW.PrintWords Go.Proofs.YteeakklnlcjgbaaW.PrintLast Go.Proofs.YteeakklnlcjgbaaW.PrintMore
attribute [local go_sem] max2_int min2_int max_two min_two max_three min_three max_four min_four
set_option linter.unusedVariables false
set_option linter.unusedSimpArgs false
def spec_l71Word.f (k : Nat) (s0_0 : List Int) (s0_1 : Int) : Option (Int × Int) := (spec_l6Rd_pick.f k s0_0 s0_1 3).bind fun bt305 => (if bt305.1 = 0 then ((some (([0, 1, 2, (-1), (-128), 127] : List Int) : List Int)).bind fun y307 => ((spec_l6Rd_pick.f k s0_0 bt305.2 6).bind fun bt310 => (if 0 ≤ bt310.1 then (if bt310.1 < (y307.length : Int) then (some (rd y307 bt310.1, bt310.2)) else (none)) else (none)))) else ((spec_l6Rd_pick.f k s0_0 bt305.2 12).bind fun bt313 => (some (wrap64 (bt313.1 - 3), bt313.2))))
end Go.Proofs.Yteeakklnlcjgbaa.P

end
section

namespace Go.Proofs.Yteeakklnlcjgbaa.P
open Go.RowKit Go.Proofs.YteeakklnlcjgbaaW.PrintWords Go.Proofs.YteeakklnlcjgbaaW.PrintLast Go.Proofs.YteeakklnlcjgbaaW.PrintMore
attribute [local go_sem] max2_int min2_int max_two min_two max_three min_three max_four min_four
set_option linter.unusedVariables false
set_option linter.unusedSimpArgs false
def spec_l72Val.f (k : Nat) (s0_0 : List Int) (s0_1 : Int) (a1 : Int) : Option (Bool × Int × Int) := (spec_l6Rd_pick.f k s0_0 s0_1 2).bind fun bt316 => (if bt316.1 = 0 then ((spec_l71Word.f k s0_0 bt316.2).bind fun bt318 => (some (false, bt318.1, bt318.2))) else ((spec_l6Rd_pick.f k s0_0 bt316.2 (wrap64 (a1 + 1))).bind fun bt320 => (some (true, bt320.1, bt320.2))))
end Go.Proofs.Yteeakklnlcjgbaa.P

end
section

namespace Go.Proofs.Yteeakklnlcjgbaa.P
open Go.RowKit Go.Proofs.YteeakklnlcjgbaaW.PrintWords Go.Proofs.YteeakklnlcjgbaaW.PrintLast Go.Proofs.YteeakklnlcjgbaaW.PrintMore
attribute [local go_sem] max2_int min2_int max_two min_two max_three min_three max_four min_four
set_option linter.unusedVariables false
set_option linter.unusedSimpArgs false
mutual
def spec_l72Heap.l0 : Nat → Int → List (S48) → Int → List Int → Int → Option ((List (S48)) × (List (S46)) × Int)
  | 0, _, _, _, _, _ => none
  | k + 1, x4, x5, x6, x1000, x1001 => if x6 < x4 then ((spec_l6Rd_pick.f k x1000 x1001 6).bind fun bt327 => ((spec_l6Rd_pick.f k x1000 bt327.2 4).bind fun bt330 => (spec_l72Heap.l1 k x4 x5 x6 bt330.1 x1000 bt330.2 (wrap64 (bt327.1 - 2)) ([] : List (S46))))) else ((spec_l6Rd_pick.f k x1000 x1001 5).bind fun bt344 => (spec_l72Heap.l2 k x4 x5 (([] : List (S46))) bt344.1 x1000 bt344.2))
def spec_l72Heap.l1 : Nat → Int → List (S48) → Int → Int → List Int → Int → Int → List (S46) → Option ((List (S48)) × (List (S46)) × Int)
  | 0, _, _, _, _, _, _, _, _ => none
  | k + 1, x4, x5, x6, x8, x1000, x1001, x330000, x330001 => if x8 > 0 then ((spec_l72Val.f k x1000 x1001 x4).bind fun bt332 => (if x330001.length < 8796093022208 then (spec_l72Heap.l1 k x4 x5 x6 (wrap64 (x8 - 1)) x1000 bt332.2.2 x330000 (x330001 ++ [(⟨bt332.1, bt332.2.1⟩ : S46)])) else (none))) else (if x5.length < 4398046511104 then (spec_l72Heap.l0 k x4 (x5 ++ [(⟨x330000, x330001⟩ : S48)]) (wrap64 (x6 + 1)) x1000 x1001) else (none))
def spec_l72Heap.l2 : Nat → Int → List (S48) → List (S46) → Int → List Int → Int → Option ((List (S48)) × (List (S46)) × Int)
  | 0, _, _, _, _, _, _ => none
  | k + 1, x4, x5, x9, x10, x1000, x1001 => if x10 > 0 then ((spec_l72Val.f k x1000 x1001 x4).bind fun bt346 => (if x9.length < 8796093022208 then (spec_l72Heap.l2 k x4 x5 (x9 ++ [(⟨bt346.1, bt346.2.1⟩ : S46)]) (wrap64 (x10 - 1)) x1000 bt346.2.2) else (none))) else ((spec_l6Rd_pick.f k x1000 x1001 24).bind fun bt352 => (if bt352.1 = 0 then ((some (([(-1), wrap64 (x4 + 1)] : List Int) : List Int)).bind fun y354 => ((spec_l6Rd_pick.f k x1000 bt352.2 2).bind fun bt357 => (if 0 ≤ bt357.1 then (if bt357.1 < (y354.length : Int) then (if x9.length < 8796093022208 then (some (x5, (x9 ++ [(⟨true, rd y354 bt357.1⟩ : S46)]), bt357.2)) else (none)) else (none)) else (none)))) else (some (x5, x9, bt352.2))))
end
def spec_l72Heap.f (k : Nat) (s0_0 : List Int) (s0_1 : Int) : Option ((List (S48)) × (List (S46)) × Int) := (spec_l6Rd_pick.f k s0_0 s0_1 8).bind fun bt322 => (spec_l72Heap.l0 k bt322.1 (([] : List (S48))) 0 s0_0 bt322.2)
end Go.Proofs.Yteeakklnlcjgbaa.P

end
section

namespace Go.Proofs.Yteeakklnlcjgbaa.P
open Go.RowKit Go.Proofs.YteeakklnlcjgbaaW.PrintWords Go.Proofs.YteeakklnlcjgbaaW.PrintLast Go.Proofs.YteeakklnlcjgbaaW.PrintMore
attribute [local go_sem] max2_int min2_int max_two min_two max_three min_three max_four min_four
set_option linter.unusedVariables false
set_option linter.unusedSimpArgs false
def spec_DrawHeapGraph.f (k : Nat) (l0 : List Int) : Option ((List (S48)) × (List (S46))) := (spec_l6Open.f l0).bind fun bt363 => ((spec_l72Heap.f k bt363.1 bt363.2).bind fun bt366 => (some (bt366.1, bt366.2.1)))
end Go.Proofs.Yteeakklnlcjgbaa.P

end
section

namespace Go.Proofs.Yteeakklnlcjgbaa.P
open Go.RowKit Go.Proofs.YteeakklnlcjgbaaW.PrintWords Go.Proofs.YteeakklnlcjgbaaW.PrintLast Go.Proofs.YteeakklnlcjgbaaW.PrintMore
attribute [local go_sem] max2_int min2_int max_two min_two max_three min_three max_four min_four
set_option linter.unusedVariables false
set_option linter.unusedSimpArgs false
def laws_leVals.l0 : Nat → List (S46) → List (S46) → Int → Option (Bool)
  | 0, _, _, _ => none
  | k + 1, x0, x1, x5 => if x5 < (x0.length : Int) then (if 0 ≤ x5 then (if x5 < (x1.length : Int) then (if (!(((rd_T46 x0 x5).f0) == ((rd_T46 x1 x5).f0)) || (!(((rd_T46 x0 x5).f1) == ((rd_T46 x1 x5).f1)))) = true then (some false) else (laws_leVals.l0 k x0 x1 (wrap64 (x5 + 1)))) else (none)) else (none)) else (some true)
def laws_leVals.f (k : Nat) (l0 : List (S46)) (l1 : List (S46)) : Option (Bool) := if (l0.length : Int) = (l1.length : Int) then (laws_leVals.l0 k l0 l1 0) else (some false)
end Go.Proofs.Yteeakklnlcjgbaa.P

end
section

namespace Go.Proofs.Yteeakklnlcjgbaa.P
open Go.RowKit Go.Proofs.YteeakklnlcjgbaaW.PrintWords Go.Proofs.YteeakklnlcjgbaaW.PrintLast Go.Proofs.YteeakklnlcjgbaaW.PrintMore
attribute [local go_sem] max2_int min2_int max_two min_two max_three min_three max_four min_four
set_option linter.unusedVariables false
set_option linter.unusedSimpArgs false
def laws_leObjs.l0 : Nat → List (S48) → List (S48) → Int → Option (Bool)
  | 0, _, _, _ => none
  | k + 1, x0, x1, x5 => if x5 < (x0.length : Int) then (if 0 ≤ x5 then (if x5 < (x1.length : Int) then (if ((rd_T48 x0 x5).f0) = ((rd_T48 x1 x5).f0) then ((laws_leVals.f k ((rd_T48 x0 x5).f1) ((rd_T48 x1 x5).f1)).bind fun t379 => (if t379 = true then (laws_leObjs.l0 k x0 x1 (wrap64 (x5 + 1))) else (some false))) else (some false)) else (none)) else (none)) else (some true)
def laws_leObjs.f (k : Nat) (l0 : List (S48)) (l1 : List (S48)) : Option (Bool) := if (l0.length : Int) = (l1.length : Int) then (laws_leObjs.l0 k l0 l1 0) else (some false)
end Go.Proofs.Yteeakklnlcjgbaa.P

end
section

namespace Go.Proofs.Yteeakklnlcjgbaa.P
open Go.RowKit Go.Proofs.YteeakklnlcjgbaaW.PrintWords Go.Proofs.YteeakklnlcjgbaaW.PrintLast Go.Proofs.YteeakklnlcjgbaaW.PrintMore
attribute [local go_sem] max2_int min2_int max_two min_two max_three min_three max_four min_four
set_option linter.unusedVariables false
set_option linter.unusedSimpArgs false
mutual
def laws_FnGraphLed.j0 : Nat → List (S48) → List (S46) → Bool → Option (Bool)
  | 0, _, _, _ => none
  | k + 1, x5, x6, x43 => if x43 = true then (some false) else (laws_FnGraphLed.l0 k x5 x6 0 0)
def laws_FnGraphLed.l0 : Nat → List (S48) → List (S46) → Int → Int → Option (Bool)
  | 0, _, _, _, _ => none
  | k + 1, x5, x6, x9, x10 => if x10 < (x6.length : Int) then (if 0 ≤ x10 then (if (rd_T46 x6 x10).f0 = true then (laws_FnGraphLed.j2 k x5 x6 x9 x10 (decide (((rd_T46 x6 x10).f1) > (wrap64 (x9 + 1))))) else (laws_FnGraphLed.j2 k x5 x6 x9 x10 false)) else (none)) else (laws_FnGraphLed.l1 k x5 x9 0)
def laws_FnGraphLed.j2 : Nat → List (S48) → List (S46) → Int → Int → Bool → Option (Bool)
  | 0, _, _, _, _, _ => none
  | k + 1, x5, x6, x9, x10, x64 => if x64 = true then (some false) else (if 0 ≤ x10 then (if x10 < (x6.length : Int) then (if (rd_T46 x6 x10).f0 = true then (laws_FnGraphLed.l0 k x5 x6 (mx x9 ((rd_T46 x6 x10).f1)) (wrap64 (x10 + 1))) else (laws_FnGraphLed.l0 k x5 x6 x9 (wrap64 (x10 + 1)))) else (none)) else (none))
def laws_FnGraphLed.l1 : Nat → List (S48) → Int → Int → Option (Bool)
  | 0, _, _, _ => none
  | k + 1, x5, x9, x11 => if x11 < (x5.length : Int) then (if x11 ≥ x9 then (some false) else (laws_FnGraphLed.l2 k x5 x9 x11 0)) else (some (x9 == (x5.length : Int)))
def laws_FnGraphLed.l2 : Nat → List (S48) → Int → Int → Int → Option (Bool)
  | 0, _, _, _, _ => none
  | k + 1, x5, x9, x11, x12 => if 0 ≤ x11 then (if x11 < (x5.length : Int) then (if x12 < (((rd_T48 x5 x11).f1).length : Int) then (if 0 ≤ x12 then (if (rd_T46 ((rd_T48 x5 x11).f1) x12).f0 = true then (laws_FnGraphLed.j5 k x5 x9 x11 x12 (decide (((rd_T46 ((rd_T48 x5 x11).f1) x12).f1) > (wrap64 (x9 + 1)))) ((rd_T46 ((rd_T48 x5 x11).f1) x12).f0) ((rd_T46 ((rd_T48 x5 x11).f1) x12).f1)) else (laws_FnGraphLed.j5 k x5 x9 x11 x12 false ((rd_T46 ((rd_T48 x5 x11).f1) x12).f0) ((rd_T46 ((rd_T48 x5 x11).f1) x12).f1))) else (none)) else (laws_FnGraphLed.l1 k x5 x9 (wrap64 (x11 + 1)))) else (none)) else (none)
def laws_FnGraphLed.j5 : Nat → List (S48) → Int → Int → Int → Bool → Bool → Int → Option (Bool)
  | 0, _, _, _, _, _, _, _ => none
  | k + 1, x5, x9, x11, x12, x112, x408000, x408001 => if x112 = true then (some false) else (if x408000 = true then (laws_FnGraphLed.l2 k x5 (mx x9 x408001) x11 (wrap64 (x12 + 1))) else (laws_FnGraphLed.l2 k x5 x9 x11 (wrap64 (x12 + 1))))
end
def laws_FnGraphLed.f (k : Nat) (l0 : List Int) : Option (Bool) := if (l0.length : Int) > 1048576 then (some true) else ((spec_DrawHeapGraph.f k l0).bind fun bt380 => ((impl_HeapGraph.f k bt380.1 bt380.2).bind fun bt386 => ((spec_HeapGraph.f k bt380.1 bt380.2).bind fun bt392 => ((laws_leObjs.f k bt386.1 bt392.1).bind fun t398 => (if t398 = true then ((laws_leVals.f k bt386.2 bt392.2).bind fun t399 => (laws_FnGraphLed.j0 k bt386.1 bt386.2 (!t399))) else (laws_FnGraphLed.j0 k bt386.1 bt386.2 true))))))
def laws_FnGraphLed.Pure : Prop := ∀ (l0 : List Int), l0.length ≤ maxLen → l0.length * 1 ≤ 140737488351232 → (∀ x ∈ l0, (Lit.int .u8 x).wf = true) → ∃ k, laws_FnGraphLed.f k l0 = some true
end Go.Proofs.Yteeakklnlcjgbaa.P

end
section

namespace Go.Proofs.Yteeakklnlcjgbaa.P
open Go.RowKit Go.Proofs.YteeakklnlcjgbaaW.PrintWords Go.Proofs.YteeakklnlcjgbaaW.PrintLast Go.Proofs.YteeakklnlcjgbaaW.PrintMore
attribute [local go_sem] max2_int min2_int max_two min_two max_three min_three max_four min_four
set_option linter.unusedVariables false
set_option linter.unusedSimpArgs false
set_option maxHeartbeats 8000000 in
set_option maxRecDepth 100000 in
theorem spec_l6In.calls (a0 : Int) (a1 : Int) (a2 : Int) (r : Bool) (w : World) (h : spec_l6In.f a0 a1 a2 = some r) :
    Calls Try.prog 47 #[.int .i64 a0, .int .i64 a1, .int .i64 a2] w fun e w' => e = .returned (.bool r) ∧ Drawn0 w w' := by
  have H : (if a0 ≥ a1 then (some (decide (a0 ≤ a2))) else (some false)) = some r := h
  clear h
  by_cases c4 : a0 ≥ a1
  · rw [if_pos c4] at H
    have c4b0 : decide (a1 ≤ a0) = true := decide_eq_true c4
    clear c4
    obtain rfl := Option.some.inj H
    simp only [Option.some.injEq, Prod.mk.injEq] at H
    obtain ⟨rfl⟩ := H
    go_enter Try.func47, Try.ntmps47
    go_wp2
    go_ret
    exact ⟨by first | rfl | (simp; done) | (simp [*]; done), by repeat (first | exact Drawn0.refl _ | apply Drawn0.step)⟩
  · rw [if_neg c4] at H
    have c4b0 : decide (a1 ≤ a0) = false := decide_eq_false c4
    clear c4
    obtain rfl := Option.some.inj H
    simp only [Option.some.injEq, Prod.mk.injEq] at H
    obtain ⟨rfl⟩ := H
    go_enter Try.func47, Try.ntmps47
    go_wp2
    go_ret
    exact ⟨by first | rfl | (simp; done) | (simp [*]; done), by repeat (first | exact Drawn0.refl _ | apply Drawn0.step)⟩
end Go.Proofs.Yteeakklnlcjgbaa.P

end
section

namespace Go.Proofs.Yteeakklnlcjgbaa.P
open Go.RowKit Go.Proofs.YteeakklnlcjgbaaW.PrintWords Go.Proofs.YteeakklnlcjgbaaW.PrintLast Go.Proofs.YteeakklnlcjgbaaW.PrintMore
attribute [local go_sem] max2_int min2_int max_two min_two max_three min_three max_four min_four
set_option linter.unusedVariables false
set_option linter.unusedSimpArgs false
set_option maxHeartbeats 8000000 in
set_option maxRecDepth 100000 in
theorem spec_l12Val.calls (a0_0 : Bool) (a0_1 : Int) (a1 : Int) (r : Bool) (w : World) (h : spec_l12Val.f a0_0 a0_1 a1 = some r) :
    Calls Try.prog 36 #[.agg #[.bool a0_0, .int .i64 a0_1], .int .i64 a1] w fun e w' => e = .returned (.bool r) ∧ Below w.heap.size w w' := by
  have hu46 := Try.underlying46
  have HB := Aside0.mk (Below.refl w.heap.size w)
  have H : (if a0_0 = true then ((spec_l6In.f a0_1 0 a1).bind fun t139 => (some t139)) else (some true)) = some r := h
  clear h
  by_cases c3 : a0_0 = true
  · subst c3
    have H1 : ((spec_l6In.f a0_1 0 a1).bind fun t139 => (some t139)) = some r := by rw [if_pos rfl] at H; exact H
    clear H
    have H := H1
    clear H1
    replace H := Option.bind_eq_some_iff.mp H
    obtain ⟨t139, A40, H⟩ := H
    replace H : (some t139) = some r := H
    have A4 := Aside0.mk A40
    clear A40
    obtain rfl := Option.some.inj H
    simp only [Option.some.injEq, Prod.mk.injEq] at H
    obtain ⟨rfl⟩ := H
    go_enter Try.func36, Try.ntmps36
    go_wp2_with (first | ((with_reducible refine gate_dst (N := 2) rfl ?_); refine box_event ?hg (N := 2) ?hd (cs := #[.bool true, .int .i64 a0_1]) (t := 46) ?hr ?_; (case hd => rfl); (case hg => rfl); (case hr => first | (go_simp; done) | (go_simp; rfl)); intro gb138 hg w5 hbox hb; have n0_ := Aside0.mk (below_step (by repeat (first | (with_reducible first | exact HB.out | apply below_alloc | apply pw_below_drewN | apply below_drew1) | exact HB.out)) hb); have n1_ := Aside0.mk (hbox); have n2_ := Aside0.mk ((by rw [hg]; exact (below_size (by repeat (first | (with_reducible first | exact HB.out | apply below_alloc | apply pw_below_drewN | apply below_drew1) | exact HB.out))) : w.heap.size ≤ gb138)); have n3_ := Aside0.mk ((by rw [hg]; exact (below_size (by repeat (first | (with_reducible first | exact HB.out | apply below_alloc | apply pw_below_drewN | apply below_drew1) | exact HB.out))) : w.heap.size ≤ gb138)); clear HB; have HB := n0_; have BK138 := n1_; have GW138 := n2_; have GE138 := n3_; clear n0_ n1_ n2_ n3_; clear hb hbox hg; have hcz6_0 : w5.cell? ⟨gb138, 0, none⟩ = some (.bool true) := (blk_cell BK138.out 0).trans rfl; have hcz6_1 : w5.cell? ⟨gb138, 1, none⟩ = some (.int .i64 a0_1) := (blk_cell BK138.out 1).trans rfl; have hfz6_0 := blk_frozen BK138.out 0; have hfz6_1 := blk_frozen BK138.out 1) | (go_at_call 47; (with_reducible refine (spec_l6In.calls a0_1 0 a1 t139 _ A4.out).mono ?_); rintro e w' ⟨rfl, ⟨nd, rfl⟩⟩))
    go_ret
    exact ⟨by first | rfl | (simp [errW_none, errW_some] <;> rfl) | (simp [*, errW_none, errW_some] <;> rfl), by repeat (first | (with_reducible first | exact HB.out | apply below_alloc | apply pw_below_drewN | apply below_drew1 | refine below_set ?_ GE138.out) | exact HB.out)⟩
  · replace c3 := Bool.eq_false_iff.mpr c3
    subst c3
    have H1 : (some true) = some r := by rw [if_neg (show ¬ (false = true) by decide)] at H; exact H
    clear H
    have H := H1
    clear H1
    obtain rfl := Option.some.inj H
    simp only [Option.some.injEq, Prod.mk.injEq] at H
    obtain ⟨rfl⟩ := H
    go_enter Try.func36, Try.ntmps36
    go_wp2_with (first | ((with_reducible refine gate_dst (N := 2) rfl ?_); refine box_event ?hg (N := 2) ?hd (cs := #[.bool false, .int .i64 a0_1]) (t := 46) ?hr ?_; (case hd => rfl); (case hg => rfl); (case hr => first | (go_simp; done) | (go_simp; rfl)); intro gb138 hg w7 hbox hb; have n0_ := Aside0.mk (below_step (by repeat (first | (with_reducible first | exact HB.out | apply below_alloc | apply pw_below_drewN | apply below_drew1) | exact HB.out)) hb); have n1_ := Aside0.mk (hbox); have n2_ := Aside0.mk ((by rw [hg]; exact (below_size (by repeat (first | (with_reducible first | exact HB.out | apply below_alloc | apply pw_below_drewN | apply below_drew1) | exact HB.out))) : w.heap.size ≤ gb138)); have n3_ := Aside0.mk ((by rw [hg]; exact (below_size (by repeat (first | (with_reducible first | exact HB.out | apply below_alloc | apply pw_below_drewN | apply below_drew1) | exact HB.out))) : w.heap.size ≤ gb138)); clear HB; have HB := n0_; have BK138 := n1_; have GW138 := n2_; have GE138 := n3_; clear n0_ n1_ n2_ n3_; clear hb hbox hg; have hcz8_0 : w7.cell? ⟨gb138, 0, none⟩ = some (.bool false) := (blk_cell BK138.out 0).trans rfl; have hcz8_1 : w7.cell? ⟨gb138, 1, none⟩ = some (.int .i64 a0_1) := (blk_cell BK138.out 1).trans rfl; have hfz8_0 := blk_frozen BK138.out 0; have hfz8_1 := blk_frozen BK138.out 1))
    go_ret
    exact ⟨by first | rfl | (simp [errW_none, errW_some] <;> rfl) | (simp [*, errW_none, errW_some] <;> rfl), by repeat (first | (with_reducible first | exact HB.out | apply below_alloc | apply pw_below_drewN | apply below_drew1 | refine below_set ?_ GE138.out) | exact HB.out)⟩
end Go.Proofs.Yteeakklnlcjgbaa.P

end
section

namespace Go.Proofs.Yteeakklnlcjgbaa.P
open Go.RowKit Go.Proofs.YteeakklnlcjgbaaW.PrintWords Go.Proofs.YteeakklnlcjgbaaW.PrintLast Go.Proofs.YteeakklnlcjgbaaW.PrintMore
attribute [local go_sem] max2_int min2_int max_two min_two max_three min_three max_four min_four
set_option linter.unusedVariables false
set_option linter.unusedSimpArgs false
set_option maxHeartbeats 8000000 in
set_option maxRecDepth 100000 in
theorem spec_HeapOk.calls (k : Nat) (A0 : Option Addr) (c0 : Nat) (l0 : List (S48)) (A1 : Option Addr) (c1 : Nat) (l1 : List (S46)) (r : Bool) (w : World) (hr0 : Kd.C k48 w A0 l0.length l0) (hc0 : l0.length ≤ c0) (hr1 : Kd.C k46 w A1 l1.length l1) (hc1 : l1.length ≤ c1) (h : spec_HeapOk.f k l0 l1 = some r) :
    Calls Try.prog 17 #[.slice A0 l0.length c0, .slice A1 l1.length c1] w fun e w' => e = .returned (.bool r) ∧ Below w.heap.size w w' := by
  have hu46 := Try.underlying46
  have HR0 := Aside0.mk hr0
  have HC0 := Aside0.mk hc0
  clear hr0 hc0
  have HR1 := Aside0.mk hr1
  have HC1 := Aside0.mk hc1
  clear hr1 hc1
  have HB := Aside0.mk (Below.refl w.heap.size w)
  have H : (spec_HeapOk.l0 k l0 l1 0) = some r := h
  clear h
  have H' := Aside0.mk H
  clear H
  go_enter Try.func17, Try.ntmps17
  go_wp2
  go_loopg [5] k (fun kq v5 w' => ∃ (x5_1 : Int), v5 = .int .i64 x5_1 ∧ Aside0 (spec_HeapOk.l0 kq l0 l1 x5_1 = some r) ∧ Aside0 (kq ≤ k) ∧ Aside0 (Below w.heap.size w w'))
  case atStart => exact ⟨(0), (by first | rfl | (simp; done) | (simp [*]; done)), H', ⟨Nat.le_refl _⟩, ⟨by repeat (first | (with_reducible first | exact HB.out | apply below_alloc | apply pw_below_drewN | apply below_drew1) | exact HB.out)⟩⟩
  case round =>
    clear H'
    try clear c1
    try clear p2
    obtain ⟨x5_1, rfl, HA, HK1, HB⟩ := hrel
    cases gk with
    | zero => exact absurd HA.out (by simp [spec_HeapOk.l0])
    | succ k1 =>
      have H := HA.out
      clear HA
      simp only [spec_HeapOk.l0] at H
      by_cases c3 : x5_1 < (l1.length : Int)
      · rw [if_pos c3] at H
        have c3b0 : decide (x5_1 < (l1.length : Int)) = true := decide_eq_true c3
        clear c3
        by_cases c4 : 0 ≤ x5_1
        · rw [if_pos c4] at H
          have c4b0 : decide (0 ≤ x5_1) = true := decide_eq_true c4
          clear c4
          replace H := Option.bind_eq_some_iff.mp H
          obtain ⟨t141, A50, H⟩ := H
          replace H : (if t141 = true then (spec_HeapOk.l0 k1 l0 l1 (wrap64 (x5_1 + 1))) else (some false)) = some r := H
          have A5 := Aside0.mk A50
          clear A50
          by_cases c6 : t141 = true
          · subst c6
            have H1 : (spec_HeapOk.l0 k1 l0 l1 (wrap64 (x5_1 + 1))) = some r := by rw [if_pos rfl] at H; exact H
            clear H
            have H := H1
            clear H1
            have H' := Aside0.mk H
            clear H
            have p140 : 0 ≤ (x5_1 : Int) := of_decide_eq_true (by first | (with_reducible assumption) | assumption)
            have q140 : x5_1 < (l1.length : Int) := of_decide_eq_true (by first | (with_reducible assumption) | assumption)
            obtain ⟨ad140, e140, hx140_0, hx140_1⟩ := at_T46 HR1.out x5_1 p140 q140
            cases e140
            replace hx140_0 := (HB.out.cell (World.block_lt_of_cell? w _ hx140_0)).trans hx140_0
            replace hx140_1 := (HB.out.cell (World.block_lt_of_cell? w _ hx140_1)).trans hx140_1
            replace p140 := eq_true p140
            replace q140 := eq_true q140
            go_wp2_with (first | ((with_reducible refine gate_callee (f := 36) rfl ?_); refine goesL_ (some 20) rfl rfl Try.func36 (by kernel_rfl) rfl #[.agg #[.bool ((rd_T46 l1 x5_1).f0), .int .i64 ((rd_T46 l1 x5_1).f1)], .int .i64 (l0.length : Int)] rfl (by (try simp only [List.map_toArray, List.map_cons, List.map_nil]); first | done | rfl | (simp only [List.length_drop, List.length_take]; rfl)) ?_; (with_reducible refine (spec_l12Val.calls ((rd_T46 l1 x5_1).f0) ((rd_T46 l1 x5_1).f1) (l0.length : Int) true _ A5.out).mono ?_); rintro e w7 ⟨rfl, hb⟩; refine ⟨_, rfl, ?_⟩; have n0_ := Aside0.mk (below_step (by repeat (first | (with_reducible first | exact HB.out | apply below_alloc | apply pw_below_drewN | apply below_drew1) | exact HB.out)) hb); clear HB; have HB := n0_; clear n0_; (try clear hb); (try clear hb2); (try clear hk); (try clear hi)))
            go_roundg k1
            case measure => have := HK1.out; omega
            case rel => exact ⟨(wrap64 (x5_1 + 1)), (by first | rfl | (simp; done) | (simp [*]; done)), H', ⟨by have := HK1.out; omega⟩, ⟨by repeat (first | (with_reducible first | exact HB.out | apply below_alloc | apply pw_below_drewN | apply below_drew1) | exact HB.out)⟩⟩
          · replace c6 := Bool.eq_false_iff.mpr c6
            subst c6
            have H1 : (some false) = some r := by rw [if_neg (show ¬ (false = true) by decide)] at H; exact H
            clear H
            have H := H1
            clear H1
            obtain rfl := Option.some.inj H
            simp only [Option.some.injEq, Prod.mk.injEq] at H
            obtain ⟨rfl⟩ := H
            have p140 : 0 ≤ (x5_1 : Int) := of_decide_eq_true (by first | (with_reducible assumption) | assumption)
            have q140 : x5_1 < (l1.length : Int) := of_decide_eq_true (by first | (with_reducible assumption) | assumption)
            obtain ⟨ad140, e140, hx140_0, hx140_1⟩ := at_T46 HR1.out x5_1 p140 q140
            cases e140
            replace hx140_0 := (HB.out.cell (World.block_lt_of_cell? w _ hx140_0)).trans hx140_0
            replace hx140_1 := (HB.out.cell (World.block_lt_of_cell? w _ hx140_1)).trans hx140_1
            replace p140 := eq_true p140
            replace q140 := eq_true q140
            go_wp2_with (first | ((with_reducible refine gate_callee (f := 36) rfl ?_); refine goesL_ (some 20) rfl rfl Try.func36 (by kernel_rfl) rfl #[.agg #[.bool ((rd_T46 l1 x5_1).f0), .int .i64 ((rd_T46 l1 x5_1).f1)], .int .i64 (l0.length : Int)] rfl (by (try simp only [List.map_toArray, List.map_cons, List.map_nil]); first | done | rfl | (simp only [List.length_drop, List.length_take]; rfl)) ?_; (with_reducible refine (spec_l12Val.calls ((rd_T46 l1 x5_1).f0) ((rd_T46 l1 x5_1).f1) (l0.length : Int) false _ A5.out).mono ?_); rintro e w8 ⟨rfl, hb⟩; refine ⟨_, rfl, ?_⟩; have n0_ := Aside0.mk (below_step (by repeat (first | (with_reducible first | exact HB.out | apply below_alloc | apply pw_below_drewN | apply below_drew1) | exact HB.out)) hb); clear HB; have HB := n0_; clear n0_; (try clear hb); (try clear hb2); (try clear hk); (try clear hi)))
            go_ret
            exact ⟨by first | rfl | (simp [errW_none, errW_some] <;> rfl) | (simp [*, errW_none, errW_some] <;> rfl), by repeat (first | (with_reducible first | exact HB.out | apply below_alloc | apply pw_below_drewN | apply below_drew1) | exact HB.out)⟩
        · rw [if_neg c4] at H
          exact absurd H (by simp)
      · rw [if_neg c3] at H
        have c3b0 : decide (x5_1 < (l1.length : Int)) = false := decide_eq_false c3
        clear c3
        have H' := Aside0.mk H
        clear H
        go_wp2
        go_loopg [6] k1 (fun kq v6 w' => ∃ (x6_2 : Int), v6 = .int .i64 x6_2 ∧ Aside0 (spec_HeapOk.l1 kq l0 x6_2 = some r) ∧ Aside0 (kq ≤ k1) ∧ Aside0 (Below w.heap.size w w'))
        case atStart => exact ⟨(0), (by first | rfl | (simp; done) | (simp [*]; done)), H', ⟨Nat.le_refl _⟩, ⟨by repeat (first | (with_reducible first | exact HB.out | apply below_alloc | apply pw_below_drewN | apply below_drew1) | exact HB.out)⟩⟩
        case round =>
          clear H'
          try clear c1
          try clear p1
          try clear q1
          try clear hx1
          try clear p2
          try clear c3
          try clear c3b0
          try clear c4
          try clear c4b0
          try clear c6
          try clear p6
          try clear hx140_0
          try clear hx140_1
          try clear p140
          try clear p2
          try clear q140
          obtain ⟨x6_2, rfl, HA, HK2, HB⟩ := hrel
          cases gk with
          | zero => exact absurd HA.out (by simp [spec_HeapOk.l1])
          | succ k2 =>
            have H := HA.out
            clear HA
            simp only [spec_HeapOk.l1] at H
            by_cases c9 : x6_2 < (l0.length : Int)
            · rw [if_pos c9] at H
              have c9b0 : decide (x6_2 < (l0.length : Int)) = true := decide_eq_true c9
              clear c9
              have H' := Aside0.mk H
              clear H
              go_wp2
              go_loopg [7] k2 (fun kq v7 w' => ∃ (x7_3 : Int), v7 = .int .i64 x7_3 ∧ Aside0 (spec_HeapOk.l2 kq l0 x6_2 x7_3 = some r) ∧ Aside0 (kq ≤ k2) ∧ Aside0 (Below w.heap.size w w'))
              case atStart => exact ⟨(0), (by first | rfl | (simp; done) | (simp [*]; done)), H', ⟨Nat.le_refl _⟩, ⟨by repeat (first | (with_reducible first | exact HB.out | apply below_alloc | apply pw_below_drewN | apply below_drew1) | exact HB.out)⟩⟩
              case round =>
                clear H'
                try clear c1
                try clear p1
                try clear q1
                try clear hx1
                try clear p2
                try clear c3
                try clear c3b0
                try clear c4
                try clear c4b0
                try clear c6
                try clear p6
                try clear c9
                try clear c9b0
                try clear hx140_0
                try clear hx140_1
                try clear p1
                try clear p140
                try clear p2
                try clear p6
                try clear q1
                try clear q140
                obtain ⟨x7_3, rfl, HA, HK3, HB⟩ := hrel
                cases gk with
                | zero => exact absurd HA.out (by simp [spec_HeapOk.l2])
                | succ k3 =>
                  have H := HA.out
                  clear HA
                  simp only [spec_HeapOk.l2] at H
                  by_cases c10 : 0 ≤ x6_2
                  · rw [if_pos c10] at H
                    have c10b0 : decide (0 ≤ x6_2) = true := decide_eq_true c10
                    clear c10
                    by_cases c11 : x6_2 < (l0.length : Int)
                    · rw [if_pos c11] at H
                      have c11b0 : decide (x6_2 < (l0.length : Int)) = true := decide_eq_true c11
                      clear c11
                      by_cases c12 : x7_3 < (((rd_T48 l0 x6_2).f1).length : Int)
                      · rw [if_pos c12] at H
                        have c12b0 : decide (x7_3 < (((rd_T48 l0 x6_2).f1).length : Int)) = true := decide_eq_true c12
                        clear c12
                        by_cases c13 : 0 ≤ x7_3
                        · rw [if_pos c13] at H
                          have c13b0 : decide (0 ≤ x7_3) = true := decide_eq_true c13
                          clear c13
                          replace H := Option.bind_eq_some_iff.mp H
                          obtain ⟨t145, A140, H⟩ := H
                          replace H : (if t145 = true then (spec_HeapOk.l2 k3 l0 x6_2 (wrap64 (x7_3 + 1))) else (some false)) = some r := H
                          have A14 := Aside0.mk A140
                          clear A140
                          by_cases c15 : t145 = true
                          · subst c15
                            have H1 : (spec_HeapOk.l2 k3 l0 x6_2 (wrap64 (x7_3 + 1))) = some r := by rw [if_pos rfl] at H; exact H
                            clear H
                            have H := H1
                            clear H1
                            have H' := Aside0.mk H
                            clear H
                            have p142 : 0 ≤ (x6_2 : Int) := of_decide_eq_true (by first | (with_reducible assumption) | assumption)
                            have q142 : x6_2 < (l0.length : Int) := of_decide_eq_true (by first | (with_reducible assumption) | assumption)
                            obtain ⟨ad142, A142_1, c142_1, e142, hx142_0, hx142_1, hl142_1, hi142_1⟩ := at_T48 HR0.out x6_2 p142 q142
                            cases e142
                            replace hx142_0 := (HB.out.cell (World.block_lt_of_cell? w _ hx142_0)).trans hx142_0
                            replace hx142_1 := (HB.out.cell (World.block_lt_of_cell? w _ hx142_1)).trans hx142_1
                            have HR142_1 := Aside0.mk hi142_1
                            have HC142_1 := Aside0.mk hl142_1
                            clear hi142_1 hl142_1
                            replace p142 := eq_true p142
                            replace q142 := eq_true q142
                            have p143 : 0 ≤ (x6_2 : Int) := of_decide_eq_true (by first | (with_reducible assumption) | assumption)
                            have q143 : x6_2 < (l0.length : Int) := of_decide_eq_true (by first | (with_reducible assumption) | assumption)
                            obtain ⟨ad143, A143_1, c143_1, e143, hx143_0, hx143_1, hl143_1, hi143_1⟩ := at_T48 HR0.out x6_2 p143 q143
                            obtain rfl : ad142 = ad143 := (by injection e143)
                            replace hx143_0 := (HB.out.cell (World.block_lt_of_cell? w _ hx143_0)).trans hx143_0
                            replace hx143_1 := (HB.out.cell (World.block_lt_of_cell? w _ hx143_1)).trans hx143_1
                            have HR143_1 := Aside0.mk hi143_1
                            have HC143_1 := Aside0.mk hl143_1
                            clear hi143_1 hl143_1
                            replace p143 := eq_true p143
                            replace q143 := eq_true q143
                            have ea_ := Option.some.inj (hx142_1.symm.trans hx143_1)
                            injection ea_ with ea_ en_ ec_
                            subst ea_
                            subst ec_
                            clear en_
                            have p144 : 0 ≤ (x7_3 : Int) := of_decide_eq_true (by first | (with_reducible assumption) | assumption)
                            have q144 : x7_3 < (((rd_T48 l0 x6_2).f1).length : Int) := of_decide_eq_true (by first | (with_reducible assumption) | assumption)
                            obtain ⟨ad144, e144, hx144_0, hx144_1⟩ := at_T46 HR143_1.out x7_3 p144 q144
                            cases e144
                            replace hx144_0 := (HB.out.cell (World.block_lt_of_cell? w _ hx144_0)).trans hx144_0
                            replace hx144_1 := (HB.out.cell (World.block_lt_of_cell? w _ hx144_1)).trans hx144_1
                            replace p144 := eq_true p144
                            replace q144 := eq_true q144
                            go_wp2_with (first | ((with_reducible refine gate_callee (f := 36) rfl ?_); refine goesL_ (some 48) rfl rfl Try.func36 (by kernel_rfl) rfl #[.agg #[.bool ((rd_T46 ((rd_T48 l0 x6_2).f1) x7_3).f0), .int .i64 ((rd_T46 ((rd_T48 l0 x6_2).f1) x7_3).f1)], .int .i64 (l0.length : Int)] rfl (by (try simp only [List.map_toArray, List.map_cons, List.map_nil]); first | done | rfl | (simp only [List.length_drop, List.length_take]; rfl)) ?_; (with_reducible refine (spec_l12Val.calls ((rd_T46 ((rd_T48 l0 x6_2).f1) x7_3).f0) ((rd_T46 ((rd_T48 l0 x6_2).f1) x7_3).f1) (l0.length : Int) true _ A14.out).mono ?_); rintro e w16 ⟨rfl, hb⟩; refine ⟨_, rfl, ?_⟩; have n0_ := Aside0.mk (below_step (by repeat (first | (with_reducible first | exact HB.out | apply below_alloc | apply pw_below_drewN | apply below_drew1) | exact HB.out)) hb); clear HB; have HB := n0_; clear n0_; (try clear hb); (try clear hb2); (try clear hk); (try clear hi)))
                            go_roundg k3
                            case measure => have := HK1.out; have := HK2.out; have := HK3.out; omega
                            case rel => exact ⟨(wrap64 (x7_3 + 1)), (by first | rfl | (simp; done) | (simp [*]; done)), H', ⟨by have := HK1.out; have := HK2.out; have := HK3.out; omega⟩, ⟨by repeat (first | (with_reducible first | exact HB.out | apply below_alloc | apply pw_below_drewN | apply below_drew1) | exact HB.out)⟩⟩
                          · replace c15 := Bool.eq_false_iff.mpr c15
                            subst c15
                            have H1 : (some false) = some r := by rw [if_neg (show ¬ (false = true) by decide)] at H; exact H
                            clear H
                            have H := H1
                            clear H1
                            obtain rfl := Option.some.inj H
                            simp only [Option.some.injEq, Prod.mk.injEq] at H
                            obtain ⟨rfl⟩ := H
                            have p142 : 0 ≤ (x6_2 : Int) := of_decide_eq_true (by first | (with_reducible assumption) | assumption)
                            have q142 : x6_2 < (l0.length : Int) := of_decide_eq_true (by first | (with_reducible assumption) | assumption)
                            obtain ⟨ad142, A142_1, c142_1, e142, hx142_0, hx142_1, hl142_1, hi142_1⟩ := at_T48 HR0.out x6_2 p142 q142
                            cases e142
                            replace hx142_0 := (HB.out.cell (World.block_lt_of_cell? w _ hx142_0)).trans hx142_0
                            replace hx142_1 := (HB.out.cell (World.block_lt_of_cell? w _ hx142_1)).trans hx142_1
                            have HR142_1 := Aside0.mk hi142_1
                            have HC142_1 := Aside0.mk hl142_1
                            clear hi142_1 hl142_1
                            replace p142 := eq_true p142
                            replace q142 := eq_true q142
                            have p143 : 0 ≤ (x6_2 : Int) := of_decide_eq_true (by first | (with_reducible assumption) | assumption)
                            have q143 : x6_2 < (l0.length : Int) := of_decide_eq_true (by first | (with_reducible assumption) | assumption)
                            obtain ⟨ad143, A143_1, c143_1, e143, hx143_0, hx143_1, hl143_1, hi143_1⟩ := at_T48 HR0.out x6_2 p143 q143
                            obtain rfl : ad142 = ad143 := (by injection e143)
                            replace hx143_0 := (HB.out.cell (World.block_lt_of_cell? w _ hx143_0)).trans hx143_0
                            replace hx143_1 := (HB.out.cell (World.block_lt_of_cell? w _ hx143_1)).trans hx143_1
                            have HR143_1 := Aside0.mk hi143_1
                            have HC143_1 := Aside0.mk hl143_1
                            clear hi143_1 hl143_1
                            replace p143 := eq_true p143
                            replace q143 := eq_true q143
                            have ea_ := Option.some.inj (hx142_1.symm.trans hx143_1)
                            injection ea_ with ea_ en_ ec_
                            subst ea_
                            subst ec_
                            clear en_
                            have p144 : 0 ≤ (x7_3 : Int) := of_decide_eq_true (by first | (with_reducible assumption) | assumption)
                            have q144 : x7_3 < (((rd_T48 l0 x6_2).f1).length : Int) := of_decide_eq_true (by first | (with_reducible assumption) | assumption)
                            obtain ⟨ad144, e144, hx144_0, hx144_1⟩ := at_T46 HR143_1.out x7_3 p144 q144
                            cases e144
                            replace hx144_0 := (HB.out.cell (World.block_lt_of_cell? w _ hx144_0)).trans hx144_0
                            replace hx144_1 := (HB.out.cell (World.block_lt_of_cell? w _ hx144_1)).trans hx144_1
                            replace p144 := eq_true p144
                            replace q144 := eq_true q144
                            go_wp2_with (first | ((with_reducible refine gate_callee (f := 36) rfl ?_); refine goesL_ (some 48) rfl rfl Try.func36 (by kernel_rfl) rfl #[.agg #[.bool ((rd_T46 ((rd_T48 l0 x6_2).f1) x7_3).f0), .int .i64 ((rd_T46 ((rd_T48 l0 x6_2).f1) x7_3).f1)], .int .i64 (l0.length : Int)] rfl (by (try simp only [List.map_toArray, List.map_cons, List.map_nil]); first | done | rfl | (simp only [List.length_drop, List.length_take]; rfl)) ?_; (with_reducible refine (spec_l12Val.calls ((rd_T46 ((rd_T48 l0 x6_2).f1) x7_3).f0) ((rd_T46 ((rd_T48 l0 x6_2).f1) x7_3).f1) (l0.length : Int) false _ A14.out).mono ?_); rintro e w17 ⟨rfl, hb⟩; refine ⟨_, rfl, ?_⟩; have n0_ := Aside0.mk (below_step (by repeat (first | (with_reducible first | exact HB.out | apply below_alloc | apply pw_below_drewN | apply below_drew1) | exact HB.out)) hb); clear HB; have HB := n0_; clear n0_; (try clear hb); (try clear hb2); (try clear hk); (try clear hi)))
                            go_ret
                            exact ⟨by first | rfl | (simp [errW_none, errW_some] <;> rfl) | (simp [*, errW_none, errW_some] <;> rfl), by repeat (first | (with_reducible first | exact HB.out | apply below_alloc | apply pw_below_drewN | apply below_drew1) | exact HB.out)⟩
                        · rw [if_neg c13] at H
                          exact absurd H (by simp)
                      · rw [if_neg c12] at H
                        have c12b0 : decide (x7_3 < (((rd_T48 l0 x6_2).f1).length : Int)) = false := decide_eq_false c12
                        clear c12
                        have H' := Aside0.mk H
                        clear H
                        have p142 : 0 ≤ (x6_2 : Int) := of_decide_eq_true (by first | (with_reducible assumption) | assumption)
                        have q142 : x6_2 < (l0.length : Int) := of_decide_eq_true (by first | (with_reducible assumption) | assumption)
                        obtain ⟨ad142, A142_1, c142_1, e142, hx142_0, hx142_1, hl142_1, hi142_1⟩ := at_T48 HR0.out x6_2 p142 q142
                        cases e142
                        replace hx142_0 := (HB.out.cell (World.block_lt_of_cell? w _ hx142_0)).trans hx142_0
                        replace hx142_1 := (HB.out.cell (World.block_lt_of_cell? w _ hx142_1)).trans hx142_1
                        have HR142_1 := Aside0.mk hi142_1
                        have HC142_1 := Aside0.mk hl142_1
                        clear hi142_1 hl142_1
                        replace p142 := eq_true p142
                        replace q142 := eq_true q142
                        go_wp2
                        go_roundg k3
                        case measure => have := HK1.out; have := HK2.out; have := HK3.out; omega
                        case rel => exact ⟨(wrap64 (x6_2 + 1)), (by first | rfl | (simp; done) | (simp [*]; done)), H', ⟨by have := HK1.out; have := HK2.out; have := HK3.out; omega⟩, ⟨by repeat (first | (with_reducible first | exact HB.out | apply below_alloc | apply pw_below_drewN | apply below_drew1) | exact HB.out)⟩⟩
                    · rw [if_neg c11] at H
                      exact absurd H (by simp)
                  · rw [if_neg c10] at H
                    exact absurd H (by simp)
            · rw [if_neg c9] at H
              have c9b0 : decide (x6_2 < (l0.length : Int)) = false := decide_eq_false c9
              clear c9
              obtain rfl := Option.some.inj H
              simp only [Option.some.injEq, Prod.mk.injEq] at H
              obtain ⟨rfl⟩ := H
              go_wp2
              go_ret
              exact ⟨by first | rfl | (simp [errW_none, errW_some] <;> rfl) | (simp [*, errW_none, errW_some] <;> rfl), by repeat (first | (with_reducible first | exact HB.out | apply below_alloc | apply pw_below_drewN | apply below_drew1) | exact HB.out)⟩
end Go.Proofs.Yteeakklnlcjgbaa.P

end
section

namespace Go.Proofs.Yteeakklnlcjgbaa.P
open Go Go.RowKit Go.Proofs.YteeakklnlcjgbaaW.PrintWords Go.Proofs.YteeakklnlcjgbaaW.PrintLast Go.Proofs.YteeakklnlcjgbaaW.PrintMore
attribute [local go_sem] max2_int min2_int max_two min_two max_three min_three max_four min_four
set_option linter.unusedVariables false
set_option linter.unusedSimpArgs false
structure GB (w0 : World) (a : GA) (oq oc : List Int) (vq vo : Value) (w : World) : Prop where
  i : GI w0.heap.size a oq oq vq w
  c : GC w0.heap.size a oc oc vo w
  x : GX vq vo
  b : Below w0.heap.size w0 w
def GRound (w0 : World) (a : GA) : Prop := ∀ (o : List Int) (m : Int) (vq vo : Value) (W : World), GB w0 a (o ++ [m]) o vq vo W → 0 ≤ m → m < (a.N : Int) → m ∉ o → o.length < 8796093022208 →
  YieldAt Fence.wide 0 Try.prog a.L #[.int .i64 m] W fun e W' => e = .returned (.bool true) ∧ ∃ vo', GB w0 a (o ++ [m]) (o ++ [m]) vq vo' W'
theorem wp_world {P : Program} {c : Code} {Q : Exit → Act → World → Prop} {a : Act} {w : World} (Pr : World → Prop) (h : Pr w) (k : ∀ w', Pr w' → c.wp P Q a w') : c.wp P Q a w := k w h
theorem GB.below {w0 : World} {a : GA} {oq oc : List Int} {vq vo : Value} {w w' : World} (h : GB w0 a oq oc vq vo w) (hb : Below w.heap.size w w') : GB w0 a oq oc vq vo w' := by
  have hg : w.grownBy w' none := ⟨hb.os, hb.tape, hb.output, hb.size, fun k hk _ => hb.block k hk⟩
  exact ⟨h.i.kept hg (fun r e => by cases e), h.c.kept hg (fun r e => by cases e), h.x, below_then h.b h.b.size hb⟩
set_option maxHeartbeats 8000000 in
set_option maxRecDepth 100000 in
theorem reach_come.calls (k : Nat) (w0 : World) (a : GA) (hR : GRound w0 a) (A0 : Option Addr) (c0 : Nat) (l0 : List GVal) (hr0 : Kd.C k46 w0 A0 l0.length l0) (hc0 : l0.length ≤ c0) (o r : List Int) (vq vo : Value) (w : World)
    (hG : GB w0 a o o vq vo w) (h : g_comes k a.N l0 0 o = some r) :
    Calls Try.prog 51 #[.slice A0 l0.length c0, .pointer (some ⟨a.bs, 0, none⟩), .pointer (some ⟨a.bq, 0, none⟩), .pointer (some ⟨a.bj, 0, none⟩)] w fun e w' => e = .returned (.bool true) ∧ ∃ vq' vo', GB w0 a r r vq' vo' w' := by
  have HR0 := Aside0.mk hr0
  have HC0 := Aside0.mk hc0
  clear hr0 hc0
  have HR := Aside0.mk hR
  have HG := Aside0.mk hG
  have H' := Aside0.mk h
  clear h hG hR
  go_enter Try.func51, Try.ntmps51
  go_wp2
  go_loopg [10] k (fun kq v10 w' => ∃ (x10 : Int) (o1 : List Int) (vq1 vo1 : Value), v10 = .int .i64 x10 ∧ Aside0 (g_comes kq a.N l0 x10 o1 = some r) ∧ Aside0 (kq ≤ k) ∧ Aside0 (GB w0 a o1 o1 vq1 vo1 w'))
  case atStart => exact ⟨0, o, vq, vo, rfl, H', ⟨Nat.le_refl _⟩, HG⟩
  case round =>
    clear H' HG
    obtain ⟨x10, o1, vq1, vo1, rfl, HA, HK1, HG⟩ := hrel
    cases gk with
    | zero => exact absurd HA.out (by simp [g_comes])
    | succ k1 =>
      have H := HA.out
      clear HA
      rw [g_comes] at H
      by_cases c3 : x10 < (l0.length : Int)
      · rw [if_pos c3] at H
        have c3b0 : decide (x10 < (l0.length : Int)) = true := decide_eq_true c3
        by_cases c4 : 0 ≤ x10
        · rw [if_pos c4] at H
          have c4b0 : decide (0 ≤ x10) = true := decide_eq_true c4
          replace H := Option.bind_eq_some_iff.mp H
          obtain ⟨o2, HS, H⟩ := H
          obtain ⟨ad, e, hx0, hx1⟩ := at_T46 HR0.out x10 c4 c3
          cases e
          replace hx0 := (HG.out.b.cell (World.block_lt_of_cell? w0 _ hx0)).trans hx0
          replace hx1 := (HG.out.b.cell (World.block_lt_of_cell? w0 _ hx1)).trans hx1
          replace c3 := eq_true c3
          replace c4 := eq_true c4
          obtain ⟨y, hy⟩ : ∃ y_, y_ = rd_T46 l0 x10 := ⟨_, rfl⟩
          rw [← hy] at hx0 hx1 HS
          obtain ⟨b, n⟩ := y
          dsimp only at hx0 hx1
          simp only [g_step] at HS
          clear hy
          have H' := Aside0.mk H
          clear H
          by_cases hb : b = true
          · subst hb
            rw [if_pos rfl] at HS
            go_upto_region 4 with fail
            refine wp_world (fun W => Aside0 (GB w0 a o1 o1 vq1 vo1 W) ∧ W.heap[wr.heap.size]? = some (.cells #[.bool true, .int .i64 n] 46 (0, 0))) ?_ ?_
            · refine ⟨⟨HG.out.below (by repeat (first | exact Below.refl _ _ | apply below_alloc | refine below_set ?_ (Nat.le_refl _)))⟩, ?_⟩
              exact blk_new _ _
            clear HG hx0 hx1
            rintro w1 ⟨HG, hbk⟩
            have hc0 := (blk_cell hbk 0).trans rfl
            have hc1 := (blk_cell hbk 1).trans rfl
            have hf0 := blk_frozen hbk 0
            have hf1 := blk_frozen hbk 1
            by_cases hn : n = 0
            · subst hn
              rw [if_pos rfl] at HS
              obtain rfl := Option.some.inj HS
              clear HS
              go_wp2
              go_roundg k1
              case measure => have := HK1.out; omega
              case rel => exact ⟨wrap64 (x10 + 1), o1, vq1, vo1, rfl, H', ⟨by have := HK1.out; omega⟩, HG⟩
            · rw [if_neg hn] at HS
              have hnb : decide (n = 0) = false := decide_eq_false hn
              by_cases hr : 0 ≤ n ∧ n < (a.N : Int)
              · rw [if_pos hr] at HS
                obtain ⟨hn0, hn1⟩ := hr
                have hs0 := (blk_cell HG.out.i.sB 0).trans rfl
                have hs1 := (blk_cell HG.out.i.s n.toNat).trans (show _ = some (Value.bool (decide (n ∈ o1))) by simp [boolV, g_seenL_get hn0 hn1])
                replace hn0 := eq_true hn0
                replace hn1 := eq_true hn1
                by_cases hm : n ∈ o1
                · rw [if_pos hm] at HS
                  obtain rfl := Option.some.inj HS
                  rw [decide_eq_true hm] at hs1
                  clear HS hm
                  go_wp2
                  go_roundg k1
                  case measure => have := HK1.out; omega
                  case rel => exact ⟨wrap64 (x10 + 1), o1, vq1, vo1, rfl, H', ⟨by have := HK1.out; omega⟩, HG⟩
                · rw [if_neg hm] at HS
                  rw [decide_eq_false hm] at hs1
                  by_cases hl : o1.length < 8796093022208
                  · rw [if_pos hl] at HS
                    obtain rfl := Option.some.inj HS
                    clear HS
                    have HM := Aside0.mk hm
                    have HL := Aside0.mk hl
                    clear hm hl
                    have hsf := blk_frozen HG.out.i.s n.toNat
                    go_upto_region 6 with fail
                    have HN := Aside0.mk (of_eq_true hn0)
                    refine wp_world (fun W => Aside0 (GI w0.heap.size a (o1 ++ [n]) o1 vq1 W ∧ GC w0.heap.size a o1 o1 vo1 W ∧ GX vq1 vo1 ∧ Below w0.heap.size w0 W) ∧ W.heap[wr.heap.size]? = some (.cells #[.bool true, .int .i64 n] 46 (0, 0))) ?_ ?_
                    · have h2 := HG.out.i.see HG.out.c HG.out.x HN.out
                      exact ⟨⟨h2.1, h2.2, HG.out.x, HG.out.b.setCell (p := ⟨a.gs, n.toNat, none⟩) HG.out.i.ge.1 _⟩, blk_far hbk (ne_blk hbk HG.out.i.s (cells_ne (by decide))) _⟩
                    clear HG hbk hc0 hc1 hf0 hf1 hs0 hs1 hsf
                    rintro w2 ⟨HG2, hbk⟩
                    have hc0 := (blk_cell hbk 0).trans rfl
                    have hc1 := (blk_cell hbk 1).trans rfl
                    have hq0 := (blk_cell HG2.out.1.qB 0).trans rfl
                    obtain ⟨i0, hi, hz0, hz1, hz2⟩ := info_parts info3
                    go_upto_region 7 with (first | ((with_reducible refine gate_builtin (b := .append) (xs := #[.tmp 33, .tmp 36]) rfl ?_); at_builtin; refine wpList_append_own_at (w := _) rfl (.tmp 33) (.tmp 36) 55 rfl w0.heap.size 3 i0 (.int .i64 0) 1 8 Try.underlying55 hi hz0 hz1 hz2 rfl (by decide) vq1 o1.length (intV o1) rfl (HG2.out.1.q.alloc _) ⟨w2.heap.size, 0, none⟩ 1 1 [.int .i64 n] rfl rfl (cell_one_new _ _ _) (by simp [Value.oneCell']) (by have := HL.out; simp only [maxLen]; omega) (by have := HL.out; omega) (by have := HG2.out.2.2.2.size; simp; omega) ?_; intro v' w3 hown hgrow _ hat; obtain ⟨g', cap', rfl⟩ := ownsRow_succ hown; have HP := Aside0.mk (HG2.out.1.push HG2.out.2.1 HG2.out.2.2.1 hown rfl hgrow hat); have HB3 := Aside0.mk (HG2.out.2.2.2.trans (((Below.refl w0.heap.size w2).alloc HG2.out.2.2.2.size _).grown hgrow (by have := HG2.out.2.2.2.size; simp; omega) (fun b e => (own_lt HG2.out.1.q e).2))); have hb3 := Aside0.mk (blk_grown (blk_alloc hbk _) hgrow (fun e => own_ne HG2.out.1.q hbk (fun _ => cells_ne (by decide)) e.symm)); clear hown hgrow hat hbk hc0 hc1; have hq1 := (blk_cell HP.out.1 0).trans rfl; have hqf := blk_frozen HP.out.1 0))
                    refine wp_world (fun W => Aside0 (GB w0 a (o1 ++ [n]) o1 (.slice (some ⟨g', 0, none⟩) (o1.length + 1) cap') vo1 W) ∧ W.heap[wr.heap.size]? = some (.cells #[.bool true, .int .i64 n] 46 (0, 0))) ?_ ?_
                    · exact ⟨⟨⟨HP.out.2.1, HP.out.2.2.1, HP.out.2.2.2, HB3.out.setCell (p := ⟨a.bq, 0, none⟩) HG2.out.1.ge.2 _⟩⟩, blk_far hb3.out (ne_blk hb3.out HP.out.1 (cells_ne (by decide))) _⟩
                    clear HP HB3 hb3 hq1 hqf HG2 hq0
                    rintro w4 ⟨HG4, hbk⟩
                    have hc1 := (blk_cell hbk 1).trans rfl
                    have hy0 := (blk_cell HG4.out.i.yB 0).trans rfl
                    obtain ⟨fn, tmps, assign, body, hy, hR⟩ := HR.out o1 n _ vo1 w4 HG4.out HN.out (of_eq_true hn1) HM.out HL.out
                    refine (wpIn_wide (n := 1)).1 ?_
                    gi_wp2
                    refine hR.mono ?_
                    clear hR hy HG4
                    rintro e W5 ⟨rfl, vo5, hG5⟩
                    have HG5 := Aside0.mk hG5
                    clear hG5 hbk hc1 hy0
                    gi_wp2
                    go_wp2
                    go_roundg k1
                    case measure => have := HK1.out; omega
                    case rel => exact ⟨wrap64 (x10 + 1), o1 ++ [n], _, vo5, rfl, H', ⟨by have := HK1.out; omega⟩, HG5⟩
                  · rw [if_neg hl] at HS
                    exact absurd HS (by simp)
              · rw [if_neg hr] at HS
                exact absurd HS (by simp)
          · obtain rfl := Bool.eq_false_iff.mpr hb
            rw [if_neg (by simp)] at HS
            obtain rfl := Option.some.inj HS
            clear HS hb
            go_wp2
            go_roundg k1
            case measure => have := HK1.out; omega
            case rel => exact ⟨wrap64 (x10 + 1), o1, vq1, vo1, rfl, H', ⟨by have := HK1.out; omega⟩, ⟨HG.out.below (by repeat (first | exact Below.refl _ _ | apply below_alloc | refine below_set ?_ (Nat.le_refl _)))⟩⟩
        · rw [if_neg c4] at H
          exact absurd H (by simp)
      · rw [if_neg c3] at H
        have c3b0 : decide (x10 < (l0.length : Int)) = false := decide_eq_false c3
        obtain rfl := Option.some.inj H
        clear c3
        go_wp2
        go_ret
        exact ⟨rfl, vq1, vo1, HG.out⟩
end Go.Proofs.Yteeakklnlcjgbaa.P

end
section

namespace Go.Proofs.Yteeakklnlcjgbaa.P
open Go Go.RowKit Go.Proofs.YteeakklnlcjgbaaW.PrintWords Go.Proofs.YteeakklnlcjgbaaW.PrintLast Go.Proofs.YteeakklnlcjgbaaW.PrintMore
attribute [local go_sem] max2_int min2_int max_two min_two max_three min_three max_four min_four
set_option linter.unusedVariables false
set_option linter.unusedSimpArgs false
theorem infoB : (Try.prog.info? 4).map (fun i => (i.zero, i.size, i.bytes)) = some (some (.bool false), 1, 1) := by kernel_rfl
theorem made_one (u : Value) (m : Nat) : madeCells #[u] m = (List.replicate m u).toArray := by
  apply Array.ext
  · simp [madeCells]
  · intro i h1 h2
    simp [madeCells, Nat.mod_one]
theorem made_bool (m : Nat) : madeCells #[.bool false] m = (boolV (g_seenL m [])).toArray := by
  rw [made_one, g_seenL_nil, boolV, List.map_replicate]
theorem made_int (m : Nat) : madeCells #[.int .i64 0] m = (intV (g_toL m [])).toArray := by
  rw [made_one, g_toL_nil, intV, List.map_replicate]
def reach_run.T8 : Bool × List (List Nat × List Nat) := (true, [([], []), ([], []), ([], []), ([], []), ([2, 3], [2, 3]), ([4], [4]), ([5], [5]), ([1, 6], [1, 6]), ([7], [7]), ([8], [8]), ([0, 9], [0, 9]), ([10], [10])])
def reach_run.B8 : List Nat := [0, 0, 0, 0, 12, 28, 60, 126, 254, 510, 1023, 2047]
theorem reach_run.tab8 : rtab .any (opsOf Try.f50 8) = reach_run.T8 := by kernel_rfl
theorem reach_run.bits8 : waitsOk reach_run.T8.2 reach_run.B8 = true := by kernel_rfl
theorem blk_new' {w : World} {o : Obj} {n : Nat} (h : n = w.heap.size) : (w.alloc o).heap[n]? = some o := by subst h; exact blk_new _ _
def GA.at (a : GA) (bs gs bq bj bb : Nat) (vb : Value) : GA := { a with bs := bs, gs := gs, bq := bq, bj := bj, bb := bb, vb := vb }
set_option maxHeartbeats 8000000 in
set_option maxRecDepth 100000 in
theorem reach_run.calls (k : Nat) (w0 : World) (a : GA) (hR : ∀ bs gs bq bj bb vb, GRound w0 (a.at bs gs bq bj bb vb)) (A0 : Option Addr) (c0 : Nat) (l0 : List GObj) (hr0 : Kd.C k48 w0 A0 l0.length l0) (hc0 : l0.length ≤ c0)
    (A1 : Option Addr) (c1 : Nat) (l1 : List GVal) (hr1 : Kd.C k46 w0 A1 l1.length l1) (hc1 : l1.length ≤ c1) (bb br : Nat) (hN : a.N = l0.length + 1) (hl : l0.length + 1 < 8796093022208) (o1 r : List Int) (vo : Value) (w : World)
    (hbb : w.heap[bb]? = some (.cells #[.slice A0 l0.length c0] 33 (0, 0))) (hbr : w.heap[br]? = some (.cells #[.slice A1 l1.length c1] 35 (0, 0)))
    (hC : GC w0.heap.size a [] [] vo w) (hB : Below w0.heap.size w0 w) (h1 : g_comes k (l0.length + 1) l1 0 [] = some o1) (h : g_walk k l0 0 o1 = some r) :
    Calls Try.prog 50 #[.func (.yield a.L) #[] #[], .pointer (some ⟨bb, 0, none⟩), .pointer (some ⟨br, 0, none⟩)] w fun e w' => (∃ v, e = .returned v) ∧ ∃ vo', GC w0.heap.size a r r vo' w' ∧ Below w0.heap.size w0 w' := by
  have HR0 := Aside0.mk hr0
  have HC0 := Aside0.mk hc0
  have HR1 := Aside0.mk hr1
  have HC1 := Aside0.mk hc1
  clear hr0 hc0 hr1 hc1
  have HR := Aside0.mk hR
  have HC := Aside0.mk hC
  have HB := Aside0.mk hB
  have H1 := Aside0.mk h1
  have H' := Aside0.mk h
  clear h h1 hC hB hR
  have HN := Aside0.mk hN
  have HL := Aside0.mk hl
  have hk0 := (blk_cell hbb 0).trans rfl
  have hk1 := (blk_cell hbr 0).trans rfl
  have hwr : wrap64 ((l0.length : Int) + 1) = (l0.length : Int) + 1 := by unfold wrap64; omega
  have hmk : ∀ W : World, (Instr.makeSlice 79 (.int .i64 ((l0.length : Int) + 1)) (.int .i64 ((l0.length : Int) + 1))).run Try.prog W = .ok (.slice (some ⟨W.heap.size, 0, none⟩) (l0.length + 1) (l0.length + 1)) (W.alloc (.cells (boolV (g_seenL (l0.length + 1) [])).toArray 4)) := by
    have h_ := print_make_int (P := Try.prog) 79 4 (.bool false) 1 Try.underlying79 infoB rfl (by decide) ((l0.length + 1 : Nat) : Int) (by omega) (by simp; omega)
    rw [Int.toNat_natCast, made_bool] at h_
    exact h_
  go_enter Try.func50, Try.ntmps50
  go_upto_region 1 with fail
  refine wp_world (fun W => Aside0 (GC w0.heap.size a [] [] vo W ∧ Below w0.heap.size w0 W ∧ W.heap[w.heap.size]? = some (.cells #[.func (.yield a.L) #[] #[]] 24 (0, 0)) ∧ w.heap.size < W.heap.size) ∧ W.heap[bb]? = some (.cells #[.slice A0 l0.length c0] 33 (0, 0)) ∧ W.heap[br]? = some (.cells #[.slice A1 l1.length c1] 35 (0, 0))) ?_ ?_
  · exact ⟨⟨HC.out.alloc _, HB.out.alloc HB.out.size _, blk_new _ _, by simp⟩, blk_alloc hbb _, blk_alloc hbr _⟩
  obtain ⟨bj, hbj⟩ : ∃ b_, b_ = w.heap.size := ⟨_, rfl⟩
  have HJ := Aside0.mk (show w0.heap.size ≤ bj by rw [hbj]; exact HB.out.size)
  rw [← hbj]
  clear HC HB hk0 hk1 hbb hbr hbj
  rintro w1 ⟨HG1, hbb, hbr⟩
  have hk0 := (blk_cell hbb 0).trans rfl
  go_upto_region 3 with fail
  refine wp_world (fun W => Aside0 (GB w0 (a.at (w1.heap.size + 1) w1.heap.size (w1.heap.size + 1 + 1) bj bb (.slice A0 l0.length c0)) [] [] (.slice none 0 0) vo W) ∧ W.heap[br]? = some (.cells #[.slice A1 l1.length c1] 35 (0, 0))) ?_ ?_
  · obtain ⟨hC, hB, hy, hlt⟩ := HG1.out
    refine ⟨⟨⟨?_, ?_, blk_new' (by simp [GA.at]), ⟨by simp [intV], .inl ⟨rfl, rfl⟩⟩, blk_alloc (blk_alloc (blk_alloc hy _) _) _, blk_alloc (blk_alloc (blk_alloc hbb _) _) _, ?_, ?_, by simp [Value.ownBlock]⟩, ?_, fun b h => by simp [Value.ownBlock] at h, ((hB.alloc hB.size _).alloc (by have := hB.size; simp; omega) _).alloc (by have := hB.size; simp; omega) _⟩, blk_alloc (blk_alloc (blk_alloc hbr _) _) _⟩
    · show _ = some (Obj.cells #[.slice (some ⟨w1.heap.size, 0, none⟩) a.N a.N] _ _)
      rw [HN.out]
      exact blk_alloc (blk_new' (by simp [GA.at])) _
    · show _ = some (Obj.cells (boolV (g_seenL a.N [])).toArray _ _)
      rw [HN.out]
      exact blk_alloc (blk_alloc (blk_new _ _) _) _
    · have := hB.size
      exact ⟨by show _ ≤ w1.heap.size; omega, by show _ ≤ w1.heap.size + 1 + 1; omega⟩
    · have h1 := (Array.getElem?_eq_some_iff.1 hC.oB).1
      have h2 := (Array.getElem?_eq_some_iff.1 hC.tB).1
      exact ⟨by show w1.heap.size + 1 + 1 ≠ a.bo; omega, by show w1.heap.size + 1 + 1 ≠ a.bt; omega⟩
    · have hC' := ((hC.alloc (.cells (boolV (g_seenL (l0.length + 1) [])).toArray 4)).alloc (.cells #[Value.slice (some { block := w1.heap.size, off := 0 }) (l0.length + 1) (l0.length + 1)] 79)).alloc (.cells #[Value.slice none 0 0] 55)
      exact ⟨hC'.tB, hC'.t, hC'.oB, hC'.o, hC'.on, hC'.rc, hC'.df, hC'.ge, hC'.ne⟩
  obtain ⟨gs, hgs⟩ : ∃ b_, b_ = w1.heap.size := ⟨_, rfl⟩
  rw [← hgs]
  clear HG1 hbb hbr hk0 hmk hwr hgs
  rintro w2 ⟨HG, hbr⟩
  have hk1 := (blk_cell hbr 0).trans rfl
  go_wp2_with (first | (refine (reach_come.calls k w0 (a.at (gs + 1) gs (gs + 1 + 1) bj bb (.slice A0 l0.length c0)) (HR.out _ _ _ _ _ _) A1 c1 l1 HR1.out HC1.out [] o1 _ vo w2 HG.out (by show g_comes k a.N l1 0 [] = some o1; rw [HN.out]; exact H1.out)).mono ?_; rintro e w3 ⟨rfl, vq3, vo3, hG3⟩; have HG3 := Aside0.mk hG3; clear hG3))
  clear HG hk1 hbr
  go_loopg [7] k (fun kq v7 w' => ∃ (x7 : Int) (o : List Int) (vq vo : Value), v7 = .int .i64 x7 ∧ Aside0 (g_walk kq l0 x7 o = some r) ∧ Aside0 (kq ≤ k) ∧ Aside0 (GB w0 (a.at (gs + 1) gs (gs + 1 + 1) bj bb (.slice A0 l0.length c0)) o o vq vo w'))
  case atStart => exact ⟨0, o1, vq3, vo3, rfl, H', ⟨Nat.le_refl _⟩, HG3⟩
  case round =>
    clear H' HG3 H1
    obtain ⟨x7, o, vq, vo, rfl, HA, HK1, HG⟩ := hrel
    cases gk with
    | zero => exact absurd HA.out (by simp [g_walk])
    | succ k1 =>
      have H := HA.out
      clear HA
      rw [g_walk] at H
      obtain ⟨Aq, cq, rfl, hcq⟩ := own_slice HG.out.i.q
      have hq0 : wr.cell? ⟨gs + 1 + 1, 0, none⟩ = some (.slice Aq o.length cq) := (blk_cell HG.out.i.qB 0).trans rfl
      by_cases c3 : x7 < (o.length : Int)
      · rw [if_pos c3] at H
        have c3b0 : decide (x7 < (o.length : Int)) = true := decide_eq_true c3
        by_cases c4 : 0 ≤ x7 ∧ 0 ≤ wrap64 (rd o x7 - 1) ∧ wrap64 (rd o x7 - 1) < (l0.length : Int)
        · rw [if_pos c4] at H
          obtain ⟨c5, c6, c7⟩ := c4
          replace H := Option.bind_eq_some_iff.mp H
          obtain ⟨o2, A2, H⟩ := H
          have H' := Aside0.mk H
          have HA2 := Aside0.mk A2
          clear H A2
          obtain ⟨gq, rfl, hqe⟩ := own_read HG.out.i.q rfl x7 c5 c3
          obtain ⟨ad, A2, c2, e, hx0, hx1, hl2, hi2⟩ := at_T48 HR0.out (wrap64 (rd o x7 - 1)) c6 c7
          cases e
          have HR2 := Aside0.mk hi2
          have HC2 := Aside0.mk hl2
          clear hl2 hi2 hx0
          replace hx1 := (HG.out.b.cell (World.block_lt_of_cell? w0 _ hx1)).trans hx1
          have hj0 : wr.cell? ⟨bb, 0, none⟩ = some (.slice (some ad) l0.length c0) := (blk_cell HG.out.i.jB 0).trans rfl
          replace c3 := eq_true c3
          replace c5 := eq_true c5
          replace c6 := eq_true c6
          replace c7 := eq_true c7
          go_upto_region 8 with fail
          refine start_ (n := 12) (S := fun w' => w'.cell? ⟨bb, 0, none⟩ = some (.slice (some ad) l0.length c0) ∧ w'.cell? ⟨gs + 1 + 1, 0, none⟩ = some (.slice (some ⟨gq, 0, none⟩) o.length cq) ∧ w'.cell? ⟨gq, x7.toNat, none⟩ = some (.int .i64 (rd o x7)) ∧ w'.cell? ⟨(ad.add ((wrap64 (rd o x7 - 1)).toNat * 2)).block, (ad.add ((wrap64 (rd o x7 - 1)).toNat * 2)).off + 1, none⟩ = some (.slice A2 (rd_T48 l0 (wrap64 (rd o x7 - 1))).f1.length c2)) (ds := [10]) #[false, false, false, false, false, false, false, false, false, false, false, false] (by kernel_rfl) rfl rfl ⟨hj0, hq0, hqe, hx1⟩ (fun hHeld => ?_); refine with_tabW reach_run.tab8 reach_run.bits8 (fun HT_ HW_ => ?_)
          refine pu 0 23 #[true, false, false, false, false, false, false, false, false, false, false, false] HT_ rfl rfl ?_
          refine pu 3 26 #[true, false, false, true, false, false, false, false, false, false, false, false] HT_ rfl rfl ?_
          refine ta 1 24 #[true, true, false, true, false, false, false, false, false, false, false, false] HT_ HW_ hHeld rfl rfl ?_
          refine ta 2 25 #[true, true, true, true, false, false, false, false, false, false, false, false] HT_ HW_ hHeld rfl rfl ?_
          refine pu 4 27 #[true, true, true, true, true, false, false, false, false, false, false, false] HT_ rfl rfl ?_
          refine ta 5 28 #[true, true, true, true, true, true, false, false, false, false, false, false] HT_ HW_ hHeld rfl rfl ?_
          refine pu 6 29 #[true, true, true, true, true, true, true, false, false, false, false, false] HT_ rfl rfl ?_
          refine pu 7 30 #[true, true, true, true, true, true, true, true, false, false, false, false] HT_ rfl rfl ?_
          refine pu 8 31 #[true, true, true, true, true, true, true, true, true, false, false, false] HT_ rfl rfl ?_
          refine ta 9 32 #[true, true, true, true, true, true, true, true, true, true, false, false] HT_ HW_ hHeld rfl rfl ?_
          refine last_ (i := 10) (N := some 33) #[true, true, true, true, true, true, true, true, true, true, true, false] rfl rfl (one_of HT_.out (by kernel_rfl)) (by decide) (fun K hK => ?_)
          refine call_ 51 #[.slice A2 (rd_T48 l0 (wrap64 (rd o x7 - 1))).f1.length c2, .pointer (some ⟨gs + 1, 0, none⟩), .pointer (some ⟨gs + 1 + 1, 0, none⟩), .pointer (some ⟨bj, 0, none⟩)] (by rfl) rfl ?hrun ?_
          case hrun =>
            have he := enters_ (P := Try.prog) Try.func51 (by kernel_rfl) rfl #[.slice A2 (rd_T48 l0 (wrap64 (rd o x7 - 1))).f1.length c2, .pointer (some ⟨gs + 1, 0, none⟩), .pointer (some ⟨gs + 1 + 1, 0, none⟩), .pointer (some ⟨bj, 0, none⟩)] wr.drew
            unfold execOp
            simp [resolve, Deferred.ofValue, invoke, Act.eval, he]
          refine (reach_come.calls k1 w0 (a.at (gs + 1) gs (gs + 1 + 1) bj bb (.slice (some ad) l0.length c0)) (HR.out _ _ _ _ _ _) A2 c2 (rd_T48 l0 (wrap64 (rd o x7 - 1))).f1 HR2.out HC2.out o o2 _ vo wr.drew ⟨HG.out.i.drew, HG.out.c.drew, HG.out.x, HG.out.b.drew⟩ (by show g_comes k1 a.N _ 0 o = some o2; rw [HN.out]; exact HA2.out)).mono ?_
          rintro e w5 ⟨rfl, vq5, vo5, hG5⟩
          have HG5 := Aside0.mk hG5
          clear hG5
          refine ⟨_, rfl, ?_⟩
          refine hK.out _ _ ?_
          clear hK K hHeld hj0 hq0 hqe hx1
          refine no 33 ?_
          refine pu 11 34 #[true, true, true, true, true, true, true, true, true, true, true, true] HT_ rfl rfl ?_
          refine done_ (done_of HT_.out (by kernel_rfl)) ?_
          go_wp2
          go_roundg k1
          case measure => have := HK1.out; omega
          case rel => exact ⟨wrap64 (x7 + 1), o2, vq5, vo5, rfl, H', ⟨by have := HK1.out; omega⟩, HG5⟩
        · rw [if_neg c4] at H
          exact absurd H (by simp)
      · rw [if_neg c3] at H
        have c3b0 : decide (x7 < (o.length : Int)) = false := decide_eq_false c3
        obtain rfl := Option.some.inj H
        clear c3
        go_wp2
        go_end0
        have hC := HG.out.c
        exact ⟨⟨_, rfl⟩, ⟨vo, ⟨hC.tB, hC.t, hC.oB, hC.o, hC.on, hC.rc, hC.df, hC.ge, hC.ne⟩⟩, HG.out.b⟩
end Go.Proofs.Yteeakklnlcjgbaa.P

end
