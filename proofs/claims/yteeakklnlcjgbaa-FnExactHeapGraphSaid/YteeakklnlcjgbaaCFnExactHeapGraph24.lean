/- A part of the claim FnExactHeapGraph: texts of this session and texts that its program printed out of the translation, joined. -/
import Derived.Test.YteeakklnlcjgbaaCFnExactHeapGraph22
import Derived.Test.YteeakklnlcjgbaaCFnExactHeapGraph21
import Derived.Test.YteeakklnlcjgbaaCFnExactHeapGraph0
import Derived.Test.YteeakklnlcjgbaaCFnExactHeapGraph1
import Derived.Test.YteeakklnlcjgbaaCFnExactHeapGraph2
import Derived.Test.YteeakklnlcjgbaaCFnExactHeapGraph3
import Derived.Test.YteeakklnlcjgbaaCFnExactHeapGraph4
import Derived.Test.YteeakklnlcjgbaaCFnExactHeapGraph5
import Derived.Test.YteeakklnlcjgbaaCFnExactHeapGraph6
import Derived.Test.YteeakklnlcjgbaaCFnExactHeapGraph7
import Derived.Test.YteeakklnlcjgbaaCFnExactHeapGraph8
import Derived.Test.YteeakklnlcjgbaaCFnExactHeapGraph9
import Derived.Test.YteeakklnlcjgbaaCFnExactHeapGraph10
import Derived.Test.YteeakklnlcjgbaaCFnExactHeapGraph11
import Derived.Test.YteeakklnlcjgbaaCFnExactHeapGraph12
import Derived.Test.YteeakklnlcjgbaaCFnExactHeapGraph13
import Derived.Test.YteeakklnlcjgbaaCFnExactHeapGraph14
import Derived.Test.YteeakklnlcjgbaaCFnExactHeapGraph15
import Derived.Test.YteeakklnlcjgbaaCFnExactHeapGraph16
import Derived.Test.YteeakklnlcjgbaaCFnExactHeapGraph17
import Derived.Test.YteeakklnlcjgbaaCFnExactHeapGraph18
import Derived.Test.YteeakklnlcjgbaaCFnExactHeapGraph19
import Derived.Test.YteeakklnlcjgbaaCFnExactHeapGraph20
import Derived.Test.YteeakklnlcjgbaaCFnExactHeapGraph23
section

namespace Go.Proofs.Yteeakklnlcjgbaa.P
open Go Go.RowKit Go.Proofs.YteeakklnlcjgbaaW.PrintWords Go.Proofs.YteeakklnlcjgbaaW.PrintLast Go.Proofs.YteeakklnlcjgbaaW.PrintMore
attribute [local go_sem] max2_int min2_int max_two min_two max_three min_three max_four min_four
set_option linter.unusedVariables false
set_option linter.unusedSimpArgs false
def l12_graph.T19 : Bool × List (List Nat × List Nat) := (true, [([], []), ([], []), ([1], [1]), ([], []), ([], []), ([4], [4]), ([3, 5], [3, 5]), ([2, 6], [2, 6]), ([7], [7]), ([0, 8, 6], [0, 8]), ([9, 9, 0, 1, 2, 3, 4, 5, 6, 7, 8, 9], [0, 9])])
def l12_graph.B19 : List Nat := [0, 0, 2, 0, 0, 16, 56, 126, 254, 511, 1023]
theorem l12_graph.tab19 : rtab .any (opsOf Try.f42 19) = l12_graph.T19 := by kernel_rfl
theorem l12_graph.bits19 : waitsOk l12_graph.T19.2 l12_graph.B19 = true := by kernel_rfl
theorem own_Ci {w : World} {B c : Nat} {A : Option Addr} {xs : List Int} (h : w.ownsRow B 3 1 (.slice A xs.length c) xs.length (intV xs)) : Kd.C (Kd.int .i64) w A xs.length xs := by
  have hR : Kd.R (Kd.int .i64) 3 w B (fun _ => True) (.slice A xs.length c) xs := by
    refine ⟨fun _ _ => trivial, intV xs, h, by simp [intV, Kd.int, Kd.scalar], fun j p hj => ?_⟩
    show _ = [Value.int .i64 p]
    obtain ⟨hlt, rfl⟩ := List.getElem?_eq_some_iff.1 hj
    show ((intV xs).drop (j * 1)).take 1 = _
    rw [Nat.mul_one, List.drop_eq_getElem_cons (by simpa [intV] using hlt)]
    simp [intV]
  exact (Kd.R_reads' hR).2.2
theorem made_num (m : Nat) : madeCells #[.int .i64 0] m = (intV (g_numL m [])).toArray := by
  rw [made_one, g_numL_nil, intV, List.map_replicate]
theorem rd_dec {o : List Int} {i : Int} (h0 : 0 ≤ i) (h1 : i < (o.length : Int)) : rd (o.map dec1) i = wrap64 (rd o i - 1) := by
  have : i.toNat < o.length := by omega
  simp [rd, dec1, List.getElem?_eq_getElem this]
set_option maxHeartbeats 8000000 in
set_option maxRecDepth 100000 in
theorem spec_l12Graph.calls (k : Nat) (A0 : Option Addr) (c0 : Nat) (l0 : List GObj) (A1 : Option Addr) (c1 : Nat) (l1 : List GVal) (r1 : List GObj) (r2 : List GVal) (w : World) (hr0 : Kd.C k48 w A0 l0.length l0) (hc0 : l0.length ≤ c0) (hr1 : Kd.C k46 w A1 l1.length l1) (hc1 : l1.length ≤ c1) (h : spec_l12Graph.f k l0 l1 = some (r1, r2)) :
    Calls Try.prog 42 #[.slice A0 l0.length c0, .slice A1 l1.length c1] w fun e w' => ∃ v0_ v1_ : Value, e = .returned (.tuple #[v0_, v1_]) ∧ Kd.S k48 48 w' w.heap.size (fun k_ => some k_ ≠ (v1_ : Value).ownBlock) v0_ r1 ∧ Kd.R k46 46 w' w.heap.size (fun _ => True) v1_ r2 ∧ Below w.heap.size w w' := by
  have HR0 := Aside0.mk hr0
  have HC0 := Aside0.mk hc0
  have HR1 := Aside0.mk hr1
  have HC1 := Aside0.mk hc1
  clear hr0 hc0 hr1 hc1
  rw [spec_l12Graph.f] at h
  by_cases hl : l0.length + 1 < 8796093022208
  · rw [if_pos hl] at h
    obtain ⟨o1, AO1, H⟩ := Option.bind_eq_some_iff.mp h
    replace H := Option.bind_eq_some_iff.mp H
    obtain ⟨o, AO, H⟩ := H
    replace H := Option.bind_eq_some_iff.mp H
    obtain ⟨g, AG, H⟩ := H
    replace H := Option.bind_eq_some_iff.mp H
    obtain ⟨r, AR, H⟩ := H
    obtain ⟨rfl, rfl⟩ : g = r1 ∧ r = r2 := by simpa using H
    have HO1 := Aside0.mk AO1
    have HO := Aside0.mk AO
    have HAG := Aside0.mk AG
    have HAR := Aside0.mk AR
    have HL := Aside0.mk hl
    clear AO1 AO AG AR h H
    have hmk : ∀ W : World, (Instr.makeSlice 55 (.int .i64 (l0.length : Int)) (.int .i64 (l0.length : Int))).run Try.prog W = .ok (.slice (some ⟨W.heap.size, 0, none⟩) l0.length l0.length) (W.alloc (.cells (intV (g_numL l0.length [])).toArray 3)) := by
      have h_ := print_make_int (P := Try.prog) 55 3 (.int .i64 0) 8 Try.underlying55 info3 rfl (by decide) (l0.length : Int) (by omega) (by simp; omega)
      rw [Int.toNat_natCast, made_num] at h_
      exact h_
    clear hl
    go_enter Try.func42, Try.ntmps42
    go_upto_region 2 with fail
    refine wpw_world (fun W => Aside0 (WS w.heap.size (w.heap.size + 1) w.heap.size l0.length [] [] (.slice none 0 0) W ∧ Below w.heap.size w W)) ?_ ?_
    · exact ⟨⟨blk_new' (by simp), blk_alloc (blk_new _ _) _, ⟨by simp [intV], .inl ⟨rfl, rfl⟩⟩, by simp [Value.ownBlock], ⟨by omega, by omega⟩⟩, ((Below.refl w.heap.size w).alloc (Nat.le_refl _) _).alloc (by simp) _⟩
    clear hmk
    intro w1 HG
    go_wp2
    go_loopg [7] k (fun kq v7 w' => ∃ (i : Int) (q : List Int) (vo : Value), v7 = .int .i64 i ∧ Aside0 (g_comes kq (l0.length + 1) l1 i q = some o1) ∧ Aside0 (kq ≤ k) ∧ Aside0 (WS w.heap.size (w.heap.size + 1) w.heap.size l0.length q q vo w' ∧ Below w.heap.size w w'))
    case atStart => exact ⟨0, [], _, rfl, HO1, ⟨Nat.le_refl _⟩, HG⟩
    case round =>
      clear HO1 HG
      obtain ⟨i, q, vo, rfl, HA, HK1, HG⟩ := hrel
      cases gk with
      | zero => exact absurd HA.out (by simp [g_comes])
      | succ k1 =>
        have H := HA.out
        clear HA
        rw [g_comes] at H
        by_cases c3 : i < (l1.length : Int)
        · rw [if_pos c3] at H
          have c3b0 : decide (i < (l1.length : Int)) = true := decide_eq_true c3
          by_cases c4 : 0 ≤ i
          · rw [if_pos c4] at H
            replace H := Option.bind_eq_some_iff.mp H
            obtain ⟨q2, HS, H⟩ := H
            have H' := Aside0.mk H
            have AS := Aside0.mk HS
            clear H HS
            obtain ⟨ad, e, hx0, hx1⟩ := at_T46 HR1.out i c4 c3
            cases e
            replace hx0 := (HG.out.2.cell (World.block_lt_of_cell? w _ hx0)).trans hx0
            replace hx1 := (HG.out.2.cell (World.block_lt_of_cell? w _ hx1)).trans hx1
            replace c3 := eq_true c3
            replace c4 := eq_true c4
            go_wp2_with (first | ((with_reducible refine gate_callee (f := 48) rfl ?_); refine goesL_ (some 30) rfl rfl Try.func48 (by kernel_rfl) rfl #[.pointer (some ⟨w.heap.size + 1, 0, none⟩), .agg #[.bool (rd_T46 l1 i).f0, .int .i64 (rd_T46 l1 i).f1]] rfl (by (try simp only [List.map_toArray, List.map_cons, List.map_nil]); first | done | rfl) ?_; refine (l12_come.calls w (w.heap.size + 1) w.heap.size l0.length HL.out q q2 vo wr (rd_T46 l1 i) HG.out.1 HG.out.2 AS.out).mono ?_; rintro e w4 ⟨⟨u_, rfl⟩, vo2, hW2, hB2⟩; refine ⟨_, rfl, ?_⟩; have HG2 := Aside0.mk (And.intro hW2 hB2); clear hW2 hB2 HG hx0 hx1))
            go_roundg k1
            case measure => have := HK1.out; omega
            case rel => exact ⟨wrap64 (i + 1), q2, vo2, rfl, H', ⟨by have := HK1.out; omega⟩, HG2⟩
          · rw [if_neg c4] at H
            exact absurd H (by simp)
        · rw [if_neg c3] at H
          have c3b0 : decide (i < (l1.length : Int)) = false := decide_eq_false c3
          obtain rfl := Option.some.inj H
          clear c3 H HK1
          go_wp2
          go_loopg [8] k (fun kq v8 w' => ∃ (i : Int) (q : List Int) (vo : Value), v8 = .int .i64 i ∧ Aside0 (g_walk kq l0 i q = some o) ∧ Aside0 (kq ≤ k) ∧ Aside0 (WS w.heap.size (w.heap.size + 1) w.heap.size l0.length q q vo w' ∧ Below w.heap.size w w'))
          case atStart => exact ⟨0, q, vo, rfl, HO, ⟨Nat.le_refl _⟩, HG⟩
          case round =>
            clear HO HG
            obtain ⟨i, q, vo, rfl, HA, HK1, HG⟩ := hrel
            cases gk with
            | zero => exact absurd HA.out (by simp [g_walk])
            | succ k1 =>
              have H := HA.out
              clear HA
              rw [g_walk] at H
              obtain ⟨Aq, cq, rfl, hcq⟩ := own_slice HG.out.1.o
              have hq0 : wr.cell? ⟨w.heap.size + 1, 1, none⟩ = some (.slice Aq q.length cq) := (blk_cell HG.out.1.b 1).trans rfl
              by_cases c3 : i < (q.length : Int)
              · rw [if_pos c3] at H
                have c3b0 : decide (i < (q.length : Int)) = true := decide_eq_true c3
                by_cases c4 : 0 ≤ i ∧ 0 ≤ wrap64 (rd q i - 1) ∧ wrap64 (rd q i - 1) < (l0.length : Int)
                · rw [if_pos c4] at H
                  obtain ⟨c5, c6, c7⟩ := c4
                  replace H := Option.bind_eq_some_iff.mp H
                  obtain ⟨q2, AS, H⟩ := H
                  have H' := Aside0.mk H
                  have HAS := Aside0.mk AS
                  clear H AS
                  obtain ⟨gq, rfl, hqe⟩ := own_read HG.out.1.o (by simp) i c5 c3
                  rw [rd_dec c5 c3] at hqe
                  obtain ⟨ad, A2, c2, e, hx0, hx1, hl2, hi2⟩ := at_T48 HR0.out (wrap64 (rd q i - 1)) c6 c7
                  cases e
                  have HR2 := Aside0.mk hi2
                  have HC2 := Aside0.mk hl2
                  clear hl2 hi2 hx0
                  replace hx1 := (HG.out.2.cell (World.block_lt_of_cell? w _ hx1)).trans hx1
                  replace c3 := eq_true c3
                  replace c5 := eq_true c5
                  replace c6 := eq_true c6
                  replace c7 := eq_true c7
                  obtain ⟨vs, hvs⟩ : ∃ vs_, vs_ = (rd_T48 l0 (wrap64 (rd q i - 1))).f1 := ⟨_, rfl⟩
                  rw [← hvs] at hx1 HAS HR2 HC2
                  clear hvs
                  go_wp2
                  clear hq0 hqe hx1
                  go_loopg [10] k1 (fun kq v10 w' => ∃ (j : Int) (q : List Int) (vo : Value), v10 = .int .i64 j ∧ Aside0 (g_comes kq (l0.length + 1) vs j q = some q2) ∧ Aside0 (kq ≤ k1) ∧ Aside0 (WS w.heap.size (w.heap.size + 1) w.heap.size l0.length q q vo w' ∧ Below w.heap.size w w'))
                  case atStart => exact ⟨0, q, _, rfl, HAS, ⟨Nat.le_refl _⟩, HG⟩
                  case round =>
                    clear HAS HG
                    obtain ⟨j, q, vo, rfl, HA, HK2, HG⟩ := hrel
                    cases gk with
                    | zero => exact absurd HA.out (by simp [g_comes])
                    | succ k2 =>
                      have H := HA.out
                      clear HA
                      rw [g_comes] at H
                      by_cases d3 : j < (vs.length : Int)
                      · rw [if_pos d3] at H
                        have d3b0 : decide (j < (vs.length : Int)) = true := decide_eq_true d3
                        by_cases d4 : 0 ≤ j
                        · rw [if_pos d4] at H
                          replace H := Option.bind_eq_some_iff.mp H
                          obtain ⟨q3, HS, H⟩ := H
                          have H2' := Aside0.mk H
                          have AS := Aside0.mk HS
                          clear H HS
                          obtain ⟨ad2, e, hx0, hx1⟩ := at_T46 HR2.out j d4 d3
                          cases e
                          replace hx0 := (HG.out.2.cell (World.block_lt_of_cell? w _ hx0)).trans hx0
                          replace hx1 := (HG.out.2.cell (World.block_lt_of_cell? w _ hx1)).trans hx1
                          replace d3 := eq_true d3
                          replace d4 := eq_true d4
                          go_wp2_with (first | ((with_reducible refine gate_callee (f := 48) rfl ?_); refine goesL_ (some 62) rfl rfl Try.func48 (by kernel_rfl) rfl #[.pointer (some ⟨w.heap.size + 1, 0, none⟩), .agg #[.bool (rd_T46 vs j).f0, .int .i64 (rd_T46 vs j).f1]] rfl (by (try simp only [List.map_toArray, List.map_cons, List.map_nil]); first | done | rfl) ?_; refine (l12_come.calls w (w.heap.size + 1) w.heap.size l0.length HL.out q q3 vo wr (rd_T46 vs j) HG.out.1 HG.out.2 AS.out).mono ?_; rintro e w4 ⟨⟨u_, rfl⟩, vo2, hW2, hB2⟩; refine ⟨_, rfl, ?_⟩; have HG2 := Aside0.mk (And.intro hW2 hB2); clear hW2 hB2 HG hx0 hx1))
                          go_roundg k2
                          case measure => have := HK2.out; omega
                          case rel => exact ⟨wrap64 (j + 1), q3, vo2, rfl, H2', ⟨by have := HK2.out; omega⟩, HG2⟩
                        · rw [if_neg d4] at H
                          exact absurd H (by simp)
                      · rw [if_neg d3] at H
                        have d3b0 : decide (j < (vs.length : Int)) = false := decide_eq_false d3
                        obtain rfl := Option.some.inj H
                        clear d3 H HK2
                        go_wp2
                        go_roundg k1
                        case measure => have := HK1.out; omega
                        case rel => exact ⟨wrap64 (i + 1), _, vo, rfl, H', ⟨by have := HK1.out; omega⟩, HG⟩
                · rw [if_neg c4] at H
                  exact absurd H (by simp)
              · rw [if_neg c3] at H
                have c3b0 : decide (i < (q.length : Int)) = false := decide_eq_false c3
                obtain rfl := Option.some.inj H
                clear c3 H HK1
                go_upto_region 14 with fail
                clear hq0
                refine wpw_world (fun W => Aside0 (WS w.heap.size (w.heap.size + 1) w.heap.size l0.length q q (.slice Aq q.length cq) W ∧ Below w.heap.size w W)) HG ?_
                clear HG
                intro W8 HG8
                have HB0 := Aside0.mk (Below.refl W8.heap.size W8)
                have HNL : Aside0 (Kd.C (Kd.int .i64) W8 (some ⟨w.heap.size, 0, none⟩) (g_numL l0.length q).length (g_numL l0.length q)) := ⟨own_Ci (B := 0) (c := l0.length) ⟨by simp [intV], .inr ⟨w.heap.size, l0.length, _, by rw [length_numL], Nat.zero_le _, HG8.out.1.n, by simp [length_numL], by have := HL.out; simp only [maxLen]; omega, by simp [intV, length_numL], List.take_of_length_le (by simp [intV, length_numL])⟩⟩⟩
                have HBW : Aside0 (W8.heap[w.heap.size + 1]? = some (.cells #[.slice (some ⟨w.heap.size, 0, none⟩) (g_numL l0.length q).length (g_numL l0.length q).length, .slice Aq q.length cq] 76 (0, 0))) := ⟨by rw [length_numL]; exact HG8.out.1.b⟩
                have HRO : Aside0 (Kd.C (Kd.int .i64) W8 Aq (q.map dec1).length (q.map dec1)) := ⟨own_Ci (B := w.heap.size) (c := cq) (by have h_ := HG8.out.1.o; simpa using h_)⟩
                have HR08 := Aside0.mk (Kd.C_below HR0.out HG8.out.2)
                have HR18 := Aside0.mk (Kd.C_below HR1.out HG8.out.2)
                have HB8 := Aside0.mk HG8.out.2
                clear HG8 HR0 HR1
                go_wp2_with (first | ((with_reducible refine gate_dst (N := 63) rfl ?_); refine Kd.S_lit k48 _ 48 ?hg (N := 63) ?hd (xs := ([] : List GObj)) (inner := []) (ok := fun _ => True) (okp := fun _ => True) ?hr ?hp (fun _ hk => hk) trivial (Below.refl _ _) (Nat.le_refl _) (by simp) ?_; (case hd => rfl); (case hg => rfl); (case hr => first | (go_simp; done) | (go_simp; rfl)); (case hp => exact (Reps.none _ _)); intro v374 w9 ho5 hb hg_ hnew_; clear hg_ hnew_; have n0_ := Aside0.mk (Kd.S_lower ho5 (below_size HB0.out)); have n1_ := Aside0.mk (below_step HB0.out hb); clear HB0; have HO9 := n0_; have HB := n1_; clear n0_ n1_; clear hb ho5))
                go_loopg [11, 12] k (fun kq v11 v12 w' => ∃ (gl : List GObj) (i : Int), v12 = .int .i64 i ∧ Aside0 (l12_out kq l0 (g_numL l0.length q) q i gl = some g) ∧ Aside0 (kq ≤ k) ∧ Aside0 (Kd.S k48 48 w' W8.heap.size (fun _ => True) v11 gl) ∧ Aside0 (Below W8.heap.size W8 w'))
                case atStart => exact ⟨[], 0, rfl, HAG, ⟨Nat.le_refl _⟩, HO9, HB⟩
                case round =>
                  clear HAG HO9 HB
                  obtain ⟨gl, i, rfl, HA, HK1, HO9, HB⟩ := hrel
                  cases gk with
                  | zero => exact absurd HA.out (by simp [l12_out])
                  | succ k1 =>
                    have H := HA.out
                    clear HA
                    rw [l12_out] at H
                    have hq0 : wr.cell? ⟨w.heap.size + 1, 1, none⟩ = some (.slice Aq q.length cq) := (blk_cell (blk_below HBW.out HB.out) 1).trans rfl
                    by_cases c3 : i < (q.length : Int)
                    · rw [if_pos c3] at H
                      have c3b0 : decide (i < (q.length : Int)) = true := decide_eq_true c3
                      by_cases c4 : 0 ≤ i ∧ 0 ≤ wrap64 (rd q i - 1) ∧ wrap64 (rd q i - 1) < (l0.length : Int)
                      · rw [if_pos c4] at H
                        obtain ⟨c5, c6, c7⟩ := c4
                        replace H := Option.bind_eq_some_iff.mp H
                        obtain ⟨vs, AV, H⟩ := H
                        have AVS := Aside0.mk AV
                        clear AV
                        by_cases c8 : gl.length < 4398046511104
                        · rw [if_pos c8] at H
                          have LM := Aside0.mk c8
                          have H' := Aside0.mk H
                          clear c8 H
                          obtain ⟨adq, eq, hqe⟩ := Kd.at_int HRO.out i c5 (by simpa using c3)
                          cases eq
                          rw [rd_dec c5 c3] at hqe
                          replace hqe := (HB.out.cell (World.block_lt_of_cell? W8 _ hqe)).trans hqe
                          obtain ⟨ad, A2, c2, e, hx0, hx1, hl2, hi2⟩ := at_T48 HR08.out (wrap64 (rd q i - 1)) c6 c7
                          cases e
                          have HR2 := Aside0.mk hi2
                          have HC2 := Aside0.mk hl2
                          clear hl2 hi2
                          replace hx0 := (HB.out.cell (World.block_lt_of_cell? W8 _ hx0)).trans hx0
                          replace hx1 := (HB.out.cell (World.block_lt_of_cell? W8 _ hx1)).trans hx1
                          replace c3 := eq_true c3
                          replace c5 := eq_true c5
                          replace c6 := eq_true c6
                          replace c7 := eq_true c7
                          go_upto_region 19 with fail
                          refine wpw_world (fun W => Aside0 (Below wr.heap.size wr W ∧ W.heap[wr.heap.size]? = some (.cells #[.int .i64 (rd_T48 l0 (wrap64 (rd q i - 1))).f0, .slice A2 (rd_T48 l0 (wrap64 (rd q i - 1))).f1.length c2] 48 (0, 0)))) ?_ ?_
                          · exact ⟨by repeat (first | exact Below.refl _ _ | apply below_alloc | refine below_set ?_ (Nat.le_refl _)), blk_new _ _⟩
                          clear hx0 hx1 hqe hq0
                          intro w1 HG
                          have HO9' := Aside0.mk (Kd.S_below (Kd.S_elderB HO9.out wr.heap.size (Nat.le_refl _)) HG.out.1)
                          have HB' := Aside0.mk (below_step HB.out HG.out.1)
                          have hgx := Aside0.mk HG.out.2
                          obtain ⟨gx, hgxe⟩ : ∃ g_, g_ = wr.heap.size := ⟨_, rfl⟩
                          rw [show (Value.pointer (some ⟨wr.heap.size, 0, none⟩)) = .pointer (some ⟨gx, 0, none⟩) from by rw [hgxe]]
                          rw [← hgxe] at hgx HO9'
                          clear HO9 HB HG hgxe
                          have HO9 := HO9'
                          have HB := HB'
                          clear HO9' HB'
                          refine start_ (n := 11) (S := fun w' => w'.cell? ⟨gx, 0, none⟩ = some (.int .i64 (rd_T48 l0 (wrap64 (rd q i - 1))).f0) ∧ w'.cell? ⟨gx, 1, none⟩ = some (.slice A2 (rd_T48 l0 (wrap64 (rd q i - 1))).f1.length c2)) (ds := []) #[false, false, false, false, false, false, false, false, false, false, false] (by kernel_rfl) rfl rfl ⟨(blk_cell hgx.out 0).trans rfl, (blk_cell hgx.out 1).trans rfl⟩ (fun hHeld => ?_); refine with_tabW l12_graph.tab19 l12_graph.bits19 (fun HT_ HW_ => ?_)
                          refine pu 0 83 #[true, false, false, false, false, false, false, false, false, false, false] HT_ rfl rfl ?_
                          refine pu 1 84 #[true, true, false, false, false, false, false, false, false, false, false] HT_ rfl rfl ?_
                          refine ta 2 85 #[true, true, true, false, false, false, false, false, false, false, false] HT_ HW_ hHeld rfl rfl ?_
                          refine pu 3 86 #[true, true, true, true, false, false, false, false, false, false, false] HT_ rfl rfl ?_
                          refine pu 4 87 #[true, true, true, true, true, false, false, false, false, false, false] HT_ rfl rfl ?_
                          refine ta 5 88 #[true, true, true, true, true, true, false, false, false, false, false] HT_ HW_ hHeld rfl rfl ?_
                          refine one_ (i := 6) (N := some 89) #[true, true, true, true, true, true, true, false, false, false, false] rfl rfl (one_of HT_.out (by kernel_rfl)) (by decide) (fun K hK => ?_)
                          refine gs Try.func49 #[.pointer (some ⟨w.heap.size + 1, 0, none⟩), .slice A2 (rd_T48 l0 (wrap64 (rd q i - 1))).f1.length c2] rfl rfl ?_
                          refine (l12_all.calls k1 (w.heap.size + 1) w.heap.size (g_numL l0.length q) _ A2 c2 (rd_T48 l0 (wrap64 (rd q i - 1))).f1 vs w1.drew (blk_drew (blk_below HBW.out HB.out)) (Kd.C_drew (Kd.C_below HNL.out HB.out)) (Kd.C_drew (Kd.C_below HR2.out HB.out)) HC2.out AVS.out).mono ?_
                          rintro e w9 ⟨mv, rfl, ho0, hb⟩
                          refine ⟨_, rfl, ?_⟩
                          have n0_ := Aside0.mk (Kd.S_elder' (Kd.S_drew HO9.out) (Kd.R_base ho0) hb)
                          have n1_ := Aside0.mk (Kd.R_lower ho0 (below_size (below_drew1 HB.out)))
                          have n2_ := Aside0.mk (below_step (below_drew1 HB.out) hb)
                          have n3_ := Aside0.mk (blk_below (blk_drew hgx.out) hb)
                          clear HO9 HB hgx ho0 hb
                          have HO9 := n0_
                          have HMV := n1_
                          have HB := n2_
                          have hgx := n3_
                          clear n0_ n1_ n2_ n3_
                          obtain ⟨Am, cm, rfl⟩ := Kd.R_slice HMV.out
                          refine hK.out _ _ ⟨(blk_cell hgx.out 0).trans rfl, (blk_cell hgx.out 1).trans rfl⟩ (fun hHeld => ?_)
                          clear hK K
                          refine no 89 ?_
                          refine pu 7 90 #[true, true, true, true, true, true, true, true, false, false, false] HT_ rfl rfl ?_
                          refine one_ (i := 8) (N := some 91) #[true, true, true, true, true, true, true, true, true, false, false] rfl rfl (one_of HT_.out (by kernel_rfl)) (by decide) (fun K hK => ?_)
                          refine value_ (w1 := ?_) (v := ?_) (by rfl) rfl ?_ ?_
                          rotate_left 2
                          · go_simp
                            constructor
                            · rfl
                            · rfl
                          refine hK.out _ _ ⟨(blk_cell (blk_alloc hgx.out _) 0).trans rfl, (blk_cell (blk_alloc hgx.out _) 1).trans rfl⟩ (fun hHeld => ?_)
                          clear hK K
                          refine no 91 ?_
                          refine one_ (i := 9) (N := some 92) #[true, true, true, true, true, true, true, true, true, true, false] rfl rfl (one_of HT_.out (by kernel_rfl)) (by decide) (fun K hK => ?_)
                          refine Kd.S_append_step k48 (w0 := W8) W8.heap.size (by rfl) (.tmp 83) (.tmp 91) 33 48 (.agg #[(.int .i64 0), (.slice none 0 0)]) 32 rfl Try.underlying33 info48 rfl (by decide) (by omega) u11 gl (⟨(rd_T48 l0 (wrap64 (rd q i - 1))).f0, vs⟩ : GObj) [.int .i64 (rd_T48 l0 (wrap64 (rd q i - 1))).f0, .slice Am vs.length cm] (fun k_ => k_ ≠ gx) (fun k_ => some k_ = (.slice Am vs.length cm : Value).ownBlock) rfl rfl ?aP ?aK ?aF ?aO ?aB ?aS ?aL ?_
                          (case aP => exact k48_mkM _ _ _ (⟨(rd_T48 l0 (wrap64 (rd q i - 1))).f0, vs⟩ : GObj) (Kd.R_mono (Kd.R_tight rfl HMV.out) (fun _ h_ => h_)))
                          (case aK => exact fun k_ hk_ => ⟨fun e_ => Kd.R_ne HMV.out hgx.out (by decide) (e_ ▸ hk_), fun e_ => ((Kd.S_R HO9.out).1 k_ e_.symm).2 hk_⟩)
                          (case aF => exact fun k_ hk => Kd.freshB hgx.out k_ hk)
                          (case aO => exact Kd.S_mono HO9.out (fun k_ hk => ⟨hk.1.2, fun e_ => hk.2 e_⟩))
                          (case aB => exact HB.out)
                          (case aS => exact HB.out.size)
                          (case aL => have := LM.out; omega)
                          intro v11 w11 ho hb hg hat
                          have n3_ := Aside0.mk (blk_grown hgx.out hg (Kd.S_away HO9.out (fun _ hk => hk.1.2)))
                          clear HO9 HB hgx
                          have HO9 := Aside0.mk (Kd.S_mono ho (fun _ _ => trivial))
                          have HB := Aside0.mk hb
                          have hgx := n3_
                          clear ho hb hg hat n3_
                          refine hK.out _ _ ⟨(blk_cell hgx.out 0).trans rfl, (blk_cell hgx.out 1).trans rfl⟩ (fun hHeld => ?_)
                          clear hK K
                          refine no 92 ?_
                          refine pu 10 11 #[true, true, true, true, true, true, true, true, true, true, true] HT_ rfl rfl ?_
                          refine done_ (done_of HT_.out (by kernel_rfl)) ?_
                          go_wp2
                          go_roundg k1
                          case measure => have := HK1.out; omega
                          case rel => exact ⟨gl ++ [(⟨(rd_T48 l0 (wrap64 (rd q i - 1))).f0, vs⟩ : GObj)], wrap64 (i + 1), rfl, H', ⟨by have := HK1.out; omega⟩, HO9, HB⟩
                        · rw [if_neg c8] at H
                          exact absurd H (by simp)
                      · rw [if_neg c4] at H
                        exact absurd H (by simp)
                    · rw [if_neg c3] at H
                      have c3b0 : decide (i < (q.length : Int)) = false := decide_eq_false c3
                      obtain rfl := Option.some.inj H
                      clear c3
                      obtain ⟨Ag, cg, eg9⟩ := Kd.S_slice HO9.out
                      (first | subst eg9 | (injection eg9 with f1_ f2_ f3_; subst f1_; subst f3_))
                      go_wp2_with (first | ((with_reducible refine gate_callee (f := 49) rfl ?_); refine goesL_ (some 96) rfl rfl Try.func49 (by kernel_rfl) rfl #[.pointer (some ⟨w.heap.size + 1, 0, none⟩), .slice A1 l1.length c1] rfl (by (try simp only [List.map_toArray, List.map_cons, List.map_nil]); first | done | rfl) ?_; refine (l12_all.calls k (w.heap.size + 1) w.heap.size (g_numL l0.length q) _ A1 c1 l1 r wr (blk_below HBW.out HB.out) (Kd.C_below HNL.out HB.out) (Kd.C_below HR18.out HB.out) HC1.out HAR.out).mono ?_; rintro e w9 ⟨mv, rfl, ho0, hb⟩; refine ⟨_, rfl, ?_⟩; have n0_ := Aside0.mk (Kd.S_elder' HO9.out (Kd.R_base ho0) hb); have n1_ := Aside0.mk (Kd.R_lower ho0 (below_size HB.out)); have n2_ := Aside0.mk (below_step HB.out hb); clear HO9 HB ho0 hb; have HO9 := n0_; have HMV := n1_; have HB := n2_; clear n0_ n1_ n2_))
                      go_ret2
                      exact ⟨_, _, rfl, Kd.S_lower (Kd.S_mono HO9.out (fun _ h_ => h_.2)) HB8.out.size, Kd.R_lower HMV.out HB8.out.size, below_then HB8.out HB8.out.size HB.out⟩
  · rw [if_neg hl] at h
    exact absurd h (by simp)
end Go.Proofs.Yteeakklnlcjgbaa.P

end
section

namespace Go.Proofs.Yteeakklnlcjgbaa.P
open Go.RowKit Go.Proofs.YteeakklnlcjgbaaW.PrintWords Go.Proofs.YteeakklnlcjgbaaW.PrintLast Go.Proofs.YteeakklnlcjgbaaW.PrintMore
attribute [local go_sem] max2_int min2_int max_two min_two max_three min_three max_four min_four
set_option linter.unusedVariables false
set_option linter.unusedSimpArgs false
set_option maxHeartbeats 8000000 in
set_option maxRecDepth 100000 in
theorem laws_markValS.calls (k : Nat) (P0_ : Nat → Prop) (u9000_ : Value) (l0 : List (S46)) (a1 : Int) (r1 : Int) (r2 : List (S46)) (w0 w : World) (hB : Below w0.heap.size w0 w) (ho0 : Kd.R k46 46 w w0.heap.size P0_ u9000_ l0) (h : laws_markValS.f k l0 a1 = some (r1, r2)) :
    Calls Try.prog 26 #[u9000_, .int .i64 a1] w fun e w' => e = .returned (.int .i64 r1) ∧ Kd.R k46 46 w' w0.heap.size (fun k_ => (P0_ k_ ∨ w.heap.size ≤ k_)) u9000_ r2 ∧ Below w0.heap.size w0 w' ∧ Kept w w' (fun k_ => P0_ k_) := by
  have HO0 := Aside0.mk (show Kd.R k46 46 w w0.heap.size (fun k_ => (P0_ k_ ∨ w.heap.size ≤ k_)) u9000_ l0 from Kd.R_mono ho0 (fun k_ hk => (.inl hk)))
  have HK := Aside0.mk (Kept.refl w (fun k_ => P0_ k_))
  have HW0 := Aside0.mk hB.size
  have HB := Aside0.mk hB
  clear hB
  have H : (laws_markValS.l0 k l0 a1 0) = some (r1, r2) := h
  clear h
  have H' := Aside0.mk H
  clear H
  go_enter Try.func26, Try.ntmps26
  go_wp2
  go_loopg [1, 5] k (fun kq v1 v5 w' => ∃ (x0_1 : List (S46)) (x1_1 : Int) (x5_1 : Int), v1 = .int .i64 x1_1 ∧ v5 = .int .i64 x5_1 ∧ Aside0 (laws_markValS.l0 kq x0_1 x1_1 x5_1 = some (r1, r2)) ∧ Aside0 (kq ≤ k) ∧ Aside0 (Kd.R k46 46 w' w0.heap.size (fun k_ => (P0_ k_ ∨ w.heap.size ≤ k_)) u9000_ x0_1) ∧ Aside0 (Kept w w' (fun k_ => P0_ k_)) ∧ Aside0 (Below w0.heap.size w0 w'))
  case atStart => exact ⟨(l0), (a1), (0), (by first | rfl | (simp; done) | (simp [*]; done)), (by first | rfl | (simp; done) | (simp [*]; done)), H', ⟨Nat.le_refl _⟩, ⟨by (with_reducible repeat (first | apply Kd.R_alloc | apply Kd.R_drewN | apply Kd.R_drew)); exact HO0.out⟩, ⟨by repeat (first | (with_reducible first | exact HK.out | apply Kept.alloc | apply Kept.drewN | apply Kept.drew) | exact HK.out)⟩, ⟨by repeat (first | (with_reducible first | exact HB.out | apply below_alloc | apply pw_below_drewN | apply below_drew1) | exact HB.out)⟩⟩
  case round =>
    clear H'
    try clear c2
    try clear p2
    obtain ⟨x0_1, x1_1, x5_1, rfl, rfl, HA, HK1, HO_0, HK, HB⟩ := hrel
    cases gk with
    | zero => exact absurd HA.out (by simp [laws_markValS.l0])
    | succ k1 =>
      have H := HA.out
      clear HA
      simp only [laws_markValS.l0] at H
      by_cases c3 : x5_1 < (x0_1.length : Int)
      · rw [if_pos c3] at H
        have c3b0 : decide (x5_1 < (x0_1.length : Int)) = true := decide_eq_true c3
        clear c3
        by_cases c4 : 0 ≤ x5_1
        · rw [if_pos c4] at H
          have c4b0 : decide (0 ≤ x5_1) = true := decide_eq_true c4
          clear c4
          obtain ⟨y254, hy254⟩ : ∃ y_ : List (S46), y_ = (x0_1.set (x5_1 : Int).toNat (⟨((Int.tmod x1_1 3) == 0), (rd_T46 x0_1 x5_1).f1⟩ : S46)) := ⟨_, rfl⟩
          replace H : (laws_markValS.l0 k1 (y254.set (x5_1 : Int).toNat (⟨(rd_T46 y254 x5_1).f0, wrap64 (x1_1 + 1)⟩ : S46)) (wrap64 ((wrap64 (x1_1 + 1)) + 1)) (wrap64 (x5_1 + 1))) = some (r1, r2) := by first | (rw [hy254]; with_reducible exact H) | (have H2_ := (Option.bind_some _ _).symm.trans H; rw [hy254]; with_reducible exact H2_) | (have H2_ := (Option.bind_some _ _).symm.trans H; with_reducible exact H2_) | with_reducible exact H | (rw [hy254]; exact H) | exact H
          have Ny254 := Aside0.mk hy254
          clear hy254
          obtain ⟨y255, hy255⟩ : ∃ y_ : List (S46), y_ = (y254.set (x5_1 : Int).toNat (⟨(rd_T46 y254 x5_1).f0, wrap64 (x1_1 + 1)⟩ : S46)) := ⟨_, rfl⟩
          replace H : (laws_markValS.l0 k1 y255 (wrap64 ((wrap64 (x1_1 + 1)) + 1)) (wrap64 (x5_1 + 1))) = some (r1, r2) := by first | (rw [hy255]; with_reducible exact H) | (have H2_ := (Option.bind_some _ _).symm.trans H; rw [hy255]; with_reducible exact H2_) | (have H2_ := (Option.bind_some _ _).symm.trans H; with_reducible exact H2_) | with_reducible exact H | (rw [hy255]; exact H) | exact H
          have Ny255 := Aside0.mk hy255
          clear hy255
          have H' := Aside0.mk H
          clear H
          obtain ⟨Ao7, co7, eo7⟩ := Kd.R_slice HO_0.out
          subst eo7
          have p5 : 0 ≤ (x5_1 : Int) := of_decide_eq_true (by first | (with_reducible assumption) | assumption)
          have q5 : (x5_1 : Int) < ((x0_1.length : Int) : Int) := of_decide_eq_true (by first | (with_reducible assumption) | assumption)
          obtain ⟨go5, co5, eo5, gb5, gl5, cl5, HG5⟩ := Kd.R_form HO_0.out (by omega)
          (first | cases eo5 | (injection eo5 with ea_ en_ ec_; (first | subst ea_ | (injection ea_ with ea_; subst ea_)); subst ec_; clear en_))
          have GB5 := Aside0.mk gb5
          have GG5 := Aside0.mk HG5
          clear gb5 gl5 HG5
          have HMgo5 := Aside0.mk (show (P0_ go5 ∨ w.heap.size ≤ go5) from (HO_0.out.1 _ rfl))
          obtain ⟨ce5, hcl5, hM5, hcc5, hfr5⟩ := Kd.R_elem HO_0.out z46 (x5_1 : Int) p5 q5
          obtain rfl := k46_openM hM5
          have hx5_0 : wr.cell? ⟨go5, (x5_1 : Int).toNat * 2, none⟩ = some (.bool ((rd_T46 x0_1 x5_1).f0)) := hcc5 0 _ rfl
          have hx5_1 : wr.cell? ⟨go5, (x5_1 : Int).toNat * 2 + 1, none⟩ = some (.int .i64 ((rd_T46 x0_1 x5_1).f1)) := hcc5 1 _ rfl
          have hf5_0 : wr.frozen? ⟨go5, (x5_1 : Int).toNat * 2, none⟩ = false := hfr5 0
          have hf5_1 : wr.frozen? ⟨go5, (x5_1 : Int).toNat * 2 + 1, none⟩ = false := hfr5 1
          clear hcl5 hcc5 hfr5 hM5
          replace p5 := eq_true p5
          replace q5 := eq_true q5
          have HX8 := Aside0.mk (show Kd.R k46 46 wr w0.heap.size (fun k_ => (P0_ k_ ∨ w.heap.size ≤ k_)) (.slice (some ⟨go5, 0, none⟩) x0_1.length co7) x0_1 from (by (with_reducible repeat (first | apply Kd.R_alloc | apply Kd.R_drewN | apply Kd.R_drew)); exact HO_0.out))
          obtain ⟨ce8, hcl8, hM8, hcc8, hfr8⟩ := Kd.R_elem HX8.out z46 (x5_1 : Int) (of_decide_eq_true (by first | (with_reducible assumption) | assumption)) (by have h_ : (x5_1 : Int) < ((x0_1.length : Int) : Int) := of_decide_eq_true (by first | (with_reducible assumption) | assumption); first | exact h_ | (have e_ := (Kd.R_reads' HO_0.out).1; omega) | simpa using h_)
          obtain rfl := k46_openM hM8
          have HP8 := Kd.R_seg HX8.out (x5_1 : Int) (of_decide_eq_true (by first | (with_reducible assumption) | assumption)) (by have h_ : (x5_1 : Int) < ((x0_1.length : Int) : Int) := of_decide_eq_true (by first | (with_reducible assumption) | assumption); first | exact h_ | (have e_ := (Kd.R_reads' HO_0.out).1; omega) | simpa using h_) (seg := [.bool ((Int.tmod x1_1 3) == 0)]) (j := 0) hcl8 hcc8 (show 1 ≤ 2 from by decide) (x' := (⟨((Int.tmod x1_1 3) == 0), (rd_T46 x0_1 x5_1).f1⟩ : S46)) (k46_mkM _ _ _ (⟨((Int.tmod x1_1 3) == 0), (rd_T46 x0_1 x5_1).f1⟩ : S46) ) (fun _ hk => hk)
          have hx8_0 := hcc8 0 _ rfl
          (try simp only [show (k46).sz = 2 from rfl, Nat.mul_one, Nat.add_zero] at hx8_0)
          have hf8_0 := hfr8 0
          (try simp only [show (k46).sz = 2 from rfl, Nat.mul_one, Nat.add_zero] at hf8_0)
          clear hcl8 hcc8 hfr8 hM8
          go_wp2_with (first | ((with_reducible refine gate_store (t := 4) (p := 18) rfl ?_); refine store_event (t := 4) (p := 18) (v := ?vo_w9) (w1 := (wr.setCell ⟨go5, (x5_1 : Int).toNat * 2, none⟩ (.bool ((Int.tmod x1_1 3) == 0)))) ?hg ?ho ?hn ?hr ?_; (case ho => rfl); (case hg => rfl); (case hn => rfl); (case hr => first | (go_simp; done) | (go_simp; rfl)); intro w9 hw; have hg : wr.grownBy w9 (some go5) := (by rw [hw]; exact HP8.2); have hp_ : Kd.R k46 46 w9 w0.heap.size (fun k_ => (P0_ k_ ∨ w.heap.size ≤ k_)) (.slice (some ⟨go5, 0, none⟩) x0_1.length co7) y254 := (by rw [hw, Ny254.out]; exact HP8.1); clear HP8; have n0_ := Aside0.mk (hp_); have n1_ := Aside0.mk ((by rw [hw]; exact below_set (HB.out) GB5.out : Below w0.heap.size w0 w9)); have n2_ := Aside0.mk (Kept.of_grown (S := (fun k_ => P0_ k_)) hg (by repeat (first | (with_reducible first | exact HK.out | apply Kept.alloc | apply Kept.drewN | apply Kept.drew) | exact HK.out)) (fun k_ e_ => (HO_0.out.1 k_ e_))); clear HO_0; clear HB; clear HK; have HO_0 := n0_; have HB := n1_; have HK := n2_; clear n0_ n1_ n2_; clear hg hw hp_; have p6 : 0 ≤ (x5_1 : Int) := of_decide_eq_true (by first | (with_reducible assumption) | assumption); have q6 : (x5_1 : Int) < ((x0_1.length : Int) : Int) := of_decide_eq_true (by first | (with_reducible assumption) | assumption); obtain ⟨ce6, hcl6, hM6, hcc6, hfr6⟩ := Kd.R_elem HO_0.out z46 (x5_1 : Int) p6 q6; obtain rfl := k46_openM hM6; have hx6_0 : w9.cell? ⟨go5, (x5_1 : Int).toNat * 2, none⟩ = some (.bool ((rd_T46 y254 x5_1).f0)) := hcc6 0 _ rfl; have hx6_1 : w9.cell? ⟨go5, (x5_1 : Int).toNat * 2 + 1, none⟩ = some (.int .i64 ((rd_T46 y254 x5_1).f1)) := hcc6 1 _ rfl; have hf6_0 : w9.frozen? ⟨go5, (x5_1 : Int).toNat * 2, none⟩ = false := hfr6 0; have hf6_1 : w9.frozen? ⟨go5, (x5_1 : Int).toNat * 2 + 1, none⟩ = false := hfr6 1; clear hcl6 hcc6 hfr6 hM6; replace p6 := eq_true p6; replace q6 := eq_true q6; have HX10 := Aside0.mk (show Kd.R k46 46 w9 w0.heap.size (fun k_ => (P0_ k_ ∨ w.heap.size ≤ k_)) (.slice (some ⟨go5, 0, none⟩) x0_1.length co7) y254 from (by (with_reducible repeat (first | apply Kd.R_alloc | apply Kd.R_drewN | apply Kd.R_drew)); exact HO_0.out)); obtain ⟨ce10, hcl10, hM10, hcc10, hfr10⟩ := Kd.R_elem HX10.out z46 (x5_1 : Int) (of_decide_eq_true (by first | (with_reducible assumption) | assumption)) (by have h_ : (x5_1 : Int) < ((x0_1.length : Int) : Int) := of_decide_eq_true (by first | (with_reducible assumption) | assumption); first | exact h_ | (have e_ := (Kd.R_reads' HO_0.out).1; omega) | simpa using h_); obtain rfl := k46_openM hM10; have HP10 := Kd.R_seg HX10.out (x5_1 : Int) (of_decide_eq_true (by first | (with_reducible assumption) | assumption)) (by have h_ : (x5_1 : Int) < ((x0_1.length : Int) : Int) := of_decide_eq_true (by first | (with_reducible assumption) | assumption); first | exact h_ | (have e_ := (Kd.R_reads' HO_0.out).1; omega) | simpa using h_) (seg := [.int .i64 (wrap64 (x1_1 + 1))]) (j := 1) hcl10 hcc10 (show 2 ≤ 2 from by decide) (x' := (⟨(rd_T46 y254 x5_1).f0, wrap64 (x1_1 + 1)⟩ : S46)) (k46_mkM _ _ _ (⟨(rd_T46 y254 x5_1).f0, wrap64 (x1_1 + 1)⟩ : S46) ) (fun _ hk => hk); have hx10_1 := hcc10 1 _ rfl; (try simp only [show (k46).sz = 2 from rfl, Nat.mul_one, Nat.add_zero] at hx10_1); have hf10_1 := hfr10 1; (try simp only [show (k46).sz = 2 from rfl, Nat.mul_one, Nat.add_zero] at hf10_1); clear hcl10 hcc10 hfr10 hM10) | ((with_reducible refine gate_store (t := 3) (p := 25) rfl ?_); refine store_event (t := 3) (p := 25) (v := ?vo_w11) (w1 := (w9.setCell ⟨go5, (x5_1 : Int).toNat * 2 + 1, none⟩ (.int .i64 (wrap64 (x1_1 + 1))))) ?hg ?ho ?hn ?hr ?_; (case ho => rfl); (case hg => rfl); (case hn => rfl); (case hr => first | (go_simp; done) | (go_simp; rfl)); intro w11 hw; have hg : w9.grownBy w11 (some go5) := (by rw [hw]; exact HP10.2); have hp_ : Kd.R k46 46 w11 w0.heap.size (fun k_ => (P0_ k_ ∨ w.heap.size ≤ k_)) (.slice (some ⟨go5, 0, none⟩) x0_1.length co7) y255 := (by rw [hw, Ny255.out]; exact HP10.1); clear HP10; have n0_ := Aside0.mk (hp_); have n1_ := Aside0.mk ((by rw [hw]; exact below_set (HB.out) GB5.out : Below w0.heap.size w0 w11)); have n2_ := Aside0.mk (Kept.of_grown (S := (fun k_ => P0_ k_)) hg (by repeat (first | (with_reducible first | exact HK.out | apply Kept.alloc | apply Kept.drewN | apply Kept.drew) | exact HK.out)) (fun k_ e_ => (HO_0.out.1 k_ e_))); clear HO_0; clear HB; clear HK; have HO_0 := n0_; have HB := n1_; have HK := n2_; clear n0_ n1_ n2_; clear hg hw hp_))
          go_roundg k1
          case measure => have := HK1.out; omega
          case rel => exact ⟨(y255), (wrap64 ((wrap64 (x1_1 + 1)) + 1)), (wrap64 (x5_1 + 1)), (by first | rfl | (simp; done) | (simp [*]; done)), (by first | rfl | (simp; done) | (simp [*]; done)), H', ⟨by have := HK1.out; omega⟩, ⟨by (with_reducible repeat (first | apply Kd.R_alloc | apply Kd.R_drewN | apply Kd.R_drew)); exact HO_0.out⟩, ⟨by repeat (first | (with_reducible first | exact HK.out | apply Kept.alloc | apply Kept.drewN | apply Kept.drew) | exact HK.out)⟩, ⟨by repeat (first | (with_reducible first | exact HB.out | apply below_alloc | apply pw_below_drewN | apply below_drew1) | exact HB.out)⟩⟩
        · rw [if_neg c4] at H
          exact absurd H (by simp)
      · rw [if_neg c3] at H
        have c3b0 : decide (x5_1 < (x0_1.length : Int)) = false := decide_eq_false c3
        clear c3
        simp only [Option.some.injEq, Prod.mk.injEq] at H
        obtain ⟨rfl, rfl⟩ := H
        obtain ⟨Ao12, co12, eo12⟩ := Kd.R_slice HO_0.out
        subst eo12
        go_wp2
        go_ret
        exact ⟨by first | rfl | (simp [errW_none, errW_some] <;> rfl) | (simp [*, errW_none, errW_some] <;> rfl), by (with_reducible repeat (first | apply Kd.R_alloc | apply Kd.R_drewN | apply Kd.R_drew)); exact HO_0.out, by repeat (first | (with_reducible first | exact HB.out | apply below_alloc | apply pw_below_drewN | apply below_drew1) | exact HB.out), by repeat (first | (with_reducible first | exact HK.out | apply Kept.alloc | apply Kept.drewN | apply Kept.drew) | exact HK.out)⟩
end Go.Proofs.Yteeakklnlcjgbaa.P

end
section

namespace Go.Proofs.Yteeakklnlcjgbaa.P
open Go Go.RowKit Go.Proofs.YteeakklnlcjgbaaW.PrintWords Go.Proofs.YteeakklnlcjgbaaW.PrintLast Go.Proofs.YteeakklnlcjgbaaW.PrintMore
set_option linter.unusedVariables false
set_option linter.unusedSimpArgs false
theorem setObj_at {xs : List S48} {i : Int} {x : S48} (h0 : 0 ≤ i) (h1 : i < (xs.length : Int)) : (xs.set i.toNat x).getD i.toNat z48 = x := by
  rw [List.getD_eq_getElem?_getD, List.getElem?_set_self (by omega)]; rfl
set_option maxHeartbeats 8000000 in
set_option maxRecDepth 100000 in
theorem laws_markObjS.calls (k : Nat) (P0_ : Nat → Prop) (u9000_ : Value) (l0 : List S48) (a1 : Int) (r1 : Int) (r2 : List S48) (w0 w : World) (hB : Below w0.heap.size w0 w) (ho0 : Kd.S k48 48 w w0.heap.size P0_ u9000_ l0) (h : laws_markObjS.f k l0 a1 = some (r1, r2)) :
    Calls Try.prog 25 #[u9000_, .int .i64 a1] w fun e w' => e = .returned (.int .i64 r1) ∧ Below w0.heap.size w0 w' ∧ Kept w w' P0_ ∧ Kd.S k48 48 w' w0.heap.size P0_ u9000_ r2 := by
  have HO0 := Aside0.mk ho0
  have HK := Aside0.mk (Kept.refl w P0_)
  have HB := Aside0.mk hB
  clear hB ho0
  have H' := Aside0.mk (show laws_markObjS.l0 k l0 a1 0 = some (r1, r2) from h)
  clear h
  go_enter Try.func25, Try.ntmps25
  go_wp2
  go_loopg [1, 5] k (fun kq v1 v5 w' => ∃ (xs : List S48) (x1 x5 : Int), v1 = .int .i64 x1 ∧ v5 = .int .i64 x5 ∧ Aside0 (laws_markObjS.l0 kq xs x1 x5 = some (r1, r2)) ∧ Aside0 (kq ≤ k) ∧ Aside0 (Kd.S k48 48 w' w0.heap.size P0_ u9000_ xs) ∧ Aside0 (Kept w w' P0_) ∧ Aside0 (Below w0.heap.size w0 w'))
  case atStart => exact ⟨l0, a1, (0), (by first | rfl | (simp; done) | (simp [*]; done)), (by first | rfl | (simp; done) | (simp [*]; done)), H', ⟨Nat.le_refl _⟩, ⟨by (with_reducible repeat (first | apply Kd.S_alloc | apply Kd.S_drewN | apply Kd.S_drew)); exact HO0.out⟩, ⟨by repeat (first | exact HK.out | apply Kept.alloc | apply Kept.drewN | apply Kept.drew)⟩, ⟨by repeat (first | (with_reducible first | exact HB.out | apply below_alloc | apply pw_below_drewN | apply below_drew1) | exact HB.out)⟩⟩
  case round =>
    clear H'
    try clear p2
    obtain ⟨xs, x1, x5, rfl, rfl, HA, HK1, HO, HKn, HBn⟩ := hrel
    clear HK HB HO0
    have HK := HKn
    have HB := HBn
    clear HKn HBn
    cases gk with
    | zero => exact absurd HA.out (by simp [laws_markObjS.l0])
    | succ k1 =>
      have H := HA.out
      clear HA
      simp only [laws_markObjS.l0] at H
      by_cases c3 : x5 < (xs.length : Int)
      · rw [if_pos c3] at H
        have c3b0 : decide (x5 < (xs.length : Int)) = true := decide_eq_true c3
        by_cases c4 : 0 ≤ x5
        · rw [if_pos c4] at H
          have c4b0 : decide (0 ≤ x5) = true := decide_eq_true c4
          replace H := Option.bind_eq_some_iff.mp H
          obtain ⟨⟨p1, p2⟩, A60, H⟩ := H
          have A6 := Aside0.mk A60
          clear A60
          have H' := Aside0.mk H
          clear H
          obtain ⟨go5, co5, eo5, gb5, gl5, cl5, HG5⟩ := Kd.S_form HO.out (by omega)
          (first | cases eo5 | (injection eo5 with ea_ en_ ec_; (first | subst ea_ | (injection ea_ with ea_; subst ea_)); subst ec_; clear en_))
          have GB5 := Aside0.mk gb5
          clear gb5 gl5 HG5
          obtain ⟨oki, ce, hcl, hM, hcc, hfr, hoki, hH⟩ := Kd.S_elem HO.out z48 x5 c4 c3
          obtain ⟨ve1, rfl, ge1⟩ := k48_openM hM
          have HP := Kd.S_seg0 hH c4 c3 (seg := [.int .i64 x1]) (j := 0) (show 1 ≤ 2 from by decide) (x' := (⟨x1, (rd_T48 xs x5).f1⟩ : S48)) (k48_mkM _ _ _ (⟨x1, (rd_T48 xs x5).f1⟩ : S48) ge1) (fun _ hk => hk)
          have hx0 := hcc 0 _ rfl
          have hf0 := hfr 0
          simp only [show (k48).sz = 2 from rfl, Nat.add_zero] at hx0 hf0
          clear hcl hcc hfr hM hoki hH
          obtain ⟨y1, hy1⟩ : ∃ y_, y_ = xs.set (x5 : Int).toNat (⟨x1, (rd_T48 xs x5).f1⟩ : S48) := ⟨_, rfl⟩
          have Ny := Aside0.mk hy1
          clear hy1
          have C3 := Aside0.mk c3
          have C4 := Aside0.mk c4
          replace c3 := eq_true c3
          replace c4 := eq_true c4
          go_wp2_with (first | ((with_reducible refine gate_store (t := 3) (p := 16) rfl ?_); refine store_event (t := 3) (p := 16) (v := ?vo_w8) (w1 := (wr.setCell ⟨go5, (x5 : Int).toNat * 2, none⟩ (.int .i64 x1))) ?hg ?ho ?hn ?hr ?_; (case ho => rfl); (case hg => rfl); (case hn => rfl); (case hr => first | (go_simp; done) | (go_simp; rfl)); intro w8 hw; have hg : wr.grownBy w8 (some go5) := (by rw [hw]; exact HP.2); have hp_ : Kd.S k48 48 w8 w0.heap.size P0_ (.slice (some ⟨go5, 0, none⟩) xs.length co5) y1 := (by rw [hw, Ny.out]; exact HP.1); clear HP; have n0_ := Aside0.mk (hp_); have n1_ := Aside0.mk ((by rw [hw]; exact below_set (HB.out) GB5.out : Below w0.heap.size w0 w8)); have n2_ := Aside0.mk (Kept.of_grown (S := P0_) hg (by repeat (first | (with_reducible first | exact HK.out | apply Kept.alloc | apply Kept.drewN | apply Kept.drew) | exact HK.out)) (fun k_ e_ => .inl (HO.out.choose_spec.1 k_ e_))); clear HO HB HK; have HO := n0_; have HB := n1_; have HK := n2_; clear n0_ n1_ n2_; clear hg hw hp_; obtain ⟨oki, ce, hcl, hM, hcc, hfr, hoki, hH⟩ := Kd.S_elem HO.out z48 x5 C4.out C3.out; rw [Ny.out, setObj_at C4.out C3.out] at hM; obtain ⟨ve2, rfl, ge2⟩ := k48_openM hM; have hx1 := hcc 1 _ rfl; simp only [show (k48).sz = 2 from rfl] at hx1; have HH := Aside0.mk hH; have GE := Aside0.mk ge2; have HI := Aside0.mk hoki; clear hH hM hcc hfr hcl ge2 hoki) | ((with_reducible refine gate_callee (f := 26) rfl ?_); refine goesL_ (some 25) rfl rfl Try.func26 (by kernel_rfl) rfl #[ve2, .int .i64 (wrap64 (x1 + 1))] rfl (by (try simp only [List.map_toArray, List.map_cons, List.map_nil]); first | done | rfl | (simp only [List.length_drop, List.length_take]; rfl)) ?_; (refine (laws_markValS.calls k1 oki ve2 ((rd_T48 xs x5).f1) (wrap64 (x1 + 1)) p1 p2 w0 _ ?side1 ?side2 A6.out).mono ?_); (case side1 => repeat (first | (with_reducible first | exact HB.out | apply below_alloc | apply pw_below_drewN | apply below_drew1) | exact HB.out)); (case side2 => (with_reducible repeat (first | apply Kd.R_alloc | apply Kd.R_drewN | apply Kd.R_drew)); exact GE.out); rintro e w12 ⟨rfl, ho2, hb2, hk2⟩; refine ⟨_, rfl, ?_⟩; have hM2 : (k48).M w12 w0.heap.size oki (⟨x1, p2⟩ : S48) [.int .i64 x1, ve2] := k48_mkM _ _ _ (⟨x1, p2⟩ : S48) (Kd.R_mono (Kd.R_tight rfl ho2) (fun k_ hk => GE.out.1 k_ hk.symm)); have hH2 := Kd.H_kept (by (with_reducible repeat (first | apply Kd.H_alloc | apply Kd.H_drewN | apply Kd.H_drew)); exact HH.out) hk2 (fun _ _ hn hs => hn hs); have n0_ := Aside0.mk (Kd.H_back hH2 hM2 (fun _ hk => hk)); have n1_ := Aside0.mk hb2; have n2_ := Aside0.mk (Kept.then_ (by repeat (first | (with_reducible first | exact HK.out | apply Kept.alloc | apply Kept.drewN | apply Kept.drew) | exact HK.out)) hk2 (fun k_ hs => .inl (HI.out k_ hs).1)); clear HO HB HK; have HO := n0_; have HB := n1_; have HK := n2_; clear n0_ n1_ n2_ hH2 hM2 ho2 hb2 hk2))
          go_roundg k1
          case measure => have := HK1.out; omega
          case rel => exact ⟨_, p1, (wrap64 (x5 + 1)), (by first | rfl | (simp; done) | (simp [*]; done)), (by first | rfl | (simp; done) | (simp [*]; done)), ⟨by have h_ := H'.out; rw [← Ny.out] at h_; exact h_⟩, ⟨by have := HK1.out; omega⟩, ⟨by (with_reducible repeat (first | apply Kd.S_alloc | apply Kd.S_drewN | apply Kd.S_drew)); exact HO.out⟩, ⟨by repeat (first | (with_reducible first | exact HK.out | apply Kept.alloc | apply Kept.drewN | apply Kept.drew) | exact HK.out)⟩, ⟨by repeat (first | (with_reducible first | exact HB.out | apply below_alloc | apply pw_below_drewN | apply below_drew1) | exact HB.out)⟩⟩
        · rw [if_neg c4] at H
          exact absurd H (by simp)
      · rw [if_neg c3] at H
        have c3b0 : decide (x5 < (xs.length : Int)) = false := decide_eq_false c3
        clear c3
        obtain ⟨rfl, rfl⟩ : x1 = r1 ∧ xs = r2 := by simpa using H
        clear H
        obtain ⟨Ao9, co9, eo9⟩ := Kd.S_slice HO.out
        subst eo9
        go_wp2
        go_ret
        exact ⟨rfl, by repeat (first | (with_reducible first | exact HB.out | apply below_alloc | apply pw_below_drewN | apply below_drew1) | exact HB.out), by repeat (first | (with_reducible first | exact HK.out | apply Kept.alloc | apply Kept.drewN | apply Kept.drew) | exact HK.out), by (with_reducible repeat (first | apply Kd.S_alloc | apply Kd.S_drewN | apply Kd.S_drew)); exact HO.out⟩
end Go.Proofs.Yteeakklnlcjgbaa.P

end
section

namespace Go.Proofs.Yteeakklnlcjgbaa.P
open Go.RowKit Go.Proofs.YteeakklnlcjgbaaW.PrintWords Go.Proofs.YteeakklnlcjgbaaW.PrintLast Go.Proofs.YteeakklnlcjgbaaW.PrintMore
attribute [local go_sem] max2_int min2_int max_two min_two max_three min_three max_four min_four
set_option linter.unusedVariables false
set_option linter.unusedSimpArgs false
set_option maxHeartbeats 8000000 in
set_option maxRecDepth 100000 in
theorem spec_l6In.calls (a0 : Int) (a1 : Int) (a2 : Int) (r : Bool) (w : World) (h : spec_l6In.f a0 a1 a2 = some r) :
    Calls Try.prog 47 #[.int .i64 a0, .int .i64 a1, .int .i64 a2] w fun e w' => e = .returned (.bool r) ∧ Drawn0 w w' := by
  have H : (if a0 ≥ a1 then (some (decide (a0 ≤ a2))) else (some false)) = some r := h
  clear h
  by_cases c4 : a0 ≥ a1
  · rw [if_pos c4] at H
    have c4b0 : decide (a1 ≤ a0) = true := decide_eq_true c4
    clear c4
    obtain rfl := Option.some.inj H
    simp only [Option.some.injEq, Prod.mk.injEq] at H
    obtain ⟨rfl⟩ := H
    go_enter Try.func47, Try.ntmps47
    go_wp2
    go_ret
    exact ⟨by first | rfl | (simp; done) | (simp [*]; done), by repeat (first | exact Drawn0.refl _ | apply Drawn0.step)⟩
  · rw [if_neg c4] at H
    have c4b0 : decide (a1 ≤ a0) = false := decide_eq_false c4
    clear c4
    obtain rfl := Option.some.inj H
    simp only [Option.some.injEq, Prod.mk.injEq] at H
    obtain ⟨rfl⟩ := H
    go_enter Try.func47, Try.ntmps47
    go_wp2
    go_ret
    exact ⟨by first | rfl | (simp; done) | (simp [*]; done), by repeat (first | exact Drawn0.refl _ | apply Drawn0.step)⟩
end Go.Proofs.Yteeakklnlcjgbaa.P

end
section

namespace Go.Proofs.Yteeakklnlcjgbaa.P
open Go.RowKit Go.Proofs.YteeakklnlcjgbaaW.PrintWords Go.Proofs.YteeakklnlcjgbaaW.PrintLast Go.Proofs.YteeakklnlcjgbaaW.PrintMore
attribute [local go_sem] max2_int min2_int max_two min_two max_three min_three max_four min_four
set_option linter.unusedVariables false
set_option linter.unusedSimpArgs false
set_option maxHeartbeats 8000000 in
set_option maxRecDepth 100000 in
theorem spec_l12Val.calls (a0_0 : Bool) (a0_1 : Int) (a1 : Int) (r : Bool) (w : World) (h : spec_l12Val.f a0_0 a0_1 a1 = some r) :
    Calls Try.prog 36 #[.agg #[.bool a0_0, .int .i64 a0_1], .int .i64 a1] w fun e w' => e = .returned (.bool r) ∧ Below w.heap.size w w' := by
  have hu46 := Try.underlying46
  have HB := Aside0.mk (Below.refl w.heap.size w)
  have H : (if a0_0 = true then ((spec_l6In.f a0_1 0 a1).bind fun t139 => (some t139)) else (some true)) = some r := h
  clear h
  by_cases c3 : a0_0 = true
  · subst c3
    have H1 : ((spec_l6In.f a0_1 0 a1).bind fun t139 => (some t139)) = some r := by rw [if_pos rfl] at H; exact H
    clear H
    have H := H1
    clear H1
    replace H := Option.bind_eq_some_iff.mp H
    obtain ⟨t139, A40, H⟩ := H
    replace H : (some t139) = some r := H
    have A4 := Aside0.mk A40
    clear A40
    obtain rfl := Option.some.inj H
    simp only [Option.some.injEq, Prod.mk.injEq] at H
    obtain ⟨rfl⟩ := H
    go_enter Try.func36, Try.ntmps36
    go_wp2_with (first | ((with_reducible refine gate_dst (N := 2) rfl ?_); refine box_event ?hg (N := 2) ?hd (cs := #[.bool true, .int .i64 a0_1]) (t := 46) ?hr ?_; (case hd => rfl); (case hg => rfl); (case hr => first | (go_simp; done) | (go_simp; rfl)); intro gb138 hg w5 hbox hb; have n0_ := Aside0.mk (below_step (by repeat (first | (with_reducible first | exact HB.out | apply below_alloc | apply pw_below_drewN | apply below_drew1) | exact HB.out)) hb); have n1_ := Aside0.mk (hbox); have n2_ := Aside0.mk ((by rw [hg]; exact (below_size (by repeat (first | (with_reducible first | exact HB.out | apply below_alloc | apply pw_below_drewN | apply below_drew1) | exact HB.out))) : w.heap.size ≤ gb138)); have n3_ := Aside0.mk ((by rw [hg]; exact (below_size (by repeat (first | (with_reducible first | exact HB.out | apply below_alloc | apply pw_below_drewN | apply below_drew1) | exact HB.out))) : w.heap.size ≤ gb138)); clear HB; have HB := n0_; have BK138 := n1_; have GW138 := n2_; have GE138 := n3_; clear n0_ n1_ n2_ n3_; clear hb hbox hg; have hcz6_0 : w5.cell? ⟨gb138, 0, none⟩ = some (.bool true) := (blk_cell BK138.out 0).trans rfl; have hcz6_1 : w5.cell? ⟨gb138, 1, none⟩ = some (.int .i64 a0_1) := (blk_cell BK138.out 1).trans rfl; have hfz6_0 := blk_frozen BK138.out 0; have hfz6_1 := blk_frozen BK138.out 1) | (go_at_call 47; (with_reducible refine (spec_l6In.calls a0_1 0 a1 t139 _ A4.out).mono ?_); rintro e w' ⟨rfl, ⟨nd, rfl⟩⟩))
    go_ret
    exact ⟨by first | rfl | (simp [errW_none, errW_some] <;> rfl) | (simp [*, errW_none, errW_some] <;> rfl), by repeat (first | (with_reducible first | exact HB.out | apply below_alloc | apply pw_below_drewN | apply below_drew1 | refine below_set ?_ GE138.out) | exact HB.out)⟩
  · replace c3 := Bool.eq_false_iff.mpr c3
    subst c3
    have H1 : (some true) = some r := by rw [if_neg (show ¬ (false = true) by decide)] at H; exact H
    clear H
    have H := H1
    clear H1
    obtain rfl := Option.some.inj H
    simp only [Option.some.injEq, Prod.mk.injEq] at H
    obtain ⟨rfl⟩ := H
    go_enter Try.func36, Try.ntmps36
    go_wp2_with (first | ((with_reducible refine gate_dst (N := 2) rfl ?_); refine box_event ?hg (N := 2) ?hd (cs := #[.bool false, .int .i64 a0_1]) (t := 46) ?hr ?_; (case hd => rfl); (case hg => rfl); (case hr => first | (go_simp; done) | (go_simp; rfl)); intro gb138 hg w7 hbox hb; have n0_ := Aside0.mk (below_step (by repeat (first | (with_reducible first | exact HB.out | apply below_alloc | apply pw_below_drewN | apply below_drew1) | exact HB.out)) hb); have n1_ := Aside0.mk (hbox); have n2_ := Aside0.mk ((by rw [hg]; exact (below_size (by repeat (first | (with_reducible first | exact HB.out | apply below_alloc | apply pw_below_drewN | apply below_drew1) | exact HB.out))) : w.heap.size ≤ gb138)); have n3_ := Aside0.mk ((by rw [hg]; exact (below_size (by repeat (first | (with_reducible first | exact HB.out | apply below_alloc | apply pw_below_drewN | apply below_drew1) | exact HB.out))) : w.heap.size ≤ gb138)); clear HB; have HB := n0_; have BK138 := n1_; have GW138 := n2_; have GE138 := n3_; clear n0_ n1_ n2_ n3_; clear hb hbox hg; have hcz8_0 : w7.cell? ⟨gb138, 0, none⟩ = some (.bool false) := (blk_cell BK138.out 0).trans rfl; have hcz8_1 : w7.cell? ⟨gb138, 1, none⟩ = some (.int .i64 a0_1) := (blk_cell BK138.out 1).trans rfl; have hfz8_0 := blk_frozen BK138.out 0; have hfz8_1 := blk_frozen BK138.out 1))
    go_ret
    exact ⟨by first | rfl | (simp [errW_none, errW_some] <;> rfl) | (simp [*, errW_none, errW_some] <;> rfl), by repeat (first | (with_reducible first | exact HB.out | apply below_alloc | apply pw_below_drewN | apply below_drew1 | refine below_set ?_ GE138.out) | exact HB.out)⟩
end Go.Proofs.Yteeakklnlcjgbaa.P

end
section

namespace Go.Proofs.Yteeakklnlcjgbaa.P
open Go.RowKit Go.Proofs.YteeakklnlcjgbaaW.PrintWords Go.Proofs.YteeakklnlcjgbaaW.PrintLast Go.Proofs.YteeakklnlcjgbaaW.PrintMore
attribute [local go_sem] max2_int min2_int max_two min_two max_three min_three max_four min_four
set_option linter.unusedVariables false
set_option linter.unusedSimpArgs false
set_option maxHeartbeats 8000000 in
set_option maxRecDepth 100000 in
theorem spec_HeapOk.calls (k : Nat) (A0 : Option Addr) (c0 : Nat) (l0 : List (S48)) (A1 : Option Addr) (c1 : Nat) (l1 : List (S46)) (r : Bool) (w : World) (hr0 : Kd.C k48 w A0 l0.length l0) (hc0 : l0.length ≤ c0) (hr1 : Kd.C k46 w A1 l1.length l1) (hc1 : l1.length ≤ c1) (h : spec_HeapOk.f k l0 l1 = some r) :
    Calls Try.prog 17 #[.slice A0 l0.length c0, .slice A1 l1.length c1] w fun e w' => e = .returned (.bool r) ∧ Below w.heap.size w w' := by
  have hu46 := Try.underlying46
  have HR0 := Aside0.mk hr0
  have HC0 := Aside0.mk hc0
  clear hr0 hc0
  have HR1 := Aside0.mk hr1
  have HC1 := Aside0.mk hc1
  clear hr1 hc1
  have HB := Aside0.mk (Below.refl w.heap.size w)
  have H : (spec_HeapOk.l0 k l0 l1 0) = some r := h
  clear h
  have H' := Aside0.mk H
  clear H
  go_enter Try.func17, Try.ntmps17
  go_wp2
  go_loopg [5] k (fun kq v5 w' => ∃ (x5_1 : Int), v5 = .int .i64 x5_1 ∧ Aside0 (spec_HeapOk.l0 kq l0 l1 x5_1 = some r) ∧ Aside0 (kq ≤ k) ∧ Aside0 (Below w.heap.size w w'))
  case atStart => exact ⟨(0), (by first | rfl | (simp; done) | (simp [*]; done)), H', ⟨Nat.le_refl _⟩, ⟨by repeat (first | (with_reducible first | exact HB.out | apply below_alloc | apply pw_below_drewN | apply below_drew1) | exact HB.out)⟩⟩
  case round =>
    clear H'
    try clear c1
    try clear p2
    obtain ⟨x5_1, rfl, HA, HK1, HB⟩ := hrel
    cases gk with
    | zero => exact absurd HA.out (by simp [spec_HeapOk.l0])
    | succ k1 =>
      have H := HA.out
      clear HA
      simp only [spec_HeapOk.l0] at H
      by_cases c3 : x5_1 < (l1.length : Int)
      · rw [if_pos c3] at H
        have c3b0 : decide (x5_1 < (l1.length : Int)) = true := decide_eq_true c3
        clear c3
        by_cases c4 : 0 ≤ x5_1
        · rw [if_pos c4] at H
          have c4b0 : decide (0 ≤ x5_1) = true := decide_eq_true c4
          clear c4
          replace H := Option.bind_eq_some_iff.mp H
          obtain ⟨t141, A50, H⟩ := H
          replace H : (if t141 = true then (spec_HeapOk.l0 k1 l0 l1 (wrap64 (x5_1 + 1))) else (some false)) = some r := H
          have A5 := Aside0.mk A50
          clear A50
          by_cases c6 : t141 = true
          · subst c6
            have H1 : (spec_HeapOk.l0 k1 l0 l1 (wrap64 (x5_1 + 1))) = some r := by rw [if_pos rfl] at H; exact H
            clear H
            have H := H1
            clear H1
            have H' := Aside0.mk H
            clear H
            have p140 : 0 ≤ (x5_1 : Int) := of_decide_eq_true (by first | (with_reducible assumption) | assumption)
            have q140 : x5_1 < (l1.length : Int) := of_decide_eq_true (by first | (with_reducible assumption) | assumption)
            obtain ⟨ad140, e140, hx140_0, hx140_1⟩ := at_T46 HR1.out x5_1 p140 q140
            cases e140
            replace hx140_0 := (HB.out.cell (World.block_lt_of_cell? w _ hx140_0)).trans hx140_0
            replace hx140_1 := (HB.out.cell (World.block_lt_of_cell? w _ hx140_1)).trans hx140_1
            replace p140 := eq_true p140
            replace q140 := eq_true q140
            go_wp2_with (first | ((with_reducible refine gate_callee (f := 36) rfl ?_); refine goesL_ (some 20) rfl rfl Try.func36 (by kernel_rfl) rfl #[.agg #[.bool ((rd_T46 l1 x5_1).f0), .int .i64 ((rd_T46 l1 x5_1).f1)], .int .i64 (l0.length : Int)] rfl (by (try simp only [List.map_toArray, List.map_cons, List.map_nil]); first | done | rfl | (simp only [List.length_drop, List.length_take]; rfl)) ?_; (with_reducible refine (spec_l12Val.calls ((rd_T46 l1 x5_1).f0) ((rd_T46 l1 x5_1).f1) (l0.length : Int) true _ A5.out).mono ?_); rintro e w7 ⟨rfl, hb⟩; refine ⟨_, rfl, ?_⟩; have n0_ := Aside0.mk (below_step (by repeat (first | (with_reducible first | exact HB.out | apply below_alloc | apply pw_below_drewN | apply below_drew1) | exact HB.out)) hb); clear HB; have HB := n0_; clear n0_; (try clear hb); (try clear hb2); (try clear hk); (try clear hi)))
            go_roundg k1
            case measure => have := HK1.out; omega
            case rel => exact ⟨(wrap64 (x5_1 + 1)), (by first | rfl | (simp; done) | (simp [*]; done)), H', ⟨by have := HK1.out; omega⟩, ⟨by repeat (first | (with_reducible first | exact HB.out | apply below_alloc | apply pw_below_drewN | apply below_drew1) | exact HB.out)⟩⟩
          · replace c6 := Bool.eq_false_iff.mpr c6
            subst c6
            have H1 : (some false) = some r := by rw [if_neg (show ¬ (false = true) by decide)] at H; exact H
            clear H
            have H := H1
            clear H1
            obtain rfl := Option.some.inj H
            simp only [Option.some.injEq, Prod.mk.injEq] at H
            obtain ⟨rfl⟩ := H
            have p140 : 0 ≤ (x5_1 : Int) := of_decide_eq_true (by first | (with_reducible assumption) | assumption)
            have q140 : x5_1 < (l1.length : Int) := of_decide_eq_true (by first | (with_reducible assumption) | assumption)
            obtain ⟨ad140, e140, hx140_0, hx140_1⟩ := at_T46 HR1.out x5_1 p140 q140
            cases e140
            replace hx140_0 := (HB.out.cell (World.block_lt_of_cell? w _ hx140_0)).trans hx140_0
            replace hx140_1 := (HB.out.cell (World.block_lt_of_cell? w _ hx140_1)).trans hx140_1
            replace p140 := eq_true p140
            replace q140 := eq_true q140
            go_wp2_with (first | ((with_reducible refine gate_callee (f := 36) rfl ?_); refine goesL_ (some 20) rfl rfl Try.func36 (by kernel_rfl) rfl #[.agg #[.bool ((rd_T46 l1 x5_1).f0), .int .i64 ((rd_T46 l1 x5_1).f1)], .int .i64 (l0.length : Int)] rfl (by (try simp only [List.map_toArray, List.map_cons, List.map_nil]); first | done | rfl | (simp only [List.length_drop, List.length_take]; rfl)) ?_; (with_reducible refine (spec_l12Val.calls ((rd_T46 l1 x5_1).f0) ((rd_T46 l1 x5_1).f1) (l0.length : Int) false _ A5.out).mono ?_); rintro e w8 ⟨rfl, hb⟩; refine ⟨_, rfl, ?_⟩; have n0_ := Aside0.mk (below_step (by repeat (first | (with_reducible first | exact HB.out | apply below_alloc | apply pw_below_drewN | apply below_drew1) | exact HB.out)) hb); clear HB; have HB := n0_; clear n0_; (try clear hb); (try clear hb2); (try clear hk); (try clear hi)))
            go_ret
            exact ⟨by first | rfl | (simp [errW_none, errW_some] <;> rfl) | (simp [*, errW_none, errW_some] <;> rfl), by repeat (first | (with_reducible first | exact HB.out | apply below_alloc | apply pw_below_drewN | apply below_drew1) | exact HB.out)⟩
        · rw [if_neg c4] at H
          exact absurd H (by simp)
      · rw [if_neg c3] at H
        have c3b0 : decide (x5_1 < (l1.length : Int)) = false := decide_eq_false c3
        clear c3
        have H' := Aside0.mk H
        clear H
        go_wp2
        go_loopg [6] k1 (fun kq v6 w' => ∃ (x6_2 : Int), v6 = .int .i64 x6_2 ∧ Aside0 (spec_HeapOk.l1 kq l0 x6_2 = some r) ∧ Aside0 (kq ≤ k1) ∧ Aside0 (Below w.heap.size w w'))
        case atStart => exact ⟨(0), (by first | rfl | (simp; done) | (simp [*]; done)), H', ⟨Nat.le_refl _⟩, ⟨by repeat (first | (with_reducible first | exact HB.out | apply below_alloc | apply pw_below_drewN | apply below_drew1) | exact HB.out)⟩⟩
        case round =>
          clear H'
          try clear c1
          try clear p1
          try clear q1
          try clear hx1
          try clear p2
          try clear c3
          try clear c3b0
          try clear c4
          try clear c4b0
          try clear c6
          try clear p6
          try clear hx140_0
          try clear hx140_1
          try clear p140
          try clear p2
          try clear q140
          obtain ⟨x6_2, rfl, HA, HK2, HB⟩ := hrel
          cases gk with
          | zero => exact absurd HA.out (by simp [spec_HeapOk.l1])
          | succ k2 =>
            have H := HA.out
            clear HA
            simp only [spec_HeapOk.l1] at H
            by_cases c9 : x6_2 < (l0.length : Int)
            · rw [if_pos c9] at H
              have c9b0 : decide (x6_2 < (l0.length : Int)) = true := decide_eq_true c9
              clear c9
              have H' := Aside0.mk H
              clear H
              go_wp2
              go_loopg [7] k2 (fun kq v7 w' => ∃ (x7_3 : Int), v7 = .int .i64 x7_3 ∧ Aside0 (spec_HeapOk.l2 kq l0 x6_2 x7_3 = some r) ∧ Aside0 (kq ≤ k2) ∧ Aside0 (Below w.heap.size w w'))
              case atStart => exact ⟨(0), (by first | rfl | (simp; done) | (simp [*]; done)), H', ⟨Nat.le_refl _⟩, ⟨by repeat (first | (with_reducible first | exact HB.out | apply below_alloc | apply pw_below_drewN | apply below_drew1) | exact HB.out)⟩⟩
              case round =>
                clear H'
                try clear c1
                try clear p1
                try clear q1
                try clear hx1
                try clear p2
                try clear c3
                try clear c3b0
                try clear c4
                try clear c4b0
                try clear c6
                try clear p6
                try clear c9
                try clear c9b0
                try clear hx140_0
                try clear hx140_1
                try clear p1
                try clear p140
                try clear p2
                try clear p6
                try clear q1
                try clear q140
                obtain ⟨x7_3, rfl, HA, HK3, HB⟩ := hrel
                cases gk with
                | zero => exact absurd HA.out (by simp [spec_HeapOk.l2])
                | succ k3 =>
                  have H := HA.out
                  clear HA
                  simp only [spec_HeapOk.l2] at H
                  by_cases c10 : 0 ≤ x6_2
                  · rw [if_pos c10] at H
                    have c10b0 : decide (0 ≤ x6_2) = true := decide_eq_true c10
                    clear c10
                    by_cases c11 : x6_2 < (l0.length : Int)
                    · rw [if_pos c11] at H
                      have c11b0 : decide (x6_2 < (l0.length : Int)) = true := decide_eq_true c11
                      clear c11
                      by_cases c12 : x7_3 < (((rd_T48 l0 x6_2).f1).length : Int)
                      · rw [if_pos c12] at H
                        have c12b0 : decide (x7_3 < (((rd_T48 l0 x6_2).f1).length : Int)) = true := decide_eq_true c12
                        clear c12
                        by_cases c13 : 0 ≤ x7_3
                        · rw [if_pos c13] at H
                          have c13b0 : decide (0 ≤ x7_3) = true := decide_eq_true c13
                          clear c13
                          replace H := Option.bind_eq_some_iff.mp H
                          obtain ⟨t145, A140, H⟩ := H
                          replace H : (if t145 = true then (spec_HeapOk.l2 k3 l0 x6_2 (wrap64 (x7_3 + 1))) else (some false)) = some r := H
                          have A14 := Aside0.mk A140
                          clear A140
                          by_cases c15 : t145 = true
                          · subst c15
                            have H1 : (spec_HeapOk.l2 k3 l0 x6_2 (wrap64 (x7_3 + 1))) = some r := by rw [if_pos rfl] at H; exact H
                            clear H
                            have H := H1
                            clear H1
                            have H' := Aside0.mk H
                            clear H
                            have p142 : 0 ≤ (x6_2 : Int) := of_decide_eq_true (by first | (with_reducible assumption) | assumption)
                            have q142 : x6_2 < (l0.length : Int) := of_decide_eq_true (by first | (with_reducible assumption) | assumption)
                            obtain ⟨ad142, A142_1, c142_1, e142, hx142_0, hx142_1, hl142_1, hi142_1⟩ := at_T48 HR0.out x6_2 p142 q142
                            cases e142
                            replace hx142_0 := (HB.out.cell (World.block_lt_of_cell? w _ hx142_0)).trans hx142_0
                            replace hx142_1 := (HB.out.cell (World.block_lt_of_cell? w _ hx142_1)).trans hx142_1
                            have HR142_1 := Aside0.mk hi142_1
                            have HC142_1 := Aside0.mk hl142_1
                            clear hi142_1 hl142_1
                            replace p142 := eq_true p142
                            replace q142 := eq_true q142
                            have p143 : 0 ≤ (x6_2 : Int) := of_decide_eq_true (by first | (with_reducible assumption) | assumption)
                            have q143 : x6_2 < (l0.length : Int) := of_decide_eq_true (by first | (with_reducible assumption) | assumption)
                            obtain ⟨ad143, A143_1, c143_1, e143, hx143_0, hx143_1, hl143_1, hi143_1⟩ := at_T48 HR0.out x6_2 p143 q143
                            obtain rfl : ad142 = ad143 := (by injection e143)
                            replace hx143_0 := (HB.out.cell (World.block_lt_of_cell? w _ hx143_0)).trans hx143_0
                            replace hx143_1 := (HB.out.cell (World.block_lt_of_cell? w _ hx143_1)).trans hx143_1
                            have HR143_1 := Aside0.mk hi143_1
                            have HC143_1 := Aside0.mk hl143_1
                            clear hi143_1 hl143_1
                            replace p143 := eq_true p143
                            replace q143 := eq_true q143
                            have ea_ := Option.some.inj (hx142_1.symm.trans hx143_1)
                            injection ea_ with ea_ en_ ec_
                            subst ea_
                            subst ec_
                            clear en_
                            have p144 : 0 ≤ (x7_3 : Int) := of_decide_eq_true (by first | (with_reducible assumption) | assumption)
                            have q144 : x7_3 < (((rd_T48 l0 x6_2).f1).length : Int) := of_decide_eq_true (by first | (with_reducible assumption) | assumption)
                            obtain ⟨ad144, e144, hx144_0, hx144_1⟩ := at_T46 HR143_1.out x7_3 p144 q144
                            cases e144
                            replace hx144_0 := (HB.out.cell (World.block_lt_of_cell? w _ hx144_0)).trans hx144_0
                            replace hx144_1 := (HB.out.cell (World.block_lt_of_cell? w _ hx144_1)).trans hx144_1
                            replace p144 := eq_true p144
                            replace q144 := eq_true q144
                            go_wp2_with (first | ((with_reducible refine gate_callee (f := 36) rfl ?_); refine goesL_ (some 48) rfl rfl Try.func36 (by kernel_rfl) rfl #[.agg #[.bool ((rd_T46 ((rd_T48 l0 x6_2).f1) x7_3).f0), .int .i64 ((rd_T46 ((rd_T48 l0 x6_2).f1) x7_3).f1)], .int .i64 (l0.length : Int)] rfl (by (try simp only [List.map_toArray, List.map_cons, List.map_nil]); first | done | rfl | (simp only [List.length_drop, List.length_take]; rfl)) ?_; (with_reducible refine (spec_l12Val.calls ((rd_T46 ((rd_T48 l0 x6_2).f1) x7_3).f0) ((rd_T46 ((rd_T48 l0 x6_2).f1) x7_3).f1) (l0.length : Int) true _ A14.out).mono ?_); rintro e w16 ⟨rfl, hb⟩; refine ⟨_, rfl, ?_⟩; have n0_ := Aside0.mk (below_step (by repeat (first | (with_reducible first | exact HB.out | apply below_alloc | apply pw_below_drewN | apply below_drew1) | exact HB.out)) hb); clear HB; have HB := n0_; clear n0_; (try clear hb); (try clear hb2); (try clear hk); (try clear hi)))
                            go_roundg k3
                            case measure => have := HK1.out; have := HK2.out; have := HK3.out; omega
                            case rel => exact ⟨(wrap64 (x7_3 + 1)), (by first | rfl | (simp; done) | (simp [*]; done)), H', ⟨by have := HK1.out; have := HK2.out; have := HK3.out; omega⟩, ⟨by repeat (first | (with_reducible first | exact HB.out | apply below_alloc | apply pw_below_drewN | apply below_drew1) | exact HB.out)⟩⟩
                          · replace c15 := Bool.eq_false_iff.mpr c15
                            subst c15
                            have H1 : (some false) = some r := by rw [if_neg (show ¬ (false = true) by decide)] at H; exact H
                            clear H
                            have H := H1
                            clear H1
                            obtain rfl := Option.some.inj H
                            simp only [Option.some.injEq, Prod.mk.injEq] at H
                            obtain ⟨rfl⟩ := H
                            have p142 : 0 ≤ (x6_2 : Int) := of_decide_eq_true (by first | (with_reducible assumption) | assumption)
                            have q142 : x6_2 < (l0.length : Int) := of_decide_eq_true (by first | (with_reducible assumption) | assumption)
                            obtain ⟨ad142, A142_1, c142_1, e142, hx142_0, hx142_1, hl142_1, hi142_1⟩ := at_T48 HR0.out x6_2 p142 q142
                            cases e142
                            replace hx142_0 := (HB.out.cell (World.block_lt_of_cell? w _ hx142_0)).trans hx142_0
                            replace hx142_1 := (HB.out.cell (World.block_lt_of_cell? w _ hx142_1)).trans hx142_1
                            have HR142_1 := Aside0.mk hi142_1
                            have HC142_1 := Aside0.mk hl142_1
                            clear hi142_1 hl142_1
                            replace p142 := eq_true p142
                            replace q142 := eq_true q142
                            have p143 : 0 ≤ (x6_2 : Int) := of_decide_eq_true (by first | (with_reducible assumption) | assumption)
                            have q143 : x6_2 < (l0.length : Int) := of_decide_eq_true (by first | (with_reducible assumption) | assumption)
                            obtain ⟨ad143, A143_1, c143_1, e143, hx143_0, hx143_1, hl143_1, hi143_1⟩ := at_T48 HR0.out x6_2 p143 q143
                            obtain rfl : ad142 = ad143 := (by injection e143)
                            replace hx143_0 := (HB.out.cell (World.block_lt_of_cell? w _ hx143_0)).trans hx143_0
                            replace hx143_1 := (HB.out.cell (World.block_lt_of_cell? w _ hx143_1)).trans hx143_1
                            have HR143_1 := Aside0.mk hi143_1
                            have HC143_1 := Aside0.mk hl143_1
                            clear hi143_1 hl143_1
                            replace p143 := eq_true p143
                            replace q143 := eq_true q143
                            have ea_ := Option.some.inj (hx142_1.symm.trans hx143_1)
                            injection ea_ with ea_ en_ ec_
                            subst ea_
                            subst ec_
                            clear en_
                            have p144 : 0 ≤ (x7_3 : Int) := of_decide_eq_true (by first | (with_reducible assumption) | assumption)
                            have q144 : x7_3 < (((rd_T48 l0 x6_2).f1).length : Int) := of_decide_eq_true (by first | (with_reducible assumption) | assumption)
                            obtain ⟨ad144, e144, hx144_0, hx144_1⟩ := at_T46 HR143_1.out x7_3 p144 q144
                            cases e144
                            replace hx144_0 := (HB.out.cell (World.block_lt_of_cell? w _ hx144_0)).trans hx144_0
                            replace hx144_1 := (HB.out.cell (World.block_lt_of_cell? w _ hx144_1)).trans hx144_1
                            replace p144 := eq_true p144
                            replace q144 := eq_true q144
                            go_wp2_with (first | ((with_reducible refine gate_callee (f := 36) rfl ?_); refine goesL_ (some 48) rfl rfl Try.func36 (by kernel_rfl) rfl #[.agg #[.bool ((rd_T46 ((rd_T48 l0 x6_2).f1) x7_3).f0), .int .i64 ((rd_T46 ((rd_T48 l0 x6_2).f1) x7_3).f1)], .int .i64 (l0.length : Int)] rfl (by (try simp only [List.map_toArray, List.map_cons, List.map_nil]); first | done | rfl | (simp only [List.length_drop, List.length_take]; rfl)) ?_; (with_reducible refine (spec_l12Val.calls ((rd_T46 ((rd_T48 l0 x6_2).f1) x7_3).f0) ((rd_T46 ((rd_T48 l0 x6_2).f1) x7_3).f1) (l0.length : Int) false _ A14.out).mono ?_); rintro e w17 ⟨rfl, hb⟩; refine ⟨_, rfl, ?_⟩; have n0_ := Aside0.mk (below_step (by repeat (first | (with_reducible first | exact HB.out | apply below_alloc | apply pw_below_drewN | apply below_drew1) | exact HB.out)) hb); clear HB; have HB := n0_; clear n0_; (try clear hb); (try clear hb2); (try clear hk); (try clear hi)))
                            go_ret
                            exact ⟨by first | rfl | (simp [errW_none, errW_some] <;> rfl) | (simp [*, errW_none, errW_some] <;> rfl), by repeat (first | (with_reducible first | exact HB.out | apply below_alloc | apply pw_below_drewN | apply below_drew1) | exact HB.out)⟩
                        · rw [if_neg c13] at H
                          exact absurd H (by simp)
                      · rw [if_neg c12] at H
                        have c12b0 : decide (x7_3 < (((rd_T48 l0 x6_2).f1).length : Int)) = false := decide_eq_false c12
                        clear c12
                        have H' := Aside0.mk H
                        clear H
                        have p142 : 0 ≤ (x6_2 : Int) := of_decide_eq_true (by first | (with_reducible assumption) | assumption)
                        have q142 : x6_2 < (l0.length : Int) := of_decide_eq_true (by first | (with_reducible assumption) | assumption)
                        obtain ⟨ad142, A142_1, c142_1, e142, hx142_0, hx142_1, hl142_1, hi142_1⟩ := at_T48 HR0.out x6_2 p142 q142
                        cases e142
                        replace hx142_0 := (HB.out.cell (World.block_lt_of_cell? w _ hx142_0)).trans hx142_0
                        replace hx142_1 := (HB.out.cell (World.block_lt_of_cell? w _ hx142_1)).trans hx142_1
                        have HR142_1 := Aside0.mk hi142_1
                        have HC142_1 := Aside0.mk hl142_1
                        clear hi142_1 hl142_1
                        replace p142 := eq_true p142
                        replace q142 := eq_true q142
                        go_wp2
                        go_roundg k3
                        case measure => have := HK1.out; have := HK2.out; have := HK3.out; omega
                        case rel => exact ⟨(wrap64 (x6_2 + 1)), (by first | rfl | (simp; done) | (simp [*]; done)), H', ⟨by have := HK1.out; have := HK2.out; have := HK3.out; omega⟩, ⟨by repeat (first | (with_reducible first | exact HB.out | apply below_alloc | apply pw_below_drewN | apply below_drew1) | exact HB.out)⟩⟩
                    · rw [if_neg c11] at H
                      exact absurd H (by simp)
                  · rw [if_neg c10] at H
                    exact absurd H (by simp)
            · rw [if_neg c9] at H
              have c9b0 : decide (x6_2 < (l0.length : Int)) = false := decide_eq_false c9
              clear c9
              obtain rfl := Option.some.inj H
              simp only [Option.some.injEq, Prod.mk.injEq] at H
              obtain ⟨rfl⟩ := H
              go_wp2
              go_ret
              exact ⟨by first | rfl | (simp [errW_none, errW_some] <;> rfl) | (simp [*, errW_none, errW_some] <;> rfl), by repeat (first | (with_reducible first | exact HB.out | apply below_alloc | apply pw_below_drewN | apply below_drew1) | exact HB.out)⟩
end Go.Proofs.Yteeakklnlcjgbaa.P

end
section

namespace Go.Proofs.Yteeakklnlcjgbaa.P
open Go.RowKit Go.Proofs.YteeakklnlcjgbaaW.PrintWords Go.Proofs.YteeakklnlcjgbaaW.PrintLast Go.Proofs.YteeakklnlcjgbaaW.PrintMore
attribute [local go_sem] max2_int min2_int max_two min_two max_three min_three max_four min_four
set_option linter.unusedVariables false
set_option linter.unusedSimpArgs false
set_option maxHeartbeats 8000000 in
set_option maxRecDepth 100000 in
theorem spec_HeapGraph.calls (k : Nat) (A0 : Option Addr) (c0 : Nat) (l0 : List (S48)) (A1 : Option Addr) (c1 : Nat) (l1 : List (S46)) (r1 : List (S48)) (r2 : List (S46)) (w : World) (hr0 : Kd.C k48 w A0 l0.length l0) (hc0 : l0.length ≤ c0) (hr1 : Kd.C k46 w A1 l1.length l1) (hc1 : l1.length ≤ c1) (h : spec_HeapGraph.f k l0 l1 = some (r1, r2)) :
    Calls Try.prog 23 #[.slice A0 l0.length c0, .slice A1 l1.length c1] w fun e w' => ∃ v0_ v1_ : Value, e = .returned (.tuple #[v0_, v1_]) ∧ Kd.S k48 48 w' w.heap.size (fun k_ => some k_ ≠ (v1_ : Value).ownBlock) v0_ r1 ∧ Kd.R k46 46 w' w.heap.size (fun _ => True) v1_ r2 ∧ Below w.heap.size w w' := by
  have HR0 := Aside0.mk hr0
  have HC0 := Aside0.mk hc0
  clear hr0 hc0
  have HR1 := Aside0.mk hr1
  have HC1 := Aside0.mk hc1
  clear hr1 hc1
  have HB := Aside0.mk (Below.refl w.heap.size w)
  have H : ((spec_HeapOk.f k l0 l1).bind fun t232 => (if t232 = true then ((spec_l12Graph.f k l0 l1).bind fun bt233 => (some (bt233.1, bt233.2))) else (some ((([] : List (S48))), (([] : List (S46))))))) = some (r1, r2) := h
  clear h
  replace H := Option.bind_eq_some_iff.mp H
  obtain ⟨t232, A30, H⟩ := H
  replace H : (if t232 = true then ((spec_l12Graph.f k l0 l1).bind fun bt233 => (some (bt233.1, bt233.2))) else (some ((([] : List (S48))), (([] : List (S46)))))) = some (r1, r2) := H
  have A3 := Aside0.mk A30
  clear A30
  by_cases c4 : t232 = true
  · subst c4
    have H1 : ((spec_l12Graph.f k l0 l1).bind fun bt233 => (some (bt233.1, bt233.2))) = some (r1, r2) := by rw [if_pos rfl] at H; exact H
    clear H
    have H := H1
    clear H1
    replace H := Option.bind_eq_some_iff.mp H
    obtain ⟨⟨t233, t234⟩, A50, H⟩ := H
    replace H : (some (t233, t234)) = some (r1, r2) := H
    have A5 := Aside0.mk A50
    clear A50
    simp only [Option.some.injEq, Prod.mk.injEq] at H
    obtain ⟨rfl, rfl⟩ := H
    go_enter Try.func23, Try.ntmps23
    go_wp2_with (first | ((with_reducible refine gate_callee (f := 17) rfl ?_); refine goesL_ (some 8) rfl rfl Try.func17 (by kernel_rfl) rfl #[.slice A0 l0.length c0, .slice A1 l1.length c1] rfl (by (try simp only [List.map_toArray, List.map_cons, List.map_nil]); first | done | rfl | (simp only [List.length_drop, List.length_take]; rfl)) ?_; (with_reducible refine (spec_HeapOk.calls k _ _ l0 _ _ l1 true _ ?side1 ?side2 ?side3 ?side4 A3.out).mono ?_); (case side1 => repeat (first | exact HR0.out | (with_reducible refine Kd.C_alloc ?_ _) | (with_reducible refine Kd.C_drewN ?_ _) | (with_reducible refine Kd.C_drew ?_))); (case side2 => exact HC0.out); (case side3 => repeat (first | exact HR1.out | (with_reducible refine Kd.C_alloc ?_ _) | (with_reducible refine Kd.C_drewN ?_ _) | (with_reducible refine Kd.C_drew ?_))); (case side4 => exact HC1.out); rintro e w6 ⟨rfl, hb⟩; refine ⟨_, rfl, ?_⟩; have n0_ := Aside0.mk (below_step (by repeat (first | (with_reducible first | exact HB.out | apply below_alloc | apply pw_below_drewN | apply below_drew1) | exact HB.out)) hb); clear HB; have HB := n0_; clear n0_; (try clear hb); (try clear hb2); (try clear hk); (try clear hi)) | ((with_reducible refine gate_callee (f := 42) rfl ?_); refine goesL_ (some 14) rfl rfl Try.func42 (by kernel_rfl) rfl #[.slice A0 l0.length c0, .slice A1 l1.length c1] rfl (by (try simp only [List.map_toArray, List.map_cons, List.map_nil]); first | done | rfl | (simp only [List.length_drop, List.length_take]; rfl)) ?_; (with_reducible refine (spec_l12Graph.calls k _ _ l0 _ _ l1 t233 t234 _ ?side1 ?side2 ?side3 ?side4 A5.out).mono ?_); (case side1 => repeat (first | exact (Kd.C_below HR0.out HB.out) | (with_reducible refine Kd.C_alloc ?_ _) | (with_reducible refine Kd.C_drewN ?_ _) | (with_reducible refine Kd.C_drew ?_))); (case side2 => exact HC0.out); (case side3 => repeat (first | exact (Kd.C_below HR1.out HB.out) | (with_reducible refine Kd.C_alloc ?_ _) | (with_reducible refine Kd.C_drewN ?_ _) | (with_reducible refine Kd.C_drew ?_))); (case side4 => exact HC1.out); rintro e w7 ⟨v235, v237, rfl, ho0, ho1, hb⟩; refine ⟨_, rfl, ?_⟩; have n0_ := Aside0.mk (Kd.S_lower ho0 (below_size (by repeat (first | (with_reducible first | exact HB.out | apply below_alloc | apply pw_below_drewN | apply below_drew1) | exact HB.out)))); have n1_ := Aside0.mk (Kd.R_lower ho1 (below_size (by repeat (first | (with_reducible first | exact HB.out | apply below_alloc | apply pw_below_drewN | apply below_drew1) | exact HB.out)))); have n2_ := Aside0.mk (below_step (by repeat (first | (with_reducible first | exact HB.out | apply below_alloc | apply pw_below_drewN | apply below_drew1) | exact HB.out)) hb); clear HB; have HO236 := n0_; have HO238 := n1_; have HB := n2_; clear n0_ n1_ n2_; (try clear hb); (try clear hb2); (try clear hk); (try clear hi); (try clear ho0); (try clear ho1)))
    go_ret2
    exact ⟨_, _, by first | rfl | (simp [errW_none, errW_some] <;> rfl) | (simp [*, errW_none, errW_some] <;> rfl), by (with_reducible repeat (first | apply Kd.S_alloc | apply Kd.S_drewN | apply Kd.S_drew)); exact HO236.out, by (with_reducible repeat (first | apply Kd.R_alloc | apply Kd.R_drewN | apply Kd.R_drew)); exact HO238.out, by repeat (first | (with_reducible first | exact HB.out | apply below_alloc | apply pw_below_drewN | apply below_drew1) | exact HB.out)⟩
  · replace c4 := Bool.eq_false_iff.mpr c4
    subst c4
    have H1 : (some ((([] : List (S48))), (([] : List (S46))))) = some (r1, r2) := by rw [if_neg (show ¬ (false = true) by decide)] at H; exact H
    clear H
    have H := H1
    clear H1
    obtain ⟨y239, hy239⟩ : ∃ y_ : List (S48), y_ = (([] : List (S48))) := ⟨_, rfl⟩
    replace H : (some (y239, (([] : List (S46))))) = some (r1, r2) := by first | (rw [hy239]; with_reducible exact H) | (have H2_ := (Option.bind_some _ _).symm.trans H; rw [hy239]; with_reducible exact H2_) | (have H2_ := (Option.bind_some _ _).symm.trans H; with_reducible exact H2_) | with_reducible exact H | (rw [hy239]; exact H) | exact H
    have Ny239 := Aside0.mk hy239
    clear hy239
    obtain ⟨y242, hy242⟩ : ∃ y_ : List (S46), y_ = (([] : List (S46))) := ⟨_, rfl⟩
    replace H : (some (y239, y242)) = some (r1, r2) := by first | (rw [hy242]; with_reducible exact H) | (have H2_ := (Option.bind_some _ _).symm.trans H; rw [hy242]; with_reducible exact H2_) | (have H2_ := (Option.bind_some _ _).symm.trans H; with_reducible exact H2_) | with_reducible exact H | (rw [hy242]; exact H) | exact H
    have Ny242 := Aside0.mk hy242
    clear hy242
    simp only [Option.some.injEq, Prod.mk.injEq] at H
    obtain ⟨rfl, rfl⟩ := H
    go_enter Try.func23, Try.ntmps23
    go_wp2_with (first | ((with_reducible refine gate_callee (f := 17) rfl ?_); refine goesL_ (some 8) rfl rfl Try.func17 (by kernel_rfl) rfl #[.slice A0 l0.length c0, .slice A1 l1.length c1] rfl (by (try simp only [List.map_toArray, List.map_cons, List.map_nil]); first | done | rfl | (simp only [List.length_drop, List.length_take]; rfl)) ?_; (with_reducible refine (spec_HeapOk.calls k _ _ l0 _ _ l1 false _ ?side1 ?side2 ?side3 ?side4 A3.out).mono ?_); (case side1 => repeat (first | exact HR0.out | (with_reducible refine Kd.C_alloc ?_ _) | (with_reducible refine Kd.C_drewN ?_ _) | (with_reducible refine Kd.C_drew ?_))); (case side2 => exact HC0.out); (case side3 => repeat (first | exact HR1.out | (with_reducible refine Kd.C_alloc ?_ _) | (with_reducible refine Kd.C_drewN ?_ _) | (with_reducible refine Kd.C_drew ?_))); (case side4 => exact HC1.out); rintro e w8 ⟨rfl, hb⟩; refine ⟨_, rfl, ?_⟩; have n0_ := Aside0.mk (below_step (by repeat (first | (with_reducible first | exact HB.out | apply below_alloc | apply pw_below_drewN | apply below_drew1) | exact HB.out)) hb); clear HB; have HB := n0_; clear n0_; (try clear hb); (try clear hb2); (try clear hk); (try clear hi)) | ((with_reducible refine gate_dst (N := 10) rfl ?_); refine Kd.S_lit k48 _ 48 ?hg (N := 10) ?hd (xs := ([] : List (S48))) (inner := []) (ok := fun _ => True) (okp := fun _ => True) ?hr ?hp (fun _ hk => hk) trivial (Below.refl _ _) (Nat.le_refl _) (by simp) ?_; (case hd => rfl); (case hg => rfl); (case hr => first | (go_simp; done) | (go_simp; rfl)); (case hp => exact (Reps.none _ _)); intro v240 w9 ho10 hb hg_ hnew_; clear hg_ hnew_; (first | rw [← Ny239.out] at ho10 | (simp only [Int.reduceToNat] at ho10; rw [← Ny239.out] at ho10)); have n0_ := Aside0.mk (Kd.S_lower ho10 (below_size (by repeat (first | (with_reducible first | exact HB.out | apply below_alloc | apply pw_below_drewN | apply below_drew1) | exact HB.out)))); have n1_ := Aside0.mk (below_step (by repeat (first | (with_reducible first | exact HB.out | apply below_alloc | apply pw_below_drewN | apply below_drew1) | exact HB.out)) hb); clear HB; have HO241 := n0_; have HB := n1_; clear n0_ n1_; clear hb ho10) | ((with_reducible refine gate_dst (N := 11) rfl ?_); refine Kd.R_lit k46 _ 46 ?hg (N := 11) ?hd (xs := ([] : List (S46))) (inner := []) (ok := fun _ => True) (okp := fun _ => True) ?hr ?hp (fun _ hk => hk) trivial (Below.refl _ _) (Nat.le_refl _) (by simp) ?_; (case hd => rfl); (case hg => rfl); (case hr => first | (go_simp; done) | (go_simp; rfl)); (case hp => exact (Reps.none _ _)); intro v243 w11 ho12 hb hg_ hnew_; clear hg_ hnew_; (first | rw [← Ny242.out] at ho12 | (simp only [Int.reduceToNat] at ho12; rw [← Ny242.out] at ho12)); have n0_ := Aside0.mk (Kd.S_elder' (by (with_reducible repeat (first | apply Kd.S_alloc | apply Kd.S_drewN | apply Kd.S_drew)); exact HO241.out) (Kd.R_base ho12) hb); have n1_ := Aside0.mk (Kd.R_lower ho12 (below_size (by repeat (first | (with_reducible first | exact HB.out | apply below_alloc | apply pw_below_drewN | apply below_drew1) | exact HB.out)))); have n2_ := Aside0.mk (below_step (by repeat (first | (with_reducible first | exact HB.out | apply below_alloc | apply pw_below_drewN | apply below_drew1) | exact HB.out)) hb); clear HO241; clear HB; have HO241 := n0_; have HO244 := n1_; have HB := n2_; clear n0_ n1_ n2_; clear hb ho12))
    go_ret2
    exact ⟨_, _, by first | rfl | (simp [errW_none, errW_some] <;> rfl) | (simp [*, errW_none, errW_some] <;> rfl), by (with_reducible repeat (first | apply Kd.S_alloc | apply Kd.S_drewN | apply Kd.S_drew)); exact Kd.S_mono HO241.out (fun _ hk => hk.2), by (with_reducible repeat (first | apply Kd.R_alloc | apply Kd.R_drewN | apply Kd.R_drew)); exact HO244.out, by repeat (first | (with_reducible first | exact HB.out | apply below_alloc | apply pw_below_drewN | apply below_drew1) | exact HB.out)⟩
end Go.Proofs.Yteeakklnlcjgbaa.P

end
section

namespace Go.Proofs.Yteeakklnlcjgbaa.P
open Go.RowKit Go.Proofs.YteeakklnlcjgbaaW.PrintWords Go.Proofs.YteeakklnlcjgbaaW.PrintLast Go.Proofs.YteeakklnlcjgbaaW.PrintMore
attribute [local go_sem] max2_int min2_int max_two min_two max_three min_three max_four min_four
set_option linter.unusedVariables false
set_option linter.unusedSimpArgs false
set_option maxHeartbeats 8000000 in
set_option maxRecDepth 100000 in
theorem laws_szValS.calls (A0 : Option Addr) (c0 : Nat) (l0 : List (S62)) (a1 : Int) (r : Int) (w : World) (hr0 : Kd.C k62 w A0 l0.length l0) (hc0 : l0.length ≤ c0) (h : laws_szValS.f l0 a1 = some r) :
    Calls Try.prog 16 #[.slice A0 l0.length c0, .int .i64 a1] w fun e w' => e = .returned (.int .i64 r) ∧ Drawn0 w w' := by
  have HR0 := Aside0.mk hr0
  have HC0 := Aside0.mk hc0
  clear hr0 hc0
  have H : (if (wrap64 (a1 - (l0.length : Int))) < 0 then (some (-1)) else (some (wrap64 (a1 - (l0.length : Int))))) = some r := h
  clear h
  by_cases c3 : (wrap64 (a1 - (l0.length : Int))) < 0
  · rw [if_pos c3] at H
    have c3b0 : decide ((wrap64 (a1 - (l0.length : Int))) < 0) = true := decide_eq_true c3
    clear c3
    obtain rfl := Option.some.inj H
    simp only [Option.some.injEq, Prod.mk.injEq] at H
    obtain ⟨rfl⟩ := H
    go_enter Try.func16, Try.ntmps16
    go_wp2
    go_ret
    exact ⟨by first | rfl | (simp; done) | (simp [*]; done), by repeat (first | exact Drawn0.refl _ | apply Drawn0.step)⟩
  · rw [if_neg c3] at H
    have c3b0 : decide ((wrap64 (a1 - (l0.length : Int))) < 0) = false := decide_eq_false c3
    clear c3
    obtain rfl := Option.some.inj H
    simp only [Option.some.injEq, Prod.mk.injEq] at H
    obtain ⟨rfl⟩ := H
    go_enter Try.func16, Try.ntmps16
    go_wp2
    go_ret
    exact ⟨by first | rfl | (simp; done) | (simp [*]; done), by repeat (first | exact Drawn0.refl _ | apply Drawn0.step)⟩
end Go.Proofs.Yteeakklnlcjgbaa.P

end
section

namespace Go.Proofs.Yteeakklnlcjgbaa.P
open Go.RowKit Go.Proofs.YteeakklnlcjgbaaW.PrintWords Go.Proofs.YteeakklnlcjgbaaW.PrintLast Go.Proofs.YteeakklnlcjgbaaW.PrintMore
attribute [local go_sem] max2_int min2_int max_two min_two max_three min_three max_four min_four
set_option linter.unusedVariables false
set_option linter.unusedSimpArgs false
set_option maxHeartbeats 8000000 in
set_option maxRecDepth 100000 in
theorem laws_szObj.calls (a0_0 : Int) (A0_1 : Option Addr) (c0_1 : Nat) (l0_1 : List (S62)) (a1 : Int) (r : Int) (w : World) (hr0_1 : Kd.C k62 w A0_1 l0_1.length l0_1) (hc0_1 : l0_1.length ≤ c0_1) (h : laws_szObj.f a0_0 l0_1 a1 = some r) :
    Calls Try.prog 35 #[.agg #[.int .i64 a0_0, .slice A0_1 l0_1.length c0_1], .int .i64 a1] w fun e w' => e = .returned (.int .i64 r) ∧ Below w.heap.size w w' := by
  have hu58 := Try.underlying58
  have HR0_1 := Aside0.mk hr0_1
  have HC0_1 := Aside0.mk hc0_1
  clear hr0_1 hc0_1
  have HB := Aside0.mk (Below.refl w.heap.size w)
  have H : ((laws_szValS.f l0_1 a1).bind fun t135 => (if t135 < 0 then (some (-1)) else (some t135))) = some r := h
  clear h
  replace H := Option.bind_eq_some_iff.mp H
  obtain ⟨t135, A30, H⟩ := H
  replace H : (if t135 < 0 then (some (-1)) else (some t135)) = some r := H
  have A3 := Aside0.mk A30
  clear A30
  by_cases c4 : t135 < 0
  · rw [if_pos c4] at H
    have c4b0 : decide (t135 < 0) = true := decide_eq_true c4
    clear c4
    obtain rfl := Option.some.inj H
    simp only [Option.some.injEq, Prod.mk.injEq] at H
    obtain ⟨rfl⟩ := H
    go_enter Try.func35, Try.ntmps35
    go_wp2_with (first | ((with_reducible refine gate_dst (N := 2) rfl ?_); refine box_event ?hg (N := 2) ?hd (cs := #[.int .i64 a0_0, .slice A0_1 l0_1.length c0_1]) (t := 58) ?hr ?_; (case hd => rfl); (case hg => rfl); (case hr => first | (go_simp; done) | (go_simp; rfl)); intro gb134 hg w5 hbox hb; have n0_ := Aside0.mk (below_step (by repeat (first | (with_reducible first | exact HB.out | apply below_alloc | apply pw_below_drewN | apply below_drew1) | exact HB.out)) hb); have n1_ := Aside0.mk (hbox); have n2_ := Aside0.mk ((by rw [hg]; exact (below_size (by repeat (first | (with_reducible first | exact HB.out | apply below_alloc | apply pw_below_drewN | apply below_drew1) | exact HB.out))) : w.heap.size ≤ gb134)); have n3_ := Aside0.mk ((by rw [hg]; exact (below_size (by repeat (first | (with_reducible first | exact HB.out | apply below_alloc | apply pw_below_drewN | apply below_drew1) | exact HB.out))) : w.heap.size ≤ gb134)); clear HB; have HB := n0_; have BK134 := n1_; have GW134 := n2_; have GE134 := n3_; clear n0_ n1_ n2_ n3_; clear hb hbox hg; have hcz6_0 : w5.cell? ⟨gb134, 0, none⟩ = some (.int .i64 a0_0) := (blk_cell BK134.out 0).trans rfl; have hcz6_1 : w5.cell? ⟨gb134, 1, none⟩ = some (.slice A0_1 l0_1.length c0_1) := (blk_cell BK134.out 1).trans rfl; have hfz6_0 := blk_frozen BK134.out 0; have hfz6_1 := blk_frozen BK134.out 1) | ((with_reducible refine gate_callee (f := 16) rfl ?_); refine goesL_ (some 8) rfl rfl Try.func16 (by kernel_rfl) rfl #[.slice A0_1 l0_1.length c0_1, .int .i64 a1] rfl (by (try simp only [List.map_toArray, List.map_cons, List.map_nil]); first | done | rfl | (simp only [List.length_drop, List.length_take]; rfl)) ?_; (with_reducible refine (laws_szValS.calls _ _ l0_1 a1 t135 _ ?side1 ?side2 A3.out).mono ?_); (case side1 => repeat (first | exact (Kd.C_below HR0_1.out HB.out) | (with_reducible refine Kd.C_alloc ?_ _) | (with_reducible refine Kd.C_drewN ?_ _) | (with_reducible refine Kd.C_drew ?_))); (case side2 => exact HC0_1.out); rintro e w' ⟨rfl, ⟨nd, rfl⟩⟩; refine ⟨_, rfl, ?_⟩))
    go_ret
    exact ⟨by first | rfl | (simp [errW_none, errW_some] <;> rfl) | (simp [*, errW_none, errW_some] <;> rfl), by repeat (first | (with_reducible first | exact HB.out | apply below_alloc | apply pw_below_drewN | apply below_drew1 | refine below_set ?_ GE134.out) | exact HB.out)⟩
  · rw [if_neg c4] at H
    have c4b0 : decide (t135 < 0) = false := decide_eq_false c4
    clear c4
    obtain rfl := Option.some.inj H
    simp only [Option.some.injEq, Prod.mk.injEq] at H
    obtain ⟨rfl⟩ := H
    go_enter Try.func35, Try.ntmps35
    go_wp2_with (first | ((with_reducible refine gate_dst (N := 2) rfl ?_); refine box_event ?hg (N := 2) ?hd (cs := #[.int .i64 a0_0, .slice A0_1 l0_1.length c0_1]) (t := 58) ?hr ?_; (case hd => rfl); (case hg => rfl); (case hr => first | (go_simp; done) | (go_simp; rfl)); intro gb134 hg w7 hbox hb; have n0_ := Aside0.mk (below_step (by repeat (first | (with_reducible first | exact HB.out | apply below_alloc | apply pw_below_drewN | apply below_drew1) | exact HB.out)) hb); have n1_ := Aside0.mk (hbox); have n2_ := Aside0.mk ((by rw [hg]; exact (below_size (by repeat (first | (with_reducible first | exact HB.out | apply below_alloc | apply pw_below_drewN | apply below_drew1) | exact HB.out))) : w.heap.size ≤ gb134)); have n3_ := Aside0.mk ((by rw [hg]; exact (below_size (by repeat (first | (with_reducible first | exact HB.out | apply below_alloc | apply pw_below_drewN | apply below_drew1) | exact HB.out))) : w.heap.size ≤ gb134)); clear HB; have HB := n0_; have BK134 := n1_; have GW134 := n2_; have GE134 := n3_; clear n0_ n1_ n2_ n3_; clear hb hbox hg; have hcz8_0 : w7.cell? ⟨gb134, 0, none⟩ = some (.int .i64 a0_0) := (blk_cell BK134.out 0).trans rfl; have hcz8_1 : w7.cell? ⟨gb134, 1, none⟩ = some (.slice A0_1 l0_1.length c0_1) := (blk_cell BK134.out 1).trans rfl; have hfz8_0 := blk_frozen BK134.out 0; have hfz8_1 := blk_frozen BK134.out 1) | ((with_reducible refine gate_callee (f := 16) rfl ?_); refine goesL_ (some 8) rfl rfl Try.func16 (by kernel_rfl) rfl #[.slice A0_1 l0_1.length c0_1, .int .i64 a1] rfl (by (try simp only [List.map_toArray, List.map_cons, List.map_nil]); first | done | rfl | (simp only [List.length_drop, List.length_take]; rfl)) ?_; (with_reducible refine (laws_szValS.calls _ _ l0_1 a1 t135 _ ?side1 ?side2 A3.out).mono ?_); (case side1 => repeat (first | exact (Kd.C_below HR0_1.out HB.out) | (with_reducible refine Kd.C_alloc ?_ _) | (with_reducible refine Kd.C_drewN ?_ _) | (with_reducible refine Kd.C_drew ?_))); (case side2 => exact HC0_1.out); rintro e w' ⟨rfl, ⟨nd, rfl⟩⟩; refine ⟨_, rfl, ?_⟩))
    go_ret
    exact ⟨by first | rfl | (simp [errW_none, errW_some] <;> rfl) | (simp [*, errW_none, errW_some] <;> rfl), by repeat (first | (with_reducible first | exact HB.out | apply below_alloc | apply pw_below_drewN | apply below_drew1 | refine below_set ?_ GE134.out) | exact HB.out)⟩
end Go.Proofs.Yteeakklnlcjgbaa.P

end
