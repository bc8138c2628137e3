/- A part of the claim FnExactUnitFind: texts of this session and texts that its program printed out of the translation, joined. -/
import Derived.Test.YtedodaifpekahaaCFnExactUnitFind21
import Derived.Test.YtedodaifpekahaaCFnExactUnitFind22
import Derived.Test.YtedodaifpekahaaCFnExactUnitFind31
import Derived.Test.YtedodaifpekahaaCFnExactUnitFind0
import Derived.Test.YtedodaifpekahaaCFnExactUnitFind1
import Derived.Test.YtedodaifpekahaaCFnExactUnitFind2
import Derived.Test.YtedodaifpekahaaCFnExactUnitFind3
import Derived.Test.YtedodaifpekahaaCFnExactUnitFind4
import Derived.Test.YtedodaifpekahaaCFnExactUnitFind5
import Derived.Test.YtedodaifpekahaaCFnExactUnitFind6
import Derived.Test.YtedodaifpekahaaCFnExactUnitFind7
import Derived.Test.YtedodaifpekahaaCFnExactUnitFind8
import Derived.Test.YtedodaifpekahaaCFnExactUnitFind9
import Derived.Test.YtedodaifpekahaaCFnExactUnitFind10
import Derived.Test.YtedodaifpekahaaCFnExactUnitFind11
import Derived.Test.YtedodaifpekahaaCFnExactUnitFind12
import Derived.Test.YtedodaifpekahaaCFnExactUnitFind13
import Derived.Test.YtedodaifpekahaaCFnExactUnitFind14
import Derived.Test.YtedodaifpekahaaCFnExactUnitFind15
import Derived.Test.YtedodaifpekahaaCFnExactUnitFind16
import Derived.Test.YtedodaifpekahaaCFnExactUnitFind17
import Derived.Test.YtedodaifpekahaaCFnExactUnitFind18
import Derived.Test.YtedodaifpekahaaCFnExactUnitFind19
import Derived.Test.YtedodaifpekahaaCFnExactUnitFind20
import Derived.Test.YtedodaifpekahaaCFnExactUnitFind23
import Derived.Test.YtedodaifpekahaaCFnExactUnitFind24
import Derived.Test.YtedodaifpekahaaCFnExactUnitFind25
import Derived.Test.YtedodaifpekahaaCFnExactUnitFind26
import Derived.Test.YtedodaifpekahaaCFnExactUnitFind27
import Derived.Test.YtedodaifpekahaaCFnExactUnitFind28
import Derived.Test.YtedodaifpekahaaCFnExactUnitFind29
import Derived.Test.YtedodaifpekahaaCFnExactUnitFind30
section

namespace Go.Proofs.Ytedodaifpekahaa.P
open Go.RowKit Go.Proofs.YtedodaifpekahaaW.PrintWords Go.Proofs.YtedodaifpekahaaW.PrintLast Go.Proofs.YtedodaifpekahaaW.PrintMore
attribute [local go_sem] max2_int min2_int max_two min_two max_three min_three max_four min_four
set_option linter.unusedVariables false
set_option linter.unusedSimpArgs false
set_option maxHeartbeats 8000000 in
set_option maxRecDepth 100000 in
theorem laws_toMethodS.calls (k : Nat) (A0 : Option Addr) (c0 : Nat) (l0 : List (S64)) (r : List (S46)) (w : World) (hr0 : Kd.C k64 w A0 l0.length l0) (hc0 : l0.length ≤ c0) (h : laws_toMethodS.f k l0 = some r) :
  Calls Try.prog 19 #[.slice A0 l0.length c0] w fun e w' => ∃ v0_ : Value, e = .returned (v0_) ∧ Kd.R k46 46 w' w.heap.size (fun _ => True) v0_ r ∧ Below w.heap.size w w' := by
 have hu64 := Try.underlying64
 have hu46 := Try.underlying46
 have HR0 := Aside0.mk hr0
 have HC0 := Aside0.mk hc0
 clear hr0 hc0
 have HB := Aside0.mk (Below.refl w.heap.size w)
 have H : (if 0 ≤ (l0.length : Int) then (if ((l0.length : Int) : Int).toNat ≤ 2199023255552 then (laws_toMethodS.l0 k l0 (List.replicate ((l0.length : Int) : Int).toNat z46) 0) else (none)) else (none)) = some r := h
 clear h
 by_cases c2 : 0 ≤ (l0.length : Int)
 ·rw [if_pos c2] at H
  have c2b0 := eq_true c2
  have c2b1 : decide (0 ≤ (l0.length : Int)) = true := decide_eq_true c2
  clear c2
  by_cases c3 : ((l0.length : Int) : Int).toNat ≤ 2199023255552
  ·rw [if_pos c3] at H
   have c3b0 := eq_true c3
   have c3b1 : decide (((l0.length : Int) : Int).toNat ≤ 2199023255552) = true := decide_eq_true c3
   clear c3
   obtain ⟨y292, hy292⟩ : ∃ y_ : List (S46), y_ = (List.replicate ((l0.length : Int) : Int).toNat z46) := ⟨_, rfl⟩
   replace H : (laws_toMethodS.l0 k l0 y292 0) = some r := by first | (rw [hy292]; with_reducible exact H) | (have H2_ := (Option.bind_some _ _).symm.trans H; rw [hy292]; with_reducible exact H2_) | (have H2_ := (Option.bind_some _ _).symm.trans H; with_reducible exact H2_) | with_reducible exact H | (rw [hy292]; exact H) | exact H
   have Ny292 := Aside0.mk hy292
   clear hy292
   have H' := Aside0.mk H
   clear H
   go_enter Try.func19, Try.ntmps19
   go_wp2_with (first | ((with_reducible refine gd 7 rfl ?_); refine Kd.R_make k46 _ 46 rfl (N := 7) rfl 29 _ _ rfl (l0.length : Int) rfl rfl Try.underlying29 (.agg #[(.int .i64 0), (.int .i64 0), (.slice none 0 0), (.int .i64 0), (.int .i64 0), (.slice none 0 0), (.slice none 0 0), (.slice none 0 0)]) 128 info46 rfl (by decide) (by omega) z46 (ok := fun _ => True) (okp := fun _ => True) (k46_mkM _ _ _ z46 (Kd.R_nil _ _ _ _ _) (Kd.R_nil _ _ _ _ _) (Kd.R_nil _ _ _ _ _) (Kd.R_nil _ _ _ _ _)) (fun _ hk => hk) trivial (of_decide_eq_true (by first | (with_reducible assumption) | assumption)) (Nat.le_trans (Nat.mul_le_mul_right _ (of_decide_eq_true (by first | (with_reducible assumption) | assumption) : (l0.length : Int).toNat ≤ 2199023255552)) (by omega)) (Below.refl _ _) (Nat.le_refl _) ?_; intro v293 w4 ho5 hb hg_ hnew_; clear hg_ hnew_; (first | rw [← Ny292.out] at ho5 | (simp only [Int.reduceToNat] at ho5; rw [← Ny292.out] at ho5)); have HO294 := Aside0.mk (Kd.R_lower ho5 (below_size bl)); replace HB := hs HB hb; clear hb ho5))
   go_loopg [4] k (fun kq v4 w' => ∃ (x3_1 : List (S46)) (x4_1 : Int), v4 = .int .i64 x4_1 ∧ Aside0 (laws_toMethodS.l0 kq l0 x3_1 x4_1 = some r) ∧ Aside0 (kq ≤ k) ∧ Aside0 (Kd.R k46 46 w' w.heap.size (fun _ => True) v293 x3_1) ∧ Aside0 (Below w.heap.size w w'))
   case atStart => exact ⟨(y292), (0), (by first | rfl | (simp; done) | (simp [*]; done)), H', ⟨Nat.le_refl _⟩, ⟨by (with_reducible repeat (first | apply Kd.R_alloc | apply Kd.R_drewN | apply Kd.R_drew)); exact HO294.out⟩, ⟨bl⟩⟩
   case round =>
    clear H'
    obtain ⟨x3_1, x4_1, rfl, HA, HK1, HO_3, HB⟩ := hrel
    cases gk with
    | zero => exact absurd HA.out (by simp [laws_toMethodS.l0])
    | succ k1 =>
     have H := HA.out
     clear HA
     simp only [laws_toMethodS.l0] at H
     by_cases c6 : x4_1 < (l0.length : Int)
     ·rw [if_pos c6] at H
      have c6b0 : decide (x4_1 < (l0.length : Int)) = true := decide_eq_true c6
      clear c6
      by_cases c7 : 0 ≤ x4_1
      ·rw [if_pos c7] at H
       have c7b0 : decide (0 ≤ x4_1) = true := decide_eq_true c7
       clear c7
       replace H := Option.bind_eq_some_iff.mp H
       obtain ⟨⟨t296, t297, t298, t301, t302, t303, t306, t309⟩, A80, H⟩ := H
       replace H : (if x4_1 < (x3_1.length : Int) then (laws_toMethodS.l0 k1 l0 (x3_1.set (x4_1 : Int).toNat (⟨t296, t297, t298, t301, t302, t303, t306, t309⟩ : S46)) (wrap64 (x4_1 + 1))) else (none)) = some r := H
       have A8 := Aside0.mk A80
       clear A80
       by_cases c9 : x4_1 < (x3_1.length : Int)
       ·rw [if_pos c9] at H
        have c9b0 : decide (x4_1 < (x3_1.length : Int)) = true := decide_eq_true c9
        clear c9
        obtain ⟨y312, hy312⟩ : ∃ y_ : List (S46), y_ = (x3_1.set (x4_1 : Int).toNat (⟨t296, t297, t298, t301, t302, t303, t306, t309⟩ : S46)) := ⟨_, rfl⟩
        replace H : (laws_toMethodS.l0 k1 l0 y312 (wrap64 (x4_1 + 1))) = some r := by first | (rw [hy312]; with_reducible exact H) | (have H2_ := (Option.bind_some _ _).symm.trans H; rw [hy312]; with_reducible exact H2_) | (have H2_ := (Option.bind_some _ _).symm.trans H; with_reducible exact H2_) | with_reducible exact H | (rw [hy312]; exact H) | exact H
        have Ny312 := Aside0.mk hy312
        clear hy312
        have H' := Aside0.mk H
        clear H
        have p295 : 0 ≤ (x4_1 : Int) := od
        have q295 : x4_1 < (l0.length : Int) := od
        obtain ⟨ad295, A295_2, c295_2, A295_5, c295_5, A295_6, c295_6, A295_7, c295_7, e295, hx295_0, hx295_1, hx295_2, hx295_3, hx295_4, hx295_5, hx295_6, hx295_7, hl295_2, hi295_2, hl295_5, hi295_5, hl295_6, hi295_6, hl295_7, hi295_7⟩ := at_T64 HR0.out x4_1 p295 q295
        cases e295
        obtain ⟨hx295_0,hx295_1,hx295_2,hx295_3,hx295_4,hx295_5,hx295_6,hx295_7⟩ := hc8 HB hx295_0 hx295_1 hx295_2 hx295_3 hx295_4 hx295_5 hx295_6 hx295_7
        have HR295_2 := Aside0.mk hi295_2
        have HC295_2 := Aside0.mk hl295_2
        clear hi295_2 hl295_2
        have HR295_5 := Aside0.mk hi295_5
        have HC295_5 := Aside0.mk hl295_5
        clear hi295_5 hl295_5
        have HR295_6 := Aside0.mk hi295_6
        have HC295_6 := Aside0.mk hl295_6
        clear hi295_6 hl295_6
        have HR295_7 := Aside0.mk hi295_7
        have HC295_7 := Aside0.mk hl295_7
        clear hi295_7 hl295_7
        replace p295 := eq_true p295
        replace q295 := eq_true q295
        go_wp2_with (first | ((with_reducible refine gc 41 rfl ?_); refine gl (some 20) Try.func41 #[.agg #[.int .i64 ((rd_T64 l0 x4_1).f0), .int .i64 ((rd_T64 l0 x4_1).f1), .slice A295_2 ((rd_T64 l0 x4_1).f2).length c295_2, .int .i64 ((rd_T64 l0 x4_1).f3), .int .i64 ((rd_T64 l0 x4_1).f4), .slice A295_5 ((rd_T64 l0 x4_1).f5).length c295_5, .slice A295_6 ((rd_T64 l0 x4_1).f6).length c295_6, .slice A295_7 ((rd_T64 l0 x4_1).f7).length c295_7]] rfl ?_; (with_reducible refine (laws_toMethod.calls k1 ((rd_T64 l0 x4_1).f0) ((rd_T64 l0 x4_1).f1) _ _ ((rd_T64 l0 x4_1).f2) ((rd_T64 l0 x4_1).f3) ((rd_T64 l0 x4_1).f4) _ _ ((rd_T64 l0 x4_1).f5) _ _ ((rd_T64 l0 x4_1).f6) _ _ ((rd_T64 l0 x4_1).f7) t296 t297 t298 t301 t302 t303 t306 t309 _ ?side1 ?side2 ?side3 ?side4 ?side5 ?side6 ?side7 ?side8 A8.out).mono ?_); (case side1 => exact cb HR295_2.out); (case side2 => exact HC295_2.out); (case side3 => exact cb HR295_5.out); (case side4 => exact HC295_5.out); (case side5 => exact cb HR295_6.out); (case side6 => exact HC295_6.out); (case side7 => exact cb HR295_7.out); (case side8 => exact HC295_7.out); rintro e w11 ⟨v299, v304, v307, v310, rfl, ho0, ho1, ho2, ho3, hb⟩; refine ⟨_, rfl, ?_⟩; have HO300 := Aside0.mk (Kd.R_lower ho0 (below_size bl)); have HO305 := Aside0.mk (Kd.R_lower ho1 (below_size bl)); have HO308 := Aside0.mk (Kd.S_lower ho2 (below_size bl)); have HO311 := Aside0.mk (Kd.R_lower ho3 (below_size bl)); replace HO_3 := Aside0.mk (Kd.R_mono (Kd.R_told (Kd.R_told (Kd.R_told (Kd.R_told (Kd.R_old (by (with_reducible repeat (first | apply Kd.R_alloc | apply Kd.R_drewN | apply Kd.R_drew)); exact HO_3.out) hb) (Kd.R_base ho0)) (Kd.R_base ho1)) (Kd.S_base ho2)) (Kd.R_base ho3)) (fun _ h_ => h_.1)); replace HB := hs HB hb; (try clear hb); (try clear hk); (try clear ho0); (try clear ho1); (try clear ho2); (try clear ho3); have p10 : 0 ≤ (x4_1 : Int) := od; have q10 : (x4_1 : Int) < ((x3_1.length : Int) : Int) := od; obtain ⟨go10, co10, eo10, gb10, gl10, cl10, HG10⟩ := Kd.R_form HO_3.out (by omega); (first | cases eo10 | (injection eo10 with ea_ en_ ec_; (first | subst ea_ | (injection ea_ with ea_; subst ea_)); subst ec_; clear en_)); have GB10 := Aside0.mk gb10; have GG10 := Aside0.mk HG10; clear gb10 gl10 HG10; obtain ⟨ce10, hcl10, hM10, hcc10, hfr10⟩ := Kd.R_elem HO_3.out z46 (x4_1 : Int) p10 q10; obtain ⟨ve10_2, ve10_5, ve10_6, ve10_7, rfl, ge10_2, ge10_5, ge10_6, ge10_7⟩ := k46_openM hM10; have hx10_0 : w11.cell? ⟨go10, (x4_1 : Int).toNat * 8, none⟩ = some (.int .i64 ((rd_T46 x3_1 x4_1).f0)) := hcc10 0 _ rfl; have hx10_1 : w11.cell? ⟨go10, (x4_1 : Int).toNat * 8 + 1, none⟩ = some (.int .i64 ((rd_T46 x3_1 x4_1).f1)) := hcc10 1 _ rfl; have hx10_2 : w11.cell? ⟨go10, (x4_1 : Int).toNat * 8 + 2, none⟩ = some (ve10_2) := hcc10 2 _ rfl; have hx10_3 : w11.cell? ⟨go10, (x4_1 : Int).toNat * 8 + 3, none⟩ = some (.int .i64 ((rd_T46 x3_1 x4_1).f3)) := hcc10 3 _ rfl; have hx10_4 : w11.cell? ⟨go10, (x4_1 : Int).toNat * 8 + 4, none⟩ = some (.int .i64 ((rd_T46 x3_1 x4_1).f4)) := hcc10 4 _ rfl; have hx10_5 : w11.cell? ⟨go10, (x4_1 : Int).toNat * 8 + 5, none⟩ = some (ve10_5) := hcc10 5 _ rfl; have hx10_6 : w11.cell? ⟨go10, (x4_1 : Int).toNat * 8 + 6, none⟩ = some (ve10_6) := hcc10 6 _ rfl; have hx10_7 : w11.cell? ⟨go10, (x4_1 : Int).toNat * 8 + 7, none⟩ = some (ve10_7) := hcc10 7 _ rfl; have hf10_0 : w11.frozen? ⟨go10, (x4_1 : Int).toNat * 8, none⟩ = false := hfr10 0; have hf10_1 : w11.frozen? ⟨go10, (x4_1 : Int).toNat * 8 + 1, none⟩ = false := hfr10 1; have hf10_2 : w11.frozen? ⟨go10, (x4_1 : Int).toNat * 8 + 2, none⟩ = false := hfr10 2; have hf10_3 : w11.frozen? ⟨go10, (x4_1 : Int).toNat * 8 + 3, none⟩ = false := hfr10 3; have hf10_4 : w11.frozen? ⟨go10, (x4_1 : Int).toNat * 8 + 4, none⟩ = false := hfr10 4; have hf10_5 : w11.frozen? ⟨go10, (x4_1 : Int).toNat * 8 + 5, none⟩ = false := hfr10 5; have hf10_6 : w11.frozen? ⟨go10, (x4_1 : Int).toNat * 8 + 6, none⟩ = false := hfr10 6; have hf10_7 : w11.frozen? ⟨go10, (x4_1 : Int).toNat * 8 + 7, none⟩ = false := hfr10 7; clear hcl10 hcc10 hfr10 hM10; replace p10 := eq_true p10; replace q10 := eq_true q10; have n_ := Aside0.mk (Kd.R_mono (ok' := (fun k_ => some k_ ≠ (v299 : Value).ownBlock ∧ some k_ ≠ (v304 : Value).ownBlock ∧ some k_ ≠ (v307 : Value).ownBlock ∧ some k_ ≠ (v310 : Value).ownBlock)) HO_3.out (fun k_ hk => ⟨hk.1.1.1.2, ⟨hk.1.1.2, ⟨hk.1.2, hk.2⟩⟩⟩)); clear HO_3; have HO_3 := n_; clear n_; have HX12 := Aside0.mk (show Kd.R k46 46 w11 w.heap.size (fun _ => True) (.slice (some ⟨go10, 0, none⟩) x3_1.length co10) x3_1 from (by (with_reducible repeat (first | apply Kd.R_alloc | apply Kd.R_drewN | apply Kd.R_drew)); exact Kd.R_mono HO_3.out (fun _ hk => trivial))); obtain ⟨ce12, hcl12, hM12, hcc12, hfr12⟩ := Kd.R_elem HX12.out z46 (x4_1 : Int) (of_decide_eq_true (by first | (with_reducible assumption) | assumption)) (by have h_ : (x4_1 : Int) < ((x3_1.length : Int) : Int) := of_decide_eq_true (by first | (with_reducible assumption) | assumption); first | exact h_ | (have e_ := (Kd.R_reads' HO_3.out).1; omega) | simpa using h_); obtain ⟨ve12_2, ve12_5, ve12_6, ve12_7, rfl, ge12_2, ge12_5, ge12_6, ge12_7⟩ := k46_openM hM12; have HP12 := Kd.R_seg HX12.out (x4_1 : Int) (of_decide_eq_true (by first | (with_reducible assumption) | assumption)) (by have h_ : (x4_1 : Int) < ((x3_1.length : Int) : Int) := of_decide_eq_true (by first | (with_reducible assumption) | assumption); first | exact h_ | (have e_ := (Kd.R_reads' HO_3.out).1; omega) | simpa using h_) (seg := [.int .i64 t296, .int .i64 t297, v299, .int .i64 t301, .int .i64 t302, v304, v307, v310]) (j := 0) hcl12 hcc12 (show 8 ≤ 8 from by decide) (x' := (⟨t296, t297, t298, t301, t302, t303, t306, t309⟩ : S46)) (k46_mkM _ _ _ (⟨t296, t297, t298, t301, t302, t303, t306, t309⟩ : S46) (Kd.R_mono (Kd.R_apart' (HO300.out) (Kd.R_typed HO_3.out) (by decide)) (fun k_ hk => ⟨trivial, fun e_ => (hk.2) (by rw [e_]; rfl)⟩)) (Kd.R_mono (Kd.R_apart' (HO305.out) (Kd.R_typed HO_3.out) (by decide)) (fun k_ hk => ⟨trivial, fun e_ => (hk.2) (by rw [e_]; rfl)⟩)) (Kd.R_mono (Kd.R_apart' ((Kd.S_R HO308.out)) (Kd.R_typed HO_3.out) (by decide)) (fun k_ hk => ⟨trivial, fun e_ => (hk.2) (by rw [e_]; rfl)⟩)) (Kd.R_mono (Kd.R_apart' (HO311.out) (Kd.R_typed HO_3.out) (by decide)) (fun k_ hk => ⟨trivial, fun e_ => (hk.2) (by rw [e_]; rfl)⟩))) (fun _ hk => hk); have hx12_0 := hcc12 0 _ rfl; (try simp only [show (k46).sz = 8 from rfl, Nat.mul_one, Nat.add_zero] at hx12_0); have hf12_0 := hfr12 0; (try simp only [show (k46).sz = 8 from rfl, Nat.mul_one, Nat.add_zero] at hf12_0); have hx12_1 := hcc12 1 _ rfl; (try simp only [show (k46).sz = 8 from rfl, Nat.mul_one, Nat.add_zero] at hx12_1); have hf12_1 := hfr12 1; (try simp only [show (k46).sz = 8 from rfl, Nat.mul_one, Nat.add_zero] at hf12_1); have hx12_2 := hcc12 2 _ rfl; (try simp only [show (k46).sz = 8 from rfl, Nat.mul_one, Nat.add_zero] at hx12_2); have hf12_2 := hfr12 2; (try simp only [show (k46).sz = 8 from rfl, Nat.mul_one, Nat.add_zero] at hf12_2); have hx12_3 := hcc12 3 _ rfl; (try simp only [show (k46).sz = 8 from rfl, Nat.mul_one, Nat.add_zero] at hx12_3); have hf12_3 := hfr12 3; (try simp only [show (k46).sz = 8 from rfl, Nat.mul_one, Nat.add_zero] at hf12_3); have hx12_4 := hcc12 4 _ rfl; (try simp only [show (k46).sz = 8 from rfl, Nat.mul_one, Nat.add_zero] at hx12_4); have hf12_4 := hfr12 4; (try simp only [show (k46).sz = 8 from rfl, Nat.mul_one, Nat.add_zero] at hf12_4); have hx12_5 := hcc12 5 _ rfl; (try simp only [show (k46).sz = 8 from rfl, Nat.mul_one, Nat.add_zero] at hx12_5); have hf12_5 := hfr12 5; (try simp only [show (k46).sz = 8 from rfl, Nat.mul_one, Nat.add_zero] at hf12_5); have hx12_6 := hcc12 6 _ rfl; (try simp only [show (k46).sz = 8 from rfl, Nat.mul_one, Nat.add_zero] at hx12_6); have hf12_6 := hfr12 6; (try simp only [show (k46).sz = 8 from rfl, Nat.mul_one, Nat.add_zero] at hf12_6); have hx12_7 := hcc12 7 _ rfl; (try simp only [show (k46).sz = 8 from rfl, Nat.mul_one, Nat.add_zero] at hx12_7); have hf12_7 := hfr12 7; (try simp only [show (k46).sz = 8 from rfl, Nat.mul_one, Nat.add_zero] at hf12_7); clear hcl12 hcc12 hfr12 hM12) | ((with_reducible refine gate_store (t := 46) (p := 21) rfl ?_); refine store_event (t := 46) (p := 21) (v := ?vo_w13) (w1 := ((((((((w11.setCell ⟨go10, (x4_1 : Int).toNat * 8, none⟩ (.int .i64 t296)).setCell ⟨go10, (x4_1 : Int).toNat * 8 + 1, none⟩ (.int .i64 t297)).setCell ⟨go10, (x4_1 : Int).toNat * 8 + 2, none⟩ (v299)).setCell ⟨go10, (x4_1 : Int).toNat * 8 + 3, none⟩ (.int .i64 t301)).setCell ⟨go10, (x4_1 : Int).toNat * 8 + 4, none⟩ (.int .i64 t302)).setCell ⟨go10, (x4_1 : Int).toNat * 8 + 5, none⟩ (v304)).setCell ⟨go10, (x4_1 : Int).toNat * 8 + 6, none⟩ (v307)).setCell ⟨go10, (x4_1 : Int).toNat * 8 + 7, none⟩ (v310))) ?hg ?ho ?hn ?hr ?_; (case ho => rfl); (case hg => rfl); (case hn => rfl); (case hr => first | (go_simp; done) | (go_simp; rfl) | (obtain ⟨_, _, rfl⟩ := Kd.R_slice HO300.out; obtain ⟨_, _, rfl⟩ := Kd.R_slice HO305.out; obtain ⟨_, _, rfl⟩ := Kd.S_slice HO308.out; obtain ⟨_, _, rfl⟩ := Kd.R_slice HO311.out; first | (go_simp; done) | (go_simp; rfl))); intro w13 hw; have hg : w11.grownBy w13 (some go10) := (by rw [hw]; exact HP12.2); have hp_ : Kd.R k46 46 w13 w.heap.size (fun _ => True) (.slice (some ⟨go10, 0, none⟩) x3_1.length co10) y312 := (by rw [hw, Ny312.out]; exact HP12.1); clear HP12; have n0_ := Aside0.mk (hp_); have n1_ := Aside0.mk ((by rw [hw]; exact below_set (below_set (below_set (below_set (below_set (below_set (below_set (below_set (HB.out) GB10.out) GB10.out) GB10.out) GB10.out) GB10.out) GB10.out) GB10.out) GB10.out : Below w.heap.size w w13)); clear HO_3; clear HB; clear HO300; clear HO305; clear HO308; clear HO311; have HO_3 := n0_; have HB := n1_; clear n0_ n1_; clear hg hw hp_))
        go_roundg k1
        case measure => have := HK1.out; omega
        case rel => exact ⟨(y312), (wrap64 (x4_1 + 1)), (by first | rfl | (simp; done) | (simp [*]; done)), H', ⟨by have := HK1.out; omega⟩, ⟨by (with_reducible repeat (first | apply Kd.R_alloc | apply Kd.R_drewN | apply Kd.R_drew)); exact HO_3.out⟩, ⟨bl⟩⟩
       ·rw [if_neg c9] at H
        exact absurd H (by simp)
      ·rw [if_neg c7] at H
       exact absurd H (by simp)
     ·rw [if_neg c6] at H
      have c6b0 : decide (x4_1 < (l0.length : Int)) = false := decide_eq_false c6
      clear c6
      obtain rfl := Option.some.inj H; clear H
      go_wp2
      go_ret
      exact ⟨_, by first | rfl | (simp [errW_none, errW_some] <;> rfl) | (simp [*, errW_none, errW_some] <;> rfl), by (with_reducible repeat (first | apply Kd.R_alloc | apply Kd.R_drewN | apply Kd.R_drew)); exact HO_3.out, bl⟩
  ·rw [if_neg c3] at H
   exact absurd H (by simp)
 ·rw [if_neg c2] at H
  exact absurd H (by simp)
end Go.Proofs.Ytedodaifpekahaa.P

end
section

namespace Go.Proofs.Ytedodaifpekahaa.P
open Go.RowKit Go.Proofs.YtedodaifpekahaaW.PrintWords Go.Proofs.YtedodaifpekahaaW.PrintLast Go.Proofs.YtedodaifpekahaaW.PrintMore
attribute [local go_sem] max2_int min2_int max_two min_two max_three min_three max_four min_four
set_option linter.unusedVariables false
set_option linter.unusedSimpArgs false
set_option maxHeartbeats 8000000 in
set_option maxRecDepth 100000 in
theorem laws_toUnit.calls (k : Nat) (A0_0 : Option Addr) (c0_0 : Nat) (l0_0 : List (S58)) (A0_1 : Option Addr) (c0_1 : Nat) (l0_1 : List (S64)) (r1 : List (S76)) (r2 : List (S46)) (w : World) (hr0_0 : Kd.C k58 w A0_0 l0_0.length l0_0) (hc0_0 : l0_0.length ≤ c0_0) (hr0_1 : Kd.C k64 w A0_1 l0_1.length l0_1) (hc0_1 : l0_1.length ≤ c0_1) (h : laws_toUnit.f k l0_0 l0_1 = some (r1, r2)) :
  Calls Try.prog 7 #[.agg #[.slice A0_0 l0_0.length c0_0, .slice A0_1 l0_1.length c0_1]] w fun e w' => ∃ v0_ v1_ : Value, e = .returned (.agg #[v0_, v1_]) ∧ Kd.S k76 76 w' w.heap.size (fun _ => True) v0_ r1 ∧ Kd.R k46 46 w' w.heap.size (fun _ => True) v1_ r2 ∧ Below w.heap.size w w' := by
 have hu25 := Try.underlying25
 have hu31 := Try.underlying31
 have HR0_0 := Aside0.mk hr0_0
 have HC0_0 := Aside0.mk hc0_0
 clear hr0_0 hc0_0
 have HR0_1 := Aside0.mk hr0_1
 have HC0_1 := Aside0.mk hc0_1
 clear hr0_1 hc0_1
 have HB := Aside0.mk (Below.refl w.heap.size w)
 have H : ((laws_toClassS.f k l0_0).bind fun t316 => ((laws_toMethodS.f k l0_1).bind fun t319 => (some (t316, t319)))) = some (r1, r2) := h
 clear h
 obtain ⟨t316, A2, H⟩ := ob H
 obtain ⟨t319, A3, H⟩ := ob H
 simp only [Option.some.injEq, Prod.mk.injEq] at H
 obtain ⟨rfl, rfl⟩ := H
 go_enter Try.func7, Try.ntmps7
 go_wp2_with (first | ((with_reducible refine gd 1 rfl ?_); refine bx 1 #[.slice A0_0 l0_0.length c0_0, .slice A0_1 l0_1.length c0_1] 25 ?_; intro gb313 hg w4 hbox hb; have BK313 := Aside0.mk hbox; have GW313 := hz HB hg; have GE313 := hz HB hg; replace HB := hs HB hb; clear hb hbox hg) | ((with_reducible refine gd 2 rfl ?_); refine bx 2 #[.slice none 0 0, .slice none 0 0] 31 ?_; intro gb314 hg w5 hbox hb; have BK314 := Aside0.mk hbox; have GW314 := hz HB hg; have GE314 := hz HB hg; have NB313_314 := nl BK313 hg; have NB314_313 := ng BK313 hg; replace BK313 := kb BK313 hb; replace HB := hs HB hb; clear hb hbox hg) | ((with_reducible refine gd 3 rfl ?_); refine bx 3 #[.slice none 0 0, .slice none 0 0] 31 ?_; intro gb315 hg w6 hbox hb; have BK315 := Aside0.mk hbox; have GW315 := hz HB hg; have GE315 := hz HB hg; have NB313_315 := nl BK313 hg; have NB315_313 := ng BK313 hg; have NB314_315 := nl BK314 hg; have NB315_314 := ng BK314 hg; replace BK313 := kb BK313 hb; replace BK314 := kb BK314 hb; replace HB := hs HB hb; clear hb hbox hg; have hnb7 := NB313_314.out; have hnc7 := NB314_313.out; have hnb8 := NB313_315.out; have hnc8 := NB315_313.out; obtain ⟨_,_,_,_⟩ := cf2 BK313) | ((with_reducible refine gc 18 rfl ?_); refine gl (some 6) Try.func18 #[.slice A0_0 l0_0.length c0_0] rfl ?_; (with_reducible refine (laws_toClassS.calls k _ _ l0_0 t316 _ ?side1 ?side2 A2.out).mono ?_); (case side1 => exact cb HR0_0.out); (case side2 => exact HC0_0.out); rintro e w10 ⟨v317, rfl, ho0, hb⟩; refine ⟨_, rfl, ?_⟩; have HO318 := Aside0.mk (Kd.S_lower ho0 (below_size bl)); replace BK313 := kb BK313 hb; replace BK314 := kb BK314 hb; replace BK315 := kb BK315 hb; replace HB := hs HB hb; (try clear hb); (try clear ho0); obtain ⟨Ao11, co11, eo11⟩ := Kd.S_slice HO318.out; subst eo11; have hnb12 := NB315_314.out; have hnc12 := NB314_315.out; obtain ⟨_,_,_,_⟩ := cf2 BK315; obtain ⟨_,_,_,_⟩ := cf2 BK313) | ((with_reducible refine gc 19 rfl ?_); refine gl (some 10) Try.func19 #[.slice A0_1 l0_1.length c0_1] rfl ?_; (with_reducible refine (laws_toMethodS.calls k _ _ l0_1 t319 _ ?side1 ?side2 A3.out).mono ?_); (case side1 => exact cb HR0_1.out); (case side2 => exact HC0_1.out); rintro e w15 ⟨v320, rfl, ho0, hb⟩; refine ⟨_, rfl, ?_⟩; have HO321 := Aside0.mk (Kd.R_lower ho0 (below_size bl)); replace HO318 := Aside0.mk (Kd.S_below (by (with_reducible repeat (first | apply Kd.S_alloc | apply Kd.S_drewN | apply Kd.S_drew)); exact (Kd.S_mono (Kd.S_far (p := ⟨gb315, 0, none⟩) (Kd.S_types HO318.out BK315.out (by decide)) (fun _ hk => hk.2) (.slice Ao11 t316.length co11)) (fun _ h_ => h_.1))) hb); replace BK313 := kq BK313 hb; replace BK314 := kq BK314 hb; replace BK315 := kp gb315 #[.slice Ao11 t316.length co11, .slice none 0 0] 31 hb; replace HB := hs HB hb; (try clear hb); (try clear hk); (try clear ho0); obtain ⟨Ao16, co16, eo16⟩ := Kd.R_slice HO321.out; subst eo16; obtain ⟨_,_,_,_⟩ := cf2 BK315; obtain ⟨_,_,_,_⟩ := cf2 BK314))
 refine bodyPost_ret (results_cell_row rfl _ _ gb314 31 #[.slice Ao11 t316.length co11, .slice Ao16 t319.length co16] (0, 0) _ rfl (by (with_reducible repeat (first | refine blk_drewN ?_ _ | refine blk_drew ?_ | refine blk_alloc ?_ _)); refine blk_put (cs := #[.slice Ao11 t316.length co11, .slice none 0 0]) ?_ 1 _ rfl; (with_reducible repeat (first | refine blk_drewN ?_ _ | refine blk_drew ?_ | refine blk_alloc ?_ _)); refine blk_put (cs := #[.slice none 0 0, .slice none 0 0]) ?_ 0 _ rfl; (with_reducible repeat (first | refine blk_drewN ?_ _ | refine blk_drew ?_ | refine blk_alloc ?_ _)); refine blk_far ?_ NB314_315.out _; (with_reducible repeat (first | refine blk_drewN ?_ _ | refine blk_drew ?_ | refine blk_alloc ?_ _)); exact BK314.out) Try.underlying31 rfl (by kernel_rfl)) rfl ?_
 exact ⟨_, _, by first | rfl | (simp [errW_none, errW_some] <;> rfl) | (simp [*, errW_none, errW_some] <;> rfl), by (with_reducible repeat (first | apply Kd.S_alloc | apply Kd.S_drewN | apply Kd.S_drew)); exact Kd.S_mono (Kd.S_far (p := ⟨gb314, 1, none⟩) (Kd.S_far (p := ⟨gb314, 0, none⟩) (Kd.S_far (p := ⟨gb315, 1, none⟩) (Kd.S_types (Kd.S_types HO318.out BK315.out (by decide)) BK314.out (by decide)) (fun _ hk => hk.1.2) (.slice Ao16 t319.length co16)) (fun _ hk => hk.2) (.slice Ao11 t316.length co11)) (fun _ hk => hk.2) (.slice Ao16 t319.length co16)) (fun _ hk => trivial), by (with_reducible repeat (first | apply Kd.R_alloc | apply Kd.R_drewN | apply Kd.R_drew)); exact Kd.R_mono (Kd.R_far (p := ⟨gb314, 1, none⟩) (Kd.R_far (p := ⟨gb314, 0, none⟩) (Kd.R_far (p := ⟨gb315, 1, none⟩) (Kd.R_types (Kd.R_types HO321.out BK315.out (by decide)) BK314.out (by decide)) (fun _ hk => hk.1.2) (.slice Ao16 t319.length co16)) (fun _ hk => hk.2) (.slice Ao11 t316.length co11)) (fun _ hk => hk.2) (.slice Ao16 t319.length co16)) (fun _ hk => trivial), bl⟩
end Go.Proofs.Ytedodaifpekahaa.P

end
section

namespace Go.Proofs.Ytedodaifpekahaa.P
open Go.RowKit Go.Proofs.YtedodaifpekahaaW.PrintWords Go.Proofs.YtedodaifpekahaaW.PrintLast Go.Proofs.YtedodaifpekahaaW.PrintMore
attribute [local go_sem] max2_int min2_int max_two min_two max_three min_three max_four min_four
set_option linter.unusedVariables false
set_option linter.unusedSimpArgs false
set_option maxHeartbeats 8000000 in
set_option maxRecDepth 100000 in
theorem laws_eqIntS.calls (k : Nat) (A0 : Option Addr) (c0 : Nat) (l0 : List Int) (A1 : Option Addr) (c1 : Nat) (l1 : List Int) (r : Bool) (w : World) (hr0 : Kd.C (Kd.int .i64) w A0 l0.length l0) (hc0 : l0.length ≤ c0) (hr1 : Kd.C (Kd.int .i64) w A1 l1.length l1) (hc1 : l1.length ≤ c1) (h : laws_eqIntS.f k l0 l1 = some r) :
  Calls Try.prog 65 #[.slice A0 l0.length c0, .slice A1 l1.length c1] w fun e w' => e = .returned (.bool r) ∧ Drawn0 w w' := by
 have HR0 := Aside0.mk hr0
 have HC0 := Aside0.mk hc0
 clear hr0 hc0
 have HR1 := Aside0.mk hr1
 have HC1 := Aside0.mk hc1
 clear hr1 hc1
 have H : (if (l0.length : Int) = (l1.length : Int) then (laws_eqIntS.l0 k l0 l1 0) else (some false)) = some r := h
 clear h
 by_cases c3 : (l0.length : Int) = (l1.length : Int)
 ·rw [if_pos c3] at H
  have c3b0 := beq_iff_eq.mpr c3
  have c3b1 := bne_eq_false_iff_eq.mpr c3
  have c3b2 : (l0.length == l1.length) = true := by first | simpa using c3 | (simp at c3 ⊢; omega)
  clear c3
  have H' := Aside0.mk H
  clear H
  go_enter Try.func65, Try.ntmps65
  go_wp2
  repeat (go_quiet (fail); try go_wp2)
  go_loopg [5] k (fun kq v5 w' => ∃ (x5_1 : Int), v5 = .int .i64 x5_1 ∧ Aside0 (laws_eqIntS.l0 kq l0 l1 x5_1 = some r) ∧ Aside0 (kq ≤ k) ∧ Drawn0 w w')
  case atStart => exact ⟨(0), (by first | rfl | (simp; done) | (simp [*]; done)), H', ⟨Nat.le_refl _⟩, by repeat (first | exact Drawn0.refl _ | apply Drawn0.step)⟩
  case round =>
   clear H'
   obtain ⟨x5_1, rfl, HA, HK1, ⟨m1, rfl⟩⟩ := hrel
   cases gk with
   | zero => exact absurd HA.out (by simp [laws_eqIntS.l0])
   | succ k1 =>
    have H := HA.out
    clear HA
    simp only [laws_eqIntS.l0] at H
    by_cases c4 : x5_1 < (l0.length : Int)
    ·rw [if_pos c4] at H
     have c4b0 : decide (x5_1 < (l0.length : Int)) = true := decide_eq_true c4
     clear c4
     by_cases c5 : 0 ≤ x5_1
     ·rw [if_pos c5] at H
      have c5b0 : decide (0 ≤ x5_1) = true := decide_eq_true c5
      clear c5
      by_cases c6 : x5_1 < (l1.length : Int)
      ·rw [if_pos c6] at H
       have c6b0 : decide (x5_1 < (l1.length : Int)) = true := decide_eq_true c6
       clear c6
       by_cases c7 : (rd l0 x5_1) = (rd l1 x5_1)
       ·rw [if_pos c7] at H
        have c7b0 := beq_iff_eq.mpr c7
        have c7b1 := bne_eq_false_iff_eq.mpr c7
        clear c7
        have H' := Aside0.mk H
        clear H
        have p412 : 0 ≤ (x5_1 : Int) := od
        have q412 : x5_1 < (l0.length : Int) := od
        obtain ⟨ad412, e412, hx412_0⟩ := Kd.at_int HR0.out x5_1 p412 q412
        cases e412
        replace p412 := eq_true p412
        replace q412 := eq_true q412
        have p413 : 0 ≤ (x5_1 : Int) := od
        have q413 : x5_1 < (l1.length : Int) := od
        obtain ⟨ad413, e413, hx413_0⟩ := Kd.at_int HR1.out x5_1 p413 q413
        cases e413
        replace p413 := eq_true p413
        replace q413 := eq_true q413
        go_wp2
        repeat (go_quiet (fail); try go_wp2)
        go_roundg k1
        case measure => have := HK1.out; omega
        case rel => exact ⟨(wrap64 (x5_1 + 1)), (by first | rfl | (simp; done) | (simp [*]; done)), H', ⟨by have := HK1.out; omega⟩, by repeat (first | exact Drawn0.refl _ | apply Drawn0.step)⟩
       ·rw [if_neg c7] at H
        have c7b0 := beq_eq_false_iff_ne.mpr c7
        have c7b1 := bne_iff_ne.mpr c7
        obtain rfl := Option.some.inj H; clear H
        have p412 : 0 ≤ (x5_1 : Int) := od
        have q412 : x5_1 < (l0.length : Int) := od
        obtain ⟨ad412, e412, hx412_0⟩ := Kd.at_int HR0.out x5_1 p412 q412
        cases e412
        replace p412 := eq_true p412
        replace q412 := eq_true q412
        have p413 : 0 ≤ (x5_1 : Int) := od
        have q413 : x5_1 < (l1.length : Int) := od
        obtain ⟨ad413, e413, hx413_0⟩ := Kd.at_int HR1.out x5_1 p413 q413
        cases e413
        replace p413 := eq_true p413
        replace q413 := eq_true q413
        go_wp2
        repeat (go_quiet (fail); try go_wp2)
        go_ret
        exact ⟨by first | rfl | (simp; done) | (simp [*]; done), by repeat (first | exact Drawn0.refl _ | apply Drawn0.step)⟩
      ·rw [if_neg c6] at H
       exact absurd H (by simp)
     ·rw [if_neg c5] at H
      exact absurd H (by simp)
    ·rw [if_neg c4] at H
     have c4b0 : decide (x5_1 < (l0.length : Int)) = false := decide_eq_false c4
     clear c4
     obtain rfl := Option.some.inj H; clear H
     go_wp2
     repeat (go_quiet (fail); try go_wp2)
     go_ret
     exact ⟨by first | rfl | (simp; done) | (simp [*]; done), by repeat (first | exact Drawn0.refl _ | apply Drawn0.step)⟩
 ·rw [if_neg c3] at H
  have c3b0 := beq_eq_false_iff_ne.mpr c3
  have c3b1 := bne_iff_ne.mpr c3
  have c3b2 : (l0.length == l1.length) = false := by first | simpa using c3 | (simp at c3 ⊢; omega)
  obtain rfl := Option.some.inj H; clear H
  go_enter Try.func65, Try.ntmps65
  go_wp2
  repeat (go_quiet (fail); try go_wp2)
  go_ret
  exact ⟨by first | rfl | (simp; done) | (simp [*]; done), by repeat (first | exact Drawn0.refl _ | apply Drawn0.step)⟩
end Go.Proofs.Ytedodaifpekahaa.P

end
section

namespace Go.Proofs.Ytedodaifpekahaa.P
open Go.RowKit Go.Proofs.YtedodaifpekahaaW.PrintWords Go.Proofs.YtedodaifpekahaaW.PrintLast Go.Proofs.YtedodaifpekahaaW.PrintMore
attribute [local go_sem] max2_int min2_int max_two min_two max_three min_three max_four min_four
set_option linter.unusedVariables false
set_option linter.unusedSimpArgs false
set_option maxHeartbeats 8000000 in
set_option maxRecDepth 100000 in
theorem laws_eqClass.calls (k : Nat) (a0_0 : Int) (A0_1 : Option Addr) (c0_1 : Nat) (l0_1 : List Int) (a1_0 : Int) (A1_1 : Option Addr) (c1_1 : Nat) (l1_1 : List Int) (r : Bool) (w : World) (hr0_1 : Kd.C (Kd.int .i64) w A0_1 l0_1.length l0_1) (hc0_1 : l0_1.length ≤ c0_1) (hr1_1 : Kd.C (Kd.int .i64) w A1_1 l1_1.length l1_1) (hc1_1 : l1_1.length ≤ c1_1) (h : laws_eqClass.f k a0_0 l0_1 a1_0 l1_1 = some r) :
  Calls Try.prog 48 #[.agg #[.int .i64 a0_0, .slice A0_1 l0_1.length c0_1], .agg #[.int .i64 a1_0, .slice A1_1 l1_1.length c1_1]] w fun e w' => e = .returned (.bool r) ∧ Below w.heap.size w w' := by
 have hu76 := Try.underlying76
 have HR0_1 := Aside0.mk hr0_1
 have HC0_1 := Aside0.mk hc0_1
 clear hr0_1 hc0_1
 have HR1_1 := Aside0.mk hr1_1
 have HC1_1 := Aside0.mk hc1_1
 clear hr1_1 hc1_1
 have HB := Aside0.mk (Below.refl w.heap.size w)
 have H : (if a0_0 = a1_0 then ((laws_eqIntS.f k l0_1 l1_1).bind fun t416 => (if t416 = true then (some true) else (some false))) else (some false)) = some r := h
 clear h
 by_cases c3 : a0_0 = a1_0
 ·rw [if_pos c3] at H
  have c3b0 := beq_iff_eq.mpr c3
  have c3b1 := bne_eq_false_iff_eq.mpr c3
  clear c3
  obtain ⟨t416, A4, H⟩ := ob H
  by_cases c5 : t416 = true
  ·subst c5
   replace H := it H
   obtain rfl := Option.some.inj H; clear H
   go_enter Try.func48, Try.ntmps48
   go_wp2_with (first | ((with_reducible refine gc 65 rfl ?_); refine gl (some 14) Try.func65 #[.slice A0_1 l0_1.length c0_1, .slice A1_1 l1_1.length c1_1] rfl ?_; (with_reducible refine (laws_eqIntS.calls k _ _ l0_1 _ _ l1_1 true _ ?side1 ?side2 ?side3 ?side4 A4.out).mono ?_); (case side1 => exact cb HR0_1.out); (case side2 => exact HC0_1.out); (case side3 => exact cb HR1_1.out); (case side4 => exact HC1_1.out); rintro e w' ⟨rfl, ⟨nd, rfl⟩⟩; refine ⟨_, rfl, ?_⟩))
   go_ret
   exact fin
  ·replace c5 := Bool.eq_false_iff.mpr c5
   subst c5
   replace H := ie H
   obtain rfl := Option.some.inj H; clear H
   go_enter Try.func48, Try.ntmps48
   go_wp2_with (first | ((with_reducible refine gc 65 rfl ?_); refine gl (some 14) Try.func65 #[.slice A0_1 l0_1.length c0_1, .slice A1_1 l1_1.length c1_1] rfl ?_; (with_reducible refine (laws_eqIntS.calls k _ _ l0_1 _ _ l1_1 false _ ?side1 ?side2 ?side3 ?side4 A4.out).mono ?_); (case side1 => exact cb HR0_1.out); (case side2 => exact HC0_1.out); (case side3 => exact cb HR1_1.out); (case side4 => exact HC1_1.out); rintro e w' ⟨rfl, ⟨nd, rfl⟩⟩; refine ⟨_, rfl, ?_⟩))
   go_ret
   exact fin
 ·rw [if_neg c3] at H
  have c3b0 := beq_eq_false_iff_ne.mpr c3
  have c3b1 := bne_iff_ne.mpr c3
  obtain rfl := Option.some.inj H; clear H
  go_enter Try.func48, Try.ntmps48
  go_wp2
  go_ret
  exact fin
end Go.Proofs.Ytedodaifpekahaa.P

end
section

namespace Go.Proofs.Ytedodaifpekahaa.P
open Go.RowKit Go.Proofs.YtedodaifpekahaaW.PrintWords Go.Proofs.YtedodaifpekahaaW.PrintLast Go.Proofs.YtedodaifpekahaaW.PrintMore
attribute [local go_sem] max2_int min2_int max_two min_two max_three min_three max_four min_four
set_option linter.unusedVariables false
set_option linter.unusedSimpArgs false
def laws_eqClassS.T6 : Bool × List (List Nat × List Nat) := (true, [([], []), ([], []), ([0, 1], [0, 1]), ([2], [2]), ([], []), ([], []), ([4, 5], [4, 5]), ([6], [6]), ([3, 7], [3, 7]), ([8], [8])])
def laws_eqClassS.B6 : List Nat := [0, 0, 3, 7, 0, 0, 48, 112, 255, 511]
theorem laws_eqClassS.tab6 : rtab .any (opsOf Try.f26 6) = laws_eqClassS.T6 := by kernel_rfl
theorem laws_eqClassS.bits6 : waitsOk laws_eqClassS.T6.2 laws_eqClassS.B6 = true := by kernel_rfl
set_option maxHeartbeats 8000000 in
set_option maxRecDepth 100000 in
theorem laws_eqClassS.calls (k : Nat) (A0 : Option Addr) (c0 : Nat) (l0 : List (S76)) (A1 : Option Addr) (c1 : Nat) (l1 : List (S76)) (r : Bool) (w : World) (hr0 : Kd.C k76 w A0 l0.length l0) (hc0 : l0.length ≤ c0) (hr1 : Kd.C k76 w A1 l1.length l1) (hc1 : l1.length ≤ c1) (h : laws_eqClassS.f k l0 l1 = some r) :
  Calls Try.prog 26 #[.slice A0 l0.length c0, .slice A1 l1.length c1] w fun e w' => e = .returned (.bool r) ∧ Below w.heap.size w w' := by
 have hu76 := Try.underlying76
 have HR0 := Aside0.mk hr0
 have HC0 := Aside0.mk hc0
 clear hr0 hc0
 have HR1 := Aside0.mk hr1
 have HC1 := Aside0.mk hc1
 clear hr1 hc1
 have HB := Aside0.mk (Below.refl w.heap.size w)
 have H : (if (l0.length : Int) = (l1.length : Int) then (laws_eqClassS.l0 k l0 l1 0) else (some false)) = some r := h
 clear h
 by_cases c3 : (l0.length : Int) = (l1.length : Int)
 ·rw [if_pos c3] at H
  have c3b0 := beq_iff_eq.mpr c3
  have c3b1 := bne_eq_false_iff_eq.mpr c3
  have c3b2 : (l0.length == l1.length) = true := by first | simpa using c3 | (simp at c3 ⊢; omega)
  clear c3
  have H' := Aside0.mk H
  clear H
  go_enter Try.func26, Try.ntmps26
  go_wp2
  go_loopg [5] k (fun kq v5 w' => ∃ (x5_1 : Int), v5 = .int .i64 x5_1 ∧ Aside0 (laws_eqClassS.l0 kq l0 l1 x5_1 = some r) ∧ Aside0 (kq ≤ k) ∧ Aside0 (Below w.heap.size w w'))
  case atStart => exact ⟨(0), (by first | rfl | (simp; done) | (simp [*]; done)), H', ⟨Nat.le_refl _⟩, ⟨bl⟩⟩
  case round =>
   clear H'
   obtain ⟨x5_1, rfl, HA, HK1, HB⟩ := hrel
   cases gk with
   | zero => exact absurd HA.out (by simp [laws_eqClassS.l0])
   | succ k1 =>
    have H := HA.out
    clear HA
    simp only [laws_eqClassS.l0] at H
    by_cases c4 : x5_1 < (l0.length : Int)
    ·rw [if_pos c4] at H
     have c4b0 : decide (x5_1 < (l0.length : Int)) = true := decide_eq_true c4
     clear c4
     by_cases c5 : 0 ≤ x5_1
     ·rw [if_pos c5] at H
      have c5b0 : decide (0 ≤ x5_1) = true := decide_eq_true c5
      clear c5
      by_cases c6 : x5_1 < (l1.length : Int)
      ·rw [if_pos c6] at H
       have c6b0 : decide (x5_1 < (l1.length : Int)) = true := decide_eq_true c6
       clear c6
       obtain ⟨t419, A7, H⟩ := ob H
       by_cases c8 : t419 = true
       ·subst c8
        replace H := it H
        have H' := Aside0.mk H
        clear H
        try go_wp2
        replace HB := Aside0.mk (below_drew1 HB.out)
        have p417 : 0 ≤ (x5_1 : Int) := od
        have q417 : x5_1 < (l0.length : Int) := od
        obtain ⟨ad417, A417_1, c417_1, e417, hx417_0, hx417_1, hl417_1, hi417_1⟩ := at_T76 HR0.out x5_1 p417 q417
        have hw417_1 := hx417_1
        have hw417_0 := hx417_0
        cases e417
        obtain ⟨hx417_0,hx417_1⟩ := hc2 HB hx417_0 hx417_1
        have HR417_1 := Aside0.mk hi417_1
        have HC417_1 := Aside0.mk hl417_1
        clear hi417_1 hl417_1
        replace p417 := eq_true p417
        replace q417 := eq_true q417
        have p418 : 0 ≤ (x5_1 : Int) := od
        have q418 : x5_1 < (l1.length : Int) := od
        obtain ⟨ad418, A418_1, c418_1, e418, hx418_0, hx418_1, hl418_1, hi418_1⟩ := at_T76 HR1.out x5_1 p418 q418
        have hw418_1 := hx418_1
        have hw418_0 := hx418_0
        cases e418
        obtain ⟨hx418_0,hx418_1⟩ := hc2 HB hx418_0 hx418_1
        have HR418_1 := Aside0.mk hi418_1
        have HC418_1 := Aside0.mk hl418_1
        clear hi418_1 hl418_1
        replace p418 := eq_true p418
        replace q418 := eq_true q418
        refine start_ (n := 10) (S := fun w' => w'.cell? (ad417.add ((x5_1).toNat * 2)) = some (.int .i64 ((rd_T76 l0 x5_1).f0)) ∧ w'.cell? ⟨(ad417.add ((x5_1).toNat * 2)).block, (ad417.add ((x5_1).toNat * 2)).off + 1, none⟩ = some (.slice A417_1 ((rd_T76 l0 x5_1).f1).length c417_1) ∧ w'.cell? (ad418.add ((x5_1).toNat * 2)) = some (.int .i64 ((rd_T76 l1 x5_1).f0)) ∧ w'.cell? ⟨(ad418.add ((x5_1).toNat * 2)).block, (ad418.add ((x5_1).toNat * 2)).off + 1, none⟩ = some (.slice A418_1 ((rd_T76 l1 x5_1).f1).length c418_1)) (ds := []) #[false, false, false, false, false, false, false, false, false, false] (by kernel_rfl) rfl rfl ⟨((HB.out.cell (World.block_lt_of_cell? w _ hw417_0)).trans hw417_0), ((HB.out.cell (World.block_lt_of_cell? w _ hw417_1)).trans hw417_1), ((HB.out.cell (World.block_lt_of_cell? w _ hw418_0)).trans hw418_0), ((HB.out.cell (World.block_lt_of_cell? w _ hw418_1)).trans hw418_1)⟩ (fun hHeld => ?_); refine with_tabW laws_eqClassS.tab6 laws_eqClassS.bits6 (fun HT_ HW_ => ?_)
        generalize wr.drew = w9 at HB HR417_1 HR418_1 hx417_0 hx417_1 hx418_0 hx418_1 hHeld ⊢
        refine pu 0 17 #[true, false, false, false, false, false, false, false, false, false] HT_ rfl rfl ?_
        refine pu 1 18 #[true, true, false, false, false, false, false, false, false, false] HT_ rfl rfl ?_
        refine pu 2 19 #[true, true, true, false, false, false, false, false, false, false] HT_ rfl rfl ?_
        refine pu 4 21 #[true, true, true, false, true, false, false, false, false, false] HT_ rfl rfl ?_
        refine pu 5 22 #[true, true, true, false, true, true, false, false, false, false] HT_ rfl rfl ?_
        refine pu 6 23 #[true, true, true, false, true, true, true, false, false, false] HT_ rfl rfl ?_
        refine ta 3 20 #[true, true, true, true, true, true, true, false, false, false] HT_ HW_ hHeld rfl rfl ?_
        refine ta 7 24 #[true, true, true, true, true, true, true, true, false, false] HT_ HW_ hHeld rfl rfl ?_
        refine one_ (i := 8) (N := some 25) #[true, true, true, true, true, true, true, true, true, false] rfl rfl (one_of HT_.out (by kernel_rfl)) (by decide) (fun K hK => ?_)
        refine gs Try.func48 #[.agg #[.int .i64 ((rd_T76 l0 x5_1).f0), .slice A417_1 ((rd_T76 l0 x5_1).f1).length c417_1], .agg #[.int .i64 ((rd_T76 l1 x5_1).f0), .slice A418_1 ((rd_T76 l1 x5_1).f1).length c418_1]] rfl rfl ?_
        with_reducible refine (laws_eqClass.calls k1 ((rd_T76 l0 x5_1).f0) _ _ ((rd_T76 l0 x5_1).f1) ((rd_T76 l1 x5_1).f0) _ _ ((rd_T76 l1 x5_1).f1) true _ ?side1 ?side2 ?side3 ?side4 A7.out).mono ?_
        (case side1 => exact cb HR417_1.out)
        (case side2 => exact HC417_1.out)
        (case side3 => exact cb HR418_1.out)
        (case side4 => exact HC418_1.out)
        rintro e w10 ⟨rfl, hb⟩
        refine ⟨_, rfl, ?_⟩
        replace HB := hs HB hb
        (try clear hb)
        (try clear hb2)
        (try clear hk)
        (try clear hi)
        refine hK.out _ _ ⟨((HB.out.cell (World.block_lt_of_cell? w _ hw417_0)).trans hw417_0), ((HB.out.cell (World.block_lt_of_cell? w _ hw417_1)).trans hw417_1), ((HB.out.cell (World.block_lt_of_cell? w _ hw418_0)).trans hw418_0), ((HB.out.cell (World.block_lt_of_cell? w _ hw418_1)).trans hw418_1)⟩ (fun hHeld => ?_)
        clear hK K
        refine no 25 ?_
        refine pu 9 26 #[true, true, true, true, true, true, true, true, true, true] HT_ rfl rfl ?_
        refine done_ (done_of HT_.out (by kernel_rfl)) ?_
        try go_wp2
        go_roundg k1
        case measure => have := HK1.out; omega
        case rel => exact ⟨(wrap64 (x5_1 + 1)), (by first | rfl | (simp; done) | (simp [*]; done)), H', ⟨by have := HK1.out; omega⟩, ⟨bl⟩⟩
       ·replace c8 := Bool.eq_false_iff.mpr c8
        subst c8
        replace H := ie H
        obtain rfl := Option.some.inj H; clear H
        try go_wp2
        replace HB := Aside0.mk (below_drew1 HB.out)
        have p417 : 0 ≤ (x5_1 : Int) := od
        have q417 : x5_1 < (l0.length : Int) := od
        obtain ⟨ad417, A417_1, c417_1, e417, hx417_0, hx417_1, hl417_1, hi417_1⟩ := at_T76 HR0.out x5_1 p417 q417
        have hw417_1 := hx417_1
        have hw417_0 := hx417_0
        cases e417
        obtain ⟨hx417_0,hx417_1⟩ := hc2 HB hx417_0 hx417_1
        have HR417_1 := Aside0.mk hi417_1
        have HC417_1 := Aside0.mk hl417_1
        clear hi417_1 hl417_1
        replace p417 := eq_true p417
        replace q417 := eq_true q417
        have p418 : 0 ≤ (x5_1 : Int) := od
        have q418 : x5_1 < (l1.length : Int) := od
        obtain ⟨ad418, A418_1, c418_1, e418, hx418_0, hx418_1, hl418_1, hi418_1⟩ := at_T76 HR1.out x5_1 p418 q418
        have hw418_1 := hx418_1
        have hw418_0 := hx418_0
        cases e418
        obtain ⟨hx418_0,hx418_1⟩ := hc2 HB hx418_0 hx418_1
        have HR418_1 := Aside0.mk hi418_1
        have HC418_1 := Aside0.mk hl418_1
        clear hi418_1 hl418_1
        replace p418 := eq_true p418
        replace q418 := eq_true q418
        refine start_ (n := 10) (S := fun w' => w'.cell? (ad417.add ((x5_1).toNat * 2)) = some (.int .i64 ((rd_T76 l0 x5_1).f0)) ∧ w'.cell? ⟨(ad417.add ((x5_1).toNat * 2)).block, (ad417.add ((x5_1).toNat * 2)).off + 1, none⟩ = some (.slice A417_1 ((rd_T76 l0 x5_1).f1).length c417_1) ∧ w'.cell? (ad418.add ((x5_1).toNat * 2)) = some (.int .i64 ((rd_T76 l1 x5_1).f0)) ∧ w'.cell? ⟨(ad418.add ((x5_1).toNat * 2)).block, (ad418.add ((x5_1).toNat * 2)).off + 1, none⟩ = some (.slice A418_1 ((rd_T76 l1 x5_1).f1).length c418_1)) (ds := []) #[false, false, false, false, false, false, false, false, false, false] (by kernel_rfl) rfl rfl ⟨((HB.out.cell (World.block_lt_of_cell? w _ hw417_0)).trans hw417_0), ((HB.out.cell (World.block_lt_of_cell? w _ hw417_1)).trans hw417_1), ((HB.out.cell (World.block_lt_of_cell? w _ hw418_0)).trans hw418_0), ((HB.out.cell (World.block_lt_of_cell? w _ hw418_1)).trans hw418_1)⟩ (fun hHeld => ?_); refine with_tabW laws_eqClassS.tab6 laws_eqClassS.bits6 (fun HT_ HW_ => ?_)
        generalize wr.drew = w11 at HB HR417_1 HR418_1 hx417_0 hx417_1 hx418_0 hx418_1 hHeld ⊢
        refine pu 0 17 #[true, false, false, false, false, false, false, false, false, false] HT_ rfl rfl ?_
        refine pu 1 18 #[true, true, false, false, false, false, false, false, false, false] HT_ rfl rfl ?_
        refine pu 2 19 #[true, true, true, false, false, false, false, false, false, false] HT_ rfl rfl ?_
        refine pu 4 21 #[true, true, true, false, true, false, false, false, false, false] HT_ rfl rfl ?_
        refine pu 5 22 #[true, true, true, false, true, true, false, false, false, false] HT_ rfl rfl ?_
        refine pu 6 23 #[true, true, true, false, true, true, true, false, false, false] HT_ rfl rfl ?_
        refine ta 3 20 #[true, true, true, true, true, true, true, false, false, false] HT_ HW_ hHeld rfl rfl ?_
        refine ta 7 24 #[true, true, true, true, true, true, true, true, false, false] HT_ HW_ hHeld rfl rfl ?_
        refine one_ (i := 8) (N := some 25) #[true, true, true, true, true, true, true, true, true, false] rfl rfl (one_of HT_.out (by kernel_rfl)) (by decide) (fun K hK => ?_)
        refine gs Try.func48 #[.agg #[.int .i64 ((rd_T76 l0 x5_1).f0), .slice A417_1 ((rd_T76 l0 x5_1).f1).length c417_1], .agg #[.int .i64 ((rd_T76 l1 x5_1).f0), .slice A418_1 ((rd_T76 l1 x5_1).f1).length c418_1]] rfl rfl ?_
        with_reducible refine (laws_eqClass.calls k1 ((rd_T76 l0 x5_1).f0) _ _ ((rd_T76 l0 x5_1).f1) ((rd_T76 l1 x5_1).f0) _ _ ((rd_T76 l1 x5_1).f1) false _ ?side1 ?side2 ?side3 ?side4 A7.out).mono ?_
        (case side1 => exact cb HR417_1.out)
        (case side2 => exact HC417_1.out)
        (case side3 => exact cb HR418_1.out)
        (case side4 => exact HC418_1.out)
        rintro e w12 ⟨rfl, hb⟩
        refine ⟨_, rfl, ?_⟩
        replace HB := hs HB hb
        (try clear hb)
        (try clear hb2)
        (try clear hk)
        (try clear hi)
        refine hK.out _ _ ⟨((HB.out.cell (World.block_lt_of_cell? w _ hw417_0)).trans hw417_0), ((HB.out.cell (World.block_lt_of_cell? w _ hw417_1)).trans hw417_1), ((HB.out.cell (World.block_lt_of_cell? w _ hw418_0)).trans hw418_0), ((HB.out.cell (World.block_lt_of_cell? w _ hw418_1)).trans hw418_1)⟩ (fun hHeld => ?_)
        clear hK K
        refine no 25 ?_
        refine pu 9 26 #[true, true, true, true, true, true, true, true, true, true] HT_ rfl rfl ?_
        refine done_ (done_of HT_.out (by kernel_rfl)) ?_
        try go_wp2
        go_ret
        exact fin
      ·rw [if_neg c6] at H
       exact absurd H (by simp)
     ·rw [if_neg c5] at H
      exact absurd H (by simp)
    ·rw [if_neg c4] at H
     have c4b0 : decide (x5_1 < (l0.length : Int)) = false := decide_eq_false c4
     clear c4
     obtain rfl := Option.some.inj H; clear H
     go_wp2
     go_ret
     exact fin
 ·rw [if_neg c3] at H
  have c3b0 := beq_eq_false_iff_ne.mpr c3
  have c3b1 := bne_iff_ne.mpr c3
  have c3b2 : (l0.length == l1.length) = false := by first | simpa using c3 | (simp at c3 ⊢; omega)
  obtain rfl := Option.some.inj H; clear H
  go_enter Try.func26, Try.ntmps26
  go_wp2
  go_ret
  exact fin
end Go.Proofs.Ytedodaifpekahaa.P

end
section

namespace Go.Proofs.Ytedodaifpekahaa.P
open Go.RowKit Go.Proofs.YtedodaifpekahaaW.PrintWords Go.Proofs.YtedodaifpekahaaW.PrintLast Go.Proofs.YtedodaifpekahaaW.PrintMore
attribute [local go_sem] max2_int min2_int max_two min_two max_three min_three max_four min_four
set_option linter.unusedVariables false
set_option linter.unusedSimpArgs false
set_option maxHeartbeats 8000000 in
set_option maxRecDepth 100000 in
theorem laws_eqIns.calls (a0_0 : Int) (a0_1 : Int) (a0_2 : Int) (a1_0 : Int) (a1_1 : Int) (a1_2 : Int) (r : Bool) (w : World) (h : laws_eqIns.f a0_0 a0_1 a0_2 a1_0 a1_1 a1_2 = some r) :
  Calls Try.prog 73 #[.agg #[.int .i64 a0_0, .int .i64 a0_1, .int .i64 a0_2], .agg #[.int .i64 a1_0, .int .i64 a1_1, .int .i64 a1_2]] w fun e w' => e = .returned (.bool r) ∧ Below w.heap.size w w' := by
 have hu67 := Try.underlying67
 have HB := Aside0.mk (Below.refl w.heap.size w)
 have H : (if a0_0 = a1_0 then (if a0_1 = a1_1 then (if a0_2 = a1_2 then (some true) else (some false)) else (some false)) else (some false)) = some r := h
 clear h
 by_cases c3 : a0_0 = a1_0
 ·rw [if_pos c3] at H
  have c3b0 := beq_iff_eq.mpr c3
  have c3b1 := bne_eq_false_iff_eq.mpr c3
  clear c3
  by_cases c4 : a0_1 = a1_1
  ·rw [if_pos c4] at H
   have c4b0 := beq_iff_eq.mpr c4
   have c4b1 := bne_eq_false_iff_eq.mpr c4
   clear c4
   by_cases c5 : a0_2 = a1_2
   ·rw [if_pos c5] at H
    have c5b0 := beq_iff_eq.mpr c5
    have c5b1 := bne_eq_false_iff_eq.mpr c5
    clear c5
    obtain rfl := Option.some.inj H; clear H
    go_enter Try.func73, Try.ntmps73
    go_wp2
    go_ret
    exact fin
   ·rw [if_neg c5] at H
    have c5b0 := beq_eq_false_iff_ne.mpr c5
    have c5b1 := bne_iff_ne.mpr c5
    obtain rfl := Option.some.inj H; clear H
    go_enter Try.func73, Try.ntmps73
    go_wp2
    go_ret
    exact fin
  ·rw [if_neg c4] at H
   have c4b0 := beq_eq_false_iff_ne.mpr c4
   have c4b1 := bne_iff_ne.mpr c4
   obtain rfl := Option.some.inj H; clear H
   go_enter Try.func73, Try.ntmps73
   go_wp2
   go_ret
   exact fin
 ·rw [if_neg c3] at H
  have c3b0 := beq_eq_false_iff_ne.mpr c3
  have c3b1 := bne_iff_ne.mpr c3
  obtain rfl := Option.some.inj H; clear H
  go_enter Try.func73, Try.ntmps73
  go_wp2
  go_ret
  exact fin
end Go.Proofs.Ytedodaifpekahaa.P

end
section

namespace Go.Proofs.Ytedodaifpekahaa.P
open Go.RowKit Go.Proofs.YtedodaifpekahaaW.PrintWords Go.Proofs.YtedodaifpekahaaW.PrintLast Go.Proofs.YtedodaifpekahaaW.PrintMore
attribute [local go_sem] max2_int min2_int max_two min_two max_three min_three max_four min_four
set_option linter.unusedVariables false
set_option linter.unusedSimpArgs false
def laws_eqInsS.T6 : Bool × List (List Nat × List Nat) := (true, [([], []), ([], []), ([0, 1], [0, 1]), ([2], [2]), ([], []), ([], []), ([4, 5], [4, 5]), ([6], [6]), ([3, 7], [3, 7]), ([8], [8])])
def laws_eqInsS.B6 : List Nat := [0, 0, 3, 7, 0, 0, 48, 112, 255, 511]
theorem laws_eqInsS.tab6 : rtab .any (opsOf Try.f66 6) = laws_eqInsS.T6 := by kernel_rfl
theorem laws_eqInsS.bits6 : waitsOk laws_eqInsS.T6.2 laws_eqInsS.B6 = true := by kernel_rfl
set_option maxHeartbeats 8000000 in
set_option maxRecDepth 100000 in
theorem laws_eqInsS.calls (k : Nat) (A0 : Option Addr) (c0 : Nat) (l0 : List (S67)) (A1 : Option Addr) (c1 : Nat) (l1 : List (S67)) (r : Bool) (w : World) (hr0 : Kd.C k67 w A0 l0.length l0) (hc0 : l0.length ≤ c0) (hr1 : Kd.C k67 w A1 l1.length l1) (hc1 : l1.length ≤ c1) (h : laws_eqInsS.f k l0 l1 = some r) :
  Calls Try.prog 66 #[.slice A0 l0.length c0, .slice A1 l1.length c1] w fun e w' => e = .returned (.bool r) ∧ Below w.heap.size w w' := by
 have hu67 := Try.underlying67
 have HR0 := Aside0.mk hr0
 have HC0 := Aside0.mk hc0
 clear hr0 hc0
 have HR1 := Aside0.mk hr1
 have HC1 := Aside0.mk hc1
 clear hr1 hc1
 have HB := Aside0.mk (Below.refl w.heap.size w)
 have H : (if (l0.length : Int) = (l1.length : Int) then (laws_eqInsS.l0 k l0 l1 0) else (some false)) = some r := h
 clear h
 by_cases c3 : (l0.length : Int) = (l1.length : Int)
 ·rw [if_pos c3] at H
  have c3b0 := beq_iff_eq.mpr c3
  have c3b1 := bne_eq_false_iff_eq.mpr c3
  have c3b2 : (l0.length == l1.length) = true := by first | simpa using c3 | (simp at c3 ⊢; omega)
  clear c3
  have H' := Aside0.mk H
  clear H
  go_enter Try.func66, Try.ntmps66
  go_wp2
  go_loopg [5] k (fun kq v5 w' => ∃ (x5_1 : Int), v5 = .int .i64 x5_1 ∧ Aside0 (laws_eqInsS.l0 kq l0 l1 x5_1 = some r) ∧ Aside0 (kq ≤ k) ∧ Aside0 (Below w.heap.size w w'))
  case atStart => exact ⟨(0), (by first | rfl | (simp; done) | (simp [*]; done)), H', ⟨Nat.le_refl _⟩, ⟨bl⟩⟩
  case round =>
   clear H'
   obtain ⟨x5_1, rfl, HA, HK1, HB⟩ := hrel
   cases gk with
   | zero => exact absurd HA.out (by simp [laws_eqInsS.l0])
   | succ k1 =>
    have H := HA.out
    clear HA
    simp only [laws_eqInsS.l0] at H
    by_cases c4 : x5_1 < (l0.length : Int)
    ·rw [if_pos c4] at H
     have c4b0 : decide (x5_1 < (l0.length : Int)) = true := decide_eq_true c4
     clear c4
     by_cases c5 : 0 ≤ x5_1
     ·rw [if_pos c5] at H
      have c5b0 : decide (0 ≤ x5_1) = true := decide_eq_true c5
      clear c5
      by_cases c6 : x5_1 < (l1.length : Int)
      ·rw [if_pos c6] at H
       have c6b0 : decide (x5_1 < (l1.length : Int)) = true := decide_eq_true c6
       clear c6
       obtain ⟨t424, A7, H⟩ := ob H
       by_cases c8 : t424 = true
       ·subst c8
        replace H := it H
        have H' := Aside0.mk H
        clear H
        try go_wp2
        replace HB := Aside0.mk (below_drew1 HB.out)
        have p422 : 0 ≤ (x5_1 : Int) := od
        have q422 : x5_1 < (l0.length : Int) := od
        obtain ⟨ad422, e422, hx422_0, hx422_1, hx422_2⟩ := at_T67 HR0.out x5_1 p422 q422
        have hw422_2 := hx422_2
        have hw422_1 := hx422_1
        have hw422_0 := hx422_0
        cases e422
        obtain ⟨hx422_0,hx422_1,hx422_2⟩ := hc3 HB hx422_0 hx422_1 hx422_2
        replace p422 := eq_true p422
        replace q422 := eq_true q422
        have p423 : 0 ≤ (x5_1 : Int) := od
        have q423 : x5_1 < (l1.length : Int) := od
        obtain ⟨ad423, e423, hx423_0, hx423_1, hx423_2⟩ := at_T67 HR1.out x5_1 p423 q423
        have hw423_2 := hx423_2
        have hw423_1 := hx423_1
        have hw423_0 := hx423_0
        cases e423
        obtain ⟨hx423_0,hx423_1,hx423_2⟩ := hc3 HB hx423_0 hx423_1 hx423_2
        replace p423 := eq_true p423
        replace q423 := eq_true q423
        refine start_ (n := 10) (S := fun w' => w'.cell? (ad422.add ((x5_1).toNat * 3)) = some (.int .i64 ((rd_T67 l0 x5_1).f0)) ∧ w'.cell? ⟨(ad422.add ((x5_1).toNat * 3)).block, (ad422.add ((x5_1).toNat * 3)).off + 1, none⟩ = some (.int .i64 ((rd_T67 l0 x5_1).f1)) ∧ w'.cell? ⟨(ad422.add ((x5_1).toNat * 3)).block, (ad422.add ((x5_1).toNat * 3)).off + 2, none⟩ = some (.int .i64 ((rd_T67 l0 x5_1).f2)) ∧ w'.cell? (ad423.add ((x5_1).toNat * 3)) = some (.int .i64 ((rd_T67 l1 x5_1).f0)) ∧ w'.cell? ⟨(ad423.add ((x5_1).toNat * 3)).block, (ad423.add ((x5_1).toNat * 3)).off + 1, none⟩ = some (.int .i64 ((rd_T67 l1 x5_1).f1)) ∧ w'.cell? ⟨(ad423.add ((x5_1).toNat * 3)).block, (ad423.add ((x5_1).toNat * 3)).off + 2, none⟩ = some (.int .i64 ((rd_T67 l1 x5_1).f2))) (ds := []) #[false, false, false, false, false, false, false, false, false, false] (by kernel_rfl) rfl rfl ⟨((HB.out.cell (World.block_lt_of_cell? w _ hw422_0)).trans hw422_0), ((HB.out.cell (World.block_lt_of_cell? w _ hw422_1)).trans hw422_1), ((HB.out.cell (World.block_lt_of_cell? w _ hw422_2)).trans hw422_2), ((HB.out.cell (World.block_lt_of_cell? w _ hw423_0)).trans hw423_0), ((HB.out.cell (World.block_lt_of_cell? w _ hw423_1)).trans hw423_1), ((HB.out.cell (World.block_lt_of_cell? w _ hw423_2)).trans hw423_2)⟩ (fun hHeld => ?_); refine with_tabW laws_eqInsS.tab6 laws_eqInsS.bits6 (fun HT_ HW_ => ?_)
        generalize wr.drew = w9 at HB hx422_0 hx422_1 hx422_2 hx423_0 hx423_1 hx423_2 hHeld ⊢
        refine pu 0 17 #[true, false, false, false, false, false, false, false, false, false] HT_ rfl rfl ?_
        refine pu 1 18 #[true, true, false, false, false, false, false, false, false, false] HT_ rfl rfl ?_
        refine pu 2 19 #[true, true, true, false, false, false, false, false, false, false] HT_ rfl rfl ?_
        refine pu 4 21 #[true, true, true, false, true, false, false, false, false, false] HT_ rfl rfl ?_
        refine pu 5 22 #[true, true, true, false, true, true, false, false, false, false] HT_ rfl rfl ?_
        refine pu 6 23 #[true, true, true, false, true, true, true, false, false, false] HT_ rfl rfl ?_
        refine ta 3 20 #[true, true, true, true, true, true, true, false, false, false] HT_ HW_ hHeld rfl rfl ?_
        refine ta 7 24 #[true, true, true, true, true, true, true, true, false, false] HT_ HW_ hHeld rfl rfl ?_
        refine one_ (i := 8) (N := some 25) #[true, true, true, true, true, true, true, true, true, false] rfl rfl (one_of HT_.out (by kernel_rfl)) (by decide) (fun K hK => ?_)
        refine gs Try.func73 #[.agg #[.int .i64 ((rd_T67 l0 x5_1).f0), .int .i64 ((rd_T67 l0 x5_1).f1), .int .i64 ((rd_T67 l0 x5_1).f2)], .agg #[.int .i64 ((rd_T67 l1 x5_1).f0), .int .i64 ((rd_T67 l1 x5_1).f1), .int .i64 ((rd_T67 l1 x5_1).f2)]] rfl rfl ?_
        with_reducible refine (laws_eqIns.calls ((rd_T67 l0 x5_1).f0) ((rd_T67 l0 x5_1).f1) ((rd_T67 l0 x5_1).f2) ((rd_T67 l1 x5_1).f0) ((rd_T67 l1 x5_1).f1) ((rd_T67 l1 x5_1).f2) true _ A7.out).mono ?_
        rintro e w10 ⟨rfl, hb⟩
        refine ⟨_, rfl, ?_⟩
        replace HB := hs HB hb
        (try clear hb)
        (try clear hb2)
        (try clear hk)
        (try clear hi)
        refine hK.out _ _ ⟨((HB.out.cell (World.block_lt_of_cell? w _ hw422_0)).trans hw422_0), ((HB.out.cell (World.block_lt_of_cell? w _ hw422_1)).trans hw422_1), ((HB.out.cell (World.block_lt_of_cell? w _ hw422_2)).trans hw422_2), ((HB.out.cell (World.block_lt_of_cell? w _ hw423_0)).trans hw423_0), ((HB.out.cell (World.block_lt_of_cell? w _ hw423_1)).trans hw423_1), ((HB.out.cell (World.block_lt_of_cell? w _ hw423_2)).trans hw423_2)⟩ (fun hHeld => ?_)
        clear hK K
        refine no 25 ?_
        refine pu 9 26 #[true, true, true, true, true, true, true, true, true, true] HT_ rfl rfl ?_
        refine done_ (done_of HT_.out (by kernel_rfl)) ?_
        try go_wp2
        go_roundg k1
        case measure => have := HK1.out; omega
        case rel => exact ⟨(wrap64 (x5_1 + 1)), (by first | rfl | (simp; done) | (simp [*]; done)), H', ⟨by have := HK1.out; omega⟩, ⟨bl⟩⟩
       ·replace c8 := Bool.eq_false_iff.mpr c8
        subst c8
        replace H := ie H
        obtain rfl := Option.some.inj H; clear H
        try go_wp2
        replace HB := Aside0.mk (below_drew1 HB.out)
        have p422 : 0 ≤ (x5_1 : Int) := od
        have q422 : x5_1 < (l0.length : Int) := od
        obtain ⟨ad422, e422, hx422_0, hx422_1, hx422_2⟩ := at_T67 HR0.out x5_1 p422 q422
        have hw422_2 := hx422_2
        have hw422_1 := hx422_1
        have hw422_0 := hx422_0
        cases e422
        obtain ⟨hx422_0,hx422_1,hx422_2⟩ := hc3 HB hx422_0 hx422_1 hx422_2
        replace p422 := eq_true p422
        replace q422 := eq_true q422
        have p423 : 0 ≤ (x5_1 : Int) := od
        have q423 : x5_1 < (l1.length : Int) := od
        obtain ⟨ad423, e423, hx423_0, hx423_1, hx423_2⟩ := at_T67 HR1.out x5_1 p423 q423
        have hw423_2 := hx423_2
        have hw423_1 := hx423_1
        have hw423_0 := hx423_0
        cases e423
        obtain ⟨hx423_0,hx423_1,hx423_2⟩ := hc3 HB hx423_0 hx423_1 hx423_2
        replace p423 := eq_true p423
        replace q423 := eq_true q423
        refine start_ (n := 10) (S := fun w' => w'.cell? (ad422.add ((x5_1).toNat * 3)) = some (.int .i64 ((rd_T67 l0 x5_1).f0)) ∧ w'.cell? ⟨(ad422.add ((x5_1).toNat * 3)).block, (ad422.add ((x5_1).toNat * 3)).off + 1, none⟩ = some (.int .i64 ((rd_T67 l0 x5_1).f1)) ∧ w'.cell? ⟨(ad422.add ((x5_1).toNat * 3)).block, (ad422.add ((x5_1).toNat * 3)).off + 2, none⟩ = some (.int .i64 ((rd_T67 l0 x5_1).f2)) ∧ w'.cell? (ad423.add ((x5_1).toNat * 3)) = some (.int .i64 ((rd_T67 l1 x5_1).f0)) ∧ w'.cell? ⟨(ad423.add ((x5_1).toNat * 3)).block, (ad423.add ((x5_1).toNat * 3)).off + 1, none⟩ = some (.int .i64 ((rd_T67 l1 x5_1).f1)) ∧ w'.cell? ⟨(ad423.add ((x5_1).toNat * 3)).block, (ad423.add ((x5_1).toNat * 3)).off + 2, none⟩ = some (.int .i64 ((rd_T67 l1 x5_1).f2))) (ds := []) #[false, false, false, false, false, false, false, false, false, false] (by kernel_rfl) rfl rfl ⟨((HB.out.cell (World.block_lt_of_cell? w _ hw422_0)).trans hw422_0), ((HB.out.cell (World.block_lt_of_cell? w _ hw422_1)).trans hw422_1), ((HB.out.cell (World.block_lt_of_cell? w _ hw422_2)).trans hw422_2), ((HB.out.cell (World.block_lt_of_cell? w _ hw423_0)).trans hw423_0), ((HB.out.cell (World.block_lt_of_cell? w _ hw423_1)).trans hw423_1), ((HB.out.cell (World.block_lt_of_cell? w _ hw423_2)).trans hw423_2)⟩ (fun hHeld => ?_); refine with_tabW laws_eqInsS.tab6 laws_eqInsS.bits6 (fun HT_ HW_ => ?_)
        generalize wr.drew = w11 at HB hx422_0 hx422_1 hx422_2 hx423_0 hx423_1 hx423_2 hHeld ⊢
        refine pu 0 17 #[true, false, false, false, false, false, false, false, false, false] HT_ rfl rfl ?_
        refine pu 1 18 #[true, true, false, false, false, false, false, false, false, false] HT_ rfl rfl ?_
        refine pu 2 19 #[true, true, true, false, false, false, false, false, false, false] HT_ rfl rfl ?_
        refine pu 4 21 #[true, true, true, false, true, false, false, false, false, false] HT_ rfl rfl ?_
        refine pu 5 22 #[true, true, true, false, true, true, false, false, false, false] HT_ rfl rfl ?_
        refine pu 6 23 #[true, true, true, false, true, true, true, false, false, false] HT_ rfl rfl ?_
        refine ta 3 20 #[true, true, true, true, true, true, true, false, false, false] HT_ HW_ hHeld rfl rfl ?_
        refine ta 7 24 #[true, true, true, true, true, true, true, true, false, false] HT_ HW_ hHeld rfl rfl ?_
        refine one_ (i := 8) (N := some 25) #[true, true, true, true, true, true, true, true, true, false] rfl rfl (one_of HT_.out (by kernel_rfl)) (by decide) (fun K hK => ?_)
        refine gs Try.func73 #[.agg #[.int .i64 ((rd_T67 l0 x5_1).f0), .int .i64 ((rd_T67 l0 x5_1).f1), .int .i64 ((rd_T67 l0 x5_1).f2)], .agg #[.int .i64 ((rd_T67 l1 x5_1).f0), .int .i64 ((rd_T67 l1 x5_1).f1), .int .i64 ((rd_T67 l1 x5_1).f2)]] rfl rfl ?_
        with_reducible refine (laws_eqIns.calls ((rd_T67 l0 x5_1).f0) ((rd_T67 l0 x5_1).f1) ((rd_T67 l0 x5_1).f2) ((rd_T67 l1 x5_1).f0) ((rd_T67 l1 x5_1).f1) ((rd_T67 l1 x5_1).f2) false _ A7.out).mono ?_
        rintro e w12 ⟨rfl, hb⟩
        refine ⟨_, rfl, ?_⟩
        replace HB := hs HB hb
        (try clear hb)
        (try clear hb2)
        (try clear hk)
        (try clear hi)
        refine hK.out _ _ ⟨((HB.out.cell (World.block_lt_of_cell? w _ hw422_0)).trans hw422_0), ((HB.out.cell (World.block_lt_of_cell? w _ hw422_1)).trans hw422_1), ((HB.out.cell (World.block_lt_of_cell? w _ hw422_2)).trans hw422_2), ((HB.out.cell (World.block_lt_of_cell? w _ hw423_0)).trans hw423_0), ((HB.out.cell (World.block_lt_of_cell? w _ hw423_1)).trans hw423_1), ((HB.out.cell (World.block_lt_of_cell? w _ hw423_2)).trans hw423_2)⟩ (fun hHeld => ?_)
        clear hK K
        refine no 25 ?_
        refine pu 9 26 #[true, true, true, true, true, true, true, true, true, true] HT_ rfl rfl ?_
        refine done_ (done_of HT_.out (by kernel_rfl)) ?_
        try go_wp2
        go_ret
        exact fin
      ·rw [if_neg c6] at H
       exact absurd H (by simp)
     ·rw [if_neg c5] at H
      exact absurd H (by simp)
    ·rw [if_neg c4] at H
     have c4b0 : decide (x5_1 < (l0.length : Int)) = false := decide_eq_false c4
     clear c4
     obtain rfl := Option.some.inj H; clear H
     go_wp2
     go_ret
     exact fin
 ·rw [if_neg c3] at H
  have c3b0 := beq_eq_false_iff_ne.mpr c3
  have c3b1 := bne_iff_ne.mpr c3
  have c3b2 : (l0.length == l1.length) = false := by first | simpa using c3 | (simp at c3 ⊢; omega)
  obtain rfl := Option.some.inj H; clear H
  go_enter Try.func66, Try.ntmps66
  go_wp2
  go_ret
  exact fin
end Go.Proofs.Ytedodaifpekahaa.P

end
section

namespace Go.Proofs.Ytedodaifpekahaa.P
open Go.RowKit Go.Proofs.YtedodaifpekahaaW.PrintWords Go.Proofs.YtedodaifpekahaaW.PrintLast Go.Proofs.YtedodaifpekahaaW.PrintMore
attribute [local go_sem] max2_int min2_int max_two min_two max_three min_three max_four min_four
set_option linter.unusedVariables false
set_option linter.unusedSimpArgs false
set_option maxHeartbeats 8000000 in
set_option maxRecDepth 100000 in
theorem laws_eqShape.calls (k : Nat) (a0_0 : Bool) (A0_1 : Option Addr) (c0_1 : Nat) (l0_1 : List Int) (A0_2 : Option Addr) (c0_2 : Nat) (l0_2 : List Int) (a1_0 : Bool) (A1_1 : Option Addr) (c1_1 : Nat) (l1_1 : List Int) (A1_2 : Option Addr) (c1_2 : Nat) (l1_2 : List Int) (r : Bool) (w : World) (hr0_1 : Kd.C (Kd.int .i64) w A0_1 l0_1.length l0_1) (hc0_1 : l0_1.length ≤ c0_1) (hr0_2 : Kd.C (Kd.int .i64) w A0_2 l0_2.length l0_2) (hc0_2 : l0_2.length ≤ c0_2) (hr1_1 : Kd.C (Kd.int .i64) w A1_1 l1_1.length l1_1) (hc1_1 : l1_1.length ≤ c1_1) (hr1_2 : Kd.C (Kd.int .i64) w A1_2 l1_2.length l1_2) (hc1_2 : l1_2.length ≤ c1_2) (h : laws_eqShape.f k a0_0 l0_1 l0_2 a1_0 l1_1 l1_2 = some r) :
  Calls Try.prog 74 #[.agg #[.bool a0_0, .slice A0_1 l0_1.length c0_1, .slice A0_2 l0_2.length c0_2], .agg #[.bool a1_0, .slice A1_1 l1_1.length c1_1, .slice A1_2 l1_2.length c1_2]] w fun e w' => e = .returned (.bool r) ∧ Below w.heap.size w w' := by
 have hu70 := Try.underlying70
 have HR0_1 := Aside0.mk hr0_1
 have HC0_1 := Aside0.mk hc0_1
 clear hr0_1 hc0_1
 have HR0_2 := Aside0.mk hr0_2
 have HC0_2 := Aside0.mk hc0_2
 clear hr0_2 hc0_2
 have HR1_1 := Aside0.mk hr1_1
 have HC1_1 := Aside0.mk hc1_1
 clear hr1_1 hc1_1
 have HR1_2 := Aside0.mk hr1_2
 have HC1_2 := Aside0.mk hc1_2
 clear hr1_2 hc1_2
 have HB := Aside0.mk (Below.refl w.heap.size w)
 have H : (if (a0_0 != a1_0) = true then (some false) else ((laws_eqIntS.f k l0_1 l1_1).bind fun t427 => (if t427 = true then ((laws_eqIntS.f k l0_2 l1_2).bind fun t428 => (if t428 = true then (some true) else (some false))) else (some false)))) = some r := h
 clear h
 by_cases c3 : (a0_0 != a1_0) = true
 ·rw [if_pos c3] at H
  have c3b0 : (a0_0 != a1_0) = true := c3
  (try (have c3b1 : decide (a0_0 = a1_0) = false := by simpa using c3))
  (try (have c3b2 : (a0_0 == a1_0) = false := by simpa using c3))
  (try (have c3b3 : ¬ (a0_0 = a1_0) := by simpa using c3))
  clear c3
  obtain rfl := Option.some.inj H; clear H
  go_enter Try.func74, Try.ntmps74
  go_wp2
  go_ret
  exact fin
 ·rw [if_neg c3] at H
  have c3b0 : (a0_0 != a1_0) = false := by simpa using c3
  (try (have c3b1 : decide (a0_0 = a1_0) = true := by simpa using c3))
  (try (have c3b2 : (a0_0 == a1_0) = true := by simpa using c3))
  clear c3
  obtain ⟨t427, A9, H⟩ := ob H
  by_cases c10 : t427 = true
  ·subst c10
   replace H := it H
   obtain ⟨t428, A11, H⟩ := ob H
   by_cases c12 : t428 = true
   ·subst c12
    replace H := it H
    obtain rfl := Option.some.inj H; clear H
    go_enter Try.func74, Try.ntmps74
    go_wp2_with (first | ((with_reducible refine gc 65 rfl ?_); refine gl (some 14) Try.func65 #[.slice A0_1 l0_1.length c0_1, .slice A1_1 l1_1.length c1_1] rfl ?_; (with_reducible refine (laws_eqIntS.calls k _ _ l0_1 _ _ l1_1 true _ ?side1 ?side2 ?side3 ?side4 A9.out).mono ?_); (case side1 => exact cb HR0_1.out); (case side2 => exact HC0_1.out); (case side3 => exact cb HR1_1.out); (case side4 => exact HC1_1.out); rintro e w' ⟨rfl, ⟨nd, rfl⟩⟩; refine ⟨_, rfl, ?_⟩) | ((with_reducible refine gc 65 rfl ?_); refine gl (some 20) Try.func65 #[.slice A0_2 l0_2.length c0_2, .slice A1_2 l1_2.length c1_2] rfl ?_; (with_reducible refine (laws_eqIntS.calls k _ _ l0_2 _ _ l1_2 true _ ?side1 ?side2 ?side3 ?side4 A11.out).mono ?_); (case side1 => exact cb HR0_2.out); (case side2 => exact HC0_2.out); (case side3 => exact cb HR1_2.out); (case side4 => exact HC1_2.out); rintro e w' ⟨rfl, ⟨nd, rfl⟩⟩; refine ⟨_, rfl, ?_⟩))
    go_ret
    exact fin
   ·replace c12 := Bool.eq_false_iff.mpr c12
    subst c12
    replace H := ie H
    obtain rfl := Option.some.inj H; clear H
    go_enter Try.func74, Try.ntmps74
    go_wp2_with (first | ((with_reducible refine gc 65 rfl ?_); refine gl (some 14) Try.func65 #[.slice A0_1 l0_1.length c0_1, .slice A1_1 l1_1.length c1_1] rfl ?_; (with_reducible refine (laws_eqIntS.calls k _ _ l0_1 _ _ l1_1 true _ ?side1 ?side2 ?side3 ?side4 A9.out).mono ?_); (case side1 => exact cb HR0_1.out); (case side2 => exact HC0_1.out); (case side3 => exact cb HR1_1.out); (case side4 => exact HC1_1.out); rintro e w' ⟨rfl, ⟨nd, rfl⟩⟩; refine ⟨_, rfl, ?_⟩) | ((with_reducible refine gc 65 rfl ?_); refine gl (some 20) Try.func65 #[.slice A0_2 l0_2.length c0_2, .slice A1_2 l1_2.length c1_2] rfl ?_; (with_reducible refine (laws_eqIntS.calls k _ _ l0_2 _ _ l1_2 false _ ?side1 ?side2 ?side3 ?side4 A11.out).mono ?_); (case side1 => exact cb HR0_2.out); (case side2 => exact HC0_2.out); (case side3 => exact cb HR1_2.out); (case side4 => exact HC1_2.out); rintro e w' ⟨rfl, ⟨nd, rfl⟩⟩; refine ⟨_, rfl, ?_⟩))
    go_ret
    exact fin
  ·replace c10 := Bool.eq_false_iff.mpr c10
   subst c10
   replace H := ie H
   obtain rfl := Option.some.inj H; clear H
   go_enter Try.func74, Try.ntmps74
   go_wp2_with (first | ((with_reducible refine gc 65 rfl ?_); refine gl (some 14) Try.func65 #[.slice A0_1 l0_1.length c0_1, .slice A1_1 l1_1.length c1_1] rfl ?_; (with_reducible refine (laws_eqIntS.calls k _ _ l0_1 _ _ l1_1 false _ ?side1 ?side2 ?side3 ?side4 A9.out).mono ?_); (case side1 => exact cb HR0_1.out); (case side2 => exact HC0_1.out); (case side3 => exact cb HR1_1.out); (case side4 => exact HC1_1.out); rintro e w' ⟨rfl, ⟨nd, rfl⟩⟩; refine ⟨_, rfl, ?_⟩))
   go_ret
   exact fin
end Go.Proofs.Ytedodaifpekahaa.P

end
section

namespace Go.Proofs.Ytedodaifpekahaa.P
open Go.RowKit Go.Proofs.YtedodaifpekahaaW.PrintWords Go.Proofs.YtedodaifpekahaaW.PrintLast Go.Proofs.YtedodaifpekahaaW.PrintMore
attribute [local go_sem] max2_int min2_int max_two min_two max_three min_three max_four min_four
set_option linter.unusedVariables false
set_option linter.unusedSimpArgs false
def laws_eqShapeS.T6 : Bool × List (List Nat × List Nat) := (true, [([], []), ([], []), ([0, 1], [0, 1]), ([2], [2]), ([], []), ([], []), ([4, 5], [4, 5]), ([6], [6]), ([3, 7], [3, 7]), ([8], [8])])
def laws_eqShapeS.B6 : List Nat := [0, 0, 3, 7, 0, 0, 48, 112, 255, 511]
theorem laws_eqShapeS.tab6 : rtab .any (opsOf Try.f67 6) = laws_eqShapeS.T6 := by kernel_rfl
theorem laws_eqShapeS.bits6 : waitsOk laws_eqShapeS.T6.2 laws_eqShapeS.B6 = true := by kernel_rfl
set_option maxHeartbeats 8000000 in
set_option maxRecDepth 100000 in
theorem laws_eqShapeS.calls (k : Nat) (A0 : Option Addr) (c0 : Nat) (l0 : List (S70)) (A1 : Option Addr) (c1 : Nat) (l1 : List (S70)) (r : Bool) (w : World) (hr0 : Kd.C k70 w A0 l0.length l0) (hc0 : l0.length ≤ c0) (hr1 : Kd.C k70 w A1 l1.length l1) (hc1 : l1.length ≤ c1) (h : laws_eqShapeS.f k l0 l1 = some r) :
  Calls Try.prog 67 #[.slice A0 l0.length c0, .slice A1 l1.length c1] w fun e w' => e = .returned (.bool r) ∧ Below w.heap.size w w' := by
 have hu70 := Try.underlying70
 have HR0 := Aside0.mk hr0
 have HC0 := Aside0.mk hc0
 clear hr0 hc0
 have HR1 := Aside0.mk hr1
 have HC1 := Aside0.mk hc1
 clear hr1 hc1
 have HB := Aside0.mk (Below.refl w.heap.size w)
 have H : (if (l0.length : Int) = (l1.length : Int) then (laws_eqShapeS.l0 k l0 l1 0) else (some false)) = some r := h
 clear h
 by_cases c3 : (l0.length : Int) = (l1.length : Int)
 ·rw [if_pos c3] at H
  have c3b0 := beq_iff_eq.mpr c3
  have c3b1 := bne_eq_false_iff_eq.mpr c3
  have c3b2 : (l0.length == l1.length) = true := by first | simpa using c3 | (simp at c3 ⊢; omega)
  clear c3
  have H' := Aside0.mk H
  clear H
  go_enter Try.func67, Try.ntmps67
  go_wp2
  go_loopg [5] k (fun kq v5 w' => ∃ (x5_1 : Int), v5 = .int .i64 x5_1 ∧ Aside0 (laws_eqShapeS.l0 kq l0 l1 x5_1 = some r) ∧ Aside0 (kq ≤ k) ∧ Aside0 (Below w.heap.size w w'))
  case atStart => exact ⟨(0), (by first | rfl | (simp; done) | (simp [*]; done)), H', ⟨Nat.le_refl _⟩, ⟨bl⟩⟩
  case round =>
   clear H'
   obtain ⟨x5_1, rfl, HA, HK1, HB⟩ := hrel
   cases gk with
   | zero => exact absurd HA.out (by simp [laws_eqShapeS.l0])
   | succ k1 =>
    have H := HA.out
    clear HA
    simp only [laws_eqShapeS.l0] at H
    by_cases c4 : x5_1 < (l0.length : Int)
    ·rw [if_pos c4] at H
     have c4b0 : decide (x5_1 < (l0.length : Int)) = true := decide_eq_true c4
     clear c4
     by_cases c5 : 0 ≤ x5_1
     ·rw [if_pos c5] at H
      have c5b0 : decide (0 ≤ x5_1) = true := decide_eq_true c5
      clear c5
      by_cases c6 : x5_1 < (l1.length : Int)
      ·rw [if_pos c6] at H
       have c6b0 : decide (x5_1 < (l1.length : Int)) = true := decide_eq_true c6
       clear c6
       obtain ⟨t431, A7, H⟩ := ob H
       by_cases c8 : t431 = true
       ·subst c8
        replace H := it H
        have H' := Aside0.mk H
        clear H
        try go_wp2
        replace HB := Aside0.mk (below_drew1 HB.out)
        have p429 : 0 ≤ (x5_1 : Int) := od
        have q429 : x5_1 < (l0.length : Int) := od
        obtain ⟨ad429, A429_1, c429_1, A429_2, c429_2, e429, hx429_0, hx429_1, hx429_2, hl429_1, hi429_1, hl429_2, hi429_2⟩ := at_T70 HR0.out x5_1 p429 q429
        have hw429_2 := hx429_2
        have hw429_1 := hx429_1
        have hw429_0 := hx429_0
        cases e429
        obtain ⟨hx429_0,hx429_1,hx429_2⟩ := hc3 HB hx429_0 hx429_1 hx429_2
        have HR429_1 := Aside0.mk hi429_1
        have HC429_1 := Aside0.mk hl429_1
        clear hi429_1 hl429_1
        have HR429_2 := Aside0.mk hi429_2
        have HC429_2 := Aside0.mk hl429_2
        clear hi429_2 hl429_2
        replace p429 := eq_true p429
        replace q429 := eq_true q429
        have p430 : 0 ≤ (x5_1 : Int) := od
        have q430 : x5_1 < (l1.length : Int) := od
        obtain ⟨ad430, A430_1, c430_1, A430_2, c430_2, e430, hx430_0, hx430_1, hx430_2, hl430_1, hi430_1, hl430_2, hi430_2⟩ := at_T70 HR1.out x5_1 p430 q430
        have hw430_2 := hx430_2
        have hw430_1 := hx430_1
        have hw430_0 := hx430_0
        cases e430
        obtain ⟨hx430_0,hx430_1,hx430_2⟩ := hc3 HB hx430_0 hx430_1 hx430_2
        have HR430_1 := Aside0.mk hi430_1
        have HC430_1 := Aside0.mk hl430_1
        clear hi430_1 hl430_1
        have HR430_2 := Aside0.mk hi430_2
        have HC430_2 := Aside0.mk hl430_2
        clear hi430_2 hl430_2
        replace p430 := eq_true p430
        replace q430 := eq_true q430
        refine start_ (n := 10) (S := fun w' => w'.cell? (ad429.add ((x5_1).toNat * 3)) = some (.bool ((rd_T70 l0 x5_1).f0)) ∧ w'.cell? ⟨(ad429.add ((x5_1).toNat * 3)).block, (ad429.add ((x5_1).toNat * 3)).off + 1, none⟩ = some (.slice A429_1 ((rd_T70 l0 x5_1).f1).length c429_1) ∧ w'.cell? ⟨(ad429.add ((x5_1).toNat * 3)).block, (ad429.add ((x5_1).toNat * 3)).off + 2, none⟩ = some (.slice A429_2 ((rd_T70 l0 x5_1).f2).length c429_2) ∧ w'.cell? (ad430.add ((x5_1).toNat * 3)) = some (.bool ((rd_T70 l1 x5_1).f0)) ∧ w'.cell? ⟨(ad430.add ((x5_1).toNat * 3)).block, (ad430.add ((x5_1).toNat * 3)).off + 1, none⟩ = some (.slice A430_1 ((rd_T70 l1 x5_1).f1).length c430_1) ∧ w'.cell? ⟨(ad430.add ((x5_1).toNat * 3)).block, (ad430.add ((x5_1).toNat * 3)).off + 2, none⟩ = some (.slice A430_2 ((rd_T70 l1 x5_1).f2).length c430_2)) (ds := []) #[false, false, false, false, false, false, false, false, false, false] (by kernel_rfl) rfl rfl ⟨((HB.out.cell (World.block_lt_of_cell? w _ hw429_0)).trans hw429_0), ((HB.out.cell (World.block_lt_of_cell? w _ hw429_1)).trans hw429_1), ((HB.out.cell (World.block_lt_of_cell? w _ hw429_2)).trans hw429_2), ((HB.out.cell (World.block_lt_of_cell? w _ hw430_0)).trans hw430_0), ((HB.out.cell (World.block_lt_of_cell? w _ hw430_1)).trans hw430_1), ((HB.out.cell (World.block_lt_of_cell? w _ hw430_2)).trans hw430_2)⟩ (fun hHeld => ?_); refine with_tabW laws_eqShapeS.tab6 laws_eqShapeS.bits6 (fun HT_ HW_ => ?_)
        generalize wr.drew = w9 at HB HR429_1 HR429_2 HR430_1 HR430_2 hx429_0 hx429_1 hx429_2 hx430_0 hx430_1 hx430_2 hHeld ⊢
        refine pu 0 17 #[true, false, false, false, false, false, false, false, false, false] HT_ rfl rfl ?_
        refine pu 1 18 #[true, true, false, false, false, false, false, false, false, false] HT_ rfl rfl ?_
        refine pu 2 19 #[true, true, true, false, false, false, false, false, false, false] HT_ rfl rfl ?_
        refine pu 4 21 #[true, true, true, false, true, false, false, false, false, false] HT_ rfl rfl ?_
        refine pu 5 22 #[true, true, true, false, true, true, false, false, false, false] HT_ rfl rfl ?_
        refine pu 6 23 #[true, true, true, false, true, true, true, false, false, false] HT_ rfl rfl ?_
        refine ta 3 20 #[true, true, true, true, true, true, true, false, false, false] HT_ HW_ hHeld rfl rfl ?_
        refine ta 7 24 #[true, true, true, true, true, true, true, true, false, false] HT_ HW_ hHeld rfl rfl ?_
        refine one_ (i := 8) (N := some 25) #[true, true, true, true, true, true, true, true, true, false] rfl rfl (one_of HT_.out (by kernel_rfl)) (by decide) (fun K hK => ?_)
        refine gs Try.func74 #[.agg #[.bool ((rd_T70 l0 x5_1).f0), .slice A429_1 ((rd_T70 l0 x5_1).f1).length c429_1, .slice A429_2 ((rd_T70 l0 x5_1).f2).length c429_2], .agg #[.bool ((rd_T70 l1 x5_1).f0), .slice A430_1 ((rd_T70 l1 x5_1).f1).length c430_1, .slice A430_2 ((rd_T70 l1 x5_1).f2).length c430_2]] rfl rfl ?_
        with_reducible refine (laws_eqShape.calls k1 ((rd_T70 l0 x5_1).f0) _ _ ((rd_T70 l0 x5_1).f1) _ _ ((rd_T70 l0 x5_1).f2) ((rd_T70 l1 x5_1).f0) _ _ ((rd_T70 l1 x5_1).f1) _ _ ((rd_T70 l1 x5_1).f2) true _ ?side1 ?side2 ?side3 ?side4 ?side5 ?side6 ?side7 ?side8 A7.out).mono ?_
        (case side1 => exact cb HR429_1.out)
        (case side2 => exact HC429_1.out)
        (case side3 => exact cb HR429_2.out)
        (case side4 => exact HC429_2.out)
        (case side5 => exact cb HR430_1.out)
        (case side6 => exact HC430_1.out)
        (case side7 => exact cb HR430_2.out)
        (case side8 => exact HC430_2.out)
        rintro e w10 ⟨rfl, hb⟩
        refine ⟨_, rfl, ?_⟩
        replace HB := hs HB hb
        (try clear hb)
        (try clear hb2)
        (try clear hk)
        (try clear hi)
        refine hK.out _ _ ⟨((HB.out.cell (World.block_lt_of_cell? w _ hw429_0)).trans hw429_0), ((HB.out.cell (World.block_lt_of_cell? w _ hw429_1)).trans hw429_1), ((HB.out.cell (World.block_lt_of_cell? w _ hw429_2)).trans hw429_2), ((HB.out.cell (World.block_lt_of_cell? w _ hw430_0)).trans hw430_0), ((HB.out.cell (World.block_lt_of_cell? w _ hw430_1)).trans hw430_1), ((HB.out.cell (World.block_lt_of_cell? w _ hw430_2)).trans hw430_2)⟩ (fun hHeld => ?_)
        clear hK K
        refine no 25 ?_
        refine pu 9 26 #[true, true, true, true, true, true, true, true, true, true] HT_ rfl rfl ?_
        refine done_ (done_of HT_.out (by kernel_rfl)) ?_
        try go_wp2
        go_roundg k1
        case measure => have := HK1.out; omega
        case rel => exact ⟨(wrap64 (x5_1 + 1)), (by first | rfl | (simp; done) | (simp [*]; done)), H', ⟨by have := HK1.out; omega⟩, ⟨bl⟩⟩
       ·replace c8 := Bool.eq_false_iff.mpr c8
        subst c8
        replace H := ie H
        obtain rfl := Option.some.inj H; clear H
        try go_wp2
        replace HB := Aside0.mk (below_drew1 HB.out)
        have p429 : 0 ≤ (x5_1 : Int) := od
        have q429 : x5_1 < (l0.length : Int) := od
        obtain ⟨ad429, A429_1, c429_1, A429_2, c429_2, e429, hx429_0, hx429_1, hx429_2, hl429_1, hi429_1, hl429_2, hi429_2⟩ := at_T70 HR0.out x5_1 p429 q429
        have hw429_2 := hx429_2
        have hw429_1 := hx429_1
        have hw429_0 := hx429_0
        cases e429
        obtain ⟨hx429_0,hx429_1,hx429_2⟩ := hc3 HB hx429_0 hx429_1 hx429_2
        have HR429_1 := Aside0.mk hi429_1
        have HC429_1 := Aside0.mk hl429_1
        clear hi429_1 hl429_1
        have HR429_2 := Aside0.mk hi429_2
        have HC429_2 := Aside0.mk hl429_2
        clear hi429_2 hl429_2
        replace p429 := eq_true p429
        replace q429 := eq_true q429
        have p430 : 0 ≤ (x5_1 : Int) := od
        have q430 : x5_1 < (l1.length : Int) := od
        obtain ⟨ad430, A430_1, c430_1, A430_2, c430_2, e430, hx430_0, hx430_1, hx430_2, hl430_1, hi430_1, hl430_2, hi430_2⟩ := at_T70 HR1.out x5_1 p430 q430
        have hw430_2 := hx430_2
        have hw430_1 := hx430_1
        have hw430_0 := hx430_0
        cases e430
        obtain ⟨hx430_0,hx430_1,hx430_2⟩ := hc3 HB hx430_0 hx430_1 hx430_2
        have HR430_1 := Aside0.mk hi430_1
        have HC430_1 := Aside0.mk hl430_1
        clear hi430_1 hl430_1
        have HR430_2 := Aside0.mk hi430_2
        have HC430_2 := Aside0.mk hl430_2
        clear hi430_2 hl430_2
        replace p430 := eq_true p430
        replace q430 := eq_true q430
        refine start_ (n := 10) (S := fun w' => w'.cell? (ad429.add ((x5_1).toNat * 3)) = some (.bool ((rd_T70 l0 x5_1).f0)) ∧ w'.cell? ⟨(ad429.add ((x5_1).toNat * 3)).block, (ad429.add ((x5_1).toNat * 3)).off + 1, none⟩ = some (.slice A429_1 ((rd_T70 l0 x5_1).f1).length c429_1) ∧ w'.cell? ⟨(ad429.add ((x5_1).toNat * 3)).block, (ad429.add ((x5_1).toNat * 3)).off + 2, none⟩ = some (.slice A429_2 ((rd_T70 l0 x5_1).f2).length c429_2) ∧ w'.cell? (ad430.add ((x5_1).toNat * 3)) = some (.bool ((rd_T70 l1 x5_1).f0)) ∧ w'.cell? ⟨(ad430.add ((x5_1).toNat * 3)).block, (ad430.add ((x5_1).toNat * 3)).off + 1, none⟩ = some (.slice A430_1 ((rd_T70 l1 x5_1).f1).length c430_1) ∧ w'.cell? ⟨(ad430.add ((x5_1).toNat * 3)).block, (ad430.add ((x5_1).toNat * 3)).off + 2, none⟩ = some (.slice A430_2 ((rd_T70 l1 x5_1).f2).length c430_2)) (ds := []) #[false, false, false, false, false, false, false, false, false, false] (by kernel_rfl) rfl rfl ⟨((HB.out.cell (World.block_lt_of_cell? w _ hw429_0)).trans hw429_0), ((HB.out.cell (World.block_lt_of_cell? w _ hw429_1)).trans hw429_1), ((HB.out.cell (World.block_lt_of_cell? w _ hw429_2)).trans hw429_2), ((HB.out.cell (World.block_lt_of_cell? w _ hw430_0)).trans hw430_0), ((HB.out.cell (World.block_lt_of_cell? w _ hw430_1)).trans hw430_1), ((HB.out.cell (World.block_lt_of_cell? w _ hw430_2)).trans hw430_2)⟩ (fun hHeld => ?_); refine with_tabW laws_eqShapeS.tab6 laws_eqShapeS.bits6 (fun HT_ HW_ => ?_)
        generalize wr.drew = w11 at HB HR429_1 HR429_2 HR430_1 HR430_2 hx429_0 hx429_1 hx429_2 hx430_0 hx430_1 hx430_2 hHeld ⊢
        refine pu 0 17 #[true, false, false, false, false, false, false, false, false, false] HT_ rfl rfl ?_
        refine pu 1 18 #[true, true, false, false, false, false, false, false, false, false] HT_ rfl rfl ?_
        refine pu 2 19 #[true, true, true, false, false, false, false, false, false, false] HT_ rfl rfl ?_
        refine pu 4 21 #[true, true, true, false, true, false, false, false, false, false] HT_ rfl rfl ?_
        refine pu 5 22 #[true, true, true, false, true, true, false, false, false, false] HT_ rfl rfl ?_
        refine pu 6 23 #[true, true, true, false, true, true, true, false, false, false] HT_ rfl rfl ?_
        refine ta 3 20 #[true, true, true, true, true, true, true, false, false, false] HT_ HW_ hHeld rfl rfl ?_
        refine ta 7 24 #[true, true, true, true, true, true, true, true, false, false] HT_ HW_ hHeld rfl rfl ?_
        refine one_ (i := 8) (N := some 25) #[true, true, true, true, true, true, true, true, true, false] rfl rfl (one_of HT_.out (by kernel_rfl)) (by decide) (fun K hK => ?_)
        refine gs Try.func74 #[.agg #[.bool ((rd_T70 l0 x5_1).f0), .slice A429_1 ((rd_T70 l0 x5_1).f1).length c429_1, .slice A429_2 ((rd_T70 l0 x5_1).f2).length c429_2], .agg #[.bool ((rd_T70 l1 x5_1).f0), .slice A430_1 ((rd_T70 l1 x5_1).f1).length c430_1, .slice A430_2 ((rd_T70 l1 x5_1).f2).length c430_2]] rfl rfl ?_
        with_reducible refine (laws_eqShape.calls k1 ((rd_T70 l0 x5_1).f0) _ _ ((rd_T70 l0 x5_1).f1) _ _ ((rd_T70 l0 x5_1).f2) ((rd_T70 l1 x5_1).f0) _ _ ((rd_T70 l1 x5_1).f1) _ _ ((rd_T70 l1 x5_1).f2) false _ ?side1 ?side2 ?side3 ?side4 ?side5 ?side6 ?side7 ?side8 A7.out).mono ?_
        (case side1 => exact cb HR429_1.out)
        (case side2 => exact HC429_1.out)
        (case side3 => exact cb HR429_2.out)
        (case side4 => exact HC429_2.out)
        (case side5 => exact cb HR430_1.out)
        (case side6 => exact HC430_1.out)
        (case side7 => exact cb HR430_2.out)
        (case side8 => exact HC430_2.out)
        rintro e w12 ⟨rfl, hb⟩
        refine ⟨_, rfl, ?_⟩
        replace HB := hs HB hb
        (try clear hb)
        (try clear hb2)
        (try clear hk)
        (try clear hi)
        refine hK.out _ _ ⟨((HB.out.cell (World.block_lt_of_cell? w _ hw429_0)).trans hw429_0), ((HB.out.cell (World.block_lt_of_cell? w _ hw429_1)).trans hw429_1), ((HB.out.cell (World.block_lt_of_cell? w _ hw429_2)).trans hw429_2), ((HB.out.cell (World.block_lt_of_cell? w _ hw430_0)).trans hw430_0), ((HB.out.cell (World.block_lt_of_cell? w _ hw430_1)).trans hw430_1), ((HB.out.cell (World.block_lt_of_cell? w _ hw430_2)).trans hw430_2)⟩ (fun hHeld => ?_)
        clear hK K
        refine no 25 ?_
        refine pu 9 26 #[true, true, true, true, true, true, true, true, true, true] HT_ rfl rfl ?_
        refine done_ (done_of HT_.out (by kernel_rfl)) ?_
        try go_wp2
        go_ret
        exact fin
      ·rw [if_neg c6] at H
       exact absurd H (by simp)
     ·rw [if_neg c5] at H
      exact absurd H (by simp)
    ·rw [if_neg c4] at H
     have c4b0 : decide (x5_1 < (l0.length : Int)) = false := decide_eq_false c4
     clear c4
     obtain rfl := Option.some.inj H; clear H
     go_wp2
     go_ret
     exact fin
 ·rw [if_neg c3] at H
  have c3b0 := beq_eq_false_iff_ne.mpr c3
  have c3b1 := bne_iff_ne.mpr c3
  have c3b2 : (l0.length == l1.length) = false := by first | simpa using c3 | (simp at c3 ⊢; omega)
  obtain rfl := Option.some.inj H; clear H
  go_enter Try.func67, Try.ntmps67
  go_wp2
  go_ret
  exact fin
end Go.Proofs.Ytedodaifpekahaa.P

end
section

namespace Go.Proofs.Ytedodaifpekahaa.P
open Go.RowKit Go.Proofs.YtedodaifpekahaaW.PrintWords Go.Proofs.YtedodaifpekahaaW.PrintLast Go.Proofs.YtedodaifpekahaaW.PrintMore
attribute [local go_sem] max2_int min2_int max_two min_two max_three min_three max_four min_four
set_option linter.unusedVariables false
set_option linter.unusedSimpArgs false
set_option maxHeartbeats 8000000 in
set_option maxRecDepth 100000 in
theorem laws_eqCatch.calls (a0_0 : Int) (a0_1 : Int) (a0_2 : Int) (a0_3 : Int) (a1_0 : Int) (a1_1 : Int) (a1_2 : Int) (a1_3 : Int) (r : Bool) (w : World) (h : laws_eqCatch.f a0_0 a0_1 a0_2 a0_3 a1_0 a1_1 a1_2 a1_3 = some r) :
  Calls Try.prog 75 #[.agg #[.int .i64 a0_0, .int .i64 a0_1, .int .i64 a0_2, .int .i64 a0_3], .agg #[.int .i64 a1_0, .int .i64 a1_1, .int .i64 a1_2, .int .i64 a1_3]] w fun e w' => e = .returned (.bool r) ∧ Below w.heap.size w w' := by
 have hu73 := Try.underlying73
 have HB := Aside0.mk (Below.refl w.heap.size w)
 have H : (if a0_0 = a1_0 then (if a0_1 = a1_1 then (if a0_2 = a1_2 then (if a0_3 = a1_3 then (some true) else (some false)) else (some false)) else (some false)) else (some false)) = some r := h
 clear h
 by_cases c3 : a0_0 = a1_0
 ·rw [if_pos c3] at H
  have c3b0 := beq_iff_eq.mpr c3
  have c3b1 := bne_eq_false_iff_eq.mpr c3
  clear c3
  by_cases c4 : a0_1 = a1_1
  ·rw [if_pos c4] at H
   have c4b0 := beq_iff_eq.mpr c4
   have c4b1 := bne_eq_false_iff_eq.mpr c4
   clear c4
   by_cases c5 : a0_2 = a1_2
   ·rw [if_pos c5] at H
    have c5b0 := beq_iff_eq.mpr c5
    have c5b1 := bne_eq_false_iff_eq.mpr c5
    clear c5
    by_cases c6 : a0_3 = a1_3
    ·rw [if_pos c6] at H
     have c6b0 := beq_iff_eq.mpr c6
     have c6b1 := bne_eq_false_iff_eq.mpr c6
     clear c6
     obtain rfl := Option.some.inj H; clear H
     go_enter Try.func75, Try.ntmps75
     go_wp2
     go_ret
     exact fin
    ·rw [if_neg c6] at H
     have c6b0 := beq_eq_false_iff_ne.mpr c6
     have c6b1 := bne_iff_ne.mpr c6
     obtain rfl := Option.some.inj H; clear H
     go_enter Try.func75, Try.ntmps75
     go_wp2
     go_ret
     exact fin
   ·rw [if_neg c5] at H
    have c5b0 := beq_eq_false_iff_ne.mpr c5
    have c5b1 := bne_iff_ne.mpr c5
    obtain rfl := Option.some.inj H; clear H
    go_enter Try.func75, Try.ntmps75
    go_wp2
    go_ret
    exact fin
  ·rw [if_neg c4] at H
   have c4b0 := beq_eq_false_iff_ne.mpr c4
   have c4b1 := bne_iff_ne.mpr c4
   obtain rfl := Option.some.inj H; clear H
   go_enter Try.func75, Try.ntmps75
   go_wp2
   go_ret
   exact fin
 ·rw [if_neg c3] at H
  have c3b0 := beq_eq_false_iff_ne.mpr c3
  have c3b1 := bne_iff_ne.mpr c3
  obtain rfl := Option.some.inj H; clear H
  go_enter Try.func75, Try.ntmps75
  go_wp2
  go_ret
  exact fin
end Go.Proofs.Ytedodaifpekahaa.P

end
