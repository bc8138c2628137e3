/- A part of the claim FnExactUnitFind: texts of this session and texts that its program printed out of the translation, joined. -/
import Derived.Test.YtedodaifpekahaaCFnExactUnitFind21
import Derived.Test.YtedodaifpekahaaCFnExactUnitFind22
import Derived.Test.YtedodaifpekahaaCFnExactUnitFind0
import Derived.Test.YtedodaifpekahaaCFnExactUnitFind1
import Derived.Test.YtedodaifpekahaaCFnExactUnitFind2
import Derived.Test.YtedodaifpekahaaCFnExactUnitFind3
import Derived.Test.YtedodaifpekahaaCFnExactUnitFind4
import Derived.Test.YtedodaifpekahaaCFnExactUnitFind5
import Derived.Test.YtedodaifpekahaaCFnExactUnitFind6
import Derived.Test.YtedodaifpekahaaCFnExactUnitFind7
import Derived.Test.YtedodaifpekahaaCFnExactUnitFind8
import Derived.Test.YtedodaifpekahaaCFnExactUnitFind9
import Derived.Test.YtedodaifpekahaaCFnExactUnitFind10
import Derived.Test.YtedodaifpekahaaCFnExactUnitFind11
import Derived.Test.YtedodaifpekahaaCFnExactUnitFind12
import Derived.Test.YtedodaifpekahaaCFnExactUnitFind13
import Derived.Test.YtedodaifpekahaaCFnExactUnitFind14
import Derived.Test.YtedodaifpekahaaCFnExactUnitFind15
import Derived.Test.YtedodaifpekahaaCFnExactUnitFind16
import Derived.Test.YtedodaifpekahaaCFnExactUnitFind17
import Derived.Test.YtedodaifpekahaaCFnExactUnitFind18
import Derived.Test.YtedodaifpekahaaCFnExactUnitFind19
import Derived.Test.YtedodaifpekahaaCFnExactUnitFind20
import Derived.Test.YtedodaifpekahaaCFnExactUnitFind23
import Derived.Test.YtedodaifpekahaaCFnExactUnitFind24
import Derived.Test.YtedodaifpekahaaCFnExactUnitFind25
import Derived.Test.YtedodaifpekahaaCFnExactUnitFind26
import Derived.Test.YtedodaifpekahaaCFnExactUnitFind27
import Derived.Test.YtedodaifpekahaaCFnExactUnitFind28
import Derived.Test.YtedodaifpekahaaCFnExactUnitFind29
import Derived.Test.YtedodaifpekahaaCFnExactUnitFind30
section

namespace Go.Proofs.Ytedodaifpekahaa.P
open Go.RowKit Go.Proofs.YtedodaifpekahaaW.PrintWords Go.Proofs.YtedodaifpekahaaW.PrintLast Go.Proofs.YtedodaifpekahaaW.PrintMore
attribute [local go_sem] max2_int min2_int max_two min_two max_three min_three max_four min_four
set_option linter.unusedVariables false
set_option linter.unusedSimpArgs false
set_option maxHeartbeats 8000000 in
set_option maxRecDepth 100000 in
theorem laws_toIntS.calls (k : Nat) (A0 : Option Addr) (c0 : Nat) (l0 : List Int) (r : List Int) (w : World) (hr0 : Kd.C (Kd.int .i64) w A0 l0.length l0) (hc0 : l0.length ≤ c0) (h : laws_toIntS.f k l0 = some r) :
  Calls Try.prog 58 #[.slice A0 l0.length c0] w fun e w' => ∃ v0_ : Value, e = .returned (v0_) ∧ Kd.R (Kd.int .i64) 3 w' w.heap.size (fun _ => True) v0_ r ∧ Below w.heap.size w w' := by
 have HR0 := Aside0.mk hr0
 have HC0 := Aside0.mk hc0
 clear hr0 hc0
 have HB := Aside0.mk (Below.refl w.heap.size w)
 have H : (if 0 ≤ (l0.length : Int) then (if ((l0.length : Int) : Int).toNat ≤ 35184372088832 then (laws_toIntS.l0 k l0 (List.replicate ((l0.length : Int) : Int).toNat 0) 0) else (none)) else (none)) = some r := h
 clear h
 by_cases c2 : 0 ≤ (l0.length : Int)
 ·rw [if_pos c2] at H
  have c2b0 := eq_true c2
  have c2b1 : decide (0 ≤ (l0.length : Int)) = true := decide_eq_true c2
  clear c2
  by_cases c3 : ((l0.length : Int) : Int).toNat ≤ 35184372088832
  ·rw [if_pos c3] at H
   have c3b0 := eq_true c3
   have c3b1 : decide (((l0.length : Int) : Int).toNat ≤ 35184372088832) = true := decide_eq_true c3
   clear c3
   obtain ⟨y213, hy213⟩ : ∃ y_ : List Int, y_ = (List.replicate ((l0.length : Int) : Int).toNat 0) := ⟨_, rfl⟩
   replace H : (laws_toIntS.l0 k l0 y213 0) = some r := by first | (rw [hy213]; with_reducible exact H) | (have H2_ := (Option.bind_some _ _).symm.trans H; rw [hy213]; with_reducible exact H2_) | (have H2_ := (Option.bind_some _ _).symm.trans H; with_reducible exact H2_) | with_reducible exact H | (rw [hy213]; exact H) | exact H
   have Ny213 := Aside0.mk hy213
   clear hy213
   have H' := Aside0.mk H
   clear H
   go_enter Try.func58, Try.ntmps58
   go_wp2_with (first | ((with_reducible refine gd 7 rfl ?_); refine Kd.R_make (Kd.int .i64) _ 3 rfl (N := 7) rfl 41 _ _ rfl (l0.length : Int) rfl rfl Try.underlying41 (.int .i64 0) 8 info3 rfl (by decide) (by omega) 0 (ok := fun _ => True) (okp := fun _ => True) rfl (fun _ hk => hk) trivial (of_decide_eq_true (by first | (with_reducible assumption) | assumption)) (Nat.le_trans (Nat.mul_le_mul_right _ (of_decide_eq_true (by first | (with_reducible assumption) | assumption) : (l0.length : Int).toNat ≤ 35184372088832)) (by omega)) (Below.refl _ _) (Nat.le_refl _) ?_; intro v214 w4 ho5 hb hg_ hnew_; clear hg_ hnew_; (first | rw [← Ny213.out] at ho5 | (simp only [Int.reduceToNat] at ho5; rw [← Ny213.out] at ho5)); have HO215 := Aside0.mk (Kd.R_lower ho5 (below_size bl)); replace HB := hs HB hb; clear hb ho5))
   go_loopg [4] k (fun kq v4 w' => ∃ (x3_1 : List Int) (x4_1 : Int), v4 = .int .i64 x4_1 ∧ Aside0 (laws_toIntS.l0 kq l0 x3_1 x4_1 = some r) ∧ Aside0 (kq ≤ k) ∧ Aside0 (Kd.R (Kd.int .i64) 3 w' w.heap.size (fun _ => True) v214 x3_1) ∧ Aside0 (Below w.heap.size w w'))
   case atStart => exact ⟨(y213), (0), (by first | rfl | (simp; done) | (simp [*]; done)), H', ⟨Nat.le_refl _⟩, ⟨by (with_reducible repeat (first | apply Kd.R_alloc | apply Kd.R_drewN | apply Kd.R_drew)); exact HO215.out⟩, ⟨bl⟩⟩
   case round =>
    clear H'
    obtain ⟨x3_1, x4_1, rfl, HA, HK1, HO_3, HB⟩ := hrel
    cases gk with
    | zero => exact absurd HA.out (by simp [laws_toIntS.l0])
    | succ k1 =>
     have H := HA.out
     clear HA
     simp only [laws_toIntS.l0] at H
     by_cases c6 : x4_1 < (l0.length : Int)
     ·rw [if_pos c6] at H
      have c6b0 : decide (x4_1 < (l0.length : Int)) = true := decide_eq_true c6
      clear c6
      by_cases c7 : 0 ≤ x4_1
      ·rw [if_pos c7] at H
       have c7b0 : decide (0 ≤ x4_1) = true := decide_eq_true c7
       clear c7
       by_cases c8 : x4_1 < (x3_1.length : Int)
       ·rw [if_pos c8] at H
        have c8b0 : decide (x4_1 < (x3_1.length : Int)) = true := decide_eq_true c8
        clear c8
        obtain ⟨y217, hy217⟩ : ∃ y_ : List Int, y_ = (x3_1.set (x4_1 : Int).toNat (rd l0 x4_1)) := ⟨_, rfl⟩
        replace H : (laws_toIntS.l0 k1 l0 y217 (wrap64 (x4_1 + 1))) = some r := by first | (rw [hy217]; with_reducible exact H) | (have H2_ := (Option.bind_some _ _).symm.trans H; rw [hy217]; with_reducible exact H2_) | (have H2_ := (Option.bind_some _ _).symm.trans H; with_reducible exact H2_) | with_reducible exact H | (rw [hy217]; exact H) | exact H
        have Ny217 := Aside0.mk hy217
        clear hy217
        have H' := Aside0.mk H
        clear H
        have p216 : 0 ≤ (x4_1 : Int) := od
        have q216 : x4_1 < (l0.length : Int) := od
        obtain ⟨ad216, e216, hx216_0⟩ := Kd.at_int HR0.out x4_1 p216 q216
        cases e216
        replace hx216_0 := hc HB hx216_0
        replace p216 := eq_true p216
        replace q216 := eq_true q216
        have p9 : 0 ≤ (x4_1 : Int) := od
        have q9 : (x4_1 : Int) < ((x3_1.length : Int) : Int) := od
        obtain ⟨go9, co9, eo9, gb9, gl9, cl9, HG9⟩ := Kd.R_form HO_3.out (by omega)
        (first | cases eo9 | (injection eo9 with ea_ en_ ec_; (first | subst ea_ | (injection ea_ with ea_; subst ea_)); subst ec_; clear en_))
        have GB9 := Aside0.mk gb9
        have GG9 := Aside0.mk HG9
        clear gb9 gl9 HG9
        obtain ⟨hx9_0, hf9_0⟩ := Kd.R_celln 0 HO_3.out (x4_1 : Int) p9 q9
        replace p9 := eq_true p9
        replace q9 := eq_true q9
        have HP10 := Kd.R_putg HO_3.out (x4_1 : Int) (rd l0 x4_1)
        go_wp2_with (first | ((with_reducible refine gate_store (t := 3) (p := 20) rfl ?_); refine store_event (t := 3) (p := 20) (v := ?vo_w11) (w1 := (wr.setCell ⟨go9, (x4_1 : Int).toNat, none⟩ (.int .i64 (rd l0 x4_1)))) ?hg ?ho ?hn ?hr ?_; (case ho => rfl); (case hg => rfl); (case hn => rfl); (case hr => first | (go_simp; done) | (go_simp; rfl)); intro w11 hw; have hg : wr.grownBy w11 (some go9) := (by rw [hw]; exact HP10.2); have hp_ : Kd.R (Kd.int .i64) 3 w11 w.heap.size (fun _ => True) (.slice (some ⟨go9, 0, none⟩) x3_1.length co9) y217 := (by rw [hw, Ny217.out]; exact HP10.1); clear HP10; replace HO_3 := Aside0.mk (hp_); replace HB := Aside0.mk ((by rw [hw]; exact below_set (HB.out) GB9.out : Below w.heap.size w w11)); clear hg hw hp_))
        go_roundg k1
        case measure => have := HK1.out; omega
        case rel => exact ⟨(y217), (wrap64 (x4_1 + 1)), (by first | rfl | (simp; done) | (simp [*]; done)), H', ⟨by have := HK1.out; omega⟩, ⟨by (with_reducible repeat (first | apply Kd.R_alloc | apply Kd.R_drewN | apply Kd.R_drew)); exact HO_3.out⟩, ⟨bl⟩⟩
       ·rw [if_neg c8] at H
        exact absurd H (by simp)
      ·rw [if_neg c7] at H
       exact absurd H (by simp)
     ·rw [if_neg c6] at H
      have c6b0 : decide (x4_1 < (l0.length : Int)) = false := decide_eq_false c6
      clear c6
      obtain rfl := Option.some.inj H; clear H
      go_wp2
      go_ret
      exact ⟨_, by first | rfl | (simp [errW_none, errW_some] <;> rfl) | (simp [*, errW_none, errW_some] <;> rfl), by (with_reducible repeat (first | apply Kd.R_alloc | apply Kd.R_drewN | apply Kd.R_drew)); exact HO_3.out, bl⟩
  ·rw [if_neg c3] at H
   exact absurd H (by simp)
 ·rw [if_neg c2] at H
  exact absurd H (by simp)
end Go.Proofs.Ytedodaifpekahaa.P

end
section

namespace Go.Proofs.Ytedodaifpekahaa.P
open Go.RowKit Go.Proofs.YtedodaifpekahaaW.PrintWords Go.Proofs.YtedodaifpekahaaW.PrintLast Go.Proofs.YtedodaifpekahaaW.PrintMore
attribute [local go_sem] max2_int min2_int max_two min_two max_three min_three max_four min_four
set_option linter.unusedVariables false
set_option linter.unusedSimpArgs false
set_option maxHeartbeats 8000000 in
set_option maxRecDepth 100000 in
theorem laws_toClass.calls (k : Nat) (a0_0 : Int) (A0_1 : Option Addr) (c0_1 : Nat) (l0_1 : List Int) (r1 : Int) (r2 : List Int) (w : World) (hr0_1 : Kd.C (Kd.int .i64) w A0_1 l0_1.length l0_1) (hc0_1 : l0_1.length ≤ c0_1) (h : laws_toClass.f k a0_0 l0_1 = some (r1, r2)) :
  Calls Try.prog 40 #[.agg #[.int .i64 a0_0, .slice A0_1 l0_1.length c0_1]] w fun e w' => ∃ v1_ : Value, e = .returned (.agg #[.int .i64 r1, v1_]) ∧ Kd.R (Kd.int .i64) 3 w' w.heap.size (fun _ => True) v1_ r2 ∧ Below w.heap.size w w' := by
 have hu58 := Try.underlying58
 have hu76 := Try.underlying76
 have HR0_1 := Aside0.mk hr0_1
 have HC0_1 := Aside0.mk hc0_1
 clear hr0_1 hc0_1
 have HB := Aside0.mk (Below.refl w.heap.size w)
 have H : ((laws_toIntS.f k l0_1).bind fun t221 => (some (a0_0, t221))) = some (r1, r2) := h
 clear h
 obtain ⟨t221, A2, H⟩ := ob H
 simp only [Option.some.injEq, Prod.mk.injEq] at H
 obtain ⟨rfl, rfl⟩ := H
 go_enter Try.func40, Try.ntmps40
 go_wp2_with (first | ((with_reducible refine gd 1 rfl ?_); refine bx 1 #[.int .i64 a0_0, .slice A0_1 l0_1.length c0_1] 58 ?_; intro gb218 hg w3 hbox hb; have BK218 := Aside0.mk hbox; have GW218 := hz HB hg; have GE218 := hz HB hg; replace HB := hs HB hb; clear hb hbox hg) | ((with_reducible refine gd 2 rfl ?_); refine bx 2 #[.int .i64 0, .slice none 0 0] 76 ?_; intro gb219 hg w4 hbox hb; have BK219 := Aside0.mk hbox; have GW219 := hz HB hg; have GE219 := hz HB hg; have NB218_219 := nl BK218 hg; have NB219_218 := ng BK218 hg; replace BK218 := kb BK218 hb; replace HB := hs HB hb; clear hb hbox hg) | ((with_reducible refine gd 3 rfl ?_); refine bx 3 #[.int .i64 0, .slice none 0 0] 76 ?_; intro gb220 hg w5 hbox hb; have BK220 := Aside0.mk hbox; have GW220 := hz HB hg; have GE220 := hz HB hg; have NB218_220 := nl BK218 hg; have NB220_218 := ng BK218 hg; have NB219_220 := nl BK219 hg; have NB220_219 := ng BK219 hg; replace BK218 := kb BK218 hb; replace BK219 := kb BK219 hb; replace HB := hs HB hb; clear hb hbox hg; have hnb6 := NB218_219.out; have hnc6 := NB219_218.out; have hnb7 := NB218_220.out; have hnc7 := NB220_218.out; obtain ⟨_,_,_,_⟩ := cf2 BK218; have hnb9 := NB220_219.out; have hnc9 := NB219_220.out; obtain ⟨_,_,_,_⟩ := cf2 BK220) | ((with_reducible refine gc 58 rfl ?_); refine gl (some 9) Try.func58 #[.slice A0_1 l0_1.length c0_1] rfl ?_; (with_reducible refine (laws_toIntS.calls k _ _ l0_1 t221 _ ?side1 ?side2 A2.out).mono ?_); (case side1 => exact cb HR0_1.out); (case side2 => exact HC0_1.out); rintro e w11 ⟨v222, rfl, ho0, hb⟩; refine ⟨_, rfl, ?_⟩; have HO223 := Aside0.mk (Kd.R_lower ho0 (below_size bl)); replace BK218 := kq BK218 hb; replace BK219 := kq BK219 hb; replace BK220 := kp gb220 #[.int .i64 a0_0, .slice none 0 0] 76 hb; replace HB := hs HB hb; (try clear hb); (try clear ho0); obtain ⟨Ao12, co12, eo12⟩ := Kd.R_slice HO223.out; subst eo12; obtain ⟨_,_,_,_⟩ := cf2 BK220; obtain ⟨_,_,_,_⟩ := cf2 BK219))
 refine bodyPost_ret (results_cell_row rfl _ _ gb219 76 #[.int .i64 a0_0, .slice Ao12 t221.length co12] (0, 0) _ rfl (by (with_reducible repeat (first | refine blk_drewN ?_ _ | refine blk_drew ?_ | refine blk_alloc ?_ _)); refine blk_put (cs := #[.int .i64 a0_0, .slice none 0 0]) ?_ 1 _ rfl; (with_reducible repeat (first | refine blk_drewN ?_ _ | refine blk_drew ?_ | refine blk_alloc ?_ _)); refine blk_put (cs := #[.int .i64 0, .slice none 0 0]) ?_ 0 _ rfl; (with_reducible repeat (first | refine blk_drewN ?_ _ | refine blk_drew ?_ | refine blk_alloc ?_ _)); refine blk_far ?_ NB219_220.out _; (with_reducible repeat (first | refine blk_drewN ?_ _ | refine blk_drew ?_ | refine blk_alloc ?_ _)); exact BK219.out) Try.underlying76 rfl (by kernel_rfl)) rfl ?_
 exact ⟨_, by first | rfl | (simp [errW_none, errW_some] <;> rfl) | (simp [*, errW_none, errW_some] <;> rfl), by (with_reducible repeat (first | apply Kd.R_alloc | apply Kd.R_drewN | apply Kd.R_drew)); exact Kd.R_mono (Kd.R_far (p := ⟨gb219, 1, none⟩) (Kd.R_far (p := ⟨gb219, 0, none⟩) (Kd.R_far (p := ⟨gb220, 1, none⟩) (Kd.R_types (Kd.R_types HO223.out BK220.out (by decide)) BK219.out (by decide)) (fun _ hk => hk.1.2) (.slice Ao12 t221.length co12)) (fun _ hk => hk.2) (.int .i64 a0_0)) (fun _ hk => hk.2) (.slice Ao12 t221.length co12)) (fun _ hk => trivial), bl⟩
end Go.Proofs.Ytedodaifpekahaa.P

end
section

namespace Go.Proofs.Ytedodaifpekahaa.P
open Go.RowKit Go.Proofs.YtedodaifpekahaaW.PrintWords Go.Proofs.YtedodaifpekahaaW.PrintLast Go.Proofs.YtedodaifpekahaaW.PrintMore
attribute [local go_sem] max2_int min2_int max_two min_two max_three min_three max_four min_four
set_option linter.unusedVariables false
set_option linter.unusedSimpArgs false
set_option maxHeartbeats 8000000 in
set_option maxRecDepth 100000 in
theorem laws_toClassS.calls (k : Nat) (A0 : Option Addr) (c0 : Nat) (l0 : List (S58)) (r : List (S76)) (w : World) (hr0 : Kd.C k58 w A0 l0.length l0) (hc0 : l0.length ≤ c0) (h : laws_toClassS.f k l0 = some r) :
  Calls Try.prog 18 #[.slice A0 l0.length c0] w fun e w' => ∃ v0_ : Value, e = .returned (v0_) ∧ Kd.S k76 76 w' w.heap.size (fun _ => True) v0_ r ∧ Below w.heap.size w w' := by
 have hu58 := Try.underlying58
 have hu76 := Try.underlying76
 have HR0 := Aside0.mk hr0
 have HC0 := Aside0.mk hc0
 clear hr0 hc0
 have HB := Aside0.mk (Below.refl w.heap.size w)
 have H : (if 0 ≤ (l0.length : Int) then (if ((l0.length : Int) : Int).toNat ≤ 8796093022208 then (laws_toClassS.l0 k l0 (List.replicate ((l0.length : Int) : Int).toNat z76) 0) else (none)) else (none)) = some r := h
 clear h
 by_cases c2 : 0 ≤ (l0.length : Int)
 ·rw [if_pos c2] at H
  have c2b0 := eq_true c2
  have c2b1 : decide (0 ≤ (l0.length : Int)) = true := decide_eq_true c2
  clear c2
  by_cases c3 : ((l0.length : Int) : Int).toNat ≤ 8796093022208
  ·rw [if_pos c3] at H
   have c3b0 := eq_true c3
   have c3b1 : decide (((l0.length : Int) : Int).toNat ≤ 8796093022208) = true := decide_eq_true c3
   clear c3
   obtain ⟨y224, hy224⟩ : ∃ y_ : List (S76), y_ = (List.replicate ((l0.length : Int) : Int).toNat z76) := ⟨_, rfl⟩
   replace H : (laws_toClassS.l0 k l0 y224 0) = some r := by first | (rw [hy224]; with_reducible exact H) | (have H2_ := (Option.bind_some _ _).symm.trans H; rw [hy224]; with_reducible exact H2_) | (have H2_ := (Option.bind_some _ _).symm.trans H; with_reducible exact H2_) | with_reducible exact H | (rw [hy224]; exact H) | exact H
   have Ny224 := Aside0.mk hy224
   clear hy224
   have H' := Aside0.mk H
   clear H
   go_enter Try.func18, Try.ntmps18
   go_wp2_with (first | ((with_reducible refine gd 7 rfl ?_); refine Kd.S_make k76 _ 76 rfl (N := 7) rfl 28 _ _ rfl (l0.length : Int) rfl rfl Try.underlying28 (.agg #[(.int .i64 0), (.slice none 0 0)]) 32 info76 rfl (by decide) (by omega) z76 (ok := fun _ => True) (okp := fun _ => True) (k76_mkM _ _ _ z76 (Kd.R_nil _ _ _ _ _)) (fun _ hk => hk) trivial (of_decide_eq_true (by first | (with_reducible assumption) | assumption)) (Nat.le_trans (Nat.mul_le_mul_right _ (of_decide_eq_true (by first | (with_reducible assumption) | assumption) : (l0.length : Int).toNat ≤ 8796093022208)) (by omega)) (Below.refl _ _) (Nat.le_refl _) ?_; intro v225 w4 ho5 hb hg_ hnew_; clear hg_ hnew_; (first | rw [← Ny224.out] at ho5 | (simp only [Int.reduceToNat] at ho5; rw [← Ny224.out] at ho5)); have HO226 := Aside0.mk (Kd.S_lower ho5 (below_size bl)); replace HB := hs HB hb; clear hb ho5))
   go_loopg [4] k (fun kq v4 w' => ∃ (x3_1 : List (S76)) (x4_1 : Int), v4 = .int .i64 x4_1 ∧ Aside0 (laws_toClassS.l0 kq l0 x3_1 x4_1 = some r) ∧ Aside0 (kq ≤ k) ∧ Aside0 (Kd.S k76 76 w' w.heap.size (fun _ => True) v225 x3_1) ∧ Aside0 (Below w.heap.size w w'))
   case atStart => exact ⟨(y224), (0), (by first | rfl | (simp; done) | (simp [*]; done)), H', ⟨Nat.le_refl _⟩, ⟨by (with_reducible repeat (first | apply Kd.S_alloc | apply Kd.S_drewN | apply Kd.S_drew)); exact HO226.out⟩, ⟨bl⟩⟩
   case round =>
    clear H'
    obtain ⟨x3_1, x4_1, rfl, HA, HK1, HO_3, HB⟩ := hrel
    cases gk with
    | zero => exact absurd HA.out (by simp [laws_toClassS.l0])
    | succ k1 =>
     have H := HA.out
     clear HA
     simp only [laws_toClassS.l0] at H
     by_cases c6 : x4_1 < (l0.length : Int)
     ·rw [if_pos c6] at H
      have c6b0 : decide (x4_1 < (l0.length : Int)) = true := decide_eq_true c6
      clear c6
      by_cases c7 : 0 ≤ x4_1
      ·rw [if_pos c7] at H
       have c7b0 : decide (0 ≤ x4_1) = true := decide_eq_true c7
       clear c7
       replace H := Option.bind_eq_some_iff.mp H
       obtain ⟨⟨t228, t229⟩, A80, H⟩ := H
       replace H : (if x4_1 < (x3_1.length : Int) then (laws_toClassS.l0 k1 l0 (x3_1.set (x4_1 : Int).toNat (⟨t228, t229⟩ : S76)) (wrap64 (x4_1 + 1))) else (none)) = some r := H
       have A8 := Aside0.mk A80
       clear A80
       by_cases c9 : x4_1 < (x3_1.length : Int)
       ·rw [if_pos c9] at H
        have c9b0 : decide (x4_1 < (x3_1.length : Int)) = true := decide_eq_true c9
        clear c9
        obtain ⟨y232, hy232⟩ : ∃ y_ : List (S76), y_ = (x3_1.set (x4_1 : Int).toNat (⟨t228, t229⟩ : S76)) := ⟨_, rfl⟩
        replace H : (laws_toClassS.l0 k1 l0 y232 (wrap64 (x4_1 + 1))) = some r := by first | (rw [hy232]; with_reducible exact H) | (have H2_ := (Option.bind_some _ _).symm.trans H; rw [hy232]; with_reducible exact H2_) | (have H2_ := (Option.bind_some _ _).symm.trans H; with_reducible exact H2_) | with_reducible exact H | (rw [hy232]; exact H) | exact H
        have Ny232 := Aside0.mk hy232
        clear hy232
        have H' := Aside0.mk H
        clear H
        have p227 : 0 ≤ (x4_1 : Int) := od
        have q227 : x4_1 < (l0.length : Int) := od
        obtain ⟨ad227, A227_1, c227_1, e227, hx227_0, hx227_1, hl227_1, hi227_1⟩ := at_T58 HR0.out x4_1 p227 q227
        cases e227
        obtain ⟨hx227_0,hx227_1⟩ := hc2 HB hx227_0 hx227_1
        have HR227_1 := Aside0.mk hi227_1
        have HC227_1 := Aside0.mk hl227_1
        clear hi227_1 hl227_1
        replace p227 := eq_true p227
        replace q227 := eq_true q227
        go_wp2_with (first | ((with_reducible refine gc 40 rfl ?_); refine gl (some 20) Try.func40 #[.agg #[.int .i64 ((rd_T58 l0 x4_1).f0), .slice A227_1 ((rd_T58 l0 x4_1).f1).length c227_1]] rfl ?_; (with_reducible refine (laws_toClass.calls k1 ((rd_T58 l0 x4_1).f0) _ _ ((rd_T58 l0 x4_1).f1) t228 t229 _ ?side1 ?side2 A8.out).mono ?_); (case side1 => exact cb HR227_1.out); (case side2 => exact HC227_1.out); rintro e w11 ⟨v230, rfl, ho0, hb⟩; refine ⟨_, rfl, ?_⟩; have HO231 := Aside0.mk (Kd.R_lower ho0 (below_size bl)); replace HO_3 := Aside0.mk (Kd.S_elder' (by (with_reducible repeat (first | apply Kd.S_alloc | apply Kd.S_drewN | apply Kd.S_drew)); exact HO_3.out) (Kd.R_base ho0) hb); replace HB := hs HB hb; (try clear hb); (try clear hk); (try clear ho0); have p10 : 0 ≤ (x4_1 : Int) := od; have q10 : (x4_1 : Int) < ((x3_1.length : Int) : Int) := od; obtain ⟨go10, co10, eo10, gb10, gl10, cl10, HG10⟩ := Kd.S_form HO_3.out (by omega); (first | cases eo10 | (injection eo10 with ea_ en_ ec_; (first | subst ea_ | (injection ea_ with ea_; subst ea_)); subst ec_; clear en_)); have GB10 := Aside0.mk gb10; have GG10 := Aside0.mk HG10; clear gb10 gl10 HG10; obtain ⟨_, ce10, hcl10, hM10, hcc10, hfr10, _, _⟩ := Kd.S_elem HO_3.out z76 (x4_1 : Int) p10 q10; obtain ⟨ve10_1, rfl, ge10_1⟩ := k76_openM hM10; have hx10_0 : w11.cell? ⟨go10, (x4_1 : Int).toNat * 2, none⟩ = some (.int .i64 ((rd_T76 x3_1 x4_1).f0)) := hcc10 0 _ rfl; have hx10_1 : w11.cell? ⟨go10, (x4_1 : Int).toNat * 2 + 1, none⟩ = some (ve10_1) := hcc10 1 _ rfl; have hf10_0 : w11.frozen? ⟨go10, (x4_1 : Int).toNat * 2, none⟩ = false := hfr10 0; have hf10_1 : w11.frozen? ⟨go10, (x4_1 : Int).toNat * 2 + 1, none⟩ = false := hfr10 1; clear hcl10 hcc10 hfr10 hM10; replace p10 := eq_true p10; replace q10 := eq_true q10; have n_ := Aside0.mk (Kd.S_mono (ok' := (fun k_ => some k_ ≠ (v230 : Value).ownBlock)) HO_3.out (fun k_ hk => hk.2)); clear HO_3; have HO_3 := n_; clear n_; have HX12 := Aside0.mk (show Kd.S k76 76 w11 w.heap.size (fun k_ => ((fun _ => True)) k_ ∧ ¬ ((fun k_ => some k_ = (v230 : Value).ownBlock)) k_) (.slice (some ⟨go10, 0, none⟩) x3_1.length co10) x3_1 from (by (with_reducible repeat (first | apply Kd.S_alloc | apply Kd.S_drewN | apply Kd.S_drew)); exact Kd.S_mono HO_3.out (fun k_ hk => ⟨trivial, fun e_ => hk e_⟩))); obtain ⟨oki12, ce12, hcl12, hM12, hcc12, hfr12, hoki12, hH12⟩ := Kd.S_elem HX12.out z76 (x4_1 : Int) (of_decide_eq_true (by first | (with_reducible assumption) | assumption)) (by have h_ : (x4_1 : Int) < ((x3_1.length : Int) : Int) := of_decide_eq_true (by first | (with_reducible assumption) | assumption); first | exact h_ | (have e_ := (Kd.S_reads' HO_3.out).1; omega) | simpa using h_); obtain ⟨ve12_1, rfl, ge12_1⟩ := k76_openM hM12; have HP12 := Kd.S_seg hH12 (of_decide_eq_true (by first | (with_reducible assumption) | assumption)) (by have h_ : (x4_1 : Int) < ((x3_1.length : Int) : Int) := of_decide_eq_true (by first | (with_reducible assumption) | assumption); first | exact h_ | (have e_ := (Kd.S_reads' HO_3.out).1; omega) | simpa using h_) (seg := [.int .i64 t228, v230]) (j := 0) (show 2 ≤ 2 from by decide) (x' := (⟨t228, t229⟩ : S76)) (k76_mkM _ _ _ (⟨t228, t229⟩ : S76) (Kd.R_mono (Kd.R_tight rfl (Kd.R_mono (ok' := fun k_ => ((fun _ => True)) k_ ∧ k_ ≠ go10) (Kd.R_apart' (HO231.out) (Kd.S_typed HO_3.out) (by decide)) (fun k_ hk => ⟨trivial, fun e_ => (hk.2) (by rw [e_]; rfl)⟩))) (fun _ h_ => Or.inr (h_)))) (fun _ hk => hk) (fun k_ hk_ => ((Kd.R_mono (ok' := fun k_ => ((fun _ => True)) k_ ∧ k_ ≠ go10) (Kd.R_apart' (HO231.out) (Kd.S_typed HO_3.out) (by decide)) (fun k_ hk => ⟨trivial, fun e_ => (hk.2) (by rw [e_]; rfl)⟩))).1 k_ hk_.symm); have hx12_0 := hcc12 0 _ rfl; (try simp only [show (k76).sz = 2 from rfl, Nat.mul_one, Nat.add_zero] at hx12_0); have hf12_0 := hfr12 0; (try simp only [show (k76).sz = 2 from rfl, Nat.mul_one, Nat.add_zero] at hf12_0); have hx12_1 := hcc12 1 _ rfl; (try simp only [show (k76).sz = 2 from rfl, Nat.mul_one, Nat.add_zero] at hx12_1); have hf12_1 := hfr12 1; (try simp only [show (k76).sz = 2 from rfl, Nat.mul_one, Nat.add_zero] at hf12_1); clear hcl12 hcc12 hfr12 hM12 hoki12 hH12) | ((with_reducible refine gate_store (t := 76) (p := 21) rfl ?_); refine store_event (t := 76) (p := 21) (v := ?vo_w13) (w1 := ((w11.setCell ⟨go10, (x4_1 : Int).toNat * 2, none⟩ (.int .i64 t228)).setCell ⟨go10, (x4_1 : Int).toNat * 2 + 1, none⟩ (v230))) ?hg ?ho ?hn ?hr ?_; (case ho => rfl); (case hg => rfl); (case hn => rfl); (case hr => first | (go_simp; done) | (go_simp; rfl) | (obtain ⟨_, _, rfl⟩ := Kd.R_slice HO231.out; first | (go_simp; done) | (go_simp; rfl))); intro w13 hw; have hg : w11.grownBy w13 (some go10) := (by rw [hw]; exact HP12.2); have hp_ : Kd.S k76 76 w13 w.heap.size (fun _ => True) (.slice (some ⟨go10, 0, none⟩) x3_1.length co10) y232 := (by rw [hw, Ny232.out]; exact HP12.1); clear HP12; have n0_ := Aside0.mk (hp_); have n1_ := Aside0.mk ((by rw [hw]; exact below_set (below_set (HB.out) GB10.out) GB10.out : Below w.heap.size w w13)); clear HO_3; clear HB; clear HO231; have HO_3 := n0_; have HB := n1_; clear n0_ n1_; clear hg hw hp_))
        go_roundg k1
        case measure => have := HK1.out; omega
        case rel => exact ⟨(y232), (wrap64 (x4_1 + 1)), (by first | rfl | (simp; done) | (simp [*]; done)), H', ⟨by have := HK1.out; omega⟩, ⟨by (with_reducible repeat (first | apply Kd.S_alloc | apply Kd.S_drewN | apply Kd.S_drew)); exact HO_3.out⟩, ⟨bl⟩⟩
       ·rw [if_neg c9] at H
        exact absurd H (by simp)
      ·rw [if_neg c7] at H
       exact absurd H (by simp)
     ·rw [if_neg c6] at H
      have c6b0 : decide (x4_1 < (l0.length : Int)) = false := decide_eq_false c6
      clear c6
      obtain rfl := Option.some.inj H; clear H
      go_wp2
      go_ret
      exact ⟨_, by first | rfl | (simp [errW_none, errW_some] <;> rfl) | (simp [*, errW_none, errW_some] <;> rfl), by (with_reducible repeat (first | apply Kd.S_alloc | apply Kd.S_drewN | apply Kd.S_drew)); exact HO_3.out, bl⟩
  ·rw [if_neg c3] at H
   exact absurd H (by simp)
 ·rw [if_neg c2] at H
  exact absurd H (by simp)
end Go.Proofs.Ytedodaifpekahaa.P

end
section

namespace Go.Proofs.Ytedodaifpekahaa.P
open Go.RowKit Go.Proofs.YtedodaifpekahaaW.PrintWords Go.Proofs.YtedodaifpekahaaW.PrintLast Go.Proofs.YtedodaifpekahaaW.PrintMore
attribute [local go_sem] max2_int min2_int max_two min_two max_three min_three max_four min_four
set_option linter.unusedVariables false
set_option linter.unusedSimpArgs false
set_option maxHeartbeats 8000000 in
set_option maxRecDepth 100000 in
theorem laws_toIns.calls (a0_0 : Int) (a0_1 : Int) (a0_2 : Int) (r1 : Int) (r2 : Int) (r3 : Int) (w : World) (h : laws_toIns.f a0_0 a0_1 a0_2 = some (r1, r2, r3)) :
  Calls Try.prog 70 #[.agg #[.int .i64 a0_0, .int .i64 a0_1, .int .i64 a0_2]] w fun e w' => e = .returned (.agg #[.int .i64 r1, .int .i64 r2, .int .i64 r3]) ∧ Below w.heap.size w w' := by
 have hu113 := Try.underlying113
 have hu67 := Try.underlying67
 have HB := Aside0.mk (Below.refl w.heap.size w)
 have H : (some (a0_0, a0_1, a0_2)) = some (r1, r2, r3) := h
 clear h
 simp only [Option.some.injEq, Prod.mk.injEq] at H
 obtain ⟨rfl, rfl, rfl⟩ := H
 go_enter Try.func70, Try.ntmps70
 go_wp2_with (first | ((with_reducible refine gd 1 rfl ?_); refine bx 1 #[.int .i64 a0_0, .int .i64 a0_1, .int .i64 a0_2] 113 ?_; intro gb233 hg w2 hbox hb; have BK233 := Aside0.mk hbox; have GW233 := hz HB hg; have GE233 := hz HB hg; replace HB := hs HB hb; clear hb hbox hg) | ((with_reducible refine gd 2 rfl ?_); refine bx 2 #[.int .i64 0, .int .i64 0, .int .i64 0] 67 ?_; intro gb234 hg w3 hbox hb; have BK234 := Aside0.mk hbox; have GW234 := hz HB hg; have GE234 := hz HB hg; have NB233_234 := nl BK233 hg; have NB234_233 := ng BK233 hg; replace BK233 := kb BK233 hb; replace HB := hs HB hb; clear hb hbox hg) | ((with_reducible refine gd 3 rfl ?_); refine bx 3 #[.int .i64 0, .int .i64 0, .int .i64 0] 67 ?_; intro gb235 hg w4 hbox hb; have BK235 := Aside0.mk hbox; have GW235 := hz HB hg; have GE235 := hz HB hg; have NB233_235 := nl BK233 hg; have NB235_233 := ng BK233 hg; have NB234_235 := nl BK234 hg; have NB235_234 := ng BK234 hg; replace BK233 := kb BK233 hb; replace BK234 := kb BK234 hb; replace HB := hs HB hb; clear hb hbox hg; have hnb5 := NB233_234.out; have hnc5 := NB234_233.out; have hnb6 := NB233_235.out; have hnc6 := NB235_233.out; obtain ⟨_,_,_,_,_,_⟩ := cf3 BK233; have hnb8 := NB235_234.out; have hnc8 := NB234_235.out; obtain ⟨_,_,_,_,_,_⟩ := cf3 BK235; obtain ⟨_,_,_,_,_,_⟩ := cf3 BK234))
 refine bodyPost_ret (results_cell_row rfl _ _ gb234 67 #[.int .i64 a0_0, .int .i64 a0_1, .int .i64 a0_2] (0, 0) _ rfl (by (with_reducible repeat (first | refine blk_drewN ?_ _ | refine blk_drew ?_ | refine blk_alloc ?_ _)); refine blk_put (cs := #[.int .i64 a0_0, .int .i64 a0_1, .int .i64 0]) ?_ 2 _ rfl; (with_reducible repeat (first | refine blk_drewN ?_ _ | refine blk_drew ?_ | refine blk_alloc ?_ _)); refine blk_put (cs := #[.int .i64 a0_0, .int .i64 0, .int .i64 0]) ?_ 1 _ rfl; (with_reducible repeat (first | refine blk_drewN ?_ _ | refine blk_drew ?_ | refine blk_alloc ?_ _)); refine blk_put (cs := #[.int .i64 0, .int .i64 0, .int .i64 0]) ?_ 0 _ rfl; (with_reducible repeat (first | refine blk_drewN ?_ _ | refine blk_drew ?_ | refine blk_alloc ?_ _)); refine blk_far ?_ NB234_235.out _; (with_reducible repeat (first | refine blk_drewN ?_ _ | refine blk_drew ?_ | refine blk_alloc ?_ _)); refine blk_far ?_ NB234_235.out _; (with_reducible repeat (first | refine blk_drewN ?_ _ | refine blk_drew ?_ | refine blk_alloc ?_ _)); refine blk_far ?_ NB234_235.out _; (with_reducible repeat (first | refine blk_drewN ?_ _ | refine blk_drew ?_ | refine blk_alloc ?_ _)); exact BK234.out) Try.underlying67 rfl (by kernel_rfl)) rfl ?_
 exact fin
end Go.Proofs.Ytedodaifpekahaa.P

end
section

namespace Go.Proofs.Ytedodaifpekahaa.P
open Go.RowKit Go.Proofs.YtedodaifpekahaaW.PrintWords Go.Proofs.YtedodaifpekahaaW.PrintLast Go.Proofs.YtedodaifpekahaaW.PrintMore
attribute [local go_sem] max2_int min2_int max_two min_two max_three min_three max_four min_four
set_option linter.unusedVariables false
set_option linter.unusedSimpArgs false
set_option maxHeartbeats 8000000 in
set_option maxRecDepth 100000 in
theorem laws_toInsS.calls (k : Nat) (A0 : Option Addr) (c0 : Nat) (l0 : List (S113)) (r : List (S67)) (w : World) (hr0 : Kd.C k113 w A0 l0.length l0) (hc0 : l0.length ≤ c0) (h : laws_toInsS.f k l0 = some r) :
  Calls Try.prog 59 #[.slice A0 l0.length c0] w fun e w' => ∃ v0_ : Value, e = .returned (v0_) ∧ Kd.R k67 67 w' w.heap.size (fun _ => True) v0_ r ∧ Below w.heap.size w w' := by
 have hu113 := Try.underlying113
 have hu67 := Try.underlying67
 have HR0 := Aside0.mk hr0
 have HC0 := Aside0.mk hc0
 clear hr0 hc0
 have HB := Aside0.mk (Below.refl w.heap.size w)
 have H : (if 0 ≤ (l0.length : Int) then (if ((l0.length : Int) : Int).toNat ≤ 11728124029610 then (laws_toInsS.l0 k l0 (List.replicate ((l0.length : Int) : Int).toNat z67) 0) else (none)) else (none)) = some r := h
 clear h
 by_cases c2 : 0 ≤ (l0.length : Int)
 ·rw [if_pos c2] at H
  have c2b0 := eq_true c2
  have c2b1 : decide (0 ≤ (l0.length : Int)) = true := decide_eq_true c2
  clear c2
  by_cases c3 : ((l0.length : Int) : Int).toNat ≤ 11728124029610
  ·rw [if_pos c3] at H
   have c3b0 := eq_true c3
   have c3b1 : decide (((l0.length : Int) : Int).toNat ≤ 11728124029610) = true := decide_eq_true c3
   clear c3
   obtain ⟨y236, hy236⟩ : ∃ y_ : List (S67), y_ = (List.replicate ((l0.length : Int) : Int).toNat z67) := ⟨_, rfl⟩
   replace H : (laws_toInsS.l0 k l0 y236 0) = some r := by first | (rw [hy236]; with_reducible exact H) | (have H2_ := (Option.bind_some _ _).symm.trans H; rw [hy236]; with_reducible exact H2_) | (have H2_ := (Option.bind_some _ _).symm.trans H; with_reducible exact H2_) | with_reducible exact H | (rw [hy236]; exact H) | exact H
   have Ny236 := Aside0.mk hy236
   clear hy236
   have H' := Aside0.mk H
   clear H
   go_enter Try.func59, Try.ntmps59
   go_wp2_with (first | ((with_reducible refine gd 7 rfl ?_); refine Kd.R_make k67 _ 67 rfl (N := 7) rfl 42 _ _ rfl (l0.length : Int) rfl rfl Try.underlying42 (.agg #[(.int .i64 0), (.int .i64 0), (.int .i64 0)]) 24 info67 rfl (by decide) (by omega) z67 (ok := fun _ => True) (okp := fun _ => True) (k67_mkM _ _ _ z67 ) (fun _ hk => hk) trivial (of_decide_eq_true (by first | (with_reducible assumption) | assumption)) (Nat.le_trans (Nat.mul_le_mul_right _ (of_decide_eq_true (by first | (with_reducible assumption) | assumption) : (l0.length : Int).toNat ≤ 11728124029610)) (by omega)) (Below.refl _ _) (Nat.le_refl _) ?_; intro v237 w4 ho5 hb hg_ hnew_; clear hg_ hnew_; (first | rw [← Ny236.out] at ho5 | (simp only [Int.reduceToNat] at ho5; rw [← Ny236.out] at ho5)); have HO238 := Aside0.mk (Kd.R_lower ho5 (below_size bl)); replace HB := hs HB hb; clear hb ho5))
   go_loopg [4] k (fun kq v4 w' => ∃ (x3_1 : List (S67)) (x4_1 : Int), v4 = .int .i64 x4_1 ∧ Aside0 (laws_toInsS.l0 kq l0 x3_1 x4_1 = some r) ∧ Aside0 (kq ≤ k) ∧ Aside0 (Kd.R k67 67 w' w.heap.size (fun _ => True) v237 x3_1) ∧ Aside0 (Below w.heap.size w w'))
   case atStart => exact ⟨(y236), (0), (by first | rfl | (simp; done) | (simp [*]; done)), H', ⟨Nat.le_refl _⟩, ⟨by (with_reducible repeat (first | apply Kd.R_alloc | apply Kd.R_drewN | apply Kd.R_drew)); exact HO238.out⟩, ⟨bl⟩⟩
   case round =>
    clear H'
    obtain ⟨x3_1, x4_1, rfl, HA, HK1, HO_3, HB⟩ := hrel
    cases gk with
    | zero => exact absurd HA.out (by simp [laws_toInsS.l0])
    | succ k1 =>
     have H := HA.out
     clear HA
     simp only [laws_toInsS.l0] at H
     by_cases c6 : x4_1 < (l0.length : Int)
     ·rw [if_pos c6] at H
      have c6b0 : decide (x4_1 < (l0.length : Int)) = true := decide_eq_true c6
      clear c6
      by_cases c7 : 0 ≤ x4_1
      ·rw [if_pos c7] at H
       have c7b0 : decide (0 ≤ x4_1) = true := decide_eq_true c7
       clear c7
       replace H := Option.bind_eq_some_iff.mp H
       obtain ⟨⟨t240, t241, t242⟩, A80, H⟩ := H
       replace H : (if x4_1 < (x3_1.length : Int) then (laws_toInsS.l0 k1 l0 (x3_1.set (x4_1 : Int).toNat (⟨t240, t241, t242⟩ : S67)) (wrap64 (x4_1 + 1))) else (none)) = some r := H
       have A8 := Aside0.mk A80
       clear A80
       by_cases c9 : x4_1 < (x3_1.length : Int)
       ·rw [if_pos c9] at H
        have c9b0 : decide (x4_1 < (x3_1.length : Int)) = true := decide_eq_true c9
        clear c9
        obtain ⟨y243, hy243⟩ : ∃ y_ : List (S67), y_ = (x3_1.set (x4_1 : Int).toNat (⟨t240, t241, t242⟩ : S67)) := ⟨_, rfl⟩
        replace H : (laws_toInsS.l0 k1 l0 y243 (wrap64 (x4_1 + 1))) = some r := by first | (rw [hy243]; with_reducible exact H) | (have H2_ := (Option.bind_some _ _).symm.trans H; rw [hy243]; with_reducible exact H2_) | (have H2_ := (Option.bind_some _ _).symm.trans H; with_reducible exact H2_) | with_reducible exact H | (rw [hy243]; exact H) | exact H
        have Ny243 := Aside0.mk hy243
        clear hy243
        have H' := Aside0.mk H
        clear H
        have p239 : 0 ≤ (x4_1 : Int) := od
        have q239 : x4_1 < (l0.length : Int) := od
        obtain ⟨ad239, e239, hx239_0, hx239_1, hx239_2⟩ := at_T113 HR0.out x4_1 p239 q239
        cases e239
        obtain ⟨hx239_0,hx239_1,hx239_2⟩ := hc3 HB hx239_0 hx239_1 hx239_2
        replace p239 := eq_true p239
        replace q239 := eq_true q239
        go_wp2_with (first | ((with_reducible refine gc 70 rfl ?_); refine gl (some 20) Try.func70 #[.agg #[.int .i64 ((rd_T113 l0 x4_1).f0), .int .i64 ((rd_T113 l0 x4_1).f1), .int .i64 ((rd_T113 l0 x4_1).f2)]] rfl ?_; (with_reducible refine (laws_toIns.calls ((rd_T113 l0 x4_1).f0) ((rd_T113 l0 x4_1).f1) ((rd_T113 l0 x4_1).f2) t240 t241 t242 _ A8.out).mono ?_); rintro e w11 ⟨rfl, hb⟩; refine ⟨_, rfl, ?_⟩; replace HO_3 := Aside0.mk (Kd.R_below (by (with_reducible repeat (first | apply Kd.R_alloc | apply Kd.R_drewN | apply Kd.R_drew)); exact HO_3.out) hb); replace HB := hs HB hb; (try clear hb); (try clear hk); have p10 : 0 ≤ (x4_1 : Int) := od; have q10 : (x4_1 : Int) < ((x3_1.length : Int) : Int) := od; obtain ⟨go10, co10, eo10, gb10, gl10, cl10, HG10⟩ := Kd.R_form HO_3.out (by omega); (first | cases eo10 | (injection eo10 with ea_ en_ ec_; (first | subst ea_ | (injection ea_ with ea_; subst ea_)); subst ec_; clear en_)); have GB10 := Aside0.mk gb10; have GG10 := Aside0.mk HG10; clear gb10 gl10 HG10; obtain ⟨ce10, hcl10, hM10, hcc10, hfr10⟩ := Kd.R_elem HO_3.out z67 (x4_1 : Int) p10 q10; obtain rfl := k67_openM hM10; have hx10_0 : w11.cell? ⟨go10, (x4_1 : Int).toNat * 3, none⟩ = some (.int .i64 ((rd_T67 x3_1 x4_1).f0)) := hcc10 0 _ rfl; have hx10_1 : w11.cell? ⟨go10, (x4_1 : Int).toNat * 3 + 1, none⟩ = some (.int .i64 ((rd_T67 x3_1 x4_1).f1)) := hcc10 1 _ rfl; have hx10_2 : w11.cell? ⟨go10, (x4_1 : Int).toNat * 3 + 2, none⟩ = some (.int .i64 ((rd_T67 x3_1 x4_1).f2)) := hcc10 2 _ rfl; have hf10_0 : w11.frozen? ⟨go10, (x4_1 : Int).toNat * 3, none⟩ = false := hfr10 0; have hf10_1 : w11.frozen? ⟨go10, (x4_1 : Int).toNat * 3 + 1, none⟩ = false := hfr10 1; have hf10_2 : w11.frozen? ⟨go10, (x4_1 : Int).toNat * 3 + 2, none⟩ = false := hfr10 2; clear hcl10 hcc10 hfr10 hM10; replace p10 := eq_true p10; replace q10 := eq_true q10; have HX12 := Aside0.mk (show Kd.R k67 67 w11 w.heap.size (fun _ => True) (.slice (some ⟨go10, 0, none⟩) x3_1.length co10) x3_1 from (by (with_reducible repeat (first | apply Kd.R_alloc | apply Kd.R_drewN | apply Kd.R_drew)); exact HO_3.out)); obtain ⟨ce12, hcl12, hM12, hcc12, hfr12⟩ := Kd.R_elem HX12.out z67 (x4_1 : Int) (of_decide_eq_true (by first | (with_reducible assumption) | assumption)) (by have h_ : (x4_1 : Int) < ((x3_1.length : Int) : Int) := of_decide_eq_true (by first | (with_reducible assumption) | assumption); first | exact h_ | (have e_ := (Kd.R_reads' HO_3.out).1; omega) | simpa using h_); obtain rfl := k67_openM hM12; have HP12 := Kd.R_seg HX12.out (x4_1 : Int) (of_decide_eq_true (by first | (with_reducible assumption) | assumption)) (by have h_ : (x4_1 : Int) < ((x3_1.length : Int) : Int) := of_decide_eq_true (by first | (with_reducible assumption) | assumption); first | exact h_ | (have e_ := (Kd.R_reads' HO_3.out).1; omega) | simpa using h_) (seg := [.int .i64 t240, .int .i64 t241, .int .i64 t242]) (j := 0) hcl12 hcc12 (show 3 ≤ 3 from by decide) (x' := (⟨t240, t241, t242⟩ : S67)) (k67_mkM _ _ _ (⟨t240, t241, t242⟩ : S67) ) (fun _ hk => hk); have hx12_0 := hcc12 0 _ rfl; (try simp only [show (k67).sz = 3 from rfl, Nat.mul_one, Nat.add_zero] at hx12_0); have hf12_0 := hfr12 0; (try simp only [show (k67).sz = 3 from rfl, Nat.mul_one, Nat.add_zero] at hf12_0); have hx12_1 := hcc12 1 _ rfl; (try simp only [show (k67).sz = 3 from rfl, Nat.mul_one, Nat.add_zero] at hx12_1); have hf12_1 := hfr12 1; (try simp only [show (k67).sz = 3 from rfl, Nat.mul_one, Nat.add_zero] at hf12_1); have hx12_2 := hcc12 2 _ rfl; (try simp only [show (k67).sz = 3 from rfl, Nat.mul_one, Nat.add_zero] at hx12_2); have hf12_2 := hfr12 2; (try simp only [show (k67).sz = 3 from rfl, Nat.mul_one, Nat.add_zero] at hf12_2); clear hcl12 hcc12 hfr12 hM12) | ((with_reducible refine gate_store (t := 67) (p := 21) rfl ?_); refine store_event (t := 67) (p := 21) (v := ?vo_w13) (w1 := (((w11.setCell ⟨go10, (x4_1 : Int).toNat * 3, none⟩ (.int .i64 t240)).setCell ⟨go10, (x4_1 : Int).toNat * 3 + 1, none⟩ (.int .i64 t241)).setCell ⟨go10, (x4_1 : Int).toNat * 3 + 2, none⟩ (.int .i64 t242))) ?hg ?ho ?hn ?hr ?_; (case ho => rfl); (case hg => rfl); (case hn => rfl); (case hr => first | (go_simp; done) | (go_simp; rfl)); intro w13 hw; have hg : w11.grownBy w13 (some go10) := (by rw [hw]; exact HP12.2); have hp_ : Kd.R k67 67 w13 w.heap.size (fun _ => True) (.slice (some ⟨go10, 0, none⟩) x3_1.length co10) y243 := (by rw [hw, Ny243.out]; exact HP12.1); clear HP12; replace HO_3 := Aside0.mk (hp_); replace HB := Aside0.mk ((by rw [hw]; exact below_set (below_set (below_set (HB.out) GB10.out) GB10.out) GB10.out : Below w.heap.size w w13)); clear hg hw hp_))
        go_roundg k1
        case measure => have := HK1.out; omega
        case rel => exact ⟨(y243), (wrap64 (x4_1 + 1)), (by first | rfl | (simp; done) | (simp [*]; done)), H', ⟨by have := HK1.out; omega⟩, ⟨by (with_reducible repeat (first | apply Kd.R_alloc | apply Kd.R_drewN | apply Kd.R_drew)); exact HO_3.out⟩, ⟨bl⟩⟩
       ·rw [if_neg c9] at H
        exact absurd H (by simp)
      ·rw [if_neg c7] at H
       exact absurd H (by simp)
     ·rw [if_neg c6] at H
      have c6b0 : decide (x4_1 < (l0.length : Int)) = false := decide_eq_false c6
      clear c6
      obtain rfl := Option.some.inj H; clear H
      go_wp2
      go_ret
      exact ⟨_, by first | rfl | (simp [errW_none, errW_some] <;> rfl) | (simp [*, errW_none, errW_some] <;> rfl), by (with_reducible repeat (first | apply Kd.R_alloc | apply Kd.R_drewN | apply Kd.R_drew)); exact HO_3.out, bl⟩
  ·rw [if_neg c3] at H
   exact absurd H (by simp)
 ·rw [if_neg c2] at H
  exact absurd H (by simp)
end Go.Proofs.Ytedodaifpekahaa.P

end
section

namespace Go.Proofs.Ytedodaifpekahaa.P
open Go.RowKit Go.Proofs.YtedodaifpekahaaW.PrintWords Go.Proofs.YtedodaifpekahaaW.PrintLast Go.Proofs.YtedodaifpekahaaW.PrintMore
attribute [local go_sem] max2_int min2_int max_two min_two max_three min_three max_four min_four
set_option linter.unusedVariables false
set_option linter.unusedSimpArgs false
set_option maxHeartbeats 8000000 in
set_option maxRecDepth 100000 in
theorem laws_toShape.calls (k : Nat) (a0_0 : Bool) (A0_1 : Option Addr) (c0_1 : Nat) (l0_1 : List Int) (A0_2 : Option Addr) (c0_2 : Nat) (l0_2 : List Int) (r1 : Bool) (r2 : List Int) (r3 : List Int) (w : World) (hr0_1 : Kd.C (Kd.int .i64) w A0_1 l0_1.length l0_1) (hc0_1 : l0_1.length ≤ c0_1) (hr0_2 : Kd.C (Kd.int .i64) w A0_2 l0_2.length l0_2) (hc0_2 : l0_2.length ≤ c0_2) (h : laws_toShape.f k a0_0 l0_1 l0_2 = some (r1, r2, r3)) :
  Calls Try.prog 71 #[.agg #[.bool a0_0, .slice A0_1 l0_1.length c0_1, .slice A0_2 l0_2.length c0_2]] w fun e w' => ∃ v1_ v2_ : Value, e = .returned (.agg #[.bool r1, v1_, v2_]) ∧ Kd.R (Kd.int .i64) 3 w' w.heap.size (fun k_ => some k_ ≠ (v2_ : Value).ownBlock) v1_ r2 ∧ Kd.R (Kd.int .i64) 3 w' w.heap.size (fun k_ => some k_ ≠ (v1_ : Value).ownBlock) v2_ r3 ∧ Below w.heap.size w w' := by
 have hu111 := Try.underlying111
 have hu70 := Try.underlying70
 have HR0_1 := Aside0.mk hr0_1
 have HC0_1 := Aside0.mk hc0_1
 clear hr0_1 hc0_1
 have HR0_2 := Aside0.mk hr0_2
 have HC0_2 := Aside0.mk hc0_2
 clear hr0_2 hc0_2
 have HB := Aside0.mk (Below.refl w.heap.size w)
 have H : ((laws_toIntS.f k l0_1).bind fun t247 => ((laws_toIntS.f k l0_2).bind fun t250 => (some (a0_0, t247, t250)))) = some (r1, r2, r3) := h
 clear h
 obtain ⟨t247, A2, H⟩ := ob H
 obtain ⟨t250, A3, H⟩ := ob H
 simp only [Option.some.injEq, Prod.mk.injEq] at H
 obtain ⟨rfl, rfl, rfl⟩ := H
 go_enter Try.func71, Try.ntmps71
 go_wp2_with (first | ((with_reducible refine gd 1 rfl ?_); refine bx 1 #[.bool a0_0, .slice A0_1 l0_1.length c0_1, .slice A0_2 l0_2.length c0_2] 111 ?_; intro gb244 hg w4 hbox hb; have BK244 := Aside0.mk hbox; have GW244 := hz HB hg; have GE244 := hz HB hg; replace HB := hs HB hb; clear hb hbox hg) | ((with_reducible refine gd 2 rfl ?_); refine bx 2 #[.bool false, .slice none 0 0, .slice none 0 0] 70 ?_; intro gb245 hg w5 hbox hb; have BK245 := Aside0.mk hbox; have GW245 := hz HB hg; have GE245 := hz HB hg; have NB244_245 := nl BK244 hg; have NB245_244 := ng BK244 hg; replace BK244 := kb BK244 hb; replace HB := hs HB hb; clear hb hbox hg) | ((with_reducible refine gd 3 rfl ?_); refine bx 3 #[.bool false, .slice none 0 0, .slice none 0 0] 70 ?_; intro gb246 hg w6 hbox hb; have BK246 := Aside0.mk hbox; have GW246 := hz HB hg; have GE246 := hz HB hg; have NB244_246 := nl BK244 hg; have NB246_244 := ng BK244 hg; have NB245_246 := nl BK245 hg; have NB246_245 := ng BK245 hg; replace BK244 := kb BK244 hb; replace BK245 := kb BK245 hb; replace HB := hs HB hb; clear hb hbox hg; have hnb7 := NB244_245.out; have hnc7 := NB245_244.out; have hnb8 := NB244_246.out; have hnc8 := NB246_244.out; obtain ⟨_,_,_,_,_,_⟩ := cf3 BK244; have hnb10 := NB246_245.out; have hnc10 := NB245_246.out; obtain ⟨_,_,_,_,_,_⟩ := cf3 BK246) | ((with_reducible refine gc 58 rfl ?_); refine gl (some 9) Try.func58 #[.slice A0_1 l0_1.length c0_1] rfl ?_; (with_reducible refine (laws_toIntS.calls k _ _ l0_1 t247 _ ?side1 ?side2 A2.out).mono ?_); (case side1 => exact cb HR0_1.out); (case side2 => exact HC0_1.out); rintro e w12 ⟨v248, rfl, ho0, hb⟩; refine ⟨_, rfl, ?_⟩; have HO249 := Aside0.mk (Kd.R_lower ho0 (below_size bl)); replace BK244 := kq BK244 hb; replace BK245 := kq BK245 hb; replace BK246 := kp gb246 #[.bool a0_0, .slice none 0 0, .slice none 0 0] 70 hb; replace HB := hs HB hb; (try clear hb); (try clear ho0); obtain ⟨Ao13, co13, eo13⟩ := Kd.R_slice HO249.out; subst eo13; obtain ⟨_,_,_,_,_,_⟩ := cf3 BK246; obtain ⟨_,_,_,_,_,_⟩ := cf3 BK244) | ((with_reducible refine gc 58 rfl ?_); refine gl (some 13) Try.func58 #[.slice A0_2 l0_2.length c0_2] rfl ?_; (with_reducible refine (laws_toIntS.calls k _ _ l0_2 t250 _ ?side1 ?side2 A3.out).mono ?_); (case side1 => exact cb HR0_2.out); (case side2 => exact HC0_2.out); rintro e w16 ⟨v251, rfl, ho0, hb⟩; refine ⟨_, rfl, ?_⟩; have HO252 := Aside0.mk (Kd.R_lower (Kd.R_new' ho0 (Kd.R_lt (by (with_reducible repeat (first | apply Kd.R_alloc | apply Kd.R_drewN | apply Kd.R_drew)); exact (Kd.R_mono (Kd.R_far (p := ⟨gb246, 1, none⟩) (Kd.R_types HO249.out BK246.out (by decide)) (fun _ hk => hk.2) (.slice Ao13 t247.length co13)) (fun _ h_ => h_.1))))) (below_size bl)); replace HO249 := Aside0.mk (Kd.R_elder' (by (with_reducible repeat (first | apply Kd.R_alloc | apply Kd.R_drewN | apply Kd.R_drew)); exact (Kd.R_mono (Kd.R_far (p := ⟨gb246, 1, none⟩) (Kd.R_types HO249.out BK246.out (by decide)) (fun _ hk => hk.2) (.slice Ao13 t247.length co13)) (fun _ h_ => h_.1))) (Kd.R_base ho0) hb); replace BK244 := kq BK244 hb; replace BK245 := kq BK245 hb; replace BK246 := kp gb246 #[.bool a0_0, .slice Ao13 t247.length co13, .slice none 0 0] 70 hb; replace HB := hs HB hb; (try clear hb); (try clear hk); (try clear ho0); obtain ⟨Ao17, co17, eo17⟩ := Kd.R_slice HO252.out; subst eo17; obtain ⟨_,_,_,_,_,_⟩ := cf3 BK246; obtain ⟨_,_,_,_,_,_⟩ := cf3 BK245))
 refine bodyPost_ret (results_cell_row rfl _ _ gb245 70 #[.bool a0_0, .slice Ao13 t247.length co13, .slice Ao17 t250.length co17] (0, 0) _ rfl (by (with_reducible repeat (first | refine blk_drewN ?_ _ | refine blk_drew ?_ | refine blk_alloc ?_ _)); refine blk_put (cs := #[.bool a0_0, .slice Ao13 t247.length co13, .slice none 0 0]) ?_ 2 _ rfl; (with_reducible repeat (first | refine blk_drewN ?_ _ | refine blk_drew ?_ | refine blk_alloc ?_ _)); refine blk_put (cs := #[.bool a0_0, .slice none 0 0, .slice none 0 0]) ?_ 1 _ rfl; (with_reducible repeat (first | refine blk_drewN ?_ _ | refine blk_drew ?_ | refine blk_alloc ?_ _)); refine blk_put (cs := #[.bool false, .slice none 0 0, .slice none 0 0]) ?_ 0 _ rfl; (with_reducible repeat (first | refine blk_drewN ?_ _ | refine blk_drew ?_ | refine blk_alloc ?_ _)); refine blk_far ?_ NB245_246.out _; (with_reducible repeat (first | refine blk_drewN ?_ _ | refine blk_drew ?_ | refine blk_alloc ?_ _)); exact BK245.out) Try.underlying70 rfl (by kernel_rfl)) rfl ?_
 exact ⟨_, _, by first | rfl | (simp [errW_none, errW_some] <;> rfl) | (simp [*, errW_none, errW_some] <;> rfl), by (with_reducible repeat (first | apply Kd.R_alloc | apply Kd.R_drewN | apply Kd.R_drew)); exact Kd.R_mono (Kd.R_far (p := ⟨gb245, 2, none⟩) (Kd.R_far (p := ⟨gb245, 1, none⟩) (Kd.R_far (p := ⟨gb245, 0, none⟩) (Kd.R_far (p := ⟨gb246, 2, none⟩) (Kd.R_types (Kd.R_types HO249.out BK246.out (by decide)) BK245.out (by decide)) (fun _ hk => hk.1.2) (.slice Ao17 t250.length co17)) (fun _ hk => hk.2) (.bool a0_0)) (fun _ hk => hk.2) (.slice Ao13 t247.length co13)) (fun _ hk => hk.2) (.slice Ao17 t250.length co17)) (fun _ hk => hk.1.1.2), by (with_reducible repeat (first | apply Kd.R_alloc | apply Kd.R_drewN | apply Kd.R_drew)); exact Kd.R_mono (Kd.R_far (p := ⟨gb245, 2, none⟩) (Kd.R_far (p := ⟨gb245, 1, none⟩) (Kd.R_far (p := ⟨gb245, 0, none⟩) (Kd.R_far (p := ⟨gb246, 2, none⟩) (Kd.R_types (Kd.R_types HO252.out BK246.out (by decide)) BK245.out (by decide)) (fun _ hk => hk.1.2) (.slice Ao17 t250.length co17)) (fun _ hk => hk.2) (.bool a0_0)) (fun _ hk => hk.2) (.slice Ao13 t247.length co13)) (fun _ hk => hk.2) (.slice Ao17 t250.length co17)) (fun _ hk => hk.1.1.2), bl⟩
end Go.Proofs.Ytedodaifpekahaa.P

end
section

namespace Go.Proofs.Ytedodaifpekahaa.P
open Go.RowKit Go.Proofs.YtedodaifpekahaaW.PrintWords Go.Proofs.YtedodaifpekahaaW.PrintLast Go.Proofs.YtedodaifpekahaaW.PrintMore
attribute [local go_sem] max2_int min2_int max_two min_two max_three min_three max_four min_four
set_option linter.unusedVariables false
set_option linter.unusedSimpArgs false
set_option maxHeartbeats 8000000 in
set_option maxRecDepth 100000 in
theorem laws_toShapeS.calls (k : Nat) (A0 : Option Addr) (c0 : Nat) (l0 : List (S111)) (r : List (S70)) (w : World) (hr0 : Kd.C k111 w A0 l0.length l0) (hc0 : l0.length ≤ c0) (h : laws_toShapeS.f k l0 = some r) :
  Calls Try.prog 60 #[.slice A0 l0.length c0] w fun e w' => ∃ v0_ : Value, e = .returned (v0_) ∧ Kd.S k70 70 w' w.heap.size (fun _ => True) v0_ r ∧ Below w.heap.size w w' := by
 have hu111 := Try.underlying111
 have hu70 := Try.underlying70
 have HR0 := Aside0.mk hr0
 have HC0 := Aside0.mk hc0
 clear hr0 hc0
 have HB := Aside0.mk (Below.refl w.heap.size w)
 have H : (if 0 ≤ (l0.length : Int) then (if ((l0.length : Int) : Int).toNat ≤ 5026338869833 then (laws_toShapeS.l0 k l0 (List.replicate ((l0.length : Int) : Int).toNat z70) 0) else (none)) else (none)) = some r := h
 clear h
 by_cases c2 : 0 ≤ (l0.length : Int)
 ·rw [if_pos c2] at H
  have c2b0 := eq_true c2
  have c2b1 : decide (0 ≤ (l0.length : Int)) = true := decide_eq_true c2
  clear c2
  by_cases c3 : ((l0.length : Int) : Int).toNat ≤ 5026338869833
  ·rw [if_pos c3] at H
   have c3b0 := eq_true c3
   have c3b1 : decide (((l0.length : Int) : Int).toNat ≤ 5026338869833) = true := decide_eq_true c3
   clear c3
   obtain ⟨y253, hy253⟩ : ∃ y_ : List (S70), y_ = (List.replicate ((l0.length : Int) : Int).toNat z70) := ⟨_, rfl⟩
   replace H : (laws_toShapeS.l0 k l0 y253 0) = some r := by first | (rw [hy253]; with_reducible exact H) | (have H2_ := (Option.bind_some _ _).symm.trans H; rw [hy253]; with_reducible exact H2_) | (have H2_ := (Option.bind_some _ _).symm.trans H; with_reducible exact H2_) | with_reducible exact H | (rw [hy253]; exact H) | exact H
   have Ny253 := Aside0.mk hy253
   clear hy253
   have H' := Aside0.mk H
   clear H
   go_enter Try.func60, Try.ntmps60
   go_wp2_with (first | ((with_reducible refine gd 7 rfl ?_); refine Kd.S_make k70 _ 70 rfl (N := 7) rfl 43 _ _ rfl (l0.length : Int) rfl rfl Try.underlying43 (.agg #[(.bool false), (.slice none 0 0), (.slice none 0 0)]) 56 info70 rfl (by decide) (by omega) z70 (ok := fun _ => True) (okp := fun _ => True) (k70_mkM _ _ _ z70 (Kd.R_nil _ _ _ _ _) (Kd.R_nil _ _ _ _ _)) (fun _ hk => hk) trivial (of_decide_eq_true (by first | (with_reducible assumption) | assumption)) (Nat.le_trans (Nat.mul_le_mul_right _ (of_decide_eq_true (by first | (with_reducible assumption) | assumption) : (l0.length : Int).toNat ≤ 5026338869833)) (by omega)) (Below.refl _ _) (Nat.le_refl _) ?_; intro v254 w4 ho5 hb hg_ hnew_; clear hg_ hnew_; (first | rw [← Ny253.out] at ho5 | (simp only [Int.reduceToNat] at ho5; rw [← Ny253.out] at ho5)); have HO255 := Aside0.mk (Kd.S_lower ho5 (below_size bl)); replace HB := hs HB hb; clear hb ho5))
   go_loopg [4] k (fun kq v4 w' => ∃ (x3_1 : List (S70)) (x4_1 : Int), v4 = .int .i64 x4_1 ∧ Aside0 (laws_toShapeS.l0 kq l0 x3_1 x4_1 = some r) ∧ Aside0 (kq ≤ k) ∧ Aside0 (Kd.S k70 70 w' w.heap.size (fun _ => True) v254 x3_1) ∧ Aside0 (Below w.heap.size w w'))
   case atStart => exact ⟨(y253), (0), (by first | rfl | (simp; done) | (simp [*]; done)), H', ⟨Nat.le_refl _⟩, ⟨by (with_reducible repeat (first | apply Kd.S_alloc | apply Kd.S_drewN | apply Kd.S_drew)); exact HO255.out⟩, ⟨bl⟩⟩
   case round =>
    clear H'
    obtain ⟨x3_1, x4_1, rfl, HA, HK1, HO_3, HB⟩ := hrel
    cases gk with
    | zero => exact absurd HA.out (by simp [laws_toShapeS.l0])
    | succ k1 =>
     have H := HA.out
     clear HA
     simp only [laws_toShapeS.l0] at H
     by_cases c6 : x4_1 < (l0.length : Int)
     ·rw [if_pos c6] at H
      have c6b0 : decide (x4_1 < (l0.length : Int)) = true := decide_eq_true c6
      clear c6
      by_cases c7 : 0 ≤ x4_1
      ·rw [if_pos c7] at H
       have c7b0 : decide (0 ≤ x4_1) = true := decide_eq_true c7
       clear c7
       replace H := Option.bind_eq_some_iff.mp H
       obtain ⟨⟨t257, t258, t261⟩, A80, H⟩ := H
       replace H : (if x4_1 < (x3_1.length : Int) then (laws_toShapeS.l0 k1 l0 (x3_1.set (x4_1 : Int).toNat (⟨t257, t258, t261⟩ : S70)) (wrap64 (x4_1 + 1))) else (none)) = some r := H
       have A8 := Aside0.mk A80
       clear A80
       by_cases c9 : x4_1 < (x3_1.length : Int)
       ·rw [if_pos c9] at H
        have c9b0 : decide (x4_1 < (x3_1.length : Int)) = true := decide_eq_true c9
        clear c9
        obtain ⟨y264, hy264⟩ : ∃ y_ : List (S70), y_ = (x3_1.set (x4_1 : Int).toNat (⟨t257, t258, t261⟩ : S70)) := ⟨_, rfl⟩
        replace H : (laws_toShapeS.l0 k1 l0 y264 (wrap64 (x4_1 + 1))) = some r := by first | (rw [hy264]; with_reducible exact H) | (have H2_ := (Option.bind_some _ _).symm.trans H; rw [hy264]; with_reducible exact H2_) | (have H2_ := (Option.bind_some _ _).symm.trans H; with_reducible exact H2_) | with_reducible exact H | (rw [hy264]; exact H) | exact H
        have Ny264 := Aside0.mk hy264
        clear hy264
        have H' := Aside0.mk H
        clear H
        have p256 : 0 ≤ (x4_1 : Int) := od
        have q256 : x4_1 < (l0.length : Int) := od
        obtain ⟨ad256, A256_1, c256_1, A256_2, c256_2, e256, hx256_0, hx256_1, hx256_2, hl256_1, hi256_1, hl256_2, hi256_2⟩ := at_T111 HR0.out x4_1 p256 q256
        cases e256
        obtain ⟨hx256_0,hx256_1,hx256_2⟩ := hc3 HB hx256_0 hx256_1 hx256_2
        have HR256_1 := Aside0.mk hi256_1
        have HC256_1 := Aside0.mk hl256_1
        clear hi256_1 hl256_1
        have HR256_2 := Aside0.mk hi256_2
        have HC256_2 := Aside0.mk hl256_2
        clear hi256_2 hl256_2
        replace p256 := eq_true p256
        replace q256 := eq_true q256
        go_wp2_with (first | ((with_reducible refine gc 71 rfl ?_); refine gl (some 20) Try.func71 #[.agg #[.bool ((rd_T111 l0 x4_1).f0), .slice A256_1 ((rd_T111 l0 x4_1).f1).length c256_1, .slice A256_2 ((rd_T111 l0 x4_1).f2).length c256_2]] rfl ?_; (with_reducible refine (laws_toShape.calls k1 ((rd_T111 l0 x4_1).f0) _ _ ((rd_T111 l0 x4_1).f1) _ _ ((rd_T111 l0 x4_1).f2) t257 t258 t261 _ ?side1 ?side2 ?side3 ?side4 A8.out).mono ?_); (case side1 => exact cb HR256_1.out); (case side2 => exact HC256_1.out); (case side3 => exact cb HR256_2.out); (case side4 => exact HC256_2.out); rintro e w11 ⟨v259, v262, rfl, ho0, ho1, hb⟩; refine ⟨_, rfl, ?_⟩; have HO260 := Aside0.mk (Kd.R_lower ho0 (below_size bl)); have HO263 := Aside0.mk (Kd.R_lower ho1 (below_size bl)); replace HO_3 := Aside0.mk (Kd.S_mono (Kd.S_told (Kd.S_told (Kd.S_old (by (with_reducible repeat (first | apply Kd.S_alloc | apply Kd.S_drewN | apply Kd.S_drew)); exact HO_3.out) hb) (Kd.R_base ho0)) (Kd.R_base ho1)) (fun _ h_ => h_.1)); replace HB := hs HB hb; (try clear hb); (try clear hk); (try clear ho0); (try clear ho1); have p10 : 0 ≤ (x4_1 : Int) := od; have q10 : (x4_1 : Int) < ((x3_1.length : Int) : Int) := od; obtain ⟨go10, co10, eo10, gb10, gl10, cl10, HG10⟩ := Kd.S_form HO_3.out (by omega); (first | cases eo10 | (injection eo10 with ea_ en_ ec_; (first | subst ea_ | (injection ea_ with ea_; subst ea_)); subst ec_; clear en_)); have GB10 := Aside0.mk gb10; have GG10 := Aside0.mk HG10; clear gb10 gl10 HG10; obtain ⟨_, ce10, hcl10, hM10, hcc10, hfr10, _, _⟩ := Kd.S_elem HO_3.out z70 (x4_1 : Int) p10 q10; obtain ⟨ve10_1, ve10_2, rfl, ge10_1, ge10_2⟩ := k70_openM hM10; have hx10_0 : w11.cell? ⟨go10, (x4_1 : Int).toNat * 3, none⟩ = some (.bool ((rd_T70 x3_1 x4_1).f0)) := hcc10 0 _ rfl; have hx10_1 : w11.cell? ⟨go10, (x4_1 : Int).toNat * 3 + 1, none⟩ = some (ve10_1) := hcc10 1 _ rfl; have hx10_2 : w11.cell? ⟨go10, (x4_1 : Int).toNat * 3 + 2, none⟩ = some (ve10_2) := hcc10 2 _ rfl; have hf10_0 : w11.frozen? ⟨go10, (x4_1 : Int).toNat * 3, none⟩ = false := hfr10 0; have hf10_1 : w11.frozen? ⟨go10, (x4_1 : Int).toNat * 3 + 1, none⟩ = false := hfr10 1; have hf10_2 : w11.frozen? ⟨go10, (x4_1 : Int).toNat * 3 + 2, none⟩ = false := hfr10 2; clear hcl10 hcc10 hfr10 hM10; replace p10 := eq_true p10; replace q10 := eq_true q10; have n_ := Aside0.mk (Kd.S_mono (ok' := (fun k_ => some k_ ≠ (v259 : Value).ownBlock ∧ some k_ ≠ (v262 : Value).ownBlock)) HO_3.out (fun k_ hk => ⟨hk.1.2, hk.2⟩)); clear HO_3; have HO_3 := n_; clear n_; have HX12 := Aside0.mk (show Kd.S k70 70 w11 w.heap.size (fun k_ => ((fun _ => True)) k_ ∧ ¬ ((fun k_ => some k_ = (v259 : Value).ownBlock ∨ some k_ = (v262 : Value).ownBlock)) k_) (.slice (some ⟨go10, 0, none⟩) x3_1.length co10) x3_1 from (by (with_reducible repeat (first | apply Kd.S_alloc | apply Kd.S_drewN | apply Kd.S_drew)); exact Kd.S_mono HO_3.out (fun k_ hk => ⟨trivial, fun e_ => e_.elim (fun h_ => hk.1 h_) (fun h_ => hk.2 h_)⟩))); obtain ⟨oki12, ce12, hcl12, hM12, hcc12, hfr12, hoki12, hH12⟩ := Kd.S_elem HX12.out z70 (x4_1 : Int) (of_decide_eq_true (by first | (with_reducible assumption) | assumption)) (by have h_ : (x4_1 : Int) < ((x3_1.length : Int) : Int) := of_decide_eq_true (by first | (with_reducible assumption) | assumption); first | exact h_ | (have e_ := (Kd.S_reads' HO_3.out).1; omega) | simpa using h_); obtain ⟨ve12_1, ve12_2, rfl, ge12_1, ge12_2⟩ := k70_openM hM12; have HP12 := Kd.S_seg hH12 (of_decide_eq_true (by first | (with_reducible assumption) | assumption)) (by have h_ : (x4_1 : Int) < ((x3_1.length : Int) : Int) := of_decide_eq_true (by first | (with_reducible assumption) | assumption); first | exact h_ | (have e_ := (Kd.S_reads' HO_3.out).1; omega) | simpa using h_) (seg := [.bool t257, v259, v262]) (j := 0) (show 3 ≤ 3 from by decide) (x' := (⟨t257, t258, t261⟩ : S70)) (k70_mkM _ _ _ (⟨t257, t258, t261⟩ : S70) (Kd.R_mono (Kd.R_tight rfl (Kd.R_mono (ok' := fun k_ => ((fun _ => True)) k_ ∧ k_ ≠ go10) (Kd.R_apart' (HO260.out) (Kd.S_typed HO_3.out) (by decide)) (fun k_ hk => ⟨trivial, fun e_ => (hk.2) (by rw [e_]; rfl)⟩))) (fun _ h_ => Or.inr (Or.inl h_))) (Kd.R_mono (Kd.R_tight rfl (Kd.R_mono (ok' := fun k_ => ((fun _ => True)) k_ ∧ k_ ≠ go10) (Kd.R_apart' (HO263.out) (Kd.S_typed HO_3.out) (by decide)) (fun k_ hk => ⟨trivial, fun e_ => (hk.2) (by rw [e_]; rfl)⟩))) (fun _ h_ => Or.inr (Or.inr (h_))))) (fun _ hk => hk) (fun k_ hk_ => hk_.elim (fun h_ => ((Kd.R_mono (ok' := fun k_ => ((fun _ => True)) k_ ∧ k_ ≠ go10) (Kd.R_apart' (HO260.out) (Kd.S_typed HO_3.out) (by decide)) (fun k_ hk => ⟨trivial, fun e_ => (hk.2) (by rw [e_]; rfl)⟩))).1 k_ h_.symm) (fun h_ => ((Kd.R_mono (ok' := fun k_ => ((fun _ => True)) k_ ∧ k_ ≠ go10) (Kd.R_apart' (HO263.out) (Kd.S_typed HO_3.out) (by decide)) (fun k_ hk => ⟨trivial, fun e_ => (hk.2) (by rw [e_]; rfl)⟩))).1 k_ h_.symm)); have hx12_0 := hcc12 0 _ rfl; (try simp only [show (k70).sz = 3 from rfl, Nat.mul_one, Nat.add_zero] at hx12_0); have hf12_0 := hfr12 0; (try simp only [show (k70).sz = 3 from rfl, Nat.mul_one, Nat.add_zero] at hf12_0); have hx12_1 := hcc12 1 _ rfl; (try simp only [show (k70).sz = 3 from rfl, Nat.mul_one, Nat.add_zero] at hx12_1); have hf12_1 := hfr12 1; (try simp only [show (k70).sz = 3 from rfl, Nat.mul_one, Nat.add_zero] at hf12_1); have hx12_2 := hcc12 2 _ rfl; (try simp only [show (k70).sz = 3 from rfl, Nat.mul_one, Nat.add_zero] at hx12_2); have hf12_2 := hfr12 2; (try simp only [show (k70).sz = 3 from rfl, Nat.mul_one, Nat.add_zero] at hf12_2); clear hcl12 hcc12 hfr12 hM12 hoki12 hH12) | ((with_reducible refine gate_store (t := 70) (p := 21) rfl ?_); refine store_event (t := 70) (p := 21) (v := ?vo_w13) (w1 := (((w11.setCell ⟨go10, (x4_1 : Int).toNat * 3, none⟩ (.bool t257)).setCell ⟨go10, (x4_1 : Int).toNat * 3 + 1, none⟩ (v259)).setCell ⟨go10, (x4_1 : Int).toNat * 3 + 2, none⟩ (v262))) ?hg ?ho ?hn ?hr ?_; (case ho => rfl); (case hg => rfl); (case hn => rfl); (case hr => first | (go_simp; done) | (go_simp; rfl) | (obtain ⟨_, _, rfl⟩ := Kd.R_slice HO260.out; obtain ⟨_, _, rfl⟩ := Kd.R_slice HO263.out; first | (go_simp; done) | (go_simp; rfl))); intro w13 hw; have hg : w11.grownBy w13 (some go10) := (by rw [hw]; exact HP12.2); have hp_ : Kd.S k70 70 w13 w.heap.size (fun _ => True) (.slice (some ⟨go10, 0, none⟩) x3_1.length co10) y264 := (by rw [hw, Ny264.out]; exact HP12.1); clear HP12; have n0_ := Aside0.mk (hp_); have n1_ := Aside0.mk ((by rw [hw]; exact below_set (below_set (below_set (HB.out) GB10.out) GB10.out) GB10.out : Below w.heap.size w w13)); clear HO_3; clear HB; clear HO260; clear HO263; have HO_3 := n0_; have HB := n1_; clear n0_ n1_; clear hg hw hp_))
        go_roundg k1
        case measure => have := HK1.out; omega
        case rel => exact ⟨(y264), (wrap64 (x4_1 + 1)), (by first | rfl | (simp; done) | (simp [*]; done)), H', ⟨by have := HK1.out; omega⟩, ⟨by (with_reducible repeat (first | apply Kd.S_alloc | apply Kd.S_drewN | apply Kd.S_drew)); exact HO_3.out⟩, ⟨bl⟩⟩
       ·rw [if_neg c9] at H
        exact absurd H (by simp)
      ·rw [if_neg c7] at H
       exact absurd H (by simp)
     ·rw [if_neg c6] at H
      have c6b0 : decide (x4_1 < (l0.length : Int)) = false := decide_eq_false c6
      clear c6
      obtain rfl := Option.some.inj H; clear H
      go_wp2
      go_ret
      exact ⟨_, by first | rfl | (simp [errW_none, errW_some] <;> rfl) | (simp [*, errW_none, errW_some] <;> rfl), by (with_reducible repeat (first | apply Kd.S_alloc | apply Kd.S_drewN | apply Kd.S_drew)); exact HO_3.out, bl⟩
  ·rw [if_neg c3] at H
   exact absurd H (by simp)
 ·rw [if_neg c2] at H
  exact absurd H (by simp)
end Go.Proofs.Ytedodaifpekahaa.P

end
section

namespace Go.Proofs.Ytedodaifpekahaa.P
open Go.RowKit Go.Proofs.YtedodaifpekahaaW.PrintWords Go.Proofs.YtedodaifpekahaaW.PrintLast Go.Proofs.YtedodaifpekahaaW.PrintMore
attribute [local go_sem] max2_int min2_int max_two min_two max_three min_three max_four min_four
set_option linter.unusedVariables false
set_option linter.unusedSimpArgs false
set_option maxHeartbeats 8000000 in
set_option maxRecDepth 100000 in
theorem laws_toCatch.calls (a0_0 : Int) (a0_1 : Int) (a0_2 : Int) (a0_3 : Int) (r1 : Int) (r2 : Int) (r3 : Int) (r4 : Int) (w : World) (h : laws_toCatch.f a0_0 a0_1 a0_2 a0_3 = some (r1, r2, r3, r4)) :
  Calls Try.prog 72 #[.agg #[.int .i64 a0_0, .int .i64 a0_1, .int .i64 a0_2, .int .i64 a0_3]] w fun e w' => e = .returned (.agg #[.int .i64 r1, .int .i64 r2, .int .i64 r3, .int .i64 r4]) ∧ Below w.heap.size w w' := by
 have hu116 := Try.underlying116
 have hu73 := Try.underlying73
 have HB := Aside0.mk (Below.refl w.heap.size w)
 have H : (some (a0_0, a0_1, a0_2, a0_3)) = some (r1, r2, r3, r4) := h
 clear h
 simp only [Option.some.injEq, Prod.mk.injEq] at H
 obtain ⟨rfl, rfl, rfl, rfl⟩ := H
 go_enter Try.func72, Try.ntmps72
 go_wp2_with (first | ((with_reducible refine gd 1 rfl ?_); refine bx 1 #[.int .i64 a0_0, .int .i64 a0_1, .int .i64 a0_2, .int .i64 a0_3] 116 ?_; intro gb265 hg w2 hbox hb; have BK265 := Aside0.mk hbox; have GW265 := hz HB hg; have GE265 := hz HB hg; replace HB := hs HB hb; clear hb hbox hg) | ((with_reducible refine gd 2 rfl ?_); refine bx 2 #[.int .i64 0, .int .i64 0, .int .i64 0, .int .i64 0] 73 ?_; intro gb266 hg w3 hbox hb; have BK266 := Aside0.mk hbox; have GW266 := hz HB hg; have GE266 := hz HB hg; have NB265_266 := nl BK265 hg; have NB266_265 := ng BK265 hg; replace BK265 := kb BK265 hb; replace HB := hs HB hb; clear hb hbox hg) | ((with_reducible refine gd 3 rfl ?_); refine bx 3 #[.int .i64 0, .int .i64 0, .int .i64 0, .int .i64 0] 73 ?_; intro gb267 hg w4 hbox hb; have BK267 := Aside0.mk hbox; have GW267 := hz HB hg; have GE267 := hz HB hg; have NB265_267 := nl BK265 hg; have NB267_265 := ng BK265 hg; have NB266_267 := nl BK266 hg; have NB267_266 := ng BK266 hg; replace BK265 := kb BK265 hb; replace BK266 := kb BK266 hb; replace HB := hs HB hb; clear hb hbox hg; have hnb5 := NB265_266.out; have hnc5 := NB266_265.out; have hnb6 := NB265_267.out; have hnc6 := NB267_265.out; obtain ⟨_,_,_,_,_,_,_,_⟩ := cf4 BK265; have hnb8 := NB267_266.out; have hnc8 := NB266_267.out; obtain ⟨_,_,_,_,_,_,_,_⟩ := cf4 BK267; obtain ⟨_,_,_,_,_,_,_,_⟩ := cf4 BK266))
 refine bodyPost_ret (results_cell_row rfl _ _ gb266 73 #[.int .i64 a0_0, .int .i64 a0_1, .int .i64 a0_2, .int .i64 a0_3] (0, 0) _ rfl (by (with_reducible repeat (first | refine blk_drewN ?_ _ | refine blk_drew ?_ | refine blk_alloc ?_ _)); refine blk_put (cs := #[.int .i64 a0_0, .int .i64 a0_1, .int .i64 a0_2, .int .i64 0]) ?_ 3 _ rfl; (with_reducible repeat (first | refine blk_drewN ?_ _ | refine blk_drew ?_ | refine blk_alloc ?_ _)); refine blk_put (cs := #[.int .i64 a0_0, .int .i64 a0_1, .int .i64 0, .int .i64 0]) ?_ 2 _ rfl; (with_reducible repeat (first | refine blk_drewN ?_ _ | refine blk_drew ?_ | refine blk_alloc ?_ _)); refine blk_put (cs := #[.int .i64 a0_0, .int .i64 0, .int .i64 0, .int .i64 0]) ?_ 1 _ rfl; (with_reducible repeat (first | refine blk_drewN ?_ _ | refine blk_drew ?_ | refine blk_alloc ?_ _)); refine blk_put (cs := #[.int .i64 0, .int .i64 0, .int .i64 0, .int .i64 0]) ?_ 0 _ rfl; (with_reducible repeat (first | refine blk_drewN ?_ _ | refine blk_drew ?_ | refine blk_alloc ?_ _)); refine blk_far ?_ NB266_267.out _; (with_reducible repeat (first | refine blk_drewN ?_ _ | refine blk_drew ?_ | refine blk_alloc ?_ _)); refine blk_far ?_ NB266_267.out _; (with_reducible repeat (first | refine blk_drewN ?_ _ | refine blk_drew ?_ | refine blk_alloc ?_ _)); refine blk_far ?_ NB266_267.out _; (with_reducible repeat (first | refine blk_drewN ?_ _ | refine blk_drew ?_ | refine blk_alloc ?_ _)); refine blk_far ?_ NB266_267.out _; (with_reducible repeat (first | refine blk_drewN ?_ _ | refine blk_drew ?_ | refine blk_alloc ?_ _)); exact BK266.out) Try.underlying73 rfl (by kernel_rfl)) rfl ?_
 exact fin
end Go.Proofs.Ytedodaifpekahaa.P

end
section

namespace Go.Proofs.Ytedodaifpekahaa.P
open Go.RowKit Go.Proofs.YtedodaifpekahaaW.PrintWords Go.Proofs.YtedodaifpekahaaW.PrintLast Go.Proofs.YtedodaifpekahaaW.PrintMore
attribute [local go_sem] max2_int min2_int max_two min_two max_three min_three max_four min_four
set_option linter.unusedVariables false
set_option linter.unusedSimpArgs false
set_option maxHeartbeats 8000000 in
set_option maxRecDepth 100000 in
theorem laws_toCatchS.calls (k : Nat) (A0 : Option Addr) (c0 : Nat) (l0 : List (S116)) (r : List (S73)) (w : World) (hr0 : Kd.C k116 w A0 l0.length l0) (hc0 : l0.length ≤ c0) (h : laws_toCatchS.f k l0 = some r) :
  Calls Try.prog 61 #[.slice A0 l0.length c0] w fun e w' => ∃ v0_ : Value, e = .returned (v0_) ∧ Kd.R k73 73 w' w.heap.size (fun _ => True) v0_ r ∧ Below w.heap.size w w' := by
 have hu116 := Try.underlying116
 have hu73 := Try.underlying73
 have HR0 := Aside0.mk hr0
 have HC0 := Aside0.mk hc0
 clear hr0 hc0
 have HB := Aside0.mk (Below.refl w.heap.size w)
 have H : (if 0 ≤ (l0.length : Int) then (if ((l0.length : Int) : Int).toNat ≤ 8796093022208 then (laws_toCatchS.l0 k l0 (List.replicate ((l0.length : Int) : Int).toNat z73) 0) else (none)) else (none)) = some r := h
 clear h
 by_cases c2 : 0 ≤ (l0.length : Int)
 ·rw [if_pos c2] at H
  have c2b0 := eq_true c2
  have c2b1 : decide (0 ≤ (l0.length : Int)) = true := decide_eq_true c2
  clear c2
  by_cases c3 : ((l0.length : Int) : Int).toNat ≤ 8796093022208
  ·rw [if_pos c3] at H
   have c3b0 := eq_true c3
   have c3b1 : decide (((l0.length : Int) : Int).toNat ≤ 8796093022208) = true := decide_eq_true c3
   clear c3
   obtain ⟨y268, hy268⟩ : ∃ y_ : List (S73), y_ = (List.replicate ((l0.length : Int) : Int).toNat z73) := ⟨_, rfl⟩
   replace H : (laws_toCatchS.l0 k l0 y268 0) = some r := by first | (rw [hy268]; with_reducible exact H) | (have H2_ := (Option.bind_some _ _).symm.trans H; rw [hy268]; with_reducible exact H2_) | (have H2_ := (Option.bind_some _ _).symm.trans H; with_reducible exact H2_) | with_reducible exact H | (rw [hy268]; exact H) | exact H
   have Ny268 := Aside0.mk hy268
   clear hy268
   have H' := Aside0.mk H
   clear H
   go_enter Try.func61, Try.ntmps61
   go_wp2_with (first | ((with_reducible refine gd 7 rfl ?_); refine Kd.R_make k73 _ 73 rfl (N := 7) rfl 44 _ _ rfl (l0.length : Int) rfl rfl Try.underlying44 (.agg #[(.int .i64 0), (.int .i64 0), (.int .i64 0), (.int .i64 0)]) 32 info73 rfl (by decide) (by omega) z73 (ok := fun _ => True) (okp := fun _ => True) (k73_mkM _ _ _ z73 ) (fun _ hk => hk) trivial (of_decide_eq_true (by first | (with_reducible assumption) | assumption)) (Nat.le_trans (Nat.mul_le_mul_right _ (of_decide_eq_true (by first | (with_reducible assumption) | assumption) : (l0.length : Int).toNat ≤ 8796093022208)) (by omega)) (Below.refl _ _) (Nat.le_refl _) ?_; intro v269 w4 ho5 hb hg_ hnew_; clear hg_ hnew_; (first | rw [← Ny268.out] at ho5 | (simp only [Int.reduceToNat] at ho5; rw [← Ny268.out] at ho5)); have HO270 := Aside0.mk (Kd.R_lower ho5 (below_size bl)); replace HB := hs HB hb; clear hb ho5))
   go_loopg [4] k (fun kq v4 w' => ∃ (x3_1 : List (S73)) (x4_1 : Int), v4 = .int .i64 x4_1 ∧ Aside0 (laws_toCatchS.l0 kq l0 x3_1 x4_1 = some r) ∧ Aside0 (kq ≤ k) ∧ Aside0 (Kd.R k73 73 w' w.heap.size (fun _ => True) v269 x3_1) ∧ Aside0 (Below w.heap.size w w'))
   case atStart => exact ⟨(y268), (0), (by first | rfl | (simp; done) | (simp [*]; done)), H', ⟨Nat.le_refl _⟩, ⟨by (with_reducible repeat (first | apply Kd.R_alloc | apply Kd.R_drewN | apply Kd.R_drew)); exact HO270.out⟩, ⟨bl⟩⟩
   case round =>
    clear H'
    obtain ⟨x3_1, x4_1, rfl, HA, HK1, HO_3, HB⟩ := hrel
    cases gk with
    | zero => exact absurd HA.out (by simp [laws_toCatchS.l0])
    | succ k1 =>
     have H := HA.out
     clear HA
     simp only [laws_toCatchS.l0] at H
     by_cases c6 : x4_1 < (l0.length : Int)
     ·rw [if_pos c6] at H
      have c6b0 : decide (x4_1 < (l0.length : Int)) = true := decide_eq_true c6
      clear c6
      by_cases c7 : 0 ≤ x4_1
      ·rw [if_pos c7] at H
       have c7b0 : decide (0 ≤ x4_1) = true := decide_eq_true c7
       clear c7
       replace H := Option.bind_eq_some_iff.mp H
       obtain ⟨⟨t272, t273, t274, t275⟩, A80, H⟩ := H
       replace H : (if x4_1 < (x3_1.length : Int) then (laws_toCatchS.l0 k1 l0 (x3_1.set (x4_1 : Int).toNat (⟨t272, t273, t274, t275⟩ : S73)) (wrap64 (x4_1 + 1))) else (none)) = some r := H
       have A8 := Aside0.mk A80
       clear A80
       by_cases c9 : x4_1 < (x3_1.length : Int)
       ·rw [if_pos c9] at H
        have c9b0 : decide (x4_1 < (x3_1.length : Int)) = true := decide_eq_true c9
        clear c9
        obtain ⟨y276, hy276⟩ : ∃ y_ : List (S73), y_ = (x3_1.set (x4_1 : Int).toNat (⟨t272, t273, t274, t275⟩ : S73)) := ⟨_, rfl⟩
        replace H : (laws_toCatchS.l0 k1 l0 y276 (wrap64 (x4_1 + 1))) = some r := by first | (rw [hy276]; with_reducible exact H) | (have H2_ := (Option.bind_some _ _).symm.trans H; rw [hy276]; with_reducible exact H2_) | (have H2_ := (Option.bind_some _ _).symm.trans H; with_reducible exact H2_) | with_reducible exact H | (rw [hy276]; exact H) | exact H
        have Ny276 := Aside0.mk hy276
        clear hy276
        have H' := Aside0.mk H
        clear H
        have p271 : 0 ≤ (x4_1 : Int) := od
        have q271 : x4_1 < (l0.length : Int) := od
        obtain ⟨ad271, e271, hx271_0, hx271_1, hx271_2, hx271_3⟩ := at_T116 HR0.out x4_1 p271 q271
        cases e271
        obtain ⟨hx271_0,hx271_1,hx271_2,hx271_3⟩ := hc4 HB hx271_0 hx271_1 hx271_2 hx271_3
        replace p271 := eq_true p271
        replace q271 := eq_true q271
        go_wp2_with (first | ((with_reducible refine gc 72 rfl ?_); refine gl (some 20) Try.func72 #[.agg #[.int .i64 ((rd_T116 l0 x4_1).f0), .int .i64 ((rd_T116 l0 x4_1).f1), .int .i64 ((rd_T116 l0 x4_1).f2), .int .i64 ((rd_T116 l0 x4_1).f3)]] rfl ?_; (with_reducible refine (laws_toCatch.calls ((rd_T116 l0 x4_1).f0) ((rd_T116 l0 x4_1).f1) ((rd_T116 l0 x4_1).f2) ((rd_T116 l0 x4_1).f3) t272 t273 t274 t275 _ A8.out).mono ?_); rintro e w11 ⟨rfl, hb⟩; refine ⟨_, rfl, ?_⟩; replace HO_3 := Aside0.mk (Kd.R_below (by (with_reducible repeat (first | apply Kd.R_alloc | apply Kd.R_drewN | apply Kd.R_drew)); exact HO_3.out) hb); replace HB := hs HB hb; (try clear hb); (try clear hk); have p10 : 0 ≤ (x4_1 : Int) := od; have q10 : (x4_1 : Int) < ((x3_1.length : Int) : Int) := od; obtain ⟨go10, co10, eo10, gb10, gl10, cl10, HG10⟩ := Kd.R_form HO_3.out (by omega); (first | cases eo10 | (injection eo10 with ea_ en_ ec_; (first | subst ea_ | (injection ea_ with ea_; subst ea_)); subst ec_; clear en_)); have GB10 := Aside0.mk gb10; have GG10 := Aside0.mk HG10; clear gb10 gl10 HG10; obtain ⟨ce10, hcl10, hM10, hcc10, hfr10⟩ := Kd.R_elem HO_3.out z73 (x4_1 : Int) p10 q10; obtain rfl := k73_openM hM10; have hx10_0 : w11.cell? ⟨go10, (x4_1 : Int).toNat * 4, none⟩ = some (.int .i64 ((rd_T73 x3_1 x4_1).f0)) := hcc10 0 _ rfl; have hx10_1 : w11.cell? ⟨go10, (x4_1 : Int).toNat * 4 + 1, none⟩ = some (.int .i64 ((rd_T73 x3_1 x4_1).f1)) := hcc10 1 _ rfl; have hx10_2 : w11.cell? ⟨go10, (x4_1 : Int).toNat * 4 + 2, none⟩ = some (.int .i64 ((rd_T73 x3_1 x4_1).f2)) := hcc10 2 _ rfl; have hx10_3 : w11.cell? ⟨go10, (x4_1 : Int).toNat * 4 + 3, none⟩ = some (.int .i64 ((rd_T73 x3_1 x4_1).f3)) := hcc10 3 _ rfl; have hf10_0 : w11.frozen? ⟨go10, (x4_1 : Int).toNat * 4, none⟩ = false := hfr10 0; have hf10_1 : w11.frozen? ⟨go10, (x4_1 : Int).toNat * 4 + 1, none⟩ = false := hfr10 1; have hf10_2 : w11.frozen? ⟨go10, (x4_1 : Int).toNat * 4 + 2, none⟩ = false := hfr10 2; have hf10_3 : w11.frozen? ⟨go10, (x4_1 : Int).toNat * 4 + 3, none⟩ = false := hfr10 3; clear hcl10 hcc10 hfr10 hM10; replace p10 := eq_true p10; replace q10 := eq_true q10; have HX12 := Aside0.mk (show Kd.R k73 73 w11 w.heap.size (fun _ => True) (.slice (some ⟨go10, 0, none⟩) x3_1.length co10) x3_1 from (by (with_reducible repeat (first | apply Kd.R_alloc | apply Kd.R_drewN | apply Kd.R_drew)); exact HO_3.out)); obtain ⟨ce12, hcl12, hM12, hcc12, hfr12⟩ := Kd.R_elem HX12.out z73 (x4_1 : Int) (of_decide_eq_true (by first | (with_reducible assumption) | assumption)) (by have h_ : (x4_1 : Int) < ((x3_1.length : Int) : Int) := of_decide_eq_true (by first | (with_reducible assumption) | assumption); first | exact h_ | (have e_ := (Kd.R_reads' HO_3.out).1; omega) | simpa using h_); obtain rfl := k73_openM hM12; have HP12 := Kd.R_seg HX12.out (x4_1 : Int) (of_decide_eq_true (by first | (with_reducible assumption) | assumption)) (by have h_ : (x4_1 : Int) < ((x3_1.length : Int) : Int) := of_decide_eq_true (by first | (with_reducible assumption) | assumption); first | exact h_ | (have e_ := (Kd.R_reads' HO_3.out).1; omega) | simpa using h_) (seg := [.int .i64 t272, .int .i64 t273, .int .i64 t274, .int .i64 t275]) (j := 0) hcl12 hcc12 (show 4 ≤ 4 from by decide) (x' := (⟨t272, t273, t274, t275⟩ : S73)) (k73_mkM _ _ _ (⟨t272, t273, t274, t275⟩ : S73) ) (fun _ hk => hk); have hx12_0 := hcc12 0 _ rfl; (try simp only [show (k73).sz = 4 from rfl, Nat.mul_one, Nat.add_zero] at hx12_0); have hf12_0 := hfr12 0; (try simp only [show (k73).sz = 4 from rfl, Nat.mul_one, Nat.add_zero] at hf12_0); have hx12_1 := hcc12 1 _ rfl; (try simp only [show (k73).sz = 4 from rfl, Nat.mul_one, Nat.add_zero] at hx12_1); have hf12_1 := hfr12 1; (try simp only [show (k73).sz = 4 from rfl, Nat.mul_one, Nat.add_zero] at hf12_1); have hx12_2 := hcc12 2 _ rfl; (try simp only [show (k73).sz = 4 from rfl, Nat.mul_one, Nat.add_zero] at hx12_2); have hf12_2 := hfr12 2; (try simp only [show (k73).sz = 4 from rfl, Nat.mul_one, Nat.add_zero] at hf12_2); have hx12_3 := hcc12 3 _ rfl; (try simp only [show (k73).sz = 4 from rfl, Nat.mul_one, Nat.add_zero] at hx12_3); have hf12_3 := hfr12 3; (try simp only [show (k73).sz = 4 from rfl, Nat.mul_one, Nat.add_zero] at hf12_3); clear hcl12 hcc12 hfr12 hM12) | ((with_reducible refine gate_store (t := 73) (p := 21) rfl ?_); refine store_event (t := 73) (p := 21) (v := ?vo_w13) (w1 := ((((w11.setCell ⟨go10, (x4_1 : Int).toNat * 4, none⟩ (.int .i64 t272)).setCell ⟨go10, (x4_1 : Int).toNat * 4 + 1, none⟩ (.int .i64 t273)).setCell ⟨go10, (x4_1 : Int).toNat * 4 + 2, none⟩ (.int .i64 t274)).setCell ⟨go10, (x4_1 : Int).toNat * 4 + 3, none⟩ (.int .i64 t275))) ?hg ?ho ?hn ?hr ?_; (case ho => rfl); (case hg => rfl); (case hn => rfl); (case hr => first | (go_simp; done) | (go_simp; rfl)); intro w13 hw; have hg : w11.grownBy w13 (some go10) := (by rw [hw]; exact HP12.2); have hp_ : Kd.R k73 73 w13 w.heap.size (fun _ => True) (.slice (some ⟨go10, 0, none⟩) x3_1.length co10) y276 := (by rw [hw, Ny276.out]; exact HP12.1); clear HP12; replace HO_3 := Aside0.mk (hp_); replace HB := Aside0.mk ((by rw [hw]; exact below_set (below_set (below_set (below_set (HB.out) GB10.out) GB10.out) GB10.out) GB10.out : Below w.heap.size w w13)); clear hg hw hp_))
        go_roundg k1
        case measure => have := HK1.out; omega
        case rel => exact ⟨(y276), (wrap64 (x4_1 + 1)), (by first | rfl | (simp; done) | (simp [*]; done)), H', ⟨by have := HK1.out; omega⟩, ⟨by (with_reducible repeat (first | apply Kd.R_alloc | apply Kd.R_drewN | apply Kd.R_drew)); exact HO_3.out⟩, ⟨bl⟩⟩
       ·rw [if_neg c9] at H
        exact absurd H (by simp)
      ·rw [if_neg c7] at H
       exact absurd H (by simp)
     ·rw [if_neg c6] at H
      have c6b0 : decide (x4_1 < (l0.length : Int)) = false := decide_eq_false c6
      clear c6
      obtain rfl := Option.some.inj H; clear H
      go_wp2
      go_ret
      exact ⟨_, by first | rfl | (simp [errW_none, errW_some] <;> rfl) | (simp [*, errW_none, errW_some] <;> rfl), by (with_reducible repeat (first | apply Kd.R_alloc | apply Kd.R_drewN | apply Kd.R_drew)); exact HO_3.out, bl⟩
  ·rw [if_neg c3] at H
   exact absurd H (by simp)
 ·rw [if_neg c2] at H
  exact absurd H (by simp)
end Go.Proofs.Ytedodaifpekahaa.P

end
section

namespace Go.Proofs.Ytedodaifpekahaa.P
open Go.RowKit Go.Proofs.YtedodaifpekahaaW.PrintWords Go.Proofs.YtedodaifpekahaaW.PrintLast Go.Proofs.YtedodaifpekahaaW.PrintMore
attribute [local go_sem] max2_int min2_int max_two min_two max_three min_three max_four min_four
set_option linter.unusedVariables false
set_option linter.unusedSimpArgs false
set_option maxHeartbeats 8000000 in
set_option maxRecDepth 100000 in
theorem laws_toMethod.calls (k : Nat) (a0_0 : Int) (a0_1 : Int) (A0_2 : Option Addr) (c0_2 : Nat) (l0_2 : List Int) (a0_3 : Int) (a0_4 : Int) (A0_5 : Option Addr) (c0_5 : Nat) (l0_5 : List (S113)) (A0_6 : Option Addr) (c0_6 : Nat) (l0_6 : List (S111)) (A0_7 : Option Addr) (c0_7 : Nat) (l0_7 : List (S116)) (r1 : Int) (r2 : Int) (r3 : List Int) (r4 : Int) (r5 : Int) (r6 : List (S67)) (r7 : List (S70)) (r8 : List (S73)) (w : World) (hr0_2 : Kd.C (Kd.int .i64) w A0_2 l0_2.length l0_2) (hc0_2 : l0_2.length ≤ c0_2) (hr0_5 : Kd.C k113 w A0_5 l0_5.length l0_5) (hc0_5 : l0_5.length ≤ c0_5) (hr0_6 : Kd.C k111 w A0_6 l0_6.length l0_6) (hc0_6 : l0_6.length ≤ c0_6) (hr0_7 : Kd.C k116 w A0_7 l0_7.length l0_7) (hc0_7 : l0_7.length ≤ c0_7) (h : laws_toMethod.f k a0_0 a0_1 l0_2 a0_3 a0_4 l0_5 l0_6 l0_7 = some (r1, r2, r3, r4, r5, r6, r7, r8)) :
  Calls Try.prog 41 #[.agg #[.int .i64 a0_0, .int .i64 a0_1, .slice A0_2 l0_2.length c0_2, .int .i64 a0_3, .int .i64 a0_4, .slice A0_5 l0_5.length c0_5, .slice A0_6 l0_6.length c0_6, .slice A0_7 l0_7.length c0_7]] w fun e w' => ∃ v2_ v5_ v6_ v7_ : Value, e = .returned (.agg #[.int .i64 r1, .int .i64 r2, v2_, .int .i64 r4, .int .i64 r5, v5_, v6_, v7_]) ∧ Kd.R (Kd.int .i64) 3 w' w.heap.size (fun _ => True) v2_ r3 ∧ Kd.R k67 67 w' w.heap.size (fun _ => True) v5_ r6 ∧ Kd.S k70 70 w' w.heap.size (fun k_ => some k_ ≠ (v2_ : Value).ownBlock) v6_ r7 ∧ Kd.R k73 73 w' w.heap.size (fun _ => True) v7_ r8 ∧ Below w.heap.size w w' := by
 have hu64 := Try.underlying64
 have hu46 := Try.underlying46
 have HR0_2 := Aside0.mk hr0_2
 have HC0_2 := Aside0.mk hc0_2
 clear hr0_2 hc0_2
 have HR0_5 := Aside0.mk hr0_5
 have HC0_5 := Aside0.mk hc0_5
 clear hr0_5 hc0_5
 have HR0_6 := Aside0.mk hr0_6
 have HC0_6 := Aside0.mk hc0_6
 clear hr0_6 hc0_6
 have HR0_7 := Aside0.mk hr0_7
 have HC0_7 := Aside0.mk hc0_7
 clear hr0_7 hc0_7
 have HB := Aside0.mk (Below.refl w.heap.size w)
 have H : ((laws_toIntS.f k l0_2).bind fun t280 => ((laws_toInsS.f k l0_5).bind fun t283 => ((laws_toShapeS.f k l0_6).bind fun t286 => ((laws_toCatchS.f k l0_7).bind fun t289 => (some (a0_0, a0_1, t280, a0_3, a0_4, t283, t286, t289)))))) = some (r1, r2, r3, r4, r5, r6, r7, r8) := h
 clear h
 obtain ⟨t280, A2, H⟩ := ob H
 obtain ⟨t283, A3, H⟩ := ob H
 obtain ⟨t286, A4, H⟩ := ob H
 obtain ⟨t289, A5, H⟩ := ob H
 simp only [Option.some.injEq, Prod.mk.injEq] at H
 obtain ⟨rfl, rfl, rfl, rfl, rfl, rfl, rfl, rfl⟩ := H
 go_enter Try.func41, Try.ntmps41
 go_wp2_with (first | ((with_reducible refine gd 1 rfl ?_); refine bx 1 #[.int .i64 a0_0, .int .i64 a0_1, .slice A0_2 l0_2.length c0_2, .int .i64 a0_3, .int .i64 a0_4, .slice A0_5 l0_5.length c0_5, .slice A0_6 l0_6.length c0_6, .slice A0_7 l0_7.length c0_7] 64 ?_; intro gb277 hg w6 hbox hb; have BK277 := Aside0.mk hbox; have GW277 := hz HB hg; have GE277 := hz HB hg; replace HB := hs HB hb; clear hb hbox hg) | ((with_reducible refine gd 2 rfl ?_); refine bx 2 #[.int .i64 0, .int .i64 0, .slice none 0 0, .int .i64 0, .int .i64 0, .slice none 0 0, .slice none 0 0, .slice none 0 0] 46 ?_; intro gb278 hg w7 hbox hb; have BK278 := Aside0.mk hbox; have GW278 := hz HB hg; have GE278 := hz HB hg; have NB277_278 := nl BK277 hg; have NB278_277 := ng BK277 hg; replace BK277 := kb BK277 hb; replace HB := hs HB hb; clear hb hbox hg) | ((with_reducible refine gd 3 rfl ?_); refine bx 3 #[.int .i64 0, .int .i64 0, .slice none 0 0, .int .i64 0, .int .i64 0, .slice none 0 0, .slice none 0 0, .slice none 0 0] 46 ?_; intro gb279 hg w8 hbox hb; have BK279 := Aside0.mk hbox; have GW279 := hz HB hg; have GE279 := hz HB hg; have NB277_279 := nl BK277 hg; have NB279_277 := ng BK277 hg; have NB278_279 := nl BK278 hg; have NB279_278 := ng BK278 hg; replace BK277 := kb BK277 hb; replace BK278 := kb BK278 hb; replace HB := hs HB hb; clear hb hbox hg; have hnb9 := NB277_278.out; have hnc9 := NB278_277.out; have hnb10 := NB277_279.out; have hnc10 := NB279_277.out; obtain ⟨_,_,_,_,_,_,_,_,_,_,_,_,_,_,_,_⟩ := cf8 BK277; have hnb12 := NB279_278.out; have hnc12 := NB278_279.out; obtain ⟨_,_,_,_,_,_,_,_,_,_,_,_,_,_,_,_⟩ := cf8 BK279) | ((with_reducible refine gc 58 rfl ?_); refine gl (some 12) Try.func58 #[.slice A0_2 l0_2.length c0_2] rfl ?_; (with_reducible refine (laws_toIntS.calls k _ _ l0_2 t280 _ ?side1 ?side2 A2.out).mono ?_); (case side1 => exact cb HR0_2.out); (case side2 => exact HC0_2.out); rintro e w14 ⟨v281, rfl, ho0, hb⟩; refine ⟨_, rfl, ?_⟩; have HO282 := Aside0.mk (Kd.R_lower ho0 (below_size bl)); replace BK277 := kq BK277 hb; replace BK278 := kq BK278 hb; replace BK279 := kp gb279 #[.int .i64 a0_0, .int .i64 a0_1, .slice none 0 0, .int .i64 0, .int .i64 0, .slice none 0 0, .slice none 0 0, .slice none 0 0] 46 hb; replace HB := hs HB hb; (try clear hb); (try clear ho0); obtain ⟨Ao15, co15, eo15⟩ := Kd.R_slice HO282.out; subst eo15; obtain ⟨_,_,_,_,_,_,_,_,_,_,_,_,_,_,_,_⟩ := cf8 BK279; obtain ⟨_,_,_,_,_,_,_,_,_,_,_,_,_,_,_,_⟩ := cf8 BK277) | ((with_reducible refine gc 59 rfl ?_); refine gl (some 22) Try.func59 #[.slice A0_5 l0_5.length c0_5] rfl ?_; (with_reducible refine (laws_toInsS.calls k _ _ l0_5 t283 _ ?side1 ?side2 A3.out).mono ?_); (case side1 => exact cb HR0_5.out); (case side2 => exact HC0_5.out); rintro e w18 ⟨v284, rfl, ho0, hb⟩; refine ⟨_, rfl, ?_⟩; have HO285 := Aside0.mk (Kd.R_lower ho0 (below_size bl)); replace HO282 := Aside0.mk (Kd.R_below (by (with_reducible repeat (first | apply Kd.R_alloc | apply Kd.R_drewN | apply Kd.R_drew)); exact (Kd.R_mono (Kd.R_far (p := ⟨gb279, 4, none⟩) (Kd.R_far (p := ⟨gb279, 3, none⟩) (Kd.R_far (p := ⟨gb279, 2, none⟩) (Kd.R_types HO282.out BK279.out (by decide)) (fun _ hk => hk.2) (.slice Ao15 t280.length co15)) (fun _ hk => hk.2) (.int .i64 a0_3)) (fun _ hk => hk.2) (.int .i64 a0_4)) (fun _ h_ => h_.1))) hb); replace BK277 := kq BK277 hb; replace BK278 := kq BK278 hb; replace BK279 := kp gb279 #[.int .i64 a0_0, .int .i64 a0_1, .slice Ao15 t280.length co15, .int .i64 a0_3, .int .i64 a0_4, .slice none 0 0, .slice none 0 0, .slice none 0 0] 46 hb; replace HB := hs HB hb; (try clear hb); (try clear hk); (try clear ho0); obtain ⟨Ao19, co19, eo19⟩ := Kd.R_slice HO285.out; subst eo19; obtain ⟨_,_,_,_,_,_,_,_,_,_,_,_,_,_,_,_⟩ := cf8 BK279; obtain ⟨_,_,_,_,_,_,_,_,_,_,_,_,_,_,_,_⟩ := cf8 BK277) | ((with_reducible refine gc 60 rfl ?_); refine gl (some 26) Try.func60 #[.slice A0_6 l0_6.length c0_6] rfl ?_; (with_reducible refine (laws_toShapeS.calls k _ _ l0_6 t286 _ ?side1 ?side2 A4.out).mono ?_); (case side1 => exact cb HR0_6.out); (case side2 => exact HC0_6.out); rintro e w22 ⟨v287, rfl, ho0, hb⟩; refine ⟨_, rfl, ?_⟩; have HO288 := Aside0.mk (Kd.S_lower (Kd.S_new' ho0 (Kd.R_lt (by (with_reducible repeat (first | apply Kd.R_alloc | apply Kd.R_drewN | apply Kd.R_drew)); exact (Kd.R_mono (Kd.R_far (p := ⟨gb279, 5, none⟩) (Kd.R_types HO282.out BK279.out (by decide)) (fun _ hk => hk.2) (.slice Ao19 t283.length co19)) (fun _ h_ => h_.1))))) (below_size bl)); replace HO282 := Aside0.mk (Kd.R_below (by (with_reducible repeat (first | apply Kd.R_alloc | apply Kd.R_drewN | apply Kd.R_drew)); exact (Kd.R_mono (Kd.R_far (p := ⟨gb279, 5, none⟩) (Kd.R_types HO282.out BK279.out (by decide)) (fun _ hk => hk.2) (.slice Ao19 t283.length co19)) (fun _ h_ => h_.1))) hb); replace HO285 := Aside0.mk (Kd.R_below (by (with_reducible repeat (first | apply Kd.R_alloc | apply Kd.R_drewN | apply Kd.R_drew)); exact (Kd.R_mono (Kd.R_far (p := ⟨gb279, 5, none⟩) (Kd.R_types HO285.out BK279.out (by decide)) (fun _ hk => hk.2) (.slice Ao19 t283.length co19)) (fun _ h_ => h_.1))) hb); replace BK277 := kq BK277 hb; replace BK278 := kq BK278 hb; replace BK279 := kp gb279 #[.int .i64 a0_0, .int .i64 a0_1, .slice Ao15 t280.length co15, .int .i64 a0_3, .int .i64 a0_4, .slice Ao19 t283.length co19, .slice none 0 0, .slice none 0 0] 46 hb; replace HB := hs HB hb; (try clear hb); (try clear hk); (try clear ho0); obtain ⟨Ao23, co23, eo23⟩ := Kd.S_slice HO288.out; subst eo23; obtain ⟨_,_,_,_,_,_,_,_,_,_,_,_,_,_,_,_⟩ := cf8 BK279; obtain ⟨_,_,_,_,_,_,_,_,_,_,_,_,_,_,_,_⟩ := cf8 BK277) | ((with_reducible refine gc 61 rfl ?_); refine gl (some 30) Try.func61 #[.slice A0_7 l0_7.length c0_7] rfl ?_; (with_reducible refine (laws_toCatchS.calls k _ _ l0_7 t289 _ ?side1 ?side2 A5.out).mono ?_); (case side1 => exact cb HR0_7.out); (case side2 => exact HC0_7.out); rintro e w26 ⟨v290, rfl, ho0, hb⟩; refine ⟨_, rfl, ?_⟩; have HO291 := Aside0.mk (Kd.R_lower ho0 (below_size bl)); replace HO282 := Aside0.mk (Kd.R_below (by (with_reducible repeat (first | apply Kd.R_alloc | apply Kd.R_drewN | apply Kd.R_drew)); exact (Kd.R_mono (Kd.R_far (p := ⟨gb279, 6, none⟩) (Kd.R_types HO282.out BK279.out (by decide)) (fun _ hk => hk.2) (.slice Ao23 t286.length co23)) (fun _ h_ => h_.1))) hb); replace HO285 := Aside0.mk (Kd.R_below (by (with_reducible repeat (first | apply Kd.R_alloc | apply Kd.R_drewN | apply Kd.R_drew)); exact (Kd.R_mono (Kd.R_far (p := ⟨gb279, 6, none⟩) (Kd.R_types HO285.out BK279.out (by decide)) (fun _ hk => hk.2) (.slice Ao23 t286.length co23)) (fun _ h_ => h_.1))) hb); replace HO288 := Aside0.mk (Kd.S_below (by (with_reducible repeat (first | apply Kd.S_alloc | apply Kd.S_drewN | apply Kd.S_drew)); exact (Kd.S_mono (Kd.S_far (p := ⟨gb279, 6, none⟩) (Kd.S_types HO288.out BK279.out (by decide)) (fun _ hk => hk.2) (.slice Ao23 t286.length co23)) (fun _ h_ => h_.1))) hb); replace BK277 := kq BK277 hb; replace BK278 := kq BK278 hb; replace BK279 := kp gb279 #[.int .i64 a0_0, .int .i64 a0_1, .slice Ao15 t280.length co15, .int .i64 a0_3, .int .i64 a0_4, .slice Ao19 t283.length co19, .slice Ao23 t286.length co23, .slice none 0 0] 46 hb; replace HB := hs HB hb; (try clear hb); (try clear hk); (try clear ho0); obtain ⟨Ao27, co27, eo27⟩ := Kd.R_slice HO291.out; subst eo27; obtain ⟨_,_,_,_,_,_,_,_,_,_,_,_,_,_,_,_⟩ := cf8 BK279; obtain ⟨_,_,_,_,_,_,_,_,_,_,_,_,_,_,_,_⟩ := cf8 BK278))
 refine bodyPost_ret (results_cell_row rfl _ _ gb278 46 #[.int .i64 a0_0, .int .i64 a0_1, .slice Ao15 t280.length co15, .int .i64 a0_3, .int .i64 a0_4, .slice Ao19 t283.length co19, .slice Ao23 t286.length co23, .slice Ao27 t289.length co27] (0, 0) _ rfl (by (with_reducible repeat (first | refine blk_drewN ?_ _ | refine blk_drew ?_ | refine blk_alloc ?_ _)); refine blk_put (cs := #[.int .i64 a0_0, .int .i64 a0_1, .slice Ao15 t280.length co15, .int .i64 a0_3, .int .i64 a0_4, .slice Ao19 t283.length co19, .slice Ao23 t286.length co23, .slice none 0 0]) ?_ 7 _ rfl; (with_reducible repeat (first | refine blk_drewN ?_ _ | refine blk_drew ?_ | refine blk_alloc ?_ _)); refine blk_put (cs := #[.int .i64 a0_0, .int .i64 a0_1, .slice Ao15 t280.length co15, .int .i64 a0_3, .int .i64 a0_4, .slice Ao19 t283.length co19, .slice none 0 0, .slice none 0 0]) ?_ 6 _ rfl; (with_reducible repeat (first | refine blk_drewN ?_ _ | refine blk_drew ?_ | refine blk_alloc ?_ _)); refine blk_put (cs := #[.int .i64 a0_0, .int .i64 a0_1, .slice Ao15 t280.length co15, .int .i64 a0_3, .int .i64 a0_4, .slice none 0 0, .slice none 0 0, .slice none 0 0]) ?_ 5 _ rfl; (with_reducible repeat (first | refine blk_drewN ?_ _ | refine blk_drew ?_ | refine blk_alloc ?_ _)); refine blk_put (cs := #[.int .i64 a0_0, .int .i64 a0_1, .slice Ao15 t280.length co15, .int .i64 a0_3, .int .i64 0, .slice none 0 0, .slice none 0 0, .slice none 0 0]) ?_ 4 _ rfl; (with_reducible repeat (first | refine blk_drewN ?_ _ | refine blk_drew ?_ | refine blk_alloc ?_ _)); refine blk_put (cs := #[.int .i64 a0_0, .int .i64 a0_1, .slice Ao15 t280.length co15, .int .i64 0, .int .i64 0, .slice none 0 0, .slice none 0 0, .slice none 0 0]) ?_ 3 _ rfl; (with_reducible repeat (first | refine blk_drewN ?_ _ | refine blk_drew ?_ | refine blk_alloc ?_ _)); refine blk_put (cs := #[.int .i64 a0_0, .int .i64 a0_1, .slice none 0 0, .int .i64 0, .int .i64 0, .slice none 0 0, .slice none 0 0, .slice none 0 0]) ?_ 2 _ rfl; (with_reducible repeat (first | refine blk_drewN ?_ _ | refine blk_drew ?_ | refine blk_alloc ?_ _)); refine blk_put (cs := #[.int .i64 a0_0, .int .i64 0, .slice none 0 0, .int .i64 0, .int .i64 0, .slice none 0 0, .slice none 0 0, .slice none 0 0]) ?_ 1 _ rfl; (with_reducible repeat (first | refine blk_drewN ?_ _ | refine blk_drew ?_ | refine blk_alloc ?_ _)); refine blk_put (cs := #[.int .i64 0, .int .i64 0, .slice none 0 0, .int .i64 0, .int .i64 0, .slice none 0 0, .slice none 0 0, .slice none 0 0]) ?_ 0 _ rfl; (with_reducible repeat (first | refine blk_drewN ?_ _ | refine blk_drew ?_ | refine blk_alloc ?_ _)); refine blk_far ?_ NB278_279.out _; (with_reducible repeat (first | refine blk_drewN ?_ _ | refine blk_drew ?_ | refine blk_alloc ?_ _)); exact BK278.out) Try.underlying46 rfl (by kernel_rfl)) rfl ?_
 exact ⟨_, _, _, _, by first | rfl | (simp [errW_none, errW_some] <;> rfl) | (simp [*, errW_none, errW_some] <;> rfl), by (with_reducible repeat (first | apply Kd.R_alloc | apply Kd.R_drewN | apply Kd.R_drew)); exact Kd.R_mono (Kd.R_far (p := ⟨gb278, 7, none⟩) (Kd.R_far (p := ⟨gb278, 6, none⟩) (Kd.R_far (p := ⟨gb278, 5, none⟩) (Kd.R_far (p := ⟨gb278, 4, none⟩) (Kd.R_far (p := ⟨gb278, 3, none⟩) (Kd.R_far (p := ⟨gb278, 2, none⟩) (Kd.R_far (p := ⟨gb278, 1, none⟩) (Kd.R_far (p := ⟨gb278, 0, none⟩) (Kd.R_far (p := ⟨gb279, 7, none⟩) (Kd.R_types (Kd.R_types HO282.out BK279.out (by decide)) BK278.out (by decide)) (fun _ hk => hk.1.2) (.slice Ao27 t289.length co27)) (fun _ hk => hk.2) (.int .i64 a0_0)) (fun _ hk => hk.2) (.int .i64 a0_1)) (fun _ hk => hk.2) (.slice Ao15 t280.length co15)) (fun _ hk => hk.2) (.int .i64 a0_3)) (fun _ hk => hk.2) (.int .i64 a0_4)) (fun _ hk => hk.2) (.slice Ao19 t283.length co19)) (fun _ hk => hk.2) (.slice Ao23 t286.length co23)) (fun _ hk => hk.2) (.slice Ao27 t289.length co27)) (fun _ hk => trivial), by (with_reducible repeat (first | apply Kd.R_alloc | apply Kd.R_drewN | apply Kd.R_drew)); exact Kd.R_mono (Kd.R_far (p := ⟨gb278, 7, none⟩) (Kd.R_far (p := ⟨gb278, 6, none⟩) (Kd.R_far (p := ⟨gb278, 5, none⟩) (Kd.R_far (p := ⟨gb278, 4, none⟩) (Kd.R_far (p := ⟨gb278, 3, none⟩) (Kd.R_far (p := ⟨gb278, 2, none⟩) (Kd.R_far (p := ⟨gb278, 1, none⟩) (Kd.R_far (p := ⟨gb278, 0, none⟩) (Kd.R_far (p := ⟨gb279, 7, none⟩) (Kd.R_types (Kd.R_types HO285.out BK279.out (by decide)) BK278.out (by decide)) (fun _ hk => hk.1.2) (.slice Ao27 t289.length co27)) (fun _ hk => hk.2) (.int .i64 a0_0)) (fun _ hk => hk.2) (.int .i64 a0_1)) (fun _ hk => hk.2) (.slice Ao15 t280.length co15)) (fun _ hk => hk.2) (.int .i64 a0_3)) (fun _ hk => hk.2) (.int .i64 a0_4)) (fun _ hk => hk.2) (.slice Ao19 t283.length co19)) (fun _ hk => hk.2) (.slice Ao23 t286.length co23)) (fun _ hk => hk.2) (.slice Ao27 t289.length co27)) (fun _ hk => trivial), by (with_reducible repeat (first | apply Kd.S_alloc | apply Kd.S_drewN | apply Kd.S_drew)); exact Kd.S_mono (Kd.S_far (p := ⟨gb278, 7, none⟩) (Kd.S_far (p := ⟨gb278, 6, none⟩) (Kd.S_far (p := ⟨gb278, 5, none⟩) (Kd.S_far (p := ⟨gb278, 4, none⟩) (Kd.S_far (p := ⟨gb278, 3, none⟩) (Kd.S_far (p := ⟨gb278, 2, none⟩) (Kd.S_far (p := ⟨gb278, 1, none⟩) (Kd.S_far (p := ⟨gb278, 0, none⟩) (Kd.S_far (p := ⟨gb279, 7, none⟩) (Kd.S_types (Kd.S_types HO288.out BK279.out (by decide)) BK278.out (by decide)) (fun _ hk => hk.1.2) (.slice Ao27 t289.length co27)) (fun _ hk => hk.2) (.int .i64 a0_0)) (fun _ hk => hk.2) (.int .i64 a0_1)) (fun _ hk => hk.2) (.slice Ao15 t280.length co15)) (fun _ hk => hk.2) (.int .i64 a0_3)) (fun _ hk => hk.2) (.int .i64 a0_4)) (fun _ hk => hk.2) (.slice Ao19 t283.length co19)) (fun _ hk => hk.2) (.slice Ao23 t286.length co23)) (fun _ hk => hk.2) (.slice Ao27 t289.length co27)) (fun _ hk => hk.1.1.2), by (with_reducible repeat (first | apply Kd.R_alloc | apply Kd.R_drewN | apply Kd.R_drew)); exact Kd.R_mono (Kd.R_far (p := ⟨gb278, 7, none⟩) (Kd.R_far (p := ⟨gb278, 6, none⟩) (Kd.R_far (p := ⟨gb278, 5, none⟩) (Kd.R_far (p := ⟨gb278, 4, none⟩) (Kd.R_far (p := ⟨gb278, 3, none⟩) (Kd.R_far (p := ⟨gb278, 2, none⟩) (Kd.R_far (p := ⟨gb278, 1, none⟩) (Kd.R_far (p := ⟨gb278, 0, none⟩) (Kd.R_far (p := ⟨gb279, 7, none⟩) (Kd.R_types (Kd.R_types HO291.out BK279.out (by decide)) BK278.out (by decide)) (fun _ hk => hk.1.2) (.slice Ao27 t289.length co27)) (fun _ hk => hk.2) (.int .i64 a0_0)) (fun _ hk => hk.2) (.int .i64 a0_1)) (fun _ hk => hk.2) (.slice Ao15 t280.length co15)) (fun _ hk => hk.2) (.int .i64 a0_3)) (fun _ hk => hk.2) (.int .i64 a0_4)) (fun _ hk => hk.2) (.slice Ao19 t283.length co19)) (fun _ hk => hk.2) (.slice Ao23 t286.length co23)) (fun _ hk => hk.2) (.slice Ao27 t289.length co27)) (fun _ hk => trivial), bl⟩
end Go.Proofs.Ytedodaifpekahaa.P

end
