/- A part of the claim FnShapeOrder: texts of this session and texts that its program printed out of the translation, joined. -/
import Derived.Test.YtchegijjjakmpaaCFnShapeOrder22
import Derived.WalkSpells
import Derived.WalkLawsBesides
import Derived.Outline
import Derived.Test.YtchegijjjakmpaaCFnShapeOrder0
import Derived.Test.YtchegijjjakmpaaCFnShapeOrder1
import Derived.Test.YtchegijjjakmpaaCFnShapeOrder2
import Derived.Test.YtchegijjjakmpaaCFnShapeOrder3
import Derived.Test.YtchegijjjakmpaaCFnShapeOrder4
import Derived.Test.YtchegijjjakmpaaCFnShapeOrder5
import Derived.Test.YtchegijjjakmpaaCFnShapeOrder6
import Derived.Test.YtchegijjjakmpaaCFnShapeOrder7
import Derived.Test.YtchegijjjakmpaaCFnShapeOrder8
import Derived.Test.YtchegijjjakmpaaCFnShapeOrder9
import Derived.Test.YtchegijjjakmpaaCFnShapeOrder10
import Derived.Test.YtchegijjjakmpaaCFnShapeOrder11
import Derived.Test.YtchegijjjakmpaaCFnShapeOrder12
import Derived.Test.YtchegijjjakmpaaCFnShapeOrder13
import Derived.Test.YtchegijjjakmpaaCFnShapeOrder14
import Derived.Test.YtchegijjjakmpaaCFnShapeOrder15
import Derived.Test.YtchegijjjakmpaaCFnShapeOrder16
import Derived.Test.YtchegijjjakmpaaCFnShapeOrder17
import Derived.Test.YtchegijjjakmpaaCFnShapeOrder18
import Derived.Test.YtchegijjjakmpaaCFnShapeOrder19
import Derived.Test.YtchegijjjakmpaaCFnShapeOrder20
import Derived.Test.YtchegijjjakmpaaCFnShapeOrder21
import Derived.Test.YtchegijjjakmpaaCFnShapeOrder23
import Derived.Test.YtchegijjjakmpaaCFnShapeOrder24
import Derived.Test.YtchegijjjakmpaaCFnShapeOrder25
import Derived.Test.YtchegijjjakmpaaCFnShapeOrder26
import Derived.Test.YtchegijjjakmpaaCFnShapeOrder27
import Derived.Test.YtchegijjjakmpaaCFnShapeOrder28
import Derived.Test.YtchegijjjakmpaaCFnShapeOrder29
section

namespace Go.Proofs.Ytchegijjjakmpaa.P
open Go Go.RowKit Go.Proofs.YtchegijjjakmpaaW.PrintWords
set_option linter.unusedVariables false
set_option maxRecDepth 100000
set_option linter.unusedSimpArgs false
theorem kindW_8 {r : Int} (h : 8 ≤ r) : kindW r = .iface 62 (.agg #[.int .i64 (r - 8)]) := by
  unfold kindW
  rw [if_neg (by omega), if_neg (by omega), if_neg (by omega), if_neg (by omega), if_neg (by omega), if_neg (by omega)]
set_option maxHeartbeats 2000000 in
set_option maxRecDepth 100000 in
theorem impl_kindOf.calls' (a0 a1 r : Int) (w : World) (h : impl_kindOf.f a0 a1 = some r) :
    Calls Try.prog 33 #[.int .i64 a0, .int .i64 a1] w fun e w' => e = .returned (kindW r) ∧ w = w' := by
  unfold impl_kindOf.f at h
  split at h
  · rename_i hb
    obtain ⟨h0, h1, h2, h3⟩ := hb
    by_cases c0 : a1 = 0
    · subst c0
      obtain rfl : 0 = r := by simpa using h
      go_enter Try.func33, Try.ntmps33
      go_wp2
      go_ret
      exact ⟨rfl, rfl⟩
    by_cases c1 : a1 = 1
    · subst c1
      obtain rfl : 1 = r := by simpa using h
      go_enter Try.func33, Try.ntmps33
      go_wp2
      go_ret
      exact ⟨rfl, rfl⟩
    by_cases c2 : a1 = 2
    · subst c2
      obtain rfl : 2 = r := by simpa using h
      go_enter Try.func33, Try.ntmps33
      go_wp2
      go_ret
      exact ⟨rfl, rfl⟩
    by_cases c3 : a1 = 3
    · subst c3
      obtain rfl : 3 = r := by simpa using h
      go_enter Try.func33, Try.ntmps33
      go_wp2
      go_ret
      exact ⟨rfl, rfl⟩
    by_cases c4 : a1 = 4
    · subst c4
      obtain rfl : 4 = r := by simpa using h
      go_enter Try.func33, Try.ntmps33
      go_wp2
      go_ret
      exact ⟨rfl, rfl⟩
    rw [if_neg c0, if_neg c1, if_neg c2, if_neg c3, if_neg c4] at h
    have b0 : (a1 == 0) = false := by simpa using c0
    have b1 : (a1 == 1) = false := by simpa using c1
    have b2 : (a1 == 2) = false := by simpa using c2
    have b3 : (a1 == 3) = false := by simpa using c3
    have b4 : (a1 == 4) = false := by simpa using c4
    clear c0 c1 c2 c3 c4
    by_cases c5 : 8 ≤ a1
    · by_cases c6 : a1 < 8 + a0
      · rw [if_pos ⟨c5, c6⟩] at h
        obtain rfl := Option.some.inj h
        have H8 := Aside0.mk (kindW_8 c5)
        clear h
        go_enter Try.func33, Try.ntmps33
        go_wp2
        go_ret
        exact ⟨by rw [H8.out]; rfl, rfl⟩
      · rw [if_neg (by omega)] at h
        obtain rfl := Option.some.inj h
        go_enter Try.func33, Try.ntmps33
        go_wp2
        go_ret
        exact ⟨rfl, rfl⟩
    · rw [if_neg (by omega)] at h
      obtain rfl := Option.some.inj h
      go_enter Try.func33, Try.ntmps33
      go_wp2
      go_ret
      exact ⟨rfl, rfl⟩
  · cases h
theorem impl_kindOf.calls (a0 a1 r : Int) (w : World) (h : impl_kindOf.f a0 a1 = some r) :
    Calls Try.prog 33 #[.int .i64 a0, .int .i64 a1] w fun e w' => e = .returned (kindW r) ∧ Drawn0 w w' :=
  (impl_kindOf.calls' a0 a1 r w h).mono fun e w' ⟨he, hw⟩ => ⟨he, hw ▸ Drawn0.refl w⟩
theorem kindOf_cases {c t r : Int} (h : impl_kindOf.f c t = some r) : r = -1 ∨ r = 0 ∨ r = 1 ∨ r = 2 ∨ r = 3 ∨ r = 4 ∨ (8 ≤ r ∧ r < 8 + c) := by
  unfold impl_kindOf.f at h
  split at h
  · repeat' split at h
    all_goals (have := Option.some.inj h; omega)
  · cases h
set_option maxRecDepth 100000 in
theorem kindEql (r : Int) (W : World) : (binOp .eql 55 (kindW r) .nilIface).run Try.prog W = .ok (.bool (r == -1)) W := by
  by_cases h : r = -1
  · subst h; rfl
  · have e : (r == -1) = false := by simpa using h
    rw [e]
    unfold kindW
    rw [if_neg h]
    repeat' split
    all_goals rfl
set_option maxRecDepth 100000 in
theorem kindNeq (r : Int) (W : World) : (binOp .neq 55 (kindW r) .nilIface).run Try.prog W = .ok (.bool (r != -1)) W := by
  by_cases h : r = -1
  · subst h; rfl
  · have e : (r != -1) = true := by simpa using h
    rw [e]
    unfold kindW
    rw [if_neg h]
    repeat' split
    all_goals rfl
theorem kindIface {r : Int} (h : r ≠ -1) : ∃ u x, kindW r = .iface u x := by
  unfold kindW
  rw [if_neg h]
  repeat' split
  all_goals exact ⟨_, _, rfl⟩
theorem guardNilE (r : Int) (t : TypeId) (o : Operand) (W : World) : (eqGuard .eql t o (.const .nilIface) (kindW r) .nilIface).run Try.prog W = .ok () W := by
  by_cases h : r = -1
  · subst h
    cases o <;> rfl
  · obtain ⟨u, x, e⟩ := kindIface h
    rw [e]; rfl
theorem guardNilN (r : Int) (t : TypeId) (o : Operand) (W : World) : (eqGuard .neq t o (.const .nilIface) (kindW r) .nilIface).run Try.prog W = .ok () W := by
  by_cases h : r = -1
  · subst h
    cases o <;> rfl
  · obtain ⟨u, x, e⟩ := kindIface h
    rw [e]; rfl
def KindNo (r : Int) : Prop := r = -1 ∨ r = 0 ∨ r = 1 ∨ r = 2 ∨ r = 3 ∨ r = 4 ∨ 8 ≤ r
theorem assertInt {r : Int} (h : KindNo r) (W : World) : (Instr.typeAssert (kindW r) 55 58 true).run Try.prog W = .ok (.tuple #[.agg #[], .bool (r == 1)]) W := by
  rcases h with rfl | rfl | rfl | rfl | rfl | rfl | h
  all_goals try rfl
  rw [kindW_8 h, show (r == 1) = false by simp; omega]; rfl
theorem assertNull {r : Int} (h : KindNo r) (W : World) : (Instr.typeAssert (kindW r) 55 66 true).run Try.prog W = .ok (.tuple #[.agg #[], .bool (r == 2)]) W := by
  rcases h with rfl | rfl | rfl | rfl | rfl | rfl | h
  all_goals try rfl
  rw [kindW_8 h, show (r == 2) = false by simp; omega]; rfl
theorem assertArray {r : Int} (h : KindNo r) (W : World) : (Instr.typeAssert (kindW r) 55 60 true).run Try.prog W = .ok (.tuple #[.agg #[.bool (r == 4)], .bool (r == 3 || r == 4)]) W := by
  rcases h with rfl | rfl | rfl | rfl | rfl | rfl | h
  all_goals try rfl
  rw [kindW_8 h, show (r == 3) = false by simp; omega, show (r == 4) = false by simp; omega]; rfl
theorem assertClass {r : Int} (h : KindNo r) (W : World) : (Instr.typeAssert (kindW r) 55 62 true).run Try.prog W = .ok (.tuple #[.agg #[.int .i64 (if 8 ≤ r then r - 8 else 0)], .bool (decide (8 ≤ r))]) W := by
  rcases h with rfl | rfl | rfl | rfl | rfl | rfl | h
  all_goals try rfl
  rw [kindW_8 h, if_pos h, decide_eq_true h]; rfl
set_option maxHeartbeats 2000000 in
set_option maxRecDepth 100000 in
theorem impl_fieldType.calls (a0 a1 : Int) (r : Bool) (w : World) (h : impl_fieldType.f a0 a1 = some r) :
    Calls Try.prog 23 #[.int .i64 a0, .int .i64 a1] w fun e w' => e = .returned (.bool r) ∧ Drawn0 w w' := by
  unfold impl_fieldType.f at h
  obtain ⟨q, hq, hr⟩ := Option.bind_eq_some_iff.1 h
  obtain rfl := Option.some.inj hr
  clear h hr
  have hc : KindNo q := by have := kindOf_cases hq; unfold KindNo; omega
  have A := Aside0.mk hq
  clear hq
  have s1 := assertInt hc
  have s2 := assertArray hc
  have s3 := assertClass hc
  have b : (q == 1 || (q == 3 || q == 4) || decide (8 ≤ q)) = decide (q = 1 ∨ q = 3 ∨ q = 4 ∨ 8 ≤ q) := by
    rw [Bool.eq_iff_iff]; simp; omega
  have B := Aside0.mk b
  clear b hc
  rw [← B.out]
  clear B
  by_cases h1 : q = 1
  · subst h1
    go_enter Try.func23, Try.ntmps23
    go_wp2_with (go_at_call 33; refine (impl_kindOf.calls' _ _ _ _ A.out).mono ?_; rintro e w' ⟨rfl, rfl⟩)
    go_ret
    exact ⟨rfl, Drawn0.refl _⟩
  · have b1 : (q == 1) = false := by simpa using h1
    by_cases h2 : (q == 3 || q == 4) = true
    · go_enter Try.func23, Try.ntmps23
      go_wp2_with (go_at_call 33; refine (impl_kindOf.calls' _ _ _ _ A.out).mono ?_; rintro e w' ⟨rfl, rfl⟩)
      all_goals go_ret
      all_goals exact ⟨by simp [h2], Drawn0.refl _⟩
    · have b2 : (q == 3 || q == 4) = false := by simpa using h2
      by_cases h3 : 8 ≤ q
      · have b3 : decide (8 ≤ q) = true := decide_eq_true h3
        go_enter Try.func23, Try.ntmps23
        go_wp2_with (go_at_call 33; refine (impl_kindOf.calls' _ _ _ _ A.out).mono ?_; rintro e w' ⟨rfl, rfl⟩)
        all_goals go_ret
        all_goals exact ⟨by simp [*], Drawn0.refl _⟩
      · have b3 : decide (8 ≤ q) = false := decide_eq_false h3
        go_enter Try.func23, Try.ntmps23
        go_wp2_with (go_at_call 33; refine (impl_kindOf.calls' _ _ _ _ A.out).mono ?_; rintro e w' ⟨rfl, rfl⟩)
        all_goals go_ret
        all_goals exact ⟨by simp [*], Drawn0.refl _⟩
end Go.Proofs.Ytchegijjjakmpaa.P

end
section

namespace Go.Proofs.Ytchegijjjakmpaa.P
open Go.RowKit Go.Proofs.YtchegijjjakmpaaW.PrintWords Go.Proofs.YtchegijjjakmpaaW.PrintLast Go.Proofs.YtchegijjjakmpaaW.PrintMore
attribute [local go_sem] max2_int min2_int max_two min_two max_three min_three max_four min_four
set_option linter.unusedVariables false
set_option linter.unusedSimpArgs false
set_option maxHeartbeats 8000000 in
set_option maxRecDepth 100000 in
theorem impl_ClassesOk.calls (k : Nat) (A0 : Option Addr) (c0 : Nat) (l0 : List (S48)) (r : Bool) (w : World) (hr0 : Kd.C k48 w A0 l0.length l0) (hc0 : l0.length ≤ c0) (h : impl_ClassesOk.f k l0 = some r) :
  Calls Try.prog 13 #[.slice A0 l0.length c0] w fun e w' => e = .returned (.bool r) ∧ Below w.heap.size w w' := by
 have hu48 := Try.underlying48
 have HR0 := Aside0.mk hr0
 have HC0 := Aside0.mk hc0
 clear hr0 hc0
 have HB := Aside0.mk (Below.refl w.heap.size w)
 have H : (if (l0.length : Int) < 2 then (impl_ClassesOk.j0 k l0 true) else (impl_ClassesOk.j0 k l0 (decide ((l0.length : Int) > 5)))) = some r := h
 clear h
 have HC2 := Aside0.mk H
 clear H
 go_enter Try.func13, Try.ntmps13
 go_upto_region 1 with (fail)
 go_cut [15] (fun v15 wc => ∃ (kq : Nat) (x15_1 : Bool), v15 = .bool x15_1 ∧ Aside0 (impl_ClassesOk.j0 kq l0 x15_1 = some r) ∧ Aside0 (kq ≤ k) ∧ Aside0 (Below w.heap.size w wc))
 case first =>
  have H := HC2.out
  clear HC2
  by_cases c3 : (l0.length : Int) < 2
  ·rw [if_pos c3] at H
   have c3b0 : decide ((l0.length : Int) < 2) = true := decide_eq_true c3
   have c3b1 : decide (l0.length < 2) = true := decide_eq_true (by omega)
   clear c3
   (first | rw [c3b0] | (simp only [i64_w, i32_w]; rw [c3b0]) | skip)
   have H' := Aside0.mk H
   clear H
   go_wp2
   go_meet
   case rel => exact ⟨_, (true), (by first | rfl | (simp; done) | (simp [*]; done)), H', ⟨by first | omega | exact Nat.le_refl _⟩, ⟨bl⟩⟩
  ·rw [if_neg c3] at H
   have c3b0 : decide ((l0.length : Int) < 2) = false := decide_eq_false c3
   have c3b1 : decide (l0.length < 2) = false := decide_eq_false (by omega)
   clear c3
   (first | rw [c3b0] | (simp only [i64_w, i32_w]; rw [c3b0]) | skip)
   have H' := Aside0.mk H
   clear H
   go_wp2
   go_meet
   case rel => exact ⟨_, (decide ((l0.length : Int) > 5)), (by first | rfl | (simp; done) | (simp [*]; done)), H', ⟨by first | omega | exact Nat.le_refl _⟩, ⟨bl⟩⟩
 case rest =>
  clear HC2
  obtain ⟨kq, x15_1, rfl, HA, HJ1, HB⟩ := hcut
  cases kq with
  | zero => exact absurd HA.out (by simp [impl_ClassesOk.j0])
  | succ kj1 =>
   have H := HA.out
   clear HA
   simp only [impl_ClassesOk.j0] at H
   by_cases c4 : x15_1 = true
   ·subst c4
    replace H := it H
    obtain rfl := Option.some.inj H; clear H
    go_wp2
    go_ret
    exact fin
   ·replace c4 := Bool.eq_false_iff.mpr c4
    subst c4
    replace H := ie H
    have HC5 := Aside0.mk H
    clear H
    go_upto_region 3 with (fail)
    go_cut [28] (fun v28 wc => ∃ (kq : Nat) (x28_4 : Bool), v28 = .bool x28_4 ∧ Aside0 (impl_ClassesOk.j1 kq l0 x28_4 = some r) ∧ Aside0 (kq ≤ kj1) ∧ Aside0 (Below w.heap.size w wc))
    case first =>
     have H := HC5.out
     clear HC5
     by_cases c6 : 0 < (l0.length : Int)
     ·rw [if_pos c6] at H
      have c6b0 : decide (0 < (l0.length : Int)) = true := decide_eq_true c6
      have c6b1 : decide (0 < l0.length) = true := decide_eq_true (by omega)
      clear c6
      (first | rw [c6b0] | (simp only [i64_w, i32_w]; rw [c6b0]) | skip)
      by_cases c7 : ((rd_T48 l0 0).f0) = (-1)
      ·rw [if_pos c7] at H
       have c7b0 := beq_iff_eq.mpr c7
       have c7b1 := bne_eq_false_iff_eq.mpr c7
       clear c7
       have H' := Aside0.mk H
       clear H
       have p343 : 0 ≤ (0 : Int) := (by omega)
       have q343 : 0 < (l0.length : Int) := od
       obtain ⟨ad343, A343_1, c343_1, e343, hx343_0, hx343_1, hl343_1, hi343_1⟩ := at_T48 HR0.out 0 p343 q343
       cases e343
       have qi343 : (0 < l0.length) = True := eq_true (by omega)
       (try rw [show ((0 : Int)).toNat = 0 from rfl] at hx343_0)
       (try rw [show 0 * 2 = 0 from rfl] at hx343_0)
       (try rw [Addr.add_zero'] at hx343_0)
       (try rw [show ((0 : Int)).toNat = 0 from rfl] at hx343_1)
       (try rw [show 0 * 2 = 0 from rfl] at hx343_1)
       (try rw [Addr.add_zero'] at hx343_1)
       obtain ⟨hx343_0,hx343_1⟩ := hc2 HB hx343_0 hx343_1
       have HR343_1 := Aside0.mk hi343_1
       have HC343_1 := Aside0.mk hl343_1
       clear hi343_1 hl343_1
       replace p343 := eq_true p343
       replace q343 := eq_true q343
       have p344 : 0 ≤ (0 : Int) := (by omega)
       have q344 : 0 < (l0.length : Int) := od
       obtain ⟨ad344, A344_1, c344_1, e344, hx344_0, hx344_1, hl344_1, hi344_1⟩ := at_T48 HR0.out 0 p344 q344
       obtain rfl : ad343 = ad344 := (by injection e344)
       have qi344 : (0 < l0.length) = True := eq_true (by omega)
       (try rw [show ((0 : Int)).toNat = 0 from rfl] at hx344_0)
       (try rw [show 0 * 2 = 0 from rfl] at hx344_0)
       (try rw [Addr.add_zero'] at hx344_0)
       (try rw [show ((0 : Int)).toNat = 0 from rfl] at hx344_1)
       (try rw [show 0 * 2 = 0 from rfl] at hx344_1)
       (try rw [Addr.add_zero'] at hx344_1)
       obtain ⟨hx344_0,hx344_1⟩ := hc2 HB hx344_0 hx344_1
       have HR344_1 := Aside0.mk hi344_1
       have HC344_1 := Aside0.mk hl344_1
       clear hi344_1 hl344_1
       replace p344 := eq_true p344
       replace q344 := eq_true q344
       have ea_ := Option.some.inj (hx343_1.symm.trans hx344_1)
       injection ea_ with ea_ en_ ec_
       subst ea_
       subst ec_
       clear en_
       go_wp2
       go_meet
       case rel => exact ⟨_, (((((rd_T48 l0 0).f1).length : Int) != 0)), (by first | rfl | (simp; done) | (simp [*]; done)), H', ⟨by have := HJ1.out; first | omega | exact Nat.le_refl _⟩, ⟨bl⟩⟩
      ·rw [if_neg c7] at H
       have c7b0 := beq_eq_false_iff_ne.mpr c7
       have c7b1 := bne_iff_ne.mpr c7
       have H' := Aside0.mk H
       clear H
       have p343 : 0 ≤ (0 : Int) := (by omega)
       have q343 : 0 < (l0.length : Int) := od
       obtain ⟨ad343, A343_1, c343_1, e343, hx343_0, hx343_1, hl343_1, hi343_1⟩ := at_T48 HR0.out 0 p343 q343
       cases e343
       have qi343 : (0 < l0.length) = True := eq_true (by omega)
       (try rw [show ((0 : Int)).toNat = 0 from rfl] at hx343_0)
       (try rw [show 0 * 2 = 0 from rfl] at hx343_0)
       (try rw [Addr.add_zero'] at hx343_0)
       (try rw [show ((0 : Int)).toNat = 0 from rfl] at hx343_1)
       (try rw [show 0 * 2 = 0 from rfl] at hx343_1)
       (try rw [Addr.add_zero'] at hx343_1)
       obtain ⟨hx343_0,hx343_1⟩ := hc2 HB hx343_0 hx343_1
       have HR343_1 := Aside0.mk hi343_1
       have HC343_1 := Aside0.mk hl343_1
       clear hi343_1 hl343_1
       replace p343 := eq_true p343
       replace q343 := eq_true q343
       go_wp2
       go_meet
       case rel => exact ⟨_, (true), (by first | rfl | (simp; done) | (simp [*]; done)), H', ⟨by have := HJ1.out; first | omega | exact Nat.le_refl _⟩, ⟨bl⟩⟩
     ·rw [if_neg c6] at H
      exact absurd H (by simp)
    case rest =>
     clear HC5
     obtain ⟨kq, x28_4, rfl, HA, HJ4, HB⟩ := hcut
     cases kq with
     | zero => exact absurd HA.out (by simp [impl_ClassesOk.j1])
     | succ kj4 =>
      have H := HA.out
      clear HA
      simp only [impl_ClassesOk.j1] at H
      by_cases c8 : x28_4 = true
      ·subst c8
       replace H := it H
       obtain rfl := Option.some.inj H; clear H
       go_wp2
       go_ret
       exact fin
      ·replace c8 := Bool.eq_false_iff.mpr c8
       subst c8
       replace H := ie H
       by_cases c9 : 1 < (l0.length : Int)
       ·rw [if_pos c9] at H
        have c9b0 : decide (1 < (l0.length : Int)) = true := decide_eq_true c9
        have c9b1 : decide (1 < l0.length) = true := decide_eq_true (by omega)
        clear c9
        have HC10 := Aside0.mk H
        clear H
        have p345 : 0 ≤ (1 : Int) := (by omega)
        have q345 : 1 < (l0.length : Int) := od
        obtain ⟨ad345, A345_1, c345_1, e345, hx345_0, hx345_1, hl345_1, hi345_1⟩ := at_T48 HR0.out 1 p345 q345
        cases e345
        (try simp only [show (1 : Int).toNat = 1 from rfl, Nat.reduceMul, Nat.reduceEqDiff, Go.Addr.add, ↓reduceIte] at hx345_0)
        (try simp only [show (1 : Int).toNat = 1 from rfl, Nat.reduceMul, Nat.reduceEqDiff, Go.Addr.add, ↓reduceIte] at hx345_1)
        have qi345 : (1 < l0.length) = True := eq_true (by omega)
        (try rw [show ((1 : Int)).toNat = 1 from rfl] at hx345_0)
        (try rw [show 1 * 2 = 2 from rfl] at hx345_0)
        (try rw [show ((1 : Int)).toNat = 1 from rfl] at hx345_1)
        (try rw [show 1 * 2 = 2 from rfl] at hx345_1)
        obtain ⟨hx345_0,hx345_1⟩ := hc2 HB hx345_0 hx345_1
        have HR345_1 := Aside0.mk hi345_1
        have HC345_1 := Aside0.mk hl345_1
        clear hi345_1 hl345_1
        replace p345 := eq_true p345
        replace q345 := eq_true q345
        go_upto_region 6 with (first | ((with_reducible refine gd 3 rfl ?_); (try (refine gate_guard (by rfl) ?_; dsimp only)); refine bx 3 #[.int .i64 0, .slice none 0 0] 48 ?_; intro gb346 hg w11 hbox hb; have BK346 := Aside0.mk hbox; have GW346 := hz HB hg; have GE346 := hz HB hg; replace HB := hs HB hb; clear hb hbox hg; obtain ⟨_,_,_,_⟩ := cf2 BK346))
        (try simp only [Act.put, List.setIfInBounds_toArray, List.set_cons_zero, List.set_cons_succ])
        go_cut [47] (fun v47 wc => ∃ (kq : Nat) (x47_9 : Bool), v47 = .bool x47_9 ∧ Aside0 (impl_ClassesOk.j2 kq l0 x47_9 = some r) ∧ Aside0 (kq ≤ kj4) ∧ Aside0 (wc.heap[gb346]? = some (.cells #[.int .i64 ((rd_T48 l0 1).f0), (.slice A345_1 ((rd_T48 l0 1).f1).length c345_1)] 48 (0, 0))) ∧ Aside0 (Below w.heap.size w wc))
        case first =>
         have H := HC10.out
         clear HC10
         by_cases c13 : ((rd_T48 l0 1).f0) = 0
         ·rw [if_pos c13] at H
          have c13b0 := beq_iff_eq.mpr c13
          have c13b1 := bne_eq_false_iff_eq.mpr c13
          clear c13
          (first | rw [c13b0] | (simp only [i64_w, i32_w]; rw [c13b0]) | skip)
          by_cases c14 : (((rd_T48 l0 1).f1).length : Int) = 1
          ·rw [if_pos c14] at H
           have c14b0 := beq_iff_eq.mpr c14
           have c14b1 := bne_eq_false_iff_eq.mpr c14
           clear c14
           by_cases c15 : 0 < (((rd_T48 l0 1).f1).length : Int)
           ·rw [if_pos c15] at H
            have c15b0 : decide (0 < (((rd_T48 l0 1).f1).length : Int)) = true := decide_eq_true c15
            have c15b1 : decide (0 < ((rd_T48 l0 1).f1).length) = true := decide_eq_true (by omega)
            clear c15
            have H' := Aside0.mk H
            clear H
            obtain ⟨_,_,_,_⟩ := cf2 BK346
            have p347 : 0 ≤ (0 : Int) := (by omega)
            have q347 : 0 < (((rd_T48 l0 1).f1).length : Int) := od
            obtain ⟨ad347, e347, hx347_0⟩ := Kd.at_int HR345_1.out 0 p347 q347
            cases e347
            have qi347 : (0 < ((rd_T48 l0 1).f1).length) = True := eq_true (by omega)
            (try rw [show ((0 : Int)).toNat = 0 from rfl] at hx347_0)
            (try rw [Addr.add_zero'] at hx347_0)
            have hn347_0 : ad347.block ≠ gb346 := Nat.ne_of_lt (Nat.lt_of_lt_of_le (by have := World.block_lt_of_cell? _ _ hx347_0; first | rwa [add_block] at this | exact this) GW346.out)
            have hn347_1 : ad347.block ≠ gb346 := Nat.ne_of_lt (Nat.lt_of_lt_of_le (by have := World.block_lt_of_cell? _ _ hx347_0; first | rwa [add_block] at this | exact this) GW346.out)
            replace hx347_0 := hc HB hx347_0
            replace hx347_0 := (cell_far (p := ⟨gb346, 0, none⟩) (by first | (rw [add_block]; exact hn347_0) | (show (Addr.add _ _).block ≠ _; rw [add_block]; exact hn347_0) | exact hn347_0) (.int .i64 ((rd_T48 l0 1).f0))).trans hx347_0
            replace hx347_0 := (cell_far (p := ⟨gb346, 1, none⟩) (by first | (rw [add_block]; exact hn347_1) | (show (Addr.add _ _).block ≠ _; rw [add_block]; exact hn347_1) | exact hn347_1) (.slice (some ad347) ((rd_T48 l0 1).f1).length c345_1)).trans hx347_0
            clear hn347_0
            clear hn347_1
            replace p347 := eq_true p347
            replace q347 := eq_true q347
            go_wp2
            go_meet
            case rel => exact ⟨_, (((rd ((rd_T48 l0 1).f1) 0) != 1)), (by first | rfl | (simp; done) | (simp [*]; done)), H', ⟨by have := HJ1.out; have := HJ4.out; first | omega | exact Nat.le_refl _⟩, kf, ⟨bl⟩⟩
           ·rw [if_neg c15] at H
            exact absurd H (by simp)
          ·rw [if_neg c14] at H
           have c14b0 := beq_eq_false_iff_ne.mpr c14
           have c14b1 := bne_iff_ne.mpr c14
           have H' := Aside0.mk H
           clear H
           obtain ⟨_,_,_,_⟩ := cf2 BK346
           go_wp2
           go_meet
           case rel => exact ⟨_, (true), (by first | rfl | (simp; done) | (simp [*]; done)), H', ⟨by have := HJ1.out; have := HJ4.out; first | omega | exact Nat.le_refl _⟩, kf, ⟨bl⟩⟩
         ·rw [if_neg c13] at H
          have c13b0 := beq_eq_false_iff_ne.mpr c13
          have c13b1 := bne_iff_ne.mpr c13
          (first | rw [c13b0] | (simp only [i64_w, i32_w]; rw [c13b0]) | skip)
          have H' := Aside0.mk H
          clear H
          obtain ⟨_,_,_,_⟩ := cf2 BK346
          go_wp2
          go_meet
          case rel => exact ⟨_, (true), (by first | rfl | (simp; done) | (simp [*]; done)), H', ⟨by have := HJ1.out; have := HJ4.out; first | omega | exact Nat.le_refl _⟩, kf, ⟨bl⟩⟩
        case rest =>
         clear HC10
         obtain ⟨kq, x47_9, rfl, HA, HJ9, BK346, HB⟩ := hcut
         cases kq with
         | zero => exact absurd HA.out (by simp [impl_ClassesOk.j2])
         | succ kj9 =>
          have H := HA.out
          clear HA
          simp only [impl_ClassesOk.j2] at H
          by_cases c19 : x47_9 = true
          ·subst c19
           replace H := it H
           obtain rfl := Option.some.inj H; clear H
           go_wp2
           go_ret
           exact fin
          ·replace c19 := Bool.eq_false_iff.mpr c19
           subst c19
           replace H := ie H
           have H' := Aside0.mk H
           clear H
           go_wp2
           go_loopg [50] kj9 (fun kq v50 w' => ∃ (x50_4 : Int), v50 = .int .i64 x50_4 ∧ Aside0 (impl_ClassesOk.l0 kq l0 l0 (l0.length : Int) x50_4 = some r) ∧ Aside0 (kq ≤ kj9) ∧ Aside0 (w'.heap[gb346]? = some (.cells #[.int .i64 ((rd_T48 l0 1).f0), (.slice A345_1 ((rd_T48 l0 1).f1).length c345_1)] 48 (0, 0))) ∧ Aside0 (Below w.heap.size w w'))
           case atStart => exact ⟨(0), (by first | rfl | (simp; done) | (simp [*]; done)), H', ⟨Nat.le_refl _⟩, kk BK346, ⟨bl⟩⟩
           case round =>
            clear H'
            obtain ⟨x50_4, rfl, HA, HK4, BK346, HB⟩ := hrel
            cases gk with
            | zero => exact absurd HA.out (by simp [impl_ClassesOk.l0])
            | succ k4 =>
             have H := HA.out
             clear HA
             simp only [impl_ClassesOk.l0] at H
             by_cases c20 : x50_4 < (l0.length : Int)
             ·rw [if_pos c20] at H
              have c20b0 : decide (x50_4 < (l0.length : Int)) = true := decide_eq_true c20
              clear c20
              by_cases c21 : 0 ≤ x50_4
              ·rw [if_pos c21] at H
               have c21b0 : decide (0 ≤ x50_4) = true := decide_eq_true c21
               clear c21
               by_cases c22 : x50_4 < (l0.length : Int)
               ·rw [if_pos c22] at H
                have c22b0 : decide (x50_4 < (l0.length : Int)) = true := decide_eq_true c22
                clear c22
                have HC23 := Aside0.mk H
                clear H
                have p348 : 0 ≤ (x50_4 : Int) := od
                have q348 : x50_4 < (l0.length : Int) := od
                obtain ⟨ad348, A348_1, c348_1, e348, hx348_0, hx348_1, hl348_1, hi348_1⟩ := at_T48 HR0.out x50_4 p348 q348
                obtain rfl : ad345 = ad348 := (by injection e348)
                obtain ⟨hx348_0,hx348_1⟩ := hc2 HB hx348_0 hx348_1
                have HR348_1 := Aside0.mk hi348_1
                have HC348_1 := Aside0.mk hl348_1
                clear hi348_1 hl348_1
                replace p348 := eq_true p348
                replace q348 := eq_true q348
                go_upto_region 11 with (first | ((with_reducible refine gd 5 rfl ?_); (try (refine gate_guard (by rfl) ?_; dsimp only)); refine bx 5 #[.int .i64 0, .slice none 0 0] 48 ?_; intro gb349 hg w24 hbox hb; have BK349 := Aside0.mk hbox; have GW349 := hz HB hg; have GE349 := hz HB hg; have NB346_349 := nl BK346 hg; have NB349_346 := ng BK346 hg; replace BK346 := kb BK346 hb; replace HB := hs HB hb; clear hb hbox hg; have hnb25 := NB349_346.out; have hnc25 := NB346_349.out; obtain ⟨_,_,_,_⟩ := cf2 BK349))
                (try simp only [Act.put, List.setIfInBounds_toArray, List.set_cons_zero, List.set_cons_succ])
                go_cut [67] (fun v67 wc => ∃ (kq : Nat) (x67_22 : Bool), v67 = .bool x67_22 ∧ Aside0 (impl_ClassesOk.j4 kq l0 l0 (l0.length : Int) x50_4 x67_22 ((rd_T48 l0 x50_4).f0) ((rd_T48 l0 x50_4).f1) = some r) ∧ Aside0 (kq ≤ k4) ∧ Aside0 (wc.heap[gb346]? = some (.cells #[.int .i64 ((rd_T48 l0 1).f0), (.slice A345_1 ((rd_T48 l0 1).f1).length c345_1)] 48 (0, 0))) ∧ Aside0 (wc.heap[gb349]? = some (.cells #[.int .i64 ((rd_T48 l0 x50_4).f0), (.slice A348_1 ((rd_T48 l0 x50_4).f1).length c348_1)] 48 (0, 0))) ∧ Aside0 (Below w.heap.size w wc))
                case first =>
                 have H := HC23.out
                 clear HC23
                 by_cases c27 : x50_4 > 1
                 ·rw [if_pos c27] at H
                  have c27b0 : decide (1 < x50_4) = true := decide_eq_true c27
                  clear c27
                  (first | rw [c27b0] | (simp only [i64_w, i32_w]; rw [c27b0]) | skip)
                  by_cases c28 : ((rd_T48 l0 x50_4).f0) < 0
                  ·rw [if_pos c28] at H
                   have c28b0 : decide (((rd_T48 l0 x50_4).f0) < 0) = true := decide_eq_true c28
                   clear c28
                   have H' := Aside0.mk H
                   clear H
                   have hnb29 := NB349_346.out
                   have hnc29 := NB346_349.out
                   obtain ⟨_,_,_,_⟩ := cf2 BK349
                   go_wp2
                   go_meet
                   case rel => exact ⟨_, (true), (by first | rfl | (simp; done) | (simp [*]; done)), H', ⟨by have := HJ1.out; have := HJ4.out; have := HJ9.out; have := HK4.out; first | omega | exact Nat.le_refl _⟩, kf, kf, ⟨bl⟩⟩
                  ·rw [if_neg c28] at H
                   have c28b0 : decide (((rd_T48 l0 x50_4).f0) < 0) = false := decide_eq_false c28
                   clear c28
                   have H' := Aside0.mk H
                   clear H
                   have hnb31 := NB349_346.out
                   have hnc31 := NB346_349.out
                   obtain ⟨_,_,_,_⟩ := cf2 BK349
                   go_wp2
                   go_meet
                   case rel => exact ⟨_, (decide (((rd_T48 l0 x50_4).f0) ≥ x50_4)), (by first | rfl | (simp; done) | (simp [*]; done)), H', ⟨by have := HJ1.out; have := HJ4.out; have := HJ9.out; have := HK4.out; first | omega | exact Nat.le_refl _⟩, kf, kf, ⟨bl⟩⟩
                 ·rw [if_neg c27] at H
                  have c27b0 : decide (1 < x50_4) = false := decide_eq_false c27
                  clear c27
                  (first | rw [c27b0] | (simp only [i64_w, i32_w]; rw [c27b0]) | skip)
                  have H' := Aside0.mk H
                  clear H
                  go_wp2
                  go_meet
                  case rel => exact ⟨_, (false), (by first | rfl | (simp; done) | (simp [*]; done)), H', ⟨by have := HJ1.out; have := HJ4.out; have := HJ9.out; have := HK4.out; first | omega | exact Nat.le_refl _⟩, kf, kf, ⟨bl⟩⟩
                case rest =>
                 clear HC23
                 obtain ⟨kq, x67_22, rfl, HA, HJ22, BK346, BK349, HB⟩ := hcut
                 cases kq with
                 | zero => exact absurd HA.out (by simp [impl_ClassesOk.j4])
                 | succ kj22 =>
                  have H := HA.out
                  clear HA
                  simp only [impl_ClassesOk.j4] at H
                  by_cases c33 : x67_22 = true
                  ·subst c33
                   replace H := it H
                   obtain rfl := Option.some.inj H; clear H
                   go_wp2
                   go_ret
                   exact fin
                  ·replace c33 := Bool.eq_false_iff.mpr c33
                   subst c33
                   replace H := ie H
                   by_cases c34 : (((rd_T48 l0 x50_4).f1).length : Int) > 2
                   ·rw [if_pos c34] at H
                    have c34b0 : decide (2 < (((rd_T48 l0 x50_4).f1).length : Int)) = true := decide_eq_true c34
                    have c34b1 : decide (2 < ((rd_T48 l0 x50_4).f1).length) = true := decide_eq_true (by omega)
                    clear c34
                    obtain rfl := Option.some.inj H; clear H
                    have hnb35 := NB349_346.out
                    have hnc35 := NB346_349.out
                    obtain ⟨_,_,_,_⟩ := cf2 BK349
                    go_wp2
                    go_ret
                    exact fin
                   ·rw [if_neg c34] at H
                    have c34b0 : decide (2 < (((rd_T48 l0 x50_4).f1).length : Int)) = false := decide_eq_false c34
                    have c34b1 : decide (2 < ((rd_T48 l0 x50_4).f1).length) = false := decide_eq_false (by omega)
                    clear c34
                    have H' := Aside0.mk H
                    clear H
                    have hnb37 := NB349_346.out
                    have hnc37 := NB346_349.out
                    obtain ⟨_,_,_,_⟩ := cf2 BK349
                    go_wp2
                    go_loopg [75] kj22 (fun kq v75 w' => ∃ (x75_6 : Int), v75 = .int .i64 x75_6 ∧ Aside0 (impl_ClassesOk.l1 kq l0 l0 (l0.length : Int) x50_4 ((rd_T48 l0 x50_4).f1) (((rd_T48 l0 x50_4).f1).length : Int) x75_6 = some r) ∧ Aside0 (kq ≤ kj22) ∧ Aside0 (w'.heap[gb346]? = some (.cells #[.int .i64 ((rd_T48 l0 1).f0), (.slice A345_1 ((rd_T48 l0 1).f1).length c345_1)] 48 (0, 0))) ∧ Aside0 (w'.heap[gb349]? = some (.cells #[.int .i64 ((rd_T48 l0 x50_4).f0), (.slice A348_1 ((rd_T48 l0 x50_4).f1).length c348_1)] 48 (0, 0))) ∧ Aside0 (Below w.heap.size w w'))
                    case atStart => exact ⟨(0), (by first | rfl | (simp; done) | (simp [*]; done)), H', ⟨Nat.le_refl _⟩, kk BK346, kk BK349, ⟨bl⟩⟩
                    case round =>
                     clear H'
                     obtain ⟨x75_6, rfl, HA, HK6, BK346, BK349, HB⟩ := hrel
                     cases gk with
                     | zero => exact absurd HA.out (by simp [impl_ClassesOk.l1])
                     | succ k6 =>
                      have H := HA.out
                      clear HA
                      simp only [impl_ClassesOk.l1] at H
                      by_cases c39 : x75_6 < (((rd_T48 l0 x50_4).f1).length : Int)
                      ·rw [if_pos c39] at H
                       have c39b0 : decide (x75_6 < (((rd_T48 l0 x50_4).f1).length : Int)) = true := decide_eq_true c39
                       clear c39
                       by_cases c40 : 0 ≤ x75_6
                       ·rw [if_pos c40] at H
                        have c40b0 : decide (0 ≤ x75_6) = true := decide_eq_true c40
                        clear c40
                        by_cases c41 : x75_6 < (((rd_T48 l0 x50_4).f1).length : Int)
                        ·rw [if_pos c41] at H
                         have c41b0 : decide (x75_6 < (((rd_T48 l0 x50_4).f1).length : Int)) = true := decide_eq_true c41
                         clear c41
                         obtain ⟨t351, A42, H⟩ := ob H
                         by_cases c43 : t351 = true
                         ·subst c43
                          replace H := it H
                          have H' := Aside0.mk H
                          clear H
                          have p350 : 0 ≤ (x75_6 : Int) := od
                          have q350 : x75_6 < (((rd_T48 l0 x50_4).f1).length : Int) := od
                          obtain ⟨ad350, e350, hx350_0⟩ := Kd.at_int HR348_1.out x75_6 p350 q350
                          cases e350
                          replace hx350_0 := hc HB hx350_0
                          replace p350 := eq_true p350
                          replace q350 := eq_true q350
                          go_wp2_with (first | ((with_reducible refine gc 23 rfl ?_); refine gl (some 82) Try.func23 #[.int .i64 (l0.length : Int), .int .i64 (rd ((rd_T48 l0 x50_4).f1) x75_6)] rfl ?_; (with_reducible refine (impl_fieldType.calls (l0.length : Int) (rd ((rd_T48 l0 x50_4).f1) x75_6) true _ A42.out).mono ?_); rintro e w' ⟨rfl, ⟨nd, rfl⟩⟩; refine ⟨_, rfl, ?_⟩))
                          go_roundg k6
                          case measure => have := HJ1.out; have := HJ4.out; have := HJ9.out; have := HK4.out; have := HJ22.out; have := HK6.out; omega
                          case rel => exact ⟨(wrap64 (x75_6 + 1)), (by first | rfl | (simp; done) | (simp [*]; done)), H', ⟨by have := HJ1.out; have := HJ4.out; have := HJ9.out; have := HK4.out; have := HJ22.out; have := HK6.out; omega⟩, kk BK346, kk BK349, ⟨bl⟩⟩
                         ·replace c43 := Bool.eq_false_iff.mpr c43
                          subst c43
                          replace H := ie H
                          obtain rfl := Option.some.inj H; clear H
                          have p350 : 0 ≤ (x75_6 : Int) := od
                          have q350 : x75_6 < (((rd_T48 l0 x50_4).f1).length : Int) := od
                          obtain ⟨ad350, e350, hx350_0⟩ := Kd.at_int HR348_1.out x75_6 p350 q350
                          cases e350
                          replace hx350_0 := hc HB hx350_0
                          replace p350 := eq_true p350
                          replace q350 := eq_true q350
                          go_wp2_with (first | ((with_reducible refine gc 23 rfl ?_); refine gl (some 82) Try.func23 #[.int .i64 (l0.length : Int), .int .i64 (rd ((rd_T48 l0 x50_4).f1) x75_6)] rfl ?_; (with_reducible refine (impl_fieldType.calls (l0.length : Int) (rd ((rd_T48 l0 x50_4).f1) x75_6) false _ A42.out).mono ?_); rintro e w' ⟨rfl, ⟨nd, rfl⟩⟩; refine ⟨_, rfl, ?_⟩))
                          go_ret
                          exact fin
                        ·rw [if_neg c41] at H
                         exact absurd H (by simp)
                       ·rw [if_neg c40] at H
                        exact absurd H (by simp)
                      ·rw [if_neg c39] at H
                       have c39b0 : decide (x75_6 < (((rd_T48 l0 x50_4).f1).length : Int)) = false := decide_eq_false c39
                       clear c39
                       have H' := Aside0.mk H
                       clear H
                       go_wp2
                       go_roundg k6
                       case measure => have := HJ1.out; have := HJ4.out; have := HJ9.out; have := HK4.out; have := HJ22.out; have := HK6.out; omega
                       case rel => exact ⟨(wrap64 (x50_4 + 1)), (by first | rfl | (simp; done) | (simp [*]; done)), H', ⟨by have := HJ1.out; have := HJ4.out; have := HJ9.out; have := HK4.out; have := HJ22.out; have := HK6.out; omega⟩, kk BK346, ⟨bl⟩⟩
               ·rw [if_neg c22] at H
                exact absurd H (by simp)
              ·rw [if_neg c21] at H
               exact absurd H (by simp)
             ·rw [if_neg c20] at H
              have c20b0 : decide (x50_4 < (l0.length : Int)) = false := decide_eq_false c20
              clear c20
              obtain rfl := Option.some.inj H; clear H
              go_wp2
              go_ret
              exact fin
       ·rw [if_neg c9] at H
        exact absurd H (by simp)
end Go.Proofs.Ytchegijjjakmpaa.P

end
section

namespace Go.Proofs.Ytchegijjjakmpaa.P
open Go.RowKit Go.Proofs.YtchegijjjakmpaaW.PrintWords Go.Proofs.YtchegijjjakmpaaW.PrintLast Go.Proofs.YtchegijjjakmpaaW.PrintMore
attribute [local go_sem] max2_int min2_int max_two min_two max_three min_three max_four min_four
set_option linter.unusedVariables false
set_option linter.unusedSimpArgs false
set_option maxHeartbeats 8000000 in
set_option maxRecDepth 100000 in
theorem impl_shapeOk.calls (k : Nat) (A0 : Option Addr) (c0 : Nat) (l0 : List (S48)) (a1 : Int) (a2_0 : Bool) (A2_1 : Option Addr) (c2_1 : Nat) (l2_1 : List Int) (A2_2 : Option Addr) (c2_2 : Nat) (l2_2 : List Int) (r : Bool) (w : World) (hr0 : Kd.C k48 w A0 l0.length l0) (hc0 : l0.length ≤ c0) (hr2_1 : Kd.C (Kd.int .i64) w A2_1 l2_1.length l2_1) (hc2_1 : l2_1.length ≤ c2_1) (hr2_2 : Kd.C (Kd.int .i64) w A2_2 l2_2.length l2_2) (hc2_2 : l2_2.length ≤ c2_2) (h : impl_shapeOk.f k l0 a1 a2_0 l2_1 l2_2 = some r) :
  Calls Try.prog 34 #[.slice A0 l0.length c0, .int .i64 a1, .agg #[.bool a2_0, .slice A2_1 l2_1.length c2_1, .slice A2_2 l2_2.length c2_2]] w fun e w' => e = .returned (.bool r) ∧ Below w.heap.size w w' := by
 have hu26 := Try.underlying26
 have hkq := kindEql
 have hkn := kindNeq
 have hkp := guardNilE
 have hkr := guardNilN
 have HR0 := Aside0.mk hr0
 have HC0 := Aside0.mk hc0
 clear hr0 hc0
 have HR2_1 := Aside0.mk hr2_1
 have HC2_1 := Aside0.mk hc2_1
 clear hr2_1 hc2_1
 have HR2_2 := Aside0.mk hr2_2
 have HC2_2 := Aside0.mk hc2_2
 clear hr2_2 hc2_2
 have HB := Aside0.mk (Below.refl w.heap.size w)
 have H : (if a2_0 = true then (if (l2_1.length : Int) = a1 then (impl_shapeOk.j0 k l0 (decide ((l2_2.length : Int) > 4)) a2_0 l2_1 l2_2) else (impl_shapeOk.j0 k l0 true a2_0 l2_1 l2_2)) else (if (l2_1.length : Int) = 0 then (some ((l2_2.length : Int) == 0)) else (some false))) = some r := h
 clear h
 by_cases c4 : a2_0 = true
 ·subst c4
  replace H := it H
  have HC5 := Aside0.mk H
  clear H
  go_enter Try.func34, Try.ntmps34
  go_upto_region 3 with (first | ((with_reducible refine gd 5 rfl ?_); (try (refine gate_guard (by rfl) ?_; dsimp only)); refine bx 5 #[.bool true, .slice A2_1 l2_1.length c2_1, .slice A2_2 l2_2.length c2_2] 26 ?_; intro gb352 hg w6 hbox hb; have BK352 := Aside0.mk hbox; have GW352 := hz HB hg; have GE352 := hz HB hg; replace HB := hs HB hb; clear hb hbox hg; obtain ⟨_,_,_,_,_,_⟩ := cf3 BK352))
  (try simp only [Act.put, List.setIfInBounds_toArray, List.set_cons_zero, List.set_cons_succ])
  go_cut [34] (fun v34 wc => ∃ (kq : Nat) (x34_4 : Bool), v34 = .bool x34_4 ∧ Aside0 (impl_shapeOk.j0 kq l0 x34_4 true l2_1 l2_2 = some r) ∧ Aside0 (kq ≤ k) ∧ Aside0 (wc.heap[gb352]? = some (.cells #[.bool true, (.slice A2_1 l2_1.length c2_1), (.slice A2_2 l2_2.length c2_2)] 26 (0, 0))) ∧ Aside0 (Below w.heap.size w wc))
  case first =>
   have H := HC5.out
   clear HC5
   by_cases c8 : (l2_1.length : Int) = a1
   ·rw [if_pos c8] at H
    have c8b0 := beq_iff_eq.mpr c8
    have c8b1 := bne_eq_false_iff_eq.mpr c8
    clear c8
    (first | rw [c8b0] | (simp only [i64_w, i32_w]; rw [c8b0]) | skip)
    have H' := Aside0.mk H
    clear H
    obtain ⟨_,_,_,_,_,_⟩ := cf3 BK352
    go_wp2
    go_meet
    case rel => exact ⟨_, (decide ((l2_2.length : Int) > 4)), (by first | rfl | (simp; done) | (simp [*]; done)), H', ⟨by first | omega | exact Nat.le_refl _⟩, kk BK352, ⟨bl⟩⟩
   ·rw [if_neg c8] at H
    have c8b0 := beq_eq_false_iff_ne.mpr c8
    have c8b1 := bne_iff_ne.mpr c8
    (first | rw [c8b0] | (simp only [i64_w, i32_w]; rw [c8b0]) | skip)
    have H' := Aside0.mk H
    clear H
    obtain ⟨_,_,_,_,_,_⟩ := cf3 BK352
    go_wp2
    go_meet
    case rel => exact ⟨_, (true), (by first | rfl | (simp; done) | (simp [*]; done)), H', ⟨by first | omega | exact Nat.le_refl _⟩, kk BK352, ⟨bl⟩⟩
  case rest =>
   clear HC5
   obtain ⟨kq, x34_4, rfl, HA, HJ4, BK352, HB⟩ := hcut
   cases kq with
   | zero => exact absurd HA.out (by simp [impl_shapeOk.j0])
   | succ kj4 =>
    have H := HA.out
    clear HA
    simp only [impl_shapeOk.j0] at H
    by_cases c11 : x34_4 = true
    ·subst c11
     replace H := it H
     obtain rfl := Option.some.inj H; clear H
     go_wp2
     go_ret
     exact fin
    ·replace c11 := Bool.eq_false_iff.mpr c11
     subst c11
     replace H := ie H
     have H' := Aside0.mk H
     clear H
     obtain ⟨_,_,_,_,_,_⟩ := cf3 BK352
     go_wp2
     go_loopg [38] kj4 (fun kq v38 w' => ∃ (x38_2 : Int), v38 = .int .i64 x38_2 ∧ Aside0 (impl_shapeOk.l0 kq l0 l2_1 (l2_1.length : Int) x38_2 true l2_1 l2_2 = some r) ∧ Aside0 (kq ≤ kj4) ∧ Aside0 (w'.heap[gb352]? = some (.cells #[.bool true, (.slice A2_1 l2_1.length c2_1), (.slice A2_2 l2_2.length c2_2)] 26 (0, 0))) ∧ Aside0 (Below w.heap.size w w'))
     case atStart => exact ⟨(0), (by first | rfl | (simp; done) | (simp [*]; done)), H', ⟨Nat.le_refl _⟩, kk BK352, ⟨bl⟩⟩
     case round =>
      clear H'
      obtain ⟨x38_2, rfl, HA, HK2, BK352, HB⟩ := hrel
      cases gk with
      | zero => exact absurd HA.out (by simp [impl_shapeOk.l0])
      | succ k2 =>
       have H := HA.out
       clear HA
       simp only [impl_shapeOk.l0] at H
       by_cases c13 : x38_2 < (l2_1.length : Int)
       ·rw [if_pos c13] at H
        have c13b0 : decide (x38_2 < (l2_1.length : Int)) = true := decide_eq_true c13
        clear c13
        by_cases c14 : 0 ≤ x38_2
        ·rw [if_pos c14] at H
         have c14b0 : decide (0 ≤ x38_2) = true := decide_eq_true c14
         clear c14
         by_cases c15 : x38_2 < (l2_1.length : Int)
         ·rw [if_pos c15] at H
          have c15b0 : decide (x38_2 < (l2_1.length : Int)) = true := decide_eq_true c15
          clear c15
          obtain ⟨t354, A16, H⟩ := ob H
          by_cases c17 : t354 = (-1)
          ·rw [if_pos c17] at H
           have c17b0 := beq_iff_eq.mpr c17
           have c17b1 := bne_eq_false_iff_eq.mpr c17
           clear c17
           obtain rfl := Option.some.inj H; clear H
           have p353 : 0 ≤ (x38_2 : Int) := od
           have q353 : x38_2 < (l2_1.length : Int) := od
           obtain ⟨ad353, e353, hx353_0⟩ := Kd.at_int HR2_1.out x38_2 p353 q353
           cases e353
           replace hx353_0 := hc HB hx353_0
           replace p353 := eq_true p353
           replace q353 := eq_true q353
           go_wp2_with (first | ((with_reducible refine gc 33 rfl ?_); refine gl (some 45) Try.func33 #[.int .i64 (l0.length : Int), .int .i64 (rd l2_1 x38_2)] rfl ?_; (with_reducible refine (impl_kindOf.calls (l0.length : Int) (rd l2_1 x38_2) t354 _ A16.out).mono ?_); rintro e w' ⟨rfl, ⟨nd, rfl⟩⟩; refine ⟨_, rfl, ?_⟩))
           go_ret
           exact fin
          ·rw [if_neg c17] at H
           have c17b0 := beq_eq_false_iff_ne.mpr c17
           have c17b1 := bne_iff_ne.mpr c17
           have H' := Aside0.mk H
           clear H
           have p353 : 0 ≤ (x38_2 : Int) := od
           have q353 : x38_2 < (l2_1.length : Int) := od
           obtain ⟨ad353, e353, hx353_0⟩ := Kd.at_int HR2_1.out x38_2 p353 q353
           cases e353
           replace hx353_0 := hc HB hx353_0
           replace p353 := eq_true p353
           replace q353 := eq_true q353
           go_wp2_with (first | ((with_reducible refine gc 33 rfl ?_); refine gl (some 45) Try.func33 #[.int .i64 (l0.length : Int), .int .i64 (rd l2_1 x38_2)] rfl ?_; (with_reducible refine (impl_kindOf.calls (l0.length : Int) (rd l2_1 x38_2) t354 _ A16.out).mono ?_); rintro e w' ⟨rfl, ⟨nd, rfl⟩⟩; refine ⟨_, rfl, ?_⟩))
           go_roundg k2
           case measure => have := HJ4.out; have := HK2.out; omega
           case rel => exact ⟨(wrap64 (x38_2 + 1)), (by first | rfl | (simp; done) | (simp [*]; done)), H', ⟨by have := HJ4.out; have := HK2.out; omega⟩, kk BK352, ⟨bl⟩⟩
         ·rw [if_neg c15] at H
          exact absurd H (by simp)
        ·rw [if_neg c14] at H
         exact absurd H (by simp)
       ·rw [if_neg c13] at H
        have c13b0 : decide (x38_2 < (l2_1.length : Int)) = false := decide_eq_false c13
        clear c13
        have H' := Aside0.mk H
        clear H
        obtain ⟨_,_,_,_,_,_⟩ := cf3 BK352
        go_wp2
        go_loopg [51] k2 (fun kq v51 w' => ∃ (x51_3 : Int), v51 = .int .i64 x51_3 ∧ Aside0 (impl_shapeOk.l1 kq l0 l2_2 (l2_2.length : Int) x51_3 = some r) ∧ Aside0 (kq ≤ k2) ∧ Aside0 (w'.heap[gb352]? = some (.cells #[.bool true, (.slice A2_1 l2_1.length c2_1), (.slice A2_2 l2_2.length c2_2)] 26 (0, 0))) ∧ Aside0 (Below w.heap.size w w'))
        case atStart => exact ⟨(0), (by first | rfl | (simp; done) | (simp [*]; done)), H', ⟨Nat.le_refl _⟩, kk BK352, ⟨bl⟩⟩
        case round =>
         clear H'
         obtain ⟨x51_3, rfl, HA, HK3, BK352, HB⟩ := hrel
         cases gk with
         | zero => exact absurd HA.out (by simp [impl_shapeOk.l1])
         | succ k3 =>
          have H := HA.out
          clear HA
          simp only [impl_shapeOk.l1] at H
          by_cases c19 : x51_3 < (l2_2.length : Int)
          ·rw [if_pos c19] at H
           have c19b0 : decide (x51_3 < (l2_2.length : Int)) = true := decide_eq_true c19
           clear c19
           by_cases c20 : 0 ≤ x51_3
           ·rw [if_pos c20] at H
            have c20b0 : decide (0 ≤ x51_3) = true := decide_eq_true c20
            clear c20
            by_cases c21 : x51_3 < (l2_2.length : Int)
            ·rw [if_pos c21] at H
             have c21b0 : decide (x51_3 < (l2_2.length : Int)) = true := decide_eq_true c21
             clear c21
             by_cases c22 : (rd l2_2 x51_3) = 0
             ·rw [if_pos c22] at H
              have c22b0 := beq_iff_eq.mpr c22
              have c22b1 := bne_eq_false_iff_eq.mpr c22
              clear c22
              obtain rfl := Option.some.inj H; clear H
              have p355 : 0 ≤ (x51_3 : Int) := od
              have q355 : x51_3 < (l2_2.length : Int) := od
              obtain ⟨ad355, e355, hx355_0⟩ := Kd.at_int HR2_2.out x51_3 p355 q355
              cases e355
              replace hx355_0 := hc HB hx355_0
              replace p355 := eq_true p355
              replace q355 := eq_true q355
              go_wp2
              go_ret
              exact fin
             ·rw [if_neg c22] at H
              have c22b0 := beq_eq_false_iff_ne.mpr c22
              have c22b1 := bne_iff_ne.mpr c22
              obtain ⟨t356, A23, H⟩ := ob H
              by_cases c24 : t356 = (-1)
              ·rw [if_pos c24] at H
               have c24b0 := beq_iff_eq.mpr c24
               have c24b1 := bne_eq_false_iff_eq.mpr c24
               clear c24
               obtain rfl := Option.some.inj H; clear H
               have p355 : 0 ≤ (x51_3 : Int) := od
               have q355 : x51_3 < (l2_2.length : Int) := od
               obtain ⟨ad355, e355, hx355_0⟩ := Kd.at_int HR2_2.out x51_3 p355 q355
               cases e355
               replace hx355_0 := hc HB hx355_0
               replace p355 := eq_true p355
               replace q355 := eq_true q355
               go_wp2_with (first | (go_at_call 33; (with_reducible refine (impl_kindOf.calls (l0.length : Int) (rd l2_2 x51_3) t356 _ A23.out).mono ?_); rintro e w' ⟨rfl, ⟨nd, rfl⟩⟩))
               go_ret
               exact fin
              ·rw [if_neg c24] at H
               have c24b0 := beq_eq_false_iff_ne.mpr c24
               have c24b1 := bne_iff_ne.mpr c24
               have H' := Aside0.mk H
               clear H
               have p355 : 0 ≤ (x51_3 : Int) := od
               have q355 : x51_3 < (l2_2.length : Int) := od
               obtain ⟨ad355, e355, hx355_0⟩ := Kd.at_int HR2_2.out x51_3 p355 q355
               cases e355
               replace hx355_0 := hc HB hx355_0
               replace p355 := eq_true p355
               replace q355 := eq_true q355
               go_wp2_with (first | (go_at_call 33; (with_reducible refine (impl_kindOf.calls (l0.length : Int) (rd l2_2 x51_3) t356 _ A23.out).mono ?_); rintro e w' ⟨rfl, ⟨nd, rfl⟩⟩))
               go_roundg k3
               case measure => have := HJ4.out; have := HK2.out; have := HK3.out; omega
               case rel => exact ⟨(wrap64 (x51_3 + 1)), (by first | rfl | (simp; done) | (simp [*]; done)), H', ⟨by have := HJ4.out; have := HK2.out; have := HK3.out; omega⟩, kk BK352, ⟨bl⟩⟩
            ·rw [if_neg c21] at H
             exact absurd H (by simp)
           ·rw [if_neg c20] at H
            exact absurd H (by simp)
          ·rw [if_neg c19] at H
           have c19b0 : decide (x51_3 < (l2_2.length : Int)) = false := decide_eq_false c19
           clear c19
           obtain rfl := Option.some.inj H; clear H
           go_wp2
           go_ret
           exact fin
 ·replace c4 := Bool.eq_false_iff.mpr c4
  subst c4
  replace H := ie H
  by_cases c25 : (l2_1.length : Int) = 0
  ·rw [if_pos c25] at H
   have c25b0 := beq_iff_eq.mpr c25
   have c25b1 := bne_eq_false_iff_eq.mpr c25
   clear c25
   obtain rfl := Option.some.inj H; clear H
   go_enter Try.func34, Try.ntmps34
   go_wp2
   go_ret
   exact fin
  ·rw [if_neg c25] at H
   have c25b0 := beq_eq_false_iff_ne.mpr c25
   have c25b1 := bne_iff_ne.mpr c25
   have c25b2 : ¬ (l2_1 = []) := fun h_ => c25 (by rw [h_]; rfl)
   obtain rfl := Option.some.inj H; clear H
   go_enter Try.func34, Try.ntmps34
   go_wp2
   go_ret
   exact fin
end Go.Proofs.Ytchegijjjakmpaa.P

end
section

namespace Go.Proofs.Ytchegijjjakmpaa.P
open Go.RowKit Go.Proofs.YtchegijjjakmpaaW.PrintWords Go.Proofs.YtchegijjjakmpaaW.PrintLast Go.Proofs.YtchegijjjakmpaaW.PrintMore
attribute [local go_sem] max2_int min2_int max_two min_two max_three min_three max_four min_four
set_option linter.unusedVariables false
set_option linter.unusedSimpArgs false
set_option maxHeartbeats 8000000 in
set_option maxRecDepth 100000 in
theorem impl_shapeFit.calls (k : Nat) (A0 : Option Addr) (c0 : Nat) (l0 : List (S48)) (a1_0 : Bool) (A1_1 : Option Addr) (c1_1 : Nat) (l1_1 : List Int) (A1_2 : Option Addr) (c1_2 : Nat) (l1_2 : List Int) (a2_0 : Bool) (A2_1 : Option Addr) (c2_1 : Nat) (l2_1 : List Int) (A2_2 : Option Addr) (c2_2 : Nat) (l2_2 : List Int) (r : Bool) (w : World) (hr0 : Kd.C k48 w A0 l0.length l0) (hc0 : l0.length ≤ c0) (hr1_1 : Kd.C (Kd.int .i64) w A1_1 l1_1.length l1_1) (hc1_1 : l1_1.length ≤ c1_1) (hr1_2 : Kd.C (Kd.int .i64) w A1_2 l1_2.length l1_2) (hc1_2 : l1_2.length ≤ c1_2) (hr2_1 : Kd.C (Kd.int .i64) w A2_1 l2_1.length l2_1) (hc2_1 : l2_1.length ≤ c2_1) (hr2_2 : Kd.C (Kd.int .i64) w A2_2 l2_2.length l2_2) (hc2_2 : l2_2.length ≤ c2_2) (h : impl_shapeFit.f k l0 a1_0 l1_1 l1_2 a2_0 l2_1 l2_2 = some r) :
  Calls Try.prog 24 #[.slice A0 l0.length c0, .agg #[.bool a1_0, .slice A1_1 l1_1.length c1_1, .slice A1_2 l1_2.length c1_2], .agg #[.bool a2_0, .slice A2_1 l2_1.length c2_1, .slice A2_2 l2_2.length c2_2]] w fun e w' => e = .returned (.bool r) ∧ Below w.heap.size w w' := by
 have hu26 := Try.underlying26
 have HR0 := Aside0.mk hr0
 have HC0 := Aside0.mk hc0
 clear hr0 hc0
 have HR1_1 := Aside0.mk hr1_1
 have HC1_1 := Aside0.mk hc1_1
 clear hr1_1 hc1_1
 have HR1_2 := Aside0.mk hr1_2
 have HC1_2 := Aside0.mk hc1_2
 clear hr1_2 hc1_2
 have HR2_1 := Aside0.mk hr2_1
 have HC2_1 := Aside0.mk hc2_1
 clear hr2_1 hc2_1
 have HR2_2 := Aside0.mk hr2_2
 have HC2_2 := Aside0.mk hc2_2
 clear hr2_2 hc2_2
 have HB := Aside0.mk (Below.refl w.heap.size w)
 have H : (if a1_0 = true then (if a2_0 = true then (if (l1_1.length : Int) = (l2_1.length : Int) then (if (l1_2.length : Int) = (l2_2.length : Int) then ((impl_shapeOk.f k l0 (l1_1.length : Int) a1_0 l1_1 l1_2).bind fun t359 => (if t359 = true then ((impl_shapeOk.f k l0 (l2_1.length : Int) a2_0 l2_1 l2_2).bind fun t360 => (some t360)) else (some false))) else (some false)) else (some false)) else (some false)) else (some false)) = some r := h
 clear h
 by_cases c4 : a1_0 = true
 ·subst c4
  replace H := it H
  by_cases c5 : a2_0 = true
  ·subst c5
   replace H := it H
   by_cases c6 : (l1_1.length : Int) = (l2_1.length : Int)
   ·rw [if_pos c6] at H
    have c6b0 := beq_iff_eq.mpr c6
    have c6b1 := bne_eq_false_iff_eq.mpr c6
    have c6b2 : (l1_1.length == l2_1.length) = true := by first | simpa using c6 | (simp at c6 ⊢; omega)
    clear c6
    by_cases c7 : (l1_2.length : Int) = (l2_2.length : Int)
    ·rw [if_pos c7] at H
     have c7b0 := beq_iff_eq.mpr c7
     have c7b1 := bne_eq_false_iff_eq.mpr c7
     have c7b2 : (l1_2.length == l2_2.length) = true := by first | simpa using c7 | (simp at c7 ⊢; omega)
     clear c7
     obtain ⟨t359, A8, H⟩ := ob H
     by_cases c9 : t359 = true
     ·subst c9
      replace H := it H
      obtain ⟨t360, A10, H⟩ := ob H
      obtain rfl := Option.some.inj H; clear H
      go_enter Try.func24, Try.ntmps24
      go_wp2_with (first | ((with_reducible refine gd 4 rfl ?_); (try (refine gate_guard (by rfl) ?_; dsimp only)); refine bx 4 #[.bool true, .slice A1_1 l1_1.length c1_1, .slice A1_2 l1_2.length c1_2] 26 ?_; intro gb357 hg w11 hbox hb; have BK357 := Aside0.mk hbox; have GW357 := hz HB hg; have GE357 := hz HB hg; replace HB := hs HB hb; clear hb hbox hg) | ((with_reducible refine gd 5 rfl ?_); (try (refine gate_guard (by rfl) ?_; dsimp only)); refine bx 5 #[.bool true, .slice A2_1 l2_1.length c2_1, .slice A2_2 l2_2.length c2_2] 26 ?_; intro gb358 hg w12 hbox hb; have BK358 := Aside0.mk hbox; have GW358 := hz HB hg; have GE358 := hz HB hg; have NB357_358 := nl BK357 hg; have NB358_357 := ng BK357 hg; replace BK357 := kb BK357 hb; replace HB := hs HB hb; clear hb hbox hg; have hnb13 := NB357_358.out; have hnc13 := NB358_357.out; obtain ⟨_,_,_,_,_,_⟩ := cf3 BK357; obtain ⟨_,_,_,_,_,_⟩ := cf3 BK358) | (go_at_call 34; (with_reducible refine (impl_shapeOk.calls k _ _ l0 (l1_1.length : Int) true _ _ l1_1 _ _ l1_2 true _ ?side1 ?side2 ?side3 ?side4 ?side5 ?side6 A8.out).mono ?_); (case side1 => exact cb HR0.out); (case side2 => exact HC0.out); (case side3 => exact cb HR1_1.out); (case side4 => exact HC1_1.out); (case side5 => exact cb HR1_2.out); (case side6 => exact HC1_2.out); rintro e w16 ⟨rfl, hb⟩; replace BK357 := kb BK357 hb; replace BK358 := kb BK358 hb; replace HB := hs HB hb; obtain ⟨_,_,_,_,_,_⟩ := cf3 BK358) | (go_at_call 34; (with_reducible refine (impl_shapeOk.calls k _ _ l0 (l2_1.length : Int) true _ _ l2_1 _ _ l2_2 t360 _ ?side1 ?side2 ?side3 ?side4 ?side5 ?side6 A10.out).mono ?_); (case side1 => exact cb HR0.out); (case side2 => exact HC0.out); (case side3 => exact cb HR2_1.out); (case side4 => exact HC2_1.out); (case side5 => exact cb HR2_2.out); (case side6 => exact HC2_2.out); rintro e w18 ⟨rfl, hb⟩; replace BK357 := kb BK357 hb; replace BK358 := kb BK358 hb; replace HB := hs HB hb))
      go_ret
      exact fin
     ·replace c9 := Bool.eq_false_iff.mpr c9
      subst c9
      replace H := ie H
      obtain rfl := Option.some.inj H; clear H
      go_enter Try.func24, Try.ntmps24
      go_wp2_with (first | ((with_reducible refine gd 4 rfl ?_); (try (refine gate_guard (by rfl) ?_; dsimp only)); refine bx 4 #[.bool true, .slice A1_1 l1_1.length c1_1, .slice A1_2 l1_2.length c1_2] 26 ?_; intro gb357 hg w19 hbox hb; have BK357 := Aside0.mk hbox; have GW357 := hz HB hg; have GE357 := hz HB hg; replace HB := hs HB hb; clear hb hbox hg) | ((with_reducible refine gd 5 rfl ?_); (try (refine gate_guard (by rfl) ?_; dsimp only)); refine bx 5 #[.bool true, .slice A2_1 l2_1.length c2_1, .slice A2_2 l2_2.length c2_2] 26 ?_; intro gb358 hg w20 hbox hb; have BK358 := Aside0.mk hbox; have GW358 := hz HB hg; have GE358 := hz HB hg; have NB357_358 := nl BK357 hg; have NB358_357 := ng BK357 hg; replace BK357 := kb BK357 hb; replace HB := hs HB hb; clear hb hbox hg; have hnb21 := NB357_358.out; have hnc21 := NB358_357.out; obtain ⟨_,_,_,_,_,_⟩ := cf3 BK357; obtain ⟨_,_,_,_,_,_⟩ := cf3 BK358) | (go_at_call 34; (with_reducible refine (impl_shapeOk.calls k _ _ l0 (l1_1.length : Int) true _ _ l1_1 _ _ l1_2 false _ ?side1 ?side2 ?side3 ?side4 ?side5 ?side6 A8.out).mono ?_); (case side1 => exact cb HR0.out); (case side2 => exact HC0.out); (case side3 => exact cb HR1_1.out); (case side4 => exact HC1_1.out); (case side5 => exact cb HR1_2.out); (case side6 => exact HC1_2.out); rintro e w24 ⟨rfl, hb⟩; replace BK357 := kb BK357 hb; replace BK358 := kb BK358 hb; replace HB := hs HB hb))
      go_ret
      exact fin
    ·rw [if_neg c7] at H
     have c7b0 := beq_eq_false_iff_ne.mpr c7
     have c7b1 := bne_iff_ne.mpr c7
     have c7b2 : (l1_2.length == l2_2.length) = false := by first | simpa using c7 | (simp at c7 ⊢; omega)
     obtain rfl := Option.some.inj H; clear H
     go_enter Try.func24, Try.ntmps24
     go_wp2
     go_ret
     exact fin
   ·rw [if_neg c6] at H
    have c6b0 := beq_eq_false_iff_ne.mpr c6
    have c6b1 := bne_iff_ne.mpr c6
    have c6b2 : (l1_1.length == l2_1.length) = false := by first | simpa using c6 | (simp at c6 ⊢; omega)
    obtain rfl := Option.some.inj H; clear H
    go_enter Try.func24, Try.ntmps24
    go_wp2
    go_ret
    exact fin
  ·replace c5 := Bool.eq_false_iff.mpr c5
   subst c5
   replace H := ie H
   obtain rfl := Option.some.inj H; clear H
   go_enter Try.func24, Try.ntmps24
   go_wp2
   go_ret
   exact fin
 ·replace c4 := Bool.eq_false_iff.mpr c4
  subst c4
  replace H := ie H
  obtain rfl := Option.some.inj H; clear H
  go_enter Try.func24, Try.ntmps24
  go_wp2
  go_ret
  exact fin
end Go.Proofs.Ytchegijjjakmpaa.P

end
section

namespace Go.Proofs.Ytchegijjjakmpaa.P
open Go.RowKit Go.Proofs.YtchegijjjakmpaaW.PrintWords Go.Proofs.YtchegijjjakmpaaW.PrintLast Go.Proofs.YtchegijjjakmpaaW.PrintMore
attribute [local go_sem] max2_int min2_int max_two min_two max_three min_three max_four min_four
set_option linter.unusedVariables false
set_option linter.unusedSimpArgs false
set_option maxHeartbeats 8000000 in
set_option maxRecDepth 100000 in
theorem impl_classUp.calls (k : Nat) (A0 : Option Addr) (c0 : Nat) (l0 : List (S48)) (a1 : Int) (a2 : Int) (r : Bool) (w : World) (hr0 : Kd.C k48 w A0 l0.length l0) (hc0 : l0.length ≤ c0) (h : impl_classUp.f k l0 a1 a2 = some r) :
  Calls Try.prog 41 #[.slice A0 l0.length c0, .int .i64 a1, .int .i64 a2] w fun e w' => e = .returned (.bool r) ∧ Drawn0 w w' := by
 have HR0 := Aside0.mk hr0
 have HC0 := Aside0.mk hc0
 clear hr0 hc0
 have H : (impl_classUp.l0 k l0 a2 a1) = some r := h
 clear h
 have H' := Aside0.mk H
 clear H
 go_enter Try.func41, Try.ntmps41
 go_wp2
 go_loopg [7] k (fun kq v7 w' => ∃ (x7_1 : Int), v7 = .int .i64 x7_1 ∧ Aside0 (impl_classUp.l0 kq l0 a2 x7_1 = some r) ∧ Aside0 (kq ≤ k) ∧ Drawn0 w w')
 case atStart => exact ⟨(a1), (by first | rfl | (simp; done) | (simp [*]; done)), H', ⟨Nat.le_refl _⟩, by repeat (first | exact Drawn0.refl _ | apply Drawn0.step)⟩
 case round =>
  clear H'
  obtain ⟨x7_1, rfl, HA, HK1, ⟨m1, rfl⟩⟩ := hrel
  cases gk with
  | zero => exact absurd HA.out (by simp [impl_classUp.l0])
  | succ k1 =>
   have H := HA.out
   clear HA
   simp only [impl_classUp.l0] at H
   by_cases c4 : x7_1 ≥ 0
   ·rw [if_pos c4] at H
    have c4b0 : decide (0 ≤ x7_1) = true := decide_eq_true c4
    clear c4
    by_cases c5 : x7_1 = a2
    ·rw [if_pos c5] at H
     have c5b0 := beq_iff_eq.mpr c5
     have c5b1 := bne_eq_false_iff_eq.mpr c5
     clear c5
     obtain rfl := Option.some.inj H; clear H
     go_wp2
     go_ret
     exact ⟨by first | rfl | (simp; done) | (simp [*]; done), by repeat (first | exact Drawn0.refl _ | apply Drawn0.step)⟩
    ·rw [if_neg c5] at H
     have c5b0 := beq_eq_false_iff_ne.mpr c5
     have c5b1 := bne_iff_ne.mpr c5
     by_cases c6 : 0 ≤ x7_1
     ·rw [if_pos c6] at H
      have c6b0 : decide (0 ≤ x7_1) = true := decide_eq_true c6
      clear c6
      by_cases c7 : x7_1 < (l0.length : Int)
      ·rw [if_pos c7] at H
       have c7b0 : decide (x7_1 < (l0.length : Int)) = true := decide_eq_true c7
       clear c7
       have H' := Aside0.mk H
       clear H
       have p361 : 0 ≤ (x7_1 : Int) := od
       have q361 : x7_1 < (l0.length : Int) := od
       obtain ⟨ad361, A361_1, c361_1, e361, hx361_0, hx361_1, hl361_1, hi361_1⟩ := at_T48 HR0.out x7_1 p361 q361
       cases e361
       have HR361_1 := Aside0.mk hi361_1
       have HC361_1 := Aside0.mk hl361_1
       clear hi361_1 hl361_1
       replace p361 := eq_true p361
       replace q361 := eq_true q361
       go_wp2
       go_roundg k1
       case measure => have := HK1.out; omega
       case rel => exact ⟨((rd_T48 l0 x7_1).f0), (by first | rfl | (simp; done) | (simp [*]; done)), H', ⟨by have := HK1.out; omega⟩, by repeat (first | exact Drawn0.refl _ | apply Drawn0.step)⟩
      ·rw [if_neg c7] at H
       exact absurd H (by simp)
     ·rw [if_neg c6] at H
      exact absurd H (by simp)
   ·rw [if_neg c4] at H
    have c4b0 : decide (0 ≤ x7_1) = false := decide_eq_false c4
    clear c4
    obtain rfl := Option.some.inj H; clear H
    go_wp2
    go_ret
    exact ⟨by first | rfl | (simp; done) | (simp [*]; done), by repeat (first | exact Drawn0.refl _ | apply Drawn0.step)⟩
end Go.Proofs.Ytchegijjjakmpaa.P

end
section

namespace Go.Proofs.Ytchegijjjakmpaa.P
open Go Go.RowKit Go.Proofs.YtchegijjjakmpaaW.PrintWords Go.Proofs.YtchegijjjakmpaaW.PrintLast Go.Proofs.YtchegijjjakmpaaW.PrintMore
set_option linter.unusedVariables false
set_option linter.unusedSimpArgs false
theorem eqAClass (d : Nat) (w : World) (x0 y0 : Int) :
    (Op.equalIn (d + 2) 62 (.agg #[.int .i64 x0]) (.agg #[.int .i64 y0])).run Try.prog w = .ok (x0 == y0) w := by
  refine eqA_of Try.underlying62 (by kernel_rfl) ?_
  exact eqf_last (by rfl) (by go_simp; rfl) (by go_simp; rfl) (by go_simp)
theorem eqIClass (d : Nat) (vx vy : Value) (W : World) : (Op.equalIn (d+1) 55 (.iface 62 vx) (.iface 62 vy)).run Try.prog W = (Op.equalIn d 62 vx vy).run Try.prog W := by
  rw [Op.equalIn]
  rfl
theorem eqClassKinds (x y : Int) (W : World) : (binOp .eql 55 (.iface 62 (.agg #[.int .i64 x])) (.iface 62 (.agg #[.int .i64 y]))).run Try.prog W = .ok (.bool (x == y)) W := by
  simp only [binOp, Op.equal, Op.maxDepth]
  simp [eqIClass 9999, eqAClass 9997]
theorem eqAArray (d : Nat) (w : World) (x0 y0 : Bool) :
    (Op.equalIn (d + 2) 60 (.agg #[.bool x0]) (.agg #[.bool y0])).run Try.prog w = .ok (x0 == y0) w := by
  refine eqA_of Try.underlying60 (by kernel_rfl) ?_
  exact eqf_last (by rfl) (by go_simp; rfl) (by go_simp; rfl) (by go_simp)
theorem eqIArray (d : Nat) (vx vy : Value) (W : World) : (Op.equalIn (d+1) 55 (.iface 60 vx) (.iface 60 vy)).run Try.prog W = (Op.equalIn d 60 vx vy).run Try.prog W := by
  rw [Op.equalIn]
  rfl
theorem eqArrayKinds (x y : Bool) (W : World) : (binOp .eql 55 (.iface 60 (.agg #[.bool x])) (.iface 60 (.agg #[.bool y]))).run Try.prog W = .ok (.bool (x == y)) W := by
  simp only [binOp, Op.equal, Op.maxDepth]
  simp [eqIArray 9999, eqAArray 9997]
theorem kindOk5 {a : Int} (h : KindOk a) : a = 0 ∨ a = 1 ∨ a = 2 ∨ a = 3 ∨ a = 4 ∨ 8 ≤ a := by unfold KindOk at h; omega
theorem kindEq {a b : Int} (ha : KindOk a) (hb : KindOk b) (W : World) : (binOp .eql 55 (kindW a) (kindW b)).run Try.prog W = .ok (.bool (a == b)) W := by
  have ea : 8 ≤ a → ∀ c : Int, c ≤ 4 → (a == c) = false := by intro h c hc; simp; omega
  have eb : 8 ≤ b → ∀ c : Int, c ≤ 4 → (c == b) = false := by intro h c hc; simp; omega
  rcases kindOk5 ha with rfl | rfl | rfl | rfl | rfl | h
  all_goals rcases kindOk5 hb with rfl | rfl | rfl | rfl | rfl | h'
  all_goals first
    | (with_reducible rfl)
    | (rw [eb h' _ (by decide), kindW_8 h']; rfl)
    | (rw [ea h _ (by decide), kindW_8 h]; rfl)
    | (rw [kindW_8 h, kindW_8 h', eqClassKinds, show (a - 8 == b - 8) = (a == b) by rw [Bool.eq_iff_iff]; simp])
    | (exact eqArrayKinds _ _ W)
    | rfl
theorem kindEq0 {b : Int} (hb : KindOk b) (W : World) : (binOp .eql 55 (kindW b) (.iface 65 (.agg #[]))).run Try.prog W = .ok (.bool (b == 0)) W := kindEq (b := 0) hb (.inl ⟨by decide, by decide⟩) W
theorem kindEq8 {b : Int} (hb : KindOk b) (W : World) : (binOp .eql 55 (kindW b) (.iface 62 (.agg #[.int .i64 0]))).run Try.prog W = .ok (.bool (b == 8)) W := kindEq (b := 8) hb (.inr ⟨by decide, by decide⟩) W
theorem kindNe1 {b : Int} (hb : KindOk b) (W : World) : (binOp .neq 55 (kindW b) (.iface 58 (.agg #[]))).run Try.prog W = .ok (.bool (b != 1)) W := by
  rcases kindOk5 hb with rfl | rfl | rfl | rfl | rfl | h <;> (try rfl)
  rw [kindW_8 h, show (b != 1) = true by simp; omega]; rfl
theorem kindOk_no {a : Int} (h : KindOk a) : KindNo a := by unfold KindOk at h; unfold KindNo; omega
theorem guardKindE {a : Int} (h : KindOk a) (t : TypeId) (o o' : Operand) (v : Value) (W : World) : (eqGuard .eql t o o' (kindW a) v).run Try.prog W = .ok () W := by
  obtain ⟨u, x, e⟩ := kindIface (r := a) (by unfold KindOk at h; omega)
  rw [e]; cases v <;> rfl
theorem guardKindN {a : Int} (h : KindOk a) (t : TypeId) (o o' : Operand) (v : Value) (W : World) : (eqGuard .neq t o o' (kindW a) v).run Try.prog W = .ok () W := by
  obtain ⟨u, x, e⟩ := kindIface (r := a) (by unfold KindOk at h; omega)
  rw [e]; cases v <;> rfl
set_option maxHeartbeats 4000000 in
set_option maxRecDepth 100000 in
theorem impl_kindIn.calls (k : Nat) (A0 : Option Addr) (c0 : Nat) (l0 : List S48) (a1 a2 : Int) (r : Bool) (w : World) (hr0 : Kd.C k48 w A0 l0.length l0) (hc0 : l0.length ≤ c0) (h : impl_kindIn.f k l0 a1 a2 = some r) :
    Calls Try.prog 35 #[.slice A0 l0.length c0, kindW a1, kindW a2] w fun e w' => e = .returned (.bool r) ∧ Below w.heap.size w w' := by
  have HR0 := Aside0.mk hr0
  have HC0 := Aside0.mk hc0
  clear hr0 hc0
  unfold impl_kindIn.f at h
  split at h
  · rename_i hb
    obtain ⟨h1, h2⟩ := hb
    have q1 := kindEq h1 h2
    have q2 := kindEq0 h2
    have q3 := kindEq8 h2
    have q4 := kindNe1 h2
    have g1 := guardKindE h1
    have g2 := guardKindE h2
    have g3 := guardKindN h2
    have s1 := assertNull (kindOk_no h1)
    have s2 := assertArray (kindOk_no h1)
    have s3 := assertClass (kindOk_no h1)
    have s4 := assertClass (kindOk_no h2)
    by_cases c1 : a1 = a2
    · rw [if_pos c1] at h
      obtain rfl := Option.some.inj h
      have b1 : (a1 == a2) = true := by simpa using c1
      clear c1 h h1 h2
      go_enter Try.func35, Try.ntmps35
      go_wp2
      go_ret
      exact ⟨by simp, by repeat (first | (with_reducible exact Below.refl _ _) | apply below_alloc | apply pw_below_drewN | apply below_drew1 | exact Below.refl _ _)⟩
    rw [if_neg c1] at h
    have b1 : (a1 == a2) = false := by simpa using c1
    clear c1
    by_cases c2 : a2 = 0
    · rw [if_pos c2] at h
      obtain rfl := Option.some.inj h
      have b2 : (a2 == 0) = true := by simpa using c2
      clear c2 h h1 h2
      go_enter Try.func35, Try.ntmps35
      go_wp2
      go_ret
      exact ⟨by simp, by repeat (first | (with_reducible exact Below.refl _ _) | apply below_alloc | apply pw_below_drewN | apply below_drew1 | exact Below.refl _ _)⟩
    rw [if_neg c2] at h
    have b2 : (a2 == 0) = false := by simpa using c2
    clear c2
    by_cases c3 : a1 = 2
    · rw [if_pos c3] at h
      obtain rfl := Option.some.inj h
      have b3 : (a1 == 2) = true := by simpa using c3
      clear c3 h h1 h2
      go_enter Try.func35, Try.ntmps35
      go_wp2
      go_ret
      exact ⟨by simp, by repeat (first | (with_reducible exact Below.refl _ _) | apply below_alloc | apply pw_below_drewN | apply below_drew1 | exact Below.refl _ _)⟩
    rw [if_neg c3] at h
    have b3 : (a1 == 2) = false := by simpa using c3
    clear c3
    by_cases c4 : a1 = 3 ∨ a1 = 4
    · rw [if_pos c4] at h
      obtain rfl := Option.some.inj h
      have b4 : (a1 == 3 || a1 == 4) = true := by simpa using c4
      clear c4 h h1 h2
      go_enter Try.func35, Try.ntmps35
      go_wp2
      go_ret
      exact ⟨by simp, by repeat (first | (with_reducible exact Below.refl _ _) | apply below_alloc | apply pw_below_drewN | apply below_drew1 | exact Below.refl _ _)⟩
    rw [if_neg c4] at h
    have b4 : (a1 == 3 || a1 == 4) = false := by simpa using c4
    clear c4
    by_cases c5 : 8 ≤ a1
    · rw [if_pos c5] at h
      have b5 : decide (8 ≤ a1) = true := decide_eq_true c5
      rw [if_pos c5] at s3
      by_cases c6 : 8 ≤ a2
      · rw [if_pos c6] at h
        have b6 : decide (8 ≤ a2) = true := decide_eq_true c6
        rw [if_pos c6] at s4
        have A := Aside0.mk h
        clear c5 c6 h h1 h2
        go_enter Try.func35, Try.ntmps35
        go_wp2_with (go_at_call 41; refine (impl_classUp.calls k _ _ l0 _ _ _ _ (Kd.C_below HR0.out (by repeat (first | (with_reducible exact Below.refl _ _) | apply below_alloc | apply pw_below_drewN | apply below_drew1 | exact Below.refl _ _))) HC0.out A.out).mono ?_; rintro e w1 ⟨rfl, ⟨n1, rfl⟩⟩)
        go_ret
        exact ⟨by simp, by repeat (first | (with_reducible exact Below.refl _ _) | apply below_alloc | apply pw_below_drewN | apply below_drew1 | exact Below.refl _ _)⟩
      · rw [if_neg c6] at h
        obtain rfl := Option.some.inj h
        have b6 : decide (8 ≤ a2) = false := decide_eq_false c6
        rw [if_neg c6] at s4
        clear c5 c6 h h1 h2
        go_enter Try.func35, Try.ntmps35
        go_wp2
        go_ret
        exact ⟨by simp, by repeat (first | (with_reducible exact Below.refl _ _) | apply below_alloc | apply pw_below_drewN | apply below_drew1 | exact Below.refl _ _)⟩
    · rw [if_neg c5] at h
      obtain rfl := Option.some.inj h
      have b5 : decide (8 ≤ a1) = false := decide_eq_false c5
      rw [if_neg c5] at s3
      clear c5 h h1 h2
      go_enter Try.func35, Try.ntmps35
      go_wp2
      go_ret
      exact ⟨by simp, by repeat (first | (with_reducible exact Below.refl _ _) | apply below_alloc | apply pw_below_drewN | apply below_drew1 | exact Below.refl _ _)⟩
  · cases h
end Go.Proofs.Ytchegijjjakmpaa.P

end
section

namespace Go.Proofs.Ytchegijjjakmpaa.P
open Go.RowKit Go.Proofs.YtchegijjjakmpaaW.PrintWords Go.Proofs.YtchegijjjakmpaaW.PrintLast Go.Proofs.YtchegijjjakmpaaW.PrintMore
attribute [local go_sem] max2_int min2_int max_two min_two max_three min_three max_four min_four
set_option linter.unusedVariables false
set_option linter.unusedSimpArgs false
set_option maxHeartbeats 8000000 in
set_option maxRecDepth 100000 in
theorem impl_typeIn.calls (k : Nat) (A0 : Option Addr) (c0 : Nat) (l0 : List (S48)) (a1 : Int) (a2 : Int) (r : Bool) (w : World) (hr0 : Kd.C k48 w A0 l0.length l0) (hc0 : l0.length ≤ c0) (h : impl_typeIn.f k l0 a1 a2 = some r) :
  Calls Try.prog 25 #[.slice A0 l0.length c0, .int .i64 a1, .int .i64 a2] w fun e w' => e = .returned (.bool r) ∧ Below w.heap.size w w' := by
 have hkq := kindEql
 have hkn := kindNeq
 have hkp := guardNilE
 have hkr := guardNilN
 have HR0 := Aside0.mk hr0
 have HC0 := Aside0.mk hc0
 clear hr0 hc0
 have HB := Aside0.mk (Below.refl w.heap.size w)
 have H : ((impl_kindOf.f (l0.length : Int) a1).bind fun t362 => ((impl_kindOf.f (l0.length : Int) a2).bind fun t363 => (if t362 = (-1) then (some false) else (if t363 = (-1) then (some false) else ((impl_kindIn.f k l0 t362 t363).bind fun t364 => (some t364)))))) = some r := h
 clear h
 obtain ⟨t362, A4, H⟩ := ob H
 obtain ⟨t363, A5, H⟩ := ob H
 by_cases c6 : t362 = (-1)
 ·rw [if_pos c6] at H
  have c6b0 := beq_iff_eq.mpr c6
  have c6b1 := bne_eq_false_iff_eq.mpr c6
  clear c6
  obtain rfl := Option.some.inj H; clear H
  go_enter Try.func25, Try.ntmps25
  go_wp2_with (first | ((with_reducible refine gc 33 rfl ?_); refine gl (some 12) Try.func33 #[.int .i64 (l0.length : Int), .int .i64 a1] rfl ?_; (with_reducible refine (impl_kindOf.calls (l0.length : Int) a1 t362 _ A4.out).mono ?_); rintro e w' ⟨rfl, ⟨nd, rfl⟩⟩; refine ⟨_, rfl, ?_⟩) | ((with_reducible refine gc 33 rfl ?_); refine gl (some 16) Try.func33 #[.int .i64 (l0.length : Int), .int .i64 a2] rfl ?_; (with_reducible refine (impl_kindOf.calls (l0.length : Int) a2 t363 _ A5.out).mono ?_); rintro e w' ⟨rfl, ⟨nd, rfl⟩⟩; refine ⟨_, rfl, ?_⟩))
  go_ret
  exact fin
 ·rw [if_neg c6] at H
  have c6b0 := beq_eq_false_iff_ne.mpr c6
  have c6b1 := bne_iff_ne.mpr c6
  by_cases c7 : t363 = (-1)
  ·rw [if_pos c7] at H
   have c7b0 := beq_iff_eq.mpr c7
   have c7b1 := bne_eq_false_iff_eq.mpr c7
   clear c7
   obtain rfl := Option.some.inj H; clear H
   go_enter Try.func25, Try.ntmps25
   go_wp2_with (first | ((with_reducible refine gc 33 rfl ?_); refine gl (some 12) Try.func33 #[.int .i64 (l0.length : Int), .int .i64 a1] rfl ?_; (with_reducible refine (impl_kindOf.calls (l0.length : Int) a1 t362 _ A4.out).mono ?_); rintro e w' ⟨rfl, ⟨nd, rfl⟩⟩; refine ⟨_, rfl, ?_⟩) | ((with_reducible refine gc 33 rfl ?_); refine gl (some 16) Try.func33 #[.int .i64 (l0.length : Int), .int .i64 a2] rfl ?_; (with_reducible refine (impl_kindOf.calls (l0.length : Int) a2 t363 _ A5.out).mono ?_); rintro e w' ⟨rfl, ⟨nd, rfl⟩⟩; refine ⟨_, rfl, ?_⟩))
   go_ret
   exact fin
  ·rw [if_neg c7] at H
   have c7b0 := beq_eq_false_iff_ne.mpr c7
   have c7b1 := bne_iff_ne.mpr c7
   obtain ⟨t364, A8, H⟩ := ob H
   obtain rfl := Option.some.inj H; clear H
   go_enter Try.func25, Try.ntmps25
   go_wp2_with (first | ((with_reducible refine gc 33 rfl ?_); refine gl (some 12) Try.func33 #[.int .i64 (l0.length : Int), .int .i64 a1] rfl ?_; (with_reducible refine (impl_kindOf.calls (l0.length : Int) a1 t362 _ A4.out).mono ?_); rintro e w' ⟨rfl, ⟨nd, rfl⟩⟩; refine ⟨_, rfl, ?_⟩) | ((with_reducible refine gc 33 rfl ?_); refine gl (some 16) Try.func33 #[.int .i64 (l0.length : Int), .int .i64 a2] rfl ?_; (with_reducible refine (impl_kindOf.calls (l0.length : Int) a2 t363 _ A5.out).mono ?_); rintro e w' ⟨rfl, ⟨nd, rfl⟩⟩; refine ⟨_, rfl, ?_⟩) | (go_at_call 35; (with_reducible refine (impl_kindIn.calls k _ _ l0 t362 t363 t364 _ ?side1 ?side2 A8.out).mono ?_); (case side1 => repeat (first | exact HR0.out | (with_reducible refine Kd.C_alloc ?_ _) | (with_reducible refine Kd.C_drewN ?_ _) | (with_reducible refine Kd.C_drew ?_))); (case side2 => exact HC0.out); rintro e w9 ⟨rfl, hb⟩; replace HB := hs HB hb; (try clear hb)))
   go_ret
   exact fin
end Go.Proofs.Ytchegijjjakmpaa.P

end
section

namespace Go.Proofs.Ytchegijjjakmpaa.P
open Go.RowKit Go.Proofs.YtchegijjjakmpaaW.PrintWords Go.Proofs.YtchegijjjakmpaaW.PrintLast Go.Proofs.YtchegijjjakmpaaW.PrintMore
attribute [local go_sem] max2_int min2_int max_two min_two max_three min_three max_four min_four
set_option linter.unusedVariables false
set_option linter.unusedSimpArgs false
set_option maxHeartbeats 8000000 in
set_option maxRecDepth 100000 in
theorem impl_shapeIn.calls (k : Nat) (A0 : Option Addr) (c0 : Nat) (l0 : List (S48)) (a1_0 : Bool) (A1_1 : Option Addr) (c1_1 : Nat) (l1_1 : List Int) (A1_2 : Option Addr) (c1_2 : Nat) (l1_2 : List Int) (a2_0 : Bool) (A2_1 : Option Addr) (c2_1 : Nat) (l2_1 : List Int) (A2_2 : Option Addr) (c2_2 : Nat) (l2_2 : List Int) (r : Bool) (w : World) (hr0 : Kd.C k48 w A0 l0.length l0) (hc0 : l0.length ≤ c0) (hr1_1 : Kd.C (Kd.int .i64) w A1_1 l1_1.length l1_1) (hc1_1 : l1_1.length ≤ c1_1) (hr1_2 : Kd.C (Kd.int .i64) w A1_2 l1_2.length l1_2) (hc1_2 : l1_2.length ≤ c1_2) (hr2_1 : Kd.C (Kd.int .i64) w A2_1 l2_1.length l2_1) (hc2_1 : l2_1.length ≤ c2_1) (hr2_2 : Kd.C (Kd.int .i64) w A2_2 l2_2.length l2_2) (hc2_2 : l2_2.length ≤ c2_2) (h : impl_shapeIn.f k l0 a1_0 l1_1 l1_2 a2_0 l2_1 l2_2 = some r) :
  Calls Try.prog 14 #[.slice A0 l0.length c0, .agg #[.bool a1_0, .slice A1_1 l1_1.length c1_1, .slice A1_2 l1_2.length c1_2], .agg #[.bool a2_0, .slice A2_1 l2_1.length c2_1, .slice A2_2 l2_2.length c2_2]] w fun e w' => e = .returned (.bool r) ∧ Below w.heap.size w w' := by
 have hu26 := Try.underlying26
 have HR0 := Aside0.mk hr0
 have HC0 := Aside0.mk hc0
 clear hr0 hc0
 have HR1_1 := Aside0.mk hr1_1
 have HC1_1 := Aside0.mk hc1_1
 clear hr1_1 hc1_1
 have HR1_2 := Aside0.mk hr1_2
 have HC1_2 := Aside0.mk hc1_2
 clear hr1_2 hc1_2
 have HR2_1 := Aside0.mk hr2_1
 have HC2_1 := Aside0.mk hc2_1
 clear hr2_1 hc2_1
 have HR2_2 := Aside0.mk hr2_2
 have HC2_2 := Aside0.mk hc2_2
 clear hr2_2 hc2_2
 have HB := Aside0.mk (Below.refl w.heap.size w)
 have H : ((impl_shapeFit.f k l0 a1_0 l1_1 l1_2 a2_0 l2_1 l2_2).bind fun t367 => (if t367 = true then (impl_shapeIn.l0 k l0 l1_1 (l1_1.length : Int) 0 a1_0 l1_1 l1_2 a2_0 l2_1 l2_2) else (some false))) = some r := h
 clear h
 obtain ⟨t367, A4, H⟩ := ob H
 by_cases c5 : t367 = true
 ·subst c5
  replace H := it H
  have H' := Aside0.mk H
  clear H
  go_enter Try.func14, Try.ntmps14
  go_wp2_with (first | ((with_reducible refine gd 4 rfl ?_); refine bx 4 #[.bool a1_0, .slice A1_1 l1_1.length c1_1, .slice A1_2 l1_2.length c1_2] 26 ?_; intro gb365 hg w6 hbox hb; have BK365 := Aside0.mk hbox; have GW365 := hz HB hg; have GE365 := hz HB hg; replace HB := hs HB hb; clear hb hbox hg) | ((with_reducible refine gd 5 rfl ?_); refine bx 5 #[.bool a2_0, .slice A2_1 l2_1.length c2_1, .slice A2_2 l2_2.length c2_2] 26 ?_; intro gb366 hg w7 hbox hb; have BK366 := Aside0.mk hbox; have GW366 := hz HB hg; have GE366 := hz HB hg; have NB365_366 := nl BK365 hg; have NB366_365 := ng BK365 hg; replace BK365 := kb BK365 hb; replace HB := hs HB hb; clear hb hbox hg; have hnb8 := NB365_366.out; have hnc8 := NB366_365.out; obtain ⟨_,_,_,_,_,_⟩ := cf3 BK365; obtain ⟨_,_,_,_,_,_⟩ := cf3 BK366) | ((with_reducible refine gc 24 rfl ?_); refine gl (some 14) Try.func24 #[.slice A0 l0.length c0, .agg #[.bool a1_0, .slice A1_1 l1_1.length c1_1, .slice A1_2 l1_2.length c1_2], .agg #[.bool a2_0, .slice A2_1 l2_1.length c2_1, .slice A2_2 l2_2.length c2_2]] rfl ?_; (with_reducible refine (impl_shapeFit.calls k _ _ l0 a1_0 _ _ l1_1 _ _ l1_2 a2_0 _ _ l2_1 _ _ l2_2 true _ ?side1 ?side2 ?side3 ?side4 ?side5 ?side6 ?side7 ?side8 ?side9 ?side10 A4.out).mono ?_); (case side1 => exact cb HR0.out); (case side2 => exact HC0.out); (case side3 => exact cb HR1_1.out); (case side4 => exact HC1_1.out); (case side5 => exact cb HR1_2.out); (case side6 => exact HC1_2.out); (case side7 => exact cb HR2_1.out); (case side8 => exact HC2_1.out); (case side9 => exact cb HR2_2.out); (case side10 => exact HC2_2.out); rintro e w11 ⟨rfl, hb⟩; refine ⟨_, rfl, ?_⟩; replace BK365 := kb BK365 hb; replace BK366 := kb BK366 hb; replace HB := hs HB hb; obtain ⟨_,_,_,_,_,_⟩ := cf3 BK365))
  go_loopg [19] k (fun kq v19 w' => ∃ (x19_1 : Int), v19 = .int .i64 x19_1 ∧ Aside0 (impl_shapeIn.l0 kq l0 l1_1 (l1_1.length : Int) x19_1 a1_0 l1_1 l1_2 a2_0 l2_1 l2_2 = some r) ∧ Aside0 (kq ≤ k) ∧ Aside0 (w'.heap[gb365]? = some (.cells #[.bool a1_0, (.slice A1_1 l1_1.length c1_1), (.slice A1_2 l1_2.length c1_2)] 26 (0, 0))) ∧ Aside0 (w'.heap[gb366]? = some (.cells #[.bool a2_0, (.slice A2_1 l2_1.length c2_1), (.slice A2_2 l2_2.length c2_2)] 26 (0, 0))) ∧ Aside0 (Below w.heap.size w w'))
  case atStart => exact ⟨(0), (by first | rfl | (simp; done) | (simp [*]; done)), H', ⟨Nat.le_refl _⟩, kk BK365, kk BK366, ⟨bl⟩⟩
  case round =>
   clear H'
   obtain ⟨x19_1, rfl, HA, HK1, BK365, BK366, HB⟩ := hrel
   cases gk with
   | zero => exact absurd HA.out (by simp [impl_shapeIn.l0])
   | succ k1 =>
    have H := HA.out
    clear HA
    simp only [impl_shapeIn.l0] at H
    by_cases c13 : x19_1 < (l1_1.length : Int)
    ·rw [if_pos c13] at H
     have c13b0 : decide (x19_1 < (l1_1.length : Int)) = true := decide_eq_true c13
     clear c13
     by_cases c14 : 0 ≤ x19_1
     ·rw [if_pos c14] at H
      have c14b0 : decide (0 ≤ x19_1) = true := decide_eq_true c14
      clear c14
      by_cases c15 : x19_1 < (l1_1.length : Int)
      ·rw [if_pos c15] at H
       have c15b0 : decide (x19_1 < (l1_1.length : Int)) = true := decide_eq_true c15
       clear c15
       by_cases c16 : x19_1 < (l2_1.length : Int)
       ·rw [if_pos c16] at H
        have c16b0 : decide (x19_1 < (l2_1.length : Int)) = true := decide_eq_true c16
        clear c16
        obtain ⟨t370, A17, H⟩ := ob H
        by_cases c18 : t370 = true
        ·subst c18
         replace H := it H
         have H' := Aside0.mk H
         clear H
         have p368 : 0 ≤ (x19_1 : Int) := od
         have q368 : x19_1 < (l1_1.length : Int) := od
         obtain ⟨ad368, e368, hx368_0⟩ := Kd.at_int HR1_1.out x19_1 p368 q368
         cases e368
         replace hx368_0 := hc HB hx368_0
         replace p368 := eq_true p368
         replace q368 := eq_true q368
         have hnb19 := NB366_365.out
         have hnc19 := NB365_366.out
         obtain ⟨_,_,_,_,_,_⟩ := cf3 BK366
         have p369 : 0 ≤ (x19_1 : Int) := od
         have q369 : x19_1 < (l2_1.length : Int) := od
         obtain ⟨ad369, e369, hx369_0⟩ := Kd.at_int HR2_1.out x19_1 p369 q369
         cases e369
         replace hx369_0 := hc HB hx369_0
         replace p369 := eq_true p369
         replace q369 := eq_true q369
         go_wp2_with (first | ((with_reducible refine gc 25 rfl ?_); refine gl (some 31) Try.func25 #[.slice A0 l0.length c0, .int .i64 (rd l1_1 x19_1), .int .i64 (rd l2_1 x19_1)] rfl ?_; (with_reducible refine (impl_typeIn.calls k1 _ _ l0 (rd l1_1 x19_1) (rd l2_1 x19_1) true _ ?side1 ?side2 A17.out).mono ?_); (case side1 => exact cb HR0.out); (case side2 => exact HC0.out); rintro e w21 ⟨rfl, hb⟩; refine ⟨_, rfl, ?_⟩; replace BK365 := kb BK365 hb; replace BK366 := kb BK366 hb; replace HB := hs HB hb))
         go_roundg k1
         case measure => have := HK1.out; omega
         case rel => exact ⟨(wrap64 (x19_1 + 1)), (by first | rfl | (simp; done) | (simp [*]; done)), H', ⟨by have := HK1.out; omega⟩, kk BK365, kk BK366, ⟨bl⟩⟩
        ·replace c18 := Bool.eq_false_iff.mpr c18
         subst c18
         replace H := ie H
         obtain rfl := Option.some.inj H; clear H
         have p368 : 0 ≤ (x19_1 : Int) := od
         have q368 : x19_1 < (l1_1.length : Int) := od
         obtain ⟨ad368, e368, hx368_0⟩ := Kd.at_int HR1_1.out x19_1 p368 q368
         cases e368
         replace hx368_0 := hc HB hx368_0
         replace p368 := eq_true p368
         replace q368 := eq_true q368
         have hnb22 := NB366_365.out
         have hnc22 := NB365_366.out
         obtain ⟨_,_,_,_,_,_⟩ := cf3 BK366
         have p369 : 0 ≤ (x19_1 : Int) := od
         have q369 : x19_1 < (l2_1.length : Int) := od
         obtain ⟨ad369, e369, hx369_0⟩ := Kd.at_int HR2_1.out x19_1 p369 q369
         cases e369
         replace hx369_0 := hc HB hx369_0
         replace p369 := eq_true p369
         replace q369 := eq_true q369
         go_wp2_with (first | ((with_reducible refine gc 25 rfl ?_); refine gl (some 31) Try.func25 #[.slice A0 l0.length c0, .int .i64 (rd l1_1 x19_1), .int .i64 (rd l2_1 x19_1)] rfl ?_; (with_reducible refine (impl_typeIn.calls k1 _ _ l0 (rd l1_1 x19_1) (rd l2_1 x19_1) false _ ?side1 ?side2 A17.out).mono ?_); (case side1 => exact cb HR0.out); (case side2 => exact HC0.out); rintro e w24 ⟨rfl, hb⟩; refine ⟨_, rfl, ?_⟩; replace BK365 := kb BK365 hb; replace BK366 := kb BK366 hb; replace HB := hs HB hb))
         go_ret
         exact fin
       ·rw [if_neg c16] at H
        exact absurd H (by simp)
      ·rw [if_neg c15] at H
       exact absurd H (by simp)
     ·rw [if_neg c14] at H
      exact absurd H (by simp)
    ·rw [if_neg c13] at H
     have c13b0 : decide (x19_1 < (l1_1.length : Int)) = false := decide_eq_false c13
     clear c13
     have H' := Aside0.mk H
     clear H
     have hnb25 := NB365_366.out
     have hnc25 := NB366_365.out
     obtain ⟨_,_,_,_,_,_⟩ := cf3 BK365
     go_wp2
     go_loopg [37] k1 (fun kq v37 w' => ∃ (x37_2 : Int), v37 = .int .i64 x37_2 ∧ Aside0 (impl_shapeIn.l1 kq l0 l1_2 (l1_2.length : Int) x37_2 a2_0 l2_1 l2_2 = some r) ∧ Aside0 (kq ≤ k1) ∧ Aside0 (w'.heap[gb365]? = some (.cells #[.bool a1_0, (.slice A1_1 l1_1.length c1_1), (.slice A1_2 l1_2.length c1_2)] 26 (0, 0))) ∧ Aside0 (w'.heap[gb366]? = some (.cells #[.bool a2_0, (.slice A2_1 l2_1.length c2_1), (.slice A2_2 l2_2.length c2_2)] 26 (0, 0))) ∧ Aside0 (Below w.heap.size w w'))
     case atStart => exact ⟨(0), (by first | rfl | (simp; done) | (simp [*]; done)), H', ⟨Nat.le_refl _⟩, kk BK365, kk BK366, ⟨bl⟩⟩
     case round =>
      clear H'
      obtain ⟨x37_2, rfl, HA, HK2, BK365, BK366, HB⟩ := hrel
      cases gk with
      | zero => exact absurd HA.out (by simp [impl_shapeIn.l1])
      | succ k2 =>
       have H := HA.out
       clear HA
       simp only [impl_shapeIn.l1] at H
       by_cases c27 : x37_2 < (l1_2.length : Int)
       ·rw [if_pos c27] at H
        have c27b0 : decide (x37_2 < (l1_2.length : Int)) = true := decide_eq_true c27
        clear c27
        by_cases c28 : 0 ≤ x37_2
        ·rw [if_pos c28] at H
         have c28b0 : decide (0 ≤ x37_2) = true := decide_eq_true c28
         clear c28
         by_cases c29 : x37_2 < (l1_2.length : Int)
         ·rw [if_pos c29] at H
          have c29b0 : decide (x37_2 < (l1_2.length : Int)) = true := decide_eq_true c29
          clear c29
          by_cases c30 : x37_2 < (l2_2.length : Int)
          ·rw [if_pos c30] at H
           have c30b0 : decide (x37_2 < (l2_2.length : Int)) = true := decide_eq_true c30
           clear c30
           obtain ⟨t373, A31, H⟩ := ob H
           by_cases c32 : t373 = true
           ·subst c32
            replace H := it H
            have H' := Aside0.mk H
            clear H
            have p371 : 0 ≤ (x37_2 : Int) := od
            have q371 : x37_2 < (l1_2.length : Int) := od
            obtain ⟨ad371, e371, hx371_0⟩ := Kd.at_int HR1_2.out x37_2 p371 q371
            cases e371
            replace hx371_0 := hc HB hx371_0
            replace p371 := eq_true p371
            replace q371 := eq_true q371
            have hnb33 := NB366_365.out
            have hnc33 := NB365_366.out
            obtain ⟨_,_,_,_,_,_⟩ := cf3 BK366
            have p372 : 0 ≤ (x37_2 : Int) := od
            have q372 : x37_2 < (l2_2.length : Int) := od
            obtain ⟨ad372, e372, hx372_0⟩ := Kd.at_int HR2_2.out x37_2 p372 q372
            cases e372
            replace hx372_0 := hc HB hx372_0
            replace p372 := eq_true p372
            replace q372 := eq_true q372
            go_wp2_with (first | ((with_reducible refine gc 25 rfl ?_); refine gl (some 49) Try.func25 #[.slice A0 l0.length c0, .int .i64 (rd l1_2 x37_2), .int .i64 (rd l2_2 x37_2)] rfl ?_; (with_reducible refine (impl_typeIn.calls k2 _ _ l0 (rd l1_2 x37_2) (rd l2_2 x37_2) true _ ?side1 ?side2 A31.out).mono ?_); (case side1 => exact cb HR0.out); (case side2 => exact HC0.out); rintro e w35 ⟨rfl, hb⟩; refine ⟨_, rfl, ?_⟩; replace BK365 := kb BK365 hb; replace BK366 := kb BK366 hb; replace HB := hs HB hb))
            go_roundg k2
            case measure => have := HK1.out; have := HK2.out; omega
            case rel => exact ⟨(wrap64 (x37_2 + 1)), (by first | rfl | (simp; done) | (simp [*]; done)), H', ⟨by have := HK1.out; have := HK2.out; omega⟩, kk BK365, kk BK366, ⟨bl⟩⟩
           ·replace c32 := Bool.eq_false_iff.mpr c32
            subst c32
            replace H := ie H
            obtain rfl := Option.some.inj H; clear H
            have p371 : 0 ≤ (x37_2 : Int) := od
            have q371 : x37_2 < (l1_2.length : Int) := od
            obtain ⟨ad371, e371, hx371_0⟩ := Kd.at_int HR1_2.out x37_2 p371 q371
            cases e371
            replace hx371_0 := hc HB hx371_0
            replace p371 := eq_true p371
            replace q371 := eq_true q371
            have hnb36 := NB366_365.out
            have hnc36 := NB365_366.out
            obtain ⟨_,_,_,_,_,_⟩ := cf3 BK366
            have p372 : 0 ≤ (x37_2 : Int) := od
            have q372 : x37_2 < (l2_2.length : Int) := od
            obtain ⟨ad372, e372, hx372_0⟩ := Kd.at_int HR2_2.out x37_2 p372 q372
            cases e372
            replace hx372_0 := hc HB hx372_0
            replace p372 := eq_true p372
            replace q372 := eq_true q372
            go_wp2_with (first | ((with_reducible refine gc 25 rfl ?_); refine gl (some 49) Try.func25 #[.slice A0 l0.length c0, .int .i64 (rd l1_2 x37_2), .int .i64 (rd l2_2 x37_2)] rfl ?_; (with_reducible refine (impl_typeIn.calls k2 _ _ l0 (rd l1_2 x37_2) (rd l2_2 x37_2) false _ ?side1 ?side2 A31.out).mono ?_); (case side1 => exact cb HR0.out); (case side2 => exact HC0.out); rintro e w38 ⟨rfl, hb⟩; refine ⟨_, rfl, ?_⟩; replace BK365 := kb BK365 hb; replace BK366 := kb BK366 hb; replace HB := hs HB hb))
            go_ret
            exact fin
          ·rw [if_neg c30] at H
           exact absurd H (by simp)
         ·rw [if_neg c29] at H
          exact absurd H (by simp)
        ·rw [if_neg c28] at H
         exact absurd H (by simp)
       ·rw [if_neg c27] at H
        have c27b0 : decide (x37_2 < (l1_2.length : Int)) = false := decide_eq_false c27
        clear c27
        obtain rfl := Option.some.inj H; clear H
        go_wp2
        go_ret
        exact fin
 ·replace c5 := Bool.eq_false_iff.mpr c5
  subst c5
  replace H := ie H
  obtain rfl := Option.some.inj H; clear H
  go_enter Try.func14, Try.ntmps14
  go_wp2_with (first | ((with_reducible refine gd 4 rfl ?_); refine bx 4 #[.bool a1_0, .slice A1_1 l1_1.length c1_1, .slice A1_2 l1_2.length c1_2] 26 ?_; intro gb365 hg w39 hbox hb; have BK365 := Aside0.mk hbox; have GW365 := hz HB hg; have GE365 := hz HB hg; replace HB := hs HB hb; clear hb hbox hg) | ((with_reducible refine gd 5 rfl ?_); refine bx 5 #[.bool a2_0, .slice A2_1 l2_1.length c2_1, .slice A2_2 l2_2.length c2_2] 26 ?_; intro gb366 hg w40 hbox hb; have BK366 := Aside0.mk hbox; have GW366 := hz HB hg; have GE366 := hz HB hg; have NB365_366 := nl BK365 hg; have NB366_365 := ng BK365 hg; replace BK365 := kb BK365 hb; replace HB := hs HB hb; clear hb hbox hg; have hnb41 := NB365_366.out; have hnc41 := NB366_365.out; obtain ⟨_,_,_,_,_,_⟩ := cf3 BK365; obtain ⟨_,_,_,_,_,_⟩ := cf3 BK366) | ((with_reducible refine gc 24 rfl ?_); refine gl (some 14) Try.func24 #[.slice A0 l0.length c0, .agg #[.bool a1_0, .slice A1_1 l1_1.length c1_1, .slice A1_2 l1_2.length c1_2], .agg #[.bool a2_0, .slice A2_1 l2_1.length c2_1, .slice A2_2 l2_2.length c2_2]] rfl ?_; (with_reducible refine (impl_shapeFit.calls k _ _ l0 a1_0 _ _ l1_1 _ _ l1_2 a2_0 _ _ l2_1 _ _ l2_2 false _ ?side1 ?side2 ?side3 ?side4 ?side5 ?side6 ?side7 ?side8 ?side9 ?side10 A4.out).mono ?_); (case side1 => exact cb HR0.out); (case side2 => exact HC0.out); (case side3 => exact cb HR1_1.out); (case side4 => exact HC1_1.out); (case side5 => exact cb HR1_2.out); (case side6 => exact HC1_2.out); (case side7 => exact cb HR2_1.out); (case side8 => exact HC2_1.out); (case side9 => exact cb HR2_2.out); (case side10 => exact HC2_2.out); rintro e w44 ⟨rfl, hb⟩; refine ⟨_, rfl, ?_⟩; replace BK365 := kb BK365 hb; replace BK366 := kb BK366 hb; replace HB := hs HB hb))
  go_ret
  exact fin
end Go.Proofs.Ytchegijjjakmpaa.P

end
section

namespace Go.Proofs.Ytchegijjjakmpaa.P
open Go.RowKit Go.Proofs.YtchegijjjakmpaaW.PrintWords Go.Proofs.YtchegijjjakmpaaW.PrintLast Go.Proofs.YtchegijjjakmpaaW.PrintMore
attribute [local go_sem] max2_int min2_int max_two min_two max_three min_three max_four min_four
set_option linter.unusedVariables false
set_option linter.unusedSimpArgs false
set_option maxHeartbeats 8000000 in
set_option maxRecDepth 100000 in
theorem impl_ShapeIn.calls (k : Nat) (A0 : Option Addr) (c0 : Nat) (l0 : List (S48)) (a1_0 : Bool) (A1_1 : Option Addr) (c1_1 : Nat) (l1_1 : List Int) (A1_2 : Option Addr) (c1_2 : Nat) (l1_2 : List Int) (a2_0 : Bool) (A2_1 : Option Addr) (c2_1 : Nat) (l2_1 : List Int) (A2_2 : Option Addr) (c2_2 : Nat) (l2_2 : List Int) (r : Bool) (w : World) (hr0 : Kd.C k48 w A0 l0.length l0) (hc0 : l0.length ≤ c0) (hr1_1 : Kd.C (Kd.int .i64) w A1_1 l1_1.length l1_1) (hc1_1 : l1_1.length ≤ c1_1) (hr1_2 : Kd.C (Kd.int .i64) w A1_2 l1_2.length l1_2) (hc1_2 : l1_2.length ≤ c1_2) (hr2_1 : Kd.C (Kd.int .i64) w A2_1 l2_1.length l2_1) (hc2_1 : l2_1.length ≤ c2_1) (hr2_2 : Kd.C (Kd.int .i64) w A2_2 l2_2.length l2_2) (hc2_2 : l2_2.length ≤ c2_2) (h : impl_ShapeIn.f k l0 a1_0 l1_1 l1_2 a2_0 l2_1 l2_2 = some r) :
  Calls Try.prog 5 #[.slice A0 l0.length c0, .agg #[.bool a1_0, .slice A1_1 l1_1.length c1_1, .slice A1_2 l1_2.length c1_2], .agg #[.bool a2_0, .slice A2_1 l2_1.length c2_1, .slice A2_2 l2_2.length c2_2]] w fun e w' => e = .returned (.bool r) ∧ Below w.heap.size w w' := by
 have hu26 := Try.underlying26
 have HR0 := Aside0.mk hr0
 have HC0 := Aside0.mk hc0
 clear hr0 hc0
 have HR1_1 := Aside0.mk hr1_1
 have HC1_1 := Aside0.mk hc1_1
 clear hr1_1 hc1_1
 have HR1_2 := Aside0.mk hr1_2
 have HC1_2 := Aside0.mk hc1_2
 clear hr1_2 hc1_2
 have HR2_1 := Aside0.mk hr2_1
 have HC2_1 := Aside0.mk hc2_1
 clear hr2_1 hc2_1
 have HR2_2 := Aside0.mk hr2_2
 have HC2_2 := Aside0.mk hc2_2
 clear hr2_2 hc2_2
 have HB := Aside0.mk (Below.refl w.heap.size w)
 have H : ((impl_ClassesOk.f k l0).bind fun t376 => (if t376 = true then ((impl_shapeIn.f k l0 a1_0 l1_1 l1_2 a2_0 l2_1 l2_2).bind fun t377 => (some t377)) else (some false))) = some r := h
 clear h
 obtain ⟨t376, A4, H⟩ := ob H
 by_cases c5 : t376 = true
 ·subst c5
  replace H := it H
  obtain ⟨t377, A6, H⟩ := ob H
  obtain rfl := Option.some.inj H; clear H
  go_enter Try.func5, Try.ntmps5
  go_wp2_with (first | ((with_reducible refine gd 4 rfl ?_); refine bx 4 #[.bool a1_0, .slice A1_1 l1_1.length c1_1, .slice A1_2 l1_2.length c1_2] 26 ?_; intro gb374 hg w7 hbox hb; have BK374 := Aside0.mk hbox; have GW374 := hz HB hg; have GE374 := hz HB hg; replace HB := hs HB hb; clear hb hbox hg) | ((with_reducible refine gd 5 rfl ?_); refine bx 5 #[.bool a2_0, .slice A2_1 l2_1.length c2_1, .slice A2_2 l2_2.length c2_2] 26 ?_; intro gb375 hg w8 hbox hb; have BK375 := Aside0.mk hbox; have GW375 := hz HB hg; have GE375 := hz HB hg; have NB374_375 := nl BK374 hg; have NB375_374 := ng BK374 hg; replace BK374 := kb BK374 hb; replace HB := hs HB hb; clear hb hbox hg) | ((with_reducible refine gc 13 rfl ?_); refine gl (some 8) Try.func13 #[.slice A0 l0.length c0] rfl ?_; (with_reducible refine (impl_ClassesOk.calls k _ _ l0 true _ ?side1 ?side2 A4.out).mono ?_); (case side1 => exact cb HR0.out); (case side2 => exact HC0.out); rintro e w9 ⟨rfl, hb⟩; refine ⟨_, rfl, ?_⟩; replace BK374 := kb BK374 hb; replace BK375 := kb BK375 hb; replace HB := hs HB hb; have hnb10 := NB374_375.out; have hnc10 := NB375_374.out; obtain ⟨_,_,_,_,_,_⟩ := cf3 BK374; obtain ⟨_,_,_,_,_,_⟩ := cf3 BK375) | (go_at_call 14; (with_reducible refine (impl_shapeIn.calls k _ _ l0 a1_0 _ _ l1_1 _ _ l1_2 a2_0 _ _ l2_1 _ _ l2_2 t377 _ ?side1 ?side2 ?side3 ?side4 ?side5 ?side6 ?side7 ?side8 ?side9 ?side10 A6.out).mono ?_); (case side1 => exact cb HR0.out); (case side2 => exact HC0.out); (case side3 => exact cb HR1_1.out); (case side4 => exact HC1_1.out); (case side5 => exact cb HR1_2.out); (case side6 => exact HC1_2.out); (case side7 => exact cb HR2_1.out); (case side8 => exact HC2_1.out); (case side9 => exact cb HR2_2.out); (case side10 => exact HC2_2.out); rintro e w13 ⟨rfl, hb⟩; replace BK374 := kb BK374 hb; replace BK375 := kb BK375 hb; replace HB := hs HB hb))
  go_ret
  exact fin
 ·replace c5 := Bool.eq_false_iff.mpr c5
  subst c5
  replace H := ie H
  obtain rfl := Option.some.inj H; clear H
  go_enter Try.func5, Try.ntmps5
  go_wp2_with (first | ((with_reducible refine gd 4 rfl ?_); refine bx 4 #[.bool a1_0, .slice A1_1 l1_1.length c1_1, .slice A1_2 l1_2.length c1_2] 26 ?_; intro gb374 hg w14 hbox hb; have BK374 := Aside0.mk hbox; have GW374 := hz HB hg; have GE374 := hz HB hg; replace HB := hs HB hb; clear hb hbox hg) | ((with_reducible refine gd 5 rfl ?_); refine bx 5 #[.bool a2_0, .slice A2_1 l2_1.length c2_1, .slice A2_2 l2_2.length c2_2] 26 ?_; intro gb375 hg w15 hbox hb; have BK375 := Aside0.mk hbox; have GW375 := hz HB hg; have GE375 := hz HB hg; have NB374_375 := nl BK374 hg; have NB375_374 := ng BK374 hg; replace BK374 := kb BK374 hb; replace HB := hs HB hb; clear hb hbox hg) | ((with_reducible refine gc 13 rfl ?_); refine gl (some 8) Try.func13 #[.slice A0 l0.length c0] rfl ?_; (with_reducible refine (impl_ClassesOk.calls k _ _ l0 false _ ?side1 ?side2 A4.out).mono ?_); (case side1 => exact cb HR0.out); (case side2 => exact HC0.out); rintro e w16 ⟨rfl, hb⟩; refine ⟨_, rfl, ?_⟩; replace BK374 := kb BK374 hb; replace BK375 := kb BK375 hb; replace HB := hs HB hb))
  go_ret
  exact fin
end Go.Proofs.Ytchegijjjakmpaa.P

end
