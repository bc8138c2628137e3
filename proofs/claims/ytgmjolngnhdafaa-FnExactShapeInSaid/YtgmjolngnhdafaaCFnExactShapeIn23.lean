/- A part of the claim FnExactShapeIn: texts of this session and texts that its program printed out of the translation, joined. -/
import Derived.Test.YtgmjolngnhdafaaCFnExactShapeIn22
import Derived.Outline
import Derived.Test.YtgmjolngnhdafaaCFnExactShapeIn21
import Derived.Test.YtgmjolngnhdafaaCFnExactShapeIn0
import Derived.Test.YtgmjolngnhdafaaCFnExactShapeIn1
import Derived.Test.YtgmjolngnhdafaaCFnExactShapeIn2
import Derived.Test.YtgmjolngnhdafaaCFnExactShapeIn3
import Derived.Test.YtgmjolngnhdafaaCFnExactShapeIn4
import Derived.Test.YtgmjolngnhdafaaCFnExactShapeIn5
import Derived.Test.YtgmjolngnhdafaaCFnExactShapeIn6
import Derived.Test.YtgmjolngnhdafaaCFnExactShapeIn7
import Derived.Test.YtgmjolngnhdafaaCFnExactShapeIn8
import Derived.Test.YtgmjolngnhdafaaCFnExactShapeIn9
import Derived.Test.YtgmjolngnhdafaaCFnExactShapeIn10
import Derived.Test.YtgmjolngnhdafaaCFnExactShapeIn11
import Derived.Test.YtgmjolngnhdafaaCFnExactShapeIn12
import Derived.Test.YtgmjolngnhdafaaCFnExactShapeIn13
import Derived.Test.YtgmjolngnhdafaaCFnExactShapeIn14
import Derived.Test.YtgmjolngnhdafaaCFnExactShapeIn15
import Derived.Test.YtgmjolngnhdafaaCFnExactShapeIn16
import Derived.Test.YtgmjolngnhdafaaCFnExactShapeIn17
import Derived.Test.YtgmjolngnhdafaaCFnExactShapeIn18
import Derived.Test.YtgmjolngnhdafaaCFnExactShapeIn19
import Derived.Test.YtgmjolngnhdafaaCFnExactShapeIn20
section

namespace Go.Proofs.Ytgmjolngnhdafaa.P
open Go Go.RowKit Go.Proofs.YtgmjolngnhdafaaW.PrintWords Go.Proofs.YtgmjolngnhdafaaW.PrintLast Go.Proofs.YtgmjolngnhdafaaW.PrintMore
set_option linter.unusedVariables false
set_option linter.unusedSimpArgs false
theorem eqAClass (d : Nat) (w : World) (x0 y0 : Int) :
    (Op.equalIn (d + 2) 88 (.agg #[.int .i64 x0]) (.agg #[.int .i64 y0])).run Try.prog w = .ok (x0 == y0) w := by
  refine eqA_of Try.underlying88 (by kernel_rfl) ?_
  exact eqf_last (by rfl) (by go_simp; rfl) (by go_simp; rfl) (by go_simp)
theorem eqIClass (d : Nat) (vx vy : Value) (W : World) : (Op.equalIn (d+1) 69 (.iface 88 vx) (.iface 88 vy)).run Try.prog W = (Op.equalIn d 88 vx vy).run Try.prog W := by
  rw [Op.equalIn]
  rfl
theorem eqClassKinds (x y : Int) (W : World) : (binOp .eql 69 (.iface 88 (.agg #[.int .i64 x])) (.iface 88 (.agg #[.int .i64 y]))).run Try.prog W = .ok (.bool (x == y)) W := by
  simp only [binOp, Op.equal, Op.maxDepth]
  simp [eqIClass 9999, eqAClass 9997]
theorem eqAArray (d : Nat) (w : World) (x0 y0 : Bool) :
    (Op.equalIn (d + 2) 86 (.agg #[.bool x0]) (.agg #[.bool y0])).run Try.prog w = .ok (x0 == y0) w := by
  refine eqA_of Try.underlying86 (by kernel_rfl) ?_
  exact eqf_last (by rfl) (by go_simp; rfl) (by go_simp; rfl) (by go_simp)
theorem eqIArray (d : Nat) (vx vy : Value) (W : World) : (Op.equalIn (d+1) 69 (.iface 86 vx) (.iface 86 vy)).run Try.prog W = (Op.equalIn d 86 vx vy).run Try.prog W := by
  rw [Op.equalIn]
  rfl
theorem eqArrayKinds (x y : Bool) (W : World) : (binOp .eql 69 (.iface 86 (.agg #[.bool x])) (.iface 86 (.agg #[.bool y]))).run Try.prog W = .ok (.bool (x == y)) W := by
  simp only [binOp, Op.equal, Op.maxDepth]
  simp [eqIArray 9999, eqAArray 9997]
theorem kindOk5 {a : Int} (h : KindOk a) : a = 0 ∨ a = 1 ∨ a = 2 ∨ a = 3 ∨ a = 4 ∨ 8 ≤ a := by unfold KindOk at h; omega
theorem kindEq {a b : Int} (ha : KindOk a) (hb : KindOk b) (W : World) : (binOp .eql 69 (kindW a) (kindW b)).run Try.prog W = .ok (.bool (a == b)) W := by
  have ea : 8 ≤ a → ∀ c : Int, c ≤ 4 → (a == c) = false := by intro h c hc; simp; omega
  have eb : 8 ≤ b → ∀ c : Int, c ≤ 4 → (c == b) = false := by intro h c hc; simp; omega
  rcases kindOk5 ha with rfl | rfl | rfl | rfl | rfl | h
  all_goals rcases kindOk5 hb with rfl | rfl | rfl | rfl | rfl | h'
  all_goals first
    | (with_reducible rfl)
    | (rw [eb h' _ (by decide), kindW_8 h']; rfl)
    | (rw [ea h _ (by decide), kindW_8 h]; rfl)
    | (rw [kindW_8 h, kindW_8 h', eqClassKinds, show (a - 8 == b - 8) = (a == b) by rw [Bool.eq_iff_iff]; simp])
    | (exact eqArrayKinds _ _ W)
    | rfl
theorem kindEq0 {b : Int} (hb : KindOk b) (W : World) : (binOp .eql 69 (kindW b) (.iface 89 (.agg #[]))).run Try.prog W = .ok (.bool (b == 0)) W := kindEq (b := 0) hb (.inl ⟨by decide, by decide⟩) W
theorem kindEq8 {b : Int} (hb : KindOk b) (W : World) : (binOp .eql 69 (kindW b) (.iface 88 (.agg #[.int .i64 0]))).run Try.prog W = .ok (.bool (b == 8)) W := kindEq (b := 8) hb (.inr ⟨by decide, by decide⟩) W
theorem kindNe1 {b : Int} (hb : KindOk b) (W : World) : (binOp .neq 69 (kindW b) (.iface 84 (.agg #[]))).run Try.prog W = .ok (.bool (b != 1)) W := by
  rcases kindOk5 hb with rfl | rfl | rfl | rfl | rfl | h <;> (try rfl)
  rw [kindW_8 h, show (b != 1) = true by simp; omega]; rfl
theorem kindOk_no {a : Int} (h : KindOk a) : KindNo a := by unfold KindOk at h; unfold KindNo; omega
theorem guardKindE {a : Int} (h : KindOk a) (t : TypeId) (o o' : Operand) (v : Value) (W : World) : (eqGuard .eql t o o' (kindW a) v).run Try.prog W = .ok () W := by
  obtain ⟨u, x, e⟩ := kindIface (r := a) (by unfold KindOk at h; omega)
  rw [e]; cases v <;> rfl
theorem guardKindN {a : Int} (h : KindOk a) (t : TypeId) (o o' : Operand) (v : Value) (W : World) : (eqGuard .neq t o o' (kindW a) v).run Try.prog W = .ok () W := by
  obtain ⟨u, x, e⟩ := kindIface (r := a) (by unfold KindOk at h; omega)
  rw [e]; cases v <;> rfl
set_option maxHeartbeats 4000000 in
set_option maxRecDepth 100000 in
theorem impl_kindIn.calls (k : Nat) (A0 : Option Addr) (c0 : Nat) (l0 : List S38) (a1 a2 : Int) (r : Bool) (w : World) (hr0 : Kd.C k38 w A0 l0.length l0) (hc0 : l0.length ≤ c0) (h : impl_kindIn.f k l0 a1 a2 = some r) :
    Calls Try.prog 89 #[.slice A0 l0.length c0, kindW a1, kindW a2] w fun e w' => e = .returned (.bool r) ∧ Below w.heap.size w w' := by
  have HR0 := Aside0.mk hr0
  have HC0 := Aside0.mk hc0
  clear hr0 hc0
  unfold impl_kindIn.f at h
  split at h
  · rename_i hb
    obtain ⟨h1, h2⟩ := hb
    have q1 := kindEq h1 h2
    have q2 := kindEq0 h2
    have q3 := kindEq8 h2
    have q4 := kindNe1 h2
    have g1 := guardKindE h1
    have g2 := guardKindE h2
    have g3 := guardKindN h2
    have s1 := assertNull (kindOk_no h1)
    have s2 := assertArray (kindOk_no h1)
    have s3 := assertClass (kindOk_no h1)
    have s4 := assertClass (kindOk_no h2)
    by_cases c1 : a1 = a2
    · rw [if_pos c1] at h
      obtain rfl := Option.some.inj h
      have b1 : (a1 == a2) = true := by simpa using c1
      clear c1 h h1 h2
      go_enter Try.func89, Try.ntmps89
      go_wp2
      go_ret
      exact ⟨by simp, by repeat (first | (with_reducible exact Below.refl _ _) | apply below_alloc | apply pw_below_drewN | apply below_drew1 | exact Below.refl _ _)⟩
    rw [if_neg c1] at h
    have b1 : (a1 == a2) = false := by simpa using c1
    clear c1
    by_cases c2 : a2 = 0
    · rw [if_pos c2] at h
      obtain rfl := Option.some.inj h
      have b2 : (a2 == 0) = true := by simpa using c2
      clear c2 h h1 h2
      go_enter Try.func89, Try.ntmps89
      go_wp2
      go_ret
      exact ⟨by simp, by repeat (first | (with_reducible exact Below.refl _ _) | apply below_alloc | apply pw_below_drewN | apply below_drew1 | exact Below.refl _ _)⟩
    rw [if_neg c2] at h
    have b2 : (a2 == 0) = false := by simpa using c2
    clear c2
    by_cases c3 : a1 = 2
    · rw [if_pos c3] at h
      obtain rfl := Option.some.inj h
      have b3 : (a1 == 2) = true := by simpa using c3
      clear c3 h h1 h2
      go_enter Try.func89, Try.ntmps89
      go_wp2
      go_ret
      exact ⟨by simp, by repeat (first | (with_reducible exact Below.refl _ _) | apply below_alloc | apply pw_below_drewN | apply below_drew1 | exact Below.refl _ _)⟩
    rw [if_neg c3] at h
    have b3 : (a1 == 2) = false := by simpa using c3
    clear c3
    by_cases c4 : a1 = 3 ∨ a1 = 4
    · rw [if_pos c4] at h
      obtain rfl := Option.some.inj h
      have b4 : (a1 == 3 || a1 == 4) = true := by simpa using c4
      clear c4 h h1 h2
      go_enter Try.func89, Try.ntmps89
      go_wp2
      go_ret
      exact ⟨by simp, by repeat (first | (with_reducible exact Below.refl _ _) | apply below_alloc | apply pw_below_drewN | apply below_drew1 | exact Below.refl _ _)⟩
    rw [if_neg c4] at h
    have b4 : (a1 == 3 || a1 == 4) = false := by simpa using c4
    clear c4
    by_cases c5 : 8 ≤ a1
    · rw [if_pos c5] at h
      have b5 : decide (8 ≤ a1) = true := decide_eq_true c5
      rw [if_pos c5] at s3
      by_cases c6 : 8 ≤ a2
      · rw [if_pos c6] at h
        have b6 : decide (8 ≤ a2) = true := decide_eq_true c6
        rw [if_pos c6] at s4
        have A := Aside0.mk h
        clear c5 c6 h h1 h2
        go_enter Try.func89, Try.ntmps89
        go_wp2_with (go_at_call 67; refine (impl_classUp.calls k _ _ l0 _ _ _ _ (Kd.C_below HR0.out (by repeat (first | (with_reducible exact Below.refl _ _) | apply below_alloc | apply pw_below_drewN | apply below_drew1 | exact Below.refl _ _))) HC0.out A.out).mono ?_; rintro e w1 ⟨rfl, ⟨n1, rfl⟩⟩)
        go_ret
        exact ⟨by simp, by repeat (first | (with_reducible exact Below.refl _ _) | apply below_alloc | apply pw_below_drewN | apply below_drew1 | exact Below.refl _ _)⟩
      · rw [if_neg c6] at h
        obtain rfl := Option.some.inj h
        have b6 : decide (8 ≤ a2) = false := decide_eq_false c6
        rw [if_neg c6] at s4
        clear c5 c6 h h1 h2
        go_enter Try.func89, Try.ntmps89
        go_wp2
        go_ret
        exact ⟨by simp, by repeat (first | (with_reducible exact Below.refl _ _) | apply below_alloc | apply pw_below_drewN | apply below_drew1 | exact Below.refl _ _)⟩
    · rw [if_neg c5] at h
      obtain rfl := Option.some.inj h
      have b5 : decide (8 ≤ a1) = false := decide_eq_false c5
      rw [if_neg c5] at s3
      clear c5 h h1 h2
      go_enter Try.func89, Try.ntmps89
      go_wp2
      go_ret
      exact ⟨by simp, by repeat (first | (with_reducible exact Below.refl _ _) | apply below_alloc | apply pw_below_drewN | apply below_drew1 | exact Below.refl _ _)⟩
  · cases h
end Go.Proofs.Ytgmjolngnhdafaa.P

end
section

namespace Go.Proofs.Ytgmjolngnhdafaa.P
open Go.RowKit Go.Proofs.YtgmjolngnhdafaaW.PrintWords Go.Proofs.YtgmjolngnhdafaaW.PrintLast Go.Proofs.YtgmjolngnhdafaaW.PrintMore
attribute [local go_sem] max2_int min2_int max_two min_two max_three min_three max_four min_four
set_option linter.unusedVariables false
set_option linter.unusedSimpArgs false
set_option maxHeartbeats 8000000 in
set_option maxRecDepth 100000 in
theorem impl_typeIn.calls (k : Nat) (A0 : Option Addr) (c0 : Nat) (l0 : List (S38)) (a1 : Int) (a2 : Int) (r : Bool) (w : World) (hr0 : Kd.C k38 w A0 l0.length l0) (hc0 : l0.length ≤ c0) (h : impl_typeIn.f k l0 a1 a2 = some r) :
    Calls Try.prog 72 #[.slice A0 l0.length c0, .int .i64 a1, .int .i64 a2] w fun e w' => e = .returned (.bool r) ∧ Below w.heap.size w w' := by
  have hkq := kindEql
  have hkn := kindNeq
  have hkp := guardNilE
  have hkr := guardNilN
  have HR0 := Aside0.mk hr0
  have HC0 := Aside0.mk hc0
  clear hr0 hc0
  have HB := Aside0.mk (Below.refl w.heap.size w)
  have H : ((impl_kindOf.f (l0.length : Int) a1).bind fun t354 => ((impl_kindOf.f (l0.length : Int) a2).bind fun t355 => (if t354 = (-1) then (some false) else (if t355 = (-1) then (some false) else ((impl_kindIn.f k l0 t354 t355).bind fun t356 => (some t356)))))) = some r := h
  clear h
  replace H := Option.bind_eq_some_iff.mp H
  obtain ⟨t354, A40, H⟩ := H
  replace H : ((impl_kindOf.f (l0.length : Int) a2).bind fun t355 => (if t354 = (-1) then (some false) else (if t355 = (-1) then (some false) else ((impl_kindIn.f k l0 t354 t355).bind fun t356 => (some t356))))) = some r := H
  have A4 := Aside0.mk A40
  clear A40
  replace H := Option.bind_eq_some_iff.mp H
  obtain ⟨t355, A50, H⟩ := H
  replace H : (if t354 = (-1) then (some false) else (if t355 = (-1) then (some false) else ((impl_kindIn.f k l0 t354 t355).bind fun t356 => (some t356)))) = some r := H
  have A5 := Aside0.mk A50
  clear A50
  by_cases c6 : t354 = (-1)
  · rw [if_pos c6] at H
    have c6b0 : (t354 == (-1)) = true := beq_iff_eq.mpr c6
    have c6b1 : (t354 != (-1)) = false := bne_eq_false_iff_eq.mpr c6
    clear c6
    obtain rfl := Option.some.inj H
    simp only [Option.some.injEq, Prod.mk.injEq] at H
    obtain ⟨rfl⟩ := H
    go_enter Try.func72, Try.ntmps72
    go_wp2_with (first | ((with_reducible refine gate_callee (f := 62) rfl ?_); refine goesL_ (some 12) rfl rfl Try.func62 (by kernel_rfl) rfl #[.int .i64 (l0.length : Int), .int .i64 a1] rfl (by (try simp only [List.map_toArray, List.map_cons, List.map_nil]); first | done | rfl | (simp only [List.length_drop, List.length_take]; rfl)) ?_; (with_reducible refine (impl_kindOf.calls (l0.length : Int) a1 t354 _ A4.out).mono ?_); rintro e w' ⟨rfl, ⟨nd, rfl⟩⟩; refine ⟨_, rfl, ?_⟩) | ((with_reducible refine gate_callee (f := 62) rfl ?_); refine goesL_ (some 16) rfl rfl Try.func62 (by kernel_rfl) rfl #[.int .i64 (l0.length : Int), .int .i64 a2] rfl (by (try simp only [List.map_toArray, List.map_cons, List.map_nil]); first | done | rfl | (simp only [List.length_drop, List.length_take]; rfl)) ?_; (with_reducible refine (impl_kindOf.calls (l0.length : Int) a2 t355 _ A5.out).mono ?_); rintro e w' ⟨rfl, ⟨nd, rfl⟩⟩; refine ⟨_, rfl, ?_⟩))
    go_ret
    exact ⟨by first | rfl | (simp [errW_none, errW_some] <;> rfl) | (simp [*, errW_none, errW_some] <;> rfl), by repeat (first | (with_reducible first | exact HB.out | apply below_alloc | apply pw_below_drewN | apply below_drew1) | exact HB.out)⟩
  · rw [if_neg c6] at H
    have c6b0 : (t354 == (-1)) = false := beq_eq_false_iff_ne.mpr c6
    have c6b1 : (t354 != (-1)) = true := bne_iff_ne.mpr c6
    by_cases c7 : t355 = (-1)
    · rw [if_pos c7] at H
      have c7b0 : (t355 == (-1)) = true := beq_iff_eq.mpr c7
      have c7b1 : (t355 != (-1)) = false := bne_eq_false_iff_eq.mpr c7
      clear c7
      obtain rfl := Option.some.inj H
      simp only [Option.some.injEq, Prod.mk.injEq] at H
      obtain ⟨rfl⟩ := H
      go_enter Try.func72, Try.ntmps72
      go_wp2_with (first | ((with_reducible refine gate_callee (f := 62) rfl ?_); refine goesL_ (some 12) rfl rfl Try.func62 (by kernel_rfl) rfl #[.int .i64 (l0.length : Int), .int .i64 a1] rfl (by (try simp only [List.map_toArray, List.map_cons, List.map_nil]); first | done | rfl | (simp only [List.length_drop, List.length_take]; rfl)) ?_; (with_reducible refine (impl_kindOf.calls (l0.length : Int) a1 t354 _ A4.out).mono ?_); rintro e w' ⟨rfl, ⟨nd, rfl⟩⟩; refine ⟨_, rfl, ?_⟩) | ((with_reducible refine gate_callee (f := 62) rfl ?_); refine goesL_ (some 16) rfl rfl Try.func62 (by kernel_rfl) rfl #[.int .i64 (l0.length : Int), .int .i64 a2] rfl (by (try simp only [List.map_toArray, List.map_cons, List.map_nil]); first | done | rfl | (simp only [List.length_drop, List.length_take]; rfl)) ?_; (with_reducible refine (impl_kindOf.calls (l0.length : Int) a2 t355 _ A5.out).mono ?_); rintro e w' ⟨rfl, ⟨nd, rfl⟩⟩; refine ⟨_, rfl, ?_⟩))
      go_ret
      exact ⟨by first | rfl | (simp [errW_none, errW_some] <;> rfl) | (simp [*, errW_none, errW_some] <;> rfl), by repeat (first | (with_reducible first | exact HB.out | apply below_alloc | apply pw_below_drewN | apply below_drew1) | exact HB.out)⟩
    · rw [if_neg c7] at H
      have c7b0 : (t355 == (-1)) = false := beq_eq_false_iff_ne.mpr c7
      have c7b1 : (t355 != (-1)) = true := bne_iff_ne.mpr c7
      replace H := Option.bind_eq_some_iff.mp H
      obtain ⟨t356, A80, H⟩ := H
      replace H : (some t356) = some r := H
      have A8 := Aside0.mk A80
      clear A80
      obtain rfl := Option.some.inj H
      simp only [Option.some.injEq, Prod.mk.injEq] at H
      obtain ⟨rfl⟩ := H
      go_enter Try.func72, Try.ntmps72
      go_wp2_with (first | ((with_reducible refine gate_callee (f := 62) rfl ?_); refine goesL_ (some 12) rfl rfl Try.func62 (by kernel_rfl) rfl #[.int .i64 (l0.length : Int), .int .i64 a1] rfl (by (try simp only [List.map_toArray, List.map_cons, List.map_nil]); first | done | rfl | (simp only [List.length_drop, List.length_take]; rfl)) ?_; (with_reducible refine (impl_kindOf.calls (l0.length : Int) a1 t354 _ A4.out).mono ?_); rintro e w' ⟨rfl, ⟨nd, rfl⟩⟩; refine ⟨_, rfl, ?_⟩) | ((with_reducible refine gate_callee (f := 62) rfl ?_); refine goesL_ (some 16) rfl rfl Try.func62 (by kernel_rfl) rfl #[.int .i64 (l0.length : Int), .int .i64 a2] rfl (by (try simp only [List.map_toArray, List.map_cons, List.map_nil]); first | done | rfl | (simp only [List.length_drop, List.length_take]; rfl)) ?_; (with_reducible refine (impl_kindOf.calls (l0.length : Int) a2 t355 _ A5.out).mono ?_); rintro e w' ⟨rfl, ⟨nd, rfl⟩⟩; refine ⟨_, rfl, ?_⟩) | (go_at_call 89; (with_reducible refine (impl_kindIn.calls k _ _ l0 t354 t355 t356 _ ?side1 ?side2 A8.out).mono ?_); (case side1 => repeat (first | exact HR0.out | (with_reducible refine Kd.C_alloc ?_ _) | (with_reducible refine Kd.C_drewN ?_ _) | (with_reducible refine Kd.C_drew ?_))); (case side2 => exact HC0.out); rintro e w9 ⟨rfl, hb⟩; have n0_ := Aside0.mk (below_step (by repeat (first | (with_reducible first | exact HB.out | apply below_alloc | apply pw_below_drewN | apply below_drew1) | exact HB.out)) hb); clear HB; have HB := n0_; clear n0_; (try clear hb); (try clear hb2); (try clear hk); (try clear hi)))
      go_ret
      exact ⟨by first | rfl | (simp [errW_none, errW_some] <;> rfl) | (simp [*, errW_none, errW_some] <;> rfl), by repeat (first | (with_reducible first | exact HB.out | apply below_alloc | apply pw_below_drewN | apply below_drew1) | exact HB.out)⟩
end Go.Proofs.Ytgmjolngnhdafaa.P

end
section

namespace Go.Proofs.Ytgmjolngnhdafaa.P
open Go.RowKit Go.Proofs.YtgmjolngnhdafaaW.PrintWords Go.Proofs.YtgmjolngnhdafaaW.PrintLast Go.Proofs.YtgmjolngnhdafaaW.PrintMore
attribute [local go_sem] max2_int min2_int max_two min_two max_three min_three max_four min_four
set_option linter.unusedVariables false
set_option linter.unusedSimpArgs false
set_option maxHeartbeats 8000000 in
set_option maxRecDepth 100000 in
theorem impl_shapeOk.calls (k : Nat) (A0 : Option Addr) (c0 : Nat) (l0 : List (S38)) (a1 : Int) (a2_0 : Bool) (A2_1 : Option Addr) (c2_1 : Nat) (l2_1 : List Int) (A2_2 : Option Addr) (c2_2 : Nat) (l2_2 : List Int) (r : Bool) (w : World) (hr0 : Kd.C k38 w A0 l0.length l0) (hc0 : l0.length ≤ c0) (hr2_1 : Kd.C (Kd.int .i64) w A2_1 l2_1.length l2_1) (hc2_1 : l2_1.length ≤ c2_1) (hr2_2 : Kd.C (Kd.int .i64) w A2_2 l2_2.length l2_2) (hc2_2 : l2_2.length ≤ c2_2) (h : impl_shapeOk.f k l0 a1 a2_0 l2_1 l2_2 = some r) :
    Calls Try.prog 81 #[.slice A0 l0.length c0, .int .i64 a1, .agg #[.bool a2_0, .slice A2_1 l2_1.length c2_1, .slice A2_2 l2_2.length c2_2]] w fun e w' => e = .returned (.bool r) ∧ Below w.heap.size w w' := by
  have hu52 := Try.underlying52
  have hkq := kindEql
  have hkn := kindNeq
  have hkp := guardNilE
  have hkr := guardNilN
  have HR0 := Aside0.mk hr0
  have HC0 := Aside0.mk hc0
  clear hr0 hc0
  have HR2_1 := Aside0.mk hr2_1
  have HC2_1 := Aside0.mk hc2_1
  clear hr2_1 hc2_1
  have HR2_2 := Aside0.mk hr2_2
  have HC2_2 := Aside0.mk hc2_2
  clear hr2_2 hc2_2
  have HB := Aside0.mk (Below.refl w.heap.size w)
  have H : (if a2_0 = true then (if (l2_1.length : Int) = a1 then (impl_shapeOk.j0 k l0 (decide ((l2_2.length : Int) > 4)) a2_0 l2_1 l2_2) else (impl_shapeOk.j0 k l0 true a2_0 l2_1 l2_2)) else (if (l2_1.length : Int) = 0 then (some ((l2_2.length : Int) == 0)) else (some false))) = some r := h
  clear h
  by_cases c4 : a2_0 = true
  · subst c4
    have H1 : (if (l2_1.length : Int) = a1 then (impl_shapeOk.j0 k l0 (decide ((l2_2.length : Int) > 4)) true l2_1 l2_2) else (impl_shapeOk.j0 k l0 true true l2_1 l2_2)) = some r := by rw [if_pos rfl] at H; exact H
    clear H
    have H := H1
    clear H1
    have HC5 := Aside0.mk H
    clear H
    go_enter Try.func81, Try.ntmps81
    go_upto_region 3 with (first | ((with_reducible refine gate_dst (N := 5) rfl ?_); (try (refine gate_guard (by rfl) ?_; dsimp only)); refine box_event ?hg (N := 5) ?hd (cs := #[.bool true, .slice A2_1 l2_1.length c2_1, .slice A2_2 l2_2.length c2_2]) (t := 52) ?hr ?_; (case hd => rfl); (case hg => rfl); (case hr => first | (go_simp; done) | (go_simp; rfl)); intro gb498 hg w6 hbox hb; have n0_ := Aside0.mk (below_step (by repeat (first | (with_reducible first | exact HB.out | apply below_alloc | apply pw_below_drewN | apply below_drew1) | exact HB.out)) hb); have n1_ := Aside0.mk (hbox); have n2_ := Aside0.mk ((by rw [hg]; exact (below_size (by repeat (first | (with_reducible first | exact HB.out | apply below_alloc | apply pw_below_drewN | apply below_drew1) | exact HB.out))) : w.heap.size ≤ gb498)); have n3_ := Aside0.mk ((by rw [hg]; exact (below_size (by repeat (first | (with_reducible first | exact HB.out | apply below_alloc | apply pw_below_drewN | apply below_drew1) | exact HB.out))) : w.heap.size ≤ gb498)); clear HB; have HB := n0_; have BK498 := n1_; have GW498 := n2_; have GE498 := n3_; clear n0_ n1_ n2_ n3_; clear hb hbox hg; have hcz7_0 : w6.cell? ⟨gb498, 0, none⟩ = some (.bool true) := (blk_cell BK498.out 0).trans rfl; have hcz7_1 : w6.cell? ⟨gb498, 1, none⟩ = some (.slice A2_1 l2_1.length c2_1) := (blk_cell BK498.out 1).trans rfl; have hcz7_2 : w6.cell? ⟨gb498, 2, none⟩ = some (.slice A2_2 l2_2.length c2_2) := (blk_cell BK498.out 2).trans rfl; have hfz7_0 := blk_frozen BK498.out 0; have hfz7_1 := blk_frozen BK498.out 1; have hfz7_2 := blk_frozen BK498.out 2))
    (try simp only [Act.put, List.setIfInBounds_toArray, List.set_cons_zero, List.set_cons_succ])
    go_cut [34] (fun v34 wc => ∃ (kq : Nat) (x34_4 : Bool), v34 = .bool x34_4 ∧ Aside0 (impl_shapeOk.j0 kq l0 x34_4 true l2_1 l2_2 = some r) ∧ Aside0 (kq ≤ k) ∧ Aside0 (wc.heap[gb498]? = some (.cells #[.bool true, (.slice A2_1 l2_1.length c2_1), (.slice A2_2 l2_2.length c2_2)] 52 (0, 0))) ∧ Aside0 (Below w.heap.size w wc))
    case first =>
      have H := HC5.out
      clear HC5
      by_cases c8 : (l2_1.length : Int) = a1
      · rw [if_pos c8] at H
        have c8b0 : ((l2_1.length : Int) == a1) = true := beq_iff_eq.mpr c8
        have c8b1 : ((l2_1.length : Int) != a1) = false := bne_eq_false_iff_eq.mpr c8
        clear c8
        (first | rw [c8b0] | (simp only [i64_w, i32_w]; rw [c8b0]) | skip)
        have H' := Aside0.mk H
        clear H
        have hcz9_0 : w6.cell? ⟨gb498, 0, none⟩ = some (.bool true) := (blk_cell BK498.out 0).trans rfl
        have hcz9_1 : w6.cell? ⟨gb498, 1, none⟩ = some (.slice A2_1 l2_1.length c2_1) := (blk_cell BK498.out 1).trans rfl
        have hcz9_2 : w6.cell? ⟨gb498, 2, none⟩ = some (.slice A2_2 l2_2.length c2_2) := (blk_cell BK498.out 2).trans rfl
        have hfz9_0 := blk_frozen BK498.out 0
        have hfz9_1 := blk_frozen BK498.out 1
        have hfz9_2 := blk_frozen BK498.out 2
        go_wp2
        go_meet
        case rel => exact ⟨_, (decide ((l2_2.length : Int) > 4)), (by first | rfl | (simp; done) | (simp [*]; done)), H', ⟨by first | omega | exact Nat.le_refl _⟩, ⟨by (with_reducible repeat (first | refine blk_drewN ?_ _ | refine blk_drew ?_ | refine blk_alloc ?_ _)); exact BK498.out⟩, ⟨by repeat (first | (with_reducible first | exact HB.out | apply below_alloc | apply pw_below_drewN | apply below_drew1 | refine below_set ?_ GE498.out) | exact HB.out)⟩⟩
      · rw [if_neg c8] at H
        have c8b0 : ((l2_1.length : Int) == a1) = false := beq_eq_false_iff_ne.mpr c8
        have c8b1 : ((l2_1.length : Int) != a1) = true := bne_iff_ne.mpr c8
        (first | rw [c8b0] | (simp only [i64_w, i32_w]; rw [c8b0]) | skip)
        have H' := Aside0.mk H
        clear H
        have hcz10_0 : w6.cell? ⟨gb498, 0, none⟩ = some (.bool true) := (blk_cell BK498.out 0).trans rfl
        have hcz10_1 : w6.cell? ⟨gb498, 1, none⟩ = some (.slice A2_1 l2_1.length c2_1) := (blk_cell BK498.out 1).trans rfl
        have hcz10_2 : w6.cell? ⟨gb498, 2, none⟩ = some (.slice A2_2 l2_2.length c2_2) := (blk_cell BK498.out 2).trans rfl
        have hfz10_0 := blk_frozen BK498.out 0
        have hfz10_1 := blk_frozen BK498.out 1
        have hfz10_2 := blk_frozen BK498.out 2
        go_wp2
        go_meet
        case rel => exact ⟨_, (true), (by first | rfl | (simp; done) | (simp [*]; done)), H', ⟨by first | omega | exact Nat.le_refl _⟩, ⟨by (with_reducible repeat (first | refine blk_drewN ?_ _ | refine blk_drew ?_ | refine blk_alloc ?_ _)); exact BK498.out⟩, ⟨by repeat (first | (with_reducible first | exact HB.out | apply below_alloc | apply pw_below_drewN | apply below_drew1 | refine below_set ?_ GE498.out) | exact HB.out)⟩⟩
    case rest =>
      clear HC5
      try clear c2
      try clear p2
      try clear c4
      try clear c8
      try clear c8b0
      try clear c8b1
      try clear hcz10_0
      try clear hcz10_1
      try clear hcz10_2
      try clear hcz7_0
      try clear hcz7_1
      try clear hcz7_2
      try clear hcz9_0
      try clear hcz9_1
      try clear hcz9_2
      try clear hfz10_0
      try clear hfz10_1
      try clear hfz10_2
      try clear hfz7_0
      try clear hfz7_1
      try clear hfz7_2
      try clear hfz9_0
      try clear hfz9_1
      try clear hfz9_2
      obtain ⟨kq, x34_4, rfl, HA, HJ4, BK498, HB⟩ := hcut
      cases kq with
      | zero => exact absurd HA.out (by simp [impl_shapeOk.j0])
      | succ kj4 =>
        have H := HA.out
        clear HA
        simp only [impl_shapeOk.j0] at H
        by_cases c11 : x34_4 = true
        · subst c11
          have H1 : (some false) = some r := by rw [if_pos rfl] at H; exact H
          clear H
          have H := H1
          clear H1
          obtain rfl := Option.some.inj H
          simp only [Option.some.injEq, Prod.mk.injEq] at H
          obtain ⟨rfl⟩ := H
          go_wp2
          go_ret
          exact ⟨by first | rfl | (simp [errW_none, errW_some] <;> rfl) | (simp [*, errW_none, errW_some] <;> rfl), by repeat (first | (with_reducible first | exact HB.out | apply below_alloc | apply pw_below_drewN | apply below_drew1 | refine below_set ?_ GE498.out) | exact HB.out)⟩
        · replace c11 := Bool.eq_false_iff.mpr c11
          subst c11
          have H1 : (impl_shapeOk.l0 kj4 l0 l2_1 (l2_1.length : Int) 0 true l2_1 l2_2) = some r := by rw [if_neg (show ¬ (false = true) by decide)] at H; exact H
          clear H
          have H := H1
          clear H1
          have H' := Aside0.mk H
          clear H
          have hcz12_0 : wc.cell? ⟨gb498, 0, none⟩ = some (.bool true) := (blk_cell BK498.out 0).trans rfl
          have hcz12_1 : wc.cell? ⟨gb498, 1, none⟩ = some (.slice A2_1 l2_1.length c2_1) := (blk_cell BK498.out 1).trans rfl
          have hcz12_2 : wc.cell? ⟨gb498, 2, none⟩ = some (.slice A2_2 l2_2.length c2_2) := (blk_cell BK498.out 2).trans rfl
          have hfz12_0 := blk_frozen BK498.out 0
          have hfz12_1 := blk_frozen BK498.out 1
          have hfz12_2 := blk_frozen BK498.out 2
          go_wp2
          go_loopg [38] kj4 (fun kq v38 w' => ∃ (x38_2 : Int), v38 = .int .i64 x38_2 ∧ Aside0 (impl_shapeOk.l0 kq l0 l2_1 (l2_1.length : Int) x38_2 true l2_1 l2_2 = some r) ∧ Aside0 (kq ≤ kj4) ∧ Aside0 (w'.heap[gb498]? = some (.cells #[.bool true, (.slice A2_1 l2_1.length c2_1), (.slice A2_2 l2_2.length c2_2)] 52 (0, 0))) ∧ Aside0 (Below w.heap.size w w'))
          case atStart => exact ⟨(0), (by first | rfl | (simp; done) | (simp [*]; done)), H', ⟨Nat.le_refl _⟩, ⟨by (with_reducible repeat (first | refine blk_drewN ?_ _ | refine blk_drew ?_ | refine blk_alloc ?_ _)); exact BK498.out⟩, ⟨by repeat (first | (with_reducible first | exact HB.out | apply below_alloc | apply pw_below_drewN | apply below_drew1 | refine below_set ?_ GE498.out) | exact HB.out)⟩⟩
          case round =>
            clear H'
            try clear c1
            try clear c2
            try clear p2
            try clear c4
            try clear c8
            try clear c8b0
            try clear c8b1
            try clear c11
            try clear hcz10_0
            try clear hcz10_1
            try clear hcz10_2
            try clear hcz12_0
            try clear hcz12_1
            try clear hcz12_2
            try clear hcz7_0
            try clear hcz7_1
            try clear hcz7_2
            try clear hcz9_0
            try clear hcz9_1
            try clear hcz9_2
            try clear hfz10_0
            try clear hfz10_1
            try clear hfz10_2
            try clear hfz12_0
            try clear hfz12_1
            try clear hfz12_2
            try clear hfz7_0
            try clear hfz7_1
            try clear hfz7_2
            try clear hfz9_0
            try clear hfz9_1
            try clear hfz9_2
            try clear p2
            obtain ⟨x38_2, rfl, HA, HK2, BK498, HB⟩ := hrel
            cases gk with
            | zero => exact absurd HA.out (by simp [impl_shapeOk.l0])
            | succ k2 =>
              have H := HA.out
              clear HA
              simp only [impl_shapeOk.l0] at H
              by_cases c13 : x38_2 < (l2_1.length : Int)
              · rw [if_pos c13] at H
                have c13b0 : decide (x38_2 < (l2_1.length : Int)) = true := decide_eq_true c13
                clear c13
                by_cases c14 : 0 ≤ x38_2
                · rw [if_pos c14] at H
                  have c14b0 : decide (0 ≤ x38_2) = true := decide_eq_true c14
                  clear c14
                  by_cases c15 : x38_2 < (l2_1.length : Int)
                  · rw [if_pos c15] at H
                    have c15b0 : decide (x38_2 < (l2_1.length : Int)) = true := decide_eq_true c15
                    clear c15
                    replace H := Option.bind_eq_some_iff.mp H
                    obtain ⟨t500, A160, H⟩ := H
                    replace H : (if t500 = (-1) then (some false) else (impl_shapeOk.l0 k2 l0 l2_1 (l2_1.length : Int) (wrap64 (x38_2 + 1)) true l2_1 l2_2)) = some r := H
                    have A16 := Aside0.mk A160
                    clear A160
                    by_cases c17 : t500 = (-1)
                    · rw [if_pos c17] at H
                      have c17b0 : (t500 == (-1)) = true := beq_iff_eq.mpr c17
                      have c17b1 : (t500 != (-1)) = false := bne_eq_false_iff_eq.mpr c17
                      clear c17
                      obtain rfl := Option.some.inj H
                      simp only [Option.some.injEq, Prod.mk.injEq] at H
                      obtain ⟨rfl⟩ := H
                      have p499 : 0 ≤ (x38_2 : Int) := of_decide_eq_true (by first | (with_reducible assumption) | assumption)
                      have q499 : x38_2 < (l2_1.length : Int) := of_decide_eq_true (by first | (with_reducible assumption) | assumption)
                      obtain ⟨ad499, e499, hx499_0⟩ := Kd.at_int HR2_1.out x38_2 p499 q499
                      cases e499
                      replace hx499_0 := (HB.out.cell (World.block_lt_of_cell? w _ hx499_0)).trans hx499_0
                      replace p499 := eq_true p499
                      replace q499 := eq_true q499
                      go_wp2_with (first | ((with_reducible refine gate_callee (f := 62) rfl ?_); refine goesL_ (some 45) rfl rfl Try.func62 (by kernel_rfl) rfl #[.int .i64 (l0.length : Int), .int .i64 (rd l2_1 x38_2)] rfl (by (try simp only [List.map_toArray, List.map_cons, List.map_nil]); first | done | rfl | (simp only [List.length_drop, List.length_take]; rfl)) ?_; (with_reducible refine (impl_kindOf.calls (l0.length : Int) (rd l2_1 x38_2) t500 _ A16.out).mono ?_); rintro e w' ⟨rfl, ⟨nd, rfl⟩⟩; refine ⟨_, rfl, ?_⟩))
                      go_ret
                      exact ⟨by first | rfl | (simp [errW_none, errW_some] <;> rfl) | (simp [*, errW_none, errW_some] <;> rfl), by repeat (first | (with_reducible first | exact HB.out | apply below_alloc | apply pw_below_drewN | apply below_drew1 | refine below_set ?_ GE498.out) | exact HB.out)⟩
                    · rw [if_neg c17] at H
                      have c17b0 : (t500 == (-1)) = false := beq_eq_false_iff_ne.mpr c17
                      have c17b1 : (t500 != (-1)) = true := bne_iff_ne.mpr c17
                      have H' := Aside0.mk H
                      clear H
                      have p499 : 0 ≤ (x38_2 : Int) := of_decide_eq_true (by first | (with_reducible assumption) | assumption)
                      have q499 : x38_2 < (l2_1.length : Int) := of_decide_eq_true (by first | (with_reducible assumption) | assumption)
                      obtain ⟨ad499, e499, hx499_0⟩ := Kd.at_int HR2_1.out x38_2 p499 q499
                      cases e499
                      replace hx499_0 := (HB.out.cell (World.block_lt_of_cell? w _ hx499_0)).trans hx499_0
                      replace p499 := eq_true p499
                      replace q499 := eq_true q499
                      go_wp2_with (first | ((with_reducible refine gate_callee (f := 62) rfl ?_); refine goesL_ (some 45) rfl rfl Try.func62 (by kernel_rfl) rfl #[.int .i64 (l0.length : Int), .int .i64 (rd l2_1 x38_2)] rfl (by (try simp only [List.map_toArray, List.map_cons, List.map_nil]); first | done | rfl | (simp only [List.length_drop, List.length_take]; rfl)) ?_; (with_reducible refine (impl_kindOf.calls (l0.length : Int) (rd l2_1 x38_2) t500 _ A16.out).mono ?_); rintro e w' ⟨rfl, ⟨nd, rfl⟩⟩; refine ⟨_, rfl, ?_⟩))
                      go_roundg k2
                      case measure => have := HJ4.out; have := HK2.out; omega
                      case rel => exact ⟨(wrap64 (x38_2 + 1)), (by first | rfl | (simp; done) | (simp [*]; done)), H', ⟨by have := HJ4.out; have := HK2.out; omega⟩, ⟨by (with_reducible repeat (first | refine blk_drewN ?_ _ | refine blk_drew ?_ | refine blk_alloc ?_ _)); exact BK498.out⟩, ⟨by repeat (first | (with_reducible first | exact HB.out | apply below_alloc | apply pw_below_drewN | apply below_drew1 | refine below_set ?_ GE498.out) | exact HB.out)⟩⟩
                  · rw [if_neg c15] at H
                    exact absurd H (by simp)
                · rw [if_neg c14] at H
                  exact absurd H (by simp)
              · rw [if_neg c13] at H
                have c13b0 : decide (x38_2 < (l2_1.length : Int)) = false := decide_eq_false c13
                clear c13
                have H' := Aside0.mk H
                clear H
                have hcz18_0 : wr.cell? ⟨gb498, 0, none⟩ = some (.bool true) := (blk_cell BK498.out 0).trans rfl
                have hcz18_1 : wr.cell? ⟨gb498, 1, none⟩ = some (.slice A2_1 l2_1.length c2_1) := (blk_cell BK498.out 1).trans rfl
                have hcz18_2 : wr.cell? ⟨gb498, 2, none⟩ = some (.slice A2_2 l2_2.length c2_2) := (blk_cell BK498.out 2).trans rfl
                have hfz18_0 := blk_frozen BK498.out 0
                have hfz18_1 := blk_frozen BK498.out 1
                have hfz18_2 := blk_frozen BK498.out 2
                go_wp2
                go_loopg [51] k2 (fun kq v51 w' => ∃ (x51_3 : Int), v51 = .int .i64 x51_3 ∧ Aside0 (impl_shapeOk.l1 kq l0 l2_2 (l2_2.length : Int) x51_3 = some r) ∧ Aside0 (kq ≤ k2) ∧ Aside0 (w'.heap[gb498]? = some (.cells #[.bool true, (.slice A2_1 l2_1.length c2_1), (.slice A2_2 l2_2.length c2_2)] 52 (0, 0))) ∧ Aside0 (Below w.heap.size w w'))
                case atStart => exact ⟨(0), (by first | rfl | (simp; done) | (simp [*]; done)), H', ⟨Nat.le_refl _⟩, ⟨by (with_reducible repeat (first | refine blk_drewN ?_ _ | refine blk_drew ?_ | refine blk_alloc ?_ _)); exact BK498.out⟩, ⟨by repeat (first | (with_reducible first | exact HB.out | apply below_alloc | apply pw_below_drewN | apply below_drew1 | refine below_set ?_ GE498.out) | exact HB.out)⟩⟩
                case round =>
                  clear H'
                  try clear c1
                  try clear c2
                  try clear p2
                  try clear c4
                  try clear p4
                  try clear q4
                  try clear hx4
                  try clear c6
                  try clear p6
                  try clear c8
                  try clear c8b0
                  try clear c8b1
                  try clear c11
                  try clear c13
                  try clear c13b0
                  try clear c14
                  try clear c14b0
                  try clear c15
                  try clear c15b0
                  try clear c17
                  try clear c17b0
                  try clear c17b1
                  try clear hcz10_0
                  try clear hcz10_1
                  try clear hcz10_2
                  try clear hcz12_0
                  try clear hcz12_1
                  try clear hcz12_2
                  try clear hcz18_0
                  try clear hcz18_1
                  try clear hcz18_2
                  try clear hcz7_0
                  try clear hcz7_1
                  try clear hcz7_2
                  try clear hcz9_0
                  try clear hcz9_1
                  try clear hcz9_2
                  try clear hfz10_0
                  try clear hfz10_1
                  try clear hfz10_2
                  try clear hfz12_0
                  try clear hfz12_1
                  try clear hfz12_2
                  try clear hfz18_0
                  try clear hfz18_1
                  try clear hfz18_2
                  try clear hfz7_0
                  try clear hfz7_1
                  try clear hfz7_2
                  try clear hfz9_0
                  try clear hfz9_1
                  try clear hfz9_2
                  try clear hx499_0
                  try clear p2
                  try clear p499
                  try clear q499
                  obtain ⟨x51_3, rfl, HA, HK3, BK498, HB⟩ := hrel
                  cases gk with
                  | zero => exact absurd HA.out (by simp [impl_shapeOk.l1])
                  | succ k3 =>
                    have H := HA.out
                    clear HA
                    simp only [impl_shapeOk.l1] at H
                    by_cases c19 : x51_3 < (l2_2.length : Int)
                    · rw [if_pos c19] at H
                      have c19b0 : decide (x51_3 < (l2_2.length : Int)) = true := decide_eq_true c19
                      clear c19
                      by_cases c20 : 0 ≤ x51_3
                      · rw [if_pos c20] at H
                        have c20b0 : decide (0 ≤ x51_3) = true := decide_eq_true c20
                        clear c20
                        by_cases c21 : x51_3 < (l2_2.length : Int)
                        · rw [if_pos c21] at H
                          have c21b0 : decide (x51_3 < (l2_2.length : Int)) = true := decide_eq_true c21
                          clear c21
                          by_cases c22 : (rd l2_2 x51_3) = 0
                          · rw [if_pos c22] at H
                            have c22b0 : ((rd l2_2 x51_3) == 0) = true := beq_iff_eq.mpr c22
                            have c22b1 : ((rd l2_2 x51_3) != 0) = false := bne_eq_false_iff_eq.mpr c22
                            clear c22
                            obtain rfl := Option.some.inj H
                            simp only [Option.some.injEq, Prod.mk.injEq] at H
                            obtain ⟨rfl⟩ := H
                            have p501 : 0 ≤ (x51_3 : Int) := of_decide_eq_true (by first | (with_reducible assumption) | assumption)
                            have q501 : x51_3 < (l2_2.length : Int) := of_decide_eq_true (by first | (with_reducible assumption) | assumption)
                            obtain ⟨ad501, e501, hx501_0⟩ := Kd.at_int HR2_2.out x51_3 p501 q501
                            cases e501
                            replace hx501_0 := (HB.out.cell (World.block_lt_of_cell? w _ hx501_0)).trans hx501_0
                            replace p501 := eq_true p501
                            replace q501 := eq_true q501
                            go_wp2
                            go_ret
                            exact ⟨by first | rfl | (simp [errW_none, errW_some] <;> rfl) | (simp [*, errW_none, errW_some] <;> rfl), by repeat (first | (with_reducible first | exact HB.out | apply below_alloc | apply pw_below_drewN | apply below_drew1 | refine below_set ?_ GE498.out) | exact HB.out)⟩
                          · rw [if_neg c22] at H
                            have c22b0 : ((rd l2_2 x51_3) == 0) = false := beq_eq_false_iff_ne.mpr c22
                            have c22b1 : ((rd l2_2 x51_3) != 0) = true := bne_iff_ne.mpr c22
                            replace H := Option.bind_eq_some_iff.mp H
                            obtain ⟨t502, A230, H⟩ := H
                            replace H : (if t502 = (-1) then (some false) else (impl_shapeOk.l1 k3 l0 l2_2 (l2_2.length : Int) (wrap64 (x51_3 + 1)))) = some r := H
                            have A23 := Aside0.mk A230
                            clear A230
                            by_cases c24 : t502 = (-1)
                            · rw [if_pos c24] at H
                              have c24b0 : (t502 == (-1)) = true := beq_iff_eq.mpr c24
                              have c24b1 : (t502 != (-1)) = false := bne_eq_false_iff_eq.mpr c24
                              clear c24
                              obtain rfl := Option.some.inj H
                              simp only [Option.some.injEq, Prod.mk.injEq] at H
                              obtain ⟨rfl⟩ := H
                              have p501 : 0 ≤ (x51_3 : Int) := of_decide_eq_true (by first | (with_reducible assumption) | assumption)
                              have q501 : x51_3 < (l2_2.length : Int) := of_decide_eq_true (by first | (with_reducible assumption) | assumption)
                              obtain ⟨ad501, e501, hx501_0⟩ := Kd.at_int HR2_2.out x51_3 p501 q501
                              cases e501
                              replace hx501_0 := (HB.out.cell (World.block_lt_of_cell? w _ hx501_0)).trans hx501_0
                              replace p501 := eq_true p501
                              replace q501 := eq_true q501
                              go_wp2_with (first | (go_at_call 62; (with_reducible refine (impl_kindOf.calls (l0.length : Int) (rd l2_2 x51_3) t502 _ A23.out).mono ?_); rintro e w' ⟨rfl, ⟨nd, rfl⟩⟩))
                              go_ret
                              exact ⟨by first | rfl | (simp [errW_none, errW_some] <;> rfl) | (simp [*, errW_none, errW_some] <;> rfl), by repeat (first | (with_reducible first | exact HB.out | apply below_alloc | apply pw_below_drewN | apply below_drew1 | refine below_set ?_ GE498.out) | exact HB.out)⟩
                            · rw [if_neg c24] at H
                              have c24b0 : (t502 == (-1)) = false := beq_eq_false_iff_ne.mpr c24
                              have c24b1 : (t502 != (-1)) = true := bne_iff_ne.mpr c24
                              have H' := Aside0.mk H
                              clear H
                              have p501 : 0 ≤ (x51_3 : Int) := of_decide_eq_true (by first | (with_reducible assumption) | assumption)
                              have q501 : x51_3 < (l2_2.length : Int) := of_decide_eq_true (by first | (with_reducible assumption) | assumption)
                              obtain ⟨ad501, e501, hx501_0⟩ := Kd.at_int HR2_2.out x51_3 p501 q501
                              cases e501
                              replace hx501_0 := (HB.out.cell (World.block_lt_of_cell? w _ hx501_0)).trans hx501_0
                              replace p501 := eq_true p501
                              replace q501 := eq_true q501
                              go_wp2_with (first | (go_at_call 62; (with_reducible refine (impl_kindOf.calls (l0.length : Int) (rd l2_2 x51_3) t502 _ A23.out).mono ?_); rintro e w' ⟨rfl, ⟨nd, rfl⟩⟩))
                              go_roundg k3
                              case measure => have := HJ4.out; have := HK2.out; have := HK3.out; omega
                              case rel => exact ⟨(wrap64 (x51_3 + 1)), (by first | rfl | (simp; done) | (simp [*]; done)), H', ⟨by have := HJ4.out; have := HK2.out; have := HK3.out; omega⟩, ⟨by (with_reducible repeat (first | refine blk_drewN ?_ _ | refine blk_drew ?_ | refine blk_alloc ?_ _)); exact BK498.out⟩, ⟨by repeat (first | (with_reducible first | exact HB.out | apply below_alloc | apply pw_below_drewN | apply below_drew1 | refine below_set ?_ GE498.out) | exact HB.out)⟩⟩
                        · rw [if_neg c21] at H
                          exact absurd H (by simp)
                      · rw [if_neg c20] at H
                        exact absurd H (by simp)
                    · rw [if_neg c19] at H
                      have c19b0 : decide (x51_3 < (l2_2.length : Int)) = false := decide_eq_false c19
                      clear c19
                      obtain rfl := Option.some.inj H
                      simp only [Option.some.injEq, Prod.mk.injEq] at H
                      obtain ⟨rfl⟩ := H
                      go_wp2
                      go_ret
                      exact ⟨by first | rfl | (simp [errW_none, errW_some] <;> rfl) | (simp [*, errW_none, errW_some] <;> rfl), by repeat (first | (with_reducible first | exact HB.out | apply below_alloc | apply pw_below_drewN | apply below_drew1 | refine below_set ?_ GE498.out) | exact HB.out)⟩
  · replace c4 := Bool.eq_false_iff.mpr c4
    subst c4
    have H1 : (if (l2_1.length : Int) = 0 then (some ((l2_2.length : Int) == 0)) else (some false)) = some r := by rw [if_neg (show ¬ (false = true) by decide)] at H; exact H
    clear H
    have H := H1
    clear H1
    by_cases c25 : (l2_1.length : Int) = 0
    · rw [if_pos c25] at H
      have c25b0 : ((l2_1.length : Int) == 0) = true := beq_iff_eq.mpr c25
      have c25b1 : ((l2_1.length : Int) != 0) = false := bne_eq_false_iff_eq.mpr c25
      clear c25
      obtain rfl := Option.some.inj H
      simp only [Option.some.injEq, Prod.mk.injEq] at H
      obtain ⟨rfl⟩ := H
      go_enter Try.func81, Try.ntmps81
      go_wp2_with (first | ((with_reducible refine gate_dst (N := 5) rfl ?_); (try (refine gate_guard (by rfl) ?_; dsimp only)); refine box_event ?hg (N := 5) ?hd (cs := #[.bool false, .slice A2_1 l2_1.length c2_1, .slice A2_2 l2_2.length c2_2]) (t := 52) ?hr ?_; (case hd => rfl); (case hg => rfl); (case hr => first | (go_simp; done) | (go_simp; rfl)); intro gb498 hg w26 hbox hb; have n0_ := Aside0.mk (below_step (by repeat (first | (with_reducible first | exact HB.out | apply below_alloc | apply pw_below_drewN | apply below_drew1) | exact HB.out)) hb); have n1_ := Aside0.mk (hbox); have n2_ := Aside0.mk ((by rw [hg]; exact (below_size (by repeat (first | (with_reducible first | exact HB.out | apply below_alloc | apply pw_below_drewN | apply below_drew1) | exact HB.out))) : w.heap.size ≤ gb498)); have n3_ := Aside0.mk ((by rw [hg]; exact (below_size (by repeat (first | (with_reducible first | exact HB.out | apply below_alloc | apply pw_below_drewN | apply below_drew1) | exact HB.out))) : w.heap.size ≤ gb498)); clear HB; have HB := n0_; have BK498 := n1_; have GW498 := n2_; have GE498 := n3_; clear n0_ n1_ n2_ n3_; clear hb hbox hg; have hcz27_0 : w26.cell? ⟨gb498, 0, none⟩ = some (.bool false) := (blk_cell BK498.out 0).trans rfl; have hcz27_1 : w26.cell? ⟨gb498, 1, none⟩ = some (.slice A2_1 l2_1.length c2_1) := (blk_cell BK498.out 1).trans rfl; have hcz27_2 : w26.cell? ⟨gb498, 2, none⟩ = some (.slice A2_2 l2_2.length c2_2) := (blk_cell BK498.out 2).trans rfl; have hfz27_0 := blk_frozen BK498.out 0; have hfz27_1 := blk_frozen BK498.out 1; have hfz27_2 := blk_frozen BK498.out 2))
      go_ret
      exact ⟨by first | rfl | (simp [errW_none, errW_some] <;> rfl) | (simp [*, errW_none, errW_some] <;> rfl), by repeat (first | (with_reducible first | exact HB.out | apply below_alloc | apply pw_below_drewN | apply below_drew1 | refine below_set ?_ GE498.out) | exact HB.out)⟩
    · rw [if_neg c25] at H
      have c25b0 : ((l2_1.length : Int) == 0) = false := beq_eq_false_iff_ne.mpr c25
      have c25b1 : ((l2_1.length : Int) != 0) = true := bne_iff_ne.mpr c25
      have c25b2 : ¬ (l2_1 = []) := fun h_ => c25 (by rw [h_]; rfl)
      obtain rfl := Option.some.inj H
      simp only [Option.some.injEq, Prod.mk.injEq] at H
      obtain ⟨rfl⟩ := H
      go_enter Try.func81, Try.ntmps81
      go_wp2_with (first | ((with_reducible refine gate_dst (N := 5) rfl ?_); (try (refine gate_guard (by rfl) ?_; dsimp only)); refine box_event ?hg (N := 5) ?hd (cs := #[.bool false, .slice A2_1 l2_1.length c2_1, .slice A2_2 l2_2.length c2_2]) (t := 52) ?hr ?_; (case hd => rfl); (case hg => rfl); (case hr => first | (go_simp; done) | (go_simp; rfl)); intro gb498 hg w28 hbox hb; have n0_ := Aside0.mk (below_step (by repeat (first | (with_reducible first | exact HB.out | apply below_alloc | apply pw_below_drewN | apply below_drew1) | exact HB.out)) hb); have n1_ := Aside0.mk (hbox); have n2_ := Aside0.mk ((by rw [hg]; exact (below_size (by repeat (first | (with_reducible first | exact HB.out | apply below_alloc | apply pw_below_drewN | apply below_drew1) | exact HB.out))) : w.heap.size ≤ gb498)); have n3_ := Aside0.mk ((by rw [hg]; exact (below_size (by repeat (first | (with_reducible first | exact HB.out | apply below_alloc | apply pw_below_drewN | apply below_drew1) | exact HB.out))) : w.heap.size ≤ gb498)); clear HB; have HB := n0_; have BK498 := n1_; have GW498 := n2_; have GE498 := n3_; clear n0_ n1_ n2_ n3_; clear hb hbox hg; have hcz29_0 : w28.cell? ⟨gb498, 0, none⟩ = some (.bool false) := (blk_cell BK498.out 0).trans rfl; have hcz29_1 : w28.cell? ⟨gb498, 1, none⟩ = some (.slice A2_1 l2_1.length c2_1) := (blk_cell BK498.out 1).trans rfl; have hcz29_2 : w28.cell? ⟨gb498, 2, none⟩ = some (.slice A2_2 l2_2.length c2_2) := (blk_cell BK498.out 2).trans rfl; have hfz29_0 := blk_frozen BK498.out 0; have hfz29_1 := blk_frozen BK498.out 1; have hfz29_2 := blk_frozen BK498.out 2))
      go_ret
      exact ⟨by first | rfl | (simp [errW_none, errW_some] <;> rfl) | (simp [*, errW_none, errW_some] <;> rfl), by repeat (first | (with_reducible first | exact HB.out | apply below_alloc | apply pw_below_drewN | apply below_drew1 | refine below_set ?_ GE498.out) | exact HB.out)⟩
end Go.Proofs.Ytgmjolngnhdafaa.P

end
section

namespace Go.Proofs.Ytgmjolngnhdafaa.P
open Go.RowKit Go.Proofs.YtgmjolngnhdafaaW.PrintWords Go.Proofs.YtgmjolngnhdafaaW.PrintLast Go.Proofs.YtgmjolngnhdafaaW.PrintMore
attribute [local go_sem] max2_int min2_int max_two min_two max_three min_three max_four min_four
set_option linter.unusedVariables false
set_option linter.unusedSimpArgs false
set_option maxHeartbeats 8000000 in
set_option maxRecDepth 100000 in
theorem impl_shapeFit.calls (k : Nat) (A0 : Option Addr) (c0 : Nat) (l0 : List (S38)) (a1_0 : Bool) (A1_1 : Option Addr) (c1_1 : Nat) (l1_1 : List Int) (A1_2 : Option Addr) (c1_2 : Nat) (l1_2 : List Int) (a2_0 : Bool) (A2_1 : Option Addr) (c2_1 : Nat) (l2_1 : List Int) (A2_2 : Option Addr) (c2_2 : Nat) (l2_2 : List Int) (r : Bool) (w : World) (hr0 : Kd.C k38 w A0 l0.length l0) (hc0 : l0.length ≤ c0) (hr1_1 : Kd.C (Kd.int .i64) w A1_1 l1_1.length l1_1) (hc1_1 : l1_1.length ≤ c1_1) (hr1_2 : Kd.C (Kd.int .i64) w A1_2 l1_2.length l1_2) (hc1_2 : l1_2.length ≤ c1_2) (hr2_1 : Kd.C (Kd.int .i64) w A2_1 l2_1.length l2_1) (hc2_1 : l2_1.length ≤ c2_1) (hr2_2 : Kd.C (Kd.int .i64) w A2_2 l2_2.length l2_2) (hc2_2 : l2_2.length ≤ c2_2) (h : impl_shapeFit.f k l0 a1_0 l1_1 l1_2 a2_0 l2_1 l2_2 = some r) :
    Calls Try.prog 93 #[.slice A0 l0.length c0, .agg #[.bool a1_0, .slice A1_1 l1_1.length c1_1, .slice A1_2 l1_2.length c1_2], .agg #[.bool a2_0, .slice A2_1 l2_1.length c2_1, .slice A2_2 l2_2.length c2_2]] w fun e w' => e = .returned (.bool r) ∧ Below w.heap.size w w' := by
  have hu52 := Try.underlying52
  have HR0 := Aside0.mk hr0
  have HC0 := Aside0.mk hc0
  clear hr0 hc0
  have HR1_1 := Aside0.mk hr1_1
  have HC1_1 := Aside0.mk hc1_1
  clear hr1_1 hc1_1
  have HR1_2 := Aside0.mk hr1_2
  have HC1_2 := Aside0.mk hc1_2
  clear hr1_2 hc1_2
  have HR2_1 := Aside0.mk hr2_1
  have HC2_1 := Aside0.mk hc2_1
  clear hr2_1 hc2_1
  have HR2_2 := Aside0.mk hr2_2
  have HC2_2 := Aside0.mk hc2_2
  clear hr2_2 hc2_2
  have HB := Aside0.mk (Below.refl w.heap.size w)
  have H : (if a1_0 = true then (if a2_0 = true then (if (l1_1.length : Int) = (l2_1.length : Int) then (if (l1_2.length : Int) = (l2_2.length : Int) then ((impl_shapeOk.f k l0 (l1_1.length : Int) a1_0 l1_1 l1_2).bind fun t681 => (if t681 = true then ((impl_shapeOk.f k l0 (l2_1.length : Int) a2_0 l2_1 l2_2).bind fun t682 => (some t682)) else (some false))) else (some false)) else (some false)) else (some false)) else (some false)) = some r := h
  clear h
  by_cases c4 : a1_0 = true
  · subst c4
    have H1 : (if a2_0 = true then (if (l1_1.length : Int) = (l2_1.length : Int) then (if (l1_2.length : Int) = (l2_2.length : Int) then ((impl_shapeOk.f k l0 (l1_1.length : Int) true l1_1 l1_2).bind fun t681 => (if t681 = true then ((impl_shapeOk.f k l0 (l2_1.length : Int) a2_0 l2_1 l2_2).bind fun t682 => (some t682)) else (some false))) else (some false)) else (some false)) else (some false)) = some r := by rw [if_pos rfl] at H; exact H
    clear H
    have H := H1
    clear H1
    by_cases c5 : a2_0 = true
    · subst c5
      have H1 : (if (l1_1.length : Int) = (l2_1.length : Int) then (if (l1_2.length : Int) = (l2_2.length : Int) then ((impl_shapeOk.f k l0 (l1_1.length : Int) true l1_1 l1_2).bind fun t681 => (if t681 = true then ((impl_shapeOk.f k l0 (l2_1.length : Int) true l2_1 l2_2).bind fun t682 => (some t682)) else (some false))) else (some false)) else (some false)) = some r := by rw [if_pos rfl] at H; exact H
      clear H
      have H := H1
      clear H1
      by_cases c6 : (l1_1.length : Int) = (l2_1.length : Int)
      · rw [if_pos c6] at H
        have c6b0 : ((l1_1.length : Int) == (l2_1.length : Int)) = true := beq_iff_eq.mpr c6
        have c6b1 : ((l1_1.length : Int) != (l2_1.length : Int)) = false := bne_eq_false_iff_eq.mpr c6
        have c6b2 : (l1_1.length == l2_1.length) = true := by first | simpa using c6 | (simp at c6 ⊢; omega)
        clear c6
        by_cases c7 : (l1_2.length : Int) = (l2_2.length : Int)
        · rw [if_pos c7] at H
          have c7b0 : ((l1_2.length : Int) == (l2_2.length : Int)) = true := beq_iff_eq.mpr c7
          have c7b1 : ((l1_2.length : Int) != (l2_2.length : Int)) = false := bne_eq_false_iff_eq.mpr c7
          have c7b2 : (l1_2.length == l2_2.length) = true := by first | simpa using c7 | (simp at c7 ⊢; omega)
          clear c7
          replace H := Option.bind_eq_some_iff.mp H
          obtain ⟨t681, A80, H⟩ := H
          replace H : (if t681 = true then ((impl_shapeOk.f k l0 (l2_1.length : Int) true l2_1 l2_2).bind fun t682 => (some t682)) else (some false)) = some r := H
          have A8 := Aside0.mk A80
          clear A80
          by_cases c9 : t681 = true
          · subst c9
            have H1 : ((impl_shapeOk.f k l0 (l2_1.length : Int) true l2_1 l2_2).bind fun t682 => (some t682)) = some r := by rw [if_pos rfl] at H; exact H
            clear H
            have H := H1
            clear H1
            replace H := Option.bind_eq_some_iff.mp H
            obtain ⟨t682, A100, H⟩ := H
            replace H : (some t682) = some r := H
            have A10 := Aside0.mk A100
            clear A100
            obtain rfl := Option.some.inj H
            simp only [Option.some.injEq, Prod.mk.injEq] at H
            obtain ⟨rfl⟩ := H
            go_enter Try.func93, Try.ntmps93
            go_wp2_with (first | ((with_reducible refine gate_dst (N := 4) rfl ?_); (try (refine gate_guard (by rfl) ?_; dsimp only)); refine box_event ?hg (N := 4) ?hd (cs := #[.bool true, .slice A1_1 l1_1.length c1_1, .slice A1_2 l1_2.length c1_2]) (t := 52) ?hr ?_; (case hd => rfl); (case hg => rfl); (case hr => first | (go_simp; done) | (go_simp; rfl)); intro gb679 hg w11 hbox hb; have n0_ := Aside0.mk (below_step (by repeat (first | (with_reducible first | exact HB.out | apply below_alloc | apply pw_below_drewN | apply below_drew1) | exact HB.out)) hb); have n1_ := Aside0.mk (hbox); have n2_ := Aside0.mk ((by rw [hg]; exact (below_size (by repeat (first | (with_reducible first | exact HB.out | apply below_alloc | apply pw_below_drewN | apply below_drew1) | exact HB.out))) : w.heap.size ≤ gb679)); have n3_ := Aside0.mk ((by rw [hg]; exact (below_size (by repeat (first | (with_reducible first | exact HB.out | apply below_alloc | apply pw_below_drewN | apply below_drew1) | exact HB.out))) : w.heap.size ≤ gb679)); clear HB; have HB := n0_; have BK679 := n1_; have GW679 := n2_; have GE679 := n3_; clear n0_ n1_ n2_ n3_; clear hb hbox hg) | ((with_reducible refine gate_dst (N := 5) rfl ?_); (try (refine gate_guard (by rfl) ?_; dsimp only)); refine box_event ?hg (N := 5) ?hd (cs := #[.bool true, .slice A2_1 l2_1.length c2_1, .slice A2_2 l2_2.length c2_2]) (t := 52) ?hr ?_; (case hd => rfl); (case hg => rfl); (case hr => first | (go_simp; done) | (go_simp; rfl)); intro gb680 hg w12 hbox hb; have n0_ := Aside0.mk (blk_below (g := gb679) (o := .cells #[.bool true, .slice A1_1 l1_1.length c1_1, .slice A1_2 l1_2.length c1_2] 52 (0, 0)) (by (with_reducible repeat (first | refine blk_drewN ?_ _ | refine blk_drew ?_ | refine blk_alloc ?_ _)); exact BK679.out) hb); have n1_ := Aside0.mk (below_step (by repeat (first | (with_reducible first | exact HB.out | apply below_alloc | apply pw_below_drewN | apply below_drew1 | refine below_set ?_ GE679.out) | exact HB.out)) hb); have n2_ := Aside0.mk (hbox); have n3_ := Aside0.mk ((by rw [hg]; exact (below_size (by repeat (first | (with_reducible first | exact HB.out | apply below_alloc | apply pw_below_drewN | apply below_drew1 | refine below_set ?_ GE679.out) | exact HB.out))) : w.heap.size ≤ gb680)); have n4_ := Aside0.mk ((by rw [hg]; exact (below_size (by repeat (first | (with_reducible first | exact HB.out | apply below_alloc | apply pw_below_drewN | apply below_drew1 | refine below_set ?_ GE679.out) | exact HB.out))) : w.heap.size ≤ gb680)); have n5_ := Aside0.mk ((by rw [hg]; exact Nat.ne_of_lt (blk_lt (g := gb679) (o := .cells #[.bool true, .slice A1_1 l1_1.length c1_1, .slice A1_2 l1_2.length c1_2] 52 (0, 0)) (by (with_reducible repeat (first | refine blk_drewN ?_ _ | refine blk_drew ?_ | refine blk_alloc ?_ _)); exact BK679.out)) : gb679 ≠ gb680)); have n6_ := Aside0.mk ((by rw [hg]; exact Nat.ne_of_gt (blk_lt (g := gb679) (o := .cells #[.bool true, .slice A1_1 l1_1.length c1_1, .slice A1_2 l1_2.length c1_2] 52 (0, 0)) (by (with_reducible repeat (first | refine blk_drewN ?_ _ | refine blk_drew ?_ | refine blk_alloc ?_ _)); exact BK679.out)) : gb680 ≠ gb679)); clear BK679; clear HB; have BK679 := n0_; have HB := n1_; have BK680 := n2_; have GW680 := n3_; have GE680 := n4_; have NB679_680 := n5_; have NB680_679 := n6_; clear n0_ n1_ n2_ n3_ n4_ n5_ n6_; clear hb hbox hg; have hnb13 := NB679_680.out; have hnc13 := NB680_679.out; have hcz14_0 : w12.cell? ⟨gb679, 0, none⟩ = some (.bool true) := (blk_cell BK679.out 0).trans rfl; have hcz14_1 : w12.cell? ⟨gb679, 1, none⟩ = some (.slice A1_1 l1_1.length c1_1) := (blk_cell BK679.out 1).trans rfl; have hcz14_2 : w12.cell? ⟨gb679, 2, none⟩ = some (.slice A1_2 l1_2.length c1_2) := (blk_cell BK679.out 2).trans rfl; have hfz14_0 := blk_frozen BK679.out 0; have hfz14_1 := blk_frozen BK679.out 1; have hfz14_2 := blk_frozen BK679.out 2; have hcz15_0 : w12.cell? ⟨gb680, 0, none⟩ = some (.bool true) := (blk_cell BK680.out 0).trans rfl; have hcz15_1 : w12.cell? ⟨gb680, 1, none⟩ = some (.slice A2_1 l2_1.length c2_1) := (blk_cell BK680.out 1).trans rfl; have hcz15_2 : w12.cell? ⟨gb680, 2, none⟩ = some (.slice A2_2 l2_2.length c2_2) := (blk_cell BK680.out 2).trans rfl; have hfz15_0 := blk_frozen BK680.out 0; have hfz15_1 := blk_frozen BK680.out 1; have hfz15_2 := blk_frozen BK680.out 2) | (go_at_call 81; (with_reducible refine (impl_shapeOk.calls k _ _ l0 (l1_1.length : Int) true _ _ l1_1 _ _ l1_2 true _ ?side1 ?side2 ?side3 ?side4 ?side5 ?side6 A8.out).mono ?_); (case side1 => repeat (first | exact (Kd.C_below HR0.out HB.out) | (with_reducible refine Kd.C_alloc ?_ _) | (with_reducible refine Kd.C_drewN ?_ _) | (with_reducible refine Kd.C_drew ?_))); (case side2 => exact HC0.out); (case side3 => repeat (first | exact (Kd.C_below HR1_1.out HB.out) | (with_reducible refine Kd.C_alloc ?_ _) | (with_reducible refine Kd.C_drewN ?_ _) | (with_reducible refine Kd.C_drew ?_))); (case side4 => exact HC1_1.out); (case side5 => repeat (first | exact (Kd.C_below HR1_2.out HB.out) | (with_reducible refine Kd.C_alloc ?_ _) | (with_reducible refine Kd.C_drewN ?_ _) | (with_reducible refine Kd.C_drew ?_))); (case side6 => exact HC1_2.out); rintro e w16 ⟨rfl, hb⟩; have n0_ := Aside0.mk (blk_below (g := gb679) (o := .cells #[.bool true, .slice A1_1 l1_1.length c1_1, .slice A1_2 l1_2.length c1_2] 52 (0, 0)) (by (with_reducible repeat (first | refine blk_drewN ?_ _ | refine blk_drew ?_ | refine blk_alloc ?_ _)); exact BK679.out) hb); have n1_ := Aside0.mk (blk_below (g := gb680) (o := .cells #[.bool true, .slice A2_1 l2_1.length c2_1, .slice A2_2 l2_2.length c2_2] 52 (0, 0)) (by (with_reducible repeat (first | refine blk_drewN ?_ _ | refine blk_drew ?_ | refine blk_alloc ?_ _)); exact BK680.out) hb); have n2_ := Aside0.mk (below_step (by repeat (first | (with_reducible first | exact HB.out | apply below_alloc | apply pw_below_drewN | apply below_drew1 | refine below_set ?_ GE679.out | refine below_set ?_ GE680.out) | exact HB.out)) hb); clear BK679; clear BK680; clear HB; have BK679 := n0_; have BK680 := n1_; have HB := n2_; clear n0_ n1_ n2_; (try clear hb); (try clear hb2); (try clear hk); (try clear hi); have hcz17_0 : w16.cell? ⟨gb680, 0, none⟩ = some (.bool true) := (blk_cell BK680.out 0).trans rfl; have hcz17_1 : w16.cell? ⟨gb680, 1, none⟩ = some (.slice A2_1 l2_1.length c2_1) := (blk_cell BK680.out 1).trans rfl; have hcz17_2 : w16.cell? ⟨gb680, 2, none⟩ = some (.slice A2_2 l2_2.length c2_2) := (blk_cell BK680.out 2).trans rfl; have hfz17_0 := blk_frozen BK680.out 0; have hfz17_1 := blk_frozen BK680.out 1; have hfz17_2 := blk_frozen BK680.out 2) | (go_at_call 81; (with_reducible refine (impl_shapeOk.calls k _ _ l0 (l2_1.length : Int) true _ _ l2_1 _ _ l2_2 t682 _ ?side1 ?side2 ?side3 ?side4 ?side5 ?side6 A10.out).mono ?_); (case side1 => repeat (first | exact (Kd.C_below HR0.out HB.out) | (with_reducible refine Kd.C_alloc ?_ _) | (with_reducible refine Kd.C_drewN ?_ _) | (with_reducible refine Kd.C_drew ?_))); (case side2 => exact HC0.out); (case side3 => repeat (first | exact (Kd.C_below HR2_1.out HB.out) | (with_reducible refine Kd.C_alloc ?_ _) | (with_reducible refine Kd.C_drewN ?_ _) | (with_reducible refine Kd.C_drew ?_))); (case side4 => exact HC2_1.out); (case side5 => repeat (first | exact (Kd.C_below HR2_2.out HB.out) | (with_reducible refine Kd.C_alloc ?_ _) | (with_reducible refine Kd.C_drewN ?_ _) | (with_reducible refine Kd.C_drew ?_))); (case side6 => exact HC2_2.out); rintro e w18 ⟨rfl, hb⟩; have n0_ := Aside0.mk (blk_below (g := gb679) (o := .cells #[.bool true, .slice A1_1 l1_1.length c1_1, .slice A1_2 l1_2.length c1_2] 52 (0, 0)) (by (with_reducible repeat (first | refine blk_drewN ?_ _ | refine blk_drew ?_ | refine blk_alloc ?_ _)); exact BK679.out) hb); have n1_ := Aside0.mk (blk_below (g := gb680) (o := .cells #[.bool true, .slice A2_1 l2_1.length c2_1, .slice A2_2 l2_2.length c2_2] 52 (0, 0)) (by (with_reducible repeat (first | refine blk_drewN ?_ _ | refine blk_drew ?_ | refine blk_alloc ?_ _)); exact BK680.out) hb); have n2_ := Aside0.mk (below_step (by repeat (first | (with_reducible first | exact HB.out | apply below_alloc | apply pw_below_drewN | apply below_drew1 | refine below_set ?_ GE679.out | refine below_set ?_ GE680.out) | exact HB.out)) hb); clear BK679; clear BK680; clear HB; have BK679 := n0_; have BK680 := n1_; have HB := n2_; clear n0_ n1_ n2_; (try clear hb); (try clear hb2); (try clear hk); (try clear hi)))
            go_ret
            exact ⟨by first | rfl | (simp [errW_none, errW_some] <;> rfl) | (simp [*, errW_none, errW_some] <;> rfl), by repeat (first | (with_reducible first | exact HB.out | apply below_alloc | apply pw_below_drewN | apply below_drew1 | refine below_set ?_ GE679.out | refine below_set ?_ GE680.out) | exact HB.out)⟩
          · replace c9 := Bool.eq_false_iff.mpr c9
            subst c9
            have H1 : (some false) = some r := by rw [if_neg (show ¬ (false = true) by decide)] at H; exact H
            clear H
            have H := H1
            clear H1
            obtain rfl := Option.some.inj H
            simp only [Option.some.injEq, Prod.mk.injEq] at H
            obtain ⟨rfl⟩ := H
            go_enter Try.func93, Try.ntmps93
            go_wp2_with (first | ((with_reducible refine gate_dst (N := 4) rfl ?_); (try (refine gate_guard (by rfl) ?_; dsimp only)); refine box_event ?hg (N := 4) ?hd (cs := #[.bool true, .slice A1_1 l1_1.length c1_1, .slice A1_2 l1_2.length c1_2]) (t := 52) ?hr ?_; (case hd => rfl); (case hg => rfl); (case hr => first | (go_simp; done) | (go_simp; rfl)); intro gb679 hg w19 hbox hb; have n0_ := Aside0.mk (below_step (by repeat (first | (with_reducible first | exact HB.out | apply below_alloc | apply pw_below_drewN | apply below_drew1) | exact HB.out)) hb); have n1_ := Aside0.mk (hbox); have n2_ := Aside0.mk ((by rw [hg]; exact (below_size (by repeat (first | (with_reducible first | exact HB.out | apply below_alloc | apply pw_below_drewN | apply below_drew1) | exact HB.out))) : w.heap.size ≤ gb679)); have n3_ := Aside0.mk ((by rw [hg]; exact (below_size (by repeat (first | (with_reducible first | exact HB.out | apply below_alloc | apply pw_below_drewN | apply below_drew1) | exact HB.out))) : w.heap.size ≤ gb679)); clear HB; have HB := n0_; have BK679 := n1_; have GW679 := n2_; have GE679 := n3_; clear n0_ n1_ n2_ n3_; clear hb hbox hg) | ((with_reducible refine gate_dst (N := 5) rfl ?_); (try (refine gate_guard (by rfl) ?_; dsimp only)); refine box_event ?hg (N := 5) ?hd (cs := #[.bool true, .slice A2_1 l2_1.length c2_1, .slice A2_2 l2_2.length c2_2]) (t := 52) ?hr ?_; (case hd => rfl); (case hg => rfl); (case hr => first | (go_simp; done) | (go_simp; rfl)); intro gb680 hg w20 hbox hb; have n0_ := Aside0.mk (blk_below (g := gb679) (o := .cells #[.bool true, .slice A1_1 l1_1.length c1_1, .slice A1_2 l1_2.length c1_2] 52 (0, 0)) (by (with_reducible repeat (first | refine blk_drewN ?_ _ | refine blk_drew ?_ | refine blk_alloc ?_ _)); exact BK679.out) hb); have n1_ := Aside0.mk (below_step (by repeat (first | (with_reducible first | exact HB.out | apply below_alloc | apply pw_below_drewN | apply below_drew1 | refine below_set ?_ GE679.out) | exact HB.out)) hb); have n2_ := Aside0.mk (hbox); have n3_ := Aside0.mk ((by rw [hg]; exact (below_size (by repeat (first | (with_reducible first | exact HB.out | apply below_alloc | apply pw_below_drewN | apply below_drew1 | refine below_set ?_ GE679.out) | exact HB.out))) : w.heap.size ≤ gb680)); have n4_ := Aside0.mk ((by rw [hg]; exact (below_size (by repeat (first | (with_reducible first | exact HB.out | apply below_alloc | apply pw_below_drewN | apply below_drew1 | refine below_set ?_ GE679.out) | exact HB.out))) : w.heap.size ≤ gb680)); have n5_ := Aside0.mk ((by rw [hg]; exact Nat.ne_of_lt (blk_lt (g := gb679) (o := .cells #[.bool true, .slice A1_1 l1_1.length c1_1, .slice A1_2 l1_2.length c1_2] 52 (0, 0)) (by (with_reducible repeat (first | refine blk_drewN ?_ _ | refine blk_drew ?_ | refine blk_alloc ?_ _)); exact BK679.out)) : gb679 ≠ gb680)); have n6_ := Aside0.mk ((by rw [hg]; exact Nat.ne_of_gt (blk_lt (g := gb679) (o := .cells #[.bool true, .slice A1_1 l1_1.length c1_1, .slice A1_2 l1_2.length c1_2] 52 (0, 0)) (by (with_reducible repeat (first | refine blk_drewN ?_ _ | refine blk_drew ?_ | refine blk_alloc ?_ _)); exact BK679.out)) : gb680 ≠ gb679)); clear BK679; clear HB; have BK679 := n0_; have HB := n1_; have BK680 := n2_; have GW680 := n3_; have GE680 := n4_; have NB679_680 := n5_; have NB680_679 := n6_; clear n0_ n1_ n2_ n3_ n4_ n5_ n6_; clear hb hbox hg; have hnb21 := NB679_680.out; have hnc21 := NB680_679.out; have hcz22_0 : w20.cell? ⟨gb679, 0, none⟩ = some (.bool true) := (blk_cell BK679.out 0).trans rfl; have hcz22_1 : w20.cell? ⟨gb679, 1, none⟩ = some (.slice A1_1 l1_1.length c1_1) := (blk_cell BK679.out 1).trans rfl; have hcz22_2 : w20.cell? ⟨gb679, 2, none⟩ = some (.slice A1_2 l1_2.length c1_2) := (blk_cell BK679.out 2).trans rfl; have hfz22_0 := blk_frozen BK679.out 0; have hfz22_1 := blk_frozen BK679.out 1; have hfz22_2 := blk_frozen BK679.out 2; have hcz23_0 : w20.cell? ⟨gb680, 0, none⟩ = some (.bool true) := (blk_cell BK680.out 0).trans rfl; have hcz23_1 : w20.cell? ⟨gb680, 1, none⟩ = some (.slice A2_1 l2_1.length c2_1) := (blk_cell BK680.out 1).trans rfl; have hcz23_2 : w20.cell? ⟨gb680, 2, none⟩ = some (.slice A2_2 l2_2.length c2_2) := (blk_cell BK680.out 2).trans rfl; have hfz23_0 := blk_frozen BK680.out 0; have hfz23_1 := blk_frozen BK680.out 1; have hfz23_2 := blk_frozen BK680.out 2) | (go_at_call 81; (with_reducible refine (impl_shapeOk.calls k _ _ l0 (l1_1.length : Int) true _ _ l1_1 _ _ l1_2 false _ ?side1 ?side2 ?side3 ?side4 ?side5 ?side6 A8.out).mono ?_); (case side1 => repeat (first | exact (Kd.C_below HR0.out HB.out) | (with_reducible refine Kd.C_alloc ?_ _) | (with_reducible refine Kd.C_drewN ?_ _) | (with_reducible refine Kd.C_drew ?_))); (case side2 => exact HC0.out); (case side3 => repeat (first | exact (Kd.C_below HR1_1.out HB.out) | (with_reducible refine Kd.C_alloc ?_ _) | (with_reducible refine Kd.C_drewN ?_ _) | (with_reducible refine Kd.C_drew ?_))); (case side4 => exact HC1_1.out); (case side5 => repeat (first | exact (Kd.C_below HR1_2.out HB.out) | (with_reducible refine Kd.C_alloc ?_ _) | (with_reducible refine Kd.C_drewN ?_ _) | (with_reducible refine Kd.C_drew ?_))); (case side6 => exact HC1_2.out); rintro e w24 ⟨rfl, hb⟩; have n0_ := Aside0.mk (blk_below (g := gb679) (o := .cells #[.bool true, .slice A1_1 l1_1.length c1_1, .slice A1_2 l1_2.length c1_2] 52 (0, 0)) (by (with_reducible repeat (first | refine blk_drewN ?_ _ | refine blk_drew ?_ | refine blk_alloc ?_ _)); exact BK679.out) hb); have n1_ := Aside0.mk (blk_below (g := gb680) (o := .cells #[.bool true, .slice A2_1 l2_1.length c2_1, .slice A2_2 l2_2.length c2_2] 52 (0, 0)) (by (with_reducible repeat (first | refine blk_drewN ?_ _ | refine blk_drew ?_ | refine blk_alloc ?_ _)); exact BK680.out) hb); have n2_ := Aside0.mk (below_step (by repeat (first | (with_reducible first | exact HB.out | apply below_alloc | apply pw_below_drewN | apply below_drew1 | refine below_set ?_ GE679.out | refine below_set ?_ GE680.out) | exact HB.out)) hb); clear BK679; clear BK680; clear HB; have BK679 := n0_; have BK680 := n1_; have HB := n2_; clear n0_ n1_ n2_; (try clear hb); (try clear hb2); (try clear hk); (try clear hi)))
            go_ret
            exact ⟨by first | rfl | (simp [errW_none, errW_some] <;> rfl) | (simp [*, errW_none, errW_some] <;> rfl), by repeat (first | (with_reducible first | exact HB.out | apply below_alloc | apply pw_below_drewN | apply below_drew1 | refine below_set ?_ GE679.out | refine below_set ?_ GE680.out) | exact HB.out)⟩
        · rw [if_neg c7] at H
          have c7b0 : ((l1_2.length : Int) == (l2_2.length : Int)) = false := beq_eq_false_iff_ne.mpr c7
          have c7b1 : ((l1_2.length : Int) != (l2_2.length : Int)) = true := bne_iff_ne.mpr c7
          have c7b2 : (l1_2.length == l2_2.length) = false := by first | simpa using c7 | (simp at c7 ⊢; omega)
          obtain rfl := Option.some.inj H
          simp only [Option.some.injEq, Prod.mk.injEq] at H
          obtain ⟨rfl⟩ := H
          go_enter Try.func93, Try.ntmps93
          go_wp2_with (first | ((with_reducible refine gate_dst (N := 4) rfl ?_); (try (refine gate_guard (by rfl) ?_; dsimp only)); refine box_event ?hg (N := 4) ?hd (cs := #[.bool true, .slice A1_1 l1_1.length c1_1, .slice A1_2 l1_2.length c1_2]) (t := 52) ?hr ?_; (case hd => rfl); (case hg => rfl); (case hr => first | (go_simp; done) | (go_simp; rfl)); intro gb679 hg w25 hbox hb; have n0_ := Aside0.mk (below_step (by repeat (first | (with_reducible first | exact HB.out | apply below_alloc | apply pw_below_drewN | apply below_drew1) | exact HB.out)) hb); have n1_ := Aside0.mk (hbox); have n2_ := Aside0.mk ((by rw [hg]; exact (below_size (by repeat (first | (with_reducible first | exact HB.out | apply below_alloc | apply pw_below_drewN | apply below_drew1) | exact HB.out))) : w.heap.size ≤ gb679)); have n3_ := Aside0.mk ((by rw [hg]; exact (below_size (by repeat (first | (with_reducible first | exact HB.out | apply below_alloc | apply pw_below_drewN | apply below_drew1) | exact HB.out))) : w.heap.size ≤ gb679)); clear HB; have HB := n0_; have BK679 := n1_; have GW679 := n2_; have GE679 := n3_; clear n0_ n1_ n2_ n3_; clear hb hbox hg) | ((with_reducible refine gate_dst (N := 5) rfl ?_); (try (refine gate_guard (by rfl) ?_; dsimp only)); refine box_event ?hg (N := 5) ?hd (cs := #[.bool true, .slice A2_1 l2_1.length c2_1, .slice A2_2 l2_2.length c2_2]) (t := 52) ?hr ?_; (case hd => rfl); (case hg => rfl); (case hr => first | (go_simp; done) | (go_simp; rfl)); intro gb680 hg w26 hbox hb; have n0_ := Aside0.mk (blk_below (g := gb679) (o := .cells #[.bool true, .slice A1_1 l1_1.length c1_1, .slice A1_2 l1_2.length c1_2] 52 (0, 0)) (by (with_reducible repeat (first | refine blk_drewN ?_ _ | refine blk_drew ?_ | refine blk_alloc ?_ _)); exact BK679.out) hb); have n1_ := Aside0.mk (below_step (by repeat (first | (with_reducible first | exact HB.out | apply below_alloc | apply pw_below_drewN | apply below_drew1 | refine below_set ?_ GE679.out) | exact HB.out)) hb); have n2_ := Aside0.mk (hbox); have n3_ := Aside0.mk ((by rw [hg]; exact (below_size (by repeat (first | (with_reducible first | exact HB.out | apply below_alloc | apply pw_below_drewN | apply below_drew1 | refine below_set ?_ GE679.out) | exact HB.out))) : w.heap.size ≤ gb680)); have n4_ := Aside0.mk ((by rw [hg]; exact (below_size (by repeat (first | (with_reducible first | exact HB.out | apply below_alloc | apply pw_below_drewN | apply below_drew1 | refine below_set ?_ GE679.out) | exact HB.out))) : w.heap.size ≤ gb680)); have n5_ := Aside0.mk ((by rw [hg]; exact Nat.ne_of_lt (blk_lt (g := gb679) (o := .cells #[.bool true, .slice A1_1 l1_1.length c1_1, .slice A1_2 l1_2.length c1_2] 52 (0, 0)) (by (with_reducible repeat (first | refine blk_drewN ?_ _ | refine blk_drew ?_ | refine blk_alloc ?_ _)); exact BK679.out)) : gb679 ≠ gb680)); have n6_ := Aside0.mk ((by rw [hg]; exact Nat.ne_of_gt (blk_lt (g := gb679) (o := .cells #[.bool true, .slice A1_1 l1_1.length c1_1, .slice A1_2 l1_2.length c1_2] 52 (0, 0)) (by (with_reducible repeat (first | refine blk_drewN ?_ _ | refine blk_drew ?_ | refine blk_alloc ?_ _)); exact BK679.out)) : gb680 ≠ gb679)); clear BK679; clear HB; have BK679 := n0_; have HB := n1_; have BK680 := n2_; have GW680 := n3_; have GE680 := n4_; have NB679_680 := n5_; have NB680_679 := n6_; clear n0_ n1_ n2_ n3_ n4_ n5_ n6_; clear hb hbox hg; have hnb27 := NB679_680.out; have hnc27 := NB680_679.out; have hcz28_0 : w26.cell? ⟨gb679, 0, none⟩ = some (.bool true) := (blk_cell BK679.out 0).trans rfl; have hcz28_1 : w26.cell? ⟨gb679, 1, none⟩ = some (.slice A1_1 l1_1.length c1_1) := (blk_cell BK679.out 1).trans rfl; have hcz28_2 : w26.cell? ⟨gb679, 2, none⟩ = some (.slice A1_2 l1_2.length c1_2) := (blk_cell BK679.out 2).trans rfl; have hfz28_0 := blk_frozen BK679.out 0; have hfz28_1 := blk_frozen BK679.out 1; have hfz28_2 := blk_frozen BK679.out 2; have hcz29_0 : w26.cell? ⟨gb680, 0, none⟩ = some (.bool true) := (blk_cell BK680.out 0).trans rfl; have hcz29_1 : w26.cell? ⟨gb680, 1, none⟩ = some (.slice A2_1 l2_1.length c2_1) := (blk_cell BK680.out 1).trans rfl; have hcz29_2 : w26.cell? ⟨gb680, 2, none⟩ = some (.slice A2_2 l2_2.length c2_2) := (blk_cell BK680.out 2).trans rfl; have hfz29_0 := blk_frozen BK680.out 0; have hfz29_1 := blk_frozen BK680.out 1; have hfz29_2 := blk_frozen BK680.out 2))
          go_ret
          exact ⟨by first | rfl | (simp [errW_none, errW_some] <;> rfl) | (simp [*, errW_none, errW_some] <;> rfl), by repeat (first | (with_reducible first | exact HB.out | apply below_alloc | apply pw_below_drewN | apply below_drew1 | refine below_set ?_ GE679.out | refine below_set ?_ GE680.out) | exact HB.out)⟩
      · rw [if_neg c6] at H
        have c6b0 : ((l1_1.length : Int) == (l2_1.length : Int)) = false := beq_eq_false_iff_ne.mpr c6
        have c6b1 : ((l1_1.length : Int) != (l2_1.length : Int)) = true := bne_iff_ne.mpr c6
        have c6b2 : (l1_1.length == l2_1.length) = false := by first | simpa using c6 | (simp at c6 ⊢; omega)
        obtain rfl := Option.some.inj H
        simp only [Option.some.injEq, Prod.mk.injEq] at H
        obtain ⟨rfl⟩ := H
        go_enter Try.func93, Try.ntmps93
        go_wp2_with (first | ((with_reducible refine gate_dst (N := 4) rfl ?_); (try (refine gate_guard (by rfl) ?_; dsimp only)); refine box_event ?hg (N := 4) ?hd (cs := #[.bool true, .slice A1_1 l1_1.length c1_1, .slice A1_2 l1_2.length c1_2]) (t := 52) ?hr ?_; (case hd => rfl); (case hg => rfl); (case hr => first | (go_simp; done) | (go_simp; rfl)); intro gb679 hg w30 hbox hb; have n0_ := Aside0.mk (below_step (by repeat (first | (with_reducible first | exact HB.out | apply below_alloc | apply pw_below_drewN | apply below_drew1) | exact HB.out)) hb); have n1_ := Aside0.mk (hbox); have n2_ := Aside0.mk ((by rw [hg]; exact (below_size (by repeat (first | (with_reducible first | exact HB.out | apply below_alloc | apply pw_below_drewN | apply below_drew1) | exact HB.out))) : w.heap.size ≤ gb679)); have n3_ := Aside0.mk ((by rw [hg]; exact (below_size (by repeat (first | (with_reducible first | exact HB.out | apply below_alloc | apply pw_below_drewN | apply below_drew1) | exact HB.out))) : w.heap.size ≤ gb679)); clear HB; have HB := n0_; have BK679 := n1_; have GW679 := n2_; have GE679 := n3_; clear n0_ n1_ n2_ n3_; clear hb hbox hg) | ((with_reducible refine gate_dst (N := 5) rfl ?_); (try (refine gate_guard (by rfl) ?_; dsimp only)); refine box_event ?hg (N := 5) ?hd (cs := #[.bool true, .slice A2_1 l2_1.length c2_1, .slice A2_2 l2_2.length c2_2]) (t := 52) ?hr ?_; (case hd => rfl); (case hg => rfl); (case hr => first | (go_simp; done) | (go_simp; rfl)); intro gb680 hg w31 hbox hb; have n0_ := Aside0.mk (blk_below (g := gb679) (o := .cells #[.bool true, .slice A1_1 l1_1.length c1_1, .slice A1_2 l1_2.length c1_2] 52 (0, 0)) (by (with_reducible repeat (first | refine blk_drewN ?_ _ | refine blk_drew ?_ | refine blk_alloc ?_ _)); exact BK679.out) hb); have n1_ := Aside0.mk (below_step (by repeat (first | (with_reducible first | exact HB.out | apply below_alloc | apply pw_below_drewN | apply below_drew1 | refine below_set ?_ GE679.out) | exact HB.out)) hb); have n2_ := Aside0.mk (hbox); have n3_ := Aside0.mk ((by rw [hg]; exact (below_size (by repeat (first | (with_reducible first | exact HB.out | apply below_alloc | apply pw_below_drewN | apply below_drew1 | refine below_set ?_ GE679.out) | exact HB.out))) : w.heap.size ≤ gb680)); have n4_ := Aside0.mk ((by rw [hg]; exact (below_size (by repeat (first | (with_reducible first | exact HB.out | apply below_alloc | apply pw_below_drewN | apply below_drew1 | refine below_set ?_ GE679.out) | exact HB.out))) : w.heap.size ≤ gb680)); have n5_ := Aside0.mk ((by rw [hg]; exact Nat.ne_of_lt (blk_lt (g := gb679) (o := .cells #[.bool true, .slice A1_1 l1_1.length c1_1, .slice A1_2 l1_2.length c1_2] 52 (0, 0)) (by (with_reducible repeat (first | refine blk_drewN ?_ _ | refine blk_drew ?_ | refine blk_alloc ?_ _)); exact BK679.out)) : gb679 ≠ gb680)); have n6_ := Aside0.mk ((by rw [hg]; exact Nat.ne_of_gt (blk_lt (g := gb679) (o := .cells #[.bool true, .slice A1_1 l1_1.length c1_1, .slice A1_2 l1_2.length c1_2] 52 (0, 0)) (by (with_reducible repeat (first | refine blk_drewN ?_ _ | refine blk_drew ?_ | refine blk_alloc ?_ _)); exact BK679.out)) : gb680 ≠ gb679)); clear BK679; clear HB; have BK679 := n0_; have HB := n1_; have BK680 := n2_; have GW680 := n3_; have GE680 := n4_; have NB679_680 := n5_; have NB680_679 := n6_; clear n0_ n1_ n2_ n3_ n4_ n5_ n6_; clear hb hbox hg; have hnb32 := NB679_680.out; have hnc32 := NB680_679.out; have hcz33_0 : w31.cell? ⟨gb679, 0, none⟩ = some (.bool true) := (blk_cell BK679.out 0).trans rfl; have hcz33_1 : w31.cell? ⟨gb679, 1, none⟩ = some (.slice A1_1 l1_1.length c1_1) := (blk_cell BK679.out 1).trans rfl; have hcz33_2 : w31.cell? ⟨gb679, 2, none⟩ = some (.slice A1_2 l1_2.length c1_2) := (blk_cell BK679.out 2).trans rfl; have hfz33_0 := blk_frozen BK679.out 0; have hfz33_1 := blk_frozen BK679.out 1; have hfz33_2 := blk_frozen BK679.out 2; have hcz34_0 : w31.cell? ⟨gb680, 0, none⟩ = some (.bool true) := (blk_cell BK680.out 0).trans rfl; have hcz34_1 : w31.cell? ⟨gb680, 1, none⟩ = some (.slice A2_1 l2_1.length c2_1) := (blk_cell BK680.out 1).trans rfl; have hcz34_2 : w31.cell? ⟨gb680, 2, none⟩ = some (.slice A2_2 l2_2.length c2_2) := (blk_cell BK680.out 2).trans rfl; have hfz34_0 := blk_frozen BK680.out 0; have hfz34_1 := blk_frozen BK680.out 1; have hfz34_2 := blk_frozen BK680.out 2))
        go_ret
        exact ⟨by first | rfl | (simp [errW_none, errW_some] <;> rfl) | (simp [*, errW_none, errW_some] <;> rfl), by repeat (first | (with_reducible first | exact HB.out | apply below_alloc | apply pw_below_drewN | apply below_drew1 | refine below_set ?_ GE679.out | refine below_set ?_ GE680.out) | exact HB.out)⟩
    · replace c5 := Bool.eq_false_iff.mpr c5
      subst c5
      have H1 : (some false) = some r := by rw [if_neg (show ¬ (false = true) by decide)] at H; exact H
      clear H
      have H := H1
      clear H1
      obtain rfl := Option.some.inj H
      simp only [Option.some.injEq, Prod.mk.injEq] at H
      obtain ⟨rfl⟩ := H
      go_enter Try.func93, Try.ntmps93
      go_wp2_with (first | ((with_reducible refine gate_dst (N := 4) rfl ?_); (try (refine gate_guard (by rfl) ?_; dsimp only)); refine box_event ?hg (N := 4) ?hd (cs := #[.bool true, .slice A1_1 l1_1.length c1_1, .slice A1_2 l1_2.length c1_2]) (t := 52) ?hr ?_; (case hd => rfl); (case hg => rfl); (case hr => first | (go_simp; done) | (go_simp; rfl)); intro gb679 hg w35 hbox hb; have n0_ := Aside0.mk (below_step (by repeat (first | (with_reducible first | exact HB.out | apply below_alloc | apply pw_below_drewN | apply below_drew1) | exact HB.out)) hb); have n1_ := Aside0.mk (hbox); have n2_ := Aside0.mk ((by rw [hg]; exact (below_size (by repeat (first | (with_reducible first | exact HB.out | apply below_alloc | apply pw_below_drewN | apply below_drew1) | exact HB.out))) : w.heap.size ≤ gb679)); have n3_ := Aside0.mk ((by rw [hg]; exact (below_size (by repeat (first | (with_reducible first | exact HB.out | apply below_alloc | apply pw_below_drewN | apply below_drew1) | exact HB.out))) : w.heap.size ≤ gb679)); clear HB; have HB := n0_; have BK679 := n1_; have GW679 := n2_; have GE679 := n3_; clear n0_ n1_ n2_ n3_; clear hb hbox hg) | ((with_reducible refine gate_dst (N := 5) rfl ?_); (try (refine gate_guard (by rfl) ?_; dsimp only)); refine box_event ?hg (N := 5) ?hd (cs := #[.bool false, .slice A2_1 l2_1.length c2_1, .slice A2_2 l2_2.length c2_2]) (t := 52) ?hr ?_; (case hd => rfl); (case hg => rfl); (case hr => first | (go_simp; done) | (go_simp; rfl)); intro gb680 hg w36 hbox hb; have n0_ := Aside0.mk (blk_below (g := gb679) (o := .cells #[.bool true, .slice A1_1 l1_1.length c1_1, .slice A1_2 l1_2.length c1_2] 52 (0, 0)) (by (with_reducible repeat (first | refine blk_drewN ?_ _ | refine blk_drew ?_ | refine blk_alloc ?_ _)); exact BK679.out) hb); have n1_ := Aside0.mk (below_step (by repeat (first | (with_reducible first | exact HB.out | apply below_alloc | apply pw_below_drewN | apply below_drew1 | refine below_set ?_ GE679.out) | exact HB.out)) hb); have n2_ := Aside0.mk (hbox); have n3_ := Aside0.mk ((by rw [hg]; exact (below_size (by repeat (first | (with_reducible first | exact HB.out | apply below_alloc | apply pw_below_drewN | apply below_drew1 | refine below_set ?_ GE679.out) | exact HB.out))) : w.heap.size ≤ gb680)); have n4_ := Aside0.mk ((by rw [hg]; exact (below_size (by repeat (first | (with_reducible first | exact HB.out | apply below_alloc | apply pw_below_drewN | apply below_drew1 | refine below_set ?_ GE679.out) | exact HB.out))) : w.heap.size ≤ gb680)); have n5_ := Aside0.mk ((by rw [hg]; exact Nat.ne_of_lt (blk_lt (g := gb679) (o := .cells #[.bool true, .slice A1_1 l1_1.length c1_1, .slice A1_2 l1_2.length c1_2] 52 (0, 0)) (by (with_reducible repeat (first | refine blk_drewN ?_ _ | refine blk_drew ?_ | refine blk_alloc ?_ _)); exact BK679.out)) : gb679 ≠ gb680)); have n6_ := Aside0.mk ((by rw [hg]; exact Nat.ne_of_gt (blk_lt (g := gb679) (o := .cells #[.bool true, .slice A1_1 l1_1.length c1_1, .slice A1_2 l1_2.length c1_2] 52 (0, 0)) (by (with_reducible repeat (first | refine blk_drewN ?_ _ | refine blk_drew ?_ | refine blk_alloc ?_ _)); exact BK679.out)) : gb680 ≠ gb679)); clear BK679; clear HB; have BK679 := n0_; have HB := n1_; have BK680 := n2_; have GW680 := n3_; have GE680 := n4_; have NB679_680 := n5_; have NB680_679 := n6_; clear n0_ n1_ n2_ n3_ n4_ n5_ n6_; clear hb hbox hg; have hnb37 := NB679_680.out; have hnc37 := NB680_679.out; have hcz38_0 : w36.cell? ⟨gb679, 0, none⟩ = some (.bool true) := (blk_cell BK679.out 0).trans rfl; have hcz38_1 : w36.cell? ⟨gb679, 1, none⟩ = some (.slice A1_1 l1_1.length c1_1) := (blk_cell BK679.out 1).trans rfl; have hcz38_2 : w36.cell? ⟨gb679, 2, none⟩ = some (.slice A1_2 l1_2.length c1_2) := (blk_cell BK679.out 2).trans rfl; have hfz38_0 := blk_frozen BK679.out 0; have hfz38_1 := blk_frozen BK679.out 1; have hfz38_2 := blk_frozen BK679.out 2; have hcz39_0 : w36.cell? ⟨gb680, 0, none⟩ = some (.bool false) := (blk_cell BK680.out 0).trans rfl; have hcz39_1 : w36.cell? ⟨gb680, 1, none⟩ = some (.slice A2_1 l2_1.length c2_1) := (blk_cell BK680.out 1).trans rfl; have hcz39_2 : w36.cell? ⟨gb680, 2, none⟩ = some (.slice A2_2 l2_2.length c2_2) := (blk_cell BK680.out 2).trans rfl; have hfz39_0 := blk_frozen BK680.out 0; have hfz39_1 := blk_frozen BK680.out 1; have hfz39_2 := blk_frozen BK680.out 2))
      go_ret
      exact ⟨by first | rfl | (simp [errW_none, errW_some] <;> rfl) | (simp [*, errW_none, errW_some] <;> rfl), by repeat (first | (with_reducible first | exact HB.out | apply below_alloc | apply pw_below_drewN | apply below_drew1 | refine below_set ?_ GE679.out | refine below_set ?_ GE680.out) | exact HB.out)⟩
  · replace c4 := Bool.eq_false_iff.mpr c4
    subst c4
    have H1 : (some false) = some r := by rw [if_neg (show ¬ (false = true) by decide)] at H; exact H
    clear H
    have H := H1
    clear H1
    obtain rfl := Option.some.inj H
    simp only [Option.some.injEq, Prod.mk.injEq] at H
    obtain ⟨rfl⟩ := H
    go_enter Try.func93, Try.ntmps93
    go_wp2_with (first | ((with_reducible refine gate_dst (N := 4) rfl ?_); (try (refine gate_guard (by rfl) ?_; dsimp only)); refine box_event ?hg (N := 4) ?hd (cs := #[.bool false, .slice A1_1 l1_1.length c1_1, .slice A1_2 l1_2.length c1_2]) (t := 52) ?hr ?_; (case hd => rfl); (case hg => rfl); (case hr => first | (go_simp; done) | (go_simp; rfl)); intro gb679 hg w40 hbox hb; have n0_ := Aside0.mk (below_step (by repeat (first | (with_reducible first | exact HB.out | apply below_alloc | apply pw_below_drewN | apply below_drew1) | exact HB.out)) hb); have n1_ := Aside0.mk (hbox); have n2_ := Aside0.mk ((by rw [hg]; exact (below_size (by repeat (first | (with_reducible first | exact HB.out | apply below_alloc | apply pw_below_drewN | apply below_drew1) | exact HB.out))) : w.heap.size ≤ gb679)); have n3_ := Aside0.mk ((by rw [hg]; exact (below_size (by repeat (first | (with_reducible first | exact HB.out | apply below_alloc | apply pw_below_drewN | apply below_drew1) | exact HB.out))) : w.heap.size ≤ gb679)); clear HB; have HB := n0_; have BK679 := n1_; have GW679 := n2_; have GE679 := n3_; clear n0_ n1_ n2_ n3_; clear hb hbox hg) | ((with_reducible refine gate_dst (N := 5) rfl ?_); (try (refine gate_guard (by rfl) ?_; dsimp only)); refine box_event ?hg (N := 5) ?hd (cs := #[.bool a2_0, .slice A2_1 l2_1.length c2_1, .slice A2_2 l2_2.length c2_2]) (t := 52) ?hr ?_; (case hd => rfl); (case hg => rfl); (case hr => first | (go_simp; done) | (go_simp; rfl)); intro gb680 hg w41 hbox hb; have n0_ := Aside0.mk (blk_below (g := gb679) (o := .cells #[.bool false, .slice A1_1 l1_1.length c1_1, .slice A1_2 l1_2.length c1_2] 52 (0, 0)) (by (with_reducible repeat (first | refine blk_drewN ?_ _ | refine blk_drew ?_ | refine blk_alloc ?_ _)); exact BK679.out) hb); have n1_ := Aside0.mk (below_step (by repeat (first | (with_reducible first | exact HB.out | apply below_alloc | apply pw_below_drewN | apply below_drew1 | refine below_set ?_ GE679.out) | exact HB.out)) hb); have n2_ := Aside0.mk (hbox); have n3_ := Aside0.mk ((by rw [hg]; exact (below_size (by repeat (first | (with_reducible first | exact HB.out | apply below_alloc | apply pw_below_drewN | apply below_drew1 | refine below_set ?_ GE679.out) | exact HB.out))) : w.heap.size ≤ gb680)); have n4_ := Aside0.mk ((by rw [hg]; exact (below_size (by repeat (first | (with_reducible first | exact HB.out | apply below_alloc | apply pw_below_drewN | apply below_drew1 | refine below_set ?_ GE679.out) | exact HB.out))) : w.heap.size ≤ gb680)); have n5_ := Aside0.mk ((by rw [hg]; exact Nat.ne_of_lt (blk_lt (g := gb679) (o := .cells #[.bool false, .slice A1_1 l1_1.length c1_1, .slice A1_2 l1_2.length c1_2] 52 (0, 0)) (by (with_reducible repeat (first | refine blk_drewN ?_ _ | refine blk_drew ?_ | refine blk_alloc ?_ _)); exact BK679.out)) : gb679 ≠ gb680)); have n6_ := Aside0.mk ((by rw [hg]; exact Nat.ne_of_gt (blk_lt (g := gb679) (o := .cells #[.bool false, .slice A1_1 l1_1.length c1_1, .slice A1_2 l1_2.length c1_2] 52 (0, 0)) (by (with_reducible repeat (first | refine blk_drewN ?_ _ | refine blk_drew ?_ | refine blk_alloc ?_ _)); exact BK679.out)) : gb680 ≠ gb679)); clear BK679; clear HB; have BK679 := n0_; have HB := n1_; have BK680 := n2_; have GW680 := n3_; have GE680 := n4_; have NB679_680 := n5_; have NB680_679 := n6_; clear n0_ n1_ n2_ n3_ n4_ n5_ n6_; clear hb hbox hg; have hnb42 := NB679_680.out; have hnc42 := NB680_679.out; have hcz43_0 : w41.cell? ⟨gb679, 0, none⟩ = some (.bool false) := (blk_cell BK679.out 0).trans rfl; have hcz43_1 : w41.cell? ⟨gb679, 1, none⟩ = some (.slice A1_1 l1_1.length c1_1) := (blk_cell BK679.out 1).trans rfl; have hcz43_2 : w41.cell? ⟨gb679, 2, none⟩ = some (.slice A1_2 l1_2.length c1_2) := (blk_cell BK679.out 2).trans rfl; have hfz43_0 := blk_frozen BK679.out 0; have hfz43_1 := blk_frozen BK679.out 1; have hfz43_2 := blk_frozen BK679.out 2))
    go_ret
    exact ⟨by first | rfl | (simp [errW_none, errW_some] <;> rfl) | (simp [*, errW_none, errW_some] <;> rfl), by repeat (first | (with_reducible first | exact HB.out | apply below_alloc | apply pw_below_drewN | apply below_drew1 | refine below_set ?_ GE679.out | refine below_set ?_ GE680.out) | exact HB.out)⟩
end Go.Proofs.Ytgmjolngnhdafaa.P

end
section

namespace Go.Proofs.Ytgmjolngnhdafaa.P
open Go.RowKit Go.Proofs.YtgmjolngnhdafaaW.PrintWords Go.Proofs.YtgmjolngnhdafaaW.PrintLast Go.Proofs.YtgmjolngnhdafaaW.PrintMore
attribute [local go_sem] max2_int min2_int max_two min_two max_three min_three max_four min_four
set_option linter.unusedVariables false
set_option linter.unusedSimpArgs false
set_option maxHeartbeats 8000000 in
set_option maxRecDepth 100000 in
theorem impl_shapeIn.calls (k : Nat) (A0 : Option Addr) (c0 : Nat) (l0 : List (S38)) (a1_0 : Bool) (A1_1 : Option Addr) (c1_1 : Nat) (l1_1 : List Int) (A1_2 : Option Addr) (c1_2 : Nat) (l1_2 : List Int) (a2_0 : Bool) (A2_1 : Option Addr) (c2_1 : Nat) (l2_1 : List Int) (A2_2 : Option Addr) (c2_2 : Nat) (l2_2 : List Int) (r : Bool) (w : World) (hr0 : Kd.C k38 w A0 l0.length l0) (hc0 : l0.length ≤ c0) (hr1_1 : Kd.C (Kd.int .i64) w A1_1 l1_1.length l1_1) (hc1_1 : l1_1.length ≤ c1_1) (hr1_2 : Kd.C (Kd.int .i64) w A1_2 l1_2.length l1_2) (hc1_2 : l1_2.length ≤ c1_2) (hr2_1 : Kd.C (Kd.int .i64) w A2_1 l2_1.length l2_1) (hc2_1 : l2_1.length ≤ c2_1) (hr2_2 : Kd.C (Kd.int .i64) w A2_2 l2_2.length l2_2) (hc2_2 : l2_2.length ≤ c2_2) (h : impl_shapeIn.f k l0 a1_0 l1_1 l1_2 a2_0 l2_1 l2_2 = some r) :
    Calls Try.prog 85 #[.slice A0 l0.length c0, .agg #[.bool a1_0, .slice A1_1 l1_1.length c1_1, .slice A1_2 l1_2.length c1_2], .agg #[.bool a2_0, .slice A2_1 l2_1.length c2_1, .slice A2_2 l2_2.length c2_2]] w fun e w' => e = .returned (.bool r) ∧ Below w.heap.size w w' := by
  have hu52 := Try.underlying52
  have HR0 := Aside0.mk hr0
  have HC0 := Aside0.mk hc0
  clear hr0 hc0
  have HR1_1 := Aside0.mk hr1_1
  have HC1_1 := Aside0.mk hc1_1
  clear hr1_1 hc1_1
  have HR1_2 := Aside0.mk hr1_2
  have HC1_2 := Aside0.mk hc1_2
  clear hr1_2 hc1_2
  have HR2_1 := Aside0.mk hr2_1
  have HC2_1 := Aside0.mk hc2_1
  clear hr2_1 hc2_1
  have HR2_2 := Aside0.mk hr2_2
  have HC2_2 := Aside0.mk hc2_2
  clear hr2_2 hc2_2
  have HB := Aside0.mk (Below.refl w.heap.size w)
  have H : ((impl_shapeFit.f k l0 a1_0 l1_1 l1_2 a2_0 l2_1 l2_2).bind fun t685 => (if t685 = true then (impl_shapeIn.l0 k l0 l1_1 (l1_1.length : Int) 0 a1_0 l1_1 l1_2 a2_0 l2_1 l2_2) else (some false))) = some r := h
  clear h
  replace H := Option.bind_eq_some_iff.mp H
  obtain ⟨t685, A40, H⟩ := H
  replace H : (if t685 = true then (impl_shapeIn.l0 k l0 l1_1 (l1_1.length : Int) 0 a1_0 l1_1 l1_2 a2_0 l2_1 l2_2) else (some false)) = some r := H
  have A4 := Aside0.mk A40
  clear A40
  by_cases c5 : t685 = true
  · subst c5
    have H1 : (impl_shapeIn.l0 k l0 l1_1 (l1_1.length : Int) 0 a1_0 l1_1 l1_2 a2_0 l2_1 l2_2) = some r := by rw [if_pos rfl] at H; exact H
    clear H
    have H := H1
    clear H1
    have H' := Aside0.mk H
    clear H
    go_enter Try.func85, Try.ntmps85
    go_wp2_with (first | ((with_reducible refine gate_dst (N := 4) rfl ?_); refine box_event ?hg (N := 4) ?hd (cs := #[.bool a1_0, .slice A1_1 l1_1.length c1_1, .slice A1_2 l1_2.length c1_2]) (t := 52) ?hr ?_; (case hd => rfl); (case hg => rfl); (case hr => first | (go_simp; done) | (go_simp; rfl)); intro gb683 hg w6 hbox hb; have n0_ := Aside0.mk (below_step (by repeat (first | (with_reducible first | exact HB.out | apply below_alloc | apply pw_below_drewN | apply below_drew1) | exact HB.out)) hb); have n1_ := Aside0.mk (hbox); have n2_ := Aside0.mk ((by rw [hg]; exact (below_size (by repeat (first | (with_reducible first | exact HB.out | apply below_alloc | apply pw_below_drewN | apply below_drew1) | exact HB.out))) : w.heap.size ≤ gb683)); have n3_ := Aside0.mk ((by rw [hg]; exact (below_size (by repeat (first | (with_reducible first | exact HB.out | apply below_alloc | apply pw_below_drewN | apply below_drew1) | exact HB.out))) : w.heap.size ≤ gb683)); clear HB; have HB := n0_; have BK683 := n1_; have GW683 := n2_; have GE683 := n3_; clear n0_ n1_ n2_ n3_; clear hb hbox hg) | ((with_reducible refine gate_dst (N := 5) rfl ?_); refine box_event ?hg (N := 5) ?hd (cs := #[.bool a2_0, .slice A2_1 l2_1.length c2_1, .slice A2_2 l2_2.length c2_2]) (t := 52) ?hr ?_; (case hd => rfl); (case hg => rfl); (case hr => first | (go_simp; done) | (go_simp; rfl)); intro gb684 hg w7 hbox hb; have n0_ := Aside0.mk (blk_below (g := gb683) (o := .cells #[.bool a1_0, .slice A1_1 l1_1.length c1_1, .slice A1_2 l1_2.length c1_2] 52 (0, 0)) (by (with_reducible repeat (first | refine blk_drewN ?_ _ | refine blk_drew ?_ | refine blk_alloc ?_ _)); exact BK683.out) hb); have n1_ := Aside0.mk (below_step (by repeat (first | (with_reducible first | exact HB.out | apply below_alloc | apply pw_below_drewN | apply below_drew1 | refine below_set ?_ GE683.out) | exact HB.out)) hb); have n2_ := Aside0.mk (hbox); have n3_ := Aside0.mk ((by rw [hg]; exact (below_size (by repeat (first | (with_reducible first | exact HB.out | apply below_alloc | apply pw_below_drewN | apply below_drew1 | refine below_set ?_ GE683.out) | exact HB.out))) : w.heap.size ≤ gb684)); have n4_ := Aside0.mk ((by rw [hg]; exact (below_size (by repeat (first | (with_reducible first | exact HB.out | apply below_alloc | apply pw_below_drewN | apply below_drew1 | refine below_set ?_ GE683.out) | exact HB.out))) : w.heap.size ≤ gb684)); have n5_ := Aside0.mk ((by rw [hg]; exact Nat.ne_of_lt (blk_lt (g := gb683) (o := .cells #[.bool a1_0, .slice A1_1 l1_1.length c1_1, .slice A1_2 l1_2.length c1_2] 52 (0, 0)) (by (with_reducible repeat (first | refine blk_drewN ?_ _ | refine blk_drew ?_ | refine blk_alloc ?_ _)); exact BK683.out)) : gb683 ≠ gb684)); have n6_ := Aside0.mk ((by rw [hg]; exact Nat.ne_of_gt (blk_lt (g := gb683) (o := .cells #[.bool a1_0, .slice A1_1 l1_1.length c1_1, .slice A1_2 l1_2.length c1_2] 52 (0, 0)) (by (with_reducible repeat (first | refine blk_drewN ?_ _ | refine blk_drew ?_ | refine blk_alloc ?_ _)); exact BK683.out)) : gb684 ≠ gb683)); clear BK683; clear HB; have BK683 := n0_; have HB := n1_; have BK684 := n2_; have GW684 := n3_; have GE684 := n4_; have NB683_684 := n5_; have NB684_683 := n6_; clear n0_ n1_ n2_ n3_ n4_ n5_ n6_; clear hb hbox hg; have hnb8 := NB683_684.out; have hnc8 := NB684_683.out; have hcz9_0 : w7.cell? ⟨gb683, 0, none⟩ = some (.bool a1_0) := (blk_cell BK683.out 0).trans rfl; have hcz9_1 : w7.cell? ⟨gb683, 1, none⟩ = some (.slice A1_1 l1_1.length c1_1) := (blk_cell BK683.out 1).trans rfl; have hcz9_2 : w7.cell? ⟨gb683, 2, none⟩ = some (.slice A1_2 l1_2.length c1_2) := (blk_cell BK683.out 2).trans rfl; have hfz9_0 := blk_frozen BK683.out 0; have hfz9_1 := blk_frozen BK683.out 1; have hfz9_2 := blk_frozen BK683.out 2; have hcz10_0 : w7.cell? ⟨gb684, 0, none⟩ = some (.bool a2_0) := (blk_cell BK684.out 0).trans rfl; have hcz10_1 : w7.cell? ⟨gb684, 1, none⟩ = some (.slice A2_1 l2_1.length c2_1) := (blk_cell BK684.out 1).trans rfl; have hcz10_2 : w7.cell? ⟨gb684, 2, none⟩ = some (.slice A2_2 l2_2.length c2_2) := (blk_cell BK684.out 2).trans rfl; have hfz10_0 := blk_frozen BK684.out 0; have hfz10_1 := blk_frozen BK684.out 1; have hfz10_2 := blk_frozen BK684.out 2) | ((with_reducible refine gate_callee (f := 93) rfl ?_); refine goesL_ (some 14) rfl rfl Try.func93 (by kernel_rfl) rfl #[.slice A0 l0.length c0, .agg #[.bool a1_0, .slice A1_1 l1_1.length c1_1, .slice A1_2 l1_2.length c1_2], .agg #[.bool a2_0, .slice A2_1 l2_1.length c2_1, .slice A2_2 l2_2.length c2_2]] rfl (by (try simp only [List.map_toArray, List.map_cons, List.map_nil]); first | done | rfl | (simp only [List.length_drop, List.length_take]; rfl)) ?_; (with_reducible refine (impl_shapeFit.calls k _ _ l0 a1_0 _ _ l1_1 _ _ l1_2 a2_0 _ _ l2_1 _ _ l2_2 true _ ?side1 ?side2 ?side3 ?side4 ?side5 ?side6 ?side7 ?side8 ?side9 ?side10 A4.out).mono ?_); (case side1 => repeat (first | exact (Kd.C_below HR0.out HB.out) | (with_reducible refine Kd.C_alloc ?_ _) | (with_reducible refine Kd.C_drewN ?_ _) | (with_reducible refine Kd.C_drew ?_))); (case side2 => exact HC0.out); (case side3 => repeat (first | exact (Kd.C_below HR1_1.out HB.out) | (with_reducible refine Kd.C_alloc ?_ _) | (with_reducible refine Kd.C_drewN ?_ _) | (with_reducible refine Kd.C_drew ?_))); (case side4 => exact HC1_1.out); (case side5 => repeat (first | exact (Kd.C_below HR1_2.out HB.out) | (with_reducible refine Kd.C_alloc ?_ _) | (with_reducible refine Kd.C_drewN ?_ _) | (with_reducible refine Kd.C_drew ?_))); (case side6 => exact HC1_2.out); (case side7 => repeat (first | exact (Kd.C_below HR2_1.out HB.out) | (with_reducible refine Kd.C_alloc ?_ _) | (with_reducible refine Kd.C_drewN ?_ _) | (with_reducible refine Kd.C_drew ?_))); (case side8 => exact HC2_1.out); (case side9 => repeat (first | exact (Kd.C_below HR2_2.out HB.out) | (with_reducible refine Kd.C_alloc ?_ _) | (with_reducible refine Kd.C_drewN ?_ _) | (with_reducible refine Kd.C_drew ?_))); (case side10 => exact HC2_2.out); rintro e w11 ⟨rfl, hb⟩; refine ⟨_, rfl, ?_⟩; have n0_ := Aside0.mk (blk_below (g := gb683) (o := .cells #[.bool a1_0, .slice A1_1 l1_1.length c1_1, .slice A1_2 l1_2.length c1_2] 52 (0, 0)) (by (with_reducible repeat (first | refine blk_drewN ?_ _ | refine blk_drew ?_ | refine blk_alloc ?_ _)); exact BK683.out) hb); have n1_ := Aside0.mk (blk_below (g := gb684) (o := .cells #[.bool a2_0, .slice A2_1 l2_1.length c2_1, .slice A2_2 l2_2.length c2_2] 52 (0, 0)) (by (with_reducible repeat (first | refine blk_drewN ?_ _ | refine blk_drew ?_ | refine blk_alloc ?_ _)); exact BK684.out) hb); have n2_ := Aside0.mk (below_step (by repeat (first | (with_reducible first | exact HB.out | apply below_alloc | apply pw_below_drewN | apply below_drew1 | refine below_set ?_ GE683.out | refine below_set ?_ GE684.out) | exact HB.out)) hb); clear BK683; clear BK684; clear HB; have BK683 := n0_; have BK684 := n1_; have HB := n2_; clear n0_ n1_ n2_; (try clear hb); (try clear hb2); (try clear hk); (try clear hi); have hcz12_0 : w11.cell? ⟨gb683, 0, none⟩ = some (.bool a1_0) := (blk_cell BK683.out 0).trans rfl; have hcz12_1 : w11.cell? ⟨gb683, 1, none⟩ = some (.slice A1_1 l1_1.length c1_1) := (blk_cell BK683.out 1).trans rfl; have hcz12_2 : w11.cell? ⟨gb683, 2, none⟩ = some (.slice A1_2 l1_2.length c1_2) := (blk_cell BK683.out 2).trans rfl; have hfz12_0 := blk_frozen BK683.out 0; have hfz12_1 := blk_frozen BK683.out 1; have hfz12_2 := blk_frozen BK683.out 2))
    go_loopg [19] k (fun kq v19 w' => ∃ (x19_1 : Int), v19 = .int .i64 x19_1 ∧ Aside0 (impl_shapeIn.l0 kq l0 l1_1 (l1_1.length : Int) x19_1 a1_0 l1_1 l1_2 a2_0 l2_1 l2_2 = some r) ∧ Aside0 (kq ≤ k) ∧ Aside0 (w'.heap[gb683]? = some (.cells #[.bool a1_0, (.slice A1_1 l1_1.length c1_1), (.slice A1_2 l1_2.length c1_2)] 52 (0, 0))) ∧ Aside0 (w'.heap[gb684]? = some (.cells #[.bool a2_0, (.slice A2_1 l2_1.length c2_1), (.slice A2_2 l2_2.length c2_2)] 52 (0, 0))) ∧ Aside0 (Below w.heap.size w w'))
    case atStart => exact ⟨(0), (by first | rfl | (simp; done) | (simp [*]; done)), H', ⟨Nat.le_refl _⟩, ⟨by (with_reducible repeat (first | refine blk_drewN ?_ _ | refine blk_drew ?_ | refine blk_alloc ?_ _)); exact BK683.out⟩, ⟨by (with_reducible repeat (first | refine blk_drewN ?_ _ | refine blk_drew ?_ | refine blk_alloc ?_ _)); exact BK684.out⟩, ⟨by repeat (first | (with_reducible first | exact HB.out | apply below_alloc | apply pw_below_drewN | apply below_drew1 | refine below_set ?_ GE683.out | refine below_set ?_ GE684.out) | exact HB.out)⟩⟩
    case round =>
      clear H'
      try clear c1
      try clear c2
      try clear p2
      try clear c5
      try clear c8
      try clear c9
      try clear hcz10_0
      try clear hcz10_1
      try clear hcz10_2
      try clear hcz12_0
      try clear hcz12_1
      try clear hcz12_2
      try clear hcz9_0
      try clear hcz9_1
      try clear hcz9_2
      try clear hfz10_0
      try clear hfz10_1
      try clear hfz10_2
      try clear hfz12_0
      try clear hfz12_1
      try clear hfz12_2
      try clear hfz9_0
      try clear hfz9_1
      try clear hfz9_2
      obtain ⟨x19_1, rfl, HA, HK1, BK683, BK684, HB⟩ := hrel
      cases gk with
      | zero => exact absurd HA.out (by simp [impl_shapeIn.l0])
      | succ k1 =>
        have H := HA.out
        clear HA
        simp only [impl_shapeIn.l0] at H
        by_cases c13 : x19_1 < (l1_1.length : Int)
        · rw [if_pos c13] at H
          have c13b0 : decide (x19_1 < (l1_1.length : Int)) = true := decide_eq_true c13
          clear c13
          by_cases c14 : 0 ≤ x19_1
          · rw [if_pos c14] at H
            have c14b0 : decide (0 ≤ x19_1) = true := decide_eq_true c14
            clear c14
            by_cases c15 : x19_1 < (l1_1.length : Int)
            · rw [if_pos c15] at H
              have c15b0 : decide (x19_1 < (l1_1.length : Int)) = true := decide_eq_true c15
              clear c15
              by_cases c16 : x19_1 < (l2_1.length : Int)
              · rw [if_pos c16] at H
                have c16b0 : decide (x19_1 < (l2_1.length : Int)) = true := decide_eq_true c16
                clear c16
                replace H := Option.bind_eq_some_iff.mp H
                obtain ⟨t688, A170, H⟩ := H
                replace H : (if t688 = true then (impl_shapeIn.l0 k1 l0 l1_1 (l1_1.length : Int) (wrap64 (x19_1 + 1)) a1_0 l1_1 l1_2 a2_0 l2_1 l2_2) else (some false)) = some r := H
                have A17 := Aside0.mk A170
                clear A170
                by_cases c18 : t688 = true
                · subst c18
                  have H1 : (impl_shapeIn.l0 k1 l0 l1_1 (l1_1.length : Int) (wrap64 (x19_1 + 1)) a1_0 l1_1 l1_2 a2_0 l2_1 l2_2) = some r := by rw [if_pos rfl] at H; exact H
                  clear H
                  have H := H1
                  clear H1
                  have H' := Aside0.mk H
                  clear H
                  have p686 : 0 ≤ (x19_1 : Int) := of_decide_eq_true (by first | (with_reducible assumption) | assumption)
                  have q686 : x19_1 < (l1_1.length : Int) := of_decide_eq_true (by first | (with_reducible assumption) | assumption)
                  obtain ⟨ad686, e686, hx686_0⟩ := Kd.at_int HR1_1.out x19_1 p686 q686
                  cases e686
                  replace hx686_0 := (HB.out.cell (World.block_lt_of_cell? w _ hx686_0)).trans hx686_0
                  replace p686 := eq_true p686
                  replace q686 := eq_true q686
                  have hnb19 := NB684_683.out
                  have hnc19 := NB683_684.out
                  have hcz20_0 : wr.cell? ⟨gb684, 0, none⟩ = some (.bool a2_0) := (blk_cell BK684.out 0).trans rfl
                  have hcz20_1 : wr.cell? ⟨gb684, 1, none⟩ = some (.slice A2_1 l2_1.length c2_1) := (blk_cell BK684.out 1).trans rfl
                  have hcz20_2 : wr.cell? ⟨gb684, 2, none⟩ = some (.slice A2_2 l2_2.length c2_2) := (blk_cell BK684.out 2).trans rfl
                  have hfz20_0 := blk_frozen BK684.out 0
                  have hfz20_1 := blk_frozen BK684.out 1
                  have hfz20_2 := blk_frozen BK684.out 2
                  have p687 : 0 ≤ (x19_1 : Int) := of_decide_eq_true (by first | (with_reducible assumption) | assumption)
                  have q687 : x19_1 < (l2_1.length : Int) := of_decide_eq_true (by first | (with_reducible assumption) | assumption)
                  obtain ⟨ad687, e687, hx687_0⟩ := Kd.at_int HR2_1.out x19_1 p687 q687
                  cases e687
                  replace hx687_0 := (HB.out.cell (World.block_lt_of_cell? w _ hx687_0)).trans hx687_0
                  replace p687 := eq_true p687
                  replace q687 := eq_true q687
                  go_wp2_with (first | ((with_reducible refine gate_callee (f := 72) rfl ?_); refine goesL_ (some 31) rfl rfl Try.func72 (by kernel_rfl) rfl #[.slice A0 l0.length c0, .int .i64 (rd l1_1 x19_1), .int .i64 (rd l2_1 x19_1)] rfl (by (try simp only [List.map_toArray, List.map_cons, List.map_nil]); first | done | rfl | (simp only [List.length_drop, List.length_take]; rfl)) ?_; (with_reducible refine (impl_typeIn.calls k1 _ _ l0 (rd l1_1 x19_1) (rd l2_1 x19_1) true _ ?side1 ?side2 A17.out).mono ?_); (case side1 => repeat (first | exact (Kd.C_below HR0.out HB.out) | (with_reducible refine Kd.C_alloc ?_ _) | (with_reducible refine Kd.C_drewN ?_ _) | (with_reducible refine Kd.C_drew ?_))); (case side2 => exact HC0.out); rintro e w21 ⟨rfl, hb⟩; refine ⟨_, rfl, ?_⟩; have n0_ := Aside0.mk (blk_below (g := gb683) (o := .cells #[.bool a1_0, .slice (some ad686) l1_1.length c1_1, .slice A1_2 l1_2.length c1_2] 52 (0, 0)) (by (with_reducible repeat (first | refine blk_drewN ?_ _ | refine blk_drew ?_ | refine blk_alloc ?_ _)); exact BK683.out) hb); have n1_ := Aside0.mk (blk_below (g := gb684) (o := .cells #[.bool a2_0, .slice (some ad687) l2_1.length c2_1, .slice A2_2 l2_2.length c2_2] 52 (0, 0)) (by (with_reducible repeat (first | refine blk_drewN ?_ _ | refine blk_drew ?_ | refine blk_alloc ?_ _)); exact BK684.out) hb); have n2_ := Aside0.mk (below_step (by repeat (first | (with_reducible first | exact HB.out | apply below_alloc | apply pw_below_drewN | apply below_drew1 | refine below_set ?_ GE683.out | refine below_set ?_ GE684.out) | exact HB.out)) hb); clear BK683; clear BK684; clear HB; have BK683 := n0_; have BK684 := n1_; have HB := n2_; clear n0_ n1_ n2_; (try clear hb); (try clear hb2); (try clear hk); (try clear hi)))
                  go_roundg k1
                  case measure => have := HK1.out; omega
                  case rel => exact ⟨(wrap64 (x19_1 + 1)), (by first | rfl | (simp; done) | (simp [*]; done)), H', ⟨by have := HK1.out; omega⟩, ⟨by (with_reducible repeat (first | refine blk_drewN ?_ _ | refine blk_drew ?_ | refine blk_alloc ?_ _)); exact BK683.out⟩, ⟨by (with_reducible repeat (first | refine blk_drewN ?_ _ | refine blk_drew ?_ | refine blk_alloc ?_ _)); exact BK684.out⟩, ⟨by repeat (first | (with_reducible first | exact HB.out | apply below_alloc | apply pw_below_drewN | apply below_drew1 | refine below_set ?_ GE683.out | refine below_set ?_ GE684.out) | exact HB.out)⟩⟩
                · replace c18 := Bool.eq_false_iff.mpr c18
                  subst c18
                  have H1 : (some false) = some r := by rw [if_neg (show ¬ (false = true) by decide)] at H; exact H
                  clear H
                  have H := H1
                  clear H1
                  obtain rfl := Option.some.inj H
                  simp only [Option.some.injEq, Prod.mk.injEq] at H
                  obtain ⟨rfl⟩ := H
                  have p686 : 0 ≤ (x19_1 : Int) := of_decide_eq_true (by first | (with_reducible assumption) | assumption)
                  have q686 : x19_1 < (l1_1.length : Int) := of_decide_eq_true (by first | (with_reducible assumption) | assumption)
                  obtain ⟨ad686, e686, hx686_0⟩ := Kd.at_int HR1_1.out x19_1 p686 q686
                  cases e686
                  replace hx686_0 := (HB.out.cell (World.block_lt_of_cell? w _ hx686_0)).trans hx686_0
                  replace p686 := eq_true p686
                  replace q686 := eq_true q686
                  have hnb22 := NB684_683.out
                  have hnc22 := NB683_684.out
                  have hcz23_0 : wr.cell? ⟨gb684, 0, none⟩ = some (.bool a2_0) := (blk_cell BK684.out 0).trans rfl
                  have hcz23_1 : wr.cell? ⟨gb684, 1, none⟩ = some (.slice A2_1 l2_1.length c2_1) := (blk_cell BK684.out 1).trans rfl
                  have hcz23_2 : wr.cell? ⟨gb684, 2, none⟩ = some (.slice A2_2 l2_2.length c2_2) := (blk_cell BK684.out 2).trans rfl
                  have hfz23_0 := blk_frozen BK684.out 0
                  have hfz23_1 := blk_frozen BK684.out 1
                  have hfz23_2 := blk_frozen BK684.out 2
                  have p687 : 0 ≤ (x19_1 : Int) := of_decide_eq_true (by first | (with_reducible assumption) | assumption)
                  have q687 : x19_1 < (l2_1.length : Int) := of_decide_eq_true (by first | (with_reducible assumption) | assumption)
                  obtain ⟨ad687, e687, hx687_0⟩ := Kd.at_int HR2_1.out x19_1 p687 q687
                  cases e687
                  replace hx687_0 := (HB.out.cell (World.block_lt_of_cell? w _ hx687_0)).trans hx687_0
                  replace p687 := eq_true p687
                  replace q687 := eq_true q687
                  go_wp2_with (first | ((with_reducible refine gate_callee (f := 72) rfl ?_); refine goesL_ (some 31) rfl rfl Try.func72 (by kernel_rfl) rfl #[.slice A0 l0.length c0, .int .i64 (rd l1_1 x19_1), .int .i64 (rd l2_1 x19_1)] rfl (by (try simp only [List.map_toArray, List.map_cons, List.map_nil]); first | done | rfl | (simp only [List.length_drop, List.length_take]; rfl)) ?_; (with_reducible refine (impl_typeIn.calls k1 _ _ l0 (rd l1_1 x19_1) (rd l2_1 x19_1) false _ ?side1 ?side2 A17.out).mono ?_); (case side1 => repeat (first | exact (Kd.C_below HR0.out HB.out) | (with_reducible refine Kd.C_alloc ?_ _) | (with_reducible refine Kd.C_drewN ?_ _) | (with_reducible refine Kd.C_drew ?_))); (case side2 => exact HC0.out); rintro e w24 ⟨rfl, hb⟩; refine ⟨_, rfl, ?_⟩; have n0_ := Aside0.mk (blk_below (g := gb683) (o := .cells #[.bool a1_0, .slice (some ad686) l1_1.length c1_1, .slice A1_2 l1_2.length c1_2] 52 (0, 0)) (by (with_reducible repeat (first | refine blk_drewN ?_ _ | refine blk_drew ?_ | refine blk_alloc ?_ _)); exact BK683.out) hb); have n1_ := Aside0.mk (blk_below (g := gb684) (o := .cells #[.bool a2_0, .slice (some ad687) l2_1.length c2_1, .slice A2_2 l2_2.length c2_2] 52 (0, 0)) (by (with_reducible repeat (first | refine blk_drewN ?_ _ | refine blk_drew ?_ | refine blk_alloc ?_ _)); exact BK684.out) hb); have n2_ := Aside0.mk (below_step (by repeat (first | (with_reducible first | exact HB.out | apply below_alloc | apply pw_below_drewN | apply below_drew1 | refine below_set ?_ GE683.out | refine below_set ?_ GE684.out) | exact HB.out)) hb); clear BK683; clear BK684; clear HB; have BK683 := n0_; have BK684 := n1_; have HB := n2_; clear n0_ n1_ n2_; (try clear hb); (try clear hb2); (try clear hk); (try clear hi)))
                  go_ret
                  exact ⟨by first | rfl | (simp [errW_none, errW_some] <;> rfl) | (simp [*, errW_none, errW_some] <;> rfl), by repeat (first | (with_reducible first | exact HB.out | apply below_alloc | apply pw_below_drewN | apply below_drew1 | refine below_set ?_ GE683.out | refine below_set ?_ GE684.out) | exact HB.out)⟩
              · rw [if_neg c16] at H
                exact absurd H (by simp)
            · rw [if_neg c15] at H
              exact absurd H (by simp)
          · rw [if_neg c14] at H
            exact absurd H (by simp)
        · rw [if_neg c13] at H
          have c13b0 : decide (x19_1 < (l1_1.length : Int)) = false := decide_eq_false c13
          clear c13
          have H' := Aside0.mk H
          clear H
          have hnb25 := NB683_684.out
          have hnc25 := NB684_683.out
          have hcz26_0 : wr.cell? ⟨gb683, 0, none⟩ = some (.bool a1_0) := (blk_cell BK683.out 0).trans rfl
          have hcz26_1 : wr.cell? ⟨gb683, 1, none⟩ = some (.slice A1_1 l1_1.length c1_1) := (blk_cell BK683.out 1).trans rfl
          have hcz26_2 : wr.cell? ⟨gb683, 2, none⟩ = some (.slice A1_2 l1_2.length c1_2) := (blk_cell BK683.out 2).trans rfl
          have hfz26_0 := blk_frozen BK683.out 0
          have hfz26_1 := blk_frozen BK683.out 1
          have hfz26_2 := blk_frozen BK683.out 2
          go_wp2
          go_loopg [37] k1 (fun kq v37 w' => ∃ (x37_2 : Int), v37 = .int .i64 x37_2 ∧ Aside0 (impl_shapeIn.l1 kq l0 l1_2 (l1_2.length : Int) x37_2 a2_0 l2_1 l2_2 = some r) ∧ Aside0 (kq ≤ k1) ∧ Aside0 (w'.heap[gb683]? = some (.cells #[.bool a1_0, (.slice A1_1 l1_1.length c1_1), (.slice A1_2 l1_2.length c1_2)] 52 (0, 0))) ∧ Aside0 (w'.heap[gb684]? = some (.cells #[.bool a2_0, (.slice A2_1 l2_1.length c2_1), (.slice A2_2 l2_2.length c2_2)] 52 (0, 0))) ∧ Aside0 (Below w.heap.size w w'))
          case atStart => exact ⟨(0), (by first | rfl | (simp; done) | (simp [*]; done)), H', ⟨Nat.le_refl _⟩, ⟨by (with_reducible repeat (first | refine blk_drewN ?_ _ | refine blk_drew ?_ | refine blk_alloc ?_ _)); exact BK683.out⟩, ⟨by (with_reducible repeat (first | refine blk_drewN ?_ _ | refine blk_drew ?_ | refine blk_alloc ?_ _)); exact BK684.out⟩, ⟨by repeat (first | (with_reducible first | exact HB.out | apply below_alloc | apply pw_below_drewN | apply below_drew1 | refine below_set ?_ GE683.out | refine below_set ?_ GE684.out) | exact HB.out)⟩⟩
          case round =>
            clear H'
            try clear c1
            try clear c2
            try clear p2
            try clear c5
            try clear p6
            try clear q6
            try clear hx6
            try clear c7
            try clear c8
            try clear c9
            try clear c13
            try clear c13b0
            try clear c14
            try clear c14b0
            try clear c15
            try clear c15b0
            try clear c16
            try clear c16b0
            try clear c18
            try clear c19
            try clear c22
            try clear c25
            try clear hcz10_0
            try clear hcz10_1
            try clear hcz10_2
            try clear hcz12_0
            try clear hcz12_1
            try clear hcz12_2
            try clear hcz20_0
            try clear hcz20_1
            try clear hcz20_2
            try clear hcz23_0
            try clear hcz23_1
            try clear hcz23_2
            try clear hcz26_0
            try clear hcz26_1
            try clear hcz26_2
            try clear hcz9_0
            try clear hcz9_1
            try clear hcz9_2
            try clear hfz10_0
            try clear hfz10_1
            try clear hfz10_2
            try clear hfz12_0
            try clear hfz12_1
            try clear hfz12_2
            try clear hfz20_0
            try clear hfz20_1
            try clear hfz20_2
            try clear hfz23_0
            try clear hfz23_1
            try clear hfz23_2
            try clear hfz26_0
            try clear hfz26_1
            try clear hfz26_2
            try clear hfz9_0
            try clear hfz9_1
            try clear hfz9_2
            try clear hx686_0
            try clear hx687_0
            try clear p2
            try clear p686
            try clear p687
            try clear q686
            try clear q687
            obtain ⟨x37_2, rfl, HA, HK2, BK683, BK684, HB⟩ := hrel
            cases gk with
            | zero => exact absurd HA.out (by simp [impl_shapeIn.l1])
            | succ k2 =>
              have H := HA.out
              clear HA
              simp only [impl_shapeIn.l1] at H
              by_cases c27 : x37_2 < (l1_2.length : Int)
              · rw [if_pos c27] at H
                have c27b0 : decide (x37_2 < (l1_2.length : Int)) = true := decide_eq_true c27
                clear c27
                by_cases c28 : 0 ≤ x37_2
                · rw [if_pos c28] at H
                  have c28b0 : decide (0 ≤ x37_2) = true := decide_eq_true c28
                  clear c28
                  by_cases c29 : x37_2 < (l1_2.length : Int)
                  · rw [if_pos c29] at H
                    have c29b0 : decide (x37_2 < (l1_2.length : Int)) = true := decide_eq_true c29
                    clear c29
                    by_cases c30 : x37_2 < (l2_2.length : Int)
                    · rw [if_pos c30] at H
                      have c30b0 : decide (x37_2 < (l2_2.length : Int)) = true := decide_eq_true c30
                      clear c30
                      replace H := Option.bind_eq_some_iff.mp H
                      obtain ⟨t691, A310, H⟩ := H
                      replace H : (if t691 = true then (impl_shapeIn.l1 k2 l0 l1_2 (l1_2.length : Int) (wrap64 (x37_2 + 1)) a2_0 l2_1 l2_2) else (some false)) = some r := H
                      have A31 := Aside0.mk A310
                      clear A310
                      by_cases c32 : t691 = true
                      · subst c32
                        have H1 : (impl_shapeIn.l1 k2 l0 l1_2 (l1_2.length : Int) (wrap64 (x37_2 + 1)) a2_0 l2_1 l2_2) = some r := by rw [if_pos rfl] at H; exact H
                        clear H
                        have H := H1
                        clear H1
                        have H' := Aside0.mk H
                        clear H
                        have p689 : 0 ≤ (x37_2 : Int) := of_decide_eq_true (by first | (with_reducible assumption) | assumption)
                        have q689 : x37_2 < (l1_2.length : Int) := of_decide_eq_true (by first | (with_reducible assumption) | assumption)
                        obtain ⟨ad689, e689, hx689_0⟩ := Kd.at_int HR1_2.out x37_2 p689 q689
                        cases e689
                        replace hx689_0 := (HB.out.cell (World.block_lt_of_cell? w _ hx689_0)).trans hx689_0
                        replace p689 := eq_true p689
                        replace q689 := eq_true q689
                        have hnb33 := NB684_683.out
                        have hnc33 := NB683_684.out
                        have hcz34_0 : wr.cell? ⟨gb684, 0, none⟩ = some (.bool a2_0) := (blk_cell BK684.out 0).trans rfl
                        have hcz34_1 : wr.cell? ⟨gb684, 1, none⟩ = some (.slice A2_1 l2_1.length c2_1) := (blk_cell BK684.out 1).trans rfl
                        have hcz34_2 : wr.cell? ⟨gb684, 2, none⟩ = some (.slice A2_2 l2_2.length c2_2) := (blk_cell BK684.out 2).trans rfl
                        have hfz34_0 := blk_frozen BK684.out 0
                        have hfz34_1 := blk_frozen BK684.out 1
                        have hfz34_2 := blk_frozen BK684.out 2
                        have p690 : 0 ≤ (x37_2 : Int) := of_decide_eq_true (by first | (with_reducible assumption) | assumption)
                        have q690 : x37_2 < (l2_2.length : Int) := of_decide_eq_true (by first | (with_reducible assumption) | assumption)
                        obtain ⟨ad690, e690, hx690_0⟩ := Kd.at_int HR2_2.out x37_2 p690 q690
                        cases e690
                        replace hx690_0 := (HB.out.cell (World.block_lt_of_cell? w _ hx690_0)).trans hx690_0
                        replace p690 := eq_true p690
                        replace q690 := eq_true q690
                        go_wp2_with (first | ((with_reducible refine gate_callee (f := 72) rfl ?_); refine goesL_ (some 49) rfl rfl Try.func72 (by kernel_rfl) rfl #[.slice A0 l0.length c0, .int .i64 (rd l1_2 x37_2), .int .i64 (rd l2_2 x37_2)] rfl (by (try simp only [List.map_toArray, List.map_cons, List.map_nil]); first | done | rfl | (simp only [List.length_drop, List.length_take]; rfl)) ?_; (with_reducible refine (impl_typeIn.calls k2 _ _ l0 (rd l1_2 x37_2) (rd l2_2 x37_2) true _ ?side1 ?side2 A31.out).mono ?_); (case side1 => repeat (first | exact (Kd.C_below HR0.out HB.out) | (with_reducible refine Kd.C_alloc ?_ _) | (with_reducible refine Kd.C_drewN ?_ _) | (with_reducible refine Kd.C_drew ?_))); (case side2 => exact HC0.out); rintro e w35 ⟨rfl, hb⟩; refine ⟨_, rfl, ?_⟩; have n0_ := Aside0.mk (blk_below (g := gb683) (o := .cells #[.bool a1_0, .slice A1_1 l1_1.length c1_1, .slice (some ad689) l1_2.length c1_2] 52 (0, 0)) (by (with_reducible repeat (first | refine blk_drewN ?_ _ | refine blk_drew ?_ | refine blk_alloc ?_ _)); exact BK683.out) hb); have n1_ := Aside0.mk (blk_below (g := gb684) (o := .cells #[.bool a2_0, .slice A2_1 l2_1.length c2_1, .slice (some ad690) l2_2.length c2_2] 52 (0, 0)) (by (with_reducible repeat (first | refine blk_drewN ?_ _ | refine blk_drew ?_ | refine blk_alloc ?_ _)); exact BK684.out) hb); have n2_ := Aside0.mk (below_step (by repeat (first | (with_reducible first | exact HB.out | apply below_alloc | apply pw_below_drewN | apply below_drew1 | refine below_set ?_ GE683.out | refine below_set ?_ GE684.out) | exact HB.out)) hb); clear BK683; clear BK684; clear HB; have BK683 := n0_; have BK684 := n1_; have HB := n2_; clear n0_ n1_ n2_; (try clear hb); (try clear hb2); (try clear hk); (try clear hi)))
                        go_roundg k2
                        case measure => have := HK1.out; have := HK2.out; omega
                        case rel => exact ⟨(wrap64 (x37_2 + 1)), (by first | rfl | (simp; done) | (simp [*]; done)), H', ⟨by have := HK1.out; have := HK2.out; omega⟩, ⟨by (with_reducible repeat (first | refine blk_drewN ?_ _ | refine blk_drew ?_ | refine blk_alloc ?_ _)); exact BK683.out⟩, ⟨by (with_reducible repeat (first | refine blk_drewN ?_ _ | refine blk_drew ?_ | refine blk_alloc ?_ _)); exact BK684.out⟩, ⟨by repeat (first | (with_reducible first | exact HB.out | apply below_alloc | apply pw_below_drewN | apply below_drew1 | refine below_set ?_ GE683.out | refine below_set ?_ GE684.out) | exact HB.out)⟩⟩
                      · replace c32 := Bool.eq_false_iff.mpr c32
                        subst c32
                        have H1 : (some false) = some r := by rw [if_neg (show ¬ (false = true) by decide)] at H; exact H
                        clear H
                        have H := H1
                        clear H1
                        obtain rfl := Option.some.inj H
                        simp only [Option.some.injEq, Prod.mk.injEq] at H
                        obtain ⟨rfl⟩ := H
                        have p689 : 0 ≤ (x37_2 : Int) := of_decide_eq_true (by first | (with_reducible assumption) | assumption)
                        have q689 : x37_2 < (l1_2.length : Int) := of_decide_eq_true (by first | (with_reducible assumption) | assumption)
                        obtain ⟨ad689, e689, hx689_0⟩ := Kd.at_int HR1_2.out x37_2 p689 q689
                        cases e689
                        replace hx689_0 := (HB.out.cell (World.block_lt_of_cell? w _ hx689_0)).trans hx689_0
                        replace p689 := eq_true p689
                        replace q689 := eq_true q689
                        have hnb36 := NB684_683.out
                        have hnc36 := NB683_684.out
                        have hcz37_0 : wr.cell? ⟨gb684, 0, none⟩ = some (.bool a2_0) := (blk_cell BK684.out 0).trans rfl
                        have hcz37_1 : wr.cell? ⟨gb684, 1, none⟩ = some (.slice A2_1 l2_1.length c2_1) := (blk_cell BK684.out 1).trans rfl
                        have hcz37_2 : wr.cell? ⟨gb684, 2, none⟩ = some (.slice A2_2 l2_2.length c2_2) := (blk_cell BK684.out 2).trans rfl
                        have hfz37_0 := blk_frozen BK684.out 0
                        have hfz37_1 := blk_frozen BK684.out 1
                        have hfz37_2 := blk_frozen BK684.out 2
                        have p690 : 0 ≤ (x37_2 : Int) := of_decide_eq_true (by first | (with_reducible assumption) | assumption)
                        have q690 : x37_2 < (l2_2.length : Int) := of_decide_eq_true (by first | (with_reducible assumption) | assumption)
                        obtain ⟨ad690, e690, hx690_0⟩ := Kd.at_int HR2_2.out x37_2 p690 q690
                        cases e690
                        replace hx690_0 := (HB.out.cell (World.block_lt_of_cell? w _ hx690_0)).trans hx690_0
                        replace p690 := eq_true p690
                        replace q690 := eq_true q690
                        go_wp2_with (first | ((with_reducible refine gate_callee (f := 72) rfl ?_); refine goesL_ (some 49) rfl rfl Try.func72 (by kernel_rfl) rfl #[.slice A0 l0.length c0, .int .i64 (rd l1_2 x37_2), .int .i64 (rd l2_2 x37_2)] rfl (by (try simp only [List.map_toArray, List.map_cons, List.map_nil]); first | done | rfl | (simp only [List.length_drop, List.length_take]; rfl)) ?_; (with_reducible refine (impl_typeIn.calls k2 _ _ l0 (rd l1_2 x37_2) (rd l2_2 x37_2) false _ ?side1 ?side2 A31.out).mono ?_); (case side1 => repeat (first | exact (Kd.C_below HR0.out HB.out) | (with_reducible refine Kd.C_alloc ?_ _) | (with_reducible refine Kd.C_drewN ?_ _) | (with_reducible refine Kd.C_drew ?_))); (case side2 => exact HC0.out); rintro e w38 ⟨rfl, hb⟩; refine ⟨_, rfl, ?_⟩; have n0_ := Aside0.mk (blk_below (g := gb683) (o := .cells #[.bool a1_0, .slice A1_1 l1_1.length c1_1, .slice (some ad689) l1_2.length c1_2] 52 (0, 0)) (by (with_reducible repeat (first | refine blk_drewN ?_ _ | refine blk_drew ?_ | refine blk_alloc ?_ _)); exact BK683.out) hb); have n1_ := Aside0.mk (blk_below (g := gb684) (o := .cells #[.bool a2_0, .slice A2_1 l2_1.length c2_1, .slice (some ad690) l2_2.length c2_2] 52 (0, 0)) (by (with_reducible repeat (first | refine blk_drewN ?_ _ | refine blk_drew ?_ | refine blk_alloc ?_ _)); exact BK684.out) hb); have n2_ := Aside0.mk (below_step (by repeat (first | (with_reducible first | exact HB.out | apply below_alloc | apply pw_below_drewN | apply below_drew1 | refine below_set ?_ GE683.out | refine below_set ?_ GE684.out) | exact HB.out)) hb); clear BK683; clear BK684; clear HB; have BK683 := n0_; have BK684 := n1_; have HB := n2_; clear n0_ n1_ n2_; (try clear hb); (try clear hb2); (try clear hk); (try clear hi)))
                        go_ret
                        exact ⟨by first | rfl | (simp [errW_none, errW_some] <;> rfl) | (simp [*, errW_none, errW_some] <;> rfl), by repeat (first | (with_reducible first | exact HB.out | apply below_alloc | apply pw_below_drewN | apply below_drew1 | refine below_set ?_ GE683.out | refine below_set ?_ GE684.out) | exact HB.out)⟩
                    · rw [if_neg c30] at H
                      exact absurd H (by simp)
                  · rw [if_neg c29] at H
                    exact absurd H (by simp)
                · rw [if_neg c28] at H
                  exact absurd H (by simp)
              · rw [if_neg c27] at H
                have c27b0 : decide (x37_2 < (l1_2.length : Int)) = false := decide_eq_false c27
                clear c27
                obtain rfl := Option.some.inj H
                simp only [Option.some.injEq, Prod.mk.injEq] at H
                obtain ⟨rfl⟩ := H
                go_wp2
                go_ret
                exact ⟨by first | rfl | (simp [errW_none, errW_some] <;> rfl) | (simp [*, errW_none, errW_some] <;> rfl), by repeat (first | (with_reducible first | exact HB.out | apply below_alloc | apply pw_below_drewN | apply below_drew1 | refine below_set ?_ GE683.out | refine below_set ?_ GE684.out) | exact HB.out)⟩
  · replace c5 := Bool.eq_false_iff.mpr c5
    subst c5
    have H1 : (some false) = some r := by rw [if_neg (show ¬ (false = true) by decide)] at H; exact H
    clear H
    have H := H1
    clear H1
    obtain rfl := Option.some.inj H
    simp only [Option.some.injEq, Prod.mk.injEq] at H
    obtain ⟨rfl⟩ := H
    go_enter Try.func85, Try.ntmps85
    go_wp2_with (first | ((with_reducible refine gate_dst (N := 4) rfl ?_); refine box_event ?hg (N := 4) ?hd (cs := #[.bool a1_0, .slice A1_1 l1_1.length c1_1, .slice A1_2 l1_2.length c1_2]) (t := 52) ?hr ?_; (case hd => rfl); (case hg => rfl); (case hr => first | (go_simp; done) | (go_simp; rfl)); intro gb683 hg w39 hbox hb; have n0_ := Aside0.mk (below_step (by repeat (first | (with_reducible first | exact HB.out | apply below_alloc | apply pw_below_drewN | apply below_drew1) | exact HB.out)) hb); have n1_ := Aside0.mk (hbox); have n2_ := Aside0.mk ((by rw [hg]; exact (below_size (by repeat (first | (with_reducible first | exact HB.out | apply below_alloc | apply pw_below_drewN | apply below_drew1) | exact HB.out))) : w.heap.size ≤ gb683)); have n3_ := Aside0.mk ((by rw [hg]; exact (below_size (by repeat (first | (with_reducible first | exact HB.out | apply below_alloc | apply pw_below_drewN | apply below_drew1) | exact HB.out))) : w.heap.size ≤ gb683)); clear HB; have HB := n0_; have BK683 := n1_; have GW683 := n2_; have GE683 := n3_; clear n0_ n1_ n2_ n3_; clear hb hbox hg) | ((with_reducible refine gate_dst (N := 5) rfl ?_); refine box_event ?hg (N := 5) ?hd (cs := #[.bool a2_0, .slice A2_1 l2_1.length c2_1, .slice A2_2 l2_2.length c2_2]) (t := 52) ?hr ?_; (case hd => rfl); (case hg => rfl); (case hr => first | (go_simp; done) | (go_simp; rfl)); intro gb684 hg w40 hbox hb; have n0_ := Aside0.mk (blk_below (g := gb683) (o := .cells #[.bool a1_0, .slice A1_1 l1_1.length c1_1, .slice A1_2 l1_2.length c1_2] 52 (0, 0)) (by (with_reducible repeat (first | refine blk_drewN ?_ _ | refine blk_drew ?_ | refine blk_alloc ?_ _)); exact BK683.out) hb); have n1_ := Aside0.mk (below_step (by repeat (first | (with_reducible first | exact HB.out | apply below_alloc | apply pw_below_drewN | apply below_drew1 | refine below_set ?_ GE683.out) | exact HB.out)) hb); have n2_ := Aside0.mk (hbox); have n3_ := Aside0.mk ((by rw [hg]; exact (below_size (by repeat (first | (with_reducible first | exact HB.out | apply below_alloc | apply pw_below_drewN | apply below_drew1 | refine below_set ?_ GE683.out) | exact HB.out))) : w.heap.size ≤ gb684)); have n4_ := Aside0.mk ((by rw [hg]; exact (below_size (by repeat (first | (with_reducible first | exact HB.out | apply below_alloc | apply pw_below_drewN | apply below_drew1 | refine below_set ?_ GE683.out) | exact HB.out))) : w.heap.size ≤ gb684)); have n5_ := Aside0.mk ((by rw [hg]; exact Nat.ne_of_lt (blk_lt (g := gb683) (o := .cells #[.bool a1_0, .slice A1_1 l1_1.length c1_1, .slice A1_2 l1_2.length c1_2] 52 (0, 0)) (by (with_reducible repeat (first | refine blk_drewN ?_ _ | refine blk_drew ?_ | refine blk_alloc ?_ _)); exact BK683.out)) : gb683 ≠ gb684)); have n6_ := Aside0.mk ((by rw [hg]; exact Nat.ne_of_gt (blk_lt (g := gb683) (o := .cells #[.bool a1_0, .slice A1_1 l1_1.length c1_1, .slice A1_2 l1_2.length c1_2] 52 (0, 0)) (by (with_reducible repeat (first | refine blk_drewN ?_ _ | refine blk_drew ?_ | refine blk_alloc ?_ _)); exact BK683.out)) : gb684 ≠ gb683)); clear BK683; clear HB; have BK683 := n0_; have HB := n1_; have BK684 := n2_; have GW684 := n3_; have GE684 := n4_; have NB683_684 := n5_; have NB684_683 := n6_; clear n0_ n1_ n2_ n3_ n4_ n5_ n6_; clear hb hbox hg; have hnb41 := NB683_684.out; have hnc41 := NB684_683.out; have hcz42_0 : w40.cell? ⟨gb683, 0, none⟩ = some (.bool a1_0) := (blk_cell BK683.out 0).trans rfl; have hcz42_1 : w40.cell? ⟨gb683, 1, none⟩ = some (.slice A1_1 l1_1.length c1_1) := (blk_cell BK683.out 1).trans rfl; have hcz42_2 : w40.cell? ⟨gb683, 2, none⟩ = some (.slice A1_2 l1_2.length c1_2) := (blk_cell BK683.out 2).trans rfl; have hfz42_0 := blk_frozen BK683.out 0; have hfz42_1 := blk_frozen BK683.out 1; have hfz42_2 := blk_frozen BK683.out 2; have hcz43_0 : w40.cell? ⟨gb684, 0, none⟩ = some (.bool a2_0) := (blk_cell BK684.out 0).trans rfl; have hcz43_1 : w40.cell? ⟨gb684, 1, none⟩ = some (.slice A2_1 l2_1.length c2_1) := (blk_cell BK684.out 1).trans rfl; have hcz43_2 : w40.cell? ⟨gb684, 2, none⟩ = some (.slice A2_2 l2_2.length c2_2) := (blk_cell BK684.out 2).trans rfl; have hfz43_0 := blk_frozen BK684.out 0; have hfz43_1 := blk_frozen BK684.out 1; have hfz43_2 := blk_frozen BK684.out 2) | ((with_reducible refine gate_callee (f := 93) rfl ?_); refine goesL_ (some 14) rfl rfl Try.func93 (by kernel_rfl) rfl #[.slice A0 l0.length c0, .agg #[.bool a1_0, .slice A1_1 l1_1.length c1_1, .slice A1_2 l1_2.length c1_2], .agg #[.bool a2_0, .slice A2_1 l2_1.length c2_1, .slice A2_2 l2_2.length c2_2]] rfl (by (try simp only [List.map_toArray, List.map_cons, List.map_nil]); first | done | rfl | (simp only [List.length_drop, List.length_take]; rfl)) ?_; (with_reducible refine (impl_shapeFit.calls k _ _ l0 a1_0 _ _ l1_1 _ _ l1_2 a2_0 _ _ l2_1 _ _ l2_2 false _ ?side1 ?side2 ?side3 ?side4 ?side5 ?side6 ?side7 ?side8 ?side9 ?side10 A4.out).mono ?_); (case side1 => repeat (first | exact (Kd.C_below HR0.out HB.out) | (with_reducible refine Kd.C_alloc ?_ _) | (with_reducible refine Kd.C_drewN ?_ _) | (with_reducible refine Kd.C_drew ?_))); (case side2 => exact HC0.out); (case side3 => repeat (first | exact (Kd.C_below HR1_1.out HB.out) | (with_reducible refine Kd.C_alloc ?_ _) | (with_reducible refine Kd.C_drewN ?_ _) | (with_reducible refine Kd.C_drew ?_))); (case side4 => exact HC1_1.out); (case side5 => repeat (first | exact (Kd.C_below HR1_2.out HB.out) | (with_reducible refine Kd.C_alloc ?_ _) | (with_reducible refine Kd.C_drewN ?_ _) | (with_reducible refine Kd.C_drew ?_))); (case side6 => exact HC1_2.out); (case side7 => repeat (first | exact (Kd.C_below HR2_1.out HB.out) | (with_reducible refine Kd.C_alloc ?_ _) | (with_reducible refine Kd.C_drewN ?_ _) | (with_reducible refine Kd.C_drew ?_))); (case side8 => exact HC2_1.out); (case side9 => repeat (first | exact (Kd.C_below HR2_2.out HB.out) | (with_reducible refine Kd.C_alloc ?_ _) | (with_reducible refine Kd.C_drewN ?_ _) | (with_reducible refine Kd.C_drew ?_))); (case side10 => exact HC2_2.out); rintro e w44 ⟨rfl, hb⟩; refine ⟨_, rfl, ?_⟩; have n0_ := Aside0.mk (blk_below (g := gb683) (o := .cells #[.bool a1_0, .slice A1_1 l1_1.length c1_1, .slice A1_2 l1_2.length c1_2] 52 (0, 0)) (by (with_reducible repeat (first | refine blk_drewN ?_ _ | refine blk_drew ?_ | refine blk_alloc ?_ _)); exact BK683.out) hb); have n1_ := Aside0.mk (blk_below (g := gb684) (o := .cells #[.bool a2_0, .slice A2_1 l2_1.length c2_1, .slice A2_2 l2_2.length c2_2] 52 (0, 0)) (by (with_reducible repeat (first | refine blk_drewN ?_ _ | refine blk_drew ?_ | refine blk_alloc ?_ _)); exact BK684.out) hb); have n2_ := Aside0.mk (below_step (by repeat (first | (with_reducible first | exact HB.out | apply below_alloc | apply pw_below_drewN | apply below_drew1 | refine below_set ?_ GE683.out | refine below_set ?_ GE684.out) | exact HB.out)) hb); clear BK683; clear BK684; clear HB; have BK683 := n0_; have BK684 := n1_; have HB := n2_; clear n0_ n1_ n2_; (try clear hb); (try clear hb2); (try clear hk); (try clear hi)))
    go_ret
    exact ⟨by first | rfl | (simp [errW_none, errW_some] <;> rfl) | (simp [*, errW_none, errW_some] <;> rfl), by repeat (first | (with_reducible first | exact HB.out | apply below_alloc | apply pw_below_drewN | apply below_drew1 | refine below_set ?_ GE683.out | refine below_set ?_ GE684.out) | exact HB.out)⟩
end Go.Proofs.Ytgmjolngnhdafaa.P

end
section

namespace Go.Proofs.Ytgmjolngnhdafaa.P
open Go.RowKit Go.Proofs.YtgmjolngnhdafaaW.PrintWords Go.Proofs.YtgmjolngnhdafaaW.PrintLast Go.Proofs.YtgmjolngnhdafaaW.PrintMore
attribute [local go_sem] max2_int min2_int max_two min_two max_three min_three max_four min_four
set_option linter.unusedVariables false
set_option linter.unusedSimpArgs false
set_option maxHeartbeats 8000000 in
set_option maxRecDepth 100000 in
theorem impl_ShapeIn.calls (k : Nat) (A0 : Option Addr) (c0 : Nat) (l0 : List (S38)) (a1_0 : Bool) (A1_1 : Option Addr) (c1_1 : Nat) (l1_1 : List Int) (A1_2 : Option Addr) (c1_2 : Nat) (l1_2 : List Int) (a2_0 : Bool) (A2_1 : Option Addr) (c2_1 : Nat) (l2_1 : List Int) (A2_2 : Option Addr) (c2_2 : Nat) (l2_2 : List Int) (r : Bool) (w : World) (hr0 : Kd.C k38 w A0 l0.length l0) (hc0 : l0.length ≤ c0) (hr1_1 : Kd.C (Kd.int .i64) w A1_1 l1_1.length l1_1) (hc1_1 : l1_1.length ≤ c1_1) (hr1_2 : Kd.C (Kd.int .i64) w A1_2 l1_2.length l1_2) (hc1_2 : l1_2.length ≤ c1_2) (hr2_1 : Kd.C (Kd.int .i64) w A2_1 l2_1.length l2_1) (hc2_1 : l2_1.length ≤ c2_1) (hr2_2 : Kd.C (Kd.int .i64) w A2_2 l2_2.length l2_2) (hc2_2 : l2_2.length ≤ c2_2) (h : impl_ShapeIn.f k l0 a1_0 l1_1 l1_2 a2_0 l2_1 l2_2 = some r) :
    Calls Try.prog 52 #[.slice A0 l0.length c0, .agg #[.bool a1_0, .slice A1_1 l1_1.length c1_1, .slice A1_2 l1_2.length c1_2], .agg #[.bool a2_0, .slice A2_1 l2_1.length c2_1, .slice A2_2 l2_2.length c2_2]] w fun e w' => e = .returned (.bool r) ∧ Below w.heap.size w w' := by
  have hu52 := Try.underlying52
  have HR0 := Aside0.mk hr0
  have HC0 := Aside0.mk hc0
  clear hr0 hc0
  have HR1_1 := Aside0.mk hr1_1
  have HC1_1 := Aside0.mk hc1_1
  clear hr1_1 hc1_1
  have HR1_2 := Aside0.mk hr1_2
  have HC1_2 := Aside0.mk hc1_2
  clear hr1_2 hc1_2
  have HR2_1 := Aside0.mk hr2_1
  have HC2_1 := Aside0.mk hc2_1
  clear hr2_1 hc2_1
  have HR2_2 := Aside0.mk hr2_2
  have HC2_2 := Aside0.mk hc2_2
  clear hr2_2 hc2_2
  have HB := Aside0.mk (Below.refl w.heap.size w)
  have H : ((impl_ClassesOk.f k l0).bind fun t694 => (if t694 = true then ((impl_shapeIn.f k l0 a1_0 l1_1 l1_2 a2_0 l2_1 l2_2).bind fun t695 => (some t695)) else (some false))) = some r := h
  clear h
  replace H := Option.bind_eq_some_iff.mp H
  obtain ⟨t694, A40, H⟩ := H
  replace H : (if t694 = true then ((impl_shapeIn.f k l0 a1_0 l1_1 l1_2 a2_0 l2_1 l2_2).bind fun t695 => (some t695)) else (some false)) = some r := H
  have A4 := Aside0.mk A40
  clear A40
  by_cases c5 : t694 = true
  · subst c5
    have H1 : ((impl_shapeIn.f k l0 a1_0 l1_1 l1_2 a2_0 l2_1 l2_2).bind fun t695 => (some t695)) = some r := by rw [if_pos rfl] at H; exact H
    clear H
    have H := H1
    clear H1
    replace H := Option.bind_eq_some_iff.mp H
    obtain ⟨t695, A60, H⟩ := H
    replace H : (some t695) = some r := H
    have A6 := Aside0.mk A60
    clear A60
    obtain rfl := Option.some.inj H
    simp only [Option.some.injEq, Prod.mk.injEq] at H
    obtain ⟨rfl⟩ := H
    go_enter Try.func52, Try.ntmps52
    go_wp2_with (first | ((with_reducible refine gate_dst (N := 4) rfl ?_); refine box_event ?hg (N := 4) ?hd (cs := #[.bool a1_0, .slice A1_1 l1_1.length c1_1, .slice A1_2 l1_2.length c1_2]) (t := 52) ?hr ?_; (case hd => rfl); (case hg => rfl); (case hr => first | (go_simp; done) | (go_simp; rfl)); intro gb692 hg w7 hbox hb; have n0_ := Aside0.mk (below_step (by repeat (first | (with_reducible first | exact HB.out | apply below_alloc | apply pw_below_drewN | apply below_drew1) | exact HB.out)) hb); have n1_ := Aside0.mk (hbox); have n2_ := Aside0.mk ((by rw [hg]; exact (below_size (by repeat (first | (with_reducible first | exact HB.out | apply below_alloc | apply pw_below_drewN | apply below_drew1) | exact HB.out))) : w.heap.size ≤ gb692)); have n3_ := Aside0.mk ((by rw [hg]; exact (below_size (by repeat (first | (with_reducible first | exact HB.out | apply below_alloc | apply pw_below_drewN | apply below_drew1) | exact HB.out))) : w.heap.size ≤ gb692)); clear HB; have HB := n0_; have BK692 := n1_; have GW692 := n2_; have GE692 := n3_; clear n0_ n1_ n2_ n3_; clear hb hbox hg) | ((with_reducible refine gate_dst (N := 5) rfl ?_); refine box_event ?hg (N := 5) ?hd (cs := #[.bool a2_0, .slice A2_1 l2_1.length c2_1, .slice A2_2 l2_2.length c2_2]) (t := 52) ?hr ?_; (case hd => rfl); (case hg => rfl); (case hr => first | (go_simp; done) | (go_simp; rfl)); intro gb693 hg w8 hbox hb; have n0_ := Aside0.mk (blk_below (g := gb692) (o := .cells #[.bool a1_0, .slice A1_1 l1_1.length c1_1, .slice A1_2 l1_2.length c1_2] 52 (0, 0)) (by (with_reducible repeat (first | refine blk_drewN ?_ _ | refine blk_drew ?_ | refine blk_alloc ?_ _)); exact BK692.out) hb); have n1_ := Aside0.mk (below_step (by repeat (first | (with_reducible first | exact HB.out | apply below_alloc | apply pw_below_drewN | apply below_drew1 | refine below_set ?_ GE692.out) | exact HB.out)) hb); have n2_ := Aside0.mk (hbox); have n3_ := Aside0.mk ((by rw [hg]; exact (below_size (by repeat (first | (with_reducible first | exact HB.out | apply below_alloc | apply pw_below_drewN | apply below_drew1 | refine below_set ?_ GE692.out) | exact HB.out))) : w.heap.size ≤ gb693)); have n4_ := Aside0.mk ((by rw [hg]; exact (below_size (by repeat (first | (with_reducible first | exact HB.out | apply below_alloc | apply pw_below_drewN | apply below_drew1 | refine below_set ?_ GE692.out) | exact HB.out))) : w.heap.size ≤ gb693)); have n5_ := Aside0.mk ((by rw [hg]; exact Nat.ne_of_lt (blk_lt (g := gb692) (o := .cells #[.bool a1_0, .slice A1_1 l1_1.length c1_1, .slice A1_2 l1_2.length c1_2] 52 (0, 0)) (by (with_reducible repeat (first | refine blk_drewN ?_ _ | refine blk_drew ?_ | refine blk_alloc ?_ _)); exact BK692.out)) : gb692 ≠ gb693)); have n6_ := Aside0.mk ((by rw [hg]; exact Nat.ne_of_gt (blk_lt (g := gb692) (o := .cells #[.bool a1_0, .slice A1_1 l1_1.length c1_1, .slice A1_2 l1_2.length c1_2] 52 (0, 0)) (by (with_reducible repeat (first | refine blk_drewN ?_ _ | refine blk_drew ?_ | refine blk_alloc ?_ _)); exact BK692.out)) : gb693 ≠ gb692)); clear BK692; clear HB; have BK692 := n0_; have HB := n1_; have BK693 := n2_; have GW693 := n3_; have GE693 := n4_; have NB692_693 := n5_; have NB693_692 := n6_; clear n0_ n1_ n2_ n3_ n4_ n5_ n6_; clear hb hbox hg) | ((with_reducible refine gate_callee (f := 23) rfl ?_); refine goesL_ (some 8) rfl rfl Try.func23 (by kernel_rfl) rfl #[.slice A0 l0.length c0] rfl (by (try simp only [List.map_toArray, List.map_cons, List.map_nil]); first | done | rfl | (simp only [List.length_drop, List.length_take]; rfl)) ?_; (with_reducible refine (impl_ClassesOk.calls k _ _ l0 true _ ?side1 ?side2 A4.out).mono ?_); (case side1 => repeat (first | exact (Kd.C_below HR0.out HB.out) | (with_reducible refine Kd.C_alloc ?_ _) | (with_reducible refine Kd.C_drewN ?_ _) | (with_reducible refine Kd.C_drew ?_))); (case side2 => exact HC0.out); rintro e w9 ⟨rfl, hb⟩; refine ⟨_, rfl, ?_⟩; have n0_ := Aside0.mk (blk_below (g := gb692) (o := .cells #[.bool a1_0, .slice A1_1 l1_1.length c1_1, .slice A1_2 l1_2.length c1_2] 52 (0, 0)) (by (with_reducible repeat (first | refine blk_drewN ?_ _ | refine blk_drew ?_ | refine blk_alloc ?_ _)); exact BK692.out) hb); have n1_ := Aside0.mk (blk_below (g := gb693) (o := .cells #[.bool a2_0, .slice A2_1 l2_1.length c2_1, .slice A2_2 l2_2.length c2_2] 52 (0, 0)) (by (with_reducible repeat (first | refine blk_drewN ?_ _ | refine blk_drew ?_ | refine blk_alloc ?_ _)); exact BK693.out) hb); have n2_ := Aside0.mk (below_step (by repeat (first | (with_reducible first | exact HB.out | apply below_alloc | apply pw_below_drewN | apply below_drew1 | refine below_set ?_ GE692.out | refine below_set ?_ GE693.out) | exact HB.out)) hb); clear BK692; clear BK693; clear HB; have BK692 := n0_; have BK693 := n1_; have HB := n2_; clear n0_ n1_ n2_; (try clear hb); (try clear hb2); (try clear hk); (try clear hi); have hnb10 := NB692_693.out; have hnc10 := NB693_692.out; have hcz11_0 : w9.cell? ⟨gb692, 0, none⟩ = some (.bool a1_0) := (blk_cell BK692.out 0).trans rfl; have hcz11_1 : w9.cell? ⟨gb692, 1, none⟩ = some (.slice A1_1 l1_1.length c1_1) := (blk_cell BK692.out 1).trans rfl; have hcz11_2 : w9.cell? ⟨gb692, 2, none⟩ = some (.slice A1_2 l1_2.length c1_2) := (blk_cell BK692.out 2).trans rfl; have hfz11_0 := blk_frozen BK692.out 0; have hfz11_1 := blk_frozen BK692.out 1; have hfz11_2 := blk_frozen BK692.out 2; have hcz12_0 : w9.cell? ⟨gb693, 0, none⟩ = some (.bool a2_0) := (blk_cell BK693.out 0).trans rfl; have hcz12_1 : w9.cell? ⟨gb693, 1, none⟩ = some (.slice A2_1 l2_1.length c2_1) := (blk_cell BK693.out 1).trans rfl; have hcz12_2 : w9.cell? ⟨gb693, 2, none⟩ = some (.slice A2_2 l2_2.length c2_2) := (blk_cell BK693.out 2).trans rfl; have hfz12_0 := blk_frozen BK693.out 0; have hfz12_1 := blk_frozen BK693.out 1; have hfz12_2 := blk_frozen BK693.out 2) | (go_at_call 85; (with_reducible refine (impl_shapeIn.calls k _ _ l0 a1_0 _ _ l1_1 _ _ l1_2 a2_0 _ _ l2_1 _ _ l2_2 t695 _ ?side1 ?side2 ?side3 ?side4 ?side5 ?side6 ?side7 ?side8 ?side9 ?side10 A6.out).mono ?_); (case side1 => repeat (first | exact (Kd.C_below HR0.out HB.out) | (with_reducible refine Kd.C_alloc ?_ _) | (with_reducible refine Kd.C_drewN ?_ _) | (with_reducible refine Kd.C_drew ?_))); (case side2 => exact HC0.out); (case side3 => repeat (first | exact (Kd.C_below HR1_1.out HB.out) | (with_reducible refine Kd.C_alloc ?_ _) | (with_reducible refine Kd.C_drewN ?_ _) | (with_reducible refine Kd.C_drew ?_))); (case side4 => exact HC1_1.out); (case side5 => repeat (first | exact (Kd.C_below HR1_2.out HB.out) | (with_reducible refine Kd.C_alloc ?_ _) | (with_reducible refine Kd.C_drewN ?_ _) | (with_reducible refine Kd.C_drew ?_))); (case side6 => exact HC1_2.out); (case side7 => repeat (first | exact (Kd.C_below HR2_1.out HB.out) | (with_reducible refine Kd.C_alloc ?_ _) | (with_reducible refine Kd.C_drewN ?_ _) | (with_reducible refine Kd.C_drew ?_))); (case side8 => exact HC2_1.out); (case side9 => repeat (first | exact (Kd.C_below HR2_2.out HB.out) | (with_reducible refine Kd.C_alloc ?_ _) | (with_reducible refine Kd.C_drewN ?_ _) | (with_reducible refine Kd.C_drew ?_))); (case side10 => exact HC2_2.out); rintro e w13 ⟨rfl, hb⟩; have n0_ := Aside0.mk (blk_below (g := gb692) (o := .cells #[.bool a1_0, .slice A1_1 l1_1.length c1_1, .slice A1_2 l1_2.length c1_2] 52 (0, 0)) (by (with_reducible repeat (first | refine blk_drewN ?_ _ | refine blk_drew ?_ | refine blk_alloc ?_ _)); exact BK692.out) hb); have n1_ := Aside0.mk (blk_below (g := gb693) (o := .cells #[.bool a2_0, .slice A2_1 l2_1.length c2_1, .slice A2_2 l2_2.length c2_2] 52 (0, 0)) (by (with_reducible repeat (first | refine blk_drewN ?_ _ | refine blk_drew ?_ | refine blk_alloc ?_ _)); exact BK693.out) hb); have n2_ := Aside0.mk (below_step (by repeat (first | (with_reducible first | exact HB.out | apply below_alloc | apply pw_below_drewN | apply below_drew1 | refine below_set ?_ GE692.out | refine below_set ?_ GE693.out) | exact HB.out)) hb); clear BK692; clear BK693; clear HB; have BK692 := n0_; have BK693 := n1_; have HB := n2_; clear n0_ n1_ n2_; (try clear hb); (try clear hb2); (try clear hk); (try clear hi)))
    go_ret
    exact ⟨by first | rfl | (simp [errW_none, errW_some] <;> rfl) | (simp [*, errW_none, errW_some] <;> rfl), by repeat (first | (with_reducible first | exact HB.out | apply below_alloc | apply pw_below_drewN | apply below_drew1 | refine below_set ?_ GE692.out | refine below_set ?_ GE693.out) | exact HB.out)⟩
  · replace c5 := Bool.eq_false_iff.mpr c5
    subst c5
    have H1 : (some false) = some r := by rw [if_neg (show ¬ (false = true) by decide)] at H; exact H
    clear H
    have H := H1
    clear H1
    obtain rfl := Option.some.inj H
    simp only [Option.some.injEq, Prod.mk.injEq] at H
    obtain ⟨rfl⟩ := H
    go_enter Try.func52, Try.ntmps52
    go_wp2_with (first | ((with_reducible refine gate_dst (N := 4) rfl ?_); refine box_event ?hg (N := 4) ?hd (cs := #[.bool a1_0, .slice A1_1 l1_1.length c1_1, .slice A1_2 l1_2.length c1_2]) (t := 52) ?hr ?_; (case hd => rfl); (case hg => rfl); (case hr => first | (go_simp; done) | (go_simp; rfl)); intro gb692 hg w14 hbox hb; have n0_ := Aside0.mk (below_step (by repeat (first | (with_reducible first | exact HB.out | apply below_alloc | apply pw_below_drewN | apply below_drew1) | exact HB.out)) hb); have n1_ := Aside0.mk (hbox); have n2_ := Aside0.mk ((by rw [hg]; exact (below_size (by repeat (first | (with_reducible first | exact HB.out | apply below_alloc | apply pw_below_drewN | apply below_drew1) | exact HB.out))) : w.heap.size ≤ gb692)); have n3_ := Aside0.mk ((by rw [hg]; exact (below_size (by repeat (first | (with_reducible first | exact HB.out | apply below_alloc | apply pw_below_drewN | apply below_drew1) | exact HB.out))) : w.heap.size ≤ gb692)); clear HB; have HB := n0_; have BK692 := n1_; have GW692 := n2_; have GE692 := n3_; clear n0_ n1_ n2_ n3_; clear hb hbox hg) | ((with_reducible refine gate_dst (N := 5) rfl ?_); refine box_event ?hg (N := 5) ?hd (cs := #[.bool a2_0, .slice A2_1 l2_1.length c2_1, .slice A2_2 l2_2.length c2_2]) (t := 52) ?hr ?_; (case hd => rfl); (case hg => rfl); (case hr => first | (go_simp; done) | (go_simp; rfl)); intro gb693 hg w15 hbox hb; have n0_ := Aside0.mk (blk_below (g := gb692) (o := .cells #[.bool a1_0, .slice A1_1 l1_1.length c1_1, .slice A1_2 l1_2.length c1_2] 52 (0, 0)) (by (with_reducible repeat (first | refine blk_drewN ?_ _ | refine blk_drew ?_ | refine blk_alloc ?_ _)); exact BK692.out) hb); have n1_ := Aside0.mk (below_step (by repeat (first | (with_reducible first | exact HB.out | apply below_alloc | apply pw_below_drewN | apply below_drew1 | refine below_set ?_ GE692.out) | exact HB.out)) hb); have n2_ := Aside0.mk (hbox); have n3_ := Aside0.mk ((by rw [hg]; exact (below_size (by repeat (first | (with_reducible first | exact HB.out | apply below_alloc | apply pw_below_drewN | apply below_drew1 | refine below_set ?_ GE692.out) | exact HB.out))) : w.heap.size ≤ gb693)); have n4_ := Aside0.mk ((by rw [hg]; exact (below_size (by repeat (first | (with_reducible first | exact HB.out | apply below_alloc | apply pw_below_drewN | apply below_drew1 | refine below_set ?_ GE692.out) | exact HB.out))) : w.heap.size ≤ gb693)); have n5_ := Aside0.mk ((by rw [hg]; exact Nat.ne_of_lt (blk_lt (g := gb692) (o := .cells #[.bool a1_0, .slice A1_1 l1_1.length c1_1, .slice A1_2 l1_2.length c1_2] 52 (0, 0)) (by (with_reducible repeat (first | refine blk_drewN ?_ _ | refine blk_drew ?_ | refine blk_alloc ?_ _)); exact BK692.out)) : gb692 ≠ gb693)); have n6_ := Aside0.mk ((by rw [hg]; exact Nat.ne_of_gt (blk_lt (g := gb692) (o := .cells #[.bool a1_0, .slice A1_1 l1_1.length c1_1, .slice A1_2 l1_2.length c1_2] 52 (0, 0)) (by (with_reducible repeat (first | refine blk_drewN ?_ _ | refine blk_drew ?_ | refine blk_alloc ?_ _)); exact BK692.out)) : gb693 ≠ gb692)); clear BK692; clear HB; have BK692 := n0_; have HB := n1_; have BK693 := n2_; have GW693 := n3_; have GE693 := n4_; have NB692_693 := n5_; have NB693_692 := n6_; clear n0_ n1_ n2_ n3_ n4_ n5_ n6_; clear hb hbox hg) | ((with_reducible refine gate_callee (f := 23) rfl ?_); refine goesL_ (some 8) rfl rfl Try.func23 (by kernel_rfl) rfl #[.slice A0 l0.length c0] rfl (by (try simp only [List.map_toArray, List.map_cons, List.map_nil]); first | done | rfl | (simp only [List.length_drop, List.length_take]; rfl)) ?_; (with_reducible refine (impl_ClassesOk.calls k _ _ l0 false _ ?side1 ?side2 A4.out).mono ?_); (case side1 => repeat (first | exact (Kd.C_below HR0.out HB.out) | (with_reducible refine Kd.C_alloc ?_ _) | (with_reducible refine Kd.C_drewN ?_ _) | (with_reducible refine Kd.C_drew ?_))); (case side2 => exact HC0.out); rintro e w16 ⟨rfl, hb⟩; refine ⟨_, rfl, ?_⟩; have n0_ := Aside0.mk (blk_below (g := gb692) (o := .cells #[.bool a1_0, .slice A1_1 l1_1.length c1_1, .slice A1_2 l1_2.length c1_2] 52 (0, 0)) (by (with_reducible repeat (first | refine blk_drewN ?_ _ | refine blk_drew ?_ | refine blk_alloc ?_ _)); exact BK692.out) hb); have n1_ := Aside0.mk (blk_below (g := gb693) (o := .cells #[.bool a2_0, .slice A2_1 l2_1.length c2_1, .slice A2_2 l2_2.length c2_2] 52 (0, 0)) (by (with_reducible repeat (first | refine blk_drewN ?_ _ | refine blk_drew ?_ | refine blk_alloc ?_ _)); exact BK693.out) hb); have n2_ := Aside0.mk (below_step (by repeat (first | (with_reducible first | exact HB.out | apply below_alloc | apply pw_below_drewN | apply below_drew1 | refine below_set ?_ GE692.out | refine below_set ?_ GE693.out) | exact HB.out)) hb); clear BK692; clear BK693; clear HB; have BK692 := n0_; have BK693 := n1_; have HB := n2_; clear n0_ n1_ n2_; (try clear hb); (try clear hb2); (try clear hk); (try clear hi)))
    go_ret
    exact ⟨by first | rfl | (simp [errW_none, errW_some] <;> rfl) | (simp [*, errW_none, errW_some] <;> rfl), by repeat (first | (with_reducible first | exact HB.out | apply below_alloc | apply pw_below_drewN | apply below_drew1 | refine below_set ?_ GE692.out | refine below_set ?_ GE693.out) | exact HB.out)⟩
end Go.Proofs.Ytgmjolngnhdafaa.P

end
