/- A part of the claim FnExactUnitFind: texts of this session and texts that its program printed out of the translation, joined. -/
import Derived.Test.YtedodaifpekahaaCFnExactUnitFind21
import Derived.MapKept
import Derived.Test.YtedodaifpekahaaCFnExactUnitFind0
import Derived.Test.YtedodaifpekahaaCFnExactUnitFind1
import Derived.Test.YtedodaifpekahaaCFnExactUnitFind2
import Derived.Test.YtedodaifpekahaaCFnExactUnitFind3
import Derived.Test.YtedodaifpekahaaCFnExactUnitFind4
import Derived.Test.YtedodaifpekahaaCFnExactUnitFind5
import Derived.Test.YtedodaifpekahaaCFnExactUnitFind6
import Derived.Test.YtedodaifpekahaaCFnExactUnitFind7
import Derived.Test.YtedodaifpekahaaCFnExactUnitFind8
import Derived.Test.YtedodaifpekahaaCFnExactUnitFind9
import Derived.Test.YtedodaifpekahaaCFnExactUnitFind10
import Derived.Test.YtedodaifpekahaaCFnExactUnitFind11
import Derived.Test.YtedodaifpekahaaCFnExactUnitFind12
import Derived.Test.YtedodaifpekahaaCFnExactUnitFind13
import Derived.Test.YtedodaifpekahaaCFnExactUnitFind14
import Derived.Test.YtedodaifpekahaaCFnExactUnitFind15
import Derived.Test.YtedodaifpekahaaCFnExactUnitFind16
import Derived.Test.YtedodaifpekahaaCFnExactUnitFind17
import Derived.Test.YtedodaifpekahaaCFnExactUnitFind18
import Derived.Test.YtedodaifpekahaaCFnExactUnitFind19
import Derived.Test.YtedodaifpekahaaCFnExactUnitFind20
section

namespace Go.Proofs.Ytedodaifpekahaa.P
open Go Go.RowKit Go.Proofs.YtedodaifpekahaaW.PrintWords Go.Proofs.YtedodaifpekahaaW.PrintLast Go.Proofs.YtedodaifpekahaaW.PrintMore
set_option linter.unusedVariables false
set_option linter.unusedSimpArgs false
def wantL : List (Int × Int × Int) := [(1, 1, 0), (2, 0, 0), (3, 2, 0), (4, 2, 0), (5, 0, 0), (6, 0, 0), (7, 3, 0), (8, 4, 0), (9, 4, 0), (10, 4, 0), (11, 4, 0), (12, 5, 0), (13, 6, 0), (14, 0, 0), (15, 6, 0), (16, 6, 0), (17, 5, 8), (18, 5, 8), (19, 5, 0), (20, 7, 0), (21, 5, 9), (22, 0, 0), (23, 0, 0), (24, 0, 0)]
def wantFind (n : Int) : List (Int × Int × Int) → Option (Int × Int)
  | [] => none
  | e :: l => if n = e.1 then some e.2 else wantFind n l
def impl_wantOf.f (n : Int) : Option (Int × Int × Bool) := some (match wantFind n wantL with | some p => (p.1, p.2, true) | none => (0, 0, false))
def wantE (e : Int × Int × Int) (i : Nat) : MapEntry := { key := .int .i64 e.1, val := .agg #[.int .i64 e.2.1, .int .i64 e.2.2], born := i }
def wantEnts : List (Int × Int × Int) → Nat → List MapEntry
  | [], _ => []
  | e :: l, i => wantE e i :: wantEnts l (i + 1)
def wantsAt (m : Nat) : Obj := .map (wantEnts (wantL.take m) 0).toArray m
def wantsO : Obj := wantsAt 24
theorem obj_far {w : World} {g : Nat} {o : Obj} (h : w.heap[g]? = some o) {p : Addr} (hp : g ≠ p.block) (u : Value) : (w.setCell p u).heap[g]? = some o := (Below.heap_setCell w p u g hp).trans h
theorem findNow_want (n : Int) : ∀ (l : List (Int × Int × Int)) (i m : Nat), ∃ j, Instr.findNow (.int .i64) (.int .i64 n) (wantEnts l i) m = some (match wantFind n l with | some p => some (j, .agg #[.int .i64 p.1, .int .i64 p.2]) | none => none)
  | [], _, _ => ⟨0, rfl⟩
  | e :: l, i, m => by
    by_cases h : n = e.1
    · refine ⟨m, ?_⟩
      subst h
      simp [wantEnts, wantE, wantFind, Instr.findNow, Instr.sameNow]
    · obtain ⟨j, hj⟩ := findNow_want n l (i + 1) (m + 1)
      refine ⟨j, ?_⟩
      have hb : (n == e.1) = false := by simpa using h
      simp only [wantEnts, wantE, wantFind, Instr.findNow, Instr.sameNow, if_true, hb, if_neg h]
      exact hj
section
variable {ops : Array Oper} {rest : List Oper} {o : Oper} {a : Act} {Q : Exit → Act → World → Prop} {W : World}
theorem want_event {gM : Nat} {n t1 t2 : Int} {t3 : Bool} {x i : Operand} (hgd : o.guard = none) (hop : o.op = .lookup 50 x i true) (hx : a.eval x = .map (some gM)) (hi : a.eval i = .int .i64 n) (hm : W.heap[gM]? = some wantsO) (hf : impl_wantOf.f n = some (t1, t2, t3))
    (h : wpList Try.prog ops Q rest (a.put o.dst (.tuple #[.agg #[.int .i64 t1, .int .i64 t2], .bool t3])) W) : wpList Try.prog ops Q (o :: rest) a W := by
  refine Kd.event_run hgd ?_ h
  have hE : wantsO = .map (wantEnts wantL 0).toArray 24 := rfl
  rw [hE] at hm
  obtain ⟨j, hj⟩ := findNow_want n wantL 0 0
  have hz : (zeroValue 82).run Try.prog W = .ok (.agg #[.int .i64 0, .int .i64 0]) W := by kernel_rfl
  have hk : MapKept.IsKey (.int .i64) (.int .i64 n) := by simp [MapKept.IsKey]
  have hu := Try.underlying50
  have hu3 := Try.underlying3
  have hl : (Instr.lookup 50 (.map (some gM)) (.int .i64 n) true).run Try.prog W = .ok (.tuple #[.agg #[.int .i64 t1, .int .i64 t2], .bool t3]) W := by
    unfold impl_wantOf.f at hf
    simp only [Instr.lookup, Sem.run_bind, run_underlying hu, Result.andThen, MapKept.run_getObj_map hm, Sem.run_pure]
    rw [MapKept.run_checkKey hu3 hk]
    simp only [Result.andThen, Sem.run_bind]
    rw [MapKept.run_findKey hu3 hj]
    cases hw : wantFind n wantL with
    | some p =>
      rw [hw] at hf
      simp only [Option.some.injEq, Prod.mk.injEq] at hf
      obtain ⟨rfl, rfl, rfl⟩ := hf
      rfl
    | none =>
      rw [hw] at hf
      simp only [Option.some.injEq, Prod.mk.injEq] at hf
      obtain ⟨rfl, rfl, rfl⟩ := hf
      simp only [Result.andThen, Sem.run_bind, hz, Sem.run_pure]
      rfl
  unfold execOp
  rw [hop]
  dsimp only
  rw [hx, hi]
  simp only [Sem.run_bind, hl, Result.andThen]
  rfl
end
end Go.Proofs.Ytedodaifpekahaa.P

end
section

namespace Go.Proofs.Ytedodaifpekahaa.P
open Go.RowKit Go.Proofs.YtedodaifpekahaaW.PrintWords Go.Proofs.YtedodaifpekahaaW.PrintLast Go.Proofs.YtedodaifpekahaaW.PrintMore
attribute [local go_sem] max2_int min2_int max_two min_two max_three min_three max_four min_four
set_option linter.unusedVariables false
set_option linter.unusedSimpArgs false
mutual
def impl_codeOk.j0 : Nat → Bool → List (S76) → List (S46) → Int → Int → List Int → Int → Int → List (S67) → List (S70) → List (S73) → Option (Bool)
  | 0, _, _, _, _, _, _, _, _, _, _, _ => none
  | k + 1, x31, x373000, x373001, x374000, x374001, x374002, x374003, x374004, x374005, x374006, x374007 => if x31 = true then (some false) else (impl_codeOk.l0 k x374005 (x374005.length : Int) 0 x373000 x373001 x374000 x374001 x374002 x374003 x374004 x374005 x374006 x374007)
def impl_codeOk.l0 : Nat → List (S67) → Int → Int → List (S76) → List (S46) → Int → Int → List Int → Int → Int → List (S67) → List (S70) → List (S73) → Option (Bool)
  | 0, _, _, _, _, _, _, _, _, _, _, _, _, _ => none
  | k + 1, x33, x34, x35, x373000, x373001, x374000, x374001, x374002, x374003, x374004, x374005, x374006, x374007 => if x35 < x34 then (if 0 ≤ x35 then (if x35 < (x33.length : Int) then ((impl_wantOf.f ((rd_T67 x33 x35).f0)).bind fun bt376 => (if bt376.2.2 = true then ((impl_operandOk.f k x373000 x373001 x374000 x374001 x374002 x374003 x374004 x374005 x374006 x374007 ((rd_T67 x33 x35).f0) ((rd_T67 x33 x35).f1) ((rd_T67 x33 x35).f2) bt376.1 ((rd_T67 x33 x35).f1)).bind fun t380 => (if t380 = true then ((impl_operandOk.f k x373000 x373001 x374000 x374001 x374002 x374003 x374004 x374005 x374006 x374007 ((rd_T67 x33 x35).f0) ((rd_T67 x33 x35).f1) ((rd_T67 x33 x35).f2) bt376.2.1 ((rd_T67 x33 x35).f2)).bind fun t381 => (if t381 = true then (impl_codeOk.l0 k x33 x34 (wrap64 (x35 + 1)) x373000 x373001 x374000 x374001 x374002 x374003 x374004 x374005 x374006 x374007) else (some false))) else (some false))) else (some false))) else (none)) else (none)) else (impl_codeOk.l1 k x374006 (x374006.length : Int) 0 x373000 x373001 x374000 x374001 x374002 x374003 x374004 x374005 x374006 x374007)
def impl_codeOk.l1 : Nat → List (S70) → Int → Int → List (S76) → List (S46) → Int → Int → List Int → Int → Int → List (S67) → List (S70) → List (S73) → Option (Bool)
  | 0, _, _, _, _, _, _, _, _, _, _, _, _, _ => none
  | k + 1, x72, x73, x74, x373000, x373001, x374000, x374001, x374002, x374003, x374004, x374005, x374006, x374007 => if x74 < x73 then (if 0 ≤ x74 then (if x74 < (x72.length : Int) then ((impl_shapeOk.f k x373000 x374004 ((rd_T70 x72 x74).f0) ((rd_T70 x72 x74).f1) ((rd_T70 x72 x74).f2)).bind fun t384 => (if t384 = true then (impl_codeOk.l1 k x72 x73 (wrap64 (x74 + 1)) x373000 x373001 x374000 x374001 x374002 x374003 x374004 x374005 x374006 x374007) else (some false))) else (none)) else (none)) else (some true)
end
def impl_codeOk.f (k : Nat) (l0_0 : List (S76)) (l0_1 : List (S46)) (a1_0 : Int) (a1_1 : Int) (l1_2 : List Int) (a1_3 : Int) (a1_4 : Int) (l1_5 : List (S67)) (l1_6 : List (S70)) (l1_7 : List (S73)) (a2 : Int) : Option (Bool) := if (l1_5.length : Int) < 1 then (impl_codeOk.j0 k true l0_0 l0_1 a1_0 a1_1 l1_2 a1_3 a1_4 l1_5 l1_6 l1_7) else (if (l1_5.length : Int) > 12 then (impl_codeOk.j0 k true l0_0 l0_1 a1_0 a1_1 l1_2 a1_3 a1_4 l1_5 l1_6 l1_7) else (impl_codeOk.j0 k ((l1_6.length : Int) != (l1_5.length : Int)) l0_0 l0_1 a1_0 a1_1 l1_2 a1_3 a1_4 l1_5 l1_6 l1_7))
end Go.Proofs.Ytedodaifpekahaa.P

end
section

namespace Go.Proofs.Ytedodaifpekahaa.P
open Go.RowKit Go.Proofs.YtedodaifpekahaaW.PrintWords Go.Proofs.YtedodaifpekahaaW.PrintLast Go.Proofs.YtedodaifpekahaaW.PrintMore
attribute [local go_sem] max2_int min2_int max_two min_two max_three min_three max_four min_four
set_option linter.unusedVariables false
set_option linter.unusedSimpArgs false
def impl_classUp.l0 : Nat → List (S76) → Int → Int → Option (Bool)
  | 0, _, _, _ => none
  | k + 1, x0, x2, x7 => if x7 ≥ 0 then (if x7 = x2 then (some true) else (if 0 ≤ x7 then (if x7 < (x0.length : Int) then (impl_classUp.l0 k x0 x2 ((rd_T76 x0 x7).f0)) else (none)) else (none))) else (some false)
def impl_classUp.f (k : Nat) (l0 : List (S76)) (a1 : Int) (a2 : Int) : Option (Bool) := impl_classUp.l0 k l0 a2 a1
end Go.Proofs.Ytedodaifpekahaa.P

end
section

namespace Go.Proofs.Ytedodaifpekahaa.P
open Go.RowKit Go.Proofs.YtedodaifpekahaaW.PrintWords Go.Proofs.YtedodaifpekahaaW.PrintLast Go.Proofs.YtedodaifpekahaaW.PrintMore
attribute [local go_sem] max2_int min2_int max_two min_two max_three min_three max_four min_four
set_option linter.unusedVariables false
set_option linter.unusedSimpArgs false
mutual
def impl_catchesOk.l0 : Nat → List (S73) → Int → Int → List (S76) → List (S46) → Int → Int → List Int → Int → Int → List (S67) → List (S70) → List (S73) → Option (Bool)
  | 0, _, _, _, _, _, _, _, _, _, _, _, _, _ => none
  | k + 1, x12, x13, x14, x387000, x387001, x388000, x388001, x388002, x388003, x388004, x388005, x388006, x388007 => if x14 < x13 then (if 0 ≤ x14 then (if x14 < (x12.length : Int) then (if ((rd_T73 x12 x14).f0) < 0 then (impl_catchesOk.j1 k x12 x13 x14 true x387000 x387001 x388000 x388001 x388002 x388003 x388004 x388005 x388006 x388007 ((rd_T73 x12 x14).f0) ((rd_T73 x12 x14).f1) ((rd_T73 x12 x14).f2) ((rd_T73 x12 x14).f3)) else (if ((rd_T73 x12 x14).f0) ≥ (x388005.length : Int) then (impl_catchesOk.j1 k x12 x13 x14 true x387000 x387001 x388000 x388001 x388002 x388003 x388004 x388005 x388006 x388007 ((rd_T73 x12 x14).f0) ((rd_T73 x12 x14).f1) ((rd_T73 x12 x14).f2) ((rd_T73 x12 x14).f3)) else (if ((rd_T73 x12 x14).f2) < 0 then (impl_catchesOk.j1 k x12 x13 x14 true x387000 x387001 x388000 x388001 x388002 x388003 x388004 x388005 x388006 x388007 ((rd_T73 x12 x14).f0) ((rd_T73 x12 x14).f1) ((rd_T73 x12 x14).f2) ((rd_T73 x12 x14).f3)) else (impl_catchesOk.j1 k x12 x13 x14 (decide (((rd_T73 x12 x14).f2) ≥ (x388005.length : Int))) x387000 x387001 x388000 x388001 x388002 x388003 x388004 x388005 x388006 x388007 ((rd_T73 x12 x14).f0) ((rd_T73 x12 x14).f1) ((rd_T73 x12 x14).f2) ((rd_T73 x12 x14).f3))))) else (none)) else (none)) else (some true)
def impl_catchesOk.j1 : Nat → List (S73) → Int → Int → Bool → List (S76) → List (S46) → Int → Int → List Int → Int → Int → List (S67) → List (S70) → List (S73) → Int → Int → Int → Int → Option (Bool)
  | 0, _, _, _, _, _, _, _, _, _, _, _, _, _, _, _, _, _, _ => none
  | k + 1, x12, x13, x14, x41, x387000, x387001, x388000, x388001, x388002, x388003, x388004, x388005, x388006, x388007, x390000, x390001, x390002, x390003 => if x41 = true then (some false) else (if x390001 ≤ x390000 then (impl_catchesOk.j2 k x12 x13 x14 true x387000 x387001 x388000 x388001 x388002 x388003 x388004 x388005 x388006 x388007 x390000 x390001 x390002 x390003) else (impl_catchesOk.j2 k x12 x13 x14 (decide (x390001 > (x388005.length : Int))) x387000 x387001 x388000 x388001 x388002 x388003 x388004 x388005 x388006 x388007 x390000 x390001 x390002 x390003))
def impl_catchesOk.j2 : Nat → List (S73) → Int → Int → Bool → List (S76) → List (S46) → Int → Int → List Int → Int → Int → List (S67) → List (S70) → List (S73) → Int → Int → Int → Int → Option (Bool)
  | 0, _, _, _, _, _, _, _, _, _, _, _, _, _, _, _, _, _, _ => none
  | k + 1, x12, x13, x14, x54, x387000, x387001, x388000, x388001, x388002, x388003, x388004, x388005, x388006, x388007, x390000, x390001, x390002, x390003 => if x54 = true then (some false) else ((impl_isClass.f x387000 x390003).bind fun t390 => (if t390 = true then ((impl_classUp.f k x387000 x390003 1).bind fun t391 => (if t391 = true then (impl_catchesOk.l0 k x12 x13 (wrap64 (x14 + 1)) x387000 x387001 x388000 x388001 x388002 x388003 x388004 x388005 x388006 x388007) else (some false))) else (some false)))
end
def impl_catchesOk.f (k : Nat) (l0_0 : List (S76)) (l0_1 : List (S46)) (a1_0 : Int) (a1_1 : Int) (l1_2 : List Int) (a1_3 : Int) (a1_4 : Int) (l1_5 : List (S67)) (l1_6 : List (S70)) (l1_7 : List (S73)) : Option (Bool) := if (l1_7.length : Int) > 2 then (some false) else (impl_catchesOk.l0 k l1_7 (l1_7.length : Int) 0 l0_0 l0_1 a1_0 a1_1 l1_2 a1_3 a1_4 l1_5 l1_6 l1_7)
end Go.Proofs.Ytedodaifpekahaa.P

end
section

namespace Go.Proofs.Ytedodaifpekahaa.P
open Go.RowKit Go.Proofs.YtedodaifpekahaaW.PrintWords Go.Proofs.YtedodaifpekahaaW.PrintLast Go.Proofs.YtedodaifpekahaaW.PrintMore
attribute [local go_sem] max2_int min2_int max_two min_two max_three min_three max_four min_four
set_option linter.unusedVariables false
set_option linter.unusedSimpArgs false
def slices_Equal_int_int.l0 : Nat → List Int → List Int → Int → Int → Option (Bool)
  | 0, _, _, _, _ => none
  | k + 1, x0, x1, x12, x13 => if x13 < x12 then (if 0 ≤ x13 then (if x13 < (x0.length : Int) then (if x13 < (x1.length : Int) then (if (rd x0 x13) = (rd x1 x13) then (slices_Equal_int_int.l0 k x0 x1 x12 (wrap64 (x13 + 1))) else (some false)) else (none)) else (none)) else (none)) else (some true)
def slices_Equal_int_int.f (k : Nat) (l0 : List Int) (l1 : List Int) : Option (Bool) := if (l0.length : Int) = (l1.length : Int) then (slices_Equal_int_int.l0 k l0 l1 (l0.length : Int) 0) else (some false)
end Go.Proofs.Ytedodaifpekahaa.P

end
section

namespace Go.Proofs.Ytedodaifpekahaa.P
open Go.RowKit Go.Proofs.YtedodaifpekahaaW.PrintWords Go.Proofs.YtedodaifpekahaaW.PrintLast Go.Proofs.YtedodaifpekahaaW.PrintMore
attribute [local go_sem] max2_int min2_int max_two min_two max_three min_three max_four min_four
set_option linter.unusedVariables false
set_option linter.unusedSimpArgs false
mutual
def impl_agree.l0 : Nat → List (S46) → Int → Int → List (S76) → List (S46) → Option (Bool)
  | 0, _, _, _, _, _ => none
  | k + 1, x8, x9, x10, x395000, x395001 => if x10 < x9 then (if 0 ≤ x10 then (if x10 < (x8.length : Int) then (impl_agree.l1 k x10 x8 x9 x10 x395001 (x395001.length : Int) 0 x395000 x395001 ((rd_T46 x8 x10).f0) ((rd_T46 x8 x10).f1) ((rd_T46 x8 x10).f2) ((rd_T46 x8 x10).f3) ((rd_T46 x8 x10).f4) ((rd_T46 x8 x10).f5) ((rd_T46 x8 x10).f6) ((rd_T46 x8 x10).f7)) else (none)) else (none)) else (some true)
def impl_agree.l1 : Nat → Int → List (S46) → Int → Int → List (S46) → Int → Int → List (S76) → List (S46) → Int → Int → List Int → Int → Int → List (S67) → List (S70) → List (S73) → Option (Bool)
  | 0, _, _, _, _, _, _, _, _, _, _, _, _, _, _, _, _, _ => none
  | k + 1, x3, x8, x9, x10, x16, x17, x18, x395000, x395001, x397000, x397001, x397002, x397003, x397004, x397005, x397006, x397007 => if x18 < x17 then (if 0 ≤ x18 then (if x18 < (x16.length : Int) then (if x3 = x18 then (impl_agree.j2 k x3 x8 x9 x10 x16 x17 x18 true x395000 x395001 x397000 x397001 x397002 x397003 x397004 x397005 x397006 x397007 ((rd_T46 x16 x18).f0) ((rd_T46 x16 x18).f1) ((rd_T46 x16 x18).f2) ((rd_T46 x16 x18).f3) ((rd_T46 x16 x18).f4) ((rd_T46 x16 x18).f5) ((rd_T46 x16 x18).f6) ((rd_T46 x16 x18).f7)) else (if x397000 < 0 then (impl_agree.j2 k x3 x8 x9 x10 x16 x17 x18 true x395000 x395001 x397000 x397001 x397002 x397003 x397004 x397005 x397006 x397007 ((rd_T46 x16 x18).f0) ((rd_T46 x16 x18).f1) ((rd_T46 x16 x18).f2) ((rd_T46 x16 x18).f3) ((rd_T46 x16 x18).f4) ((rd_T46 x16 x18).f5) ((rd_T46 x16 x18).f6) ((rd_T46 x16 x18).f7)) else (if ((rd_T46 x16 x18).f0) < 0 then (impl_agree.j2 k x3 x8 x9 x10 x16 x17 x18 true x395000 x395001 x397000 x397001 x397002 x397003 x397004 x397005 x397006 x397007 ((rd_T46 x16 x18).f0) ((rd_T46 x16 x18).f1) ((rd_T46 x16 x18).f2) ((rd_T46 x16 x18).f3) ((rd_T46 x16 x18).f4) ((rd_T46 x16 x18).f5) ((rd_T46 x16 x18).f6) ((rd_T46 x16 x18).f7)) else (impl_agree.j2 k x3 x8 x9 x10 x16 x17 x18 (x397001 != ((rd_T46 x16 x18).f1)) x395000 x395001 x397000 x397001 x397002 x397003 x397004 x397005 x397006 x397007 ((rd_T46 x16 x18).f0) ((rd_T46 x16 x18).f1) ((rd_T46 x16 x18).f2) ((rd_T46 x16 x18).f3) ((rd_T46 x16 x18).f4) ((rd_T46 x16 x18).f5) ((rd_T46 x16 x18).f6) ((rd_T46 x16 x18).f7))))) else (none)) else (none)) else (impl_agree.l0 k x8 x9 (wrap64 (x10 + 1)) x395000 x395001)
def impl_agree.j2 : Nat → Int → List (S46) → Int → Int → List (S46) → Int → Int → Bool → List (S76) → List (S46) → Int → Int → List Int → Int → Int → List (S67) → List (S70) → List (S73) → Int → Int → List Int → Int → Int → List (S67) → List (S70) → List (S73) → Option (Bool)
  | 0, _, _, _, _, _, _, _, _, _, _, _, _, _, _, _, _, _, _, _, _, _, _, _, _, _, _ => none
  | k + 1, x3, x8, x9, x10, x16, x17, x18, x42, x395000, x395001, x397000, x397001, x397002, x397003, x397004, x397005, x397006, x397007, x399000, x399001, x399002, x399003, x399004, x399005, x399006, x399007 => if x42 = true then (impl_agree.l1 k x3 x8 x9 x10 x16 x17 (wrap64 (x18 + 1)) x395000 x395001 x397000 x397001 x397002 x397003 x397004 x397005 x397006 x397007) else (if x397000 = x399000 then (some false) else ((impl_classUp.f k x395000 x397000 x399000).bind fun t399 => (if t399 = true then (if x397003 = x399003 then ((slices_Equal_int_int.f k x397002 x399002).bind fun t400 => (if t400 = true then (impl_agree.l1 k x3 x8 x9 x10 x16 x17 (wrap64 (x18 + 1)) x395000 x395001 x397000 x397001 x397002 x397003 x397004 x397005 x397006 x397007) else (some false))) else (some false)) else (impl_agree.l1 k x3 x8 x9 x10 x16 x17 (wrap64 (x18 + 1)) x395000 x395001 x397000 x397001 x397002 x397003 x397004 x397005 x397006 x397007))))
end
def impl_agree.f (k : Nat) (l0_0 : List (S76)) (l0_1 : List (S46)) : Option (Bool) := impl_agree.l0 k l0_1 (l0_1.length : Int) 0 l0_0 l0_1
end Go.Proofs.Ytedodaifpekahaa.P

end
section

namespace Go.Proofs.Ytedodaifpekahaa.P
open Go.RowKit Go.Proofs.YtedodaifpekahaaW.PrintWords Go.Proofs.YtedodaifpekahaaW.PrintLast Go.Proofs.YtedodaifpekahaaW.PrintMore
attribute [local go_sem] max2_int min2_int max_two min_two max_three min_three max_four min_four
set_option linter.unusedVariables false
set_option linter.unusedSimpArgs false
mutual
def impl_UnitOk.j0 : Nat → Bool → List (S76) → List (S46) → Option (Bool)
  | 0, _, _, _ => none
  | k + 1, x22, x402000, x402001 => if x22 = true then (some false) else (if 0 < (x402001.length : Int) then (if ((rd_T46 x402001 0).f0) = (-1) then (if (((rd_T46 x402001 0).f2).length : Int) = 0 then (impl_UnitOk.j1 k (((rd_T46 x402001 0).f3) != 1) x402000 x402001) else (impl_UnitOk.j1 k true x402000 x402001)) else (impl_UnitOk.j1 k true x402000 x402001)) else (none))
def impl_UnitOk.j1 : Nat → Bool → List (S76) → List (S46) → Option (Bool)
  | 0, _, _, _ => none
  | k + 1, x40, x402000, x402001 => if x40 = true then (some false) else (impl_UnitOk.l0 k x402001 (x402001.length : Int) 0 x402000 x402001)
def impl_UnitOk.l0 : Nat → List (S46) → Int → Int → List (S76) → List (S46) → Option (Bool)
  | 0, _, _, _, _, _ => none
  | k + 1, x43, x44, x45, x402000, x402001 => if x45 < x44 then (if 0 ≤ x45 then (if x45 < (x43.length : Int) then ((impl_headOk.f k x402000 x402001 ((rd_T46 x43 x45).f0) ((rd_T46 x43 x45).f1) ((rd_T46 x43 x45).f2) ((rd_T46 x43 x45).f3) ((rd_T46 x43 x45).f4) ((rd_T46 x43 x45).f5) ((rd_T46 x43 x45).f6) ((rd_T46 x43 x45).f7)).bind fun t409 => (if t409 = true then ((impl_codeOk.f k x402000 x402001 ((rd_T46 x43 x45).f0) ((rd_T46 x43 x45).f1) ((rd_T46 x43 x45).f2) ((rd_T46 x43 x45).f3) ((rd_T46 x43 x45).f4) ((rd_T46 x43 x45).f5) ((rd_T46 x43 x45).f6) ((rd_T46 x43 x45).f7) 0).bind fun t410 => (if t410 = true then ((impl_catchesOk.f k x402000 x402001 ((rd_T46 x43 x45).f0) ((rd_T46 x43 x45).f1) ((rd_T46 x43 x45).f2) ((rd_T46 x43 x45).f3) ((rd_T46 x43 x45).f4) ((rd_T46 x43 x45).f5) ((rd_T46 x43 x45).f6) ((rd_T46 x43 x45).f7)).bind fun t411 => (if t411 = true then (impl_UnitOk.l0 k x43 x44 (wrap64 (x45 + 1)) x402000 x402001) else (some false))) else (some false))) else (some false))) else (none)) else (none)) else ((impl_agree.f k x402000 x402001).bind fun t406 => (some t406))
end
def impl_UnitOk.f (k : Nat) (l0_0 : List (S76)) (l0_1 : List (S46)) : Option (Bool) := (impl_ClassesOk.f k l0_0).bind fun t402 => (if t402 = true then (if (l0_1.length : Int) < 1 then (impl_UnitOk.j0 k true l0_0 l0_1) else (impl_UnitOk.j0 k (decide ((l0_1.length : Int) > 4)) l0_0 l0_1)) else (impl_UnitOk.j0 k true l0_0 l0_1))
end Go.Proofs.Ytedodaifpekahaa.P

end
section

namespace Go.Proofs.Ytedodaifpekahaa.P
open Go.RowKit Go.Proofs.YtedodaifpekahaaW.PrintWords Go.Proofs.YtedodaifpekahaaW.PrintLast Go.Proofs.YtedodaifpekahaaW.PrintMore
attribute [local go_sem] max2_int min2_int max_two min_two max_three min_three max_four min_four
set_option linter.unusedVariables false
set_option linter.unusedSimpArgs false
def impl_UnitFind.f (k : Nat) (l0_0 : List (S76)) (l0_1 : List (S46)) (a1 : Int) (a2 : Int) : Option (Int) := (impl_UnitOk.f k l0_0 l0_1).bind fun t487 => (if t487 = true then ((impl_isClass.f l0_0 a1).bind fun t488 => (if t488 = true then ((impl_unitFind.f k l0_0 l0_1 a1 a2).bind fun t489 => (some t489)) else (some (-1)))) else (some (-1)))
end Go.Proofs.Ytedodaifpekahaa.P

end
section

namespace Go.Proofs.Ytedodaifpekahaa.P
open Go.RowKit Go.Proofs.YtedodaifpekahaaW.PrintWords Go.Proofs.YtedodaifpekahaaW.PrintLast Go.Proofs.YtedodaifpekahaaW.PrintMore
attribute [local go_sem] max2_int min2_int max_two min_two max_three min_three max_four min_four
set_option linter.unusedVariables false
set_option linter.unusedSimpArgs false
def laws_szIntS.f (l0 : List Int) (a1 : Int) : Option (Int) := if (wrap64 (a1 - (l0.length : Int))) < 0 then (some (-1)) else (some (wrap64 (a1 - (l0.length : Int))))
end Go.Proofs.Ytedodaifpekahaa.P

end
section

namespace Go.Proofs.Ytedodaifpekahaa.P
open Go.RowKit Go.Proofs.YtedodaifpekahaaW.PrintWords Go.Proofs.YtedodaifpekahaaW.PrintLast Go.Proofs.YtedodaifpekahaaW.PrintMore
attribute [local go_sem] max2_int min2_int max_two min_two max_three min_three max_four min_four
set_option linter.unusedVariables false
set_option linter.unusedSimpArgs false
def laws_szClass.f (a0_0 : Int) (l0_1 : List Int) (a1 : Int) : Option (Int) := (laws_szIntS.f l0_1 a1).bind fun t102 => (if t102 < 0 then (some (-1)) else (some t102))
end Go.Proofs.Ytedodaifpekahaa.P

end
section

namespace Go.Proofs.Ytedodaifpekahaa.P
open Go.RowKit Go.Proofs.YtedodaifpekahaaW.PrintWords Go.Proofs.YtedodaifpekahaaW.PrintLast Go.Proofs.YtedodaifpekahaaW.PrintMore
attribute [local go_sem] max2_int min2_int max_two min_two max_three min_three max_four min_four
set_option linter.unusedVariables false
set_option linter.unusedSimpArgs false
def laws_szClassS.l0 : Nat → List (S58) → Int → Int → Option (Int)
  | 0, _, _, _ => none
  | k + 1, x0, x1, x5 => if x5 < (x0.length : Int) then (if 0 ≤ x5 then ((laws_szClass.f ((rd_T58 x0 x5).f0) ((rd_T58 x0 x5).f1) x1).bind fun t104 => (if t104 < 0 then (some (-1)) else (laws_szClassS.l0 k x0 t104 (wrap64 (x5 + 1))))) else (none)) else (some x1)
def laws_szClassS.f (k : Nat) (l0 : List (S58)) (a1 : Int) : Option (Int) := if (wrap64 (a1 - (l0.length : Int))) < 0 then (some (-1)) else (laws_szClassS.l0 k l0 (wrap64 (a1 - (l0.length : Int))) 0)
end Go.Proofs.Ytedodaifpekahaa.P

end
section

namespace Go.Proofs.Ytedodaifpekahaa.P
open Go.RowKit Go.Proofs.YtedodaifpekahaaW.PrintWords Go.Proofs.YtedodaifpekahaaW.PrintLast Go.Proofs.YtedodaifpekahaaW.PrintMore
attribute [local go_sem] max2_int min2_int max_two min_two max_three min_three max_four min_four
set_option linter.unusedVariables false
set_option linter.unusedSimpArgs false
def laws_szInsS.f (l0 : List (S113)) (a1 : Int) : Option (Int) := if (wrap64 (a1 - (l0.length : Int))) < 0 then (some (-1)) else (some (wrap64 (a1 - (l0.length : Int))))
end Go.Proofs.Ytedodaifpekahaa.P

end
section

namespace Go.Proofs.Ytedodaifpekahaa.P
open Go.RowKit Go.Proofs.YtedodaifpekahaaW.PrintWords Go.Proofs.YtedodaifpekahaaW.PrintLast Go.Proofs.YtedodaifpekahaaW.PrintMore
attribute [local go_sem] max2_int min2_int max_two min_two max_three min_three max_four min_four
set_option linter.unusedVariables false
set_option linter.unusedSimpArgs false
def laws_szShape.f (a0_0 : Bool) (l0_1 : List Int) (l0_2 : List Int) (a1 : Int) : Option (Int) := (laws_szIntS.f l0_1 a1).bind fun t106 => (if t106 < 0 then (some (-1)) else ((laws_szIntS.f l0_2 t106).bind fun t107 => (if t107 < 0 then (some (-1)) else (some t107))))
end Go.Proofs.Ytedodaifpekahaa.P

end
section

namespace Go.Proofs.Ytedodaifpekahaa.P
open Go.RowKit Go.Proofs.YtedodaifpekahaaW.PrintWords Go.Proofs.YtedodaifpekahaaW.PrintLast Go.Proofs.YtedodaifpekahaaW.PrintMore
attribute [local go_sem] max2_int min2_int max_two min_two max_three min_three max_four min_four
set_option linter.unusedVariables false
set_option linter.unusedSimpArgs false
def laws_szShapeS.l0 : Nat → List (S111) → Int → Int → Option (Int)
  | 0, _, _, _ => none
  | k + 1, x0, x1, x5 => if x5 < (x0.length : Int) then (if 0 ≤ x5 then ((laws_szShape.f ((rd_T111 x0 x5).f0) ((rd_T111 x0 x5).f1) ((rd_T111 x0 x5).f2) x1).bind fun t109 => (if t109 < 0 then (some (-1)) else (laws_szShapeS.l0 k x0 t109 (wrap64 (x5 + 1))))) else (none)) else (some x1)
def laws_szShapeS.f (k : Nat) (l0 : List (S111)) (a1 : Int) : Option (Int) := if (wrap64 (a1 - (l0.length : Int))) < 0 then (some (-1)) else (laws_szShapeS.l0 k l0 (wrap64 (a1 - (l0.length : Int))) 0)
end Go.Proofs.Ytedodaifpekahaa.P

end
section

namespace Go.Proofs.Ytedodaifpekahaa.P
open Go.RowKit Go.Proofs.YtedodaifpekahaaW.PrintWords Go.Proofs.YtedodaifpekahaaW.PrintLast Go.Proofs.YtedodaifpekahaaW.PrintMore
attribute [local go_sem] max2_int min2_int max_two min_two max_three min_three max_four min_four
set_option linter.unusedVariables false
set_option linter.unusedSimpArgs false
def laws_szCatchS.f (l0 : List (S116)) (a1 : Int) : Option (Int) := if (wrap64 (a1 - (l0.length : Int))) < 0 then (some (-1)) else (some (wrap64 (a1 - (l0.length : Int))))
end Go.Proofs.Ytedodaifpekahaa.P

end
section

namespace Go.Proofs.Ytedodaifpekahaa.P
open Go.RowKit Go.Proofs.YtedodaifpekahaaW.PrintWords Go.Proofs.YtedodaifpekahaaW.PrintLast Go.Proofs.YtedodaifpekahaaW.PrintMore
attribute [local go_sem] max2_int min2_int max_two min_two max_three min_three max_four min_four
set_option linter.unusedVariables false
set_option linter.unusedSimpArgs false
def laws_szMethod.f (k : Nat) (a0_0 : Int) (a0_1 : Int) (l0_2 : List Int) (a0_3 : Int) (a0_4 : Int) (l0_5 : List (S113)) (l0_6 : List (S111)) (l0_7 : List (S116)) (a1 : Int) : Option (Int) := (laws_szIntS.f l0_2 a1).bind fun t111 => (if t111 < 0 then (some (-1)) else ((laws_szInsS.f l0_5 t111).bind fun t112 => (if t112 < 0 then (some (-1)) else ((laws_szShapeS.f k l0_6 t112).bind fun t113 => (if t113 < 0 then (some (-1)) else ((laws_szCatchS.f l0_7 t113).bind fun t114 => (if t114 < 0 then (some (-1)) else (some t114))))))))
end Go.Proofs.Ytedodaifpekahaa.P

end
section

namespace Go.Proofs.Ytedodaifpekahaa.P
open Go.RowKit Go.Proofs.YtedodaifpekahaaW.PrintWords Go.Proofs.YtedodaifpekahaaW.PrintLast Go.Proofs.YtedodaifpekahaaW.PrintMore
attribute [local go_sem] max2_int min2_int max_two min_two max_three min_three max_four min_four
set_option linter.unusedVariables false
set_option linter.unusedSimpArgs false
def laws_szMethodS.l0 : Nat → List (S64) → Int → Int → Option (Int)
  | 0, _, _, _ => none
  | k + 1, x0, x1, x5 => if x5 < (x0.length : Int) then (if 0 ≤ x5 then ((laws_szMethod.f k ((rd_T64 x0 x5).f0) ((rd_T64 x0 x5).f1) ((rd_T64 x0 x5).f2) ((rd_T64 x0 x5).f3) ((rd_T64 x0 x5).f4) ((rd_T64 x0 x5).f5) ((rd_T64 x0 x5).f6) ((rd_T64 x0 x5).f7) x1).bind fun t116 => (if t116 < 0 then (some (-1)) else (laws_szMethodS.l0 k x0 t116 (wrap64 (x5 + 1))))) else (none)) else (some x1)
def laws_szMethodS.f (k : Nat) (l0 : List (S64)) (a1 : Int) : Option (Int) := if (wrap64 (a1 - (l0.length : Int))) < 0 then (some (-1)) else (laws_szMethodS.l0 k l0 (wrap64 (a1 - (l0.length : Int))) 0)
end Go.Proofs.Ytedodaifpekahaa.P

end
section

namespace Go.Proofs.Ytedodaifpekahaa.P
open Go.RowKit Go.Proofs.YtedodaifpekahaaW.PrintWords Go.Proofs.YtedodaifpekahaaW.PrintLast Go.Proofs.YtedodaifpekahaaW.PrintMore
attribute [local go_sem] max2_int min2_int max_two min_two max_three min_three max_four min_four
set_option linter.unusedVariables false
set_option linter.unusedSimpArgs false
def laws_szUnit.f (k : Nat) (l0_0 : List (S58)) (l0_1 : List (S64)) (a1 : Int) : Option (Int) := (laws_szClassS.f k l0_0 a1).bind fun t118 => (if t118 < 0 then (some (-1)) else ((laws_szMethodS.f k l0_1 t118).bind fun t119 => (if t119 < 0 then (some (-1)) else (some t119))))
end Go.Proofs.Ytedodaifpekahaa.P

end
section

namespace Go.Proofs.Ytedodaifpekahaa.P
open Go.RowKit Go.Proofs.YtedodaifpekahaaW.PrintWords Go.Proofs.YtedodaifpekahaaW.PrintLast Go.Proofs.YtedodaifpekahaaW.PrintMore
attribute [local go_sem] max2_int min2_int max_two min_two max_three min_three max_four min_four
set_option linter.unusedVariables false
set_option linter.unusedSimpArgs false
def laws_toIntS.l0 : Nat → List Int → List Int → Int → Option (List Int)
  | 0, _, _, _ => none
  | k + 1, x0, x3, x4 => if x4 < (x0.length : Int) then (if 0 ≤ x4 then (if x4 < (x3.length : Int) then (laws_toIntS.l0 k x0 (x3.set (x4 : Int).toNat (rd x0 x4)) (wrap64 (x4 + 1))) else (none)) else (none)) else (some x3)
def laws_toIntS.f (k : Nat) (l0 : List Int) : Option (List Int) := if 0 ≤ (l0.length : Int) then (if ((l0.length : Int) : Int).toNat ≤ 35184372088832 then (laws_toIntS.l0 k l0 (List.replicate ((l0.length : Int) : Int).toNat 0) 0) else (none)) else (none)
end Go.Proofs.Ytedodaifpekahaa.P

end
section

namespace Go.Proofs.Ytedodaifpekahaa.P
open Go.RowKit Go.Proofs.YtedodaifpekahaaW.PrintWords Go.Proofs.YtedodaifpekahaaW.PrintLast Go.Proofs.YtedodaifpekahaaW.PrintMore
attribute [local go_sem] max2_int min2_int max_two min_two max_three min_three max_four min_four
set_option linter.unusedVariables false
set_option linter.unusedSimpArgs false
def laws_toClass.f (k : Nat) (a0_0 : Int) (l0_1 : List Int) : Option (Int × List Int) := (laws_toIntS.f k l0_1).bind fun t221 => (some (a0_0, t221))
end Go.Proofs.Ytedodaifpekahaa.P

end
section

namespace Go.Proofs.Ytedodaifpekahaa.P
open Go.RowKit Go.Proofs.YtedodaifpekahaaW.PrintWords Go.Proofs.YtedodaifpekahaaW.PrintLast Go.Proofs.YtedodaifpekahaaW.PrintMore
attribute [local go_sem] max2_int min2_int max_two min_two max_three min_three max_four min_four
set_option linter.unusedVariables false
set_option linter.unusedSimpArgs false
def laws_toClassS.l0 : Nat → List (S58) → List (S76) → Int → Option ((List (S76)))
  | 0, _, _, _ => none
  | k + 1, x0, x3, x4 => if x4 < (x0.length : Int) then (if 0 ≤ x4 then ((laws_toClass.f k ((rd_T58 x0 x4).f0) ((rd_T58 x0 x4).f1)).bind fun bt228 => (if x4 < (x3.length : Int) then (laws_toClassS.l0 k x0 (x3.set (x4 : Int).toNat (⟨bt228.1, bt228.2⟩ : S76)) (wrap64 (x4 + 1))) else (none))) else (none)) else (some x3)
def laws_toClassS.f (k : Nat) (l0 : List (S58)) : Option ((List (S76))) := if 0 ≤ (l0.length : Int) then (if ((l0.length : Int) : Int).toNat ≤ 8796093022208 then (laws_toClassS.l0 k l0 (List.replicate ((l0.length : Int) : Int).toNat z76) 0) else (none)) else (none)
end Go.Proofs.Ytedodaifpekahaa.P

end
section

namespace Go.Proofs.Ytedodaifpekahaa.P
open Go.RowKit Go.Proofs.YtedodaifpekahaaW.PrintWords Go.Proofs.YtedodaifpekahaaW.PrintLast Go.Proofs.YtedodaifpekahaaW.PrintMore
attribute [local go_sem] max2_int min2_int max_two min_two max_three min_three max_four min_four
set_option linter.unusedVariables false
set_option linter.unusedSimpArgs false
def laws_toIns.f (a0_0 : Int) (a0_1 : Int) (a0_2 : Int) : Option (Int × Int × Int) := some (a0_0, a0_1, a0_2)
end Go.Proofs.Ytedodaifpekahaa.P

end
section

namespace Go.Proofs.Ytedodaifpekahaa.P
open Go.RowKit Go.Proofs.YtedodaifpekahaaW.PrintWords Go.Proofs.YtedodaifpekahaaW.PrintLast Go.Proofs.YtedodaifpekahaaW.PrintMore
attribute [local go_sem] max2_int min2_int max_two min_two max_three min_three max_four min_four
set_option linter.unusedVariables false
set_option linter.unusedSimpArgs false
def laws_toInsS.l0 : Nat → List (S113) → List (S67) → Int → Option ((List (S67)))
  | 0, _, _, _ => none
  | k + 1, x0, x3, x4 => if x4 < (x0.length : Int) then (if 0 ≤ x4 then ((laws_toIns.f ((rd_T113 x0 x4).f0) ((rd_T113 x0 x4).f1) ((rd_T113 x0 x4).f2)).bind fun bt240 => (if x4 < (x3.length : Int) then (laws_toInsS.l0 k x0 (x3.set (x4 : Int).toNat (⟨bt240.1, bt240.2.1, bt240.2.2⟩ : S67)) (wrap64 (x4 + 1))) else (none))) else (none)) else (some x3)
def laws_toInsS.f (k : Nat) (l0 : List (S113)) : Option ((List (S67))) := if 0 ≤ (l0.length : Int) then (if ((l0.length : Int) : Int).toNat ≤ 11728124029610 then (laws_toInsS.l0 k l0 (List.replicate ((l0.length : Int) : Int).toNat z67) 0) else (none)) else (none)
end Go.Proofs.Ytedodaifpekahaa.P

end
section

namespace Go.Proofs.Ytedodaifpekahaa.P
open Go.RowKit Go.Proofs.YtedodaifpekahaaW.PrintWords Go.Proofs.YtedodaifpekahaaW.PrintLast Go.Proofs.YtedodaifpekahaaW.PrintMore
attribute [local go_sem] max2_int min2_int max_two min_two max_three min_three max_four min_four
set_option linter.unusedVariables false
set_option linter.unusedSimpArgs false
def laws_toShape.f (k : Nat) (a0_0 : Bool) (l0_1 : List Int) (l0_2 : List Int) : Option (Bool × List Int × List Int) := (laws_toIntS.f k l0_1).bind fun t247 => ((laws_toIntS.f k l0_2).bind fun t250 => (some (a0_0, t247, t250)))
end Go.Proofs.Ytedodaifpekahaa.P

end
section

namespace Go.Proofs.Ytedodaifpekahaa.P
open Go.RowKit Go.Proofs.YtedodaifpekahaaW.PrintWords Go.Proofs.YtedodaifpekahaaW.PrintLast Go.Proofs.YtedodaifpekahaaW.PrintMore
attribute [local go_sem] max2_int min2_int max_two min_two max_three min_three max_four min_four
set_option linter.unusedVariables false
set_option linter.unusedSimpArgs false
def laws_toShapeS.l0 : Nat → List (S111) → List (S70) → Int → Option ((List (S70)))
  | 0, _, _, _ => none
  | k + 1, x0, x3, x4 => if x4 < (x0.length : Int) then (if 0 ≤ x4 then ((laws_toShape.f k ((rd_T111 x0 x4).f0) ((rd_T111 x0 x4).f1) ((rd_T111 x0 x4).f2)).bind fun bt257 => (if x4 < (x3.length : Int) then (laws_toShapeS.l0 k x0 (x3.set (x4 : Int).toNat (⟨bt257.1, bt257.2.1, bt257.2.2⟩ : S70)) (wrap64 (x4 + 1))) else (none))) else (none)) else (some x3)
def laws_toShapeS.f (k : Nat) (l0 : List (S111)) : Option ((List (S70))) := if 0 ≤ (l0.length : Int) then (if ((l0.length : Int) : Int).toNat ≤ 5026338869833 then (laws_toShapeS.l0 k l0 (List.replicate ((l0.length : Int) : Int).toNat z70) 0) else (none)) else (none)
end Go.Proofs.Ytedodaifpekahaa.P

end
section

namespace Go.Proofs.Ytedodaifpekahaa.P
open Go.RowKit Go.Proofs.YtedodaifpekahaaW.PrintWords Go.Proofs.YtedodaifpekahaaW.PrintLast Go.Proofs.YtedodaifpekahaaW.PrintMore
attribute [local go_sem] max2_int min2_int max_two min_two max_three min_three max_four min_four
set_option linter.unusedVariables false
set_option linter.unusedSimpArgs false
def laws_toCatch.f (a0_0 : Int) (a0_1 : Int) (a0_2 : Int) (a0_3 : Int) : Option (Int × Int × Int × Int) := some (a0_0, a0_1, a0_2, a0_3)
end Go.Proofs.Ytedodaifpekahaa.P

end
section

namespace Go.Proofs.Ytedodaifpekahaa.P
open Go.RowKit Go.Proofs.YtedodaifpekahaaW.PrintWords Go.Proofs.YtedodaifpekahaaW.PrintLast Go.Proofs.YtedodaifpekahaaW.PrintMore
attribute [local go_sem] max2_int min2_int max_two min_two max_three min_three max_four min_four
set_option linter.unusedVariables false
set_option linter.unusedSimpArgs false
def laws_toCatchS.l0 : Nat → List (S116) → List (S73) → Int → Option ((List (S73)))
  | 0, _, _, _ => none
  | k + 1, x0, x3, x4 => if x4 < (x0.length : Int) then (if 0 ≤ x4 then ((laws_toCatch.f ((rd_T116 x0 x4).f0) ((rd_T116 x0 x4).f1) ((rd_T116 x0 x4).f2) ((rd_T116 x0 x4).f3)).bind fun bt272 => (if x4 < (x3.length : Int) then (laws_toCatchS.l0 k x0 (x3.set (x4 : Int).toNat (⟨bt272.1, bt272.2.1, bt272.2.2.1, bt272.2.2.2⟩ : S73)) (wrap64 (x4 + 1))) else (none))) else (none)) else (some x3)
def laws_toCatchS.f (k : Nat) (l0 : List (S116)) : Option ((List (S73))) := if 0 ≤ (l0.length : Int) then (if ((l0.length : Int) : Int).toNat ≤ 8796093022208 then (laws_toCatchS.l0 k l0 (List.replicate ((l0.length : Int) : Int).toNat z73) 0) else (none)) else (none)
end Go.Proofs.Ytedodaifpekahaa.P

end
section

namespace Go.Proofs.Ytedodaifpekahaa.P
open Go.RowKit Go.Proofs.YtedodaifpekahaaW.PrintWords Go.Proofs.YtedodaifpekahaaW.PrintLast Go.Proofs.YtedodaifpekahaaW.PrintMore
attribute [local go_sem] max2_int min2_int max_two min_two max_three min_three max_four min_four
set_option linter.unusedVariables false
set_option linter.unusedSimpArgs false
def laws_toMethod.f (k : Nat) (a0_0 : Int) (a0_1 : Int) (l0_2 : List Int) (a0_3 : Int) (a0_4 : Int) (l0_5 : List (S113)) (l0_6 : List (S111)) (l0_7 : List (S116)) : Option (Int × Int × List Int × Int × Int × (List (S67)) × (List (S70)) × (List (S73))) := (laws_toIntS.f k l0_2).bind fun t280 => ((laws_toInsS.f k l0_5).bind fun t283 => ((laws_toShapeS.f k l0_6).bind fun t286 => ((laws_toCatchS.f k l0_7).bind fun t289 => (some (a0_0, a0_1, t280, a0_3, a0_4, t283, t286, t289)))))
end Go.Proofs.Ytedodaifpekahaa.P

end
section

namespace Go.Proofs.Ytedodaifpekahaa.P
open Go.RowKit Go.Proofs.YtedodaifpekahaaW.PrintWords Go.Proofs.YtedodaifpekahaaW.PrintLast Go.Proofs.YtedodaifpekahaaW.PrintMore
attribute [local go_sem] max2_int min2_int max_two min_two max_three min_three max_four min_four
set_option linter.unusedVariables false
set_option linter.unusedSimpArgs false
def laws_toMethodS.l0 : Nat → List (S64) → List (S46) → Int → Option ((List (S46)))
  | 0, _, _, _ => none
  | k + 1, x0, x3, x4 => if x4 < (x0.length : Int) then (if 0 ≤ x4 then ((laws_toMethod.f k ((rd_T64 x0 x4).f0) ((rd_T64 x0 x4).f1) ((rd_T64 x0 x4).f2) ((rd_T64 x0 x4).f3) ((rd_T64 x0 x4).f4) ((rd_T64 x0 x4).f5) ((rd_T64 x0 x4).f6) ((rd_T64 x0 x4).f7)).bind fun bt296 => (if x4 < (x3.length : Int) then (laws_toMethodS.l0 k x0 (x3.set (x4 : Int).toNat (⟨bt296.1, bt296.2.1, bt296.2.2.1, bt296.2.2.2.1, bt296.2.2.2.2.1, bt296.2.2.2.2.2.1, bt296.2.2.2.2.2.2.1, bt296.2.2.2.2.2.2.2⟩ : S46)) (wrap64 (x4 + 1))) else (none))) else (none)) else (some x3)
def laws_toMethodS.f (k : Nat) (l0 : List (S64)) : Option ((List (S46))) := if 0 ≤ (l0.length : Int) then (if ((l0.length : Int) : Int).toNat ≤ 2199023255552 then (laws_toMethodS.l0 k l0 (List.replicate ((l0.length : Int) : Int).toNat z46) 0) else (none)) else (none)
end Go.Proofs.Ytedodaifpekahaa.P

end
section

namespace Go.Proofs.Ytedodaifpekahaa.P
open Go.RowKit Go.Proofs.YtedodaifpekahaaW.PrintWords Go.Proofs.YtedodaifpekahaaW.PrintLast Go.Proofs.YtedodaifpekahaaW.PrintMore
attribute [local go_sem] max2_int min2_int max_two min_two max_three min_three max_four min_four
set_option linter.unusedVariables false
set_option linter.unusedSimpArgs false
def laws_toUnit.f (k : Nat) (l0_0 : List (S58)) (l0_1 : List (S64)) : Option ((List (S76)) × (List (S46))) := (laws_toClassS.f k l0_0).bind fun t316 => ((laws_toMethodS.f k l0_1).bind fun t319 => (some (t316, t319)))
end Go.Proofs.Ytedodaifpekahaa.P

end
section

namespace Go.Proofs.Ytedodaifpekahaa.P
open Go.RowKit Go.Proofs.YtedodaifpekahaaW.PrintWords Go.Proofs.YtedodaifpekahaaW.PrintLast Go.Proofs.YtedodaifpekahaaW.PrintMore
attribute [local go_sem] max2_int min2_int max_two min_two max_three min_three max_four min_four
set_option linter.unusedVariables false
set_option linter.unusedSimpArgs false
def laws_eqIntS.l0 : Nat → List Int → List Int → Int → Option (Bool)
  | 0, _, _, _ => none
  | k + 1, x0, x1, x5 => if x5 < (x0.length : Int) then (if 0 ≤ x5 then (if x5 < (x1.length : Int) then (if (rd x0 x5) = (rd x1 x5) then (laws_eqIntS.l0 k x0 x1 (wrap64 (x5 + 1))) else (some false)) else (none)) else (none)) else (some true)
def laws_eqIntS.f (k : Nat) (l0 : List Int) (l1 : List Int) : Option (Bool) := if (l0.length : Int) = (l1.length : Int) then (laws_eqIntS.l0 k l0 l1 0) else (some false)
end Go.Proofs.Ytedodaifpekahaa.P

end
section

namespace Go.Proofs.Ytedodaifpekahaa.P
open Go.RowKit Go.Proofs.YtedodaifpekahaaW.PrintWords Go.Proofs.YtedodaifpekahaaW.PrintLast Go.Proofs.YtedodaifpekahaaW.PrintMore
attribute [local go_sem] max2_int min2_int max_two min_two max_three min_three max_four min_four
set_option linter.unusedVariables false
set_option linter.unusedSimpArgs false
def laws_eqClass.f (k : Nat) (a0_0 : Int) (l0_1 : List Int) (a1_0 : Int) (l1_1 : List Int) : Option (Bool) := if a0_0 = a1_0 then ((laws_eqIntS.f k l0_1 l1_1).bind fun t416 => (if t416 = true then (some true) else (some false))) else (some false)
end Go.Proofs.Ytedodaifpekahaa.P

end
section

namespace Go.Proofs.Ytedodaifpekahaa.P
open Go.RowKit Go.Proofs.YtedodaifpekahaaW.PrintWords Go.Proofs.YtedodaifpekahaaW.PrintLast Go.Proofs.YtedodaifpekahaaW.PrintMore
attribute [local go_sem] max2_int min2_int max_two min_two max_three min_three max_four min_four
set_option linter.unusedVariables false
set_option linter.unusedSimpArgs false
def laws_eqClassS.l0 : Nat → List (S76) → List (S76) → Int → Option (Bool)
  | 0, _, _, _ => none
  | k + 1, x0, x1, x5 => if x5 < (x0.length : Int) then (if 0 ≤ x5 then (if x5 < (x1.length : Int) then ((laws_eqClass.f k ((rd_T76 x0 x5).f0) ((rd_T76 x0 x5).f1) ((rd_T76 x1 x5).f0) ((rd_T76 x1 x5).f1)).bind fun t419 => (if t419 = true then (laws_eqClassS.l0 k x0 x1 (wrap64 (x5 + 1))) else (some false))) else (none)) else (none)) else (some true)
def laws_eqClassS.f (k : Nat) (l0 : List (S76)) (l1 : List (S76)) : Option (Bool) := if (l0.length : Int) = (l1.length : Int) then (laws_eqClassS.l0 k l0 l1 0) else (some false)
end Go.Proofs.Ytedodaifpekahaa.P

end
section

namespace Go.Proofs.Ytedodaifpekahaa.P
open Go.RowKit Go.Proofs.YtedodaifpekahaaW.PrintWords Go.Proofs.YtedodaifpekahaaW.PrintLast Go.Proofs.YtedodaifpekahaaW.PrintMore
attribute [local go_sem] max2_int min2_int max_two min_two max_three min_three max_four min_four
set_option linter.unusedVariables false
set_option linter.unusedSimpArgs false
def laws_eqIns.f (a0_0 : Int) (a0_1 : Int) (a0_2 : Int) (a1_0 : Int) (a1_1 : Int) (a1_2 : Int) : Option (Bool) := if a0_0 = a1_0 then (if a0_1 = a1_1 then (if a0_2 = a1_2 then (some true) else (some false)) else (some false)) else (some false)
end Go.Proofs.Ytedodaifpekahaa.P

end
section

namespace Go.Proofs.Ytedodaifpekahaa.P
open Go.RowKit Go.Proofs.YtedodaifpekahaaW.PrintWords Go.Proofs.YtedodaifpekahaaW.PrintLast Go.Proofs.YtedodaifpekahaaW.PrintMore
attribute [local go_sem] max2_int min2_int max_two min_two max_three min_three max_four min_four
set_option linter.unusedVariables false
set_option linter.unusedSimpArgs false
def laws_eqInsS.l0 : Nat → List (S67) → List (S67) → Int → Option (Bool)
  | 0, _, _, _ => none
  | k + 1, x0, x1, x5 => if x5 < (x0.length : Int) then (if 0 ≤ x5 then (if x5 < (x1.length : Int) then ((laws_eqIns.f ((rd_T67 x0 x5).f0) ((rd_T67 x0 x5).f1) ((rd_T67 x0 x5).f2) ((rd_T67 x1 x5).f0) ((rd_T67 x1 x5).f1) ((rd_T67 x1 x5).f2)).bind fun t424 => (if t424 = true then (laws_eqInsS.l0 k x0 x1 (wrap64 (x5 + 1))) else (some false))) else (none)) else (none)) else (some true)
def laws_eqInsS.f (k : Nat) (l0 : List (S67)) (l1 : List (S67)) : Option (Bool) := if (l0.length : Int) = (l1.length : Int) then (laws_eqInsS.l0 k l0 l1 0) else (some false)
end Go.Proofs.Ytedodaifpekahaa.P

end
section

namespace Go.Proofs.Ytedodaifpekahaa.P
open Go.RowKit Go.Proofs.YtedodaifpekahaaW.PrintWords Go.Proofs.YtedodaifpekahaaW.PrintLast Go.Proofs.YtedodaifpekahaaW.PrintMore
attribute [local go_sem] max2_int min2_int max_two min_two max_three min_three max_four min_four
set_option linter.unusedVariables false
set_option linter.unusedSimpArgs false
def laws_eqShape.f (k : Nat) (a0_0 : Bool) (l0_1 : List Int) (l0_2 : List Int) (a1_0 : Bool) (l1_1 : List Int) (l1_2 : List Int) : Option (Bool) := if (a0_0 != a1_0) = true then (some false) else ((laws_eqIntS.f k l0_1 l1_1).bind fun t427 => (if t427 = true then ((laws_eqIntS.f k l0_2 l1_2).bind fun t428 => (if t428 = true then (some true) else (some false))) else (some false)))
end Go.Proofs.Ytedodaifpekahaa.P

end
section

namespace Go.Proofs.Ytedodaifpekahaa.P
open Go.RowKit Go.Proofs.YtedodaifpekahaaW.PrintWords Go.Proofs.YtedodaifpekahaaW.PrintLast Go.Proofs.YtedodaifpekahaaW.PrintMore
attribute [local go_sem] max2_int min2_int max_two min_two max_three min_three max_four min_four
set_option linter.unusedVariables false
set_option linter.unusedSimpArgs false
def laws_eqShapeS.l0 : Nat → List (S70) → List (S70) → Int → Option (Bool)
  | 0, _, _, _ => none
  | k + 1, x0, x1, x5 => if x5 < (x0.length : Int) then (if 0 ≤ x5 then (if x5 < (x1.length : Int) then ((laws_eqShape.f k ((rd_T70 x0 x5).f0) ((rd_T70 x0 x5).f1) ((rd_T70 x0 x5).f2) ((rd_T70 x1 x5).f0) ((rd_T70 x1 x5).f1) ((rd_T70 x1 x5).f2)).bind fun t431 => (if t431 = true then (laws_eqShapeS.l0 k x0 x1 (wrap64 (x5 + 1))) else (some false))) else (none)) else (none)) else (some true)
def laws_eqShapeS.f (k : Nat) (l0 : List (S70)) (l1 : List (S70)) : Option (Bool) := if (l0.length : Int) = (l1.length : Int) then (laws_eqShapeS.l0 k l0 l1 0) else (some false)
end Go.Proofs.Ytedodaifpekahaa.P

end
section

namespace Go.Proofs.Ytedodaifpekahaa.P
open Go.RowKit Go.Proofs.YtedodaifpekahaaW.PrintWords Go.Proofs.YtedodaifpekahaaW.PrintLast Go.Proofs.YtedodaifpekahaaW.PrintMore
attribute [local go_sem] max2_int min2_int max_two min_two max_three min_three max_four min_four
set_option linter.unusedVariables false
set_option linter.unusedSimpArgs false
def laws_eqCatch.f (a0_0 : Int) (a0_1 : Int) (a0_2 : Int) (a0_3 : Int) (a1_0 : Int) (a1_1 : Int) (a1_2 : Int) (a1_3 : Int) : Option (Bool) := if a0_0 = a1_0 then (if a0_1 = a1_1 then (if a0_2 = a1_2 then (if a0_3 = a1_3 then (some true) else (some false)) else (some false)) else (some false)) else (some false)
end Go.Proofs.Ytedodaifpekahaa.P

end
section

namespace Go.Proofs.Ytedodaifpekahaa.P
open Go.RowKit Go.Proofs.YtedodaifpekahaaW.PrintWords Go.Proofs.YtedodaifpekahaaW.PrintLast Go.Proofs.YtedodaifpekahaaW.PrintMore
attribute [local go_sem] max2_int min2_int max_two min_two max_three min_three max_four min_four
set_option linter.unusedVariables false
set_option linter.unusedSimpArgs false
def laws_eqCatchS.l0 : Nat → List (S73) → List (S73) → Int → Option (Bool)
  | 0, _, _, _ => none
  | k + 1, x0, x1, x5 => if x5 < (x0.length : Int) then (if 0 ≤ x5 then (if x5 < (x1.length : Int) then ((laws_eqCatch.f ((rd_T73 x0 x5).f0) ((rd_T73 x0 x5).f1) ((rd_T73 x0 x5).f2) ((rd_T73 x0 x5).f3) ((rd_T73 x1 x5).f0) ((rd_T73 x1 x5).f1) ((rd_T73 x1 x5).f2) ((rd_T73 x1 x5).f3)).bind fun t436 => (if t436 = true then (laws_eqCatchS.l0 k x0 x1 (wrap64 (x5 + 1))) else (some false))) else (none)) else (none)) else (some true)
def laws_eqCatchS.f (k : Nat) (l0 : List (S73)) (l1 : List (S73)) : Option (Bool) := if (l0.length : Int) = (l1.length : Int) then (laws_eqCatchS.l0 k l0 l1 0) else (some false)
end Go.Proofs.Ytedodaifpekahaa.P

end
section

namespace Go.Proofs.Ytedodaifpekahaa.P
open Go.RowKit Go.Proofs.YtedodaifpekahaaW.PrintWords Go.Proofs.YtedodaifpekahaaW.PrintLast Go.Proofs.YtedodaifpekahaaW.PrintMore
attribute [local go_sem] max2_int min2_int max_two min_two max_three min_three max_four min_four
set_option linter.unusedVariables false
set_option linter.unusedSimpArgs false
def laws_eqMethod.f (k : Nat) (a0_0 : Int) (a0_1 : Int) (l0_2 : List Int) (a0_3 : Int) (a0_4 : Int) (l0_5 : List (S67)) (l0_6 : List (S70)) (l0_7 : List (S73)) (a1_0 : Int) (a1_1 : Int) (l1_2 : List Int) (a1_3 : Int) (a1_4 : Int) (l1_5 : List (S67)) (l1_6 : List (S70)) (l1_7 : List (S73)) : Option (Bool) := if a0_0 = a1_0 then (if a0_1 = a1_1 then ((laws_eqIntS.f k l0_2 l1_2).bind fun t439 => (if t439 = true then (if a0_3 = a1_3 then (if a0_4 = a1_4 then ((laws_eqInsS.f k l0_5 l1_5).bind fun t440 => (if t440 = true then ((laws_eqShapeS.f k l0_6 l1_6).bind fun t441 => (if t441 = true then ((laws_eqCatchS.f k l0_7 l1_7).bind fun t442 => (if t442 = true then (some true) else (some false))) else (some false))) else (some false))) else (some false)) else (some false)) else (some false))) else (some false)) else (some false)
end Go.Proofs.Ytedodaifpekahaa.P

end
section

namespace Go.Proofs.Ytedodaifpekahaa.P
open Go.RowKit Go.Proofs.YtedodaifpekahaaW.PrintWords Go.Proofs.YtedodaifpekahaaW.PrintLast Go.Proofs.YtedodaifpekahaaW.PrintMore
attribute [local go_sem] max2_int min2_int max_two min_two max_three min_three max_four min_four
set_option linter.unusedVariables false
set_option linter.unusedSimpArgs false
def laws_eqMethodS.l0 : Nat → List (S46) → List (S46) → Int → Option (Bool)
  | 0, _, _, _ => none
  | k + 1, x0, x1, x5 => if x5 < (x0.length : Int) then (if 0 ≤ x5 then (if x5 < (x1.length : Int) then ((laws_eqMethod.f k ((rd_T46 x0 x5).f0) ((rd_T46 x0 x5).f1) ((rd_T46 x0 x5).f2) ((rd_T46 x0 x5).f3) ((rd_T46 x0 x5).f4) ((rd_T46 x0 x5).f5) ((rd_T46 x0 x5).f6) ((rd_T46 x0 x5).f7) ((rd_T46 x1 x5).f0) ((rd_T46 x1 x5).f1) ((rd_T46 x1 x5).f2) ((rd_T46 x1 x5).f3) ((rd_T46 x1 x5).f4) ((rd_T46 x1 x5).f5) ((rd_T46 x1 x5).f6) ((rd_T46 x1 x5).f7)).bind fun t445 => (if t445 = true then (laws_eqMethodS.l0 k x0 x1 (wrap64 (x5 + 1))) else (some false))) else (none)) else (none)) else (some true)
def laws_eqMethodS.f (k : Nat) (l0 : List (S46)) (l1 : List (S46)) : Option (Bool) := if (l0.length : Int) = (l1.length : Int) then (laws_eqMethodS.l0 k l0 l1 0) else (some false)
end Go.Proofs.Ytedodaifpekahaa.P

end
section

namespace Go.Proofs.Ytedodaifpekahaa.P
open Go.RowKit Go.Proofs.YtedodaifpekahaaW.PrintWords Go.Proofs.YtedodaifpekahaaW.PrintLast Go.Proofs.YtedodaifpekahaaW.PrintMore
attribute [local go_sem] max2_int min2_int max_two min_two max_three min_three max_four min_four
set_option linter.unusedVariables false
set_option linter.unusedSimpArgs false
def laws_eqUnit.f (k : Nat) (l0_0 : List (S76)) (l0_1 : List (S46)) (l1_0 : List (S76)) (l1_1 : List (S46)) : Option (Bool) := (laws_eqClassS.f k l0_0 l1_0).bind fun t448 => (if t448 = true then ((laws_eqMethodS.f k l0_1 l1_1).bind fun t449 => (if t449 = true then (some true) else (some false))) else (some false))
end Go.Proofs.Ytedodaifpekahaa.P

end
section

namespace Go.Proofs.Ytedodaifpekahaa.P
open Go.RowKit Go.Proofs.YtedodaifpekahaaW.PrintWords Go.Proofs.YtedodaifpekahaaW.PrintLast Go.Proofs.YtedodaifpekahaaW.PrintMore
attribute [local go_sem] max2_int min2_int max_two min_two max_three min_three max_four min_four
set_option linter.unusedVariables false
set_option linter.unusedSimpArgs false
def laws_FnExactUnitFind.f (k : Nat) (l0_0 : List (S58)) (l0_1 : List (S64)) (a1 : Int) (a2 : Int) : Option (Bool) := (laws_szUnit.f k l0_0 l0_1 1048576).bind fun t491 => (if t491 < 0 then (some true) else ((laws_toUnit.f k l0_0 l0_1).bind fun bt492 => ((spec_UnitFind.f k bt492.1 bt492.2 a1 a2).bind fun t498 => ((laws_toUnit.f k l0_0 l0_1).bind fun bt499 => ((impl_UnitFind.f k bt499.1 bt499.2 a1 a2).bind fun t506 => (if t506 = t498 then ((laws_toUnit.f k l0_0 l0_1).bind fun bt507 => ((laws_eqUnit.f k bt499.1 bt499.2 bt507.1 bt507.2).bind fun t513 => (if t513 = true then (some true) else (some false)))) else (some false)))))))
end Go.Proofs.Ytedodaifpekahaa.P

end
section

namespace Go.Proofs.Ytedodaifpekahaa.P
open Go.RowKit Go.Proofs.YtedodaifpekahaaW.PrintWords Go.Proofs.YtedodaifpekahaaW.PrintLast Go.Proofs.YtedodaifpekahaaW.PrintMore
attribute [local go_sem] max2_int min2_int max_two min_two max_three min_three max_four min_four
set_option linter.unusedVariables false
set_option linter.unusedSimpArgs false
set_option maxHeartbeats 8000000 in
set_option maxRecDepth 100000 in
theorem spec_l6In.calls (a0 : Int) (a1 : Int) (a2 : Int) (r : Bool) (w : World) (h : spec_l6In.f a0 a1 a2 = some r) :
  Calls Try.prog 15 #[.int .i64 a0, .int .i64 a1, .int .i64 a2] w fun e w' => e = .returned (.bool r) ∧ Drawn0 w w' := by
 have H : (if a0 ≥ a1 then (some (decide (a0 ≤ a2))) else (some false)) = some r := h
 clear h
 by_cases c4 : a0 ≥ a1
 ·rw [if_pos c4] at H
  have c4b0 : decide (a1 ≤ a0) = true := decide_eq_true c4
  clear c4
  obtain rfl := Option.some.inj H; clear H
  go_enter Try.func15, Try.ntmps15
  go_wp2
  go_ret
  exact ⟨by first | rfl | (simp; done) | (simp [*]; done), by repeat (first | exact Drawn0.refl _ | apply Drawn0.step)⟩
 ·rw [if_neg c4] at H
  have c4b0 : decide (a1 ≤ a0) = false := decide_eq_false c4
  clear c4
  obtain rfl := Option.some.inj H; clear H
  go_enter Try.func15, Try.ntmps15
  go_wp2
  go_ret
  exact ⟨by first | rfl | (simp; done) | (simp [*]; done), by repeat (first | exact Drawn0.refl _ | apply Drawn0.step)⟩
end Go.Proofs.Ytedodaifpekahaa.P

end
section

namespace Go.Proofs.Ytedodaifpekahaa.P
open Go.RowKit Go.Proofs.YtedodaifpekahaaW.PrintWords Go.Proofs.YtedodaifpekahaaW.PrintLast Go.Proofs.YtedodaifpekahaaW.PrintMore
attribute [local go_sem] max2_int min2_int max_two min_two max_three min_three max_four min_four
set_option linter.unusedVariables false
set_option linter.unusedSimpArgs false
set_option maxHeartbeats 8000000 in
set_option maxRecDepth 100000 in
theorem spec_l3Find.calls (k : Nat) (A0_0 : Option Addr) (c0_0 : Nat) (l0_0 : List (S76)) (A0_1 : Option Addr) (c0_1 : Nat) (l0_1 : List (S46)) (a1 : Int) (a2 : Int) (r : Int) (w : World) (hr0_0 : Kd.C k76 w A0_0 l0_0.length l0_0) (hc0_0 : l0_0.length ≤ c0_0) (hr0_1 : Kd.C k46 w A0_1 l0_1.length l0_1) (hc0_1 : l0_1.length ≤ c0_1) (h : spec_l3Find.f k l0_0 l0_1 a1 a2 = some r) :
  Calls Try.prog 28 #[.agg #[.slice A0_0 l0_0.length c0_0, .slice A0_1 l0_1.length c0_1], .int .i64 a1, .int .i64 a2] w fun e w' => e = .returned (.int .i64 r) ∧ Below w.heap.size w w' := by
 have hu31 := Try.underlying31
 have HR0_0 := Aside0.mk hr0_0
 have HC0_0 := Aside0.mk hc0_0
 clear hr0_0 hc0_0
 have HR0_1 := Aside0.mk hr0_1
 have HC0_1 := Aside0.mk hc0_1
 clear hr0_1 hc0_1
 have HB := Aside0.mk (Below.refl w.heap.size w)
 have H : (spec_l3Find.l0 k a1 a2 l0_0 l0_1) = some r := h
 clear h
 have H' := Aside0.mk H
 clear H
 go_enter Try.func28, Try.ntmps28
 go_wp2_with (first | ((with_reducible refine gd 3 rfl ?_); refine bx 3 #[.slice A0_0 l0_0.length c0_0, .slice A0_1 l0_1.length c0_1] 31 ?_; intro gb474 hg w4 hbox hb; have BK474 := Aside0.mk hbox; have GW474 := hz HB hg; have GE474 := hz HB hg; replace HB := hs HB hb; clear hb hbox hg))
 go_loopg [1] k (fun kq v1 w' => ∃ (x1_1 : Int), v1 = .int .i64 x1_1 ∧ Aside0 (spec_l3Find.l0 kq x1_1 a2 l0_0 l0_1 = some r) ∧ Aside0 (kq ≤ k) ∧ Aside0 (w'.heap[gb474]? = some (.cells #[(.slice A0_0 l0_0.length c0_0), (.slice A0_1 l0_1.length c0_1)] 31 (0, 0))) ∧ Aside0 (Below w.heap.size w w'))
 case atStart => exact ⟨(a1), (by first | rfl | (simp; done) | (simp [*]; done)), H', ⟨Nat.le_refl _⟩, kk BK474, ⟨bl⟩⟩
 case round =>
  clear H'
  obtain ⟨x1_1, rfl, HA, HK1, BK474, HB⟩ := hrel
  cases gk with
  | zero => exact absurd HA.out (by simp [spec_l3Find.l0])
  | succ k1 =>
   have H := HA.out
   clear HA
   simp only [spec_l3Find.l0] at H
   by_cases c5 : x1_1 ≥ 0
   ·rw [if_pos c5] at H
    have c5b0 : decide (0 ≤ x1_1) = true := decide_eq_true c5
    clear c5
    have H' := Aside0.mk H
    clear H
    go_wp2
    go_loopg [7] k1 (fun kq v7 w' => ∃ (x7_2 : Int), v7 = .int .i64 x7_2 ∧ Aside0 (spec_l3Find.l1 kq x1_1 a2 x7_2 l0_0 l0_1 = some r) ∧ Aside0 (kq ≤ k1) ∧ Aside0 (w'.heap[gb474]? = some (.cells #[(.slice A0_0 l0_0.length c0_0), (.slice A0_1 l0_1.length c0_1)] 31 (0, 0))) ∧ Aside0 (Below w.heap.size w w'))
    case atStart => exact ⟨(0), (by first | rfl | (simp; done) | (simp [*]; done)), H', ⟨Nat.le_refl _⟩, kk BK474, ⟨bl⟩⟩
    case round =>
     clear H'
     obtain ⟨x7_2, rfl, HA, HK2, BK474, HB⟩ := hrel
     cases gk with
     | zero => exact absurd HA.out (by simp [spec_l3Find.l1])
     | succ k2 =>
      have H := HA.out
      clear HA
      simp only [spec_l3Find.l1] at H
      by_cases c6 : x7_2 < (l0_1.length : Int)
      ·rw [if_pos c6] at H
       have c6b0 : decide (x7_2 < (l0_1.length : Int)) = true := decide_eq_true c6
       clear c6
       by_cases c7 : 0 ≤ x7_2
       ·rw [if_pos c7] at H
        have c7b0 : decide (0 ≤ x7_2) = true := decide_eq_true c7
        clear c7
        by_cases c8 : ((rd_T46 l0_1 x7_2).f0) = x1_1
        ·rw [if_pos c8] at H
         have c8b0 := beq_iff_eq.mpr c8
         have c8b1 := bne_eq_false_iff_eq.mpr c8
         clear c8
         by_cases c9 : ((rd_T46 l0_1 x7_2).f1) = a2
         ·rw [if_pos c9] at H
          have c9b0 := beq_iff_eq.mpr c9
          have c9b1 := bne_eq_false_iff_eq.mpr c9
          clear c9
          obtain rfl := Option.some.inj H; clear H
          obtain ⟨_,_,_,_⟩ := cf2 BK474
          have p475 : 0 ≤ (x7_2 : Int) := od
          have q475 : x7_2 < (l0_1.length : Int) := od
          obtain ⟨ad475, A475_2, c475_2, A475_5, c475_5, A475_6, c475_6, A475_7, c475_7, e475, hx475_0, hx475_1, hx475_2, hx475_3, hx475_4, hx475_5, hx475_6, hx475_7, hl475_2, hi475_2, hl475_5, hi475_5, hl475_6, hi475_6, hl475_7, hi475_7⟩ := at_T46 HR0_1.out x7_2 p475 q475
          cases e475
          obtain ⟨hx475_0,hx475_1,hx475_2,hx475_3,hx475_4,hx475_5,hx475_6,hx475_7⟩ := hc8 HB hx475_0 hx475_1 hx475_2 hx475_3 hx475_4 hx475_5 hx475_6 hx475_7
          have HR475_2 := Aside0.mk hi475_2
          have HC475_2 := Aside0.mk hl475_2
          clear hi475_2 hl475_2
          have HR475_5 := Aside0.mk hi475_5
          have HC475_5 := Aside0.mk hl475_5
          clear hi475_5 hl475_5
          have HR475_6 := Aside0.mk hi475_6
          have HC475_6 := Aside0.mk hl475_6
          clear hi475_6 hl475_6
          have HR475_7 := Aside0.mk hi475_7
          have HC475_7 := Aside0.mk hl475_7
          clear hi475_7 hl475_7
          replace p475 := eq_true p475
          replace q475 := eq_true q475
          have p476 : 0 ≤ (x7_2 : Int) := od
          have q476 : x7_2 < (l0_1.length : Int) := od
          obtain ⟨ad476, A476_2, c476_2, A476_5, c476_5, A476_6, c476_6, A476_7, c476_7, e476, hx476_0, hx476_1, hx476_2, hx476_3, hx476_4, hx476_5, hx476_6, hx476_7, hl476_2, hi476_2, hl476_5, hi476_5, hl476_6, hi476_6, hl476_7, hi476_7⟩ := at_T46 HR0_1.out x7_2 p476 q476
          obtain rfl : ad475 = ad476 := (by injection e476)
          obtain ⟨hx476_0,hx476_1,hx476_2,hx476_3,hx476_4,hx476_5,hx476_6,hx476_7⟩ := hc8 HB hx476_0 hx476_1 hx476_2 hx476_3 hx476_4 hx476_5 hx476_6 hx476_7
          have HR476_2 := Aside0.mk hi476_2
          have HC476_2 := Aside0.mk hl476_2
          clear hi476_2 hl476_2
          have HR476_5 := Aside0.mk hi476_5
          have HC476_5 := Aside0.mk hl476_5
          clear hi476_5 hl476_5
          have HR476_6 := Aside0.mk hi476_6
          have HC476_6 := Aside0.mk hl476_6
          clear hi476_6 hl476_6
          have HR476_7 := Aside0.mk hi476_7
          have HC476_7 := Aside0.mk hl476_7
          clear hi476_7 hl476_7
          replace p476 := eq_true p476
          replace q476 := eq_true q476
          have ea_ := Option.some.inj (hx475_2.symm.trans hx476_2)
          injection ea_ with ea_ en_ ec_
          subst ea_
          subst ec_
          clear en_
          have ea_ := Option.some.inj (hx475_5.symm.trans hx476_5)
          injection ea_ with ea_ en_ ec_
          subst ea_
          subst ec_
          clear en_
          have ea_ := Option.some.inj (hx475_6.symm.trans hx476_6)
          injection ea_ with ea_ en_ ec_
          subst ea_
          subst ec_
          clear en_
          have ea_ := Option.some.inj (hx475_7.symm.trans hx476_7)
          injection ea_ with ea_ en_ ec_
          subst ea_
          subst ec_
          clear en_
          go_wp2
          go_ret
          exact fin
         ·rw [if_neg c9] at H
          have c9b0 := beq_eq_false_iff_ne.mpr c9
          have c9b1 := bne_iff_ne.mpr c9
          have H' := Aside0.mk H
          clear H
          obtain ⟨_,_,_,_⟩ := cf2 BK474
          have p475 : 0 ≤ (x7_2 : Int) := od
          have q475 : x7_2 < (l0_1.length : Int) := od
          obtain ⟨ad475, A475_2, c475_2, A475_5, c475_5, A475_6, c475_6, A475_7, c475_7, e475, hx475_0, hx475_1, hx475_2, hx475_3, hx475_4, hx475_5, hx475_6, hx475_7, hl475_2, hi475_2, hl475_5, hi475_5, hl475_6, hi475_6, hl475_7, hi475_7⟩ := at_T46 HR0_1.out x7_2 p475 q475
          cases e475
          obtain ⟨hx475_0,hx475_1,hx475_2,hx475_3,hx475_4,hx475_5,hx475_6,hx475_7⟩ := hc8 HB hx475_0 hx475_1 hx475_2 hx475_3 hx475_4 hx475_5 hx475_6 hx475_7
          have HR475_2 := Aside0.mk hi475_2
          have HC475_2 := Aside0.mk hl475_2
          clear hi475_2 hl475_2
          have HR475_5 := Aside0.mk hi475_5
          have HC475_5 := Aside0.mk hl475_5
          clear hi475_5 hl475_5
          have HR475_6 := Aside0.mk hi475_6
          have HC475_6 := Aside0.mk hl475_6
          clear hi475_6 hl475_6
          have HR475_7 := Aside0.mk hi475_7
          have HC475_7 := Aside0.mk hl475_7
          clear hi475_7 hl475_7
          replace p475 := eq_true p475
          replace q475 := eq_true q475
          have p476 : 0 ≤ (x7_2 : Int) := od
          have q476 : x7_2 < (l0_1.length : Int) := od
          obtain ⟨ad476, A476_2, c476_2, A476_5, c476_5, A476_6, c476_6, A476_7, c476_7, e476, hx476_0, hx476_1, hx476_2, hx476_3, hx476_4, hx476_5, hx476_6, hx476_7, hl476_2, hi476_2, hl476_5, hi476_5, hl476_6, hi476_6, hl476_7, hi476_7⟩ := at_T46 HR0_1.out x7_2 p476 q476
          obtain rfl : ad475 = ad476 := (by injection e476)
          obtain ⟨hx476_0,hx476_1,hx476_2,hx476_3,hx476_4,hx476_5,hx476_6,hx476_7⟩ := hc8 HB hx476_0 hx476_1 hx476_2 hx476_3 hx476_4 hx476_5 hx476_6 hx476_7
          have HR476_2 := Aside0.mk hi476_2
          have HC476_2 := Aside0.mk hl476_2
          clear hi476_2 hl476_2
          have HR476_5 := Aside0.mk hi476_5
          have HC476_5 := Aside0.mk hl476_5
          clear hi476_5 hl476_5
          have HR476_6 := Aside0.mk hi476_6
          have HC476_6 := Aside0.mk hl476_6
          clear hi476_6 hl476_6
          have HR476_7 := Aside0.mk hi476_7
          have HC476_7 := Aside0.mk hl476_7
          clear hi476_7 hl476_7
          replace p476 := eq_true p476
          replace q476 := eq_true q476
          have ea_ := Option.some.inj (hx475_2.symm.trans hx476_2)
          injection ea_ with ea_ en_ ec_
          subst ea_
          subst ec_
          clear en_
          have ea_ := Option.some.inj (hx475_5.symm.trans hx476_5)
          injection ea_ with ea_ en_ ec_
          subst ea_
          subst ec_
          clear en_
          have ea_ := Option.some.inj (hx475_6.symm.trans hx476_6)
          injection ea_ with ea_ en_ ec_
          subst ea_
          subst ec_
          clear en_
          have ea_ := Option.some.inj (hx475_7.symm.trans hx476_7)
          injection ea_ with ea_ en_ ec_
          subst ea_
          subst ec_
          clear en_
          go_wp2
          go_roundg k2
          case measure => have := HK1.out; have := HK2.out; omega
          case rel => exact ⟨(wrap64 (x7_2 + 1)), (by first | rfl | (simp; done) | (simp [*]; done)), H', ⟨by have := HK1.out; have := HK2.out; omega⟩, kk BK474, ⟨bl⟩⟩
        ·rw [if_neg c8] at H
         have c8b0 := beq_eq_false_iff_ne.mpr c8
         have c8b1 := bne_iff_ne.mpr c8
         have H' := Aside0.mk H
         clear H
         obtain ⟨_,_,_,_⟩ := cf2 BK474
         have p475 : 0 ≤ (x7_2 : Int) := od
         have q475 : x7_2 < (l0_1.length : Int) := od
         obtain ⟨ad475, A475_2, c475_2, A475_5, c475_5, A475_6, c475_6, A475_7, c475_7, e475, hx475_0, hx475_1, hx475_2, hx475_3, hx475_4, hx475_5, hx475_6, hx475_7, hl475_2, hi475_2, hl475_5, hi475_5, hl475_6, hi475_6, hl475_7, hi475_7⟩ := at_T46 HR0_1.out x7_2 p475 q475
         cases e475
         obtain ⟨hx475_0,hx475_1,hx475_2,hx475_3,hx475_4,hx475_5,hx475_6,hx475_7⟩ := hc8 HB hx475_0 hx475_1 hx475_2 hx475_3 hx475_4 hx475_5 hx475_6 hx475_7
         have HR475_2 := Aside0.mk hi475_2
         have HC475_2 := Aside0.mk hl475_2
         clear hi475_2 hl475_2
         have HR475_5 := Aside0.mk hi475_5
         have HC475_5 := Aside0.mk hl475_5
         clear hi475_5 hl475_5
         have HR475_6 := Aside0.mk hi475_6
         have HC475_6 := Aside0.mk hl475_6
         clear hi475_6 hl475_6
         have HR475_7 := Aside0.mk hi475_7
         have HC475_7 := Aside0.mk hl475_7
         clear hi475_7 hl475_7
         replace p475 := eq_true p475
         replace q475 := eq_true q475
         go_wp2
         go_roundg k2
         case measure => have := HK1.out; have := HK2.out; omega
         case rel => exact ⟨(wrap64 (x7_2 + 1)), (by first | rfl | (simp; done) | (simp [*]; done)), H', ⟨by have := HK1.out; have := HK2.out; omega⟩, kk BK474, ⟨bl⟩⟩
       ·rw [if_neg c7] at H
        exact absurd H (by simp)
      ·rw [if_neg c6] at H
       have c6b0 : decide (x7_2 < (l0_1.length : Int)) = false := decide_eq_false c6
       clear c6
       by_cases c13 : 0 ≤ x1_1
       ·rw [if_pos c13] at H
        have c13b0 : decide (0 ≤ x1_1) = true := decide_eq_true c13
        clear c13
        by_cases c14 : x1_1 < (l0_0.length : Int)
        ·rw [if_pos c14] at H
         have c14b0 : decide (x1_1 < (l0_0.length : Int)) = true := decide_eq_true c14
         clear c14
         have H' := Aside0.mk H
         clear H
         obtain ⟨_,_,_,_⟩ := cf2 BK474
         have p477 : 0 ≤ (x1_1 : Int) := od
         have q477 : x1_1 < (l0_0.length : Int) := od
         obtain ⟨ad477, A477_1, c477_1, e477, hx477_0, hx477_1, hl477_1, hi477_1⟩ := at_T76 HR0_0.out x1_1 p477 q477
         cases e477
         obtain ⟨hx477_0,hx477_1⟩ := hc2 HB hx477_0 hx477_1
         have HR477_1 := Aside0.mk hi477_1
         have HC477_1 := Aside0.mk hl477_1
         clear hi477_1 hl477_1
         replace p477 := eq_true p477
         replace q477 := eq_true q477
         go_wp2
         go_roundg k2
         case measure => have := HK1.out; have := HK2.out; omega
         case rel => exact ⟨((rd_T76 l0_0 x1_1).f0), (by first | rfl | (simp; done) | (simp [*]; done)), H', ⟨by have := HK1.out; have := HK2.out; omega⟩, kk BK474, ⟨bl⟩⟩
        ·rw [if_neg c14] at H
         exact absurd H (by simp)
       ·rw [if_neg c13] at H
        exact absurd H (by simp)
   ·rw [if_neg c5] at H
    have c5b0 : decide (0 ≤ x1_1) = false := decide_eq_false c5
    clear c5
    obtain rfl := Option.some.inj H; clear H
    go_wp2
    go_ret
    exact fin
end Go.Proofs.Ytedodaifpekahaa.P

end
section

namespace Go.Proofs.Ytedodaifpekahaa.P
open Go.RowKit Go.Proofs.YtedodaifpekahaaW.PrintWords Go.Proofs.YtedodaifpekahaaW.PrintLast Go.Proofs.YtedodaifpekahaaW.PrintMore
attribute [local go_sem] max2_int min2_int max_two min_two max_three min_three max_four min_four
set_option linter.unusedVariables false
set_option linter.unusedSimpArgs false
set_option maxHeartbeats 8000000 in
set_option maxRecDepth 100000 in
theorem spec_l2Field.calls (A0 : Option Addr) (c0 : Nat) (l0 : List (S76)) (a1 : Int) (r : Bool) (w : World) (hr0 : Kd.C k76 w A0 l0.length l0) (hc0 : l0.length ≤ c0) (h : spec_l2Field.f l0 a1 = some r) :
  Calls Try.prog 54 #[.slice A0 l0.length c0, .int .i64 a1] w fun e w' => e = .returned (.bool r) ∧ Drawn0 w w' := by
 have HR0 := Aside0.mk hr0
 have HC0 := Aside0.mk hc0
 clear hr0 hc0
 have H : (if a1 = 1 then (some true) else (if a1 = 3 then (some true) else (if a1 = 4 then (some true) else ((spec_l6In.f a1 8 (wrap64 ((wrap64 (8 + (l0.length : Int))) - 1))).bind fun t120 => (some t120))))) = some r := h
 clear h
 by_cases c3 : a1 = 1
 ·rw [if_pos c3] at H
  have c3b0 := beq_iff_eq.mpr c3
  have c3b1 := bne_eq_false_iff_eq.mpr c3
  clear c3
  obtain rfl := Option.some.inj H; clear H
  go_enter Try.func54, Try.ntmps54
  go_wp2
  go_ret
  exact ⟨by first | rfl | (simp; done) | (simp [*]; done), by repeat (first | exact Drawn0.refl _ | apply Drawn0.step)⟩
 ·rw [if_neg c3] at H
  have c3b0 := beq_eq_false_iff_ne.mpr c3
  have c3b1 := bne_iff_ne.mpr c3
  by_cases c4 : a1 = 3
  ·rw [if_pos c4] at H
   have c4b0 := beq_iff_eq.mpr c4
   have c4b1 := bne_eq_false_iff_eq.mpr c4
   clear c4
   obtain rfl := Option.some.inj H; clear H
   go_enter Try.func54, Try.ntmps54
   go_wp2
   go_ret
   exact ⟨by first | rfl | (simp; done) | (simp [*]; done), by repeat (first | exact Drawn0.refl _ | apply Drawn0.step)⟩
  ·rw [if_neg c4] at H
   have c4b0 := beq_eq_false_iff_ne.mpr c4
   have c4b1 := bne_iff_ne.mpr c4
   by_cases c5 : a1 = 4
   ·rw [if_pos c5] at H
    have c5b0 := beq_iff_eq.mpr c5
    have c5b1 := bne_eq_false_iff_eq.mpr c5
    clear c5
    obtain rfl := Option.some.inj H; clear H
    go_enter Try.func54, Try.ntmps54
    go_wp2
    go_ret
    exact ⟨by first | rfl | (simp; done) | (simp [*]; done), by repeat (first | exact Drawn0.refl _ | apply Drawn0.step)⟩
   ·rw [if_neg c5] at H
    have c5b0 := beq_eq_false_iff_ne.mpr c5
    have c5b1 := bne_iff_ne.mpr c5
    obtain ⟨t120, A6, H⟩ := ob H
    obtain rfl := Option.some.inj H; clear H
    go_enter Try.func54, Try.ntmps54
    go_wp2_with (first | (go_at_call 15; (with_reducible refine (spec_l6In.calls a1 8 (wrap64 ((wrap64 (8 + (l0.length : Int))) - 1)) t120 _ A6.out).mono ?_); rintro e w' ⟨rfl, ⟨nd, rfl⟩⟩))
    go_ret
    exact ⟨by first | rfl | (simp; done) | (simp [*]; done), by repeat (first | exact Drawn0.refl _ | apply Drawn0.step)⟩
end Go.Proofs.Ytedodaifpekahaa.P

end
section

namespace Go.Proofs.Ytedodaifpekahaa.P
open Go.RowKit Go.Proofs.YtedodaifpekahaaW.PrintWords Go.Proofs.YtedodaifpekahaaW.PrintLast Go.Proofs.YtedodaifpekahaaW.PrintMore
attribute [local go_sem] max2_int min2_int max_two min_two max_three min_three max_four min_four
set_option linter.unusedVariables false
set_option linter.unusedSimpArgs false
set_option maxHeartbeats 8000000 in
set_option maxRecDepth 100000 in
theorem spec_l2Class.calls (k : Nat) (A0 : Option Addr) (c0 : Nat) (l0 : List (S76)) (a1 : Int) (r : Bool) (w : World) (hr0 : Kd.C k76 w A0 l0.length l0) (hc0 : l0.length ≤ c0) (h : spec_l2Class.f k l0 a1 = some r) :
  Calls Try.prog 33 #[.slice A0 l0.length c0, .int .i64 a1] w fun e w' => e = .returned (.bool r) ∧ Below w.heap.size w w' := by
 have hu76 := Try.underlying76
 have HR0 := Aside0.mk hr0
 have HC0 := Aside0.mk hc0
 clear hr0 hc0
 have HB := Aside0.mk (Below.refl w.heap.size w)
 have H : (if 0 ≤ a1 then (if a1 < (l0.length : Int) then (spec_l2Class.l0 k l0 a1 0 ((rd_T76 l0 a1).f0) ((rd_T76 l0 a1).f1)) else (none)) else (none)) = some r := h
 clear h
 by_cases c3 : 0 ≤ a1
 ·rw [if_pos c3] at H
  have c3b0 : decide (0 ≤ a1) = true := decide_eq_true c3
  clear c3
  by_cases c4 : a1 < (l0.length : Int)
  ·rw [if_pos c4] at H
   have c4b0 : decide (a1 < (l0.length : Int)) = true := decide_eq_true c4
   clear c4
   have H' := Aside0.mk H
   clear H
   have p121 : 0 ≤ (a1 : Int) := od
   have q121 : a1 < (l0.length : Int) := od
   obtain ⟨ad121, A121_1, c121_1, e121, hx121_0, hx121_1, hl121_1, hi121_1⟩ := at_T76 HR0.out a1 p121 q121
   cases e121
   have HR121_1 := Aside0.mk hi121_1
   have HC121_1 := Aside0.mk hl121_1
   clear hi121_1 hl121_1
   replace p121 := eq_true p121
   replace q121 := eq_true q121
   go_enter Try.func33, Try.ntmps33
   go_wp2_with (first | ((with_reducible refine gd 5 rfl ?_); (try (refine gate_guard (by rfl) ?_; dsimp only)); refine bx 5 #[.int .i64 0, .slice none 0 0] 76 ?_; intro gb122 hg w5 hbox hb; have BK122 := Aside0.mk hbox; have GW122 := hz HB hg; have GE122 := hz HB hg; replace HB := hs HB hb; clear hb hbox hg; obtain ⟨_,_,_,_⟩ := cf2 BK122))
   go_loopg [6] k (fun kq v6 w' => ∃ (x6_1 : Int), v6 = .int .i64 x6_1 ∧ Aside0 (spec_l2Class.l0 kq l0 a1 x6_1 ((rd_T76 l0 a1).f0) ((rd_T76 l0 a1).f1) = some r) ∧ Aside0 (kq ≤ k) ∧ Aside0 (w'.heap[gb122]? = some (.cells #[.int .i64 ((rd_T76 l0 a1).f0), (.slice A121_1 ((rd_T76 l0 a1).f1).length c121_1)] 76 (0, 0))) ∧ Aside0 (Below w.heap.size w w'))
   case atStart => exact ⟨(0), (by first | rfl | (simp; done) | (simp [*]; done)), H', ⟨Nat.le_refl _⟩, kf, ⟨bl⟩⟩
   case round =>
    clear H'
    obtain ⟨x6_1, rfl, HA, HK1, BK122, HB⟩ := hrel
    cases gk with
    | zero => exact absurd HA.out (by simp [spec_l2Class.l0])
    | succ k1 =>
     have H := HA.out
     clear HA
     simp only [spec_l2Class.l0] at H
     by_cases c7 : x6_1 < (((rd_T76 l0 a1).f1).length : Int)
     ·rw [if_pos c7] at H
      have c7b0 : decide (x6_1 < (((rd_T76 l0 a1).f1).length : Int)) = true := decide_eq_true c7
      clear c7
      by_cases c8 : 0 ≤ x6_1
      ·rw [if_pos c8] at H
       have c8b0 : decide (0 ≤ x6_1) = true := decide_eq_true c8
       clear c8
       obtain ⟨t124, A9, H⟩ := ob H
       by_cases c10 : t124 = true
       ·subst c10
        replace H := it H
        have H' := Aside0.mk H
        clear H
        obtain ⟨_,_,_,_⟩ := cf2 BK122
        have p123 : 0 ≤ (x6_1 : Int) := od
        have q123 : x6_1 < (((rd_T76 l0 a1).f1).length : Int) := od
        obtain ⟨ad123, e123, hx123_0⟩ := Kd.at_int HR121_1.out x6_1 p123 q123
        cases e123
        replace hx123_0 := hc HB hx123_0
        replace p123 := eq_true p123
        replace q123 := eq_true q123
        go_wp2_with (first | ((with_reducible refine gc 54 rfl ?_); refine gl (some 24) Try.func54 #[.slice (some ad121) l0.length c0, .int .i64 (rd ((rd_T76 l0 a1).f1) x6_1)] rfl ?_; (with_reducible refine (spec_l2Field.calls _ _ l0 (rd ((rd_T76 l0 a1).f1) x6_1) true _ ?side1 ?side2 A9.out).mono ?_); (case side1 => exact cb HR0.out); (case side2 => exact HC0.out); rintro e w' ⟨rfl, ⟨nd, rfl⟩⟩; refine ⟨_, rfl, ?_⟩))
        go_roundg k1
        case measure => have := HK1.out; omega
        case rel => exact ⟨(wrap64 (x6_1 + 1)), (by first | rfl | (simp; done) | (simp [*]; done)), H', ⟨by have := HK1.out; omega⟩, kk BK122, ⟨bl⟩⟩
       ·replace c10 := Bool.eq_false_iff.mpr c10
        subst c10
        replace H := ie H
        obtain rfl := Option.some.inj H; clear H
        obtain ⟨_,_,_,_⟩ := cf2 BK122
        have p123 : 0 ≤ (x6_1 : Int) := od
        have q123 : x6_1 < (((rd_T76 l0 a1).f1).length : Int) := od
        obtain ⟨ad123, e123, hx123_0⟩ := Kd.at_int HR121_1.out x6_1 p123 q123
        cases e123
        replace hx123_0 := hc HB hx123_0
        replace p123 := eq_true p123
        replace q123 := eq_true q123
        go_wp2_with (first | ((with_reducible refine gc 54 rfl ?_); refine gl (some 24) Try.func54 #[.slice (some ad121) l0.length c0, .int .i64 (rd ((rd_T76 l0 a1).f1) x6_1)] rfl ?_; (with_reducible refine (spec_l2Field.calls _ _ l0 (rd ((rd_T76 l0 a1).f1) x6_1) false _ ?side1 ?side2 A9.out).mono ?_); (case side1 => exact cb HR0.out); (case side2 => exact HC0.out); rintro e w' ⟨rfl, ⟨nd, rfl⟩⟩; refine ⟨_, rfl, ?_⟩))
        go_ret
        exact fin
      ·rw [if_neg c8] at H
       exact absurd H (by simp)
     ·rw [if_neg c7] at H
      have c7b0 : decide (x6_1 < (((rd_T76 l0 a1).f1).length : Int)) = false := decide_eq_false c7
      clear c7
      by_cases c13 : a1 = 0
      ·rw [if_pos c13] at H
       have c13b0 := beq_iff_eq.mpr c13
       have c13b1 := bne_eq_false_iff_eq.mpr c13
       clear c13
       by_cases c14 : ((rd_T76 l0 a1).f0) = (-1)
       ·rw [if_pos c14] at H
        have c14b0 := beq_iff_eq.mpr c14
        have c14b1 := bne_eq_false_iff_eq.mpr c14
        clear c14
        obtain rfl := Option.some.inj H; clear H
        obtain ⟨_,_,_,_⟩ := cf2 BK122
        go_wp2
        go_ret
        exact fin
       ·rw [if_neg c14] at H
        have c14b0 := beq_eq_false_iff_ne.mpr c14
        have c14b1 := bne_iff_ne.mpr c14
        obtain rfl := Option.some.inj H; clear H
        obtain ⟨_,_,_,_⟩ := cf2 BK122
        go_wp2
        go_ret
        exact fin
      ·rw [if_neg c13] at H
       have c13b0 := beq_eq_false_iff_ne.mpr c13
       have c13b1 := bne_iff_ne.mpr c13
       by_cases c17 : a1 = 1
       ·rw [if_pos c17] at H
        have c17b0 := beq_iff_eq.mpr c17
        have c17b1 := bne_eq_false_iff_eq.mpr c17
        clear c17
        by_cases c18 : ((rd_T76 l0 a1).f0) = 0
        ·rw [if_pos c18] at H
         have c18b0 := beq_iff_eq.mpr c18
         have c18b1 := bne_eq_false_iff_eq.mpr c18
         clear c18
         by_cases c19 : (((rd_T76 l0 a1).f1).length : Int) = 1
         ·rw [if_pos c19] at H
          have c19b0 := beq_iff_eq.mpr c19
          have c19b1 := bne_eq_false_iff_eq.mpr c19
          clear c19
          by_cases c20 : 0 < (((rd_T76 l0 a1).f1).length : Int)
          ·rw [if_pos c20] at H
           have c20b0 : decide (0 < (((rd_T76 l0 a1).f1).length : Int)) = true := decide_eq_true c20
           have c20b1 : decide (0 < ((rd_T76 l0 a1).f1).length) = true := decide_eq_true (by omega)
           clear c20
           obtain rfl := Option.some.inj H; clear H
           obtain ⟨_,_,_,_⟩ := cf2 BK122
           have p125 : 0 ≤ (0 : Int) := (by omega)
           have q125 : 0 < (((rd_T76 l0 a1).f1).length : Int) := od
           obtain ⟨ad125, e125, hx125_0⟩ := Kd.at_int HR121_1.out 0 p125 q125
           cases e125
           have qi125 : (0 < ((rd_T76 l0 a1).f1).length) = True := eq_true (by omega)
           (try rw [show ((0 : Int)).toNat = 0 from rfl] at hx125_0)
           (try rw [Addr.add_zero'] at hx125_0)
           replace hx125_0 := hc HB hx125_0
           replace p125 := eq_true p125
           replace q125 := eq_true q125
           go_wp2
           go_ret
           exact fin
          ·rw [if_neg c20] at H
           exact absurd H (by simp)
         ·rw [if_neg c19] at H
          have c19b0 := beq_eq_false_iff_ne.mpr c19
          have c19b1 := bne_iff_ne.mpr c19
          obtain rfl := Option.some.inj H; clear H
          obtain ⟨_,_,_,_⟩ := cf2 BK122
          go_wp2
          go_ret
          exact fin
        ·rw [if_neg c18] at H
         have c18b0 := beq_eq_false_iff_ne.mpr c18
         have c18b1 := bne_iff_ne.mpr c18
         obtain rfl := Option.some.inj H; clear H
         obtain ⟨_,_,_,_⟩ := cf2 BK122
         go_wp2
         go_ret
         exact fin
       ·rw [if_neg c17] at H
        have c17b0 := beq_eq_false_iff_ne.mpr c17
        have c17b1 := bne_iff_ne.mpr c17
        obtain ⟨t126, A24, H⟩ := ob H
        by_cases c25 : t126 = true
        ·subst c25
         replace H := it H
         obtain rfl := Option.some.inj H; clear H
         obtain ⟨_,_,_,_⟩ := cf2 BK122
         go_wp2_with (first | ((with_reducible refine gc 15 rfl ?_); refine gl (some 60) Try.func15 #[.int .i64 ((rd_T76 l0 a1).f0), .int .i64 0, .int .i64 (wrap64 (a1 - 1))] rfl ?_; (with_reducible refine (spec_l6In.calls ((rd_T76 l0 a1).f0) 0 (wrap64 (a1 - 1)) true _ A24.out).mono ?_); rintro e w' ⟨rfl, ⟨nd, rfl⟩⟩; refine ⟨_, rfl, ?_⟩))
         go_ret
         exact fin
        ·replace c25 := Bool.eq_false_iff.mpr c25
         subst c25
         replace H := ie H
         obtain rfl := Option.some.inj H; clear H
         obtain ⟨_,_,_,_⟩ := cf2 BK122
         go_wp2_with (first | ((with_reducible refine gc 15 rfl ?_); refine gl (some 60) Try.func15 #[.int .i64 ((rd_T76 l0 a1).f0), .int .i64 0, .int .i64 (wrap64 (a1 - 1))] rfl ?_; (with_reducible refine (spec_l6In.calls ((rd_T76 l0 a1).f0) 0 (wrap64 (a1 - 1)) false _ A24.out).mono ?_); rintro e w' ⟨rfl, ⟨nd, rfl⟩⟩; refine ⟨_, rfl, ?_⟩))
         go_ret
         exact fin
  ·rw [if_neg c4] at H
   exact absurd H (by simp)
 ·rw [if_neg c3] at H
  exact absurd H (by simp)
end Go.Proofs.Ytedodaifpekahaa.P

end
section

namespace Go.Proofs.Ytedodaifpekahaa.P
open Go.RowKit Go.Proofs.YtedodaifpekahaaW.PrintWords Go.Proofs.YtedodaifpekahaaW.PrintLast Go.Proofs.YtedodaifpekahaaW.PrintMore
attribute [local go_sem] max2_int min2_int max_two min_two max_three min_three max_four min_four
set_option linter.unusedVariables false
set_option linter.unusedSimpArgs false
set_option maxHeartbeats 8000000 in
set_option maxRecDepth 100000 in
theorem spec_ClassesOk.calls (k : Nat) (A0 : Option Addr) (c0 : Nat) (l0 : List (S76)) (r : Bool) (w : World) (hr0 : Kd.C k76 w A0 l0.length l0) (hc0 : l0.length ≤ c0) (h : spec_ClassesOk.f k l0 = some r) :
  Calls Try.prog 14 #[.slice A0 l0.length c0] w fun e w' => e = .returned (.bool r) ∧ Below w.heap.size w w' := by
 have HR0 := Aside0.mk hr0
 have HC0 := Aside0.mk hc0
 clear hr0 hc0
 have HB := Aside0.mk (Below.refl w.heap.size w)
 have H : ((spec_l6In.f (l0.length : Int) 2 5).bind fun t127 => (if t127 = true then (spec_ClassesOk.l0 k l0 0) else (some false))) = some r := h
 clear h
 obtain ⟨t127, A2, H⟩ := ob H
 by_cases c3 : t127 = true
 ·subst c3
  replace H := it H
  have H' := Aside0.mk H
  clear H
  go_enter Try.func14, Try.ntmps14
  go_wp2_with (first | ((with_reducible refine gc 15 rfl ?_); refine gl (some 6) Try.func15 #[.int .i64 (l0.length : Int), .int .i64 2, .int .i64 5] rfl ?_; (with_reducible refine (spec_l6In.calls (l0.length : Int) 2 5 true _ A2.out).mono ?_); rintro e w' ⟨rfl, ⟨nd, rfl⟩⟩; refine ⟨_, rfl, ?_⟩))
  go_loopg [3] k (fun kq v3 w' => ∃ (x3_1 : Int), v3 = .int .i64 x3_1 ∧ Aside0 (spec_ClassesOk.l0 kq l0 x3_1 = some r) ∧ Aside0 (kq ≤ k) ∧ Aside0 (Below w.heap.size w w'))
  case atStart => exact ⟨(0), (by first | rfl | (simp; done) | (simp [*]; done)), H', ⟨Nat.le_refl _⟩, ⟨bl⟩⟩
  case round =>
   clear H'
   obtain ⟨x3_1, rfl, HA, HK1, HB⟩ := hrel
   cases gk with
   | zero => exact absurd HA.out (by simp [spec_ClassesOk.l0])
   | succ k1 =>
    have H := HA.out
    clear HA
    simp only [spec_ClassesOk.l0] at H
    by_cases c4 : x3_1 < (l0.length : Int)
    ·rw [if_pos c4] at H
     have c4b0 : decide (x3_1 < (l0.length : Int)) = true := decide_eq_true c4
     clear c4
     obtain ⟨t128, A5, H⟩ := ob H
     by_cases c6 : t128 = true
     ·subst c6
      replace H := it H
      have H' := Aside0.mk H
      clear H
      go_wp2_with (first | ((with_reducible refine gc 33 rfl ?_); refine gl (some 16) Try.func33 #[.slice A0 l0.length c0, .int .i64 x3_1] rfl ?_; (with_reducible refine (spec_l2Class.calls k1 _ _ l0 x3_1 true _ ?side1 ?side2 A5.out).mono ?_); (case side1 => exact cb HR0.out); (case side2 => exact HC0.out); rintro e w7 ⟨rfl, hb⟩; refine ⟨_, rfl, ?_⟩; replace HB := hs HB hb; (try clear hb)))
      go_roundg k1
      case measure => have := HK1.out; omega
      case rel => exact ⟨(wrap64 (x3_1 + 1)), (by first | rfl | (simp; done) | (simp [*]; done)), H', ⟨by have := HK1.out; omega⟩, ⟨bl⟩⟩
     ·replace c6 := Bool.eq_false_iff.mpr c6
      subst c6
      replace H := ie H
      obtain rfl := Option.some.inj H; clear H
      go_wp2_with (first | ((with_reducible refine gc 33 rfl ?_); refine gl (some 16) Try.func33 #[.slice A0 l0.length c0, .int .i64 x3_1] rfl ?_; (with_reducible refine (spec_l2Class.calls k1 _ _ l0 x3_1 false _ ?side1 ?side2 A5.out).mono ?_); (case side1 => exact cb HR0.out); (case side2 => exact HC0.out); rintro e w8 ⟨rfl, hb⟩; refine ⟨_, rfl, ?_⟩; replace HB := hs HB hb; (try clear hb)))
      go_ret
      exact fin
    ·rw [if_neg c4] at H
     have c4b0 : decide (x3_1 < (l0.length : Int)) = false := decide_eq_false c4
     clear c4
     obtain rfl := Option.some.inj H; clear H
     go_wp2
     go_ret
     exact fin
 ·replace c3 := Bool.eq_false_iff.mpr c3
  subst c3
  replace H := ie H
  obtain rfl := Option.some.inj H; clear H
  go_enter Try.func14, Try.ntmps14
  go_wp2_with (first | ((with_reducible refine gc 15 rfl ?_); refine gl (some 6) Try.func15 #[.int .i64 (l0.length : Int), .int .i64 2, .int .i64 5] rfl ?_; (with_reducible refine (spec_l6In.calls (l0.length : Int) 2 5 false _ A2.out).mono ?_); rintro e w' ⟨rfl, ⟨nd, rfl⟩⟩; refine ⟨_, rfl, ?_⟩))
  go_ret
  exact fin
end Go.Proofs.Ytedodaifpekahaa.P

end
