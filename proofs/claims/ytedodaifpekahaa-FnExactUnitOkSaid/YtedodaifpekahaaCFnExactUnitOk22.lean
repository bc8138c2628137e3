/- A part of the claim FnExactUnitOk: texts of this session and texts that its program printed out of the translation, joined. -/
import Derived.Test.YtedodaifpekahaaCFnExactUnitOk21
import Derived.MapKept
import Derived.Test.YtedodaifpekahaaCFnExactUnitOk0
import Derived.Test.YtedodaifpekahaaCFnExactUnitOk1
import Derived.Test.YtedodaifpekahaaCFnExactUnitOk2
import Derived.Test.YtedodaifpekahaaCFnExactUnitOk3
import Derived.Test.YtedodaifpekahaaCFnExactUnitOk4
import Derived.Test.YtedodaifpekahaaCFnExactUnitOk5
import Derived.Test.YtedodaifpekahaaCFnExactUnitOk6
import Derived.Test.YtedodaifpekahaaCFnExactUnitOk7
import Derived.Test.YtedodaifpekahaaCFnExactUnitOk8
import Derived.Test.YtedodaifpekahaaCFnExactUnitOk9
import Derived.Test.YtedodaifpekahaaCFnExactUnitOk10
import Derived.Test.YtedodaifpekahaaCFnExactUnitOk11
import Derived.Test.YtedodaifpekahaaCFnExactUnitOk12
import Derived.Test.YtedodaifpekahaaCFnExactUnitOk13
import Derived.Test.YtedodaifpekahaaCFnExactUnitOk14
import Derived.Test.YtedodaifpekahaaCFnExactUnitOk15
import Derived.Test.YtedodaifpekahaaCFnExactUnitOk16
import Derived.Test.YtedodaifpekahaaCFnExactUnitOk17
import Derived.Test.YtedodaifpekahaaCFnExactUnitOk18
import Derived.Test.YtedodaifpekahaaCFnExactUnitOk19
import Derived.Test.YtedodaifpekahaaCFnExactUnitOk20
section

namespace Go.Proofs.Ytedodaifpekahaa.P
open Go.RowKit Go.Proofs.YtedodaifpekahaaW.PrintWords Go.Proofs.YtedodaifpekahaaW.PrintLast Go.Proofs.YtedodaifpekahaaW.PrintMore
attribute [local go_sem] max2_int min2_int max_two min_two max_three min_three max_four min_four
set_option linter.unusedVariables false
set_option linter.unusedSimpArgs false
def laws_toUnit.f (k : Nat) (l0_0 : List (S58)) (l0_1 : List (S64)) : Option ((List (S76)) × (List (S46))) := (laws_toClassS.f k l0_0).bind fun t316 => ((laws_toMethodS.f k l0_1).bind fun t319 => (some (t316, t319)))
end Go.Proofs.Ytedodaifpekahaa.P

end
section

namespace Go.Proofs.Ytedodaifpekahaa.P
open Go Go.RowKit Go.Proofs.YtedodaifpekahaaW.PrintWords
def kindW (r : Int) : Value :=
  if r = -1 then .nilIface else if r = 0 then .iface 117 (.agg #[]) else if r = 1 then .iface 102 (.agg #[]) else if r = 2 then .iface 118 (.agg #[])
  else if r = 3 then .iface 104 (.agg #[.bool false]) else if r = 4 then .iface 104 (.agg #[.bool true]) else .iface 106 (.agg #[.int .i64 (r - 8)])
def impl_kindOf.f (c t : Int) : Option Int :=
  if 0 ≤ c ∧ c ≤ 1000000000 ∧ -9223372036854775808 ≤ t ∧ t ≤ 9223372036854775807 then
    (if t = 0 then some 0 else if t = 1 then some 1 else if t = 2 then some 2 else if t = 3 then some 3 else if t = 4 then some 4 else if 8 ≤ t ∧ t < 8 + c then some t else some (-1)) else none
def impl_fieldType.f (c t : Int) : Option Bool := (impl_kindOf.f c t).bind fun r => some (decide (r = 1 ∨ r = 3 ∨ r = 4 ∨ 8 ≤ r))
end Go.Proofs.Ytedodaifpekahaa.P

end
section

namespace Go.Proofs.Ytedodaifpekahaa.P
open Go.RowKit Go.Proofs.YtedodaifpekahaaW.PrintWords Go.Proofs.YtedodaifpekahaaW.PrintLast Go.Proofs.YtedodaifpekahaaW.PrintMore
attribute [local go_sem] max2_int min2_int max_two min_two max_three min_three max_four min_four
set_option linter.unusedVariables false
set_option linter.unusedSimpArgs false
mutual
def impl_ClassesOk.j0 : Nat → List (S76) → Bool → Option (Bool)
  | 0, _, _ => none
  | k + 1, x0, x15 => if x15 = true then (some false) else (if 0 < (x0.length : Int) then (if ((rd_T76 x0 0).f0) = (-1) then (impl_ClassesOk.j1 k x0 ((((rd_T76 x0 0).f1).length : Int) != 0)) else (impl_ClassesOk.j1 k x0 true)) else (none))
def impl_ClassesOk.j1 : Nat → List (S76) → Bool → Option (Bool)
  | 0, _, _ => none
  | k + 1, x0, x28 => if x28 = true then (some false) else (if 1 < (x0.length : Int) then (if ((rd_T76 x0 1).f0) = 0 then (if (((rd_T76 x0 1).f1).length : Int) = 1 then (if 0 < (((rd_T76 x0 1).f1).length : Int) then (impl_ClassesOk.j2 k x0 ((rd ((rd_T76 x0 1).f1) 0) != 1)) else (none)) else (impl_ClassesOk.j2 k x0 true)) else (impl_ClassesOk.j2 k x0 true)) else (none))
def impl_ClassesOk.j2 : Nat → List (S76) → Bool → Option (Bool)
  | 0, _, _ => none
  | k + 1, x0, x47 => if x47 = true then (some false) else (impl_ClassesOk.l0 k x0 x0 (x0.length : Int) 0)
def impl_ClassesOk.l0 : Nat → List (S76) → List (S76) → Int → Int → Option (Bool)
  | 0, _, _, _, _ => none
  | k + 1, x0, x48, x49, x50 => if x50 < x49 then (if 0 ≤ x50 then (if x50 < (x48.length : Int) then (if x50 > 1 then (if ((rd_T76 x48 x50).f0) < 0 then (impl_ClassesOk.j4 k x0 x48 x49 x50 true ((rd_T76 x48 x50).f0) ((rd_T76 x48 x50).f1)) else (impl_ClassesOk.j4 k x0 x48 x49 x50 (decide (((rd_T76 x48 x50).f0) ≥ x50)) ((rd_T76 x48 x50).f0) ((rd_T76 x48 x50).f1))) else (impl_ClassesOk.j4 k x0 x48 x49 x50 false ((rd_T76 x48 x50).f0) ((rd_T76 x48 x50).f1))) else (none)) else (none)) else (some true)
def impl_ClassesOk.j4 : Nat → List (S76) → List (S76) → Int → Int → Bool → Int → List Int → Option (Bool)
  | 0, _, _, _, _, _, _, _ => none
  | k + 1, x0, x48, x49, x50, x67, x329000, x329001 => if x67 = true then (some false) else (if (x329001.length : Int) > 2 then (some false) else (impl_ClassesOk.l1 k x0 x48 x49 x50 x329001 (x329001.length : Int) 0))
def impl_ClassesOk.l1 : Nat → List (S76) → List (S76) → Int → Int → List Int → Int → Int → Option (Bool)
  | 0, _, _, _, _, _, _, _ => none
  | k + 1, x0, x48, x49, x50, x73, x74, x75 => if x75 < x74 then (if 0 ≤ x75 then (if x75 < (x73.length : Int) then ((impl_fieldType.f (x0.length : Int) (rd x73 x75)).bind fun t330 => (if t330 = true then (impl_ClassesOk.l1 k x0 x48 x49 x50 x73 x74 (wrap64 (x75 + 1))) else (some false))) else (none)) else (none)) else (impl_ClassesOk.l0 k x0 x48 x49 (wrap64 (x50 + 1)))
end
def impl_ClassesOk.f (k : Nat) (l0 : List (S76)) : Option (Bool) := if (l0.length : Int) < 2 then (impl_ClassesOk.j0 k l0 true) else (impl_ClassesOk.j0 k l0 (decide ((l0.length : Int) > 5)))
end Go.Proofs.Ytedodaifpekahaa.P

end
section

namespace Go.Proofs.Ytedodaifpekahaa.P
open Go.RowKit Go.Proofs.YtedodaifpekahaaW.PrintWords Go.Proofs.YtedodaifpekahaaW.PrintLast Go.Proofs.YtedodaifpekahaaW.PrintMore
attribute [local go_sem] max2_int min2_int max_two min_two max_three min_three max_four min_four
set_option linter.unusedVariables false
set_option linter.unusedSimpArgs false
def impl_isClass.f (l0 : List (S76)) (a1 : Int) : Option (Bool) := if a1 ≥ 0 then (some (decide (a1 < (l0.length : Int)))) else (some false)
end Go.Proofs.Ytedodaifpekahaa.P

end
section

namespace Go.Proofs.Ytedodaifpekahaa.P
open Go.RowKit Go.Proofs.YtedodaifpekahaaW.PrintWords Go.Proofs.YtedodaifpekahaaW.PrintLast Go.Proofs.YtedodaifpekahaaW.PrintMore
attribute [local go_sem] max2_int min2_int max_two min_two max_three min_three max_four min_four
set_option linter.unusedVariables false
set_option linter.unusedSimpArgs false
def impl_given.f (a0_0 : Int) (a0_1 : Int) (l0_2 : List Int) (a0_3 : Int) (a0_4 : Int) (l0_5 : List (S67)) (l0_6 : List (S70)) (l0_7 : List (S73)) : Option (List Int) := if a0_0 ≥ 0 then (if ([] : List Int).length < 17592186044416 then ((some (([] : List Int) ++ [wrap64 (8 + a0_0)] : List Int)).bind fun y332 => (if y332.length + l0_2.length < 17592186044416 then (some (y332 ++ l0_2)) else (none))) else (none)) else (if ([] : List Int).length + l0_2.length < 17592186044416 then (some (([] : List Int) ++ l0_2)) else (none))
end Go.Proofs.Ytedodaifpekahaa.P

end
section

namespace Go.Proofs.Ytedodaifpekahaa.P
open Go.RowKit Go.Proofs.YtedodaifpekahaaW.PrintWords Go.Proofs.YtedodaifpekahaaW.PrintLast Go.Proofs.YtedodaifpekahaaW.PrintMore
attribute [local go_sem] max2_int min2_int max_two min_two max_three min_three max_four min_four
set_option linter.unusedVariables false
set_option linter.unusedSimpArgs false
mutual
def impl_headOk.j0 : Nat → List (S76) → List (S46) → Int → Int → List Int → Int → Int → List (S67) → List (S70) → List (S73) → Option (Bool)
  | 0, _, _, _, _, _, _, _, _, _, _ => none
  | k + 1, x342000, x342001, x343000, x343001, x343002, x343003, x343004, x343005, x343006, x343007 => if (x343002.length : Int) > 2 then (impl_headOk.j1 k true x342000 x342001 x343000 x343001 x343002 x343003 x343004 x343005 x343006 x343007) else ((impl_fieldType.f (x342000.length : Int) x343003).bind fun t344 => (impl_headOk.j1 k (!t344) x342000 x342001 x343000 x343001 x343002 x343003 x343004 x343005 x343006 x343007))
def impl_headOk.j1 : Nat → Bool → List (S76) → List (S46) → Int → Int → List Int → Int → Int → List (S67) → List (S70) → List (S73) → Option (Bool)
  | 0, _, _, _, _, _, _, _, _, _, _, _ => none
  | k + 1, x46, x342000, x342001, x343000, x343001, x343002, x343003, x343004, x343005, x343006, x343007 => if x46 = true then (some false) else (impl_headOk.l0 k x343002 (x343002.length : Int) 0 x342000 x342001 x343000 x343001 x343002 x343003 x343004 x343005 x343006 x343007)
def impl_headOk.l0 : Nat → List Int → Int → Int → List (S76) → List (S46) → Int → Int → List Int → Int → Int → List (S67) → List (S70) → List (S73) → Option (Bool)
  | 0, _, _, _, _, _, _, _, _, _, _, _, _, _ => none
  | k + 1, x48, x49, x50, x342000, x342001, x343000, x343001, x343002, x343003, x343004, x343005, x343006, x343007 => if x50 < x49 then (if 0 ≤ x50 then (if x50 < (x48.length : Int) then ((impl_fieldType.f (x342000.length : Int) (rd x48 x50)).bind fun t346 => (if t346 = true then (impl_headOk.l0 k x48 x49 (wrap64 (x50 + 1)) x342000 x342001 x343000 x343001 x343002 x343003 x343004 x343005 x343006 x343007) else (some false))) else (none)) else (none)) else (if x343004 ≤ 3 then ((impl_given.f x343000 x343001 x343002 x343003 x343004 x343005 x343006 x343007).bind fun t347 => (some (decide (x343004 ≥ (t347.length : Int))))) else (some false))
end
def impl_headOk.f (k : Nat) (l0_0 : List (S76)) (l0_1 : List (S46)) (a1_0 : Int) (a1_1 : Int) (l1_2 : List Int) (a1_3 : Int) (a1_4 : Int) (l1_5 : List (S67)) (l1_6 : List (S70)) (l1_7 : List (S73)) : Option (Bool) := if a1_0 = (-1) then (if a1_1 = 0 then (impl_headOk.j0 k l0_0 l0_1 a1_0 a1_1 l1_2 a1_3 a1_4 l1_5 l1_6 l1_7) else (some false)) else (if a1_0 = 0 then (some false) else ((impl_isClass.f l0_0 a1_0).bind fun t343 => (if t343 = true then (if a1_1 < 0 then (some false) else (if a1_1 ≥ 3 then (some false) else (impl_headOk.j0 k l0_0 l0_1 a1_0 a1_1 l1_2 a1_3 a1_4 l1_5 l1_6 l1_7))) else (some false))))
end Go.Proofs.Ytedodaifpekahaa.P

end
section

namespace Go.Proofs.Ytedodaifpekahaa.P
open Go.RowKit Go.Proofs.YtedodaifpekahaaW.PrintWords Go.Proofs.YtedodaifpekahaaW.PrintLast Go.Proofs.YtedodaifpekahaaW.PrintMore
attribute [local go_sem] max2_int min2_int max_two min_two max_three min_three max_four min_four
set_option linter.unusedVariables false
set_option linter.unusedSimpArgs false
def impl_isWord.f (a0 : Int) : Option (Bool) := if a0 ≥ (-128) then (some (decide (a0 ≤ 127))) else (some false)
end Go.Proofs.Ytedodaifpekahaa.P

end
section

namespace Go.Proofs.Ytedodaifpekahaa.P
open Go.RowKit Go.Proofs.YtedodaifpekahaaW.PrintWords Go.Proofs.YtedodaifpekahaaW.PrintLast Go.Proofs.YtedodaifpekahaaW.PrintMore
attribute [local go_sem] max2_int min2_int max_two min_two max_three min_three max_four min_four
set_option linter.unusedVariables false
set_option linter.unusedSimpArgs false
def impl_classFields.f : Nat → List (S76) → Int → Option (List Int)
  | 0, _, _ => none
  | k + 1, l0, a1 => if a1 = 0 then (some ([] : List Int)) else (if 0 ≤ a1 then (if a1 < (l0.length : Int) then ((impl_classFields.f k l0 ((rd_T76 l0 a1).f0)).bind fun t351 => (if t351.length + ((rd_T76 l0 a1).f1).length < 17592186044416 then (some (t351 ++ ((rd_T76 l0 a1).f1))) else (none))) else (none)) else (none))
end Go.Proofs.Ytedodaifpekahaa.P

end
section

namespace Go.Proofs.Ytedodaifpekahaa.P
open Go.RowKit Go.Proofs.YtedodaifpekahaaW.PrintWords Go.Proofs.YtedodaifpekahaaW.PrintLast Go.Proofs.YtedodaifpekahaaW.PrintMore
attribute [local go_sem] max2_int min2_int max_two min_two max_three min_three max_four min_four
set_option linter.unusedVariables false
set_option linter.unusedSimpArgs false
def impl_operandOk.f (k : Nat) (l0_0 : List (S76)) (l0_1 : List (S46)) (a1_0 : Int) (a1_1 : Int) (l1_2 : List Int) (a1_3 : Int) (a1_4 : Int) (l1_5 : List (S67)) (l1_6 : List (S70)) (l1_7 : List (S73)) (a2_0 : Int) (a2_1 : Int) (a2_2 : Int) (a3 : Int) (a4 : Int) : Option (Bool) := if a3 = 1 then ((impl_isWord.f a4).bind fun t361 => (some t361)) else (if a3 = 2 then (if a4 ≥ 0 then (some (decide (a4 < a1_4))) else (some false)) else (if a3 = 3 then (if a4 ≥ 1 then (some (decide (a4 ≤ 4))) else (some false)) else (if a3 = 4 then (if a4 ≥ 0 then (some (decide (a4 < (l1_5.length : Int)))) else (some false)) else (if a3 = 5 then ((impl_isClass.f l0_0 a4).bind fun t362 => (some t362)) else (if a3 = 6 then (if a4 = 0 then (some true) else (some (a4 == 1))) else (if a3 = 7 then (if a4 ≥ 0 then (if a4 < (l0_1.length : Int) then (if 0 ≤ a4 then (some (((rd_T46 l0_1 a4).f0) == (-1))) else (none)) else (some false)) else (some false)) else (if a3 = 8 then (if a4 ≥ 0 then ((impl_classFields.f k l0_0 a2_1).bind fun t364 => (some (decide (a4 < (t364.length : Int))))) else (some false)) else (if a3 = 9 then (if a4 ≥ 0 then (some (decide (a4 < 3))) else (some false)) else (some (a4 == 0))))))))))
end Go.Proofs.Ytedodaifpekahaa.P

end
section

namespace Go.Proofs.Ytedodaifpekahaa.P
open Go.RowKit Go.Proofs.YtedodaifpekahaaW.PrintWords Go.Proofs.YtedodaifpekahaaW.PrintLast Go.Proofs.YtedodaifpekahaaW.PrintMore
attribute [local go_sem] max2_int min2_int max_two min_two max_three min_three max_four min_four
set_option linter.unusedVariables false
set_option linter.unusedSimpArgs false
mutual
def impl_shapeOk.j0 : Nat → List (S76) → Bool → Bool → List Int → List Int → Option (Bool)
  | 0, _, _, _, _, _ => none
  | k + 1, x0, x34, x368000, x368001, x368002 => if x34 = true then (some false) else (impl_shapeOk.l0 k x0 x368001 (x368001.length : Int) 0 x368000 x368001 x368002)
def impl_shapeOk.l0 : Nat → List (S76) → List Int → Int → Int → Bool → List Int → List Int → Option (Bool)
  | 0, _, _, _, _, _, _, _ => none
  | k + 1, x0, x36, x37, x38, x368000, x368001, x368002 => if x38 < x37 then (if 0 ≤ x38 then (if x38 < (x36.length : Int) then ((impl_kindOf.f (x0.length : Int) (rd x36 x38)).bind fun t369 => (if t369 = (-1) then (some false) else (impl_shapeOk.l0 k x0 x36 x37 (wrap64 (x38 + 1)) x368000 x368001 x368002))) else (none)) else (none)) else (impl_shapeOk.l1 k x0 x368002 (x368002.length : Int) 0)
def impl_shapeOk.l1 : Nat → List (S76) → List Int → Int → Int → Option (Bool)
  | 0, _, _, _, _ => none
  | k + 1, x0, x49, x50, x51 => if x51 < x50 then (if 0 ≤ x51 then (if x51 < (x49.length : Int) then (if (rd x49 x51) = 0 then (some false) else ((impl_kindOf.f (x0.length : Int) (rd x49 x51)).bind fun t371 => (if t371 = (-1) then (some false) else (impl_shapeOk.l1 k x0 x49 x50 (wrap64 (x51 + 1)))))) else (none)) else (none)) else (some true)
end
def impl_shapeOk.f (k : Nat) (l0 : List (S76)) (a1 : Int) (a2_0 : Bool) (l2_1 : List Int) (l2_2 : List Int) : Option (Bool) := if a2_0 = true then (if (l2_1.length : Int) = a1 then (impl_shapeOk.j0 k l0 (decide ((l2_2.length : Int) > 4)) a2_0 l2_1 l2_2) else (impl_shapeOk.j0 k l0 true a2_0 l2_1 l2_2)) else (if (l2_1.length : Int) = 0 then (some ((l2_2.length : Int) == 0)) else (some false))
end Go.Proofs.Ytedodaifpekahaa.P

end
section

namespace Go.Proofs.Ytedodaifpekahaa.P
open Go Go.RowKit Go.Proofs.YtedodaifpekahaaW.PrintWords Go.Proofs.YtedodaifpekahaaW.PrintLast Go.Proofs.YtedodaifpekahaaW.PrintMore
set_option linter.unusedVariables false
set_option linter.unusedSimpArgs false
def wantL : List (Int × Int × Int) := [(1, 1, 0), (2, 0, 0), (3, 2, 0), (4, 2, 0), (5, 0, 0), (6, 0, 0), (7, 3, 0), (8, 4, 0), (9, 4, 0), (10, 4, 0), (11, 4, 0), (12, 5, 0), (13, 6, 0), (14, 0, 0), (15, 6, 0), (16, 6, 0), (17, 5, 8), (18, 5, 8), (19, 5, 0), (20, 7, 0), (21, 5, 9), (22, 0, 0), (23, 0, 0), (24, 0, 0)]
def wantFind (n : Int) : List (Int × Int × Int) → Option (Int × Int)
  | [] => none
  | e :: l => if n = e.1 then some e.2 else wantFind n l
def impl_wantOf.f (n : Int) : Option (Int × Int × Bool) := some (match wantFind n wantL with | some p => (p.1, p.2, true) | none => (0, 0, false))
def wantE (e : Int × Int × Int) (i : Nat) : MapEntry := { key := .int .i64 e.1, val := .agg #[.int .i64 e.2.1, .int .i64 e.2.2], born := i }
def wantEnts : List (Int × Int × Int) → Nat → List MapEntry
  | [], _ => []
  | e :: l, i => wantE e i :: wantEnts l (i + 1)
def wantsAt (m : Nat) : Obj := .map (wantEnts (wantL.take m) 0).toArray m
def wantsO : Obj := wantsAt 24
theorem obj_far {w : World} {g : Nat} {o : Obj} (h : w.heap[g]? = some o) {p : Addr} (hp : g ≠ p.block) (u : Value) : (w.setCell p u).heap[g]? = some o := (Below.heap_setCell w p u g hp).trans h
theorem findNow_want (n : Int) : ∀ (l : List (Int × Int × Int)) (i m : Nat), ∃ j, Instr.findNow (.int .i64) (.int .i64 n) (wantEnts l i) m = some (match wantFind n l with | some p => some (j, .agg #[.int .i64 p.1, .int .i64 p.2]) | none => none)
  | [], _, _ => ⟨0, rfl⟩
  | e :: l, i, m => by
    by_cases h : n = e.1
    · refine ⟨m, ?_⟩
      subst h
      simp [wantEnts, wantE, wantFind, Instr.findNow, Instr.sameNow]
    · obtain ⟨j, hj⟩ := findNow_want n l (i + 1) (m + 1)
      refine ⟨j, ?_⟩
      have hb : (n == e.1) = false := by simpa using h
      simp only [wantEnts, wantE, wantFind, Instr.findNow, Instr.sameNow, if_true, hb, if_neg h]
      exact hj
section
variable {ops : Array Oper} {rest : List Oper} {o : Oper} {a : Act} {Q : Exit → Act → World → Prop} {W : World}
theorem want_event {gM : Nat} {n t1 t2 : Int} {t3 : Bool} {x i : Operand} (hgd : o.guard = none) (hop : o.op = .lookup 50 x i true) (hx : a.eval x = .map (some gM)) (hi : a.eval i = .int .i64 n) (hm : W.heap[gM]? = some wantsO) (hf : impl_wantOf.f n = some (t1, t2, t3))
    (h : wpList Try.prog ops Q rest (a.put o.dst (.tuple #[.agg #[.int .i64 t1, .int .i64 t2], .bool t3])) W) : wpList Try.prog ops Q (o :: rest) a W := by
  refine Kd.event_run hgd ?_ h
  have hE : wantsO = .map (wantEnts wantL 0).toArray 24 := rfl
  rw [hE] at hm
  obtain ⟨j, hj⟩ := findNow_want n wantL 0 0
  have hz : (zeroValue 82).run Try.prog W = .ok (.agg #[.int .i64 0, .int .i64 0]) W := by kernel_rfl
  have hk : MapKept.IsKey (.int .i64) (.int .i64 n) := by simp [MapKept.IsKey]
  have hu := Try.underlying50
  have hu3 := Try.underlying3
  have hl : (Instr.lookup 50 (.map (some gM)) (.int .i64 n) true).run Try.prog W = .ok (.tuple #[.agg #[.int .i64 t1, .int .i64 t2], .bool t3]) W := by
    unfold impl_wantOf.f at hf
    simp only [Instr.lookup, Sem.run_bind, run_underlying hu, Result.andThen, MapKept.run_getObj_map hm, Sem.run_pure]
    rw [MapKept.run_checkKey hu3 hk]
    simp only [Result.andThen, Sem.run_bind]
    rw [MapKept.run_findKey hu3 hj]
    cases hw : wantFind n wantL with
    | some p =>
      rw [hw] at hf
      simp only [Option.some.injEq, Prod.mk.injEq] at hf
      obtain ⟨rfl, rfl, rfl⟩ := hf
      rfl
    | none =>
      rw [hw] at hf
      simp only [Option.some.injEq, Prod.mk.injEq] at hf
      obtain ⟨rfl, rfl, rfl⟩ := hf
      simp only [Result.andThen, Sem.run_bind, hz, Sem.run_pure]
      rfl
  unfold execOp
  rw [hop]
  dsimp only
  rw [hx, hi]
  simp only [Sem.run_bind, hl, Result.andThen]
  rfl
end
end Go.Proofs.Ytedodaifpekahaa.P

end
section

namespace Go.Proofs.Ytedodaifpekahaa.P
open Go.RowKit Go.Proofs.YtedodaifpekahaaW.PrintWords Go.Proofs.YtedodaifpekahaaW.PrintLast Go.Proofs.YtedodaifpekahaaW.PrintMore
attribute [local go_sem] max2_int min2_int max_two min_two max_three min_three max_four min_four
set_option linter.unusedVariables false
set_option linter.unusedSimpArgs false
mutual
def impl_codeOk.j0 : Nat → Bool → List (S76) → List (S46) → Int → Int → List Int → Int → Int → List (S67) → List (S70) → List (S73) → Option (Bool)
  | 0, _, _, _, _, _, _, _, _, _, _, _ => none
  | k + 1, x31, x373000, x373001, x374000, x374001, x374002, x374003, x374004, x374005, x374006, x374007 => if x31 = true then (some false) else (impl_codeOk.l0 k x374005 (x374005.length : Int) 0 x373000 x373001 x374000 x374001 x374002 x374003 x374004 x374005 x374006 x374007)
def impl_codeOk.l0 : Nat → List (S67) → Int → Int → List (S76) → List (S46) → Int → Int → List Int → Int → Int → List (S67) → List (S70) → List (S73) → Option (Bool)
  | 0, _, _, _, _, _, _, _, _, _, _, _, _, _ => none
  | k + 1, x33, x34, x35, x373000, x373001, x374000, x374001, x374002, x374003, x374004, x374005, x374006, x374007 => if x35 < x34 then (if 0 ≤ x35 then (if x35 < (x33.length : Int) then ((impl_wantOf.f ((rd_T67 x33 x35).f0)).bind fun bt376 => (if bt376.2.2 = true then ((impl_operandOk.f k x373000 x373001 x374000 x374001 x374002 x374003 x374004 x374005 x374006 x374007 ((rd_T67 x33 x35).f0) ((rd_T67 x33 x35).f1) ((rd_T67 x33 x35).f2) bt376.1 ((rd_T67 x33 x35).f1)).bind fun t380 => (if t380 = true then ((impl_operandOk.f k x373000 x373001 x374000 x374001 x374002 x374003 x374004 x374005 x374006 x374007 ((rd_T67 x33 x35).f0) ((rd_T67 x33 x35).f1) ((rd_T67 x33 x35).f2) bt376.2.1 ((rd_T67 x33 x35).f2)).bind fun t381 => (if t381 = true then (impl_codeOk.l0 k x33 x34 (wrap64 (x35 + 1)) x373000 x373001 x374000 x374001 x374002 x374003 x374004 x374005 x374006 x374007) else (some false))) else (some false))) else (some false))) else (none)) else (none)) else (impl_codeOk.l1 k x374006 (x374006.length : Int) 0 x373000 x373001 x374000 x374001 x374002 x374003 x374004 x374005 x374006 x374007)
def impl_codeOk.l1 : Nat → List (S70) → Int → Int → List (S76) → List (S46) → Int → Int → List Int → Int → Int → List (S67) → List (S70) → List (S73) → Option (Bool)
  | 0, _, _, _, _, _, _, _, _, _, _, _, _, _ => none
  | k + 1, x72, x73, x74, x373000, x373001, x374000, x374001, x374002, x374003, x374004, x374005, x374006, x374007 => if x74 < x73 then (if 0 ≤ x74 then (if x74 < (x72.length : Int) then ((impl_shapeOk.f k x373000 x374004 ((rd_T70 x72 x74).f0) ((rd_T70 x72 x74).f1) ((rd_T70 x72 x74).f2)).bind fun t384 => (if t384 = true then (impl_codeOk.l1 k x72 x73 (wrap64 (x74 + 1)) x373000 x373001 x374000 x374001 x374002 x374003 x374004 x374005 x374006 x374007) else (some false))) else (none)) else (none)) else (some true)
end
def impl_codeOk.f (k : Nat) (l0_0 : List (S76)) (l0_1 : List (S46)) (a1_0 : Int) (a1_1 : Int) (l1_2 : List Int) (a1_3 : Int) (a1_4 : Int) (l1_5 : List (S67)) (l1_6 : List (S70)) (l1_7 : List (S73)) (a2 : Int) : Option (Bool) := if (l1_5.length : Int) < 1 then (impl_codeOk.j0 k true l0_0 l0_1 a1_0 a1_1 l1_2 a1_3 a1_4 l1_5 l1_6 l1_7) else (if (l1_5.length : Int) > 12 then (impl_codeOk.j0 k true l0_0 l0_1 a1_0 a1_1 l1_2 a1_3 a1_4 l1_5 l1_6 l1_7) else (impl_codeOk.j0 k ((l1_6.length : Int) != (l1_5.length : Int)) l0_0 l0_1 a1_0 a1_1 l1_2 a1_3 a1_4 l1_5 l1_6 l1_7))
end Go.Proofs.Ytedodaifpekahaa.P

end
section

namespace Go.Proofs.Ytedodaifpekahaa.P
open Go.RowKit Go.Proofs.YtedodaifpekahaaW.PrintWords Go.Proofs.YtedodaifpekahaaW.PrintLast Go.Proofs.YtedodaifpekahaaW.PrintMore
attribute [local go_sem] max2_int min2_int max_two min_two max_three min_three max_four min_four
set_option linter.unusedVariables false
set_option linter.unusedSimpArgs false
def impl_classUp.l0 : Nat → List (S76) → Int → Int → Option (Bool)
  | 0, _, _, _ => none
  | k + 1, x0, x2, x7 => if x7 ≥ 0 then (if x7 = x2 then (some true) else (if 0 ≤ x7 then (if x7 < (x0.length : Int) then (impl_classUp.l0 k x0 x2 ((rd_T76 x0 x7).f0)) else (none)) else (none))) else (some false)
def impl_classUp.f (k : Nat) (l0 : List (S76)) (a1 : Int) (a2 : Int) : Option (Bool) := impl_classUp.l0 k l0 a2 a1
end Go.Proofs.Ytedodaifpekahaa.P

end
section

namespace Go.Proofs.Ytedodaifpekahaa.P
open Go.RowKit Go.Proofs.YtedodaifpekahaaW.PrintWords Go.Proofs.YtedodaifpekahaaW.PrintLast Go.Proofs.YtedodaifpekahaaW.PrintMore
attribute [local go_sem] max2_int min2_int max_two min_two max_three min_three max_four min_four
set_option linter.unusedVariables false
set_option linter.unusedSimpArgs false
mutual
def impl_catchesOk.l0 : Nat → List (S73) → Int → Int → List (S76) → List (S46) → Int → Int → List Int → Int → Int → List (S67) → List (S70) → List (S73) → Option (Bool)
  | 0, _, _, _, _, _, _, _, _, _, _, _, _, _ => none
  | k + 1, x12, x13, x14, x387000, x387001, x388000, x388001, x388002, x388003, x388004, x388005, x388006, x388007 => if x14 < x13 then (if 0 ≤ x14 then (if x14 < (x12.length : Int) then (if ((rd_T73 x12 x14).f0) < 0 then (impl_catchesOk.j1 k x12 x13 x14 true x387000 x387001 x388000 x388001 x388002 x388003 x388004 x388005 x388006 x388007 ((rd_T73 x12 x14).f0) ((rd_T73 x12 x14).f1) ((rd_T73 x12 x14).f2) ((rd_T73 x12 x14).f3)) else (if ((rd_T73 x12 x14).f0) ≥ (x388005.length : Int) then (impl_catchesOk.j1 k x12 x13 x14 true x387000 x387001 x388000 x388001 x388002 x388003 x388004 x388005 x388006 x388007 ((rd_T73 x12 x14).f0) ((rd_T73 x12 x14).f1) ((rd_T73 x12 x14).f2) ((rd_T73 x12 x14).f3)) else (if ((rd_T73 x12 x14).f2) < 0 then (impl_catchesOk.j1 k x12 x13 x14 true x387000 x387001 x388000 x388001 x388002 x388003 x388004 x388005 x388006 x388007 ((rd_T73 x12 x14).f0) ((rd_T73 x12 x14).f1) ((rd_T73 x12 x14).f2) ((rd_T73 x12 x14).f3)) else (impl_catchesOk.j1 k x12 x13 x14 (decide (((rd_T73 x12 x14).f2) ≥ (x388005.length : Int))) x387000 x387001 x388000 x388001 x388002 x388003 x388004 x388005 x388006 x388007 ((rd_T73 x12 x14).f0) ((rd_T73 x12 x14).f1) ((rd_T73 x12 x14).f2) ((rd_T73 x12 x14).f3))))) else (none)) else (none)) else (some true)
def impl_catchesOk.j1 : Nat → List (S73) → Int → Int → Bool → List (S76) → List (S46) → Int → Int → List Int → Int → Int → List (S67) → List (S70) → List (S73) → Int → Int → Int → Int → Option (Bool)
  | 0, _, _, _, _, _, _, _, _, _, _, _, _, _, _, _, _, _, _ => none
  | k + 1, x12, x13, x14, x41, x387000, x387001, x388000, x388001, x388002, x388003, x388004, x388005, x388006, x388007, x390000, x390001, x390002, x390003 => if x41 = true then (some false) else (if x390001 ≤ x390000 then (impl_catchesOk.j2 k x12 x13 x14 true x387000 x387001 x388000 x388001 x388002 x388003 x388004 x388005 x388006 x388007 x390000 x390001 x390002 x390003) else (impl_catchesOk.j2 k x12 x13 x14 (decide (x390001 > (x388005.length : Int))) x387000 x387001 x388000 x388001 x388002 x388003 x388004 x388005 x388006 x388007 x390000 x390001 x390002 x390003))
def impl_catchesOk.j2 : Nat → List (S73) → Int → Int → Bool → List (S76) → List (S46) → Int → Int → List Int → Int → Int → List (S67) → List (S70) → List (S73) → Int → Int → Int → Int → Option (Bool)
  | 0, _, _, _, _, _, _, _, _, _, _, _, _, _, _, _, _, _, _ => none
  | k + 1, x12, x13, x14, x54, x387000, x387001, x388000, x388001, x388002, x388003, x388004, x388005, x388006, x388007, x390000, x390001, x390002, x390003 => if x54 = true then (some false) else ((impl_isClass.f x387000 x390003).bind fun t390 => (if t390 = true then ((impl_classUp.f k x387000 x390003 1).bind fun t391 => (if t391 = true then (impl_catchesOk.l0 k x12 x13 (wrap64 (x14 + 1)) x387000 x387001 x388000 x388001 x388002 x388003 x388004 x388005 x388006 x388007) else (some false))) else (some false)))
end
def impl_catchesOk.f (k : Nat) (l0_0 : List (S76)) (l0_1 : List (S46)) (a1_0 : Int) (a1_1 : Int) (l1_2 : List Int) (a1_3 : Int) (a1_4 : Int) (l1_5 : List (S67)) (l1_6 : List (S70)) (l1_7 : List (S73)) : Option (Bool) := if (l1_7.length : Int) > 2 then (some false) else (impl_catchesOk.l0 k l1_7 (l1_7.length : Int) 0 l0_0 l0_1 a1_0 a1_1 l1_2 a1_3 a1_4 l1_5 l1_6 l1_7)
end Go.Proofs.Ytedodaifpekahaa.P

end
section

namespace Go.Proofs.Ytedodaifpekahaa.P
open Go.RowKit Go.Proofs.YtedodaifpekahaaW.PrintWords Go.Proofs.YtedodaifpekahaaW.PrintLast Go.Proofs.YtedodaifpekahaaW.PrintMore
attribute [local go_sem] max2_int min2_int max_two min_two max_three min_three max_four min_four
set_option linter.unusedVariables false
set_option linter.unusedSimpArgs false
def slices_Equal_int_int.l0 : Nat → List Int → List Int → Int → Int → Option (Bool)
  | 0, _, _, _, _ => none
  | k + 1, x0, x1, x12, x13 => if x13 < x12 then (if 0 ≤ x13 then (if x13 < (x0.length : Int) then (if x13 < (x1.length : Int) then (if (rd x0 x13) = (rd x1 x13) then (slices_Equal_int_int.l0 k x0 x1 x12 (wrap64 (x13 + 1))) else (some false)) else (none)) else (none)) else (none)) else (some true)
def slices_Equal_int_int.f (k : Nat) (l0 : List Int) (l1 : List Int) : Option (Bool) := if (l0.length : Int) = (l1.length : Int) then (slices_Equal_int_int.l0 k l0 l1 (l0.length : Int) 0) else (some false)
end Go.Proofs.Ytedodaifpekahaa.P

end
section

namespace Go.Proofs.Ytedodaifpekahaa.P
open Go.RowKit Go.Proofs.YtedodaifpekahaaW.PrintWords Go.Proofs.YtedodaifpekahaaW.PrintLast Go.Proofs.YtedodaifpekahaaW.PrintMore
attribute [local go_sem] max2_int min2_int max_two min_two max_three min_three max_four min_four
set_option linter.unusedVariables false
set_option linter.unusedSimpArgs false
mutual
def impl_agree.l0 : Nat → List (S46) → Int → Int → List (S76) → List (S46) → Option (Bool)
  | 0, _, _, _, _, _ => none
  | k + 1, x8, x9, x10, x395000, x395001 => if x10 < x9 then (if 0 ≤ x10 then (if x10 < (x8.length : Int) then (impl_agree.l1 k x10 x8 x9 x10 x395001 (x395001.length : Int) 0 x395000 x395001 ((rd_T46 x8 x10).f0) ((rd_T46 x8 x10).f1) ((rd_T46 x8 x10).f2) ((rd_T46 x8 x10).f3) ((rd_T46 x8 x10).f4) ((rd_T46 x8 x10).f5) ((rd_T46 x8 x10).f6) ((rd_T46 x8 x10).f7)) else (none)) else (none)) else (some true)
def impl_agree.l1 : Nat → Int → List (S46) → Int → Int → List (S46) → Int → Int → List (S76) → List (S46) → Int → Int → List Int → Int → Int → List (S67) → List (S70) → List (S73) → Option (Bool)
  | 0, _, _, _, _, _, _, _, _, _, _, _, _, _, _, _, _, _ => none
  | k + 1, x3, x8, x9, x10, x16, x17, x18, x395000, x395001, x397000, x397001, x397002, x397003, x397004, x397005, x397006, x397007 => if x18 < x17 then (if 0 ≤ x18 then (if x18 < (x16.length : Int) then (if x3 = x18 then (impl_agree.j2 k x3 x8 x9 x10 x16 x17 x18 true x395000 x395001 x397000 x397001 x397002 x397003 x397004 x397005 x397006 x397007 ((rd_T46 x16 x18).f0) ((rd_T46 x16 x18).f1) ((rd_T46 x16 x18).f2) ((rd_T46 x16 x18).f3) ((rd_T46 x16 x18).f4) ((rd_T46 x16 x18).f5) ((rd_T46 x16 x18).f6) ((rd_T46 x16 x18).f7)) else (if x397000 < 0 then (impl_agree.j2 k x3 x8 x9 x10 x16 x17 x18 true x395000 x395001 x397000 x397001 x397002 x397003 x397004 x397005 x397006 x397007 ((rd_T46 x16 x18).f0) ((rd_T46 x16 x18).f1) ((rd_T46 x16 x18).f2) ((rd_T46 x16 x18).f3) ((rd_T46 x16 x18).f4) ((rd_T46 x16 x18).f5) ((rd_T46 x16 x18).f6) ((rd_T46 x16 x18).f7)) else (if ((rd_T46 x16 x18).f0) < 0 then (impl_agree.j2 k x3 x8 x9 x10 x16 x17 x18 true x395000 x395001 x397000 x397001 x397002 x397003 x397004 x397005 x397006 x397007 ((rd_T46 x16 x18).f0) ((rd_T46 x16 x18).f1) ((rd_T46 x16 x18).f2) ((rd_T46 x16 x18).f3) ((rd_T46 x16 x18).f4) ((rd_T46 x16 x18).f5) ((rd_T46 x16 x18).f6) ((rd_T46 x16 x18).f7)) else (impl_agree.j2 k x3 x8 x9 x10 x16 x17 x18 (x397001 != ((rd_T46 x16 x18).f1)) x395000 x395001 x397000 x397001 x397002 x397003 x397004 x397005 x397006 x397007 ((rd_T46 x16 x18).f0) ((rd_T46 x16 x18).f1) ((rd_T46 x16 x18).f2) ((rd_T46 x16 x18).f3) ((rd_T46 x16 x18).f4) ((rd_T46 x16 x18).f5) ((rd_T46 x16 x18).f6) ((rd_T46 x16 x18).f7))))) else (none)) else (none)) else (impl_agree.l0 k x8 x9 (wrap64 (x10 + 1)) x395000 x395001)
def impl_agree.j2 : Nat → Int → List (S46) → Int → Int → List (S46) → Int → Int → Bool → List (S76) → List (S46) → Int → Int → List Int → Int → Int → List (S67) → List (S70) → List (S73) → Int → Int → List Int → Int → Int → List (S67) → List (S70) → List (S73) → Option (Bool)
  | 0, _, _, _, _, _, _, _, _, _, _, _, _, _, _, _, _, _, _, _, _, _, _, _, _, _, _ => none
  | k + 1, x3, x8, x9, x10, x16, x17, x18, x42, x395000, x395001, x397000, x397001, x397002, x397003, x397004, x397005, x397006, x397007, x399000, x399001, x399002, x399003, x399004, x399005, x399006, x399007 => if x42 = true then (impl_agree.l1 k x3 x8 x9 x10 x16 x17 (wrap64 (x18 + 1)) x395000 x395001 x397000 x397001 x397002 x397003 x397004 x397005 x397006 x397007) else (if x397000 = x399000 then (some false) else ((impl_classUp.f k x395000 x397000 x399000).bind fun t399 => (if t399 = true then (if x397003 = x399003 then ((slices_Equal_int_int.f k x397002 x399002).bind fun t400 => (if t400 = true then (impl_agree.l1 k x3 x8 x9 x10 x16 x17 (wrap64 (x18 + 1)) x395000 x395001 x397000 x397001 x397002 x397003 x397004 x397005 x397006 x397007) else (some false))) else (some false)) else (impl_agree.l1 k x3 x8 x9 x10 x16 x17 (wrap64 (x18 + 1)) x395000 x395001 x397000 x397001 x397002 x397003 x397004 x397005 x397006 x397007))))
end
def impl_agree.f (k : Nat) (l0_0 : List (S76)) (l0_1 : List (S46)) : Option (Bool) := impl_agree.l0 k l0_1 (l0_1.length : Int) 0 l0_0 l0_1
end Go.Proofs.Ytedodaifpekahaa.P

end
section

namespace Go.Proofs.Ytedodaifpekahaa.P
open Go.RowKit Go.Proofs.YtedodaifpekahaaW.PrintWords Go.Proofs.YtedodaifpekahaaW.PrintLast Go.Proofs.YtedodaifpekahaaW.PrintMore
attribute [local go_sem] max2_int min2_int max_two min_two max_three min_three max_four min_four
set_option linter.unusedVariables false
set_option linter.unusedSimpArgs false
mutual
def impl_UnitOk.j0 : Nat → Bool → List (S76) → List (S46) → Option (Bool)
  | 0, _, _, _ => none
  | k + 1, x22, x402000, x402001 => if x22 = true then (some false) else (if 0 < (x402001.length : Int) then (if ((rd_T46 x402001 0).f0) = (-1) then (if (((rd_T46 x402001 0).f2).length : Int) = 0 then (impl_UnitOk.j1 k (((rd_T46 x402001 0).f3) != 1) x402000 x402001) else (impl_UnitOk.j1 k true x402000 x402001)) else (impl_UnitOk.j1 k true x402000 x402001)) else (none))
def impl_UnitOk.j1 : Nat → Bool → List (S76) → List (S46) → Option (Bool)
  | 0, _, _, _ => none
  | k + 1, x40, x402000, x402001 => if x40 = true then (some false) else (impl_UnitOk.l0 k x402001 (x402001.length : Int) 0 x402000 x402001)
def impl_UnitOk.l0 : Nat → List (S46) → Int → Int → List (S76) → List (S46) → Option (Bool)
  | 0, _, _, _, _, _ => none
  | k + 1, x43, x44, x45, x402000, x402001 => if x45 < x44 then (if 0 ≤ x45 then (if x45 < (x43.length : Int) then ((impl_headOk.f k x402000 x402001 ((rd_T46 x43 x45).f0) ((rd_T46 x43 x45).f1) ((rd_T46 x43 x45).f2) ((rd_T46 x43 x45).f3) ((rd_T46 x43 x45).f4) ((rd_T46 x43 x45).f5) ((rd_T46 x43 x45).f6) ((rd_T46 x43 x45).f7)).bind fun t409 => (if t409 = true then ((impl_codeOk.f k x402000 x402001 ((rd_T46 x43 x45).f0) ((rd_T46 x43 x45).f1) ((rd_T46 x43 x45).f2) ((rd_T46 x43 x45).f3) ((rd_T46 x43 x45).f4) ((rd_T46 x43 x45).f5) ((rd_T46 x43 x45).f6) ((rd_T46 x43 x45).f7) 0).bind fun t410 => (if t410 = true then ((impl_catchesOk.f k x402000 x402001 ((rd_T46 x43 x45).f0) ((rd_T46 x43 x45).f1) ((rd_T46 x43 x45).f2) ((rd_T46 x43 x45).f3) ((rd_T46 x43 x45).f4) ((rd_T46 x43 x45).f5) ((rd_T46 x43 x45).f6) ((rd_T46 x43 x45).f7)).bind fun t411 => (if t411 = true then (impl_UnitOk.l0 k x43 x44 (wrap64 (x45 + 1)) x402000 x402001) else (some false))) else (some false))) else (some false))) else (none)) else (none)) else ((impl_agree.f k x402000 x402001).bind fun t406 => (some t406))
end
def impl_UnitOk.f (k : Nat) (l0_0 : List (S76)) (l0_1 : List (S46)) : Option (Bool) := (impl_ClassesOk.f k l0_0).bind fun t402 => (if t402 = true then (if (l0_1.length : Int) < 1 then (impl_UnitOk.j0 k true l0_0 l0_1) else (impl_UnitOk.j0 k (decide ((l0_1.length : Int) > 4)) l0_0 l0_1)) else (impl_UnitOk.j0 k true l0_0 l0_1))
end Go.Proofs.Ytedodaifpekahaa.P

end
section

namespace Go.Proofs.Ytedodaifpekahaa.P
open Go.RowKit Go.Proofs.YtedodaifpekahaaW.PrintWords Go.Proofs.YtedodaifpekahaaW.PrintLast Go.Proofs.YtedodaifpekahaaW.PrintMore
attribute [local go_sem] max2_int min2_int max_two min_two max_three min_three max_four min_four
set_option linter.unusedVariables false
set_option linter.unusedSimpArgs false
def laws_eqIntS.l0 : Nat → List Int → List Int → Int → Option (Bool)
  | 0, _, _, _ => none
  | k + 1, x0, x1, x5 => if x5 < (x0.length : Int) then (if 0 ≤ x5 then (if x5 < (x1.length : Int) then (if (rd x0 x5) = (rd x1 x5) then (laws_eqIntS.l0 k x0 x1 (wrap64 (x5 + 1))) else (some false)) else (none)) else (none)) else (some true)
def laws_eqIntS.f (k : Nat) (l0 : List Int) (l1 : List Int) : Option (Bool) := if (l0.length : Int) = (l1.length : Int) then (laws_eqIntS.l0 k l0 l1 0) else (some false)
end Go.Proofs.Ytedodaifpekahaa.P

end
section

namespace Go.Proofs.Ytedodaifpekahaa.P
open Go.RowKit Go.Proofs.YtedodaifpekahaaW.PrintWords Go.Proofs.YtedodaifpekahaaW.PrintLast Go.Proofs.YtedodaifpekahaaW.PrintMore
attribute [local go_sem] max2_int min2_int max_two min_two max_three min_three max_four min_four
set_option linter.unusedVariables false
set_option linter.unusedSimpArgs false
def laws_eqClass.f (k : Nat) (a0_0 : Int) (l0_1 : List Int) (a1_0 : Int) (l1_1 : List Int) : Option (Bool) := if a0_0 = a1_0 then ((laws_eqIntS.f k l0_1 l1_1).bind fun t416 => (if t416 = true then (some true) else (some false))) else (some false)
end Go.Proofs.Ytedodaifpekahaa.P

end
section

namespace Go.Proofs.Ytedodaifpekahaa.P
open Go.RowKit Go.Proofs.YtedodaifpekahaaW.PrintWords Go.Proofs.YtedodaifpekahaaW.PrintLast Go.Proofs.YtedodaifpekahaaW.PrintMore
attribute [local go_sem] max2_int min2_int max_two min_two max_three min_three max_four min_four
set_option linter.unusedVariables false
set_option linter.unusedSimpArgs false
def laws_eqClassS.l0 : Nat → List (S76) → List (S76) → Int → Option (Bool)
  | 0, _, _, _ => none
  | k + 1, x0, x1, x5 => if x5 < (x0.length : Int) then (if 0 ≤ x5 then (if x5 < (x1.length : Int) then ((laws_eqClass.f k ((rd_T76 x0 x5).f0) ((rd_T76 x0 x5).f1) ((rd_T76 x1 x5).f0) ((rd_T76 x1 x5).f1)).bind fun t419 => (if t419 = true then (laws_eqClassS.l0 k x0 x1 (wrap64 (x5 + 1))) else (some false))) else (none)) else (none)) else (some true)
def laws_eqClassS.f (k : Nat) (l0 : List (S76)) (l1 : List (S76)) : Option (Bool) := if (l0.length : Int) = (l1.length : Int) then (laws_eqClassS.l0 k l0 l1 0) else (some false)
end Go.Proofs.Ytedodaifpekahaa.P

end
section

namespace Go.Proofs.Ytedodaifpekahaa.P
open Go.RowKit Go.Proofs.YtedodaifpekahaaW.PrintWords Go.Proofs.YtedodaifpekahaaW.PrintLast Go.Proofs.YtedodaifpekahaaW.PrintMore
attribute [local go_sem] max2_int min2_int max_two min_two max_three min_three max_four min_four
set_option linter.unusedVariables false
set_option linter.unusedSimpArgs false
def laws_eqIns.f (a0_0 : Int) (a0_1 : Int) (a0_2 : Int) (a1_0 : Int) (a1_1 : Int) (a1_2 : Int) : Option (Bool) := if a0_0 = a1_0 then (if a0_1 = a1_1 then (if a0_2 = a1_2 then (some true) else (some false)) else (some false)) else (some false)
end Go.Proofs.Ytedodaifpekahaa.P

end
section

namespace Go.Proofs.Ytedodaifpekahaa.P
open Go.RowKit Go.Proofs.YtedodaifpekahaaW.PrintWords Go.Proofs.YtedodaifpekahaaW.PrintLast Go.Proofs.YtedodaifpekahaaW.PrintMore
attribute [local go_sem] max2_int min2_int max_two min_two max_three min_three max_four min_four
set_option linter.unusedVariables false
set_option linter.unusedSimpArgs false
def laws_eqInsS.l0 : Nat → List (S67) → List (S67) → Int → Option (Bool)
  | 0, _, _, _ => none
  | k + 1, x0, x1, x5 => if x5 < (x0.length : Int) then (if 0 ≤ x5 then (if x5 < (x1.length : Int) then ((laws_eqIns.f ((rd_T67 x0 x5).f0) ((rd_T67 x0 x5).f1) ((rd_T67 x0 x5).f2) ((rd_T67 x1 x5).f0) ((rd_T67 x1 x5).f1) ((rd_T67 x1 x5).f2)).bind fun t424 => (if t424 = true then (laws_eqInsS.l0 k x0 x1 (wrap64 (x5 + 1))) else (some false))) else (none)) else (none)) else (some true)
def laws_eqInsS.f (k : Nat) (l0 : List (S67)) (l1 : List (S67)) : Option (Bool) := if (l0.length : Int) = (l1.length : Int) then (laws_eqInsS.l0 k l0 l1 0) else (some false)
end Go.Proofs.Ytedodaifpekahaa.P

end
section

namespace Go.Proofs.Ytedodaifpekahaa.P
open Go.RowKit Go.Proofs.YtedodaifpekahaaW.PrintWords Go.Proofs.YtedodaifpekahaaW.PrintLast Go.Proofs.YtedodaifpekahaaW.PrintMore
attribute [local go_sem] max2_int min2_int max_two min_two max_three min_three max_four min_four
set_option linter.unusedVariables false
set_option linter.unusedSimpArgs false
def laws_eqShape.f (k : Nat) (a0_0 : Bool) (l0_1 : List Int) (l0_2 : List Int) (a1_0 : Bool) (l1_1 : List Int) (l1_2 : List Int) : Option (Bool) := if (a0_0 != a1_0) = true then (some false) else ((laws_eqIntS.f k l0_1 l1_1).bind fun t427 => (if t427 = true then ((laws_eqIntS.f k l0_2 l1_2).bind fun t428 => (if t428 = true then (some true) else (some false))) else (some false)))
end Go.Proofs.Ytedodaifpekahaa.P

end
section

namespace Go.Proofs.Ytedodaifpekahaa.P
open Go.RowKit Go.Proofs.YtedodaifpekahaaW.PrintWords Go.Proofs.YtedodaifpekahaaW.PrintLast Go.Proofs.YtedodaifpekahaaW.PrintMore
attribute [local go_sem] max2_int min2_int max_two min_two max_three min_three max_four min_four
set_option linter.unusedVariables false
set_option linter.unusedSimpArgs false
def laws_eqShapeS.l0 : Nat → List (S70) → List (S70) → Int → Option (Bool)
  | 0, _, _, _ => none
  | k + 1, x0, x1, x5 => if x5 < (x0.length : Int) then (if 0 ≤ x5 then (if x5 < (x1.length : Int) then ((laws_eqShape.f k ((rd_T70 x0 x5).f0) ((rd_T70 x0 x5).f1) ((rd_T70 x0 x5).f2) ((rd_T70 x1 x5).f0) ((rd_T70 x1 x5).f1) ((rd_T70 x1 x5).f2)).bind fun t431 => (if t431 = true then (laws_eqShapeS.l0 k x0 x1 (wrap64 (x5 + 1))) else (some false))) else (none)) else (none)) else (some true)
def laws_eqShapeS.f (k : Nat) (l0 : List (S70)) (l1 : List (S70)) : Option (Bool) := if (l0.length : Int) = (l1.length : Int) then (laws_eqShapeS.l0 k l0 l1 0) else (some false)
end Go.Proofs.Ytedodaifpekahaa.P

end
section

namespace Go.Proofs.Ytedodaifpekahaa.P
open Go.RowKit Go.Proofs.YtedodaifpekahaaW.PrintWords Go.Proofs.YtedodaifpekahaaW.PrintLast Go.Proofs.YtedodaifpekahaaW.PrintMore
attribute [local go_sem] max2_int min2_int max_two min_two max_three min_three max_four min_four
set_option linter.unusedVariables false
set_option linter.unusedSimpArgs false
def laws_eqCatch.f (a0_0 : Int) (a0_1 : Int) (a0_2 : Int) (a0_3 : Int) (a1_0 : Int) (a1_1 : Int) (a1_2 : Int) (a1_3 : Int) : Option (Bool) := if a0_0 = a1_0 then (if a0_1 = a1_1 then (if a0_2 = a1_2 then (if a0_3 = a1_3 then (some true) else (some false)) else (some false)) else (some false)) else (some false)
end Go.Proofs.Ytedodaifpekahaa.P

end
section

namespace Go.Proofs.Ytedodaifpekahaa.P
open Go.RowKit Go.Proofs.YtedodaifpekahaaW.PrintWords Go.Proofs.YtedodaifpekahaaW.PrintLast Go.Proofs.YtedodaifpekahaaW.PrintMore
attribute [local go_sem] max2_int min2_int max_two min_two max_three min_three max_four min_four
set_option linter.unusedVariables false
set_option linter.unusedSimpArgs false
def laws_eqCatchS.l0 : Nat → List (S73) → List (S73) → Int → Option (Bool)
  | 0, _, _, _ => none
  | k + 1, x0, x1, x5 => if x5 < (x0.length : Int) then (if 0 ≤ x5 then (if x5 < (x1.length : Int) then ((laws_eqCatch.f ((rd_T73 x0 x5).f0) ((rd_T73 x0 x5).f1) ((rd_T73 x0 x5).f2) ((rd_T73 x0 x5).f3) ((rd_T73 x1 x5).f0) ((rd_T73 x1 x5).f1) ((rd_T73 x1 x5).f2) ((rd_T73 x1 x5).f3)).bind fun t436 => (if t436 = true then (laws_eqCatchS.l0 k x0 x1 (wrap64 (x5 + 1))) else (some false))) else (none)) else (none)) else (some true)
def laws_eqCatchS.f (k : Nat) (l0 : List (S73)) (l1 : List (S73)) : Option (Bool) := if (l0.length : Int) = (l1.length : Int) then (laws_eqCatchS.l0 k l0 l1 0) else (some false)
end Go.Proofs.Ytedodaifpekahaa.P

end
section

namespace Go.Proofs.Ytedodaifpekahaa.P
open Go.RowKit Go.Proofs.YtedodaifpekahaaW.PrintWords Go.Proofs.YtedodaifpekahaaW.PrintLast Go.Proofs.YtedodaifpekahaaW.PrintMore
attribute [local go_sem] max2_int min2_int max_two min_two max_three min_three max_four min_four
set_option linter.unusedVariables false
set_option linter.unusedSimpArgs false
def laws_eqMethod.f (k : Nat) (a0_0 : Int) (a0_1 : Int) (l0_2 : List Int) (a0_3 : Int) (a0_4 : Int) (l0_5 : List (S67)) (l0_6 : List (S70)) (l0_7 : List (S73)) (a1_0 : Int) (a1_1 : Int) (l1_2 : List Int) (a1_3 : Int) (a1_4 : Int) (l1_5 : List (S67)) (l1_6 : List (S70)) (l1_7 : List (S73)) : Option (Bool) := if a0_0 = a1_0 then (if a0_1 = a1_1 then ((laws_eqIntS.f k l0_2 l1_2).bind fun t439 => (if t439 = true then (if a0_3 = a1_3 then (if a0_4 = a1_4 then ((laws_eqInsS.f k l0_5 l1_5).bind fun t440 => (if t440 = true then ((laws_eqShapeS.f k l0_6 l1_6).bind fun t441 => (if t441 = true then ((laws_eqCatchS.f k l0_7 l1_7).bind fun t442 => (if t442 = true then (some true) else (some false))) else (some false))) else (some false))) else (some false)) else (some false)) else (some false))) else (some false)) else (some false)
end Go.Proofs.Ytedodaifpekahaa.P

end
section

namespace Go.Proofs.Ytedodaifpekahaa.P
open Go.RowKit Go.Proofs.YtedodaifpekahaaW.PrintWords Go.Proofs.YtedodaifpekahaaW.PrintLast Go.Proofs.YtedodaifpekahaaW.PrintMore
attribute [local go_sem] max2_int min2_int max_two min_two max_three min_three max_four min_four
set_option linter.unusedVariables false
set_option linter.unusedSimpArgs false
def laws_eqMethodS.l0 : Nat → List (S46) → List (S46) → Int → Option (Bool)
  | 0, _, _, _ => none
  | k + 1, x0, x1, x5 => if x5 < (x0.length : Int) then (if 0 ≤ x5 then (if x5 < (x1.length : Int) then ((laws_eqMethod.f k ((rd_T46 x0 x5).f0) ((rd_T46 x0 x5).f1) ((rd_T46 x0 x5).f2) ((rd_T46 x0 x5).f3) ((rd_T46 x0 x5).f4) ((rd_T46 x0 x5).f5) ((rd_T46 x0 x5).f6) ((rd_T46 x0 x5).f7) ((rd_T46 x1 x5).f0) ((rd_T46 x1 x5).f1) ((rd_T46 x1 x5).f2) ((rd_T46 x1 x5).f3) ((rd_T46 x1 x5).f4) ((rd_T46 x1 x5).f5) ((rd_T46 x1 x5).f6) ((rd_T46 x1 x5).f7)).bind fun t445 => (if t445 = true then (laws_eqMethodS.l0 k x0 x1 (wrap64 (x5 + 1))) else (some false))) else (none)) else (none)) else (some true)
def laws_eqMethodS.f (k : Nat) (l0 : List (S46)) (l1 : List (S46)) : Option (Bool) := if (l0.length : Int) = (l1.length : Int) then (laws_eqMethodS.l0 k l0 l1 0) else (some false)
end Go.Proofs.Ytedodaifpekahaa.P

end
section

namespace Go.Proofs.Ytedodaifpekahaa.P
open Go.RowKit Go.Proofs.YtedodaifpekahaaW.PrintWords Go.Proofs.YtedodaifpekahaaW.PrintLast Go.Proofs.YtedodaifpekahaaW.PrintMore
attribute [local go_sem] max2_int min2_int max_two min_two max_three min_three max_four min_four
set_option linter.unusedVariables false
set_option linter.unusedSimpArgs false
def laws_eqUnit.f (k : Nat) (l0_0 : List (S76)) (l0_1 : List (S46)) (l1_0 : List (S76)) (l1_1 : List (S46)) : Option (Bool) := (laws_eqClassS.f k l0_0 l1_0).bind fun t448 => (if t448 = true then ((laws_eqMethodS.f k l0_1 l1_1).bind fun t449 => (if t449 = true then (some true) else (some false))) else (some false))
end Go.Proofs.Ytedodaifpekahaa.P

end
section

namespace Go.Proofs.Ytedodaifpekahaa.P
open Go.RowKit Go.Proofs.YtedodaifpekahaaW.PrintWords Go.Proofs.YtedodaifpekahaaW.PrintLast Go.Proofs.YtedodaifpekahaaW.PrintMore
attribute [local go_sem] max2_int min2_int max_two min_two max_three min_three max_four min_four
set_option linter.unusedVariables false
set_option linter.unusedSimpArgs false
def laws_FnExactUnitOk.f (k : Nat) (l0_0 : List (S58)) (l0_1 : List (S64)) : Option (Bool) := (laws_szUnit.f k l0_0 l0_1 1048576).bind fun t451 => (if t451 < 0 then (some true) else ((laws_toUnit.f k l0_0 l0_1).bind fun bt452 => ((spec_UnitOk.f k bt452.1 bt452.2).bind fun t458 => ((laws_toUnit.f k l0_0 l0_1).bind fun bt459 => ((impl_UnitOk.f k bt459.1 bt459.2).bind fun t466 => (if (t466 != t458) = true then (some false) else ((laws_toUnit.f k l0_0 l0_1).bind fun bt467 => ((laws_eqUnit.f k bt459.1 bt459.2 bt467.1 bt467.2).bind fun t473 => (if t473 = true then (some true) else (some false))))))))))
end Go.Proofs.Ytedodaifpekahaa.P

end
section

namespace Go.Proofs.Ytedodaifpekahaa.P
open Go.RowKit Go.Proofs.YtedodaifpekahaaW.PrintWords Go.Proofs.YtedodaifpekahaaW.PrintLast Go.Proofs.YtedodaifpekahaaW.PrintMore
attribute [local go_sem] max2_int min2_int max_two min_two max_three min_three max_four min_four
set_option linter.unusedVariables false
set_option linter.unusedSimpArgs false
set_option maxHeartbeats 8000000 in
set_option maxRecDepth 100000 in
theorem laws_szIntS.calls (A0 : Option Addr) (c0 : Nat) (l0 : List Int) (a1 : Int) (r : Int) (w : World) (hr0 : Kd.C (Kd.int .i64) w A0 l0.length l0) (hc0 : l0.length ≤ c0) (h : laws_szIntS.f l0 a1 = some r) :
  Calls Try.prog 50 #[.slice A0 l0.length c0, .int .i64 a1] w fun e w' => e = .returned (.int .i64 r) ∧ Drawn0 w w' := by
 have HR0 := Aside0.mk hr0
 have HC0 := Aside0.mk hc0
 clear hr0 hc0
 have H : (if (wrap64 (a1 - (l0.length : Int))) < 0 then (some (-1)) else (some (wrap64 (a1 - (l0.length : Int))))) = some r := h
 clear h
 by_cases c3 : (wrap64 (a1 - (l0.length : Int))) < 0
 ·rw [if_pos c3] at H
  have c3b0 : decide ((wrap64 (a1 - (l0.length : Int))) < 0) = true := decide_eq_true c3
  clear c3
  obtain rfl := Option.some.inj H; clear H
  go_enter Try.func50, Try.ntmps50
  go_wp2
  go_ret
  exact ⟨by first | rfl | (simp; done) | (simp [*]; done), by repeat (first | exact Drawn0.refl _ | apply Drawn0.step)⟩
 ·rw [if_neg c3] at H
  have c3b0 : decide ((wrap64 (a1 - (l0.length : Int))) < 0) = false := decide_eq_false c3
  clear c3
  obtain rfl := Option.some.inj H; clear H
  go_enter Try.func50, Try.ntmps50
  go_wp2
  go_ret
  exact ⟨by first | rfl | (simp; done) | (simp [*]; done), by repeat (first | exact Drawn0.refl _ | apply Drawn0.step)⟩
end Go.Proofs.Ytedodaifpekahaa.P

end
section

namespace Go.Proofs.Ytedodaifpekahaa.P
open Go.RowKit Go.Proofs.YtedodaifpekahaaW.PrintWords Go.Proofs.YtedodaifpekahaaW.PrintLast Go.Proofs.YtedodaifpekahaaW.PrintMore
attribute [local go_sem] max2_int min2_int max_two min_two max_three min_three max_four min_four
set_option linter.unusedVariables false
set_option linter.unusedSimpArgs false
set_option maxHeartbeats 8000000 in
set_option maxRecDepth 100000 in
theorem laws_szClass.calls (a0_0 : Int) (A0_1 : Option Addr) (c0_1 : Nat) (l0_1 : List Int) (a1 : Int) (r : Int) (w : World) (hr0_1 : Kd.C (Kd.int .i64) w A0_1 l0_1.length l0_1) (hc0_1 : l0_1.length ≤ c0_1) (h : laws_szClass.f a0_0 l0_1 a1 = some r) :
  Calls Try.prog 31 #[.agg #[.int .i64 a0_0, .slice A0_1 l0_1.length c0_1], .int .i64 a1] w fun e w' => e = .returned (.int .i64 r) ∧ Below w.heap.size w w' := by
 have hu58 := Try.underlying58
 have HR0_1 := Aside0.mk hr0_1
 have HC0_1 := Aside0.mk hc0_1
 clear hr0_1 hc0_1
 have HB := Aside0.mk (Below.refl w.heap.size w)
 have H : ((laws_szIntS.f l0_1 a1).bind fun t102 => (if t102 < 0 then (some (-1)) else (some t102))) = some r := h
 clear h
 obtain ⟨t102, A3, H⟩ := ob H
 by_cases c4 : t102 < 0
 ·rw [if_pos c4] at H
  have c4b0 : decide (t102 < 0) = true := decide_eq_true c4
  clear c4
  obtain rfl := Option.some.inj H; clear H
  go_enter Try.func31, Try.ntmps31
  go_wp2_with (first | ((with_reducible refine gc 50 rfl ?_); refine gl (some 8) Try.func50 #[.slice A0_1 l0_1.length c0_1, .int .i64 a1] rfl ?_; (with_reducible refine (laws_szIntS.calls _ _ l0_1 a1 t102 _ ?side1 ?side2 A3.out).mono ?_); (case side1 => exact cb HR0_1.out); (case side2 => exact HC0_1.out); rintro e w' ⟨rfl, ⟨nd, rfl⟩⟩; refine ⟨_, rfl, ?_⟩))
  go_ret
  exact fin
 ·rw [if_neg c4] at H
  have c4b0 : decide (t102 < 0) = false := decide_eq_false c4
  clear c4
  obtain rfl := Option.some.inj H; clear H
  go_enter Try.func31, Try.ntmps31
  go_wp2_with (first | ((with_reducible refine gc 50 rfl ?_); refine gl (some 8) Try.func50 #[.slice A0_1 l0_1.length c0_1, .int .i64 a1] rfl ?_; (with_reducible refine (laws_szIntS.calls _ _ l0_1 a1 t102 _ ?side1 ?side2 A3.out).mono ?_); (case side1 => exact cb HR0_1.out); (case side2 => exact HC0_1.out); rintro e w' ⟨rfl, ⟨nd, rfl⟩⟩; refine ⟨_, rfl, ?_⟩))
  go_ret
  exact fin
end Go.Proofs.Ytedodaifpekahaa.P

end
section

namespace Go.Proofs.Ytedodaifpekahaa.P
open Go.RowKit Go.Proofs.YtedodaifpekahaaW.PrintWords Go.Proofs.YtedodaifpekahaaW.PrintLast Go.Proofs.YtedodaifpekahaaW.PrintMore
attribute [local go_sem] max2_int min2_int max_two min_two max_three min_three max_four min_four
set_option linter.unusedVariables false
set_option linter.unusedSimpArgs false
set_option maxHeartbeats 8000000 in
set_option maxRecDepth 100000 in
theorem laws_szClassS.calls (k : Nat) (A0 : Option Addr) (c0 : Nat) (l0 : List (S58)) (a1 : Int) (r : Int) (w : World) (hr0 : Kd.C k58 w A0 l0.length l0) (hc0 : l0.length ≤ c0) (h : laws_szClassS.f k l0 a1 = some r) :
  Calls Try.prog 12 #[.slice A0 l0.length c0, .int .i64 a1] w fun e w' => e = .returned (.int .i64 r) ∧ Below w.heap.size w w' := by
 have hu58 := Try.underlying58
 have HR0 := Aside0.mk hr0
 have HC0 := Aside0.mk hc0
 clear hr0 hc0
 have HB := Aside0.mk (Below.refl w.heap.size w)
 have H : (if (wrap64 (a1 - (l0.length : Int))) < 0 then (some (-1)) else (laws_szClassS.l0 k l0 (wrap64 (a1 - (l0.length : Int))) 0)) = some r := h
 clear h
 by_cases c3 : (wrap64 (a1 - (l0.length : Int))) < 0
 ·rw [if_pos c3] at H
  have c3b0 : decide ((wrap64 (a1 - (l0.length : Int))) < 0) = true := decide_eq_true c3
  clear c3
  obtain rfl := Option.some.inj H; clear H
  go_enter Try.func12, Try.ntmps12
  go_wp2
  go_ret
  exact fin
 ·rw [if_neg c3] at H
  have c3b0 : decide ((wrap64 (a1 - (l0.length : Int))) < 0) = false := decide_eq_false c3
  clear c3
  have H' := Aside0.mk H
  clear H
  go_enter Try.func12, Try.ntmps12
  go_wp2
  go_loopg [1, 5] k (fun kq v1 v5 w' => ∃ (x1_1 : Int) (x5_1 : Int), v1 = .int .i64 x1_1 ∧ v5 = .int .i64 x5_1 ∧ Aside0 (laws_szClassS.l0 kq l0 x1_1 x5_1 = some r) ∧ Aside0 (kq ≤ k) ∧ Aside0 (Below w.heap.size w w'))
  case atStart => exact ⟨(wrap64 (a1 - (l0.length : Int))), (0), (by first | rfl | (simp; done) | (simp [*]; done)), (by first | rfl | (simp; done) | (simp [*]; done)), H', ⟨Nat.le_refl _⟩, ⟨bl⟩⟩
  case round =>
   clear H'
   obtain ⟨x1_1, x5_1, rfl, rfl, HA, HK1, HB⟩ := hrel
   cases gk with
   | zero => exact absurd HA.out (by simp [laws_szClassS.l0])
   | succ k1 =>
    have H := HA.out
    clear HA
    simp only [laws_szClassS.l0] at H
    by_cases c4 : x5_1 < (l0.length : Int)
    ·rw [if_pos c4] at H
     have c4b0 : decide (x5_1 < (l0.length : Int)) = true := decide_eq_true c4
     clear c4
     by_cases c5 : 0 ≤ x5_1
     ·rw [if_pos c5] at H
      have c5b0 : decide (0 ≤ x5_1) = true := decide_eq_true c5
      clear c5
      obtain ⟨t104, A6, H⟩ := ob H
      by_cases c7 : t104 < 0
      ·rw [if_pos c7] at H
       have c7b0 : decide (t104 < 0) = true := decide_eq_true c7
       clear c7
       obtain rfl := Option.some.inj H; clear H
       have p103 : 0 ≤ (x5_1 : Int) := od
       have q103 : x5_1 < (l0.length : Int) := od
       obtain ⟨ad103, A103_1, c103_1, e103, hx103_0, hx103_1, hl103_1, hi103_1⟩ := at_T58 HR0.out x5_1 p103 q103
       cases e103
       obtain ⟨hx103_0,hx103_1⟩ := hc2 HB hx103_0 hx103_1
       have HR103_1 := Aside0.mk hi103_1
       have HC103_1 := Aside0.mk hl103_1
       clear hi103_1 hl103_1
       replace p103 := eq_true p103
       replace q103 := eq_true q103
       go_wp2_with (first | ((with_reducible refine gc 31 rfl ?_); refine gl (some 23) Try.func31 #[.agg #[.int .i64 ((rd_T58 l0 x5_1).f0), .slice A103_1 ((rd_T58 l0 x5_1).f1).length c103_1], .int .i64 x1_1] rfl ?_; (with_reducible refine (laws_szClass.calls ((rd_T58 l0 x5_1).f0) _ _ ((rd_T58 l0 x5_1).f1) x1_1 t104 _ ?side1 ?side2 A6.out).mono ?_); (case side1 => exact cb HR103_1.out); (case side2 => exact HC103_1.out); rintro e w8 ⟨rfl, hb⟩; refine ⟨_, rfl, ?_⟩; replace HB := hs HB hb; (try clear hb)))
       go_ret
       exact fin
      ·rw [if_neg c7] at H
       have c7b0 : decide (t104 < 0) = false := decide_eq_false c7
       clear c7
       have H' := Aside0.mk H
       clear H
       have p103 : 0 ≤ (x5_1 : Int) := od
       have q103 : x5_1 < (l0.length : Int) := od
       obtain ⟨ad103, A103_1, c103_1, e103, hx103_0, hx103_1, hl103_1, hi103_1⟩ := at_T58 HR0.out x5_1 p103 q103
       cases e103
       obtain ⟨hx103_0,hx103_1⟩ := hc2 HB hx103_0 hx103_1
       have HR103_1 := Aside0.mk hi103_1
       have HC103_1 := Aside0.mk hl103_1
       clear hi103_1 hl103_1
       replace p103 := eq_true p103
       replace q103 := eq_true q103
       go_wp2_with (first | ((with_reducible refine gc 31 rfl ?_); refine gl (some 23) Try.func31 #[.agg #[.int .i64 ((rd_T58 l0 x5_1).f0), .slice A103_1 ((rd_T58 l0 x5_1).f1).length c103_1], .int .i64 x1_1] rfl ?_; (with_reducible refine (laws_szClass.calls ((rd_T58 l0 x5_1).f0) _ _ ((rd_T58 l0 x5_1).f1) x1_1 t104 _ ?side1 ?side2 A6.out).mono ?_); (case side1 => exact cb HR103_1.out); (case side2 => exact HC103_1.out); rintro e w9 ⟨rfl, hb⟩; refine ⟨_, rfl, ?_⟩; replace HB := hs HB hb; (try clear hb)))
       go_roundg k1
       case measure => have := HK1.out; omega
       case rel => exact ⟨(t104), (wrap64 (x5_1 + 1)), (by first | rfl | (simp; done) | (simp [*]; done)), (by first | rfl | (simp; done) | (simp [*]; done)), H', ⟨by have := HK1.out; omega⟩, ⟨bl⟩⟩
     ·rw [if_neg c5] at H
      exact absurd H (by simp)
    ·rw [if_neg c4] at H
     have c4b0 : decide (x5_1 < (l0.length : Int)) = false := decide_eq_false c4
     clear c4
     obtain rfl := Option.some.inj H; clear H
     go_wp2
     go_ret
     exact fin
end Go.Proofs.Ytedodaifpekahaa.P

end
section

namespace Go.Proofs.Ytedodaifpekahaa.P
open Go.RowKit Go.Proofs.YtedodaifpekahaaW.PrintWords Go.Proofs.YtedodaifpekahaaW.PrintLast Go.Proofs.YtedodaifpekahaaW.PrintMore
attribute [local go_sem] max2_int min2_int max_two min_two max_three min_three max_four min_four
set_option linter.unusedVariables false
set_option linter.unusedSimpArgs false
set_option maxHeartbeats 8000000 in
set_option maxRecDepth 100000 in
theorem laws_szInsS.calls (A0 : Option Addr) (c0 : Nat) (l0 : List (S113)) (a1 : Int) (r : Int) (w : World) (hr0 : Kd.C k113 w A0 l0.length l0) (hc0 : l0.length ≤ c0) (h : laws_szInsS.f l0 a1 = some r) :
  Calls Try.prog 51 #[.slice A0 l0.length c0, .int .i64 a1] w fun e w' => e = .returned (.int .i64 r) ∧ Drawn0 w w' := by
 have HR0 := Aside0.mk hr0
 have HC0 := Aside0.mk hc0
 clear hr0 hc0
 have H : (if (wrap64 (a1 - (l0.length : Int))) < 0 then (some (-1)) else (some (wrap64 (a1 - (l0.length : Int))))) = some r := h
 clear h
 by_cases c3 : (wrap64 (a1 - (l0.length : Int))) < 0
 ·rw [if_pos c3] at H
  have c3b0 : decide ((wrap64 (a1 - (l0.length : Int))) < 0) = true := decide_eq_true c3
  clear c3
  obtain rfl := Option.some.inj H; clear H
  go_enter Try.func51, Try.ntmps51
  go_wp2
  go_ret
  exact ⟨by first | rfl | (simp; done) | (simp [*]; done), by repeat (first | exact Drawn0.refl _ | apply Drawn0.step)⟩
 ·rw [if_neg c3] at H
  have c3b0 : decide ((wrap64 (a1 - (l0.length : Int))) < 0) = false := decide_eq_false c3
  clear c3
  obtain rfl := Option.some.inj H; clear H
  go_enter Try.func51, Try.ntmps51
  go_wp2
  go_ret
  exact ⟨by first | rfl | (simp; done) | (simp [*]; done), by repeat (first | exact Drawn0.refl _ | apply Drawn0.step)⟩
end Go.Proofs.Ytedodaifpekahaa.P

end
section

namespace Go.Proofs.Ytedodaifpekahaa.P
open Go.RowKit Go.Proofs.YtedodaifpekahaaW.PrintWords Go.Proofs.YtedodaifpekahaaW.PrintLast Go.Proofs.YtedodaifpekahaaW.PrintMore
attribute [local go_sem] max2_int min2_int max_two min_two max_three min_three max_four min_four
set_option linter.unusedVariables false
set_option linter.unusedSimpArgs false
set_option maxHeartbeats 8000000 in
set_option maxRecDepth 100000 in
theorem laws_szShape.calls (a0_0 : Bool) (A0_1 : Option Addr) (c0_1 : Nat) (l0_1 : List Int) (A0_2 : Option Addr) (c0_2 : Nat) (l0_2 : List Int) (a1 : Int) (r : Int) (w : World) (hr0_1 : Kd.C (Kd.int .i64) w A0_1 l0_1.length l0_1) (hc0_1 : l0_1.length ≤ c0_1) (hr0_2 : Kd.C (Kd.int .i64) w A0_2 l0_2.length l0_2) (hc0_2 : l0_2.length ≤ c0_2) (h : laws_szShape.f a0_0 l0_1 l0_2 a1 = some r) :
  Calls Try.prog 69 #[.agg #[.bool a0_0, .slice A0_1 l0_1.length c0_1, .slice A0_2 l0_2.length c0_2], .int .i64 a1] w fun e w' => e = .returned (.int .i64 r) ∧ Below w.heap.size w w' := by
 have hu111 := Try.underlying111
 have HR0_1 := Aside0.mk hr0_1
 have HC0_1 := Aside0.mk hc0_1
 clear hr0_1 hc0_1
 have HR0_2 := Aside0.mk hr0_2
 have HC0_2 := Aside0.mk hc0_2
 clear hr0_2 hc0_2
 have HB := Aside0.mk (Below.refl w.heap.size w)
 have H : ((laws_szIntS.f l0_1 a1).bind fun t106 => (if t106 < 0 then (some (-1)) else ((laws_szIntS.f l0_2 t106).bind fun t107 => (if t107 < 0 then (some (-1)) else (some t107))))) = some r := h
 clear h
 obtain ⟨t106, A3, H⟩ := ob H
 by_cases c4 : t106 < 0
 ·rw [if_pos c4] at H
  have c4b0 : decide (t106 < 0) = true := decide_eq_true c4
  clear c4
  obtain rfl := Option.some.inj H; clear H
  go_enter Try.func69, Try.ntmps69
  go_wp2_with (first | ((with_reducible refine gc 50 rfl ?_); refine gl (some 8) Try.func50 #[.slice A0_1 l0_1.length c0_1, .int .i64 a1] rfl ?_; (with_reducible refine (laws_szIntS.calls _ _ l0_1 a1 t106 _ ?side1 ?side2 A3.out).mono ?_); (case side1 => exact cb HR0_1.out); (case side2 => exact HC0_1.out); rintro e w' ⟨rfl, ⟨nd, rfl⟩⟩; refine ⟨_, rfl, ?_⟩))
  go_ret
  exact fin
 ·rw [if_neg c4] at H
  have c4b0 : decide (t106 < 0) = false := decide_eq_false c4
  clear c4
  obtain ⟨t107, A7, H⟩ := ob H
  by_cases c8 : t107 < 0
  ·rw [if_pos c8] at H
   have c8b0 : decide (t107 < 0) = true := decide_eq_true c8
   clear c8
   obtain rfl := Option.some.inj H; clear H
   go_enter Try.func69, Try.ntmps69
   go_wp2_with (first | ((with_reducible refine gc 50 rfl ?_); refine gl (some 8) Try.func50 #[.slice A0_1 l0_1.length c0_1, .int .i64 a1] rfl ?_; (with_reducible refine (laws_szIntS.calls _ _ l0_1 a1 t106 _ ?side1 ?side2 A3.out).mono ?_); (case side1 => exact cb HR0_1.out); (case side2 => exact HC0_1.out); rintro e w' ⟨rfl, ⟨nd, rfl⟩⟩; refine ⟨_, rfl, ?_⟩) | ((with_reducible refine gc 50 rfl ?_); refine gl (some 14) Try.func50 #[.slice A0_2 l0_2.length c0_2, .int .i64 t106] rfl ?_; (with_reducible refine (laws_szIntS.calls _ _ l0_2 t106 t107 _ ?side1 ?side2 A7.out).mono ?_); (case side1 => exact cb HR0_2.out); (case side2 => exact HC0_2.out); rintro e w' ⟨rfl, ⟨nd, rfl⟩⟩; refine ⟨_, rfl, ?_⟩))
   go_ret
   exact fin
  ·rw [if_neg c8] at H
   have c8b0 : decide (t107 < 0) = false := decide_eq_false c8
   clear c8
   obtain rfl := Option.some.inj H; clear H
   go_enter Try.func69, Try.ntmps69
   go_wp2_with (first | ((with_reducible refine gc 50 rfl ?_); refine gl (some 8) Try.func50 #[.slice A0_1 l0_1.length c0_1, .int .i64 a1] rfl ?_; (with_reducible refine (laws_szIntS.calls _ _ l0_1 a1 t106 _ ?side1 ?side2 A3.out).mono ?_); (case side1 => exact cb HR0_1.out); (case side2 => exact HC0_1.out); rintro e w' ⟨rfl, ⟨nd, rfl⟩⟩; refine ⟨_, rfl, ?_⟩) | ((with_reducible refine gc 50 rfl ?_); refine gl (some 14) Try.func50 #[.slice A0_2 l0_2.length c0_2, .int .i64 t106] rfl ?_; (with_reducible refine (laws_szIntS.calls _ _ l0_2 t106 t107 _ ?side1 ?side2 A7.out).mono ?_); (case side1 => exact cb HR0_2.out); (case side2 => exact HC0_2.out); rintro e w' ⟨rfl, ⟨nd, rfl⟩⟩; refine ⟨_, rfl, ?_⟩))
   go_ret
   exact fin
end Go.Proofs.Ytedodaifpekahaa.P

end
section

namespace Go.Proofs.Ytedodaifpekahaa.P
open Go.RowKit Go.Proofs.YtedodaifpekahaaW.PrintWords Go.Proofs.YtedodaifpekahaaW.PrintLast Go.Proofs.YtedodaifpekahaaW.PrintMore
attribute [local go_sem] max2_int min2_int max_two min_two max_three min_three max_four min_four
set_option linter.unusedVariables false
set_option linter.unusedSimpArgs false
set_option maxHeartbeats 8000000 in
set_option maxRecDepth 100000 in
theorem laws_szShapeS.calls (k : Nat) (A0 : Option Addr) (c0 : Nat) (l0 : List (S111)) (a1 : Int) (r : Int) (w : World) (hr0 : Kd.C k111 w A0 l0.length l0) (hc0 : l0.length ≤ c0) (h : laws_szShapeS.f k l0 a1 = some r) :
  Calls Try.prog 52 #[.slice A0 l0.length c0, .int .i64 a1] w fun e w' => e = .returned (.int .i64 r) ∧ Below w.heap.size w w' := by
 have hu111 := Try.underlying111
 have HR0 := Aside0.mk hr0
 have HC0 := Aside0.mk hc0
 clear hr0 hc0
 have HB := Aside0.mk (Below.refl w.heap.size w)
 have H : (if (wrap64 (a1 - (l0.length : Int))) < 0 then (some (-1)) else (laws_szShapeS.l0 k l0 (wrap64 (a1 - (l0.length : Int))) 0)) = some r := h
 clear h
 by_cases c3 : (wrap64 (a1 - (l0.length : Int))) < 0
 ·rw [if_pos c3] at H
  have c3b0 : decide ((wrap64 (a1 - (l0.length : Int))) < 0) = true := decide_eq_true c3
  clear c3
  obtain rfl := Option.some.inj H; clear H
  go_enter Try.func52, Try.ntmps52
  go_wp2
  go_ret
  exact fin
 ·rw [if_neg c3] at H
  have c3b0 : decide ((wrap64 (a1 - (l0.length : Int))) < 0) = false := decide_eq_false c3
  clear c3
  have H' := Aside0.mk H
  clear H
  go_enter Try.func52, Try.ntmps52
  go_wp2
  go_loopg [1, 5] k (fun kq v1 v5 w' => ∃ (x1_1 : Int) (x5_1 : Int), v1 = .int .i64 x1_1 ∧ v5 = .int .i64 x5_1 ∧ Aside0 (laws_szShapeS.l0 kq l0 x1_1 x5_1 = some r) ∧ Aside0 (kq ≤ k) ∧ Aside0 (Below w.heap.size w w'))
  case atStart => exact ⟨(wrap64 (a1 - (l0.length : Int))), (0), (by first | rfl | (simp; done) | (simp [*]; done)), (by first | rfl | (simp; done) | (simp [*]; done)), H', ⟨Nat.le_refl _⟩, ⟨bl⟩⟩
  case round =>
   clear H'
   obtain ⟨x1_1, x5_1, rfl, rfl, HA, HK1, HB⟩ := hrel
   cases gk with
   | zero => exact absurd HA.out (by simp [laws_szShapeS.l0])
   | succ k1 =>
    have H := HA.out
    clear HA
    simp only [laws_szShapeS.l0] at H
    by_cases c4 : x5_1 < (l0.length : Int)
    ·rw [if_pos c4] at H
     have c4b0 : decide (x5_1 < (l0.length : Int)) = true := decide_eq_true c4
     clear c4
     by_cases c5 : 0 ≤ x5_1
     ·rw [if_pos c5] at H
      have c5b0 : decide (0 ≤ x5_1) = true := decide_eq_true c5
      clear c5
      obtain ⟨t109, A6, H⟩ := ob H
      by_cases c7 : t109 < 0
      ·rw [if_pos c7] at H
       have c7b0 : decide (t109 < 0) = true := decide_eq_true c7
       clear c7
       obtain rfl := Option.some.inj H; clear H
       have p108 : 0 ≤ (x5_1 : Int) := od
       have q108 : x5_1 < (l0.length : Int) := od
       obtain ⟨ad108, A108_1, c108_1, A108_2, c108_2, e108, hx108_0, hx108_1, hx108_2, hl108_1, hi108_1, hl108_2, hi108_2⟩ := at_T111 HR0.out x5_1 p108 q108
       cases e108
       obtain ⟨hx108_0,hx108_1,hx108_2⟩ := hc3 HB hx108_0 hx108_1 hx108_2
       have HR108_1 := Aside0.mk hi108_1
       have HC108_1 := Aside0.mk hl108_1
       clear hi108_1 hl108_1
       have HR108_2 := Aside0.mk hi108_2
       have HC108_2 := Aside0.mk hl108_2
       clear hi108_2 hl108_2
       replace p108 := eq_true p108
       replace q108 := eq_true q108
       go_wp2_with (first | ((with_reducible refine gc 69 rfl ?_); refine gl (some 23) Try.func69 #[.agg #[.bool ((rd_T111 l0 x5_1).f0), .slice A108_1 ((rd_T111 l0 x5_1).f1).length c108_1, .slice A108_2 ((rd_T111 l0 x5_1).f2).length c108_2], .int .i64 x1_1] rfl ?_; (with_reducible refine (laws_szShape.calls ((rd_T111 l0 x5_1).f0) _ _ ((rd_T111 l0 x5_1).f1) _ _ ((rd_T111 l0 x5_1).f2) x1_1 t109 _ ?side1 ?side2 ?side3 ?side4 A6.out).mono ?_); (case side1 => exact cb HR108_1.out); (case side2 => exact HC108_1.out); (case side3 => exact cb HR108_2.out); (case side4 => exact HC108_2.out); rintro e w8 ⟨rfl, hb⟩; refine ⟨_, rfl, ?_⟩; replace HB := hs HB hb; (try clear hb)))
       go_ret
       exact fin
      ·rw [if_neg c7] at H
       have c7b0 : decide (t109 < 0) = false := decide_eq_false c7
       clear c7
       have H' := Aside0.mk H
       clear H
       have p108 : 0 ≤ (x5_1 : Int) := od
       have q108 : x5_1 < (l0.length : Int) := od
       obtain ⟨ad108, A108_1, c108_1, A108_2, c108_2, e108, hx108_0, hx108_1, hx108_2, hl108_1, hi108_1, hl108_2, hi108_2⟩ := at_T111 HR0.out x5_1 p108 q108
       cases e108
       obtain ⟨hx108_0,hx108_1,hx108_2⟩ := hc3 HB hx108_0 hx108_1 hx108_2
       have HR108_1 := Aside0.mk hi108_1
       have HC108_1 := Aside0.mk hl108_1
       clear hi108_1 hl108_1
       have HR108_2 := Aside0.mk hi108_2
       have HC108_2 := Aside0.mk hl108_2
       clear hi108_2 hl108_2
       replace p108 := eq_true p108
       replace q108 := eq_true q108
       go_wp2_with (first | ((with_reducible refine gc 69 rfl ?_); refine gl (some 23) Try.func69 #[.agg #[.bool ((rd_T111 l0 x5_1).f0), .slice A108_1 ((rd_T111 l0 x5_1).f1).length c108_1, .slice A108_2 ((rd_T111 l0 x5_1).f2).length c108_2], .int .i64 x1_1] rfl ?_; (with_reducible refine (laws_szShape.calls ((rd_T111 l0 x5_1).f0) _ _ ((rd_T111 l0 x5_1).f1) _ _ ((rd_T111 l0 x5_1).f2) x1_1 t109 _ ?side1 ?side2 ?side3 ?side4 A6.out).mono ?_); (case side1 => exact cb HR108_1.out); (case side2 => exact HC108_1.out); (case side3 => exact cb HR108_2.out); (case side4 => exact HC108_2.out); rintro e w9 ⟨rfl, hb⟩; refine ⟨_, rfl, ?_⟩; replace HB := hs HB hb; (try clear hb)))
       go_roundg k1
       case measure => have := HK1.out; omega
       case rel => exact ⟨(t109), (wrap64 (x5_1 + 1)), (by first | rfl | (simp; done) | (simp [*]; done)), (by first | rfl | (simp; done) | (simp [*]; done)), H', ⟨by have := HK1.out; omega⟩, ⟨bl⟩⟩
     ·rw [if_neg c5] at H
      exact absurd H (by simp)
    ·rw [if_neg c4] at H
     have c4b0 : decide (x5_1 < (l0.length : Int)) = false := decide_eq_false c4
     clear c4
     obtain rfl := Option.some.inj H; clear H
     go_wp2
     go_ret
     exact fin
end Go.Proofs.Ytedodaifpekahaa.P

end
section

namespace Go.Proofs.Ytedodaifpekahaa.P
open Go.RowKit Go.Proofs.YtedodaifpekahaaW.PrintWords Go.Proofs.YtedodaifpekahaaW.PrintLast Go.Proofs.YtedodaifpekahaaW.PrintMore
attribute [local go_sem] max2_int min2_int max_two min_two max_three min_three max_four min_four
set_option linter.unusedVariables false
set_option linter.unusedSimpArgs false
set_option maxHeartbeats 8000000 in
set_option maxRecDepth 100000 in
theorem laws_szCatchS.calls (A0 : Option Addr) (c0 : Nat) (l0 : List (S116)) (a1 : Int) (r : Int) (w : World) (hr0 : Kd.C k116 w A0 l0.length l0) (hc0 : l0.length ≤ c0) (h : laws_szCatchS.f l0 a1 = some r) :
  Calls Try.prog 53 #[.slice A0 l0.length c0, .int .i64 a1] w fun e w' => e = .returned (.int .i64 r) ∧ Drawn0 w w' := by
 have HR0 := Aside0.mk hr0
 have HC0 := Aside0.mk hc0
 clear hr0 hc0
 have H : (if (wrap64 (a1 - (l0.length : Int))) < 0 then (some (-1)) else (some (wrap64 (a1 - (l0.length : Int))))) = some r := h
 clear h
 by_cases c3 : (wrap64 (a1 - (l0.length : Int))) < 0
 ·rw [if_pos c3] at H
  have c3b0 : decide ((wrap64 (a1 - (l0.length : Int))) < 0) = true := decide_eq_true c3
  clear c3
  obtain rfl := Option.some.inj H; clear H
  go_enter Try.func53, Try.ntmps53
  go_wp2
  go_ret
  exact ⟨by first | rfl | (simp; done) | (simp [*]; done), by repeat (first | exact Drawn0.refl _ | apply Drawn0.step)⟩
 ·rw [if_neg c3] at H
  have c3b0 : decide ((wrap64 (a1 - (l0.length : Int))) < 0) = false := decide_eq_false c3
  clear c3
  obtain rfl := Option.some.inj H; clear H
  go_enter Try.func53, Try.ntmps53
  go_wp2
  go_ret
  exact ⟨by first | rfl | (simp; done) | (simp [*]; done), by repeat (first | exact Drawn0.refl _ | apply Drawn0.step)⟩
end Go.Proofs.Ytedodaifpekahaa.P

end
section

namespace Go.Proofs.Ytedodaifpekahaa.P
open Go.RowKit Go.Proofs.YtedodaifpekahaaW.PrintWords Go.Proofs.YtedodaifpekahaaW.PrintLast Go.Proofs.YtedodaifpekahaaW.PrintMore
attribute [local go_sem] max2_int min2_int max_two min_two max_three min_three max_four min_four
set_option linter.unusedVariables false
set_option linter.unusedSimpArgs false
set_option maxHeartbeats 8000000 in
set_option maxRecDepth 100000 in
theorem laws_szMethod.calls (k : Nat) (a0_0 : Int) (a0_1 : Int) (A0_2 : Option Addr) (c0_2 : Nat) (l0_2 : List Int) (a0_3 : Int) (a0_4 : Int) (A0_5 : Option Addr) (c0_5 : Nat) (l0_5 : List (S113)) (A0_6 : Option Addr) (c0_6 : Nat) (l0_6 : List (S111)) (A0_7 : Option Addr) (c0_7 : Nat) (l0_7 : List (S116)) (a1 : Int) (r : Int) (w : World) (hr0_2 : Kd.C (Kd.int .i64) w A0_2 l0_2.length l0_2) (hc0_2 : l0_2.length ≤ c0_2) (hr0_5 : Kd.C k113 w A0_5 l0_5.length l0_5) (hc0_5 : l0_5.length ≤ c0_5) (hr0_6 : Kd.C k111 w A0_6 l0_6.length l0_6) (hc0_6 : l0_6.length ≤ c0_6) (hr0_7 : Kd.C k116 w A0_7 l0_7.length l0_7) (hc0_7 : l0_7.length ≤ c0_7) (h : laws_szMethod.f k a0_0 a0_1 l0_2 a0_3 a0_4 l0_5 l0_6 l0_7 a1 = some r) :
  Calls Try.prog 32 #[.agg #[.int .i64 a0_0, .int .i64 a0_1, .slice A0_2 l0_2.length c0_2, .int .i64 a0_3, .int .i64 a0_4, .slice A0_5 l0_5.length c0_5, .slice A0_6 l0_6.length c0_6, .slice A0_7 l0_7.length c0_7], .int .i64 a1] w fun e w' => e = .returned (.int .i64 r) ∧ Below w.heap.size w w' := by
 have hu64 := Try.underlying64
 have HR0_2 := Aside0.mk hr0_2
 have HC0_2 := Aside0.mk hc0_2
 clear hr0_2 hc0_2
 have HR0_5 := Aside0.mk hr0_5
 have HC0_5 := Aside0.mk hc0_5
 clear hr0_5 hc0_5
 have HR0_6 := Aside0.mk hr0_6
 have HC0_6 := Aside0.mk hc0_6
 clear hr0_6 hc0_6
 have HR0_7 := Aside0.mk hr0_7
 have HC0_7 := Aside0.mk hc0_7
 clear hr0_7 hc0_7
 have HB := Aside0.mk (Below.refl w.heap.size w)
 have H : ((laws_szIntS.f l0_2 a1).bind fun t111 => (if t111 < 0 then (some (-1)) else ((laws_szInsS.f l0_5 t111).bind fun t112 => (if t112 < 0 then (some (-1)) else ((laws_szShapeS.f k l0_6 t112).bind fun t113 => (if t113 < 0 then (some (-1)) else ((laws_szCatchS.f l0_7 t113).bind fun t114 => (if t114 < 0 then (some (-1)) else (some t114))))))))) = some r := h
 clear h
 obtain ⟨t111, A3, H⟩ := ob H
 by_cases c4 : t111 < 0
 ·rw [if_pos c4] at H
  have c4b0 : decide (t111 < 0) = true := decide_eq_true c4
  clear c4
  obtain rfl := Option.some.inj H; clear H
  go_enter Try.func32, Try.ntmps32
  go_wp2_with (first | ((with_reducible refine gc 50 rfl ?_); refine gl (some 8) Try.func50 #[.slice A0_2 l0_2.length c0_2, .int .i64 a1] rfl ?_; (with_reducible refine (laws_szIntS.calls _ _ l0_2 a1 t111 _ ?side1 ?side2 A3.out).mono ?_); (case side1 => exact cb HR0_2.out); (case side2 => exact HC0_2.out); rintro e w' ⟨rfl, ⟨nd, rfl⟩⟩; refine ⟨_, rfl, ?_⟩))
  go_ret
  exact fin
 ·rw [if_neg c4] at H
  have c4b0 : decide (t111 < 0) = false := decide_eq_false c4
  clear c4
  obtain ⟨t112, A7, H⟩ := ob H
  by_cases c8 : t112 < 0
  ·rw [if_pos c8] at H
   have c8b0 : decide (t112 < 0) = true := decide_eq_true c8
   clear c8
   obtain rfl := Option.some.inj H; clear H
   go_enter Try.func32, Try.ntmps32
   go_wp2_with (first | ((with_reducible refine gc 50 rfl ?_); refine gl (some 8) Try.func50 #[.slice A0_2 l0_2.length c0_2, .int .i64 a1] rfl ?_; (with_reducible refine (laws_szIntS.calls _ _ l0_2 a1 t111 _ ?side1 ?side2 A3.out).mono ?_); (case side1 => exact cb HR0_2.out); (case side2 => exact HC0_2.out); rintro e w' ⟨rfl, ⟨nd, rfl⟩⟩; refine ⟨_, rfl, ?_⟩) | ((with_reducible refine gc 51 rfl ?_); refine gl (some 14) Try.func51 #[.slice A0_5 l0_5.length c0_5, .int .i64 t111] rfl ?_; (with_reducible refine (laws_szInsS.calls _ _ l0_5 t111 t112 _ ?side1 ?side2 A7.out).mono ?_); (case side1 => exact cb HR0_5.out); (case side2 => exact HC0_5.out); rintro e w' ⟨rfl, ⟨nd, rfl⟩⟩; refine ⟨_, rfl, ?_⟩))
   go_ret
   exact fin
  ·rw [if_neg c8] at H
   have c8b0 : decide (t112 < 0) = false := decide_eq_false c8
   clear c8
   obtain ⟨t113, A11, H⟩ := ob H
   by_cases c12 : t113 < 0
   ·rw [if_pos c12] at H
    have c12b0 : decide (t113 < 0) = true := decide_eq_true c12
    clear c12
    obtain rfl := Option.some.inj H; clear H
    go_enter Try.func32, Try.ntmps32
    go_wp2_with (first | ((with_reducible refine gd 2 rfl ?_); refine bx 2 #[.int .i64 a0_0, .int .i64 a0_1, .slice A0_2 l0_2.length c0_2, .int .i64 a0_3, .int .i64 a0_4, .slice A0_5 l0_5.length c0_5, .slice A0_6 l0_6.length c0_6, .slice A0_7 l0_7.length c0_7] 64 ?_; intro gb110 hg w13 hbox hb; have BK110 := Aside0.mk hbox; have GW110 := hz HB hg; have GE110 := hz HB hg; replace HB := hs HB hb; clear hb hbox hg; obtain ⟨_,_,_,_,_,_,_,_,_,_,_,_,_,_,_,_⟩ := cf8 BK110) | ((with_reducible refine gc 50 rfl ?_); refine gl (some 8) Try.func50 #[.slice A0_2 l0_2.length c0_2, .int .i64 a1] rfl ?_; (with_reducible refine (laws_szIntS.calls _ _ l0_2 a1 t111 _ ?side1 ?side2 A3.out).mono ?_); (case side1 => exact cb HR0_2.out); (case side2 => exact HC0_2.out); rintro e w' ⟨rfl, ⟨nd, rfl⟩⟩; refine ⟨_, rfl, ?_⟩) | ((with_reducible refine gc 51 rfl ?_); refine gl (some 14) Try.func51 #[.slice A0_5 l0_5.length c0_5, .int .i64 t111] rfl ?_; (with_reducible refine (laws_szInsS.calls _ _ l0_5 t111 t112 _ ?side1 ?side2 A7.out).mono ?_); (case side1 => exact cb HR0_5.out); (case side2 => exact HC0_5.out); rintro e w' ⟨rfl, ⟨nd, rfl⟩⟩; refine ⟨_, rfl, ?_⟩) | ((with_reducible refine gc 52 rfl ?_); refine gl (some 20) Try.func52 #[.slice A0_6 l0_6.length c0_6, .int .i64 t112] rfl ?_; (with_reducible refine (laws_szShapeS.calls k _ _ l0_6 t112 t113 _ ?side1 ?side2 A11.out).mono ?_); (case side1 => exact cb HR0_6.out); (case side2 => exact HC0_6.out); rintro e w15 ⟨rfl, hb⟩; refine ⟨_, rfl, ?_⟩; replace BK110 := kb BK110 hb; replace HB := hs HB hb; (try clear hb)))
    go_ret
    exact fin
   ·rw [if_neg c12] at H
    have c12b0 : decide (t113 < 0) = false := decide_eq_false c12
    clear c12
    obtain ⟨t114, A16, H⟩ := ob H
    by_cases c17 : t114 < 0
    ·rw [if_pos c17] at H
     have c17b0 : decide (t114 < 0) = true := decide_eq_true c17
     clear c17
     obtain rfl := Option.some.inj H; clear H
     go_enter Try.func32, Try.ntmps32
     go_wp2_with (first | ((with_reducible refine gd 2 rfl ?_); refine bx 2 #[.int .i64 a0_0, .int .i64 a0_1, .slice A0_2 l0_2.length c0_2, .int .i64 a0_3, .int .i64 a0_4, .slice A0_5 l0_5.length c0_5, .slice A0_6 l0_6.length c0_6, .slice A0_7 l0_7.length c0_7] 64 ?_; intro gb110 hg w18 hbox hb; have BK110 := Aside0.mk hbox; have GW110 := hz HB hg; have GE110 := hz HB hg; replace HB := hs HB hb; clear hb hbox hg; obtain ⟨_,_,_,_,_,_,_,_,_,_,_,_,_,_,_,_⟩ := cf8 BK110) | ((with_reducible refine gc 50 rfl ?_); refine gl (some 8) Try.func50 #[.slice A0_2 l0_2.length c0_2, .int .i64 a1] rfl ?_; (with_reducible refine (laws_szIntS.calls _ _ l0_2 a1 t111 _ ?side1 ?side2 A3.out).mono ?_); (case side1 => exact cb HR0_2.out); (case side2 => exact HC0_2.out); rintro e w' ⟨rfl, ⟨nd, rfl⟩⟩; refine ⟨_, rfl, ?_⟩) | ((with_reducible refine gc 51 rfl ?_); refine gl (some 14) Try.func51 #[.slice A0_5 l0_5.length c0_5, .int .i64 t111] rfl ?_; (with_reducible refine (laws_szInsS.calls _ _ l0_5 t111 t112 _ ?side1 ?side2 A7.out).mono ?_); (case side1 => exact cb HR0_5.out); (case side2 => exact HC0_5.out); rintro e w' ⟨rfl, ⟨nd, rfl⟩⟩; refine ⟨_, rfl, ?_⟩) | ((with_reducible refine gc 52 rfl ?_); refine gl (some 20) Try.func52 #[.slice A0_6 l0_6.length c0_6, .int .i64 t112] rfl ?_; (with_reducible refine (laws_szShapeS.calls k _ _ l0_6 t112 t113 _ ?side1 ?side2 A11.out).mono ?_); (case side1 => exact cb HR0_6.out); (case side2 => exact HC0_6.out); rintro e w20 ⟨rfl, hb⟩; refine ⟨_, rfl, ?_⟩; replace BK110 := kb BK110 hb; replace HB := hs HB hb; (try clear hb); obtain ⟨_,_,_,_,_,_,_,_,_,_,_,_,_,_,_,_⟩ := cf8 BK110) | ((with_reducible refine gc 53 rfl ?_); refine gl (some 26) Try.func53 #[.slice A0_7 l0_7.length c0_7, .int .i64 t113] rfl ?_; (with_reducible refine (laws_szCatchS.calls _ _ l0_7 t113 t114 _ ?side1 ?side2 A16.out).mono ?_); (case side1 => exact cb HR0_7.out); (case side2 => exact HC0_7.out); rintro e w' ⟨rfl, ⟨nd, rfl⟩⟩; refine ⟨_, rfl, ?_⟩))
     go_ret
     exact fin
    ·rw [if_neg c17] at H
     have c17b0 : decide (t114 < 0) = false := decide_eq_false c17
     clear c17
     obtain rfl := Option.some.inj H; clear H
     go_enter Try.func32, Try.ntmps32
     go_wp2_with (first | ((with_reducible refine gd 2 rfl ?_); refine bx 2 #[.int .i64 a0_0, .int .i64 a0_1, .slice A0_2 l0_2.length c0_2, .int .i64 a0_3, .int .i64 a0_4, .slice A0_5 l0_5.length c0_5, .slice A0_6 l0_6.length c0_6, .slice A0_7 l0_7.length c0_7] 64 ?_; intro gb110 hg w22 hbox hb; have BK110 := Aside0.mk hbox; have GW110 := hz HB hg; have GE110 := hz HB hg; replace HB := hs HB hb; clear hb hbox hg; obtain ⟨_,_,_,_,_,_,_,_,_,_,_,_,_,_,_,_⟩ := cf8 BK110) | ((with_reducible refine gc 50 rfl ?_); refine gl (some 8) Try.func50 #[.slice A0_2 l0_2.length c0_2, .int .i64 a1] rfl ?_; (with_reducible refine (laws_szIntS.calls _ _ l0_2 a1 t111 _ ?side1 ?side2 A3.out).mono ?_); (case side1 => exact cb HR0_2.out); (case side2 => exact HC0_2.out); rintro e w' ⟨rfl, ⟨nd, rfl⟩⟩; refine ⟨_, rfl, ?_⟩) | ((with_reducible refine gc 51 rfl ?_); refine gl (some 14) Try.func51 #[.slice A0_5 l0_5.length c0_5, .int .i64 t111] rfl ?_; (with_reducible refine (laws_szInsS.calls _ _ l0_5 t111 t112 _ ?side1 ?side2 A7.out).mono ?_); (case side1 => exact cb HR0_5.out); (case side2 => exact HC0_5.out); rintro e w' ⟨rfl, ⟨nd, rfl⟩⟩; refine ⟨_, rfl, ?_⟩) | ((with_reducible refine gc 52 rfl ?_); refine gl (some 20) Try.func52 #[.slice A0_6 l0_6.length c0_6, .int .i64 t112] rfl ?_; (with_reducible refine (laws_szShapeS.calls k _ _ l0_6 t112 t113 _ ?side1 ?side2 A11.out).mono ?_); (case side1 => exact cb HR0_6.out); (case side2 => exact HC0_6.out); rintro e w24 ⟨rfl, hb⟩; refine ⟨_, rfl, ?_⟩; replace BK110 := kb BK110 hb; replace HB := hs HB hb; (try clear hb); obtain ⟨_,_,_,_,_,_,_,_,_,_,_,_,_,_,_,_⟩ := cf8 BK110) | ((with_reducible refine gc 53 rfl ?_); refine gl (some 26) Try.func53 #[.slice A0_7 l0_7.length c0_7, .int .i64 t113] rfl ?_; (with_reducible refine (laws_szCatchS.calls _ _ l0_7 t113 t114 _ ?side1 ?side2 A16.out).mono ?_); (case side1 => exact cb HR0_7.out); (case side2 => exact HC0_7.out); rintro e w' ⟨rfl, ⟨nd, rfl⟩⟩; refine ⟨_, rfl, ?_⟩))
     go_ret
     exact fin
end Go.Proofs.Ytedodaifpekahaa.P

end
section

namespace Go.Proofs.Ytedodaifpekahaa.P
open Go.RowKit Go.Proofs.YtedodaifpekahaaW.PrintWords Go.Proofs.YtedodaifpekahaaW.PrintLast Go.Proofs.YtedodaifpekahaaW.PrintMore
attribute [local go_sem] max2_int min2_int max_two min_two max_three min_three max_four min_four
set_option linter.unusedVariables false
set_option linter.unusedSimpArgs false
set_option maxHeartbeats 8000000 in
set_option maxRecDepth 100000 in
theorem laws_szMethodS.calls (k : Nat) (A0 : Option Addr) (c0 : Nat) (l0 : List (S64)) (a1 : Int) (r : Int) (w : World) (hr0 : Kd.C k64 w A0 l0.length l0) (hc0 : l0.length ≤ c0) (h : laws_szMethodS.f k l0 a1 = some r) :
  Calls Try.prog 13 #[.slice A0 l0.length c0, .int .i64 a1] w fun e w' => e = .returned (.int .i64 r) ∧ Below w.heap.size w w' := by
 have hu64 := Try.underlying64
 have HR0 := Aside0.mk hr0
 have HC0 := Aside0.mk hc0
 clear hr0 hc0
 have HB := Aside0.mk (Below.refl w.heap.size w)
 have H : (if (wrap64 (a1 - (l0.length : Int))) < 0 then (some (-1)) else (laws_szMethodS.l0 k l0 (wrap64 (a1 - (l0.length : Int))) 0)) = some r := h
 clear h
 by_cases c3 : (wrap64 (a1 - (l0.length : Int))) < 0
 ·rw [if_pos c3] at H
  have c3b0 : decide ((wrap64 (a1 - (l0.length : Int))) < 0) = true := decide_eq_true c3
  clear c3
  obtain rfl := Option.some.inj H; clear H
  go_enter Try.func13, Try.ntmps13
  go_wp2
  go_ret
  exact fin
 ·rw [if_neg c3] at H
  have c3b0 : decide ((wrap64 (a1 - (l0.length : Int))) < 0) = false := decide_eq_false c3
  clear c3
  have H' := Aside0.mk H
  clear H
  go_enter Try.func13, Try.ntmps13
  go_wp2
  go_loopg [1, 5] k (fun kq v1 v5 w' => ∃ (x1_1 : Int) (x5_1 : Int), v1 = .int .i64 x1_1 ∧ v5 = .int .i64 x5_1 ∧ Aside0 (laws_szMethodS.l0 kq l0 x1_1 x5_1 = some r) ∧ Aside0 (kq ≤ k) ∧ Aside0 (Below w.heap.size w w'))
  case atStart => exact ⟨(wrap64 (a1 - (l0.length : Int))), (0), (by first | rfl | (simp; done) | (simp [*]; done)), (by first | rfl | (simp; done) | (simp [*]; done)), H', ⟨Nat.le_refl _⟩, ⟨bl⟩⟩
  case round =>
   clear H'
   obtain ⟨x1_1, x5_1, rfl, rfl, HA, HK1, HB⟩ := hrel
   cases gk with
   | zero => exact absurd HA.out (by simp [laws_szMethodS.l0])
   | succ k1 =>
    have H := HA.out
    clear HA
    simp only [laws_szMethodS.l0] at H
    by_cases c4 : x5_1 < (l0.length : Int)
    ·rw [if_pos c4] at H
     have c4b0 : decide (x5_1 < (l0.length : Int)) = true := decide_eq_true c4
     clear c4
     by_cases c5 : 0 ≤ x5_1
     ·rw [if_pos c5] at H
      have c5b0 : decide (0 ≤ x5_1) = true := decide_eq_true c5
      clear c5
      obtain ⟨t116, A6, H⟩ := ob H
      by_cases c7 : t116 < 0
      ·rw [if_pos c7] at H
       have c7b0 : decide (t116 < 0) = true := decide_eq_true c7
       clear c7
       obtain rfl := Option.some.inj H; clear H
       have p115 : 0 ≤ (x5_1 : Int) := od
       have q115 : x5_1 < (l0.length : Int) := od
       obtain ⟨ad115, A115_2, c115_2, A115_5, c115_5, A115_6, c115_6, A115_7, c115_7, e115, hx115_0, hx115_1, hx115_2, hx115_3, hx115_4, hx115_5, hx115_6, hx115_7, hl115_2, hi115_2, hl115_5, hi115_5, hl115_6, hi115_6, hl115_7, hi115_7⟩ := at_T64 HR0.out x5_1 p115 q115
       cases e115
       obtain ⟨hx115_0,hx115_1,hx115_2,hx115_3,hx115_4,hx115_5,hx115_6,hx115_7⟩ := hc8 HB hx115_0 hx115_1 hx115_2 hx115_3 hx115_4 hx115_5 hx115_6 hx115_7
       have HR115_2 := Aside0.mk hi115_2
       have HC115_2 := Aside0.mk hl115_2
       clear hi115_2 hl115_2
       have HR115_5 := Aside0.mk hi115_5
       have HC115_5 := Aside0.mk hl115_5
       clear hi115_5 hl115_5
       have HR115_6 := Aside0.mk hi115_6
       have HC115_6 := Aside0.mk hl115_6
       clear hi115_6 hl115_6
       have HR115_7 := Aside0.mk hi115_7
       have HC115_7 := Aside0.mk hl115_7
       clear hi115_7 hl115_7
       replace p115 := eq_true p115
       replace q115 := eq_true q115
       go_wp2_with (first | ((with_reducible refine gc 32 rfl ?_); refine gl (some 23) Try.func32 #[.agg #[.int .i64 ((rd_T64 l0 x5_1).f0), .int .i64 ((rd_T64 l0 x5_1).f1), .slice A115_2 ((rd_T64 l0 x5_1).f2).length c115_2, .int .i64 ((rd_T64 l0 x5_1).f3), .int .i64 ((rd_T64 l0 x5_1).f4), .slice A115_5 ((rd_T64 l0 x5_1).f5).length c115_5, .slice A115_6 ((rd_T64 l0 x5_1).f6).length c115_6, .slice A115_7 ((rd_T64 l0 x5_1).f7).length c115_7], .int .i64 x1_1] rfl ?_; (with_reducible refine (laws_szMethod.calls k1 ((rd_T64 l0 x5_1).f0) ((rd_T64 l0 x5_1).f1) _ _ ((rd_T64 l0 x5_1).f2) ((rd_T64 l0 x5_1).f3) ((rd_T64 l0 x5_1).f4) _ _ ((rd_T64 l0 x5_1).f5) _ _ ((rd_T64 l0 x5_1).f6) _ _ ((rd_T64 l0 x5_1).f7) x1_1 t116 _ ?side1 ?side2 ?side3 ?side4 ?side5 ?side6 ?side7 ?side8 A6.out).mono ?_); (case side1 => exact cb HR115_2.out); (case side2 => exact HC115_2.out); (case side3 => exact cb HR115_5.out); (case side4 => exact HC115_5.out); (case side5 => exact cb HR115_6.out); (case side6 => exact HC115_6.out); (case side7 => exact cb HR115_7.out); (case side8 => exact HC115_7.out); rintro e w8 ⟨rfl, hb⟩; refine ⟨_, rfl, ?_⟩; replace HB := hs HB hb; (try clear hb)))
       go_ret
       exact fin
      ·rw [if_neg c7] at H
       have c7b0 : decide (t116 < 0) = false := decide_eq_false c7
       clear c7
       have H' := Aside0.mk H
       clear H
       have p115 : 0 ≤ (x5_1 : Int) := od
       have q115 : x5_1 < (l0.length : Int) := od
       obtain ⟨ad115, A115_2, c115_2, A115_5, c115_5, A115_6, c115_6, A115_7, c115_7, e115, hx115_0, hx115_1, hx115_2, hx115_3, hx115_4, hx115_5, hx115_6, hx115_7, hl115_2, hi115_2, hl115_5, hi115_5, hl115_6, hi115_6, hl115_7, hi115_7⟩ := at_T64 HR0.out x5_1 p115 q115
       cases e115
       obtain ⟨hx115_0,hx115_1,hx115_2,hx115_3,hx115_4,hx115_5,hx115_6,hx115_7⟩ := hc8 HB hx115_0 hx115_1 hx115_2 hx115_3 hx115_4 hx115_5 hx115_6 hx115_7
       have HR115_2 := Aside0.mk hi115_2
       have HC115_2 := Aside0.mk hl115_2
       clear hi115_2 hl115_2
       have HR115_5 := Aside0.mk hi115_5
       have HC115_5 := Aside0.mk hl115_5
       clear hi115_5 hl115_5
       have HR115_6 := Aside0.mk hi115_6
       have HC115_6 := Aside0.mk hl115_6
       clear hi115_6 hl115_6
       have HR115_7 := Aside0.mk hi115_7
       have HC115_7 := Aside0.mk hl115_7
       clear hi115_7 hl115_7
       replace p115 := eq_true p115
       replace q115 := eq_true q115
       go_wp2_with (first | ((with_reducible refine gc 32 rfl ?_); refine gl (some 23) Try.func32 #[.agg #[.int .i64 ((rd_T64 l0 x5_1).f0), .int .i64 ((rd_T64 l0 x5_1).f1), .slice A115_2 ((rd_T64 l0 x5_1).f2).length c115_2, .int .i64 ((rd_T64 l0 x5_1).f3), .int .i64 ((rd_T64 l0 x5_1).f4), .slice A115_5 ((rd_T64 l0 x5_1).f5).length c115_5, .slice A115_6 ((rd_T64 l0 x5_1).f6).length c115_6, .slice A115_7 ((rd_T64 l0 x5_1).f7).length c115_7], .int .i64 x1_1] rfl ?_; (with_reducible refine (laws_szMethod.calls k1 ((rd_T64 l0 x5_1).f0) ((rd_T64 l0 x5_1).f1) _ _ ((rd_T64 l0 x5_1).f2) ((rd_T64 l0 x5_1).f3) ((rd_T64 l0 x5_1).f4) _ _ ((rd_T64 l0 x5_1).f5) _ _ ((rd_T64 l0 x5_1).f6) _ _ ((rd_T64 l0 x5_1).f7) x1_1 t116 _ ?side1 ?side2 ?side3 ?side4 ?side5 ?side6 ?side7 ?side8 A6.out).mono ?_); (case side1 => exact cb HR115_2.out); (case side2 => exact HC115_2.out); (case side3 => exact cb HR115_5.out); (case side4 => exact HC115_5.out); (case side5 => exact cb HR115_6.out); (case side6 => exact HC115_6.out); (case side7 => exact cb HR115_7.out); (case side8 => exact HC115_7.out); rintro e w9 ⟨rfl, hb⟩; refine ⟨_, rfl, ?_⟩; replace HB := hs HB hb; (try clear hb)))
       go_roundg k1
       case measure => have := HK1.out; omega
       case rel => exact ⟨(t116), (wrap64 (x5_1 + 1)), (by first | rfl | (simp; done) | (simp [*]; done)), (by first | rfl | (simp; done) | (simp [*]; done)), H', ⟨by have := HK1.out; omega⟩, ⟨bl⟩⟩
     ·rw [if_neg c5] at H
      exact absurd H (by simp)
    ·rw [if_neg c4] at H
     have c4b0 : decide (x5_1 < (l0.length : Int)) = false := decide_eq_false c4
     clear c4
     obtain rfl := Option.some.inj H; clear H
     go_wp2
     go_ret
     exact fin
end Go.Proofs.Ytedodaifpekahaa.P

end
section

namespace Go.Proofs.Ytedodaifpekahaa.P
open Go.RowKit Go.Proofs.YtedodaifpekahaaW.PrintWords Go.Proofs.YtedodaifpekahaaW.PrintLast Go.Proofs.YtedodaifpekahaaW.PrintMore
attribute [local go_sem] max2_int min2_int max_two min_two max_three min_three max_four min_four
set_option linter.unusedVariables false
set_option linter.unusedSimpArgs false
set_option maxHeartbeats 8000000 in
set_option maxRecDepth 100000 in
theorem laws_szUnit.calls (k : Nat) (A0_0 : Option Addr) (c0_0 : Nat) (l0_0 : List (S58)) (A0_1 : Option Addr) (c0_1 : Nat) (l0_1 : List (S64)) (a1 : Int) (r : Int) (w : World) (hr0_0 : Kd.C k58 w A0_0 l0_0.length l0_0) (hc0_0 : l0_0.length ≤ c0_0) (hr0_1 : Kd.C k64 w A0_1 l0_1.length l0_1) (hc0_1 : l0_1.length ≤ c0_1) (h : laws_szUnit.f k l0_0 l0_1 a1 = some r) :
  Calls Try.prog 5 #[.agg #[.slice A0_0 l0_0.length c0_0, .slice A0_1 l0_1.length c0_1], .int .i64 a1] w fun e w' => e = .returned (.int .i64 r) ∧ Below w.heap.size w w' := by
 have hu25 := Try.underlying25
 have HR0_0 := Aside0.mk hr0_0
 have HC0_0 := Aside0.mk hc0_0
 clear hr0_0 hc0_0
 have HR0_1 := Aside0.mk hr0_1
 have HC0_1 := Aside0.mk hc0_1
 clear hr0_1 hc0_1
 have HB := Aside0.mk (Below.refl w.heap.size w)
 have H : ((laws_szClassS.f k l0_0 a1).bind fun t118 => (if t118 < 0 then (some (-1)) else ((laws_szMethodS.f k l0_1 t118).bind fun t119 => (if t119 < 0 then (some (-1)) else (some t119))))) = some r := h
 clear h
 obtain ⟨t118, A3, H⟩ := ob H
 by_cases c4 : t118 < 0
 ·rw [if_pos c4] at H
  have c4b0 : decide (t118 < 0) = true := decide_eq_true c4
  clear c4
  obtain rfl := Option.some.inj H; clear H
  go_enter Try.func5, Try.ntmps5
  go_wp2_with (first | ((with_reducible refine gd 2 rfl ?_); refine bx 2 #[.slice A0_0 l0_0.length c0_0, .slice A0_1 l0_1.length c0_1] 25 ?_; intro gb117 hg w5 hbox hb; have BK117 := Aside0.mk hbox; have GW117 := hz HB hg; have GE117 := hz HB hg; replace HB := hs HB hb; clear hb hbox hg; obtain ⟨_,_,_,_⟩ := cf2 BK117) | ((with_reducible refine gc 12 rfl ?_); refine gl (some 8) Try.func12 #[.slice A0_0 l0_0.length c0_0, .int .i64 a1] rfl ?_; (with_reducible refine (laws_szClassS.calls k _ _ l0_0 a1 t118 _ ?side1 ?side2 A3.out).mono ?_); (case side1 => exact cb HR0_0.out); (case side2 => exact HC0_0.out); rintro e w7 ⟨rfl, hb⟩; refine ⟨_, rfl, ?_⟩; replace BK117 := kb BK117 hb; replace HB := hs HB hb; (try clear hb)))
  go_ret
  exact fin
 ·rw [if_neg c4] at H
  have c4b0 : decide (t118 < 0) = false := decide_eq_false c4
  clear c4
  obtain ⟨t119, A8, H⟩ := ob H
  by_cases c9 : t119 < 0
  ·rw [if_pos c9] at H
   have c9b0 : decide (t119 < 0) = true := decide_eq_true c9
   clear c9
   obtain rfl := Option.some.inj H; clear H
   go_enter Try.func5, Try.ntmps5
   go_wp2_with (first | ((with_reducible refine gd 2 rfl ?_); refine bx 2 #[.slice A0_0 l0_0.length c0_0, .slice A0_1 l0_1.length c0_1] 25 ?_; intro gb117 hg w10 hbox hb; have BK117 := Aside0.mk hbox; have GW117 := hz HB hg; have GE117 := hz HB hg; replace HB := hs HB hb; clear hb hbox hg; obtain ⟨_,_,_,_⟩ := cf2 BK117) | ((with_reducible refine gc 12 rfl ?_); refine gl (some 8) Try.func12 #[.slice A0_0 l0_0.length c0_0, .int .i64 a1] rfl ?_; (with_reducible refine (laws_szClassS.calls k _ _ l0_0 a1 t118 _ ?side1 ?side2 A3.out).mono ?_); (case side1 => exact cb HR0_0.out); (case side2 => exact HC0_0.out); rintro e w12 ⟨rfl, hb⟩; refine ⟨_, rfl, ?_⟩; replace BK117 := kb BK117 hb; replace HB := hs HB hb; (try clear hb); obtain ⟨_,_,_,_⟩ := cf2 BK117) | ((with_reducible refine gc 13 rfl ?_); refine gl (some 14) Try.func13 #[.slice A0_1 l0_1.length c0_1, .int .i64 t118] rfl ?_; (with_reducible refine (laws_szMethodS.calls k _ _ l0_1 t118 t119 _ ?side1 ?side2 A8.out).mono ?_); (case side1 => exact cb HR0_1.out); (case side2 => exact HC0_1.out); rintro e w14 ⟨rfl, hb⟩; refine ⟨_, rfl, ?_⟩; replace BK117 := kb BK117 hb; replace HB := hs HB hb; (try clear hb)))
   go_ret
   exact fin
  ·rw [if_neg c9] at H
   have c9b0 : decide (t119 < 0) = false := decide_eq_false c9
   clear c9
   obtain rfl := Option.some.inj H; clear H
   go_enter Try.func5, Try.ntmps5
   go_wp2_with (first | ((with_reducible refine gd 2 rfl ?_); refine bx 2 #[.slice A0_0 l0_0.length c0_0, .slice A0_1 l0_1.length c0_1] 25 ?_; intro gb117 hg w15 hbox hb; have BK117 := Aside0.mk hbox; have GW117 := hz HB hg; have GE117 := hz HB hg; replace HB := hs HB hb; clear hb hbox hg; obtain ⟨_,_,_,_⟩ := cf2 BK117) | ((with_reducible refine gc 12 rfl ?_); refine gl (some 8) Try.func12 #[.slice A0_0 l0_0.length c0_0, .int .i64 a1] rfl ?_; (with_reducible refine (laws_szClassS.calls k _ _ l0_0 a1 t118 _ ?side1 ?side2 A3.out).mono ?_); (case side1 => exact cb HR0_0.out); (case side2 => exact HC0_0.out); rintro e w17 ⟨rfl, hb⟩; refine ⟨_, rfl, ?_⟩; replace BK117 := kb BK117 hb; replace HB := hs HB hb; (try clear hb); obtain ⟨_,_,_,_⟩ := cf2 BK117) | ((with_reducible refine gc 13 rfl ?_); refine gl (some 14) Try.func13 #[.slice A0_1 l0_1.length c0_1, .int .i64 t118] rfl ?_; (with_reducible refine (laws_szMethodS.calls k _ _ l0_1 t118 t119 _ ?side1 ?side2 A8.out).mono ?_); (case side1 => exact cb HR0_1.out); (case side2 => exact HC0_1.out); rintro e w19 ⟨rfl, hb⟩; refine ⟨_, rfl, ?_⟩; replace BK117 := kb BK117 hb; replace HB := hs HB hb; (try clear hb)))
   go_ret
   exact fin
end Go.Proofs.Ytedodaifpekahaa.P

end
section

namespace Go.Proofs.Ytedodaifpekahaa.P
open Go.RowKit Go.Proofs.YtedodaifpekahaaW.PrintWords Go.Proofs.YtedodaifpekahaaW.PrintLast Go.Proofs.YtedodaifpekahaaW.PrintMore
attribute [local go_sem] max2_int min2_int max_two min_two max_three min_three max_four min_four
set_option linter.unusedVariables false
set_option linter.unusedSimpArgs false
set_option maxHeartbeats 8000000 in
set_option maxRecDepth 100000 in
theorem spec_l6In.calls (a0 : Int) (a1 : Int) (a2 : Int) (r : Bool) (w : World) (h : spec_l6In.f a0 a1 a2 = some r) :
  Calls Try.prog 15 #[.int .i64 a0, .int .i64 a1, .int .i64 a2] w fun e w' => e = .returned (.bool r) ∧ Drawn0 w w' := by
 have H : (if a0 ≥ a1 then (some (decide (a0 ≤ a2))) else (some false)) = some r := h
 clear h
 by_cases c4 : a0 ≥ a1
 ·rw [if_pos c4] at H
  have c4b0 : decide (a1 ≤ a0) = true := decide_eq_true c4
  clear c4
  obtain rfl := Option.some.inj H; clear H
  go_enter Try.func15, Try.ntmps15
  go_wp2
  go_ret
  exact ⟨by first | rfl | (simp; done) | (simp [*]; done), by repeat (first | exact Drawn0.refl _ | apply Drawn0.step)⟩
 ·rw [if_neg c4] at H
  have c4b0 : decide (a1 ≤ a0) = false := decide_eq_false c4
  clear c4
  obtain rfl := Option.some.inj H; clear H
  go_enter Try.func15, Try.ntmps15
  go_wp2
  go_ret
  exact ⟨by first | rfl | (simp; done) | (simp [*]; done), by repeat (first | exact Drawn0.refl _ | apply Drawn0.step)⟩
end Go.Proofs.Ytedodaifpekahaa.P

end
section

namespace Go.Proofs.Ytedodaifpekahaa.P
open Go.RowKit Go.Proofs.YtedodaifpekahaaW.PrintWords Go.Proofs.YtedodaifpekahaaW.PrintLast Go.Proofs.YtedodaifpekahaaW.PrintMore
attribute [local go_sem] max2_int min2_int max_two min_two max_three min_three max_four min_four
set_option linter.unusedVariables false
set_option linter.unusedSimpArgs false
set_option maxHeartbeats 8000000 in
set_option maxRecDepth 100000 in
theorem spec_l2Field.calls (A0 : Option Addr) (c0 : Nat) (l0 : List (S76)) (a1 : Int) (r : Bool) (w : World) (hr0 : Kd.C k76 w A0 l0.length l0) (hc0 : l0.length ≤ c0) (h : spec_l2Field.f l0 a1 = some r) :
  Calls Try.prog 54 #[.slice A0 l0.length c0, .int .i64 a1] w fun e w' => e = .returned (.bool r) ∧ Drawn0 w w' := by
 have HR0 := Aside0.mk hr0
 have HC0 := Aside0.mk hc0
 clear hr0 hc0
 have H : (if a1 = 1 then (some true) else (if a1 = 3 then (some true) else (if a1 = 4 then (some true) else ((spec_l6In.f a1 8 (wrap64 ((wrap64 (8 + (l0.length : Int))) - 1))).bind fun t120 => (some t120))))) = some r := h
 clear h
 by_cases c3 : a1 = 1
 ·rw [if_pos c3] at H
  have c3b0 := beq_iff_eq.mpr c3
  have c3b1 := bne_eq_false_iff_eq.mpr c3
  clear c3
  obtain rfl := Option.some.inj H; clear H
  go_enter Try.func54, Try.ntmps54
  go_wp2
  go_ret
  exact ⟨by first | rfl | (simp; done) | (simp [*]; done), by repeat (first | exact Drawn0.refl _ | apply Drawn0.step)⟩
 ·rw [if_neg c3] at H
  have c3b0 := beq_eq_false_iff_ne.mpr c3
  have c3b1 := bne_iff_ne.mpr c3
  by_cases c4 : a1 = 3
  ·rw [if_pos c4] at H
   have c4b0 := beq_iff_eq.mpr c4
   have c4b1 := bne_eq_false_iff_eq.mpr c4
   clear c4
   obtain rfl := Option.some.inj H; clear H
   go_enter Try.func54, Try.ntmps54
   go_wp2
   go_ret
   exact ⟨by first | rfl | (simp; done) | (simp [*]; done), by repeat (first | exact Drawn0.refl _ | apply Drawn0.step)⟩
  ·rw [if_neg c4] at H
   have c4b0 := beq_eq_false_iff_ne.mpr c4
   have c4b1 := bne_iff_ne.mpr c4
   by_cases c5 : a1 = 4
   ·rw [if_pos c5] at H
    have c5b0 := beq_iff_eq.mpr c5
    have c5b1 := bne_eq_false_iff_eq.mpr c5
    clear c5
    obtain rfl := Option.some.inj H; clear H
    go_enter Try.func54, Try.ntmps54
    go_wp2
    go_ret
    exact ⟨by first | rfl | (simp; done) | (simp [*]; done), by repeat (first | exact Drawn0.refl _ | apply Drawn0.step)⟩
   ·rw [if_neg c5] at H
    have c5b0 := beq_eq_false_iff_ne.mpr c5
    have c5b1 := bne_iff_ne.mpr c5
    obtain ⟨t120, A6, H⟩ := ob H
    obtain rfl := Option.some.inj H; clear H
    go_enter Try.func54, Try.ntmps54
    go_wp2_with (first | (go_at_call 15; (with_reducible refine (spec_l6In.calls a1 8 (wrap64 ((wrap64 (8 + (l0.length : Int))) - 1)) t120 _ A6.out).mono ?_); rintro e w' ⟨rfl, ⟨nd, rfl⟩⟩))
    go_ret
    exact ⟨by first | rfl | (simp; done) | (simp [*]; done), by repeat (first | exact Drawn0.refl _ | apply Drawn0.step)⟩
end Go.Proofs.Ytedodaifpekahaa.P

end
