/- FnClassJoin: of all classes above two drawn ones that the program's ClassJoin names is above both, in whichever order they are told, and under each that is. -/
import Derived.Test.YtgmjolngnhdafaaCFnClassJoin2
import Derived.Test.YtgmjolngnhdafaaCFnClassJoin0
import Derived.Test.YtgmjolngnhdafaaRows
import Derived.WalkKit
import Derived.ProofKit
import Derived.OpenShut
import Derived.ShutString
import Derived.ChangeOld
import Derived.Below
import Derived.SizedLaws
import Derived.Test.YtgmjolngnhdafaaWSized
import Derived.Test.YtgmjolngnhdafaaCFnClassJoin1
section
namespace Go.Proofs.Ytgmjolngnhdafaa.Kit
open Go Go.RowKit Go.Proofs.YtgmjolngnhdafaaW.PrintWords Go.Proofs.Ytgmjolngnhdafaa.P
set_option linter.unusedVariables false
theorem in_eq (a lo hi : Int) : spec_l6In.f a lo hi = some (decide (lo ≤ a ∧ a ≤ hi)) := by
  unfold spec_l6In.f
  by_cases h : lo ≤ a <;> simp [h]
theorem kindOf_eq {n : Nat} {t : Int} (hn : n ≤ 1000000000) (h0 : -9223372036854775808 ≤ t) (h1 : t ≤ 9223372036854775807) :
    impl_kindOf.f (n : Int) t = some (if (0 ≤ t ∧ t ≤ 4) ∨ (8 ≤ t ∧ t < 8 + (n : Int)) then t else -1) := by
  unfold impl_kindOf.f
  rw [if_pos ⟨by omega, by omega, h0, h1⟩]
  repeat' split
  all_goals first | omega | (congr 1; omega) | rfl
theorem fieldType_eq {n : Nat} {t : Int} (hn : n ≤ 1000000000) (h0 : -9223372036854775808 ≤ t) (h1 : t ≤ 9223372036854775807) :
    ∃ b, impl_fieldType.f (n : Int) t = some b ∧ (b = true ↔ FieldTy n t) := by
  unfold impl_fieldType.f
  rw [kindOf_eq hn h0 h1, Option.bind_some]
  refine ⟨_, rfl, ?_⟩
  rw [decide_eq_true_iff]
  unfold FieldTy
  split <;> omega
theorem field_eq {cs : List Cls} {t : Int} (hn : cs.length ≤ 1000000000) : ∃ b, spec_l2Field.f cs t = some b ∧ (b = true ↔ FieldTy cs.length t) := by
  unfold spec_l2Field.f FieldTy
  rw [in_eq, w64 (n := 8 + (cs.length : Int)) (by omega) (by omega), w64 (by omega) (by omega)]
  by_cases h1 : t = 1
  · exact ⟨true, by rw [if_pos h1], by simp [h1]⟩
  rw [if_neg h1]
  by_cases h2 : t = 3
  · exact ⟨true, by rw [if_pos h2], by simp [h2]⟩
  rw [if_neg h2]
  by_cases h3 : t = 4
  · exact ⟨true, by rw [if_pos h3], by simp [h3]⟩
  rw [if_neg h3]
  refine ⟨_, rfl, ?_⟩
  simp only [h1, h2, h3, false_or, decide_eq_true_iff]
  omega
theorem impl_isClass_eq (cs : List Cls) (a : Int) : ∃ b, impl_isClass.f cs a = some b ∧ (b = true ↔ 0 ≤ a ∧ a < (cs.length : Int)) := by
  unfold impl_isClass.f
  by_cases h : a ≥ 0
  · rw [if_pos h]; exact ⟨_, rfl, by rw [decide_eq_true_iff]; omega⟩
  · rw [if_neg h]; exact ⟨_, rfl, by simp; omega⟩
/-- What the reference asks of one class. -/
def Shp (cs : List Cls) (c : Nat) : Prop := (if c = 0 then sup cs 0 = -1 ∧ (flds cs 0).length = 0 else if c = 1 then sup cs 1 = 0 ∧ flds cs 1 = [1] else 0 ≤ sup cs c ∧ sup cs c < (c : Int) ∧ (flds cs c).length ≤ 2)
theorem shp0 {cs : List Cls} : Shp cs 0 ↔ sup cs 0 = -1 ∧ (flds cs 0).length = 0 := by unfold Shp; rw [if_pos rfl]
theorem shp1 {cs : List Cls} : Shp cs 1 ↔ sup cs 1 = 0 ∧ flds cs 1 = [1] := by unfold Shp; rw [if_neg (by decide), if_pos rfl]
theorem shp2 {cs : List Cls} {c : Nat} (h : 2 ≤ c) : Shp cs c ↔ 0 ≤ sup cs c ∧ sup cs c < (c : Int) ∧ (flds cs c).length ≤ 2 := by unfold Shp; rw [if_neg (by omega), if_neg (by omega)]
def At (cs : List Cls) (c : Nat) : Prop := (∀ t ∈ flds cs c, FieldTy cs.length t) ∧ Shp cs c
theorem clsOk_iff {cs : List Cls} : ClsOk cs ↔ 2 ≤ cs.length ∧ cs.length ≤ 5 ∧ ∀ c, c < cs.length → At cs c := by
  constructor
  · intro h
    refine ⟨h.lo, h.hi, fun c hc => ⟨h.fld c hc, ?_⟩⟩
    rcases Nat.lt_or_ge c 2 with h2 | h2
    · rcases Nat.lt_or_ge c 1 with h1 | h1
      · have : c = 0 := by omega
        subst this
        exact shp0.2 ⟨h.root.1, by rw [h.root.2]; rfl⟩
      · have : c = 1 := by omega
        subst this
        exact shp1.2 h.fail
    · exact (shp2 h2).2 (h.up c h2 hc)
  · intro ⟨h1, h2, h3⟩
    have a0 := shp0.1 (h3 0 (by omega)).2
    have a1 := shp1.1 (h3 1 (by omega)).2
    exact ⟨h1, h2, ⟨a0.1, List.eq_nil_of_length_eq_zero a0.2⟩, a1, fun i hi hl => (shp2 hi).1 (h3 i hl).2, fun i hi => (h3 i hi).1⟩
theorem spec_class {cs : List Cls} (hs : SmallC cs) {c : Nat} (hc : c < cs.length) : Evp (fun k => spec_l2Class.f k cs (c : Int)) (fun r => r = true ↔ At cs c) := by
  unfold spec_l2Class.f
  refine Evp.yes (by omega) (Evp.yes (by omega) ?_)
  rw [rdSup, rdFlds]
  have hl := (hs.2 c hc).1
  have hl0 := hs.1
  have key : ∀ i, i ≤ (flds cs c).length → Evp (fun k => spec_l2Class.l0 k cs (c : Int) (i : Int) (sup cs c) (flds cs c)) (fun r => r = true ↔ (∀ t ∈ (flds cs c).drop i, FieldTy cs.length t) ∧ Shp cs c) := by
    refine Evp.for_ ?_ (fun i hi ih => ?_)
    · refine Evp.step (f := fun k => _) (fun k => by rw [spec_l2Class.l0, in_eq]) (Evp.no (by omega) ?_)
      rw [List.drop_length]
      simp only [List.not_mem_nil, false_implies, implies_true, true_and]
      refine Evp.ite (fun h0 => ?_) (fun h0 => ?_)
      · have : c = 0 := by omega
        subst this
        rw [shp0]
        refine Evp.ite (fun h => Evp.pure _ ?_) (fun h => Evp.pure _ (by simp [h]))
        rw [beq_iff_eq]
        constructor
        · intro h2; exact ⟨h, by omega⟩
        · intro h2; omega
      · refine Evp.ite (fun h1 => ?_) (fun h1 => ?_)
        · have : c = 1 := by omega
          subst this
          rw [shp1]
          refine Evp.ite (fun h => ?_) (fun h => Evp.pure _ (by simp [h]))
          refine Evp.ite (fun h2 => ?_) (fun h2 => Evp.pure _ ?_)
          · refine Evp.yes (by omega) (Evp.pure _ ?_)
            obtain ⟨x, hx⟩ := List.length_eq_one_iff.1 (by omega : (flds cs 1).length = 1)
            rw [hx, show rd [x] 0 = x from rfl, beq_iff_eq]
            simp [h]
          · constructor
            · intro h3; cases h3
            · intro h3; rw [h3.2] at h2; exact absurd rfl h2
        · rw [shp2 (by omega)]
          refine Evp.congr (f := fun k => if 0 ≤ sup cs c ∧ sup cs c ≤ (c : Int) - 1 then some (decide (((flds cs c).length : Int) ≤ 2)) else some false) (fun k => by rw [w64 (n := (c : Int) - 1) (by omega) (by omega), Option.bind_some]; simp only [decide_eq_true_iff]) ?_
          refine Evp.ite (fun h => Evp.pure _ ?_) (fun h => Evp.pure _ ?_)
          · simp only [decide_eq_true_iff]
            omega
          · constructor
            · intro h3; cases h3
            · intro h3; omega
    · obtain ⟨b, hb, hb2⟩ := field_eq (cs := cs) (t := (flds cs c)[i]) (by omega)
      refine Evp.step (f := fun k => _) (fun k => by rw [spec_l2Class.l0, rdInt hi, hb, Option.bind_some]) (Evp.yes (by omega) (Evp.yes (by omega) ?_))
      rw [w64' hi (by omega), drop_at hi]
      refine Evp.ite (fun h => ih.mono fun r hr => ?_) (fun h => Evp.pure _ ?_)
      · rw [hr, List.forall_mem_cons]
        exact ⟨fun h2 => ⟨⟨hb2.1 h, h2.1⟩, h2.2⟩, fun h2 => ⟨h2.1.2, h2.2⟩⟩
      · rw [List.forall_mem_cons]
        exact ⟨fun h2 => (by cases h2), fun h2 => absurd (hb2.2 h2.1.1) h⟩
  exact key 0 (Nat.zero_le _)
theorem spec_classesOk {cs : List Cls} (hs : SmallC cs) : Evp (fun k => spec_ClassesOk.f k cs) (fun r => r = true ↔ ClsOk cs) := by
  have hl0 := hs.1
  unfold spec_ClassesOk.f
  rw [in_eq]
  simp only [Option.bind_some]
  refine Evp.ite (fun h => ?_) (fun h => Evp.pure _ ?_)
  · simp only [decide_eq_true_iff] at h
    have key : ∀ i, i ≤ cs.length → Evp (fun k => spec_ClassesOk.l0 k cs (i : Int)) (fun r => r = true ↔ ∀ c, i ≤ c → c < cs.length → At cs c) := by
      refine Evp.for_ ?_ (fun i hi ih => ?_)
      · refine Evp.step (f := fun k => _) (fun k => by rw [spec_ClassesOk.l0]) (Evp.no (by omega) (Evp.pure _ ?_))
        simp only [true_iff]
        intro c h1 h2; omega
      · refine Evp.step (f := fun k => _) (fun k => by rw [spec_ClassesOk.l0]) (Evp.yes (by omega) ?_)
        refine Evp.bind (spec_class hs hi) fun b hb => ?_
        rw [w64' hi (by omega)]
        refine Evp.ite (fun h1 => ih.mono fun r hr => ?_) (fun h1 => Evp.pure _ ?_)
        · rw [hr]
          constructor
          · intro h2 c h3 h4
            rcases Nat.lt_or_ge i c with h5 | h5
            · exact h2 c h5 h4
            · have : c = i := by omega
              subst this
              exact hb.1 h1
          · intro h2 c h3 h4; exact h2 c (by omega) h4
        · constructor
          · intro h2; cases h2
          · intro h2; exact absurd (hb.2 (h2 i (Nat.le_refl _) hi)) h1
    refine (key 0 (Nat.zero_le _)).mono fun r hr => ?_
    rw [hr, clsOk_iff]
    constructor
    · intro h2; exact ⟨by omega, by omega, fun c hc => h2 c (Nat.zero_le _) hc⟩
    · intro h2 c _ hc; exact h2.2.2 c hc
  · simp only [decide_eq_true_iff] at h
    constructor
    · intro h2; cases h2
    · intro h2; have := h2.lo; have := h2.hi; omega
theorem impl_classesOk {cs : List Cls} (hs : SmallC cs) : Evp (fun k => impl_ClassesOk.f k cs) (fun r => r = true ↔ ClsOk cs) := by
  have hl0 := hs.1
  have no : ∀ {p : Prop}, ¬ p → ((false = true) ↔ p) := fun h => ⟨fun h2 => (by cases h2), fun h2 => absurd h2 h⟩
  have jno : ¬ (2 ≤ cs.length ∧ cs.length ≤ 5) → Evp (fun k => impl_ClassesOk.j0 k cs true) (fun r => r = true ↔ ClsOk cs) := fun h =>
    Evp.step (f := fun k => _) (fun k => by rw [impl_ClassesOk.j0]) (Evp.yes rfl (Evp.pure _ (no fun h2 => h ⟨h2.lo, h2.hi⟩)))
  unfold impl_ClassesOk.f
  refine Evp.ite (fun h => jno (by omega)) (fun h => ?_)
  by_cases h5 : ¬ cs.length ≤ 5
  · rw [decide_eq_true (by omega)]; exact jno (by omega)
  rw [decide_eq_false (by omega)]
  have h2 : 2 ≤ cs.length := by omega
  -- the loop over all classes
  have loop : (sup cs 0 = -1 ∧ flds cs 0 = []) → (sup cs 1 = 0 ∧ flds cs 1 = [1]) → ∀ i, i ≤ cs.length → Evp (fun k => impl_ClassesOk.l0 k cs cs (cs.length : Int) (i : Int)) (fun r => r = true ↔ ∀ c, i ≤ c → c < cs.length → At cs c) := by
    intro hr hf
    refine Evp.for_ ?_ (fun i hi ih => ?_)
    · refine Evp.step (f := fun k => _) (fun k => by rw [impl_ClassesOk.l0]) (Evp.no (by omega) (Evp.pure _ ?_))
      simp only [true_iff]
      intro c h1 h2; omega
    · have ih2 : At cs i → ∀ r : Bool, (r = true ↔ ∀ c, i + 1 ≤ c → c < cs.length → At cs c) → (r = true ↔ ∀ c, i ≤ c → c < cs.length → At cs c) := by
        intro ha r hr
        rw [hr]
        constructor
        · intro h2 c h3 h4
          rcases Nat.lt_or_ge i c with h5 | h5
          · exact h2 c h5 h4
          · have : c = i := by omega
            subst this
            exact ha
        · intro h2 c h3 h4; exact h2 c (by omega) h4
      have hno : ¬ At cs i → ((false = true) ↔ ∀ c, i ≤ c → c < cs.length → At cs c) := fun h => no fun h2 => h (h2 i (Nat.le_refl _) hi)
      have hl := (hs.2 i hi).1
      have hb := (hs.2 i hi).2
      -- the loop over a class's fields
      have fl : Shp cs i →
          ∀ j, j ≤ (flds cs i).length → (∀ t ∈ (flds cs i).take j, FieldTy cs.length t) → Evp (fun k => impl_ClassesOk.l1 k cs cs (cs.length : Int) (i : Int) (flds cs i) ((flds cs i).length : Int) (j : Int)) (fun r => r = true ↔ ∀ c, i ≤ c → c < cs.length → At cs c) := by
        intro hc
        have key : ∀ j, j ≤ (flds cs i).length → ∀ _ : Unit, (∀ t ∈ (flds cs i).take j, FieldTy cs.length t) → Evp (fun k => impl_ClassesOk.l1 k cs cs (cs.length : Int) (i : Int) (flds cs i) ((flds cs i).length : Int) (j : Int)) (fun r => r = true ↔ ∀ c, i ≤ c → c < cs.length → At cs c) := by
          refine Evp.fors (g := fun j (_ : Unit) k => impl_ClassesOk.l1 k cs cs (cs.length : Int) (i : Int) (flds cs i) ((flds cs i).length : Int) (j : Int)) (I := fun j _ => ∀ t ∈ (flds cs i).take j, FieldTy cs.length t) (R := fun _ _ r => r = true ↔ ∀ c, i ≤ c → c < cs.length → At cs c) (fun _ hI => ?_) (fun j hj ihj _ hI => ?_)
          · refine Evp.step (f := fun k => _) (fun k => by rw [impl_ClassesOk.l1]) (Evp.no (by omega) ?_)
            rw [w64' hi (by omega)]
            refine ih.mono (ih2 ⟨?_, hc⟩)
            simpa using hI
          · obtain ⟨b, hb1, hb2⟩ := fieldType_eq (n := cs.length) (t := (flds cs i)[j]) (by omega) (hb _ (List.getElem_mem hj)).1 (hb _ (List.getElem_mem hj)).2
            refine Evp.step (f := fun k => _) (fun k => by rw [impl_ClassesOk.l1, rdInt hj, hb1, Option.bind_some]) (Evp.yes (by omega) (Evp.yes (by omega) (Evp.yes (by omega) ?_)))
            rw [w64' hj (by omega)]
            refine Evp.ite (fun h => ihj () ?_) (fun h => Evp.pure _ (hno ?_))
            · rw [List.take_succ_eq_append_getElem hj]
              intro t ht
              rcases List.mem_append.1 ht with ht | ht
              · exact hI t ht
              · rw [List.mem_singleton.1 ht]; exact hb2.1 h
            · intro ha; exact h (hb2.2 (ha.1 _ (List.getElem_mem hj)))
        exact fun j hj => key j hj ()
      have j4 : ∀ b : Bool, (b = true ↔ 2 ≤ i ∧ ¬ (0 ≤ sup cs i ∧ sup cs i < (i : Int))) → Evp (fun k => impl_ClassesOk.j4 k cs cs (cs.length : Int) (i : Int) b (sup cs i) (flds cs i)) (fun r => r = true ↔ ∀ c, i ≤ c → c < cs.length → At cs c) := by
        intro b hb4
        refine Evp.step (f := fun k => _) (fun k => by rw [impl_ClassesOk.j4]) ?_
        refine Evp.ite (fun h => Evp.pure _ (hno ?_)) (fun h => ?_)
        · intro ha
          have h6 := hb4.1 h
          have := (shp2 h6.1).1 ha.2
          omega
        · have h6 : ¬ (2 ≤ i ∧ ¬ (0 ≤ sup cs i ∧ sup cs i < (i : Int))) := fun h7 => h (hb4.2 h7)
          refine Evp.ite (fun h7 => Evp.pure _ (hno ?_)) (fun h7 => fl ?_ 0 (Nat.zero_le _) (by simp))
          · intro ha
            rcases Nat.lt_or_ge i 2 with h8 | h8
            · rcases Nat.lt_or_ge i 1 with h9 | h9
              · have : i = 0 := by omega
                subst this
                have := (shp0.1 ha.2).2
                omega
              · have : i = 1 := by omega
                subst this
                rw [hf.2] at h7; exact absurd h7 (by decide)
            · have := (shp2 h8).1 ha.2
              omega
          · rcases Nat.lt_or_ge i 2 with h8 | h8
            · rcases Nat.lt_or_ge i 1 with h9 | h9
              · have : i = 0 := by omega
                subst this
                exact shp0.2 ⟨hr.1, by rw [hr.2]; rfl⟩
              · have : i = 1 := by omega
                subst this
                exact shp1.2 hf
            · exact (shp2 h8).2 (by omega)
      refine Evp.step (f := fun k => _) (fun k => by rw [impl_ClassesOk.l0, rdSup, rdFlds]) (Evp.yes (by omega) (Evp.yes (by omega) (Evp.yes (by omega) ?_)))
      refine Evp.ite (fun h => Evp.ite (fun h8 => j4 _ ?_) (fun h8 => j4 _ ?_)) (fun h => j4 _ ?_)
      · simp; omega
      · rw [decide_eq_true_iff]; omega
      · simp; omega
  have done : (sup cs 0 = -1 ∧ flds cs 0 = []) → (sup cs 1 = 0 ∧ flds cs 1 = [1]) → Evp (fun k => impl_ClassesOk.l0 k cs cs (cs.length : Int) 0) (fun r => r = true ↔ ClsOk cs) := by
    intro hr hf
    refine (loop hr hf 0 (Nat.zero_le _)).mono fun r hr2 => ?_
    rw [hr2, clsOk_iff]
    constructor
    · intro h3; exact ⟨by omega, by omega, fun c hc => h3 c (Nat.zero_le _) hc⟩
    · intro h3 c _ hc; exact h3.2.2 c hc
  have j2 : (sup cs 0 = -1 ∧ flds cs 0 = []) → ∀ b : Bool, (b = false ↔ (sup cs 1 = 0 ∧ flds cs 1 = [1])) → Evp (fun k => impl_ClassesOk.j2 k cs b) (fun r => r = true ↔ ClsOk cs) := by
    intro hr b hb
    refine Evp.step (f := fun k => _) (fun k => by rw [impl_ClassesOk.j2]) ?_
    refine Evp.ite (fun h => Evp.pure _ (no fun h3 => ?_)) (fun h => done hr (hb.1 (by simpa using h)))
    have := hb.2 h3.fail
    rw [h] at this; cases this
  have j1 : ∀ b : Bool, (b = false ↔ (sup cs 0 = -1 ∧ flds cs 0 = [])) → Evp (fun k => impl_ClassesOk.j1 k cs b) (fun r => r = true ↔ ClsOk cs) := by
    intro b hb
    refine Evp.step (f := fun k => _) (fun k => by rw [impl_ClassesOk.j1, show (1 : Int) = ((1 : Nat) : Int) from rfl, rdSup, rdFlds]) ?_
    refine Evp.ite (fun h => Evp.pure _ (no fun h3 => ?_)) (fun h => ?_)
    · have := hb.2 h3.root
      rw [h] at this; cases this
    · have hr := hb.1 (by simpa using h)
      refine Evp.yes (by omega) (Evp.ite (fun h1 => Evp.ite (fun h3 => Evp.yes (by omega) (j2 hr _ ?_)) (fun h3 => j2 hr _ ?_)) (fun h1 => j2 hr _ ?_))
      · obtain ⟨x, hx⟩ := List.length_eq_one_iff.1 (by omega : (flds cs 1).length = 1)
        rw [hx, show rd [x] 0 = x from rfl]
        simp [h1]
      · constructor
        · intro h4; cases h4
        · intro h4; rw [h4.2] at h3; exact absurd rfl h3
      · constructor
        · intro h4; cases h4
        · intro h4; exact absurd h4.1 h1
  refine Evp.step (f := fun k => _) (fun k => by rw [impl_ClassesOk.j0, show (0 : Int) = ((0 : Nat) : Int) from rfl, rdSup, rdFlds]) (Evp.no (by decide) (Evp.yes (by omega) ?_))
  refine Evp.ite (fun h1 => j1 _ ?_) (fun h1 => j1 _ ?_)
  · constructor
    · intro h3
      have : (flds cs 0).length = 0 := by simpa using h3
      exact ⟨h1, List.eq_nil_of_length_eq_zero this⟩
    · intro h3; rw [h3.2]; rfl
  · constructor
    · intro h3; cases h3
    · intro h3; exact absurd h3.1 h1
end Go.Proofs.Ytgmjolngnhdafaa.Kit

end
section
namespace Go.Proofs.Ytgmjolngnhdafaa.P
open Go Go.RowKit Go.Proofs.YtgmjolngnhdafaaW.PrintWords
/-- The number of a kind that is one. -/
def KindOk (r : Int) : Prop := (0 ≤ r ∧ r ≤ 4) ∨ (8 ≤ r ∧ r ≤ 2000000000)
instance (r : Int) : Decidable (KindOk r) := by unfold KindOk; infer_instance
def impl_kindIn.f (k : Nat) (l0 : List S38) (a b : Int) : Option Bool :=
  if KindOk a ∧ KindOk b then
    (if a = b then some true else if b = 0 then some true else if a = 2 then some (b != 1) else if a = 3 ∨ a = 4 then some (b == 8) else if 8 ≤ a then (if 8 ≤ b then impl_classUp.f k l0 (a - 8) (b - 8) else some false) else some false)
  else none
theorem impl_kindIn.mono : ∀ a0 a1 a2 k, LeO (impl_kindIn.f k a0 a1 a2) (impl_kindIn.f (k + 1) a0 a1 a2) := by
  intro a0 a1 a2 k
  unfold impl_kindIn.f
  repeat' first
      | (with_reducible exact impl_classUp.mono _ _ _ _)
      | (with_reducible exact LeO.refl _)
      | (with_reducible exact LeO.none _)
      | (with_reducible refine LeO.ite ?_ ?_)
end Go.Proofs.Ytgmjolngnhdafaa.P

end
section
namespace Go.Proofs.Ytgmjolngnhdafaa.P
open Go.RowKit Go.Proofs.YtgmjolngnhdafaaW.PrintWords Go.Proofs.YtgmjolngnhdafaaW.PrintLast Go.Proofs.YtgmjolngnhdafaaW.PrintMore
attribute [local go_sem] max2_int min2_int max_two min_two max_three min_three max_four min_four
set_option linter.unusedVariables false
set_option linter.unusedSimpArgs false

/-! ### impl_typeIn: function 72 -/
def impl_typeIn.f (k : Nat) (l0 : List (S38)) (a1 : Int) (a2 : Int) : Option (Bool) := (impl_kindOf.f (l0.length : Int) a1).bind fun t354 => ((impl_kindOf.f (l0.length : Int) a2).bind fun t355 => (if t354 = (-1) then (some false) else (if t355 = (-1) then (some false) else ((impl_kindIn.f k l0 t354 t355).bind fun t356 => (some t356)))))
theorem impl_typeIn.mono : ∀ a0 a1 a2 k, LeO (impl_typeIn.f k a0 a1 a2) (impl_typeIn.f (k + 1) a0 a1 a2) := by
  intro a0 a1 a2 k
  unfold impl_typeIn.f
  repeat' first
      | (with_reducible exact impl_kindIn.mono _ _ _ _)
      | (with_reducible exact LeO.refl _)
      | (with_reducible exact LeO.none _)
      | (with_reducible refine LeO.ite ?_ ?_)
      | (with_reducible refine LeO.bind ?_ (fun _ => ?_))
      | exact impl_kindIn.mono _ _ _ _
      | exact LeO.none _
      | refine LeO.ite ?_ ?_
      | refine LeO.bind ?_ (fun _ => ?_)

end Go.Proofs.Ytgmjolngnhdafaa.P

end
section
namespace Go.Proofs.Ytgmjolngnhdafaa.P
open Go.RowKit Go.Proofs.YtgmjolngnhdafaaW.PrintWords Go.Proofs.YtgmjolngnhdafaaW.PrintLast Go.Proofs.YtgmjolngnhdafaaW.PrintMore
attribute [local go_sem] max2_int min2_int max_two min_two max_three min_three max_four min_four
set_option linter.unusedVariables false
set_option linter.unusedSimpArgs false

/-! ### impl_TypeIn: function 35 -/
def impl_TypeIn.f (k : Nat) (l0 : List (S38)) (a1 : Int) (a2 : Int) : Option (Bool) := (impl_ClassesOk.f k l0).bind fun t357 => (if t357 = true then ((impl_typeIn.f k l0 a1 a2).bind fun t358 => (some t358)) else (some false))
theorem impl_TypeIn.mono : ∀ a0 a1 a2 k, LeO (impl_TypeIn.f k a0 a1 a2) (impl_TypeIn.f (k + 1) a0 a1 a2) := by
  intro a0 a1 a2 k
  unfold impl_TypeIn.f
  repeat' first
      | (with_reducible exact impl_ClassesOk.mono _ _)
      | (with_reducible exact impl_typeIn.mono _ _ _ _)
      | (with_reducible exact LeO.refl _)
      | (with_reducible exact LeO.none _)
      | (with_reducible refine LeO.ite ?_ ?_)
      | (with_reducible refine LeO.bind ?_ (fun _ => ?_))
      | exact impl_ClassesOk.mono _ _
      | exact impl_typeIn.mono _ _ _ _
      | exact LeO.none _
      | refine LeO.ite ?_ ?_
      | refine LeO.bind ?_ (fun _ => ?_)

end Go.Proofs.Ytgmjolngnhdafaa.P

end
section
namespace Go.Proofs.Ytgmjolngnhdafaa.P
open Go.RowKit Go.Proofs.YtgmjolngnhdafaaW.PrintWords Go.Proofs.YtgmjolngnhdafaaW.PrintLast Go.Proofs.YtgmjolngnhdafaaW.PrintMore
attribute [local go_sem] max2_int min2_int max_two min_two max_three min_three max_four min_four
set_option linter.unusedVariables false
set_option linter.unusedSimpArgs false

/-! ### spec_TypeOk: function 25 -/
def spec_TypeOk.f (k : Nat) (l0 : List (S38)) (a1 : Int) : Option (Bool) := (spec_ClassesOk.f k l0).bind fun t164 => (if t164 = true then (if a1 = 0 then (some true) else (if a1 = 2 then (some true) else ((spec_l2Field.f l0 a1).bind fun t165 => (some t165)))) else (some false))
theorem spec_TypeOk.mono : ∀ a0 a1 k, LeO (spec_TypeOk.f k a0 a1) (spec_TypeOk.f (k + 1) a0 a1) := by
  intro a0 a1 k
  unfold spec_TypeOk.f
  repeat' first
      | (with_reducible exact spec_ClassesOk.mono _ _)
      | (with_reducible exact LeO.refl _)
      | (with_reducible exact LeO.none _)
      | (with_reducible refine LeO.ite ?_ ?_)
      | (with_reducible refine LeO.bind ?_ (fun _ => ?_))
      | exact spec_ClassesOk.mono _ _
      | exact LeO.none _
      | refine LeO.ite ?_ ?_
      | refine LeO.bind ?_ (fun _ => ?_)

end Go.Proofs.Ytgmjolngnhdafaa.P

end
section
namespace Go.Proofs.Ytgmjolngnhdafaa.P
open Go.RowKit Go.Proofs.YtgmjolngnhdafaaW.PrintWords Go.Proofs.YtgmjolngnhdafaaW.PrintLast Go.Proofs.YtgmjolngnhdafaaW.PrintMore
attribute [local go_sem] max2_int min2_int max_two min_two max_three min_three max_four min_four
set_option linter.unusedVariables false
set_option linter.unusedSimpArgs false

/-! ### spec_l2Ref: function 90 -/
def spec_l2Ref.f (a0 : Int) : Option (Bool) := some (decide (a0 ≥ 2))

end Go.Proofs.Ytgmjolngnhdafaa.P

end
section
namespace Go.Proofs.Ytgmjolngnhdafaa.P
open Go.RowKit Go.Proofs.YtgmjolngnhdafaaW.PrintWords Go.Proofs.YtgmjolngnhdafaaW.PrintLast Go.Proofs.YtgmjolngnhdafaaW.PrintMore
attribute [local go_sem] max2_int min2_int max_two min_two max_three min_three max_four min_four
set_option linter.unusedVariables false
set_option linter.unusedSimpArgs false

/-! ### spec_l2In: function 73 -/
mutual
def spec_l2In.j0 : Nat → List (S38) → Int → Int → Bool → Option (Bool)
  | 0, _, _, _, _ => none
  | k + 1, x0, x1, x2, x13 => if x13 = true then (some true) else (if x1 = 2 then ((spec_l2Ref.f x2).bind fun t397 => (some t397)) else ((spec_l2Ref.f x1).bind fun t398 => (if t398 = true then (spec_l2In.j1 k x0 x1 x2 (decide (x2 < 8))) else (spec_l2In.j1 k x0 x1 x2 true))))
def spec_l2In.j1 : Nat → List (S38) → Int → Int → Bool → Option (Bool)
  | 0, _, _, _, _ => none
  | k + 1, x0, x1, x2, x24 => if x24 = true then (some false) else (if x1 < 8 then (some (x2 == 8)) else ((spec_l2Up.f k x0 (wrap64 (x1 - 8)) (wrap64 (x2 - 8))).bind fun t399 => (some t399)))
end
def spec_l2In.f (k : Nat) (l0 : List (S38)) (a1 : Int) (a2 : Int) : Option (Bool) := if a1 = a2 then (spec_l2In.j0 k l0 a1 a2 true) else (spec_l2In.j0 k l0 a1 a2 (a2 == 0))
theorem spec_l2In.mono_l : ∀ k, (∀ y0 y1 y2 y3, LeO (spec_l2In.j0 k y0 y1 y2 y3) (spec_l2In.j0 (k + 1) y0 y1 y2 y3)) ∧ (∀ y0 y1 y2 y3, LeO (spec_l2In.j1 k y0 y1 y2 y3) (spec_l2In.j1 (k + 1) y0 y1 y2 y3))
  | 0 => ⟨fun _ _ _ _ r h => by simp [spec_l2In.j0] at h, fun _ _ _ _ r h => by simp [spec_l2In.j1] at h⟩
  | k + 1 => by
    obtain ⟨ih0, ih1⟩ := spec_l2In.mono_l k
    refine ⟨?_, ?_⟩
    · intro y0 y1 y2 y3
      unfold spec_l2In.j0
      repeat' first
      | (with_reducible exact ih0 _ _ _ _)
      | (with_reducible exact ih1 _ _ _ _)
      | (with_reducible exact spec_l2Up.mono _ _ _ _)
      | (with_reducible exact LeO.refl _)
      | (with_reducible exact LeO.none _)
      | (with_reducible refine LeO.ite ?_ ?_)
      | (with_reducible refine LeO.bind ?_ (fun _ => ?_))
      | exact ih0 _ _ _ _
      | exact ih1 _ _ _ _
      | exact spec_l2Up.mono _ _ _ _
      | exact LeO.none _
      | refine LeO.ite ?_ ?_
      | refine LeO.bind ?_ (fun _ => ?_)
    · intro y0 y1 y2 y3
      unfold spec_l2In.j1
      repeat' first
      | (with_reducible exact ih0 _ _ _ _)
      | (with_reducible exact ih1 _ _ _ _)
      | (with_reducible exact spec_l2Up.mono _ _ _ _)
      | (with_reducible exact LeO.refl _)
      | (with_reducible exact LeO.none _)
      | (with_reducible refine LeO.ite ?_ ?_)
      | (with_reducible refine LeO.bind ?_ (fun _ => ?_))
      | exact ih0 _ _ _ _
      | exact ih1 _ _ _ _
      | exact spec_l2Up.mono _ _ _ _
      | exact LeO.none _
      | refine LeO.ite ?_ ?_
      | refine LeO.bind ?_ (fun _ => ?_)
theorem spec_l2In.mono : ∀ a0 a1 a2 k, LeO (spec_l2In.f k a0 a1 a2) (spec_l2In.f (k + 1) a0 a1 a2) := by
  intro a0 a1 a2 k
  obtain ⟨ih0, ih1⟩ := spec_l2In.mono_l k
  unfold spec_l2In.f
  repeat' first
      | (with_reducible exact ih0 _ _ _ _)
      | (with_reducible exact ih1 _ _ _ _)
      | (with_reducible exact spec_l2Up.mono _ _ _ _)
      | (with_reducible exact LeO.refl _)
      | (with_reducible exact LeO.none _)
      | (with_reducible refine LeO.ite ?_ ?_)
      | (with_reducible refine LeO.bind ?_ (fun _ => ?_))
      | exact ih0 _ _ _ _
      | exact ih1 _ _ _ _
      | exact spec_l2Up.mono _ _ _ _
      | exact LeO.none _
      | refine LeO.ite ?_ ?_
      | refine LeO.bind ?_ (fun _ => ?_)

end Go.Proofs.Ytgmjolngnhdafaa.P

end
section
namespace Go.Proofs.Ytgmjolngnhdafaa.P
open Go.RowKit Go.Proofs.YtgmjolngnhdafaaW.PrintWords Go.Proofs.YtgmjolngnhdafaaW.PrintLast Go.Proofs.YtgmjolngnhdafaaW.PrintMore
attribute [local go_sem] max2_int min2_int max_two min_two max_three min_three max_four min_four
set_option linter.unusedVariables false
set_option linter.unusedSimpArgs false

/-! ### spec_TypeIn: function 40 -/
def spec_TypeIn.f (k : Nat) (l0 : List (S38)) (a1 : Int) (a2 : Int) : Option (Bool) := (spec_TypeOk.f k l0 a1).bind fun t400 => (if t400 = true then ((spec_TypeOk.f k l0 a2).bind fun t401 => (if t401 = true then ((spec_l2In.f k l0 a1 a2).bind fun t402 => (some t402)) else (some false))) else (some false))
theorem spec_TypeIn.mono : ∀ a0 a1 a2 k, LeO (spec_TypeIn.f k a0 a1 a2) (spec_TypeIn.f (k + 1) a0 a1 a2) := by
  intro a0 a1 a2 k
  unfold spec_TypeIn.f
  repeat' first
      | (with_reducible exact spec_TypeOk.mono _ _ _)
      | (with_reducible exact spec_l2In.mono _ _ _ _)
      | (with_reducible exact LeO.refl _)
      | (with_reducible exact LeO.none _)
      | (with_reducible refine LeO.ite ?_ ?_)
      | (with_reducible refine LeO.bind ?_ (fun _ => ?_))
      | exact spec_TypeOk.mono _ _ _
      | exact spec_l2In.mono _ _ _ _
      | exact LeO.none _
      | refine LeO.ite ?_ ?_
      | refine LeO.bind ?_ (fun _ => ?_)

end Go.Proofs.Ytgmjolngnhdafaa.P

end
section
namespace Go.Proofs.Ytgmjolngnhdafaa.P
open Go.RowKit Go.Proofs.YtgmjolngnhdafaaW.PrintWords Go.Proofs.YtgmjolngnhdafaaW.PrintLast Go.Proofs.YtgmjolngnhdafaaW.PrintMore
attribute [local go_sem] max2_int min2_int max_two min_two max_three min_three max_four min_four
set_option linter.unusedVariables false
set_option linter.unusedSimpArgs false

/-! ### impl_TypeOk: function 26 -/
def impl_TypeOk.f (k : Nat) (l0 : List (S38)) (a1 : Int) : Option (Bool) := (impl_ClassesOk.f k l0).bind fun t166 => (if t166 = true then ((impl_kindOf.f (l0.length : Int) a1).bind fun t167 => (some (t167 != (-1)))) else (some false))
theorem impl_TypeOk.mono : ∀ a0 a1 k, LeO (impl_TypeOk.f k a0 a1) (impl_TypeOk.f (k + 1) a0 a1) := by
  intro a0 a1 k
  unfold impl_TypeOk.f
  repeat' first
      | (with_reducible exact impl_ClassesOk.mono _ _)
      | (with_reducible exact LeO.refl _)
      | (with_reducible exact LeO.none _)
      | (with_reducible refine LeO.ite ?_ ?_)
      | (with_reducible refine LeO.bind ?_ (fun _ => ?_))
      | exact impl_ClassesOk.mono _ _
      | exact LeO.none _
      | refine LeO.ite ?_ ?_
      | refine LeO.bind ?_ (fun _ => ?_)

end Go.Proofs.Ytgmjolngnhdafaa.P

end
section
namespace Go.Proofs.Ytgmjolngnhdafaa.Kit
open Go Go.RowKit Go.Proofs.YtgmjolngnhdafaaW.PrintWords Go.Proofs.Ytgmjolngnhdafaa.P
set_option linter.unusedVariables false
theorem iff_no {p : Prop} (h : ¬ p) : (false = true) ↔ p := ⟨fun h2 => (by cases h2), fun h2 => absurd h2 h⟩
theorem iff_yes {p : Prop} (h : p) : (true = true) ↔ p := ⟨fun _ => h, fun _ => rfl⟩
theorem Up.via {cs : List Cls} {a b p : Nat} (hp : sup cs a = (p : Int)) (hne : a ≠ b) : Up cs a b ↔ Up cs p b := by
  constructor
  · intro h
    rcases h.inv with rfl | ⟨q, hq, h2⟩
    · exact absurd rfl hne
    · have : p = q := by omega
      subst this
      exact h2
  · intro h; exact .step p hp h
theorem spec_up {cs : List Cls} (h : ClsOk cs) (b : Nat) : ∀ a : Nat, a < cs.length → Evp (fun k => spec_l2Up.f k cs (a : Int) (b : Int)) (fun r => r = true ↔ Up cs a b) := by
  intro a
  induction a using Nat.strongRecOn with
  | _ a ih =>
    intro ha
    unfold spec_l2Up.f at ih ⊢
    refine Evp.step (f := fun k => _) (fun k => by rw [spec_l2Up.l0, rdSup]) (Evp.ite (fun hab => ?_) (fun hab => Evp.pure _ ?_))
    · obtain ⟨p, hp, hlt⟩ := h.sup_nat (by omega : 1 ≤ a) ha
      refine Evp.yes (by omega) (Evp.yes (by omega) ?_)
      rw [hp]
      exact (ih p hlt (by omega)).mono fun r hr => hr.trans (Up.via hp (by omega)).symm
    · rw [beq_iff_eq]
      constructor
      · intro h2
        have : a = b := by omega
        subst this; exact .refl _
      · intro h2
        have := h2.le h ha
        omega
theorem impl_up {cs : List Cls} (h : ClsOk cs) (b : Nat) : ∀ a : Nat, a < cs.length → Evp (fun k => impl_classUp.f k cs (a : Int) (b : Int)) (fun r => r = true ↔ Up cs a b) := by
  intro a
  induction a using Nat.strongRecOn with
  | _ a ih =>
    intro ha
    unfold impl_classUp.f at ih ⊢
    refine Evp.step (f := fun k => _) (fun k => by rw [impl_classUp.l0, rdSup]) (Evp.yes (by omega) (Evp.ite (fun hab => Evp.pure _ ?_) (fun hab => ?_)))
    · have : a = b := by omega
      subst this
      exact iff_yes (.refl _)
    · refine Evp.yes (by omega) (Evp.yes (by omega) ?_)
      rcases Nat.eq_zero_or_pos a with h0 | h0
      · subst h0
        rw [h.root.1]
        refine Evp.step (f := fun k => _) (fun k => by rw [impl_classUp.l0]) (Evp.no (by omega) (Evp.pure _ (iff_no ?_)))
        intro h2
        have := h2.le h ha
        omega
      · obtain ⟨p, hp, hlt⟩ := h.sup_nat h0 ha
        rw [hp]
        exact (ih p hlt (by omega)).mono fun r hr => hr.trans (Up.via hp (by omega)).symm
/-- A type of so many classes. -/
def TyOk (n : Nat) (t : Int) : Prop := t = 0 ∨ t = 2 ∨ FieldTy n t
theorem tyOk_iff {n : Nat} {t : Int} : TyOk n t ↔ (0 ≤ t ∧ t ≤ 4) ∨ (8 ≤ t ∧ t < 8 + (n : Int)) := by
  unfold TyOk FieldTy
  omega
theorem kindOf_ty {n : Nat} {t : Int} (hn : n ≤ 1000000000) (h0 : -9223372036854775808 ≤ t) (h1 : t ≤ 9223372036854775807) :
    ∃ r, impl_kindOf.f (n : Int) t = some r ∧ (TyOk n t ∧ r = t ∨ ¬ TyOk n t ∧ r = -1) := by
  refine ⟨_, kindOf_eq hn h0 h1, ?_⟩
  rw [tyOk_iff]
  by_cases h : (0 ≤ t ∧ t ≤ 4) ∨ (8 ≤ t ∧ t < 8 + (n : Int))
  · rw [if_pos h]; exact .inl ⟨h, rfl⟩
  · rw [if_neg h]; exact .inr ⟨h, rfl⟩
theorem spec_typeOk {cs : List Cls} (hs : SmallC cs) (t : Int) : Evp (fun k => spec_TypeOk.f k cs t) (fun r => r = true ↔ ClsOk cs ∧ TyOk cs.length t) := by
  have hl0 := hs.1
  unfold spec_TypeOk.f
  refine Evp.bind (spec_classesOk hs) fun b hb => Evp.ite (fun h => ?_) (fun h => Evp.pure _ (iff_no fun h2 => h (hb.2 h2.1)))
  refine Evp.ite (fun h0 => Evp.pure _ (iff_yes ⟨hb.1 h, .inl h0⟩)) (fun h0 => Evp.ite (fun h2 => Evp.pure _ (iff_yes ⟨hb.1 h, .inr (.inl h2)⟩)) (fun h2 => ?_))
  obtain ⟨c, hc, hc2⟩ := field_eq (cs := cs) (t := t) (by omega)
  simp only [hc, Option.bind_some]
  refine Evp.pure _ (hc2.trans ⟨fun h3 => ⟨hb.1 h, .inr (.inr h3)⟩, fun h3 => ?_⟩)
  rcases h3.2 with h4 | h4 | h4
  · exact absurd h4 h0
  · exact absurd h4 h2
  · exact h4
theorem impl_typeOk {cs : List Cls} (hs : SmallC cs) {t : Int} (ht0 : -9223372036854775808 ≤ t) (ht1 : t ≤ 9223372036854775807) : Evp (fun k => impl_TypeOk.f k cs t) (fun r => r = true ↔ ClsOk cs ∧ TyOk cs.length t) := by
  have hl0 := hs.1
  unfold impl_TypeOk.f
  refine Evp.bind (impl_classesOk hs) fun b hb => Evp.ite (fun h => ?_) (fun h => Evp.pure _ (iff_no fun h2 => h (hb.2 h2.1)))
  obtain ⟨c, hc, hc2⟩ := kindOf_ty (n := cs.length) (by omega) ht0 ht1
  simp only [hc, Option.bind_some]
  refine Evp.pure _ ?_
  rcases hc2 with ⟨h1, rfl⟩ | ⟨h1, rfl⟩
  · have := tyOk_iff.1 h1
    rw [bne_iff_ne]
    exact ⟨fun _ => ⟨hb.1 h, h1⟩, fun _ => by omega⟩
  · exact iff_no fun h2 => h1 h2.2
/-- A value of the one type is one of the other. -/
def TyIn (cs : List Cls) (a b : Int) : Prop := a = b ∨ b = 0 ∨ (a = 2 ∧ 2 ≤ b) ∨ ((a = 3 ∨ a = 4) ∧ b = 8) ∨ (8 ≤ a ∧ 8 ≤ b ∧ Up cs (a - 8).toNat (b - 8).toNat)
theorem spec_tyIn {cs : List Cls} (hs : SmallC cs) (h : ClsOk cs) {a b : Int} (ha : TyOk cs.length a) (hb : TyOk cs.length b) : Evp (fun k => spec_l2In.f k cs a b) (fun r => r = true ↔ TyIn cs a b) := by
  have hl0 := hs.1
  have ha' := tyOk_iff.1 ha
  have hb' := tyOk_iff.1 hb
  unfold spec_l2In.f
  have j0t : TyIn cs a b → Evp (fun k => spec_l2In.j0 k cs a b true) (fun r => r = true ↔ TyIn cs a b) := fun h =>
    Evp.step (f := fun k => _) (fun k => by rw [spec_l2In.j0]) (Evp.yes rfl (Evp.pure _ (iff_yes h)))
  have j1t : ¬ TyIn cs a b → Evp (fun k => spec_l2In.j1 k cs a b true) (fun r => r = true ↔ TyIn cs a b) := fun h =>
    Evp.step (f := fun k => _) (fun k => by rw [spec_l2In.j1]) (Evp.yes rfl (Evp.pure _ (iff_no h)))
  refine Evp.ite (fun h1 => j0t (.inl h1)) (fun h1 => ?_)
  by_cases h2 : b = 0
  · rw [h2, show ((0 : Int) == 0) = true from rfl, ← h2]; exact j0t (.inr (.inl h2))
  rw [show (b == 0) = false from beq_eq_false_iff_ne.2 h2]
  refine Evp.step (f := fun k => _) (fun k => by rw [spec_l2In.j0, spec_l2Ref.f, spec_l2Ref.f, Option.bind_some, Option.bind_some]) (Evp.no (by decide) (Evp.ite (fun h3 => Evp.pure _ ?_) (fun h3 => Evp.ite (fun h4 => ?_) (fun h4 => j1t ?_))))
  · rw [decide_eq_true_iff]
    unfold TyIn
    constructor
    · intro h4; exact .inr (.inr (.inl ⟨h3, by omega⟩))
    · intro h4; omega
  · rw [decide_eq_true_iff] at h4
    by_cases h5 : b < 8
    · rw [decide_eq_true h5]
      refine j1t ?_
      unfold TyIn
      omega
    · rw [decide_eq_false h5]
      refine Evp.step (f := fun k => _) (fun k => by rw [spec_l2In.j1]) (Evp.no (by decide) (Evp.ite (fun h6 => Evp.pure _ ?_) (fun h6 => ?_)))
      · rw [beq_iff_eq]
        unfold TyIn
        constructor
        · intro h7; exact .inr (.inr (.inr (.inl ⟨by omega, h7⟩)))
        · intro h7; omega
      · rw [w64 (n := a - 8) (by omega) (by omega), w64 (n := b - 8) (by omega) (by omega), show a - 8 = (((a - 8).toNat : Nat) : Int) by omega, show b - 8 = (((b - 8).toNat : Nat) : Int) by omega]
        refine Evp.bind (spec_up h _ _ (by omega)) fun c hc => Evp.pure _ (hc.trans ?_)
        unfold TyIn
        constructor
        · intro h7; exact .inr (.inr (.inr (.inr ⟨by omega, by omega, by simpa using h7⟩)))
        · intro h7
          rcases h7 with h7 | h7 | h7 | h7 | h7
          · omega
          · omega
          · omega
          · omega
          · simpa using h7.2.2
  · rw [decide_eq_true_iff] at h4
    unfold TyIn
    omega
theorem impl_kdIn {cs : List Cls} (hs : SmallC cs) (h : ClsOk cs) {a b : Int} (ha : TyOk cs.length a) (hb : TyOk cs.length b) : Evp (fun k => impl_kindIn.f k cs a b) (fun r => r = true ↔ TyIn cs a b) := by
  have hl0 := hs.1
  have ha' := tyOk_iff.1 ha
  have hb' := tyOk_iff.1 hb
  unfold impl_kindIn.f
  refine Evp.yes ⟨by unfold KindOk; omega, by unfold KindOk; omega⟩ ?_
  refine Evp.ite (fun h1 => Evp.pure _ (iff_yes (.inl h1))) (fun h1 => Evp.ite (fun h2 => Evp.pure _ (iff_yes (.inr (.inl h2)))) (fun h2 => Evp.ite (fun h3 => Evp.pure _ ?_) (fun h3 => Evp.ite (fun h4 => Evp.pure _ ?_) (fun h4 => Evp.ite (fun h5 => Evp.ite (fun h6 => ?_) (fun h6 => Evp.pure _ (iff_no ?_))) (fun h5 => Evp.pure _ (iff_no ?_))))))
  · rw [bne_iff_ne]
    unfold TyIn
    constructor
    · intro h4; exact .inr (.inr (.inl ⟨h3, by omega⟩))
    · intro h4; omega
  · rw [beq_iff_eq]
    unfold TyIn
    constructor
    · intro h7; exact .inr (.inr (.inr (.inl ⟨h4, h7⟩)))
    · intro h7; omega
  · rw [show a - 8 = (((a - 8).toNat : Nat) : Int) by omega, show b - 8 = (((b - 8).toNat : Nat) : Int) by omega]
    refine (impl_up h _ _ (by omega)).mono fun c hc => hc.trans ?_
    unfold TyIn
    constructor
    · intro h7; exact .inr (.inr (.inr (.inr ⟨by omega, by omega, by simpa using h7⟩)))
    · intro h7
      rcases h7 with h7 | h7 | h7 | h7 | h7
      · omega
      · omega
      · omega
      · omega
      · simpa using h7.2.2
  · unfold TyIn
    omega
  · unfold TyIn
    omega
theorem impl_tyIn {cs : List Cls} (hs : SmallC cs) (h : ClsOk cs) {a b : Int} (ha0 : -9223372036854775808 ≤ a) (ha1 : a ≤ 9223372036854775807) (hb0 : -9223372036854775808 ≤ b) (hb1 : b ≤ 9223372036854775807) :
    Evp (fun k => impl_typeIn.f k cs a b) (fun r => r = true ↔ TyOk cs.length a ∧ TyOk cs.length b ∧ TyIn cs a b) := by
  have hl0 := hs.1
  unfold impl_typeIn.f
  obtain ⟨r, hr, hr2⟩ := kindOf_ty (n := cs.length) (by omega) ha0 ha1
  obtain ⟨q, hq, hq2⟩ := kindOf_ty (n := cs.length) (by omega) hb0 hb1
  simp only [hr, hq, Option.bind_some]
  rcases hr2 with ⟨h1, rfl⟩ | ⟨h1, rfl⟩
  · refine Evp.no (by have := tyOk_iff.1 h1; omega) ?_
    rcases hq2 with ⟨h2, rfl⟩ | ⟨h2, rfl⟩
    · refine Evp.no (by have := tyOk_iff.1 h2; omega) ?_
      refine Evp.bind (impl_kdIn hs h h1 h2) fun c hc => Evp.pure _ (hc.trans ⟨fun h3 => ⟨h1, h2, h3⟩, fun h3 => h3.2.2⟩)
    · exact Evp.yes rfl (Evp.pure _ (iff_no fun h3 => h2 h3.2.1))
  · exact Evp.yes rfl (Evp.pure _ (iff_no fun h3 => h1 h3.1))
theorem impl_TypeIn' {cs : List Cls} (hs : SmallC cs) {a b : Int} (ha0 : -9223372036854775808 ≤ a) (ha1 : a ≤ 9223372036854775807) (hb0 : -9223372036854775808 ≤ b) (hb1 : b ≤ 9223372036854775807) :
    Evp (fun k => impl_TypeIn.f k cs a b) (fun r => r = true ↔ ClsOk cs ∧ TyOk cs.length a ∧ TyOk cs.length b ∧ TyIn cs a b) := by
  unfold impl_TypeIn.f
  refine Evp.bind (impl_classesOk hs) fun c hc => Evp.ite (fun h => ?_) (fun h => Evp.pure _ (iff_no fun h2 => h (hc.2 h2.1)))
  exact Evp.bind (impl_tyIn hs (hc.1 h) ha0 ha1 hb0 hb1) fun d hd => Evp.pure _ (hd.trans ⟨fun h3 => ⟨hc.1 h, h3⟩, fun h3 => h3.2⟩)
theorem spec_TypeIn' {cs : List Cls} (hs : SmallC cs) (a b : Int) :
    Evp (fun k => spec_TypeIn.f k cs a b) (fun r => r = true ↔ ClsOk cs ∧ TyOk cs.length a ∧ TyOk cs.length b ∧ TyIn cs a b) := by
  unfold spec_TypeIn.f
  refine Evp.bind (spec_typeOk hs a) fun c hc => Evp.ite (fun h => ?_) (fun h => Evp.pure _ (iff_no fun h2 => h (hc.2 ⟨h2.1, h2.2.1⟩)))
  refine Evp.bind (spec_typeOk hs b) fun d hd => Evp.ite (fun h' => ?_) (fun h' => Evp.pure _ (iff_no fun h2 => h' (hd.2 ⟨h2.1, h2.2.2.1⟩)))
  obtain ⟨h3, h4⟩ := hc.1 h
  have h5 := (hd.1 h').2
  exact Evp.bind (spec_tyIn hs h3 h4 h5) fun e he => Evp.pure _ (he.trans ⟨fun h6 => ⟨h3, h4, h5, h6⟩, fun h6 => h6.2.2.2⟩)
end Go.Proofs.Ytgmjolngnhdafaa.Kit

end
section
namespace Go.Proofs.Ytgmjolngnhdafaa.Kit
open Go Go.RowKit Go.Proofs.YtgmjolngnhdafaaW.PrintWords Go.Proofs.Ytgmjolngnhdafaa.P
/-- a and b are classes, and a is b or below it. -/
def UpC (cs : List Cls) (a b : Int) : Prop := ClsOk cs ∧ (0 ≤ a ∧ a < (cs.length : Int)) ∧ (0 ≤ b ∧ b < (cs.length : Int)) ∧ Up cs a.toNat b.toNat
theorem spec_is {cs : List Cls} (hs : SmallC cs) (a : Int) : Evp (fun k => spec_l2Is.f k cs a) (fun r => r = true ↔ ClsOk cs ∧ 0 ≤ a ∧ a < (cs.length : Int)) := by
  have hl0 := hs.1
  unfold spec_l2Is.f
  refine Evp.bind (spec_classesOk hs) fun b hb => Evp.ite (fun h => ?_) (fun h => Evp.pure _ (iff_no fun h2 => h (hb.2 h2.1)))
  have hc := hb.1 h
  have := hc.lo
  rw [w64 (by omega) (by omega), in_eq]
  refine Evp.pure _ ?_
  rw [decide_eq_true_iff]
  constructor
  · intro h2; exact ⟨hc, by omega, by omega⟩
  · intro h2; omega
theorem spec_ClassUp' {cs : List Cls} (hs : SmallC cs) (a b : Int) : Evp (fun k => spec_ClassUp.f k cs a b) (fun r => r = true ↔ UpC cs a b) := by
  unfold spec_ClassUp.f
  refine Evp.bind (spec_is hs a) fun c hc => Evp.ite (fun h => ?_) (fun h => Evp.pure _ (iff_no fun h2 => h (hc.2 ⟨h2.1, h2.2.1⟩)))
  refine Evp.bind (spec_is hs b) fun d hd => Evp.ite (fun h' => ?_) (fun h' => Evp.pure _ (iff_no fun h2 => h' (hd.2 ⟨h2.1, h2.2.2.1⟩)))
  obtain ⟨h3, h4⟩ := hc.1 h
  have h5 := (hd.1 h').2
  have ea : a = ((a.toNat : Nat) : Int) := by omega
  have eb : b = ((b.toNat : Nat) : Int) := by omega
  have := spec_up h3 b.toNat a.toNat (by omega)
  rw [← ea, ← eb] at this
  exact Evp.bind this fun e he => Evp.pure _ (he.trans ⟨fun h6 => ⟨h3, h4, h5, h6⟩, fun h6 => h6.2.2.2⟩)
theorem impl_ClassUp' {cs : List Cls} (hs : SmallC cs) (a b : Int) : Evp (fun k => impl_ClassUp.f k cs a b) (fun r => r = true ↔ UpC cs a b) := by
  unfold impl_ClassUp.f
  obtain ⟨x, hx, hx2⟩ := impl_isClass_eq cs a
  obtain ⟨y, hy, hy2⟩ := impl_isClass_eq cs b
  refine Evp.bind (impl_classesOk hs) fun c hc => Evp.ite (fun h => ?_) (fun h => Evp.pure _ (iff_no fun h2 => h (hc.2 h2.1)))
  simp only [hx, hy, Option.bind_some]
  refine Evp.ite (fun h1 => ?_) (fun h1 => Evp.pure _ (iff_no fun h2 => h1 (hx2.2 h2.2.1)))
  refine Evp.ite (fun h1' => ?_) (fun h1' => Evp.pure _ (iff_no fun h2 => h1' (hy2.2 h2.2.2.1)))
  have h3 := hc.1 h
  have h4 := hx2.1 h1
  have h5 := hy2.1 h1'
  have ea : a = ((a.toNat : Nat) : Int) := by omega
  have eb : b = ((b.toNat : Nat) : Int) := by omega
  have := impl_up h3 b.toNat a.toNat (by omega)
  rw [← ea, ← eb] at this
  exact Evp.bind this fun e he => Evp.pure _ (he.trans ⟨fun h6 => ⟨h3, h4, h5, h6⟩, fun h6 => h6.2.2.2⟩)
end Go.Proofs.Ytgmjolngnhdafaa.Kit

end
section
namespace Go.Proofs.Ytgmjolngnhdafaa.Kit
open Go Go.RowKit Go.Proofs.YtgmjolngnhdafaaW.PrintWords Go.Proofs.Ytgmjolngnhdafaa.P
set_option linter.unusedVariables false
theorem is_evp {cs : List Cls} (hs : SmallC cs) (a : Int) : Evp (fun k => laws_leIs.f k cs a) (fun r => r = true ↔ ClsOk cs ∧ 0 ≤ a ∧ a < (cs.length : Int)) := by
  unfold laws_leIs.f
  refine Evp.bind (spec_classesOk hs) fun c hc => Evp.ite (fun h => ?_) (fun h => Evp.pure _ (iff_no fun h2 => h (hc.2 h2.1)))
  refine Evp.ite (fun h1 => Evp.pure _ ?_) (fun h1 => Evp.pure _ (iff_no fun h2 => h1 h2.2.1))
  rw [decide_eq_true_iff]
  exact ⟨fun h2 => ⟨hc.1 h, h1, h2⟩, fun h2 => h2.2.2⟩
theorem drawUp_evp {l : List Int} (h : ∀ x ∈ l, (Lit.int .u8 x).wf = true) :
    Evp (fun k => spec_DrawClassUp.f k l) (fun r => Drawn 4 9 r.1 ∧ (-1 ≤ r.2.1 ∧ r.2.1 ≤ 10) ∧ (-1 ≤ r.2.2 ∧ r.2.2 ≤ 10)) := by
  obtain ⟨bs, ho, hb⟩ := open_evp h
  unfold spec_DrawClassUp.f
  simp only [ho, Option.bind_some]
  refine Evp.bind (off_evp hb (by omega) (by omega)) fun d hd => ?_
  obtain ⟨hd1, hd2, hd3⟩ := hd
  have hl := hd1.1
  have hl9 := hd1.2.1
  refine Evp.bind (pick_evp hb hd2 (by omega) (by omega)) fun a ha => Evp.bind (pick_evp hb (by omega) (by omega) (by omega)) fun b hb' => ?_
  refine Evp.bind (pick_evp hb (by omega) (by omega) (by omega)) fun c hc => Evp.bind (pick_evp hb (by omega) (by omega) (by omega)) fun e he => Evp.pure _ ⟨hd1, ?_, ?_⟩
  · have h1 := ha.2.1 (by omega)
    have h2 := hb'.2.1 (by omega)
    have h3 := ha.1
    have h4 := hb'.1
    dsimp only
    rw [tdiv_pos h4, w64 (n := b.1 / 23) (by omega) (by omega), w64 (by omega) (by omega)]
    omega
  · have h1 := hc.2.1 (by omega)
    have h2 := he.2.1 (by omega)
    have h3 := hc.1
    have h4 := he.1
    dsimp only
    rw [tdiv_pos h4, w64 (n := e.1 / 23) (by omega) (by omega), w64 (by omega) (by omega)]
    omega
end Go.Proofs.Ytgmjolngnhdafaa.Kit

end
section
namespace Go.Proofs.Ytgmjolngnhdafaa.Kit
open Go Go.RowKit Go.Proofs.YtgmjolngnhdafaaW.PrintWords Go.Proofs.Ytgmjolngnhdafaa.P
set_option linter.unusedVariables false
/-- c is above a and b, and under each that is. -/
def IsJoin (cs : List Cls) (a b c : Nat) : Prop := Up cs a c ∧ Up cs b c ∧ ∀ d, Up cs a d → Up cs b d → Up cs c d
theorem IsJoin.fn {cs : List Cls} (h : ClsOk cs) {a b c c' : Nat} (ha : a < cs.length) (h1 : IsJoin cs a b c) (h2 : IsJoin cs a b c') : c = c' := by
  have := h1.1.le h ha
  have := h2.1.le h ha
  exact (h1.2.2 _ h2.1 h2.2.1).antisymm h (by omega) (by omega) (h2.2.2 _ h1.1 h1.2.1)
theorem IsJoin.symm {cs : List Cls} {a b c : Nat} (h : IsJoin cs a b c) : IsJoin cs b a c := ⟨h.2.1, h.1, fun d h1 h2 => h.2.2 d h2 h1⟩
theorem spec_join {cs : List Cls} (h : ClsOk cs) {b : Nat} (hb : b < cs.length) : ∀ a : Nat, a < cs.length → Evp (fun k => spec_l2Join.f k cs (a : Int) (b : Int)) (fun r => ∃ c : Nat, r = (c : Int) ∧ IsJoin cs a b c) := by
  intro a
  induction a using Nat.strongRecOn with
  | _ a ih =>
    intro ha
    unfold spec_l2Join.f at ih ⊢
    refine Evp.step (f := fun k => _) (fun k => by rw [spec_l2Join.l0, rdSup]) (Evp.bind (spec_up h a b hb) fun t ht => Evp.ite (fun h1 => Evp.pure _ ⟨a, rfl, .refl _, ht.1 h1, fun d h2 _ => h2⟩) (fun h1 => ?_))
    have hn : ¬ Up cs b a := fun h2 => h1 (ht.2 h2)
    have h0 : a ≠ 0 := fun h0 => hn (h0 ▸ Up.root h hb)
    obtain ⟨p, hp, hlt⟩ := h.sup_nat (i := a) (by omega) ha
    refine Evp.yes (by omega) (Evp.yes (by omega) ?_)
    rw [hp]
    refine (ih p hlt (by omega)).mono fun r hr => ?_
    obtain ⟨c, rfl, h2, h3, h4⟩ := hr
    refine ⟨c, rfl, .step p hp h2, h3, fun d h5 h6 => ?_⟩
    have hne : a ≠ d := fun e => hn (e ▸ h6)
    exact h4 d ((Up.via hp hne).1 h5) h6
theorem IsJoin.ex {cs : List Cls} (h : ClsOk cs) {a b : Nat} (ha : a < cs.length) (hb : b < cs.length) : ∃ c, IsJoin cs a b c := by
  obtain ⟨r, _, c, _, hc⟩ := spec_join h hb a ha
  exact ⟨c, hc⟩
theorem both_evp {cs : List Cls} (h : ClsOk cs) {a b : Nat} (ha : a < cs.length) (hb : b < cs.length) (c : Nat) : Evp (fun k => joinBoth.f k cs (a : Int) (b : Int) (c : Int)) (fun r => r = true ↔ Up cs a c ∧ Up cs b c) := by
  unfold joinBoth.f
  refine Evp.bind (impl_up h c a ha) fun t ht => Evp.ite (fun h1 => ?_) (fun h1 => Evp.pure _ (iff_no fun h2 => h1 (ht.2 h2.1)))
  exact Evp.bind (impl_up h c b hb) fun u hu => Evp.pure _ (hu.trans ⟨fun h2 => ⟨ht.1 h1, h2⟩, fun h2 => h2.2⟩)
theorem near1 {cs : List Cls} (h : ClsOk cs) {a b : Nat} (ha : a < cs.length) (hb : b < cs.length) {xs : List Int} (hn : xs.length = cs.length) (hx : ∀ j : Nat, j < cs.length → rd xs (j : Int) = (j : Int)) {P : Int × Bool → Prop} {i : Int} {o : Nat} (ho : o < cs.length) (hno : (∃ e, e < cs.length ∧ Up cs a e ∧ Up cs b e ∧ ¬ Up cs o e) → Evp (fun k => impl_nearest.l0 k cs (a : Int) (b : Int) xs (wrap64 (i + 1))) P) :
    ∀ d j : Nat, j + d = cs.length → ((∀ e, j ≤ e → e < cs.length → Up cs a e → Up cs b e → Up cs o e) → P ((o : Int), true)) → Evp (fun k => impl_nearest.l1 k cs (a : Int) (b : Int) xs i (o : Int) (j : Int)) P := by
  have hhi := h.hi
  intro d
  induction d with
  | zero =>
    intro j hj hall
    exact Evp.step (f := fun k => _) (fun k => by rw [impl_nearest.l1]) (Evp.no (by omega) (Evp.pure _ (hall fun e h1 h2 => by omega)))
  | succ d ih =>
    intro j hj hall
    have hjl : j < cs.length := by omega
    refine Evp.step (f := fun k => _) (fun k => by rw [impl_nearest.l1, hx j hjl, w64' hjl (by omega)]) (Evp.yes (by omega) (Evp.yes (by omega) ?_))
    refine Evp.bind (both_evp h ha hb j) fun t ht => Evp.ite (fun h1 => ?_) (fun h1 => ?_)
    · refine Evp.bind (impl_up h j o ho) fun u hu => Evp.ite (fun h2 => ?_) (fun h2 => ?_)
      · refine ih (j + 1) (by omega) fun h3 => hall fun e h4 h5 h6 h7 => ?_
        rcases Nat.eq_or_lt_of_le h4 with rfl | h8
        · exact hu.1 h2
        · exact h3 e h8 h5 h6 h7
      · exact hno ⟨j, hjl, (ht.1 h1).1, (ht.1 h1).2, fun h3 => h2 (hu.2 h3)⟩
    · refine ih (j + 1) (by omega) fun h3 => hall fun e h4 h5 h6 h7 => ?_
      rcases Nat.eq_or_lt_of_le h4 with rfl | h8
      · exact absurd (ht.2 ⟨h6, h7⟩) h1
      · exact h3 e h8 h5 h6 h7
theorem near_evp {cs : List Cls} (h : ClsOk cs) {a b : Nat} (ha : a < cs.length) (hb : b < cs.length) {xs : List Int} (hn : xs.length = cs.length) (hx : ∀ j : Nat, j < cs.length → rd xs (j : Int) = (j : Int)) :
    Evp (fun k => impl_nearest.f k cs (a : Int) (b : Int) xs) (fun r => r.2 = true ∧ ∃ c : Nat, r.1 = (c : Int) ∧ IsJoin cs a b c) := by
  have hhi := h.hi
  obtain ⟨c0, hc0⟩ := IsJoin.ex h ha hb
  have hl0 := hc0.1.le h ha
  have key : ∀ i : Nat, i ≤ c0 → (i ≠ c0 → Evp (fun k => impl_nearest.l0 k cs (a : Int) (b : Int) xs ((i + 1 : Nat) : Int)) (fun r => r.2 = true ∧ ∃ c : Nat, r.1 = (c : Int) ∧ IsJoin cs a b c)) →
      Evp (fun k => impl_nearest.l0 k cs (a : Int) (b : Int) xs (i : Int)) (fun r => r.2 = true ∧ ∃ c : Nat, r.1 = (c : Int) ∧ IsJoin cs a b c) := by
    intro i hi next
    have hil : i < cs.length := by omega
    refine Evp.step (f := fun k => _) (fun k => by rw [impl_nearest.l0, hx i hil, w64' hil (by omega)]) (Evp.yes (by omega) (Evp.yes (by omega) ?_))
    refine Evp.bind (both_evp h ha hb i) fun t ht => Evp.ite (fun h1 => ?_) (fun h1 => ?_)
    · refine near1 h ha hb hn hx hil (fun hbad => ?_) cs.length 0 (by omega) (fun hall => ⟨rfl, i, rfl, (ht.1 h1).1, (ht.1 h1).2, fun d h2 h3 => hall d (Nat.zero_le _) (by have := h2.le h ha; omega) h2 h3⟩)
      rw [w64' hil (by omega)]
      refine next fun e => ?_
      obtain ⟨x, hx1, hx2, hx3, hx4⟩ := hbad
      exact hx4 (e ▸ hc0.2.2 x hx2 hx3)
    · exact next fun e => h1 (ht.2 (e ▸ ⟨hc0.1, hc0.2.1⟩))
  have all : ∀ m i : Nat, i + m = c0 → Evp (fun k => impl_nearest.l0 k cs (a : Int) (b : Int) xs (i : Int)) (fun r => r.2 = true ∧ ∃ c : Nat, r.1 = (c : Int) ∧ IsJoin cs a b c) := by
    intro m
    induction m with
    | zero => intro i hi; exact key i (by omega) (fun hne => absurd hi hne)
    | succ m ih => intro i hi; exact key i (by omega) (fun _ => ih (i + 1) (by omega))
  exact all c0 0 (by omega)
/-- The nearest class above two, where they are classes. -/
def JoinC (cs : List Cls) (a b r : Int) : Prop := (ClsOk cs ∧ (0 ≤ a ∧ a < (cs.length : Int)) ∧ (0 ≤ b ∧ b < (cs.length : Int)) ∧ ∃ c : Nat, r = (c : Int) ∧ IsJoin cs a.toNat b.toNat c) ∨ (¬ (ClsOk cs ∧ (0 ≤ a ∧ a < (cs.length : Int)) ∧ (0 ≤ b ∧ b < (cs.length : Int))) ∧ r = -1)
theorem JoinC.fn {cs : List Cls} {a b r r' : Int} (h : JoinC cs a b r) (h' : JoinC cs a b r') : r = r' := by
  rcases h with ⟨h1, h2, h3, c, rfl, hc⟩ | h1 <;> rcases h' with ⟨h1', h2', h3', c', rfl, hc'⟩ | h1'
  · rw [hc.fn h1 (by omega) hc']
  · exact absurd ⟨h1, h2, h3⟩ h1'.1
  · exact absurd ⟨h1', h2', h3'⟩ h1.1
  · rw [h1.2, h1'.2]
theorem spec_ClassJoin' {cs : List Cls} (hs : SmallC cs) (a b : Int) : Evp (fun k => spec_ClassJoin.f k cs a b) (JoinC cs a b) := by
  unfold spec_ClassJoin.f
  refine Evp.bind (spec_is hs a) fun c hc => Evp.ite (fun h => ?_) (fun h => Evp.pure _ (.inr ⟨fun h2 => h (hc.2 ⟨h2.1, h2.2.1⟩), rfl⟩))
  refine Evp.bind (spec_is hs b) fun d hd => Evp.ite (fun h' => ?_) (fun h' => Evp.pure _ (.inr ⟨fun h2 => h' (hd.2 ⟨h2.1, h2.2.2⟩), rfl⟩))
  obtain ⟨h3, h4⟩ := hc.1 h
  have h5 := (hd.1 h').2
  have := spec_join h3 (b := b.toNat) (by omega) a.toNat (by omega)
  rw [show ((a.toNat : Nat) : Int) = a by omega, show ((b.toNat : Nat) : Int) = b by omega] at this
  exact Evp.bind this fun e he => Evp.pure _ (.inl ⟨h3, h4, h5, he⟩)
theorem impl_ClassJoin' {cs : List Cls} (hs : SmallC cs) (a b : Int) : Evp (fun k => impl_ClassJoin.f k cs a b) (JoinC cs a b) := by
  unfold impl_ClassJoin.f
  obtain ⟨x, hx, hx2⟩ := impl_isClass_eq cs a
  obtain ⟨y, hy, hy2⟩ := impl_isClass_eq cs b
  refine Evp.bind (impl_classesOk hs) fun c hc => Evp.ite (fun h => ?_) (fun h => Evp.pure _ (.inr ⟨fun h2 => h (hc.2 h2.1), rfl⟩))
  simp only [hx, hy, Option.bind_some]
  refine Evp.ite (fun h1 => ?_) (fun h1 => Evp.pure _ (.inr ⟨fun h2 => h1 (hx2.2 h2.2.1), rfl⟩))
  refine Evp.ite (fun h1' => ?_) (fun h1' => Evp.pure _ (.inr ⟨fun h2 => h1' (hy2.2 h2.2.2), rfl⟩))
  have h3 := hc.1 h
  have h4 := hx2.1 h1
  have h5 := hy2.1 h1'
  have hhi := h3.hi
  refine Evp.yes (by omega) ?_
  have ea : ((a.toNat : Nat) : Int) = a := by omega
  have eb : ((b.toNat : Nat) : Int) = b := by omega
  have key : ∀ d i : Nat, i + d = cs.length → ∀ xs : List Int, xs.length = cs.length → (∀ j : Nat, j < i → rd xs (j : Int) = (j : Int)) → Evp (fun k => impl_ClassJoin.l0 k cs a b xs (i : Int)) (JoinC cs a b) := by
    intro d
    induction d with
    | zero =>
      intro i hi xs hl hr
      have hn := near_evp h3 (a := a.toNat) (b := b.toNat) (by omega) (by omega) hl (fun j hj => hr j (by omega))
      rw [ea, eb] at hn
      refine Evp.step (f := fun k => _) (fun k => by rw [impl_ClassJoin.l0]) (Evp.no (by omega) (Evp.bind hn fun p hp => Evp.yes hp.1 (Evp.pure _ (.inl ⟨h3, h4, h5, hp.2⟩))))
    | succ d ih =>
      intro i hi xs hl hr
      have hil : i < cs.length := by omega
      refine Evp.step (f := fun k => _) (fun k => by rw [impl_ClassJoin.l0, w64' hil (by omega)]) (Evp.yes (by omega) (Evp.yes (by omega) (Evp.yes (by omega) ?_)))
      refine ih (i + 1) (by omega) (xs.set (i : Int).toNat (i : Int)) (by rw [List.length_set]; exact hl) (fun j hj => ?_)
      show (xs.set (i : Int).toNat (i : Int)).getD j 0 = (j : Int)
      rw [List.getD_eq_getElem?_getD, Int.toNat_natCast]
      rcases Nat.eq_or_lt_of_le (Nat.le_of_lt_succ hj) with rfl | hlt
      · rw [List.getElem?_set_self (by omega)]; rfl
      · rw [List.getElem?_set_ne (by omega), ← List.getD_eq_getElem?_getD]
        exact hr j hlt
  refine key cs.length 0 (by omega) _ (by rw [List.length_replicate]; omega) (fun j hj => absurd hj (Nat.not_lt_zero _))
end Go.Proofs.Ytgmjolngnhdafaa.Kit

end
section
namespace Go.Proofs.Ytgmjolngnhdafaa.Pure
open Go Go.RowKit Go.Proofs.YtgmjolngnhdafaaW.PrintWords Go.Proofs.Ytgmjolngnhdafaa.P Go.Proofs.Ytgmjolngnhdafaa.Kit
theorem FnClassJoin : laws_FnClassJoin.Pure := by
  intro l0 l1 _ _ hb _ _ _
  refine Evp.rounds ?_
  unfold laws_FnClassJoin.f
  have draw : Evp (fun k => spec_DrawClassJoin.f k l0) (fun r => Drawn 4 9 r.1 ∧ (-1 ≤ r.2.1 ∧ r.2.1 ≤ 10) ∧ (-1 ≤ r.2.2 ∧ r.2.2 ≤ 10)) := by
    unfold spec_DrawClassJoin.f
    exact Evp.bind (drawUp_evp hb) fun d hd => Evp.pure _ hd
  have j0 : ∀ x : Bool, Evp (fun k => laws_FnClassJoin.j0 k l0 l1 x) (fun r => r = true) := by
    intro x
    refine Evp.step (f := fun k => _) (fun k => by rw [laws_FnClassJoin.j0]) (Evp.ite (fun _ => Evp.pure _ rfl) (fun _ => Evp.bind draw fun d hd => ?_))
    have hs : SmallC d.1 := hd.1.small (by decide) (by decide)
    refine Evp.bind (impl_ClassJoin' hs _ _) fun u hu => Evp.bind (spec_ClassJoin' hs _ _) fun v hv => Evp.yes (hu.fn hv) ?_
    have j : ∀ x : Bool, (x = false → (ClsOk d.1 ∧ 0 ≤ d.2.1 ∧ d.2.1 < (d.1.length : Int)) ∧ (ClsOk d.1 ∧ 0 ≤ d.2.2 ∧ d.2.2 < (d.1.length : Int))) → Evp (fun k => laws_FnClassJoin.j1 k l1 d.1 d.2.1 d.2.2 u x) (fun r => r = true) := by
      intro x hx
      refine Evp.step (f := fun k => _) (fun k => by rw [laws_FnClassJoin.j1]) ?_
      cases x with
      | true => exact Evp.yes rfl (Evp.bind (spec_ClassJoin' hs _ _) fun v' hv' => Evp.pure _ (by rw [hu.fn hv']; simp))
      | false =>
        obtain ⟨⟨hok, ha, ha'⟩, -, hb0, hb1⟩ := hx rfl
        have hlo := hok.lo
        rcases hu with ⟨_, _, _, c, rfl, hc⟩ | hu
        · have hcl := hc.1.le hok (by omega)
          have hm0 : 0 ≤ (l1.length : Int) % (d.1.length : Int) := Int.emod_nonneg _ (by omega)
          have hm1 : (l1.length : Int) % (d.1.length : Int) < (d.1.length : Int) := Int.emod_lt_of_pos _ (by omega)
          generalize (l1.length : Int) % (d.1.length : Int) = m at hm0 hm1 ⊢
          have hcr : 0 ≤ (c : Int) ∧ (c : Int) < (d.1.length : Int) := by omega
          refine Evp.no (by decide) (Evp.no (by omega) ?_)
          refine Evp.bind (impl_ClassUp' hs _ _) fun p hp => Evp.yes (hp.2 ⟨hok, ⟨ha, ha'⟩, hcr, by rw [Int.toNat_natCast]; exact hc.1⟩) ?_
          refine Evp.bind (impl_ClassUp' hs _ _) fun q hq => Evp.yes (hq.2 ⟨hok, ⟨hb0, hb1⟩, hcr, by rw [Int.toNat_natCast]; exact hc.2.1⟩) ?_
          refine Evp.bind (impl_ClassJoin' hs _ _) fun e he => ?_
          have : e = (c : Int) := he.fn (.inl ⟨hok, ⟨hb0, hb1⟩, ⟨ha, ha'⟩, c, rfl, hc.symm⟩)
          subst this
          rw [show (((c : Int) != (c : Int)) = false) by simp]
          refine Evp.step (f := fun k => _) (fun k => by rw [laws_FnClassJoin.j2]) (Evp.no (by decide) ?_)
          refine Evp.bind (impl_ClassUp' hs _ _) fun f hf => Evp.ite (fun h1 => ?_) (fun _ => Evp.pure _ rfl)
          refine Evp.bind (impl_ClassUp' hs _ _) fun g hg => Evp.ite (fun h2 => ?_) (fun _ => Evp.pure _ rfl)
          refine Evp.bind (impl_ClassUp' hs _ _) fun i hi => Evp.pure _ ?_
          exact hi.2 ⟨hok, hcr, ⟨hm0, hm1⟩, by rw [Int.toNat_natCast]; exact hc.2.2 _ (hf.1 h1).2.2.2 (hg.1 h2).2.2.2⟩
        · exact absurd ⟨hok, ⟨ha, ha'⟩, ⟨hb0, hb1⟩⟩ hu.1
    refine Evp.bind (is_evp hs _) fun p hp => Evp.ite (fun h => Evp.bind (is_evp hs _) fun q hq => j _ (fun h' => ⟨hp.1 h, hq.1 (by simpa using h')⟩)) (fun _ => j _ (fun h => by cases h))
  exact Evp.ite (fun _ => j0 _) (fun _ => j0 _)
end Go.Proofs.Ytgmjolngnhdafaa.Pure

end
section
namespace Go.Proofs.Ytgmjolngnhdafaa.fnClassJoin
open Go.ChangeShapes Go.WideShapes Go.ChangeAt Go.RowKit
open Go.ChangeMaps (open_string shut_string)
set_option linter.unusedVariables false
theorem own : ownKnob Try.prog.godebug = none := by kernel_rfl
theorem laidOut : laidOutB Try.prog = true := by kernel_rfl
def IsRow (k : IntKind) (w : World) (a : Option Addr) (len cap : Nat) (zs : List Int) : Prop :=
  (a = none ∧ len = 0 ∧ cap = 0 ∧ zs = []) ∨
  ∃ x, a = some x ∧ len ≤ cap ∧ cap ≤ maxLen ∧ zs.length = cap ∧ (∀ i, i < zs.length → w.cell? (x.add i) = some (.int k (zs.getD i 0))) ∧ ∀ n ∈ zs, (Lit.int k n).wf = true
set_option maxRecDepth 100000 in
theorem lifted (os : Os) (started : os.Started) (H : Type) (enc : TypeId × Value → H) :
    ReturnsInHanded {} Try.checked os 13 .any (Rows.fnClassJoinSpec.pre6 enc Try.prog Try.f13 Rows.fnClassJoinRow.domain false) (Rows.fnClassJoinSpec.post enc Try.prog Try.f13 false true false false) := by
  refine returnsInHanded_of_change_sized (C := Try.checked) own started (by kernel_rfl) Try.func13
    (ChangeSpec.witness6 (enc := enc) (C := Try.checked) false ⟨#[], #[.slice none 0 0, .slice none 0 0], []⟩ 8 (by kernel_rfl) (by kernel_rfl) (by kernel_rfl) (by kernel_rfl)) ?_
  intro W base args ds gs before hval0 hW hcnd hsz0 _
  have hsz : (DataW.weightsEach Try.prog (Try.f13.params.toList ++ Rows.fnClassJoinSpec.plain.varTypes Try.prog) (ds ++ gs)).all (· ≤ reachBytes) = true := hsz0
  have hval : ∀ (j : Nat) t v, Try.f13.params[j]? = some t → args[j]? = some v → Value.okWide Try.prog W .any base t v := hval0
  have hW' := hW
  obtain ⟨p, q, hA0, hV, rfl, hfz, hnd⟩ := hW
  have hA : DataW.TrodAll enc Try.prog W 0 (fun _ => true) true Try.f13.params.toList args.toList ds p := hA0
  rw [Try.params13] at hA hval hsz
  obtain ⟨v0, vs0, d0, ds0, p0, q0, hargs, rfl, rfl, h0, r0⟩ := trodAll_cons hA
  obtain ⟨v1, vs1, d1, ds1, p1, q1, rfl, rfl, rfl, h1, r1⟩ := trodAll_cons r0
  obtain ⟨rfl, rfl, rfl⟩ := trodAll_nil r1
  obtain rfl : args = #[v0, v1] := by cases args; simp_all
  obtain ⟨rfl, rfl⟩ := trodVars_none hV
  obtain ⟨a0, len0, cap0, rfl⟩ := okWide_slice Try.underlying31 (hval 0 31 v0 rfl rfl)
  have k0 := h0
  have lt0 : ∀ x ∈ p0, x.block < W.heap.size := by obtain ⟨m, hm⟩ := k0; exact DataW.trod_lt m _ _ _ hm
  obtain ⟨z0, w0⟩ : ∃ zs, IsRow .u8 W a0 len0 cap0 zs := by
    obtain ⟨fuel, hf⟩ := h0
    rcases open_ints Try.underlying31 Try.underlying5 (by kernel_rfl) hf with ⟨hcs, _⟩ | ⟨x, l, c, zs, hcs, _, hl, hm, hz, _, hcell, hwz⟩
    · simp [Value.cells] at hcs
      obtain ⟨rfl, rfl, rfl⟩ := hcs
      exact ⟨[], .inl ⟨rfl, rfl, rfl, rfl⟩⟩
    · simp [Value.cells] at hcs
      obtain ⟨rfl, rfl, rfl⟩ := hcs
      exact ⟨zs, .inr ⟨_, rfl, hl, hm, by simpa using hz, hcell, hwz⟩⟩
  have y0 : len0 * 1 ≤ 140737488351232 := Go.Proofs.YtgmjolngnhdafaaW.PrintWords.sized_ints hsz (j := 0) (t := 31) rfl rfl Try.underlying31 Try.underlying5 (by kernel_rfl) (by kernel_rfl) h0
  obtain ⟨a1, len1, cap1, rfl⟩ := okWide_slice Try.underlying31 (hval 1 31 v1 rfl rfl)
  have k1 := h1
  have lt1 : ∀ x ∈ p1, x.block < W.heap.size := by obtain ⟨m, hm⟩ := k1; exact DataW.trod_lt m _ _ _ hm
  obtain ⟨z1, w1⟩ : ∃ zs, IsRow .u8 W a1 len1 cap1 zs := by
    obtain ⟨fuel, hf⟩ := h1
    rcases open_ints Try.underlying31 Try.underlying5 (by kernel_rfl) hf with ⟨hcs, _⟩ | ⟨x, l, c, zs, hcs, _, hl, hm, hz, _, hcell, hwz⟩
    · simp [Value.cells] at hcs
      obtain ⟨rfl, rfl, rfl⟩ := hcs
      exact ⟨[], .inl ⟨rfl, rfl, rfl, rfl⟩⟩
    · simp [Value.cells] at hcs
      obtain ⟨rfl, rfl, rfl⟩ := hcs
      exact ⟨zs, .inr ⟨_, rfl, hl, hm, by simpa using hz, hcell, hwz⟩⟩
  have y1 : len1 * 1 ≤ 140737488351232 := Go.Proofs.YtgmjolngnhdafaaW.PrintWords.sized_ints hsz (j := 1) (t := 31) rfl rfl Try.underlying31 Try.underlying5 (by kernel_rfl) (by kernel_rfl) h1
  clear hA0 hval0 hsz0 hsz
  refine (P.laws_FnClassJoin.walk Pure.FnClassJoin a0 len0 cap0 z0 a1 len1 cap1 z1 W w0 y0 w1 y1).mono fun e W' ⟨he, bel⟩ => ?_
  subst he
  exact ⟨_, rfl, _, _, _, [], _, [], hW', trodAll_mk1 (shut_bool Try.underlying4 _), (trodAll_cons_mk (Below.trod laidOut (by kernel_rfl) (of_decide_eq_true (by kernel_rfl)) k0 bel lt0) (trodAll_cons_mk (Below.trod laidOut (by kernel_rfl) (of_decide_eq_true (by kernel_rfl)) k1 bel lt1) trodAll_mk0)), rfl, bel.frame _, fun h => by cases h⟩
theorem over : Rows.fnClassJoinRow.holds Try.pinned (OpenSpec.ofChange Rows.fnClassJoinSpec) :=
  OpenClaim.holds_of_wide 13 Try.f13 rfl rfl rfl rfl rfl rfl rfl ⟨rfl, rfl, rfl, rfl, rfl⟩ rfl rfl rfl rfl rfl (by kernel_rfl) Try.func13 (by show joinedFacts Try.prog _ _ _ _ = true; unfold joinedFacts; rw [Go.Proofs.Ytgmjolngnhdafaa.enter, Go.Proofs.Ytgmjolngnhdafaa.make, Go.Proofs.Ytgmjolngnhdafaa.lifts]; kernel_rfl)
    (of_decide_eq_true (by kernel_rfl)) (by unfold Func.isWrapper; first | (rw [if_pos (by decide +kernel)]; kernel_rfl) | (rw [if_neg (by decide +kernel)]; exact ⟨rfl, rfl⟩))
    (fun os started H enc _ => lifted os started H enc)
theorem proved : Rows.FnClassJoinSaid := over
#print axioms proved
end Go.Proofs.Ytgmjolngnhdafaa.fnClassJoin
namespace Go.Proofs.Ytgmjolngnhdafaa
/-- The row, under a short name, for the claim. -/
theorem fnClassJoin_holds : Rows.FnClassJoinSaid := fnClassJoin.proved
end Go.Proofs.Ytgmjolngnhdafaa

end
