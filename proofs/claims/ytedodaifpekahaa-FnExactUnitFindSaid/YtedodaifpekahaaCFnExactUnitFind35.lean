/- FnExactUnitFind: for all units (of at most 2^20 values together), a class and a name the program's UnitFind answers as the reference does and leaves its argument. -/
import Derived.Test.YtedodaifpekahaaCFnExactUnitFind34
import Derived.Test.YtedodaifpekahaaCFnExactUnitFind22
import Derived.Test.YtedodaifpekahaaCFnExactUnitFind21
import Derived.Test.YtedodaifpekahaaRows
import Derived.Test.YtedodaifpekahaaCFnExactUnitFind33
import Derived.WalkKit
import Derived.ProofKit
import Derived.OpenShut
import Derived.ShutString
import Derived.ChangeOld
import Derived.Below
import Derived.SizedLaws
import Derived.Test.YtedodaifpekahaaCFnExactUnitFind0
import Derived.Test.YtedodaifpekahaaCFnExactUnitFind1
import Derived.Test.YtedodaifpekahaaCFnExactUnitFind2
import Derived.Test.YtedodaifpekahaaCFnExactUnitFind3
import Derived.Test.YtedodaifpekahaaCFnExactUnitFind4
import Derived.Test.YtedodaifpekahaaCFnExactUnitFind5
import Derived.Test.YtedodaifpekahaaCFnExactUnitFind6
import Derived.Test.YtedodaifpekahaaCFnExactUnitFind7
import Derived.Test.YtedodaifpekahaaCFnExactUnitFind8
import Derived.Test.YtedodaifpekahaaCFnExactUnitFind9
import Derived.Test.YtedodaifpekahaaCFnExactUnitFind10
import Derived.Test.YtedodaifpekahaaCFnExactUnitFind11
import Derived.Test.YtedodaifpekahaaCFnExactUnitFind12
import Derived.Test.YtedodaifpekahaaCFnExactUnitFind13
import Derived.Test.YtedodaifpekahaaCFnExactUnitFind14
import Derived.Test.YtedodaifpekahaaCFnExactUnitFind15
import Derived.Test.YtedodaifpekahaaCFnExactUnitFind16
import Derived.Test.YtedodaifpekahaaCFnExactUnitFind17
import Derived.Test.YtedodaifpekahaaCFnExactUnitFind18
import Derived.Test.YtedodaifpekahaaCFnExactUnitFind19
import Derived.Test.YtedodaifpekahaaCFnExactUnitFind20
import Derived.Test.YtedodaifpekahaaCFnExactUnitFind23
import Derived.Test.YtedodaifpekahaaCFnExactUnitFind24
import Derived.Test.YtedodaifpekahaaCFnExactUnitFind25
import Derived.Test.YtedodaifpekahaaCFnExactUnitFind26
import Derived.Test.YtedodaifpekahaaCFnExactUnitFind27
import Derived.Test.YtedodaifpekahaaCFnExactUnitFind28
import Derived.Test.YtedodaifpekahaaCFnExactUnitFind29
import Derived.Test.YtedodaifpekahaaCFnExactUnitFind30
import Derived.Test.YtedodaifpekahaaCFnExactUnitFind31
import Derived.Test.YtedodaifpekahaaCFnExactUnitFind32
section

namespace Go.Proofs.Ytedodaifpekahaa.Kit
open Go Go.RowKit Go.Proofs.YtedodaifpekahaaW.PrintWords Go.Proofs.Ytedodaifpekahaa.P
set_option linter.unusedVariables false
set_option linter.unusedSimpArgs false
abbrev mth (ms : List Mth) (i : Nat) : Mth := ms.getD i z46
theorem rdM' {xs : List Mth} (i : Nat) : rd_T46 xs (i : Int) = mth xs i := rfl
theorem list_eq_iff {l m : List Int} (h : l.length = m.length) : (∀ j, 0 ≤ j → j < l.length → l.getD j 0 = m.getD j 0) ↔ l = m := by
  constructor
  · intro h2
    refine List.ext_getElem h fun i hi hi2 => ?_
    have := h2 i (Nat.zero_le _) hi
    rwa [getD_at hi, getD_at hi2] at this
  · intro h2 j _ _
    rw [h2]
theorem all_cons {Q : Nat → Prop} {i n : Nat} (hi : i < n) : (∀ j, i ≤ j → j < n → Q j) ↔ Q i ∧ (∀ j, i + 1 ≤ j → j < n → Q j) := by
  constructor
  · intro h; exact ⟨h i (Nat.le_refl _) hi, fun j hj hj2 => h j (by omega) hj2⟩
  · intro h j hj hj2
    rcases Nat.eq_or_lt_of_le hj with rfl | h3
    · exact h.1
    · exact h.2 j h3 hj2
theorem equal_evp {l m : List Int} (hl : l.length ≤ 1048576) : Evp (fun k => slices_Equal_int_int.f k l m) (fun r => r = true ↔ l = m) := by
  unfold slices_Equal_int_int.f
  refine Evp.ite (fun h => ?_) (fun h => Evp.pure _ (iff_no fun h2 => h (by rw [h2])))
  have k0 : ∀ i, i ≤ l.length → Evp (fun k => slices_Equal_int_int.l0 k l m (l.length : Int) (i : Int)) (fun r => r = true ↔ (∀ j, i ≤ j → j < l.length → l.getD j 0 = m.getD j 0) ∧ True) := by
    refine Evp.for_ ?_ (fun i hi ih => ?_)
    · exact Evp.step (f := fun k => _) (fun k => by rw [slices_Equal_int_int.l0]) (Evp.no (by omega) (Evp.pure _ (all_end (iff_yes trivial))))
    · refine Evp.step (f := fun k => _) (fun k => by rw [slices_Equal_int_int.l0, rdN, rdN]) (Evp.yes (by omega) (Evp.yes (by omega) (Evp.yes (by omega) (Evp.yes (by omega) (Evp.ite (fun h2 => ?_) (fun h2 => Evp.pure _ (all_stop hi h2)))))))
      rw [w64' (n := l.length) hi (by omega)]
      exact ih.mono fun r hr => all_step (Q := fun j => l.getD j 0 = m.getD j 0) h2 hr
  refine (k0 0 (Nat.zero_le _)).mono fun r hr => hr.trans ?_
  rw [list_eq_iff (by omega)]
  exact ⟨fun h2 => h2.1, fun h2 => ⟨h2, trivial⟩⟩
theorem same_evp {a b : Mth} (ha : a.f2.length ≤ 1048576) : Evp (fun k => spec_l3Same.f k a.f0 a.f1 a.f2 a.f3 a.f4 a.f5 a.f6 a.f7 b.f0 b.f1 b.f2 b.f3 b.f4 b.f5 b.f6 b.f7) (fun r => r = true ↔ a.f3 = b.f3 ∧ a.f2 = b.f2) := by
  unfold spec_l3Same.f
  have jt : ¬ (a.f3 = b.f3 ∧ a.f2 = b.f2) → Evp (fun k => spec_l3Same.j0 k true a.f0 a.f1 a.f2 a.f3 a.f4 a.f5 a.f6 a.f7 b.f0 b.f1 b.f2 b.f3 b.f4 b.f5 b.f6 b.f7) (fun r => r = true ↔ a.f3 = b.f3 ∧ a.f2 = b.f2) := fun h =>
    Evp.step (f := fun k => _) (fun k => by rw [spec_l3Same.j0]) (Evp.yes rfl (Evp.pure _ (iff_no h)))
  refine Evp.ite (fun h => ?_) (fun h => jt fun h2 => h h2.1)
  by_cases hl : a.f2.length = b.f2.length
  · rw [show ((a.f2.length : Int) != (b.f2.length : Int)) = false by simp; omega]
    refine Evp.step (f := fun k => _) (fun k => by rw [spec_l3Same.j0]) (Evp.no (by decide) ?_)
    have k0 : ∀ i, i ≤ a.f2.length → Evp (fun k => spec_l3Same.l0 k (i : Int) a.f0 a.f1 a.f2 a.f3 a.f4 a.f5 a.f6 a.f7 b.f0 b.f1 b.f2 b.f3 b.f4 b.f5 b.f6 b.f7) (fun r => r = true ↔ (∀ j, i ≤ j → j < a.f2.length → a.f2.getD j 0 = b.f2.getD j 0) ∧ True) := by
      refine Evp.for_ ?_ (fun i hi ih => ?_)
      · exact Evp.step (f := fun k => _) (fun k => by rw [spec_l3Same.l0]) (Evp.no (by omega) (Evp.pure _ (all_end (iff_yes trivial))))
      · refine Evp.step (f := fun k => _) (fun k => by rw [spec_l3Same.l0, rdN, rdN]) (Evp.yes (by omega) (Evp.yes (by omega) (Evp.yes (by omega) (Evp.ite (fun h2 => ?_) (fun h2 => Evp.pure _ (all_stop hi h2))))))
        rw [w64' (n := a.f2.length) hi (by omega)]
        exact ih.mono fun r hr => all_step (Q := fun j => a.f2.getD j 0 = b.f2.getD j 0) h2 hr
    refine (k0 0 (Nat.zero_le _)).mono fun r hr => hr.trans ?_
    rw [list_eq_iff hl]
    exact ⟨fun h2 => ⟨h, h2.1⟩, fun h2 => ⟨h2.2, trivial⟩⟩
  · rw [show ((a.f2.length : Int) != (b.f2.length : Int)) = true by simp; omega]
    exact jt fun h2 => hl (by rw [h2.2])
def Pair (cs : List Cls) (a b : Mth) : Prop := 0 ≤ a.f0 → 0 ≤ b.f0 → a.f1 = b.f1 → Up cs a.f0.toNat b.f0.toNat → a.f0 ≠ b.f0 ∧ a.f3 = b.f3 ∧ a.f2 = b.f2
def Row (cs : List Cls) (ms : List Mth) (i : Nat) : Prop := ∀ j, 0 ≤ j → j < ms.length → i ≠ j → Pair cs (mth ms i) (mth ms j)
def Agree (cs : List Cls) (ms : List Mth) : Prop := ∀ i, 0 ≤ i → i < ms.length → Row cs ms i
def InR (cs : List Cls) (ms : List Mth) : Prop := ∀ i, i < ms.length → (0 ≤ (mth ms i).f0 → (mth ms i).f0 < (cs.length : Int)) ∧ (mth ms i).f2.length ≤ 1048576
theorem impl_agree' {cs : List Cls} (hok : ClsOk cs) {ms : List Mth} (hm : ms.length ≤ 1048576) (hr : InR cs ms) : Evp (fun k => impl_agree.f k cs ms) (fun r => r = true ↔ Agree cs ms) := by
  unfold impl_agree.f
  have k0 : ∀ i, i ≤ ms.length → Evp (fun k => impl_agree.l0 k ms (ms.length : Int) (i : Int) cs ms) (fun r => r = true ↔ (∀ j, i ≤ j → j < ms.length → Row cs ms j) ∧ True) := by
    refine Evp.for_ ?_ (fun i hi ih => ?_)
    · exact Evp.step (f := fun k => _) (fun k => by rw [impl_agree.l0]) (Evp.no (by omega) (Evp.pure _ (all_end (iff_yes trivial))))
    · refine Evp.step (f := fun k => _) (fun k => by rw [impl_agree.l0, rdM']) (Evp.yes (by omega) (Evp.yes (by omega) (Evp.yes (by omega) ?_)))
      have hri := hr i hi
      have k1 : ∀ j, j ≤ ms.length → Evp (fun k => impl_agree.l1 k (i : Int) ms (ms.length : Int) (i : Int) ms (ms.length : Int) (j : Int) cs ms (mth ms i).f0 (mth ms i).f1 (mth ms i).f2 (mth ms i).f3 (mth ms i).f4 (mth ms i).f5 (mth ms i).f6 (mth ms i).f7) (fun r => r = true ↔ (∀ j', j ≤ j' → j' < ms.length → (i ≠ j' → Pair cs (mth ms i) (mth ms j'))) ∧ (∀ j', i + 1 ≤ j' → j' < ms.length → Row cs ms j')) := by
        refine Evp.for_ ?_ (fun j hj ihj => ?_)
        · refine Evp.step (f := fun k => _) (fun k => by rw [impl_agree.l1]) (Evp.no (by omega) ?_)
          rw [w64' (n := ms.length) hi (by omega)]
          exact ih.mono fun r hr => all_end (hr.trans ⟨fun h => h.1, fun h => ⟨h, trivial⟩⟩)
        · have hrj := hr j hj
          refine Evp.step (f := fun k => _) (fun k => by rw [impl_agree.l1, rdM']) (Evp.yes (by omega) (Evp.yes (by omega) (Evp.yes (by omega) ?_)))
          show Evp (fun k => if (i : Int) = (j : Int) then impl_agree.j2 k (i : Int) ms (ms.length : Int) (i : Int) ms (ms.length : Int) (j : Int) true cs ms (mth ms i).f0 (mth ms i).f1 (mth ms i).f2 (mth ms i).f3 (mth ms i).f4 (mth ms i).f5 (mth ms i).f6 (mth ms i).f7 (mth ms j).f0 (mth ms j).f1 (mth ms j).f2 (mth ms j).f3 (mth ms j).f4 (mth ms j).f5 (mth ms j).f6 (mth ms j).f7 else _) _
          have go : (i ≠ j → Pair cs (mth ms i) (mth ms j)) → Evp (fun k => impl_agree.l1 k (i : Int) ms (ms.length : Int) (i : Int) ms (ms.length : Int) (wrap64 ((j : Int) + 1)) cs ms (mth ms i).f0 (mth ms i).f1 (mth ms i).f2 (mth ms i).f3 (mth ms i).f4 (mth ms i).f5 (mth ms i).f6 (mth ms i).f7) (fun r => r = true ↔ (∀ j', j ≤ j' → j' < ms.length → (i ≠ j' → Pair cs (mth ms i) (mth ms j'))) ∧ (∀ j', i + 1 ≤ j' → j' < ms.length → Row cs ms j')) := by
            intro hp
            rw [w64' (n := ms.length) hj (by omega)]
            exact ihj.mono fun r hr => all_step (Q := fun j' => i ≠ j' → Pair cs (mth ms i) (mth ms j')) hp hr
          have skip : (i ≠ j → Pair cs (mth ms i) (mth ms j)) → Evp (fun k => impl_agree.j2 k (i : Int) ms (ms.length : Int) (i : Int) ms (ms.length : Int) (j : Int) true cs ms (mth ms i).f0 (mth ms i).f1 (mth ms i).f2 (mth ms i).f3 (mth ms i).f4 (mth ms i).f5 (mth ms i).f6 (mth ms i).f7 (mth ms j).f0 (mth ms j).f1 (mth ms j).f2 (mth ms j).f3 (mth ms j).f4 (mth ms j).f5 (mth ms j).f6 (mth ms j).f7) (fun r => r = true ↔ (∀ j', j ≤ j' → j' < ms.length → (i ≠ j' → Pair cs (mth ms i) (mth ms j'))) ∧ (∀ j', i + 1 ≤ j' → j' < ms.length → Row cs ms j')) := fun hp =>
            Evp.step (f := fun k => _) (fun k => by rw [impl_agree.j2]) (Evp.yes rfl (go hp))
          have stop : i ≠ j → ¬ Pair cs (mth ms i) (mth ms j) → Evp (fun k => some false) (fun r => r = true ↔ (∀ j', j ≤ j' → j' < ms.length → (i ≠ j' → Pair cs (mth ms i) (mth ms j'))) ∧ (∀ j', i + 1 ≤ j' → j' < ms.length → Row cs ms j')) := fun hne hp =>
            Evp.pure _ (all_stop (Q := fun j' => i ≠ j' → Pair cs (mth ms i) (mth ms j')) hj fun h => hp (h hne))
          refine Evp.ite (fun h1 => skip fun h => absurd (by omega) h) (fun h1 => Evp.ite (fun h2 => skip fun _ h3 => absurd h3 (by omega)) (fun h2 => Evp.ite (fun h3 => skip fun _ _ h4 => absurd h4 (by omega)) (fun h3 => ?_)))
          by_cases h4 : (mth ms i).f1 = (mth ms j).f1
          · rw [show ((mth ms i).f1 != (mth ms j).f1) = false by simpa using h4]
            refine Evp.step (f := fun k => _) (fun k => by rw [impl_agree.j2]) (Evp.no (by decide) ?_)
            have e1 : (((mth ms i).f0.toNat : Nat) : Int) = (mth ms i).f0 := by omega
            have e2 : (((mth ms j).f0.toNat : Nat) : Int) = (mth ms j).f0 := by omega
            have hij : i ≠ j := by omega
            refine Evp.ite (fun h5 => stop hij fun h => (h (by omega) (by omega) h4 (by rw [h5]; exact .refl _)).1 h5) (fun h5 => ?_)
            have hu := impl_up hok (mth ms j).f0.toNat (mth ms i).f0.toNat (by have := hri.1 (by omega); omega)
            rw [e1, e2] at hu
            refine Evp.bind hu fun u hu => Evp.ite (fun h6 => ?_) (fun h6 => go fun _ _ _ _ h7 => absurd (hu.2 h7) h6)
            refine Evp.ite (fun h7 => ?_) (fun h7 => stop hij fun h => h7 (h (by omega) (by omega) h4 (hu.1 h6)).2.1)
            refine Evp.bind (equal_evp hri.2) fun e he => Evp.ite (fun h8 => go fun _ _ _ _ _ => ⟨h5, h7, he.1 h8⟩) (fun h8 => stop hij fun h => h8 (he.2 (h (by omega) (by omega) h4 (hu.1 h6)).2.2))
          · rw [show ((mth ms i).f1 != (mth ms j).f1) = true by simpa using h4]
            exact skip fun _ _ _ h5 => absurd h5 h4
      refine (k1 0 (Nat.zero_le _)).mono fun r hr => hr.trans ?_
      rw [all_cons (Q := fun j => Row cs ms j) hi]
      exact ⟨fun h => ⟨h, trivial⟩, fun h => h.1⟩
  exact (k0 0 (Nat.zero_le _)).mono fun r hr => hr.trans ⟨fun h => h.1, fun h => ⟨h, trivial⟩⟩
theorem spec_apart {cs : List Cls} (hok : ClsOk cs) {ms : List Mth} (hm : ms.length ≤ 1048576) (hr : InR cs ms) : Evp (fun k => spec_l3Apart.f k cs ms) (fun r => r = true ↔ Agree cs ms) := by
  unfold spec_l3Apart.f
  have k0 : ∀ i, i ≤ ms.length → Evp (fun k => spec_l3Apart.l0 k (i : Int) cs ms) (fun r => r = true ↔ (∀ j, i ≤ j → j < ms.length → Row cs ms j) ∧ True) := by
    refine Evp.for_ ?_ (fun i hi ih => ?_)
    · exact Evp.step (f := fun k => _) (fun k => by rw [spec_l3Apart.l0]) (Evp.no (by omega) (Evp.pure _ (all_end (iff_yes trivial))))
    · refine Evp.step (f := fun k => _) (fun k => by rw [spec_l3Apart.l0]) (Evp.yes (by omega) ?_)
      have hri := hr i hi
      have k1 : ∀ j, j ≤ ms.length → Evp (fun k => spec_l3Apart.l1 k (i : Int) (j : Int) cs ms) (fun r => r = true ↔ (∀ j', j ≤ j' → j' < ms.length → (i ≠ j' → Pair cs (mth ms i) (mth ms j'))) ∧ (∀ j', i + 1 ≤ j' → j' < ms.length → Row cs ms j')) := by
        refine Evp.for_ ?_ (fun j hj ihj => ?_)
        · refine Evp.step (f := fun k => _) (fun k => by rw [spec_l3Apart.l1]) (Evp.no (by omega) ?_)
          rw [w64' (n := ms.length) hi (by omega)]
          exact ih.mono fun r hr => all_end (hr.trans ⟨fun h => h.1, fun h => ⟨h, trivial⟩⟩)
        · have hrj := hr j hj
          refine Evp.step (f := fun k => _) (fun k => by rw [spec_l3Apart.l1, rdM', rdM', w64' (n := ms.length) hj (by omega)]) (Evp.yes (by omega) (Evp.yes (by omega) (Evp.yes (by omega) (Evp.yes (by omega) ?_))))
          have go : (i ≠ j → Pair cs (mth ms i) (mth ms j)) → Evp (fun k => spec_l3Apart.l1 k (i : Int) ((j + 1 : Nat) : Int) cs ms) (fun r => r = true ↔ (∀ j', j ≤ j' → j' < ms.length → (i ≠ j' → Pair cs (mth ms i) (mth ms j'))) ∧ (∀ j', i + 1 ≤ j' → j' < ms.length → Row cs ms j')) := by
            intro hp
            exact ihj.mono fun r hr => all_step (Q := fun j' => i ≠ j' → Pair cs (mth ms i) (mth ms j')) hp hr
          have stop : i ≠ j → ¬ Pair cs (mth ms i) (mth ms j) → Evp (fun k => some false) (fun r => r = true ↔ (∀ j', j ≤ j' → j' < ms.length → (i ≠ j' → Pair cs (mth ms i) (mth ms j'))) ∧ (∀ j', i + 1 ≤ j' → j' < ms.length → Row cs ms j')) := fun hne hp =>
            Evp.pure _ (all_stop (Q := fun j' => i ≠ j' → Pair cs (mth ms i) (mth ms j')) hj fun h => hp (h hne))
          refine Evp.ite (fun h1 => go fun h => absurd (by omega) h) (fun h1 => Evp.ite (fun h2 => Evp.ite (fun h3 => Evp.ite (fun h4 => ?_) (fun h4 => go fun _ _ _ h5 => absurd h5 h4)) (fun h3 => go fun _ _ h4 => absurd h4 h3)) (fun h2 => go fun _ h3 => absurd h3 h2))
          have hij : i ≠ j := by omega
          have e1 : (((mth ms i).f0.toNat : Nat) : Int) = (mth ms i).f0 := by omega
          have e2 : (((mth ms j).f0.toNat : Nat) : Int) = (mth ms j).f0 := by omega
          have hu := spec_up hok (mth ms j).f0.toNat (mth ms i).f0.toNat (by have := hri.1 h2; omega)
          rw [e1, e2] at hu
          refine Evp.bind hu fun u hu => Evp.ite (fun h6 => Evp.ite (fun h5 => stop hij fun h => (h h2 h3 h4 (hu.1 h6)).1 h5) (fun h5 => ?_)) (fun h6 => go fun _ _ _ _ h7 => absurd (hu.2 h7) h6)
          refine Evp.bind (same_evp (a := mth ms i) (b := mth ms j) hri.2) fun e he => Evp.ite (fun h8 => go fun _ _ _ _ _ => ⟨h5, he.1 h8⟩) (fun h8 => stop hij fun h => h8 (he.2 (h h2 h3 h4 (hu.1 h6)).2))
      refine (k1 0 (Nat.zero_le _)).mono fun r hr => hr.trans ?_
      rw [all_cons (Q := fun j => Row cs ms j) hi]
      exact ⟨fun h => ⟨h, trivial⟩, fun h => h.1⟩
  exact (k0 0 (Nat.zero_le _)).mono fun r hr => hr.trans ⟨fun h => h.1, fun h => ⟨h, trivial⟩⟩
end Go.Proofs.Ytedodaifpekahaa.Kit

end
section

namespace Go.Proofs.Ytedodaifpekahaa.Kit
open Go Go.RowKit Go.Proofs.YtedodaifpekahaaW.PrintWords Go.Proofs.Ytedodaifpekahaa.P
set_option linter.unusedVariables false
set_option linter.unusedSimpArgs false
structure SmallM (m : Mth) : Prop where
  a3 : -9223372036854775808 ≤ m.f3 ∧ m.f3 ≤ 9223372036854775807
  l2 : m.f2.length ≤ 1048576
  i2 : I64 m.f2
  l5 : m.f5.length ≤ 1048576
  l6 : m.f6.length ≤ 1048576
  l7 : m.f7.length ≤ 1048576
  s6 : ∀ j, j < m.f6.length → SmallS (m.f6.getD j z70)
structure SmallU (cs : List Cls) (ms : List Mth) : Prop where
  c : SmallC cs
  m : ms.length ≤ 1048576
  e : ∀ i, i < ms.length → SmallM (mth ms i)
def FirstOk (m : Mth) : Prop := m.f0 = -1 ∧ m.f2.length = 0 ∧ m.f3 = 1
def UnitOk_ (cs : List Cls) (ms : List Mth) : Prop := ClsOk cs ∧ (1 ≤ ms.length ∧ ms.length ≤ 4) ∧ FirstOk (mth ms 0) ∧ (∀ i, 0 ≤ i → i < ms.length → MethOk cs ms (mth ms i)) ∧ Agree cs ms
theorem inR_of {cs : List Cls} {ms : List Mth} (hu : SmallU cs ms) (h : ∀ i, i < ms.length → MethOk cs ms (mth ms i)) : InR cs ms := fun i hi => ⟨fun h0 => by
  rcases (h i hi).1.1 with h1 | h1 <;> omega, (hu.e i hi).l2⟩
theorem impl_unitOk {cs : List Cls} {ms : List Mth} (hu : SmallU cs ms) : Evp (fun k => impl_UnitOk.f k cs ms) (fun r => r = true ↔ UnitOk_ cs ms) := by
  have hs := hu.c
  have hm := hu.m
  have jt0 : ¬ UnitOk_ cs ms → Evp (fun k => impl_UnitOk.j0 k true cs ms) (fun r => r = true ↔ UnitOk_ cs ms) := fun h =>
    Evp.step (f := fun k => _) (fun k => by rw [impl_UnitOk.j0]) (Evp.yes rfl (Evp.pure _ (iff_no h)))
  have jt1 : ¬ UnitOk_ cs ms → Evp (fun k => impl_UnitOk.j1 k true cs ms) (fun r => r = true ↔ UnitOk_ cs ms) := fun h =>
    Evp.step (f := fun k => _) (fun k => by rw [impl_UnitOk.j1]) (Evp.yes rfl (Evp.pure _ (iff_no h)))
  unfold impl_UnitOk.f
  refine Evp.bind (impl_classesOk hs) fun c hc => Evp.ite (fun h => ?_) (fun h => jt0 fun h2 => h (hc.2 h2.1))
  have hok := hc.1 h
  refine Evp.ite (fun h1 => jt0 fun h2 => by have := h2.2.1; omega) (fun h1 => ?_)
  by_cases h2 : (ms.length : Int) > 4
  · rw [decide_eq_true h2]
    exact jt0 fun h3 => by have := h3.2.1; omega
  rw [decide_eq_false h2]
  have e0 : rd_T46 ms 0 = mth ms 0 := rfl
  refine Evp.step (f := fun k => _) (fun k => by rw [impl_UnitOk.j0, e0]) (Evp.no (by decide) (Evp.yes (by omega) (Evp.ite (fun h3 => Evp.ite (fun h4 => ?_) (fun h4 => jt1 fun h5 => h4 (by have := h5.2.2.1.2.1; omega))) (fun h3 => jt1 fun h5 => h3 h5.2.2.1.1))))
  by_cases h5 : (mth ms 0).f3 = 1
  · rw [show ((mth ms 0).f3 != 1) = false by simpa using h5]
    refine Evp.step (f := fun k => _) (fun k => by rw [impl_UnitOk.j1]) (Evp.no (by decide) ?_)
    have k0 : ∀ d i : Nat, i + d = ms.length → (∀ j, j < i → MethOk cs ms (mth ms j)) → Evp (fun k => impl_UnitOk.l0 k ms (ms.length : Int) (i : Int) cs ms) (fun r => r = true ↔ (∀ j, i ≤ j → j < ms.length → MethOk cs ms (mth ms j)) ∧ Agree cs ms) := by
      intro d
      induction d with
      | zero =>
        intro i hi hall
        refine Evp.step (f := fun k => _) (fun k => by rw [impl_UnitOk.l0]) (Evp.no (by omega) ?_)
        refine Evp.bind (impl_agree' hok hm (inR_of hu fun j hj => hall j (by omega))) fun a ha => Evp.pure _ ?_
        exact ha.trans ⟨fun h => ⟨fun j hj hj2 => absurd hj2 (by omega), h⟩, fun h => h.2⟩
      | succ d ih =>
        intro i hi hall
        have hil : i < ms.length := by omega
        have hsm := hu.e i hil
        refine Evp.step (f := fun k => _) (fun k => by rw [impl_UnitOk.l0, rdM']) (Evp.yes (by omega) (Evp.yes (by omega) (Evp.yes (by omega) ?_)))
        refine Evp.bind (impl_head hs ms (mth ms i).f5 (mth ms i).f6 (mth ms i).f7 hsm.a3.1 hsm.a3.2 hsm.l2 hsm.i2) fun a ha => Evp.ite (fun h6 => ?_) (fun h6 => Evp.pure _ (all_stop (Q := fun j => MethOk cs ms (mth ms j)) hil fun h9 => h6 (ha.2 h9.1)))
        refine Evp.bind (impl_code hs hok ms (mth ms i).f5 (mth ms i).f6 (mth ms i).f7 0 hsm.s6 hsm.l5 hsm.l6) fun b hb => Evp.ite (fun h7 => ?_) (fun h7 => Evp.pure _ (all_stop (Q := fun j => MethOk cs ms (mth ms j)) hil fun h9 => h7 (hb.2 h9.2.1)))
        refine Evp.bind (impl_catches hok ms (mth ms i).f5 (mth ms i).f6 (mth ms i).f7) fun e he => Evp.ite (fun h8 => ?_) (fun h8 => Evp.pure _ (all_stop (Q := fun j => MethOk cs ms (mth ms j)) hil fun h9 => h8 (he.2 h9.2.2)))
        have hmi : MethOk cs ms (mth ms i) := ⟨ha.1 h6, hb.1 h7, he.1 h8⟩
        rw [w64' (n := ms.length) hil (by omega)]
        refine (ih (i + 1) (by omega) fun j hj => ?_).mono fun r hr => all_step (Q := fun j => MethOk cs ms (mth ms j)) hmi hr
        rcases Nat.eq_or_lt_of_le (Nat.le_of_lt_succ hj) with rfl | h9
        · exact hmi
        · exact hall j h9
    refine (k0 ms.length 0 (by omega) fun j hj => absurd hj (Nat.not_lt_zero _)).mono fun r hr => hr.trans ?_
    exact ⟨fun h6 => ⟨hok, by omega, ⟨h3, by omega, h5⟩, h6.1, h6.2⟩, fun h6 => ⟨h6.2.2.2.1, h6.2.2.2.2⟩⟩
  · rw [show ((mth ms 0).f3 != 1) = true by simpa using h5]
    exact jt1 fun h6 => h5 h6.2.2.1.2.2
theorem spec_unitOk {cs : List Cls} {ms : List Mth} (hu : SmallU cs ms) : Evp (fun k => spec_UnitOk.f k cs ms) (fun r => r = true ↔ UnitOk_ cs ms) := by
  have hs := hu.c
  have hm := hu.m
  have jt0 : ¬ UnitOk_ cs ms → Evp (fun k => spec_UnitOk.j0 k true cs ms) (fun r => r = true ↔ UnitOk_ cs ms) := fun h =>
    Evp.step (f := fun k => _) (fun k => by rw [spec_UnitOk.j0]) (Evp.yes rfl (Evp.pure _ (iff_no h)))
  have jt1 : ¬ UnitOk_ cs ms → Evp (fun k => spec_UnitOk.j1 k true cs ms) (fun r => r = true ↔ UnitOk_ cs ms) := fun h =>
    Evp.step (f := fun k => _) (fun k => by rw [spec_UnitOk.j1]) (Evp.yes rfl (Evp.pure _ (iff_no h)))
  unfold spec_UnitOk.f
  refine Evp.bind (spec_classesOk hs) fun c hc => Evp.ite (fun h => ?_) (fun h => jt0 fun h2 => h (hc.2 h2.1))
  have hok := hc.1 h
  rw [in_eq]
  simp only [Option.bind_some]
  by_cases h2 : 1 ≤ (ms.length : Int) ∧ (ms.length : Int) ≤ 4
  · rw [decide_eq_true h2]
    have e0 : rd_T46 ms 0 = mth ms 0 := rfl
    refine Evp.step (f := fun k => _) (fun k => by rw [spec_UnitOk.j0, e0]) (Evp.no (by decide) (Evp.yes (by omega) (Evp.ite (fun h3 => Evp.ite (fun h4 => jt1 fun h5 => by have := h5.2.2.1.2.1; omega) (fun h4 => ?_)) (fun h3 => jt1 fun h5 => h3 h5.2.2.1.1))))
    by_cases h5 : (mth ms 0).f3 = 1
    · rw [show ((mth ms 0).f3 != 1) = false by simpa using h5]
      refine Evp.step (f := fun k => _) (fun k => by rw [spec_UnitOk.j1]) (Evp.no (by decide) ?_)
      have k0 : ∀ d i : Nat, i + d = ms.length → (∀ j, j < i → MethOk cs ms (mth ms j)) → Evp (fun k => spec_UnitOk.l0 k (i : Int) cs ms) (fun r => r = true ↔ (∀ j, i ≤ j → j < ms.length → MethOk cs ms (mth ms j)) ∧ Agree cs ms) := by
        intro d
        induction d with
        | zero =>
          intro i hi hall
          refine Evp.step (f := fun k => _) (fun k => by rw [spec_UnitOk.l0]) (Evp.no (by omega) ?_)
          refine Evp.bind (spec_apart hok hm (inR_of hu fun j hj => hall j (by omega))) fun a ha => Evp.pure _ ?_
          exact ha.trans ⟨fun h => ⟨fun j hj hj2 => absurd hj2 (by omega), h⟩, fun h => h.2⟩
        | succ d ih =>
          intro i hi hall
          have hil : i < ms.length := by omega
          have hsm := hu.e i hil
          refine Evp.step (f := fun k => _) (fun k => by rw [spec_UnitOk.l0, rdM']) (Evp.yes (by omega) (Evp.yes (by omega) ?_))
          refine Evp.bind (spec_method hs hok ms hm (mth ms i) hsm.l2 hsm.l5 hsm.l6 hsm.l7 hsm.s6) fun a ha => Evp.ite (fun h6 => ?_) (fun h6 => Evp.pure _ (all_stop (Q := fun j => MethOk cs ms (mth ms j)) hil fun h9 => h6 (ha.2 h9)))
          rw [w64' (n := ms.length) hil (by omega)]
          refine (ih (i + 1) (by omega) fun j hj => ?_).mono fun r hr => all_step (Q := fun j => MethOk cs ms (mth ms j)) (ha.1 h6) hr
          rcases Nat.eq_or_lt_of_le (Nat.le_of_lt_succ hj) with rfl | h9
          · exact ha.1 h6
          · exact hall j h9
      refine (k0 ms.length 0 (by omega) fun j hj => absurd hj (Nat.not_lt_zero _)).mono fun r hr => hr.trans ?_
      exact ⟨fun h6 => ⟨hok, by omega, ⟨h3, by omega, h5⟩, h6.1, h6.2⟩, fun h6 => ⟨h6.2.2.2.1, h6.2.2.2.2⟩⟩
    · rw [show ((mth ms 0).f3 != 1) = true by simpa using h5]
      exact jt1 fun h6 => h5 h6.2.2.1.2.2
  · rw [decide_eq_false h2]
    exact jt0 fun h3 => h2 (by have := h3.2.1; omega)
end Go.Proofs.Ytedodaifpekahaa.Kit

end
section

namespace Go.Proofs.Ytedodaifpekahaa.Kit
open Go Go.RowKit Go.Proofs.YtedodaifpekahaaW.PrintWords Go.Proofs.Ytedodaifpekahaa.P
set_option linter.unusedVariables false
abbrev LCls := S58
def cvC (c : LCls) : Cls := ⟨c.f0, c.f1⟩
theorem rdL {xs : List LCls} {i : Nat} (h : i < xs.length) : rd_T58 xs (i : Int) = xs[i] := getD_at h _
theorem wf64 {n : Int} (h : (Lit.int .i64 n).wf = true) : -9223372036854775808 ≤ n ∧ n ≤ 9223372036854775807 := by
  simp [Lit.wf, IntKind.min, IntKind.max, IntKind.bits, IntKind.signed] at h
  omega
theorem sz_ints {l : List Int} {a : Int} (h0 : 0 ≤ a) (h1 : a ≤ 1048576) (hl : l.length ≤ 9223372036854775807) : ∃ t, laws_szIntS.f l a = some t ∧ (0 ≤ t → (l.length : Int) + t = a) := by
  unfold laws_szIntS.f
  rw [w64 (by omega) (by omega)]
  by_cases h : a - (l.length : Int) < 0
  · rw [if_pos h]; exact ⟨_, rfl, by omega⟩
  · rw [if_neg h]; exact ⟨_, rfl, by omega⟩
theorem sz_cls {l : List LCls} (hl : l.length ≤ 9223372036854775807) (hw : ∀ y ∈ l, wfS58 y) :
    Evp (fun k => laws_szClassS.f k l 1048576) (fun t => 0 ≤ t → t ≤ 1048576 ∧ SmallC (l.map cvC)) := by
  unfold laws_szClassS.f
  rw [w64 (by omega) (by omega)]
  refine Evp.ite (fun _ => Evp.pure _ (by omega)) (fun h => ?_)
  have key : ∀ i, i ≤ l.length → ∀ s : Int, (0 ≤ s ∧ s ≤ 1048576) → Evp (fun k => laws_szClassS.l0 k l s (i : Int)) (fun t => 0 ≤ t → t ≤ s ∧ ∀ o ∈ l.drop i, o.f1.length ≤ 1048576) := by
    refine Evp.fors (g := fun i s k => laws_szClassS.l0 k l s (i : Int)) (I := fun _ s => 0 ≤ s ∧ s ≤ 1048576) (R := fun i s t => 0 ≤ t → t ≤ s ∧ ∀ o ∈ l.drop i, o.f1.length ≤ 1048576) (fun s hs => ?_) (fun i hil ih s hs => ?_)
    · refine Evp.step (f := fun k => _) (fun k => by rw [laws_szClassS.l0]) (Evp.no (by omega) (Evp.pure _ (fun _ => ⟨by omega, by simp⟩)))
    · have hil2 := (hw _ (List.getElem_mem hil)).2.1
      obtain ⟨t, ht, ht2⟩ := sz_ints (l := l[i].f1) hs.1 hs.2 hil2
      refine Evp.step (f := fun k => _) (fun k => by rw [laws_szClassS.l0, rdL hil, laws_szClass.f, ht, Option.bind_some]) (Evp.yes (by omega) (Evp.yes (by omega) ?_))
      by_cases h3 : t < 0
      · simp only [if_pos h3, Option.bind_some]
        exact Evp.pure _ (by omega)
      · simp only [if_neg h3, Option.bind_some]
        rw [w64' hil (by omega)]
        refine (ih t (by omega)).mono fun r hr h0 => ?_
        obtain ⟨h4, h5⟩ := hr h0
        refine ⟨by omega, ?_⟩
        rw [drop_at hil]
        intro o ho
        rcases List.mem_cons.1 ho with rfl | ho
        · omega
        · exact h5 o ho
  refine (key 0 (Nat.zero_le _) _ (by omega)).mono fun t ht h0 => ?_
  obtain ⟨h2, h3⟩ := ht h0
  refine ⟨by omega, by rw [List.length_map]; omega, fun i hi => ?_⟩
  rw [List.length_map] at hi
  have e : flds (l.map cvC) i = l[i].f1 := by unfold flds; rw [getD_at (by simpa using hi)]; simp [cvC]
  rw [e]
  exact ⟨h3 _ (by simp), fun t ht => wf64 ((hw _ (List.getElem_mem hi)).2.2 t ht)⟩
theorem set_fill {α β : Type} (l : List α) (f : α → β) (z : β) {i : Nat} (hi : i < l.length) : ((l.take i).map f ++ List.replicate (l.length - i) z).set i (f l[i]) = (l.take (i + 1)).map f ++ List.replicate (l.length - (i + 1)) z := by
  rw [List.take_succ_eq_append_getElem hi, List.map_append, List.append_assoc]
  rw [List.set_append_right _ _ (by simp; omega)]
  congr 1
  rw [show l.length - i = (l.length - (i + 1)) + 1 by omega, List.replicate_succ]
  simp [Nat.min_eq_left (Nat.le_of_lt hi)]
theorem to_ints {l : List Int} (hl : l.length ≤ 1048576) : Evp (fun k => laws_toIntS.f k l) (fun r => r = l) := by
  unfold laws_toIntS.f
  refine Evp.yes (by omega) (Evp.yes (by omega) ?_)
  have key : ∀ i, i ≤ l.length → ∀ s : List Int, s = (l.take i).map id ++ List.replicate (l.length - i) 0 → Evp (fun k => laws_toIntS.l0 k l s (i : Int)) (fun r => r = l) := by
    refine Evp.fors (g := fun i s k => laws_toIntS.l0 k l s (i : Int)) (I := fun i s => s = (l.take i).map id ++ List.replicate (l.length - i) 0) (R := fun _ _ r => r = l) (fun s hs => ?_) (fun i hi ih s hs => ?_)
    · subst hs
      refine Evp.step (f := fun k => _) (fun k => by rw [laws_toIntS.l0]) (Evp.no (by omega) (Evp.pure _ (by simp)))
    · have hsl : s.length = l.length := by rw [hs]; simp; omega
      refine Evp.step (f := fun k => _) (fun k => by rw [laws_toIntS.l0, rdInt hi]) (Evp.yes (by omega) (Evp.yes (by omega) (Evp.yes (by omega) ?_)))
      rw [w64' hi (by omega)]
      refine ih _ ?_
      rw [hs]
      exact set_fill l id 0 hi
  exact key 0 (Nat.zero_le _) _ (by simp)
theorem to_cls {l : List LCls} (hl : SmallC (l.map cvC)) : Evp (fun k => laws_toClassS.f k l) (fun r => r = l.map cvC) := by
  have hl1 := hl.1
  rw [List.length_map] at hl1
  unfold laws_toClassS.f
  refine Evp.yes (by omega) (Evp.yes (by omega) ?_)
  have key : ∀ i, i ≤ l.length → ∀ s : List Cls, s = (l.take i).map cvC ++ List.replicate (l.length - i) z76 → Evp (fun k => laws_toClassS.l0 k l s (i : Int)) (fun r => r = l.map cvC) := by
    refine Evp.fors (g := fun i s k => laws_toClassS.l0 k l s (i : Int)) (I := fun i s => s = (l.take i).map cvC ++ List.replicate (l.length - i) z76) (R := fun _ _ r => r = l.map cvC) (fun s hs => ?_) (fun i hi ih s hs => ?_)
    · subst hs
      refine Evp.step (f := fun k => _) (fun k => by rw [laws_toClassS.l0]) (Evp.no (by omega) (Evp.pure _ (by simp)))
    · have hsl : s.length = l.length := by rw [hs]; simp; omega
      refine Evp.step (f := fun k => _) (fun k => by rw [laws_toClassS.l0, rdL hi]) (Evp.yes (by omega) (Evp.yes (by omega) ?_))
      refine Evp.bind (P := fun r => r = (l[i].f0, l[i].f1)) ?_ (fun a ha => ?_)
      · unfold laws_toClass.f
        have e : flds (l.map cvC) i = l[i].f1 := by unfold flds; rw [getD_at (by simpa using hi)]; simp [cvC]
        have := (hl.2 i (by simpa using hi)).1
        rw [e] at this
        exact Evp.bind (to_ints this) (fun a ha => Evp.pure _ (by rw [ha]))
      · subst ha
        refine Evp.yes (by omega) ?_
        rw [w64' hi (by omega)]
        refine ih _ ?_
        rw [hs]
        exact set_fill l cvC z76 hi
  exact key 0 (Nat.zero_le _) _ (by simp)
theorem eq_ints {l : List Int} (hl : l.length ≤ 1048576) : Evp (fun k => laws_eqIntS.f k l l) (fun r => r = true) := by
  unfold laws_eqIntS.f
  refine Evp.yes rfl ?_
  refine Evp.for_ (n := l.length) (g := fun i k => laws_eqIntS.l0 k l l (i : Int)) (R := fun _ r => r = true) ?_ (fun i hi ih => ?_) 0 (Nat.zero_le _)
  · refine Evp.step (f := fun k => _) (fun k => by rw [laws_eqIntS.l0]) (Evp.no (by omega) (Evp.pure _ rfl))
  · refine Evp.step (f := fun k => _) (fun k => by rw [laws_eqIntS.l0]) (Evp.yes (by omega) (Evp.yes (by omega) (Evp.yes (by omega) (Evp.yes rfl ?_))))
    rw [w64' hi (by omega)]
    exact ih
theorem eq_cls {l : List Cls} (hl : SmallC l) : Evp (fun k => laws_eqClassS.f k l l) (fun r => r = true) := by
  have hl1 := hl.1
  unfold laws_eqClassS.f
  refine Evp.yes rfl ?_
  refine Evp.for_ (n := l.length) (g := fun i k => laws_eqClassS.l0 k l l (i : Int)) (R := fun _ r => r = true) ?_ (fun i h ih => ?_) 0 (Nat.zero_le _)
  · refine Evp.step (f := fun k => _) (fun k => by rw [laws_eqClassS.l0]) (Evp.no (by omega) (Evp.pure _ rfl))
  · refine Evp.step (f := fun k => _) (fun k => by rw [laws_eqClassS.l0]) (Evp.yes (by omega) (Evp.yes (by omega) (Evp.yes (by omega) ?_)))
    refine Evp.bind (P := fun r => r = true) ?_ (fun a ha => ?_)
    · unfold laws_eqClass.f
      rw [rdFlds]
      exact Evp.yes rfl (Evp.bind (eq_ints (hl.2 i h).1) (fun a ha => Evp.yes ha (Evp.pure _ rfl)))
    · refine Evp.yes ha ?_
      rw [w64' h (by omega)]
      exact ih
theorem sz_shape {x0 : Bool} {l1 l2 : List Int} {a : Int} (h0 : 0 ≤ a) (h1 : a ≤ 1048576) (hl1 : l1.length ≤ 9223372036854775807) (hl2 : l2.length ≤ 9223372036854775807) :
    ∃ t, laws_szShape.f x0 l1 l2 a = some t ∧ (0 ≤ t → t ≤ a ∧ l1.length ≤ 1048576 ∧ l2.length ≤ 1048576) := by
  unfold laws_szShape.f
  obtain ⟨t, ht, ht2⟩ := sz_ints (l := l1) h0 h1 hl1
  rw [ht, Option.bind_some]
  by_cases h : t < 0
  · rw [if_pos h]; exact ⟨_, rfl, by omega⟩
  · rw [if_neg h]
    obtain ⟨q, hq, hq2⟩ := sz_ints (l := l2) (a := t) (by omega) (by omega) hl2
    rw [hq, Option.bind_some]
    by_cases h' : q < 0
    · rw [if_pos h']; exact ⟨_, rfl, by omega⟩
    · rw [if_neg h']; exact ⟨_, rfl, by omega⟩
theorem to_shape {x0 : Bool} {l1 l2 : List Int} (hl1 : l1.length ≤ 1048576) (hl2 : l2.length ≤ 1048576) : Evp (fun k => laws_toShape.f k x0 l1 l2) (fun r => r = (x0, l1, l2)) := by
  unfold laws_toShape.f
  exact Evp.bind (to_ints hl1) fun a ha => Evp.bind (to_ints hl2) fun b hb => Evp.pure _ (by rw [ha, hb])
theorem eq_shape {x0 : Bool} {l1 l2 : List Int} (hl1 : l1.length ≤ 1048576) (hl2 : l2.length ≤ 1048576) : Evp (fun k => laws_eqShape.f k x0 l1 l2 x0 l1 l2) (fun r => r = true) := by
  unfold laws_eqShape.f
  exact Evp.no (by simp) (Evp.bind (eq_ints hl1) fun a ha => Evp.yes ha (Evp.bind (eq_ints hl2) fun b hb => Evp.yes hb (Evp.pure _ rfl)))
end Go.Proofs.Ytedodaifpekahaa.Kit

end
section

namespace Go.Proofs.Ytedodaifpekahaa.Kit
open Go Go.RowKit Go.Proofs.YtedodaifpekahaaW.PrintWords Go.Proofs.Ytedodaifpekahaa.P
set_option linter.unusedVariables false
set_option linter.unusedSimpArgs false
abbrev LMth := S64
abbrev LIns := S113
abbrev LShp := S111
abbrev LCth := S116
def cvX (x : LIns) : Ins := ⟨x.f0, x.f1, x.f2⟩
def cvS (x : LShp) : Shp_ := ⟨x.f0, x.f1, x.f2⟩
def cvK (x : LCth) : Cth := ⟨x.f0, x.f1, x.f2, x.f3⟩
def cvM (x : LMth) : Mth := ⟨x.f0, x.f1, x.f2, x.f3, x.f4, x.f5.map cvX, x.f6.map cvS, x.f7.map cvK⟩
theorem rdLX {xs : List LIns} {i : Nat} (h : i < xs.length) : rd_T113 xs (i : Int) = xs[i] := getD_at h _
theorem rdLS {xs : List LShp} {i : Nat} (h : i < xs.length) : rd_T111 xs (i : Int) = xs[i] := getD_at h _
theorem rdLK {xs : List LCth} {i : Nat} (h : i < xs.length) : rd_T116 xs (i : Int) = xs[i] := getD_at h _
theorem rdLM {xs : List LMth} {i : Nat} (h : i < xs.length) : rd_T64 xs (i : Int) = xs[i] := getD_at h _
theorem fill_evp {α β : Type} (l : List α) (f : α → β) (z : β) {g : Nat → List β → Nat → Option (List β)} (hend : ∀ s : List β, s.length = l.length → Evp (g l.length s) (fun r => r = s))
    (hstep : ∀ (i : Nat) (hi : i < l.length) (s : List β), s.length = l.length → Evp (g (i + 1) (s.set i (f l[i]))) (fun r => r = l.map f) → Evp (g i s) (fun r => r = l.map f)) : Evp (g 0 (List.replicate l.length z)) (fun r => r = l.map f) := by
  have key : ∀ i, i ≤ l.length → ∀ s : List β, s = (l.take i).map f ++ List.replicate (l.length - i) z → Evp (g i s) (fun r => r = l.map f) := by
    refine Evp.fors (g := g) (I := fun i s => s = (l.take i).map f ++ List.replicate (l.length - i) z) (R := fun _ _ r => r = l.map f) (fun s hs => ?_) (fun i hi ih s hs => ?_)
    · have hs2 : s = l.map f := by rw [hs]; simp
      exact (hend s (by rw [hs2]; simp)).mono fun r hr => by rw [hr, hs2]
    · have hsl : s.length = l.length := by rw [hs]; simp; omega
      refine hstep i hi s hsl (ih _ ?_)
      rw [hs]
      exact set_fill l f z hi
  exact key 0 (Nat.zero_le _) _ (by simp)
theorem to_ins {l : List LIns} (hl : l.length ≤ 1048576) : Evp (fun k => laws_toInsS.f k l) (fun r => r = l.map cvX) := by
  unfold laws_toInsS.f
  refine Evp.yes (by omega) (Evp.yes (by omega) ?_)
  rw [Int.toNat_natCast]
  refine fill_evp l cvX z67 (g := fun i s k => laws_toInsS.l0 k l s (i : Int)) (fun s hs => ?_) (fun i hi s hs ih => ?_)
  · exact Evp.step (f := fun k => _) (fun k => by rw [laws_toInsS.l0]) (Evp.no (by omega) (Evp.pure _ rfl))
  · refine Evp.step (f := fun k => _) (fun k => by rw [laws_toInsS.l0, rdLX hi, laws_toIns.f, Option.bind_some]) (Evp.yes (by omega) (Evp.yes (by omega) (Evp.yes (by omega) ?_)))
    rw [w64' hi (by omega)]
    exact ih
theorem to_catches {l : List LCth} (hl : l.length ≤ 1048576) : Evp (fun k => laws_toCatchS.f k l) (fun r => r = l.map cvK) := by
  unfold laws_toCatchS.f
  refine Evp.yes (by omega) (Evp.yes (by omega) ?_)
  rw [Int.toNat_natCast]
  refine fill_evp l cvK z73 (g := fun i s k => laws_toCatchS.l0 k l s (i : Int)) (fun s hs => ?_) (fun i hi s hs ih => ?_)
  · exact Evp.step (f := fun k => _) (fun k => by rw [laws_toCatchS.l0]) (Evp.no (by omega) (Evp.pure _ rfl))
  · refine Evp.step (f := fun k => _) (fun k => by rw [laws_toCatchS.l0, rdLK hi, laws_toCatch.f, Option.bind_some]) (Evp.yes (by omega) (Evp.yes (by omega) (Evp.yes (by omega) ?_)))
    rw [w64' hi (by omega)]
    exact ih
def SzS (s : LShp) : Prop := s.f1.length ≤ 1048576 ∧ s.f2.length ≤ 1048576
def SzM (m : LMth) : Prop := m.f2.length ≤ 1048576 ∧ m.f5.length ≤ 1048576 ∧ m.f6.length ≤ 1048576 ∧ m.f7.length ≤ 1048576 ∧ ∀ s ∈ m.f6, SzS s
theorem to_shapes {l : List LShp} (hl : l.length ≤ 1048576) (hs : ∀ s ∈ l, SzS s) : Evp (fun k => laws_toShapeS.f k l) (fun r => r = l.map cvS) := by
  unfold laws_toShapeS.f
  refine Evp.yes (by omega) (Evp.yes (by omega) ?_)
  rw [Int.toNat_natCast]
  refine fill_evp l cvS z70 (g := fun i s k => laws_toShapeS.l0 k l s (i : Int)) (fun s hs => ?_) (fun i hi s hs' ih => ?_)
  · exact Evp.step (f := fun k => _) (fun k => by rw [laws_toShapeS.l0]) (Evp.no (by omega) (Evp.pure _ rfl))
  · have hsz := hs _ (List.getElem_mem hi)
    refine Evp.step (f := fun k => _) (fun k => by rw [laws_toShapeS.l0, rdLS hi]) (Evp.yes (by omega) (Evp.yes (by omega) (Evp.bind (to_shape hsz.1 hsz.2) fun b hb => Evp.yes (by omega) ?_)))
    subst hb
    rw [w64' hi (by omega)]
    exact ih
theorem to_method {m : LMth} (h : SzM m) : Evp (fun k => laws_toMethod.f k m.f0 m.f1 m.f2 m.f3 m.f4 m.f5 m.f6 m.f7) (fun r => r = (m.f0, m.f1, m.f2, m.f3, m.f4, m.f5.map cvX, m.f6.map cvS, m.f7.map cvK)) := by
  unfold laws_toMethod.f
  refine Evp.bind (to_ints h.1) fun a ha => Evp.bind (to_ins h.2.1) fun b hb => Evp.bind (to_shapes h.2.2.1 h.2.2.2.2) fun c hc => Evp.bind (to_catches h.2.2.2.1) fun d hd => Evp.pure _ (by rw [ha, hb, hc, hd])
theorem to_methods {l : List LMth} (hl : l.length ≤ 1048576) (hm : ∀ m ∈ l, SzM m) : Evp (fun k => laws_toMethodS.f k l) (fun r => r = l.map cvM) := by
  unfold laws_toMethodS.f
  refine Evp.yes (by omega) (Evp.yes (by omega) ?_)
  rw [Int.toNat_natCast]
  refine fill_evp l cvM z46 (g := fun i s k => laws_toMethodS.l0 k l s (i : Int)) (fun s hs => ?_) (fun i hi s hs' ih => ?_)
  · exact Evp.step (f := fun k => _) (fun k => by rw [laws_toMethodS.l0]) (Evp.no (by omega) (Evp.pure _ rfl))
  · refine Evp.step (f := fun k => _) (fun k => by rw [laws_toMethodS.l0, rdLM hi]) (Evp.yes (by omega) (Evp.yes (by omega) (Evp.bind (to_method (hm _ (List.getElem_mem hi))) fun b hb => Evp.yes (by omega) ?_)))
    subst hb
    rw [w64' hi (by omega)]
    exact ih
theorem eq_all {n : Nat} {g : Nat → Nat → Option Bool} (hend : Evp (g n) (fun r => r = true)) (hstep : ∀ i, i < n → Evp (g (i + 1)) (fun r => r = true) → Evp (g i) (fun r => r = true)) : Evp (g 0) (fun r => r = true) :=
  Evp.for_ (g := g) (R := fun _ r => r = true) hend hstep 0 (Nat.zero_le _)
theorem eq_ins {l : List Ins} (hl : l.length ≤ 1048576) : Evp (fun k => laws_eqInsS.f k l l) (fun r => r = true) := by
  unfold laws_eqInsS.f
  refine Evp.yes rfl (eq_all (n := l.length) (g := fun i k => laws_eqInsS.l0 k l l (i : Int)) ?_ (fun i hi ih => ?_))
  · exact Evp.step (f := fun k => _) (fun k => by rw [laws_eqInsS.l0]) (Evp.no (by omega) (Evp.pure _ rfl))
  · refine Evp.step (f := fun k => _) (fun k => by rw [laws_eqInsS.l0]) (Evp.yes (by omega) (Evp.yes (by omega) (Evp.yes (by omega) ?_)))
    refine Evp.bind (P := fun r => r = true) ?_ (fun a ha => Evp.yes ha ?_)
    · unfold laws_eqIns.f
      exact Evp.yes rfl (Evp.yes rfl (Evp.yes rfl (Evp.pure _ rfl)))
    · rw [w64' hi (by omega)]
      exact ih
theorem eq_catches {l : List Cth} (hl : l.length ≤ 1048576) : Evp (fun k => laws_eqCatchS.f k l l) (fun r => r = true) := by
  unfold laws_eqCatchS.f
  refine Evp.yes rfl (eq_all (n := l.length) (g := fun i k => laws_eqCatchS.l0 k l l (i : Int)) ?_ (fun i hi ih => ?_))
  · exact Evp.step (f := fun k => _) (fun k => by rw [laws_eqCatchS.l0]) (Evp.no (by omega) (Evp.pure _ rfl))
  · refine Evp.step (f := fun k => _) (fun k => by rw [laws_eqCatchS.l0]) (Evp.yes (by omega) (Evp.yes (by omega) (Evp.yes (by omega) ?_)))
    refine Evp.bind (P := fun r => r = true) ?_ (fun a ha => Evp.yes ha ?_)
    · unfold laws_eqCatch.f
      exact Evp.yes rfl (Evp.yes rfl (Evp.yes rfl (Evp.yes rfl (Evp.pure _ rfl))))
    · rw [w64' hi (by omega)]
      exact ih
theorem eq_shapes {l : List Shp_} (hl : l.length ≤ 1048576) (hs : ∀ j, j < l.length → SmallS (l.getD j z70)) : Evp (fun k => laws_eqShapeS.f k l l) (fun r => r = true) := by
  unfold laws_eqShapeS.f
  refine Evp.yes rfl (eq_all (n := l.length) (g := fun i k => laws_eqShapeS.l0 k l l (i : Int)) ?_ (fun i hi ih => ?_))
  · exact Evp.step (f := fun k => _) (fun k => by rw [laws_eqShapeS.l0]) (Evp.no (by omega) (Evp.pure _ rfl))
  · have h := hs i hi
    refine Evp.step (f := fun k => _) (fun k => by rw [laws_eqShapeS.l0, rdS]) (Evp.yes (by omega) (Evp.yes (by omega) (Evp.yes (by omega) (Evp.bind (eq_shape h.l1 h.l2) fun b hb => Evp.yes hb ?_))))
    rw [w64' hi (by omega)]
    exact ih
theorem eq_method {m : Mth} (h : SmallM m) : Evp (fun k => laws_eqMethod.f k m.f0 m.f1 m.f2 m.f3 m.f4 m.f5 m.f6 m.f7 m.f0 m.f1 m.f2 m.f3 m.f4 m.f5 m.f6 m.f7) (fun r => r = true) := by
  unfold laws_eqMethod.f
  refine Evp.yes rfl (Evp.yes rfl (Evp.bind (eq_ints h.l2) fun a ha => Evp.yes ha (Evp.yes rfl (Evp.yes rfl (Evp.bind (eq_ins h.l5) fun b hb => Evp.yes hb (Evp.bind (eq_shapes h.l6 h.s6) fun c hc => Evp.yes hc (Evp.bind (eq_catches h.l7) fun d hd => Evp.yes hd (Evp.pure _ rfl))))))))
theorem eq_methods {l : List Mth} (hl : l.length ≤ 1048576) (hs : ∀ j, j < l.length → SmallM (mth l j)) : Evp (fun k => laws_eqMethodS.f k l l) (fun r => r = true) := by
  unfold laws_eqMethodS.f
  refine Evp.yes rfl (eq_all (n := l.length) (g := fun i k => laws_eqMethodS.l0 k l l (i : Int)) ?_ (fun i hi ih => ?_))
  · exact Evp.step (f := fun k => _) (fun k => by rw [laws_eqMethodS.l0]) (Evp.no (by omega) (Evp.pure _ rfl))
  · refine Evp.step (f := fun k => _) (fun k => by rw [laws_eqMethodS.l0, rdM']) (Evp.yes (by omega) (Evp.yes (by omega) (Evp.yes (by omega) (Evp.bind (eq_method (hs i hi)) fun b hb => Evp.yes hb ?_))))
    rw [w64' hi (by omega)]
    exact ih
theorem eq_unit {cs : List Cls} {ms : List Mth} (h : SmallU cs ms) : Evp (fun k => laws_eqUnit.f k cs ms cs ms) (fun r => r = true) := by
  unfold laws_eqUnit.f
  exact Evp.bind (eq_cls h.c) fun a ha => Evp.yes ha (Evp.bind (eq_methods h.m h.e) fun b hb => Evp.yes hb (Evp.pure _ rfl))
theorem sz_loop {α : Type} {l : List α} {Q : α → Prop} {g : Nat → Int → Nat → Option Int} (hend : ∀ s, 0 ≤ s → Evp (g l.length s) (fun t => t = s))
    (hstep : ∀ (i : Nat) (hi : i < l.length) (s : Int), 0 ≤ s → s ≤ 1048576 → (∀ t, 0 ≤ t → t ≤ s → Q l[i] → Evp (g (i + 1) t) (fun r => 0 ≤ r → r ≤ t ∧ ∀ o ∈ l.drop (i + 1), Q o)) → Evp (g i s) (fun r => 0 ≤ r → r ≤ s ∧ ∀ o ∈ l.drop i, Q o)) :
    ∀ s, 0 ≤ s → s ≤ 1048576 → Evp (g 0 s) (fun r => 0 ≤ r → r ≤ s ∧ ∀ o ∈ l, Q o) := by
  have key : ∀ i, i ≤ l.length → ∀ s : Int, (0 ≤ s ∧ s ≤ 1048576) → Evp (g i s) (fun r => 0 ≤ r → r ≤ s ∧ ∀ o ∈ l.drop i, Q o) := by
    refine Evp.fors (g := g) (I := fun _ s => 0 ≤ s ∧ s ≤ 1048576) (R := fun i s r => 0 ≤ r → r ≤ s ∧ ∀ o ∈ l.drop i, Q o) (fun s hs => ?_) (fun i hi ih s hs => ?_)
    · exact (hend s hs.1).mono fun r hr h0 => ⟨by omega, by simp⟩
    · exact hstep i hi s hs.1 hs.2 fun t h0 h1 _ => ih t ⟨h0, by omega⟩
  intro s h0 h1
  exact key 0 (Nat.zero_le _) s ⟨h0, h1⟩
theorem drop_cons {α : Type} {l : List α} {Q : α → Prop} {i : Nat} (hi : i < l.length) (h : Q l[i]) (h2 : ∀ o ∈ l.drop (i + 1), Q o) : ∀ o ∈ l.drop i, Q o := by
  rw [drop_at hi]
  intro o ho
  rcases List.mem_cons.1 ho with rfl | ho
  · exact h
  · exact h2 o ho
theorem sz_shapes {l : List LShp} {a : Int} (h0 : 0 ≤ a) (h1 : a ≤ 1048576) (hl : l.length ≤ 9223372036854775807) (hw : ∀ y ∈ l, wfS111 y) :
    Evp (fun k => laws_szShapeS.f k l a) (fun t => 0 ≤ t → t ≤ a ∧ l.length ≤ 1048576 ∧ ∀ s ∈ l, SzS s) := by
  unfold laws_szShapeS.f
  rw [w64 (by omega) (by omega)]
  refine Evp.ite (fun _ => Evp.pure _ (by omega)) (fun h => ?_)
  refine (sz_loop (l := l) (Q := SzS) (g := fun i s k => laws_szShapeS.l0 k l s (i : Int)) (fun s hs => ?_) (fun i hi s hs0 hs1 ih => ?_) _ (by omega) (by omega)).mono fun t ht h2 => ⟨by have := (ht h2).1; omega, by omega, (ht h2).2⟩
  · exact Evp.step (f := fun k => _) (fun k => by rw [laws_szShapeS.l0]) (Evp.no (by omega) (Evp.pure _ rfl))
  · have hwi := hw _ (List.getElem_mem hi)
    obtain ⟨t, ht, ht2⟩ := sz_shape (x0 := l[i].f0) hs0 hs1 hwi.2.1.1 hwi.2.2.1
    refine Evp.step (f := fun k => _) (fun k => by rw [laws_szShapeS.l0, rdLS hi, ht, Option.bind_some]) (Evp.yes (by omega) (Evp.yes (by omega) (Evp.ite (fun _ => Evp.pure _ (by omega)) (fun h3 => ?_))))
    obtain ⟨h4, h5, h6⟩ := ht2 (by omega)
    rw [w64' hi (by omega)]
    exact (ih t (by omega) h4 ⟨h5, h6⟩).mono fun r hr hr0 => ⟨by have := (hr hr0).1; omega, drop_cons hi ⟨h5, h6⟩ (hr hr0).2⟩
theorem sz_method {m : LMth} {a : Int} (h0 : 0 ≤ a) (h1 : a ≤ 1048576) (hw : wfS64 m) : Evp (fun k => laws_szMethod.f k m.f0 m.f1 m.f2 m.f3 m.f4 m.f5 m.f6 m.f7 a) (fun t => 0 ≤ t → t ≤ a ∧ SzM m) := by
  obtain ⟨_, _, ⟨w2, _⟩, _, _, ⟨w5, _⟩, ⟨w6, w6'⟩, ⟨w7, _⟩⟩ := hw
  unfold laws_szMethod.f
  obtain ⟨t, ht, ht2⟩ := sz_ints (l := m.f2) h0 h1 w2
  rw [ht]
  simp only [Option.bind_some]
  refine Evp.ite (fun _ => Evp.pure _ (by omega)) (fun h => ?_)
  have ht3 := ht2 (by omega)
  unfold laws_szInsS.f
  rw [w64 (by omega) (by omega)]
  by_cases h2 : t - (m.f5.length : Int) < 0
  · simp only [if_pos h2, Option.bind_some]
    exact Evp.yes (by decide) (Evp.pure _ (by omega))
  simp only [if_neg h2, Option.bind_some]
  refine Evp.bind (sz_shapes (by omega) (by omega) w6 w6') fun u hu => Evp.ite (fun _ => Evp.pure _ (by omega)) (fun h3 => ?_)
  have hu2 := hu (by omega)
  unfold laws_szCatchS.f
  rw [w64 (by omega) (by omega)]
  by_cases h4 : u - (m.f7.length : Int) < 0
  · simp only [if_pos h4, Option.bind_some]
    exact Evp.yes (by decide) (Evp.pure _ (by omega))
  simp only [if_neg h4, Option.bind_some]
  exact Evp.pure _ fun _ => ⟨by omega, by omega, by omega, hu2.2.1, by omega, hu2.2.2⟩
theorem sz_methods {l : List LMth} {a : Int} (h0 : 0 ≤ a) (h1 : a ≤ 1048576) (hl : l.length ≤ 9223372036854775807) (hw : ∀ y ∈ l, wfS64 y) :
    Evp (fun k => laws_szMethodS.f k l a) (fun t => 0 ≤ t → t ≤ a ∧ l.length ≤ 1048576 ∧ ∀ m ∈ l, SzM m) := by
  unfold laws_szMethodS.f
  rw [w64 (by omega) (by omega)]
  refine Evp.ite (fun _ => Evp.pure _ (by omega)) (fun h => ?_)
  refine (sz_loop (l := l) (Q := SzM) (g := fun i s k => laws_szMethodS.l0 k l s (i : Int)) (fun s hs => ?_) (fun i hi s hs0 hs1 ih => ?_) _ (by omega) (by omega)).mono fun t ht h2 => ⟨by have := (ht h2).1; omega, by omega, (ht h2).2⟩
  · exact Evp.step (f := fun k => _) (fun k => by rw [laws_szMethodS.l0]) (Evp.no (by omega) (Evp.pure _ rfl))
  · refine Evp.step (f := fun k => _) (fun k => by rw [laws_szMethodS.l0, rdLM hi]) (Evp.yes (by omega) (Evp.yes (by omega) (Evp.bind (sz_method hs0 hs1 (hw _ (List.getElem_mem hi))) fun t ht => Evp.ite (fun _ => Evp.pure _ (by omega)) (fun h3 => ?_))))
    obtain ⟨h4, h5⟩ := ht (by omega)
    rw [w64' hi (by omega)]
    exact (ih t (by omega) h4 h5).mono fun r hr hr0 => ⟨by have := (hr hr0).1; omega, drop_cons hi h5 (hr hr0).2⟩
def cvU (x : S25) : List Cls × List Mth := (x.f0.map cvC, x.f1.map cvM)
theorem smallM_of {m : LMth} (h : SzM m) (hw : wfS64 m) : SmallM (cvM m) := by
  obtain ⟨_, _, ⟨w2, w2'⟩, w3, _, _, ⟨_, w6'⟩, _⟩ := hw
  refine ⟨wf64 w3, h.1, fun t ht => wf64 (w2' t ht), by show (m.f5.map cvX).length ≤ _; rw [List.length_map]; exact h.2.1, by show (m.f6.map cvS).length ≤ _; rw [List.length_map]; exact h.2.2.1, by show (m.f7.map cvK).length ≤ _; rw [List.length_map]; exact h.2.2.2.1, fun j hj => ?_⟩
  have hj' : j < m.f6.length := by have : j < (m.f6.map cvS).length := hj; rwa [List.length_map] at this
  have e : (cvM m).f6.getD j z70 = cvS m.f6[j] := by
    show (m.f6.map cvS).getD j _ = _
    rw [getD_at (by rw [List.length_map]; exact hj')]; simp
  rw [e]
  have hs := h.2.2.2.2 _ (List.getElem_mem hj')
  have hws := w6' _ (List.getElem_mem hj')
  exact ⟨hs.1, hs.2, fun t ht => wf64 (hws.2.1.2 t ht), fun t ht => wf64 (hws.2.2.2 t ht)⟩
theorem sz_unit {x : S25} (hw : wfS25 x) : Evp (fun k => laws_szUnit.f k x.f0 x.f1 1048576) (fun t => 0 ≤ t → SmallC (x.f0.map cvC) ∧ x.f1.length ≤ 1048576 ∧ ∀ m ∈ x.f1, SzM m) := by
  obtain ⟨⟨w0, w0'⟩, ⟨w1, w1'⟩⟩ := hw
  unfold laws_szUnit.f
  refine Evp.bind (sz_cls w0 w0') fun t ht => Evp.ite (fun _ => Evp.pure _ (by omega)) (fun h => ?_)
  have ht2 := ht (by omega)
  refine Evp.bind (sz_methods (by omega) ht2.1 w1 w1') fun u hu => Evp.ite (fun _ => Evp.pure _ (by omega)) (fun h2 => Evp.pure _ fun h3 => ?_)
  have hu2 := hu h3
  exact ⟨ht2.2, hu2.2.1, hu2.2.2⟩
theorem to_unit {x : S25} (h : SmallC (x.f0.map cvC) ∧ x.f1.length ≤ 1048576 ∧ ∀ m ∈ x.f1, SzM m) : Evp (fun k => laws_toUnit.f k x.f0 x.f1) (fun r => r = cvU x) := by
  unfold laws_toUnit.f
  exact Evp.bind (to_cls h.1) fun a ha => Evp.bind (to_methods h.2.1 h.2.2) fun b hb => Evp.pure _ (by rw [ha, hb]; rfl)
theorem smallU_of {x : S25} (hw : wfS25 x) (h : SmallC (x.f0.map cvC) ∧ x.f1.length ≤ 1048576 ∧ ∀ m ∈ x.f1, SzM m) : SmallU (cvU x).1 (cvU x).2 := by
  obtain ⟨_, ⟨w1, w1'⟩⟩ := hw
  refine ⟨h.1, by show (x.f1.map cvM).length ≤ _; rw [List.length_map]; exact h.2.1, fun i hi => ?_⟩
  have hi' : i < x.f1.length := by have : i < (x.f1.map cvM).length := hi; rwa [List.length_map] at this
  have e : mth (cvU x).2 i = cvM x.f1[i] := by
    show (x.f1.map cvM).getD i _ = _
    rw [getD_at (by rw [List.length_map]; exact hi')]; simp
  rw [e]
  exact smallM_of (h.2.2 _ (List.getElem_mem hi')) (w1' _ (List.getElem_mem hi'))
end Go.Proofs.Ytedodaifpekahaa.Kit

end
section

namespace Go.Proofs.Ytedodaifpekahaa.Kit
open Go Go.RowKit Go.Proofs.YtedodaifpekahaaW.PrintWords Go.Proofs.Ytedodaifpekahaa.P
set_option linter.unusedVariables false
set_option linter.unusedSimpArgs false
def Ans (ms : List Mth) (c sel : Int) (i : Nat) : Prop := (mth ms i).f0 = c ∧ (mth ms i).f1 = sel
inductive FindM (cs : List Cls) (ms : List Mth) (sel : Int) : Int → Int → Prop
  | none {c : Int} (h : c < 0) : FindM cs ms sel c (-1)
  | hit {c : Int} {i : Nat} (hc : 0 ≤ c) (hi : i < ms.length) (h : Ans ms c sel i) (hn : ∀ j, j < i → ¬ Ans ms c sel j) : FindM cs ms sel c (i : Int)
  | up {c : Nat} {r : Int} (hn : ∀ j, j < ms.length → ¬ Ans ms (c : Int) sel j) (h : FindM cs ms sel (sup cs c) r) : FindM cs ms sel (c : Int) r
theorem FindM.fn {cs : List Cls} {ms : List Mth} {sel c r r' : Int} (h : FindM cs ms sel c r) (h' : FindM cs ms sel c r') : r = r' := by
  induction h generalizing r' with
  | none h =>
    cases h' with
    | none _ => rfl
    | hit hc _ _ _ => omega
    | up _ _ => omega
  | @hit c i hc hi h hn =>
    cases h' with
    | none h2 => omega
    | @hit _ j _ hj h2 hn2 =>
      rcases Nat.lt_trichotomy i j with h3 | h3 | h3
      · exact absurd h (hn2 i h3)
      · rw [h3]
      · exact absurd h2 (hn j h3)
    | up hn2 _ => exact absurd h (hn2 i hi)
  | @up c r hn h ih =>
    generalize hc : (c : Int) = d at h'
    cases h' with
    | none h2 => omega
    | @hit _ j _ hj h2 _ => exact absurd (hc ▸ h2) (hn j hj)
    | @up c' r' hn2 h2 =>
      have : c = c' := by omega
      subst this
      exact ih h2
theorem impl_find {cs : List Cls} (hok : ClsOk cs) {ms : List Mth} (hm : ms.length ≤ 1048576) (sel : Int) : ∀ c : Nat, c < cs.length → Evp (fun k => impl_unitFind.l0 k sel (c : Int) cs ms) (FindM cs ms sel (c : Int)) := by
  intro c
  induction c using Nat.strongRecOn with
  | _ c ih =>
    intro hc
    refine Evp.step (f := fun k => _) (fun k => by rw [impl_unitFind.l0]) (Evp.yes (by omega) ?_)
    have key : ∀ d i : Nat, i + d = ms.length → (∀ j, j < i → ¬ Ans ms (c : Int) sel j) → Evp (fun k => impl_unitFind.l1 k sel (c : Int) ms (ms.length : Int) (i : Int) cs ms) (FindM cs ms sel (c : Int)) := by
      intro d
      induction d with
      | zero =>
        intro i hi hn
        refine Evp.step (f := fun k => _) (fun k => by rw [impl_unitFind.l1, rdSup]) (Evp.no (by omega) (Evp.yes (by omega) (Evp.yes (by omega) ?_)))
        have up : ∀ r, FindM cs ms sel (sup cs c) r → FindM cs ms sel (c : Int) r := fun r hr => .up (fun j hj => hn j (by omega)) hr
        rcases Nat.eq_zero_or_pos c with h0 | h0
        · have hs : sup cs c = -1 := by rw [h0]; exact hok.root.1
          rw [hs]
          exact Evp.step (f := fun k => _) (fun k => by rw [impl_unitFind.l0]) (Evp.no (by omega) (Evp.pure _ (up _ (by rw [hs]; exact .none (by omega)))))
        · obtain ⟨p, hp, hlt⟩ := hok.sup_nat h0 hc
          rw [hp]
          exact (ih p hlt (by omega)).mono fun r hr => up r (by rw [hp]; exact hr)
      | succ d ihd =>
        intro i hi hn
        have hil : i < ms.length := by omega
        have next : ¬ Ans ms (c : Int) sel i → Evp (fun k => impl_unitFind.l1 k sel (c : Int) ms (ms.length : Int) (wrap64 ((i : Int) + 1)) cs ms) (FindM cs ms sel (c : Int)) := fun ha => by
          rw [w64' (n := ms.length) hil (by omega)]
          refine ihd (i + 1) (by omega) fun j hj => ?_
          rcases Nat.eq_or_lt_of_le (Nat.le_of_lt_succ hj) with rfl | h2
          · exact ha
          · exact hn j h2
        refine Evp.step (f := fun k => _) (fun k => by rw [impl_unitFind.l1, rdM']) (Evp.yes (by omega) (Evp.yes (by omega) (Evp.yes (by omega) (Evp.ite (fun h1 => Evp.ite (fun h2 => Evp.pure _ (.hit (by omega) hil ⟨h1, h2⟩ hn)) (fun h2 => next fun h => h2 h.2)) (fun h1 => next fun h => h1 h.1)))))
    exact key ms.length 0 (by omega) (fun j hj => absurd hj (Nat.not_lt_zero _))
theorem spec_find {cs : List Cls} (hok : ClsOk cs) {ms : List Mth} (hm : ms.length ≤ 1048576) (sel : Int) : ∀ c : Nat, c < cs.length → Evp (fun k => spec_l3Find.l0 k (c : Int) sel cs ms) (FindM cs ms sel (c : Int)) := by
  intro c
  induction c using Nat.strongRecOn with
  | _ c ih =>
    intro hc
    refine Evp.step (f := fun k => _) (fun k => by rw [spec_l3Find.l0]) (Evp.yes (by omega) ?_)
    have key : ∀ d i : Nat, i + d = ms.length → (∀ j, j < i → ¬ Ans ms (c : Int) sel j) → Evp (fun k => spec_l3Find.l1 k (c : Int) sel (i : Int) cs ms) (FindM cs ms sel (c : Int)) := by
      intro d
      induction d with
      | zero =>
        intro i hi hn
        refine Evp.step (f := fun k => _) (fun k => by rw [spec_l3Find.l1, rdSup]) (Evp.no (by omega) (Evp.yes (by omega) (Evp.yes (by omega) ?_)))
        have up : ∀ r, FindM cs ms sel (sup cs c) r → FindM cs ms sel (c : Int) r := fun r hr => .up (fun j hj => hn j (by omega)) hr
        rcases Nat.eq_zero_or_pos c with h0 | h0
        · have hs : sup cs c = -1 := by rw [h0]; exact hok.root.1
          rw [hs]
          exact Evp.step (f := fun k => _) (fun k => by rw [spec_l3Find.l0]) (Evp.no (by omega) (Evp.pure _ (up _ (by rw [hs]; exact .none (by omega)))))
        · obtain ⟨p, hp, hlt⟩ := hok.sup_nat h0 hc
          rw [hp]
          exact (ih p hlt (by omega)).mono fun r hr => up r (by rw [hp]; exact hr)
      | succ d ihd =>
        intro i hi hn
        have hil : i < ms.length := by omega
        have next : ¬ Ans ms (c : Int) sel i → Evp (fun k => spec_l3Find.l1 k (c : Int) sel (wrap64 ((i : Int) + 1)) cs ms) (FindM cs ms sel (c : Int)) := fun ha => by
          rw [w64' (n := ms.length) hil (by omega)]
          refine ihd (i + 1) (by omega) fun j hj => ?_
          rcases Nat.eq_or_lt_of_le (Nat.le_of_lt_succ hj) with rfl | h2
          · exact ha
          · exact hn j h2
        refine Evp.step (f := fun k => _) (fun k => by rw [spec_l3Find.l1, rdM']) (Evp.yes (by omega) (Evp.yes (by omega) (Evp.ite (fun h1 => Evp.ite (fun h2 => Evp.pure _ (.hit (by omega) hil ⟨h1, h2⟩ hn)) (fun h2 => next fun h => h2 h.2)) (fun h1 => next fun h => h1 h.1))))
    exact key ms.length 0 (by omega) (fun j hj => absurd hj (Nat.not_lt_zero _))
def FindU (cs : List Cls) (ms : List Mth) (c sel r : Int) : Prop := (UnitOk_ cs ms ∧ (0 ≤ c ∧ c < (cs.length : Int)) ∧ FindM cs ms sel c r) ∨ (¬ (UnitOk_ cs ms ∧ (0 ≤ c ∧ c < (cs.length : Int))) ∧ r = -1)
theorem FindU.fn {cs : List Cls} {ms : List Mth} {c sel r r' : Int} (h : FindU cs ms c sel r) (h' : FindU cs ms c sel r') : r = r' := by
  rcases h with h1 | h1 <;> rcases h' with h2 | h2
  · exact h1.2.2.fn h2.2.2
  · exact absurd ⟨h1.1, h1.2.1⟩ h2.1
  · exact absurd ⟨h2.1, h2.2.1⟩ h1.1
  · rw [h1.2, h2.2]
theorem impl_unitFind' {cs : List Cls} {ms : List Mth} (hu : SmallU cs ms) (c sel : Int) : Evp (fun k => impl_UnitFind.f k cs ms c sel) (FindU cs ms c sel) := by
  unfold impl_UnitFind.f
  obtain ⟨x, hx, hx2⟩ := impl_isClass_eq cs c
  refine Evp.bind (impl_unitOk hu) fun b hb => Evp.ite (fun h => ?_) (fun h => Evp.pure _ (.inr ⟨fun h2 => h (hb.2 h2.1), rfl⟩))
  simp only [hx, Option.bind_some]
  refine Evp.ite (fun h1 => ?_) (fun h1 => Evp.pure _ (.inr ⟨fun h2 => h1 (hx2.2 h2.2), rfl⟩))
  have h3 := hb.1 h
  have h4 := hx2.1 h1
  have := impl_find h3.1 hu.m sel c.toNat (by omega)
  rw [show ((c.toNat : Nat) : Int) = c by omega] at this
  exact Evp.bind this fun r hr => Evp.pure _ (.inl ⟨h3, h4, hr⟩)
theorem spec_unitFind' {cs : List Cls} {ms : List Mth} (hu : SmallU cs ms) (c sel : Int) : Evp (fun k => spec_UnitFind.f k cs ms c sel) (FindU cs ms c sel) := by
  have hl0 := hu.c.1
  unfold spec_UnitFind.f
  refine Evp.bind (spec_unitOk hu) fun b hb => Evp.ite (fun h => ?_) (fun h => Evp.pure _ (.inr ⟨fun h2 => h (hb.2 h2.1), rfl⟩))
  rw [in_eq, w64 (n := (cs.length : Int) - 1) (by omega) (by omega)]
  simp only [Option.bind_some]
  refine Evp.ite (fun h1 => ?_) (fun h1 => Evp.pure _ (.inr ⟨fun h2 => h1 (decide_eq_true (by omega)), rfl⟩))
  have h3 := hb.1 h
  have h4 := of_decide_eq_true h1
  have := spec_find h3.1 hu.m sel c.toNat (by omega)
  rw [show ((c.toNat : Nat) : Int) = c by omega] at this
  exact Evp.bind this fun r hr => Evp.pure _ (.inl ⟨h3, by omega, hr⟩)
end Go.Proofs.Ytedodaifpekahaa.Kit

end
section

namespace Go.Proofs.Ytedodaifpekahaa.Pure
open Go Go.RowKit Go.Proofs.YtedodaifpekahaaW.PrintWords Go.Proofs.Ytedodaifpekahaa.P Go.Proofs.Ytedodaifpekahaa.Kit
theorem FnExactUnitFind : laws_FnExactUnitFind.Pure := by
  intro x a1 a2 hw _ _
  refine Evp.rounds ?_
  unfold laws_FnExactUnitFind.f
  refine Evp.bind (sz_unit hw) fun t ht => Evp.ite (fun _ => Evp.pure _ rfl) (fun h => ?_)
  have hc := ht (by omega)
  have hu := smallU_of hw hc
  refine Evp.bind (to_unit hc) fun a ha => ?_
  subst ha
  refine Evp.bind (spec_unitFind' hu a1 a2) fun u hu1 => Evp.bind (to_unit hc) fun b hb => ?_
  subst hb
  refine Evp.bind (impl_unitFind' hu a1 a2) fun v hv1 => Evp.yes (hv1.fn hu1) (Evp.bind (to_unit hc) fun c hc' => ?_)
  subst hc'
  exact Evp.bind (eq_unit hu) fun e he => Evp.yes he (Evp.pure _ rfl)
end Go.Proofs.Ytedodaifpekahaa.Pure

end
section

namespace Go.Proofs.Ytedodaifpekahaa.fnExactUnitFind
open Go Go.ChangeShapes Go.WideShapes Go.ChangeAt Go.RowKit Go.Proofs.YtedodaifpekahaaW.PrintWords Go.Proofs.Ytedodaifpekahaa.P Go.Proofs.Ytedodaifpekahaa.Open
set_option linter.unusedVariables false
theorem own : ownKnob Try.prog.godebug = none := by kernel_rfl
theorem laidOut : laidOutB Try.prog = true := by kernel_rfl
set_option maxRecDepth 100000 in
theorem lifted (os : Os) (started : os.Started) (H : Type) (enc : TypeId × Value → H) :
    ReturnsInHanded {} Try.checked os 4 .any (Rows.fnExactUnitFindSpec.pre6 enc Try.prog Try.f4 Rows.fnExactUnitFindRow.domain false) (Rows.fnExactUnitFindSpec.post enc Try.prog Try.f4 false true false false) := by
  refine returnsInHanded_of_change_sized (C := Try.checked) own started (by kernel_rfl) Try.func4
    (ChangeSpec.witness6 (enc := enc) (C := Try.checked) false ⟨#[], #[.agg #[.slice none 0 0, .slice none 0 0], .int .i64 0, .int .i64 0], []⟩ 8 (by kernel_rfl) (by kernel_rfl) (by kernel_rfl) (by kernel_rfl)) ?_
  intro W base args ds gs before hval0 hW hcnd hsz0 _
  have hval : ∀ (j : Nat) t v, Try.f4.params[j]? = some t → args[j]? = some v → Value.okWide Try.prog W .any base t v := hval0
  have hW' := hW
  obtain ⟨p, q, hA0, hV, rfl, hfz, hnd⟩ := hW
  have hA : DataW.TrodAll enc Try.prog W 0 (fun _ => true) true Try.f4.params.toList args.toList ds p := hA0
  rw [Try.params4] at hA hval
  obtain ⟨v0, vs0, d0, ds0, p0, q0, hargs, rfl, rfl, h0, r0⟩ := trodAll_cons hA
  obtain ⟨v1, vs1, d1, ds1, p1, q1, rfl, rfl, rfl, h1, r1⟩ := trodAll_cons r0
  obtain ⟨v2, vs2, d2, ds2, p2, q2, rfl, rfl, rfl, h2, r2⟩ := trodAll_cons r1
  obtain ⟨rfl, rfl, rfl⟩ := trodAll_nil r2
  obtain rfl : args = #[v0, v1, v2] := by cases args; simp_all
  obtain ⟨rfl, rfl⟩ := trodVars_none hV
  have k0 := h0
  have lt0 : ∀ x ∈ p0, x.block < W.heap.size := by obtain ⟨m, hm⟩ := k0; exact DataW.trod_lt m _ _ _ hm
  obtain ⟨x0, g0, wf0⟩ := opens_arg (v := v0) h0 (opens25 H enc W 0 (fun _ => true) true)
  obtain ⟨cs0, rfl, z0⟩ := okWide_struct Try.underlying25 (hval 0 25 v0 rfl rfl)
  obtain ⟨A0_0, c0_0, A0_1, c0_1, e0, hc0_0, hr0_0, hc0_1, hr0_1⟩ := k25_open g0
  obtain rfl : cs0 = #[.slice A0_0 x0.f0.length c0_0, .slice A0_1 x0.f1.length c0_1] := by cases cs0; simpa [Value.cells] using e0
  obtain ⟨a1, rfl, rfl, rfl, w1⟩ := open_int Try.underlying3 (hval 1 3 v1 rfl rfl) h1
  obtain ⟨a2, rfl, rfl, rfl, w2⟩ := open_int Try.underlying3 (hval 2 3 v2 rfl rfl) h2
  clear hA0 hval0 hsz0
  obtain ⟨k, h⟩ := Pure.FnExactUnitFind x0 a1 a2 wf0 w1 w2
  refine (laws_FnExactUnitFind.calls k _ _ x0.f0 _ _ x0.f1 a1 a2 true W hr0_0 hc0_0 hr0_1 hc0_1 h rfl).mono fun e W' ⟨he, bel⟩ => ?_
  subst he
  exact ⟨_, rfl, _, _, _, [], _, [], hW', trodAll_mk1 (shut_bool Try.underlying4 _), (trodAll_cons_mk (Below.trod laidOut (by kernel_rfl) (of_decide_eq_true (by kernel_rfl)) k0 bel lt0) (trodAll_cons_mk (shut_int Try.underlying3 w1) (trodAll_cons_mk (shut_int Try.underlying3 w2) trodAll_mk0))), rfl, bel.frame _, fun h => by cases h⟩
theorem over : Rows.fnExactUnitFindRow.holds Try.pinned (OpenSpec.ofChange Rows.fnExactUnitFindSpec) :=
  OpenClaim.holds_of_wide 4 Try.f4 rfl rfl rfl rfl rfl rfl rfl ⟨rfl, rfl, rfl, rfl, rfl⟩ rfl rfl rfl rfl rfl (by kernel_rfl) Try.func4 (by show joinedFacts Try.prog _ _ _ _ = true; unfold joinedFacts; rw [Go.Proofs.Ytedodaifpekahaa.enter, Go.Proofs.Ytedodaifpekahaa.make, Go.Proofs.Ytedodaifpekahaa.lifts]; kernel_rfl)
    (of_decide_eq_true (by kernel_rfl)) (by unfold Func.isWrapper; first | (rw [if_pos (by decide +kernel)]; kernel_rfl) | (rw [if_neg (by decide +kernel)]; exact ⟨rfl, rfl⟩))
    (fun os started H enc _ => lifted os started H enc)
theorem proved : Rows.FnExactUnitFindSaid := over
end Go.Proofs.Ytedodaifpekahaa.fnExactUnitFind
namespace Go.Proofs.Ytedodaifpekahaa
theorem fnExactUnitFind_holds : Rows.FnExactUnitFindSaid := fnExactUnitFind.proved
end Go.Proofs.Ytedodaifpekahaa

end
