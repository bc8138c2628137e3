/- FnClassesMore: a class more behind drawn ones leaves them ok, who is below whom, their fields and what is nearest above two. -/
import Derived.Test.YtgmjolngnhdafaaCFnClassesMore2
import Derived.Test.YtgmjolngnhdafaaCFnClassesMore0
import Derived.Test.YtgmjolngnhdafaaRows
import Derived.WalkKit
import Derived.ProofKit
import Derived.OpenShut
import Derived.ShutString
import Derived.ChangeOld
import Derived.Below
import Derived.SizedLaws
import Derived.Test.YtgmjolngnhdafaaWSized
import Derived.Test.YtgmjolngnhdafaaCFnClassesMore1
section
namespace Go.Proofs.Ytgmjolngnhdafaa.Kit
open Go Go.RowKit Go.Proofs.YtgmjolngnhdafaaW.PrintWords Go.Proofs.Ytgmjolngnhdafaa.P
set_option linter.unusedVariables false
theorem impl_flds {cs : List Cls} (h : ClsOk cs) : ∀ a : Nat, a < cs.length → Evp (fun k => impl_classFields.f k cs (a : Int)) (fun r => Flds cs a r ∧ r.length ≤ 2 * a) := by
  have hhi := h.hi
  intro a
  induction a using Nat.strongRecOn with
  | _ a ih =>
    intro ha
    refine Evp.step (f := fun k => _) (fun k => by rw [impl_classFields.f]) (Evp.ite (fun h0 => Evp.pure _ ?_) (fun h0 => ?_))
    · have : a = 0 := by omega
      subst this
      exact ⟨.root, Nat.le_refl _⟩
    · obtain ⟨p, hp, hlt⟩ := h.sup_nat (i := a) (by omega) ha
      have e : (rd_T38 cs (a : Int)).f0 = (p : Int) := hp
      have hl2 := h.len2 ha
      refine Evp.yes (by omega) (Evp.yes (by omega) ?_)
      rw [e, rdFlds]
      refine Evp.bind (ih p hlt (by omega)) fun l hl => Evp.yes (by have := hl.2; omega) (Evp.pure _ ⟨.step p (by omega) hp hl.1, ?_⟩)
      have := hl.2
      rw [List.length_append]; omega
theorem spec_flds {cs : List Cls} (h : ClsOk cs) : ∀ a : Nat, a < cs.length → Evp (fun k => spec_l2Fields.f k cs (a : Int)) (fun r => Flds cs a r ∧ r.length ≤ 2 * a) := by
  have hhi := h.hi
  intro a
  induction a using Nat.strongRecOn with
  | _ a ih =>
    intro ha
    refine Evp.step (f := fun k => _) (fun k => by rw [spec_l2Fields.f]) (Evp.ite (fun h0 => Evp.pure _ ?_) (fun h0 => ?_))
    · have : a = 0 := by omega
      subst this
      exact ⟨.root, Nat.le_refl _⟩
    · obtain ⟨p, hp, hlt⟩ := h.sup_nat (i := a) (by omega) ha
      have e : (rd_T38 cs (a : Int)).f0 = (p : Int) := hp
      have hl2 := h.len2 ha
      refine Evp.yes (by omega) (Evp.yes (by omega) ?_)
      rw [e, rdFlds]
      refine Evp.bind (ih p hlt (by omega)) fun l hl => Evp.yes (by have := hl.2; omega) (Evp.pure _ ⟨.step p (by omega) hp hl.1, ?_⟩)
      have := hl.2
      rw [List.length_append]; omega
/-- All fields of a class, where it is one. -/
def FldsC (cs : List Cls) (c : Int) (l : List Int) : Prop := l.length ≤ 10 ∧ ((ClsOk cs ∧ (0 ≤ c ∧ c < (cs.length : Int)) ∧ Flds cs c.toNat l) ∨ (¬ (ClsOk cs ∧ 0 ≤ c ∧ c < (cs.length : Int)) ∧ l = []))
theorem FldsC.fn {cs : List Cls} {c : Int} {l l' : List Int} (h : FldsC cs c l) (h' : FldsC cs c l') : l = l' := by
  rcases h.2 with h1 | h1 <;> rcases h'.2 with h2 | h2
  · exact h1.2.2.fn h2.2.2
  · exact absurd ⟨h1.1, h1.2.1⟩ h2.1
  · exact absurd ⟨h2.1, h2.2.1⟩ h1.1
  · rw [h1.2, h2.2]
theorem impl_ClassFields' {cs : List Cls} (hs : SmallC cs) (c : Int) : Evp (fun k => impl_ClassFields.f k cs c) (FldsC cs c) := by
  unfold impl_ClassFields.f
  obtain ⟨x, hx, hx2⟩ := impl_isClass_eq cs c
  refine Evp.bind (impl_classesOk hs) fun b hb => Evp.ite (fun h => ?_) (fun h => Evp.pure _ ⟨by decide, .inr ⟨fun h2 => h (hb.2 h2.1), rfl⟩⟩)
  simp only [hx, Option.bind_some]
  refine Evp.ite (fun h1 => ?_) (fun h1 => Evp.pure _ ⟨by decide, .inr ⟨fun h2 => h1 (hx2.2 h2.2), rfl⟩⟩)
  have h3 := hb.1 h
  have h4 := hx2.1 h1
  have hhi := h3.hi
  have := impl_flds h3 c.toNat (by omega)
  rw [show ((c.toNat : Nat) : Int) = c by omega] at this
  exact Evp.bind this fun l hl => Evp.pure _ ⟨by have := hl.2; omega, .inl ⟨h3, h4, hl.1⟩⟩
theorem spec_ClassFields' {cs : List Cls} (hs : SmallC cs) (c : Int) : Evp (fun k => spec_ClassFields.f k cs c) (FldsC cs c) := by
  unfold spec_ClassFields.f
  refine Evp.bind (spec_is hs c) fun b hb => Evp.ite (fun h => ?_) (fun h => Evp.pure _ ⟨by decide, .inr ⟨fun h2 => h (hb.2 h2), rfl⟩⟩)
  obtain ⟨h3, h4⟩ := hb.1 h
  have hhi := h3.hi
  have := spec_flds h3 c.toNat (by omega)
  rw [show ((c.toNat : Nat) : Int) = c by omega] at this
  exact Evp.bind this fun l hl => Evp.pure _ ⟨by have := hl.2; omega, .inl ⟨h3, h4, hl.1⟩⟩
end Go.Proofs.Ytgmjolngnhdafaa.Kit

end
section
namespace Go.Proofs.Ytgmjolngnhdafaa.P
open Go.RowKit Go.Proofs.YtgmjolngnhdafaaW.PrintWords Go.Proofs.YtgmjolngnhdafaaW.PrintLast Go.Proofs.YtgmjolngnhdafaaW.PrintMore
attribute [local go_sem] max2_int min2_int max_two min_two max_three min_three max_four min_four
set_option linter.unusedVariables false
set_option linter.unusedSimpArgs false

/-! ### spec_l2Join: function 78 -/
def spec_l2Join.l0 : Nat → List (S38) → Int → Int → Option (Int)
  | 0, _, _, _ => none
  | k + 1, x0, x1, x2 => (spec_l2Up.f k x0 x2 x1).bind fun t461 => (if t461 = true then (some x1) else (if 0 ≤ x1 then (if x1 < (x0.length : Int) then (spec_l2Join.l0 k x0 ((rd_T38 x0 x1).f0) x2) else (none)) else (none)))
def spec_l2Join.f (k : Nat) (l0 : List (S38)) (a1 : Int) (a2 : Int) : Option (Int) := spec_l2Join.l0 k l0 a1 a2
theorem spec_l2Join.mono_l : ∀ k, (∀ y0 y1 y2, LeO (spec_l2Join.l0 k y0 y1 y2) (spec_l2Join.l0 (k + 1) y0 y1 y2))
  | 0 => fun _ _ _ r h => by simp [spec_l2Join.l0] at h
  | k + 1 => by
    have ih0 := spec_l2Join.mono_l k
    · intro y0 y1 y2
      unfold spec_l2Join.l0
      repeat' first
      | (with_reducible exact ih0 _ _ _)
      | (with_reducible exact spec_l2Up.mono _ _ _ _)
      | (with_reducible exact LeO.refl _)
      | (with_reducible exact LeO.none _)
      | (with_reducible refine LeO.ite ?_ ?_)
      | (with_reducible refine LeO.bind ?_ (fun _ => ?_))
      | exact ih0 _ _ _
      | exact spec_l2Up.mono _ _ _ _
      | exact LeO.none _
      | refine LeO.ite ?_ ?_
      | refine LeO.bind ?_ (fun _ => ?_)
theorem spec_l2Join.mono : ∀ a0 a1 a2 k, LeO (spec_l2Join.f k a0 a1 a2) (spec_l2Join.f (k + 1) a0 a1 a2) := by
  intro a0 a1 a2 k
  have ih0 := spec_l2Join.mono_l k
  unfold spec_l2Join.f
  repeat' first
      | (with_reducible exact ih0 _ _ _)
      | (with_reducible exact spec_l2Up.mono _ _ _ _)
      | (with_reducible exact LeO.refl _)
      | (with_reducible exact LeO.none _)
      | (with_reducible refine LeO.ite ?_ ?_)
      | (with_reducible refine LeO.bind ?_ (fun _ => ?_))
      | exact ih0 _ _ _
      | exact spec_l2Up.mono _ _ _ _
      | exact LeO.none _
      | refine LeO.ite ?_ ?_
      | refine LeO.bind ?_ (fun _ => ?_)

end Go.Proofs.Ytgmjolngnhdafaa.P

end
section
namespace Go.Proofs.Ytgmjolngnhdafaa.P
open Go.RowKit Go.Proofs.YtgmjolngnhdafaaW.PrintWords Go.Proofs.YtgmjolngnhdafaaW.PrintLast Go.Proofs.YtgmjolngnhdafaaW.PrintMore
attribute [local go_sem] max2_int min2_int max_two min_two max_three min_three max_four min_four
set_option linter.unusedVariables false
set_option linter.unusedSimpArgs false

/-! ### spec_ClassJoin: function 44 -/
def spec_ClassJoin.f (k : Nat) (l0 : List (S38)) (a1 : Int) (a2 : Int) : Option (Int) := (spec_l2Is.f k l0 a1).bind fun t463 => (if t463 = true then ((spec_l2Is.f k l0 a2).bind fun t464 => (if t464 = true then ((spec_l2Join.f k l0 a1 a2).bind fun t465 => (some t465)) else (some (-1)))) else (some (-1)))
theorem spec_ClassJoin.mono : ∀ a0 a1 a2 k, LeO (spec_ClassJoin.f k a0 a1 a2) (spec_ClassJoin.f (k + 1) a0 a1 a2) := by
  intro a0 a1 a2 k
  unfold spec_ClassJoin.f
  repeat' first
      | (with_reducible exact spec_l2Is.mono _ _ _)
      | (with_reducible exact spec_l2Join.mono _ _ _ _)
      | (with_reducible exact LeO.refl _)
      | (with_reducible exact LeO.none _)
      | (with_reducible refine LeO.ite ?_ ?_)
      | (with_reducible refine LeO.bind ?_ (fun _ => ?_))
      | exact spec_l2Is.mono _ _ _
      | exact spec_l2Join.mono _ _ _ _
      | exact LeO.none _
      | refine LeO.ite ?_ ?_
      | refine LeO.bind ?_ (fun _ => ?_)

end Go.Proofs.Ytgmjolngnhdafaa.P

end
section
namespace Go.Proofs.Ytgmjolngnhdafaa.Kit
open Go Go.RowKit Go.Proofs.YtgmjolngnhdafaaW.PrintWords Go.Proofs.Ytgmjolngnhdafaa.P
set_option linter.unusedVariables false
/-- c is above a and b, and under each that is. -/
def IsJoin (cs : List Cls) (a b c : Nat) : Prop := Up cs a c ∧ Up cs b c ∧ ∀ d, Up cs a d → Up cs b d → Up cs c d
theorem IsJoin.fn {cs : List Cls} (h : ClsOk cs) {a b c c' : Nat} (ha : a < cs.length) (h1 : IsJoin cs a b c) (h2 : IsJoin cs a b c') : c = c' := by
  have := h1.1.le h ha
  have := h2.1.le h ha
  exact (h1.2.2 _ h2.1 h2.2.1).antisymm h (by omega) (by omega) (h2.2.2 _ h1.1 h1.2.1)
theorem IsJoin.symm {cs : List Cls} {a b c : Nat} (h : IsJoin cs a b c) : IsJoin cs b a c := ⟨h.2.1, h.1, fun d h1 h2 => h.2.2 d h2 h1⟩
theorem spec_join {cs : List Cls} (h : ClsOk cs) {b : Nat} (hb : b < cs.length) : ∀ a : Nat, a < cs.length → Evp (fun k => spec_l2Join.f k cs (a : Int) (b : Int)) (fun r => ∃ c : Nat, r = (c : Int) ∧ IsJoin cs a b c) := by
  intro a
  induction a using Nat.strongRecOn with
  | _ a ih =>
    intro ha
    unfold spec_l2Join.f at ih ⊢
    refine Evp.step (f := fun k => _) (fun k => by rw [spec_l2Join.l0, rdSup]) (Evp.bind (spec_up h a b hb) fun t ht => Evp.ite (fun h1 => Evp.pure _ ⟨a, rfl, .refl _, ht.1 h1, fun d h2 _ => h2⟩) (fun h1 => ?_))
    have hn : ¬ Up cs b a := fun h2 => h1 (ht.2 h2)
    have h0 : a ≠ 0 := fun h0 => hn (h0 ▸ Up.root h hb)
    obtain ⟨p, hp, hlt⟩ := h.sup_nat (i := a) (by omega) ha
    refine Evp.yes (by omega) (Evp.yes (by omega) ?_)
    rw [hp]
    refine (ih p hlt (by omega)).mono fun r hr => ?_
    obtain ⟨c, rfl, h2, h3, h4⟩ := hr
    refine ⟨c, rfl, .step p hp h2, h3, fun d h5 h6 => ?_⟩
    have hne : a ≠ d := fun e => hn (e ▸ h6)
    exact h4 d ((Up.via hp hne).1 h5) h6
theorem IsJoin.ex {cs : List Cls} (h : ClsOk cs) {a b : Nat} (ha : a < cs.length) (hb : b < cs.length) : ∃ c, IsJoin cs a b c := by
  obtain ⟨r, _, c, _, hc⟩ := spec_join h hb a ha
  exact ⟨c, hc⟩
theorem both_evp {cs : List Cls} (h : ClsOk cs) {a b : Nat} (ha : a < cs.length) (hb : b < cs.length) (c : Nat) : Evp (fun k => joinBoth.f k cs (a : Int) (b : Int) (c : Int)) (fun r => r = true ↔ Up cs a c ∧ Up cs b c) := by
  unfold joinBoth.f
  refine Evp.bind (impl_up h c a ha) fun t ht => Evp.ite (fun h1 => ?_) (fun h1 => Evp.pure _ (iff_no fun h2 => h1 (ht.2 h2.1)))
  exact Evp.bind (impl_up h c b hb) fun u hu => Evp.pure _ (hu.trans ⟨fun h2 => ⟨ht.1 h1, h2⟩, fun h2 => h2.2⟩)
theorem near1 {cs : List Cls} (h : ClsOk cs) {a b : Nat} (ha : a < cs.length) (hb : b < cs.length) {xs : List Int} (hn : xs.length = cs.length) (hx : ∀ j : Nat, j < cs.length → rd xs (j : Int) = (j : Int)) {P : Int × Bool → Prop} {i : Int} {o : Nat} (ho : o < cs.length) (hno : (∃ e, e < cs.length ∧ Up cs a e ∧ Up cs b e ∧ ¬ Up cs o e) → Evp (fun k => impl_nearest.l0 k cs (a : Int) (b : Int) xs (wrap64 (i + 1))) P) :
    ∀ d j : Nat, j + d = cs.length → ((∀ e, j ≤ e → e < cs.length → Up cs a e → Up cs b e → Up cs o e) → P ((o : Int), true)) → Evp (fun k => impl_nearest.l1 k cs (a : Int) (b : Int) xs i (o : Int) (j : Int)) P := by
  have hhi := h.hi
  intro d
  induction d with
  | zero =>
    intro j hj hall
    exact Evp.step (f := fun k => _) (fun k => by rw [impl_nearest.l1]) (Evp.no (by omega) (Evp.pure _ (hall fun e h1 h2 => by omega)))
  | succ d ih =>
    intro j hj hall
    have hjl : j < cs.length := by omega
    refine Evp.step (f := fun k => _) (fun k => by rw [impl_nearest.l1, hx j hjl, w64' hjl (by omega)]) (Evp.yes (by omega) (Evp.yes (by omega) ?_))
    refine Evp.bind (both_evp h ha hb j) fun t ht => Evp.ite (fun h1 => ?_) (fun h1 => ?_)
    · refine Evp.bind (impl_up h j o ho) fun u hu => Evp.ite (fun h2 => ?_) (fun h2 => ?_)
      · refine ih (j + 1) (by omega) fun h3 => hall fun e h4 h5 h6 h7 => ?_
        rcases Nat.eq_or_lt_of_le h4 with rfl | h8
        · exact hu.1 h2
        · exact h3 e h8 h5 h6 h7
      · exact hno ⟨j, hjl, (ht.1 h1).1, (ht.1 h1).2, fun h3 => h2 (hu.2 h3)⟩
    · refine ih (j + 1) (by omega) fun h3 => hall fun e h4 h5 h6 h7 => ?_
      rcases Nat.eq_or_lt_of_le h4 with rfl | h8
      · exact absurd (ht.2 ⟨h6, h7⟩) h1
      · exact h3 e h8 h5 h6 h7
theorem near_evp {cs : List Cls} (h : ClsOk cs) {a b : Nat} (ha : a < cs.length) (hb : b < cs.length) {xs : List Int} (hn : xs.length = cs.length) (hx : ∀ j : Nat, j < cs.length → rd xs (j : Int) = (j : Int)) :
    Evp (fun k => impl_nearest.f k cs (a : Int) (b : Int) xs) (fun r => r.2 = true ∧ ∃ c : Nat, r.1 = (c : Int) ∧ IsJoin cs a b c) := by
  have hhi := h.hi
  obtain ⟨c0, hc0⟩ := IsJoin.ex h ha hb
  have hl0 := hc0.1.le h ha
  have key : ∀ i : Nat, i ≤ c0 → (i ≠ c0 → Evp (fun k => impl_nearest.l0 k cs (a : Int) (b : Int) xs ((i + 1 : Nat) : Int)) (fun r => r.2 = true ∧ ∃ c : Nat, r.1 = (c : Int) ∧ IsJoin cs a b c)) →
      Evp (fun k => impl_nearest.l0 k cs (a : Int) (b : Int) xs (i : Int)) (fun r => r.2 = true ∧ ∃ c : Nat, r.1 = (c : Int) ∧ IsJoin cs a b c) := by
    intro i hi next
    have hil : i < cs.length := by omega
    refine Evp.step (f := fun k => _) (fun k => by rw [impl_nearest.l0, hx i hil, w64' hil (by omega)]) (Evp.yes (by omega) (Evp.yes (by omega) ?_))
    refine Evp.bind (both_evp h ha hb i) fun t ht => Evp.ite (fun h1 => ?_) (fun h1 => ?_)
    · refine near1 h ha hb hn hx hil (fun hbad => ?_) cs.length 0 (by omega) (fun hall => ⟨rfl, i, rfl, (ht.1 h1).1, (ht.1 h1).2, fun d h2 h3 => hall d (Nat.zero_le _) (by have := h2.le h ha; omega) h2 h3⟩)
      rw [w64' hil (by omega)]
      refine next fun e => ?_
      obtain ⟨x, hx1, hx2, hx3, hx4⟩ := hbad
      exact hx4 (e ▸ hc0.2.2 x hx2 hx3)
    · exact next fun e => h1 (ht.2 (e ▸ ⟨hc0.1, hc0.2.1⟩))
  have all : ∀ m i : Nat, i + m = c0 → Evp (fun k => impl_nearest.l0 k cs (a : Int) (b : Int) xs (i : Int)) (fun r => r.2 = true ∧ ∃ c : Nat, r.1 = (c : Int) ∧ IsJoin cs a b c) := by
    intro m
    induction m with
    | zero => intro i hi; exact key i (by omega) (fun hne => absurd hi hne)
    | succ m ih => intro i hi; exact key i (by omega) (fun _ => ih (i + 1) (by omega))
  exact all c0 0 (by omega)
/-- The nearest class above two, where they are classes. -/
def JoinC (cs : List Cls) (a b r : Int) : Prop := (ClsOk cs ∧ (0 ≤ a ∧ a < (cs.length : Int)) ∧ (0 ≤ b ∧ b < (cs.length : Int)) ∧ ∃ c : Nat, r = (c : Int) ∧ IsJoin cs a.toNat b.toNat c) ∨ (¬ (ClsOk cs ∧ (0 ≤ a ∧ a < (cs.length : Int)) ∧ (0 ≤ b ∧ b < (cs.length : Int))) ∧ r = -1)
theorem JoinC.fn {cs : List Cls} {a b r r' : Int} (h : JoinC cs a b r) (h' : JoinC cs a b r') : r = r' := by
  rcases h with ⟨h1, h2, h3, c, rfl, hc⟩ | h1 <;> rcases h' with ⟨h1', h2', h3', c', rfl, hc'⟩ | h1'
  · rw [hc.fn h1 (by omega) hc']
  · exact absurd ⟨h1, h2, h3⟩ h1'.1
  · exact absurd ⟨h1', h2', h3'⟩ h1.1
  · rw [h1.2, h1'.2]
theorem spec_ClassJoin' {cs : List Cls} (hs : SmallC cs) (a b : Int) : Evp (fun k => spec_ClassJoin.f k cs a b) (JoinC cs a b) := by
  unfold spec_ClassJoin.f
  refine Evp.bind (spec_is hs a) fun c hc => Evp.ite (fun h => ?_) (fun h => Evp.pure _ (.inr ⟨fun h2 => h (hc.2 ⟨h2.1, h2.2.1⟩), rfl⟩))
  refine Evp.bind (spec_is hs b) fun d hd => Evp.ite (fun h' => ?_) (fun h' => Evp.pure _ (.inr ⟨fun h2 => h' (hd.2 ⟨h2.1, h2.2.2⟩), rfl⟩))
  obtain ⟨h3, h4⟩ := hc.1 h
  have h5 := (hd.1 h').2
  have := spec_join h3 (b := b.toNat) (by omega) a.toNat (by omega)
  rw [show ((a.toNat : Nat) : Int) = a by omega, show ((b.toNat : Nat) : Int) = b by omega] at this
  exact Evp.bind this fun e he => Evp.pure _ (.inl ⟨h3, h4, h5, he⟩)
theorem impl_ClassJoin' {cs : List Cls} (hs : SmallC cs) (a b : Int) : Evp (fun k => impl_ClassJoin.f k cs a b) (JoinC cs a b) := by
  unfold impl_ClassJoin.f
  obtain ⟨x, hx, hx2⟩ := impl_isClass_eq cs a
  obtain ⟨y, hy, hy2⟩ := impl_isClass_eq cs b
  refine Evp.bind (impl_classesOk hs) fun c hc => Evp.ite (fun h => ?_) (fun h => Evp.pure _ (.inr ⟨fun h2 => h (hc.2 h2.1), rfl⟩))
  simp only [hx, hy, Option.bind_some]
  refine Evp.ite (fun h1 => ?_) (fun h1 => Evp.pure _ (.inr ⟨fun h2 => h1 (hx2.2 h2.2.1), rfl⟩))
  refine Evp.ite (fun h1' => ?_) (fun h1' => Evp.pure _ (.inr ⟨fun h2 => h1' (hy2.2 h2.2.2), rfl⟩))
  have h3 := hc.1 h
  have h4 := hx2.1 h1
  have h5 := hy2.1 h1'
  have hhi := h3.hi
  refine Evp.yes (by omega) ?_
  have ea : ((a.toNat : Nat) : Int) = a := by omega
  have eb : ((b.toNat : Nat) : Int) = b := by omega
  have key : ∀ d i : Nat, i + d = cs.length → ∀ xs : List Int, xs.length = cs.length → (∀ j : Nat, j < i → rd xs (j : Int) = (j : Int)) → Evp (fun k => impl_ClassJoin.l0 k cs a b xs (i : Int)) (JoinC cs a b) := by
    intro d
    induction d with
    | zero =>
      intro i hi xs hl hr
      have hn := near_evp h3 (a := a.toNat) (b := b.toNat) (by omega) (by omega) hl (fun j hj => hr j (by omega))
      rw [ea, eb] at hn
      refine Evp.step (f := fun k => _) (fun k => by rw [impl_ClassJoin.l0]) (Evp.no (by omega) (Evp.bind hn fun p hp => Evp.yes hp.1 (Evp.pure _ (.inl ⟨h3, h4, h5, hp.2⟩))))
    | succ d ih =>
      intro i hi xs hl hr
      have hil : i < cs.length := by omega
      refine Evp.step (f := fun k => _) (fun k => by rw [impl_ClassJoin.l0, w64' hil (by omega)]) (Evp.yes (by omega) (Evp.yes (by omega) (Evp.yes (by omega) ?_)))
      refine ih (i + 1) (by omega) (xs.set (i : Int).toNat (i : Int)) (by rw [List.length_set]; exact hl) (fun j hj => ?_)
      show (xs.set (i : Int).toNat (i : Int)).getD j 0 = (j : Int)
      rw [List.getD_eq_getElem?_getD, Int.toNat_natCast]
      rcases Nat.eq_or_lt_of_le (Nat.le_of_lt_succ hj) with rfl | hlt
      · rw [List.getElem?_set_self (by omega)]; rfl
      · rw [List.getElem?_set_ne (by omega), ← List.getD_eq_getElem?_getD]
        exact hr j hlt
  refine key cs.length 0 (by omega) _ (by rw [List.length_replicate]; omega) (fun j hj => absurd hj (Nat.not_lt_zero _))
end Go.Proofs.Ytgmjolngnhdafaa.Kit

end
section
namespace Go.Proofs.Ytgmjolngnhdafaa.P
open Go.RowKit Go.Proofs.YtgmjolngnhdafaaW.PrintWords Go.Proofs.YtgmjolngnhdafaaW.PrintLast Go.Proofs.YtgmjolngnhdafaaW.PrintMore
attribute [local go_sem] max2_int min2_int max_two min_two max_three min_three max_four min_four
set_option linter.unusedVariables false
set_option linter.unusedSimpArgs false

/-! ### spec_DrawClassFields: function 31 -/
def spec_DrawClassFields.f (k : Nat) (l0 : List Int) : Option ((List (S38)) × Int) := (spec_l6Open.f l0).bind fun bt279 => ((spec_l71Off.f k bt279.1 bt279.2).bind fun bt282 => ((spec_l6Rd_pick.f k bt279.1 bt282.2 (wrap64 ((bt282.1.length : Int) + 1))).bind fun bt286 => ((spec_l6Rd_pick.f k bt279.1 bt286.2 24).bind fun bt288 => (some (bt282.1, wrap64 (bt286.1 - (wrap64 (Int.tdiv bt288.1 23))))))))
theorem spec_DrawClassFields.mono : ∀ a0 k, LeO (spec_DrawClassFields.f k a0) (spec_DrawClassFields.f (k + 1) a0) := by
  intro a0 k
  unfold spec_DrawClassFields.f
  repeat' first
      | (with_reducible exact spec_l6Rd_pick.mono _ _ _ _)
      | (with_reducible exact spec_l71Off.mono _ _ _)
      | (with_reducible exact LeO.refl _)
      | (with_reducible exact LeO.none _)
      | (with_reducible refine LeO.ite ?_ ?_)
      | (with_reducible refine LeO.bind ?_ (fun _ => ?_))
      | exact spec_l6Rd_pick.mono _ _ _ _
      | exact spec_l71Off.mono _ _ _
      | exact LeO.none _
      | refine LeO.ite ?_ ?_
      | refine LeO.bind ?_ (fun _ => ?_)

end Go.Proofs.Ytgmjolngnhdafaa.P

end
section
namespace Go.Proofs.Ytgmjolngnhdafaa.P
open Go.RowKit Go.Proofs.YtgmjolngnhdafaaW.PrintWords Go.Proofs.YtgmjolngnhdafaaW.PrintLast Go.Proofs.YtgmjolngnhdafaaW.PrintMore
attribute [local go_sem] max2_int min2_int max_two min_two max_three min_three max_four min_four
set_option linter.unusedVariables false
set_option linter.unusedSimpArgs false

/-! ### laws_FnFieldsAbove: function 8 -/
def laws_FnFieldsAbove.j0 : Nat → List (S38) → Int → List Int → Bool → Option (Bool)
  | 0, _, _, _, _ => none
  | k + 1, x3, x4, x5, x33 => if x33 = true then ((spec_ClassFields.f k x3 x4).bind fun t335 => ((laws_leInts.f k x5 t335).bind fun t338 => (some t338))) else (if 0 ≤ x4 then (if x4 < (x3.length : Int) then ((impl_ClassFields.f k x3 ((rd_T38 x3 x4).f0)).bind fun t340 => ((some (([] : List Int) : List Int)).bind fun y343 => (if y343.length + t340.length < 17592186044416 then ((some (y343 ++ t340 : List Int)).bind fun y346 => (if y346.length + ((rd_T38 x3 x4).f1).length < 17592186044416 then ((laws_leInts.f k x5 (y346 ++ ((rd_T38 x3 x4).f1))).bind fun t353 => (some t353)) else (none))) else (none)))) else (none)) else (none))
def laws_FnFieldsAbove.f (k : Nat) (l0 : List Int) : Option (Bool) := if (l0.length : Int) > 1048576 then (some true) else ((spec_DrawClassFields.f k l0).bind fun bt323 => ((impl_ClassFields.f k bt323.1 bt323.2).bind fun t327 => ((spec_ClassFields.f k bt323.1 bt323.2).bind fun t330 => ((laws_leInts.f k t327 t330).bind fun t333 => (if t333 = true then ((laws_leIs.f k bt323.1 bt323.2).bind fun t334 => (if t334 = true then (laws_FnFieldsAbove.j0 k bt323.1 bt323.2 t327 (bt323.2 == 0)) else (laws_FnFieldsAbove.j0 k bt323.1 bt323.2 t327 true))) else (laws_FnFieldsAbove.j0 k bt323.1 bt323.2 t327 true))))))
theorem laws_FnFieldsAbove.mono_l : ∀ k, (∀ y0 y1 y2 y3, LeO (laws_FnFieldsAbove.j0 k y0 y1 y2 y3) (laws_FnFieldsAbove.j0 (k + 1) y0 y1 y2 y3))
  | 0 => fun _ _ _ _ r h => by simp [laws_FnFieldsAbove.j0] at h
  | k + 1 => by
    have ih0 := laws_FnFieldsAbove.mono_l k
    · intro y0 y1 y2 y3
      unfold laws_FnFieldsAbove.j0
      repeat' first
      | (with_reducible exact ih0 _ _ _ _)
      | (with_reducible exact impl_ClassFields.mono _ _ _)
      | (with_reducible exact laws_leInts.mono _ _ _)
      | (with_reducible exact laws_leIs.mono _ _ _)
      | (with_reducible exact spec_ClassFields.mono _ _ _)
      | (with_reducible exact spec_DrawClassFields.mono _ _)
      | (with_reducible exact LeO.refl _)
      | (with_reducible exact LeO.none _)
      | (with_reducible refine LeO.ite ?_ ?_)
      | (with_reducible refine LeO.bind ?_ (fun _ => ?_))
      | exact ih0 _ _ _ _
      | exact impl_ClassFields.mono _ _ _
      | exact laws_leInts.mono _ _ _
      | exact laws_leIs.mono _ _ _
      | exact spec_ClassFields.mono _ _ _
      | exact spec_DrawClassFields.mono _ _
      | exact LeO.none _
      | refine LeO.ite ?_ ?_
      | refine LeO.bind ?_ (fun _ => ?_)
theorem laws_FnFieldsAbove.mono : ∀ a0 k, LeO (laws_FnFieldsAbove.f k a0) (laws_FnFieldsAbove.f (k + 1) a0) := by
  intro a0 k
  have ih0 := laws_FnFieldsAbove.mono_l k
  unfold laws_FnFieldsAbove.f
  repeat' first
      | (with_reducible exact ih0 _ _ _ _)
      | (with_reducible exact impl_ClassFields.mono _ _ _)
      | (with_reducible exact laws_leInts.mono _ _ _)
      | (with_reducible exact laws_leIs.mono _ _ _)
      | (with_reducible exact spec_ClassFields.mono _ _ _)
      | (with_reducible exact spec_DrawClassFields.mono _ _)
      | (with_reducible exact LeO.refl _)
      | (with_reducible exact LeO.none _)
      | (with_reducible refine LeO.ite ?_ ?_)
      | (with_reducible refine LeO.bind ?_ (fun _ => ?_))
      | exact ih0 _ _ _ _
      | exact impl_ClassFields.mono _ _ _
      | exact laws_leInts.mono _ _ _
      | exact laws_leIs.mono _ _ _
      | exact spec_ClassFields.mono _ _ _
      | exact spec_DrawClassFields.mono _ _
      | exact LeO.none _
      | refine LeO.ite ?_ ?_
      | refine LeO.bind ?_ (fun _ => ?_)

/-- THE ONE PURE STATEMENT of laws_FnFieldsAbove: yours. -/
def laws_FnFieldsAbove.Pure : Prop := ∀ (l0 : List Int), l0.length ≤ maxLen → l0.length * 1 ≤ 140737488351232 → (∀ x ∈ l0, (Lit.int .u8 x).wf = true) → ∃ k, laws_FnFieldsAbove.f k l0 = some true
end Go.Proofs.Ytgmjolngnhdafaa.P

end
section
namespace Go.Proofs.Ytgmjolngnhdafaa.Kit
open Go Go.RowKit Go.Proofs.YtgmjolngnhdafaaW.PrintWords Go.Proofs.Ytgmjolngnhdafaa.P
set_option linter.unusedVariables false
theorem leInts_same {l : List Int} (hl : l.length ≤ 1048576) : Evp (fun k => laws_leInts.f k l l) (fun r => r = true) := by
  unfold laws_leInts.f
  refine Evp.yes rfl ?_
  refine Evp.for_ (n := l.length) (g := fun i k => laws_leInts.l0 k l l (i : Int)) (R := fun _ r => r = true) ?_ (fun i hi ih => ?_) 0 (Nat.zero_le _)
  · exact Evp.step (f := fun k => _) (fun k => by rw [laws_leInts.l0]) (Evp.no (by omega) (Evp.pure _ rfl))
  · refine Evp.step (f := fun k => _) (fun k => by rw [laws_leInts.l0]) (Evp.yes (by omega) (Evp.yes (by omega) (Evp.yes (by omega) (Evp.yes rfl ?_))))
    rw [w64' hi (by omega)]
    exact ih
theorem drawFields_evp {l : List Int} (h : ∀ x ∈ l, (Lit.int .u8 x).wf = true) :
    Evp (fun k => spec_DrawClassFields.f k l) (fun r => Drawn 4 9 r.1 ∧ (-1 ≤ r.2 ∧ r.2 ≤ 10)) := by
  obtain ⟨bs, ho, hb⟩ := open_evp h
  unfold spec_DrawClassFields.f
  simp only [ho, Option.bind_some]
  refine Evp.bind (off_evp hb (by omega) (by omega)) fun d hd => ?_
  obtain ⟨hd1, hd2, hd3⟩ := hd
  have hl := hd1.1
  have hl9 := hd1.2.1
  rw [w64 (by omega) (by omega)]
  refine Evp.bind (pick_evp hb hd2 (by omega) (by omega)) fun a ha => Evp.bind (pick_evp hb (by omega) (by omega) (by omega)) fun b hb' => Evp.pure _ ⟨hd1, ?_⟩
  have h1 := ha.2.1 (by omega)
  have h2 := hb'.2.1 (by omega)
  have h3 := ha.1
  have h4 := hb'.1
  dsimp only
  rw [tdiv_pos h4, w64 (n := b.1 / 23) (by omega) (by omega), w64 (by omega) (by omega)]
  omega
end Go.Proofs.Ytgmjolngnhdafaa.Kit
namespace Go.Proofs.Ytgmjolngnhdafaa.Pure
open Go Go.RowKit Go.Proofs.YtgmjolngnhdafaaW.PrintWords Go.Proofs.Ytgmjolngnhdafaa.P Go.Proofs.Ytgmjolngnhdafaa.Kit
theorem FnFieldsAbove : laws_FnFieldsAbove.Pure := by
  intro l0 _ _ hb
  refine Evp.rounds ?_
  unfold laws_FnFieldsAbove.f
  refine Evp.ite (fun _ => Evp.pure _ rfl) (fun _ => Evp.bind (drawFields_evp hb) fun d hd => ?_)
  have hs : SmallC d.1 := hd.1.small (by decide) (by decide)
  refine Evp.bind (impl_ClassFields' hs _) fun u hu => Evp.bind (spec_ClassFields' hs _) fun v hv => ?_
  have e := hu.fn hv
  subst e
  have hlen : u.length ≤ 1048576 := Nat.le_trans hu.1 (by decide)
  refine Evp.bind (leInts_same hlen) fun t ht => Evp.yes ht ?_
  have j : ∀ x : Bool, (x = false → (ClsOk d.1 ∧ 0 ≤ d.2 ∧ d.2 < (d.1.length : Int)) ∧ d.2 ≠ 0) → Evp (fun k => laws_FnFieldsAbove.j0 k d.1 d.2 u x) (fun r => r = true) := by
    intro x hx
    refine Evp.step (f := fun k => _) (fun k => by rw [laws_FnFieldsAbove.j0]) ?_
    cases x with
    | true =>
      refine Evp.yes rfl (Evp.bind (spec_ClassFields' hs _) fun v' hv' => ?_)
      rw [← hu.fn hv']
      exact Evp.bind (leInts_same hlen) fun t ht => Evp.pure _ ht
    | false =>
      obtain ⟨⟨hok, ha, ha'⟩, hne⟩ := hx rfl
      refine Evp.no (by decide) (Evp.yes ha (Evp.yes ha' ?_))
      obtain ⟨p, hp, hlt⟩ := hok.sup_nat (i := d.2.toNat) (by omega) (by omega)
      have e0 : (rd_T38 d.1 d.2).f0 = (p : Int) := hp
      have e1 : (rd_T38 d.1 d.2).f1 = flds d.1 d.2.toNat := rfl
      have hl2 := hok.len2 (i := d.2.toNat) (by omega)
      rw [e0, e1]
      refine Evp.bind (impl_ClassFields' hs _) fun w hw => ?_
      have hw10 := hw.1
      simp only [Option.bind_some]
      refine Evp.yes (by simp; omega) (Evp.yes (by simp; omega) ?_)
      rw [List.nil_append]
      have : u = w ++ flds d.1 d.2.toNat := by
        rcases hu.2 with h1 | h1
        · rcases hw.2 with h2 | h2
          · have := Flds.step p (by omega) hp (by have := h2.2.2; rwa [Int.toNat_natCast] at this)
            exact h1.2.2.fn this
          · exact absurd ⟨hok, by omega, by omega⟩ h2.1
        · exact absurd ⟨hok, ha, ha'⟩ h1.1
      rw [← this]
      exact Evp.bind (leInts_same hlen) fun t ht => Evp.pure _ ht
  refine Evp.bind (is_evp hs _) fun p hp => Evp.ite (fun h => j _ (fun h' => ⟨hp.1 h, by simpa using h'⟩)) (fun _ => j _ (fun h => by cases h))
end Go.Proofs.Ytgmjolngnhdafaa.Pure

end
section
namespace Go.Proofs.Ytgmjolngnhdafaa.Kit
open Go Go.RowKit Go.Proofs.YtgmjolngnhdafaaW.PrintWords Go.Proofs.Ytgmjolngnhdafaa.P
set_option linter.unusedVariables false
theorem more_at {cs : List Cls} {x : Cls} {i : Nat} (hi : i < cs.length) : (cs ++ [x]).getD i z38 = cs.getD i z38 := by
  rw [List.getD_eq_getElem?_getD, List.getD_eq_getElem?_getD, List.getElem?_append_left hi]
theorem more_last {cs : List Cls} {x : Cls} : (cs ++ [x]).getD cs.length z38 = x := by
  rw [List.getD_eq_getElem?_getD, List.getElem?_append_right (Nat.le_refl _), Nat.sub_self]; rfl
theorem more_sup {cs : List Cls} {x : Cls} {i : Nat} (hi : i < cs.length) : sup (cs ++ [x]) i = sup cs i := by unfold sup; rw [more_at hi]
theorem more_flds {cs : List Cls} {x : Cls} {i : Nat} (hi : i < cs.length) : flds (cs ++ [x]) i = flds cs i := by unfold flds; rw [more_at hi]
theorem more_supL {cs : List Cls} {x : Cls} : sup (cs ++ [x]) cs.length = x.f0 := by unfold sup; rw [more_last]
theorem more_fldsL {cs : List Cls} {x : Cls} : flds (cs ++ [x]) cs.length = x.f1 := by unfold flds; rw [more_last]
theorem more_ok {cs : List Cls} (h : ClsOk cs) (hl : cs.length < 5) {a : Int} (h0 : 0 ≤ a) (h1 : a < (cs.length : Int)) : ClsOk (cs ++ [⟨a, [1]⟩]) := by
  have hlo := h.lo
  have e : (cs ++ [(⟨a, [1]⟩ : Cls)]).length = cs.length + 1 := by simp
  refine ⟨by omega, by omega, ?_, ?_, fun i h2 hi => ?_, fun i hi t ht => ?_⟩
  · rw [more_sup (by omega), more_flds (by omega)]; exact h.root
  · rw [more_sup (by omega), more_flds (by omega)]; exact h.fail
  · rcases Nat.lt_or_ge i cs.length with h3 | h3
    · rw [more_sup h3, more_flds h3]; exact h.up i h2 h3
    · have : i = cs.length := by omega
      subst this
      rw [more_supL, more_fldsL]
      exact ⟨h0, h1, by show (1 : Nat) ≤ 2; decide⟩
  · rcases Nat.lt_or_ge i cs.length with h3 | h3
    · rw [more_flds h3] at ht
      have := h.fld i h3 t ht
      unfold FieldTy at this ⊢
      omega
    · have : i = cs.length := by omega
      subst this
      rw [more_fldsL, List.mem_singleton] at ht
      exact .inl ht
theorem more_up {cs : List Cls} (h : ClsOk cs) {x : Cls} {i j : Nat} (hi : i < cs.length) : Up (cs ++ [x]) i j ↔ Up cs i j := by
  constructor
  · intro hu
    induction hu with
    | refl => exact .refl _
    | @step i j p hp _ ih =>
      rw [more_sup hi] at hp
      rcases Nat.eq_zero_or_pos i with h0 | h0
      · subst h0
        have := h.root.1
        omega
      · have := h.sup_pos h0 hi
        exact .step p hp (ih (by omega))
  · intro hu
    induction hu with
    | refl => exact .refl _
    | @step i j p hp _ ih =>
      rcases Nat.eq_zero_or_pos i with h0 | h0
      · subst h0
        have := h.root.1
        omega
      · have := h.sup_pos h0 hi
        exact .step p (by rw [more_sup hi]; exact hp) (ih (by omega))
theorem more_fl {cs : List Cls} (h : ClsOk cs) {x : Cls} {i : Nat} {l : List Int} (hi : i < cs.length) (hf : Flds cs i l) : Flds (cs ++ [x]) i l := by
  induction hf with
  | root => exact .root
  | @step c l p hc hp _ ih =>
    have := h.sup_pos (i := c) (by omega) hi
    rw [← more_flds (x := x) hi]
    exact .step p hc (by rw [more_sup hi]; exact hp) (ih (by omega))
end Go.Proofs.Ytgmjolngnhdafaa.Kit
namespace Go.Proofs.Ytgmjolngnhdafaa.Pure
open Go Go.RowKit Go.Proofs.YtgmjolngnhdafaaW.PrintWords Go.Proofs.Ytgmjolngnhdafaa.P Go.Proofs.Ytgmjolngnhdafaa.Kit
theorem FnClassesMore : laws_FnClassesMore.Pure := by
  intro l0 _ _ hb
  refine Evp.rounds ?_
  unfold laws_FnClassesMore.f
  refine Evp.ite (fun _ => Evp.pure _ rfl) (fun _ => Evp.bind (drawUp_evp hb) fun d hd => ?_)
  obtain ⟨cs, a, b⟩ := d
  obtain ⟨hd, hda, hdb⟩ := hd
  dsimp only at hd hda hdb ⊢
  have hs : SmallC cs := hd.small (by decide) (by decide)
  refine Evp.bind (impl_ClassUp' hs _ _) fun u hu => Evp.bind (spec_ClassUp' hs _ _) fun v hv => Evp.no (bne_no hv hu) ?_
  have j : ∀ x : Bool, (x = false → (ClsOk cs ∧ 0 ≤ a ∧ a < (cs.length : Int)) ∧ (ClsOk cs ∧ 0 ≤ b ∧ b < (cs.length : Int)) ∧ cs.length ≠ 5) → Evp (fun k => laws_FnClassesMore.j0 k cs a b u x) (fun r => r = true) := by
    intro x hx
    refine Evp.step (f := fun k => _) (fun k => by rw [laws_FnClassesMore.j0]) ?_
    cases x with
    | true => exact Evp.yes rfl (Evp.bind (spec_ClassUp' hs _ _) fun v' hv' => Evp.pure _ (by rw [same_of hu hv']; simp))
    | false =>
      obtain ⟨⟨hok, ha, ha'⟩, ⟨_, hb0, hb1⟩, h5⟩ := hx rfl
      have hhi := hok.hi
      have hl : cs.length < 5 := by omega
      refine Evp.no (by decide) ?_
      simp only [Option.bind_some, List.nil_append]
      refine Evp.yes (by simp; omega) (Evp.yes (by omega) ?_)
      have hok' := more_ok hok hl ha ha'
      have hs' : SmallC (cs ++ [⟨a, [1]⟩]) := (hd.snoc (x := ⟨a, [1]⟩) ⟨by show (1 : Nat) ≤ 4; decide, Few.nil.snoc (t := 1) (by decide) (by decide)⟩).small (by decide) (by decide)
      have e : (cs ++ [(⟨a, [1]⟩ : Cls)]).length = cs.length + 1 := by simp
      have hsupL : sup (cs ++ [(⟨a, [1]⟩ : Cls)]) cs.length = ((a.toNat : Nat) : Int) := by rw [more_supL]; show a = _; omega
      have rng : ∀ c : Int, 0 ≤ c → c < (cs.length : Int) → 0 ≤ c ∧ c < ((cs ++ [(⟨a, [1]⟩ : Cls)]).length : Int) := fun c h0 h1 => by omega
      have rngL : 0 ≤ (cs.length : Int) ∧ (cs.length : Int) < ((cs ++ [(⟨a, [1]⟩ : Cls)]).length : Int) := by omega
      have hA : a.toNat < cs.length := by omega
      have hB : b.toNat < cs.length := by omega
      have upL : ∀ c : Nat, c < cs.length → (Up (cs ++ [(⟨a, [1]⟩ : Cls)]) cs.length c ↔ Up cs a.toNat c) := fun c hc => (Up.via hsupL (by omega)).trans (more_up hok hA)
      generalize hX : cs ++ [(⟨a, [1]⟩ : Cls)] = X at *
      refine Evp.bind (impl_classesOk hs') fun t1 h1 => Evp.yes (h1.2 hok') ?_
      refine Evp.bind (impl_ClassUp' hs' _ _) fun t2 h2 => Evp.yes ?_ ?_
      · have : t2 = u := same_of (h2.trans ⟨fun q => ⟨hok, ⟨ha, ha'⟩, ⟨hb0, hb1⟩, by have := q.2.2.2; rw [← hX] at this; exact (more_up hok hA).1 this⟩, fun q => ⟨hok', rng _ ha ha', rng _ hb0 hb1, by rw [← hX]; exact (more_up hok hA).2 q.2.2.2⟩⟩) hu
        rw [this]; simp
      refine Evp.bind (impl_ClassFields' hs' _) fun t3 h3 => Evp.bind (impl_ClassFields' hs _) fun t4 h4 => ?_
      have e34 : t3 = t4 := by
        rcases h4.2 with q | q
        · exact h3.fn ⟨h4.1, .inl ⟨hok', rng _ ha ha', by rw [← hX]; exact more_fl hok hA q.2.2⟩⟩
        · exact absurd ⟨hok, ha, ha'⟩ q.1
      subst e34
      refine Evp.bind (leInts_same (Nat.le_trans h3.1 (by decide))) fun t5 h5' => Evp.yes h5' ?_
      refine Evp.bind (impl_ClassUp' hs' _ _) fun t6 h6 => Evp.yes (h6.2 ⟨hok', rngL, rng _ ha ha', by rw [Int.toNat_natCast]; exact (upL _ hA).2 (.refl _)⟩) ?_
      refine Evp.bind (impl_ClassUp' hs' _ _) fun t7 h7 => Evp.yes ?_ ?_
      · have : t7 = u := same_of (h7.trans ⟨fun q => ⟨hok, ⟨ha, ha'⟩, ⟨hb0, hb1⟩, by have := q.2.2.2; rw [Int.toNat_natCast] at this; exact (upL _ hB).1 this⟩, fun q => ⟨hok', rngL, rng _ hb0 hb1, by rw [Int.toNat_natCast]; exact (upL _ hB).2 q.2.2.2⟩⟩) hu
        rw [this]; simp
      refine Evp.bind (impl_ClassJoin' hs' _ _) fun t8 h8 => Evp.bind (impl_ClassJoin' hs _ _) fun t9 h9 => Evp.pure _ ?_
      have : t8 = t9 := by
        rcases h9 with ⟨_, _, _, c, rfl, hc⟩ | q
        · have hcl := hc.1.le hok hA
          refine h8.fn (.inl ⟨hok', rngL, rng _ hb0 hb1, c, rfl, ?_, ?_, fun x hx1 hx2 => ?_⟩)
          · rw [Int.toNat_natCast]; exact (upL _ (by omega)).2 hc.1
          · rw [← hX]; exact (more_up hok hB).2 hc.2.1
          · have hxb := hx2.le hok' (by omega)
            rw [Int.toNat_natCast] at hx1
            have hx3 := (upL _ (by omega)).1 hx1
            rw [← hX] at hx2 ⊢
            exact (more_up hok (by omega)).2 (hc.2.2 _ hx3 ((more_up hok hB).1 hx2))
        · exact absurd ⟨hok, ⟨ha, ha'⟩, ⟨hb0, hb1⟩⟩ q.1
      rw [this]; simp
  refine Evp.bind (is_evp hs _) fun p hp => Evp.ite (fun h => Evp.bind (is_evp hs _) fun q hq => Evp.ite (fun h2 => j _ (fun h' => ⟨hp.1 h, hq.1 h2, ?_⟩)) (fun _ => j _ (fun h => by cases h))) (fun _ => j _ (fun h => by cases h))
  intro e5
  rw [e5] at h'
  simp at h'
end Go.Proofs.Ytgmjolngnhdafaa.Pure

end
section
namespace Go.Proofs.Ytgmjolngnhdafaa.fnClassesMore
open Go.ChangeShapes Go.WideShapes Go.ChangeAt Go.RowKit
open Go.ChangeMaps (open_string shut_string)
set_option linter.unusedVariables false
theorem own : ownKnob Try.prog.godebug = none := by kernel_rfl
theorem laidOut : laidOutB Try.prog = true := by kernel_rfl
def IsRow (k : IntKind) (w : World) (a : Option Addr) (len cap : Nat) (zs : List Int) : Prop :=
  (a = none ∧ len = 0 ∧ cap = 0 ∧ zs = []) ∨
  ∃ x, a = some x ∧ len ≤ cap ∧ cap ≤ maxLen ∧ zs.length = cap ∧ (∀ i, i < zs.length → w.cell? (x.add i) = some (.int k (zs.getD i 0))) ∧ ∀ n ∈ zs, (Lit.int k n).wf = true
set_option maxRecDepth 100000 in
theorem lifted (os : Os) (started : os.Started) (H : Type) (enc : TypeId × Value → H) :
    ReturnsInHanded {} Try.checked os 16 .any (Rows.fnClassesMoreSpec.pre6 enc Try.prog Try.f16 Rows.fnClassesMoreRow.domain false) (Rows.fnClassesMoreSpec.post enc Try.prog Try.f16 false true false false) := by
  refine returnsInHanded_of_change_sized (C := Try.checked) own started (by kernel_rfl) Try.func16
    (ChangeSpec.witness6 (enc := enc) (C := Try.checked) false ⟨#[], #[.slice none 0 0], []⟩ 8 (by kernel_rfl) (by kernel_rfl) (by kernel_rfl) (by kernel_rfl)) ?_
  intro W base args ds gs before hval0 hW hcnd hsz0 _
  have hsz : (DataW.weightsEach Try.prog (Try.f16.params.toList ++ Rows.fnClassesMoreSpec.plain.varTypes Try.prog) (ds ++ gs)).all (· ≤ reachBytes) = true := hsz0
  have hval : ∀ (j : Nat) t v, Try.f16.params[j]? = some t → args[j]? = some v → Value.okWide Try.prog W .any base t v := hval0
  have hW' := hW
  obtain ⟨p, q, hA0, hV, rfl, hfz, hnd⟩ := hW
  have hA : DataW.TrodAll enc Try.prog W 0 (fun _ => true) true Try.f16.params.toList args.toList ds p := hA0
  rw [Try.params16] at hA hval hsz
  obtain ⟨v0, vs0, d0, ds0, p0, q0, hargs, rfl, rfl, h0, r0⟩ := trodAll_cons hA
  obtain ⟨rfl, rfl, rfl⟩ := trodAll_nil r0
  obtain rfl : args = #[v0] := by cases args; simp_all
  obtain ⟨rfl, rfl⟩ := trodVars_none hV
  obtain ⟨a0, len0, cap0, rfl⟩ := okWide_slice Try.underlying31 (hval 0 31 v0 rfl rfl)
  have k0 := h0
  have lt0 : ∀ x ∈ p0, x.block < W.heap.size := by obtain ⟨m, hm⟩ := k0; exact DataW.trod_lt m _ _ _ hm
  obtain ⟨z0, w0⟩ : ∃ zs, IsRow .u8 W a0 len0 cap0 zs := by
    obtain ⟨fuel, hf⟩ := h0
    rcases open_ints Try.underlying31 Try.underlying5 (by kernel_rfl) hf with ⟨hcs, _⟩ | ⟨x, l, c, zs, hcs, _, hl, hm, hz, _, hcell, hwz⟩
    · simp [Value.cells] at hcs
      obtain ⟨rfl, rfl, rfl⟩ := hcs
      exact ⟨[], .inl ⟨rfl, rfl, rfl, rfl⟩⟩
    · simp [Value.cells] at hcs
      obtain ⟨rfl, rfl, rfl⟩ := hcs
      exact ⟨zs, .inr ⟨_, rfl, hl, hm, by simpa using hz, hcell, hwz⟩⟩
  have y0 : len0 * 1 ≤ 140737488351232 := Go.Proofs.YtgmjolngnhdafaaW.PrintWords.sized_ints hsz (j := 0) (t := 31) rfl rfl Try.underlying31 Try.underlying5 (by kernel_rfl) (by kernel_rfl) h0
  clear hA0 hval0 hsz0 hsz
  refine (P.laws_FnClassesMore.walk Pure.FnClassesMore a0 len0 cap0 z0 W w0 y0).mono fun e W' ⟨he, bel⟩ => ?_
  subst he
  exact ⟨_, rfl, _, _, _, [], _, [], hW', trodAll_mk1 (shut_bool Try.underlying4 _), (trodAll_cons_mk (Below.trod laidOut (by kernel_rfl) (of_decide_eq_true (by kernel_rfl)) k0 bel lt0) trodAll_mk0), rfl, bel.frame _, fun h => by cases h⟩
theorem over : Rows.fnClassesMoreRow.holds Try.pinned (OpenSpec.ofChange Rows.fnClassesMoreSpec) :=
  OpenClaim.holds_of_wide 16 Try.f16 rfl rfl rfl rfl rfl rfl rfl ⟨rfl, rfl, rfl, rfl, rfl⟩ rfl rfl rfl rfl rfl (by kernel_rfl) Try.func16 (by show joinedFacts Try.prog _ _ _ _ = true; unfold joinedFacts; rw [Go.Proofs.Ytgmjolngnhdafaa.enter, Go.Proofs.Ytgmjolngnhdafaa.make, Go.Proofs.Ytgmjolngnhdafaa.lifts]; kernel_rfl)
    (of_decide_eq_true (by kernel_rfl)) (by unfold Func.isWrapper; first | (rw [if_pos (by decide +kernel)]; kernel_rfl) | (rw [if_neg (by decide +kernel)]; exact ⟨rfl, rfl⟩))
    (fun os started H enc _ => lifted os started H enc)
theorem proved : Rows.FnClassesMoreSaid := over
#print axioms proved
end Go.Proofs.Ytgmjolngnhdafaa.fnClassesMore
namespace Go.Proofs.Ytgmjolngnhdafaa
/-- The row, under a short name, for the claim. -/
theorem fnClassesMore_holds : Rows.FnClassesMoreSaid := fnClassesMore.proved
end Go.Proofs.Ytgmjolngnhdafaa

end
