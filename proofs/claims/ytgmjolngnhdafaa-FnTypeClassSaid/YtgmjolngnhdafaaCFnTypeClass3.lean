/- FnTypeClass: of all drawn classes types of classes stand as the classes do, arrays stand where the root is told, the null where any class is. -/
import Derived.Test.YtgmjolngnhdafaaCFnTypeClass2
import Derived.Test.YtgmjolngnhdafaaCFnTypeClass0
import Derived.Test.YtgmjolngnhdafaaRows
import Derived.WalkKit
import Derived.ProofKit
import Derived.OpenShut
import Derived.ShutString
import Derived.ChangeOld
import Derived.Below
import Derived.SizedLaws
import Derived.Test.YtgmjolngnhdafaaWSized
import Derived.Test.YtgmjolngnhdafaaCFnTypeClass1
section
namespace Go.Proofs.Ytgmjolngnhdafaa.Kit
open Go Go.RowKit Go.Proofs.YtgmjolngnhdafaaW.PrintWords Go.Proofs.Ytgmjolngnhdafaa.P
set_option linter.unusedVariables false
theorem iff_no {p : Prop} (h : ¬ p) : (false = true) ↔ p := ⟨fun h2 => (by cases h2), fun h2 => absurd h2 h⟩
theorem iff_yes {p : Prop} (h : p) : (true = true) ↔ p := ⟨fun _ => h, fun _ => rfl⟩
theorem Up.via {cs : List Cls} {a b p : Nat} (hp : sup cs a = (p : Int)) (hne : a ≠ b) : Up cs a b ↔ Up cs p b := by
  constructor
  · intro h
    rcases h.inv with rfl | ⟨q, hq, h2⟩
    · exact absurd rfl hne
    · have : p = q := by omega
      subst this
      exact h2
  · intro h; exact .step p hp h
theorem spec_up {cs : List Cls} (h : ClsOk cs) (b : Nat) : ∀ a : Nat, a < cs.length → Evp (fun k => spec_l2Up.f k cs (a : Int) (b : Int)) (fun r => r = true ↔ Up cs a b) := by
  intro a
  induction a using Nat.strongRecOn with
  | _ a ih =>
    intro ha
    unfold spec_l2Up.f at ih ⊢
    refine Evp.step (f := fun k => _) (fun k => by rw [spec_l2Up.l0, rdSup]) (Evp.ite (fun hab => ?_) (fun hab => Evp.pure _ ?_))
    · obtain ⟨p, hp, hlt⟩ := h.sup_nat (by omega : 1 ≤ a) ha
      refine Evp.yes (by omega) (Evp.yes (by omega) ?_)
      rw [hp]
      exact (ih p hlt (by omega)).mono fun r hr => hr.trans (Up.via hp (by omega)).symm
    · rw [beq_iff_eq]
      constructor
      · intro h2
        have : a = b := by omega
        subst this; exact .refl _
      · intro h2
        have := h2.le h ha
        omega
theorem impl_up {cs : List Cls} (h : ClsOk cs) (b : Nat) : ∀ a : Nat, a < cs.length → Evp (fun k => impl_classUp.f k cs (a : Int) (b : Int)) (fun r => r = true ↔ Up cs a b) := by
  intro a
  induction a using Nat.strongRecOn with
  | _ a ih =>
    intro ha
    unfold impl_classUp.f at ih ⊢
    refine Evp.step (f := fun k => _) (fun k => by rw [impl_classUp.l0, rdSup]) (Evp.yes (by omega) (Evp.ite (fun hab => Evp.pure _ ?_) (fun hab => ?_)))
    · have : a = b := by omega
      subst this
      exact iff_yes (.refl _)
    · refine Evp.yes (by omega) (Evp.yes (by omega) ?_)
      rcases Nat.eq_zero_or_pos a with h0 | h0
      · subst h0
        rw [h.root.1]
        refine Evp.step (f := fun k => _) (fun k => by rw [impl_classUp.l0]) (Evp.no (by omega) (Evp.pure _ (iff_no ?_)))
        intro h2
        have := h2.le h ha
        omega
      · obtain ⟨p, hp, hlt⟩ := h.sup_nat h0 ha
        rw [hp]
        exact (ih p hlt (by omega)).mono fun r hr => hr.trans (Up.via hp (by omega)).symm
/-- A type of so many classes. -/
def TyOk (n : Nat) (t : Int) : Prop := t = 0 ∨ t = 2 ∨ FieldTy n t
theorem tyOk_iff {n : Nat} {t : Int} : TyOk n t ↔ (0 ≤ t ∧ t ≤ 4) ∨ (8 ≤ t ∧ t < 8 + (n : Int)) := by
  unfold TyOk FieldTy
  omega
theorem kindOf_ty {n : Nat} {t : Int} (hn : n ≤ 1000000000) (h0 : -9223372036854775808 ≤ t) (h1 : t ≤ 9223372036854775807) :
    ∃ r, impl_kindOf.f (n : Int) t = some r ∧ (TyOk n t ∧ r = t ∨ ¬ TyOk n t ∧ r = -1) := by
  refine ⟨_, kindOf_eq hn h0 h1, ?_⟩
  rw [tyOk_iff]
  by_cases h : (0 ≤ t ∧ t ≤ 4) ∨ (8 ≤ t ∧ t < 8 + (n : Int))
  · rw [if_pos h]; exact .inl ⟨h, rfl⟩
  · rw [if_neg h]; exact .inr ⟨h, rfl⟩
theorem spec_typeOk {cs : List Cls} (hs : SmallC cs) (t : Int) : Evp (fun k => spec_TypeOk.f k cs t) (fun r => r = true ↔ ClsOk cs ∧ TyOk cs.length t) := by
  have hl0 := hs.1
  unfold spec_TypeOk.f
  refine Evp.bind (spec_classesOk hs) fun b hb => Evp.ite (fun h => ?_) (fun h => Evp.pure _ (iff_no fun h2 => h (hb.2 h2.1)))
  refine Evp.ite (fun h0 => Evp.pure _ (iff_yes ⟨hb.1 h, .inl h0⟩)) (fun h0 => Evp.ite (fun h2 => Evp.pure _ (iff_yes ⟨hb.1 h, .inr (.inl h2)⟩)) (fun h2 => ?_))
  obtain ⟨c, hc, hc2⟩ := field_eq (cs := cs) (t := t) (by omega)
  simp only [hc, Option.bind_some]
  refine Evp.pure _ (hc2.trans ⟨fun h3 => ⟨hb.1 h, .inr (.inr h3)⟩, fun h3 => ?_⟩)
  rcases h3.2 with h4 | h4 | h4
  · exact absurd h4 h0
  · exact absurd h4 h2
  · exact h4
theorem impl_typeOk {cs : List Cls} (hs : SmallC cs) {t : Int} (ht0 : -9223372036854775808 ≤ t) (ht1 : t ≤ 9223372036854775807) : Evp (fun k => impl_TypeOk.f k cs t) (fun r => r = true ↔ ClsOk cs ∧ TyOk cs.length t) := by
  have hl0 := hs.1
  unfold impl_TypeOk.f
  refine Evp.bind (impl_classesOk hs) fun b hb => Evp.ite (fun h => ?_) (fun h => Evp.pure _ (iff_no fun h2 => h (hb.2 h2.1)))
  obtain ⟨c, hc, hc2⟩ := kindOf_ty (n := cs.length) (by omega) ht0 ht1
  simp only [hc, Option.bind_some]
  refine Evp.pure _ ?_
  rcases hc2 with ⟨h1, rfl⟩ | ⟨h1, rfl⟩
  · have := tyOk_iff.1 h1
    rw [bne_iff_ne]
    exact ⟨fun _ => ⟨hb.1 h, h1⟩, fun _ => by omega⟩
  · exact iff_no fun h2 => h1 h2.2
/-- A value of the one type is one of the other. -/
def TyIn (cs : List Cls) (a b : Int) : Prop := a = b ∨ b = 0 ∨ (a = 2 ∧ 2 ≤ b) ∨ ((a = 3 ∨ a = 4) ∧ b = 8) ∨ (8 ≤ a ∧ 8 ≤ b ∧ Up cs (a - 8).toNat (b - 8).toNat)
theorem spec_tyIn {cs : List Cls} (hs : SmallC cs) (h : ClsOk cs) {a b : Int} (ha : TyOk cs.length a) (hb : TyOk cs.length b) : Evp (fun k => spec_l2In.f k cs a b) (fun r => r = true ↔ TyIn cs a b) := by
  have hl0 := hs.1
  have ha' := tyOk_iff.1 ha
  have hb' := tyOk_iff.1 hb
  unfold spec_l2In.f
  have j0t : TyIn cs a b → Evp (fun k => spec_l2In.j0 k cs a b true) (fun r => r = true ↔ TyIn cs a b) := fun h =>
    Evp.step (f := fun k => _) (fun k => by rw [spec_l2In.j0]) (Evp.yes rfl (Evp.pure _ (iff_yes h)))
  have j1t : ¬ TyIn cs a b → Evp (fun k => spec_l2In.j1 k cs a b true) (fun r => r = true ↔ TyIn cs a b) := fun h =>
    Evp.step (f := fun k => _) (fun k => by rw [spec_l2In.j1]) (Evp.yes rfl (Evp.pure _ (iff_no h)))
  refine Evp.ite (fun h1 => j0t (.inl h1)) (fun h1 => ?_)
  by_cases h2 : b = 0
  · rw [h2, show ((0 : Int) == 0) = true from rfl, ← h2]; exact j0t (.inr (.inl h2))
  rw [show (b == 0) = false from beq_eq_false_iff_ne.2 h2]
  refine Evp.step (f := fun k => _) (fun k => by rw [spec_l2In.j0, spec_l2Ref.f, spec_l2Ref.f, Option.bind_some, Option.bind_some]) (Evp.no (by decide) (Evp.ite (fun h3 => Evp.pure _ ?_) (fun h3 => Evp.ite (fun h4 => ?_) (fun h4 => j1t ?_))))
  · rw [decide_eq_true_iff]
    unfold TyIn
    constructor
    · intro h4; exact .inr (.inr (.inl ⟨h3, by omega⟩))
    · intro h4; omega
  · rw [decide_eq_true_iff] at h4
    by_cases h5 : b < 8
    · rw [decide_eq_true h5]
      refine j1t ?_
      unfold TyIn
      omega
    · rw [decide_eq_false h5]
      refine Evp.step (f := fun k => _) (fun k => by rw [spec_l2In.j1]) (Evp.no (by decide) (Evp.ite (fun h6 => Evp.pure _ ?_) (fun h6 => ?_)))
      · rw [beq_iff_eq]
        unfold TyIn
        constructor
        · intro h7; exact .inr (.inr (.inr (.inl ⟨by omega, h7⟩)))
        · intro h7; omega
      · rw [w64 (n := a - 8) (by omega) (by omega), w64 (n := b - 8) (by omega) (by omega), show a - 8 = (((a - 8).toNat : Nat) : Int) by omega, show b - 8 = (((b - 8).toNat : Nat) : Int) by omega]
        refine Evp.bind (spec_up h _ _ (by omega)) fun c hc => Evp.pure _ (hc.trans ?_)
        unfold TyIn
        constructor
        · intro h7; exact .inr (.inr (.inr (.inr ⟨by omega, by omega, by simpa using h7⟩)))
        · intro h7
          rcases h7 with h7 | h7 | h7 | h7 | h7
          · omega
          · omega
          · omega
          · omega
          · simpa using h7.2.2
  · rw [decide_eq_true_iff] at h4
    unfold TyIn
    omega
theorem impl_kdIn {cs : List Cls} (hs : SmallC cs) (h : ClsOk cs) {a b : Int} (ha : TyOk cs.length a) (hb : TyOk cs.length b) : Evp (fun k => impl_kindIn.f k cs a b) (fun r => r = true ↔ TyIn cs a b) := by
  have hl0 := hs.1
  have ha' := tyOk_iff.1 ha
  have hb' := tyOk_iff.1 hb
  unfold impl_kindIn.f
  refine Evp.yes ⟨by unfold KindOk; omega, by unfold KindOk; omega⟩ ?_
  refine Evp.ite (fun h1 => Evp.pure _ (iff_yes (.inl h1))) (fun h1 => Evp.ite (fun h2 => Evp.pure _ (iff_yes (.inr (.inl h2)))) (fun h2 => Evp.ite (fun h3 => Evp.pure _ ?_) (fun h3 => Evp.ite (fun h4 => Evp.pure _ ?_) (fun h4 => Evp.ite (fun h5 => Evp.ite (fun h6 => ?_) (fun h6 => Evp.pure _ (iff_no ?_))) (fun h5 => Evp.pure _ (iff_no ?_))))))
  · rw [bne_iff_ne]
    unfold TyIn
    constructor
    · intro h4; exact .inr (.inr (.inl ⟨h3, by omega⟩))
    · intro h4; omega
  · rw [beq_iff_eq]
    unfold TyIn
    constructor
    · intro h7; exact .inr (.inr (.inr (.inl ⟨h4, h7⟩)))
    · intro h7; omega
  · rw [show a - 8 = (((a - 8).toNat : Nat) : Int) by omega, show b - 8 = (((b - 8).toNat : Nat) : Int) by omega]
    refine (impl_up h _ _ (by omega)).mono fun c hc => hc.trans ?_
    unfold TyIn
    constructor
    · intro h7; exact .inr (.inr (.inr (.inr ⟨by omega, by omega, by simpa using h7⟩)))
    · intro h7
      rcases h7 with h7 | h7 | h7 | h7 | h7
      · omega
      · omega
      · omega
      · omega
      · simpa using h7.2.2
  · unfold TyIn
    omega
  · unfold TyIn
    omega
theorem impl_tyIn {cs : List Cls} (hs : SmallC cs) (h : ClsOk cs) {a b : Int} (ha0 : -9223372036854775808 ≤ a) (ha1 : a ≤ 9223372036854775807) (hb0 : -9223372036854775808 ≤ b) (hb1 : b ≤ 9223372036854775807) :
    Evp (fun k => impl_typeIn.f k cs a b) (fun r => r = true ↔ TyOk cs.length a ∧ TyOk cs.length b ∧ TyIn cs a b) := by
  have hl0 := hs.1
  unfold impl_typeIn.f
  obtain ⟨r, hr, hr2⟩ := kindOf_ty (n := cs.length) (by omega) ha0 ha1
  obtain ⟨q, hq, hq2⟩ := kindOf_ty (n := cs.length) (by omega) hb0 hb1
  simp only [hr, hq, Option.bind_some]
  rcases hr2 with ⟨h1, rfl⟩ | ⟨h1, rfl⟩
  · refine Evp.no (by have := tyOk_iff.1 h1; omega) ?_
    rcases hq2 with ⟨h2, rfl⟩ | ⟨h2, rfl⟩
    · refine Evp.no (by have := tyOk_iff.1 h2; omega) ?_
      refine Evp.bind (impl_kdIn hs h h1 h2) fun c hc => Evp.pure _ (hc.trans ⟨fun h3 => ⟨h1, h2, h3⟩, fun h3 => h3.2.2⟩)
    · exact Evp.yes rfl (Evp.pure _ (iff_no fun h3 => h2 h3.2.1))
  · exact Evp.yes rfl (Evp.pure _ (iff_no fun h3 => h1 h3.1))
theorem impl_TypeIn' {cs : List Cls} (hs : SmallC cs) {a b : Int} (ha0 : -9223372036854775808 ≤ a) (ha1 : a ≤ 9223372036854775807) (hb0 : -9223372036854775808 ≤ b) (hb1 : b ≤ 9223372036854775807) :
    Evp (fun k => impl_TypeIn.f k cs a b) (fun r => r = true ↔ ClsOk cs ∧ TyOk cs.length a ∧ TyOk cs.length b ∧ TyIn cs a b) := by
  unfold impl_TypeIn.f
  refine Evp.bind (impl_classesOk hs) fun c hc => Evp.ite (fun h => ?_) (fun h => Evp.pure _ (iff_no fun h2 => h (hc.2 h2.1)))
  exact Evp.bind (impl_tyIn hs (hc.1 h) ha0 ha1 hb0 hb1) fun d hd => Evp.pure _ (hd.trans ⟨fun h3 => ⟨hc.1 h, h3⟩, fun h3 => h3.2⟩)
theorem spec_TypeIn' {cs : List Cls} (hs : SmallC cs) (a b : Int) :
    Evp (fun k => spec_TypeIn.f k cs a b) (fun r => r = true ↔ ClsOk cs ∧ TyOk cs.length a ∧ TyOk cs.length b ∧ TyIn cs a b) := by
  unfold spec_TypeIn.f
  refine Evp.bind (spec_typeOk hs a) fun c hc => Evp.ite (fun h => ?_) (fun h => Evp.pure _ (iff_no fun h2 => h (hc.2 ⟨h2.1, h2.2.1⟩)))
  refine Evp.bind (spec_typeOk hs b) fun d hd => Evp.ite (fun h' => ?_) (fun h' => Evp.pure _ (iff_no fun h2 => h' (hd.2 ⟨h2.1, h2.2.2.1⟩)))
  obtain ⟨h3, h4⟩ := hc.1 h
  have h5 := (hd.1 h').2
  exact Evp.bind (spec_tyIn hs h3 h4 h5) fun e he => Evp.pure _ (he.trans ⟨fun h6 => ⟨h3, h4, h5, h6⟩, fun h6 => h6.2.2.2⟩)
end Go.Proofs.Ytgmjolngnhdafaa.Kit

end
section
namespace Go.Proofs.Ytgmjolngnhdafaa.Kit
open Go Go.RowKit Go.Proofs.YtgmjolngnhdafaaW.PrintWords Go.Proofs.Ytgmjolngnhdafaa.P
/-- a and b are classes, and a is b or below it. -/
def UpC (cs : List Cls) (a b : Int) : Prop := ClsOk cs ∧ (0 ≤ a ∧ a < (cs.length : Int)) ∧ (0 ≤ b ∧ b < (cs.length : Int)) ∧ Up cs a.toNat b.toNat
theorem spec_is {cs : List Cls} (hs : SmallC cs) (a : Int) : Evp (fun k => spec_l2Is.f k cs a) (fun r => r = true ↔ ClsOk cs ∧ 0 ≤ a ∧ a < (cs.length : Int)) := by
  have hl0 := hs.1
  unfold spec_l2Is.f
  refine Evp.bind (spec_classesOk hs) fun b hb => Evp.ite (fun h => ?_) (fun h => Evp.pure _ (iff_no fun h2 => h (hb.2 h2.1)))
  have hc := hb.1 h
  have := hc.lo
  rw [w64 (by omega) (by omega), in_eq]
  refine Evp.pure _ ?_
  rw [decide_eq_true_iff]
  constructor
  · intro h2; exact ⟨hc, by omega, by omega⟩
  · intro h2; omega
theorem spec_ClassUp' {cs : List Cls} (hs : SmallC cs) (a b : Int) : Evp (fun k => spec_ClassUp.f k cs a b) (fun r => r = true ↔ UpC cs a b) := by
  unfold spec_ClassUp.f
  refine Evp.bind (spec_is hs a) fun c hc => Evp.ite (fun h => ?_) (fun h => Evp.pure _ (iff_no fun h2 => h (hc.2 ⟨h2.1, h2.2.1⟩)))
  refine Evp.bind (spec_is hs b) fun d hd => Evp.ite (fun h' => ?_) (fun h' => Evp.pure _ (iff_no fun h2 => h' (hd.2 ⟨h2.1, h2.2.2.1⟩)))
  obtain ⟨h3, h4⟩ := hc.1 h
  have h5 := (hd.1 h').2
  have ea : a = ((a.toNat : Nat) : Int) := by omega
  have eb : b = ((b.toNat : Nat) : Int) := by omega
  have := spec_up h3 b.toNat a.toNat (by omega)
  rw [← ea, ← eb] at this
  exact Evp.bind this fun e he => Evp.pure _ (he.trans ⟨fun h6 => ⟨h3, h4, h5, h6⟩, fun h6 => h6.2.2.2⟩)
theorem impl_ClassUp' {cs : List Cls} (hs : SmallC cs) (a b : Int) : Evp (fun k => impl_ClassUp.f k cs a b) (fun r => r = true ↔ UpC cs a b) := by
  unfold impl_ClassUp.f
  obtain ⟨x, hx, hx2⟩ := impl_isClass_eq cs a
  obtain ⟨y, hy, hy2⟩ := impl_isClass_eq cs b
  refine Evp.bind (impl_classesOk hs) fun c hc => Evp.ite (fun h => ?_) (fun h => Evp.pure _ (iff_no fun h2 => h (hc.2 h2.1)))
  simp only [hx, hy, Option.bind_some]
  refine Evp.ite (fun h1 => ?_) (fun h1 => Evp.pure _ (iff_no fun h2 => h1 (hx2.2 h2.2.1)))
  refine Evp.ite (fun h1' => ?_) (fun h1' => Evp.pure _ (iff_no fun h2 => h1' (hy2.2 h2.2.2.1)))
  have h3 := hc.1 h
  have h4 := hx2.1 h1
  have h5 := hy2.1 h1'
  have ea : a = ((a.toNat : Nat) : Int) := by omega
  have eb : b = ((b.toNat : Nat) : Int) := by omega
  have := impl_up h3 b.toNat a.toNat (by omega)
  rw [← ea, ← eb] at this
  exact Evp.bind this fun e he => Evp.pure _ (he.trans ⟨fun h6 => ⟨h3, h4, h5, h6⟩, fun h6 => h6.2.2.2⟩)
end Go.Proofs.Ytgmjolngnhdafaa.Kit

end
section
namespace Go.Proofs.Ytgmjolngnhdafaa.Kit
open Go Go.RowKit Go.Proofs.YtgmjolngnhdafaaW.PrintWords Go.Proofs.Ytgmjolngnhdafaa.P
set_option linter.unusedVariables false
theorem is_evp {cs : List Cls} (hs : SmallC cs) (a : Int) : Evp (fun k => laws_leIs.f k cs a) (fun r => r = true ↔ ClsOk cs ∧ 0 ≤ a ∧ a < (cs.length : Int)) := by
  unfold laws_leIs.f
  refine Evp.bind (spec_classesOk hs) fun c hc => Evp.ite (fun h => ?_) (fun h => Evp.pure _ (iff_no fun h2 => h (hc.2 h2.1)))
  refine Evp.ite (fun h1 => Evp.pure _ ?_) (fun h1 => Evp.pure _ (iff_no fun h2 => h1 h2.2.1))
  rw [decide_eq_true_iff]
  exact ⟨fun h2 => ⟨hc.1 h, h1, h2⟩, fun h2 => h2.2.2⟩
theorem drawUp_evp {l : List Int} (h : ∀ x ∈ l, (Lit.int .u8 x).wf = true) :
    Evp (fun k => spec_DrawClassUp.f k l) (fun r => Drawn 4 9 r.1 ∧ (-1 ≤ r.2.1 ∧ r.2.1 ≤ 10) ∧ (-1 ≤ r.2.2 ∧ r.2.2 ≤ 10)) := by
  obtain ⟨bs, ho, hb⟩ := open_evp h
  unfold spec_DrawClassUp.f
  simp only [ho, Option.bind_some]
  refine Evp.bind (off_evp hb (by omega) (by omega)) fun d hd => ?_
  obtain ⟨hd1, hd2, hd3⟩ := hd
  have hl := hd1.1
  have hl9 := hd1.2.1
  refine Evp.bind (pick_evp hb hd2 (by omega) (by omega)) fun a ha => Evp.bind (pick_evp hb (by omega) (by omega) (by omega)) fun b hb' => ?_
  refine Evp.bind (pick_evp hb (by omega) (by omega) (by omega)) fun c hc => Evp.bind (pick_evp hb (by omega) (by omega) (by omega)) fun e he => Evp.pure _ ⟨hd1, ?_, ?_⟩
  · have h1 := ha.2.1 (by omega)
    have h2 := hb'.2.1 (by omega)
    have h3 := ha.1
    have h4 := hb'.1
    dsimp only
    rw [tdiv_pos h4, w64 (n := b.1 / 23) (by omega) (by omega), w64 (by omega) (by omega)]
    omega
  · have h1 := hc.2.1 (by omega)
    have h2 := he.2.1 (by omega)
    have h3 := hc.1
    have h4 := he.1
    dsimp only
    rw [tdiv_pos h4, w64 (n := e.1 / 23) (by omega) (by omega), w64 (by omega) (by omega)]
    omega
end Go.Proofs.Ytgmjolngnhdafaa.Kit

end
section
namespace Go.Proofs.Ytgmjolngnhdafaa.Kit
open Go Go.RowKit Go.Proofs.YtgmjolngnhdafaaW.PrintWords Go.Proofs.Ytgmjolngnhdafaa.P
set_option linter.unusedVariables false
theorem TyIn.refl {cs : List Cls} (a : Int) : TyIn cs a a := .inl rfl
theorem TyIn.top {cs : List Cls} (a : Int) : TyIn cs a 0 := .inr (.inl rfl)
theorem TyIn.antisymm {cs : List Cls} (h : ClsOk cs) {a b : Int} (ha : TyOk cs.length a) (hb : TyOk cs.length b) (h1 : TyIn cs a b) (h2 : TyIn cs b a) : a = b := by
  have ha' := tyOk_iff.1 ha
  have hb' := tyOk_iff.1 hb
  have hl := h.lo
  rcases h1 with h1 | h1 | h1 | h1 | ⟨h1, h1', hu⟩
  · exact h1
  · rcases h2 with h2 | h2 | h2 | h2 | ⟨h2, h2', hv⟩ <;> omega
  · rcases h2 with h2 | h2 | h2 | h2 | ⟨h2, h2', hv⟩ <;> omega
  · rcases h2 with h2 | h2 | h2 | h2 | ⟨h2, h2', hv⟩ <;> omega
  · rcases h2 with h2 | h2 | h2 | h2 | ⟨h2, h2', hv⟩
    · omega
    · omega
    · omega
    · omega
    · have := hu.antisymm h (by omega) (by omega) hv
      omega
theorem TyIn.trans {cs : List Cls} (h : ClsOk cs) {a b c : Int} (ha : TyOk cs.length a) (hb : TyOk cs.length b) (hc : TyOk cs.length c) (h1 : TyIn cs a b) (h2 : TyIn cs b c) : TyIn cs a c := by
  have ha' := tyOk_iff.1 ha
  have hb' := tyOk_iff.1 hb
  have hc' := tyOk_iff.1 hc
  have hl := h.lo
  rcases h1 with h1 | h1 | h1 | h1 | ⟨h1, h1', hu⟩
  · rw [h1]; exact h2
  · have : c = 0 := by rcases h2 with h2 | h2 | h2 | h2 | ⟨h2, h2', hv⟩ <;> omega
    exact .inr (.inl this)
  · have : c = 0 ∨ 2 ≤ c := by rcases h2 with h2 | h2 | h2 | h2 | ⟨h2, h2', hv⟩ <;> omega
    rcases this with h3 | h3
    · exact .inr (.inl h3)
    · exact .inr (.inr (.inl ⟨h1.1, h3⟩))
  · rcases h2 with h2 | h2 | h2 | h2 | ⟨h2, h2', hv⟩
    · rw [← h2]; exact .inr (.inr (.inr (.inl h1)))
    · exact .inr (.inl h2)
    · omega
    · omega
    · have := hv.le h (by omega)
      exact .inr (.inr (.inr (.inl ⟨h1.1, by omega⟩)))
  · rcases h2 with h2 | h2 | h2 | h2 | ⟨h2, h2', hv⟩
    · rw [← h2]; exact .inr (.inr (.inr (.inr ⟨h1, h1', hu⟩)))
    · exact .inr (.inl h2)
    · omega
    · omega
    · exact .inr (.inr (.inr (.inr ⟨h1, h2', hu.trans hv⟩)))
/-- Types of classes stand as the classes do. -/
theorem TyIn.cls {cs : List Cls} {a b : Int} (ha : 0 ≤ a) (hb : 0 ≤ b) : TyIn cs (8 + a) (8 + b) ↔ Up cs a.toNat b.toNat := by
  rw [show TyIn cs (8 + a) (8 + b) ↔ _ from Iff.rfl]
  unfold TyIn
  rw [show 8 + a - 8 = a by omega, show 8 + b - 8 = b by omega]
  constructor
  · rintro (h1 | h1 | h1 | h1 | h1)
    · rw [show b = a by omega]; exact .refl _
    · omega
    · omega
    · omega
    · exact h1.2.2
  · intro h1
    exact .inr (.inr (.inr (.inr ⟨by omega, by omega, h1⟩)))
theorem TyIn.arr {cs : List Cls} {a b : Int} (ha : a = 3 ∨ a = 4) (hb : 0 ≤ b) : TyIn cs a (8 + b) ↔ b = 0 := by
  constructor
  · rintro (h1 | h1 | h1 | h1 | h1) <;> omega
  · intro h1
    exact .inr (.inr (.inr (.inl ⟨ha, by omega⟩)))
theorem TyIn.null {cs : List Cls} {b : Int} (hb : 0 ≤ b) : TyIn cs 2 (8 + b) := .inr (.inr (.inl ⟨rfl, by omega⟩))
theorem TyIn.int {cs : List Cls} {b : Int} (hb : 0 ≤ b) : ¬ TyIn cs 1 (8 + b) := by
  rintro (h1 | h1 | h1 | h1 | h1) <;> omega
theorem TyIn.low {cs : List Cls} {a c : Int} (ha : 0 ≤ a) (hc : c = 1 ∨ c = 3) : ¬ TyIn cs (8 + a) c := by
  rintro (h1 | h1 | h1 | h1 | h1) <;> omega
theorem TyIn.nullInt {cs : List Cls} : ¬ TyIn cs 2 1 := by
  rintro (h1 | h1 | h1 | h1 | h1) <;> omega
end Go.Proofs.Ytgmjolngnhdafaa.Kit

end
section
namespace Go.Proofs.Ytgmjolngnhdafaa.Pure
open Go Go.RowKit Go.Proofs.YtgmjolngnhdafaaW.PrintWords Go.Proofs.Ytgmjolngnhdafaa.P Go.Proofs.Ytgmjolngnhdafaa.Kit
theorem FnTypeClass : laws_FnTypeClass.Pure := by
  intro l0 _ _ hb
  refine Evp.rounds ?_
  unfold laws_FnTypeClass.f
  refine Evp.ite (fun _ => Evp.pure _ rfl) (fun _ => Evp.bind (drawUp_evp hb) fun d hd => ?_)
  have hs : SmallC d.1 := hd.1.small (by decide) (by decide)
  refine Evp.bind (impl_ClassUp' hs _ _) fun u hu => Evp.bind (spec_ClassUp' hs _ _) fun v hv => Evp.no (bne_no hv hu) ?_
  have j : ∀ x : Bool, (x = false → (ClsOk d.1 ∧ 0 ≤ d.2.1 ∧ d.2.1 < (d.1.length : Int)) ∧ (ClsOk d.1 ∧ 0 ≤ d.2.2 ∧ d.2.2 < (d.1.length : Int))) → Evp (fun k => laws_FnTypeClass.j0 k d.1 d.2.1 d.2.2 u x) (fun r => r = true) := by
    intro x hx
    refine Evp.step (f := fun k => _) (fun k => by rw [laws_FnTypeClass.j0]) ?_
    cases x with
    | true => exact Evp.yes rfl (Evp.bind (spec_ClassUp' hs _ _) fun v' hv' => Evp.pure _ (by rw [same_of hu hv']; simp))
    | false =>
      obtain ⟨⟨hok, ha, ha'⟩, -, hb0, hb1⟩ := hx rfl
      have hlo := hok.lo
      have hhi := hok.hi
      rw [w64 (n := 8 + d.2.1) (by omega) (by omega), w64 (n := 8 + d.2.2) (by omega) (by omega)]
      have ta : TyOk d.1.length (8 + d.2.1) := tyOk_iff.2 (by omega)
      have tb : TyOk d.1.length (8 + d.2.2) := tyOk_iff.2 (by omega)
      have t_ : ∀ c : Int, 0 ≤ c → c ≤ 4 → TyOk d.1.length c := fun c h0 h1 => tyOk_iff.2 (by omega)
      have no : ∀ {a b : Int} {r : Bool}, (r = true ↔ ClsOk d.1 ∧ TyOk d.1.length a ∧ TyOk d.1.length b ∧ TyIn d.1 a b) → ¬ TyIn d.1 a b → ¬ r = true := fun h h1 h2 => h1 (h.1 h2).2.2.2
      have bne : ∀ {r : Bool} {c : Int}, (r = true ↔ ClsOk d.1 ∧ TyOk d.1.length c ∧ TyOk d.1.length (8 + d.2.2) ∧ TyIn d.1 c (8 + d.2.2)) → c = 3 ∨ c = 4 → ¬ (r != (d.2.2 == 0)) = true := by
        intro r c h hc
        have : r = (d.2.2 == 0) := by
          rw [Bool.eq_iff_iff, h]
          simp only [beq_iff_eq]
          exact ⟨fun h2 => (TyIn.arr hc hb0).1 h2.2.2.2, fun h2 => ⟨hok, t_ c (by omega) (by omega), tb, (TyIn.arr hc hb0).2 h2⟩⟩
        rw [this]; simp
      refine Evp.no (by decide) (Evp.bind (impl_TypeIn' hs (by omega) (by omega) (by omega) (by omega)) fun p hp => Evp.no ?_ ?_)
      · have : p = u := by
          refine same_of (hp.trans ?_) hu
          exact ⟨fun h => ⟨hok, ⟨ha, ha'⟩, ⟨hb0, hb1⟩, (TyIn.cls ha hb0).1 h.2.2.2⟩, fun h => ⟨hok, ta, tb, (TyIn.cls ha hb0).2 h.2.2.2⟩⟩
        rw [this]; simp
      refine Evp.bind (impl_TypeIn' hs (by omega) (by omega) (by omega) (by omega)) fun p3 hp3 => Evp.no (bne hp3 (.inl rfl)) ?_
      refine Evp.bind (impl_TypeIn' hs (by omega) (by omega) (by omega) (by omega)) fun p4 hp4 => Evp.no (bne hp4 (.inr rfl)) ?_
      refine Evp.bind (impl_TypeIn' hs (by omega) (by omega) (by omega) (by omega)) fun p2 hp2 => ?_
      have : p2 = true := hp2.2 ⟨hok, t_ 2 (by decide) (by decide), tb, TyIn.null hb0⟩
      rw [this]
      refine Evp.step (f := fun k => _) (fun k => by rw [laws_FnTypeClass.j1]) (Evp.no (by decide) ?_)
      refine Evp.bind (impl_TypeIn' hs (by omega) (by omega) (by omega) (by omega)) fun q1 hq1 => Evp.no (no hq1 (TyIn.int hb0)) ?_
      refine Evp.bind (impl_TypeIn' hs (by omega) (by omega) (by omega) (by omega)) fun q2 hq2 => Evp.no (no hq2 (TyIn.low ha (.inl rfl))) ?_
      refine Evp.bind (impl_TypeIn' hs (by omega) (by omega) (by omega) (by omega)) fun q3 hq3 => Evp.no (no hq3 (TyIn.low ha (.inr rfl))) ?_
      refine Evp.bind (impl_TypeIn' hs (by omega) (by omega) (by omega) (by omega)) fun q4 hq4 => Evp.pure _ ?_
      have := no hq4 TyIn.nullInt
      rw [Bool.not_eq_true] at this
      rw [this]; rfl
  refine Evp.bind (is_evp hs _) fun p hp => Evp.ite (fun h => Evp.bind (is_evp hs _) fun q hq => j _ (fun h' => ⟨hp.1 h, hq.1 (by simpa using h')⟩)) (fun _ => j _ (fun h => by cases h))
end Go.Proofs.Ytgmjolngnhdafaa.Pure

end
section
namespace Go.Proofs.Ytgmjolngnhdafaa.fnTypeClass
open Go.ChangeShapes Go.WideShapes Go.ChangeAt Go.RowKit
open Go.ChangeMaps (open_string shut_string)
set_option linter.unusedVariables false
theorem own : ownKnob Try.prog.godebug = none := by kernel_rfl
theorem laidOut : laidOutB Try.prog = true := by kernel_rfl
def IsRow (k : IntKind) (w : World) (a : Option Addr) (len cap : Nat) (zs : List Int) : Prop :=
  (a = none ∧ len = 0 ∧ cap = 0 ∧ zs = []) ∨
  ∃ x, a = some x ∧ len ≤ cap ∧ cap ≤ maxLen ∧ zs.length = cap ∧ (∀ i, i < zs.length → w.cell? (x.add i) = some (.int k (zs.getD i 0))) ∧ ∀ n ∈ zs, (Lit.int k n).wf = true
set_option maxRecDepth 100000 in
theorem lifted (os : Os) (started : os.Started) (H : Type) (enc : TypeId × Value → H) :
    ReturnsInHanded {} Try.checked os 9 .any (Rows.fnTypeClassSpec.pre6 enc Try.prog Try.f9 Rows.fnTypeClassRow.domain false) (Rows.fnTypeClassSpec.post enc Try.prog Try.f9 false true false false) := by
  refine returnsInHanded_of_change_sized (C := Try.checked) own started (by kernel_rfl) Try.func9
    (ChangeSpec.witness6 (enc := enc) (C := Try.checked) false ⟨#[], #[.slice none 0 0], []⟩ 8 (by kernel_rfl) (by kernel_rfl) (by kernel_rfl) (by kernel_rfl)) ?_
  intro W base args ds gs before hval0 hW hcnd hsz0 _
  have hsz : (DataW.weightsEach Try.prog (Try.f9.params.toList ++ Rows.fnTypeClassSpec.plain.varTypes Try.prog) (ds ++ gs)).all (· ≤ reachBytes) = true := hsz0
  have hval : ∀ (j : Nat) t v, Try.f9.params[j]? = some t → args[j]? = some v → Value.okWide Try.prog W .any base t v := hval0
  have hW' := hW
  obtain ⟨p, q, hA0, hV, rfl, hfz, hnd⟩ := hW
  have hA : DataW.TrodAll enc Try.prog W 0 (fun _ => true) true Try.f9.params.toList args.toList ds p := hA0
  rw [Try.params9] at hA hval hsz
  obtain ⟨v0, vs0, d0, ds0, p0, q0, hargs, rfl, rfl, h0, r0⟩ := trodAll_cons hA
  obtain ⟨rfl, rfl, rfl⟩ := trodAll_nil r0
  obtain rfl : args = #[v0] := by cases args; simp_all
  obtain ⟨rfl, rfl⟩ := trodVars_none hV
  obtain ⟨a0, len0, cap0, rfl⟩ := okWide_slice Try.underlying31 (hval 0 31 v0 rfl rfl)
  have k0 := h0
  have lt0 : ∀ x ∈ p0, x.block < W.heap.size := by obtain ⟨m, hm⟩ := k0; exact DataW.trod_lt m _ _ _ hm
  obtain ⟨z0, w0⟩ : ∃ zs, IsRow .u8 W a0 len0 cap0 zs := by
    obtain ⟨fuel, hf⟩ := h0
    rcases open_ints Try.underlying31 Try.underlying5 (by kernel_rfl) hf with ⟨hcs, _⟩ | ⟨x, l, c, zs, hcs, _, hl, hm, hz, _, hcell, hwz⟩
    · simp [Value.cells] at hcs
      obtain ⟨rfl, rfl, rfl⟩ := hcs
      exact ⟨[], .inl ⟨rfl, rfl, rfl, rfl⟩⟩
    · simp [Value.cells] at hcs
      obtain ⟨rfl, rfl, rfl⟩ := hcs
      exact ⟨zs, .inr ⟨_, rfl, hl, hm, by simpa using hz, hcell, hwz⟩⟩
  have y0 : len0 * 1 ≤ 140737488351232 := Go.Proofs.YtgmjolngnhdafaaW.PrintWords.sized_ints hsz (j := 0) (t := 31) rfl rfl Try.underlying31 Try.underlying5 (by kernel_rfl) (by kernel_rfl) h0
  clear hA0 hval0 hsz0 hsz
  refine (P.laws_FnTypeClass.walk Pure.FnTypeClass a0 len0 cap0 z0 W w0 y0).mono fun e W' ⟨he, bel⟩ => ?_
  subst he
  exact ⟨_, rfl, _, _, _, [], _, [], hW', trodAll_mk1 (shut_bool Try.underlying4 _), (trodAll_cons_mk (Below.trod laidOut (by kernel_rfl) (of_decide_eq_true (by kernel_rfl)) k0 bel lt0) trodAll_mk0), rfl, bel.frame _, fun h => by cases h⟩
theorem over : Rows.fnTypeClassRow.holds Try.pinned (OpenSpec.ofChange Rows.fnTypeClassSpec) :=
  OpenClaim.holds_of_wide 9 Try.f9 rfl rfl rfl rfl rfl rfl rfl ⟨rfl, rfl, rfl, rfl, rfl⟩ rfl rfl rfl rfl rfl (by kernel_rfl) Try.func9 (by show joinedFacts Try.prog _ _ _ _ = true; unfold joinedFacts; rw [Go.Proofs.Ytgmjolngnhdafaa.enter, Go.Proofs.Ytgmjolngnhdafaa.make, Go.Proofs.Ytgmjolngnhdafaa.lifts]; kernel_rfl)
    (of_decide_eq_true (by kernel_rfl)) (by unfold Func.isWrapper; first | (rw [if_pos (by decide +kernel)]; kernel_rfl) | (rw [if_neg (by decide +kernel)]; exact ⟨rfl, rfl⟩))
    (fun os started H enc _ => lifted os started H enc)
theorem proved : Rows.FnTypeClassSaid := over
#print axioms proved
end Go.Proofs.Ytgmjolngnhdafaa.fnTypeClass
namespace Go.Proofs.Ytgmjolngnhdafaa
/-- The row, under a short name, for the claim. -/
theorem fnTypeClass_holds : Rows.FnTypeClassSaid := fnTypeClass.proved
end Go.Proofs.Ytgmjolngnhdafaa

end
