/- A part of the claim FnExactUnitFind: texts of this session and texts that its program printed out of the translation, joined. -/
import Derived.Test.YtedodaifpekahaaCFnExactUnitFind21
import Derived.Test.YtedodaifpekahaaCFnExactUnitFind33
import Derived.Test.YtedodaifpekahaaCFnExactUnitFind22
import Derived.Test.YtedodaifpekahaaCFnExactUnitFind20
import Derived.Test.YtedodaifpekahaaCFnExactUnitFind0
import Derived.Test.YtedodaifpekahaaCFnExactUnitFind1
import Derived.Test.YtedodaifpekahaaCFnExactUnitFind2
import Derived.Test.YtedodaifpekahaaCFnExactUnitFind3
import Derived.Test.YtedodaifpekahaaCFnExactUnitFind4
import Derived.Test.YtedodaifpekahaaCFnExactUnitFind5
import Derived.Test.YtedodaifpekahaaCFnExactUnitFind6
import Derived.Test.YtedodaifpekahaaCFnExactUnitFind7
import Derived.Test.YtedodaifpekahaaCFnExactUnitFind8
import Derived.Test.YtedodaifpekahaaCFnExactUnitFind9
import Derived.Test.YtedodaifpekahaaCFnExactUnitFind10
import Derived.Test.YtedodaifpekahaaCFnExactUnitFind11
import Derived.Test.YtedodaifpekahaaCFnExactUnitFind12
import Derived.Test.YtedodaifpekahaaCFnExactUnitFind13
import Derived.Test.YtedodaifpekahaaCFnExactUnitFind14
import Derived.Test.YtedodaifpekahaaCFnExactUnitFind15
import Derived.Test.YtedodaifpekahaaCFnExactUnitFind16
import Derived.Test.YtedodaifpekahaaCFnExactUnitFind17
import Derived.Test.YtedodaifpekahaaCFnExactUnitFind18
import Derived.Test.YtedodaifpekahaaCFnExactUnitFind19
import Derived.Test.YtedodaifpekahaaCFnExactUnitFind23
import Derived.Test.YtedodaifpekahaaCFnExactUnitFind24
import Derived.Test.YtedodaifpekahaaCFnExactUnitFind25
import Derived.Test.YtedodaifpekahaaCFnExactUnitFind26
import Derived.Test.YtedodaifpekahaaCFnExactUnitFind27
import Derived.Test.YtedodaifpekahaaCFnExactUnitFind28
import Derived.Test.YtedodaifpekahaaCFnExactUnitFind29
import Derived.Test.YtedodaifpekahaaCFnExactUnitFind30
import Derived.Test.YtedodaifpekahaaCFnExactUnitFind31
import Derived.Test.YtedodaifpekahaaCFnExactUnitFind32
section

namespace Go.Proofs.Ytedodaifpekahaa.P
open Go.RowKit Go.Proofs.YtedodaifpekahaaW.PrintWords Go.Proofs.Ytedodaifpekahaa.Open
structure S25 where
  f0 : (List S58)
  f1 : (List S64)
def k25 : Kd S25 := Kd.iso (Kd.pair (Kd.slice 58 k58) (Kd.slice 64 k64)) (fun x : S25 => (x.f0, x.f1))
theorem k25_open {w : World} {x : S25} {cs : List Value} (h : k25.K w x cs) : ∃ A0 c0 A1 c1, cs = [.slice A0 x.f0.length c0, .slice A1 x.f1.length c1] ∧ x.f0.length ≤ c0 ∧ k58.C w A0 x.f0.length x.f0 ∧ x.f1.length ≤ c1 ∧ k64.C w A1 x.f1.length x.f1 := by
  obtain ⟨_, _, rfl, ⟨A0, c0, rfl, l0, g0⟩, ⟨A1, c1, rfl, l1, g1⟩⟩ := h
  exact ⟨A0, c0, A1, c1, rfl, l0, g0, l1, g1⟩
def wfS58 (x : S58) : Prop := ((Lit.int .i64 x.f0).wf = true) ∧ ((x.f1.length ≤ 9223372036854775807 ∧ ∀ y ∈ x.f1, (Lit.int .i64 y).wf = true))
theorem opens58 (H : Type) (enc : TypeId × Value → H) (w : World) (base : Nat) (spare : Nat → Bool) (held : Bool) : Opens enc Try.prog w base spare held 58 k58 wfS58 :=
  opens_struct Try.underlying58 (by kernel_rfl) (opensF_cons rfl (by kernel_rfl) rfl (opens_int Try.underlying3) (opensF_one rfl (by kernel_rfl) (opens_slice Try.underlying41 (by kernel_rfl) (opens_int Try.underlying3)))) (fun x : S58 => (x.f0, x.f1)) (fun p => ⟨p.1, p.2⟩) (fun _ => rfl)
def wfS113 (x : S113) : Prop := ((Lit.int .i64 x.f0).wf = true) ∧ ((Lit.int .i64 x.f1).wf = true) ∧ ((Lit.int .i64 x.f2).wf = true)
theorem opens113 (H : Type) (enc : TypeId × Value → H) (w : World) (base : Nat) (spare : Nat → Bool) (held : Bool) : Opens enc Try.prog w base spare held 113 k113 wfS113 :=
  opens_struct Try.underlying113 (by kernel_rfl) (opensF_cons rfl (by kernel_rfl) rfl (opens_int Try.underlying3) (opensF_cons rfl (by kernel_rfl) rfl (opens_int Try.underlying3) (opensF_one rfl (by kernel_rfl) (opens_int Try.underlying3)))) (fun x : S113 => (x.f0, (x.f1, x.f2))) (fun p => ⟨p.1, p.2.1, p.2.2⟩) (fun _ => rfl)
def wfS111 (x : S111) : Prop := (True) ∧ ((x.f1.length ≤ 9223372036854775807 ∧ ∀ y ∈ x.f1, (Lit.int .i64 y).wf = true)) ∧ ((x.f2.length ≤ 9223372036854775807 ∧ ∀ y ∈ x.f2, (Lit.int .i64 y).wf = true))
theorem opens111 (H : Type) (enc : TypeId × Value → H) (w : World) (base : Nat) (spare : Nat → Bool) (held : Bool) : Opens enc Try.prog w base spare held 111 k111 wfS111 :=
  opens_struct Try.underlying111 (by kernel_rfl) (opensF_cons rfl (by kernel_rfl) rfl (opens_bool Try.underlying4) (opensF_cons rfl (by kernel_rfl) rfl (opens_slice Try.underlying41 (by kernel_rfl) (opens_int Try.underlying3)) (opensF_one rfl (by kernel_rfl) (opens_slice Try.underlying41 (by kernel_rfl) (opens_int Try.underlying3))))) (fun x : S111 => (x.f0, (x.f1, x.f2))) (fun p => ⟨p.1, p.2.1, p.2.2⟩) (fun _ => rfl)
def wfS116 (x : S116) : Prop := ((Lit.int .i64 x.f0).wf = true) ∧ ((Lit.int .i64 x.f1).wf = true) ∧ ((Lit.int .i64 x.f2).wf = true) ∧ ((Lit.int .i64 x.f3).wf = true)
theorem opens116 (H : Type) (enc : TypeId × Value → H) (w : World) (base : Nat) (spare : Nat → Bool) (held : Bool) : Opens enc Try.prog w base spare held 116 k116 wfS116 :=
  opens_struct Try.underlying116 (by kernel_rfl) (opensF_cons rfl (by kernel_rfl) rfl (opens_int Try.underlying3) (opensF_cons rfl (by kernel_rfl) rfl (opens_int Try.underlying3) (opensF_cons rfl (by kernel_rfl) rfl (opens_int Try.underlying3) (opensF_one rfl (by kernel_rfl) (opens_int Try.underlying3))))) (fun x : S116 => (x.f0, (x.f1, (x.f2, x.f3)))) (fun p => ⟨p.1, p.2.1, p.2.2.1, p.2.2.2⟩) (fun _ => rfl)
def wfS64 (x : S64) : Prop := ((Lit.int .i64 x.f0).wf = true) ∧ ((Lit.int .i64 x.f1).wf = true) ∧ ((x.f2.length ≤ 9223372036854775807 ∧ ∀ y ∈ x.f2, (Lit.int .i64 y).wf = true)) ∧ ((Lit.int .i64 x.f3).wf = true) ∧ ((Lit.int .i64 x.f4).wf = true) ∧ ((x.f5.length ≤ 9223372036854775807 ∧ ∀ y ∈ x.f5, wfS113 y)) ∧ ((x.f6.length ≤ 9223372036854775807 ∧ ∀ y ∈ x.f6, wfS111 y)) ∧ ((x.f7.length ≤ 9223372036854775807 ∧ ∀ y ∈ x.f7, wfS116 y))
theorem opens64 (H : Type) (enc : TypeId × Value → H) (w : World) (base : Nat) (spare : Nat → Bool) (held : Bool) : Opens enc Try.prog w base spare held 64 k64 wfS64 :=
  opens_struct Try.underlying64 (by kernel_rfl) (opensF_cons rfl (by kernel_rfl) rfl (opens_int Try.underlying3) (opensF_cons rfl (by kernel_rfl) rfl (opens_int Try.underlying3) (opensF_cons rfl (by kernel_rfl) rfl (opens_slice Try.underlying41 (by kernel_rfl) (opens_int Try.underlying3)) (opensF_cons rfl (by kernel_rfl) rfl (opens_int Try.underlying3) (opensF_cons rfl (by kernel_rfl) rfl (opens_int Try.underlying3) (opensF_cons rfl (by kernel_rfl) rfl (opens_slice Try.underlying60 (by kernel_rfl) (opens113 H enc w base spare held)) (opensF_cons rfl (by kernel_rfl) rfl (opens_slice Try.underlying61 (by kernel_rfl) (opens111 H enc w base spare held)) (opensF_one rfl (by kernel_rfl) (opens_slice Try.underlying62 (by kernel_rfl) (opens116 H enc w base spare held)))))))))) (fun x : S64 => (x.f0, (x.f1, (x.f2, (x.f3, (x.f4, (x.f5, (x.f6, x.f7)))))))) (fun p => ⟨p.1, p.2.1, p.2.2.1, p.2.2.2.1, p.2.2.2.2.1, p.2.2.2.2.2.1, p.2.2.2.2.2.2.1, p.2.2.2.2.2.2.2⟩) (fun _ => rfl)
def wfS25 (x : S25) : Prop := ((x.f0.length ≤ 9223372036854775807 ∧ ∀ y ∈ x.f0, wfS58 y)) ∧ ((x.f1.length ≤ 9223372036854775807 ∧ ∀ y ∈ x.f1, wfS64 y))
theorem opens25 (H : Type) (enc : TypeId × Value → H) (w : World) (base : Nat) (spare : Nat → Bool) (held : Bool) : Opens enc Try.prog w base spare held 25 k25 wfS25 :=
  opens_struct Try.underlying25 (by kernel_rfl) (opensF_cons rfl (by kernel_rfl) rfl (opens_slice Try.underlying22 (by kernel_rfl) (opens58 H enc w base spare held)) (opensF_one rfl (by kernel_rfl) (opens_slice Try.underlying23 (by kernel_rfl) (opens64 H enc w base spare held)))) (fun x : S25 => (x.f0, x.f1)) (fun p => ⟨p.1, p.2⟩) (fun _ => rfl)
end Go.Proofs.Ytedodaifpekahaa.P

end
section

namespace Go.Proofs.Ytedodaifpekahaa.P
open Go.RowKit Go.Proofs.YtedodaifpekahaaW.PrintWords
def laws_FnExactUnitFind.Pure : Prop := ∀ (x0 : S25) (a1 : Int) (a2 : Int), (wfS25 x0) → ((Lit.int .i64 a1).wf = true) → ((Lit.int .i64 a2).wf = true) → ∃ k, laws_FnExactUnitFind.f k x0.f0 x0.f1 a1 a2 = some true
end Go.Proofs.Ytedodaifpekahaa.P

end
section

namespace Go.Proofs.Ytedodaifpekahaa.Kit
open Go Go.RowKit Go.Proofs.YtedodaifpekahaaW.PrintWords
set_option linter.unusedVariables false
def Evp {α : Type} (g : Nat → Option α) (P : α → Prop) : Prop := ∃ r, Ev g r ∧ P r
theorem Evp.pure {α : Type} {P : α → Prop} (r : α) (h : P r) : Evp (fun _ => some r) P := ⟨r, Ev.now r, h⟩
theorem Evp.bind {α β : Type} {g : Nat → Option α} {f : Nat → α → Option β} {P : α → Prop} {Q : β → Prop} (h : Evp g P) (k : ∀ a, P a → Evp (fun n => f n a) Q) : Evp (fun n => (g n).bind (f n)) Q := by
  obtain ⟨a, ha, hp⟩ := h
  obtain ⟨r, hr, hq⟩ := k a hp
  exact ⟨r, Ev.bind ha hr, hq⟩
theorem Evp.step {α : Type} {g f : Nat → Option α} {P : α → Prop} (h : ∀ k, g (k + 1) = f k) (k : Evp f P) : Evp g P := by
  obtain ⟨r, hr, hp⟩ := k
  exact ⟨r, Ev.step h hr, hp⟩
theorem Evp.congr {α : Type} {g f : Nat → Option α} {P : α → Prop} (h : ∀ k, g k = f k) (k : Evp f P) : Evp g P := by
  obtain ⟨r, hr, hp⟩ := k
  exact ⟨r, Ev.congr h hr, hp⟩
theorem Evp.mono {α : Type} {g : Nat → Option α} {P Q : α → Prop} (h : Evp g P) (hpq : ∀ r, P r → Q r) : Evp g Q := by
  obtain ⟨r, hr, hp⟩ := h
  exact ⟨r, hr, hpq r hp⟩
theorem Evp.yes {α : Type} {c : Prop} [Decidable c] {f g : Nat → Option α} {P : α → Prop} (hc : c) (h : Evp f P) : Evp (fun n => if c then f n else g n) P := by
  simp only [if_pos hc]; exact h
theorem Evp.no {α : Type} {c : Prop} [Decidable c] {f g : Nat → Option α} {P : α → Prop} (hc : ¬ c) (h : Evp g P) : Evp (fun n => if c then f n else g n) P := by
  simp only [if_neg hc]; exact h
theorem Evp.ite {α : Type} {c : Prop} [Decidable c] {f g : Nat → Option α} {P : α → Prop} (h : c → Evp f P) (k : ¬ c → Evp g P) : Evp (fun n => if c then f n else g n) P := by
  by_cases hc : c
  · exact Evp.yes hc (h hc)
  · exact Evp.no hc (k hc)
theorem Ev.of_evp {α : Type} {g : Nat → Option α} {r : α} (h : Evp g (fun x => x = r)) : Ev g r := by
  obtain ⟨x, hx, rfl⟩ := h
  exact hx
theorem Evp.const {α : Type} {o : Option α} {r : α} {P : α → Prop} (h : o = some r) (hp : P r) : Evp (fun _ => o) P := ⟨r, ⟨0, fun _ _ => h⟩, hp⟩
theorem Evp.rounds {α : Type} {g : Nat → Option α} {r : α} (h : Evp g (fun x => x = r)) : ∃ k, g k = some r := (Ev.of_evp h).rounds
theorem Evp.for_ {ρ : Type} {n : Nat} {g : Nat → Nat → Option ρ} {R : Nat → ρ → Prop} (hend : Evp (g n) (R n)) (hstep : ∀ i, i < n → Evp (g (i + 1)) (R (i + 1)) → Evp (g i) (R i)) : ∀ i, i ≤ n → Evp (g i) (R i) := by
  have key : ∀ d i, i + d = n → Evp (g i) (R i) := by
    intro d
    induction d with
    | zero => intro i hi; have : i = n := by omega
              subst this; exact hend
    | succ d ih => intro i hi; exact hstep i (by omega) (ih (i + 1) (by omega))
  intro i hi
  exact key (n - i) i (by omega)
theorem Evp.fors {σ ρ : Type} {n : Nat} {g : Nat → σ → Nat → Option ρ} {I : Nat → σ → Prop} {R : Nat → σ → ρ → Prop} (hend : ∀ s, I n s → Evp (g n s) (R n s))
    (hstep : ∀ i, i < n → (∀ s, I (i + 1) s → Evp (g (i + 1) s) (R (i + 1) s)) → ∀ s, I i s → Evp (g i s) (R i s)) : ∀ i, i ≤ n → ∀ s, I i s → Evp (g i s) (R i s) := by
  have key : ∀ d i, i + d = n → ∀ s, I i s → Evp (g i s) (R i s) := by
    intro d
    induction d with
    | zero => intro i hi; have : i = n := by omega
              subst this; exact hend
    | succ d ih => intro i hi; exact hstep i (by omega) (ih (i + 1) (by omega))
  intro i hi
  exact key (n - i) i (by omega)
theorem drop_at {α : Type} {xs : List α} {i : Nat} (h : i < xs.length) : xs.drop i = xs[i] :: xs.drop (i + 1) := List.drop_eq_getElem_cons h
theorem getD_at {α : Type} {xs : List α} {i : Nat} (h : i < xs.length) (d : α) : xs.getD i d = xs[i] := by
  rw [List.getD_eq_getElem?_getD, List.getElem?_eq_getElem h]; rfl
theorem w64' {i n : Nat} (h : i < n) (hn : n ≤ 9223372036854775807) : wrap64 ((i : Int) + 1) = ((i + 1 : Nat) : Int) := by unfold wrap64; omega
theorem w64 {n : Int} (h0 : -9223372036854775808 ≤ n) (h1 : n ≤ 9223372036854775807) : wrap64 n = n := by unfold wrap64; omega
end Go.Proofs.Ytedodaifpekahaa.Kit

end
section

namespace Go.Proofs.Ytedodaifpekahaa.Kit
open Go Go.RowKit Go.Proofs.YtedodaifpekahaaW.PrintWords Go.Proofs.Ytedodaifpekahaa.P
set_option linter.unusedVariables false
abbrev Cls := S76
def sup (cs : List Cls) (i : Nat) : Int := (cs.getD i z76).f0
def flds (cs : List Cls) (i : Nat) : List Int := (cs.getD i z76).f1
def FieldTy (n : Nat) (t : Int) : Prop := t = 1 ∨ t = 3 ∨ t = 4 ∨ (8 ≤ t ∧ t < 8 + (n : Int))
structure ClsOk (cs : List Cls) : Prop where
  lo : 2 ≤ cs.length
  hi : cs.length ≤ 5
  root : sup cs 0 = -1 ∧ flds cs 0 = []
  fail : sup cs 1 = 0 ∧ flds cs 1 = [1]
  up : ∀ i, 2 ≤ i → i < cs.length → 0 ≤ sup cs i ∧ sup cs i < (i : Int) ∧ (flds cs i).length ≤ 2
  fld : ∀ i, i < cs.length → ∀ t ∈ flds cs i, FieldTy cs.length t
inductive Up (cs : List Cls) : Nat → Nat → Prop
  | refl (a : Nat) : Up cs a a
  | step {a b : Nat} (p : Nat) (hp : sup cs a = (p : Int)) (h : Up cs p b) : Up cs a b
theorem ClsOk.sup_pos {cs : List Cls} (h : ClsOk cs) {i : Nat} (h1 : 1 ≤ i) (h2 : i < cs.length) : 0 ≤ sup cs i ∧ sup cs i < (i : Int) := by
  rcases Nat.lt_or_ge i 2 with h3 | h3
  · have : i = 1 := by omega
    subst this
    rw [h.fail.1]
    decide
  · have := h.up i h3 h2
    exact ⟨this.1, this.2.1⟩
theorem ClsOk.sup_nat {cs : List Cls} (h : ClsOk cs) {i : Nat} (h1 : 1 ≤ i) (h2 : i < cs.length) : ∃ p : Nat, sup cs i = (p : Int) ∧ p < i := by
  obtain ⟨h3, h4⟩ := h.sup_pos h1 h2
  exact ⟨(sup cs i).toNat, by omega, by omega⟩
theorem ClsOk.len2 {cs : List Cls} (h : ClsOk cs) {i : Nat} (h2 : i < cs.length) : (flds cs i).length ≤ 2 := by
  rcases Nat.lt_or_ge i 2 with h3 | h3
  · rcases Nat.lt_or_ge i 1 with h4 | h4
    · have : i = 0 := by omega
      subst this
      rw [h.root.2]; decide
    · have : i = 1 := by omega
      subst this
      rw [h.fail.2]; decide
  · exact (h.up i h3 h2).2.2
theorem Up.le {cs : List Cls} (h : ClsOk cs) {a b : Nat} (hu : Up cs a b) (ha : a < cs.length) : b ≤ a := by
  induction hu with
  | refl a => exact Nat.le_refl _
  | @step a b p hp _ ih =>
    rcases Nat.eq_zero_or_pos a with h0 | h0
    · subst h0
      have := h.root.1
      omega
    · have := h.sup_pos h0 ha
      have := ih (by omega)
      omega
theorem Up.inv {cs : List Cls} {a b : Nat} (hu : Up cs a b) : a = b ∨ ∃ p : Nat, sup cs a = (p : Int) ∧ Up cs p b := by
  cases hu with
  | refl => exact .inl rfl
  | step p hp h => exact .inr ⟨p, hp, h⟩
theorem Up.trans {cs : List Cls} {a b c : Nat} (h1 : Up cs a b) (h2 : Up cs b c) : Up cs a c := by
  induction h1 with
  | refl => exact h2
  | step p hp _ ih => exact .step p hp (ih h2)
theorem Up.root {cs : List Cls} (h : ClsOk cs) : ∀ {a : Nat}, a < cs.length → Up cs a 0 := by
  intro a
  induction a using Nat.strongRecOn with
  | _ a ih =>
    intro ha
    rcases Nat.eq_zero_or_pos a with h0 | h0
    · subst h0; exact .refl 0
    · obtain ⟨p, hp, hlt⟩ := h.sup_nat h0 ha
      exact .step p hp (ih p hlt (by omega))
inductive Flds (cs : List Cls) : Nat → List Int → Prop
  | root : Flds cs 0 []
  | step {c : Nat} {l : List Int} (p : Nat) (hc : c ≠ 0) (hp : sup cs c = (p : Int)) (h : Flds cs p l) : Flds cs c (l ++ flds cs c)
theorem Flds.fn {cs : List Cls} {c : Nat} {l l' : List Int} (h : Flds cs c l) (h' : Flds cs c l') : l = l' := by
  induction h generalizing l' with
  | root =>
    cases h' with
    | root => rfl
    | step p hc _ _ => exact absurd rfl hc
  | step p hc hp _ ih =>
    cases h' with
    | root => exact absurd rfl hc
    | step q _ hq hl =>
      have : p = q := by omega
      subst this
      rw [ih hl]
theorem rdSup {cs : List Cls} (i : Nat) : (rd_T76 cs (i : Int)).f0 = sup cs i := rfl
theorem rdFlds {cs : List Cls} (i : Nat) : (rd_T76 cs (i : Int)).f1 = flds cs i := rfl
theorem rdInt {xs : List Int} {i : Nat} (h : i < xs.length) : rd xs (i : Int) = xs[i] := getD_at h _
def SmallC (cs : List Cls) : Prop := cs.length ≤ 1048576 ∧ ∀ i, i < cs.length → (flds cs i).length ≤ 1048576 ∧ (∀ t ∈ flds cs i, -9223372036854775808 ≤ t ∧ t ≤ 9223372036854775807)
end Go.Proofs.Ytedodaifpekahaa.Kit

end
section

namespace Go.Proofs.Ytedodaifpekahaa.Kit
open Go Go.RowKit Go.Proofs.YtedodaifpekahaaW.PrintWords Go.Proofs.Ytedodaifpekahaa.P
set_option linter.unusedVariables false
theorem in_eq (a lo hi : Int) : spec_l6In.f a lo hi = some (decide (lo ≤ a ∧ a ≤ hi)) := by
  unfold spec_l6In.f
  by_cases h : lo ≤ a <;> simp [h]
theorem kindOf_eq {n : Nat} {t : Int} (hn : n ≤ 1000000000) (h0 : -9223372036854775808 ≤ t) (h1 : t ≤ 9223372036854775807) :
    impl_kindOf.f (n : Int) t = some (if (0 ≤ t ∧ t ≤ 4) ∨ (8 ≤ t ∧ t < 8 + (n : Int)) then t else -1) := by
  unfold impl_kindOf.f
  rw [if_pos ⟨by omega, by omega, h0, h1⟩]
  repeat' split
  all_goals first | omega | (congr 1; omega) | rfl
theorem fieldType_eq {n : Nat} {t : Int} (hn : n ≤ 1000000000) (h0 : -9223372036854775808 ≤ t) (h1 : t ≤ 9223372036854775807) :
    ∃ b, impl_fieldType.f (n : Int) t = some b ∧ (b = true ↔ FieldTy n t) := by
  unfold impl_fieldType.f
  rw [kindOf_eq hn h0 h1, Option.bind_some]
  refine ⟨_, rfl, ?_⟩
  rw [decide_eq_true_iff]
  unfold FieldTy
  split <;> omega
theorem field_eq {cs : List Cls} {t : Int} (hn : cs.length ≤ 1000000000) : ∃ b, spec_l2Field.f cs t = some b ∧ (b = true ↔ FieldTy cs.length t) := by
  unfold spec_l2Field.f FieldTy
  rw [in_eq, w64 (n := 8 + (cs.length : Int)) (by omega) (by omega), w64 (by omega) (by omega)]
  by_cases h1 : t = 1
  · exact ⟨true, by rw [if_pos h1], by simp [h1]⟩
  rw [if_neg h1]
  by_cases h2 : t = 3
  · exact ⟨true, by rw [if_pos h2], by simp [h2]⟩
  rw [if_neg h2]
  by_cases h3 : t = 4
  · exact ⟨true, by rw [if_pos h3], by simp [h3]⟩
  rw [if_neg h3]
  refine ⟨_, rfl, ?_⟩
  simp only [h1, h2, h3, false_or, decide_eq_true_iff]
  omega
theorem impl_isClass_eq (cs : List Cls) (a : Int) : ∃ b, impl_isClass.f cs a = some b ∧ (b = true ↔ 0 ≤ a ∧ a < (cs.length : Int)) := by
  unfold impl_isClass.f
  by_cases h : a ≥ 0
  · rw [if_pos h]; exact ⟨_, rfl, by rw [decide_eq_true_iff]; omega⟩
  · rw [if_neg h]; exact ⟨_, rfl, by simp; omega⟩
def Shp (cs : List Cls) (c : Nat) : Prop := (if c = 0 then sup cs 0 = -1 ∧ (flds cs 0).length = 0 else if c = 1 then sup cs 1 = 0 ∧ flds cs 1 = [1] else 0 ≤ sup cs c ∧ sup cs c < (c : Int) ∧ (flds cs c).length ≤ 2)
theorem shp0 {cs : List Cls} : Shp cs 0 ↔ sup cs 0 = -1 ∧ (flds cs 0).length = 0 := by unfold Shp; rw [if_pos rfl]
theorem shp1 {cs : List Cls} : Shp cs 1 ↔ sup cs 1 = 0 ∧ flds cs 1 = [1] := by unfold Shp; rw [if_neg (by decide), if_pos rfl]
theorem shp2 {cs : List Cls} {c : Nat} (h : 2 ≤ c) : Shp cs c ↔ 0 ≤ sup cs c ∧ sup cs c < (c : Int) ∧ (flds cs c).length ≤ 2 := by unfold Shp; rw [if_neg (by omega), if_neg (by omega)]
def At (cs : List Cls) (c : Nat) : Prop := (∀ t ∈ flds cs c, FieldTy cs.length t) ∧ Shp cs c
theorem clsOk_iff {cs : List Cls} : ClsOk cs ↔ 2 ≤ cs.length ∧ cs.length ≤ 5 ∧ ∀ c, c < cs.length → At cs c := by
  constructor
  · intro h
    refine ⟨h.lo, h.hi, fun c hc => ⟨h.fld c hc, ?_⟩⟩
    rcases Nat.lt_or_ge c 2 with h2 | h2
    · rcases Nat.lt_or_ge c 1 with h1 | h1
      · have : c = 0 := by omega
        subst this
        exact shp0.2 ⟨h.root.1, by rw [h.root.2]; rfl⟩
      · have : c = 1 := by omega
        subst this
        exact shp1.2 h.fail
    · exact (shp2 h2).2 (h.up c h2 hc)
  · intro ⟨h1, h2, h3⟩
    have a0 := shp0.1 (h3 0 (by omega)).2
    have a1 := shp1.1 (h3 1 (by omega)).2
    exact ⟨h1, h2, ⟨a0.1, List.eq_nil_of_length_eq_zero a0.2⟩, a1, fun i hi hl => (shp2 hi).1 (h3 i hl).2, fun i hi => (h3 i hi).1⟩
theorem spec_class {cs : List Cls} (hs : SmallC cs) {c : Nat} (hc : c < cs.length) : Evp (fun k => spec_l2Class.f k cs (c : Int)) (fun r => r = true ↔ At cs c) := by
  unfold spec_l2Class.f
  refine Evp.yes (by omega) (Evp.yes (by omega) ?_)
  rw [rdSup, rdFlds]
  have hl := (hs.2 c hc).1
  have hl0 := hs.1
  have key : ∀ i, i ≤ (flds cs c).length → Evp (fun k => spec_l2Class.l0 k cs (c : Int) (i : Int) (sup cs c) (flds cs c)) (fun r => r = true ↔ (∀ t ∈ (flds cs c).drop i, FieldTy cs.length t) ∧ Shp cs c) := by
    refine Evp.for_ ?_ (fun i hi ih => ?_)
    · refine Evp.step (f := fun k => _) (fun k => by rw [spec_l2Class.l0, in_eq]) (Evp.no (by omega) ?_)
      rw [List.drop_length]
      simp only [List.not_mem_nil, false_implies, implies_true, true_and]
      refine Evp.ite (fun h0 => ?_) (fun h0 => ?_)
      · have : c = 0 := by omega
        subst this
        rw [shp0]
        refine Evp.ite (fun h => Evp.pure _ ?_) (fun h => Evp.pure _ (by simp [h]))
        rw [beq_iff_eq]
        constructor
        · intro h2; exact ⟨h, by omega⟩
        · intro h2; omega
      · refine Evp.ite (fun h1 => ?_) (fun h1 => ?_)
        · have : c = 1 := by omega
          subst this
          rw [shp1]
          refine Evp.ite (fun h => ?_) (fun h => Evp.pure _ (by simp [h]))
          refine Evp.ite (fun h2 => ?_) (fun h2 => Evp.pure _ ?_)
          · refine Evp.yes (by omega) (Evp.pure _ ?_)
            obtain ⟨x, hx⟩ := List.length_eq_one_iff.1 (by omega : (flds cs 1).length = 1)
            rw [hx, show rd [x] 0 = x from rfl, beq_iff_eq]
            simp [h]
          · constructor
            · intro h3; cases h3
            · intro h3; rw [h3.2] at h2; exact absurd rfl h2
        · rw [shp2 (by omega)]
          refine Evp.congr (f := fun k => if 0 ≤ sup cs c ∧ sup cs c ≤ (c : Int) - 1 then some (decide (((flds cs c).length : Int) ≤ 2)) else some false) (fun k => by rw [w64 (n := (c : Int) - 1) (by omega) (by omega), Option.bind_some]; simp only [decide_eq_true_iff]) ?_
          refine Evp.ite (fun h => Evp.pure _ ?_) (fun h => Evp.pure _ ?_)
          · simp only [decide_eq_true_iff]
            omega
          · constructor
            · intro h3; cases h3
            · intro h3; omega
    · obtain ⟨b, hb, hb2⟩ := field_eq (cs := cs) (t := (flds cs c)[i]) (by omega)
      refine Evp.step (f := fun k => _) (fun k => by rw [spec_l2Class.l0, rdInt hi, hb, Option.bind_some]) (Evp.yes (by omega) (Evp.yes (by omega) ?_))
      rw [w64' hi (by omega), drop_at hi]
      refine Evp.ite (fun h => ih.mono fun r hr => ?_) (fun h => Evp.pure _ ?_)
      · rw [hr, List.forall_mem_cons]
        exact ⟨fun h2 => ⟨⟨hb2.1 h, h2.1⟩, h2.2⟩, fun h2 => ⟨h2.1.2, h2.2⟩⟩
      · rw [List.forall_mem_cons]
        exact ⟨fun h2 => (by cases h2), fun h2 => absurd (hb2.2 h2.1.1) h⟩
  exact key 0 (Nat.zero_le _)
theorem spec_classesOk {cs : List Cls} (hs : SmallC cs) : Evp (fun k => spec_ClassesOk.f k cs) (fun r => r = true ↔ ClsOk cs) := by
  have hl0 := hs.1
  unfold spec_ClassesOk.f
  rw [in_eq]
  simp only [Option.bind_some]
  refine Evp.ite (fun h => ?_) (fun h => Evp.pure _ ?_)
  · simp only [decide_eq_true_iff] at h
    have key : ∀ i, i ≤ cs.length → Evp (fun k => spec_ClassesOk.l0 k cs (i : Int)) (fun r => r = true ↔ ∀ c, i ≤ c → c < cs.length → At cs c) := by
      refine Evp.for_ ?_ (fun i hi ih => ?_)
      · refine Evp.step (f := fun k => _) (fun k => by rw [spec_ClassesOk.l0]) (Evp.no (by omega) (Evp.pure _ ?_))
        simp only [true_iff]
        intro c h1 h2; omega
      · refine Evp.step (f := fun k => _) (fun k => by rw [spec_ClassesOk.l0]) (Evp.yes (by omega) ?_)
        refine Evp.bind (spec_class hs hi) fun b hb => ?_
        rw [w64' hi (by omega)]
        refine Evp.ite (fun h1 => ih.mono fun r hr => ?_) (fun h1 => Evp.pure _ ?_)
        · rw [hr]
          constructor
          · intro h2 c h3 h4
            rcases Nat.lt_or_ge i c with h5 | h5
            · exact h2 c h5 h4
            · have : c = i := by omega
              subst this
              exact hb.1 h1
          · intro h2 c h3 h4; exact h2 c (by omega) h4
        · constructor
          · intro h2; cases h2
          · intro h2; exact absurd (hb.2 (h2 i (Nat.le_refl _) hi)) h1
    refine (key 0 (Nat.zero_le _)).mono fun r hr => ?_
    rw [hr, clsOk_iff]
    constructor
    · intro h2; exact ⟨by omega, by omega, fun c hc => h2 c (Nat.zero_le _) hc⟩
    · intro h2 c _ hc; exact h2.2.2 c hc
  · simp only [decide_eq_true_iff] at h
    constructor
    · intro h2; cases h2
    · intro h2; have := h2.lo; have := h2.hi; omega
theorem impl_classesOk {cs : List Cls} (hs : SmallC cs) : Evp (fun k => impl_ClassesOk.f k cs) (fun r => r = true ↔ ClsOk cs) := by
  have hl0 := hs.1
  have no : ∀ {p : Prop}, ¬ p → ((false = true) ↔ p) := fun h => ⟨fun h2 => (by cases h2), fun h2 => absurd h2 h⟩
  have jno : ¬ (2 ≤ cs.length ∧ cs.length ≤ 5) → Evp (fun k => impl_ClassesOk.j0 k cs true) (fun r => r = true ↔ ClsOk cs) := fun h =>
    Evp.step (f := fun k => _) (fun k => by rw [impl_ClassesOk.j0]) (Evp.yes rfl (Evp.pure _ (no fun h2 => h ⟨h2.lo, h2.hi⟩)))
  unfold impl_ClassesOk.f
  refine Evp.ite (fun h => jno (by omega)) (fun h => ?_)
  by_cases h5 : ¬ cs.length ≤ 5
  · rw [decide_eq_true (by omega)]; exact jno (by omega)
  rw [decide_eq_false (by omega)]
  have h2 : 2 ≤ cs.length := by omega

  have loop : (sup cs 0 = -1 ∧ flds cs 0 = []) → (sup cs 1 = 0 ∧ flds cs 1 = [1]) → ∀ i, i ≤ cs.length → Evp (fun k => impl_ClassesOk.l0 k cs cs (cs.length : Int) (i : Int)) (fun r => r = true ↔ ∀ c, i ≤ c → c < cs.length → At cs c) := by
    intro hr hf
    refine Evp.for_ ?_ (fun i hi ih => ?_)
    · refine Evp.step (f := fun k => _) (fun k => by rw [impl_ClassesOk.l0]) (Evp.no (by omega) (Evp.pure _ ?_))
      simp only [true_iff]
      intro c h1 h2; omega
    · have ih2 : At cs i → ∀ r : Bool, (r = true ↔ ∀ c, i + 1 ≤ c → c < cs.length → At cs c) → (r = true ↔ ∀ c, i ≤ c → c < cs.length → At cs c) := by
        intro ha r hr
        rw [hr]
        constructor
        · intro h2 c h3 h4
          rcases Nat.lt_or_ge i c with h5 | h5
          · exact h2 c h5 h4
          · have : c = i := by omega
            subst this
            exact ha
        · intro h2 c h3 h4; exact h2 c (by omega) h4
      have hno : ¬ At cs i → ((false = true) ↔ ∀ c, i ≤ c → c < cs.length → At cs c) := fun h => no fun h2 => h (h2 i (Nat.le_refl _) hi)
      have hl := (hs.2 i hi).1
      have hb := (hs.2 i hi).2

      have fl : Shp cs i →
          ∀ j, j ≤ (flds cs i).length → (∀ t ∈ (flds cs i).take j, FieldTy cs.length t) → Evp (fun k => impl_ClassesOk.l1 k cs cs (cs.length : Int) (i : Int) (flds cs i) ((flds cs i).length : Int) (j : Int)) (fun r => r = true ↔ ∀ c, i ≤ c → c < cs.length → At cs c) := by
        intro hc
        have key : ∀ j, j ≤ (flds cs i).length → ∀ _ : Unit, (∀ t ∈ (flds cs i).take j, FieldTy cs.length t) → Evp (fun k => impl_ClassesOk.l1 k cs cs (cs.length : Int) (i : Int) (flds cs i) ((flds cs i).length : Int) (j : Int)) (fun r => r = true ↔ ∀ c, i ≤ c → c < cs.length → At cs c) := by
          refine Evp.fors (g := fun j (_ : Unit) k => impl_ClassesOk.l1 k cs cs (cs.length : Int) (i : Int) (flds cs i) ((flds cs i).length : Int) (j : Int)) (I := fun j _ => ∀ t ∈ (flds cs i).take j, FieldTy cs.length t) (R := fun _ _ r => r = true ↔ ∀ c, i ≤ c → c < cs.length → At cs c) (fun _ hI => ?_) (fun j hj ihj _ hI => ?_)
          · refine Evp.step (f := fun k => _) (fun k => by rw [impl_ClassesOk.l1]) (Evp.no (by omega) ?_)
            rw [w64' hi (by omega)]
            refine ih.mono (ih2 ⟨?_, hc⟩)
            simpa using hI
          · obtain ⟨b, hb1, hb2⟩ := fieldType_eq (n := cs.length) (t := (flds cs i)[j]) (by omega) (hb _ (List.getElem_mem hj)).1 (hb _ (List.getElem_mem hj)).2
            refine Evp.step (f := fun k => _) (fun k => by rw [impl_ClassesOk.l1, rdInt hj, hb1, Option.bind_some]) (Evp.yes (by omega) (Evp.yes (by omega) (Evp.yes (by omega) ?_)))
            rw [w64' hj (by omega)]
            refine Evp.ite (fun h => ihj () ?_) (fun h => Evp.pure _ (hno ?_))
            · rw [List.take_succ_eq_append_getElem hj]
              intro t ht
              rcases List.mem_append.1 ht with ht | ht
              · exact hI t ht
              · rw [List.mem_singleton.1 ht]; exact hb2.1 h
            · intro ha; exact h (hb2.2 (ha.1 _ (List.getElem_mem hj)))
        exact fun j hj => key j hj ()
      have j4 : ∀ b : Bool, (b = true ↔ 2 ≤ i ∧ ¬ (0 ≤ sup cs i ∧ sup cs i < (i : Int))) → Evp (fun k => impl_ClassesOk.j4 k cs cs (cs.length : Int) (i : Int) b (sup cs i) (flds cs i)) (fun r => r = true ↔ ∀ c, i ≤ c → c < cs.length → At cs c) := by
        intro b hb4
        refine Evp.step (f := fun k => _) (fun k => by rw [impl_ClassesOk.j4]) ?_
        refine Evp.ite (fun h => Evp.pure _ (hno ?_)) (fun h => ?_)
        · intro ha
          have h6 := hb4.1 h
          have := (shp2 h6.1).1 ha.2
          omega
        · have h6 : ¬ (2 ≤ i ∧ ¬ (0 ≤ sup cs i ∧ sup cs i < (i : Int))) := fun h7 => h (hb4.2 h7)
          refine Evp.ite (fun h7 => Evp.pure _ (hno ?_)) (fun h7 => fl ?_ 0 (Nat.zero_le _) (by simp))
          · intro ha
            rcases Nat.lt_or_ge i 2 with h8 | h8
            · rcases Nat.lt_or_ge i 1 with h9 | h9
              · have : i = 0 := by omega
                subst this
                have := (shp0.1 ha.2).2
                omega
              · have : i = 1 := by omega
                subst this
                rw [hf.2] at h7; exact absurd h7 (by decide)
            · have := (shp2 h8).1 ha.2
              omega
          · rcases Nat.lt_or_ge i 2 with h8 | h8
            · rcases Nat.lt_or_ge i 1 with h9 | h9
              · have : i = 0 := by omega
                subst this
                exact shp0.2 ⟨hr.1, by rw [hr.2]; rfl⟩
              · have : i = 1 := by omega
                subst this
                exact shp1.2 hf
            · exact (shp2 h8).2 (by omega)
      refine Evp.step (f := fun k => _) (fun k => by rw [impl_ClassesOk.l0, rdSup, rdFlds]) (Evp.yes (by omega) (Evp.yes (by omega) (Evp.yes (by omega) ?_)))
      refine Evp.ite (fun h => Evp.ite (fun h8 => j4 _ ?_) (fun h8 => j4 _ ?_)) (fun h => j4 _ ?_)
      · simp; omega
      · rw [decide_eq_true_iff]; omega
      · simp; omega
  have done : (sup cs 0 = -1 ∧ flds cs 0 = []) → (sup cs 1 = 0 ∧ flds cs 1 = [1]) → Evp (fun k => impl_ClassesOk.l0 k cs cs (cs.length : Int) 0) (fun r => r = true ↔ ClsOk cs) := by
    intro hr hf
    refine (loop hr hf 0 (Nat.zero_le _)).mono fun r hr2 => ?_
    rw [hr2, clsOk_iff]
    constructor
    · intro h3; exact ⟨by omega, by omega, fun c hc => h3 c (Nat.zero_le _) hc⟩
    · intro h3 c _ hc; exact h3.2.2 c hc
  have j2 : (sup cs 0 = -1 ∧ flds cs 0 = []) → ∀ b : Bool, (b = false ↔ (sup cs 1 = 0 ∧ flds cs 1 = [1])) → Evp (fun k => impl_ClassesOk.j2 k cs b) (fun r => r = true ↔ ClsOk cs) := by
    intro hr b hb
    refine Evp.step (f := fun k => _) (fun k => by rw [impl_ClassesOk.j2]) ?_
    refine Evp.ite (fun h => Evp.pure _ (no fun h3 => ?_)) (fun h => done hr (hb.1 (by simpa using h)))
    have := hb.2 h3.fail
    rw [h] at this; cases this
  have j1 : ∀ b : Bool, (b = false ↔ (sup cs 0 = -1 ∧ flds cs 0 = [])) → Evp (fun k => impl_ClassesOk.j1 k cs b) (fun r => r = true ↔ ClsOk cs) := by
    intro b hb
    refine Evp.step (f := fun k => _) (fun k => by rw [impl_ClassesOk.j1, show (1 : Int) = ((1 : Nat) : Int) from rfl, rdSup, rdFlds]) ?_
    refine Evp.ite (fun h => Evp.pure _ (no fun h3 => ?_)) (fun h => ?_)
    · have := hb.2 h3.root
      rw [h] at this; cases this
    · have hr := hb.1 (by simpa using h)
      refine Evp.yes (by omega) (Evp.ite (fun h1 => Evp.ite (fun h3 => Evp.yes (by omega) (j2 hr _ ?_)) (fun h3 => j2 hr _ ?_)) (fun h1 => j2 hr _ ?_))
      · obtain ⟨x, hx⟩ := List.length_eq_one_iff.1 (by omega : (flds cs 1).length = 1)
        rw [hx, show rd [x] 0 = x from rfl]
        simp [h1]
      · constructor
        · intro h4; cases h4
        · intro h4; rw [h4.2] at h3; exact absurd rfl h3
      · constructor
        · intro h4; cases h4
        · intro h4; exact absurd h4.1 h1
  refine Evp.step (f := fun k => _) (fun k => by rw [impl_ClassesOk.j0, show (0 : Int) = ((0 : Nat) : Int) from rfl, rdSup, rdFlds]) (Evp.no (by decide) (Evp.yes (by omega) ?_))
  refine Evp.ite (fun h1 => j1 _ ?_) (fun h1 => j1 _ ?_)
  · constructor
    · intro h3
      have : (flds cs 0).length = 0 := by simpa using h3
      exact ⟨h1, List.eq_nil_of_length_eq_zero this⟩
    · intro h3; rw [h3.2]; rfl
  · constructor
    · intro h3; cases h3
    · intro h3; exact absurd h3.1 h1
end Go.Proofs.Ytedodaifpekahaa.Kit

end
section

namespace Go.Proofs.Ytedodaifpekahaa.Kit
open Go Go.RowKit Go.Proofs.YtedodaifpekahaaW.PrintWords Go.Proofs.Ytedodaifpekahaa.P
set_option linter.unusedVariables false
theorem iff_no {p : Prop} (h : ¬ p) : (false = true) ↔ p := ⟨fun h2 => (by cases h2), fun h2 => absurd h2 h⟩
theorem iff_yes {p : Prop} (h : p) : (true = true) ↔ p := ⟨fun _ => h, fun _ => rfl⟩
theorem Up.via {cs : List Cls} {a b p : Nat} (hp : sup cs a = (p : Int)) (hne : a ≠ b) : Up cs a b ↔ Up cs p b := by
  constructor
  · intro h
    rcases h.inv with rfl | ⟨q, hq, h2⟩
    · exact absurd rfl hne
    · have : p = q := by omega
      subst this
      exact h2
  · intro h; exact .step p hp h
theorem spec_up {cs : List Cls} (h : ClsOk cs) (b : Nat) : ∀ a : Nat, a < cs.length → Evp (fun k => spec_l2Up.f k cs (a : Int) (b : Int)) (fun r => r = true ↔ Up cs a b) := by
  intro a
  induction a using Nat.strongRecOn with
  | _ a ih =>
    intro ha
    unfold spec_l2Up.f at ih ⊢
    refine Evp.step (f := fun k => _) (fun k => by rw [spec_l2Up.l0, rdSup]) (Evp.ite (fun hab => ?_) (fun hab => Evp.pure _ ?_))
    · obtain ⟨p, hp, hlt⟩ := h.sup_nat (by omega : 1 ≤ a) ha
      refine Evp.yes (by omega) (Evp.yes (by omega) ?_)
      rw [hp]
      exact (ih p hlt (by omega)).mono fun r hr => hr.trans (Up.via hp (by omega)).symm
    · rw [beq_iff_eq]
      constructor
      · intro h2
        have : a = b := by omega
        subst this; exact .refl _
      · intro h2
        have := h2.le h ha
        omega
theorem impl_up {cs : List Cls} (h : ClsOk cs) (b : Nat) : ∀ a : Nat, a < cs.length → Evp (fun k => impl_classUp.f k cs (a : Int) (b : Int)) (fun r => r = true ↔ Up cs a b) := by
  intro a
  induction a using Nat.strongRecOn with
  | _ a ih =>
    intro ha
    unfold impl_classUp.f at ih ⊢
    refine Evp.step (f := fun k => _) (fun k => by rw [impl_classUp.l0, rdSup]) (Evp.yes (by omega) (Evp.ite (fun hab => Evp.pure _ ?_) (fun hab => ?_)))
    · have : a = b := by omega
      subst this
      exact iff_yes (.refl _)
    · refine Evp.yes (by omega) (Evp.yes (by omega) ?_)
      rcases Nat.eq_zero_or_pos a with h0 | h0
      · subst h0
        rw [h.root.1]
        refine Evp.step (f := fun k => _) (fun k => by rw [impl_classUp.l0]) (Evp.no (by omega) (Evp.pure _ (iff_no ?_)))
        intro h2
        have := h2.le h ha
        omega
      · obtain ⟨p, hp, hlt⟩ := h.sup_nat h0 ha
        rw [hp]
        exact (ih p hlt (by omega)).mono fun r hr => hr.trans (Up.via hp (by omega)).symm
def TyOk (n : Nat) (t : Int) : Prop := t = 0 ∨ t = 2 ∨ FieldTy n t
theorem tyOk_iff {n : Nat} {t : Int} : TyOk n t ↔ (0 ≤ t ∧ t ≤ 4) ∨ (8 ≤ t ∧ t < 8 + (n : Int)) := by
  unfold TyOk FieldTy
  omega
theorem kindOf_ty {n : Nat} {t : Int} (hn : n ≤ 1000000000) (h0 : -9223372036854775808 ≤ t) (h1 : t ≤ 9223372036854775807) :
    ∃ r, impl_kindOf.f (n : Int) t = some r ∧ (TyOk n t ∧ r = t ∨ ¬ TyOk n t ∧ r = -1) := by
  refine ⟨_, kindOf_eq hn h0 h1, ?_⟩
  rw [tyOk_iff]
  by_cases h : (0 ≤ t ∧ t ≤ 4) ∨ (8 ≤ t ∧ t < 8 + (n : Int))
  · rw [if_pos h]; exact .inl ⟨h, rfl⟩
  · rw [if_neg h]; exact .inr ⟨h, rfl⟩
theorem spec_typeOk {cs : List Cls} (hs : SmallC cs) (t : Int) : Evp (fun k => spec_TypeOk.f k cs t) (fun r => r = true ↔ ClsOk cs ∧ TyOk cs.length t) := by
  have hl0 := hs.1
  unfold spec_TypeOk.f
  refine Evp.bind (spec_classesOk hs) fun b hb => Evp.ite (fun h => ?_) (fun h => Evp.pure _ (iff_no fun h2 => h (hb.2 h2.1)))
  refine Evp.ite (fun h0 => Evp.pure _ (iff_yes ⟨hb.1 h, .inl h0⟩)) (fun h0 => Evp.ite (fun h2 => Evp.pure _ (iff_yes ⟨hb.1 h, .inr (.inl h2)⟩)) (fun h2 => ?_))
  obtain ⟨c, hc, hc2⟩ := field_eq (cs := cs) (t := t) (by omega)
  simp only [hc, Option.bind_some]
  refine Evp.pure _ (hc2.trans ⟨fun h3 => ⟨hb.1 h, .inr (.inr h3)⟩, fun h3 => ?_⟩)
  rcases h3.2 with h4 | h4 | h4
  · exact absurd h4 h0
  · exact absurd h4 h2
  · exact h4
end Go.Proofs.Ytedodaifpekahaa.Kit

end
section

namespace Go.Proofs.Ytedodaifpekahaa.Kit
open Go Go.RowKit Go.Proofs.YtedodaifpekahaaW.PrintWords Go.Proofs.Ytedodaifpekahaa.P
set_option linter.unusedVariables false
theorem all_step {Q : Nat → Prop} {Z : Prop} {i n : Nat} {r : Bool} (hq : Q i) (hr : r = true ↔ (∀ j, i + 1 ≤ j → j < n → Q j) ∧ Z) : r = true ↔ (∀ j, i ≤ j → j < n → Q j) ∧ Z := by
  rw [hr]
  constructor
  · intro ⟨h2, hz⟩
    refine ⟨fun c h3 h4 => ?_, hz⟩
    rcases Nat.lt_or_ge i c with h5 | h5
    · exact h2 c h5 h4
    · have : c = i := by omega
      subst this
      exact hq
  · intro ⟨h2, hz⟩; exact ⟨fun c h3 h4 => h2 c (by omega) h4, hz⟩
theorem all_stop {Q : Nat → Prop} {Z : Prop} {i n : Nat} (hi : i < n) (hq : ¬ Q i) : (false = true) ↔ (∀ j, i ≤ j → j < n → Q j) ∧ Z := iff_no fun h => hq (h.1 i (Nat.le_refl _) hi)
theorem all_end {Q : Nat → Prop} {Z : Prop} {n : Nat} {r : Bool} (h : r = true ↔ Z) : r = true ↔ (∀ j, n ≤ j → j < n → Q j) ∧ Z := h.trans ⟨fun hz => ⟨fun j h1 h2 => absurd h2 (by omega), hz⟩, fun h => h.2⟩
theorem all_mem {α : Type} {xs : List α} {d : α} {Q : α → Prop} : (∀ j, 0 ≤ j → j < xs.length → Q (xs.getD j d)) ↔ ∀ x ∈ xs, Q x := by
  constructor
  · intro h x hx
    obtain ⟨i, hi, rfl⟩ := List.mem_iff_getElem.1 hx
    have := h i (Nat.zero_le _) hi
    rwa [getD_at hi] at this
  · intro h j _ hj
    rw [getD_at hj]
    exact h _ (List.getElem_mem hj)
def I64 (l : List Int) : Prop := ∀ t ∈ l, -9223372036854775808 ≤ t ∧ t ≤ 9223372036854775807
theorem I64.at {l : List Int} (h : I64 l) {i : Nat} (hi : i < l.length) : -9223372036854775808 ≤ l.getD i 0 ∧ l.getD i 0 ≤ 9223372036854775807 := by
  rw [getD_at hi]; exact h _ (List.getElem_mem hi)
theorem rdN {xs : List Int} (i : Nat) : rd xs (i : Int) = xs.getD i 0 := rfl
def ShOk (cs : List Cls) (n : Int) (b : Bool) (l m : List Int) : Prop :=
  (b = true ∧ (l.length : Int) = n ∧ m.length ≤ 4 ∧ (∀ t ∈ l, TyOk cs.length t) ∧ (∀ t ∈ m, TyOk cs.length t ∧ t ≠ 0)) ∨ (b = false ∧ l.length = 0 ∧ m.length = 0)
theorem spec_shapeOk {cs : List Cls} (hs : SmallC cs) (n : Int) (b : Bool) {l m : List Int} (hl : l.length ≤ 1048576) (hm : m.length ≤ 1048576) :
    Evp (fun k => spec_ShapeOk.f k cs n b l m) (fun r => r = true ↔ ClsOk cs ∧ ShOk cs n b l m) := by
  unfold spec_ShapeOk.f
  refine Evp.bind (spec_classesOk hs) fun c hc => Evp.ite (fun h => ?_) (fun h => Evp.pure _ (iff_no fun h2 => h (hc.2 h2.1)))
  have hok := hc.1 h
  refine Evp.ite (fun hb => ?_) (fun hb => Evp.ite (fun h1 => Evp.pure _ ?_) (fun h1 => Evp.pure _ (iff_no ?_)))
  · have jt : ¬ ShOk cs n b l m → Evp (fun k => spec_ShapeOk.j0 k cs true b l m) (fun r => r = true ↔ ClsOk cs ∧ ShOk cs n b l m) := fun h =>
      Evp.step (f := fun k => _) (fun k => by rw [spec_ShapeOk.j0]) (Evp.yes rfl (Evp.pure _ (iff_no fun h2 => h h2.2)))
    refine Evp.ite (fun h1 => ?_) (fun h1 => jt ?_)
    · by_cases h4 : m.length ≤ 4
      · rw [decide_eq_false (by omega)]
        refine Evp.step (f := fun k => _) (fun k => by rw [spec_ShapeOk.j0]) (Evp.no (by decide) ?_)
        have k1 : ∀ i, i ≤ m.length → Evp (fun k => spec_ShapeOk.l1 k cs (i : Int) b l m) (fun r => r = true ↔ (∀ j, i ≤ j → j < m.length → TyOk cs.length (m.getD j 0) ∧ m.getD j 0 ≠ 0) ∧ True) := by
          refine Evp.for_ ?_ (fun i hi ih => ?_)
          · refine Evp.step (f := fun k => _) (fun k => by rw [spec_ShapeOk.l1]) (Evp.no (by omega) (Evp.pure _ (all_end (iff_yes trivial))))
          · refine Evp.step (f := fun k => _) (fun k => by rw [spec_ShapeOk.l1, rdN]) (Evp.yes (by omega) (Evp.yes (by omega) ?_))
            refine Evp.bind (spec_typeOk hs _) fun d hd => Evp.ite (fun h5 => Evp.ite (fun h6 => Evp.pure _ (all_stop hi fun h7 => h7.2 h6)) (fun h6 => ?_)) (fun h5 => Evp.pure _ (all_stop hi fun h7 => h5 (hd.2 ⟨hok, h7.1⟩)))
            rw [w64' hi (by omega)]
            exact ih.mono fun r hr => all_step (Q := fun j => TyOk cs.length (m.getD j 0) ∧ m.getD j 0 ≠ 0) ⟨(hd.1 h5).2, h6⟩ hr
        have k0 : ∀ i, i ≤ l.length → Evp (fun k => spec_ShapeOk.l0 k cs (i : Int) b l m) (fun r => r = true ↔ (∀ j, i ≤ j → j < l.length → TyOk cs.length (l.getD j 0)) ∧ ((∀ j, 0 ≤ j → j < m.length → TyOk cs.length (m.getD j 0) ∧ m.getD j 0 ≠ 0) ∧ True)) := by
          refine Evp.for_ ?_ (fun i hi ih => ?_)
          · refine Evp.step (f := fun k => _) (fun k => by rw [spec_ShapeOk.l0]) (Evp.no (by omega) ?_)
            exact (k1 0 (Nat.zero_le _)).mono fun r hr => all_end hr
          · refine Evp.step (f := fun k => _) (fun k => by rw [spec_ShapeOk.l0, rdN]) (Evp.yes (by omega) (Evp.yes (by omega) ?_))
            refine Evp.bind (spec_typeOk hs _) fun d hd => Evp.ite (fun h5 => ?_) (fun h5 => Evp.pure _ (all_stop hi fun h7 => h5 (hd.2 ⟨hok, h7⟩)))
            rw [w64' hi (by omega)]
            exact ih.mono fun r hr => all_step (Q := fun j => TyOk cs.length (l.getD j 0)) (hd.1 h5).2 hr
        refine (k0 0 (Nat.zero_le _)).mono fun r hr => hr.trans ?_
        rw [all_mem (Q := fun t => TyOk cs.length t), all_mem (Q := fun t => TyOk cs.length t ∧ t ≠ 0)]
        unfold ShOk
        rw [hb]
        constructor
        · intro h5; exact ⟨hok, .inl ⟨rfl, h1, h4, h5.1, h5.2.1⟩⟩
        · intro h5
          rcases h5.2 with h6 | h6
          · exact ⟨h6.2.2.2.1, h6.2.2.2.2, trivial⟩
          · cases h6.1
      · rw [decide_eq_true (by omega)]
        refine jt ?_
        unfold ShOk
        rw [hb]
        intro h5
        rcases h5 with h5 | h5
        · exact h4 h5.2.2.1
        · cases h5.1
    · unfold ShOk
      rw [hb]
      intro h5
      rcases h5 with h5 | h5
      · exact h1 h5.2.1
      · cases h5.1
  · have hb' : b = false := by simpa using hb
    rw [beq_iff_eq]
    unfold ShOk
    rw [hb']
    constructor
    · intro h2; exact ⟨hok, .inr ⟨rfl, by omega, by omega⟩⟩
    · intro h2
      rcases h2.2 with h3 | h3
      · cases h3.1
      · omega
  · have hb' : b = false := by simpa using hb
    unfold ShOk
    rw [hb']
    intro h2
    rcases h2.2 with h3 | h3
    · cases h3.1
    · omega
theorem impl_shapeOk' {cs : List Cls} (hs : SmallC cs) (n : Int) (b : Bool) {l m : List Int} (hl : l.length ≤ 1048576) (hm : m.length ≤ 1048576) (il : I64 l) (im : I64 m) :
    Evp (fun k => impl_shapeOk.f k cs n b l m) (fun r => r = true ↔ ShOk cs n b l m) := by
  have hl0 := hs.1
  unfold impl_shapeOk.f
  refine Evp.ite (fun hb => ?_) (fun hb => Evp.ite (fun h1 => Evp.pure _ ?_) (fun h1 => Evp.pure _ (iff_no ?_)))
  · have jt : ¬ ShOk cs n b l m → Evp (fun k => impl_shapeOk.j0 k cs true b l m) (fun r => r = true ↔ ShOk cs n b l m) := fun h =>
      Evp.step (f := fun k => _) (fun k => by rw [impl_shapeOk.j0]) (Evp.yes rfl (Evp.pure _ (iff_no h)))
    refine Evp.ite (fun h1 => ?_) (fun h1 => jt ?_)
    · by_cases h4 : m.length ≤ 4
      · rw [decide_eq_false (by omega)]
        refine Evp.step (f := fun k => _) (fun k => by rw [impl_shapeOk.j0]) (Evp.no (by decide) ?_)
        have k1 : ∀ i, i ≤ m.length → Evp (fun k => impl_shapeOk.l1 k cs m (m.length : Int) (i : Int)) (fun r => r = true ↔ (∀ j, i ≤ j → j < m.length → TyOk cs.length (m.getD j 0) ∧ m.getD j 0 ≠ 0) ∧ True) := by
          refine Evp.for_ ?_ (fun i hi ih => ?_)
          · refine Evp.step (f := fun k => _) (fun k => by rw [impl_shapeOk.l1]) (Evp.no (by omega) (Evp.pure _ (all_end (iff_yes trivial))))
          · obtain ⟨q, hq, hq2⟩ := kindOf_ty (n := cs.length) (t := m.getD i 0) (by omega) (im.at hi).1 (im.at hi).2
            refine Evp.step (f := fun k => _) (fun k => by rw [impl_shapeOk.l1, rdN, hq, Option.bind_some]) (Evp.yes (by omega) (Evp.yes (by omega) (Evp.yes (by omega) ?_)))
            refine Evp.ite (fun h6 => Evp.pure _ (all_stop hi fun h7 => h7.2 h6)) (fun h6 => ?_)
            rcases hq2 with ⟨h7, rfl⟩ | ⟨h7, rfl⟩
            · refine Evp.no (by have := tyOk_iff.1 h7; omega) ?_
              rw [w64' hi (by omega)]
              exact ih.mono fun r hr => all_step (Q := fun j => TyOk cs.length (m.getD j 0) ∧ m.getD j 0 ≠ 0) ⟨h7, h6⟩ hr
            · exact Evp.yes rfl (Evp.pure _ (all_stop hi fun h8 => h7 h8.1))
        have k0 : ∀ i, i ≤ l.length → Evp (fun k => impl_shapeOk.l0 k cs l (l.length : Int) (i : Int) b l m) (fun r => r = true ↔ (∀ j, i ≤ j → j < l.length → TyOk cs.length (l.getD j 0)) ∧ ((∀ j, 0 ≤ j → j < m.length → TyOk cs.length (m.getD j 0) ∧ m.getD j 0 ≠ 0) ∧ True)) := by
          refine Evp.for_ ?_ (fun i hi ih => ?_)
          · refine Evp.step (f := fun k => _) (fun k => by rw [impl_shapeOk.l0]) (Evp.no (by omega) ?_)
            exact (k1 0 (Nat.zero_le _)).mono fun r hr => all_end hr
          · obtain ⟨q, hq, hq2⟩ := kindOf_ty (n := cs.length) (t := l.getD i 0) (by omega) (il.at hi).1 (il.at hi).2
            refine Evp.step (f := fun k => _) (fun k => by rw [impl_shapeOk.l0, rdN, hq, Option.bind_some]) (Evp.yes (by omega) (Evp.yes (by omega) (Evp.yes (by omega) ?_)))
            rcases hq2 with ⟨h7, rfl⟩ | ⟨h7, rfl⟩
            · refine Evp.no (by have := tyOk_iff.1 h7; omega) ?_
              rw [w64' hi (by omega)]
              exact ih.mono fun r hr => all_step (Q := fun j => TyOk cs.length (l.getD j 0)) h7 hr
            · exact Evp.yes rfl (Evp.pure _ (all_stop hi h7))
        refine (k0 0 (Nat.zero_le _)).mono fun r hr => hr.trans ?_
        rw [all_mem (Q := fun t => TyOk cs.length t), all_mem (Q := fun t => TyOk cs.length t ∧ t ≠ 0)]
        unfold ShOk
        rw [hb]
        constructor
        · intro h5; exact .inl ⟨rfl, h1, h4, h5.1, h5.2.1⟩
        · intro h5
          rcases h5 with h6 | h6
          · exact ⟨h6.2.2.2.1, h6.2.2.2.2, trivial⟩
          · cases h6.1
      · rw [decide_eq_true (by omega)]
        refine jt ?_
        unfold ShOk
        rw [hb]
        intro h5
        rcases h5 with h5 | h5
        · exact h4 h5.2.2.1
        · cases h5.1
    · unfold ShOk
      rw [hb]
      intro h5
      rcases h5 with h5 | h5
      · exact h1 h5.2.1
      · cases h5.1
  · have hb' : b = false := by simpa using hb
    rw [beq_iff_eq]
    unfold ShOk
    rw [hb']
    constructor
    · intro h2; exact .inr ⟨rfl, by omega, by omega⟩
    · intro h2
      rcases h2 with h3 | h3
      · cases h3.1
      · omega
  · have hb' : b = false := by simpa using hb
    unfold ShOk
    rw [hb']
    intro h2
    rcases h2 with h3 | h3
    · cases h3.1
    · omega
end Go.Proofs.Ytedodaifpekahaa.Kit

end
section

namespace Go.Proofs.Ytedodaifpekahaa.Kit
open Go Go.RowKit Go.Proofs.YtedodaifpekahaaW.PrintWords Go.Proofs.Ytedodaifpekahaa.P
set_option linter.unusedVariables false
abbrev Mth := S46
abbrev Ins := S67
abbrev Shp_ := S70
abbrev Cth := S73
theorem rdX {xs : List Ins} (i : Nat) : rd_T67 xs (i : Int) = xs.getD i z67 := rfl
theorem rdS {xs : List Shp_} (i : Nat) : rd_T70 xs (i : Int) = xs.getD i z70 := rfl
theorem rdK {xs : List Cth} (i : Nat) : rd_T73 xs (i : Int) = xs.getD i z73 := rfl
def self_ (a0 : Int) : Int := if 0 ≤ a0 then 1 else 0
theorem self_no {a0 : Int} (h : a0 < 0) : self_ a0 = 0 := if_neg (by omega)
theorem self_yes {a0 : Int} (h : 0 ≤ a0) : self_ a0 = 1 := if_pos h
def HeadA (n : Nat) (a0 a1 : Int) : Prop := (a0 = -1 ∧ a1 = 0) ∨ (1 ≤ a0 ∧ a0 < (n : Int) ∧ 0 ≤ a1 ∧ a1 < 3)
def HeadB (n : Nat) (a0 : Int) (l2 : List Int) (a3 a4 : Int) : Prop := l2.length ≤ 2 ∧ FieldTy n a3 ∧ (∀ t ∈ l2, FieldTy n t) ∧ a4 ≤ 3 ∧ self_ a0 + (l2.length : Int) ≤ a4
def HeadOk (n : Nat) (a0 a1 : Int) (l2 : List Int) (a3 a4 : Int) : Prop := HeadA n a0 a1 ∧ HeadB n a0 l2 a3 a4
theorem given_eq {a0 a1 : Int} {l2 : List Int} {a3 a4 : Int} {l5 : List Ins} {l6 : List Shp_} {l7 : List Cth} (hl : l2.length ≤ 1048576) : ∃ g, impl_given.f a0 a1 l2 a3 a4 l5 l6 l7 = some g ∧ (g.length : Int) = self_ a0 + (l2.length : Int) := by
  unfold impl_given.f
  by_cases h : a0 ≥ 0
  · rw [if_pos h, if_pos (by simp)]
    simp only [Option.bind_some]
    rw [if_pos (by simp; omega), self_yes h]
    exact ⟨_, rfl, by simp; omega⟩
  · rw [if_neg h, if_pos (by simp; omega), self_no (by omega)]
    exact ⟨_, rfl, by simp⟩
theorem impl_head {cs : List Cls} (hs : SmallC cs) (ms : List Mth) {a0 a1 : Int} {l2 : List Int} {a3 a4 : Int} (l5 : List Ins) (l6 : List Shp_) (l7 : List Cth) (h0 : -9223372036854775808 ≤ a3) (h1 : a3 ≤ 9223372036854775807) (hl : l2.length ≤ 1048576) (il : I64 l2) :
    Evp (fun k => impl_headOk.f k cs ms a0 a1 l2 a3 a4 l5 l6 l7) (fun r => r = true ↔ HeadOk cs.length a0 a1 l2 a3 a4) := by
  have hs0 := hs.1
  have jt : ∀ P : Prop, ¬ P → Evp (fun k => impl_headOk.j1 k true cs ms a0 a1 l2 a3 a4 l5 l6 l7) (fun r => r = true ↔ P) := fun P h =>
    Evp.step (f := fun k => _) (fun k => by rw [impl_headOk.j1]) (Evp.yes rfl (Evp.pure _ (iff_no h)))
  have j0 : Evp (fun k => impl_headOk.j0 k cs ms a0 a1 l2 a3 a4 l5 l6 l7) (fun r => r = true ↔ HeadB cs.length a0 l2 a3 a4) := by
    refine Evp.step (f := fun k => _) (fun k => by rw [impl_headOk.j0]) (Evp.ite (fun h2 => jt _ fun h3 => ?_) (fun h2 => ?_))
    · have := h3.1; omega
    obtain ⟨b, hb, hb2⟩ := fieldType_eq (n := cs.length) (by omega) h0 h1
    simp only [hb, Option.bind_some]
    cases b with
    | false => exact jt _ fun h3 => by have := hb2.2 h3.2.1; cases this
    | true =>
      have h3 := hb2.1 rfl
      refine Evp.step (f := fun k => _) (fun k => by rw [impl_headOk.j1]) (Evp.no (by decide) ?_)
      obtain ⟨g, hg, hg2⟩ := given_eq (a0 := a0) (a1 := a1) (a3 := a3) (a4 := a4) (l5 := l5) (l6 := l6) (l7 := l7) hl
      have k0 : ∀ i, i ≤ l2.length → Evp (fun k => impl_headOk.l0 k l2 (l2.length : Int) (i : Int) cs ms a0 a1 l2 a3 a4 l5 l6 l7) (fun r => r = true ↔ (∀ j, i ≤ j → j < l2.length → FieldTy cs.length (l2.getD j 0)) ∧ (a4 ≤ 3 ∧ self_ a0 + (l2.length : Int) ≤ a4)) := by
        refine Evp.for_ ?_ (fun i hi ih => ?_)
        · refine Evp.step (f := fun k => _) (fun k => by rw [impl_headOk.l0]) (Evp.no (by omega) (Evp.ite (fun h4 => ?_) (fun h4 => Evp.pure _ (all_end (iff_no fun h5 => h4 h5.1)))))
          simp only [hg, Option.bind_some]
          refine Evp.pure _ (all_end ?_)
          rw [decide_eq_true_iff, ge_iff_le, hg2]
          exact ⟨fun h5 => ⟨h4, h5⟩, fun h5 => h5.2⟩
        · refine Evp.step (f := fun k => _) (fun k => by rw [impl_headOk.l0, rdN]) (Evp.yes (by omega) (Evp.yes (by omega) (Evp.yes (by omega) ?_)))
          obtain ⟨c, hc, hc2⟩ := fieldType_eq (n := cs.length) (by omega) (il.at hi).1 (il.at hi).2
          simp only [hc, Option.bind_some]
          refine Evp.ite (fun h5 => ?_) (fun h5 => Evp.pure _ (all_stop hi fun h7 => h5 (hc2.2 h7)))
          rw [w64' hi (by omega)]
          exact ih.mono fun r hr => all_step (Q := fun j => FieldTy cs.length (l2.getD j 0)) (hc2.1 h5) hr
      refine (k0 0 (Nat.zero_le _)).mono fun r hr => hr.trans ?_
      rw [all_mem (Q := fun t => FieldTy cs.length t)]
      unfold HeadB
      exact ⟨fun h5 => ⟨by omega, h3, h5.1, h5.2.1, h5.2.2⟩, fun h5 => ⟨h5.2.2.1, h5.2.2.2.1, h5.2.2.2.2⟩⟩
  have fin : HeadA cs.length a0 a1 → Evp (fun k => impl_headOk.j0 k cs ms a0 a1 l2 a3 a4 l5 l6 l7) (fun r => r = true ↔ HeadOk cs.length a0 a1 l2 a3 a4) := fun ha => j0.mono fun r hr => hr.trans ⟨fun h => ⟨ha, h⟩, fun h => h.2⟩
  have no : ¬ HeadA cs.length a0 a1 → Evp (fun k => some false) (fun r => r = true ↔ HeadOk cs.length a0 a1 l2 a3 a4) := fun ha => Evp.pure _ (iff_no fun h => ha h.1)
  unfold impl_headOk.f
  refine Evp.ite (fun h2 => Evp.ite (fun h3 => fin (.inl ⟨h2, h3⟩)) (fun h3 => no ?_)) (fun h2 => Evp.ite (fun h3 => no ?_) (fun h3 => ?_))
  · rintro (h4 | h4) <;> omega
  · rintro (h4 | h4) <;> omega
  obtain ⟨x, hx, hx2⟩ := impl_isClass_eq cs a0
  simp only [hx, Option.bind_some]
  refine Evp.ite (fun h4 => Evp.ite (fun h5 => no ?_) (fun h5 => Evp.ite (fun h6 => no ?_) (fun h6 => fin (.inr ?_)))) (fun h4 => no ?_)
  · rintro (h7 | h7) <;> omega
  · rintro (h7 | h7) <;> omega
  · have := hx2.1 h4; omega
  · rintro (h7 | h7)
    · omega
    · exact h4 (hx2.2 (by omega))
theorem spec_head {cs : List Cls} (hs : SmallC cs) (ms : List Mth) {a0 a1 : Int} {l2 : List Int} {a3 a4 : Int} (l5 : List Ins) (l6 : List Shp_) (l7 : List Cth) (hl : l2.length ≤ 1048576) :
    Evp (fun k => spec_l3Head.f k cs ms a0 a1 l2 a3 a4 l5 l6 l7) (fun r => r = true ↔ HeadOk cs.length a0 a1 l2 a3 a4) := by
  have hs0 := hs.1
  have jt : ∀ P : Prop, ¬ P → Evp (fun k => spec_l3Head.j1 k true cs ms a0 a1 l2 a3 a4 l5 l6 l7) (fun r => r = true ↔ P) := fun P h =>
    Evp.step (f := fun k => _) (fun k => by rw [spec_l3Head.j1]) (Evp.yes rfl (Evp.pure _ (iff_no h)))
  have key : Evp (fun k => spec_l3Head.j0 k (self_ a0) cs ms a0 a1 l2 a3 a4 l5 l6 l7) (fun r => r = true ↔ HeadOk cs.length a0 a1 l2 a3 a4) := by
    have hself : 0 ≤ self_ a0 ∧ self_ a0 ≤ 1 := by unfold self_; split <;> omega
    have noA : (¬ (1 ≤ a0 ∧ a0 < (cs.length : Int) ∨ a0 = -1)) → ¬ HeadOk cs.length a0 a1 l2 a3 a4 := fun h h2 => by
      rcases h2.1 with h3 | h3 <;> omega
    refine Evp.step (f := fun k => _) (fun k => by rw [spec_l3Head.j0]) (Evp.ite (fun h2 => jt _ (noA (by omega))) (fun h2 => ?_))
    rw [in_eq, w64 (n := (cs.length : Int) - 1) (by omega) (by omega)]
    simp only [Option.bind_some, decide_eq_true_iff]
    refine Evp.ite (fun h3 => ?_) (fun h3 => jt _ (noA (by omega)))
    refine Evp.ite (fun h4 => jt _ fun h5 => ?_) (fun h4 => ?_)
    · have := h5.2.1; omega
    obtain ⟨b, hb, hb2⟩ := field_eq (cs := cs) (t := a3) (by omega)
    simp only [hb, Option.bind_some]
    refine Evp.ite (fun h5 => ?_) (fun h5 => jt _ fun h6 => h5 (hb2.2 h6.2.2.1))
    rw [in_eq, w64 (by omega) (by omega)]
    simp only [Option.bind_some]
    by_cases h6 : self_ a0 + (l2.length : Int) ≤ a4 ∧ a4 ≤ 3
    · rw [decide_eq_true h6]
      refine Evp.step (f := fun k => _) (fun k => by rw [spec_l3Head.j1]) (Evp.no (by decide) ?_)
      have k0 : ∀ i, i ≤ l2.length → Evp (fun k => spec_l3Head.l0 k (i : Int) cs ms a0 a1 l2 a3 a4 l5 l6 l7) (fun r => r = true ↔ (∀ j, i ≤ j → j < l2.length → FieldTy cs.length (l2.getD j 0)) ∧ HeadA cs.length a0 a1) := by
        refine Evp.for_ ?_ (fun i hi ih => ?_)
        · refine Evp.step (f := fun k => _) (fun k => by rw [spec_l3Head.l0]) (Evp.no (by omega) ?_)
          rw [in_eq]
          simp only [Option.bind_some, decide_eq_true_iff]
          refine Evp.ite (fun h7 => Evp.ite (fun h8 => Evp.pure _ (all_end (iff_yes (.inr ?_)))) (fun h8 => Evp.no (by omega) (Evp.pure _ (all_end (iff_no ?_))))) (fun h7 => Evp.yes (by omega) (Evp.pure _ (all_end ?_)))
          · omega
          · rintro (h9 | h9) <;> omega
          · rw [beq_iff_eq]
            exact ⟨fun h9 => .inl ⟨by omega, h9⟩, fun h9 => by rcases h9 with h10 | h10 <;> omega⟩
        · refine Evp.step (f := fun k => _) (fun k => by rw [spec_l3Head.l0, rdN]) (Evp.yes (by omega) (Evp.yes (by omega) ?_))
          obtain ⟨c, hc, hc2⟩ := field_eq (cs := cs) (t := l2.getD i 0) (by omega)
          simp only [hc, Option.bind_some]
          refine Evp.ite (fun h5 => ?_) (fun h5 => Evp.pure _ (all_stop hi fun h7 => h5 (hc2.2 h7)))
          rw [w64' hi (by omega)]
          exact ih.mono fun r hr => all_step (Q := fun j => FieldTy cs.length (l2.getD j 0)) (hc2.1 h5) hr
      refine (k0 0 (Nat.zero_le _)).mono fun r hr => hr.trans ?_
      rw [all_mem (Q := fun t => FieldTy cs.length t)]
      exact ⟨fun h7 => ⟨h7.2, by omega, hb2.1 h5, h7.1, h6.2, h6.1⟩, fun h7 => ⟨h7.2.2.2.1, h7.1⟩⟩
    · rw [decide_eq_false h6]
      exact jt _ fun h7 => h6 ⟨h7.2.2.2.2.2, h7.2.2.2.2.1⟩
  unfold spec_l3Head.f
  refine Evp.ite (fun h => ?_) (fun h => ?_)
  · have := key
    rw [self_yes h] at this
    exact this
  · have := key
    rw [self_no (by omega)] at this
    exact this
end Go.Proofs.Ytedodaifpekahaa.Kit

end
section

namespace Go.Proofs.Ytedodaifpekahaa.Kit
open Go Go.RowKit Go.Proofs.YtedodaifpekahaaW.PrintWords Go.Proofs.Ytedodaifpekahaa.P
set_option linter.unusedVariables false
theorem impl_flds {cs : List Cls} (h : ClsOk cs) : ∀ a : Nat, a < cs.length → Evp (fun k => impl_classFields.f k cs (a : Int)) (fun r => Flds cs a r ∧ r.length ≤ 2 * a) := by
  have hhi := h.hi
  intro a
  induction a using Nat.strongRecOn with
  | _ a ih =>
    intro ha
    refine Evp.step (f := fun k => _) (fun k => by rw [impl_classFields.f]) (Evp.ite (fun h0 => Evp.pure _ ?_) (fun h0 => ?_))
    · have : a = 0 := by omega
      subst this
      exact ⟨.root, Nat.le_refl _⟩
    · obtain ⟨p, hp, hlt⟩ := h.sup_nat (i := a) (by omega) ha
      have e : (rd_T76 cs (a : Int)).f0 = (p : Int) := hp
      have hl2 := h.len2 ha
      refine Evp.yes (by omega) (Evp.yes (by omega) ?_)
      rw [e, rdFlds]
      refine Evp.bind (ih p hlt (by omega)) fun l hl => Evp.yes (by have := hl.2; omega) (Evp.pure _ ⟨.step p (by omega) hp hl.1, ?_⟩)
      have := hl.2
      rw [List.length_append]; omega
theorem spec_flds {cs : List Cls} (h : ClsOk cs) : ∀ a : Nat, a < cs.length → Evp (fun k => spec_l2Fields.f k cs (a : Int)) (fun r => Flds cs a r ∧ r.length ≤ 2 * a) := by
  have hhi := h.hi
  intro a
  induction a using Nat.strongRecOn with
  | _ a ih =>
    intro ha
    refine Evp.step (f := fun k => _) (fun k => by rw [spec_l2Fields.f]) (Evp.ite (fun h0 => Evp.pure _ ?_) (fun h0 => ?_))
    · have : a = 0 := by omega
      subst this
      exact ⟨.root, Nat.le_refl _⟩
    · obtain ⟨p, hp, hlt⟩ := h.sup_nat (i := a) (by omega) ha
      have e : (rd_T76 cs (a : Int)).f0 = (p : Int) := hp
      have hl2 := h.len2 ha
      refine Evp.yes (by omega) (Evp.yes (by omega) ?_)
      rw [e, rdFlds]
      refine Evp.bind (ih p hlt (by omega)) fun l hl => Evp.yes (by have := hl.2; omega) (Evp.pure _ ⟨.step p (by omega) hp hl.1, ?_⟩)
      have := hl.2
      rw [List.length_append]; omega
end Go.Proofs.Ytedodaifpekahaa.Kit

end
section

namespace Go.Proofs.Ytedodaifpekahaa.Kit
open Go Go.RowKit Go.Proofs.YtedodaifpekahaaW.PrintWords Go.Proofs.Ytedodaifpekahaa.P
set_option linter.unusedVariables false
set_option linter.unusedSimpArgs false
def OpOk (cs : List Cls) (ms : List Mth) (a4 : Int) (nc : Nat) (xa what n : Int) : Prop :=
  if what = 1 then -128 ≤ n ∧ n ≤ 127 else if what = 2 then 0 ≤ n ∧ n < a4 else if what = 3 then 1 ≤ n ∧ n ≤ 4 else if what = 4 then 0 ≤ n ∧ n < (nc : Int) else if what = 5 then 0 ≤ n ∧ n < (cs.length : Int) else if what = 6 then n = 0 ∨ n = 1 else
  if what = 7 then 0 ≤ n ∧ n < (ms.length : Int) ∧ (ms.getD n.toNat z46).f0 = -1 else if what = 8 then 0 ≤ n ∧ ∃ l, Flds cs xa.toNat l ∧ n < (l.length : Int) else if what = 9 then 0 ≤ n ∧ n < 3 else n = 0
def InsOk (cs : List Cls) (ms : List Mth) (a4 : Int) (nc : Nat) (x : Ins) : Prop := ∃ p q, wantFind x.f0 wantL = some (p, q) ∧ OpOk cs ms a4 nc x.f1 p x.f1 ∧ OpOk cs ms a4 nc x.f1 q x.f2
theorem two_evp {A B : Prop} [Decidable A] [Decidable B] : Evp (fun _ => if A then some (decide B) else some false) (fun r => r = true ↔ A ∧ B) := by
  refine Evp.ite (fun h => Evp.pure _ ?_) (fun h => Evp.pure _ (iff_no fun h2 => h h2.1))
  rw [decide_eq_true_iff]
  exact ⟨fun h2 => ⟨h, h2⟩, fun h2 => h2.2⟩
theorem impl_operand {cs : List Cls} (hok : ClsOk cs) (ms : List Mth) {a0 a1 : Int} {l2 : List Int} {a3 a4 : Int} (l5 : List Ins) (l6 : List Shp_) (l7 : List Cth) {x0 xa x2 what n : Int} (h8 : what = 8 → 0 ≤ xa ∧ xa < (cs.length : Int)) :
    Evp (fun k => impl_operandOk.f k cs ms a0 a1 l2 a3 a4 l5 l6 l7 x0 xa x2 what n) (fun r => r = true ↔ OpOk cs ms a4 l5.length xa what n) := by
  unfold impl_operandOk.f OpOk
  by_cases h1 : what = 1
  · simp only [if_pos h1]
    unfold impl_isWord.f
    exact Evp.bind two_evp fun r hr => Evp.pure _ hr
  simp only [if_neg h1]
  by_cases h2 : what = 2
  · simp only [if_pos h2]; exact two_evp
  simp only [if_neg h2]
  by_cases h3 : what = 3
  · simp only [if_pos h3]; exact two_evp
  simp only [if_neg h3]
  by_cases h4 : what = 4
  · simp only [if_pos h4]; exact two_evp
  simp only [if_neg h4]
  by_cases h5 : what = 5
  · simp only [if_pos h5]
    obtain ⟨x, hx, hx2⟩ := impl_isClass_eq cs n
    simp only [hx, Option.bind_some]
    exact Evp.pure _ hx2
  simp only [if_neg h5]
  by_cases h6 : what = 6
  · simp only [if_pos h6]
    refine Evp.ite (fun h => Evp.pure _ (iff_yes (.inl h))) (fun h => Evp.pure _ ?_)
    rw [beq_iff_eq]
    exact ⟨fun h2 => .inr h2, fun h2 => h2.resolve_left h⟩
  simp only [if_neg h6]
  by_cases h7 : what = 7
  · simp only [if_pos h7]
    refine Evp.ite (fun h => Evp.ite (fun h' => Evp.yes h (Evp.pure _ ?_)) (fun h' => Evp.pure _ (iff_no fun h2 => h' h2.2.1))) (fun h => Evp.pure _ (iff_no fun h2 => h h2.1))
    rw [beq_iff_eq]
    exact ⟨fun h2 => ⟨h, h', h2⟩, fun h2 => h2.2.2⟩
  simp only [if_neg h7]
  by_cases h8' : what = 8
  · simp only [if_pos h8']
    obtain ⟨hx0, hx1⟩ := h8 h8'
    refine Evp.ite (fun h => ?_) (fun h => Evp.pure _ (iff_no fun h2 => h h2.1))
    have := impl_flds hok xa.toNat (by omega)
    rw [show ((xa.toNat : Nat) : Int) = xa by omega] at this
    refine Evp.bind this fun l hl => Evp.pure _ ?_
    rw [decide_eq_true_iff]
    exact ⟨fun h2 => ⟨h, l, hl.1, h2⟩, fun h2 => by obtain ⟨_, l', hl', h3⟩ := h2; rw [hl.1.fn hl']; exact h3⟩
  simp only [if_neg h8']
  by_cases h9 : what = 9
  · simp only [if_pos h9]; exact two_evp
  simp only [if_neg h9]
  exact Evp.pure _ (by rw [beq_iff_eq])
theorem wantFind_mem {n : Int} : ∀ {l : List (Int × Int × Int)} {r : Int × Int}, wantFind n l = some r → ∃ e ∈ l, e.2 = r
  | [], _, h => by cases h
  | e :: l, r, h => by
    unfold wantFind at h
    split at h
    · exact ⟨e, List.mem_cons_self, Option.some.inj h⟩
    · obtain ⟨x, hx, hr⟩ := wantFind_mem h
      exact ⟨x, List.mem_cons_of_mem _ hx, hr⟩
theorem want_8 {n p q : Int} (h : wantFind n wantL = some (p, q)) : p ≠ 8 ∧ (q = 8 → p = 5) := by
  obtain ⟨e, he, hr⟩ := wantFind_mem h
  have key : ∀ e ∈ wantL, e.2.1 ≠ 8 ∧ (e.2.2 = 8 → e.2.1 = 5) := by decide
  have := key e he
  rw [hr] at this
  exact this
def ShOk_ (cs : List Cls) (a4 : Int) (s : Shp_) : Prop := ShOk cs a4 s.f0 s.f1 s.f2
structure SmallS (s : Shp_) : Prop where
  l1 : s.f1.length ≤ 1048576
  l2 : s.f2.length ≤ 1048576
  i1 : I64 s.f1
  i2 : I64 s.f2
def CodeOk (cs : List Cls) (ms : List Mth) (a4 : Int) (l5 : List Ins) (l6 : List Shp_) : Prop := (1 ≤ l5.length ∧ l5.length ≤ 12 ∧ l6.length = l5.length) ∧ (∀ j, 0 ≤ j → j < l5.length → InsOk cs ms a4 l5.length (l5.getD j z67)) ∧ (∀ j, 0 ≤ j → j < l6.length → ShOk_ cs a4 (l6.getD j z70))
theorem impl_code {cs : List Cls} (hs : SmallC cs) (hok : ClsOk cs) (ms : List Mth) {a0 a1 : Int} {l2 : List Int} {a3 a4 : Int} (l5 : List Ins) (l6 : List Shp_) (l7 : List Cth) (b : Int) (h6 : ∀ j, j < l6.length → SmallS (l6.getD j z70)) (hn5 : l5.length ≤ 1048576) (hn6 : l6.length ≤ 1048576) :
    Evp (fun k => impl_codeOk.f k cs ms a0 a1 l2 a3 a4 l5 l6 l7 b) (fun r => r = true ↔ CodeOk cs ms a4 l5 l6) := by
  have jt : ¬ (1 ≤ l5.length ∧ l5.length ≤ 12 ∧ l6.length = l5.length) → Evp (fun k => impl_codeOk.j0 k true cs ms a0 a1 l2 a3 a4 l5 l6 l7) (fun r => r = true ↔ CodeOk cs ms a4 l5 l6) := fun h =>
    Evp.step (f := fun k => _) (fun k => by rw [impl_codeOk.j0]) (Evp.yes rfl (Evp.pure _ (iff_no fun h2 => h h2.1)))
  unfold impl_codeOk.f
  refine Evp.ite (fun h1 => jt (by omega)) (fun h1 => Evp.ite (fun h2 => jt (by omega)) (fun h2 => ?_))
  by_cases he : l6.length = l5.length
  · rw [show ((l6.length : Int) != (l5.length : Int)) = false by simp; omega]
    refine Evp.step (f := fun k => _) (fun k => by rw [impl_codeOk.j0]) (Evp.no (by decide) ?_)
    have k1 : ∀ i, i ≤ l6.length → Evp (fun k => impl_codeOk.l1 k l6 (l6.length : Int) (i : Int) cs ms a0 a1 l2 a3 a4 l5 l6 l7) (fun r => r = true ↔ (∀ j, i ≤ j → j < l6.length → ShOk_ cs a4 (l6.getD j z70)) ∧ True) := by
      refine Evp.for_ ?_ (fun i hi ih => ?_)
      · exact Evp.step (f := fun k => _) (fun k => by rw [impl_codeOk.l1]) (Evp.no (by omega) (Evp.pure _ (all_end (iff_yes trivial))))
      · have hss := h6 i hi
        refine Evp.step (f := fun k => _) (fun k => by rw [impl_codeOk.l1, rdS]) (Evp.yes (by omega) (Evp.yes (by omega) (Evp.yes (by omega) ?_)))
        refine Evp.bind (impl_shapeOk' hs a4 _ hss.l1 hss.l2 hss.i1 hss.i2) fun c hc => Evp.ite (fun h5 => ?_) (fun h5 => Evp.pure _ (all_stop hi fun h7 => h5 (hc.2 h7)))
        rw [w64' hi (by omega)]
        exact ih.mono fun r hr => all_step (Q := fun j => ShOk_ cs a4 (l6.getD j z70)) (hc.1 h5) hr
    have k0 : ∀ i, i ≤ l5.length → Evp (fun k => impl_codeOk.l0 k l5 (l5.length : Int) (i : Int) cs ms a0 a1 l2 a3 a4 l5 l6 l7) (fun r => r = true ↔ (∀ j, i ≤ j → j < l5.length → InsOk cs ms a4 l5.length (l5.getD j z67)) ∧ ((∀ j, 0 ≤ j → j < l6.length → ShOk_ cs a4 (l6.getD j z70)) ∧ True)) := by
      refine Evp.for_ ?_ (fun i hi ih => ?_)
      · refine Evp.step (f := fun k => _) (fun k => by rw [impl_codeOk.l0]) (Evp.no (by omega) ?_)
        exact (k1 0 (Nat.zero_le _)).mono fun r hr => all_end hr
      · refine Evp.step (f := fun k => _) (fun k => by rw [impl_codeOk.l0, rdX]) (Evp.yes (by omega) (Evp.yes (by omega) (Evp.yes (by omega) ?_)))
        unfold impl_wantOf.f
        simp only [Option.bind_some]
        cases hw : wantFind (l5.getD i z67).f0 wantL with
        | none =>
          refine Evp.no (by decide) (Evp.pure _ (all_stop hi fun h7 => ?_))
          obtain ⟨p, q, h8, _⟩ := h7
          rw [hw] at h8; cases h8
        | some pq =>
          obtain ⟨p, q⟩ := pq
          have h8 := want_8 hw
          dsimp only
          refine Evp.yes rfl (Evp.bind (impl_operand hok ms l5 l6 l7 (fun h => absurd h h8.1)) fun c hc => Evp.ite (fun h9 => ?_) (fun h9 => Evp.pure _ (all_stop hi fun h7 => ?_)))
          · refine Evp.bind (impl_operand hok ms l5 l6 l7 (fun h => ?_)) fun d hd => Evp.ite (fun h10 => ?_) (fun h10 => Evp.pure _ (all_stop hi fun h7 => ?_))
            · have := hc.1 h9
              rw [h8.2 h] at this
              unfold OpOk at this
              simpa using this
            · rw [w64' hi (by omega)]
              exact ih.mono fun r hr => all_step (Q := fun j => InsOk cs ms a4 l5.length (l5.getD j z67)) ⟨p, q, hw, hc.1 h9, hd.1 h10⟩ hr
            · obtain ⟨p', q', h11, _, h12⟩ := h7
              rw [hw] at h11
              cases h11
              exact h10 (hd.2 h12)
          · obtain ⟨p', q', h11, h12, _⟩ := h7
            rw [hw] at h11
            cases h11
            exact h9 (hc.2 h12)
    refine (k0 0 (Nat.zero_le _)).mono fun r hr => hr.trans ?_
    exact ⟨fun h => ⟨⟨by omega, by omega, he⟩, h.1, h.2.1⟩, fun h => ⟨h.2.1, h.2.2, trivial⟩⟩
  · rw [show ((l6.length : Int) != (l5.length : Int)) = true by simp; omega]
    exact jt (by omega)
end Go.Proofs.Ytedodaifpekahaa.Kit

end
section

namespace Go.Proofs.Ytedodaifpekahaa.Kit
open Go Go.RowKit Go.Proofs.YtedodaifpekahaaW.PrintWords Go.Proofs.Ytedodaifpekahaa.P
set_option linter.unusedVariables false
set_option linter.unusedSimpArgs false
section
variable {cs : List Cls} {ms : List Mth} {a4 : Int} {nc : Nat} {xa n : Int}
theorem op0 : OpOk cs ms a4 nc xa 0 n ↔ n = 0 := by simp [OpOk]
theorem op1 : OpOk cs ms a4 nc xa 1 n ↔ -128 ≤ n ∧ n ≤ 127 := by simp [OpOk]
theorem op2 : OpOk cs ms a4 nc xa 2 n ↔ 0 ≤ n ∧ n < a4 := by simp [OpOk]
theorem op3 : OpOk cs ms a4 nc xa 3 n ↔ 1 ≤ n ∧ n ≤ 4 := by simp [OpOk]
theorem op4 : OpOk cs ms a4 nc xa 4 n ↔ 0 ≤ n ∧ n < (nc : Int) := by simp [OpOk]
theorem op5 : OpOk cs ms a4 nc xa 5 n ↔ 0 ≤ n ∧ n < (cs.length : Int) := by simp [OpOk]
theorem op6 : OpOk cs ms a4 nc xa 6 n ↔ n = 0 ∨ n = 1 := by simp [OpOk]
theorem op7 : OpOk cs ms a4 nc xa 7 n ↔ 0 ≤ n ∧ n < (ms.length : Int) ∧ (ms.getD n.toNat z46).f0 = -1 := by simp [OpOk]
theorem op8 : OpOk cs ms a4 nc xa 8 n ↔ 0 ≤ n ∧ ∃ l, Flds cs xa.toNat l ∧ n < (l.length : Int) := by simp [OpOk]
theorem op9 : OpOk cs ms a4 nc xa 9 n ↔ 0 ≤ n ∧ n < 3 := by simp [OpOk]
end
theorem fin2 {A : Prop} [Decidable A] {n : Int} : Evp (fun _ => if decide A = true then some (n == 0) else some false) (fun r => r = true ↔ A ∧ n = 0) := by
  refine Evp.ite (fun h => Evp.pure _ ?_) (fun h => Evp.pure _ (iff_no fun h2 => h (decide_eq_true h2.1)))
  rw [beq_iff_eq]
  exact ⟨fun h2 => ⟨of_decide_eq_true h, h2⟩, fun h2 => h2.2⟩
theorem want_none {n : Int} (h : n < 1 ∨ 24 < n) : wantFind n wantL = none := by
  unfold wantL
  repeat (unfold wantFind; rw [if_neg (by dsimp only; omega)])
  rfl
theorem ins_leaf {cs : List Cls} {ms : List Mth} {a4 : Int} {nc : Nat} {x : Ins} {n p q : Int} {r : Bool} (hn : x.f0 = n) (hw : wantFind n wantL = some (p, q)) (h : r = true ↔ OpOk cs ms a4 nc x.f1 p x.f1 ∧ OpOk cs ms a4 nc x.f1 q x.f2) : r = true ↔ InsOk cs ms a4 nc x := by
  rw [h]
  constructor
  · intro h2; exact ⟨p, q, by rw [hn]; exact hw, h2⟩
  · rintro ⟨p', q', hw', h2⟩
    rw [hn, hw] at hw'
    cases hw'
    exact h2
theorem spec_ins {cs : List Cls} (hs : SmallC cs) (hok : ClsOk cs) (ms : List Mth) (hm : ms.length ≤ 1048576) {a0 a1 : Int} {l2 : List Int} {a3 a4 : Int} (h40 : 0 ≤ a4) (h41 : a4 ≤ 3) (l5 : List Ins) (hn5 : l5.length ≤ 1048576) (l6 : List Shp_) (l7 : List Cth) (x : Ins) :
    Evp (fun k => spec_l3Ins.f k cs ms a0 a1 l2 a3 a4 l5 l6 l7 x.f0 x.f1 x.f2) (fun r => r = true ↔ InsOk cs ms a4 l5.length x) := by
  have hlo := hok.lo
  have hhi := hok.hi
  unfold spec_l3Ins.f
  rw [in_eq, w64 (n := (cs.length : Int) - 1) (by omega) (by omega)]
  simp only [Option.bind_some]
  have h7 : decide (0 ≤ x.f1 ∧ x.f1 ≤ (cs.length : Int) - 1) = true ↔ 0 ≤ x.f1 ∧ x.f1 < (cs.length : Int) := by rw [decide_eq_true_iff]; omega
  generalize decide (0 ≤ x.f1 ∧ x.f1 ≤ (cs.length : Int) - 1) = x7 at h7
  have J0 : ∀ n : Int, x.f0 = n → wantFind n wantL = some (0, 0) → Evp (fun k => spec_l3Ins.j0 k x7 x.f0 (x.f0 == n) cs ms a0 a1 l2 a3 a4 l5 l6 l7 x.f0 x.f1 x.f2) (fun r => r = true ↔ InsOk cs ms a4 l5.length x) := by
    intro n hn hw
    rw [show (x.f0 == n) = true by simpa using hn]
    refine Evp.step (f := fun k => _) (fun k => by rw [spec_l3Ins.j0]) (Evp.yes rfl (Evp.ite (fun h => Evp.pure _ (ins_leaf hn hw ?_)) (fun h => Evp.pure _ (ins_leaf hn hw ?_))))
    · rw [op0, op0, beq_iff_eq]; exact ⟨fun h2 => ⟨h, h2⟩, fun h2 => h2.2⟩
    · rw [op0, op0]; exact iff_no fun h2 => h h2.1
  have J1 : ∀ n : Int, x.f0 = n → wantFind n wantL = some (2, 0) → Evp (fun k => spec_l3Ins.j1 k x7 x.f0 (x.f0 == n) cs ms a0 a1 l2 a3 a4 l5 l6 l7 x.f0 x.f1 x.f2) (fun r => r = true ↔ InsOk cs ms a4 l5.length x) := by
    intro n hn hw
    rw [show (x.f0 == n) = true by simpa using hn]
    refine Evp.step (f := fun k => _) (fun k => by rw [spec_l3Ins.j1]) (Evp.yes rfl ?_)
    rw [in_eq, w64 (n := a4 - 1) (by omega) (by omega)]
    simp only [Option.bind_some]
    refine fin2.mono fun r hr => ins_leaf hn hw (hr.trans ?_)
    rw [op2, op0]; omega
  have J2 : ∀ n : Int, x.f0 = n → wantFind n wantL = some (4, 0) → Evp (fun k => spec_l3Ins.j2 k x7 x.f0 (x.f0 == n) cs ms a0 a1 l2 a3 a4 l5 l6 l7 x.f0 x.f1 x.f2) (fun r => r = true ↔ InsOk cs ms a4 l5.length x) := by
    intro n hn hw
    rw [show (x.f0 == n) = true by simpa using hn]
    refine Evp.step (f := fun k => _) (fun k => by rw [spec_l3Ins.j2]) (Evp.yes rfl ?_)
    rw [in_eq, w64 (n := (l5.length : Int) - 1) (by omega) (by omega)]
    simp only [Option.bind_some]
    refine fin2.mono fun r hr => ins_leaf hn hw (hr.trans ?_)
    rw [op4, op0]; omega
  have J3 : ∀ n : Int, x.f0 = n → wantFind n wantL = some (5, 0) → Evp (fun k => spec_l3Ins.j3 k x7 x.f0 (x.f0 == n) cs ms x.f0 x.f1 x.f2) (fun r => r = true ↔ InsOk cs ms a4 l5.length x) := by
    intro n hn hw
    rw [show (x.f0 == n) = true by simpa using hn]
    refine Evp.step (f := fun k => _) (fun k => by rw [spec_l3Ins.j3]) (Evp.yes rfl (Evp.ite (fun h => Evp.pure _ (ins_leaf hn hw ?_)) (fun h => Evp.pure _ (ins_leaf hn hw ?_))))
    · rw [op5, op0, beq_iff_eq]; exact ⟨fun h2 => ⟨h7.1 h, h2⟩, fun h2 => h2.2⟩
    · rw [op5, op0]; exact iff_no fun h2 => h (h7.2 h2.1)
  have J4 : ∀ n : Int, x.f0 = n → wantFind n wantL = some (6, 0) → Evp (fun k => spec_l3Ins.j4 k x7 x.f0 (x.f0 == n) cs ms x.f0 x.f1 x.f2) (fun r => r = true ↔ InsOk cs ms a4 l5.length x) := by
    intro n hn hw
    rw [show (x.f0 == n) = true by simpa using hn]
    refine Evp.step (f := fun k => _) (fun k => by rw [spec_l3Ins.j4]) (Evp.yes rfl ?_)
    rw [in_eq]
    simp only [Option.bind_some]
    refine fin2.mono fun r hr => ins_leaf hn hw (hr.trans ?_)
    rw [op6, op0]; omega
  have J5 : ∀ n : Int, x.f0 = n → wantFind n wantL = some (5, 8) → Evp (fun k => spec_l3Ins.j5 k x7 x.f0 (x.f0 == n) cs ms x.f0 x.f1 x.f2) (fun r => r = true ↔ InsOk cs ms a4 l5.length x) := by
    intro n hn hw
    rw [show (x.f0 == n) = true by simpa using hn]
    refine Evp.step (f := fun k => _) (fun k => by rw [spec_l3Ins.j5]) (Evp.yes rfl (Evp.ite (fun h => ?_) (fun h => Evp.pure _ (ins_leaf hn hw ?_))))
    · obtain ⟨hx0, hx1⟩ := h7.1 h
      have := spec_flds hok x.f1.toNat (by omega)
      rw [show ((x.f1.toNat : Nat) : Int) = x.f1 by omega] at this
      refine Evp.bind this fun l hl => ?_
      have hl10 := hl.2
      rw [in_eq, w64 (n := (l.length : Int) - 1) (by omega) (by omega)]
      simp only [Option.bind_some]
      refine Evp.pure _ (ins_leaf hn hw ?_)
      rw [op5, op8, decide_eq_true_iff]
      constructor
      · intro h2; exact ⟨⟨hx0, hx1⟩, h2.1, l, hl.1, by omega⟩
      · rintro ⟨_, h2, l', hl', h3⟩
        rw [← hl.1.fn hl'] at h3
        exact ⟨h2, by omega⟩
    · rw [op5]; exact iff_no fun h2 => h (h7.2 h2.1)
  by_cases e1 : x.f0 = 1
  · simp only [if_pos e1]
    unfold spec_l1Word.f
    rw [in_eq]
    simp only [Option.bind_some]
    refine fin2.mono fun r hr => ins_leaf e1 rfl (hr.trans ?_)
    rw [op1, op0]
  simp only [if_neg e1]
  by_cases e2 : x.f0 = 2
  · simp only [if_pos e2]; exact J0 2 e2 rfl
  simp only [if_neg e2]
  by_cases e5 : x.f0 = 5
  · simp only [if_pos e5]; exact J0 5 e5 rfl
  simp only [if_neg e5]
  by_cases e6 : x.f0 = 6
  · simp only [if_pos e6]; exact J0 6 e6 rfl
  simp only [if_neg e6]
  by_cases e14 : x.f0 = 14
  · simp only [if_pos e14]; exact J0 14 e14 rfl
  simp only [if_neg e14]
  by_cases e22 : x.f0 = 22
  · simp only [if_pos e22]; exact J0 22 e22 rfl
  simp only [if_neg e22]
  by_cases e23 : x.f0 = 23
  · simp only [if_pos e23]; exact J0 23 e23 rfl
  simp only [if_neg e23]
  by_cases e24 : x.f0 = 24
  · exact J0 24 e24 rfl
  rw [show (x.f0 == 24) = false by simpa using e24]
  refine Evp.step (f := fun k => _) (fun k => by rw [spec_l3Ins.j0]) (Evp.no (by decide) ?_)
  by_cases e3 : x.f0 = 3
  · simp only [if_pos e3]; exact J1 3 e3 rfl
  simp only [if_neg e3]
  by_cases e4 : x.f0 = 4
  · exact J1 4 e4 rfl
  rw [show (x.f0 == 4) = false by simpa using e4]
  refine Evp.step (f := fun k => _) (fun k => by rw [spec_l3Ins.j1]) (Evp.no (by decide) ?_)
  by_cases e7 : x.f0 = 7
  · simp only [if_pos e7]
    rw [in_eq]
    simp only [Option.bind_some]
    refine fin2.mono fun r hr => ins_leaf e7 rfl (hr.trans ?_)
    rw [op3, op0]
  simp only [if_neg e7]
  by_cases e8 : x.f0 = 8
  · simp only [if_pos e8]; exact J2 8 e8 rfl
  simp only [if_neg e8]
  by_cases e9 : x.f0 = 9
  · simp only [if_pos e9]; exact J2 9 e9 rfl
  simp only [if_neg e9]
  by_cases e10 : x.f0 = 10
  · simp only [if_pos e10]; exact J2 10 e10 rfl
  simp only [if_neg e10]
  by_cases e11 : x.f0 = 11
  · exact J2 11 e11 rfl
  rw [show (x.f0 == 11) = false by simpa using e11]
  refine Evp.step (f := fun k => _) (fun k => by rw [spec_l3Ins.j2]) (Evp.no (by decide) ?_)
  by_cases e12 : x.f0 = 12
  · simp only [if_pos e12]; exact J3 12 e12 rfl
  simp only [if_neg e12]
  by_cases e19 : x.f0 = 19
  · exact J3 19 e19 rfl
  rw [show (x.f0 == 19) = false by simpa using e19]
  refine Evp.step (f := fun k => _) (fun k => by rw [spec_l3Ins.j3]) (Evp.no (by decide) ?_)
  by_cases e13 : x.f0 = 13
  · simp only [if_pos e13]; exact J4 13 e13 rfl
  simp only [if_neg e13]
  by_cases e15 : x.f0 = 15
  · simp only [if_pos e15]; exact J4 15 e15 rfl
  simp only [if_neg e15]
  by_cases e16 : x.f0 = 16
  · exact J4 16 e16 rfl
  rw [show (x.f0 == 16) = false by simpa using e16]
  refine Evp.step (f := fun k => _) (fun k => by rw [spec_l3Ins.j4]) (Evp.no (by decide) ?_)
  by_cases e17 : x.f0 = 17
  · simp only [if_pos e17]; exact J5 17 e17 rfl
  simp only [if_neg e17]
  by_cases e18 : x.f0 = 18
  · exact J5 18 e18 rfl
  rw [show (x.f0 == 18) = false by simpa using e18]
  refine Evp.step (f := fun k => _) (fun k => by rw [spec_l3Ins.j5]) (Evp.no (by decide) ?_)
  by_cases e20 : x.f0 = 20
  · simp only [if_pos e20]
    rw [in_eq, w64 (n := (ms.length : Int) - 1) (by omega) (by omega)]
    simp only [Option.bind_some]
    refine Evp.ite (fun h => ?_) (fun h => Evp.pure _ (ins_leaf e20 rfl ?_))
    · have h' := of_decide_eq_true h
      refine Evp.ite (fun h2 => Evp.yes h'.1 (Evp.yes (by omega) (Evp.pure _ (ins_leaf e20 rfl ?_)))) (fun h2 => Evp.pure _ (ins_leaf e20 rfl ?_))
      · rw [op7, op0, beq_iff_eq]
        exact ⟨fun h3 => ⟨⟨h'.1, by omega, h3⟩, h2⟩, fun h3 => h3.1.2.2⟩
      · rw [op0]; exact iff_no fun h3 => h2 h3.2
    · rw [op7]; exact iff_no fun h3 => h (decide_eq_true (by omega))
  simp only [if_neg e20]
  by_cases e21 : x.f0 = 21
  · simp only [if_pos e21]
    refine Evp.ite (fun h => ?_) (fun h => Evp.pure _ (ins_leaf e21 rfl ?_))
    · rw [in_eq]
      simp only [Option.bind_some]
      refine Evp.pure _ (ins_leaf e21 rfl ?_)
      rw [op5, op9, decide_eq_true_iff]
      have := h7.1 h
      omega
    · rw [op5]; exact iff_no fun h2 => h (h7.2 h2.1)
  simp only [if_neg e21]
  refine Evp.pure _ (iff_no ?_)
  rintro ⟨p, q, hw, _⟩
  rw [want_none (by omega)] at hw
  cases hw
end Go.Proofs.Ytedodaifpekahaa.Kit

end
section

namespace Go.Proofs.Ytedodaifpekahaa.Kit
open Go Go.RowKit Go.Proofs.YtedodaifpekahaaW.PrintWords Go.Proofs.Ytedodaifpekahaa.P
set_option linter.unusedVariables false
set_option linter.unusedSimpArgs false
def CatchOk (cs : List Cls) (nc : Nat) (c : Cth) : Prop := (0 ≤ c.f0 ∧ c.f0 < (nc : Int)) ∧ (c.f0 < c.f1 ∧ c.f1 ≤ (nc : Int)) ∧ (0 ≤ c.f2 ∧ c.f2 < (nc : Int)) ∧ (0 ≤ c.f3 ∧ c.f3 < (cs.length : Int)) ∧ Up cs c.f3.toNat 1
def CatchesOk (cs : List Cls) (nc : Nat) (l7 : List Cth) : Prop := l7.length ≤ 2 ∧ ∀ j, 0 ≤ j → j < l7.length → CatchOk cs nc (l7.getD j z73)
theorem impl_catches {cs : List Cls} (hok : ClsOk cs) (ms : List Mth) {a0 a1 : Int} {l2 : List Int} {a3 a4 : Int} (l5 : List Ins) (l6 : List Shp_) (l7 : List Cth) :
    Evp (fun k => impl_catchesOk.f k cs ms a0 a1 l2 a3 a4 l5 l6 l7) (fun r => r = true ↔ CatchesOk cs l5.length l7) := by
  unfold impl_catchesOk.f
  refine Evp.ite (fun h => Evp.pure _ (iff_no fun h2 => by have := h2.1; omega)) (fun h => ?_)
  have k0 : ∀ i, i ≤ l7.length → Evp (fun k => impl_catchesOk.l0 k l7 (l7.length : Int) (i : Int) cs ms a0 a1 l2 a3 a4 l5 l6 l7) (fun r => r = true ↔ (∀ j, i ≤ j → j < l7.length → CatchOk cs l5.length (l7.getD j z73)) ∧ True) := by
    refine Evp.for_ ?_ (fun i hi ih => ?_)
    · exact Evp.step (f := fun k => _) (fun k => by rw [impl_catchesOk.l0]) (Evp.no (by omega) (Evp.pure _ (all_end (iff_yes trivial))))
    · generalize hc : l7.getD i z73 = c at ih
      have no1 : ¬ CatchOk cs l5.length c → Evp (fun k => impl_catchesOk.j1 k l7 (l7.length : Int) (i : Int) true cs ms a0 a1 l2 a3 a4 l5 l6 l7 c.f0 c.f1 c.f2 c.f3) (fun r => r = true ↔ (∀ j, i ≤ j → j < l7.length → CatchOk cs l5.length (l7.getD j z73)) ∧ True) := fun hn =>
        Evp.step (f := fun k => _) (fun k => by rw [impl_catchesOk.j1]) (Evp.yes rfl (Evp.pure _ (all_stop (Q := fun j => CatchOk cs l5.length (l7.getD j z73)) hi (by rw [hc]; exact hn))))
      have no2 : ¬ CatchOk cs l5.length c → Evp (fun k => impl_catchesOk.j2 k l7 (l7.length : Int) (i : Int) true cs ms a0 a1 l2 a3 a4 l5 l6 l7 c.f0 c.f1 c.f2 c.f3) (fun r => r = true ↔ (∀ j, i ≤ j → j < l7.length → CatchOk cs l5.length (l7.getD j z73)) ∧ True) := fun hn =>
        Evp.step (f := fun k => _) (fun k => by rw [impl_catchesOk.j2]) (Evp.yes rfl (Evp.pure _ (all_stop (Q := fun j => CatchOk cs l5.length (l7.getD j z73)) hi (by rw [hc]; exact hn))))
      refine Evp.step (f := fun k => _) (fun k => by rw [impl_catchesOk.l0, rdK, hc]) (Evp.yes (by omega) (Evp.yes (by omega) (Evp.yes (by omega) ?_)))
      refine Evp.ite (fun h1 => no1 fun h9 => by have := h9.1; omega) (fun h1 => Evp.ite (fun h2 => no1 fun h9 => by have := h9.1; omega) (fun h2 => Evp.ite (fun h3 => no1 fun h9 => by have := h9.2.2.1; omega) (fun h3 => ?_)))
      by_cases h4 : c.f2 ≥ (l5.length : Int)
      · rw [decide_eq_true h4]
        exact no1 fun h9 => by have := h9.2.2.1; omega
      rw [decide_eq_false h4]
      refine Evp.step (f := fun k => _) (fun k => by rw [impl_catchesOk.j1]) (Evp.no (by decide) (Evp.ite (fun h5 => no2 fun h9 => by have := h9.2.1; omega) (fun h5 => ?_)))
      by_cases h6 : c.f1 > (l5.length : Int)
      · rw [decide_eq_true h6]
        exact no2 fun h9 => by have := h9.2.1; omega
      rw [decide_eq_false h6]
      refine Evp.step (f := fun k => _) (fun k => by rw [impl_catchesOk.j2]) (Evp.no (by decide) ?_)
      obtain ⟨x, hx, hx2⟩ := impl_isClass_eq cs c.f3
      simp only [hx, Option.bind_some]
      refine Evp.ite (fun h7 => ?_) (fun h7 => Evp.pure _ (all_stop (Q := fun j => CatchOk cs l5.length (l7.getD j z73)) hi (by rw [hc]; exact fun h9 => h7 (hx2.2 h9.2.2.2.1))))
      have h8 := hx2.1 h7
      have hu := impl_up hok 1 c.f3.toNat (by omega)
      rw [show ((c.f3.toNat : Nat) : Int) = c.f3 by omega] at hu
      refine Evp.bind hu fun u hu => Evp.ite (fun h9 => ?_) (fun h9 => Evp.pure _ (all_stop (Q := fun j => CatchOk cs l5.length (l7.getD j z73)) hi (by rw [hc]; exact fun h10 => h9 (hu.2 h10.2.2.2.2))))
      rw [w64' (n := l7.length) hi (by omega)]
      exact ih.mono fun r hr => all_step (Q := fun j => CatchOk cs l5.length (l7.getD j z73)) (by rw [hc]; exact ⟨by omega, by omega, by omega, h8, hu.1 h9⟩) hr
  exact (k0 0 (Nat.zero_le _)).mono fun r hr => hr.trans ⟨fun h2 => ⟨by omega, h2.1⟩, fun h2 => ⟨h2.2, trivial⟩⟩
theorem spec_catch {cs : List Cls} (hok : ClsOk cs) (ms : List Mth) {a0 a1 : Int} {l2 : List Int} {a3 a4 : Int} (l5 : List Ins) (hn5 : l5.length ≤ 1048576) (l6 : List Shp_) (l7 : List Cth) (c : Cth) :
    Evp (fun k => spec_l3Catch.f k cs ms a0 a1 l2 a3 a4 l5 l6 l7 c.f0 c.f1 c.f2 c.f3) (fun r => r = true ↔ CatchOk cs l5.length c) := by
  have hlo := hok.lo
  have hhi := hok.hi
  unfold spec_l3Catch.f
  rw [in_eq, w64 (n := (l5.length : Int) - 1) (by omega) (by omega), w64 (n := (cs.length : Int) - 1) (by omega) (by omega)]
  simp only [Option.bind_some]
  refine Evp.ite (fun h1 => ?_) (fun h1 => Evp.pure _ (iff_no fun h9 => h1 (decide_eq_true (by have := h9.1; omega))))
  have h1' := of_decide_eq_true h1
  rw [in_eq, w64 (n := c.f0 + 1) (by omega) (by omega)]
  simp only [Option.bind_some]
  refine Evp.ite (fun h2 => ?_) (fun h2 => Evp.pure _ (iff_no fun h9 => h2 (decide_eq_true (by have := h9.2.1; omega))))
  have h2' := of_decide_eq_true h2
  rw [in_eq]
  simp only [Option.bind_some]
  refine Evp.ite (fun h3 => ?_) (fun h3 => Evp.pure _ (iff_no fun h9 => h3 (decide_eq_true (by have := h9.2.2.1; omega))))
  have h3' := of_decide_eq_true h3
  rw [in_eq]
  simp only [Option.bind_some]
  refine Evp.ite (fun h4 => ?_) (fun h4 => Evp.pure _ (iff_no fun h9 => h4 (decide_eq_true (by have := h9.2.2.2.1; omega))))
  have h4' := of_decide_eq_true h4
  have hu := spec_up hok 1 c.f3.toNat (by omega)
  rw [show ((c.f3.toNat : Nat) : Int) = c.f3 by omega] at hu
  exact Evp.bind hu fun u hu => Evp.pure _ (hu.trans ⟨fun h5 => ⟨by omega, by omega, by omega, by omega, h5⟩, fun h5 => h5.2.2.2.2⟩)
def MethOk (cs : List Cls) (ms : List Mth) (m : Mth) : Prop := HeadOk cs.length m.f0 m.f1 m.f2 m.f3 m.f4 ∧ CodeOk cs ms m.f4 m.f5 m.f6 ∧ CatchesOk cs m.f5.length m.f7
theorem spec_method {cs : List Cls} (hs : SmallC cs) (hok : ClsOk cs) (ms : List Mth) (hm : ms.length ≤ 1048576) (m : Mth) (h2 : m.f2.length ≤ 1048576) (h5 : m.f5.length ≤ 1048576) (h6 : m.f6.length ≤ 1048576) (h7 : m.f7.length ≤ 1048576) (h6s : ∀ j, j < m.f6.length → SmallS (m.f6.getD j z70)) :
    Evp (fun k => spec_l3Method.f k cs ms m.f0 m.f1 m.f2 m.f3 m.f4 m.f5 m.f6 m.f7) (fun r => r = true ↔ MethOk cs ms m) := by
  obtain ⟨a0, a1, l2, a3, a4, l5, l6, l7⟩ := m
  dsimp only at *
  have jt : ¬ MethOk cs ms ⟨a0, a1, l2, a3, a4, l5, l6, l7⟩ → Evp (fun k => spec_l3Method.j0 k true cs ms a0 a1 l2 a3 a4 l5 l6 l7) (fun r => r = true ↔ MethOk cs ms ⟨a0, a1, l2, a3, a4, l5, l6, l7⟩) := fun h =>
    Evp.step (f := fun k => _) (fun k => by rw [spec_l3Method.j0]) (Evp.yes rfl (Evp.pure _ (iff_no h)))
  unfold spec_l3Method.f
  refine Evp.bind (spec_head hs ms l5 l6 l7 h2) fun b hb => Evp.ite (fun hh => ?_) (fun hh => jt fun h => hh (hb.2 h.1))
  have hhd := hb.1 hh
  have h4a : a4 ≤ 3 := hhd.2.2.2.2.1
  have h4b : 0 ≤ a4 := by
    have := hhd.2.2.2.2.2
    unfold self_ at this
    split at this <;> omega
  rw [in_eq]
  simp only [Option.bind_some]
  refine Evp.ite (fun h1 => ?_) (fun h1 => jt fun h => h1 (decide_eq_true (by have := h.2.1.1; dsimp only at this; omega)))
  have h1' := of_decide_eq_true h1
  refine Evp.ite (fun he => ?_) (fun he => jt fun h => he (by have := h.2.1.1.2.2; dsimp only at this; omega))
  by_cases h3 : (l7.length : Int) > 2
  · rw [decide_eq_true h3]
    exact jt fun h => by have := h.2.2.1; dsimp only at this; omega
  rw [decide_eq_false h3]
  refine Evp.step (f := fun k => _) (fun k => by rw [spec_l3Method.j0]) (Evp.no (by decide) ?_)
  have k1 : ∀ i, i ≤ l7.length → Evp (fun k => spec_l3Method.l1 k (i : Int) cs ms a0 a1 l2 a3 a4 l5 l6 l7) (fun r => r = true ↔ (∀ j, i ≤ j → j < l7.length → CatchOk cs l5.length (l7.getD j z73)) ∧ True) := by
    refine Evp.for_ ?_ (fun i hi ih => ?_)
    · exact Evp.step (f := fun k => _) (fun k => by rw [spec_l3Method.l1]) (Evp.no (by omega) (Evp.pure _ (all_end (iff_yes trivial))))
    · refine Evp.step (f := fun k => _) (fun k => by rw [spec_l3Method.l1, rdK]) (Evp.yes (by omega) (Evp.yes (by omega) ?_))
      refine Evp.bind (spec_catch hok ms l5 h5 l6 l7 _) fun c hc => Evp.ite (fun h8 => ?_) (fun h8 => Evp.pure _ (all_stop (Q := fun j => CatchOk cs l5.length (l7.getD j z73)) hi fun h9 => h8 (hc.2 h9)))
      rw [w64' (n := l7.length) hi (by omega)]
      exact ih.mono fun r hr => all_step (Q := fun j => CatchOk cs l5.length (l7.getD j z73)) (hc.1 h8) hr
  have k0 : ∀ i, i ≤ l5.length → Evp (fun k => spec_l3Method.l0 k (i : Int) cs ms a0 a1 l2 a3 a4 l5 l6 l7) (fun r => r = true ↔ (∀ j, i ≤ j → j < l5.length → InsOk cs ms a4 l5.length (l5.getD j z67) ∧ ShOk_ cs a4 (l6.getD j z70)) ∧ ((∀ j, 0 ≤ j → j < l7.length → CatchOk cs l5.length (l7.getD j z73)) ∧ True)) := by
    refine Evp.for_ ?_ (fun i hi ih => ?_)
    · refine Evp.step (f := fun k => _) (fun k => by rw [spec_l3Method.l0]) (Evp.no (by omega) ?_)
      exact (k1 0 (Nat.zero_le _)).mono fun r hr => all_end hr
    · have hss := h6s i (by omega)
      refine Evp.step (f := fun k => _) (fun k => by rw [spec_l3Method.l0, rdX, rdS]) (Evp.yes (by omega) (Evp.yes (by omega) ?_))
      refine Evp.bind (spec_ins hs hok ms hm h4b h4a l5 h5 l6 l7 _) fun c hc => Evp.ite (fun h8 => ?_) (fun h8 => Evp.pure _ (all_stop (Q := fun j => InsOk cs ms a4 l5.length (l5.getD j z67) ∧ ShOk_ cs a4 (l6.getD j z70)) hi fun h9 => h8 (hc.2 h9.1)))
      refine Evp.yes (by omega) (Evp.bind (spec_shapeOk hs a4 _ hss.l1 hss.l2) fun d hd => Evp.ite (fun h9 => ?_) (fun h9 => Evp.pure _ (all_stop (Q := fun j => InsOk cs ms a4 l5.length (l5.getD j z67) ∧ ShOk_ cs a4 (l6.getD j z70)) hi fun h10 => h9 (hd.2 ⟨hok, h10.2⟩))))
      rw [w64' (n := l5.length) hi (by omega)]
      exact ih.mono fun r hr => all_step (Q := fun j => InsOk cs ms a4 l5.length (l5.getD j z67) ∧ ShOk_ cs a4 (l6.getD j z70)) ⟨hc.1 h8, (hd.1 h9).2⟩ hr
  refine (k0 0 (Nat.zero_le _)).mono fun r hr => hr.trans ?_
  constructor
  · intro h
    refine ⟨hhd, ⟨⟨by dsimp only; omega, by dsimp only; omega, by dsimp only; omega⟩, fun j hj hj2 => (h.1 j hj hj2).1, fun j hj hj2 => (h.1 j hj (by dsimp only at hj2; omega)).2⟩, ⟨by dsimp only; omega, h.2.1⟩⟩
  · intro h
    exact ⟨fun j hj hj2 => ⟨h.2.1.2.1 j hj hj2, h.2.1.2.2 j hj (by dsimp only; omega)⟩, h.2.2.2, trivial⟩
end Go.Proofs.Ytedodaifpekahaa.Kit

end
