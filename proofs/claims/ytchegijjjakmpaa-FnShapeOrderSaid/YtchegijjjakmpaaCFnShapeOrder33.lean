/- A part of the claim FnShapeOrder: texts of this session and texts that its program printed out of the translation, joined. -/
import Derived.Test.YtchegijjjakmpaaCFnShapeOrder20
import Derived.Test.YtchegijjjakmpaaCFnShapeOrder22
import Derived.Test.YtchegijjjakmpaaCFnShapeOrder0
import Derived.Test.YtchegijjjakmpaaCFnShapeOrder1
import Derived.Test.YtchegijjjakmpaaCFnShapeOrder2
import Derived.Test.YtchegijjjakmpaaCFnShapeOrder3
import Derived.Test.YtchegijjjakmpaaCFnShapeOrder4
import Derived.Test.YtchegijjjakmpaaCFnShapeOrder5
import Derived.Test.YtchegijjjakmpaaCFnShapeOrder6
import Derived.Test.YtchegijjjakmpaaCFnShapeOrder7
import Derived.Test.YtchegijjjakmpaaCFnShapeOrder8
import Derived.Test.YtchegijjjakmpaaCFnShapeOrder9
import Derived.Test.YtchegijjjakmpaaCFnShapeOrder10
import Derived.Test.YtchegijjjakmpaaCFnShapeOrder11
import Derived.Test.YtchegijjjakmpaaCFnShapeOrder12
import Derived.Test.YtchegijjjakmpaaCFnShapeOrder13
import Derived.Test.YtchegijjjakmpaaCFnShapeOrder14
import Derived.Test.YtchegijjjakmpaaCFnShapeOrder15
import Derived.Test.YtchegijjjakmpaaCFnShapeOrder16
import Derived.Test.YtchegijjjakmpaaCFnShapeOrder17
import Derived.Test.YtchegijjjakmpaaCFnShapeOrder18
import Derived.Test.YtchegijjjakmpaaCFnShapeOrder19
import Derived.Test.YtchegijjjakmpaaCFnShapeOrder21
import Derived.Test.YtchegijjjakmpaaCFnShapeOrder23
import Derived.Test.YtchegijjjakmpaaCFnShapeOrder24
import Derived.Test.YtchegijjjakmpaaCFnShapeOrder25
import Derived.Test.YtchegijjjakmpaaCFnShapeOrder26
import Derived.Test.YtchegijjjakmpaaCFnShapeOrder27
import Derived.Test.YtchegijjjakmpaaCFnShapeOrder28
import Derived.Test.YtchegijjjakmpaaCFnShapeOrder29
import Derived.Test.YtchegijjjakmpaaCFnShapeOrder30
import Derived.Test.YtchegijjjakmpaaCFnShapeOrder31
import Derived.Test.YtchegijjjakmpaaCFnShapeOrder32
section

namespace Go.Proofs.Ytchegijjjakmpaa.Kit
open Go Go.RowKit Go.Proofs.YtchegijjjakmpaaW.PrintWords
set_option linter.unusedVariables false
def Evp {α : Type} (g : Nat → Option α) (P : α → Prop) : Prop := ∃ r, Ev g r ∧ P r
theorem Evp.pure {α : Type} {P : α → Prop} (r : α) (h : P r) : Evp (fun _ => some r) P := ⟨r, Ev.now r, h⟩
theorem Evp.bind {α β : Type} {g : Nat → Option α} {f : Nat → α → Option β} {P : α → Prop} {Q : β → Prop} (h : Evp g P) (k : ∀ a, P a → Evp (fun n => f n a) Q) : Evp (fun n => (g n).bind (f n)) Q := by
  obtain ⟨a, ha, hp⟩ := h
  obtain ⟨r, hr, hq⟩ := k a hp
  exact ⟨r, Ev.bind ha hr, hq⟩
theorem Evp.step {α : Type} {g f : Nat → Option α} {P : α → Prop} (h : ∀ k, g (k + 1) = f k) (k : Evp f P) : Evp g P := by
  obtain ⟨r, hr, hp⟩ := k
  exact ⟨r, Ev.step h hr, hp⟩
theorem Evp.congr {α : Type} {g f : Nat → Option α} {P : α → Prop} (h : ∀ k, g k = f k) (k : Evp f P) : Evp g P := by
  obtain ⟨r, hr, hp⟩ := k
  exact ⟨r, Ev.congr h hr, hp⟩
theorem Evp.mono {α : Type} {g : Nat → Option α} {P Q : α → Prop} (h : Evp g P) (hpq : ∀ r, P r → Q r) : Evp g Q := by
  obtain ⟨r, hr, hp⟩ := h
  exact ⟨r, hr, hpq r hp⟩
theorem Evp.yes {α : Type} {c : Prop} [Decidable c] {f g : Nat → Option α} {P : α → Prop} (hc : c) (h : Evp f P) : Evp (fun n => if c then f n else g n) P := by
  simp only [if_pos hc]; exact h
theorem Evp.no {α : Type} {c : Prop} [Decidable c] {f g : Nat → Option α} {P : α → Prop} (hc : ¬ c) (h : Evp g P) : Evp (fun n => if c then f n else g n) P := by
  simp only [if_neg hc]; exact h
theorem Evp.ite {α : Type} {c : Prop} [Decidable c] {f g : Nat → Option α} {P : α → Prop} (h : c → Evp f P) (k : ¬ c → Evp g P) : Evp (fun n => if c then f n else g n) P := by
  by_cases hc : c
  · exact Evp.yes hc (h hc)
  · exact Evp.no hc (k hc)
theorem Ev.of_evp {α : Type} {g : Nat → Option α} {r : α} (h : Evp g (fun x => x = r)) : Ev g r := by
  obtain ⟨x, hx, rfl⟩ := h
  exact hx
theorem Evp.const {α : Type} {o : Option α} {r : α} {P : α → Prop} (h : o = some r) (hp : P r) : Evp (fun _ => o) P := ⟨r, ⟨0, fun _ _ => h⟩, hp⟩
theorem Evp.rounds {α : Type} {g : Nat → Option α} {r : α} (h : Evp g (fun x => x = r)) : ∃ k, g k = some r := (Ev.of_evp h).rounds
theorem Evp.for_ {ρ : Type} {n : Nat} {g : Nat → Nat → Option ρ} {R : Nat → ρ → Prop} (hend : Evp (g n) (R n)) (hstep : ∀ i, i < n → Evp (g (i + 1)) (R (i + 1)) → Evp (g i) (R i)) : ∀ i, i ≤ n → Evp (g i) (R i) := by
  have key : ∀ d i, i + d = n → Evp (g i) (R i) := by
    intro d
    induction d with
    | zero => intro i hi; have : i = n := by omega
              subst this; exact hend
    | succ d ih => intro i hi; exact hstep i (by omega) (ih (i + 1) (by omega))
  intro i hi
  exact key (n - i) i (by omega)
theorem Evp.fors {σ ρ : Type} {n : Nat} {g : Nat → σ → Nat → Option ρ} {I : Nat → σ → Prop} {R : Nat → σ → ρ → Prop} (hend : ∀ s, I n s → Evp (g n s) (R n s))
    (hstep : ∀ i, i < n → (∀ s, I (i + 1) s → Evp (g (i + 1) s) (R (i + 1) s)) → ∀ s, I i s → Evp (g i s) (R i s)) : ∀ i, i ≤ n → ∀ s, I i s → Evp (g i s) (R i s) := by
  have key : ∀ d i, i + d = n → ∀ s, I i s → Evp (g i s) (R i s) := by
    intro d
    induction d with
    | zero => intro i hi; have : i = n := by omega
              subst this; exact hend
    | succ d ih => intro i hi; exact hstep i (by omega) (ih (i + 1) (by omega))
  intro i hi
  exact key (n - i) i (by omega)
theorem drop_at {α : Type} {xs : List α} {i : Nat} (h : i < xs.length) : xs.drop i = xs[i] :: xs.drop (i + 1) := List.drop_eq_getElem_cons h
theorem getD_at {α : Type} {xs : List α} {i : Nat} (h : i < xs.length) (d : α) : xs.getD i d = xs[i] := by
  rw [List.getD_eq_getElem?_getD, List.getElem?_eq_getElem h]; rfl
theorem w64' {i n : Nat} (h : i < n) (hn : n ≤ 9223372036854775807) : wrap64 ((i : Int) + 1) = ((i + 1 : Nat) : Int) := by unfold wrap64; omega
theorem w64 {n : Int} (h0 : -9223372036854775808 ≤ n) (h1 : n ≤ 9223372036854775807) : wrap64 n = n := by unfold wrap64; omega
theorem tmod_pos {a b : Int} (h0 : 0 ≤ a) : Int.tmod a b = a % b := Int.tmod_eq_emod_of_nonneg h0
theorem tdiv_pos {a b : Int} (h0 : 0 ≤ a) : Int.tdiv a b = a / b := Int.tdiv_eq_ediv_of_nonneg h0
theorem tmod_lo {a b : Int} (h0 : 0 ≤ a) (hb : 0 < b) : 0 ≤ Int.tmod a b ∧ Int.tmod a b < b := by
  rw [tmod_pos h0]; exact ⟨Int.emod_nonneg _ (by omega), Int.emod_lt_of_pos _ hb⟩
theorem xor_nonneg {a b : Int} (ha : 0 ≤ a) (ha' : a < 4611686018427387904) (hb : 0 ≤ b) (hb' : b < 4611686018427387904) :
    0 ≤ Go.bits .xor .i64 a b ∧ Go.bits .xor .i64 a b < 4611686018427387904 := by
  obtain ⟨x, rfl⟩ := Int.eq_ofNat_of_zero_le ha
  obtain ⟨y, rfl⟩ := Int.eq_ofNat_of_zero_le hb
  have hx : x < 2 ^ 62 := by omega
  have hy : y < 2 ^ 62 := by omega
  have hxy := Nat.xor_lt_two_pow hx hy
  have e : Go.bits .xor .i64 (x : Int) (y : Int) = ((x ^^^ y : Nat) : Int) := by
    show IntKind.i64.wrap (((BitVec.ofInt 64 (x : Int)) ^^^ (BitVec.ofInt 64 (y : Int))).toNat : Int) = _
    rw [BitVec.toNat_xor]
    have e1 : (BitVec.ofInt 64 (x : Int)).toNat = x := by simp; omega
    have e2 : (BitVec.ofInt 64 (y : Int)).toNat = y := by simp; omega
    rw [e1, e2, IntKind.wrap_i64]
    omega
  rw [e]
  omega
end Go.Proofs.Ytchegijjjakmpaa.Kit

end
section

namespace Go.Proofs.Ytchegijjjakmpaa.Kit
open Go Go.RowKit Go.Proofs.YtchegijjjakmpaaW.PrintWords Go.Proofs.Ytchegijjjakmpaa.P
set_option linter.unusedVariables false
def Bytes (bs : List Int) : Prop := bs.length ≤ 2000 ∧ ∀ x ∈ bs, 0 ≤ x ∧ x ≤ 255
theorem Bytes.rd {bs : List Int} (h : Bytes bs) (i : Int) : 0 ≤ rd bs i ∧ rd bs i ≤ 255 := by
  unfold Go.Proofs.YtchegijjjakmpaaW.PrintWords.rd
  rw [List.getD_eq_getElem?_getD]
  by_cases hi : i.toNat < bs.length
  · rw [List.getElem?_eq_getElem hi]
    exact h.2 _ (List.getElem_mem hi)
  · rw [List.getElem?_eq_none (by omega)]
    simp
theorem open_evp {l : List Int} (h : ∀ x ∈ l, (Lit.int .u8 x).wf = true) : ∃ bs, spec_l6Open.f l = some (bs, 0) ∧ Bytes bs := by
  have hb : ∀ x ∈ l, 0 ≤ x ∧ x ≤ 255 := by
    intro x hx
    have := h x hx
    simp [Lit.wf, IntKind.min, IntKind.max, IntKind.signed, IntKind.bits] at this
    omega
  unfold spec_l6Open.f
  by_cases h1 : (l.length : Int) > 2000
  · rw [if_pos h1, if_pos (by omega)]
    exact ⟨_, rfl, by rw [List.length_take]; omega, fun x hx => hb x (List.mem_of_mem_take hx)⟩
  · rw [if_neg h1]
    exact ⟨_, rfl, by omega, hb⟩
theorem pick_evp {bs : List Int} (h : Bytes bs) {p n : Int} (h0 : 0 ≤ p) (h1 : p ≤ 1000000000) (hn : n ≤ 1000000000) :
    Evp (fun k => spec_l6Rd_pick.f k bs p n) (fun r => 0 ≤ r.1 ∧ (1 ≤ n → r.1 < n) ∧ r.2 = p + 1) := by
  have hp : wrap64 (p + 1) = p + 1 := w64 (by omega) (by omega)
  have hp1 : wrap64 (p + 1 - 1) = p := by rw [w64 (by omega) (by omega)]; omega
  have key : ∀ b : Bool, (b = false → 1 ≤ n ∧ bs.length ≠ 0) → Evp (fun k => spec_l6Rd_pick.j0 k n b bs (p + 1)) (fun r => 0 ≤ r.1 ∧ (1 ≤ n → r.1 < n) ∧ r.2 = p + 1) := by
    intro b hb
    refine Evp.step (f := fun k => _) (fun k => by rw [spec_l6Rd_pick.j0]) ?_
    rw [hp1]
    cases b with
    | true =>
      refine Evp.yes rfl (Evp.pure _ ⟨by omega, fun h => by show (0 : Int) < n; omega, rfl⟩)
    | false =>
      obtain ⟨hn1, hl⟩ := hb rfl
      have hlen : (bs.length : Int) ≤ 2000 := by have := h.1; omega
      refine Evp.no (by decide) (Evp.ite (fun hlt => ?_) (fun hge => ?_))
      · refine Evp.yes h0 (Evp.no (by omega) (Evp.pure _ ?_))
        have hr := h.rd p
        rw [w64 (by omega) (by omega)]
        have := tmod_lo (b := n) hr.1 (by omega)
        exact ⟨this.1, fun _ => this.2, rfl⟩
      · have hm1 := tmod_lo (a := p) (b := (bs.length : Int)) h0 (by omega)
        have e7 : wrap64 (wrap64 (p * 7) + 3) = p * 7 + 3 := by rw [w64 (n := p * 7) (by omega) (by omega), w64 (by omega) (by omega)]
        have hm2 := tmod_lo (a := p * 7 + 3) (b := (bs.length : Int)) (by omega) (by omega)
        rw [e7]
        refine Evp.no (by omega) (Evp.yes hm1.1 (Evp.yes hm1.2 (Evp.yes hm2.1 (Evp.yes hm2.2 (Evp.no (by omega) (Evp.pure _ ?_))))))
        have r1 := h.rd (Int.tmod p (bs.length : Int))
        have r2 := h.rd (Int.tmod (p * 7 + 3) (bs.length : Int))
        generalize rd bs (Int.tmod p (bs.length : Int)) = a at r1 ⊢
        generalize rd bs (Int.tmod (p * 7 + 3) (bs.length : Int)) = c at r2 ⊢
        have hq : 0 ≤ Int.tdiv p (bs.length : Int) ∧ Int.tdiv p (bs.length : Int) ≤ p := by
          rw [tdiv_pos h0]
          exact ⟨Int.ediv_nonneg h0 (by omega), Int.ediv_le_self _ h0⟩
        generalize Int.tdiv p (bs.length : Int) = q at hq ⊢
        have ea : wrap64 (wrap64 a * 131) = a * 131 := by rw [w64 (n := a) (by omega) (by omega), w64 (by omega) (by omega)]
        have ec : wrap64 (wrap64 c * 1117) = c * 1117 := by rw [w64 (n := c) (by omega) (by omega), w64 (by omega) (by omega)]
        have e29 : wrap64 (p * 29) = p * 29 := w64 (by omega) (by omega)
        have eq5 : wrap64 (wrap64 q * 53) = q * 53 := by rw [w64 (n := q) (by omega) (by omega), w64 (by omega) (by omega)]
        have ex : wrap64 (wrap64 (wrap64 (a * 131 + c * 1117) + p * 29) + q * 53) = a * 131 + c * 1117 + p * 29 + q * 53 := by
          rw [w64 (n := a * 131 + c * 1117) (by omega) (by omega), w64 (n := a * 131 + c * 1117 + p * 29) (by omega) (by omega), w64 (by omega) (by omega)]
        rw [ea, ec, e29, eq5, ex]
        generalize hx : a * 131 + c * 1117 + p * 29 + q * 53 = X
        have hX : 0 ≤ X ∧ X < 4611686018427387904 := by omega
        have hd : 0 ≤ Int.tdiv X 64 ∧ Int.tdiv X 64 ≤ X := by rw [tdiv_pos hX.1]; omega
        rw [w64 (n := Int.tdiv X 64) (by omega) (by omega)]
        have hz := xor_nonneg hX.1 hX.2 hd.1 (by omega)
        have := tmod_lo (b := n) hz.1 (by omega)
        exact ⟨this.1, fun _ => this.2, rfl⟩
  unfold spec_l6Rd_pick.f
  rw [hp]
  refine Evp.ite (fun hn1 => key true (fun h => by cases h)) (fun hn1 => key _ (fun hb => ⟨by omega, ?_⟩))
  intro hl
  rw [hl] at hb
  simp at hb
end Go.Proofs.Ytchegijjjakmpaa.Kit

end
section

namespace Go.Proofs.Ytchegijjjakmpaa.Kit
open Go Go.RowKit Go.Proofs.YtchegijjjakmpaaW.PrintWords Go.Proofs.Ytchegijjjakmpaa.P
set_option linter.unusedVariables false
abbrev Cls := S48
def sup (cs : List Cls) (i : Nat) : Int := (cs.getD i z48).f0
def flds (cs : List Cls) (i : Nat) : List Int := (cs.getD i z48).f1
def FieldTy (n : Nat) (t : Int) : Prop := t = 1 ∨ t = 3 ∨ t = 4 ∨ (8 ≤ t ∧ t < 8 + (n : Int))
structure ClsOk (cs : List Cls) : Prop where
  lo : 2 ≤ cs.length
  hi : cs.length ≤ 5
  root : sup cs 0 = -1 ∧ flds cs 0 = []
  fail : sup cs 1 = 0 ∧ flds cs 1 = [1]
  up : ∀ i, 2 ≤ i → i < cs.length → 0 ≤ sup cs i ∧ sup cs i < (i : Int) ∧ (flds cs i).length ≤ 2
  fld : ∀ i, i < cs.length → ∀ t ∈ flds cs i, FieldTy cs.length t
inductive Up (cs : List Cls) : Nat → Nat → Prop
  | refl (a : Nat) : Up cs a a
  | step {a b : Nat} (p : Nat) (hp : sup cs a = (p : Int)) (h : Up cs p b) : Up cs a b
theorem ClsOk.sup_pos {cs : List Cls} (h : ClsOk cs) {i : Nat} (h1 : 1 ≤ i) (h2 : i < cs.length) : 0 ≤ sup cs i ∧ sup cs i < (i : Int) := by
  rcases Nat.lt_or_ge i 2 with h3 | h3
  · have : i = 1 := by omega
    subst this
    rw [h.fail.1]
    decide
  · have := h.up i h3 h2
    exact ⟨this.1, this.2.1⟩
theorem ClsOk.sup_nat {cs : List Cls} (h : ClsOk cs) {i : Nat} (h1 : 1 ≤ i) (h2 : i < cs.length) : ∃ p : Nat, sup cs i = (p : Int) ∧ p < i := by
  obtain ⟨h3, h4⟩ := h.sup_pos h1 h2
  exact ⟨(sup cs i).toNat, by omega, by omega⟩
theorem ClsOk.len2 {cs : List Cls} (h : ClsOk cs) {i : Nat} (h2 : i < cs.length) : (flds cs i).length ≤ 2 := by
  rcases Nat.lt_or_ge i 2 with h3 | h3
  · rcases Nat.lt_or_ge i 1 with h4 | h4
    · have : i = 0 := by omega
      subst this
      rw [h.root.2]; decide
    · have : i = 1 := by omega
      subst this
      rw [h.fail.2]; decide
  · exact (h.up i h3 h2).2.2
theorem Up.le {cs : List Cls} (h : ClsOk cs) {a b : Nat} (hu : Up cs a b) (ha : a < cs.length) : b ≤ a := by
  induction hu with
  | refl a => exact Nat.le_refl _
  | @step a b p hp _ ih =>
    rcases Nat.eq_zero_or_pos a with h0 | h0
    · subst h0
      have := h.root.1
      omega
    · have := h.sup_pos h0 ha
      have := ih (by omega)
      omega
theorem Up.inv {cs : List Cls} {a b : Nat} (hu : Up cs a b) : a = b ∨ ∃ p : Nat, sup cs a = (p : Int) ∧ Up cs p b := by
  cases hu with
  | refl => exact .inl rfl
  | step p hp h => exact .inr ⟨p, hp, h⟩
theorem Up.trans {cs : List Cls} {a b c : Nat} (h1 : Up cs a b) (h2 : Up cs b c) : Up cs a c := by
  induction h1 with
  | refl => exact h2
  | step p hp _ ih => exact .step p hp (ih h2)
theorem Up.antisymm {cs : List Cls} (h : ClsOk cs) {a b : Nat} (ha : a < cs.length) (hb : b < cs.length) (h1 : Up cs a b) (h2 : Up cs b a) : a = b := by
  have := h1.le h ha
  have := h2.le h hb
  omega
theorem Up.root {cs : List Cls} (h : ClsOk cs) : ∀ {a : Nat}, a < cs.length → Up cs a 0 := by
  intro a
  induction a using Nat.strongRecOn with
  | _ a ih =>
    intro ha
    rcases Nat.eq_zero_or_pos a with h0 | h0
    · subst h0; exact .refl 0
    · obtain ⟨p, hp, hlt⟩ := h.sup_nat h0 ha
      exact .step p hp (ih p hlt (by omega))
inductive Flds (cs : List Cls) : Nat → List Int → Prop
  | root : Flds cs 0 []
  | step {c : Nat} {l : List Int} (p : Nat) (hc : c ≠ 0) (hp : sup cs c = (p : Int)) (h : Flds cs p l) : Flds cs c (l ++ flds cs c)
theorem Flds.fn {cs : List Cls} {c : Nat} {l l' : List Int} (h : Flds cs c l) (h' : Flds cs c l') : l = l' := by
  induction h generalizing l' with
  | root =>
    cases h' with
    | root => rfl
    | step p hc _ _ => exact absurd rfl hc
  | step p hc hp _ ih =>
    cases h' with
    | root => exact absurd rfl hc
    | step q _ hq hl =>
      have : p = q := by omega
      subst this
      rw [ih hl]
theorem Flds.ex {cs : List Cls} (h : ClsOk cs) : ∀ {c : Nat}, c < cs.length → ∃ l, Flds cs c l ∧ l.length ≤ 2 * c := by
  intro c
  induction c using Nat.strongRecOn with
  | _ c ih =>
    intro hc
    rcases Nat.eq_zero_or_pos c with h0 | h0
    · subst h0; exact ⟨[], .root, by simp⟩
    · obtain ⟨p, hp, hlt⟩ := h.sup_nat h0 hc
      obtain ⟨l, hl, hn⟩ := ih p hlt (by omega)
      exact ⟨_, .step p (by omega) hp hl, by have := h.len2 hc; simp; omega⟩
theorem rdSup {cs : List Cls} (i : Nat) : (rd_T48 cs (i : Int)).f0 = sup cs i := rfl
theorem rdFlds {cs : List Cls} (i : Nat) : (rd_T48 cs (i : Int)).f1 = flds cs i := rfl
theorem rdInt {xs : List Int} {i : Nat} (h : i < xs.length) : rd xs (i : Int) = xs[i] := getD_at h _
def SmallC (cs : List Cls) : Prop := cs.length ≤ 1048576 ∧ ∀ i, i < cs.length → (flds cs i).length ≤ 1048576 ∧ (∀ t ∈ flds cs i, -9223372036854775808 ≤ t ∧ t ≤ 9223372036854775807)
theorem same_of {p : Prop} {a b : Bool} (ha : a = true ↔ p) (hb : b = true ↔ p) : a = b := by
  rw [Bool.eq_iff_iff, ha, hb]
theorem bne_no {a b : Bool} {p : Prop} (ha : a = true ↔ p) (hb : b = true ↔ p) : ¬ ((b != a) = true) := by
  rw [same_of hb ha]; simp
end Go.Proofs.Ytchegijjjakmpaa.Kit

end
section

namespace Go.Proofs.Ytchegijjjakmpaa.Kit
open Go Go.RowKit Go.Proofs.YtchegijjjakmpaaW.PrintWords Go.Proofs.Ytchegijjjakmpaa.P
set_option linter.unusedVariables false
def Few (l : List Int) : Prop := ∀ t ∈ l, -1000 ≤ t ∧ t ≤ 1000
theorem Few.nil : Few [] := by intro t ht; cases ht
theorem Few.snoc {l : List Int} {t : Int} (h : Few l) (h0 : -1000 ≤ t) (h1 : t ≤ 1000) : Few (l ++ [t]) := by
  intro x hx
  rcases List.mem_append.1 hx with hx | hx
  · exact h x hx
  · rw [List.mem_singleton.1 hx]; exact ⟨h0, h1⟩
def OkC (c : Nat) (x : Cls) : Prop := x.f1.length ≤ c ∧ Few x.f1
def Drawn (c m : Nat) (cs : List Cls) : Prop := 1 ≤ cs.length ∧ cs.length ≤ m ∧ ∀ x ∈ cs, OkC c x
theorem Drawn.mono {c c' m m' : Nat} {cs : List Cls} (h : Drawn c m cs) (hc : c ≤ c') (hm : m ≤ m') : Drawn c' m' cs := ⟨h.1, Nat.le_trans h.2.1 hm, fun x hx => ⟨Nat.le_trans (h.2.2 x hx).1 hc, (h.2.2 x hx).2⟩⟩
theorem Drawn.at {c m : Nat} {cs : List Cls} (h : Drawn c m cs) (i : Nat) : OkC c (cs.getD i z48) := by
  rw [List.getD_eq_getElem?_getD]
  by_cases hi : i < cs.length
  · rw [List.getElem?_eq_getElem hi]; exact h.2.2 _ (List.getElem_mem hi)
  · rw [List.getElem?_eq_none (by omega)]; exact ⟨Nat.zero_le _, Few.nil⟩
theorem Drawn.small {c m : Nat} {cs : List Cls} (h : Drawn c m cs) (hc : c ≤ 1048576) (hm : m ≤ 1048576) : SmallC cs := by
  refine ⟨Nat.le_trans h.2.1 hm, fun i hi => ?_⟩
  have := h.at i
  exact ⟨Nat.le_trans this.1 hc, fun t ht => by have := this.2 t ht; omega⟩
theorem Drawn.set {c m : Nat} {cs : List Cls} (h : Drawn c m cs) (i : Nat) {x : Cls} (hx : OkC c x) : Drawn c m (cs.set i x) := by
  refine ⟨by rw [List.length_set]; exact h.1, by rw [List.length_set]; exact h.2.1, fun y hy => ?_⟩
  rcases List.mem_or_eq_of_mem_set hy with h1 | h1
  · exact h.2.2 y h1
  · rw [h1]; exact hx
theorem Drawn.snoc {c m : Nat} {cs : List Cls} (h : Drawn c m cs) {x : Cls} (hx : OkC c x) : Drawn c (m + 1) (cs ++ [x]) := by
  refine ⟨by simp, by rw [List.length_append]; have := h.2.1; simp; omega, fun y hy => ?_⟩
  rcases List.mem_append.1 hy with h1 | h1
  · exact h.2.2 y h1
  · rw [List.mem_singleton.1 h1]; exact hx
theorem field_evp {bs : List Int} (h : Bytes bs) {p n : Int} (h0 : 0 ≤ p) (h1 : p ≤ 100000000) (hn : 1 ≤ n) (hn2 : n ≤ 100) :
    Evp (fun k => spec_l71Field.f k bs p n) (fun r => 1 ≤ r.1 ∧ r.1 < 8 + n ∧ p ≤ r.2 ∧ r.2 ≤ p + 2) := by
  unfold spec_l71Field.f
  refine Evp.bind (pick_evp h h0 (by omega) (by omega)) fun a ha => ?_
  have key : ∀ b : Bool, Evp (fun k => spec_l71Field.j0 k n a.1 b bs a.2) (fun r => 1 ≤ r.1 ∧ r.1 < 8 + n ∧ p ≤ r.2 ∧ r.2 ≤ p + 2) := by
    intro b
    refine Evp.step (f := fun k => _) (fun k => by rw [spec_l71Field.j0]) ?_
    refine Evp.ite (fun _ => Evp.pure _ (by dsimp only; omega)) (fun _ => Evp.ite (fun _ => Evp.pure _ (by dsimp only; omega)) (fun _ => Evp.ite (fun _ => Evp.pure _ (by dsimp only; omega)) (fun _ => ?_)))
    refine Evp.bind (pick_evp h (by omega) (by omega) (by omega)) fun c hc => Evp.pure _ ?_
    have := hc.2.1 hn
    dsimp only
    rw [w64 (by omega) (by omega)]
    omega
  exact Evp.ite (fun _ => key _) (fun _ => key _)
theorem classes_evp {bs : List Int} (h : Bytes bs) {p : Int} (h0 : 0 ≤ p) (h1 : p ≤ 10000000) :
    Evp (fun k => spec_l71Classes.f k bs p) (fun r => Drawn 3 5 r.1 ∧ 2 ≤ r.1.length ∧ p ≤ r.2 ∧ r.2 ≤ p + 100) := by
  unfold spec_l71Classes.f
  refine Evp.bind (pick_evp h h0 (by omega) (by omega)) fun a ha => ?_
  have ha2 := ha.2.1 (by omega)
  obtain ⟨n, hn⟩ : ∃ n : Nat, wrap64 (2 + a.1) = (n : Int) := ⟨(2 + a.1).toNat, by rw [w64 (by omega) (by omega)]; omega⟩
  rw [w64 (by omega) (by omega)] at hn
  rw [w64 (by omega) (by omega), hn]
  have k0 : ∀ d i : Nat, i + d = n → ∀ (cs : List Cls) (q : Int), Drawn 3 i cs → cs.length = i → 2 ≤ i → 0 ≤ q → q + 6 * (d : Int) ≤ 20000000 → Evp (fun k => spec_l71Classes.l0 k (n : Int) cs (i : Int) bs q) (fun r => Drawn 3 5 r.1 ∧ 2 ≤ r.1.length ∧ q ≤ r.2 ∧ r.2 ≤ q + 6 * d) := by
    intro d
    induction d with
    | zero =>
      intro i hi cs q hd hl h2 hq0 hq1
      refine Evp.step (f := fun k => _) (fun k => by rw [spec_l71Classes.l0]) (Evp.no (by omega) (Evp.pure _ ?_))
      exact ⟨hd.mono (by decide) (by omega), by dsimp only; omega, by dsimp only; omega, by dsimp only; omega⟩
    | succ d ih =>
      intro i hi cs q hd hl h2 hq0 hq1
      refine Evp.step (f := fun k => _) (fun k => by rw [spec_l71Classes.l0]) (Evp.yes (by omega) ?_)
      refine Evp.bind (pick_evp h hq0 (by omega) (by omega)) fun b hb => Evp.bind (pick_evp h (by omega) (by omega) (by omega)) fun c hc => ?_
      have hc2 := hc.2.1 (by omega)
      have k1 : ∀ j : Nat, ∀ (s : List Int) (q' : Int), s.length + j ≤ 2 → Few s → 0 ≤ q' → q' + 2 * (j : Int) + 6 * (d : Int) ≤ 20000000 → Evp (fun k => spec_l71Classes.l1 k (n : Int) cs (i : Int) (j : Int) bs q' b.1 s) (fun r => Drawn 3 5 r.1 ∧ 2 ≤ r.1.length ∧ q' ≤ r.2 ∧ r.2 ≤ q' + 2 * j + 6 * d) := by
        intro j
        induction j with
        | zero =>
          intro s q' hs hf hq0' hq1'
          refine Evp.step (f := fun k => _) (fun k => by rw [spec_l71Classes.l1]) (Evp.no (by omega) (Evp.yes (by omega) ?_))
          rw [w64' (n := n) (by omega) (by omega)]
          refine (ih (i + 1) (by omega) (cs ++ [⟨b.1, s⟩]) q' (hd.snoc ⟨by dsimp only; omega, hf⟩) (by simp; omega) (by omega) hq0' (by omega)).mono fun r hr => ?_
          exact ⟨hr.1, hr.2.1, hr.2.2.1, by omega⟩
        | succ j ihj =>
          intro s q' hs hf hq0' hq1'
          refine Evp.step (f := fun k => _) (fun k => by rw [spec_l71Classes.l1]) (Evp.yes (by omega) ?_)
          refine Evp.bind (field_evp h hq0' (by omega) (n := (n : Int)) (by omega) (by omega)) fun e he => Evp.yes (by omega) ?_
          rw [show wrap64 (((j + 1 : Nat) : Int) - 1) = (j : Int) by rw [w64 (by omega) (by omega)]; omega]
          refine (ihj (s ++ [e.1]) e.2 (by simp; omega) (hf.snoc (by omega) (by omega)) (by omega) (by omega)).mono fun r hr => ?_
          exact ⟨hr.1, hr.2.1, by omega, by omega⟩
      obtain ⟨j, hj⟩ : ∃ j : Nat, c.1 = (j : Int) := ⟨c.1.toNat, by omega⟩
      rw [hj]
      refine (k1 j [] c.2 (by simp; omega) Few.nil (by omega) (by omega)).mono fun r hr => ?_
      exact ⟨hr.1, hr.2.1, by omega, by omega⟩
  have hok : Drawn 3 2 ([(⟨-1, []⟩ : Cls), ⟨0, [1]⟩]) := by
    refine ⟨by decide, by decide, fun x hx => ?_⟩
    rcases List.mem_cons.1 hx with rfl | hx
    · exact ⟨Nat.zero_le _, Few.nil⟩
    · rw [List.mem_singleton.1 hx]
      exact ⟨by decide, Few.nil.snoc (by decide) (by decide)⟩
  refine Evp.mono (k0 (n - 2) 2 (by omega) _ a.2 hok rfl (by omega) (by omega) (by omega)) fun r hr => ?_
  exact ⟨hr.1, hr.2.1, by omega, by omega⟩
theorem off_evp {bs : List Int} (h : Bytes bs) {p : Int} (h0 : 0 ≤ p) (h1 : p ≤ 1000000) :
    Evp (fun k => spec_l71Off.f k bs p) (fun r => Drawn 4 9 r.1 ∧ p ≤ r.2 ∧ r.2 ≤ p + 110) := by
  unfold spec_l71Off.f
  refine Evp.bind (classes_evp h h0 (by omega)) fun a ha => Evp.bind (pick_evp h (by omega) (by omega) (by omega)) fun b hb => ?_
  have hd : Drawn 4 9 a.1 := ha.1.mono (by decide) (by decide)
  have hl := ha.2.1
  have hl5 := ha.1.2.1
  refine Evp.ite (fun _ => Evp.pure _ ⟨hd, by dsimp only; omega, by dsimp only; omega⟩) (fun _ => ?_)
  refine Evp.bind (pick_evp h (by omega) (by omega) (by omega)) fun c hc => Evp.bind (pick_evp h (by omega) (by omega) (by omega)) fun d hd' => ?_
  have hc2 := hc.2.1 (by omega)
  have at_ : ∀ i : Int, OkC 4 (rd_T48 a.1 i) := fun i => hd.at _
  refine Evp.ite (fun _ => ?_) (fun _ => Evp.ite (fun _ => ?_) (fun _ => Evp.ite (fun _ => ?_) (fun _ => Evp.ite (fun _ => ?_) (fun _ => Evp.ite (fun _ => ?_) (fun _ => ?_)))))
  · refine Evp.bind (pick_evp h (by omega) (by omega) (by omega)) fun e he => Evp.yes hc.1 (Evp.yes (by omega) (Evp.pure _ ⟨hd.set _ (at_ _), by dsimp only; omega, by dsimp only; omega⟩))
  · refine Evp.yes hc.1 (Evp.yes (by omega) ?_)
    simp only [Option.bind_some]
    refine Evp.bind (pick_evp h (by omega) (by omega) (by omega)) fun e he => ?_
    have he2 := he.2.1 (by omega)
    have hx : OkC 3 (rd_T48 a.1 c.1) := ha.1.at _
    refine Evp.yes he.1 (Evp.yes (by simp; omega) (Evp.yes (by have := hx.1; omega) (Evp.pure _ ⟨hd.set _ ⟨?_, ?_⟩, by dsimp only; omega, by dsimp only; omega⟩)))
    · have := hx.1
      simp
      omega
    · have key : ∀ e : Int, 0 ≤ e → e < 4 → -1000 ≤ rd [0, 2, 13, 5] e ∧ rd [0, 2, 13, 5] e ≤ 1000 := by
        intro e h0 h1
        have : e = 0 ∨ e = 1 ∨ e = 2 ∨ e = 3 := by omega
        rcases this with rfl | rfl | rfl | rfl <;> exact ⟨by decide, by decide⟩
      exact hx.2.snoc (key e.1 he.1 he2).1 (key e.1 he.1 he2).2
  · exact Evp.yes (by omega) (Evp.pure _ ⟨⟨by simp; omega, by simp; omega, fun x hx => hd.2.2 x (List.mem_of_mem_take hx)⟩, by dsimp only; omega, by dsimp only; omega⟩)
  · refine Evp.yes (by omega) ?_
    simp only [Option.bind_some]
    refine Evp.yes (by simp; omega) (Evp.pure _ ⟨⟨by simp, by simp; omega, fun x hx => ?_⟩, by dsimp only; omega, by dsimp only; omega⟩)
    rcases List.mem_append.1 hx with hx | hx
    · exact hd.2.2 x hx
    · have : x = rd_T48 a.1 1 := by
        simp only [List.mem_cons, List.not_mem_nil, or_false, or_self] at hx
        exact hx
      rw [this]; exact at_ 1
  · refine Evp.yes hc.1 (Evp.yes (by omega) (Evp.pure _ ⟨hd.set _ ⟨(by dsimp only; decide), ?_⟩, by dsimp only; omega, by dsimp only; omega⟩))
    intro t ht
    simp at ht
    omega
  · exact Evp.yes hc.1 (Evp.yes (by omega) (Evp.pure _ ⟨hd.set _ ⟨Nat.zero_le _, Few.nil⟩, by dsimp only; omega, by dsimp only; omega⟩))
end Go.Proofs.Ytchegijjjakmpaa.Kit

end
section

namespace Go.Proofs.Ytchegijjjakmpaa.Kit
open Go Go.RowKit Go.Proofs.YtchegijjjakmpaaW.PrintWords Go.Proofs.Ytchegijjjakmpaa.P
set_option linter.unusedVariables false
theorem in_eq (a lo hi : Int) : spec_l6In.f a lo hi = some (decide (lo ≤ a ∧ a ≤ hi)) := by
  unfold spec_l6In.f
  by_cases h : lo ≤ a <;> simp [h]
theorem kindOf_eq {n : Nat} {t : Int} (hn : n ≤ 1000000000) (h0 : -9223372036854775808 ≤ t) (h1 : t ≤ 9223372036854775807) :
    impl_kindOf.f (n : Int) t = some (if (0 ≤ t ∧ t ≤ 4) ∨ (8 ≤ t ∧ t < 8 + (n : Int)) then t else -1) := by
  unfold impl_kindOf.f
  rw [if_pos ⟨by omega, by omega, h0, h1⟩]
  repeat' split
  all_goals first | omega | (congr 1; omega) | rfl
theorem fieldType_eq {n : Nat} {t : Int} (hn : n ≤ 1000000000) (h0 : -9223372036854775808 ≤ t) (h1 : t ≤ 9223372036854775807) :
    ∃ b, impl_fieldType.f (n : Int) t = some b ∧ (b = true ↔ FieldTy n t) := by
  unfold impl_fieldType.f
  rw [kindOf_eq hn h0 h1, Option.bind_some]
  refine ⟨_, rfl, ?_⟩
  rw [decide_eq_true_iff]
  unfold FieldTy
  split <;> omega
theorem field_eq {cs : List Cls} {t : Int} (hn : cs.length ≤ 1000000000) : ∃ b, spec_l2Field.f cs t = some b ∧ (b = true ↔ FieldTy cs.length t) := by
  unfold spec_l2Field.f FieldTy
  rw [in_eq, w64 (n := 8 + (cs.length : Int)) (by omega) (by omega), w64 (by omega) (by omega)]
  by_cases h1 : t = 1
  · exact ⟨true, by rw [if_pos h1], by simp [h1]⟩
  rw [if_neg h1]
  by_cases h2 : t = 3
  · exact ⟨true, by rw [if_pos h2], by simp [h2]⟩
  rw [if_neg h2]
  by_cases h3 : t = 4
  · exact ⟨true, by rw [if_pos h3], by simp [h3]⟩
  rw [if_neg h3]
  refine ⟨_, rfl, ?_⟩
  simp only [h1, h2, h3, false_or, decide_eq_true_iff]
  omega
def Shp (cs : List Cls) (c : Nat) : Prop := (if c = 0 then sup cs 0 = -1 ∧ (flds cs 0).length = 0 else if c = 1 then sup cs 1 = 0 ∧ flds cs 1 = [1] else 0 ≤ sup cs c ∧ sup cs c < (c : Int) ∧ (flds cs c).length ≤ 2)
theorem shp0 {cs : List Cls} : Shp cs 0 ↔ sup cs 0 = -1 ∧ (flds cs 0).length = 0 := by unfold Shp; rw [if_pos rfl]
theorem shp1 {cs : List Cls} : Shp cs 1 ↔ sup cs 1 = 0 ∧ flds cs 1 = [1] := by unfold Shp; rw [if_neg (by decide), if_pos rfl]
theorem shp2 {cs : List Cls} {c : Nat} (h : 2 ≤ c) : Shp cs c ↔ 0 ≤ sup cs c ∧ sup cs c < (c : Int) ∧ (flds cs c).length ≤ 2 := by unfold Shp; rw [if_neg (by omega), if_neg (by omega)]
def At (cs : List Cls) (c : Nat) : Prop := (∀ t ∈ flds cs c, FieldTy cs.length t) ∧ Shp cs c
theorem clsOk_iff {cs : List Cls} : ClsOk cs ↔ 2 ≤ cs.length ∧ cs.length ≤ 5 ∧ ∀ c, c < cs.length → At cs c := by
  constructor
  · intro h
    refine ⟨h.lo, h.hi, fun c hc => ⟨h.fld c hc, ?_⟩⟩
    rcases Nat.lt_or_ge c 2 with h2 | h2
    · rcases Nat.lt_or_ge c 1 with h1 | h1
      · have : c = 0 := by omega
        subst this
        exact shp0.2 ⟨h.root.1, by rw [h.root.2]; rfl⟩
      · have : c = 1 := by omega
        subst this
        exact shp1.2 h.fail
    · exact (shp2 h2).2 (h.up c h2 hc)
  · intro ⟨h1, h2, h3⟩
    have a0 := shp0.1 (h3 0 (by omega)).2
    have a1 := shp1.1 (h3 1 (by omega)).2
    exact ⟨h1, h2, ⟨a0.1, List.eq_nil_of_length_eq_zero a0.2⟩, a1, fun i hi hl => (shp2 hi).1 (h3 i hl).2, fun i hi => (h3 i hi).1⟩
theorem spec_class {cs : List Cls} (hs : SmallC cs) {c : Nat} (hc : c < cs.length) : Evp (fun k => spec_l2Class.f k cs (c : Int)) (fun r => r = true ↔ At cs c) := by
  unfold spec_l2Class.f
  refine Evp.yes (by omega) (Evp.yes (by omega) ?_)
  rw [rdSup, rdFlds]
  have hl := (hs.2 c hc).1
  have hl0 := hs.1
  have key : ∀ i, i ≤ (flds cs c).length → Evp (fun k => spec_l2Class.l0 k cs (c : Int) (i : Int) (sup cs c) (flds cs c)) (fun r => r = true ↔ (∀ t ∈ (flds cs c).drop i, FieldTy cs.length t) ∧ Shp cs c) := by
    refine Evp.for_ ?_ (fun i hi ih => ?_)
    · refine Evp.step (f := fun k => _) (fun k => by rw [spec_l2Class.l0, in_eq]) (Evp.no (by omega) ?_)
      rw [List.drop_length]
      simp only [List.not_mem_nil, false_implies, implies_true, true_and]
      refine Evp.ite (fun h0 => ?_) (fun h0 => ?_)
      · have : c = 0 := by omega
        subst this
        rw [shp0]
        refine Evp.ite (fun h => Evp.pure _ ?_) (fun h => Evp.pure _ (by simp [h]))
        rw [beq_iff_eq]
        constructor
        · intro h2; exact ⟨h, by omega⟩
        · intro h2; omega
      · refine Evp.ite (fun h1 => ?_) (fun h1 => ?_)
        · have : c = 1 := by omega
          subst this
          rw [shp1]
          refine Evp.ite (fun h => ?_) (fun h => Evp.pure _ (by simp [h]))
          refine Evp.ite (fun h2 => ?_) (fun h2 => Evp.pure _ ?_)
          · refine Evp.yes (by omega) (Evp.pure _ ?_)
            obtain ⟨x, hx⟩ := List.length_eq_one_iff.1 (by omega : (flds cs 1).length = 1)
            rw [hx, show rd [x] 0 = x from rfl, beq_iff_eq]
            simp [h]
          · constructor
            · intro h3; cases h3
            · intro h3; rw [h3.2] at h2; exact absurd rfl h2
        · rw [shp2 (by omega)]
          refine Evp.congr (f := fun k => if 0 ≤ sup cs c ∧ sup cs c ≤ (c : Int) - 1 then some (decide (((flds cs c).length : Int) ≤ 2)) else some false) (fun k => by rw [w64 (n := (c : Int) - 1) (by omega) (by omega), Option.bind_some]; simp only [decide_eq_true_iff]) ?_
          refine Evp.ite (fun h => Evp.pure _ ?_) (fun h => Evp.pure _ ?_)
          · simp only [decide_eq_true_iff]
            omega
          · constructor
            · intro h3; cases h3
            · intro h3; omega
    · obtain ⟨b, hb, hb2⟩ := field_eq (cs := cs) (t := (flds cs c)[i]) (by omega)
      refine Evp.step (f := fun k => _) (fun k => by rw [spec_l2Class.l0, rdInt hi, hb, Option.bind_some]) (Evp.yes (by omega) (Evp.yes (by omega) ?_))
      rw [w64' hi (by omega), drop_at hi]
      refine Evp.ite (fun h => ih.mono fun r hr => ?_) (fun h => Evp.pure _ ?_)
      · rw [hr, List.forall_mem_cons]
        exact ⟨fun h2 => ⟨⟨hb2.1 h, h2.1⟩, h2.2⟩, fun h2 => ⟨h2.1.2, h2.2⟩⟩
      · rw [List.forall_mem_cons]
        exact ⟨fun h2 => (by cases h2), fun h2 => absurd (hb2.2 h2.1.1) h⟩
  exact key 0 (Nat.zero_le _)
theorem spec_classesOk {cs : List Cls} (hs : SmallC cs) : Evp (fun k => spec_ClassesOk.f k cs) (fun r => r = true ↔ ClsOk cs) := by
  have hl0 := hs.1
  unfold spec_ClassesOk.f
  rw [in_eq]
  simp only [Option.bind_some]
  refine Evp.ite (fun h => ?_) (fun h => Evp.pure _ ?_)
  · simp only [decide_eq_true_iff] at h
    have key : ∀ i, i ≤ cs.length → Evp (fun k => spec_ClassesOk.l0 k cs (i : Int)) (fun r => r = true ↔ ∀ c, i ≤ c → c < cs.length → At cs c) := by
      refine Evp.for_ ?_ (fun i hi ih => ?_)
      · refine Evp.step (f := fun k => _) (fun k => by rw [spec_ClassesOk.l0]) (Evp.no (by omega) (Evp.pure _ ?_))
        simp only [true_iff]
        intro c h1 h2; omega
      · refine Evp.step (f := fun k => _) (fun k => by rw [spec_ClassesOk.l0]) (Evp.yes (by omega) ?_)
        refine Evp.bind (spec_class hs hi) fun b hb => ?_
        rw [w64' hi (by omega)]
        refine Evp.ite (fun h1 => ih.mono fun r hr => ?_) (fun h1 => Evp.pure _ ?_)
        · rw [hr]
          constructor
          · intro h2 c h3 h4
            rcases Nat.lt_or_ge i c with h5 | h5
            · exact h2 c h5 h4
            · have : c = i := by omega
              subst this
              exact hb.1 h1
          · intro h2 c h3 h4; exact h2 c (by omega) h4
        · constructor
          · intro h2; cases h2
          · intro h2; exact absurd (hb.2 (h2 i (Nat.le_refl _) hi)) h1
    refine (key 0 (Nat.zero_le _)).mono fun r hr => ?_
    rw [hr, clsOk_iff]
    constructor
    · intro h2; exact ⟨by omega, by omega, fun c hc => h2 c (Nat.zero_le _) hc⟩
    · intro h2 c _ hc; exact h2.2.2 c hc
  · simp only [decide_eq_true_iff] at h
    constructor
    · intro h2; cases h2
    · intro h2; have := h2.lo; have := h2.hi; omega
theorem impl_classesOk {cs : List Cls} (hs : SmallC cs) : Evp (fun k => impl_ClassesOk.f k cs) (fun r => r = true ↔ ClsOk cs) := by
  have hl0 := hs.1
  have no : ∀ {p : Prop}, ¬ p → ((false = true) ↔ p) := fun h => ⟨fun h2 => (by cases h2), fun h2 => absurd h2 h⟩
  have jno : ¬ (2 ≤ cs.length ∧ cs.length ≤ 5) → Evp (fun k => impl_ClassesOk.j0 k cs true) (fun r => r = true ↔ ClsOk cs) := fun h =>
    Evp.step (f := fun k => _) (fun k => by rw [impl_ClassesOk.j0]) (Evp.yes rfl (Evp.pure _ (no fun h2 => h ⟨h2.lo, h2.hi⟩)))
  unfold impl_ClassesOk.f
  refine Evp.ite (fun h => jno (by omega)) (fun h => ?_)
  by_cases h5 : ¬ cs.length ≤ 5
  · rw [decide_eq_true (by omega)]; exact jno (by omega)
  rw [decide_eq_false (by omega)]
  have h2 : 2 ≤ cs.length := by omega

  have loop : (sup cs 0 = -1 ∧ flds cs 0 = []) → (sup cs 1 = 0 ∧ flds cs 1 = [1]) → ∀ i, i ≤ cs.length → Evp (fun k => impl_ClassesOk.l0 k cs cs (cs.length : Int) (i : Int)) (fun r => r = true ↔ ∀ c, i ≤ c → c < cs.length → At cs c) := by
    intro hr hf
    refine Evp.for_ ?_ (fun i hi ih => ?_)
    · refine Evp.step (f := fun k => _) (fun k => by rw [impl_ClassesOk.l0]) (Evp.no (by omega) (Evp.pure _ ?_))
      simp only [true_iff]
      intro c h1 h2; omega
    · have ih2 : At cs i → ∀ r : Bool, (r = true ↔ ∀ c, i + 1 ≤ c → c < cs.length → At cs c) → (r = true ↔ ∀ c, i ≤ c → c < cs.length → At cs c) := by
        intro ha r hr
        rw [hr]
        constructor
        · intro h2 c h3 h4
          rcases Nat.lt_or_ge i c with h5 | h5
          · exact h2 c h5 h4
          · have : c = i := by omega
            subst this
            exact ha
        · intro h2 c h3 h4; exact h2 c (by omega) h4
      have hno : ¬ At cs i → ((false = true) ↔ ∀ c, i ≤ c → c < cs.length → At cs c) := fun h => no fun h2 => h (h2 i (Nat.le_refl _) hi)
      have hl := (hs.2 i hi).1
      have hb := (hs.2 i hi).2

      have fl : Shp cs i →
          ∀ j, j ≤ (flds cs i).length → (∀ t ∈ (flds cs i).take j, FieldTy cs.length t) → Evp (fun k => impl_ClassesOk.l1 k cs cs (cs.length : Int) (i : Int) (flds cs i) ((flds cs i).length : Int) (j : Int)) (fun r => r = true ↔ ∀ c, i ≤ c → c < cs.length → At cs c) := by
        intro hc
        have key : ∀ j, j ≤ (flds cs i).length → ∀ _ : Unit, (∀ t ∈ (flds cs i).take j, FieldTy cs.length t) → Evp (fun k => impl_ClassesOk.l1 k cs cs (cs.length : Int) (i : Int) (flds cs i) ((flds cs i).length : Int) (j : Int)) (fun r => r = true ↔ ∀ c, i ≤ c → c < cs.length → At cs c) := by
          refine Evp.fors (g := fun j (_ : Unit) k => impl_ClassesOk.l1 k cs cs (cs.length : Int) (i : Int) (flds cs i) ((flds cs i).length : Int) (j : Int)) (I := fun j _ => ∀ t ∈ (flds cs i).take j, FieldTy cs.length t) (R := fun _ _ r => r = true ↔ ∀ c, i ≤ c → c < cs.length → At cs c) (fun _ hI => ?_) (fun j hj ihj _ hI => ?_)
          · refine Evp.step (f := fun k => _) (fun k => by rw [impl_ClassesOk.l1]) (Evp.no (by omega) ?_)
            rw [w64' hi (by omega)]
            refine ih.mono (ih2 ⟨?_, hc⟩)
            simpa using hI
          · obtain ⟨b, hb1, hb2⟩ := fieldType_eq (n := cs.length) (t := (flds cs i)[j]) (by omega) (hb _ (List.getElem_mem hj)).1 (hb _ (List.getElem_mem hj)).2
            refine Evp.step (f := fun k => _) (fun k => by rw [impl_ClassesOk.l1, rdInt hj, hb1, Option.bind_some]) (Evp.yes (by omega) (Evp.yes (by omega) (Evp.yes (by omega) ?_)))
            rw [w64' hj (by omega)]
            refine Evp.ite (fun h => ihj () ?_) (fun h => Evp.pure _ (hno ?_))
            · rw [List.take_succ_eq_append_getElem hj]
              intro t ht
              rcases List.mem_append.1 ht with ht | ht
              · exact hI t ht
              · rw [List.mem_singleton.1 ht]; exact hb2.1 h
            · intro ha; exact h (hb2.2 (ha.1 _ (List.getElem_mem hj)))
        exact fun j hj => key j hj ()
      have j4 : ∀ b : Bool, (b = true ↔ 2 ≤ i ∧ ¬ (0 ≤ sup cs i ∧ sup cs i < (i : Int))) → Evp (fun k => impl_ClassesOk.j4 k cs cs (cs.length : Int) (i : Int) b (sup cs i) (flds cs i)) (fun r => r = true ↔ ∀ c, i ≤ c → c < cs.length → At cs c) := by
        intro b hb4
        refine Evp.step (f := fun k => _) (fun k => by rw [impl_ClassesOk.j4]) ?_
        refine Evp.ite (fun h => Evp.pure _ (hno ?_)) (fun h => ?_)
        · intro ha
          have h6 := hb4.1 h
          have := (shp2 h6.1).1 ha.2
          omega
        · have h6 : ¬ (2 ≤ i ∧ ¬ (0 ≤ sup cs i ∧ sup cs i < (i : Int))) := fun h7 => h (hb4.2 h7)
          refine Evp.ite (fun h7 => Evp.pure _ (hno ?_)) (fun h7 => fl ?_ 0 (Nat.zero_le _) (by simp))
          · intro ha
            rcases Nat.lt_or_ge i 2 with h8 | h8
            · rcases Nat.lt_or_ge i 1 with h9 | h9
              · have : i = 0 := by omega
                subst this
                have := (shp0.1 ha.2).2
                omega
              · have : i = 1 := by omega
                subst this
                rw [hf.2] at h7; exact absurd h7 (by decide)
            · have := (shp2 h8).1 ha.2
              omega
          · rcases Nat.lt_or_ge i 2 with h8 | h8
            · rcases Nat.lt_or_ge i 1 with h9 | h9
              · have : i = 0 := by omega
                subst this
                exact shp0.2 ⟨hr.1, by rw [hr.2]; rfl⟩
              · have : i = 1 := by omega
                subst this
                exact shp1.2 hf
            · exact (shp2 h8).2 (by omega)
      refine Evp.step (f := fun k => _) (fun k => by rw [impl_ClassesOk.l0, rdSup, rdFlds]) (Evp.yes (by omega) (Evp.yes (by omega) (Evp.yes (by omega) ?_)))
      refine Evp.ite (fun h => Evp.ite (fun h8 => j4 _ ?_) (fun h8 => j4 _ ?_)) (fun h => j4 _ ?_)
      · simp; omega
      · rw [decide_eq_true_iff]; omega
      · simp; omega
  have done : (sup cs 0 = -1 ∧ flds cs 0 = []) → (sup cs 1 = 0 ∧ flds cs 1 = [1]) → Evp (fun k => impl_ClassesOk.l0 k cs cs (cs.length : Int) 0) (fun r => r = true ↔ ClsOk cs) := by
    intro hr hf
    refine (loop hr hf 0 (Nat.zero_le _)).mono fun r hr2 => ?_
    rw [hr2, clsOk_iff]
    constructor
    · intro h3; exact ⟨by omega, by omega, fun c hc => h3 c (Nat.zero_le _) hc⟩
    · intro h3 c _ hc; exact h3.2.2 c hc
  have j2 : (sup cs 0 = -1 ∧ flds cs 0 = []) → ∀ b : Bool, (b = false ↔ (sup cs 1 = 0 ∧ flds cs 1 = [1])) → Evp (fun k => impl_ClassesOk.j2 k cs b) (fun r => r = true ↔ ClsOk cs) := by
    intro hr b hb
    refine Evp.step (f := fun k => _) (fun k => by rw [impl_ClassesOk.j2]) ?_
    refine Evp.ite (fun h => Evp.pure _ (no fun h3 => ?_)) (fun h => done hr (hb.1 (by simpa using h)))
    have := hb.2 h3.fail
    rw [h] at this; cases this
  have j1 : ∀ b : Bool, (b = false ↔ (sup cs 0 = -1 ∧ flds cs 0 = [])) → Evp (fun k => impl_ClassesOk.j1 k cs b) (fun r => r = true ↔ ClsOk cs) := by
    intro b hb
    refine Evp.step (f := fun k => _) (fun k => by rw [impl_ClassesOk.j1, show (1 : Int) = ((1 : Nat) : Int) from rfl, rdSup, rdFlds]) ?_
    refine Evp.ite (fun h => Evp.pure _ (no fun h3 => ?_)) (fun h => ?_)
    · have := hb.2 h3.root
      rw [h] at this; cases this
    · have hr := hb.1 (by simpa using h)
      refine Evp.yes (by omega) (Evp.ite (fun h1 => Evp.ite (fun h3 => Evp.yes (by omega) (j2 hr _ ?_)) (fun h3 => j2 hr _ ?_)) (fun h1 => j2 hr _ ?_))
      · obtain ⟨x, hx⟩ := List.length_eq_one_iff.1 (by omega : (flds cs 1).length = 1)
        rw [hx, show rd [x] 0 = x from rfl]
        simp [h1]
      · constructor
        · intro h4; cases h4
        · intro h4; rw [h4.2] at h3; exact absurd rfl h3
      · constructor
        · intro h4; cases h4
        · intro h4; exact absurd h4.1 h1
  refine Evp.step (f := fun k => _) (fun k => by rw [impl_ClassesOk.j0, show (0 : Int) = ((0 : Nat) : Int) from rfl, rdSup, rdFlds]) (Evp.no (by decide) (Evp.yes (by omega) ?_))
  refine Evp.ite (fun h1 => j1 _ ?_) (fun h1 => j1 _ ?_)
  · constructor
    · intro h3
      have : (flds cs 0).length = 0 := by simpa using h3
      exact ⟨h1, List.eq_nil_of_length_eq_zero this⟩
    · intro h3; rw [h3.2]; rfl
  · constructor
    · intro h3; cases h3
    · intro h3; exact absurd h3.1 h1
end Go.Proofs.Ytchegijjjakmpaa.Kit

end
section

namespace Go.Proofs.Ytchegijjjakmpaa.Kit
open Go Go.RowKit Go.Proofs.YtchegijjjakmpaaW.PrintWords Go.Proofs.Ytchegijjjakmpaa.P
set_option linter.unusedVariables false
theorem iff_no {p : Prop} (h : ¬ p) : (false = true) ↔ p := ⟨fun h2 => (by cases h2), fun h2 => absurd h2 h⟩
theorem iff_yes {p : Prop} (h : p) : (true = true) ↔ p := ⟨fun _ => h, fun _ => rfl⟩
theorem Up.via {cs : List Cls} {a b p : Nat} (hp : sup cs a = (p : Int)) (hne : a ≠ b) : Up cs a b ↔ Up cs p b := by
  constructor
  · intro h
    rcases h.inv with rfl | ⟨q, hq, h2⟩
    · exact absurd rfl hne
    · have : p = q := by omega
      subst this
      exact h2
  · intro h; exact .step p hp h
theorem spec_up {cs : List Cls} (h : ClsOk cs) (b : Nat) : ∀ a : Nat, a < cs.length → Evp (fun k => spec_l2Up.f k cs (a : Int) (b : Int)) (fun r => r = true ↔ Up cs a b) := by
  intro a
  induction a using Nat.strongRecOn with
  | _ a ih =>
    intro ha
    unfold spec_l2Up.f at ih ⊢
    refine Evp.step (f := fun k => _) (fun k => by rw [spec_l2Up.l0, rdSup]) (Evp.ite (fun hab => ?_) (fun hab => Evp.pure _ ?_))
    · obtain ⟨p, hp, hlt⟩ := h.sup_nat (by omega : 1 ≤ a) ha
      refine Evp.yes (by omega) (Evp.yes (by omega) ?_)
      rw [hp]
      exact (ih p hlt (by omega)).mono fun r hr => hr.trans (Up.via hp (by omega)).symm
    · rw [beq_iff_eq]
      constructor
      · intro h2
        have : a = b := by omega
        subst this; exact .refl _
      · intro h2
        have := h2.le h ha
        omega
theorem impl_up {cs : List Cls} (h : ClsOk cs) (b : Nat) : ∀ a : Nat, a < cs.length → Evp (fun k => impl_classUp.f k cs (a : Int) (b : Int)) (fun r => r = true ↔ Up cs a b) := by
  intro a
  induction a using Nat.strongRecOn with
  | _ a ih =>
    intro ha
    unfold impl_classUp.f at ih ⊢
    refine Evp.step (f := fun k => _) (fun k => by rw [impl_classUp.l0, rdSup]) (Evp.yes (by omega) (Evp.ite (fun hab => Evp.pure _ ?_) (fun hab => ?_)))
    · have : a = b := by omega
      subst this
      exact iff_yes (.refl _)
    · refine Evp.yes (by omega) (Evp.yes (by omega) ?_)
      rcases Nat.eq_zero_or_pos a with h0 | h0
      · subst h0
        rw [h.root.1]
        refine Evp.step (f := fun k => _) (fun k => by rw [impl_classUp.l0]) (Evp.no (by omega) (Evp.pure _ (iff_no ?_)))
        intro h2
        have := h2.le h ha
        omega
      · obtain ⟨p, hp, hlt⟩ := h.sup_nat h0 ha
        rw [hp]
        exact (ih p hlt (by omega)).mono fun r hr => hr.trans (Up.via hp (by omega)).symm
def TyOk (n : Nat) (t : Int) : Prop := t = 0 ∨ t = 2 ∨ FieldTy n t
theorem tyOk_iff {n : Nat} {t : Int} : TyOk n t ↔ (0 ≤ t ∧ t ≤ 4) ∨ (8 ≤ t ∧ t < 8 + (n : Int)) := by
  unfold TyOk FieldTy
  omega
theorem kindOf_ty {n : Nat} {t : Int} (hn : n ≤ 1000000000) (h0 : -9223372036854775808 ≤ t) (h1 : t ≤ 9223372036854775807) :
    ∃ r, impl_kindOf.f (n : Int) t = some r ∧ (TyOk n t ∧ r = t ∨ ¬ TyOk n t ∧ r = -1) := by
  refine ⟨_, kindOf_eq hn h0 h1, ?_⟩
  rw [tyOk_iff]
  by_cases h : (0 ≤ t ∧ t ≤ 4) ∨ (8 ≤ t ∧ t < 8 + (n : Int))
  · rw [if_pos h]; exact .inl ⟨h, rfl⟩
  · rw [if_neg h]; exact .inr ⟨h, rfl⟩
theorem spec_typeOk {cs : List Cls} (hs : SmallC cs) (t : Int) : Evp (fun k => spec_TypeOk.f k cs t) (fun r => r = true ↔ ClsOk cs ∧ TyOk cs.length t) := by
  have hl0 := hs.1
  unfold spec_TypeOk.f
  refine Evp.bind (spec_classesOk hs) fun b hb => Evp.ite (fun h => ?_) (fun h => Evp.pure _ (iff_no fun h2 => h (hb.2 h2.1)))
  refine Evp.ite (fun h0 => Evp.pure _ (iff_yes ⟨hb.1 h, .inl h0⟩)) (fun h0 => Evp.ite (fun h2 => Evp.pure _ (iff_yes ⟨hb.1 h, .inr (.inl h2)⟩)) (fun h2 => ?_))
  obtain ⟨c, hc, hc2⟩ := field_eq (cs := cs) (t := t) (by omega)
  simp only [hc, Option.bind_some]
  refine Evp.pure _ (hc2.trans ⟨fun h3 => ⟨hb.1 h, .inr (.inr h3)⟩, fun h3 => ?_⟩)
  rcases h3.2 with h4 | h4 | h4
  · exact absurd h4 h0
  · exact absurd h4 h2
  · exact h4
end Go.Proofs.Ytchegijjjakmpaa.Kit

end
section

namespace Go.Proofs.Ytchegijjjakmpaa.Kit
open Go Go.RowKit Go.Proofs.YtchegijjjakmpaaW.PrintWords Go.Proofs.Ytchegijjjakmpaa.P
set_option linter.unusedVariables false
def TyIn (cs : List Cls) (a b : Int) : Prop := a = b ∨ b = 0 ∨ (a = 2 ∧ 2 ≤ b) ∨ ((a = 3 ∨ a = 4) ∧ b = 8) ∨ (8 ≤ a ∧ 8 ≤ b ∧ Up cs (a - 8).toNat (b - 8).toNat)
theorem spec_tyIn {cs : List Cls} (hs : SmallC cs) (h : ClsOk cs) {a b : Int} (ha : TyOk cs.length a) (hb : TyOk cs.length b) : Evp (fun k => spec_l2In.f k cs a b) (fun r => r = true ↔ TyIn cs a b) := by
  have hl0 := hs.1
  have ha' := tyOk_iff.1 ha
  have hb' := tyOk_iff.1 hb
  unfold spec_l2In.f
  have j0t : TyIn cs a b → Evp (fun k => spec_l2In.j0 k cs a b true) (fun r => r = true ↔ TyIn cs a b) := fun h =>
    Evp.step (f := fun k => _) (fun k => by rw [spec_l2In.j0]) (Evp.yes rfl (Evp.pure _ (iff_yes h)))
  have j1t : ¬ TyIn cs a b → Evp (fun k => spec_l2In.j1 k cs a b true) (fun r => r = true ↔ TyIn cs a b) := fun h =>
    Evp.step (f := fun k => _) (fun k => by rw [spec_l2In.j1]) (Evp.yes rfl (Evp.pure _ (iff_no h)))
  refine Evp.ite (fun h1 => j0t (.inl h1)) (fun h1 => ?_)
  by_cases h2 : b = 0
  · rw [h2, show ((0 : Int) == 0) = true from rfl, ← h2]; exact j0t (.inr (.inl h2))
  rw [show (b == 0) = false from beq_eq_false_iff_ne.2 h2]
  refine Evp.step (f := fun k => _) (fun k => by rw [spec_l2In.j0, spec_l2Ref.f, spec_l2Ref.f, Option.bind_some, Option.bind_some]) (Evp.no (by decide) (Evp.ite (fun h3 => Evp.pure _ ?_) (fun h3 => Evp.ite (fun h4 => ?_) (fun h4 => j1t ?_))))
  · rw [decide_eq_true_iff]
    unfold TyIn
    constructor
    · intro h4; exact .inr (.inr (.inl ⟨h3, by omega⟩))
    · intro h4; omega
  · rw [decide_eq_true_iff] at h4
    by_cases h5 : b < 8
    · rw [decide_eq_true h5]
      refine j1t ?_
      unfold TyIn
      omega
    · rw [decide_eq_false h5]
      refine Evp.step (f := fun k => _) (fun k => by rw [spec_l2In.j1]) (Evp.no (by decide) (Evp.ite (fun h6 => Evp.pure _ ?_) (fun h6 => ?_)))
      · rw [beq_iff_eq]
        unfold TyIn
        constructor
        · intro h7; exact .inr (.inr (.inr (.inl ⟨by omega, h7⟩)))
        · intro h7; omega
      · rw [w64 (n := a - 8) (by omega) (by omega), w64 (n := b - 8) (by omega) (by omega), show a - 8 = (((a - 8).toNat : Nat) : Int) by omega, show b - 8 = (((b - 8).toNat : Nat) : Int) by omega]
        refine Evp.bind (spec_up h _ _ (by omega)) fun c hc => Evp.pure _ (hc.trans ?_)
        unfold TyIn
        constructor
        · intro h7; exact .inr (.inr (.inr (.inr ⟨by omega, by omega, by simpa using h7⟩)))
        · intro h7
          rcases h7 with h7 | h7 | h7 | h7 | h7
          · omega
          · omega
          · omega
          · omega
          · simpa using h7.2.2
  · rw [decide_eq_true_iff] at h4
    unfold TyIn
    omega
theorem impl_kdIn {cs : List Cls} (hs : SmallC cs) (h : ClsOk cs) {a b : Int} (ha : TyOk cs.length a) (hb : TyOk cs.length b) : Evp (fun k => impl_kindIn.f k cs a b) (fun r => r = true ↔ TyIn cs a b) := by
  have hl0 := hs.1
  have ha' := tyOk_iff.1 ha
  have hb' := tyOk_iff.1 hb
  unfold impl_kindIn.f
  refine Evp.yes ⟨by unfold KindOk; omega, by unfold KindOk; omega⟩ ?_
  refine Evp.ite (fun h1 => Evp.pure _ (iff_yes (.inl h1))) (fun h1 => Evp.ite (fun h2 => Evp.pure _ (iff_yes (.inr (.inl h2)))) (fun h2 => Evp.ite (fun h3 => Evp.pure _ ?_) (fun h3 => Evp.ite (fun h4 => Evp.pure _ ?_) (fun h4 => Evp.ite (fun h5 => Evp.ite (fun h6 => ?_) (fun h6 => Evp.pure _ (iff_no ?_))) (fun h5 => Evp.pure _ (iff_no ?_))))))
  · rw [bne_iff_ne]
    unfold TyIn
    constructor
    · intro h4; exact .inr (.inr (.inl ⟨h3, by omega⟩))
    · intro h4; omega
  · rw [beq_iff_eq]
    unfold TyIn
    constructor
    · intro h7; exact .inr (.inr (.inr (.inl ⟨h4, h7⟩)))
    · intro h7; omega
  · rw [show a - 8 = (((a - 8).toNat : Nat) : Int) by omega, show b - 8 = (((b - 8).toNat : Nat) : Int) by omega]
    refine (impl_up h _ _ (by omega)).mono fun c hc => hc.trans ?_
    unfold TyIn
    constructor
    · intro h7; exact .inr (.inr (.inr (.inr ⟨by omega, by omega, by simpa using h7⟩)))
    · intro h7
      rcases h7 with h7 | h7 | h7 | h7 | h7
      · omega
      · omega
      · omega
      · omega
      · simpa using h7.2.2
  · unfold TyIn
    omega
  · unfold TyIn
    omega
theorem impl_tyIn {cs : List Cls} (hs : SmallC cs) (h : ClsOk cs) {a b : Int} (ha0 : -9223372036854775808 ≤ a) (ha1 : a ≤ 9223372036854775807) (hb0 : -9223372036854775808 ≤ b) (hb1 : b ≤ 9223372036854775807) :
    Evp (fun k => impl_typeIn.f k cs a b) (fun r => r = true ↔ TyOk cs.length a ∧ TyOk cs.length b ∧ TyIn cs a b) := by
  have hl0 := hs.1
  unfold impl_typeIn.f
  obtain ⟨r, hr, hr2⟩ := kindOf_ty (n := cs.length) (by omega) ha0 ha1
  obtain ⟨q, hq, hq2⟩ := kindOf_ty (n := cs.length) (by omega) hb0 hb1
  simp only [hr, hq, Option.bind_some]
  rcases hr2 with ⟨h1, rfl⟩ | ⟨h1, rfl⟩
  · refine Evp.no (by have := tyOk_iff.1 h1; omega) ?_
    rcases hq2 with ⟨h2, rfl⟩ | ⟨h2, rfl⟩
    · refine Evp.no (by have := tyOk_iff.1 h2; omega) ?_
      refine Evp.bind (impl_kdIn hs h h1 h2) fun c hc => Evp.pure _ (hc.trans ⟨fun h3 => ⟨h1, h2, h3⟩, fun h3 => h3.2.2⟩)
    · exact Evp.yes rfl (Evp.pure _ (iff_no fun h3 => h2 h3.2.1))
  · exact Evp.yes rfl (Evp.pure _ (iff_no fun h3 => h1 h3.1))
end Go.Proofs.Ytchegijjjakmpaa.Kit

end
section

namespace Go.Proofs.Ytchegijjjakmpaa.Kit
open Go Go.RowKit Go.Proofs.YtchegijjjakmpaaW.PrintWords Go.Proofs.Ytchegijjjakmpaa.P
end Go.Proofs.Ytchegijjjakmpaa.Kit

end
section

namespace Go.Proofs.Ytchegijjjakmpaa.Kit
open Go Go.RowKit Go.Proofs.YtchegijjjakmpaaW.PrintWords Go.Proofs.Ytchegijjjakmpaa.P
set_option linter.unusedVariables false
end Go.Proofs.Ytchegijjjakmpaa.Kit

end
section

namespace Go.Proofs.Ytchegijjjakmpaa.Kit
open Go Go.RowKit Go.Proofs.YtchegijjjakmpaaW.PrintWords Go.Proofs.Ytchegijjjakmpaa.P
set_option linter.unusedVariables false
theorem type_evp {bs : List Int} (h : Bytes bs) {p n : Int} (h0 : 0 ≤ p) (h1 : p ≤ 50000000) (hn : 1 ≤ n) (hn2 : n ≤ 100) :
    Evp (fun k => spec_l71Type.f k bs p n) (fun r => (-1 ≤ r.1 ∧ r.1 ≤ 8 + n) ∧ p ≤ r.2 ∧ r.2 ≤ p + 4) := by
  unfold spec_l71Type.f
  have fld : ∀ q : Int, p ≤ q → q ≤ p + 2 → Evp (fun k => (spec_l71Field.f k bs q n).bind fun bt => some (bt.1, bt.2)) (fun r => (-1 ≤ r.1 ∧ r.1 ≤ 8 + n) ∧ p ≤ r.2 ∧ r.2 ≤ p + 4) := by
    intro q hq hq2
    refine Evp.bind (field_evp h (by omega) (by omega) hn hn2) fun a ha => Evp.pure _ ⟨⟨?_, ?_⟩, ?_, ?_⟩ <;> dsimp only <;> omega
  refine Evp.bind (pick_evp h h0 (by omega) (by omega)) fun a ha => ?_
  have ha2 := ha.2.2
  refine Evp.ite (fun _ => Evp.pure _ ⟨⟨by dsimp only; omega, by dsimp only; omega⟩, by dsimp only; omega, by dsimp only; omega⟩) (fun _ => ?_)
  refine Evp.ite (fun _ => Evp.pure _ ⟨⟨by dsimp only; omega, by dsimp only; omega⟩, by dsimp only; omega, by dsimp only; omega⟩) (fun _ => ?_)
  refine Evp.ite (fun _ => ?_) (fun _ => fld _ (by omega) (by omega))
  refine Evp.bind (pick_evp h (by omega) (by omega) (by omega)) fun b hb => ?_
  have hb2 := hb.2.2
  refine Evp.ite (fun _ => ?_) (fun _ => fld _ (by omega) (by omega))
  simp only [Option.bind_some]
  refine Evp.bind (pick_evp h (by omega) (by omega) (by omega)) fun c hc => ?_
  have hc1 := hc.2.1 (by omega)
  refine Evp.yes hc.1 (Evp.yes (by simp; omega) (Evp.pure _ ⟨?_, by dsimp only; omega, by dsimp only; omega⟩))
  have : c.1 = 0 ∨ c.1 = 1 ∨ c.1 = 2 ∨ c.1 = 3 := by omega
  rw [w64 (by omega) (by omega)]
  show -1 ≤ rd [-1, 5, 7, 8 + n] c.1 ∧ rd [-1, 5, 7, 8 + n] c.1 ≤ 8 + n
  rcases this with e | e | e | e <;> rw [e]
  · show (-1 : Int) ≤ -1 ∧ (-1 : Int) ≤ 8 + n; omega
  · show (-1 : Int) ≤ 5 ∧ (5 : Int) ≤ 8 + n; omega
  · show (-1 : Int) ≤ 7 ∧ (7 : Int) ≤ 8 + n; omega
  · show (-1 : Int) ≤ 8 + n ∧ (8 : Int) + n ≤ 8 + n; omega
end Go.Proofs.Ytchegijjjakmpaa.Kit

end
section

namespace Go.Proofs.Ytchegijjjakmpaa.Kit
open Go Go.RowKit Go.Proofs.YtchegijjjakmpaaW.PrintWords Go.Proofs.Ytchegijjjakmpaa.P
set_option linter.unusedVariables false
theorem all_step {Q : Nat → Prop} {Z : Prop} {i n : Nat} {r : Bool} (hq : Q i) (hr : r = true ↔ (∀ j, i + 1 ≤ j → j < n → Q j) ∧ Z) : r = true ↔ (∀ j, i ≤ j → j < n → Q j) ∧ Z := by
  rw [hr]
  constructor
  · intro ⟨h2, hz⟩
    refine ⟨fun c h3 h4 => ?_, hz⟩
    rcases Nat.lt_or_ge i c with h5 | h5
    · exact h2 c h5 h4
    · have : c = i := by omega
      subst this
      exact hq
  · intro ⟨h2, hz⟩; exact ⟨fun c h3 h4 => h2 c (by omega) h4, hz⟩
theorem all_stop {Q : Nat → Prop} {Z : Prop} {i n : Nat} (hi : i < n) (hq : ¬ Q i) : (false = true) ↔ (∀ j, i ≤ j → j < n → Q j) ∧ Z := iff_no fun h => hq (h.1 i (Nat.le_refl _) hi)
theorem all_end {Q : Nat → Prop} {Z : Prop} {n : Nat} {r : Bool} (h : r = true ↔ Z) : r = true ↔ (∀ j, n ≤ j → j < n → Q j) ∧ Z := h.trans ⟨fun hz => ⟨fun j h1 h2 => absurd h2 (by omega), hz⟩, fun h => h.2⟩
theorem all_mem {α : Type} {xs : List α} {d : α} {Q : α → Prop} : (∀ j, 0 ≤ j → j < xs.length → Q (xs.getD j d)) ↔ ∀ x ∈ xs, Q x := by
  constructor
  · intro h x hx
    obtain ⟨i, hi, rfl⟩ := List.mem_iff_getElem.1 hx
    have := h i (Nat.zero_le _) hi
    rwa [getD_at hi] at this
  · intro h j _ hj
    rw [getD_at hj]
    exact h _ (List.getElem_mem hj)
def I64 (l : List Int) : Prop := ∀ t ∈ l, -9223372036854775808 ≤ t ∧ t ≤ 9223372036854775807
theorem I64.at {l : List Int} (h : I64 l) {i : Nat} (hi : i < l.length) : -9223372036854775808 ≤ l.getD i 0 ∧ l.getD i 0 ≤ 9223372036854775807 := by
  rw [getD_at hi]; exact h _ (List.getElem_mem hi)
theorem rdN {xs : List Int} (i : Nat) : rd xs (i : Int) = xs.getD i 0 := rfl
def ShOk (cs : List Cls) (n : Int) (b : Bool) (l m : List Int) : Prop :=
  (b = true ∧ (l.length : Int) = n ∧ m.length ≤ 4 ∧ (∀ t ∈ l, TyOk cs.length t) ∧ (∀ t ∈ m, TyOk cs.length t ∧ t ≠ 0)) ∨ (b = false ∧ l.length = 0 ∧ m.length = 0)
theorem spec_shapeOk {cs : List Cls} (hs : SmallC cs) (n : Int) (b : Bool) {l m : List Int} (hl : l.length ≤ 1048576) (hm : m.length ≤ 1048576) :
    Evp (fun k => spec_ShapeOk.f k cs n b l m) (fun r => r = true ↔ ClsOk cs ∧ ShOk cs n b l m) := by
  unfold spec_ShapeOk.f
  refine Evp.bind (spec_classesOk hs) fun c hc => Evp.ite (fun h => ?_) (fun h => Evp.pure _ (iff_no fun h2 => h (hc.2 h2.1)))
  have hok := hc.1 h
  refine Evp.ite (fun hb => ?_) (fun hb => Evp.ite (fun h1 => Evp.pure _ ?_) (fun h1 => Evp.pure _ (iff_no ?_)))
  · have jt : ¬ ShOk cs n b l m → Evp (fun k => spec_ShapeOk.j0 k cs true b l m) (fun r => r = true ↔ ClsOk cs ∧ ShOk cs n b l m) := fun h =>
      Evp.step (f := fun k => _) (fun k => by rw [spec_ShapeOk.j0]) (Evp.yes rfl (Evp.pure _ (iff_no fun h2 => h h2.2)))
    refine Evp.ite (fun h1 => ?_) (fun h1 => jt ?_)
    · by_cases h4 : m.length ≤ 4
      · rw [decide_eq_false (by omega)]
        refine Evp.step (f := fun k => _) (fun k => by rw [spec_ShapeOk.j0]) (Evp.no (by decide) ?_)
        have k1 : ∀ i, i ≤ m.length → Evp (fun k => spec_ShapeOk.l1 k cs (i : Int) b l m) (fun r => r = true ↔ (∀ j, i ≤ j → j < m.length → TyOk cs.length (m.getD j 0) ∧ m.getD j 0 ≠ 0) ∧ True) := by
          refine Evp.for_ ?_ (fun i hi ih => ?_)
          · refine Evp.step (f := fun k => _) (fun k => by rw [spec_ShapeOk.l1]) (Evp.no (by omega) (Evp.pure _ (all_end (iff_yes trivial))))
          · refine Evp.step (f := fun k => _) (fun k => by rw [spec_ShapeOk.l1, rdN]) (Evp.yes (by omega) (Evp.yes (by omega) ?_))
            refine Evp.bind (spec_typeOk hs _) fun d hd => Evp.ite (fun h5 => Evp.ite (fun h6 => Evp.pure _ (all_stop hi fun h7 => h7.2 h6)) (fun h6 => ?_)) (fun h5 => Evp.pure _ (all_stop hi fun h7 => h5 (hd.2 ⟨hok, h7.1⟩)))
            rw [w64' hi (by omega)]
            exact ih.mono fun r hr => all_step (Q := fun j => TyOk cs.length (m.getD j 0) ∧ m.getD j 0 ≠ 0) ⟨(hd.1 h5).2, h6⟩ hr
        have k0 : ∀ i, i ≤ l.length → Evp (fun k => spec_ShapeOk.l0 k cs (i : Int) b l m) (fun r => r = true ↔ (∀ j, i ≤ j → j < l.length → TyOk cs.length (l.getD j 0)) ∧ ((∀ j, 0 ≤ j → j < m.length → TyOk cs.length (m.getD j 0) ∧ m.getD j 0 ≠ 0) ∧ True)) := by
          refine Evp.for_ ?_ (fun i hi ih => ?_)
          · refine Evp.step (f := fun k => _) (fun k => by rw [spec_ShapeOk.l0]) (Evp.no (by omega) ?_)
            exact (k1 0 (Nat.zero_le _)).mono fun r hr => all_end hr
          · refine Evp.step (f := fun k => _) (fun k => by rw [spec_ShapeOk.l0, rdN]) (Evp.yes (by omega) (Evp.yes (by omega) ?_))
            refine Evp.bind (spec_typeOk hs _) fun d hd => Evp.ite (fun h5 => ?_) (fun h5 => Evp.pure _ (all_stop hi fun h7 => h5 (hd.2 ⟨hok, h7⟩)))
            rw [w64' hi (by omega)]
            exact ih.mono fun r hr => all_step (Q := fun j => TyOk cs.length (l.getD j 0)) (hd.1 h5).2 hr
        refine (k0 0 (Nat.zero_le _)).mono fun r hr => hr.trans ?_
        rw [all_mem (Q := fun t => TyOk cs.length t), all_mem (Q := fun t => TyOk cs.length t ∧ t ≠ 0)]
        unfold ShOk
        rw [hb]
        constructor
        · intro h5; exact ⟨hok, .inl ⟨rfl, h1, h4, h5.1, h5.2.1⟩⟩
        · intro h5
          rcases h5.2 with h6 | h6
          · exact ⟨h6.2.2.2.1, h6.2.2.2.2, trivial⟩
          · cases h6.1
      · rw [decide_eq_true (by omega)]
        refine jt ?_
        unfold ShOk
        rw [hb]
        intro h5
        rcases h5 with h5 | h5
        · exact h4 h5.2.2.1
        · cases h5.1
    · unfold ShOk
      rw [hb]
      intro h5
      rcases h5 with h5 | h5
      · exact h1 h5.2.1
      · cases h5.1
  · have hb' : b = false := by simpa using hb
    rw [beq_iff_eq]
    unfold ShOk
    rw [hb']
    constructor
    · intro h2; exact ⟨hok, .inr ⟨rfl, by omega, by omega⟩⟩
    · intro h2
      rcases h2.2 with h3 | h3
      · cases h3.1
      · omega
  · have hb' : b = false := by simpa using hb
    unfold ShOk
    rw [hb']
    intro h2
    rcases h2.2 with h3 | h3
    · cases h3.1
    · omega
theorem impl_shapeOk' {cs : List Cls} (hs : SmallC cs) (n : Int) (b : Bool) {l m : List Int} (hl : l.length ≤ 1048576) (hm : m.length ≤ 1048576) (il : I64 l) (im : I64 m) :
    Evp (fun k => impl_shapeOk.f k cs n b l m) (fun r => r = true ↔ ShOk cs n b l m) := by
  have hl0 := hs.1
  unfold impl_shapeOk.f
  refine Evp.ite (fun hb => ?_) (fun hb => Evp.ite (fun h1 => Evp.pure _ ?_) (fun h1 => Evp.pure _ (iff_no ?_)))
  · have jt : ¬ ShOk cs n b l m → Evp (fun k => impl_shapeOk.j0 k cs true b l m) (fun r => r = true ↔ ShOk cs n b l m) := fun h =>
      Evp.step (f := fun k => _) (fun k => by rw [impl_shapeOk.j0]) (Evp.yes rfl (Evp.pure _ (iff_no h)))
    refine Evp.ite (fun h1 => ?_) (fun h1 => jt ?_)
    · by_cases h4 : m.length ≤ 4
      · rw [decide_eq_false (by omega)]
        refine Evp.step (f := fun k => _) (fun k => by rw [impl_shapeOk.j0]) (Evp.no (by decide) ?_)
        have k1 : ∀ i, i ≤ m.length → Evp (fun k => impl_shapeOk.l1 k cs m (m.length : Int) (i : Int)) (fun r => r = true ↔ (∀ j, i ≤ j → j < m.length → TyOk cs.length (m.getD j 0) ∧ m.getD j 0 ≠ 0) ∧ True) := by
          refine Evp.for_ ?_ (fun i hi ih => ?_)
          · refine Evp.step (f := fun k => _) (fun k => by rw [impl_shapeOk.l1]) (Evp.no (by omega) (Evp.pure _ (all_end (iff_yes trivial))))
          · obtain ⟨q, hq, hq2⟩ := kindOf_ty (n := cs.length) (t := m.getD i 0) (by omega) (im.at hi).1 (im.at hi).2
            refine Evp.step (f := fun k => _) (fun k => by rw [impl_shapeOk.l1, rdN, hq, Option.bind_some]) (Evp.yes (by omega) (Evp.yes (by omega) (Evp.yes (by omega) ?_)))
            refine Evp.ite (fun h6 => Evp.pure _ (all_stop hi fun h7 => h7.2 h6)) (fun h6 => ?_)
            rcases hq2 with ⟨h7, rfl⟩ | ⟨h7, rfl⟩
            · refine Evp.no (by have := tyOk_iff.1 h7; omega) ?_
              rw [w64' hi (by omega)]
              exact ih.mono fun r hr => all_step (Q := fun j => TyOk cs.length (m.getD j 0) ∧ m.getD j 0 ≠ 0) ⟨h7, h6⟩ hr
            · exact Evp.yes rfl (Evp.pure _ (all_stop hi fun h8 => h7 h8.1))
        have k0 : ∀ i, i ≤ l.length → Evp (fun k => impl_shapeOk.l0 k cs l (l.length : Int) (i : Int) b l m) (fun r => r = true ↔ (∀ j, i ≤ j → j < l.length → TyOk cs.length (l.getD j 0)) ∧ ((∀ j, 0 ≤ j → j < m.length → TyOk cs.length (m.getD j 0) ∧ m.getD j 0 ≠ 0) ∧ True)) := by
          refine Evp.for_ ?_ (fun i hi ih => ?_)
          · refine Evp.step (f := fun k => _) (fun k => by rw [impl_shapeOk.l0]) (Evp.no (by omega) ?_)
            exact (k1 0 (Nat.zero_le _)).mono fun r hr => all_end hr
          · obtain ⟨q, hq, hq2⟩ := kindOf_ty (n := cs.length) (t := l.getD i 0) (by omega) (il.at hi).1 (il.at hi).2
            refine Evp.step (f := fun k => _) (fun k => by rw [impl_shapeOk.l0, rdN, hq, Option.bind_some]) (Evp.yes (by omega) (Evp.yes (by omega) (Evp.yes (by omega) ?_)))
            rcases hq2 with ⟨h7, rfl⟩ | ⟨h7, rfl⟩
            · refine Evp.no (by have := tyOk_iff.1 h7; omega) ?_
              rw [w64' hi (by omega)]
              exact ih.mono fun r hr => all_step (Q := fun j => TyOk cs.length (l.getD j 0)) h7 hr
            · exact Evp.yes rfl (Evp.pure _ (all_stop hi h7))
        refine (k0 0 (Nat.zero_le _)).mono fun r hr => hr.trans ?_
        rw [all_mem (Q := fun t => TyOk cs.length t), all_mem (Q := fun t => TyOk cs.length t ∧ t ≠ 0)]
        unfold ShOk
        rw [hb]
        constructor
        · intro h5; exact .inl ⟨rfl, h1, h4, h5.1, h5.2.1⟩
        · intro h5
          rcases h5 with h6 | h6
          · exact ⟨h6.2.2.2.1, h6.2.2.2.2, trivial⟩
          · cases h6.1
      · rw [decide_eq_true (by omega)]
        refine jt ?_
        unfold ShOk
        rw [hb]
        intro h5
        rcases h5 with h5 | h5
        · exact h4 h5.2.2.1
        · cases h5.1
    · unfold ShOk
      rw [hb]
      intro h5
      rcases h5 with h5 | h5
      · exact h1 h5.2.1
      · cases h5.1
  · have hb' : b = false := by simpa using hb
    rw [beq_iff_eq]
    unfold ShOk
    rw [hb']
    constructor
    · intro h2; exact .inr ⟨rfl, by omega, by omega⟩
    · intro h2
      rcases h2 with h3 | h3
      · cases h3.1
      · omega
  · have hb' : b = false := by simpa using hb
    unfold ShOk
    rw [hb']
    intro h2
    rcases h2 with h3 | h3
    · cases h3.1
    · omega
end Go.Proofs.Ytchegijjjakmpaa.Kit

end
section

namespace Go.Proofs.Ytchegijjjakmpaa.Kit
open Go Go.RowKit Go.Proofs.YtchegijjjakmpaaW.PrintWords Go.Proofs.Ytchegijjjakmpaa.P
set_option linter.unusedVariables false
end Go.Proofs.Ytchegijjjakmpaa.Kit

end
section

namespace Go.Proofs.Ytchegijjjakmpaa.Kit
open Go Go.RowKit Go.Proofs.YtchegijjjakmpaaW.PrintWords Go.Proofs.Ytchegijjjakmpaa.P
set_option linter.unusedVariables false
def Short (l : List Int) : Prop := l.length ≤ 20 ∧ Few l
theorem Short.i64 {l : List Int} (h : Short l) : I64 l := fun t ht => by have := h.2 t ht; omega
theorem Short.len {l : List Int} (h : Short l) : l.length ≤ 1048576 := Nat.le_trans h.1 (by decide)
theorem Few.app {l m : List Int} (h : Few l) (h' : Few m) : Few (l ++ m) := by
  intro t ht
  rcases List.mem_append.1 ht with h1 | h1
  · exact h t h1
  · exact h' t h1
theorem shape_evp {bs : List Int} (h : Bytes bs) {p n : Int} {m : Nat} (h0 : 0 ≤ p) (h1 : p ≤ 10000000) (hn : 1 ≤ n) (hn2 : n ≤ 100) (hm : m ≤ 10) :
    Evp (fun k => spec_l72Shape.f k bs p n (m : Int)) (fun r => Short r.2.1 ∧ Short r.2.2.1 ∧ p ≤ r.2.2.2 ∧ r.2.2.2 ≤ p + 100) := by
  unfold spec_l72Shape.f
  have one : Few [1] := Few.nil.snoc (t := 1) (by decide) (by decide)
  have k1 : ∀ j : Nat, ∀ (b : Bool) (s t : List Int) (q : Int), j ≤ 10 → s.length ≤ 10 → Few s → t.length + j ≤ 10 → Few t → p ≤ q → q + 5 * (j : Int) ≤ p + 99 → Evp (fun k => spec_l72Shape.l1 k n (j : Int) bs q b s t) (fun r => Short r.2.1 ∧ Short r.2.2.1 ∧ p ≤ r.2.2.2 ∧ r.2.2.2 ≤ p + 100) := by
    intro j
    induction j with
    | zero =>
      intro b s t q hj hs fs ht ft hq hq2
      refine Evp.step (f := fun k => _) (fun k => by rw [spec_l72Shape.l1]) (Evp.no (by omega) ?_)
      refine Evp.bind (pick_evp h (by omega) (by omega) (by omega)) fun a ha => ?_
      have ha2 := ha.2.2
      have hS : Short s := ⟨by omega, fs⟩
      have hT : Short t := ⟨by omega, ft⟩
      refine Evp.ite (fun _ => ?_) (fun _ => Evp.ite (fun _ => Evp.pure _ ⟨hS, hT, by dsimp only; omega, by dsimp only; omega⟩) (fun _ => Evp.ite (fun _ => ?_) (fun _ => Evp.ite (fun _ => ?_) (fun _ => Evp.pure _ ⟨hS, hT, by dsimp only; omega, by dsimp only; omega⟩))))
      · unfold spec_l11None.f
        simp only [Option.bind_some]
        exact Evp.pure _ ⟨⟨Nat.zero_le _, Few.nil⟩, ⟨Nat.zero_le _, Few.nil⟩, by dsimp only; omega, by dsimp only; omega⟩
      · exact Evp.yes (by omega) (Evp.pure _ ⟨⟨by simp; omega, fs.app one⟩, hT, by dsimp only; omega, by dsimp only; omega⟩)
      · simp only [Option.bind_some]
        refine Evp.yes (by simp; omega) (Evp.pure _ ⟨hS, ⟨by simp; omega, ft.app ?_⟩, by dsimp only; omega, by dsimp only; omega⟩)
        exact (((one.snoc (t := 1) (by decide) (by decide)).snoc (t := 1) (by decide) (by decide)).snoc (t := 1) (by decide) (by decide))
    | succ j ih =>
      intro b s t q hj hs fs ht ft hq hq2
      refine Evp.step (f := fun k => _) (fun k => by rw [spec_l72Shape.l1]) (Evp.yes (by omega) ?_)
      rw [show wrap64 (((j + 1 : Nat) : Int) - 1) = (j : Int) by rw [w64 (by omega) (by omega)]; omega]
      refine Evp.bind (type_evp h (by omega) (by omega) hn hn2) fun a ha => ?_
      refine Evp.ite (fun _ => ?_) (fun _ => ?_)
      · refine Evp.bind (pick_evp h (by omega) (by omega) (by omega)) fun c hc => ?_
        have hc2 := hc.2.2
        refine Evp.ite (fun _ => ?_) (fun _ => ?_)
        · exact Evp.yes (by omega) (ih b s (t ++ [1]) c.2 (by omega) hs fs (by simp; omega) (ft.app one) (by omega) (by omega))
        · exact Evp.yes (by omega) (ih b s (t ++ [a.1]) c.2 (by omega) hs fs (by simp; omega) (ft.snoc (by omega) (by omega)) (by omega) (by omega))
      · exact Evp.yes (by omega) (ih b s (t ++ [a.1]) a.2 (by omega) hs fs (by simp; omega) (ft.snoc (by omega) (by omega)) (by omega) (by omega))
  have k0 : ∀ d i : Nat, i + d = m → ∀ (b : Bool) (s : List Int) (q : Int), s.length = i → Few s → p ≤ q → q + 5 * (d : Int) ≤ p + 50 → Evp (fun k => spec_l72Shape.l0 k n (m : Int) (i : Int) bs q b s) (fun r => Short r.2.1 ∧ Short r.2.2.1 ∧ p ≤ r.2.2.2 ∧ r.2.2.2 ≤ p + 100) := by
    intro d
    induction d with
    | zero =>
      intro i hi b s q hs fs hq hq2
      refine Evp.step (f := fun k => _) (fun k => by rw [spec_l72Shape.l0]) (Evp.no (by omega) ?_)
      refine Evp.bind (pick_evp h (by omega) (by omega) (by omega)) fun a ha => ?_
      obtain ⟨j, hj⟩ : ∃ j : Nat, a.1 = (j : Int) := ⟨a.1.toNat, by have := ha.1; omega⟩
      have ha1 := ha.2.1 (by omega)
      rw [hj]
      exact k1 j b s [] a.2 (by omega) (by omega) fs (by simp; omega) Few.nil (by omega) (by omega)
    | succ d ih =>
      intro i hi b s q hs fs hq hq2
      refine Evp.step (f := fun k => _) (fun k => by rw [spec_l72Shape.l0]) (Evp.yes (by omega) ?_)
      refine Evp.bind (type_evp h (by omega) (by omega) hn hn2) fun a ha => Evp.yes (by omega) ?_
      rw [w64' (n := m) (by omega) (by omega)]
      exact ih (i + 1) (by omega) b (s ++ [a.1]) a.2 (by simp; omega) (fs.snoc (by omega) (by omega)) (by omega) (by omega)
  exact k0 m 0 (by omega) true [] p rfl Few.nil (by omega) (by omega)
end Go.Proofs.Ytchegijjjakmpaa.Kit

end
section

namespace Go.Proofs.Ytchegijjjakmpaa.Kit
open Go Go.RowKit Go.Proofs.YtchegijjjakmpaaW.PrintWords Go.Proofs.Ytchegijjjakmpaa.P
set_option linter.unusedVariables false
def Fits (cs : List Cls) (a : Bool) (l m : List Int) (b : Bool) (l' m' : List Int) : Prop :=
  a = true ∧ b = true ∧ ShOk cs (l.length : Int) a l m ∧ ShOk cs (l.length : Int) b l' m' ∧ m.length = m'.length
def PtIn (cs : List Cls) (l l' : List Int) : Prop := ∀ j, 0 ≤ j → j < l.length → TyIn cs (l.getD j 0) (l'.getD j 0)
def ShIn (cs : List Cls) (a : Bool) (l m : List Int) (b : Bool) (l' m' : List Int) : Prop := Fits cs a l m b l' m' ∧ PtIn cs l l' ∧ PtIn cs m m'
theorem shOk_true {cs : List Cls} {n : Int} {b : Bool} {l m : List Int} (h : ShOk cs n b l m) (hb : b = true) : (l.length : Int) = n ∧ m.length ≤ 4 ∧ (∀ t ∈ l, TyOk cs.length t) ∧ (∀ t ∈ m, TyOk cs.length t ∧ t ≠ 0) := by
  rcases h with h | h
  · exact h.2
  · rw [h.1] at hb; cases hb
theorem ty_at {cs : List Cls} {l : List Int} (h : ∀ t ∈ l, TyOk cs.length t) {i : Nat} (hi : i < l.length) : TyOk cs.length (l.getD i 0) := by
  rw [getD_at hi]; exact h _ (List.getElem_mem hi)
theorem spec_fits {cs : List Cls} (hs : SmallC cs) {a b : Bool} {l m l' m' : List Int} (hl : l.length ≤ 1048576) (hm : m.length ≤ 1048576) (hl' : l'.length ≤ 1048576) (hm' : m'.length ≤ 1048576) :
    Evp (fun k => spec_l11Fits.f k cs a l m b l' m') (fun r => r = true ↔ ClsOk cs ∧ Fits cs a l m b l' m') := by
  unfold spec_l11Fits.f Fits
  refine Evp.ite (fun h1 => Evp.ite (fun h2 => ?_) (fun h2 => Evp.pure _ (iff_no fun h => h2 h.2.2.1))) (fun h1 => Evp.pure _ (iff_no fun h => h1 h.2.1))
  refine Evp.bind (spec_shapeOk hs _ a hl hm) fun c hc => Evp.ite (fun h3 => ?_) (fun h3 => Evp.pure _ (iff_no fun h => h3 (hc.2 ⟨h.1, h.2.2.2.1⟩)))
  refine Evp.bind (spec_shapeOk hs _ b hl' hm') fun d hd => Evp.ite (fun h4 => Evp.pure _ ?_) (fun h4 => Evp.pure _ (iff_no fun h => h4 (hd.2 ⟨h.1, h.2.2.2.2.1⟩)))
  obtain ⟨h5, h6⟩ := hc.1 h3
  have h7 := (hd.1 h4).2
  rw [beq_iff_eq]
  constructor
  · intro h8; exact ⟨h5, h1, h2, h6, h7, by omega⟩
  · intro h8; have := h8.2.2.2.2.2; omega
theorem spec_shIn {cs : List Cls} (hs : SmallC cs) (hok : ClsOk cs) {a b : Bool} {l m l' m' : List Int} (hl : l.length ≤ 1048576) (hm : m.length ≤ 1048576) (hf : Fits cs a l m b l' m') :
    Evp (fun k => spec_l11In.f k cs a l m b l' m') (fun r => r = true ↔ PtIn cs l l' ∧ (PtIn cs m m' ∧ True)) := by
  obtain ⟨ha, hb, h1, h2, h3⟩ := hf
  obtain ⟨e1, e2, e3, e4⟩ := shOk_true h1 ha
  obtain ⟨g1, g2, g3, g4⟩ := shOk_true h2 hb
  unfold spec_l11In.f
  refine Evp.yes (by omega) ?_
  have k1 : ∀ i, i ≤ m.length → Evp (fun k => spec_l11In.l1 k cs (i : Int) a l m b l' m') (fun r => r = true ↔ (∀ j, i ≤ j → j < m.length → TyIn cs (m.getD j 0) (m'.getD j 0)) ∧ True) := by
    refine Evp.for_ ?_ (fun i hi ih => ?_)
    · refine Evp.step (f := fun k => _) (fun k => by rw [spec_l11In.l1]) (Evp.no (by omega) (Evp.pure _ (all_end (iff_yes trivial))))
    · refine Evp.step (f := fun k => _) (fun k => by rw [spec_l11In.l1, rdN, rdN]) (Evp.yes (by omega) (Evp.yes (by omega) (Evp.yes (by omega) ?_)))
      refine Evp.bind (spec_tyIn hs hok (ty_at (fun t ht => (e4 t ht).1) hi) (ty_at (fun t ht => (g4 t ht).1) (by omega))) fun d hd => Evp.ite (fun h5 => ?_) (fun h5 => Evp.pure _ (all_stop hi fun h7 => h5 (hd.2 h7)))
      rw [w64' hi (by omega)]
      exact ih.mono fun r hr => all_step (Q := fun j => TyIn cs (m.getD j 0) (m'.getD j 0)) (hd.1 h5) hr
  have k0 : ∀ i, i ≤ l.length → Evp (fun k => spec_l11In.l0 k cs (i : Int) a l m b l' m') (fun r => r = true ↔ (∀ j, i ≤ j → j < l.length → TyIn cs (l.getD j 0) (l'.getD j 0)) ∧ (PtIn cs m m' ∧ True)) := by
    refine Evp.for_ ?_ (fun i hi ih => ?_)
    · refine Evp.step (f := fun k => _) (fun k => by rw [spec_l11In.l0]) (Evp.no (by omega) ?_)
      exact (k1 0 (Nat.zero_le _)).mono fun r hr => all_end hr
    · refine Evp.step (f := fun k => _) (fun k => by rw [spec_l11In.l0, rdN, rdN]) (Evp.yes (by omega) (Evp.yes (by omega) (Evp.yes (by omega) ?_)))
      refine Evp.bind (spec_tyIn hs hok (ty_at e3 hi) (ty_at g3 (by omega))) fun d hd => Evp.ite (fun h5 => ?_) (fun h5 => Evp.pure _ (all_stop hi fun h7 => h5 (hd.2 h7)))
      rw [w64' hi (by omega)]
      exact ih.mono fun r hr => all_step (Q := fun j => TyIn cs (l.getD j 0) (l'.getD j 0)) (hd.1 h5) hr
  exact k0 0 (Nat.zero_le _)
theorem spec_ShapeIn' {cs : List Cls} (hs : SmallC cs) {a b : Bool} {l m l' m' : List Int} (hl : l.length ≤ 1048576) (hm : m.length ≤ 1048576) (hl' : l'.length ≤ 1048576) (hm' : m'.length ≤ 1048576) :
    Evp (fun k => spec_ShapeIn.f k cs a l m b l' m') (fun r => r = true ↔ ClsOk cs ∧ ShIn cs a l m b l' m') := by
  unfold spec_ShapeIn.f ShIn
  refine Evp.bind (spec_fits hs hl hm hl' hm') fun c hc => Evp.ite (fun h => ?_) (fun h => Evp.pure _ (iff_no fun h2 => h (hc.2 ⟨h2.1, h2.2.1⟩)))
  obtain ⟨h1, h2⟩ := hc.1 h
  exact Evp.bind (spec_shIn hs h1 hl hm h2) fun d hd => Evp.pure _ (hd.trans ⟨fun h3 => ⟨h1, h2, h3.1, h3.2.1⟩, fun h3 => ⟨h3.2.2.1, h3.2.2.2, trivial⟩⟩)
theorem impl_fits {cs : List Cls} (hs : SmallC cs) {a b : Bool} {l m l' m' : List Int} (hl : l.length ≤ 1048576) (hm : m.length ≤ 1048576) (hl' : l'.length ≤ 1048576) (hm' : m'.length ≤ 1048576) (il : I64 l) (im : I64 m) (il' : I64 l') (im' : I64 m') :
    Evp (fun k => impl_shapeFit.f k cs a l m b l' m') (fun r => r = true ↔ Fits cs a l m b l' m') := by
  unfold impl_shapeFit.f Fits
  refine Evp.ite (fun h1 => Evp.ite (fun h2 => ?_) (fun h2 => Evp.pure _ (iff_no fun h => h2 h.2.1))) (fun h1 => Evp.pure _ (iff_no fun h => h1 h.1))
  refine Evp.ite (fun h3 => Evp.ite (fun h4 => ?_) (fun h4 => Evp.pure _ (iff_no fun h => h4 (by have := h.2.2.2.2; omega)))) (fun h3 => Evp.pure _ (iff_no fun h => h3 (by have := (shOk_true h.2.2.2.1 h2).1; omega)))
  refine Evp.bind (impl_shapeOk' hs _ a hl hm il im) fun c hc => Evp.ite (fun h5 => ?_) (fun h5 => Evp.pure _ (iff_no fun h => h5 (hc.2 h.2.2.1)))
  refine Evp.bind (impl_shapeOk' hs _ b hl' hm' il' im') fun d hd => Evp.pure _ (hd.trans ?_)
  rw [h3]
  constructor
  · intro h8; exact ⟨h1, h2, h3 ▸ hc.1 h5, h8, by omega⟩
  · intro h8; exact h8.2.2.2.1
theorem impl_shIn {cs : List Cls} (hs : SmallC cs) (hok : ClsOk cs) {a b : Bool} {l m l' m' : List Int} (hl : l.length ≤ 1048576) (hm : m.length ≤ 1048576) (hl' : l'.length ≤ 1048576) (hm' : m'.length ≤ 1048576) (il : I64 l) (im : I64 m) (il' : I64 l') (im' : I64 m') :
    Evp (fun k => impl_shapeIn.f k cs a l m b l' m') (fun r => r = true ↔ ShIn cs a l m b l' m') := by
  unfold impl_shapeIn.f ShIn
  refine Evp.bind (impl_fits hs hl hm hl' hm' il im il' im') fun c hc => Evp.ite (fun h => ?_) (fun h => Evp.pure _ (iff_no fun h2 => h (hc.2 h2.1)))
  have hf := hc.1 h
  obtain ⟨ha, hb, h1, h2, h3⟩ := hc.1 h
  obtain ⟨e1, e2, e3, e4⟩ := shOk_true h1 ha
  obtain ⟨g1, g2, g3, g4⟩ := shOk_true h2 hb
  have k1 : ∀ i, i ≤ m.length → Evp (fun k => impl_shapeIn.l1 k cs m (m.length : Int) (i : Int) b l' m') (fun r => r = true ↔ (∀ j, i ≤ j → j < m.length → TyIn cs (m.getD j 0) (m'.getD j 0)) ∧ True) := by
    refine Evp.for_ ?_ (fun i hi ih => ?_)
    · refine Evp.step (f := fun k => _) (fun k => by rw [impl_shapeIn.l1]) (Evp.no (by omega) (Evp.pure _ (all_end (iff_yes trivial))))
    · refine Evp.step (f := fun k => _) (fun k => by rw [impl_shapeIn.l1, rdN, rdN]) (Evp.yes (by omega) (Evp.yes (by omega) (Evp.yes (by omega) (Evp.yes (by omega) ?_))))
      have ti := im.at hi; have ti' := im'.at (i := i) (by omega)
      refine Evp.bind (impl_tyIn hs hok ti.1 ti.2 ti'.1 ti'.2) fun d hd => Evp.ite (fun h5 => ?_) (fun h5 => Evp.pure _ (all_stop hi fun h7 => h5 (hd.2 ⟨ty_at (fun t ht => (e4 t ht).1) hi, ty_at (fun t ht => (g4 t ht).1) (by omega), h7⟩)))
      rw [w64' hi (by omega)]
      exact ih.mono fun r hr => all_step (Q := fun j => TyIn cs (m.getD j 0) (m'.getD j 0)) (hd.1 h5).2.2 hr
  have k0 : ∀ i, i ≤ l.length → Evp (fun k => impl_shapeIn.l0 k cs l (l.length : Int) (i : Int) a l m b l' m') (fun r => r = true ↔ (∀ j, i ≤ j → j < l.length → TyIn cs (l.getD j 0) (l'.getD j 0)) ∧ (PtIn cs m m' ∧ True)) := by
    refine Evp.for_ ?_ (fun i hi ih => ?_)
    · refine Evp.step (f := fun k => _) (fun k => by rw [impl_shapeIn.l0]) (Evp.no (by omega) ?_)
      exact (k1 0 (Nat.zero_le _)).mono fun r hr => all_end hr
    · refine Evp.step (f := fun k => _) (fun k => by rw [impl_shapeIn.l0, rdN, rdN]) (Evp.yes (by omega) (Evp.yes (by omega) (Evp.yes (by omega) (Evp.yes (by omega) ?_))))
      have ti := il.at hi; have ti' := il'.at (i := i) (by omega)
      refine Evp.bind (impl_tyIn hs hok ti.1 ti.2 ti'.1 ti'.2) fun d hd => Evp.ite (fun h5 => ?_) (fun h5 => Evp.pure _ (all_stop hi fun h7 => h5 (hd.2 ⟨ty_at e3 hi, ty_at g3 (by omega), h7⟩)))
      rw [w64' hi (by omega)]
      exact ih.mono fun r hr => all_step (Q := fun j => TyIn cs (l.getD j 0) (l'.getD j 0)) (hd.1 h5).2.2 hr
  exact (k0 0 (Nat.zero_le _)).mono fun r hr => hr.trans ⟨fun h4 => ⟨hf, h4.1, h4.2.1⟩, fun h4 => ⟨h4.2.1, h4.2.2, trivial⟩⟩
theorem impl_ShapeIn' {cs : List Cls} (hs : SmallC cs) {a b : Bool} {l m l' m' : List Int} (hl : l.length ≤ 1048576) (hm : m.length ≤ 1048576) (hl' : l'.length ≤ 1048576) (hm' : m'.length ≤ 1048576) (il : I64 l) (im : I64 m) (il' : I64 l') (im' : I64 m') :
    Evp (fun k => impl_ShapeIn.f k cs a l m b l' m') (fun r => r = true ↔ ClsOk cs ∧ ShIn cs a l m b l' m') := by
  unfold impl_ShapeIn.f
  refine Evp.bind (impl_classesOk hs) fun c hc => Evp.ite (fun h => ?_) (fun h => Evp.pure _ (iff_no fun h2 => h (hc.2 h2.1)))
  exact Evp.bind (impl_shIn hs (hc.1 h) hl hm hl' hm' il im il' im') fun d hd => Evp.pure _ (hd.trans ⟨fun h3 => ⟨hc.1 h, h3⟩, fun h3 => h3.2⟩)
end Go.Proofs.Ytchegijjjakmpaa.Kit

end
section

namespace Go.Proofs.Ytchegijjjakmpaa.Kit
open Go Go.RowKit Go.Proofs.YtchegijjjakmpaaW.PrintWords Go.Proofs.Ytchegijjjakmpaa.P
set_option linter.unusedVariables false
def IsJoin (cs : List Cls) (a b c : Nat) : Prop := Up cs a c ∧ Up cs b c ∧ ∀ d, Up cs a d → Up cs b d → Up cs c d
theorem IsJoin.fn {cs : List Cls} (h : ClsOk cs) {a b c c' : Nat} (ha : a < cs.length) (h1 : IsJoin cs a b c) (h2 : IsJoin cs a b c') : c = c' := by
  have := h1.1.le h ha
  have := h2.1.le h ha
  exact (h1.2.2 _ h2.1 h2.2.1).antisymm h (by omega) (by omega) (h2.2.2 _ h1.1 h1.2.1)
theorem IsJoin.symm {cs : List Cls} {a b c : Nat} (h : IsJoin cs a b c) : IsJoin cs b a c := ⟨h.2.1, h.1, fun d h1 h2 => h.2.2 d h2 h1⟩
theorem spec_join {cs : List Cls} (h : ClsOk cs) {b : Nat} (hb : b < cs.length) : ∀ a : Nat, a < cs.length → Evp (fun k => spec_l2Join.f k cs (a : Int) (b : Int)) (fun r => ∃ c : Nat, r = (c : Int) ∧ IsJoin cs a b c) := by
  intro a
  induction a using Nat.strongRecOn with
  | _ a ih =>
    intro ha
    unfold spec_l2Join.f at ih ⊢
    refine Evp.step (f := fun k => _) (fun k => by rw [spec_l2Join.l0, rdSup]) (Evp.bind (spec_up h a b hb) fun t ht => Evp.ite (fun h1 => Evp.pure _ ⟨a, rfl, .refl _, ht.1 h1, fun d h2 _ => h2⟩) (fun h1 => ?_))
    have hn : ¬ Up cs b a := fun h2 => h1 (ht.2 h2)
    have h0 : a ≠ 0 := fun h0 => hn (h0 ▸ Up.root h hb)
    obtain ⟨p, hp, hlt⟩ := h.sup_nat (i := a) (by omega) ha
    refine Evp.yes (by omega) (Evp.yes (by omega) ?_)
    rw [hp]
    refine (ih p hlt (by omega)).mono fun r hr => ?_
    obtain ⟨c, rfl, h2, h3, h4⟩ := hr
    refine ⟨c, rfl, .step p hp h2, h3, fun d h5 h6 => ?_⟩
    have hne : a ≠ d := fun e => hn (e ▸ h6)
    exact h4 d ((Up.via hp hne).1 h5) h6
theorem IsJoin.ex {cs : List Cls} (h : ClsOk cs) {a b : Nat} (ha : a < cs.length) (hb : b < cs.length) : ∃ c, IsJoin cs a b c := by
  obtain ⟨r, _, c, _, hc⟩ := spec_join h hb a ha
  exact ⟨c, hc⟩
def JoinC (cs : List Cls) (a b r : Int) : Prop := (ClsOk cs ∧ (0 ≤ a ∧ a < (cs.length : Int)) ∧ (0 ≤ b ∧ b < (cs.length : Int)) ∧ ∃ c : Nat, r = (c : Int) ∧ IsJoin cs a.toNat b.toNat c) ∨ (¬ (ClsOk cs ∧ (0 ≤ a ∧ a < (cs.length : Int)) ∧ (0 ≤ b ∧ b < (cs.length : Int))) ∧ r = -1)
theorem JoinC.fn {cs : List Cls} {a b r r' : Int} (h : JoinC cs a b r) (h' : JoinC cs a b r') : r = r' := by
  rcases h with ⟨h1, h2, h3, c, rfl, hc⟩ | h1 <;> rcases h' with ⟨h1', h2', h3', c', rfl, hc'⟩ | h1'
  · rw [hc.fn h1 (by omega) hc']
  · exact absurd ⟨h1, h2, h3⟩ h1'.1
  · exact absurd ⟨h1', h2', h3'⟩ h1.1
  · rw [h1.2, h1'.2]
end Go.Proofs.Ytchegijjjakmpaa.Kit

end
section

namespace Go.Proofs.Ytchegijjjakmpaa.Kit
open Go Go.RowKit Go.Proofs.YtchegijjjakmpaaW.PrintWords Go.Proofs.Ytchegijjjakmpaa.P
set_option linter.unusedVariables false
theorem Few.drop {l : List Int} (h : Few l) (n : Nat) : Few (l.drop n) := fun t ht => h t (List.mem_of_mem_drop ht)
theorem Few.set {l : List Int} (h : Few l) {i : Nat} {x : Int} (h0 : -1000 ≤ x) (h1 : x ≤ 1000) : Few (l.set i x) := by
  intro t ht
  rcases List.mem_or_eq_of_mem_set ht with h2 | rfl
  · exact h t h2
  · exact ⟨h0, h1⟩
theorem Few.rd {l : List Int} (h : Few l) (i : Int) : -1000 ≤ rd l i ∧ rd l i ≤ 1000 := by
  unfold Go.Proofs.YtchegijjjakmpaaW.PrintWords.rd
  rw [List.getD_eq_getElem?_getD]
  by_cases hi : i.toNat < l.length
  · rw [List.getElem?_eq_getElem hi]
    exact h _ (List.getElem_mem hi)
  · rw [List.getElem?_eq_none (by omega)]
    simp
theorem Short.drop {l : List Int} (h : Short l) (n : Nat) : Short (l.drop n) := ⟨by have := h.1; rw [List.length_drop]; omega, h.2.drop n⟩
theorem Short.set {l : List Int} (h : Short l) {i : Nat} {x : Int} (h0 : -1000 ≤ x) (h1 : x ≤ 1000) : Short (l.set i x) := ⟨by rw [List.length_set]; exact h.1, h.2.set h0 h1⟩
theorem Short.nil : Short [] := ⟨by simp, Few.nil⟩
theorem meets_evp {cs : List Cls} (hs : SmallC cs) (h : ClsOk cs) (hn : cs.length ≤ 100) {a b : Int} (ha : TyOk cs.length a) (hb : TyOk cs.length b) (a0 : -1000 ≤ a ∧ a ≤ 1000) (b0 : -1000 ≤ b ∧ b ≤ 1000) : Evp (fun k => spec_l2Meets.f k cs a b) (fun r => -1000 ≤ r ∧ r ≤ 1000) := by
  unfold spec_l2Meets.f
  refine Evp.bind (spec_tyIn hs h ha hb) fun t ht => Evp.ite (fun _ => Evp.pure _ b0) (fun h1 => ?_)
  refine Evp.bind (spec_tyIn hs h hb ha) fun t2 ht2 => Evp.ite (fun _ => Evp.pure _ a0) (fun h2 => ?_)
  have j : ∀ c : Bool, (c = false → 2 ≤ a ∧ 2 ≤ b) → Evp (fun k => spec_l2Meets.j0 k cs a b c) (fun r => -1000 ≤ r ∧ r ≤ 1000) := by
    intro c hc
    refine Evp.step (f := fun k => _) (fun k => by rw [spec_l2Meets.j0]) (Evp.ite (fun _ => Evp.pure _ (by decide)) (fun h3 => Evp.ite (fun _ => Evp.pure _ (by decide)) (fun h4 => Evp.ite (fun _ => Evp.pure _ (by decide)) (fun h5 => ?_))))
    have cls : ∀ t : Int, TyOk cs.length t → 8 ≤ t → t - 8 < (cs.length : Int) := by
      intro t ht h8
      rcases ht with rfl | rfl | ht
      · omega
      · omega
      · unfold FieldTy at ht
        omega
    have c1 := cls a ha (by omega)
    have c2 := cls b hb (by omega)
    rw [w64 (n := a - 8) (by omega) (by omega), w64 (n := b - 8) (by omega) (by omega)]
    obtain ⟨x, hx⟩ : ∃ x : Nat, a - 8 = (x : Int) := ⟨(a - 8).toNat, by omega⟩
    obtain ⟨y, hy⟩ : ∃ y : Nat, b - 8 = (y : Int) := ⟨(b - 8).toNat, by omega⟩
    rw [hx, hy]
    refine Evp.bind (spec_join h (b := y) (by omega) x (by omega)) fun c hc => ?_
    obtain ⟨z, rfl, hz⟩ := hc
    have hz2 : z < cs.length := by have := hz.1.le h (by omega); omega
    refine Evp.pure _ ?_
    rw [w64 (by omega) (by omega)]
    omega
  simp only [spec_l2Ref.f, Option.bind_some]
  refine Evp.ite (fun h3 => j _ (fun h4 => ?_)) (fun _ => j true (fun h => by cases h))
  simp at h3 h4
  omega
theorem two_evp {bs : List Int} (h : Bytes bs) {p : Int} (h0 : 0 ≤ p) (h1 : p ≤ 1000) :
    Evp (fun k => spec_l72Two.f k bs p) (fun r => Drawn 4 9 r.1 ∧ Short r.2.2.1 ∧ Short r.2.2.2.1 ∧ Short r.2.2.2.2.2.1 ∧ Short r.2.2.2.2.2.2.1 ∧ 0 ≤ r.2.2.2.2.2.2.2 ∧ r.2.2.2.2.2.2.2 ≤ 10000) := by
  unfold spec_l72Two.f
  refine Evp.bind (off_evp h h0 (by omega)) fun d hd => ?_
  have hl := hd.1.1
  have hl9 := hd.1.2.1
  refine Evp.bind (pick_evp h (by omega) (by omega) (by omega)) fun a ha => ?_
  have ha2 := ha.2.1 (by omega)
  obtain ⟨n, hn⟩ : ∃ n : Nat, a.1 = (n : Int) := ⟨a.1.toNat, by omega⟩
  rw [hn]
  refine Evp.bind (shape_evp h (by omega) (by omega) (by omega) (by omega) (by omega)) fun s hs => ?_
  refine Evp.bind (shape_evp h (by omega) (by omega) (by omega) (by omega) (by omega)) fun t ht => ?_
  have k1 : ∀ e i : Nat, ∀ (l' m' : List Int) (q : Int), i + e = l'.length → Short l' → Short m' → 0 ≤ q → q + (e : Int) ≤ 10000 → Evp (fun k => spec_l72Two.l1 k d.1 (i : Int) bs q s.1 s.2.1 s.2.2.1 t.1 l' m') (fun r => Drawn 4 9 r.1 ∧ Short r.2.2.1 ∧ Short r.2.2.2.1 ∧ Short r.2.2.2.2.2.1 ∧ Short r.2.2.2.2.2.2.1 ∧ 0 ≤ r.2.2.2.2.2.2.2 ∧ r.2.2.2.2.2.2.2 ≤ 10000) := by
    intro e
    induction e with
    | zero =>
      intro i l' m' q hi h2 h3 hq hq2
      refine Evp.step (f := fun k => _) (fun k => by rw [spec_l72Two.l1]) (Evp.no (by omega) ?_)
      exact Evp.step (f := fun k => _) (fun k => by rw [spec_l72Two.j2]) (Evp.no (by decide) (Evp.pure _ ⟨hd.1, hs.1, hs.2.1, h2, h3, hq, by dsimp only; omega⟩))
    | succ e ih =>
      intro i l' m' q hi h2 h3 hq hq2
      refine Evp.step (f := fun k => _) (fun k => by rw [spec_l72Two.l1]) (Evp.yes (by omega) ?_)
      have hlen := h2.1
      refine Evp.step (f := fun k => _) (fun k => by rw [spec_l72Two.j2]) (Evp.ite (fun hx => ?_) (fun hx => Evp.pure _ ⟨hd.1, hs.1, hs.2.1, h2, h3, hq, by dsimp only; omega⟩))
      have hx2 := of_decide_eq_true hx
      refine Evp.bind (pick_evp h (by omega) (by omega) (by omega)) fun c hc => Evp.ite (fun _ => Evp.yes (by omega) (Evp.yes hx2 (Evp.yes (by omega) ?_))) (fun _ => ?_)
      · rw [w64' (n := l'.length) (by omega) (by omega)]
        have hr := hs.1.2.rd (i : Int)
        exact ih (i + 1) _ m' c.2 (by rw [List.length_set]; omega) (h2.set hr.1 hr.2) h3 (by omega) (by omega)
      · rw [w64' (n := l'.length) (by omega) (by omega)]
        exact ih (i + 1) l' m' c.2 (by omega) h2 h3 (by omega) (by omega)
  have k0 : ∀ e : Nat, ∀ m' : List Int, m'.length = e → Short m' → Evp (fun k => spec_l72Two.l0 k d.1 bs t.2.2.2 s.1 s.2.1 s.2.2.1 t.1 t.2.1 m') (fun r => Drawn 4 9 r.1 ∧ Short r.2.2.1 ∧ Short r.2.2.2.1 ∧ Short r.2.2.2.2.2.1 ∧ Short r.2.2.2.2.2.2.1 ∧ 0 ≤ r.2.2.2.2.2.2.2 ∧ r.2.2.2.2.2.2.2 ≤ 10000) := by
    intro e
    induction e with
    | zero =>
      intro m' he hm
      have := ht.1.1
      refine Evp.step (f := fun k => _) (fun k => by rw [spec_l72Two.l0]) (Evp.no (by omega) ?_)
      exact k1 t.2.1.length 0 t.2.1 m' t.2.2.2 (by omega) ht.1 hm (by omega) (by omega)
    | succ e ih =>
      intro m' he hm
      have := ht.1.1
      refine Evp.step (f := fun k => _) (fun k => by rw [spec_l72Two.l0]) (Evp.ite (fun hg => Evp.yes (by omega) (ih _ (by rw [List.length_drop]; omega) (hm.drop _))) (fun _ => ?_))
      exact k1 t.2.1.length 0 t.2.1 m' t.2.2.2 (by omega) ht.1 hm (by omega) (by omega)
  exact k0 _ _ rfl ht.2.1
theorem copy_eq (a : Bool) {l m : List Int} (hl : l.length ≤ 1048576) (hm : m.length ≤ 1048576) : spec_l11Copy.f a l m = some (a, l, m) := by
  unfold spec_l11Copy.f
  simp only [Option.bind_some, List.nil_append, List.length_nil]
  rw [if_pos (by omega), if_pos (by omega)]
theorem shJoin_evp {cs : List Cls} (hs : SmallC cs) (h : ClsOk cs) (hn : cs.length ≤ 100) {a b : Bool} {l m l' m' : List Int} (sl : Short l) (sm : Short m) (sl' : Short l') (sm' : Short m') (hf : Fits cs a l m b l' m') :
    Evp (fun k => spec_l11Join.f k cs a l m b l' m') (fun r => Short r.2.1 ∧ Short r.2.2) := by
  obtain ⟨ha, hb, h1, h2, h3⟩ := hf
  obtain ⟨e1, e2, e3, e4⟩ := shOk_true h1 ha
  obtain ⟨g1, g2, g3, g4⟩ := shOk_true h2 hb
  have c1 := sl.1
  have c2 := sm.1
  unfold spec_l11Join.f
  simp only [copy_eq a sl.len sm.len, Option.bind_some]
  refine Evp.yes (by omega) ?_
  have k1 : ∀ d i : Nat, ∀ s t : List Int, i + d = m.length → t.length = m.length → Short s → Short t → Evp (fun k => spec_l11Join.l1 k cs (i : Int) a l m b l' m' a s t) (fun r => Short r.2.1 ∧ Short r.2.2) := by
    intro d
    induction d with
    | zero =>
      intro i s t hi ht hs' ht'
      exact Evp.step (f := fun k => _) (fun k => by rw [spec_l11Join.l1]) (Evp.no (by omega) (Evp.pure _ ⟨hs', ht'⟩))
    | succ d ih =>
      intro i s t hi ht hs' ht'
      refine Evp.step (f := fun k => _) (fun k => by rw [spec_l11Join.l1]) (Evp.yes (by omega) (Evp.yes (by omega) (Evp.yes (by omega) ?_)))
      have r1 := sm.2.rd (i : Int)
      have r2 := sm'.2.rd (i : Int)
      have y1 : TyOk cs.length (rd m (i : Int)) := by rw [rdN]; exact ty_at (fun t ht => (e4 t ht).1) (by omega)
      have y2 : TyOk cs.length (rd m' (i : Int)) := by rw [rdN]; exact ty_at (fun t ht => (g4 t ht).1) (by omega)
      refine Evp.bind (meets_evp hs h hn y1 y2 r1 r2) fun c hc => Evp.yes (by omega) (Evp.ite (fun _ => ?_) (fun _ => ?_))
      · unfold spec_l11None.f
        simp only [Option.bind_some]
        exact Evp.pure _ ⟨Short.nil, Short.nil⟩
      · rw [w64' (n := m.length) (by omega) (by omega)]
        exact ih (i + 1) s _ (by omega) (by rw [List.length_set]; exact ht) hs' (ht'.set hc.1 hc.2)
  have k0 : ∀ d i : Nat, ∀ s : List Int, i + d = l.length → s.length = l.length → Short s → Evp (fun k => spec_l11Join.l0 k cs (i : Int) a l m b l' m' a s m) (fun r => Short r.2.1 ∧ Short r.2.2) := by
    intro d
    induction d with
    | zero =>
      intro i s hi hl hs'
      refine Evp.step (f := fun k => _) (fun k => by rw [spec_l11Join.l0]) (Evp.no (by omega) ?_)
      exact k1 m.length 0 s m (by omega) rfl hs' sm
    | succ d ih =>
      intro i s hi hl hs'
      refine Evp.step (f := fun k => _) (fun k => by rw [spec_l11Join.l0]) (Evp.yes (by omega) (Evp.yes (by omega) (Evp.yes (by omega) ?_)))
      have r1 := sl.2.rd (i : Int)
      have r2 := sl'.2.rd (i : Int)
      have y1 : TyOk cs.length (rd l (i : Int)) := by rw [rdN]; exact ty_at e3 (by omega)
      have y2 : TyOk cs.length (rd l' (i : Int)) := by rw [rdN]; exact ty_at g3 (by omega)
      refine Evp.bind (meets_evp hs h hn y1 y2 r1 r2) fun c hc => Evp.yes (by omega) ?_
      rw [w64' (n := l.length) (by omega) (by omega)]
      exact ih (i + 1) _ (by omega) (by rw [List.length_set]; exact hl) (hs'.set hc.1 hc.2)
  exact k0 l.length 0 l (by omega) rfl sl
theorem drawIn_evp {l : List Int} (h : ∀ x ∈ l, (Lit.int .u8 x).wf = true) :
    Evp (fun k => spec_DrawShapeIn.f k l) (fun r => Drawn 4 9 r.1 ∧ Short r.2.2.1 ∧ Short r.2.2.2.1 ∧ Short r.2.2.2.2.2.1 ∧ Short r.2.2.2.2.2.2) := by
  obtain ⟨bs, ho, hb⟩ := open_evp h
  unfold spec_DrawShapeIn.f
  simp only [ho, Option.bind_some]
  refine Evp.bind (two_evp hb (by omega) (by omega)) fun d hd => ?_
  obtain ⟨h1, h2, h3, h4, h5, h6, h7⟩ := hd
  have hs : SmallC d.1 := h1.small (by decide) (by decide)
  have hn := h1.2.1
  refine Evp.bind (pick_evp hb h6 (by omega) (by omega)) fun c hc => ?_
  have j : ∀ t : Bool, (t = true → ClsOk d.1 ∧ Fits d.1 d.2.1 d.2.2.1 d.2.2.2.1 d.2.2.2.2.1 d.2.2.2.2.2.1 d.2.2.2.2.2.2.1) → Evp (fun k => spec_DrawShapeIn.j0 k d.1 t d.2.1 d.2.2.1 d.2.2.2.1 d.2.2.2.2.1 d.2.2.2.2.2.1 d.2.2.2.2.2.2.1) (fun r => Drawn 4 9 r.1 ∧ Short r.2.2.1 ∧ Short r.2.2.2.1 ∧ Short r.2.2.2.2.2.1 ∧ Short r.2.2.2.2.2.2) := by
    intro t ht
    refine Evp.step (f := fun k => _) (fun k => by rw [spec_DrawShapeIn.j0]) (Evp.ite (fun h8 => ?_) (fun _ => Evp.pure _ ⟨h1, h2, h3, h4, h5⟩))
    refine Evp.bind (shJoin_evp hs (ht h8).1 (by omega) h2 h3 h4 h5 (ht h8).2) fun e he => Evp.ite (fun _ => Evp.pure _ ⟨h1, h2, h3, he.1, he.2⟩) (fun _ => Evp.pure _ ⟨h1, h2, h3, h4, h5⟩)
  refine Evp.ite (fun _ => ?_) (fun _ => j false (fun h => by cases h))
  exact Evp.bind (spec_fits hs h2.len h3.len h4.len h5.len) fun t ht => j t ht.1
end Go.Proofs.Ytchegijjjakmpaa.Kit

end
section

namespace Go.Proofs.Ytchegijjjakmpaa.Kit
open Go Go.RowKit Go.Proofs.YtchegijjjakmpaaW.PrintWords Go.Proofs.Ytchegijjjakmpaa.P
set_option linter.unusedVariables false
theorem TyIn.refl {cs : List Cls} (a : Int) : TyIn cs a a := .inl rfl
theorem TyIn.top {cs : List Cls} (a : Int) : TyIn cs a 0 := .inr (.inl rfl)
theorem TyIn.antisymm {cs : List Cls} (h : ClsOk cs) {a b : Int} (ha : TyOk cs.length a) (hb : TyOk cs.length b) (h1 : TyIn cs a b) (h2 : TyIn cs b a) : a = b := by
  have ha' := tyOk_iff.1 ha
  have hb' := tyOk_iff.1 hb
  have hl := h.lo
  rcases h1 with h1 | h1 | h1 | h1 | ⟨h1, h1', hu⟩
  · exact h1
  · rcases h2 with h2 | h2 | h2 | h2 | ⟨h2, h2', hv⟩ <;> omega
  · rcases h2 with h2 | h2 | h2 | h2 | ⟨h2, h2', hv⟩ <;> omega
  · rcases h2 with h2 | h2 | h2 | h2 | ⟨h2, h2', hv⟩ <;> omega
  · rcases h2 with h2 | h2 | h2 | h2 | ⟨h2, h2', hv⟩
    · omega
    · omega
    · omega
    · omega
    · have := hu.antisymm h (by omega) (by omega) hv
      omega
theorem TyIn.trans {cs : List Cls} (h : ClsOk cs) {a b c : Int} (ha : TyOk cs.length a) (hb : TyOk cs.length b) (hc : TyOk cs.length c) (h1 : TyIn cs a b) (h2 : TyIn cs b c) : TyIn cs a c := by
  have ha' := tyOk_iff.1 ha
  have hb' := tyOk_iff.1 hb
  have hc' := tyOk_iff.1 hc
  have hl := h.lo
  rcases h1 with h1 | h1 | h1 | h1 | ⟨h1, h1', hu⟩
  · rw [h1]; exact h2
  · have : c = 0 := by rcases h2 with h2 | h2 | h2 | h2 | ⟨h2, h2', hv⟩ <;> omega
    exact .inr (.inl this)
  · have : c = 0 ∨ 2 ≤ c := by rcases h2 with h2 | h2 | h2 | h2 | ⟨h2, h2', hv⟩ <;> omega
    rcases this with h3 | h3
    · exact .inr (.inl h3)
    · exact .inr (.inr (.inl ⟨h1.1, h3⟩))
  · rcases h2 with h2 | h2 | h2 | h2 | ⟨h2, h2', hv⟩
    · rw [← h2]; exact .inr (.inr (.inr (.inl h1)))
    · exact .inr (.inl h2)
    · omega
    · omega
    · have := hv.le h (by omega)
      exact .inr (.inr (.inr (.inl ⟨h1.1, by omega⟩)))
  · rcases h2 with h2 | h2 | h2 | h2 | ⟨h2, h2', hv⟩
    · rw [← h2]; exact .inr (.inr (.inr (.inr ⟨h1, h1', hu⟩)))
    · exact .inr (.inl h2)
    · omega
    · omega
    · exact .inr (.inr (.inr (.inr ⟨h1, h2', hu.trans hv⟩)))
theorem TyIn.cls {cs : List Cls} {a b : Int} (ha : 0 ≤ a) (hb : 0 ≤ b) : TyIn cs (8 + a) (8 + b) ↔ Up cs a.toNat b.toNat := by
  rw [show TyIn cs (8 + a) (8 + b) ↔ _ from Iff.rfl]
  unfold TyIn
  rw [show 8 + a - 8 = a by omega, show 8 + b - 8 = b by omega]
  constructor
  · rintro (h1 | h1 | h1 | h1 | h1)
    · rw [show b = a by omega]; exact .refl _
    · omega
    · omega
    · omega
    · exact h1.2.2
  · intro h1
    exact .inr (.inr (.inr (.inr ⟨by omega, by omega, h1⟩)))
theorem TyIn.int {cs : List Cls} {b : Int} (hb : 0 ≤ b) : ¬ TyIn cs 1 (8 + b) := by
  rintro (h1 | h1 | h1 | h1 | h1) <;> omega
end Go.Proofs.Ytchegijjjakmpaa.Kit

end
