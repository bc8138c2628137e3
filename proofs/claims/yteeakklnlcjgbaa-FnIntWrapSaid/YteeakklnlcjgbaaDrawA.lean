/- The reader of a code: a pick of n tells a number below n and steps on by one. -/
import Derived.Test.YteeakklnlcjgbaaKit
import Derived.Test.YteeakklnlcjgbaaD34
import Derived.Test.YteeakklnlcjgbaaD33
namespace Go.Proofs.Yteeakklnlcjgbaa.Kit
open Go Go.RowKit Go.Proofs.YteeakklnlcjgbaaW.PrintWords Go.Proofs.Yteeakklnlcjgbaa.P
set_option linter.unusedVariables false

/-- Bytes of a code, as many as are read. -/
def Bytes (bs : List Int) : Prop := bs.length ≤ 2000 ∧ ∀ x ∈ bs, 0 ≤ x ∧ x ≤ 255
theorem Bytes.rd {bs : List Int} (h : Bytes bs) (i : Int) : 0 ≤ rd bs i ∧ rd bs i ≤ 255 := by
  unfold Go.Proofs.YteeakklnlcjgbaaW.PrintWords.rd
  rw [List.getD_eq_getElem?_getD]
  by_cases hi : i.toNat < bs.length
  · rw [List.getElem?_eq_getElem hi]
    exact h.2 _ (List.getElem_mem hi)
  · rw [List.getElem?_eq_none (by omega)]
    simp
theorem open_evp {l : List Int} (h : ∀ x ∈ l, (Lit.int .u8 x).wf = true) : ∃ bs, spec_l6Open.f l = some (bs, 0) ∧ Bytes bs := by
  have hb : ∀ x ∈ l, 0 ≤ x ∧ x ≤ 255 := by
    intro x hx
    have := h x hx
    simp [Lit.wf, IntKind.min, IntKind.max, IntKind.signed, IntKind.bits] at this
    omega
  unfold spec_l6Open.f
  by_cases h1 : (l.length : Int) > 2000
  · rw [if_pos h1, if_pos (by omega)]
    exact ⟨_, rfl, by rw [List.length_take]; omega, fun x hx => hb x (List.mem_of_mem_take hx)⟩
  · rw [if_neg h1]
    exact ⟨_, rfl, by omega, hb⟩
theorem pick_evp {bs : List Int} (h : Bytes bs) {p n : Int} (h0 : 0 ≤ p) (h1 : p ≤ 1000000000) (hn : n ≤ 1000000000) :
    Evp (fun k => spec_l6Rd_pick.f k bs p n) (fun r => 0 ≤ r.1 ∧ (1 ≤ n → r.1 < n) ∧ r.2 = p + 1) := by
  have hp : wrap64 (p + 1) = p + 1 := w64 (by omega) (by omega)
  have hp1 : wrap64 (p + 1 - 1) = p := by rw [w64 (by omega) (by omega)]; omega
  have key : ∀ b : Bool, (b = false → 1 ≤ n ∧ bs.length ≠ 0) → Evp (fun k => spec_l6Rd_pick.j0 k n b bs (p + 1)) (fun r => 0 ≤ r.1 ∧ (1 ≤ n → r.1 < n) ∧ r.2 = p + 1) := by
    intro b hb
    refine Evp.step (f := fun k => _) (fun k => by rw [spec_l6Rd_pick.j0]) ?_
    rw [hp1]
    cases b with
    | true =>
      refine Evp.yes rfl (Evp.pure _ ⟨by omega, fun h => by show (0 : Int) < n; omega, rfl⟩)
    | false =>
      obtain ⟨hn1, hl⟩ := hb rfl
      have hlen : (bs.length : Int) ≤ 2000 := by have := h.1; omega
      refine Evp.no (by decide) (Evp.ite (fun hlt => ?_) (fun hge => ?_))
      · refine Evp.yes h0 (Evp.no (by omega) (Evp.pure _ ?_))
        have hr := h.rd p
        rw [w64 (by omega) (by omega)]
        have := tmod_lo (b := n) hr.1 (by omega)
        exact ⟨this.1, fun _ => this.2, rfl⟩
      · have hm1 := tmod_lo (a := p) (b := (bs.length : Int)) h0 (by omega)
        have e7 : wrap64 (wrap64 (p * 7) + 3) = p * 7 + 3 := by rw [w64 (n := p * 7) (by omega) (by omega), w64 (by omega) (by omega)]
        have hm2 := tmod_lo (a := p * 7 + 3) (b := (bs.length : Int)) (by omega) (by omega)
        rw [e7]
        refine Evp.no (by omega) (Evp.yes hm1.1 (Evp.yes hm1.2 (Evp.yes hm2.1 (Evp.yes hm2.2 (Evp.no (by omega) (Evp.pure _ ?_))))))
        have r1 := h.rd (Int.tmod p (bs.length : Int))
        have r2 := h.rd (Int.tmod (p * 7 + 3) (bs.length : Int))
        generalize rd bs (Int.tmod p (bs.length : Int)) = a at r1 ⊢
        generalize rd bs (Int.tmod (p * 7 + 3) (bs.length : Int)) = c at r2 ⊢
        have hq : 0 ≤ Int.tdiv p (bs.length : Int) ∧ Int.tdiv p (bs.length : Int) ≤ p := by
          rw [tdiv_pos h0]
          exact ⟨Int.ediv_nonneg h0 (by omega), Int.ediv_le_self _ h0⟩
        generalize Int.tdiv p (bs.length : Int) = q at hq ⊢
        have ea : wrap64 (wrap64 a * 131) = a * 131 := by rw [w64 (n := a) (by omega) (by omega), w64 (by omega) (by omega)]
        have ec : wrap64 (wrap64 c * 1117) = c * 1117 := by rw [w64 (n := c) (by omega) (by omega), w64 (by omega) (by omega)]
        have e29 : wrap64 (p * 29) = p * 29 := w64 (by omega) (by omega)
        have eq5 : wrap64 (wrap64 q * 53) = q * 53 := by rw [w64 (n := q) (by omega) (by omega), w64 (by omega) (by omega)]
        have ex : wrap64 (wrap64 (wrap64 (a * 131 + c * 1117) + p * 29) + q * 53) = a * 131 + c * 1117 + p * 29 + q * 53 := by
          rw [w64 (n := a * 131 + c * 1117) (by omega) (by omega), w64 (n := a * 131 + c * 1117 + p * 29) (by omega) (by omega), w64 (by omega) (by omega)]
        rw [ea, ec, e29, eq5, ex]
        generalize hx : a * 131 + c * 1117 + p * 29 + q * 53 = X
        have hX : 0 ≤ X ∧ X < 4611686018427387904 := by omega
        have hd : 0 ≤ Int.tdiv X 64 ∧ Int.tdiv X 64 ≤ X := by rw [tdiv_pos hX.1]; omega
        rw [w64 (n := Int.tdiv X 64) (by omega) (by omega)]
        have hz := xor_nonneg hX.1 hX.2 hd.1 (by omega)
        have := tmod_lo (b := n) hz.1 (by omega)
        exact ⟨this.1, fun _ => this.2, rfl⟩
  unfold spec_l6Rd_pick.f
  rw [hp]
  refine Evp.ite (fun hn1 => key true (fun h => by cases h)) (fun hn1 => key _ (fun hb => ⟨by omega, ?_⟩))
  intro hl
  rw [hl] at hb
  simp at hb
end Go.Proofs.Yteeakklnlcjgbaa.Kit
