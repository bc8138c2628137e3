/- FnFieldsAbove: a drawn class has all fields of the one above, and its own behind them. -/
import Derived.Test.YtgmjolngnhdafaaCFnFieldsAbove0
import Derived.Test.YtgmjolngnhdafaaCFnFieldsAbove2
import Derived.Test.YtgmjolngnhdafaaRows
import Derived.WalkKit
import Derived.ProofKit
import Derived.OpenShut
import Derived.ShutString
import Derived.ChangeOld
import Derived.Below
import Derived.SizedLaws
import Derived.Test.YtgmjolngnhdafaaWSized
import Derived.Test.YtgmjolngnhdafaaCFnFieldsAbove1
section
namespace Go.Proofs.Ytgmjolngnhdafaa.P
open Go.RowKit Go.Proofs.YtgmjolngnhdafaaW.PrintWords Go.Proofs.YtgmjolngnhdafaaW.PrintLast Go.Proofs.YtgmjolngnhdafaaW.PrintMore
attribute [local go_sem] max2_int min2_int max_two min_two max_three min_three max_four min_four
set_option linter.unusedVariables false
set_option linter.unusedSimpArgs false

/-! ### spec_DrawClassUp: function 27 -/
def spec_DrawClassUp.f (k : Nat) (l0 : List Int) : Option ((List (S38)) × Int × Int) := (spec_l6Open.f l0).bind fun bt212 => ((spec_l71Off.f k bt212.1 bt212.2).bind fun bt215 => ((spec_l6Rd_pick.f k bt212.1 bt215.2 (bt215.1.length : Int)).bind fun bt219 => ((spec_l6Rd_pick.f k bt212.1 bt219.2 24).bind fun bt221 => ((spec_l6Rd_pick.f k bt212.1 bt221.2 (bt215.1.length : Int)).bind fun bt223 => ((spec_l6Rd_pick.f k bt212.1 bt223.2 24).bind fun bt225 => (some (bt215.1, wrap64 (bt219.1 - (wrap64 (Int.tdiv bt221.1 23))), wrap64 (bt223.1 + (wrap64 (Int.tdiv bt225.1 23))))))))))
theorem spec_DrawClassUp.mono : ∀ a0 k, LeO (spec_DrawClassUp.f k a0) (spec_DrawClassUp.f (k + 1) a0) := by
  intro a0 k
  unfold spec_DrawClassUp.f
  repeat' first
      | (with_reducible exact spec_l6Rd_pick.mono _ _ _ _)
      | (with_reducible exact spec_l71Off.mono _ _ _)
      | (with_reducible exact LeO.refl _)
      | (with_reducible exact LeO.none _)
      | (with_reducible refine LeO.ite ?_ ?_)
      | (with_reducible refine LeO.bind ?_ (fun _ => ?_))
      | exact spec_l6Rd_pick.mono _ _ _ _
      | exact spec_l71Off.mono _ _ _
      | exact LeO.none _
      | refine LeO.ite ?_ ?_
      | refine LeO.bind ?_ (fun _ => ?_)

end Go.Proofs.Ytgmjolngnhdafaa.P

end
section
namespace Go.Proofs.Ytgmjolngnhdafaa.Kit
open Go Go.RowKit Go.Proofs.YtgmjolngnhdafaaW.PrintWords Go.Proofs.Ytgmjolngnhdafaa.P
set_option linter.unusedVariables false
theorem is_evp {cs : List Cls} (hs : SmallC cs) (a : Int) : Evp (fun k => laws_leIs.f k cs a) (fun r => r = true ↔ ClsOk cs ∧ 0 ≤ a ∧ a < (cs.length : Int)) := by
  unfold laws_leIs.f
  refine Evp.bind (spec_classesOk hs) fun c hc => Evp.ite (fun h => ?_) (fun h => Evp.pure _ (iff_no fun h2 => h (hc.2 h2.1)))
  refine Evp.ite (fun h1 => Evp.pure _ ?_) (fun h1 => Evp.pure _ (iff_no fun h2 => h1 h2.2.1))
  rw [decide_eq_true_iff]
  exact ⟨fun h2 => ⟨hc.1 h, h1, h2⟩, fun h2 => h2.2.2⟩
theorem drawUp_evp {l : List Int} (h : ∀ x ∈ l, (Lit.int .u8 x).wf = true) :
    Evp (fun k => spec_DrawClassUp.f k l) (fun r => Drawn 4 9 r.1 ∧ (-1 ≤ r.2.1 ∧ r.2.1 ≤ 10) ∧ (-1 ≤ r.2.2 ∧ r.2.2 ≤ 10)) := by
  obtain ⟨bs, ho, hb⟩ := open_evp h
  unfold spec_DrawClassUp.f
  simp only [ho, Option.bind_some]
  refine Evp.bind (off_evp hb (by omega) (by omega)) fun d hd => ?_
  obtain ⟨hd1, hd2, hd3⟩ := hd
  have hl := hd1.1
  have hl9 := hd1.2.1
  refine Evp.bind (pick_evp hb hd2 (by omega) (by omega)) fun a ha => Evp.bind (pick_evp hb (by omega) (by omega) (by omega)) fun b hb' => ?_
  refine Evp.bind (pick_evp hb (by omega) (by omega) (by omega)) fun c hc => Evp.bind (pick_evp hb (by omega) (by omega) (by omega)) fun e he => Evp.pure _ ⟨hd1, ?_, ?_⟩
  · have h1 := ha.2.1 (by omega)
    have h2 := hb'.2.1 (by omega)
    have h3 := ha.1
    have h4 := hb'.1
    dsimp only
    rw [tdiv_pos h4, w64 (n := b.1 / 23) (by omega) (by omega), w64 (by omega) (by omega)]
    omega
  · have h1 := hc.2.1 (by omega)
    have h2 := he.2.1 (by omega)
    have h3 := hc.1
    have h4 := he.1
    dsimp only
    rw [tdiv_pos h4, w64 (n := e.1 / 23) (by omega) (by omega), w64 (by omega) (by omega)]
    omega
end Go.Proofs.Ytgmjolngnhdafaa.Kit

end
section
namespace Go.Proofs.Ytgmjolngnhdafaa.Kit
open Go Go.RowKit Go.Proofs.YtgmjolngnhdafaaW.PrintWords Go.Proofs.Ytgmjolngnhdafaa.P
set_option linter.unusedVariables false
theorem impl_flds {cs : List Cls} (h : ClsOk cs) : ∀ a : Nat, a < cs.length → Evp (fun k => impl_classFields.f k cs (a : Int)) (fun r => Flds cs a r ∧ r.length ≤ 2 * a) := by
  have hhi := h.hi
  intro a
  induction a using Nat.strongRecOn with
  | _ a ih =>
    intro ha
    refine Evp.step (f := fun k => _) (fun k => by rw [impl_classFields.f]) (Evp.ite (fun h0 => Evp.pure _ ?_) (fun h0 => ?_))
    · have : a = 0 := by omega
      subst this
      exact ⟨.root, Nat.le_refl _⟩
    · obtain ⟨p, hp, hlt⟩ := h.sup_nat (i := a) (by omega) ha
      have e : (rd_T38 cs (a : Int)).f0 = (p : Int) := hp
      have hl2 := h.len2 ha
      refine Evp.yes (by omega) (Evp.yes (by omega) ?_)
      rw [e, rdFlds]
      refine Evp.bind (ih p hlt (by omega)) fun l hl => Evp.yes (by have := hl.2; omega) (Evp.pure _ ⟨.step p (by omega) hp hl.1, ?_⟩)
      have := hl.2
      rw [List.length_append]; omega
theorem spec_flds {cs : List Cls} (h : ClsOk cs) : ∀ a : Nat, a < cs.length → Evp (fun k => spec_l2Fields.f k cs (a : Int)) (fun r => Flds cs a r ∧ r.length ≤ 2 * a) := by
  have hhi := h.hi
  intro a
  induction a using Nat.strongRecOn with
  | _ a ih =>
    intro ha
    refine Evp.step (f := fun k => _) (fun k => by rw [spec_l2Fields.f]) (Evp.ite (fun h0 => Evp.pure _ ?_) (fun h0 => ?_))
    · have : a = 0 := by omega
      subst this
      exact ⟨.root, Nat.le_refl _⟩
    · obtain ⟨p, hp, hlt⟩ := h.sup_nat (i := a) (by omega) ha
      have e : (rd_T38 cs (a : Int)).f0 = (p : Int) := hp
      have hl2 := h.len2 ha
      refine Evp.yes (by omega) (Evp.yes (by omega) ?_)
      rw [e, rdFlds]
      refine Evp.bind (ih p hlt (by omega)) fun l hl => Evp.yes (by have := hl.2; omega) (Evp.pure _ ⟨.step p (by omega) hp hl.1, ?_⟩)
      have := hl.2
      rw [List.length_append]; omega
/-- All fields of a class, where it is one. -/
def FldsC (cs : List Cls) (c : Int) (l : List Int) : Prop := l.length ≤ 10 ∧ ((ClsOk cs ∧ (0 ≤ c ∧ c < (cs.length : Int)) ∧ Flds cs c.toNat l) ∨ (¬ (ClsOk cs ∧ 0 ≤ c ∧ c < (cs.length : Int)) ∧ l = []))
theorem FldsC.fn {cs : List Cls} {c : Int} {l l' : List Int} (h : FldsC cs c l) (h' : FldsC cs c l') : l = l' := by
  rcases h.2 with h1 | h1 <;> rcases h'.2 with h2 | h2
  · exact h1.2.2.fn h2.2.2
  · exact absurd ⟨h1.1, h1.2.1⟩ h2.1
  · exact absurd ⟨h2.1, h2.2.1⟩ h1.1
  · rw [h1.2, h2.2]
theorem impl_ClassFields' {cs : List Cls} (hs : SmallC cs) (c : Int) : Evp (fun k => impl_ClassFields.f k cs c) (FldsC cs c) := by
  unfold impl_ClassFields.f
  obtain ⟨x, hx, hx2⟩ := impl_isClass_eq cs c
  refine Evp.bind (impl_classesOk hs) fun b hb => Evp.ite (fun h => ?_) (fun h => Evp.pure _ ⟨by decide, .inr ⟨fun h2 => h (hb.2 h2.1), rfl⟩⟩)
  simp only [hx, Option.bind_some]
  refine Evp.ite (fun h1 => ?_) (fun h1 => Evp.pure _ ⟨by decide, .inr ⟨fun h2 => h1 (hx2.2 h2.2), rfl⟩⟩)
  have h3 := hb.1 h
  have h4 := hx2.1 h1
  have hhi := h3.hi
  have := impl_flds h3 c.toNat (by omega)
  rw [show ((c.toNat : Nat) : Int) = c by omega] at this
  exact Evp.bind this fun l hl => Evp.pure _ ⟨by have := hl.2; omega, .inl ⟨h3, h4, hl.1⟩⟩
theorem spec_ClassFields' {cs : List Cls} (hs : SmallC cs) (c : Int) : Evp (fun k => spec_ClassFields.f k cs c) (FldsC cs c) := by
  unfold spec_ClassFields.f
  refine Evp.bind (spec_is hs c) fun b hb => Evp.ite (fun h => ?_) (fun h => Evp.pure _ ⟨by decide, .inr ⟨fun h2 => h (hb.2 h2), rfl⟩⟩)
  obtain ⟨h3, h4⟩ := hb.1 h
  have hhi := h3.hi
  have := spec_flds h3 c.toNat (by omega)
  rw [show ((c.toNat : Nat) : Int) = c by omega] at this
  exact Evp.bind this fun l hl => Evp.pure _ ⟨by have := hl.2; omega, .inl ⟨h3, h4, hl.1⟩⟩
end Go.Proofs.Ytgmjolngnhdafaa.Kit

end
section
namespace Go.Proofs.Ytgmjolngnhdafaa.Kit
open Go Go.RowKit Go.Proofs.YtgmjolngnhdafaaW.PrintWords Go.Proofs.Ytgmjolngnhdafaa.P
set_option linter.unusedVariables false
theorem leInts_same {l : List Int} (hl : l.length ≤ 1048576) : Evp (fun k => laws_leInts.f k l l) (fun r => r = true) := by
  unfold laws_leInts.f
  refine Evp.yes rfl ?_
  refine Evp.for_ (n := l.length) (g := fun i k => laws_leInts.l0 k l l (i : Int)) (R := fun _ r => r = true) ?_ (fun i hi ih => ?_) 0 (Nat.zero_le _)
  · exact Evp.step (f := fun k => _) (fun k => by rw [laws_leInts.l0]) (Evp.no (by omega) (Evp.pure _ rfl))
  · refine Evp.step (f := fun k => _) (fun k => by rw [laws_leInts.l0]) (Evp.yes (by omega) (Evp.yes (by omega) (Evp.yes (by omega) (Evp.yes rfl ?_))))
    rw [w64' hi (by omega)]
    exact ih
theorem drawFields_evp {l : List Int} (h : ∀ x ∈ l, (Lit.int .u8 x).wf = true) :
    Evp (fun k => spec_DrawClassFields.f k l) (fun r => Drawn 4 9 r.1 ∧ (-1 ≤ r.2 ∧ r.2 ≤ 10)) := by
  obtain ⟨bs, ho, hb⟩ := open_evp h
  unfold spec_DrawClassFields.f
  simp only [ho, Option.bind_some]
  refine Evp.bind (off_evp hb (by omega) (by omega)) fun d hd => ?_
  obtain ⟨hd1, hd2, hd3⟩ := hd
  have hl := hd1.1
  have hl9 := hd1.2.1
  rw [w64 (by omega) (by omega)]
  refine Evp.bind (pick_evp hb hd2 (by omega) (by omega)) fun a ha => Evp.bind (pick_evp hb (by omega) (by omega) (by omega)) fun b hb' => Evp.pure _ ⟨hd1, ?_⟩
  have h1 := ha.2.1 (by omega)
  have h2 := hb'.2.1 (by omega)
  have h3 := ha.1
  have h4 := hb'.1
  dsimp only
  rw [tdiv_pos h4, w64 (n := b.1 / 23) (by omega) (by omega), w64 (by omega) (by omega)]
  omega
end Go.Proofs.Ytgmjolngnhdafaa.Kit
namespace Go.Proofs.Ytgmjolngnhdafaa.Pure
open Go Go.RowKit Go.Proofs.YtgmjolngnhdafaaW.PrintWords Go.Proofs.Ytgmjolngnhdafaa.P Go.Proofs.Ytgmjolngnhdafaa.Kit
theorem FnFieldsAbove : laws_FnFieldsAbove.Pure := by
  intro l0 _ _ hb
  refine Evp.rounds ?_
  unfold laws_FnFieldsAbove.f
  refine Evp.ite (fun _ => Evp.pure _ rfl) (fun _ => Evp.bind (drawFields_evp hb) fun d hd => ?_)
  have hs : SmallC d.1 := hd.1.small (by decide) (by decide)
  refine Evp.bind (impl_ClassFields' hs _) fun u hu => Evp.bind (spec_ClassFields' hs _) fun v hv => ?_
  have e := hu.fn hv
  subst e
  have hlen : u.length ≤ 1048576 := Nat.le_trans hu.1 (by decide)
  refine Evp.bind (leInts_same hlen) fun t ht => Evp.yes ht ?_
  have j : ∀ x : Bool, (x = false → (ClsOk d.1 ∧ 0 ≤ d.2 ∧ d.2 < (d.1.length : Int)) ∧ d.2 ≠ 0) → Evp (fun k => laws_FnFieldsAbove.j0 k d.1 d.2 u x) (fun r => r = true) := by
    intro x hx
    refine Evp.step (f := fun k => _) (fun k => by rw [laws_FnFieldsAbove.j0]) ?_
    cases x with
    | true =>
      refine Evp.yes rfl (Evp.bind (spec_ClassFields' hs _) fun v' hv' => ?_)
      rw [← hu.fn hv']
      exact Evp.bind (leInts_same hlen) fun t ht => Evp.pure _ ht
    | false =>
      obtain ⟨⟨hok, ha, ha'⟩, hne⟩ := hx rfl
      refine Evp.no (by decide) (Evp.yes ha (Evp.yes ha' ?_))
      obtain ⟨p, hp, hlt⟩ := hok.sup_nat (i := d.2.toNat) (by omega) (by omega)
      have e0 : (rd_T38 d.1 d.2).f0 = (p : Int) := hp
      have e1 : (rd_T38 d.1 d.2).f1 = flds d.1 d.2.toNat := rfl
      have hl2 := hok.len2 (i := d.2.toNat) (by omega)
      rw [e0, e1]
      refine Evp.bind (impl_ClassFields' hs _) fun w hw => ?_
      have hw10 := hw.1
      simp only [Option.bind_some]
      refine Evp.yes (by simp; omega) (Evp.yes (by simp; omega) ?_)
      rw [List.nil_append]
      have : u = w ++ flds d.1 d.2.toNat := by
        rcases hu.2 with h1 | h1
        · rcases hw.2 with h2 | h2
          · have := Flds.step p (by omega) hp (by have := h2.2.2; rwa [Int.toNat_natCast] at this)
            exact h1.2.2.fn this
          · exact absurd ⟨hok, by omega, by omega⟩ h2.1
        · exact absurd ⟨hok, ha, ha'⟩ h1.1
      rw [← this]
      exact Evp.bind (leInts_same hlen) fun t ht => Evp.pure _ ht
  refine Evp.bind (is_evp hs _) fun p hp => Evp.ite (fun h => j _ (fun h' => ⟨hp.1 h, by simpa using h'⟩)) (fun _ => j _ (fun h => by cases h))
end Go.Proofs.Ytgmjolngnhdafaa.Pure

end
section
namespace Go.Proofs.Ytgmjolngnhdafaa.fnFieldsAbove
open Go.ChangeShapes Go.WideShapes Go.ChangeAt Go.RowKit
open Go.ChangeMaps (open_string shut_string)
set_option linter.unusedVariables false
theorem own : ownKnob Try.prog.godebug = none := by kernel_rfl
theorem laidOut : laidOutB Try.prog = true := by kernel_rfl
def IsRow (k : IntKind) (w : World) (a : Option Addr) (len cap : Nat) (zs : List Int) : Prop :=
  (a = none ∧ len = 0 ∧ cap = 0 ∧ zs = []) ∨
  ∃ x, a = some x ∧ len ≤ cap ∧ cap ≤ maxLen ∧ zs.length = cap ∧ (∀ i, i < zs.length → w.cell? (x.add i) = some (.int k (zs.getD i 0))) ∧ ∀ n ∈ zs, (Lit.int k n).wf = true
set_option maxRecDepth 100000 in
theorem lifted (os : Os) (started : os.Started) (H : Type) (enc : TypeId × Value → H) :
    ReturnsInHanded {} Try.checked os 8 .any (Rows.fnFieldsAboveSpec.pre6 enc Try.prog Try.f8 Rows.fnFieldsAboveRow.domain false) (Rows.fnFieldsAboveSpec.post enc Try.prog Try.f8 false true false false) := by
  refine returnsInHanded_of_change_sized (C := Try.checked) own started (by kernel_rfl) Try.func8
    (ChangeSpec.witness6 (enc := enc) (C := Try.checked) false ⟨#[], #[.slice none 0 0], []⟩ 8 (by kernel_rfl) (by kernel_rfl) (by kernel_rfl) (by kernel_rfl)) ?_
  intro W base args ds gs before hval0 hW hcnd hsz0 _
  have hsz : (DataW.weightsEach Try.prog (Try.f8.params.toList ++ Rows.fnFieldsAboveSpec.plain.varTypes Try.prog) (ds ++ gs)).all (· ≤ reachBytes) = true := hsz0
  have hval : ∀ (j : Nat) t v, Try.f8.params[j]? = some t → args[j]? = some v → Value.okWide Try.prog W .any base t v := hval0
  have hW' := hW
  obtain ⟨p, q, hA0, hV, rfl, hfz, hnd⟩ := hW
  have hA : DataW.TrodAll enc Try.prog W 0 (fun _ => true) true Try.f8.params.toList args.toList ds p := hA0
  rw [Try.params8] at hA hval hsz
  obtain ⟨v0, vs0, d0, ds0, p0, q0, hargs, rfl, rfl, h0, r0⟩ := trodAll_cons hA
  obtain ⟨rfl, rfl, rfl⟩ := trodAll_nil r0
  obtain rfl : args = #[v0] := by cases args; simp_all
  obtain ⟨rfl, rfl⟩ := trodVars_none hV
  obtain ⟨a0, len0, cap0, rfl⟩ := okWide_slice Try.underlying31 (hval 0 31 v0 rfl rfl)
  have k0 := h0
  have lt0 : ∀ x ∈ p0, x.block < W.heap.size := by obtain ⟨m, hm⟩ := k0; exact DataW.trod_lt m _ _ _ hm
  obtain ⟨z0, w0⟩ : ∃ zs, IsRow .u8 W a0 len0 cap0 zs := by
    obtain ⟨fuel, hf⟩ := h0
    rcases open_ints Try.underlying31 Try.underlying5 (by kernel_rfl) hf with ⟨hcs, _⟩ | ⟨x, l, c, zs, hcs, _, hl, hm, hz, _, hcell, hwz⟩
    · simp [Value.cells] at hcs
      obtain ⟨rfl, rfl, rfl⟩ := hcs
      exact ⟨[], .inl ⟨rfl, rfl, rfl, rfl⟩⟩
    · simp [Value.cells] at hcs
      obtain ⟨rfl, rfl, rfl⟩ := hcs
      exact ⟨zs, .inr ⟨_, rfl, hl, hm, by simpa using hz, hcell, hwz⟩⟩
  have y0 : len0 * 1 ≤ 140737488351232 := Go.Proofs.YtgmjolngnhdafaaW.PrintWords.sized_ints hsz (j := 0) (t := 31) rfl rfl Try.underlying31 Try.underlying5 (by kernel_rfl) (by kernel_rfl) h0
  clear hA0 hval0 hsz0 hsz
  refine (P.laws_FnFieldsAbove.walk Pure.FnFieldsAbove a0 len0 cap0 z0 W w0 y0).mono fun e W' ⟨he, bel⟩ => ?_
  subst he
  exact ⟨_, rfl, _, _, _, [], _, [], hW', trodAll_mk1 (shut_bool Try.underlying4 _), (trodAll_cons_mk (Below.trod laidOut (by kernel_rfl) (of_decide_eq_true (by kernel_rfl)) k0 bel lt0) trodAll_mk0), rfl, bel.frame _, fun h => by cases h⟩
theorem over : Rows.fnFieldsAboveRow.holds Try.pinned (OpenSpec.ofChange Rows.fnFieldsAboveSpec) :=
  OpenClaim.holds_of_wide 8 Try.f8 rfl rfl rfl rfl rfl rfl rfl ⟨rfl, rfl, rfl, rfl, rfl⟩ rfl rfl rfl rfl rfl (by kernel_rfl) Try.func8 (by show joinedFacts Try.prog _ _ _ _ = true; unfold joinedFacts; rw [Go.Proofs.Ytgmjolngnhdafaa.enter, Go.Proofs.Ytgmjolngnhdafaa.make, Go.Proofs.Ytgmjolngnhdafaa.lifts]; kernel_rfl)
    (of_decide_eq_true (by kernel_rfl)) (by unfold Func.isWrapper; first | (rw [if_pos (by decide +kernel)]; kernel_rfl) | (rw [if_neg (by decide +kernel)]; exact ⟨rfl, rfl⟩))
    (fun os started H enc _ => lifted os started H enc)
theorem proved : Rows.FnFieldsAboveSaid := over
#print axioms proved
end Go.Proofs.Ytgmjolngnhdafaa.fnFieldsAbove
namespace Go.Proofs.Ytgmjolngnhdafaa
/-- The row, under a short name, for the claim. -/
theorem fnFieldsAbove_holds : Rows.FnFieldsAboveSaid := fnFieldsAbove.proved
end Go.Proofs.Ytgmjolngnhdafaa

end
