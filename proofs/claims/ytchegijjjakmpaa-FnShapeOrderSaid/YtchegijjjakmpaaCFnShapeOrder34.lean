/- FnShapeOrder: to stand where another shape is told is an order. -/
import Derived.Test.YtchegijjjakmpaaCFnShapeOrder33
import Derived.Test.YtchegijjjakmpaaCFnShapeOrder22
import Derived.Test.YtchegijjjakmpaaRows
import Derived.Test.YtchegijjjakmpaaCFnShapeOrder32
import Derived.WalkKit
import Derived.ProofKit
import Derived.OpenShut
import Derived.ShutString
import Derived.ChangeOld
import Derived.Below
import Derived.SizedLaws
import Derived.Test.YtchegijjjakmpaaCFnShapeOrder21
import Derived.Test.YtchegijjjakmpaaCFnShapeOrder0
import Derived.Test.YtchegijjjakmpaaCFnShapeOrder1
import Derived.Test.YtchegijjjakmpaaCFnShapeOrder2
import Derived.Test.YtchegijjjakmpaaCFnShapeOrder3
import Derived.Test.YtchegijjjakmpaaCFnShapeOrder4
import Derived.Test.YtchegijjjakmpaaCFnShapeOrder5
import Derived.Test.YtchegijjjakmpaaCFnShapeOrder6
import Derived.Test.YtchegijjjakmpaaCFnShapeOrder7
import Derived.Test.YtchegijjjakmpaaCFnShapeOrder8
import Derived.Test.YtchegijjjakmpaaCFnShapeOrder9
import Derived.Test.YtchegijjjakmpaaCFnShapeOrder10
import Derived.Test.YtchegijjjakmpaaCFnShapeOrder11
import Derived.Test.YtchegijjjakmpaaCFnShapeOrder12
import Derived.Test.YtchegijjjakmpaaCFnShapeOrder13
import Derived.Test.YtchegijjjakmpaaCFnShapeOrder14
import Derived.Test.YtchegijjjakmpaaCFnShapeOrder15
import Derived.Test.YtchegijjjakmpaaCFnShapeOrder16
import Derived.Test.YtchegijjjakmpaaCFnShapeOrder17
import Derived.Test.YtchegijjjakmpaaCFnShapeOrder18
import Derived.Test.YtchegijjjakmpaaCFnShapeOrder19
import Derived.Test.YtchegijjjakmpaaCFnShapeOrder20
import Derived.Test.YtchegijjjakmpaaCFnShapeOrder23
import Derived.Test.YtchegijjjakmpaaCFnShapeOrder24
import Derived.Test.YtchegijjjakmpaaCFnShapeOrder25
import Derived.Test.YtchegijjjakmpaaCFnShapeOrder26
import Derived.Test.YtchegijjjakmpaaCFnShapeOrder27
import Derived.Test.YtchegijjjakmpaaCFnShapeOrder28
import Derived.Test.YtchegijjjakmpaaCFnShapeOrder29
import Derived.Test.YtchegijjjakmpaaCFnShapeOrder30
import Derived.Test.YtchegijjjakmpaaCFnShapeOrder31
section

namespace Go.Proofs.Ytchegijjjakmpaa.Pure
open Go Go.RowKit Go.Proofs.YtchegijjjakmpaaW.PrintWords Go.Proofs.Ytchegijjjakmpaa.P Go.Proofs.Ytchegijjjakmpaa.Kit
theorem leInts_same {l : List Int} (hl : l.length ≤ 1048576) : Evp (fun k => laws_leInts.f k l l) (fun r => r = true) := by
  unfold laws_leInts.f
  refine Evp.yes rfl ?_
  refine Evp.for_ (n := l.length) (g := fun i k => laws_leInts.l0 k l l (i : Int)) (R := fun _ r => r = true) ?_ (fun i hi ih => ?_) 0 (Nat.zero_le _)
  · exact Evp.step (f := fun k => _) (fun k => by rw [laws_leInts.l0]) (Evp.no (by omega) (Evp.pure _ rfl))
  · refine Evp.step (f := fun k => _) (fun k => by rw [laws_leInts.l0]) (Evp.yes (by omega) (Evp.yes (by omega) (Evp.yes (by omega) (Evp.yes rfl ?_))))
    rw [w64' hi (by omega)]
    exact ih
theorem PtIn.refl {cs : List Cls} (l : List Int) : PtIn cs l l := fun _ _ _ => TyIn.refl _
theorem PtIn.trans {cs : List Cls} (h : ClsOk cs) {l l' l'' : List Int} (h1 : ∀ t ∈ l, TyOk cs.length t) (h2 : ∀ t ∈ l', TyOk cs.length t) (h3 : ∀ t ∈ l'', TyOk cs.length t) (e1 : l'.length = l.length) (e2 : l''.length = l.length) (p : PtIn cs l l') (q : PtIn cs l' l'') : PtIn cs l l'' :=
  fun j hj hl => TyIn.trans h (ty_at h1 hl) (ty_at h2 (by omega)) (ty_at h3 (by omega)) (p j hj hl) (q j hj (by omega))
theorem PtIn.antisymm {cs : List Cls} (h : ClsOk cs) {l l' : List Int} (h1 : ∀ t ∈ l, TyOk cs.length t) (h2 : ∀ t ∈ l', TyOk cs.length t) (e1 : l'.length = l.length) (p : PtIn cs l l') (q : PtIn cs l' l) : l = l' := by
  refine List.ext_getElem e1.symm fun i hi hi' => ?_
  have := TyIn.antisymm h (ty_at h1 hi) (ty_at h2 hi') (p i (Nat.zero_le _) hi) (q i (Nat.zero_le _) (by omega))
  rw [getD_at hi, getD_at hi'] at this
  exact this
theorem FnShapeOrder : laws_FnShapeOrder.Pure := by
  intro l0 l1 _ _ hb _ _ _
  refine Evp.rounds ?_
  have triv : Evp (fun k => laws_FnShapeOrder.j0 k l0 l1 true) (fun r => r = true) :=
    Evp.step (f := fun k => _) (fun k => by rw [laws_FnShapeOrder.j0]) (Evp.yes rfl (Evp.pure _ rfl))
  unfold laws_FnShapeOrder.f
  refine Evp.ite (fun _ => triv) (fun _ => ?_)
  by_cases h9 : (l1.length : Int) > 1048576
  · rw [decide_eq_true h9]; exact triv
  rw [decide_eq_false h9]
  refine Evp.step (f := fun k => _) (fun k => by rw [laws_FnShapeOrder.j0]) (Evp.no (by decide) ?_)
  refine Evp.bind (drawIn_evp hb) fun d hd => ?_
  obtain ⟨h1, hl, hm, hl', hm'⟩ := hd
  obtain ⟨cs, a, l, m, b, l', m'⟩ := d
  dsimp only at *
  have hs : SmallC cs := h1.small (by decide) (by decide)
  have c1 := hl.1
  have c2 := hm.1
  have c3 := hl'.1
  have c4 := hm'.1
  refine Evp.bind (impl_ShapeIn' hs hl.len hm.len hl'.len hm'.len hl.i64 hm.i64 hl'.i64 hm'.i64) fun u hu => Evp.bind (spec_ShapeIn' hs hl.len hm.len hl'.len hm'.len) fun v hv => Evp.no (bne_no hv hu) ?_
  refine Evp.step (f := fun k => _) (fun k => by rw [laws_FnShapeOrder.j1]) ?_
  cases u with
  | false =>
    refine Evp.yes rfl (Evp.bind (spec_ShapeIn' hs hl.len hm.len hl'.len hm'.len) fun w hw => Evp.pure _ ?_)
    rw [same_of hu hw]; simp
  | true =>
    obtain ⟨hok, hf, p1, p2⟩ := hu.1 rfl
    have hf0 := hf
    obtain ⟨ha, hb', s1, s2, s3⟩ := hf
    obtain ⟨e1, e2, e3, e4⟩ := shOk_true s1 ha
    obtain ⟨g1, g2, g3, g4⟩ := shOk_true s2 hb'
    have s2' : ShOk cs (l'.length : Int) b l' m' := by rw [g1]; exact s2
    have s1' : ShOk cs (l'.length : Int) a l m := by rw [g1]; exact s1
    refine Evp.no (by decide) ?_
    refine Evp.bind (impl_ShapeIn' hs hl.len hm.len hl.len hm.len hl.i64 hm.i64 hl.i64 hm.i64) fun t1 ht1 => Evp.yes (ht1.2 ⟨hok, ⟨ha, ha, s1, s1, rfl⟩, PtIn.refl _, PtIn.refl _⟩) ?_
    refine Evp.bind (impl_ShapeIn' hs hl'.len hm'.len hl'.len hm'.len hl'.i64 hm'.i64 hl'.i64 hm'.i64) fun t2 ht2 => Evp.yes (ht2.2 ⟨hok, ⟨hb', hb', s2', s2', rfl⟩, PtIn.refl _, PtIn.refl _⟩) ?_
    have fin : Evp (fun k => laws_FnShapeOrder.j2 k l1 cs false a l m b l' m') (fun r => r = true) := by
      refine Evp.step (f := fun k => _) (fun k => by rw [laws_FnShapeOrder.j2]) (Evp.no (by decide) ?_)
      simp only [Option.bind_some, List.nil_append, List.length_nil]
      refine Evp.yes (by omega) (Evp.yes (by omega) ?_)

      have last : ∀ y : List Int, y.length = l'.length → Few y → (∀ t ∈ y, TyOk cs.length t) → PtIn cs l' y → Evp (fun k => (impl_ShapeIn.f k cs b l' m' true y m').bind fun t => if t = true then ((impl_ShapeIn.f k cs a l m true y m').bind fun t' => some t') else some false) (fun r => r = true) := by
        intro y ey fy ty py
        have sy : Short y := ⟨by omega, fy⟩
        have ky : ShOk cs (l'.length : Int) true y m' := .inl ⟨rfl, by omega, g2, ty, g4⟩
        refine Evp.bind (impl_ShapeIn' hs hl'.len hm'.len sy.len hm'.len hl'.i64 hm'.i64 sy.i64 hm'.i64) fun t3 ht3 => Evp.yes (ht3.2 ⟨hok, ⟨hb', rfl, s2', ky, rfl⟩, py, PtIn.refl _⟩) ?_
        refine Evp.bind (impl_ShapeIn' hs hl.len hm.len sy.len hm'.len hl.i64 hm.i64 sy.i64 hm'.i64) fun t4 ht4 => Evp.pure _ (ht4.2 ⟨hok, ⟨ha, rfl, s1, by rw [← g1]; exact ky, s3⟩, ?_, p2⟩)
        exact PtIn.trans hok e3 g3 ty (by omega) (by omega) p1 py
      refine Evp.ite (fun h8 => Evp.no (by omega) ?_) (fun h8 => last l' rfl hl'.2 g3 (PtIn.refl _))
      have hp : (0 : Int) < (l'.length : Int) := by omega
      have m1 := Int.emod_nonneg (l1.length : Int) (b := (l'.length : Int)) (by omega)
      have m2 := Int.emod_lt_of_pos (l1.length : Int) hp
      refine Evp.yes m1 (Evp.yes m2 ?_)
      refine last _ (by rw [List.length_set]) (hl'.2.set (by decide) (by decide)) ?_ ?_
      · intro t ht
        rcases List.mem_or_eq_of_mem_set ht with h | rfl
        · exact g3 t h
        · exact .inl rfl
      · intro j hj hj2
        rw [List.getD_eq_getElem?_getD (l := l'.set _ _), List.getElem?_set]
        split
        · next h => rw [if_pos (by omega)]; exact TyIn.top _
        · rw [← List.getD_eq_getElem?_getD]; exact TyIn.refl _
    refine Evp.bind (impl_ShapeIn' hs hl'.len hm'.len hl.len hm.len hl'.i64 hm'.i64 hl.i64 hm.i64) fun t3 ht3 => Evp.ite (fun h3 => ?_) (fun h3 => fin)
    obtain ⟨_, _, q1, q2⟩ := ht3.1 h3
    have e5 : l = l' := PtIn.antisymm hok e3 g3 (by omega) p1 q1
    have e6 : m = m' := PtIn.antisymm hok (fun t ht => (e4 t ht).1) (fun t ht => (g4 t ht).1) (by omega) p2 q2
    subst e5 e6
    refine Evp.bind (P := fun r => r = true) ?_ fun t4 ht4 => ?_
    · unfold laws_leShape.f
      refine Evp.yes (by rw [ha, hb']; rfl) (Evp.bind (leInts_same hl.len) fun x hx => Evp.yes hx (Evp.bind (leInts_same hm.len) fun y hy => Evp.pure _ hy))
    · rw [ht4]; exact fin
end Go.Proofs.Ytchegijjjakmpaa.Pure

end
section

namespace Go.Proofs.Ytchegijjjakmpaa.fnShapeOrder
open Go.ChangeShapes Go.WideShapes Go.ChangeAt Go.RowKit
open Go.ChangeMaps (open_string shut_string)
set_option linter.unusedVariables false
theorem own : ownKnob Try.prog.godebug = none := by kernel_rfl
theorem laidOut : laidOutB Try.prog = true := by kernel_rfl
def IsRow (k : IntKind) (w : World) (a : Option Addr) (len cap : Nat) (zs : List Int) : Prop :=
  (a = none ∧ len = 0 ∧ cap = 0 ∧ zs = []) ∨
  ∃ x, a = some x ∧ len ≤ cap ∧ cap ≤ maxLen ∧ zs.length = cap ∧ (∀ i, i < zs.length → w.cell? (x.add i) = some (.int k (zs.getD i 0))) ∧ ∀ n ∈ zs, (Lit.int k n).wf = true
set_option maxRecDepth 100000 in
theorem lifted (os : Os) (started : os.Started) (H : Type) (enc : TypeId × Value → H) :
    ReturnsInHanded {} Try.checked os 3 .any (Rows.fnShapeOrderSpec.pre6 enc Try.prog Try.f3 Rows.fnShapeOrderRow.domain false) (Rows.fnShapeOrderSpec.post enc Try.prog Try.f3 false true false false) := by
  refine returnsInHanded_of_change_sized (C := Try.checked) own started (by kernel_rfl) Try.func3
    (ChangeSpec.witness6 (enc := enc) (C := Try.checked) false ⟨#[], #[.slice none 0 0, .slice none 0 0], []⟩ 8 (by kernel_rfl) (by kernel_rfl) (by kernel_rfl) (by kernel_rfl)) ?_
  intro W base args ds gs before hval0 hW hcnd hsz0 _
  have hsz : (DataW.weightsEach Try.prog (Try.f3.params.toList ++ Rows.fnShapeOrderSpec.plain.varTypes Try.prog) (ds ++ gs)).all (· ≤ reachBytes) = true := hsz0
  have hval : ∀ (j : Nat) t v, Try.f3.params[j]? = some t → args[j]? = some v → Value.okWide Try.prog W .any base t v := hval0
  have hW' := hW
  obtain ⟨p, q, hA0, hV, rfl, hfz, hnd⟩ := hW
  have hA : DataW.TrodAll enc Try.prog W 0 (fun _ => true) true Try.f3.params.toList args.toList ds p := hA0
  rw [Try.params3] at hA hval hsz
  obtain ⟨v0, vs0, d0, ds0, p0, q0, hargs, rfl, rfl, h0, r0⟩ := trodAll_cons hA
  obtain ⟨v1, vs1, d1, ds1, p1, q1, rfl, rfl, rfl, h1, r1⟩ := trodAll_cons r0
  obtain ⟨rfl, rfl, rfl⟩ := trodAll_nil r1
  obtain rfl : args = #[v0, v1] := by cases args; simp_all
  obtain ⟨rfl, rfl⟩ := trodVars_none hV
  obtain ⟨a0, len0, cap0, rfl⟩ := okWide_slice Try.underlying22 (hval 0 22 v0 rfl rfl)
  have k0 := h0
  have lt0 : ∀ x ∈ p0, x.block < W.heap.size := by obtain ⟨m, hm⟩ := k0; exact DataW.trod_lt m _ _ _ hm
  obtain ⟨z0, w0⟩ : ∃ zs, IsRow .u8 W a0 len0 cap0 zs := by
    obtain ⟨fuel, hf⟩ := h0
    rcases open_ints Try.underlying22 Try.underlying5 (by kernel_rfl) hf with ⟨hcs, _⟩ | ⟨x, l, c, zs, hcs, _, hl, hm, hz, _, hcell, hwz⟩
    · simp [Value.cells] at hcs
      obtain ⟨rfl, rfl, rfl⟩ := hcs
      exact ⟨[], .inl ⟨rfl, rfl, rfl, rfl⟩⟩
    · simp [Value.cells] at hcs
      obtain ⟨rfl, rfl, rfl⟩ := hcs
      exact ⟨zs, .inr ⟨_, rfl, hl, hm, by simpa using hz, hcell, hwz⟩⟩
  have y0 : len0 * 1 ≤ 140737488351232 := Go.Proofs.YtchegijjjakmpaaW.PrintWords.sized_ints hsz (j := 0) (t := 22) rfl rfl Try.underlying22 Try.underlying5 (by kernel_rfl) (by kernel_rfl) h0
  obtain ⟨a1, len1, cap1, rfl⟩ := okWide_slice Try.underlying22 (hval 1 22 v1 rfl rfl)
  have k1 := h1
  have lt1 : ∀ x ∈ p1, x.block < W.heap.size := by obtain ⟨m, hm⟩ := k1; exact DataW.trod_lt m _ _ _ hm
  obtain ⟨z1, w1⟩ : ∃ zs, IsRow .u8 W a1 len1 cap1 zs := by
    obtain ⟨fuel, hf⟩ := h1
    rcases open_ints Try.underlying22 Try.underlying5 (by kernel_rfl) hf with ⟨hcs, _⟩ | ⟨x, l, c, zs, hcs, _, hl, hm, hz, _, hcell, hwz⟩
    · simp [Value.cells] at hcs
      obtain ⟨rfl, rfl, rfl⟩ := hcs
      exact ⟨[], .inl ⟨rfl, rfl, rfl, rfl⟩⟩
    · simp [Value.cells] at hcs
      obtain ⟨rfl, rfl, rfl⟩ := hcs
      exact ⟨zs, .inr ⟨_, rfl, hl, hm, by simpa using hz, hcell, hwz⟩⟩
  have y1 : len1 * 1 ≤ 140737488351232 := Go.Proofs.YtchegijjjakmpaaW.PrintWords.sized_ints hsz (j := 1) (t := 22) rfl rfl Try.underlying22 Try.underlying5 (by kernel_rfl) (by kernel_rfl) h1
  clear hA0 hval0 hsz0 hsz
  refine (P.laws_FnShapeOrder.walk Pure.FnShapeOrder a0 len0 cap0 z0 a1 len1 cap1 z1 W w0 y0 w1 y1).mono fun e W' ⟨he, bel⟩ => ?_
  subst he
  exact ⟨_, rfl, _, _, _, [], _, [], hW', trodAll_mk1 (shut_bool Try.underlying4 _), (trodAll_cons_mk (Below.trod laidOut (by kernel_rfl) (of_decide_eq_true (by kernel_rfl)) k0 bel lt0) (trodAll_cons_mk (Below.trod laidOut (by kernel_rfl) (of_decide_eq_true (by kernel_rfl)) k1 bel lt1) trodAll_mk0)), rfl, bel.frame _, fun h => by cases h⟩
theorem over : Rows.fnShapeOrderRow.holds Try.pinned (OpenSpec.ofChange Rows.fnShapeOrderSpec) :=
  OpenClaim.holds_of_wide 3 Try.f3 rfl rfl rfl rfl rfl rfl rfl ⟨rfl, rfl, rfl, rfl, rfl⟩ rfl rfl rfl rfl rfl (by kernel_rfl) Try.func3 (by show joinedFacts Try.prog _ _ _ _ = true; unfold joinedFacts; rw [Go.Proofs.Ytchegijjjakmpaa.enter, Go.Proofs.Ytchegijjjakmpaa.make, Go.Proofs.Ytchegijjjakmpaa.lifts]; kernel_rfl)
    (of_decide_eq_true (by kernel_rfl)) (by unfold Func.isWrapper; first | (rw [if_pos (by decide +kernel)]; kernel_rfl) | (rw [if_neg (by decide +kernel)]; exact ⟨rfl, rfl⟩))
    (fun os started H enc _ => lifted os started H enc)
theorem proved : Rows.FnShapeOrderSaid := over
#print axioms proved
end Go.Proofs.Ytchegijjjakmpaa.fnShapeOrder
namespace Go.Proofs.Ytchegijjjakmpaa
theorem fnShapeOrder_holds : Rows.FnShapeOrderSaid := fnShapeOrder.proved
end Go.Proofs.Ytchegijjjakmpaa

end
