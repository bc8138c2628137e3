/- FnExactHeapGraph: for all things and roots (of at most 2^20 values together; for more the law answers true at once) the program's HeapGraph answers as the reference does, writes into no argument and keeps nothing of one, and its answer owns its memory; the one condition is that a list has no more than 2^63 - 1 elements. -/
import Derived.Test.YteeakklnlcjgbaaCFnExactHeapGraph20
import Derived.Deep.Slices
import Derived.Lib.SmallJoins
import Derived.DataReads
import Derived.WideShapes
import Derived.Test.YteeakklnlcjgbaaCFnExactHeapGraph21
import Derived.Test.YteeakklnlcjgbaaCFnExactHeapGraph22
import Derived.Test.YteeakklnlcjgbaaRows
import Derived.Test.YteeakklnlcjgbaaCFnExactHeapGraph26
import Derived.WalkKit
import Derived.ProofKit
import Derived.OpenShut
import Derived.ShutString
import Derived.ChangeOld
import Derived.Below
import Derived.SizedLaws
import Derived.Test.YteeakklnlcjgbaaCFnExactHeapGraph0
import Derived.Test.YteeakklnlcjgbaaCFnExactHeapGraph1
import Derived.Test.YteeakklnlcjgbaaCFnExactHeapGraph2
import Derived.Test.YteeakklnlcjgbaaCFnExactHeapGraph3
import Derived.Test.YteeakklnlcjgbaaCFnExactHeapGraph4
import Derived.Test.YteeakklnlcjgbaaCFnExactHeapGraph5
import Derived.Test.YteeakklnlcjgbaaCFnExactHeapGraph6
import Derived.Test.YteeakklnlcjgbaaCFnExactHeapGraph7
import Derived.Test.YteeakklnlcjgbaaCFnExactHeapGraph8
import Derived.Test.YteeakklnlcjgbaaCFnExactHeapGraph9
import Derived.Test.YteeakklnlcjgbaaCFnExactHeapGraph10
import Derived.Test.YteeakklnlcjgbaaCFnExactHeapGraph11
import Derived.Test.YteeakklnlcjgbaaCFnExactHeapGraph12
import Derived.Test.YteeakklnlcjgbaaCFnExactHeapGraph13
import Derived.Test.YteeakklnlcjgbaaCFnExactHeapGraph14
import Derived.Test.YteeakklnlcjgbaaCFnExactHeapGraph15
import Derived.Test.YteeakklnlcjgbaaCFnExactHeapGraph16
import Derived.Test.YteeakklnlcjgbaaCFnExactHeapGraph17
import Derived.Test.YteeakklnlcjgbaaCFnExactHeapGraph18
import Derived.Test.YteeakklnlcjgbaaCFnExactHeapGraph19
import Derived.Test.YteeakklnlcjgbaaCFnExactHeapGraph23
import Derived.Test.YteeakklnlcjgbaaCFnExactHeapGraph24
import Derived.Test.YteeakklnlcjgbaaCFnExactHeapGraph25
section

namespace Go.Proofs.Yteeakklnlcjgbaa.Open
open Go Go.RowKit Go.ChangeShapes Go.WideShapes Go.Deep Go.Proofs.YteeakklnlcjgbaaW.PrintWords
set_option linter.unusedVariables false
set_option linter.unusedSectionVars false
theorem list_of {α : Type} {n : Nat} {p : Nat → α → Prop} (h : ∀ i, i < n → ∃ x, p i x) : ∃ xs : List α, xs.length = n ∧ ∀ i y, xs[i]? = some y → p i y := by
  induction n with
  | zero => exact ⟨[], rfl, fun i y hy => by simp at hy⟩
  | succ q ih =>
    obtain ⟨xs, hl, hxs⟩ := ih (fun i hi => h i (by omega))
    obtain ⟨z, hz⟩ := h q (by omega)
    refine ⟨xs ++ [z], by simp [hl], fun i y hy => ?_⟩
    by_cases hi : i < xs.length
    · rw [List.getElem?_append_left hi] at hy
      exact hxs i y hy
    · rw [List.getElem?_append_right (by omega)] at hy
      have hi2 : i = xs.length := by
        have := (List.getElem?_eq_some_iff.1 hy).1
        simp at this
        omega
      subst hi2
      simp at hy
      subst hy
      rw [hl]
      exact hz
section
variable {H : Type} {enc : TypeId × Value → H} {P : Program} {w : World} {base : Nat} {spare : Nat → Bool} {held : Bool}
def Opens {H : Type} (enc : TypeId × Value → H) (P : Program) (w : World) (base : Nat) (spare : Nat → Bool) (held : Bool) {α : Type} (t : TypeId) (d : Kd α) (wf : α → Prop) : Prop :=
  ∀ (fuel : Nat) (cs : List Value) (x : DataW H × List MemPlace), DataW.trod enc P w base spare held fuel t cs = some x → ∃ a, d.K w a cs ∧ wf a
theorem opens_int {k : IntKind} {t : TypeId} (hu : P.underlying t = some (.int k)) : Opens enc P w base spare held t (Kd.int k) (fun n => (Lit.int k n).wf = true) := by
  intro fuel cs x h
  obtain ⟨n, rfl, _, hw⟩ := DataW.trod_int hu h
  exact ⟨n, rfl, hw⟩
theorem opens_bool {t : TypeId} (hu : P.underlying t = some .bool) : Opens enc P w base spare held t Kd.bool (fun _ => True) := by
  intro fuel cs x h
  obtain ⟨b, rfl, _⟩ := DataW.trod_bool hu h
  exact ⟨b, rfl, trivial⟩
theorem cells_get {base n : Nat} {a : Addr} {cs : List Value} (h : w.cells? base a n = some cs) : cs.length = n ∧ ∀ i u, cs[i]? = some u → w.cell? (a.add i) = some u := by
  obtain ⟨hb, hl, hc⟩ := World.cells?_some h
  refine ⟨hl, fun i u hu => ?_⟩
  have hi : i < cs.length := (List.getElem?_eq_some_iff.1 hu).1
  rw [hc i (by omega), hu]
theorem opens_slice {α : Type} {d : Kd α} {wf : α → Prop} {t e : TypeId} (hu : P.underlying t = some (.slice e)) (hc : P.cellsOf e = d.sz) (ho : Opens enc P w base spare held e d wf) :
    Opens enc P w base spare held t (Kd.slice e d) (fun xs => xs.length ≤ 9223372036854775807 ∧ ∀ x ∈ xs, wf x) := by
  intro fuel cs x h
  rcases open_slice hu h with ⟨rfl, _⟩ | ⟨a, len, cap, m, n, D, Pl, rfl, _, hlc, hcm, hm, _, hel⟩
  · exact ⟨[], ⟨none, 0, rfl, Nat.le_refl 0, rfl, Nat.zero_le _, fun hp => absurd hp (Nat.lt_irrefl 0)⟩, Nat.zero_le _, fun x hx => by cases hx⟩
  · have hlm : len ≤ m := by rw [hm]; split <;> omega
    obtain ⟨xs, hxl, hxs⟩ := list_of (p := fun i y => ∃ c, w.cells? base (a.add (i * P.cellsOf e)) (P.cellsOf e) = some c ∧ d.K w y c ∧ wf y) (fun i hi => by
      obtain ⟨cs', h1, h2⟩ := hel i (by omega)
      obtain ⟨y, hy, hw⟩ := ho n cs' _ h2
      exact ⟨y, cs', h1, hy, hw⟩ : ∀ i, i < len → _)
    have hmax : len ≤ 9223372036854775807 := by unfold maxLen at hcm; omega
    subst hxl
    refine ⟨xs, ⟨some a, cap, rfl, hlc, rfl, hmax, fun _ => ⟨a, rfl, fun j p hj => ?_⟩⟩, hmax, fun y hy => ?_⟩
    · obtain ⟨c, h1, h2, _⟩ := hxs j p hj
      rw [hc] at h1
      obtain ⟨h3, h4⟩ := cells_get h1
      exact ⟨c, h3, h2, fun i u hu => by rw [← Go.Deep.add_add]; exact h4 i u hu⟩
    · obtain ⟨i, hi⟩ := List.getElem?_of_mem hy
      obtain ⟨_, _, _, h3⟩ := hxs i y hi
      exact h3
def OpensF {H : Type} (enc : TypeId × Value → H) (P : Program) (w : World) (base : Nat) (spare : Nat → Bool) (held : Bool) {β : Type} (fs : List Field) (off : Nat) (d : Kd β) (wf : β → Prop) : Prop :=
  ∀ (fuel : Nat) (cs : List Value), cs.length = off + d.sz → (∀ f ∈ fs, ∃ y, DataW.trod enc P w base spare held fuel f.type ((cs.drop f.offset).take (P.cellsOf f.type)) = some y) → ∃ b, d.K w b (cs.drop off) ∧ wf b
theorem opensF_one {α : Type} {d : Kd α} {wf : α → Prop} {f : Field} {off : Nat} (ho : f.offset = off) (hc : P.cellsOf f.type = d.sz) (h : Opens enc P w base spare held f.type d wf) : OpensF enc P w base spare held [f] off d wf := by
  intro fuel cs hl hf
  obtain ⟨y, hy⟩ := hf f (by simp)
  rw [ho, hc, List.take_of_length_le (by simp; omega)] at hy
  exact h fuel _ _ hy
theorem opensF_cons {α β : Type} {d : Kd α} {d2 : Kd β} {wf : α → Prop} {wf2 : β → Prop} {f : Field} {fs : List Field} {off off2 : Nat} (ho : f.offset = off) (hc : P.cellsOf f.type = d.sz) (h2 : off2 = off + d.sz)
    (h : Opens enc P w base spare held f.type d wf) (hr : OpensF enc P w base spare held fs off2 d2 wf2) : OpensF enc P w base spare held (f :: fs) off (Kd.pair d d2) (fun p => wf p.1 ∧ wf2 p.2) := by
  intro fuel cs hl hf
  have hl' : cs.length = off + (d.sz + d2.sz) := hl
  obtain ⟨y, hy⟩ := hf f (by simp)
  rw [ho, hc] at hy
  obtain ⟨a, ha, hwa⟩ := h fuel _ _ hy
  obtain ⟨b, hb, hwb⟩ := hr fuel cs (by omega) (fun g hg => hf g (by simp [hg]))
  refine ⟨(a, b), ⟨_, _, ?_, ha, hb⟩, hwa, hwb⟩
  rw [h2, ← List.drop_drop]
  exact (List.take_append_drop d.sz (cs.drop off)).symm
theorem opens_struct {α β : Type} {d : Kd β} {wf : β → Prop} {t : TypeId} {fs : Array Field} (hu : P.underlying t = some (.struct fs)) (hc : P.cellsOf t = d.sz) (h : OpensF enc P w base spare held fs.toList 0 d wf) (f : α → β) (g : β → α) (hfg : ∀ b, f (g b) = b) :
    Opens enc P w base spare held t (Kd.iso d f) (fun a => wf (f a)) := by
  intro fuel cs x hx
  obtain ⟨xs, n, _, _, hl, hxl, hfs⟩ := DataW.trod_struct hu hx
  obtain ⟨b, hb, hwb⟩ := h n cs (by omega) (fun q hq => by
    obtain ⟨i, hi⟩ := List.getElem?_of_mem hq
    rw [Array.getElem?_toList] at hi
    have hlt : i < xs.length := by rw [hxl]; exact (Array.getElem?_eq_some_iff.1 hi).1
    rw [hfs i q hi, List.getElem?_eq_getElem hlt]
    exact ⟨_, rfl⟩)
  exact ⟨g b, by show d.K w (f (g b)) cs; rw [hfg]; exact hb, by show wf (f (g b)); rw [hfg]; exact hwb⟩
theorem opens_arg {α : Type} {d : Kd α} {wf : α → Prop} {t : TypeId} {v : Value} {x : DataW H} {ps : List MemPlace} (h : DataW.Trod enc P w base spare held t v x ps) (ho : Opens enc P w base spare held t d wf) : ∃ a, d.K w a v.cells.toList ∧ wf a := by
  obtain ⟨fuel, hf⟩ := h
  exact ho fuel _ _ hf
end
end Go.Proofs.Yteeakklnlcjgbaa.Open

end
section

namespace Go.Proofs.Yteeakklnlcjgbaa.P
open Go.RowKit Go.Proofs.YteeakklnlcjgbaaW.PrintWords Go.Proofs.Yteeakklnlcjgbaa.Open
def wfS62 (x : S62) : Prop := (True) ∧ ((Lit.int .i64 x.f1).wf = true)
theorem opens62 (H : Type) (enc : TypeId × Value → H) (w : World) (base : Nat) (spare : Nat → Bool) (held : Bool) : Opens enc Try.prog w base spare held 62 k62 wfS62 :=
  opens_struct Try.underlying62 (by kernel_rfl) (opensF_cons rfl (by kernel_rfl) rfl (opens_bool Try.underlying4) (opensF_one rfl (by kernel_rfl) (opens_int Try.underlying3))) (fun x : S62 => (x.f0, x.f1)) (fun p => ⟨p.1, p.2⟩) (fun _ => rfl)
def wfS58 (x : S58) : Prop := ((Lit.int .i64 x.f0).wf = true) ∧ ((x.f1.length ≤ 9223372036854775807 ∧ ∀ y ∈ x.f1, wfS62 y))
theorem opens58 (H : Type) (enc : TypeId × Value → H) (w : World) (base : Nat) (spare : Nat → Bool) (held : Bool) : Opens enc Try.prog w base spare held 58 k58 wfS58 :=
  opens_struct Try.underlying58 (by kernel_rfl) (opensF_cons rfl (by kernel_rfl) rfl (opens_int Try.underlying3) (opensF_one rfl (by kernel_rfl) (opens_slice Try.underlying29 (by kernel_rfl) (opens62 H enc w base spare held)))) (fun x : S58 => (x.f0, x.f1)) (fun p => ⟨p.1, p.2⟩) (fun _ => rfl)
end Go.Proofs.Yteeakklnlcjgbaa.P

end
section

namespace Go.Proofs.Yteeakklnlcjgbaa.P
open Go.RowKit Go.Proofs.YteeakklnlcjgbaaW.PrintWords
def laws_FnExactHeapGraph.Pure : Prop := ∀ (l0 : List (S58)) (l1 : List (S62)), ((l0.length ≤ 9223372036854775807 ∧ ∀ y ∈ l0, wfS58 y)) → ((l1.length ≤ 9223372036854775807 ∧ ∀ y ∈ l1, wfS62 y)) → ∃ k, laws_FnExactHeapGraph.f k l0 l1 = some true
end Go.Proofs.Yteeakklnlcjgbaa.P

end
section

namespace Go.Proofs.Yteeakklnlcjgbaa.Kit
open Go Go.RowKit Go.Proofs.YteeakklnlcjgbaaW.PrintWords
set_option linter.unusedVariables false
def Evp {α : Type} (g : Nat → Option α) (P : α → Prop) : Prop := ∃ r, Ev g r ∧ P r
theorem Evp.pure {α : Type} {P : α → Prop} (r : α) (h : P r) : Evp (fun _ => some r) P := ⟨r, Ev.now r, h⟩
theorem Evp.bind {α β : Type} {g : Nat → Option α} {f : Nat → α → Option β} {P : α → Prop} {Q : β → Prop} (h : Evp g P) (k : ∀ a, P a → Evp (fun n => f n a) Q) : Evp (fun n => (g n).bind (f n)) Q := by
  obtain ⟨a, ha, hp⟩ := h
  obtain ⟨r, hr, hq⟩ := k a hp
  exact ⟨r, Ev.bind ha hr, hq⟩
theorem Evp.step {α : Type} {g f : Nat → Option α} {P : α → Prop} (h : ∀ k, g (k + 1) = f k) (k : Evp f P) : Evp g P := by
  obtain ⟨r, hr, hp⟩ := k
  exact ⟨r, Ev.step h hr, hp⟩
theorem Evp.congr {α : Type} {g f : Nat → Option α} {P : α → Prop} (h : ∀ k, g k = f k) (k : Evp f P) : Evp g P := by
  obtain ⟨r, hr, hp⟩ := k
  exact ⟨r, Ev.congr h hr, hp⟩
theorem Evp.mono {α : Type} {g : Nat → Option α} {P Q : α → Prop} (h : Evp g P) (hpq : ∀ r, P r → Q r) : Evp g Q := by
  obtain ⟨r, hr, hp⟩ := h
  exact ⟨r, hr, hpq r hp⟩
theorem Evp.yes {α : Type} {c : Prop} [Decidable c] {f g : Nat → Option α} {P : α → Prop} (hc : c) (h : Evp f P) : Evp (fun n => if c then f n else g n) P := by
  simp only [if_pos hc]; exact h
theorem Evp.no {α : Type} {c : Prop} [Decidable c] {f g : Nat → Option α} {P : α → Prop} (hc : ¬ c) (h : Evp g P) : Evp (fun n => if c then f n else g n) P := by
  simp only [if_neg hc]; exact h
theorem Evp.ite {α : Type} {c : Prop} [Decidable c] {f g : Nat → Option α} {P : α → Prop} (h : c → Evp f P) (k : ¬ c → Evp g P) : Evp (fun n => if c then f n else g n) P := by
  by_cases hc : c
  · exact Evp.yes hc (h hc)
  · exact Evp.no hc (k hc)
theorem Ev.of_evp {α : Type} {g : Nat → Option α} {r : α} (h : Evp g (fun x => x = r)) : Ev g r := by
  obtain ⟨x, hx, rfl⟩ := h
  exact hx
theorem Evp.rounds {α : Type} {g : Nat → Option α} {r : α} (h : Evp g (fun x => x = r)) : ∃ k, g k = some r := (Ev.of_evp h).rounds
theorem Evp.for_ {ρ : Type} {n : Nat} {g : Nat → Nat → Option ρ} {R : Nat → ρ → Prop} (hend : Evp (g n) (R n)) (hstep : ∀ i, i < n → Evp (g (i + 1)) (R (i + 1)) → Evp (g i) (R i)) : ∀ i, i ≤ n → Evp (g i) (R i) := by
  have key : ∀ d i, i + d = n → Evp (g i) (R i) := by
    intro d
    induction d with
    | zero => intro i hi; have : i = n := by omega
              subst this; exact hend
    | succ d ih => intro i hi; exact hstep i (by omega) (ih (i + 1) (by omega))
  intro i hi
  exact key (n - i) i (by omega)
theorem Evp.fors {σ ρ : Type} {n : Nat} {g : Nat → σ → Nat → Option ρ} {I : Nat → σ → Prop} {R : Nat → σ → ρ → Prop} (hend : ∀ s, I n s → Evp (g n s) (R n s))
    (hstep : ∀ i, i < n → (∀ s, I (i + 1) s → Evp (g (i + 1) s) (R (i + 1) s)) → ∀ s, I i s → Evp (g i s) (R i s)) : ∀ i, i ≤ n → ∀ s, I i s → Evp (g i s) (R i s) := by
  have key : ∀ d i, i + d = n → ∀ s, I i s → Evp (g i s) (R i s) := by
    intro d
    induction d with
    | zero => intro i hi; have : i = n := by omega
              subst this; exact hend
    | succ d ih => intro i hi; exact hstep i (by omega) (ih (i + 1) (by omega))
  intro i hi
  exact key (n - i) i (by omega)
theorem drop_at {α : Type} {xs : List α} {i : Nat} (h : i < xs.length) : xs.drop i = xs[i] :: xs.drop (i + 1) := List.drop_eq_getElem_cons h
theorem getD_at {α : Type} {xs : List α} {i : Nat} (h : i < xs.length) (d : α) : xs.getD i d = xs[i] := by
  rw [List.getD_eq_getElem?_getD, List.getElem?_eq_getElem h]; rfl
theorem w64' {i n : Nat} (h : i < n) (hn : n ≤ 9223372036854775807) : wrap64 ((i : Int) + 1) = ((i + 1 : Nat) : Int) := by unfold wrap64; omega
theorem w64 {n : Int} (h0 : -9223372036854775808 ≤ n) (h1 : n ≤ 9223372036854775807) : wrap64 n = n := by unfold wrap64; omega
end Go.Proofs.Yteeakklnlcjgbaa.Kit

end
section

namespace Go.Proofs.Yteeakklnlcjgbaa.P
open Go.RowKit Go.Proofs.YteeakklnlcjgbaaW.PrintWords Go.Proofs.YteeakklnlcjgbaaW.PrintLast Go.Proofs.YteeakklnlcjgbaaW.PrintMore
attribute [local go_sem] max2_int min2_int max_two min_two max_three min_three max_four min_four
set_option linter.unusedVariables false
set_option linter.unusedSimpArgs false
end Go.Proofs.Yteeakklnlcjgbaa.P

end
section

namespace Go.Proofs.Yteeakklnlcjgbaa.Kit
open Go Go.RowKit Go.Proofs.YteeakklnlcjgbaaW.PrintWords Go.Proofs.Yteeakklnlcjgbaa.P
set_option linter.unusedVariables false
def valOk (n : Nat) (v : S46) : Bool := !v.f0 || (decide (0 ≤ v.f1) && decide (v.f1 ≤ (n : Int)))
def heapOk (objs : List S48) (roots : List S46) : Bool := roots.all (valOk objs.length) && objs.all fun o => o.f1.all (valOk objs.length)
theorem spec_val (v : S46) (n : Nat) : spec_l12Val.f v.f0 v.f1 (n : Int) = some (valOk n v) := by
  obtain ⟨b, x⟩ := v
  unfold spec_l12Val.f valOk spec_l6In.f
  cases b <;> by_cases h1 : 0 ≤ x <;> simp [h1]
theorem impl_val (v : S46) (n : Nat) : impl_leadsOk.f v.f0 v.f1 (n : Int) = some (valOk n v) := by
  obtain ⟨b, x⟩ := v
  unfold impl_leadsOk.f valOk
  cases b <;> by_cases h1 : 0 ≤ x <;> simp [h1]
theorem rd46 {xs : List S46} {i : Nat} (h : i < xs.length) : rd_T46 xs (i : Int) = xs[i] := getD_at h _
theorem rd48 {xs : List S48} {i : Nat} (h : i < xs.length) : rd_T48 xs (i : Int) = xs[i] := getD_at h _
theorem rd58 {xs : List S58} {i : Nat} (h : i < xs.length) : rd_T58 xs (i : Int) = xs[i] := getD_at h _
theorem rd62 {xs : List S62} {i : Nat} (h : i < xs.length) : rd_T62 xs (i : Int) = xs[i] := getD_at h _
def Small (objs : List S48) : Prop := objs.length ≤ 1073741824 ∧ ∀ o ∈ objs, o.f1.length ≤ 1073741824
theorem spec_heap {objs : List S48} {roots : List S46} (ho : Small objs) (hr : roots.length ≤ 1073741824) : Evp (fun k => spec_HeapOk.f k objs roots) (fun r => r = heapOk objs roots) := by
  have h1 : ∀ i, i ≤ objs.length → Evp (fun k => spec_HeapOk.l1 k objs (i : Int)) (fun r => r = (objs.drop i).all fun o => o.f1.all (valOk objs.length)) := by
    refine Evp.for_ ?_ (fun i hi ih => ?_)
    · refine Evp.step (f := fun k => _) (fun k => by rw [spec_HeapOk.l1]) (Evp.no (by omega) (Evp.pure _ (by simp)))
    · refine Evp.step (f := fun k => _) (fun k => by rw [spec_HeapOk.l1]) (Evp.yes (by omega) ?_)
      have hv : objs[i].f1.length ≤ 1073741824 := ho.2 _ (List.getElem_mem hi)
      have ho1 := ho.1
      have h2 : ∀ j, j ≤ objs[i].f1.length → Evp (fun k => spec_HeapOk.l2 k objs (i : Int) (j : Int)) (fun r => r = ((objs[i].f1.drop j).all (valOk objs.length) && (objs.drop (i + 1)).all fun o => o.f1.all (valOk objs.length))) := by
        refine Evp.for_ ?_ (fun j hj ihj => ?_)
        · refine Evp.step (f := fun k => _) (fun k => by rw [spec_HeapOk.l2, rd48 hi]) (Evp.yes (by omega) (Evp.yes (by omega) (Evp.no (by omega) ?_)))
          rw [w64' hi (by omega)]
          simpa using ih
        · refine Evp.step (f := fun k => _) (fun k => by rw [spec_HeapOk.l2, rd48 hi, rd46 hj, spec_val, Option.bind_some]) (Evp.yes (by omega) (Evp.yes (by omega) (Evp.yes (by omega) (Evp.yes (by omega) ?_))))
          rw [w64' hj (by omega), drop_at hj, List.all_cons]
          refine Evp.ite (fun h => ?_) (fun h => Evp.pure _ (by simp [h]))
          simpa [h] using ihj
      rw [drop_at hi, List.all_cons]
      simpa using h2 0 (Nat.zero_le _)
  have h0 : ∀ i, i ≤ roots.length → Evp (fun k => spec_HeapOk.l0 k objs roots (i : Int)) (fun r => r = ((roots.drop i).all (valOk objs.length) && objs.all fun o => o.f1.all (valOk objs.length))) := by
    refine Evp.for_ ?_ (fun i hi ih => ?_)
    · refine Evp.step (f := fun k => _) (fun k => by rw [spec_HeapOk.l0]) (Evp.no (by omega) ?_)
      simpa using h1 0 (Nat.zero_le _)
    · refine Evp.step (f := fun k => _) (fun k => by rw [spec_HeapOk.l0, rd46 hi, spec_val, Option.bind_some]) (Evp.yes (by omega) (Evp.yes (by omega) ?_))
      rw [w64' hi (by omega), drop_at hi, List.all_cons]
      refine Evp.ite (fun h => ?_) (fun h => Evp.pure _ (by simp [h]))
      simpa [h] using ih
  exact h0 0 (Nat.zero_le _)
theorem impl_heap {objs : List S48} {roots : List S46} (ho : Small objs) (hr : roots.length ≤ 1073741824) : Evp (fun k => impl_HeapOk.f k objs roots) (fun r => r = heapOk objs roots) := by
  have h1 : ∀ i, i ≤ objs.length → Evp (fun k => impl_HeapOk.l1 k objs objs (objs.length : Int) (i : Int)) (fun r => r = (objs.drop i).all fun o => o.f1.all (valOk objs.length)) := by
    refine Evp.for_ ?_ (fun i hi ih => ?_)
    · refine Evp.step (f := fun k => _) (fun k => by rw [impl_HeapOk.l1]) (Evp.no (by omega) (Evp.pure _ (by simp)))
    · refine Evp.step (f := fun k => _) (fun k => by rw [impl_HeapOk.l1, rd48 hi]) (Evp.yes (by omega) (Evp.yes (by omega) (Evp.yes (by omega) ?_)))
      have hv : objs[i].f1.length ≤ 1073741824 := ho.2 _ (List.getElem_mem hi)
      have ho1 := ho.1
      have h2 : ∀ j, j ≤ objs[i].f1.length → Evp (fun k => impl_HeapOk.l2 k objs objs (objs.length : Int) (i : Int) objs[i].f1 (objs[i].f1.length : Int) (j : Int)) (fun r => r = ((objs[i].f1.drop j).all (valOk objs.length) && (objs.drop (i + 1)).all fun o => o.f1.all (valOk objs.length))) := by
        refine Evp.for_ ?_ (fun j hj ihj => ?_)
        · refine Evp.step (f := fun k => _) (fun k => by rw [impl_HeapOk.l2]) (Evp.no (by omega) ?_)
          rw [w64' hi (by omega)]
          simpa using ih
        · refine Evp.step (f := fun k => _) (fun k => by rw [impl_HeapOk.l2, rd46 hj, impl_val, Option.bind_some]) (Evp.yes (by omega) (Evp.yes (by omega) (Evp.yes (by omega) ?_)))
          rw [w64' hj (by omega), drop_at hj, List.all_cons]
          refine Evp.ite (fun h => ?_) (fun h => Evp.pure _ (by simp [h]))
          simpa [h] using ihj
      rw [drop_at hi, List.all_cons]
      simpa using h2 0 (Nat.zero_le _)
  have h0 : ∀ i, i ≤ roots.length → Evp (fun k => impl_HeapOk.l0 k objs roots (roots.length : Int) (i : Int)) (fun r => r = ((roots.drop i).all (valOk objs.length) && objs.all fun o => o.f1.all (valOk objs.length))) := by
    refine Evp.for_ ?_ (fun i hi ih => ?_)
    · refine Evp.step (f := fun k => _) (fun k => by rw [impl_HeapOk.l0]) (Evp.no (by omega) ?_)
      simpa using h1 0 (Nat.zero_le _)
    · refine Evp.step (f := fun k => _) (fun k => by rw [impl_HeapOk.l0, rd46 hi, impl_val, Option.bind_some]) (Evp.yes (by omega) (Evp.yes (by omega) (Evp.yes (by omega) ?_)))
      rw [w64' hi (by omega), drop_at hi, List.all_cons]
      refine Evp.ite (fun h => ?_) (fun h => Evp.pure _ (by simp [h]))
      simpa [h] using ih
  exact h0 0 (Nat.zero_le _)
end Go.Proofs.Yteeakklnlcjgbaa.Kit

end
section

namespace Go.Proofs.Yteeakklnlcjgbaa.Kit
open Go Go.RowKit Go.Proofs.YteeakklnlcjgbaaW.PrintWords Go.Proofs.Yteeakklnlcjgbaa.P
set_option linter.unusedVariables false
def comeV (o : List Int) (v : S46) : List Int := if v.f0 = true ∧ v.f1 ≠ 0 ∧ v.f1 ∉ o then o ++ [v.f1] else o
def Inv (n : Nat) (o : List Int) : Prop := o.Nodup ∧ ∀ x ∈ o, 1 ≤ x ∧ x ≤ (n : Int)
theorem nodup_le : ∀ (n : Nat) (o : List Int), o.Nodup → (∀ x ∈ o, 1 ≤ x ∧ x ≤ (n : Int)) → o.length ≤ n
  | 0, [], _, _ => Nat.le_refl _
  | 0, a :: o, _, h => by have := h a (by simp); omega
  | n + 1, o, hd, h => by
    by_cases hm : ((n + 1 : Nat) : Int) ∈ o
    · have h1 := nodup_le n (o.erase ((n + 1 : Nat) : Int)) (hd.erase _) (fun x hx => by
        obtain ⟨h2, h3⟩ := hd.mem_erase_iff.1 hx
        have := h x h3
        omega)
      rw [List.length_erase_of_mem hm] at h1
      omega
    · have := nodup_le n o hd (fun x hx => by
        have h2 := h x hx
        have : x ≠ ((n + 1 : Nat) : Int) := fun e => hm (e ▸ hx)
        omega)
      omega
theorem Inv.len {n : Nat} {o : List Int} (h : Inv n o) : o.length ≤ n := nodup_le n o h.1 h.2
theorem Inv.nil (n : Nat) : Inv n [] := ⟨List.nodup_nil, by simp⟩
theorem valOk_iff {n : Nat} {v : S46} : valOk n v = true ↔ (v.f0 = true → 0 ≤ v.f1 ∧ v.f1 ≤ (n : Int)) := by
  unfold valOk
  cases v.f0 <;> simp
theorem Inv.come {n : Nat} {o : List Int} {v : S46} (h : Inv n o) (hv : valOk n v = true) : Inv n (comeV o v) := by
  unfold comeV
  split
  · rename_i hc
    obtain ⟨h1, h2, h3⟩ := hc
    have h4 := valOk_iff.1 hv h1
    refine ⟨?_, ?_⟩
    · rw [List.nodup_append]
      refine ⟨h.1, by simp, ?_⟩
      intro a ha b hb e
      simp at hb
      subst hb
      subst e
      exact h3 ha
    · intro x hx
      rcases List.mem_append.1 hx with hx | hx
      · exact h.2 x hx
      · simp at hx
        subst hx
        omega
  · exact h
theorem Inv.fold {n : Nat} : ∀ {vs : List S46} {o : List Int}, Inv n o → (∀ v ∈ vs, valOk n v = true) → Inv n (vs.foldl comeV o)
  | [], _, h, _ => h
  | v :: vs, o, h, hv => by
    show Inv n (vs.foldl comeV (comeV o v))
    exact Inv.fold (h.come (hv v (by simp))) (fun u hu => hv u (by simp [hu]))
theorem step_ok {n : Nat} {o : List Int} {v : S46} (h : Inv n o) (hv : valOk n v = true) (hn : n ≤ 1073741824) : g_step (n + 1) o v = some (comeV o v) := by
  have hl := h.len
  unfold g_step comeV
  by_cases h1 : v.f0 = true
  · have h2 := valOk_iff.1 hv h1
    rw [if_pos h1]
    by_cases h3 : v.f1 = 0
    · simp [h3]
    · rw [if_neg h3, if_pos (by omega)]
      by_cases h4 : v.f1 ∈ o
      · simp [h4]
      · rw [if_neg h4, if_pos (by omega), if_pos ⟨h1, h3, h4⟩]
  · rw [if_neg h1, if_neg (fun h => h1 h.1)]
theorem comes_ok {n : Nat} {vs : List S46} (hn : n ≤ 1073741824) (hl : vs.length ≤ 1073741824) (hv : ∀ v ∈ vs, valOk n v = true) : ∀ i, i ≤ vs.length → ∀ o : List Int, Inv n o → Evp (fun k => g_comes k (n + 1) vs (i : Int) o) (fun r => r = (vs.drop i).foldl comeV o) := by
  refine Evp.fors (g := fun i o k => g_comes k (n + 1) vs (i : Int) o) (I := fun _ o => Inv n o) (R := fun i o r => r = (vs.drop i).foldl comeV o) (fun o ho => ?_) (fun i hi ih o ho => ?_)
  · exact Evp.step (f := fun k => _) (fun k => by rw [g_comes]) (Evp.no (by omega) (Evp.pure _ (by simp)))
  · have hvi := hv _ (List.getElem_mem hi)
    refine Evp.step (f := fun k => _) (fun k => by rw [g_comes, rd46 hi, step_ok ho hvi hn, Option.bind_some]) (Evp.yes (by omega) (Evp.yes (by omega) ?_))
    rw [w64' hi (by omega), drop_at hi, List.foldl_cons]
    exact ih _ (ho.come hvi)
def valsAt (objs : List S48) (x : Int) : List S46 := (objs.getD (x - 1).toNat z48).f1
def walkP (objs : List S48) : Nat → Nat → List Int → List Int
  | 0, _, o => o
  | d + 1, i, o => if h : i < o.length then walkP objs d (i + 1) ((valsAt objs o[i]).foldl comeV o) else o
structure Fine (objs : List S48) : Prop where
  n : objs.length ≤ 1073741824
  l : ∀ o ∈ objs, o.f1.length ≤ 1073741824
  v : ∀ o ∈ objs, ∀ v ∈ o.f1, valOk objs.length v = true
theorem valsAt_mem {objs : List S48} {x : Int} (h0 : 1 ≤ x) (h1 : x ≤ (objs.length : Int)) : ∃ h : (x - 1).toNat < objs.length, valsAt objs x = objs[(x - 1).toNat].f1 := by
  have h : (x - 1).toNat < objs.length := by omega
  exact ⟨h, by rw [valsAt, getD_at h]⟩
theorem Fine.vals {objs : List S48} (h : Fine objs) {x : Int} (h0 : 1 ≤ x) (h1 : x ≤ (objs.length : Int)) : (valsAt objs x).length ≤ 1073741824 ∧ ∀ v ∈ valsAt objs x, valOk objs.length v = true := by
  obtain ⟨hlt, e⟩ := valsAt_mem h0 h1
  rw [e]
  exact ⟨h.l _ (List.getElem_mem hlt), h.v _ (List.getElem_mem hlt)⟩
theorem rd_int {o : List Int} {i : Nat} (h : i < o.length) : rd o (i : Int) = o[i] := by simp [rd, h]
theorem rd_obj {objs : List S48} {x : Int} (h0 : 1 ≤ x) (h1 : x ≤ (objs.length : Int)) : (rd_T48 objs (x - 1)).f1 = valsAt objs x := rfl
theorem walk_ok {objs : List S48} (hf : Fine objs) : ∀ d i (o : List Int), Inv objs.length o → objs.length + 1 ≤ i + d → Evp (fun k => g_walk k objs (i : Int) o) (fun r => r = walkP objs d i o)
  | 0, i, o, ho, hd => by
    have := ho.len
    refine Evp.step (f := fun k => _) (fun k => by rw [g_walk]) (Evp.no (by omega) (Evp.pure o rfl))
  | d + 1, i, o, ho, hd => by
    have hn := hf.n
    by_cases hi : i < o.length
    · have hx := ho.2 _ (List.getElem_mem hi)
      have hw : wrap64 (o[i] - 1) = o[i] - 1 := w64 (by omega) (by omega)
      have hlen := ho.len
      have hv := hf.vals hx.1 hx.2
      refine Evp.step (f := fun k => _) (fun k => by rw [g_walk, rd_int hi, hw, rd_obj hx.1 hx.2]) (Evp.yes (by omega) (Evp.yes (by omega) ?_))
      refine Evp.bind (f := fun k o' => g_walk k objs (wrap64 ((i : Int) + 1)) o') (comes_ok hn hv.1 hv.2 0 (Nat.zero_le _) o ho) (fun o' e => ?_)
      subst e
      rw [w64' hi (by omega), walkP, dif_pos hi]
      exact walk_ok hf d (i + 1) _ (ho.fold (by simpa using hv.2)) (by omega)
    · refine Evp.step (f := fun k => _) (fun k => by rw [g_walk]) (Evp.no (by omega) (Evp.pure _ ?_))
      rw [walkP, dif_neg hi]
theorem walk_inv {objs : List S48} (hf : Fine objs) : ∀ d i (o : List Int), Inv objs.length o → Inv objs.length (walkP objs d i o)
  | 0, _, _, h => h
  | d + 1, i, o, h => by
    rw [walkP]
    split
    · rename_i hi
      have hx := h.2 _ (List.getElem_mem hi)
      exact walk_inv hf d (i + 1) _ (h.fold (hf.vals hx.1 hx.2).2)
    · exact h
end Go.Proofs.Yteeakklnlcjgbaa.Kit

end
section

namespace Go.Proofs.Yteeakklnlcjgbaa.Kit
open Go Go.RowKit Go.Proofs.YteeakklnlcjgbaaW.PrintWords Go.Proofs.Yteeakklnlcjgbaa.P
set_option linter.unusedVariables false
def ordP (objs : List S48) (roots : List S46) : List Int := walkP objs (objs.length + 1) 0 (roots.foldl comeV [])
def mv (o : List Int) (v : S46) : S46 := if v.f0 = true then ⟨true, g_num o v.f1⟩ else v
def objP (objs : List S48) (o : List Int) (x : Int) : S48 := ⟨(objs.getD (x - 1).toNat z48).f0, (valsAt objs x).map (mv o)⟩
def graphP (objs : List S48) (roots : List S46) : List S48 × List S46 := ((ordP objs roots).map (objP objs (ordP objs roots)), roots.map (mv (ordP objs roots)))
def HG (objs : List S48) (roots : List S46) : List S48 × List S46 := if heapOk objs roots = true then graphP objs roots else ([], [])
theorem heapOk_iff {objs : List S48} {roots : List S46} : heapOk objs roots = true ↔ (∀ v ∈ roots, valOk objs.length v = true) ∧ ∀ o ∈ objs, ∀ v ∈ o.f1, valOk objs.length v = true := by
  unfold heapOk
  simp [List.all_eq_true]
theorem Fine.of {objs : List S48} {roots : List S46} (hs : Small objs) (h : heapOk objs roots = true) : Fine objs := ⟨hs.1, hs.2, (heapOk_iff.1 h).2⟩
theorem toL_at {n : Nat} {o : List Int} {m : Int} (h0 : 0 ≤ m) (h1 : m ≤ (n : Int)) : rd (g_toL (n + 1) o) m = g_num o m := by
  have h2 : ((m.toNat : Nat) : Int) = m := Int.toNat_of_nonneg h0
  have h3 : m.toNat < n + 1 := by omega
  simp [rd, g_toL, h3, h2]
theorem numL_at {n : Nat} {o : List Int} {m : Int} (h0 : 1 ≤ m) (h1 : m ≤ (n : Int)) : rd (g_numL n o) (m - 1) = g_num o m := by
  obtain ⟨j, rfl⟩ : ∃ j : Nat, m = (j : Int) + 1 := ⟨(m - 1).toNat, by omega⟩
  rw [show (j : Int) + 1 - 1 = (j : Int) by omega]
  have h3 : j < n := by omega
  simp [rd, g_numL, h3]
theorem take_snoc {α β : Type} (f : α → β) (l : List α) {i : Nat} (h : i < l.length) : (l.take i).map f ++ [f l[i]] = (l.take (i + 1)).map f := by
  rw [List.take_succ_eq_append_getElem h, List.map_append]; rfl
theorem move_ok {n : Nat} {o : List Int} {vs : List S46} (hn : n ≤ 1073741824) (hl : vs.length ≤ 1073741824) (hv : ∀ v ∈ vs, valOk n v = true) : Evp (fun k => impl_moveVals.f k vs (g_toL (n + 1) o)) (fun r => r = vs.map (mv o)) := by
  unfold impl_moveVals.f
  have key : ∀ i, i ≤ vs.length → ∀ s : List S46, s = (vs.take i).map (mv o) → Evp (fun k => impl_moveVals.l0 k (g_toL (n + 1) o) s vs (vs.length : Int) (i : Int)) (fun r => r = vs.map (mv o)) := by
    refine Evp.fors (g := fun i s k => impl_moveVals.l0 k (g_toL (n + 1) o) s vs (vs.length : Int) (i : Int)) (I := fun i s => s = (vs.take i).map (mv o)) (R := fun _ _ r => r = vs.map (mv o)) (fun s hs => ?_) (fun i hi ih s hs => ?_)
    · refine Evp.step (f := fun k => _) (fun k => by rw [impl_moveVals.l0]) (Evp.no (by omega) (Evp.pure s ?_))
      rw [hs, List.take_length]
    · have hvi := valOk_iff.1 (hv _ (List.getElem_mem hi))
      have hsl : s.length ≤ vs.length := by rw [hs]; simp; omega
      refine Evp.step (f := fun k => _) (fun k => by rw [impl_moveVals.l0, rd46 hi, length_toL, w64' hi (by omega)]) (Evp.yes (by omega) (Evp.yes (by omega) (Evp.yes (by omega) (Evp.ite (fun hb => ?_) (fun hb => ?_)))))
      · have h2 := hvi hb
        refine Evp.yes (by omega) (Evp.yes (by omega) (Evp.yes (by omega) ?_))
        rw [toL_at h2.1 h2.2]
        refine ih _ ?_
        rw [← take_snoc _ _ hi, hs]
        congr 2
        rw [mv, if_pos hb]
        rw [hb]
      · refine Evp.yes (by omega) (ih _ ?_)
        rw [← take_snoc _ _ hi, hs]
        congr 2
        rw [mv, if_neg hb]
  exact key 0 (Nat.zero_le _) [] (by simp)
theorem mv_ok {n : Nat} {o : List Int} {v : S46} (h0 : (0 : Int) ∉ o) (hn : n ≤ 1073741824) (hv : valOk n v = true) : l12_mv (g_numL n o) v = some (mv o v) := by
  unfold l12_mv mv
  by_cases hb : v.f0 = true
  · have h2 := valOk_iff.1 hv hb
    rw [if_pos hb, if_pos hb]
    by_cases hp : 0 < v.f1
    · have hw : wrap64 (v.f1 - 1) = v.f1 - 1 := w64 (by omega) (by omega)
      rw [if_pos hp, hw, length_numL, if_pos (by omega), numL_at (by omega) h2.2]
    · have : v.f1 = 0 := by omega
      rw [if_neg hp]
      obtain ⟨b, m⟩ := v
      simp only at hb this
      subst hb
      subst this
      simp [g_num, h0]
  · rw [if_neg hb, if_neg hb]
theorem all_ok {n : Nat} {o : List Int} {vs : List S46} (h0 : (0 : Int) ∉ o) (hn : n ≤ 1073741824) (hl : vs.length ≤ 1073741824) (hv : ∀ v ∈ vs, valOk n v = true) : Evp (fun k => l12_all.f k (g_numL n o) vs) (fun r => r = vs.map (mv o)) := by
  unfold l12_all.f
  have key : ∀ i, i ≤ vs.length → ∀ s : List S46, s = (vs.take i).map (mv o) → Evp (fun k => l12_all.l0 k (g_numL n o) vs (i : Int) s) (fun r => r = vs.map (mv o)) := by
    refine Evp.fors (g := fun i s k => l12_all.l0 k (g_numL n o) vs (i : Int) s) (I := fun i s => s = (vs.take i).map (mv o)) (R := fun _ _ r => r = vs.map (mv o)) (fun s hs => ?_) (fun i hi ih s hs => ?_)
    · refine Evp.step (f := fun k => _) (fun k => by rw [l12_all.l0]) (Evp.no (by omega) (Evp.pure s ?_))
      rw [hs, List.take_length]
    · have hsl : s.length ≤ vs.length := by rw [hs]; simp; omega
      refine Evp.step (f := fun k => _) (fun k => by rw [l12_all.l0, rd46 hi, mv_ok h0 hn (hv _ (List.getElem_mem hi)), Option.bind_some, w64' hi (by omega)]) (Evp.yes (by omega) (Evp.yes (by omega) (Evp.yes (by omega) ?_)))
      refine ih _ ?_
      rw [← take_snoc _ _ hi, hs]
  exact key 0 (Nat.zero_le _) [] (by simp)
theorem out_ok {objs : List S48} {o : List Int} (hf : Fine objs) (ho : Inv objs.length o) : Evp (fun k => g_out k objs (g_toL (objs.length + 1) o) o 0 []) (fun r => r = o.map (objP objs o)) := by
  have hn := hf.n
  have hlen := ho.len
  have key : ∀ i, i ≤ o.length → ∀ s : List S48, s = (o.take i).map (objP objs o) → Evp (fun k => g_out k objs (g_toL (objs.length + 1) o) o (i : Int) s) (fun r => r = o.map (objP objs o)) := by
    refine Evp.fors (g := fun i s k => g_out k objs (g_toL (objs.length + 1) o) o (i : Int) s) (I := fun i s => s = (o.take i).map (objP objs o)) (R := fun _ _ r => r = o.map (objP objs o)) (fun s hs => ?_) (fun i hi ih s hs => ?_)
    · refine Evp.step (f := fun k => _) (fun k => by rw [g_out]) (Evp.no (by omega) (Evp.pure s ?_))
      rw [hs, List.take_length]
    · have hx := ho.2 _ (List.getElem_mem hi)
      have hw : wrap64 (o[i] - 1) = o[i] - 1 := w64 (by omega) (by omega)
      have hv := hf.vals hx.1 hx.2
      have hsl : s.length ≤ o.length := by rw [hs]; simp; omega
      refine Evp.step (f := fun k => _) (fun k => by rw [g_out, rd_int hi, hw, rd_obj hx.1 hx.2, w64' hi (by omega)]) (Evp.yes (by omega) (Evp.yes (by omega) ?_))
      refine Evp.bind (f := fun k vs => if s.length < 4398046511104 then g_out k objs (g_toL (objs.length + 1) o) o ((i + 1 : Nat) : Int) (s ++ [(⟨(rd_T48 objs (o[i] - 1)).f0, vs⟩ : S48)]) else none) (move_ok hn hv.1 hv.2) (fun vs e => ?_)
      subst e
      refine Evp.yes (by omega) (ih _ ?_)
      rw [← take_snoc _ _ hi, hs]
      rfl
  exact key 0 (Nat.zero_le _) [] (by simp)
theorem out_ok' {objs : List S48} {o : List Int} (hf : Fine objs) (ho : Inv objs.length o) : Evp (fun k => l12_out k objs (g_numL objs.length o) o 0 []) (fun r => r = o.map (objP objs o)) := by
  have hn := hf.n
  have hlen := ho.len
  have h0 : (0 : Int) ∉ o := fun h => by have := ho.2 _ h; omega
  have key : ∀ i, i ≤ o.length → ∀ s : List S48, s = (o.take i).map (objP objs o) → Evp (fun k => l12_out k objs (g_numL objs.length o) o (i : Int) s) (fun r => r = o.map (objP objs o)) := by
    refine Evp.fors (g := fun i s k => l12_out k objs (g_numL objs.length o) o (i : Int) s) (I := fun i s => s = (o.take i).map (objP objs o)) (R := fun _ _ r => r = o.map (objP objs o)) (fun s hs => ?_) (fun i hi ih s hs => ?_)
    · refine Evp.step (f := fun k => _) (fun k => by rw [l12_out]) (Evp.no (by omega) (Evp.pure s ?_))
      rw [hs, List.take_length]
    · have hx := ho.2 _ (List.getElem_mem hi)
      have hw : wrap64 (o[i] - 1) = o[i] - 1 := w64 (by omega) (by omega)
      have hv := hf.vals hx.1 hx.2
      have hsl : s.length ≤ o.length := by rw [hs]; simp; omega
      refine Evp.step (f := fun k => _) (fun k => by rw [l12_out, rd_int hi, hw, rd_obj hx.1 hx.2, w64' hi (by omega)]) (Evp.yes (by omega) (Evp.yes (by omega) ?_))
      refine Evp.bind (f := fun k vs => if s.length < 4398046511104 then l12_out k objs (g_numL objs.length o) o ((i + 1 : Nat) : Int) (s ++ [(⟨(rd_T48 objs (o[i] - 1)).f0, vs⟩ : S48)]) else none) (all_ok h0 hn hv.1 hv.2) (fun vs e => ?_)
      subst e
      refine Evp.yes (by omega) (ih _ ?_)
      rw [← take_snoc _ _ hi, hs]
      rfl
  exact key 0 (Nat.zero_le _) [] (by simp)
theorem ord_inv {objs : List S48} {roots : List S46} (hf : Fine objs) (hr : ∀ v ∈ roots, valOk objs.length v = true) : Inv objs.length (ordP objs roots) := walk_inv hf _ _ _ ((Inv.nil _).fold hr)
theorem ord_ok {objs : List S48} {roots : List S46} (hf : Fine objs) (hl : roots.length ≤ 1073741824) (hr : ∀ v ∈ roots, valOk objs.length v = true) :
    Evp (fun k => (g_comes k (objs.length + 1) roots 0 []).bind fun o1 => g_walk k objs 0 o1) (fun r => r = ordP objs roots) := by
  refine Evp.bind (f := fun k o1 => g_walk k objs 0 o1) (comes_ok hf.n hl hr 0 (Nat.zero_le _) [] (Inv.nil _)) (fun o1 e => ?_)
  subst e
  exact walk_ok hf (objs.length + 1) 0 _ ((Inv.nil _).fold (by simpa using hr)) (by omega)
theorem impl_graph {objs : List S48} {roots : List S46} (hs : Small objs) (hl : roots.length ≤ 1073741824) : Evp (fun k => impl_HeapGraph.f k objs roots) (fun r => r = HG objs roots) := by
  unfold impl_HeapGraph.f
  refine Evp.bind (f := fun k ok => if ok = true then (if objs.length + 1 < 8796093022208 then ((g_comes k (objs.length + 1) roots 0 []).bind fun o1 => ((g_walk k objs 0 o1).bind fun o => ((g_out k objs (g_toL (objs.length + 1) o) o 0 []).bind fun g => ((impl_moveVals.f k roots (g_toL (objs.length + 1) o)).bind fun r => some (g, r))))) else none) else some ([], [])) (impl_heap hs hl) (fun ok e => ?_)
  subst e
  have hn := hs.1
  unfold HG
  refine Evp.ite (fun h => ?_) (fun h => Evp.pure _ (by rw [if_neg h]))
  rw [if_pos h]
  have hf := Fine.of hs h
  have hr := (heapOk_iff.1 h).1
  refine Evp.yes (by omega) ?_
  refine Evp.congr (f := fun k => ((g_comes k (objs.length + 1) roots 0 []).bind fun o1 => g_walk k objs 0 o1).bind fun o => ((g_out k objs (g_toL (objs.length + 1) o) o 0 []).bind fun g => ((impl_moveVals.f k roots (g_toL (objs.length + 1) o)).bind fun r => some (g, r)))) (fun k => by rw [Option.bind_assoc]) ?_
  refine Evp.bind (f := fun k o => ((g_out k objs (g_toL (objs.length + 1) o) o 0 []).bind fun g => ((impl_moveVals.f k roots (g_toL (objs.length + 1) o)).bind fun r => some (g, r)))) (ord_ok hf hl hr) (fun o e => ?_)
  subst e
  refine Evp.bind (f := fun k g => ((impl_moveVals.f k roots (g_toL (objs.length + 1) (ordP objs roots))).bind fun r => some (g, r))) (out_ok hf (ord_inv hf hr)) (fun g e => ?_)
  subst e
  refine Evp.bind (f := fun k r => some (_, r)) (move_ok hn hl hr) (fun r e => ?_)
  subst e
  exact Evp.pure _ rfl
theorem spec_graph {objs : List S48} {roots : List S46} (hs : Small objs) (hl : roots.length ≤ 1073741824) : Evp (fun k => spec_HeapGraph.f k objs roots) (fun r => r = HG objs roots) := by
  unfold spec_HeapGraph.f
  refine Evp.bind (f := fun k ok => if ok = true then ((spec_l12Graph.f k objs roots).bind fun b => (some (b.1, b.2))) else some ([], [])) (spec_heap hs hl) (fun ok e => ?_)
  subst e
  have hn := hs.1
  unfold HG
  refine Evp.ite (fun h => ?_) (fun h => Evp.pure _ (by rw [if_neg h]))
  rw [if_pos h]
  have hf := Fine.of hs h
  have hr := (heapOk_iff.1 h).1
  have h0 : (0 : Int) ∉ ordP objs roots := fun h => by have := (ord_inv hf hr).2 _ h; omega
  have key : Evp (fun k => spec_l12Graph.f k objs roots) (fun r => r = graphP objs roots) := by
    unfold spec_l12Graph.f
    refine Evp.yes (by omega) ?_
    refine Evp.congr (f := fun k => ((g_comes k (objs.length + 1) roots 0 []).bind fun o1 => g_walk k objs 0 o1).bind fun o => ((l12_out k objs (g_numL objs.length o) o 0 []).bind fun g => ((l12_all.f k (g_numL objs.length o) roots).bind fun r => some (g, r)))) (fun k => by rw [Option.bind_assoc]) ?_
    refine Evp.bind (f := fun k o => ((l12_out k objs (g_numL objs.length o) o 0 []).bind fun g => ((l12_all.f k (g_numL objs.length o) roots).bind fun r => some (g, r)))) (ord_ok hf hl hr) (fun o e => ?_)
    subst e
    refine Evp.bind (f := fun k g => ((l12_all.f k (g_numL objs.length (ordP objs roots)) roots).bind fun r => some (g, r))) (out_ok' hf (ord_inv hf hr)) (fun g e => ?_)
    subst e
    refine Evp.bind (f := fun k r => some (_, r)) (all_ok h0 hn hl hr) (fun r e => ?_)
    subst e
    exact Evp.pure _ rfl
  refine Evp.bind (f := fun k b => some (b.1, b.2)) key (fun b e => ?_)
  subst e
  exact Evp.pure _ rfl
end Go.Proofs.Yteeakklnlcjgbaa.Kit

end
section

namespace Go.Proofs.Yteeakklnlcjgbaa.Kit
open Go Go.RowKit Go.Proofs.YteeakklnlcjgbaaW.PrintWords Go.Proofs.Yteeakklnlcjgbaa.P
set_option linter.unusedVariables false
structure Ren (O : List Int) (ρ : Int → Int) : Prop where
  z : ρ 0 = 0
  nz : ∀ x ∈ O, ρ x ≠ 0
  inj : ∀ x ∈ O, ∀ y ∈ O, ρ x = ρ y → x = y
end Go.Proofs.Yteeakklnlcjgbaa.Kit

end
section

namespace Go.Proofs.Yteeakklnlcjgbaa.Kit
open Go Go.RowKit Go.Proofs.YteeakklnlcjgbaaW.PrintWords Go.Proofs.Yteeakklnlcjgbaa.P
set_option linter.unusedVariables false
theorem g_num_le (O : List Int) (y : Int) : 0 ≤ g_num O y ∧ g_num O y ≤ (O.length : Int) := by
  unfold g_num
  split
  · rename_i h
    have := List.idxOf_lt_length_of_mem h
    omega
  · omega
theorem mv_valOk (O : List Int) (v : S46) (n : Nat) (h : O.length ≤ n) : valOk n (mv O v) = true := by
  rw [valOk_iff]
  unfold mv
  split
  · intro _
    have := g_num_le O v.f1
    show 0 ≤ g_num O v.f1 ∧ g_num O v.f1 ≤ (n : Int)
    omega
  · intro h1; rename_i h2; exact absurd h1 h2
theorem objP_len {objs : List S48} (hf : Fine objs) {O : List Int} {x : Int} (h0 : 1 ≤ x) (h1 : x ≤ (objs.length : Int)) : (objP objs O x).f1.length ≤ 1073741824 := by
  have := (hf.vals h0 h1).1
  simpa [objP] using this
theorem graph_fine {objs : List S48} {roots : List S46} (hf : Fine objs) (hr : ∀ v ∈ roots, valOk objs.length v = true) : Fine (graphP objs roots).1 ∧ (∀ v ∈ (graphP objs roots).2, valOk (graphP objs roots).1.length v = true) ∧ (graphP objs roots).1.length ≤ objs.length := by
  have hi := ord_inv hf hr
  have hl := hi.len
  have hn := hf.n
  have e : (graphP objs roots).1.length = (ordP objs roots).length := by simp [graphP]
  refine ⟨⟨by omega, ?_, ?_⟩, ?_, by omega⟩
  · intro o ho
    obtain ⟨x, hx, rfl⟩ := List.mem_map.1 ho
    have := hi.2 x hx
    exact objP_len hf this.1 this.2
  · intro o ho v hv
    obtain ⟨x, hx, rfl⟩ := List.mem_map.1 ho
    obtain ⟨u, hu, rfl⟩ := List.mem_map.1 (show v ∈ (valsAt objs x).map (mv (ordP objs roots)) from hv)
    exact mv_valOk _ _ _ (by omega)
  · intro v hv
    obtain ⟨u, hu, rfl⟩ := List.mem_map.1 (show v ∈ roots.map (mv (ordP objs roots)) from hv)
    exact mv_valOk _ _ _ (by omega)
end Go.Proofs.Yteeakklnlcjgbaa.Kit

end
section

namespace Go.Proofs.Yteeakklnlcjgbaa.Kit
open Go Go.RowKit Go.Proofs.YteeakklnlcjgbaaW.PrintWords Go.Proofs.Yteeakklnlcjgbaa.P
set_option linter.unusedVariables false
def mkV : Int → Nat → List S46
  | _, 0 => []
  | a, n + 1 => ⟨Int.tmod a 3 == 0, a + 1⟩ :: mkV (a + 2) n
def mkO : Int → List S48 → List S48
  | _, [] => []
  | a, o :: os => ⟨a, mkV (a + 1) o.f1.length⟩ :: mkO (a + 1 + 2 * o.f1.length) os
def mkN : Int → List S48 → Int
  | a, [] => a
  | a, o :: os => mkN (a + 1 + 2 * o.f1.length) os
theorem mkN_bound : ∀ (l : List S48) (a : Int), (∀ o ∈ l, o.f1.length ≤ 1073741824) → a ≤ mkN a l ∧ mkN a l ≤ a + l.length * 2147483649
  | [], a, _ => by simp [mkN]
  | o :: os, a, h => by
    have h1 := mkN_bound os (a + 1 + 2 * o.f1.length) (fun x hx => h x (by simp [hx]))
    have h2 := h o (by simp)
    simp only [mkN, List.length_cons]
    rw [show (((os.length + 1 : Nat) : Int)) * 2147483649 = (os.length : Int) * 2147483649 + 2147483649 by omega]
    omega
theorem at46 (d : List S46) (x : S46) (r : List S46) : rd_T46 (d ++ x :: r) (d.length : Int) = x := by rw [rd46 (by simp)]; simp
theorem at48 (d : List S48) (x : S48) (r : List S48) : rd_T48 (d ++ x :: r) (d.length : Int) = x := by rw [rd48 (by simp)]; simp
theorem set_at {α : Type} (d : List α) (x y : α) (r : List α) : (d ++ x :: r).set d.length y = d ++ y :: r := by simp
theorem snoc_app {α : Type} (d : List α) (x : α) (r : List α) : d ++ x :: r = (d ++ [x]) ++ r := by simp
theorem mark_vals : ∀ (r d : List S46) (a : Int), 0 ≤ a → a + 2 * r.length ≤ 4611686018427387904 → d.length + r.length ≤ 1073741824 → Evp (fun k => laws_markValS.l0 k (d ++ r) a (d.length : Int)) (fun t => t = (a + 2 * r.length, d ++ mkV a r.length))
  | [], d, a, h0, h1, h2 => Evp.step (f := fun k => _) (fun k => by rw [laws_markValS.l0]) (Evp.no (by simp) (Evp.pure _ (by simp [mkV])))
  | x :: r, d, a, h0, h1, h2 => by
    simp only [List.length_cons] at h1 h2
    refine Evp.step (f := fun k => _) (fun k => by rw [laws_markValS.l0]) (Evp.yes (by simp; omega) (Evp.yes (by omega) ?_))
    simp only [Option.bind_some]
    rw [Int.toNat_natCast, set_at, at46, at46, set_at, w64 (n := a + 1) (by omega) (by omega), w64 (n := a + 1 + 1) (by omega) (by omega), w64' (n := 1073741824) (by omega) (by omega), snoc_app]
    have ih := mark_vals r (d ++ [(⟨Int.tmod a 3 == 0, a + 1⟩ : S46)]) (a + 1 + 1) (by omega) (by omega) (by simp; omega)
    rw [show ((d ++ [(⟨Int.tmod a 3 == 0, a + 1⟩ : S46)]).length : Int) = ((d.length + 1 : Nat) : Int) by simp] at ih
    refine ih.mono fun t ht => ?_
    rw [ht]
    simp only [List.length_cons, mkV]
    rw [show a + 1 + 1 = a + 2 by omega, ← snoc_app]
    congr 1
    omega
theorem held_vals : ∀ (n : Nat) (d : List S46) (a : Int), 0 ≤ a → a + 2 * n ≤ 4611686018427387904 → d.length + n ≤ 1073741824 → Evp (fun k => laws_heldValS.l0 k (d ++ mkV a n) a (d.length : Int)) (fun t => t = a + 2 * n)
  | 0, d, a, h0, h1, h2 => Evp.step (f := fun k => _) (fun k => by rw [laws_heldValS.l0]) (Evp.no (by simp [mkV]) (Evp.pure _ (by simp)))
  | n + 1, d, a, h0, h1, h2 => by
    rw [show mkV a (n + 1) = ⟨Int.tmod a 3 == 0, a + 1⟩ :: mkV (a + 2) n from rfl]
    refine Evp.step (f := fun k => _) (fun k => by rw [laws_heldValS.l0, at46]) (Evp.yes (by simp; omega) (Evp.yes (by omega) ?_))
    rw [w64 (n := a + 1) (by omega) (by omega), w64 (n := a + 1 + 1) (by omega) (by omega), w64' (n := 1073741824) (by omega) (by omega), snoc_app]
    refine Evp.no (by simp) (Evp.yes rfl ?_)
    have ih := held_vals n (d ++ [(⟨Int.tmod a 3 == 0, a + 1⟩ : S46)]) (a + 2) (by omega) (by omega) (by simp; omega)
    rw [show ((d ++ [(⟨Int.tmod a 3 == 0, a + 1⟩ : S46)]).length : Int) = ((d.length + 1 : Nat) : Int) by simp] at ih
    rw [show a + 1 + 1 = a + 2 by omega]
    refine ih.mono fun t ht => ?_
    rw [ht]
    omega
theorem mark_objs : ∀ (r d : List S48) (a : Int), 0 ≤ a → mkN a r ≤ 4611686018427387904 → (∀ o ∈ r, o.f1.length ≤ 1073741824) → d.length + r.length ≤ 1073741824 → Evp (fun k => laws_markObjS.l0 k (d ++ r) a (d.length : Int)) (fun t => t = (mkN a r, d ++ mkO a r))
  | [], d, a, h0, h1, hv, h2 => Evp.step (f := fun k => _) (fun k => by rw [laws_markObjS.l0]) (Evp.no (by simp) (Evp.pure _ (by simp [mkN, mkO])))
  | o :: r, d, a, h0, h1, hv, h2 => by
    simp only [List.length_cons] at h2
    simp only [mkN] at h1
    have hb := (mkN_bound r (a + 1 + 2 * o.f1.length) (fun x hx => hv x (by simp [hx]))).1
    have hol := hv o (by simp)
    refine Evp.step (f := fun k => _) (fun k => by rw [laws_markObjS.l0, at48]) (Evp.yes (by simp; omega) (Evp.yes (by omega) ?_))
    rw [w64 (n := a + 1) (by omega) (by omega)]
    have hm := mark_vals o.f1 [] (a + 1) (by omega) (by omega) (by simpa using hol)
    refine Evp.bind (P := fun t => t = (a + 1 + 2 * o.f1.length, mkV (a + 1) o.f1.length)) (by unfold laws_markValS.f; simpa using hm) (fun t ht => ?_)
    subst ht
    dsimp only
    rw [Int.toNat_natCast, set_at, set_at, w64' (n := 1073741824) (by omega) (by omega), snoc_app]
    have ih := mark_objs r (d ++ [(⟨a, mkV (a + 1) o.f1.length⟩ : S48)]) (a + 1 + 2 * o.f1.length) (by omega) h1 (fun x hx => hv x (by simp [hx])) (by simp; omega)
    rw [show ((d ++ [(⟨a, mkV (a + 1) o.f1.length⟩ : S48)]).length : Int) = ((d.length + 1 : Nat) : Int) by simp] at ih
    refine ih.mono fun t ht => ?_
    rw [ht]
    simp only [mkN, mkO]
    rw [← snoc_app]
theorem held_objs : ∀ (r d : List S48) (a : Int), 0 ≤ a → mkN a r ≤ 4611686018427387904 → (∀ o ∈ r, o.f1.length ≤ 1073741824) → d.length + r.length ≤ 1073741824 → Evp (fun k => laws_heldObjS.l0 k (d ++ mkO a r) a (d.length : Int)) (fun t => t = mkN a r)
  | [], d, a, h0, h1, hv, h2 => Evp.step (f := fun k => _) (fun k => by rw [laws_heldObjS.l0]) (Evp.no (by simp [mkO]) (Evp.pure _ (by simp [mkN])))
  | o :: r, d, a, h0, h1, hv, h2 => by
    simp only [List.length_cons] at h2
    simp only [mkN] at h1
    have hb := (mkN_bound r (a + 1 + 2 * o.f1.length) (fun x hx => hv x (by simp [hx]))).1
    have hol := hv o (by simp)
    rw [show mkO a (o :: r) = ⟨a, mkV (a + 1) o.f1.length⟩ :: mkO (a + 1 + 2 * o.f1.length) r from rfl]
    refine Evp.step (f := fun k => _) (fun k => by rw [laws_heldObjS.l0, at48]) (Evp.yes (by simp; omega) (Evp.yes (by omega) ?_))
    rw [w64 (n := a + 1) (by omega) (by omega), w64' (n := 1073741824) (by omega) (by omega), snoc_app]
    refine Evp.yes rfl ?_
    have hm := held_vals o.f1.length [] (a + 1) (by omega) (by omega) (by simpa using hol)
    refine Evp.bind (P := fun t => t = a + 1 + 2 * o.f1.length) (by unfold laws_heldValS.f; simpa using hm) (fun t ht => ?_)
    subst ht
    refine Evp.no (by omega) ?_
    have ih := held_objs r (d ++ [(⟨a, mkV (a + 1) o.f1.length⟩ : S48)]) (a + 1 + 2 * o.f1.length) (by omega) h1 (fun x hx => hv x (by simp [hx])) (by simp; omega)
    rw [show ((d ++ [(⟨a, mkV (a + 1) o.f1.length⟩ : S48)]).length : Int) = ((d.length + 1 : Nat) : Int) by simp] at ih
    exact ih
end Go.Proofs.Yteeakklnlcjgbaa.Kit

end
section

namespace Go.Proofs.Yteeakklnlcjgbaa.P
open Go.RowKit Go.Proofs.YteeakklnlcjgbaaW.PrintWords
end Go.Proofs.Yteeakklnlcjgbaa.P

end
section

namespace Go.Proofs.Yteeakklnlcjgbaa.Kit
open Go Go.RowKit Go.Proofs.YteeakklnlcjgbaaW.PrintWords Go.Proofs.Yteeakklnlcjgbaa.P
set_option linter.unusedVariables false
def cv62 (v : S62) : S46 := ⟨v.f0, v.f1⟩
def cv58 (o : S58) : S48 := ⟨o.f0, o.f1.map cv62⟩
def SmallD (objs : List S58) : Prop := objs.length ≤ 1048576 ∧ ∀ o ∈ objs, o.f1.length ≤ 1048576
theorem sz_vals {l : List S62} {a : Int} (h0 : 0 ≤ a) (h1 : a ≤ 1048576) (hl : l.length ≤ 9223372036854775807) : ∃ t, laws_szValS.f l a = some t ∧ (0 ≤ t → (l.length : Int) + t = a) := by
  unfold laws_szValS.f
  rw [w64 (by omega) (by omega)]
  by_cases h : a - (l.length : Int) < 0
  · rw [if_pos h]; exact ⟨_, rfl, by omega⟩
  · rw [if_neg h]; exact ⟨_, rfl, by omega⟩
theorem sz_objs {l : List S58} {a : Int} (h0 : 0 ≤ a) (h1 : a ≤ 1048576) (hl : l.length ≤ 9223372036854775807) (hi : ∀ o ∈ l, o.f1.length ≤ 9223372036854775807) :
    Evp (fun k => laws_szObjS.f k l a) (fun t => 0 ≤ t → t ≤ a ∧ SmallD l) := by
  unfold laws_szObjS.f
  rw [w64 (by omega) (by omega)]
  refine Evp.ite (fun _ => Evp.pure _ (by omega)) (fun h => ?_)
  have key : ∀ i, i ≤ l.length → ∀ s : Int, (0 ≤ s ∧ s ≤ 1048576) → Evp (fun k => laws_szObjS.l0 k l s (i : Int)) (fun t => 0 ≤ t → t ≤ s ∧ ∀ o ∈ l.drop i, o.f1.length ≤ 1048576) := by
    refine Evp.fors (g := fun i s k => laws_szObjS.l0 k l s (i : Int)) (I := fun _ s => 0 ≤ s ∧ s ≤ 1048576) (R := fun i s t => 0 ≤ t → t ≤ s ∧ ∀ o ∈ l.drop i, o.f1.length ≤ 1048576) (fun s hs => ?_) (fun i hil ih s hs => ?_)
    · refine Evp.step (f := fun k => _) (fun k => by rw [laws_szObjS.l0]) (Evp.no (by omega) (Evp.pure _ (fun _ => ⟨by omega, by simp⟩)))
    · have hil2 := hi _ (List.getElem_mem hil)
      obtain ⟨t, ht, ht2⟩ := sz_vals (l := l[i].f1) hs.1 hs.2 hil2
      refine Evp.step (f := fun k => _) (fun k => by rw [laws_szObjS.l0, rd58 hil, laws_szObj.f, ht, Option.bind_some]) (Evp.yes (by omega) (Evp.yes (by omega) ?_))
      by_cases h3 : t < 0
      · simp only [if_pos h3, Option.bind_some]
        exact Evp.pure _ (by omega)
      · simp only [if_neg h3, Option.bind_some]
        rw [w64' hil (by omega)]
        refine (ih t (by omega)).mono fun r hr h0 => ?_
        obtain ⟨h4, h5⟩ := hr h0
        refine ⟨by omega, ?_⟩
        rw [drop_at hil]
        intro o ho
        rcases List.mem_cons.1 ho with rfl | ho
        · omega
        · exact h5 o ho
  refine (key 0 (Nat.zero_le _) _ (by omega)).mono fun t ht h0 => ?_
  obtain ⟨h2, h3⟩ := ht h0
  exact ⟨by omega, by omega, by simpa using h3⟩
theorem set_fill {α β : Type} (l : List α) (f : α → β) (z : β) {i : Nat} (hi : i < l.length) : ((l.take i).map f ++ List.replicate (l.length - i) z).set i (f l[i]) = (l.take (i + 1)).map f ++ List.replicate (l.length - (i + 1)) z := by
  rw [List.take_succ_eq_append_getElem hi, List.map_append, List.append_assoc]
  rw [List.set_append_right _ _ (by simp; omega)]
  congr 1
  rw [show l.length - i = (l.length - (i + 1)) + 1 by omega, List.replicate_succ]
  simp [Nat.min_eq_left (Nat.le_of_lt hi)]
theorem to_vals {l : List S62} (hl : l.length ≤ 1048576) : Evp (fun k => laws_toValS.f k l) (fun r => r = l.map cv62) := by
  unfold laws_toValS.f
  refine Evp.yes (by omega) (Evp.yes (by omega) ?_)
  have key : ∀ i, i ≤ l.length → ∀ s : List S46, s = (l.take i).map cv62 ++ List.replicate (l.length - i) z46 → Evp (fun k => laws_toValS.l0 k l s (i : Int)) (fun r => r = l.map cv62) := by
    refine Evp.fors (g := fun i s k => laws_toValS.l0 k l s (i : Int)) (I := fun i s => s = (l.take i).map cv62 ++ List.replicate (l.length - i) z46) (R := fun _ _ r => r = l.map cv62) (fun s hs => ?_) (fun i hi ih s hs => ?_)
    · subst hs
      refine Evp.step (f := fun k => _) (fun k => by rw [laws_toValS.l0]) (Evp.no (by omega) (Evp.pure _ (by simp)))
    · have hsl : s.length = l.length := by rw [hs]; simp; omega
      refine Evp.step (f := fun k => _) (fun k => by rw [laws_toValS.l0, rd62 hi, laws_toVal.f, Option.bind_some]) (Evp.yes (by omega) (Evp.yes (by omega) (Evp.yes (by omega) ?_)))
      rw [w64' hi (by omega)]
      refine ih _ ?_
      rw [hs]
      exact set_fill l cv62 z46 hi
  exact key 0 (Nat.zero_le _) _ (by simp)
theorem to_objs {l : List S58} (hl : SmallD l) : Evp (fun k => laws_toObjS.f k l) (fun r => r = l.map cv58) := by
  have hl1 := hl.1
  unfold laws_toObjS.f
  refine Evp.yes (by omega) (Evp.yes (by omega) ?_)
  have key : ∀ i, i ≤ l.length → ∀ s : List S48, s = (l.take i).map cv58 ++ List.replicate (l.length - i) z48 → Evp (fun k => laws_toObjS.l0 k l s (i : Int)) (fun r => r = l.map cv58) := by
    refine Evp.fors (g := fun i s k => laws_toObjS.l0 k l s (i : Int)) (I := fun i s => s = (l.take i).map cv58 ++ List.replicate (l.length - i) z48) (R := fun _ _ r => r = l.map cv58) (fun s hs => ?_) (fun i hi ih s hs => ?_)
    · subst hs
      refine Evp.step (f := fun k => _) (fun k => by rw [laws_toObjS.l0]) (Evp.no (by omega) (Evp.pure _ (by simp)))
    · have hsl : s.length = l.length := by rw [hs]; simp; omega
      refine Evp.step (f := fun k => _) (fun k => by rw [laws_toObjS.l0, rd58 hi]) (Evp.yes (by omega) (Evp.yes (by omega) ?_))
      refine Evp.bind (P := fun r => r = (l[i].f0, l[i].f1.map cv62)) ?_ (fun a ha => ?_)
      · unfold laws_toObj.f
        exact Evp.bind (to_vals (hl.2 _ (List.getElem_mem hi))) (fun a ha => Evp.pure _ (by rw [ha]))
      · subst ha
        refine Evp.yes (by omega) ?_
        rw [w64' hi (by omega)]
        refine ih _ ?_
        rw [hs]
        exact set_fill l cv58 z48 hi
  exact key 0 (Nat.zero_le _) _ (by simp)
theorem eq_vals {l : List S46} (hl : l.length ≤ 1048576) : Evp (fun k => laws_eqValS.f k l l) (fun r => r = true) := by
  unfold laws_eqValS.f
  refine Evp.yes rfl ?_
  refine Evp.for_ (n := l.length) (g := fun i k => laws_eqValS.l0 k l l (i : Int)) (R := fun _ r => r = true) ?_ (fun i hi ih => ?_) 0 (Nat.zero_le _)
  · refine Evp.step (f := fun k => _) (fun k => by rw [laws_eqValS.l0]) (Evp.no (by omega) (Evp.pure _ rfl))
  · refine Evp.step (f := fun k => _) (fun k => by rw [laws_eqValS.l0, rd46 hi, laws_eqVal.f]) (Evp.yes (by omega) (Evp.yes (by omega) (Evp.yes (by omega) ?_)))
    rw [w64' hi (by omega)]
    simpa using ih
theorem eq_objs {l : List S48} (hl : l.length ≤ 1048576) (hi : ∀ o ∈ l, o.f1.length ≤ 1048576) : Evp (fun k => laws_eqObjS.f k l l) (fun r => r = true) := by
  unfold laws_eqObjS.f
  refine Evp.yes rfl ?_
  refine Evp.for_ (n := l.length) (g := fun i k => laws_eqObjS.l0 k l l (i : Int)) (R := fun _ r => r = true) ?_ (fun i h ih => ?_) 0 (Nat.zero_le _)
  · refine Evp.step (f := fun k => _) (fun k => by rw [laws_eqObjS.l0]) (Evp.no (by omega) (Evp.pure _ rfl))
  · refine Evp.step (f := fun k => _) (fun k => by rw [laws_eqObjS.l0, rd48 h]) (Evp.yes (by omega) (Evp.yes (by omega) (Evp.yes (by omega) ?_)))
    refine Evp.bind (P := fun r => r = true) ?_ (fun a ha => ?_)
    · unfold laws_eqObj.f
      exact Evp.yes rfl (Evp.bind (eq_vals (hi _ (List.getElem_mem h))) (fun a ha => Evp.yes ha (Evp.pure _ rfl)))
    · refine Evp.yes ha ?_
      rw [w64' h (by omega)]
      exact ih
theorem small_conv {l : List S58} (h : SmallD l) : Small (l.map cv58) ∧ (l.map cv58).length ≤ 1048576 ∧ ∀ o ∈ l.map cv58, o.f1.length ≤ 1048576 := by
  obtain ⟨h1, h2⟩ := h
  have h3 : ∀ o ∈ l.map cv58, o.f1.length ≤ 1048576 := by
    intro o ho
    obtain ⟨x, hx, rfl⟩ := List.mem_map.1 ho
    simpa [cv58] using h2 x hx
  exact ⟨⟨by simp; omega, fun o ho => by have := h3 o ho; omega⟩, by simpa using h1, h3⟩
end Go.Proofs.Yteeakklnlcjgbaa.Kit
namespace Go.Proofs.Yteeakklnlcjgbaa.Pure
open Go Go.RowKit Go.Proofs.YteeakklnlcjgbaaW.PrintWords Go.Proofs.Yteeakklnlcjgbaa.P Go.Proofs.Yteeakklnlcjgbaa.Kit
end Go.Proofs.Yteeakklnlcjgbaa.Pure

end
section

namespace Go.Proofs.Yteeakklnlcjgbaa.Pure
open Go Go.RowKit Go.Proofs.YteeakklnlcjgbaaW.PrintWords Go.Proofs.Yteeakklnlcjgbaa.P Go.Proofs.Yteeakklnlcjgbaa.Kit
set_option linter.unusedVariables false
theorem hg_size {objs : List S48} {roots : List S46} (hf : objs.length ≤ 1048576 ∧ ∀ o ∈ objs, o.f1.length ≤ 1048576) (hr : roots.length ≤ 1048576) : ((HG objs roots).1.length ≤ 1048576 ∧ ∀ o ∈ (HG objs roots).1, o.f1.length ≤ 1048576) ∧ (HG objs roots).2.length ≤ 1048576 := by
  have hs : Small objs := ⟨by omega, fun o ho => by have := hf.2 o ho; omega⟩
  by_cases h : heapOk objs roots = true
  · have e : HG objs roots = graphP objs roots := by unfold HG; rw [if_pos h]
    rw [e]
    have hF := Fine.of hs h
    have hrv := (heapOk_iff.1 h).1
    have hi := ord_inv hF hrv
    have hl := (graph_fine hF hrv).2.2
    refine ⟨⟨by omega, fun o ho => ?_⟩, by simpa [graphP] using hr⟩
    obtain ⟨x, hx, rfl⟩ := List.mem_map.1 ho
    have h2 := hi.2 x hx
    obtain ⟨hlt, e2⟩ := valsAt_mem h2.1 h2.2
    show ((valsAt objs x).map _).length ≤ _
    rw [List.length_map, e2]
    exact hf.2 _ (List.getElem_mem hlt)
  · have e : HG objs roots = ([], []) := by unfold HG; rw [if_neg h]
    rw [e]
    simp
theorem FnExactHeapGraph : laws_FnExactHeapGraph.Pure := by
  intro l0 l1 w0 w1
  refine Evp.rounds ?_
  unfold laws_FnExactHeapGraph.f
  refine Evp.bind (sz_objs (by decide) (by decide) w0.1 (fun o ho => (w0.2 o ho).2.1)) fun t ht => ?_
  refine Evp.ite (fun _ => Evp.pure _ rfl) (fun hn => ?_)
  obtain ⟨ht1, hs⟩ := ht (by omega)
  obtain ⟨s, hs1, hs2⟩ := sz_vals (l := l1) (a := t) (by omega) (by omega) w1.1
  simp only [hs1, Option.bind_some]
  refine Evp.ite (fun _ => Evp.pure _ rfl) (fun hn2 => ?_)
  have hl1 : l1.length ≤ 1048576 := by omega
  obtain ⟨hc1, hc2, hc3⟩ := small_conv hs
  have hm1 : (l1.map cv62).length ≤ 1048576 := by simpa using hl1
  obtain ⟨x, hx⟩ : ∃ x, x = l0.map cv58 := ⟨_, rfl⟩
  obtain ⟨y, hy⟩ : ∃ y, y = l1.map cv62 := ⟨_, rfl⟩
  rw [← hx] at hc1 hc2 hc3
  rw [← hy] at hm1
  refine Evp.bind (to_objs hs) fun a ha => ?_
  rw [← hx] at ha
  subst ha
  refine Evp.bind (to_vals hl1) fun b hb => ?_
  rw [← hy] at hb
  subst hb
  clear hx hy
  refine Evp.bind (spec_graph hc1 (by omega)) fun c hc => ?_
  subst hc
  refine Evp.bind (impl_graph hc1 (by omega)) fun c hc => ?_
  subst hc
  obtain ⟨⟨g1, g2⟩, g3⟩ := hg_size ⟨hc2, hc3⟩ hm1
  obtain ⟨⟨gx, gy⟩, hg⟩ : ∃ g, g = HG a b := ⟨_, rfl⟩
  rw [← hg] at g1 g2 g3 ⊢
  dsimp only at g1 g2 g3
  clear hg
  have e1 := Ev.of_evp (eq_objs g1 g2)
  have e2 := Ev.of_evp (eq_vals g3)
  have e3 := Ev.of_evp (eq_objs hc2 hc3)
  have e4 := Ev.of_evp (eq_vals hm1)
  obtain ⟨n1, e1⟩ := e1
  obtain ⟨n2, e2⟩ := e2
  obtain ⟨n3, e3⟩ := e3
  obtain ⟨n4, e4⟩ := e4
  have hB : ∀ (l : List S48), l.length ≤ 1048576 → (∀ o ∈ l, o.f1.length ≤ 1048576) → 1 ≤ mkN 1 l ∧ mkN 1 l ≤ 2251799814733825 := by
    intro l h1 h2
    have := mkN_bound l 1 (fun o ho => by have := h2 o ho; omega)
    have h3 : (l.length : Int) * 2147483649 ≤ 1048576 * 2147483649 := by omega
    omega
  have hBx := hB a hc2 hc3
  have hBg := hB gx g1 g2
  have mx := mark_objs a [] 1 (by omega) (by omega) (fun o ho => by have := hc3 o ho; omega) (by simp; omega)
  have my := mark_vals b [] (mkN 1 a) (by omega) (by omega) (by simp; omega)
  have mg := mark_objs gx [] 1 (by omega) (by omega) (fun o ho => by have := g2 o ho; omega) (by simp; omega)
  have mh := mark_vals gy [] (mkN 1 gx) (by omega) (by omega) (by simp; omega)
  have hd := held_objs gx [] 1 (by omega) (by omega) (fun o ho => by have := g2 o ho; omega) (by simp; omega)
  have he := held_vals gy.length [] (mkN 1 gx) (by omega) (by omega) (by simp; omega)
  have key : Evp (fun k => ((laws_markObjS.f k a 1).bind fun k1 => ((laws_markValS.f k b k1.1).bind fun k2 => (if k2.1 < 0 then none else ((laws_markObjS.f k gx 1).bind fun m1 => ((laws_markValS.f k gy m1.1).bind fun m2 => ((laws_heldObjS.f k m1.2 1).bind fun q1 => (if q1 < 0 then none else ((laws_heldValS.f k m2.2 q1).bind fun q2 => (if q2 < 0 ∨ q2 ≠ m2.1 then none else some true)))))))))) (fun r => r = true) := by
    refine Evp.bind (P := fun t => t = (mkN 1 a, mkO 1 a)) (by unfold laws_markObjS.f; simpa using mx) (fun t ht => ?_)
    subst ht
    refine Evp.bind (P := fun t => t = (mkN 1 a + 2 * b.length, mkV (mkN 1 a) b.length)) (by unfold laws_markValS.f; simpa using my) (fun t ht => ?_)
    subst ht
    refine Evp.no (by dsimp only; omega) ?_
    refine Evp.bind (P := fun t => t = (mkN 1 gx, mkO 1 gx)) (by unfold laws_markObjS.f; simpa using mg) (fun t ht => ?_)
    subst ht
    refine Evp.bind (P := fun t => t = (mkN 1 gx + 2 * gy.length, mkV (mkN 1 gx) gy.length)) (by unfold laws_markValS.f; simpa using mh) (fun t ht => ?_)
    subst ht
    refine Evp.bind (P := fun t => t = mkN 1 gx) (by unfold laws_heldObjS.f; simpa using hd) (fun t ht => ?_)
    subst ht
    refine Evp.no (by omega) ?_
    refine Evp.bind (P := fun t => t = mkN 1 gx + 2 * gy.length) (by unfold laws_heldValS.f; simpa using he) (fun t ht => ?_)
    subst ht
    exact Evp.no (by dsimp only; omega) (Evp.pure _ rfl)
  obtain ⟨r, ⟨n5, h5⟩, rfl⟩ := key
  refine ⟨true, ⟨n1 + n2 + n3 + n4 + n5, fun k hk => ?_⟩, rfl⟩
  show laws_FnExactHeapGraph.g k a b (gx, gy) (gx, gy) = some true
  unfold laws_FnExactHeapGraph.g
  rw [if_pos ⟨e1 k (by omega), e2 k (by omega), e3 k (by omega), e4 k (by omega)⟩]
  exact h5 k (by omega)
end Go.Proofs.Yteeakklnlcjgbaa.Pure

end
section

namespace Go.Proofs.Yteeakklnlcjgbaa.fnExactHeapGraph
open Go Go.ChangeShapes Go.WideShapes Go.ChangeAt Go.RowKit Go.Proofs.YteeakklnlcjgbaaW.PrintWords Go.Proofs.Yteeakklnlcjgbaa.P Go.Proofs.Yteeakklnlcjgbaa.Open
set_option linter.unusedVariables false
theorem own : ownKnob Try.prog.godebug = none := by kernel_rfl
theorem laidOut : laidOutB Try.prog = true := by kernel_rfl
set_option maxRecDepth 100000 in
theorem lifted (os : Os) (started : os.Started) (H : Type) (enc : TypeId × Value → H) :
    ReturnsInHanded {} Try.checked os 7 .any (Rows.fnExactHeapGraphSpec.pre6 enc Try.prog Try.f7 Rows.fnExactHeapGraphRow.domain false) (Rows.fnExactHeapGraphSpec.post enc Try.prog Try.f7 false true false false) := by
  refine returnsInHanded_of_change_sized (C := Try.checked) own started (by kernel_rfl) Try.func7
    (ChangeSpec.witness6 (enc := enc) (C := Try.checked) false ⟨#[], #[.slice none 0 0, .slice none 0 0], []⟩ 8 (by kernel_rfl) (by kernel_rfl) (by kernel_rfl) (by kernel_rfl)) ?_
  intro W base args ds gs before hval0 hW hcnd hsz0 _
  have hval : ∀ (j : Nat) t v, Try.f7.params[j]? = some t → args[j]? = some v → Value.okWide Try.prog W .any base t v := hval0
  have hW' := hW
  obtain ⟨p, q, hA0, hV, rfl, hfz, hnd⟩ := hW
  have hA : DataW.TrodAll enc Try.prog W 0 (fun _ => true) true Try.f7.params.toList args.toList ds p := hA0
  rw [Try.params7] at hA hval
  obtain ⟨v0, vs0, d0, ds0, p0, q0, hargs, rfl, rfl, h0, r0⟩ := trodAll_cons hA
  obtain ⟨v1, vs1, d1, ds1, p1, q1, rfl, rfl, rfl, h1, r1⟩ := trodAll_cons r0
  obtain ⟨rfl, rfl, rfl⟩ := trodAll_nil r1
  obtain rfl : args = #[v0, v1] := by cases args; simp_all
  obtain ⟨rfl, rfl⟩ := trodVars_none hV
  have k0 := h0
  have lt0 : ∀ x ∈ p0, x.block < W.heap.size := by obtain ⟨m, hm⟩ := k0; exact DataW.trod_lt m _ _ _ hm
  obtain ⟨l0, g0, wf0⟩ := opens_arg (v := v0) h0 (opens_slice Try.underlying28 (by kernel_rfl) (opens58 H enc W 0 (fun _ => true) true))
  obtain ⟨a0, len0, cap0, rfl⟩ := okWide_slice Try.underlying28 (hval 0 28 v0 rfl rfl)
  obtain ⟨A0, c0, e0, hc0, hr0⟩ := g0
  simp only [Value.cells, List.cons.injEq, Value.slice.injEq, and_true] at e0
  obtain ⟨rfl, rfl, rfl⟩ := e0
  have k1 := h1
  have lt1 : ∀ x ∈ p1, x.block < W.heap.size := by obtain ⟨m, hm⟩ := k1; exact DataW.trod_lt m _ _ _ hm
  obtain ⟨l1, g1, wf1⟩ := opens_arg (v := v1) h1 (opens_slice Try.underlying29 (by kernel_rfl) (opens62 H enc W 0 (fun _ => true) true))
  obtain ⟨a1, len1, cap1, rfl⟩ := okWide_slice Try.underlying29 (hval 1 29 v1 rfl rfl)
  obtain ⟨A1, c1, e1, hc1, hr1⟩ := g1
  simp only [Value.cells, List.cons.injEq, Value.slice.injEq, and_true] at e1
  obtain ⟨rfl, rfl, rfl⟩ := e1
  clear hA0 hval0 hsz0
  obtain ⟨k, h⟩ := Pure.FnExactHeapGraph l0 l1 wf0 wf1
  refine (laws_FnExactHeapGraph.calls k _ _ l0 _ _ l1 true W hr0 hc0 hr1 hc1 h rfl).mono fun e W' ⟨he, bel⟩ => ?_
  subst he
  exact ⟨_, rfl, _, _, _, [], _, [], hW', trodAll_mk1 (shut_bool Try.underlying4 _), (trodAll_cons_mk (Below.trod laidOut (by kernel_rfl) (of_decide_eq_true (by kernel_rfl)) k0 bel lt0) (trodAll_cons_mk (Below.trod laidOut (by kernel_rfl) (of_decide_eq_true (by kernel_rfl)) k1 bel lt1) trodAll_mk0)), rfl, bel.frame _, fun h => by cases h⟩
theorem over : Rows.fnExactHeapGraphRow.holds Try.pinned (OpenSpec.ofChange Rows.fnExactHeapGraphSpec) :=
  OpenClaim.holds_of_wide 7 Try.f7 rfl rfl rfl rfl rfl rfl rfl ⟨rfl, rfl, rfl, rfl, rfl⟩ rfl rfl rfl rfl rfl (by kernel_rfl) Try.func7 (by show joinedFacts Try.prog _ _ _ _ = true; unfold joinedFacts; rw [Go.Proofs.Yteeakklnlcjgbaa.enter, Go.Proofs.Yteeakklnlcjgbaa.make, Go.Proofs.Yteeakklnlcjgbaa.lifts]; kernel_rfl)
    (of_decide_eq_true (by kernel_rfl)) (by unfold Func.isWrapper; first | (rw [if_pos (by decide +kernel)]; kernel_rfl) | (rw [if_neg (by decide +kernel)]; exact ⟨rfl, rfl⟩))
    (fun os started H enc _ => lifted os started H enc)
theorem proved : Rows.FnExactHeapGraphSaid := over
end Go.Proofs.Yteeakklnlcjgbaa.fnExactHeapGraph
namespace Go.Proofs.Yteeakklnlcjgbaa
theorem fnExactHeapGraph_holds : Rows.FnExactHeapGraphSaid := fnExactHeapGraph.proved
end Go.Proofs.Yteeakklnlcjgbaa

end
