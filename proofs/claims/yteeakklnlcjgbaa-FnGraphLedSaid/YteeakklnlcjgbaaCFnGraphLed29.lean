/- FnGraphLed: for every code, of what is left of the things drawn out of it, to each thing something ahead leads, and it is what the reference says; the one condition is that the code takes at most 2^47 - 4096 bytes. -/
import Derived.Test.YteeakklnlcjgbaaCFnGraphLed28
import Derived.Test.YteeakklnlcjgbaaCFnGraphLed22
import Derived.Test.YteeakklnlcjgbaaCFnGraphLed23
import Derived.Test.YteeakklnlcjgbaaRows
import Derived.WalkKit
import Derived.ProofKit
import Derived.OpenShut
import Derived.ShutString
import Derived.ChangeOld
import Derived.Below
import Derived.SizedLaws
import Derived.Test.YteeakklnlcjgbaaCFnGraphLed21
import Derived.Test.YteeakklnlcjgbaaCFnGraphLed0
import Derived.Test.YteeakklnlcjgbaaCFnGraphLed1
import Derived.Test.YteeakklnlcjgbaaCFnGraphLed2
import Derived.Test.YteeakklnlcjgbaaCFnGraphLed3
import Derived.Test.YteeakklnlcjgbaaCFnGraphLed4
import Derived.Test.YteeakklnlcjgbaaCFnGraphLed5
import Derived.Test.YteeakklnlcjgbaaCFnGraphLed6
import Derived.Test.YteeakklnlcjgbaaCFnGraphLed7
import Derived.Test.YteeakklnlcjgbaaCFnGraphLed8
import Derived.Test.YteeakklnlcjgbaaCFnGraphLed9
import Derived.Test.YteeakklnlcjgbaaCFnGraphLed10
import Derived.Test.YteeakklnlcjgbaaCFnGraphLed11
import Derived.Test.YteeakklnlcjgbaaCFnGraphLed12
import Derived.Test.YteeakklnlcjgbaaCFnGraphLed13
import Derived.Test.YteeakklnlcjgbaaCFnGraphLed14
import Derived.Test.YteeakklnlcjgbaaCFnGraphLed15
import Derived.Test.YteeakklnlcjgbaaCFnGraphLed16
import Derived.Test.YteeakklnlcjgbaaCFnGraphLed17
import Derived.Test.YteeakklnlcjgbaaCFnGraphLed18
import Derived.Test.YteeakklnlcjgbaaCFnGraphLed19
import Derived.Test.YteeakklnlcjgbaaCFnGraphLed20
import Derived.Test.YteeakklnlcjgbaaCFnGraphLed24
import Derived.Test.YteeakklnlcjgbaaCFnGraphLed25
import Derived.Test.YteeakklnlcjgbaaCFnGraphLed26
import Derived.Test.YteeakklnlcjgbaaCFnGraphLed27
section

namespace Go.Proofs.Yteeakklnlcjgbaa.Kit
open Go Go.RowKit Go.Proofs.YteeakklnlcjgbaaW.PrintWords Go.Proofs.Yteeakklnlcjgbaa.P
set_option linter.unusedVariables false
def comeV (o : List Int) (v : S46) : List Int := if v.f0 = true ∧ v.f1 ≠ 0 ∧ v.f1 ∉ o then o ++ [v.f1] else o
def Inv (n : Nat) (o : List Int) : Prop := o.Nodup ∧ ∀ x ∈ o, 1 ≤ x ∧ x ≤ (n : Int)
theorem nodup_le : ∀ (n : Nat) (o : List Int), o.Nodup → (∀ x ∈ o, 1 ≤ x ∧ x ≤ (n : Int)) → o.length ≤ n
  | 0, [], _, _ => Nat.le_refl _
  | 0, a :: o, _, h => by have := h a (by simp); omega
  | n + 1, o, hd, h => by
    by_cases hm : ((n + 1 : Nat) : Int) ∈ o
    · have h1 := nodup_le n (o.erase ((n + 1 : Nat) : Int)) (hd.erase _) (fun x hx => by
        obtain ⟨h2, h3⟩ := hd.mem_erase_iff.1 hx
        have := h x h3
        omega)
      rw [List.length_erase_of_mem hm] at h1
      omega
    · have := nodup_le n o hd (fun x hx => by
        have h2 := h x hx
        have : x ≠ ((n + 1 : Nat) : Int) := fun e => hm (e ▸ hx)
        omega)
      omega
theorem Inv.len {n : Nat} {o : List Int} (h : Inv n o) : o.length ≤ n := nodup_le n o h.1 h.2
theorem Inv.nil (n : Nat) : Inv n [] := ⟨List.nodup_nil, by simp⟩
theorem valOk_iff {n : Nat} {v : S46} : valOk n v = true ↔ (v.f0 = true → 0 ≤ v.f1 ∧ v.f1 ≤ (n : Int)) := by
  unfold valOk
  cases v.f0 <;> simp
theorem Inv.come {n : Nat} {o : List Int} {v : S46} (h : Inv n o) (hv : valOk n v = true) : Inv n (comeV o v) := by
  unfold comeV
  split
  · rename_i hc
    obtain ⟨h1, h2, h3⟩ := hc
    have h4 := valOk_iff.1 hv h1
    refine ⟨?_, ?_⟩
    · rw [List.nodup_append]
      refine ⟨h.1, by simp, ?_⟩
      intro a ha b hb e
      simp at hb
      subst hb
      subst e
      exact h3 ha
    · intro x hx
      rcases List.mem_append.1 hx with hx | hx
      · exact h.2 x hx
      · simp at hx
        subst hx
        omega
  · exact h
theorem Inv.fold {n : Nat} : ∀ {vs : List S46} {o : List Int}, Inv n o → (∀ v ∈ vs, valOk n v = true) → Inv n (vs.foldl comeV o)
  | [], _, h, _ => h
  | v :: vs, o, h, hv => by
    show Inv n (vs.foldl comeV (comeV o v))
    exact Inv.fold (h.come (hv v (by simp))) (fun u hu => hv u (by simp [hu]))
theorem step_ok {n : Nat} {o : List Int} {v : S46} (h : Inv n o) (hv : valOk n v = true) (hn : n ≤ 1073741824) : g_step (n + 1) o v = some (comeV o v) := by
  have hl := h.len
  unfold g_step comeV
  by_cases h1 : v.f0 = true
  · have h2 := valOk_iff.1 hv h1
    rw [if_pos h1]
    by_cases h3 : v.f1 = 0
    · simp [h3]
    · rw [if_neg h3, if_pos (by omega)]
      by_cases h4 : v.f1 ∈ o
      · simp [h4]
      · rw [if_neg h4, if_pos (by omega), if_pos ⟨h1, h3, h4⟩]
  · rw [if_neg h1, if_neg (fun h => h1 h.1)]
theorem comes_ok {n : Nat} {vs : List S46} (hn : n ≤ 1073741824) (hl : vs.length ≤ 1073741824) (hv : ∀ v ∈ vs, valOk n v = true) : ∀ i, i ≤ vs.length → ∀ o : List Int, Inv n o → Evp (fun k => g_comes k (n + 1) vs (i : Int) o) (fun r => r = (vs.drop i).foldl comeV o) := by
  refine Evp.fors (g := fun i o k => g_comes k (n + 1) vs (i : Int) o) (I := fun _ o => Inv n o) (R := fun i o r => r = (vs.drop i).foldl comeV o) (fun o ho => ?_) (fun i hi ih o ho => ?_)
  · exact Evp.step (f := fun k => _) (fun k => by rw [g_comes]) (Evp.no (by omega) (Evp.pure _ (by simp)))
  · have hvi := hv _ (List.getElem_mem hi)
    refine Evp.step (f := fun k => _) (fun k => by rw [g_comes, rd46 hi, step_ok ho hvi hn, Option.bind_some]) (Evp.yes (by omega) (Evp.yes (by omega) ?_))
    rw [w64' hi (by omega), drop_at hi, List.foldl_cons]
    exact ih _ (ho.come hvi)
def valsAt (objs : List S48) (x : Int) : List S46 := (objs.getD (x - 1).toNat z48).f1
def walkP (objs : List S48) : Nat → Nat → List Int → List Int
  | 0, _, o => o
  | d + 1, i, o => if h : i < o.length then walkP objs d (i + 1) ((valsAt objs o[i]).foldl comeV o) else o
structure Fine (objs : List S48) : Prop where
  n : objs.length ≤ 1073741824
  l : ∀ o ∈ objs, o.f1.length ≤ 1073741824
  v : ∀ o ∈ objs, ∀ v ∈ o.f1, valOk objs.length v = true
theorem valsAt_mem {objs : List S48} {x : Int} (h0 : 1 ≤ x) (h1 : x ≤ (objs.length : Int)) : ∃ h : (x - 1).toNat < objs.length, valsAt objs x = objs[(x - 1).toNat].f1 := by
  have h : (x - 1).toNat < objs.length := by omega
  exact ⟨h, by rw [valsAt, getD_at h]⟩
theorem Fine.vals {objs : List S48} (h : Fine objs) {x : Int} (h0 : 1 ≤ x) (h1 : x ≤ (objs.length : Int)) : (valsAt objs x).length ≤ 1073741824 ∧ ∀ v ∈ valsAt objs x, valOk objs.length v = true := by
  obtain ⟨hlt, e⟩ := valsAt_mem h0 h1
  rw [e]
  exact ⟨h.l _ (List.getElem_mem hlt), h.v _ (List.getElem_mem hlt)⟩
theorem rd_int {o : List Int} {i : Nat} (h : i < o.length) : rd o (i : Int) = o[i] := by simp [rd, h]
theorem rd_obj {objs : List S48} {x : Int} (h0 : 1 ≤ x) (h1 : x ≤ (objs.length : Int)) : (rd_T48 objs (x - 1)).f1 = valsAt objs x := rfl
theorem walk_ok {objs : List S48} (hf : Fine objs) : ∀ d i (o : List Int), Inv objs.length o → objs.length + 1 ≤ i + d → Evp (fun k => g_walk k objs (i : Int) o) (fun r => r = walkP objs d i o)
  | 0, i, o, ho, hd => by
    have := ho.len
    refine Evp.step (f := fun k => _) (fun k => by rw [g_walk]) (Evp.no (by omega) (Evp.pure o rfl))
  | d + 1, i, o, ho, hd => by
    have hn := hf.n
    by_cases hi : i < o.length
    · have hx := ho.2 _ (List.getElem_mem hi)
      have hw : wrap64 (o[i] - 1) = o[i] - 1 := w64 (by omega) (by omega)
      have hlen := ho.len
      have hv := hf.vals hx.1 hx.2
      refine Evp.step (f := fun k => _) (fun k => by rw [g_walk, rd_int hi, hw, rd_obj hx.1 hx.2]) (Evp.yes (by omega) (Evp.yes (by omega) ?_))
      refine Evp.bind (f := fun k o' => g_walk k objs (wrap64 ((i : Int) + 1)) o') (comes_ok hn hv.1 hv.2 0 (Nat.zero_le _) o ho) (fun o' e => ?_)
      subst e
      rw [w64' hi (by omega), walkP, dif_pos hi]
      exact walk_ok hf d (i + 1) _ (ho.fold (by simpa using hv.2)) (by omega)
    · refine Evp.step (f := fun k => _) (fun k => by rw [g_walk]) (Evp.no (by omega) (Evp.pure _ ?_))
      rw [walkP, dif_neg hi]
def Cov (o : List Int) (v : S46) : Prop := v.f0 = true → v.f1 = 0 ∨ v.f1 ∈ o
theorem come_pre (o : List Int) (v : S46) : o <+: comeV o v := by
  unfold comeV
  split
  · exact List.prefix_append _ _
  · exact List.prefix_refl _
theorem come_cov (o : List Int) (v : S46) : Cov (comeV o v) v := by
  intro h
  unfold comeV
  by_cases h0 : v.f1 = 0
  · exact .inl h0
  · right
    by_cases hm : v.f1 ∈ o
    · simp [hm]
    · rw [if_pos ⟨h, h0, hm⟩]
      simp
theorem Cov.pre {o o' : List Int} {v : S46} (h : Cov o v) (hp : o <+: o') : Cov o' v := fun hf => (h hf).imp id (fun hm => hp.subset hm)
theorem fold_pre : ∀ (vs : List S46) (o : List Int), o <+: vs.foldl comeV o
  | [], o => List.prefix_refl _
  | v :: vs, o => (come_pre o v).trans (fold_pre vs _)
theorem fold_cov : ∀ (vs : List S46) (o : List Int), ∀ v ∈ vs, Cov (vs.foldl comeV o) v
  | [], _, _, h => by simp at h
  | u :: vs, o, v, h => by
    rcases List.mem_cons.1 h with rfl | h
    · exact (come_cov o _).pre (fold_pre vs _)
    · exact fold_cov vs _ v h
theorem walk_pre (objs : List S48) : ∀ d i o, o <+: walkP objs d i o
  | 0, _, o => List.prefix_refl _
  | d + 1, i, o => by
    rw [walkP]
    split
    · exact (fold_pre _ _).trans (walk_pre objs d (i + 1) _)
    · exact List.prefix_refl _
theorem walk_inv {objs : List S48} (hf : Fine objs) : ∀ d i (o : List Int), Inv objs.length o → Inv objs.length (walkP objs d i o)
  | 0, _, _, h => h
  | d + 1, i, o, h => by
    rw [walkP]
    split
    · rename_i hi
      have hx := h.2 _ (List.getElem_mem hi)
      exact walk_inv hf d (i + 1) _ (h.fold (hf.vals hx.1 hx.2).2)
    · exact h
theorem walk_cov {objs : List S48} (hf : Fine objs) : ∀ d i (o : List Int), Inv objs.length o → objs.length + 1 ≤ i + d → (∀ j (h : j < o.length), j < i → ∀ v ∈ valsAt objs o[j], Cov o v) → ∀ x ∈ walkP objs d i o, ∀ v ∈ valsAt objs x, Cov (walkP objs d i o) v
  | 0, i, o, ho, hd, hc => by
    intro x hx v hv
    obtain ⟨j, hj, rfl⟩ := List.getElem_of_mem hx
    exact hc j hj (by have := ho.len; simp only [walkP] at hj; omega) v hv
  | d + 1, i, o, ho, hd, hc => by
    rw [walkP]
    split
    · rename_i hi
      have hx := ho.2 _ (List.getElem_mem hi)
      refine walk_cov hf d (i + 1) _ (ho.fold (hf.vals hx.1 hx.2).2) (by omega) (fun j hj hji v hv => ?_)
      have hjo : j < o.length := by omega
      have e : ((valsAt objs o[i]).foldl comeV o)[j] = o[j] := (fold_pre _ _).getElem hjo |>.symm
      rw [e] at hv
      by_cases hj2 : j = i
      · subst hj2
        exact fold_cov _ _ v hv
      · exact (hc j hjo (by omega) v hv).pre (fold_pre _ _)
    · rename_i hi
      intro x hx v hv
      obtain ⟨j, hj, rfl⟩ := List.getElem_of_mem hx
      exact hc j hj (by omega) v hv
end Go.Proofs.Yteeakklnlcjgbaa.Kit

end
section

namespace Go.Proofs.Yteeakklnlcjgbaa.Kit
open Go Go.RowKit Go.Proofs.YteeakklnlcjgbaaW.PrintWords Go.Proofs.Yteeakklnlcjgbaa.P
set_option linter.unusedVariables false
def ordP (objs : List S48) (roots : List S46) : List Int := walkP objs (objs.length + 1) 0 (roots.foldl comeV [])
def mv (o : List Int) (v : S46) : S46 := if v.f0 = true then ⟨true, g_num o v.f1⟩ else v
def objP (objs : List S48) (o : List Int) (x : Int) : S48 := ⟨(objs.getD (x - 1).toNat z48).f0, (valsAt objs x).map (mv o)⟩
def graphP (objs : List S48) (roots : List S46) : List S48 × List S46 := ((ordP objs roots).map (objP objs (ordP objs roots)), roots.map (mv (ordP objs roots)))
def HG (objs : List S48) (roots : List S46) : List S48 × List S46 := if heapOk objs roots = true then graphP objs roots else ([], [])
theorem heapOk_iff {objs : List S48} {roots : List S46} : heapOk objs roots = true ↔ (∀ v ∈ roots, valOk objs.length v = true) ∧ ∀ o ∈ objs, ∀ v ∈ o.f1, valOk objs.length v = true := by
  unfold heapOk
  simp [List.all_eq_true]
theorem Fine.of {objs : List S48} {roots : List S46} (hs : Small objs) (h : heapOk objs roots = true) : Fine objs := ⟨hs.1, hs.2, (heapOk_iff.1 h).2⟩
theorem toL_at {n : Nat} {o : List Int} {m : Int} (h0 : 0 ≤ m) (h1 : m ≤ (n : Int)) : rd (g_toL (n + 1) o) m = g_num o m := by
  have h2 : ((m.toNat : Nat) : Int) = m := Int.toNat_of_nonneg h0
  have h3 : m.toNat < n + 1 := by omega
  simp [rd, g_toL, h3, h2]
theorem numL_at {n : Nat} {o : List Int} {m : Int} (h0 : 1 ≤ m) (h1 : m ≤ (n : Int)) : rd (g_numL n o) (m - 1) = g_num o m := by
  obtain ⟨j, rfl⟩ : ∃ j : Nat, m = (j : Int) + 1 := ⟨(m - 1).toNat, by omega⟩
  rw [show (j : Int) + 1 - 1 = (j : Int) by omega]
  have h3 : j < n := by omega
  simp [rd, g_numL, h3]
theorem take_snoc {α β : Type} (f : α → β) (l : List α) {i : Nat} (h : i < l.length) : (l.take i).map f ++ [f l[i]] = (l.take (i + 1)).map f := by
  rw [List.take_succ_eq_append_getElem h, List.map_append]; rfl
theorem move_ok {n : Nat} {o : List Int} {vs : List S46} (hn : n ≤ 1073741824) (hl : vs.length ≤ 1073741824) (hv : ∀ v ∈ vs, valOk n v = true) : Evp (fun k => impl_moveVals.f k vs (g_toL (n + 1) o)) (fun r => r = vs.map (mv o)) := by
  unfold impl_moveVals.f
  have key : ∀ i, i ≤ vs.length → ∀ s : List S46, s = (vs.take i).map (mv o) → Evp (fun k => impl_moveVals.l0 k (g_toL (n + 1) o) s vs (vs.length : Int) (i : Int)) (fun r => r = vs.map (mv o)) := by
    refine Evp.fors (g := fun i s k => impl_moveVals.l0 k (g_toL (n + 1) o) s vs (vs.length : Int) (i : Int)) (I := fun i s => s = (vs.take i).map (mv o)) (R := fun _ _ r => r = vs.map (mv o)) (fun s hs => ?_) (fun i hi ih s hs => ?_)
    · refine Evp.step (f := fun k => _) (fun k => by rw [impl_moveVals.l0]) (Evp.no (by omega) (Evp.pure s ?_))
      rw [hs, List.take_length]
    · have hvi := valOk_iff.1 (hv _ (List.getElem_mem hi))
      have hsl : s.length ≤ vs.length := by rw [hs]; simp; omega
      refine Evp.step (f := fun k => _) (fun k => by rw [impl_moveVals.l0, rd46 hi, length_toL, w64' hi (by omega)]) (Evp.yes (by omega) (Evp.yes (by omega) (Evp.yes (by omega) (Evp.ite (fun hb => ?_) (fun hb => ?_)))))
      · have h2 := hvi hb
        refine Evp.yes (by omega) (Evp.yes (by omega) (Evp.yes (by omega) ?_))
        rw [toL_at h2.1 h2.2]
        refine ih _ ?_
        rw [← take_snoc _ _ hi, hs]
        congr 2
        rw [mv, if_pos hb]
        rw [hb]
      · refine Evp.yes (by omega) (ih _ ?_)
        rw [← take_snoc _ _ hi, hs]
        congr 2
        rw [mv, if_neg hb]
  exact key 0 (Nat.zero_le _) [] (by simp)
theorem mv_ok {n : Nat} {o : List Int} {v : S46} (h0 : (0 : Int) ∉ o) (hn : n ≤ 1073741824) (hv : valOk n v = true) : l12_mv (g_numL n o) v = some (mv o v) := by
  unfold l12_mv mv
  by_cases hb : v.f0 = true
  · have h2 := valOk_iff.1 hv hb
    rw [if_pos hb, if_pos hb]
    by_cases hp : 0 < v.f1
    · have hw : wrap64 (v.f1 - 1) = v.f1 - 1 := w64 (by omega) (by omega)
      rw [if_pos hp, hw, length_numL, if_pos (by omega), numL_at (by omega) h2.2]
    · have : v.f1 = 0 := by omega
      rw [if_neg hp]
      obtain ⟨b, m⟩ := v
      simp only at hb this
      subst hb
      subst this
      simp [g_num, h0]
  · rw [if_neg hb, if_neg hb]
theorem all_ok {n : Nat} {o : List Int} {vs : List S46} (h0 : (0 : Int) ∉ o) (hn : n ≤ 1073741824) (hl : vs.length ≤ 1073741824) (hv : ∀ v ∈ vs, valOk n v = true) : Evp (fun k => l12_all.f k (g_numL n o) vs) (fun r => r = vs.map (mv o)) := by
  unfold l12_all.f
  have key : ∀ i, i ≤ vs.length → ∀ s : List S46, s = (vs.take i).map (mv o) → Evp (fun k => l12_all.l0 k (g_numL n o) vs (i : Int) s) (fun r => r = vs.map (mv o)) := by
    refine Evp.fors (g := fun i s k => l12_all.l0 k (g_numL n o) vs (i : Int) s) (I := fun i s => s = (vs.take i).map (mv o)) (R := fun _ _ r => r = vs.map (mv o)) (fun s hs => ?_) (fun i hi ih s hs => ?_)
    · refine Evp.step (f := fun k => _) (fun k => by rw [l12_all.l0]) (Evp.no (by omega) (Evp.pure s ?_))
      rw [hs, List.take_length]
    · have hsl : s.length ≤ vs.length := by rw [hs]; simp; omega
      refine Evp.step (f := fun k => _) (fun k => by rw [l12_all.l0, rd46 hi, mv_ok h0 hn (hv _ (List.getElem_mem hi)), Option.bind_some, w64' hi (by omega)]) (Evp.yes (by omega) (Evp.yes (by omega) (Evp.yes (by omega) ?_)))
      refine ih _ ?_
      rw [← take_snoc _ _ hi, hs]
  exact key 0 (Nat.zero_le _) [] (by simp)
theorem out_ok {objs : List S48} {o : List Int} (hf : Fine objs) (ho : Inv objs.length o) : Evp (fun k => g_out k objs (g_toL (objs.length + 1) o) o 0 []) (fun r => r = o.map (objP objs o)) := by
  have hn := hf.n
  have hlen := ho.len
  have key : ∀ i, i ≤ o.length → ∀ s : List S48, s = (o.take i).map (objP objs o) → Evp (fun k => g_out k objs (g_toL (objs.length + 1) o) o (i : Int) s) (fun r => r = o.map (objP objs o)) := by
    refine Evp.fors (g := fun i s k => g_out k objs (g_toL (objs.length + 1) o) o (i : Int) s) (I := fun i s => s = (o.take i).map (objP objs o)) (R := fun _ _ r => r = o.map (objP objs o)) (fun s hs => ?_) (fun i hi ih s hs => ?_)
    · refine Evp.step (f := fun k => _) (fun k => by rw [g_out]) (Evp.no (by omega) (Evp.pure s ?_))
      rw [hs, List.take_length]
    · have hx := ho.2 _ (List.getElem_mem hi)
      have hw : wrap64 (o[i] - 1) = o[i] - 1 := w64 (by omega) (by omega)
      have hv := hf.vals hx.1 hx.2
      have hsl : s.length ≤ o.length := by rw [hs]; simp; omega
      refine Evp.step (f := fun k => _) (fun k => by rw [g_out, rd_int hi, hw, rd_obj hx.1 hx.2, w64' hi (by omega)]) (Evp.yes (by omega) (Evp.yes (by omega) ?_))
      refine Evp.bind (f := fun k vs => if s.length < 4398046511104 then g_out k objs (g_toL (objs.length + 1) o) o ((i + 1 : Nat) : Int) (s ++ [(⟨(rd_T48 objs (o[i] - 1)).f0, vs⟩ : S48)]) else none) (move_ok hn hv.1 hv.2) (fun vs e => ?_)
      subst e
      refine Evp.yes (by omega) (ih _ ?_)
      rw [← take_snoc _ _ hi, hs]
      rfl
  exact key 0 (Nat.zero_le _) [] (by simp)
theorem out_ok' {objs : List S48} {o : List Int} (hf : Fine objs) (ho : Inv objs.length o) : Evp (fun k => l12_out k objs (g_numL objs.length o) o 0 []) (fun r => r = o.map (objP objs o)) := by
  have hn := hf.n
  have hlen := ho.len
  have h0 : (0 : Int) ∉ o := fun h => by have := ho.2 _ h; omega
  have key : ∀ i, i ≤ o.length → ∀ s : List S48, s = (o.take i).map (objP objs o) → Evp (fun k => l12_out k objs (g_numL objs.length o) o (i : Int) s) (fun r => r = o.map (objP objs o)) := by
    refine Evp.fors (g := fun i s k => l12_out k objs (g_numL objs.length o) o (i : Int) s) (I := fun i s => s = (o.take i).map (objP objs o)) (R := fun _ _ r => r = o.map (objP objs o)) (fun s hs => ?_) (fun i hi ih s hs => ?_)
    · refine Evp.step (f := fun k => _) (fun k => by rw [l12_out]) (Evp.no (by omega) (Evp.pure s ?_))
      rw [hs, List.take_length]
    · have hx := ho.2 _ (List.getElem_mem hi)
      have hw : wrap64 (o[i] - 1) = o[i] - 1 := w64 (by omega) (by omega)
      have hv := hf.vals hx.1 hx.2
      have hsl : s.length ≤ o.length := by rw [hs]; simp; omega
      refine Evp.step (f := fun k => _) (fun k => by rw [l12_out, rd_int hi, hw, rd_obj hx.1 hx.2, w64' hi (by omega)]) (Evp.yes (by omega) (Evp.yes (by omega) ?_))
      refine Evp.bind (f := fun k vs => if s.length < 4398046511104 then l12_out k objs (g_numL objs.length o) o ((i + 1 : Nat) : Int) (s ++ [(⟨(rd_T48 objs (o[i] - 1)).f0, vs⟩ : S48)]) else none) (all_ok h0 hn hv.1 hv.2) (fun vs e => ?_)
      subst e
      refine Evp.yes (by omega) (ih _ ?_)
      rw [← take_snoc _ _ hi, hs]
      rfl
  exact key 0 (Nat.zero_le _) [] (by simp)
theorem ord_inv {objs : List S48} {roots : List S46} (hf : Fine objs) (hr : ∀ v ∈ roots, valOk objs.length v = true) : Inv objs.length (ordP objs roots) := walk_inv hf _ _ _ ((Inv.nil _).fold hr)
theorem ord_ok {objs : List S48} {roots : List S46} (hf : Fine objs) (hl : roots.length ≤ 1073741824) (hr : ∀ v ∈ roots, valOk objs.length v = true) :
    Evp (fun k => (g_comes k (objs.length + 1) roots 0 []).bind fun o1 => g_walk k objs 0 o1) (fun r => r = ordP objs roots) := by
  refine Evp.bind (f := fun k o1 => g_walk k objs 0 o1) (comes_ok hf.n hl hr 0 (Nat.zero_le _) [] (Inv.nil _)) (fun o1 e => ?_)
  subst e
  exact walk_ok hf (objs.length + 1) 0 _ ((Inv.nil _).fold (by simpa using hr)) (by omega)
theorem impl_graph {objs : List S48} {roots : List S46} (hs : Small objs) (hl : roots.length ≤ 1073741824) : Evp (fun k => impl_HeapGraph.f k objs roots) (fun r => r = HG objs roots) := by
  unfold impl_HeapGraph.f
  refine Evp.bind (f := fun k ok => if ok = true then (if objs.length + 1 < 8796093022208 then ((g_comes k (objs.length + 1) roots 0 []).bind fun o1 => ((g_walk k objs 0 o1).bind fun o => ((g_out k objs (g_toL (objs.length + 1) o) o 0 []).bind fun g => ((impl_moveVals.f k roots (g_toL (objs.length + 1) o)).bind fun r => some (g, r))))) else none) else some ([], [])) (impl_heap hs hl) (fun ok e => ?_)
  subst e
  have hn := hs.1
  unfold HG
  refine Evp.ite (fun h => ?_) (fun h => Evp.pure _ (by rw [if_neg h]))
  rw [if_pos h]
  have hf := Fine.of hs h
  have hr := (heapOk_iff.1 h).1
  refine Evp.yes (by omega) ?_
  refine Evp.congr (f := fun k => ((g_comes k (objs.length + 1) roots 0 []).bind fun o1 => g_walk k objs 0 o1).bind fun o => ((g_out k objs (g_toL (objs.length + 1) o) o 0 []).bind fun g => ((impl_moveVals.f k roots (g_toL (objs.length + 1) o)).bind fun r => some (g, r)))) (fun k => by rw [Option.bind_assoc]) ?_
  refine Evp.bind (f := fun k o => ((g_out k objs (g_toL (objs.length + 1) o) o 0 []).bind fun g => ((impl_moveVals.f k roots (g_toL (objs.length + 1) o)).bind fun r => some (g, r)))) (ord_ok hf hl hr) (fun o e => ?_)
  subst e
  refine Evp.bind (f := fun k g => ((impl_moveVals.f k roots (g_toL (objs.length + 1) (ordP objs roots))).bind fun r => some (g, r))) (out_ok hf (ord_inv hf hr)) (fun g e => ?_)
  subst e
  refine Evp.bind (f := fun k r => some (_, r)) (move_ok hn hl hr) (fun r e => ?_)
  subst e
  exact Evp.pure _ rfl
theorem spec_graph {objs : List S48} {roots : List S46} (hs : Small objs) (hl : roots.length ≤ 1073741824) : Evp (fun k => spec_HeapGraph.f k objs roots) (fun r => r = HG objs roots) := by
  unfold spec_HeapGraph.f
  refine Evp.bind (f := fun k ok => if ok = true then ((spec_l12Graph.f k objs roots).bind fun b => (some (b.1, b.2))) else some ([], [])) (spec_heap hs hl) (fun ok e => ?_)
  subst e
  have hn := hs.1
  unfold HG
  refine Evp.ite (fun h => ?_) (fun h => Evp.pure _ (by rw [if_neg h]))
  rw [if_pos h]
  have hf := Fine.of hs h
  have hr := (heapOk_iff.1 h).1
  have h0 : (0 : Int) ∉ ordP objs roots := fun h => by have := (ord_inv hf hr).2 _ h; omega
  have key : Evp (fun k => spec_l12Graph.f k objs roots) (fun r => r = graphP objs roots) := by
    unfold spec_l12Graph.f
    refine Evp.yes (by omega) ?_
    refine Evp.congr (f := fun k => ((g_comes k (objs.length + 1) roots 0 []).bind fun o1 => g_walk k objs 0 o1).bind fun o => ((l12_out k objs (g_numL objs.length o) o 0 []).bind fun g => ((l12_all.f k (g_numL objs.length o) roots).bind fun r => some (g, r)))) (fun k => by rw [Option.bind_assoc]) ?_
    refine Evp.bind (f := fun k o => ((l12_out k objs (g_numL objs.length o) o 0 []).bind fun g => ((l12_all.f k (g_numL objs.length o) roots).bind fun r => some (g, r)))) (ord_ok hf hl hr) (fun o e => ?_)
    subst e
    refine Evp.bind (f := fun k g => ((l12_all.f k (g_numL objs.length (ordP objs roots)) roots).bind fun r => some (g, r))) (out_ok' hf (ord_inv hf hr)) (fun g e => ?_)
    subst e
    refine Evp.bind (f := fun k r => some (_, r)) (all_ok h0 hn hl hr) (fun r e => ?_)
    subst e
    exact Evp.pure _ rfl
  refine Evp.bind (f := fun k b => some (b.1, b.2)) key (fun b e => ?_)
  subst e
  exact Evp.pure _ rfl
end Go.Proofs.Yteeakklnlcjgbaa.Kit

end
section

namespace Go.Proofs.Yteeakklnlcjgbaa.Kit
open Go Go.RowKit Go.Proofs.YteeakklnlcjgbaaW.PrintWords Go.Proofs.Yteeakklnlcjgbaa.P
set_option linter.unusedVariables false
def rv (ρ : Int → Int) (v : S46) : S46 := if v.f0 = true then ⟨true, ρ v.f1⟩ else v
structure Ren (O : List Int) (ρ : Int → Int) : Prop where
  z : ρ 0 = 0
  nz : ∀ x ∈ O, ρ x ≠ 0
  inj : ∀ x ∈ O, ∀ y ∈ O, ρ x = ρ y → x = y
theorem Ren.mem {O o : List Int} {ρ : Int → Int} (h : Ren O ρ) (ho : ∀ x ∈ o, x ∈ O) {y : Int} (hy : y ∈ O) : ρ y ∈ o.map ρ ↔ y ∈ o := by
  constructor
  · intro hm
    obtain ⟨x, hx, e⟩ := List.mem_map.1 hm
    rw [← h.inj x (ho x hx) y hy e]
    exact hx
  · exact fun hm => List.mem_map_of_mem hm
theorem rv_come {O o : List Int} {ρ : Int → Int} (h : Ren O ρ) (ho : ∀ x ∈ o, x ∈ O) {v : S46} (hv : Cov O v) : comeV (o.map ρ) (rv ρ v) = (comeV o v).map ρ := by
  unfold comeV rv
  by_cases hb : v.f0 = true
  · rw [if_pos hb]
    rcases hv hb with h0 | hm
    · simp [h0, h.z]
    · have h1 : v.f1 ≠ 0 := by
        intro e
        have := h.nz _ hm
        rw [e, h.z] at this
        exact this rfl
      have h2 := h.nz _ hm
      have h3 := h.mem ho hm
      by_cases hx : v.f1 ∈ o
      · rw [if_neg (by simp [h3.2 hx]), if_neg (by simp [hx])]
      · rw [if_pos ⟨rfl, h2, fun e => hx (h3.1 e)⟩, if_pos ⟨hb, h1, hx⟩]
        simp
  · rw [if_neg hb]
    simp [hb]
theorem come_sub {O o : List Int} (ho : ∀ x ∈ o, x ∈ O) {v : S46} (hv : Cov O v) : ∀ x ∈ comeV o v, x ∈ O := by
  intro x hx
  unfold comeV at hx
  split at hx
  · rename_i hc
    rcases List.mem_append.1 hx with h | h
    · exact ho x h
    · simp at h
      subst h
      exact (hv hc.1).resolve_left hc.2.1
  · exact ho x hx
theorem rv_fold {O : List Int} {ρ : Int → Int} (h : Ren O ρ) : ∀ (vs : List S46) (o : List Int), (∀ x ∈ o, x ∈ O) → (∀ v ∈ vs, Cov O v) → (vs.map (rv ρ)).foldl comeV (o.map ρ) = (vs.foldl comeV o).map ρ ∧ ∀ x ∈ vs.foldl comeV o, x ∈ O
  | [], o, ho, _ => ⟨rfl, ho⟩
  | v :: vs, o, ho, hv => by
    have h1 := hv v (by simp)
    simp only [List.map_cons, List.foldl_cons]
    rw [rv_come h ho h1]
    exact rv_fold h vs _ (come_sub ho h1) (fun u hu => hv u (by simp [hu]))
theorem rv_walk {O : List Int} {ρ : Int → Int} (h : Ren O ρ) {objs objs' : List S48} (hc : ∀ x ∈ O, ∀ v ∈ valsAt objs x, Cov O v) (hv : ∀ x ∈ O, valsAt objs' (ρ x) = (valsAt objs x).map (rv ρ)) : ∀ d i (o : List Int), (∀ x ∈ o, x ∈ O) → walkP objs' d i (o.map ρ) = (walkP objs d i o).map ρ
  | 0, _, _, _ => rfl
  | d + 1, i, o, ho => by
    rw [walkP, walkP]
    by_cases hi : i < o.length
    · have hx := ho _ (List.getElem_mem hi)
      rw [dif_pos (by simpa using hi), dif_pos hi]
      simp only [List.getElem_map]
      rw [hv _ hx]
      have h2 := rv_fold h (valsAt objs o[i]) o ho (hc _ hx)
      rw [h2.1]
      exact rv_walk h hc hv d (i + 1) _ h2.2
    · rw [dif_neg (by simpa using hi), dif_neg hi]
theorem walk_more {objs : List S48} (hf : Fine objs) : ∀ d i e (o : List Int), Inv objs.length o → objs.length + 1 ≤ i + d → walkP objs (d + e) i o = walkP objs d i o
  | 0, i, e, o, ho, hd => by
    have := ho.len
    cases e with
    | zero => rfl
    | succ e =>
      rw [Nat.zero_add]
      simp only [walkP]
      rw [dif_neg (by omega)]
  | d + 1, i, e, o, ho, hd => by
    rw [show d + 1 + e = (d + e) + 1 by omega, walkP, walkP]
    split
    · rename_i hi
      have hx := ho.2 _ (List.getElem_mem hi)
      exact walk_more hf d (i + 1) e _ (ho.fold (hf.vals hx.1 hx.2).2) (by omega)
    · rfl
theorem ord_cov {objs : List S48} {roots : List S46} (hf : Fine objs) (hr : ∀ v ∈ roots, valOk objs.length v = true) : (∀ v ∈ roots, Cov (ordP objs roots) v) ∧ ∀ x ∈ ordP objs roots, ∀ v ∈ valsAt objs x, Cov (ordP objs roots) v :=
  ⟨fun v hv => (fold_cov roots [] v hv).pre (walk_pre objs _ 0 _), walk_cov hf _ 0 _ ((Inv.nil _).fold hr) (by omega) (fun j hj h => absurd h (by omega))⟩
theorem num_map {O : List Int} {ρ : Int → Int} (h : Ren O ρ) {y : Int} (hy : y = 0 ∨ y ∈ O) (h0 : (0 : Int) ∉ O) : g_num (O.map ρ) (ρ y) = g_num O y := by
  rcases hy with rfl | hy
  · rw [h.z]
    unfold g_num
    rw [if_neg h0, if_neg (by
      intro hm
      obtain ⟨x, hx, e⟩ := List.mem_map.1 hm
      exact h.nz x hx e)]
  · unfold g_num
    rw [if_pos hy, if_pos (List.mem_map_of_mem hy)]
    congr 2
    have key : ∀ (l : List Int), (∀ x ∈ l, x ∈ O) → (l.map ρ).idxOf (ρ y) = l.idxOf y := by
      intro l
      induction l with
      | nil => intro _; rfl
      | cons a l ih =>
        intro hl
        rw [List.map_cons, List.idxOf_cons, List.idxOf_cons]
        have ha : (ρ a == ρ y) = (a == y) := by
          by_cases e : a = y
          · rw [e, beq_self_eq_true, beq_self_eq_true]
          · have : ρ a ≠ ρ y := fun e' => e (h.inj a (hl a (by simp)) y hy e')
            rw [beq_eq_false_iff_ne.mpr this, beq_eq_false_iff_ne.mpr e]
        rw [ha, ih (fun x hx => hl x (by simp [hx]))]
    exact key O (fun _ hx => hx)
theorem graph_ren {objs objs' : List S48} {roots roots' : List S46} {ρ : Int → Int} (hf : Fine objs) (hr : ∀ v ∈ roots, valOk objs.length v = true) (hf' : Fine objs') (hr' : ∀ v ∈ roots', valOk objs'.length v = true)
    (h : Ren (ordP objs roots) ρ) (hroots : roots' = roots.map (rv ρ)) (hv : ∀ x ∈ ordP objs roots, valsAt objs' (ρ x) = (valsAt objs x).map (rv ρ)) (hc : ∀ x ∈ ordP objs roots, (objs'.getD (ρ x - 1).toNat z48).f0 = (objs.getD (x - 1).toNat z48).f0) :
    ordP objs' roots' = (ordP objs roots).map ρ ∧ graphP objs' roots' = graphP objs roots := by
  obtain ⟨hcr, hcv⟩ := ord_cov hf hr
  have h0 : (0 : Int) ∉ ordP objs roots := fun h => by have := (ord_inv hf hr).2 _ h; omega
  have hord : ordP objs' roots' = (ordP objs roots).map ρ := by
    have h1 := rv_fold h roots [] (by simp) hcr
    have h2 : roots'.foldl comeV [] = (roots.foldl comeV []).map ρ := by rw [hroots]; exact h1.1
    have hi := (Inv.nil objs.length).fold hr
    have hi' := (Inv.nil objs'.length).fold hr'
    unfold ordP
    rw [← walk_more hf (objs.length + 1) 0 (objs'.length + 1) _ hi (by omega), ← walk_more hf' (objs'.length + 1) 0 (objs.length + 1) _ hi' (by omega), h2, Nat.add_comm (objs'.length + 1)]
    exact rv_walk h hcv hv _ 0 _ h1.2
  refine ⟨hord, ?_⟩
  have hmv : ∀ v, Cov (ordP objs roots) v → mv (ordP objs' roots') (rv ρ v) = mv (ordP objs roots) v := by
    intro v hv
    unfold mv rv
    by_cases hb : v.f0 = true
    · rw [if_pos hb, if_pos hb, hord]
      simp only [if_true]
      rw [num_map h (hv hb) h0]
    · simp [hb]
  have hl : ∀ vs : List S46, (∀ v ∈ vs, Cov (ordP objs roots) v) → (vs.map (rv ρ)).map (mv (ordP objs' roots')) = vs.map (mv (ordP objs roots)) := by
    intro vs hvs
    rw [List.map_map]
    exact List.map_congr_left (fun v hv => hmv v (hvs v hv))
  unfold graphP
  congr 1
  · rw [hord, List.map_map]
    refine List.map_congr_left (fun x hx => ?_)
    show objP objs' _ (ρ x) = objP objs _ x
    unfold objP
    rw [hc x hx, hv x hx, ← hord, hl _ (hcv x hx)]
  · have h3 := hl _ hcr
    rw [← hroots] at h3
    exact h3
end Go.Proofs.Yteeakklnlcjgbaa.Kit

end
section

namespace Go.Proofs.Yteeakklnlcjgbaa.Kit
open Go Go.RowKit Go.Proofs.YteeakklnlcjgbaaW.PrintWords Go.Proofs.Yteeakklnlcjgbaa.P
set_option linter.unusedVariables false
theorem g_num_le (O : List Int) (y : Int) : 0 ≤ g_num O y ∧ g_num O y ≤ (O.length : Int) := by
  unfold g_num
  split
  · rename_i h
    have := List.idxOf_lt_length_of_mem h
    omega
  · omega
theorem mv_valOk (O : List Int) (v : S46) (n : Nat) (h : O.length ≤ n) : valOk n (mv O v) = true := by
  rw [valOk_iff]
  unfold mv
  split
  · intro _
    have := g_num_le O v.f1
    show 0 ≤ g_num O v.f1 ∧ g_num O v.f1 ≤ (n : Int)
    omega
  · intro h1; rename_i h2; exact absurd h1 h2
theorem objP_len {objs : List S48} (hf : Fine objs) {O : List Int} {x : Int} (h0 : 1 ≤ x) (h1 : x ≤ (objs.length : Int)) : (objP objs O x).f1.length ≤ 1073741824 := by
  have := (hf.vals h0 h1).1
  simpa [objP] using this
theorem graph_fine {objs : List S48} {roots : List S46} (hf : Fine objs) (hr : ∀ v ∈ roots, valOk objs.length v = true) : Fine (graphP objs roots).1 ∧ (∀ v ∈ (graphP objs roots).2, valOk (graphP objs roots).1.length v = true) ∧ (graphP objs roots).1.length ≤ objs.length := by
  have hi := ord_inv hf hr
  have hl := hi.len
  have hn := hf.n
  have e : (graphP objs roots).1.length = (ordP objs roots).length := by simp [graphP]
  refine ⟨⟨by omega, ?_, ?_⟩, ?_, by omega⟩
  · intro o ho
    obtain ⟨x, hx, rfl⟩ := List.mem_map.1 ho
    have := hi.2 x hx
    exact objP_len hf this.1 this.2
  · intro o ho v hv
    obtain ⟨x, hx, rfl⟩ := List.mem_map.1 ho
    obtain ⟨u, hu, rfl⟩ := List.mem_map.1 (show v ∈ (valsAt objs x).map (mv (ordP objs roots)) from hv)
    exact mv_valOk _ _ _ (by omega)
  · intro v hv
    obtain ⟨u, hu, rfl⟩ := List.mem_map.1 (show v ∈ roots.map (mv (ordP objs roots)) from hv)
    exact mv_valOk _ _ _ (by omega)
theorem num_idx {O : List Int} {y : Int} (hy : y ∈ O) : g_num O y = ((O.idxOf y : Nat) : Int) + 1 := by unfold g_num; rw [if_pos hy]
theorem num_ren {O : List Int} (h0 : (0 : Int) ∉ O) : Ren O (g_num O) := by
  refine ⟨by unfold g_num; rw [if_neg h0], fun x hx => by rw [num_idx hx]; omega, fun x hx y hy e => ?_⟩
  rw [num_idx hx, num_idx hy] at e
  have e2 : O.idxOf x = O.idxOf y := by omega
  have h1 := List.getElem_idxOf (List.idxOf_lt_length_of_mem hx)
  have h2 := List.getElem_idxOf (List.idxOf_lt_length_of_mem hy)
  rw [← h1, ← h2]
  congr 1
theorem graph_at {objs : List S48} {roots : List S46} {y : Int} (hy : y ∈ ordP objs roots) : (graphP objs roots).1.getD (g_num (ordP objs roots) y - 1).toNat z48 = objP objs (ordP objs roots) y := by
  have hlt := List.idxOf_lt_length_of_mem hy
  rw [num_idx hy, show (((ordP objs roots).idxOf y : Nat) : Int) + 1 - 1 = (((ordP objs roots).idxOf y : Nat) : Int) by omega, Int.toNat_natCast, getD_at (by simpa [graphP] using hlt)]
  simp only [graphP, List.getElem_map]
  rw [List.getElem_idxOf hlt]
theorem graph_twice {objs : List S48} {roots : List S46} (hf : Fine objs) (hr : ∀ v ∈ roots, valOk objs.length v = true) :
    ordP (graphP objs roots).1 (graphP objs roots).2 = (ordP objs roots).map (g_num (ordP objs roots)) ∧ graphP (graphP objs roots).1 (graphP objs roots).2 = graphP objs roots := by
  have h0 : (0 : Int) ∉ ordP objs roots := fun h => by have := (ord_inv hf hr).2 _ h; omega
  have hg := graph_fine hf hr
  refine graph_ren hf hr hg.1 hg.2.1 (num_ren h0) rfl (fun x hx => ?_) (fun x hx => ?_)
  · unfold valsAt
    rw [graph_at hx]
    rfl
  · rw [graph_at hx]
    rfl
theorem hg_nil : HG [] [] = ([], []) := by
  unfold HG
  split
  · rfl
  · rfl
theorem hg_parts {objs : List S48} {roots : List S46} (hs : Small objs) (hl : roots.length ≤ 1073741824) : Small (HG objs roots).1 ∧ (HG objs roots).2.length ≤ 1073741824 ∧ (HG objs roots).1.length ≤ objs.length ∧ heapOk (HG objs roots).1 (HG objs roots).2 = true ∧ HG (HG objs roots).1 (HG objs roots).2 = HG objs roots := by
  by_cases h : heapOk objs roots = true
  · have e : HG objs roots = graphP objs roots := by unfold HG; rw [if_pos h]
    have hf := Fine.of hs h
    have hr := (heapOk_iff.1 h).1
    have hg := graph_fine hf hr
    rw [e]
    have hk : heapOk (graphP objs roots).1 (graphP objs roots).2 = true := heapOk_iff.2 ⟨hg.2.1, hg.1.v⟩
    refine ⟨⟨hg.1.n, hg.1.l⟩, by simpa [graphP] using hl, hg.2.2, hk, ?_⟩
    unfold HG
    rw [if_pos hk]
    exact (graph_twice hf hr).2
  · have e : HG objs roots = ([], []) := by unfold HG; rw [if_neg h]
    rw [e]
    exact ⟨⟨by simp, by simp⟩, by simp, by simp, by rfl, hg_nil⟩
end Go.Proofs.Yteeakklnlcjgbaa.Kit

end
section

namespace Go.Proofs.Yteeakklnlcjgbaa.Kit
open Go Go.RowKit Go.Proofs.YteeakklnlcjgbaaW.PrintWords Go.Proofs.Yteeakklnlcjgbaa.P
set_option linter.unusedVariables false
def Bytes (bs : List Int) : Prop := bs.length ≤ 2000 ∧ ∀ x ∈ bs, 0 ≤ x ∧ x ≤ 255
theorem Bytes.rd {bs : List Int} (h : Bytes bs) (i : Int) : 0 ≤ rd bs i ∧ rd bs i ≤ 255 := by
  unfold Go.Proofs.YteeakklnlcjgbaaW.PrintWords.rd
  rw [List.getD_eq_getElem?_getD]
  by_cases hi : i.toNat < bs.length
  · rw [List.getElem?_eq_getElem hi]
    exact h.2 _ (List.getElem_mem hi)
  · rw [List.getElem?_eq_none (by omega)]
    simp
theorem open_evp {l : List Int} (h : ∀ x ∈ l, (Lit.int .u8 x).wf = true) : ∃ bs, spec_l6Open.f l = some (bs, 0) ∧ Bytes bs := by
  have hb : ∀ x ∈ l, 0 ≤ x ∧ x ≤ 255 := by
    intro x hx
    have := h x hx
    simp [Lit.wf, IntKind.min, IntKind.max, IntKind.signed, IntKind.bits] at this
    omega
  unfold spec_l6Open.f
  by_cases h1 : (l.length : Int) > 2000
  · rw [if_pos h1, if_pos (by omega)]
    exact ⟨_, rfl, by rw [List.length_take]; omega, fun x hx => hb x (List.mem_of_mem_take hx)⟩
  · rw [if_neg h1]
    exact ⟨_, rfl, by omega, hb⟩
theorem pick_evp {bs : List Int} (h : Bytes bs) {p n : Int} (h0 : 0 ≤ p) (h1 : p ≤ 1000000000) (hn : n ≤ 1000000000) :
    Evp (fun k => spec_l6Rd_pick.f k bs p n) (fun r => 0 ≤ r.1 ∧ (1 ≤ n → r.1 < n) ∧ r.2 = p + 1) := by
  have hp : wrap64 (p + 1) = p + 1 := w64 (by omega) (by omega)
  have hp1 : wrap64 (p + 1 - 1) = p := by rw [w64 (by omega) (by omega)]; omega
  have key : ∀ b : Bool, (b = false → 1 ≤ n ∧ bs.length ≠ 0) → Evp (fun k => spec_l6Rd_pick.j0 k n b bs (p + 1)) (fun r => 0 ≤ r.1 ∧ (1 ≤ n → r.1 < n) ∧ r.2 = p + 1) := by
    intro b hb
    refine Evp.step (f := fun k => _) (fun k => by rw [spec_l6Rd_pick.j0]) ?_
    rw [hp1]
    cases b with
    | true =>
      refine Evp.yes rfl (Evp.pure _ ⟨by omega, fun h => by show (0 : Int) < n; omega, rfl⟩)
    | false =>
      obtain ⟨hn1, hl⟩ := hb rfl
      have hlen : (bs.length : Int) ≤ 2000 := by have := h.1; omega
      refine Evp.no (by decide) (Evp.ite (fun hlt => ?_) (fun hge => ?_))
      · refine Evp.yes h0 (Evp.no (by omega) (Evp.pure _ ?_))
        have hr := h.rd p
        rw [w64 (by omega) (by omega)]
        have := tmod_lo (b := n) hr.1 (by omega)
        exact ⟨this.1, fun _ => this.2, rfl⟩
      · have hm1 := tmod_lo (a := p) (b := (bs.length : Int)) h0 (by omega)
        have e7 : wrap64 (wrap64 (p * 7) + 3) = p * 7 + 3 := by rw [w64 (n := p * 7) (by omega) (by omega), w64 (by omega) (by omega)]
        have hm2 := tmod_lo (a := p * 7 + 3) (b := (bs.length : Int)) (by omega) (by omega)
        rw [e7]
        refine Evp.no (by omega) (Evp.yes hm1.1 (Evp.yes hm1.2 (Evp.yes hm2.1 (Evp.yes hm2.2 (Evp.no (by omega) (Evp.pure _ ?_))))))
        have r1 := h.rd (Int.tmod p (bs.length : Int))
        have r2 := h.rd (Int.tmod (p * 7 + 3) (bs.length : Int))
        generalize rd bs (Int.tmod p (bs.length : Int)) = a at r1 ⊢
        generalize rd bs (Int.tmod (p * 7 + 3) (bs.length : Int)) = c at r2 ⊢
        have hq : 0 ≤ Int.tdiv p (bs.length : Int) ∧ Int.tdiv p (bs.length : Int) ≤ p := by
          rw [tdiv_pos h0]
          exact ⟨Int.ediv_nonneg h0 (by omega), Int.ediv_le_self _ h0⟩
        generalize Int.tdiv p (bs.length : Int) = q at hq ⊢
        have ea : wrap64 (wrap64 a * 131) = a * 131 := by rw [w64 (n := a) (by omega) (by omega), w64 (by omega) (by omega)]
        have ec : wrap64 (wrap64 c * 1117) = c * 1117 := by rw [w64 (n := c) (by omega) (by omega), w64 (by omega) (by omega)]
        have e29 : wrap64 (p * 29) = p * 29 := w64 (by omega) (by omega)
        have eq5 : wrap64 (wrap64 q * 53) = q * 53 := by rw [w64 (n := q) (by omega) (by omega), w64 (by omega) (by omega)]
        have ex : wrap64 (wrap64 (wrap64 (a * 131 + c * 1117) + p * 29) + q * 53) = a * 131 + c * 1117 + p * 29 + q * 53 := by
          rw [w64 (n := a * 131 + c * 1117) (by omega) (by omega), w64 (n := a * 131 + c * 1117 + p * 29) (by omega) (by omega), w64 (by omega) (by omega)]
        rw [ea, ec, e29, eq5, ex]
        generalize hx : a * 131 + c * 1117 + p * 29 + q * 53 = X
        have hX : 0 ≤ X ∧ X < 4611686018427387904 := by omega
        have hd : 0 ≤ Int.tdiv X 64 ∧ Int.tdiv X 64 ≤ X := by rw [tdiv_pos hX.1]; omega
        rw [w64 (n := Int.tdiv X 64) (by omega) (by omega)]
        have hz := xor_nonneg hX.1 hX.2 hd.1 (by omega)
        have := tmod_lo (b := n) hz.1 (by omega)
        exact ⟨this.1, fun _ => this.2, rfl⟩
  unfold spec_l6Rd_pick.f
  rw [hp]
  refine Evp.ite (fun hn1 => key true (fun h => by cases h)) (fun hn1 => key _ (fun hb => ⟨by omega, ?_⟩))
  intro hl
  rw [hl] at hb
  simp at hb
end Go.Proofs.Yteeakklnlcjgbaa.Kit

end
section

namespace Go.Proofs.Yteeakklnlcjgbaa.Kit
open Go Go.RowKit Go.Proofs.YteeakklnlcjgbaaW.PrintWords Go.Proofs.Yteeakklnlcjgbaa.P
set_option linter.unusedVariables false
theorem le_vals {l : List S46} (hl : l.length ≤ 1073741824) : Evp (fun k => laws_leVals.f k l l) (fun r => r = true) := by
  unfold laws_leVals.f
  refine Evp.yes rfl ?_
  have key : ∀ i, i ≤ l.length → Evp (fun k => laws_leVals.l0 k l l (i : Int)) (fun r => r = true) := by
    refine Evp.for_ ?_ (fun i hi ih => ?_)
    · exact Evp.step (f := fun k => _) (fun k => by rw [laws_leVals.l0]) (Evp.no (by omega) (Evp.pure _ rfl))
    · refine Evp.step (f := fun k => _) (fun k => by rw [laws_leVals.l0, w64' hi (by omega)]) (Evp.yes (by omega) (Evp.yes (by omega) (Evp.yes (by omega) (Evp.no (by simp) ih))))
  exact key 0 (Nat.zero_le _)
theorem le_objs {l : List S48} (hs : Small l) : Evp (fun k => laws_leObjs.f k l l) (fun r => r = true) := by
  have hl := hs.1
  unfold laws_leObjs.f
  refine Evp.yes rfl ?_
  have key : ∀ i, i ≤ l.length → Evp (fun k => laws_leObjs.l0 k l l (i : Int)) (fun r => r = true) := by
    refine Evp.for_ ?_ (fun i hi ih => ?_)
    · exact Evp.step (f := fun k => _) (fun k => by rw [laws_leObjs.l0]) (Evp.no (by omega) (Evp.pure _ rfl))
    · refine Evp.step (f := fun k => _) (fun k => by rw [laws_leObjs.l0, rd48 hi, w64' hi (by omega)]) (Evp.yes (by omega) (Evp.yes (by omega) (Evp.yes (by omega) (Evp.yes rfl ?_))))
      refine Evp.bind (f := fun k t => if t = true then laws_leObjs.l0 k l l ((i + 1 : Nat) : Int) else some false) (le_vals (hs.2 _ (List.getElem_mem hi))) (fun t e => ?_)
      subst e
      exact Evp.yes rfl ih
  exact key 0 (Nat.zero_le _)
theorem word_evp {bs : List Int} (h : Bytes bs) {p : Int} (h0 : 0 ≤ p) (h1 : p ≤ 900000000) : Evp (fun k => spec_l71Word.f k bs p) (fun r => r.2 = p + 2) := by
  unfold spec_l71Word.f
  refine Evp.bind (pick_evp h h0 (by omega) (by decide)) fun a ha => ?_
  obtain ⟨a1, a2⟩ := a
  obtain ⟨ha0, ha1, rfl⟩ := ha
  refine Evp.ite (fun _ => ?_) (fun _ => ?_)
  · simp only [Option.bind_some]
    refine Evp.bind (pick_evp h (by omega) (by omega) (by decide)) fun d hd => ?_
    obtain ⟨d1, d2⟩ := d
    obtain ⟨hd0, hd1, rfl⟩ := hd
    have hd2 := hd1 (by decide)
    dsimp only at hd0 hd2
    exact Evp.yes hd0 (Evp.yes (by simpa using hd2) (Evp.pure _ (by show p + 1 + 1 = p + 2; omega)))
  · refine Evp.bind (pick_evp h (by omega) (by omega) (by decide)) fun d hd => ?_
    obtain ⟨d1, d2⟩ := d
    obtain ⟨hd0, hd1, rfl⟩ := hd
    exact Evp.pure _ (by show p + 1 + 1 = p + 2; omega)
theorem val_evp {bs : List Int} (h : Bytes bs) {p n : Int} (h0 : 0 ≤ p) (h1 : p ≤ 800000000) (hn0 : 0 ≤ n) (hn : n ≤ 1000) : Evp (fun k => spec_l72Val.f k bs p n) (fun r => p ≤ r.2.2 ∧ r.2.2 ≤ p + 3) := by
  unfold spec_l72Val.f
  refine Evp.bind (pick_evp h h0 (by omega) (by decide)) fun a ha => ?_
  obtain ⟨a1, a2⟩ := a
  obtain ⟨ha0, ha1, rfl⟩ := ha
  refine Evp.ite (fun _ => ?_) (fun _ => ?_)
  · refine Evp.bind (word_evp h (by omega) (by omega)) fun d hd => ?_
    obtain ⟨d1, d2⟩ := d
    obtain rfl := hd
    exact Evp.pure _ ⟨by show p ≤ p + 1 + 2; omega, by show p + 1 + 2 ≤ p + 3; omega⟩
  · rw [w64 (n := n + 1) (by omega) (by omega)]
    refine Evp.bind (pick_evp h (by omega) (by omega) (by omega)) fun d hd => ?_
    obtain ⟨d1, d2⟩ := d
    obtain ⟨hd0, hd1, rfl⟩ := hd
    exact Evp.pure _ ⟨by show p ≤ p + 1 + 1; omega, by show p + 1 + 1 ≤ p + 3; omega⟩
def Few (r : List S48 × List S46 × Int) : Prop := (r.1.length ≤ 100 ∧ ∀ o ∈ r.1, o.f1.length ≤ 100) ∧ r.2.1.length ≤ 100
theorem roots_evp {bs : List Int} (h : Bytes bs) {objs : List S48} (ho : objs.length ≤ 100 ∧ ∀ o ∈ objs, o.f1.length ≤ 100) {n : Int} (hn0 : 0 ≤ n) (hn : n ≤ 1000) :
    ∀ (c : Nat) (vs : List S46) (p : Int), 0 ≤ p → p + 3 * c ≤ 100000000 → vs.length + c ≤ 50 → Evp (fun k => spec_l72Heap.l2 k n objs vs (c : Int) bs p) Few
  | 0, vs, p, h0, h1, hl => by
    refine Evp.step (f := fun k => _) (fun k => by rw [spec_l72Heap.l2]) (Evp.no (by omega) ?_)
    refine Evp.bind (pick_evp h h0 (by omega) (by decide)) fun a ha => ?_
    obtain ⟨a1, a2⟩ := a
    obtain ⟨ha0, ha1, rfl⟩ := ha
    refine Evp.ite (fun _ => ?_) (fun _ => Evp.pure _ ⟨ho, by show vs.length ≤ 100; omega⟩)
    simp only [Option.bind_some]
    refine Evp.bind (pick_evp h (by omega) (by omega) (by decide)) fun d hd => ?_
    obtain ⟨d1, d2⟩ := d
    obtain ⟨hd0, hd1, rfl⟩ := hd
    have hd2 := hd1 (by decide)
    dsimp only at hd0 hd2
    exact Evp.yes hd0 (Evp.yes (by simpa using hd2) (Evp.yes (by omega) (Evp.pure _ ⟨ho, by simp; omega⟩)))
  | c + 1, vs, p, h0, h1, hl => by
    refine Evp.step (f := fun k => _) (fun k => by rw [spec_l72Heap.l2]) (Evp.yes (by omega) ?_)
    refine Evp.bind (val_evp h h0 (by omega) hn0 hn) fun a ha => ?_
    obtain ⟨a1, a2, a3⟩ := a
    obtain ⟨ha0, ha1⟩ := ha
    dsimp only at ha0 ha1
    refine Evp.yes (by omega) ?_
    rw [show wrap64 (((c + 1 : Nat) : Int) - 1) = (c : Int) by rw [w64 (by omega) (by omega)]; omega]
    dsimp only
    exact roots_evp h ho hn0 hn c _ _ (by omega) (by omega) (by simp; omega)
theorem vals_evp {bs : List Int} (h : Bytes bs) {objs : List S48} {n i cl : Int} (hn0 : 0 ≤ n) (hn : n ≤ 1000) (ho : objs.length ≤ 100) {R : List S48 × List S46 × Int → Prop} :
    ∀ (c : Nat) (vs : List S46) (p : Int), 0 ≤ p → p + 3 * c ≤ 100000000 → vs.length + c ≤ 50 →
      (∀ vs' p', vs'.length ≤ vs.length + c → p ≤ p' → p' ≤ p + 3 * c → Evp (fun k => spec_l72Heap.l0 k n (objs ++ [(⟨cl, vs'⟩ : S48)]) (wrap64 (i + 1)) bs p') R) → Evp (fun k => spec_l72Heap.l1 k n objs i (c : Int) bs p cl vs) R
  | 0, vs, p, h0, h1, hl, hk => by
    refine Evp.step (f := fun k => _) (fun k => by rw [spec_l72Heap.l1]) (Evp.no (by omega) (Evp.yes (by omega) ?_))
    exact hk vs p (by omega) (by omega) (by omega)
  | c + 1, vs, p, h0, h1, hl, hk => by
    refine Evp.step (f := fun k => _) (fun k => by rw [spec_l72Heap.l1]) (Evp.yes (by omega) ?_)
    refine Evp.bind (val_evp h h0 (by omega) hn0 hn) fun a ha => ?_
    obtain ⟨a1, a2, a3⟩ := a
    obtain ⟨ha0, ha1⟩ := ha
    dsimp only at ha0 ha1
    refine Evp.yes (by omega) ?_
    rw [show wrap64 (((c + 1 : Nat) : Int) - 1) = (c : Int) by rw [w64 (by omega) (by omega)]; omega]
    dsimp only
    exact vals_evp h hn0 hn ho c _ _ (by omega) (by omega) (by simp; omega) (fun vs' p' h2 h3 h4 => hk vs' p' (by simp at h2; omega) (by omega) (by omega))
theorem things_evp {bs : List Int} (h : Bytes bs) {n : Nat} (hn : n ≤ 20) : ∀ (d i : Nat) (objs : List S48) (p : Int), i + d = n → objs.length = i → (∀ o ∈ objs, o.f1.length ≤ 100) → 0 ≤ p → p + 100 * d ≤ 10000000 → Evp (fun k => spec_l72Heap.l0 k (n : Int) objs (i : Int) bs p) Few
  | 0, i, objs, p, hd, ho, hv, h0, h1 => by
    refine Evp.step (f := fun k => _) (fun k => by rw [spec_l72Heap.l0]) (Evp.no (by omega) ?_)
    refine Evp.bind (pick_evp h h0 (by omega) (by decide)) fun a ha => ?_
    obtain ⟨a1, a2⟩ := a
    obtain ⟨ha0, ha1, rfl⟩ := ha
    have ha2 := ha1 (by decide)
    dsimp only at ha0 ha2
    obtain ⟨c, rfl⟩ := Int.eq_ofNat_of_zero_le ha0
    exact roots_evp h ⟨by omega, hv⟩ (by omega) (by omega) c [] _ (by omega) (by omega) (by simp; omega)
  | d + 1, i, objs, p, hd, ho, hv, h0, h1 => by
    refine Evp.step (f := fun k => _) (fun k => by rw [spec_l72Heap.l0]) (Evp.yes (by omega) ?_)
    refine Evp.bind (pick_evp h h0 (by omega) (by decide)) fun a ha => ?_
    obtain ⟨a1, a2⟩ := a
    obtain ⟨ha0, ha1, rfl⟩ := ha
    refine Evp.bind (pick_evp h (by omega) (by omega) (by decide)) fun b hb => ?_
    obtain ⟨b1, b2⟩ := b
    obtain ⟨hb0, hb1, rfl⟩ := hb
    have hb2 := hb1 (by decide)
    dsimp only at hb0 hb2
    obtain ⟨c, rfl⟩ := Int.eq_ofNat_of_zero_le hb0
    refine vals_evp h (by omega) (by omega) (by omega) c [] _ (by omega) (by omega) (by simp; omega) (fun vs' p' h2 h3 h4 => ?_)
    rw [show wrap64 ((i : Int) + 1) = ((i + 1 : Nat) : Int) by rw [w64 (by omega) (by omega)]; omega]
    refine things_evp h hn d (i + 1) _ _ (by omega) (by simp; omega) (fun o hm => ?_) (by omega) (by omega)
    rcases List.mem_append.1 hm with hm | hm
    · exact hv o hm
    · simp at hm
      subst hm
      simp at h2
      show vs'.length ≤ 100
      omega
theorem draw_graph {l : List Int} (h : ∀ x ∈ l, (Lit.int .u8 x).wf = true) : Evp (fun k => spec_DrawHeapGraph.f k l) (fun r => (r.1.length ≤ 100 ∧ ∀ o ∈ r.1, o.f1.length ≤ 100) ∧ r.2.length ≤ 100) := by
  obtain ⟨bs, hb, hB⟩ := open_evp h
  unfold spec_DrawHeapGraph.f
  rw [hb]
  simp only [Option.bind_some]
  have key : Evp (fun k => spec_l72Heap.f k bs 0) Few := by
    unfold spec_l72Heap.f
    refine Evp.bind (pick_evp hB (by decide) (by decide) (by decide)) fun a ha => ?_
    obtain ⟨a1, a2⟩ := a
    obtain ⟨ha0, ha1, rfl⟩ := ha
    have ha2 := ha1 (by decide)
    dsimp only at ha0 ha2
    obtain ⟨n, rfl⟩ := Int.eq_ofNat_of_zero_le ha0
    exact things_evp hB (by omega) n 0 [] _ (by omega) rfl (by simp) (by omega) (by omega)
  refine Evp.bind key fun r hr => Evp.pure _ hr
end Go.Proofs.Yteeakklnlcjgbaa.Kit

end
section

namespace Go.Proofs.Yteeakklnlcjgbaa.Pure
open Go Go.RowKit Go.Proofs.YteeakklnlcjgbaaW.PrintWords Go.Proofs.Yteeakklnlcjgbaa.P Go.Proofs.Yteeakklnlcjgbaa.Kit
set_option linter.unusedVariables false
def upTo (n : Nat) : List Int := (List.range n).map fun (i : Nat) => (i : Int) + 1
theorem upTo_len (n : Nat) : (upTo n).length = n := by simp [upTo]
theorem upTo_at {n i : Nat} (h : i < (upTo n).length) : (upTo n)[i] = (i : Int) + 1 := by simp [upTo]
theorem upTo_mem {n : Nat} {x : Int} : x ∈ upTo n ↔ 1 ≤ x ∧ x ≤ (n : Int) := by
  unfold upTo
  rw [List.mem_map]
  constructor
  · rintro ⟨i, hi, rfl⟩
    have := List.mem_range.1 hi
    omega
  · intro h
    exact ⟨(x - 1).toNat, List.mem_range.2 (by omega), by omega⟩
theorem upTo_succ (n : Nat) : upTo (n + 1) = upTo n ++ [(n : Int) + 1] := by simp [upTo, List.range_succ]
theorem upTo_inj {n m : Nat} (h : upTo n = upTo m) : n = m := by have := congrArg List.length h; simpa [upTo_len] using this
theorem num_upTo {O : List Int} (hd : O.Nodup) : O.map (g_num O) = upTo O.length := by
  apply List.ext_getElem (by simp [upTo_len])
  intro i h1 h2
  have hi : i < O.length := by simpa using h1
  have hm : O[i] ∈ O := List.getElem_mem hi
  rw [List.getElem_map, upTo_at, num_idx hm]
  have h3 := List.idxOf_lt_length_of_mem hm
  have h4 := List.getElem_idxOf h3
  have : O.idxOf O[i] = i := (List.getElem_inj hd).1 h4
  rw [this]
theorem lead_step {n L : Nat} {v : S46} (hv : valOk L v = true) (hp : comeV (upTo n) v <+: upTo L) (hb : v.f0 = true) : 0 ≤ v.f1 ∧ v.f1 ≤ (n : Int) + 1 ∧ comeV (upTo n) v = upTo (max n v.f1.toNat) := by
  have h0 := (valOk_iff.1 hv hb).1
  unfold comeV at hp ⊢
  by_cases hc : v.f0 = true ∧ v.f1 ≠ 0 ∧ v.f1 ∉ upTo n
  · rw [if_pos hc] at hp ⊢
    have hl := hp.length_le
    simp [upTo_len] at hl
    have e := hp.getElem (i := n) (by simp [upTo_len])
    rw [upTo_at] at e
    rw [List.getElem_append_right (by simp [upTo_len])] at e
    simp [upTo_len] at e
    rw [e, show max n ((n : Int) + 1).toNat = n + 1 by omega, upTo_succ]
    exact ⟨by omega, by omega, rfl⟩
  · rw [if_neg hc]
    have h1 : v.f1 ≤ (n : Int) := by
      by_cases h2 : v.f1 = 0
      · omega
      · have h3 : v.f1 ∈ upTo n := Classical.byContradiction fun h => hc ⟨hb, h2, h⟩
        exact (upTo_mem.1 h3).2
    exact ⟨h0, by omega, by rw [show max n v.f1.toNat = n by omega]⟩
theorem lead_no {o : List Int} {v : S46} (hb : ¬ v.f0 = true) : comeV o v = o := by
  unfold comeV
  rw [if_neg (fun h => hb h.1)]
theorem mx_nat {n : Nat} {y : Int} (h : 0 ≤ y) : mx (n : Int) y = ((max n y.toNat : Nat) : Int) := by
  unfold mx
  split <;> omega
theorem led_ok {x : List S48} {r : List S46} (hs : Small x) (hf : Fine x) (hr : ∀ v ∈ r, valOk x.length v = true) (hrl : r.length ≤ 1073741824) (ho : ordP x r = upTo x.length) : Evp (fun k => laws_FnGraphLed.j0 k x r false) (fun t => t = true) := by
  have hn := hs.1
  have h1 : ∀ d i (n : Nat), i + d = x.length + 1 → i ≤ x.length → n ≤ 1073741824 → walkP x d i (upTo n) = upTo x.length → Evp (fun k => laws_FnGraphLed.l1 k x (n : Int) (i : Int)) (fun t => t = true) := by
    intro d
    induction d with
    | zero => intro i n h1 h2; omega
    | succ d ih =>
      intro i n hd hi hnn hw
      refine Evp.step (f := fun k => _) (fun k => by rw [laws_FnGraphLed.l1]) ?_
      have hpre := walk_pre x (d + 1) i (upTo n)
      rw [hw] at hpre
      have hnL := hpre.length_le
      rw [upTo_len, upTo_len] at hnL
      by_cases hil : i < x.length
      · refine Evp.yes (by omega) ?_
        have hin : i < n := by
          refine Classical.byContradiction fun h => ?_
          rw [walkP, dif_neg (by rw [upTo_len]; exact h)] at hw
          have := upTo_inj hw
          omega
        refine Evp.no (by omega) ?_
        rw [walkP, dif_pos (by rw [upTo_len]; exact hin), upTo_at] at hw
        have hva : valsAt x ((i : Int) + 1) = x[i].f1 := by
          unfold valsAt
          rw [show ((i : Int) + 1 - 1).toNat = i by omega, getD_at hil]
        rw [hva] at hw
        have hlv := hs.2 _ (List.getElem_mem hil)
        have hvv := hf.v _ (List.getElem_mem hil)
        have key : ∀ j, j ≤ x[i].f1.length → ∀ m : Nat, ((x[i].f1.drop j).foldl comeV (upTo m) = x[i].f1.foldl comeV (upTo n) ∧ m ≤ 1073741824) → Evp (fun k => laws_FnGraphLed.l2 k x (m : Int) (i : Int) (j : Int)) (fun t => t = true) := by
          refine Evp.fors (g := fun j (m : Nat) k => laws_FnGraphLed.l2 k x (m : Int) (i : Int) (j : Int)) (I := fun j (m : Nat) => (x[i].f1.drop j).foldl comeV (upTo m) = x[i].f1.foldl comeV (upTo n) ∧ m ≤ 1073741824) (R := fun _ _ t => t = true) (fun m hm => ?_) (fun j hj ihj m hm => ?_)
          · refine Evp.step (f := fun k => _) (fun k => by rw [laws_FnGraphLed.l2, rd48 hil]) (Evp.yes (by omega) (Evp.yes (by omega) (Evp.no (by omega) ?_)))
            rw [w64' hil (by omega)]
            obtain ⟨hm1, hm2⟩ := hm
            rw [List.drop_length, List.foldl_nil] at hm1
            rw [← hm1] at hw
            exact ih (i + 1) m (by omega) (by omega) hm2 hw
          · obtain ⟨hm1, hm2⟩ := hm
            rw [drop_at hj, List.foldl_cons] at hm1
            have hpj : comeV (upTo m) x[i].f1[j] <+: upTo x.length := by
              have h2 := fold_pre (x[i].f1.drop (j + 1)) (comeV (upTo m) x[i].f1[j])
              rw [hm1] at h2
              have h3 := walk_pre x d (i + 1) (x[i].f1.foldl comeV (upTo n))
              rw [hw] at h3
              exact h2.trans h3
            refine Evp.step (f := fun k => _) (fun k => by rw [laws_FnGraphLed.l2, rd48 hil, rd46 hj, w64 (n := (m : Int) + 1) (by omega) (by omega)]) (Evp.yes (by omega) (Evp.yes (by omega) (Evp.yes (by omega) (Evp.yes (by omega) (Evp.ite (fun hb => ?_) (fun hb => ?_))))))
            · obtain ⟨g0, g1, g2⟩ := lead_step (hvv _ (List.getElem_mem hj)) hpj hb
              refine Evp.step (f := fun k => _) (fun k => by rw [laws_FnGraphLed.j5, w64' hj (by omega), mx_nat g0]) (Evp.no (by simp; omega) (Evp.yes hb ?_))
              have g3 := (valOk_iff.1 (hvv _ (List.getElem_mem hj)) hb).2
              exact ihj _ ⟨by rw [← g2]; exact hm1, by omega⟩
            · rw [lead_no hb] at hm1
              refine Evp.step (f := fun k => _) (fun k => by rw [laws_FnGraphLed.j5, w64' hj (by omega)]) (Evp.no (by simp) (Evp.no hb ?_))
              exact ihj _ ⟨hm1, hm2⟩
        exact key 0 (Nat.zero_le _) n ⟨rfl, hnn⟩
      · refine Evp.no (by omega) (Evp.pure _ ?_)
        rw [walkP, dif_neg (by rw [upTo_len]; omega)] at hw
        have := upTo_inj hw
        subst this
        simp
  have h0 : ∀ i, i ≤ r.length → ∀ n : Nat, ((r.drop i).foldl comeV (upTo n) = r.foldl comeV [] ∧ n ≤ 1073741824) → Evp (fun k => laws_FnGraphLed.l0 k x r (n : Int) (i : Int)) (fun t => t = true) := by
    refine Evp.fors (g := fun i (n : Nat) k => laws_FnGraphLed.l0 k x r (n : Int) (i : Int)) (I := fun i (n : Nat) => (r.drop i).foldl comeV (upTo n) = r.foldl comeV [] ∧ n ≤ 1073741824) (R := fun _ _ t => t = true) (fun n hm => ?_) (fun i hi ih n hm => ?_)
    · refine Evp.step (f := fun k => _) (fun k => by rw [laws_FnGraphLed.l0]) (Evp.no (by omega) ?_)
      obtain ⟨hm1, hm2⟩ := hm
      rw [List.drop_length, List.foldl_nil] at hm1
      exact h1 (x.length + 1) 0 n (by omega) (by omega) hm2 (by rw [hm1]; exact ho)
    · obtain ⟨hm1, hm2⟩ := hm
      rw [drop_at hi, List.foldl_cons] at hm1
      have hpj : comeV (upTo n) r[i] <+: upTo x.length := by
        have h2 := fold_pre (r.drop (i + 1)) (comeV (upTo n) r[i])
        rw [hm1] at h2
        have h3 := walk_pre x (x.length + 1) 0 (r.foldl comeV [])
        rw [show walkP x (x.length + 1) 0 (r.foldl comeV []) = upTo x.length from ho] at h3
        exact h2.trans h3
      refine Evp.step (f := fun k => _) (fun k => by rw [laws_FnGraphLed.l0, rd46 hi, w64 (n := (n : Int) + 1) (by omega) (by omega)]) (Evp.yes (by omega) (Evp.yes (by omega) (Evp.ite (fun hb => ?_) (fun hb => ?_))))
      · obtain ⟨g0, g1, g2⟩ := lead_step (hr _ (List.getElem_mem hi)) hpj hb
        refine Evp.step (f := fun k => _) (fun k => by rw [laws_FnGraphLed.j2, rd46 hi, w64' hi (by omega), mx_nat g0]) (Evp.no (by simp; omega) (Evp.yes (by omega) (Evp.yes (by omega) (Evp.yes hb ?_))))
        have g3 := (valOk_iff.1 (hr _ (List.getElem_mem hi)) hb).2
        exact ih _ ⟨by rw [← g2]; exact hm1, by omega⟩
      · rw [lead_no hb] at hm1
        refine Evp.step (f := fun k => _) (fun k => by rw [laws_FnGraphLed.j2, rd46 hi, w64' hi (by omega)]) (Evp.no (by simp) (Evp.yes (by omega) (Evp.yes (by omega) (Evp.no hb ?_))))
        exact ih _ ⟨hm1, hm2⟩
  refine Evp.step (f := fun k => _) (fun k => by rw [laws_FnGraphLed.j0]) (Evp.no (by simp) ?_)
  exact h0 0 (Nat.zero_le _) 0 ⟨rfl, by omega⟩
theorem FnGraphLed : laws_FnGraphLed.Pure := by
  intro l _ _ h
  refine Evp.rounds ?_
  unfold laws_FnGraphLed.f
  refine Evp.ite (fun _ => Evp.pure _ rfl) (fun _ => ?_)
  refine Evp.bind (draw_graph h) fun a ha => ?_
  obtain ⟨objs, roots⟩ := a
  obtain ⟨⟨ho, hv⟩, hr⟩ := ha
  dsimp only at ho hv hr
  have hs : Small objs := ⟨by omega, fun o hm => by have := hv o hm; omega⟩
  have hrl : roots.length ≤ 1073741824 := by omega
  have hp := hg_parts hs hrl
  refine Evp.bind (impl_graph hs hrl) fun g e => ?_
  subst e
  refine Evp.bind (spec_graph hs hrl) fun g e => ?_
  subst e
  refine Evp.bind (le_objs hp.1) fun t e => ?_
  subst e
  refine Evp.yes rfl ?_
  refine Evp.bind (le_vals hp.2.1) fun t e => ?_
  subst e
  have hk := hp.2.2.2.1
  refine led_ok hp.1 (Fine.of hp.1 hk) (heapOk_iff.1 hk).1 hp.2.1 ?_
  by_cases hh : heapOk objs roots = true
  · have e : HG objs roots = graphP objs roots := by unfold HG; rw [if_pos hh]
    rw [e]
    have hf := Fine.of hs hh
    have hrv := (heapOk_iff.1 hh).1
    rw [(graph_twice hf hrv).1, num_upTo (ord_inv hf hrv).1]
    simp [graphP]
  · have e : HG objs roots = ([], []) := by unfold HG; rw [if_neg hh]
    rw [e]
    rfl
end Go.Proofs.Yteeakklnlcjgbaa.Pure

end
section

namespace Go.Proofs.Yteeakklnlcjgbaa.fnGraphLed
open Go.ChangeShapes Go.WideShapes Go.ChangeAt Go.RowKit
open Go.ChangeMaps (open_string shut_string)
set_option linter.unusedVariables false
theorem own : ownKnob Try.prog.godebug = none := by kernel_rfl
theorem laidOut : laidOutB Try.prog = true := by kernel_rfl
def IsRow (k : IntKind) (w : World) (a : Option Addr) (len cap : Nat) (zs : List Int) : Prop :=
  (a = none ∧ len = 0 ∧ cap = 0 ∧ zs = []) ∨
  ∃ x, a = some x ∧ len ≤ cap ∧ cap ≤ maxLen ∧ zs.length = cap ∧ (∀ i, i < zs.length → w.cell? (x.add i) = some (.int k (zs.getD i 0))) ∧ ∀ n ∈ zs, (Lit.int k n).wf = true
set_option maxRecDepth 100000 in
theorem lifted (os : Os) (started : os.Started) (H : Type) (enc : TypeId × Value → H) :
    ReturnsInHanded {} Try.checked os 8 .any (Rows.fnGraphLedSpec.pre6 enc Try.prog Try.f8 Rows.fnGraphLedRow.domain false) (Rows.fnGraphLedSpec.post enc Try.prog Try.f8 false true false false) := by
  refine returnsInHanded_of_change_sized (C := Try.checked) own started (by kernel_rfl) Try.func8
    (ChangeSpec.witness6 (enc := enc) (C := Try.checked) false ⟨#[], #[.slice none 0 0], []⟩ 8 (by kernel_rfl) (by kernel_rfl) (by kernel_rfl) (by kernel_rfl)) ?_
  intro W base args ds gs before hval0 hW hcnd hsz0 _
  have hsz : (DataW.weightsEach Try.prog (Try.f8.params.toList ++ Rows.fnGraphLedSpec.plain.varTypes Try.prog) (ds ++ gs)).all (· ≤ reachBytes) = true := hsz0
  have hval : ∀ (j : Nat) t v, Try.f8.params[j]? = some t → args[j]? = some v → Value.okWide Try.prog W .any base t v := hval0
  have hW' := hW
  obtain ⟨p, q, hA0, hV, rfl, hfz, hnd⟩ := hW
  have hA : DataW.TrodAll enc Try.prog W 0 (fun _ => true) true Try.f8.params.toList args.toList ds p := hA0
  rw [Try.params8] at hA hval hsz
  obtain ⟨v0, vs0, d0, ds0, p0, q0, hargs, rfl, rfl, h0, r0⟩ := trodAll_cons hA
  obtain ⟨rfl, rfl, rfl⟩ := trodAll_nil r0
  obtain rfl : args = #[v0] := by cases args; simp_all
  obtain ⟨rfl, rfl⟩ := trodVars_none hV
  obtain ⟨a0, len0, cap0, rfl⟩ := okWide_slice Try.underlying25 (hval 0 25 v0 rfl rfl)
  have k0 := h0
  have lt0 : ∀ x ∈ p0, x.block < W.heap.size := by obtain ⟨m, hm⟩ := k0; exact DataW.trod_lt m _ _ _ hm
  obtain ⟨z0, w0⟩ : ∃ zs, IsRow .u8 W a0 len0 cap0 zs := by
    obtain ⟨fuel, hf⟩ := h0
    rcases open_ints Try.underlying25 Try.underlying5 (by kernel_rfl) hf with ⟨hcs, _⟩ | ⟨x, l, c, zs, hcs, _, hl, hm, hz, _, hcell, hwz⟩
    · simp [Value.cells] at hcs
      obtain ⟨rfl, rfl, rfl⟩ := hcs
      exact ⟨[], .inl ⟨rfl, rfl, rfl, rfl⟩⟩
    · simp [Value.cells] at hcs
      obtain ⟨rfl, rfl, rfl⟩ := hcs
      exact ⟨zs, .inr ⟨_, rfl, hl, hm, by simpa using hz, hcell, hwz⟩⟩
  have y0 : len0 * 1 ≤ 140737488351232 := Go.Proofs.YteeakklnlcjgbaaW.PrintWords.sized_ints hsz (j := 0) (t := 25) rfl rfl Try.underlying25 Try.underlying5 (by kernel_rfl) (by kernel_rfl) h0
  clear hA0 hval0 hsz0 hsz
  refine (P.laws_FnGraphLed.walk Pure.FnGraphLed a0 len0 cap0 z0 W w0 y0).mono fun e W' ⟨he, bel⟩ => ?_
  subst he
  exact ⟨_, rfl, _, _, _, [], _, [], hW', trodAll_mk1 (shut_bool Try.underlying4 _), (trodAll_cons_mk (Below.trod laidOut (by kernel_rfl) (of_decide_eq_true (by kernel_rfl)) k0 bel lt0) trodAll_mk0), rfl, bel.frame _, fun h => by cases h⟩
theorem over : Rows.fnGraphLedRow.holds Try.pinned (OpenSpec.ofChange Rows.fnGraphLedSpec) :=
  OpenClaim.holds_of_wide 8 Try.f8 rfl rfl rfl rfl rfl rfl rfl ⟨rfl, rfl, rfl, rfl, rfl⟩ rfl rfl rfl rfl rfl (by kernel_rfl) Try.func8 (by show joinedFacts Try.prog _ _ _ _ = true; unfold joinedFacts; rw [Go.Proofs.Yteeakklnlcjgbaa.enter, Go.Proofs.Yteeakklnlcjgbaa.make, Go.Proofs.Yteeakklnlcjgbaa.lifts]; kernel_rfl)
    (of_decide_eq_true (by kernel_rfl)) (by unfold Func.isWrapper; first | (rw [if_pos (by decide +kernel)]; kernel_rfl) | (rw [if_neg (by decide +kernel)]; exact ⟨rfl, rfl⟩))
    (fun os started H enc _ => lifted os started H enc)
theorem proved : Rows.FnGraphLedSaid := over
#print axioms proved
end Go.Proofs.Yteeakklnlcjgbaa.fnGraphLed
namespace Go.Proofs.Yteeakklnlcjgbaa
theorem fnGraphLed_holds : Rows.FnGraphLedSaid := fnGraphLed.proved
end Go.Proofs.Yteeakklnlcjgbaa

end
