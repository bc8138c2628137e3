/- FnGraphTurn: for every two codes the things drawn out of the first leave the same as the reference says, and the same if they stand in another order, turned by so many as the second has bytes; the one condition is that each code takes at most 2^47 - 4096 bytes. -/
import Derived.Test.YteeakklnlcjgbaaCFnGraphTurn28
import Derived.Test.YteeakklnlcjgbaaCFnGraphTurn23
import Derived.Test.YteeakklnlcjgbaaRows
import Derived.Test.YteeakklnlcjgbaaCFnGraphTurn22
import Derived.WalkKit
import Derived.ProofKit
import Derived.OpenShut
import Derived.ShutString
import Derived.ChangeOld
import Derived.Below
import Derived.SizedLaws
import Derived.Test.YteeakklnlcjgbaaCFnGraphTurn21
import Derived.Test.YteeakklnlcjgbaaCFnGraphTurn0
import Derived.Test.YteeakklnlcjgbaaCFnGraphTurn1
import Derived.Test.YteeakklnlcjgbaaCFnGraphTurn2
import Derived.Test.YteeakklnlcjgbaaCFnGraphTurn3
import Derived.Test.YteeakklnlcjgbaaCFnGraphTurn4
import Derived.Test.YteeakklnlcjgbaaCFnGraphTurn5
import Derived.Test.YteeakklnlcjgbaaCFnGraphTurn6
import Derived.Test.YteeakklnlcjgbaaCFnGraphTurn7
import Derived.Test.YteeakklnlcjgbaaCFnGraphTurn8
import Derived.Test.YteeakklnlcjgbaaCFnGraphTurn9
import Derived.Test.YteeakklnlcjgbaaCFnGraphTurn10
import Derived.Test.YteeakklnlcjgbaaCFnGraphTurn11
import Derived.Test.YteeakklnlcjgbaaCFnGraphTurn12
import Derived.Test.YteeakklnlcjgbaaCFnGraphTurn13
import Derived.Test.YteeakklnlcjgbaaCFnGraphTurn14
import Derived.Test.YteeakklnlcjgbaaCFnGraphTurn15
import Derived.Test.YteeakklnlcjgbaaCFnGraphTurn16
import Derived.Test.YteeakklnlcjgbaaCFnGraphTurn17
import Derived.Test.YteeakklnlcjgbaaCFnGraphTurn18
import Derived.Test.YteeakklnlcjgbaaCFnGraphTurn19
import Derived.Test.YteeakklnlcjgbaaCFnGraphTurn20
import Derived.Test.YteeakklnlcjgbaaCFnGraphTurn24
import Derived.Test.YteeakklnlcjgbaaCFnGraphTurn25
import Derived.Test.YteeakklnlcjgbaaCFnGraphTurn26
import Derived.Test.YteeakklnlcjgbaaCFnGraphTurn27
section

namespace Go.Proofs.Yteeakklnlcjgbaa.Kit
open Go Go.RowKit Go.Proofs.YteeakklnlcjgbaaW.PrintWords Go.Proofs.Yteeakklnlcjgbaa.P
set_option linter.unusedVariables false
def rv (ρ : Int → Int) (v : S46) : S46 := if v.f0 = true then ⟨true, ρ v.f1⟩ else v
structure Ren (O : List Int) (ρ : Int → Int) : Prop where
  z : ρ 0 = 0
  nz : ∀ x ∈ O, ρ x ≠ 0
  inj : ∀ x ∈ O, ∀ y ∈ O, ρ x = ρ y → x = y
theorem Ren.mem {O o : List Int} {ρ : Int → Int} (h : Ren O ρ) (ho : ∀ x ∈ o, x ∈ O) {y : Int} (hy : y ∈ O) : ρ y ∈ o.map ρ ↔ y ∈ o := by
  constructor
  · intro hm
    obtain ⟨x, hx, e⟩ := List.mem_map.1 hm
    rw [← h.inj x (ho x hx) y hy e]
    exact hx
  · exact fun hm => List.mem_map_of_mem hm
theorem rv_come {O o : List Int} {ρ : Int → Int} (h : Ren O ρ) (ho : ∀ x ∈ o, x ∈ O) {v : S46} (hv : Cov O v) : comeV (o.map ρ) (rv ρ v) = (comeV o v).map ρ := by
  unfold comeV rv
  by_cases hb : v.f0 = true
  · rw [if_pos hb]
    rcases hv hb with h0 | hm
    · simp [h0, h.z]
    · have h1 : v.f1 ≠ 0 := by
        intro e
        have := h.nz _ hm
        rw [e, h.z] at this
        exact this rfl
      have h2 := h.nz _ hm
      have h3 := h.mem ho hm
      by_cases hx : v.f1 ∈ o
      · rw [if_neg (by simp [h3.2 hx]), if_neg (by simp [hx])]
      · rw [if_pos ⟨rfl, h2, fun e => hx (h3.1 e)⟩, if_pos ⟨hb, h1, hx⟩]
        simp
  · rw [if_neg hb]
    simp [hb]
theorem come_sub {O o : List Int} (ho : ∀ x ∈ o, x ∈ O) {v : S46} (hv : Cov O v) : ∀ x ∈ comeV o v, x ∈ O := by
  intro x hx
  unfold comeV at hx
  split at hx
  · rename_i hc
    rcases List.mem_append.1 hx with h | h
    · exact ho x h
    · simp at h
      subst h
      exact (hv hc.1).resolve_left hc.2.1
  · exact ho x hx
theorem rv_fold {O : List Int} {ρ : Int → Int} (h : Ren O ρ) : ∀ (vs : List S46) (o : List Int), (∀ x ∈ o, x ∈ O) → (∀ v ∈ vs, Cov O v) → (vs.map (rv ρ)).foldl comeV (o.map ρ) = (vs.foldl comeV o).map ρ ∧ ∀ x ∈ vs.foldl comeV o, x ∈ O
  | [], o, ho, _ => ⟨rfl, ho⟩
  | v :: vs, o, ho, hv => by
    have h1 := hv v (by simp)
    simp only [List.map_cons, List.foldl_cons]
    rw [rv_come h ho h1]
    exact rv_fold h vs _ (come_sub ho h1) (fun u hu => hv u (by simp [hu]))
theorem rv_walk {O : List Int} {ρ : Int → Int} (h : Ren O ρ) {objs objs' : List S48} (hc : ∀ x ∈ O, ∀ v ∈ valsAt objs x, Cov O v) (hv : ∀ x ∈ O, valsAt objs' (ρ x) = (valsAt objs x).map (rv ρ)) : ∀ d i (o : List Int), (∀ x ∈ o, x ∈ O) → walkP objs' d i (o.map ρ) = (walkP objs d i o).map ρ
  | 0, _, _, _ => rfl
  | d + 1, i, o, ho => by
    rw [walkP, walkP]
    by_cases hi : i < o.length
    · have hx := ho _ (List.getElem_mem hi)
      rw [dif_pos (by simpa using hi), dif_pos hi]
      simp only [List.getElem_map]
      rw [hv _ hx]
      have h2 := rv_fold h (valsAt objs o[i]) o ho (hc _ hx)
      rw [h2.1]
      exact rv_walk h hc hv d (i + 1) _ h2.2
    · rw [dif_neg (by simpa using hi), dif_neg hi]
theorem walk_more {objs : List S48} (hf : Fine objs) : ∀ d i e (o : List Int), Inv objs.length o → objs.length + 1 ≤ i + d → walkP objs (d + e) i o = walkP objs d i o
  | 0, i, e, o, ho, hd => by
    have := ho.len
    cases e with
    | zero => rfl
    | succ e =>
      rw [Nat.zero_add]
      simp only [walkP]
      rw [dif_neg (by omega)]
  | d + 1, i, e, o, ho, hd => by
    rw [show d + 1 + e = (d + e) + 1 by omega, walkP, walkP]
    split
    · rename_i hi
      have hx := ho.2 _ (List.getElem_mem hi)
      exact walk_more hf d (i + 1) e _ (ho.fold (hf.vals hx.1 hx.2).2) (by omega)
    · rfl
theorem ord_cov {objs : List S48} {roots : List S46} (hf : Fine objs) (hr : ∀ v ∈ roots, valOk objs.length v = true) : (∀ v ∈ roots, Cov (ordP objs roots) v) ∧ ∀ x ∈ ordP objs roots, ∀ v ∈ valsAt objs x, Cov (ordP objs roots) v :=
  ⟨fun v hv => (fold_cov roots [] v hv).pre (walk_pre objs _ 0 _), walk_cov hf _ 0 _ ((Inv.nil _).fold hr) (by omega) (fun j hj h => absurd h (by omega))⟩
theorem num_map {O : List Int} {ρ : Int → Int} (h : Ren O ρ) {y : Int} (hy : y = 0 ∨ y ∈ O) (h0 : (0 : Int) ∉ O) : g_num (O.map ρ) (ρ y) = g_num O y := by
  rcases hy with rfl | hy
  · rw [h.z]
    unfold g_num
    rw [if_neg h0, if_neg (by
      intro hm
      obtain ⟨x, hx, e⟩ := List.mem_map.1 hm
      exact h.nz x hx e)]
  · unfold g_num
    rw [if_pos hy, if_pos (List.mem_map_of_mem hy)]
    congr 2
    have key : ∀ (l : List Int), (∀ x ∈ l, x ∈ O) → (l.map ρ).idxOf (ρ y) = l.idxOf y := by
      intro l
      induction l with
      | nil => intro _; rfl
      | cons a l ih =>
        intro hl
        rw [List.map_cons, List.idxOf_cons, List.idxOf_cons]
        have ha : (ρ a == ρ y) = (a == y) := by
          by_cases e : a = y
          · rw [e, beq_self_eq_true, beq_self_eq_true]
          · have : ρ a ≠ ρ y := fun e' => e (h.inj a (hl a (by simp)) y hy e')
            rw [beq_eq_false_iff_ne.mpr this, beq_eq_false_iff_ne.mpr e]
        rw [ha, ih (fun x hx => hl x (by simp [hx]))]
    exact key O (fun _ hx => hx)
theorem graph_ren {objs objs' : List S48} {roots roots' : List S46} {ρ : Int → Int} (hf : Fine objs) (hr : ∀ v ∈ roots, valOk objs.length v = true) (hf' : Fine objs') (hr' : ∀ v ∈ roots', valOk objs'.length v = true)
    (h : Ren (ordP objs roots) ρ) (hroots : roots' = roots.map (rv ρ)) (hv : ∀ x ∈ ordP objs roots, valsAt objs' (ρ x) = (valsAt objs x).map (rv ρ)) (hc : ∀ x ∈ ordP objs roots, (objs'.getD (ρ x - 1).toNat z48).f0 = (objs.getD (x - 1).toNat z48).f0) :
    ordP objs' roots' = (ordP objs roots).map ρ ∧ graphP objs' roots' = graphP objs roots := by
  obtain ⟨hcr, hcv⟩ := ord_cov hf hr
  have h0 : (0 : Int) ∉ ordP objs roots := fun h => by have := (ord_inv hf hr).2 _ h; omega
  have hord : ordP objs' roots' = (ordP objs roots).map ρ := by
    have h1 := rv_fold h roots [] (by simp) hcr
    have h2 : roots'.foldl comeV [] = (roots.foldl comeV []).map ρ := by rw [hroots]; exact h1.1
    have hi := (Inv.nil objs.length).fold hr
    have hi' := (Inv.nil objs'.length).fold hr'
    unfold ordP
    rw [← walk_more hf (objs.length + 1) 0 (objs'.length + 1) _ hi (by omega), ← walk_more hf' (objs'.length + 1) 0 (objs.length + 1) _ hi' (by omega), h2, Nat.add_comm (objs'.length + 1)]
    exact rv_walk h hcv hv _ 0 _ h1.2
  refine ⟨hord, ?_⟩
  have hmv : ∀ v, Cov (ordP objs roots) v → mv (ordP objs' roots') (rv ρ v) = mv (ordP objs roots) v := by
    intro v hv
    unfold mv rv
    by_cases hb : v.f0 = true
    · rw [if_pos hb, if_pos hb, hord]
      simp only [if_true]
      rw [num_map h (hv hb) h0]
    · simp [hb]
  have hl : ∀ vs : List S46, (∀ v ∈ vs, Cov (ordP objs roots) v) → (vs.map (rv ρ)).map (mv (ordP objs' roots')) = vs.map (mv (ordP objs roots)) := by
    intro vs hvs
    rw [List.map_map]
    exact List.map_congr_left (fun v hv => hmv v (hvs v hv))
  unfold graphP
  congr 1
  · rw [hord, List.map_map]
    refine List.map_congr_left (fun x hx => ?_)
    show objP objs' _ (ρ x) = objP objs _ x
    unfold objP
    rw [hc x hx, hv x hx, ← hord, hl _ (hcv x hx)]
  · have h3 := hl _ hcr
    rw [← hroots] at h3
    exact h3
end Go.Proofs.Yteeakklnlcjgbaa.Kit

end
section

namespace Go.Proofs.Yteeakklnlcjgbaa.Kit
open Go Go.RowKit Go.Proofs.YteeakklnlcjgbaaW.PrintWords Go.Proofs.Yteeakklnlcjgbaa.P
set_option linter.unusedVariables false
theorem g_num_le (O : List Int) (y : Int) : 0 ≤ g_num O y ∧ g_num O y ≤ (O.length : Int) := by
  unfold g_num
  split
  · rename_i h
    have := List.idxOf_lt_length_of_mem h
    omega
  · omega
theorem mv_valOk (O : List Int) (v : S46) (n : Nat) (h : O.length ≤ n) : valOk n (mv O v) = true := by
  rw [valOk_iff]
  unfold mv
  split
  · intro _
    have := g_num_le O v.f1
    show 0 ≤ g_num O v.f1 ∧ g_num O v.f1 ≤ (n : Int)
    omega
  · intro h1; rename_i h2; exact absurd h1 h2
theorem objP_len {objs : List S48} (hf : Fine objs) {O : List Int} {x : Int} (h0 : 1 ≤ x) (h1 : x ≤ (objs.length : Int)) : (objP objs O x).f1.length ≤ 1073741824 := by
  have := (hf.vals h0 h1).1
  simpa [objP] using this
theorem graph_fine {objs : List S48} {roots : List S46} (hf : Fine objs) (hr : ∀ v ∈ roots, valOk objs.length v = true) : Fine (graphP objs roots).1 ∧ (∀ v ∈ (graphP objs roots).2, valOk (graphP objs roots).1.length v = true) ∧ (graphP objs roots).1.length ≤ objs.length := by
  have hi := ord_inv hf hr
  have hl := hi.len
  have hn := hf.n
  have e : (graphP objs roots).1.length = (ordP objs roots).length := by simp [graphP]
  refine ⟨⟨by omega, ?_, ?_⟩, ?_, by omega⟩
  · intro o ho
    obtain ⟨x, hx, rfl⟩ := List.mem_map.1 ho
    have := hi.2 x hx
    exact objP_len hf this.1 this.2
  · intro o ho v hv
    obtain ⟨x, hx, rfl⟩ := List.mem_map.1 ho
    obtain ⟨u, hu, rfl⟩ := List.mem_map.1 (show v ∈ (valsAt objs x).map (mv (ordP objs roots)) from hv)
    exact mv_valOk _ _ _ (by omega)
  · intro v hv
    obtain ⟨u, hu, rfl⟩ := List.mem_map.1 (show v ∈ roots.map (mv (ordP objs roots)) from hv)
    exact mv_valOk _ _ _ (by omega)
theorem num_idx {O : List Int} {y : Int} (hy : y ∈ O) : g_num O y = ((O.idxOf y : Nat) : Int) + 1 := by unfold g_num; rw [if_pos hy]
theorem num_ren {O : List Int} (h0 : (0 : Int) ∉ O) : Ren O (g_num O) := by
  refine ⟨by unfold g_num; rw [if_neg h0], fun x hx => by rw [num_idx hx]; omega, fun x hx y hy e => ?_⟩
  rw [num_idx hx, num_idx hy] at e
  have e2 : O.idxOf x = O.idxOf y := by omega
  have h1 := List.getElem_idxOf (List.idxOf_lt_length_of_mem hx)
  have h2 := List.getElem_idxOf (List.idxOf_lt_length_of_mem hy)
  rw [← h1, ← h2]
  congr 1
theorem graph_at {objs : List S48} {roots : List S46} {y : Int} (hy : y ∈ ordP objs roots) : (graphP objs roots).1.getD (g_num (ordP objs roots) y - 1).toNat z48 = objP objs (ordP objs roots) y := by
  have hlt := List.idxOf_lt_length_of_mem hy
  rw [num_idx hy, show (((ordP objs roots).idxOf y : Nat) : Int) + 1 - 1 = (((ordP objs roots).idxOf y : Nat) : Int) by omega, Int.toNat_natCast, getD_at (by simpa [graphP] using hlt)]
  simp only [graphP, List.getElem_map]
  rw [List.getElem_idxOf hlt]
theorem graph_twice {objs : List S48} {roots : List S46} (hf : Fine objs) (hr : ∀ v ∈ roots, valOk objs.length v = true) :
    ordP (graphP objs roots).1 (graphP objs roots).2 = (ordP objs roots).map (g_num (ordP objs roots)) ∧ graphP (graphP objs roots).1 (graphP objs roots).2 = graphP objs roots := by
  have h0 : (0 : Int) ∉ ordP objs roots := fun h => by have := (ord_inv hf hr).2 _ h; omega
  have hg := graph_fine hf hr
  refine graph_ren hf hr hg.1 hg.2.1 (num_ren h0) rfl (fun x hx => ?_) (fun x hx => ?_)
  · unfold valsAt
    rw [graph_at hx]
    rfl
  · rw [graph_at hx]
    rfl
theorem hg_nil : HG [] [] = ([], []) := by
  unfold HG
  split
  · rfl
  · rfl
theorem hg_parts {objs : List S48} {roots : List S46} (hs : Small objs) (hl : roots.length ≤ 1073741824) : Small (HG objs roots).1 ∧ (HG objs roots).2.length ≤ 1073741824 ∧ (HG objs roots).1.length ≤ objs.length ∧ heapOk (HG objs roots).1 (HG objs roots).2 = true ∧ HG (HG objs roots).1 (HG objs roots).2 = HG objs roots := by
  by_cases h : heapOk objs roots = true
  · have e : HG objs roots = graphP objs roots := by unfold HG; rw [if_pos h]
    have hf := Fine.of hs h
    have hr := (heapOk_iff.1 h).1
    have hg := graph_fine hf hr
    rw [e]
    have hk : heapOk (graphP objs roots).1 (graphP objs roots).2 = true := heapOk_iff.2 ⟨hg.2.1, hg.1.v⟩
    refine ⟨⟨hg.1.n, hg.1.l⟩, by simpa [graphP] using hl, hg.2.2, hk, ?_⟩
    unfold HG
    rw [if_pos hk]
    exact (graph_twice hf hr).2
  · have e : HG objs roots = ([], []) := by unfold HG; rw [if_neg h]
    rw [e]
    exact ⟨⟨by simp, by simp⟩, by simp, by simp, by rfl, hg_nil⟩
def tn (n b : Nat) (y : Int) : Int := if 0 < y then (y - 1 - b + n) % n + 1 else y
def turnV (n b : Nat) (v : S46) : S46 := if v.f0 = true then ⟨true, tn n b v.f1⟩ else v
def turnO (objs : List S48) (b : Nat) : List S48 := (List.range objs.length).map fun i => ⟨(objs.getD ((i + b) % objs.length) z48).f0, (objs.getD ((i + b) % objs.length) z48).f1.map (turnV objs.length b)⟩
theorem tn_range {n b : Nat} {y : Int} (hb : b < n) (h0 : 1 ≤ y) (h1 : y ≤ (n : Int)) : 1 ≤ tn n b y ∧ tn n b y ≤ (n : Int) ∧ ((tn n b y - 1).toNat + b) % n = (y - 1).toNat := by
  obtain ⟨j, rfl⟩ : ∃ j : Nat, y = (j : Int) + 1 := ⟨(y - 1).toNat, by omega⟩
  have hj : j < n := by omega
  unfold tn
  rw [if_pos (by omega), show (j : Int) + 1 - 1 - (b : Int) + (n : Int) = ((j + n - b : Nat) : Int) by omega, show (((j + n - b : Nat) : Int) % (n : Int)) = (((j + n - b) % n : Nat) : Int) by omega]
  have h2 : (j + n - b) % n < n := Nat.mod_lt _ (by omega)
  refine ⟨by omega, by omega, ?_⟩
  rw [show (((((j + n - b) % n : Nat) : Int)) + 1 - 1).toNat = (j + n - b) % n by omega, show ((j : Int) + 1 - 1).toNat = j by omega, Nat.mod_add_mod, show j + n - b + b = j + n by omega, Nat.add_mod_right, Nat.mod_eq_of_lt hj]
theorem hg_turn {objs : List S48} {roots : List S46} (hs : Small objs) (h : heapOk objs roots = true) {b : Nat} (hb : b < objs.length) : HG (turnO objs b) (roots.map (turnV objs.length b)) = HG objs roots ∧ Small (turnO objs b) := by
  have hf := Fine.of hs h
  have hr := (heapOk_iff.1 h).1
  have hn := hs.1
  have hlen : (turnO objs b).length = objs.length := by simp [turnO]
  have hat : ∀ i, i < objs.length → (turnO objs b).getD i z48 = ⟨(objs.getD ((i + b) % objs.length) z48).f0, (objs.getD ((i + b) % objs.length) z48).f1.map (turnV objs.length b)⟩ := by
    intro i hi
    rw [getD_at (by omega)]
    simp [turnO]
  have htv : ∀ v, valOk objs.length v = true → valOk objs.length (turnV objs.length b v) = true := by
    intro v hv
    rw [valOk_iff] at hv ⊢
    unfold turnV
    split
    · rename_i hb1
      intro _
      have h2 := hv hb1
      show 0 ≤ tn _ _ _ ∧ tn _ _ _ ≤ _
      by_cases h3 : 1 ≤ v.f1
      · have := tn_range hb h3 h2.2
        omega
      · unfold tn
        rw [if_neg (by omega)]
        omega
    · intro h1; rename_i h2; exact absurd h1 h2
  have hmem : ∀ o ∈ turnO objs b, ∃ o' ∈ objs, o = ⟨o'.f0, o'.f1.map (turnV objs.length b)⟩ := by
    intro o ho
    obtain ⟨i, hi, rfl⟩ := List.mem_map.1 ho
    have h2 : (i + b) % objs.length < objs.length := Nat.mod_lt _ (by omega)
    exact ⟨objs[(i + b) % objs.length], List.getElem_mem h2, by rw [getD_at h2]⟩
  have hf' : Fine (turnO objs b) := by
    refine ⟨by omega, ?_, ?_⟩
    · intro o ho
      obtain ⟨o', ho', rfl⟩ := hmem o ho
      simpa using hs.2 o' ho'
    · intro o ho v hv
      obtain ⟨o', ho', rfl⟩ := hmem o ho
      obtain ⟨u, hu, rfl⟩ := List.mem_map.1 hv
      rw [hlen]
      exact htv u (hf.v o' ho' u hu)
  have hr' : ∀ v ∈ roots.map (turnV objs.length b), valOk (turnO objs b).length v = true := by
    intro v hv
    obtain ⟨u, hu, rfl⟩ := List.mem_map.1 hv
    rw [hlen]
    exact htv u (hr u hu)
  have hk : heapOk (turnO objs b) (roots.map (turnV objs.length b)) = true := heapOk_iff.2 ⟨hr', hf'.v⟩
  refine ⟨?_, ⟨hf'.n, hf'.l⟩⟩
  unfold HG
  rw [if_pos hk, if_pos h]
  have hi := ord_inv hf hr
  refine (graph_ren hf hr hf' hr' (ρ := tn objs.length b) ⟨by unfold tn; rfl, fun y hy e => by have h2 := hi.2 y hy; have := tn_range hb h2.1 h2.2; omega, fun x hx y hy e => ?_⟩ rfl (fun y hy => ?_) (fun y hy => ?_)).2
  · have h2 := hi.2 x hx
    have h3 := hi.2 y hy
    have h4 := (tn_range hb h2.1 h2.2).2.2
    have h5 := (tn_range hb h3.1 h3.2).2.2
    rw [e] at h4
    omega
  · have h2 := hi.2 y hy
    have h4 := tn_range hb h2.1 h2.2
    unfold valsAt
    rw [hat _ (by omega), h4.2.2]
    rfl
  · have h2 := hi.2 y hy
    have h4 := tn_range hb h2.1 h2.2
    rw [hat _ (by omega), h4.2.2]
end Go.Proofs.Yteeakklnlcjgbaa.Kit

end
section

namespace Go.Proofs.Yteeakklnlcjgbaa.Kit
open Go Go.RowKit Go.Proofs.YteeakklnlcjgbaaW.PrintWords Go.Proofs.Yteeakklnlcjgbaa.P
set_option linter.unusedVariables false
def Bytes (bs : List Int) : Prop := bs.length ≤ 2000 ∧ ∀ x ∈ bs, 0 ≤ x ∧ x ≤ 255
theorem Bytes.rd {bs : List Int} (h : Bytes bs) (i : Int) : 0 ≤ rd bs i ∧ rd bs i ≤ 255 := by
  unfold Go.Proofs.YteeakklnlcjgbaaW.PrintWords.rd
  rw [List.getD_eq_getElem?_getD]
  by_cases hi : i.toNat < bs.length
  · rw [List.getElem?_eq_getElem hi]
    exact h.2 _ (List.getElem_mem hi)
  · rw [List.getElem?_eq_none (by omega)]
    simp
theorem open_evp {l : List Int} (h : ∀ x ∈ l, (Lit.int .u8 x).wf = true) : ∃ bs, spec_l6Open.f l = some (bs, 0) ∧ Bytes bs := by
  have hb : ∀ x ∈ l, 0 ≤ x ∧ x ≤ 255 := by
    intro x hx
    have := h x hx
    simp [Lit.wf, IntKind.min, IntKind.max, IntKind.signed, IntKind.bits] at this
    omega
  unfold spec_l6Open.f
  by_cases h1 : (l.length : Int) > 2000
  · rw [if_pos h1, if_pos (by omega)]
    exact ⟨_, rfl, by rw [List.length_take]; omega, fun x hx => hb x (List.mem_of_mem_take hx)⟩
  · rw [if_neg h1]
    exact ⟨_, rfl, by omega, hb⟩
theorem pick_evp {bs : List Int} (h : Bytes bs) {p n : Int} (h0 : 0 ≤ p) (h1 : p ≤ 1000000000) (hn : n ≤ 1000000000) :
    Evp (fun k => spec_l6Rd_pick.f k bs p n) (fun r => 0 ≤ r.1 ∧ (1 ≤ n → r.1 < n) ∧ r.2 = p + 1) := by
  have hp : wrap64 (p + 1) = p + 1 := w64 (by omega) (by omega)
  have hp1 : wrap64 (p + 1 - 1) = p := by rw [w64 (by omega) (by omega)]; omega
  have key : ∀ b : Bool, (b = false → 1 ≤ n ∧ bs.length ≠ 0) → Evp (fun k => spec_l6Rd_pick.j0 k n b bs (p + 1)) (fun r => 0 ≤ r.1 ∧ (1 ≤ n → r.1 < n) ∧ r.2 = p + 1) := by
    intro b hb
    refine Evp.step (f := fun k => _) (fun k => by rw [spec_l6Rd_pick.j0]) ?_
    rw [hp1]
    cases b with
    | true =>
      refine Evp.yes rfl (Evp.pure _ ⟨by omega, fun h => by show (0 : Int) < n; omega, rfl⟩)
    | false =>
      obtain ⟨hn1, hl⟩ := hb rfl
      have hlen : (bs.length : Int) ≤ 2000 := by have := h.1; omega
      refine Evp.no (by decide) (Evp.ite (fun hlt => ?_) (fun hge => ?_))
      · refine Evp.yes h0 (Evp.no (by omega) (Evp.pure _ ?_))
        have hr := h.rd p
        rw [w64 (by omega) (by omega)]
        have := tmod_lo (b := n) hr.1 (by omega)
        exact ⟨this.1, fun _ => this.2, rfl⟩
      · have hm1 := tmod_lo (a := p) (b := (bs.length : Int)) h0 (by omega)
        have e7 : wrap64 (wrap64 (p * 7) + 3) = p * 7 + 3 := by rw [w64 (n := p * 7) (by omega) (by omega), w64 (by omega) (by omega)]
        have hm2 := tmod_lo (a := p * 7 + 3) (b := (bs.length : Int)) (by omega) (by omega)
        rw [e7]
        refine Evp.no (by omega) (Evp.yes hm1.1 (Evp.yes hm1.2 (Evp.yes hm2.1 (Evp.yes hm2.2 (Evp.no (by omega) (Evp.pure _ ?_))))))
        have r1 := h.rd (Int.tmod p (bs.length : Int))
        have r2 := h.rd (Int.tmod (p * 7 + 3) (bs.length : Int))
        generalize rd bs (Int.tmod p (bs.length : Int)) = a at r1 ⊢
        generalize rd bs (Int.tmod (p * 7 + 3) (bs.length : Int)) = c at r2 ⊢
        have hq : 0 ≤ Int.tdiv p (bs.length : Int) ∧ Int.tdiv p (bs.length : Int) ≤ p := by
          rw [tdiv_pos h0]
          exact ⟨Int.ediv_nonneg h0 (by omega), Int.ediv_le_self _ h0⟩
        generalize Int.tdiv p (bs.length : Int) = q at hq ⊢
        have ea : wrap64 (wrap64 a * 131) = a * 131 := by rw [w64 (n := a) (by omega) (by omega), w64 (by omega) (by omega)]
        have ec : wrap64 (wrap64 c * 1117) = c * 1117 := by rw [w64 (n := c) (by omega) (by omega), w64 (by omega) (by omega)]
        have e29 : wrap64 (p * 29) = p * 29 := w64 (by omega) (by omega)
        have eq5 : wrap64 (wrap64 q * 53) = q * 53 := by rw [w64 (n := q) (by omega) (by omega), w64 (by omega) (by omega)]
        have ex : wrap64 (wrap64 (wrap64 (a * 131 + c * 1117) + p * 29) + q * 53) = a * 131 + c * 1117 + p * 29 + q * 53 := by
          rw [w64 (n := a * 131 + c * 1117) (by omega) (by omega), w64 (n := a * 131 + c * 1117 + p * 29) (by omega) (by omega), w64 (by omega) (by omega)]
        rw [ea, ec, e29, eq5, ex]
        generalize hx : a * 131 + c * 1117 + p * 29 + q * 53 = X
        have hX : 0 ≤ X ∧ X < 4611686018427387904 := by omega
        have hd : 0 ≤ Int.tdiv X 64 ∧ Int.tdiv X 64 ≤ X := by rw [tdiv_pos hX.1]; omega
        rw [w64 (n := Int.tdiv X 64) (by omega) (by omega)]
        have hz := xor_nonneg hX.1 hX.2 hd.1 (by omega)
        have := tmod_lo (b := n) hz.1 (by omega)
        exact ⟨this.1, fun _ => this.2, rfl⟩
  unfold spec_l6Rd_pick.f
  rw [hp]
  refine Evp.ite (fun hn1 => key true (fun h => by cases h)) (fun hn1 => key _ (fun hb => ⟨by omega, ?_⟩))
  intro hl
  rw [hl] at hb
  simp at hb
end Go.Proofs.Yteeakklnlcjgbaa.Kit

end
section

namespace Go.Proofs.Yteeakklnlcjgbaa.Kit
open Go Go.RowKit Go.Proofs.YteeakklnlcjgbaaW.PrintWords Go.Proofs.Yteeakklnlcjgbaa.P
set_option linter.unusedVariables false
theorem le_vals {l : List S46} (hl : l.length ≤ 1073741824) : Evp (fun k => laws_leVals.f k l l) (fun r => r = true) := by
  unfold laws_leVals.f
  refine Evp.yes rfl ?_
  have key : ∀ i, i ≤ l.length → Evp (fun k => laws_leVals.l0 k l l (i : Int)) (fun r => r = true) := by
    refine Evp.for_ ?_ (fun i hi ih => ?_)
    · exact Evp.step (f := fun k => _) (fun k => by rw [laws_leVals.l0]) (Evp.no (by omega) (Evp.pure _ rfl))
    · refine Evp.step (f := fun k => _) (fun k => by rw [laws_leVals.l0, w64' hi (by omega)]) (Evp.yes (by omega) (Evp.yes (by omega) (Evp.yes (by omega) (Evp.no (by simp) ih))))
  exact key 0 (Nat.zero_le _)
theorem le_objs {l : List S48} (hs : Small l) : Evp (fun k => laws_leObjs.f k l l) (fun r => r = true) := by
  have hl := hs.1
  unfold laws_leObjs.f
  refine Evp.yes rfl ?_
  have key : ∀ i, i ≤ l.length → Evp (fun k => laws_leObjs.l0 k l l (i : Int)) (fun r => r = true) := by
    refine Evp.for_ ?_ (fun i hi ih => ?_)
    · exact Evp.step (f := fun k => _) (fun k => by rw [laws_leObjs.l0]) (Evp.no (by omega) (Evp.pure _ rfl))
    · refine Evp.step (f := fun k => _) (fun k => by rw [laws_leObjs.l0, rd48 hi, w64' hi (by omega)]) (Evp.yes (by omega) (Evp.yes (by omega) (Evp.yes (by omega) (Evp.yes rfl ?_))))
      refine Evp.bind (f := fun k t => if t = true then laws_leObjs.l0 k l l ((i + 1 : Nat) : Int) else some false) (le_vals (hs.2 _ (List.getElem_mem hi))) (fun t e => ?_)
      subst e
      exact Evp.yes rfl ih
  exact key 0 (Nat.zero_le _)
theorem word_evp {bs : List Int} (h : Bytes bs) {p : Int} (h0 : 0 ≤ p) (h1 : p ≤ 900000000) : Evp (fun k => spec_l71Word.f k bs p) (fun r => r.2 = p + 2) := by
  unfold spec_l71Word.f
  refine Evp.bind (pick_evp h h0 (by omega) (by decide)) fun a ha => ?_
  obtain ⟨a1, a2⟩ := a
  obtain ⟨ha0, ha1, rfl⟩ := ha
  refine Evp.ite (fun _ => ?_) (fun _ => ?_)
  · simp only [Option.bind_some]
    refine Evp.bind (pick_evp h (by omega) (by omega) (by decide)) fun d hd => ?_
    obtain ⟨d1, d2⟩ := d
    obtain ⟨hd0, hd1, rfl⟩ := hd
    have hd2 := hd1 (by decide)
    dsimp only at hd0 hd2
    exact Evp.yes hd0 (Evp.yes (by simpa using hd2) (Evp.pure _ (by show p + 1 + 1 = p + 2; omega)))
  · refine Evp.bind (pick_evp h (by omega) (by omega) (by decide)) fun d hd => ?_
    obtain ⟨d1, d2⟩ := d
    obtain ⟨hd0, hd1, rfl⟩ := hd
    exact Evp.pure _ (by show p + 1 + 1 = p + 2; omega)
theorem val_evp {bs : List Int} (h : Bytes bs) {p n : Int} (h0 : 0 ≤ p) (h1 : p ≤ 800000000) (hn0 : 0 ≤ n) (hn : n ≤ 1000) : Evp (fun k => spec_l72Val.f k bs p n) (fun r => p ≤ r.2.2 ∧ r.2.2 ≤ p + 3) := by
  unfold spec_l72Val.f
  refine Evp.bind (pick_evp h h0 (by omega) (by decide)) fun a ha => ?_
  obtain ⟨a1, a2⟩ := a
  obtain ⟨ha0, ha1, rfl⟩ := ha
  refine Evp.ite (fun _ => ?_) (fun _ => ?_)
  · refine Evp.bind (word_evp h (by omega) (by omega)) fun d hd => ?_
    obtain ⟨d1, d2⟩ := d
    obtain rfl := hd
    exact Evp.pure _ ⟨by show p ≤ p + 1 + 2; omega, by show p + 1 + 2 ≤ p + 3; omega⟩
  · rw [w64 (n := n + 1) (by omega) (by omega)]
    refine Evp.bind (pick_evp h (by omega) (by omega) (by omega)) fun d hd => ?_
    obtain ⟨d1, d2⟩ := d
    obtain ⟨hd0, hd1, rfl⟩ := hd
    exact Evp.pure _ ⟨by show p ≤ p + 1 + 1; omega, by show p + 1 + 1 ≤ p + 3; omega⟩
def Few (r : List S48 × List S46 × Int) : Prop := (r.1.length ≤ 100 ∧ ∀ o ∈ r.1, o.f1.length ≤ 100) ∧ r.2.1.length ≤ 100
theorem roots_evp {bs : List Int} (h : Bytes bs) {objs : List S48} (ho : objs.length ≤ 100 ∧ ∀ o ∈ objs, o.f1.length ≤ 100) {n : Int} (hn0 : 0 ≤ n) (hn : n ≤ 1000) :
    ∀ (c : Nat) (vs : List S46) (p : Int), 0 ≤ p → p + 3 * c ≤ 100000000 → vs.length + c ≤ 50 → Evp (fun k => spec_l72Heap.l2 k n objs vs (c : Int) bs p) Few
  | 0, vs, p, h0, h1, hl => by
    refine Evp.step (f := fun k => _) (fun k => by rw [spec_l72Heap.l2]) (Evp.no (by omega) ?_)
    refine Evp.bind (pick_evp h h0 (by omega) (by decide)) fun a ha => ?_
    obtain ⟨a1, a2⟩ := a
    obtain ⟨ha0, ha1, rfl⟩ := ha
    refine Evp.ite (fun _ => ?_) (fun _ => Evp.pure _ ⟨ho, by show vs.length ≤ 100; omega⟩)
    simp only [Option.bind_some]
    refine Evp.bind (pick_evp h (by omega) (by omega) (by decide)) fun d hd => ?_
    obtain ⟨d1, d2⟩ := d
    obtain ⟨hd0, hd1, rfl⟩ := hd
    have hd2 := hd1 (by decide)
    dsimp only at hd0 hd2
    exact Evp.yes hd0 (Evp.yes (by simpa using hd2) (Evp.yes (by omega) (Evp.pure _ ⟨ho, by simp; omega⟩)))
  | c + 1, vs, p, h0, h1, hl => by
    refine Evp.step (f := fun k => _) (fun k => by rw [spec_l72Heap.l2]) (Evp.yes (by omega) ?_)
    refine Evp.bind (val_evp h h0 (by omega) hn0 hn) fun a ha => ?_
    obtain ⟨a1, a2, a3⟩ := a
    obtain ⟨ha0, ha1⟩ := ha
    dsimp only at ha0 ha1
    refine Evp.yes (by omega) ?_
    rw [show wrap64 (((c + 1 : Nat) : Int) - 1) = (c : Int) by rw [w64 (by omega) (by omega)]; omega]
    dsimp only
    exact roots_evp h ho hn0 hn c _ _ (by omega) (by omega) (by simp; omega)
theorem vals_evp {bs : List Int} (h : Bytes bs) {objs : List S48} {n i cl : Int} (hn0 : 0 ≤ n) (hn : n ≤ 1000) (ho : objs.length ≤ 100) {R : List S48 × List S46 × Int → Prop} :
    ∀ (c : Nat) (vs : List S46) (p : Int), 0 ≤ p → p + 3 * c ≤ 100000000 → vs.length + c ≤ 50 →
      (∀ vs' p', vs'.length ≤ vs.length + c → p ≤ p' → p' ≤ p + 3 * c → Evp (fun k => spec_l72Heap.l0 k n (objs ++ [(⟨cl, vs'⟩ : S48)]) (wrap64 (i + 1)) bs p') R) → Evp (fun k => spec_l72Heap.l1 k n objs i (c : Int) bs p cl vs) R
  | 0, vs, p, h0, h1, hl, hk => by
    refine Evp.step (f := fun k => _) (fun k => by rw [spec_l72Heap.l1]) (Evp.no (by omega) (Evp.yes (by omega) ?_))
    exact hk vs p (by omega) (by omega) (by omega)
  | c + 1, vs, p, h0, h1, hl, hk => by
    refine Evp.step (f := fun k => _) (fun k => by rw [spec_l72Heap.l1]) (Evp.yes (by omega) ?_)
    refine Evp.bind (val_evp h h0 (by omega) hn0 hn) fun a ha => ?_
    obtain ⟨a1, a2, a3⟩ := a
    obtain ⟨ha0, ha1⟩ := ha
    dsimp only at ha0 ha1
    refine Evp.yes (by omega) ?_
    rw [show wrap64 (((c + 1 : Nat) : Int) - 1) = (c : Int) by rw [w64 (by omega) (by omega)]; omega]
    dsimp only
    exact vals_evp h hn0 hn ho c _ _ (by omega) (by omega) (by simp; omega) (fun vs' p' h2 h3 h4 => hk vs' p' (by simp at h2; omega) (by omega) (by omega))
theorem things_evp {bs : List Int} (h : Bytes bs) {n : Nat} (hn : n ≤ 20) : ∀ (d i : Nat) (objs : List S48) (p : Int), i + d = n → objs.length = i → (∀ o ∈ objs, o.f1.length ≤ 100) → 0 ≤ p → p + 100 * d ≤ 10000000 → Evp (fun k => spec_l72Heap.l0 k (n : Int) objs (i : Int) bs p) Few
  | 0, i, objs, p, hd, ho, hv, h0, h1 => by
    refine Evp.step (f := fun k => _) (fun k => by rw [spec_l72Heap.l0]) (Evp.no (by omega) ?_)
    refine Evp.bind (pick_evp h h0 (by omega) (by decide)) fun a ha => ?_
    obtain ⟨a1, a2⟩ := a
    obtain ⟨ha0, ha1, rfl⟩ := ha
    have ha2 := ha1 (by decide)
    dsimp only at ha0 ha2
    obtain ⟨c, rfl⟩ := Int.eq_ofNat_of_zero_le ha0
    exact roots_evp h ⟨by omega, hv⟩ (by omega) (by omega) c [] _ (by omega) (by omega) (by simp; omega)
  | d + 1, i, objs, p, hd, ho, hv, h0, h1 => by
    refine Evp.step (f := fun k => _) (fun k => by rw [spec_l72Heap.l0]) (Evp.yes (by omega) ?_)
    refine Evp.bind (pick_evp h h0 (by omega) (by decide)) fun a ha => ?_
    obtain ⟨a1, a2⟩ := a
    obtain ⟨ha0, ha1, rfl⟩ := ha
    refine Evp.bind (pick_evp h (by omega) (by omega) (by decide)) fun b hb => ?_
    obtain ⟨b1, b2⟩ := b
    obtain ⟨hb0, hb1, rfl⟩ := hb
    have hb2 := hb1 (by decide)
    dsimp only at hb0 hb2
    obtain ⟨c, rfl⟩ := Int.eq_ofNat_of_zero_le hb0
    refine vals_evp h (by omega) (by omega) (by omega) c [] _ (by omega) (by omega) (by simp; omega) (fun vs' p' h2 h3 h4 => ?_)
    rw [show wrap64 ((i : Int) + 1) = ((i + 1 : Nat) : Int) by rw [w64 (by omega) (by omega)]; omega]
    refine things_evp h hn d (i + 1) _ _ (by omega) (by simp; omega) (fun o hm => ?_) (by omega) (by omega)
    rcases List.mem_append.1 hm with hm | hm
    · exact hv o hm
    · simp at hm
      subst hm
      simp at h2
      show vs'.length ≤ 100
      omega
theorem draw_graph {l : List Int} (h : ∀ x ∈ l, (Lit.int .u8 x).wf = true) : Evp (fun k => spec_DrawHeapGraph.f k l) (fun r => (r.1.length ≤ 100 ∧ ∀ o ∈ r.1, o.f1.length ≤ 100) ∧ r.2.length ≤ 100) := by
  obtain ⟨bs, hb, hB⟩ := open_evp h
  unfold spec_DrawHeapGraph.f
  rw [hb]
  simp only [Option.bind_some]
  have key : Evp (fun k => spec_l72Heap.f k bs 0) Few := by
    unfold spec_l72Heap.f
    refine Evp.bind (pick_evp hB (by decide) (by decide) (by decide)) fun a ha => ?_
    obtain ⟨a1, a2⟩ := a
    obtain ⟨ha0, ha1, rfl⟩ := ha
    have ha2 := ha1 (by decide)
    dsimp only at ha0 ha2
    obtain ⟨n, rfl⟩ := Int.eq_ofNat_of_zero_le ha0
    exact things_evp hB (by omega) n 0 [] _ (by omega) rfl (by simp) (by omega) (by omega)
  refine Evp.bind key fun r hr => Evp.pure _ hr
end Go.Proofs.Yteeakklnlcjgbaa.Kit

end
section

namespace Go.Proofs.Yteeakklnlcjgbaa.Pure
open Go Go.RowKit Go.Proofs.YteeakklnlcjgbaaW.PrintWords Go.Proofs.Yteeakklnlcjgbaa.P Go.Proofs.Yteeakklnlcjgbaa.Kit
set_option linter.unusedVariables false
theorem turn_vals {n b : Nat} {vs : List S46} (hb : b < n) (hn : n ≤ 1073741824) (hl : vs.length ≤ 1073741824) (hv : ∀ v ∈ vs, valOk n v = true) : Evp (fun k => laws_leTurn.f k vs (n : Int) (b : Int)) (fun r => r = vs.map (turnV n b)) := by
  unfold laws_leTurn.f
  have key : ∀ i, i ≤ vs.length → ∀ s : List S46, s = (vs.take i).map (turnV n b) → Evp (fun k => laws_leTurn.l0 k vs (n : Int) (b : Int) s (i : Int)) (fun r => r = vs.map (turnV n b)) := by
    refine Evp.fors (g := fun i s k => laws_leTurn.l0 k vs (n : Int) (b : Int) s (i : Int)) (I := fun i s => s = (vs.take i).map (turnV n b)) (R := fun _ _ r => r = vs.map (turnV n b)) (fun s hs => ?_) (fun i hi ih s hs => ?_)
    · refine Evp.step (f := fun k => _) (fun k => by rw [laws_leTurn.l0]) (Evp.no (by omega) (Evp.pure s ?_))
      rw [hs, List.take_length]
    · have hvi := valOk_iff.1 (hv _ (List.getElem_mem hi))
      have hsl : s.length ≤ vs.length := by rw [hs]; simp; omega
      refine Evp.step (f := fun k => _) (fun k => by rw [laws_leTurn.l0, rd46 hi, w64' hi (by omega)]) (Evp.yes (by omega) (Evp.yes (by omega) (Evp.ite (fun hf => ?_) (fun hf => ?_))))
      · have h2 := hvi hf
        refine Evp.ite (fun hp => ?_) (fun hp => ?_)
        · refine Evp.no (by omega) (Evp.yes (by omega) (ih _ ?_))
          rw [← take_snoc _ _ hi, hs]
          congr 2
          rw [turnV, if_pos hf, tn, if_pos hp, hf, w64 (n := vs[i].f1 - 1) (by omega) (by omega), w64 (n := vs[i].f1 - 1 - b) (by omega) (by omega), w64 (n := vs[i].f1 - 1 - b + n) (by omega) (by omega), tmod_pos (by omega)]
          have := Int.emod_lt_of_pos (vs[i].f1 - 1 - b + n) (show (0 : Int) < n by omega)
          have := Int.emod_nonneg (vs[i].f1 - 1 - b + n) (show (n : Int) ≠ 0 by omega)
          rw [w64 (by omega) (by omega)]
        · refine Evp.yes (by omega) (ih _ ?_)
          rw [← take_snoc _ _ hi, hs]
          congr 2
          rw [turnV, if_pos hf, tn, if_neg hp, hf]
      · refine Evp.yes (by omega) (ih _ ?_)
        rw [← take_snoc _ _ hi, hs]
        congr 2
        rw [turnV, if_neg hf]
  exact key 0 (Nat.zero_le _) [] (by simp)
theorem turn_objs {objs : List S48} {roots : List S46} {b : Nat} (hs : Small objs) (hr : roots.length ≤ 1073741824) (hk : heapOk objs roots = true) (hb : b < objs.length) : Evp (fun k => laws_leTurned.f k objs roots (b : Int)) (fun r => r = (turnO objs b, roots.map (turnV objs.length b))) := by
  have hn := hs.1
  have hf := Fine.of hs hk
  have hrv := (heapOk_iff.1 hk).1
  unfold laws_leTurned.f
  have key : ∀ i, i ≤ objs.length → ∀ s : List S48, s = (turnO objs b).take i → Evp (fun k => laws_leTurned.l0 k objs roots (b : Int) (objs.length : Int) s (i : Int)) (fun r => r = (turnO objs b, roots.map (turnV objs.length b))) := by
    have hlen : (turnO objs b).length = objs.length := by simp [turnO]
    refine Evp.fors (g := fun i s k => laws_leTurned.l0 k objs roots (b : Int) (objs.length : Int) s (i : Int)) (I := fun i s => s = (turnO objs b).take i) (R := fun _ _ r => r = (turnO objs b, roots.map (turnV objs.length b))) (fun s hs' => ?_) (fun i hi ih s hs' => ?_)
    · refine Evp.step (f := fun k => _) (fun k => by rw [laws_leTurned.l0]) (Evp.no (by omega) ?_)
      refine Evp.bind (f := fun k t => some (s, t)) (turn_vals hb hn hr hrv) (fun t e => ?_)
      subst e
      refine Evp.pure _ ?_
      rw [hs', ← hlen, List.take_length]
    · have hsl : s.length ≤ objs.length := by rw [hs']; simp; omega
      have hj : (i + b) % objs.length < objs.length := Nat.mod_lt _ (by omega)
      have hw : wrap64 ((i : Int) + b) = ((i + b : Nat) : Int) := by rw [w64 (by omega) (by omega)]; omega
      have hm : Int.tmod ((i + b : Nat) : Int) (objs.length : Int) = (((i + b) % objs.length : Nat) : Int) := by rw [tmod_pos (by omega)]; omega
      refine Evp.step (f := fun k => _) (fun k => by rw [laws_leTurned.l0, hw, hm, rd48 hj, w64' hi (by omega)]) (Evp.yes (by omega) (Evp.no (by omega) (Evp.yes (by omega) (Evp.yes (by omega) ?_))))
      refine Evp.bind (f := fun k t => if s.length < 4398046511104 then laws_leTurned.l0 k objs roots (b : Int) (objs.length : Int) (s ++ [(⟨objs[(i + b) % objs.length].f0, t⟩ : S48)]) ((i + 1 : Nat) : Int) else none) (turn_vals hb hn (hs.2 _ (List.getElem_mem hj)) (hf.v _ (List.getElem_mem hj))) (fun t e => ?_)
      subst e
      refine Evp.yes (by omega) (ih _ ?_)
      have hti : i < (turnO objs b).length := by omega
      rw [List.take_succ_eq_append_getElem hti, hs']
      congr 2
      simp [turnO, List.getElem?_eq_getElem hj]
  exact key 0 (Nat.zero_le _) [] (by simp)
theorem FnGraphTurn : laws_FnGraphTurn.Pure := by
  intro l m _ _ h hm1 hm2 _
  refine Evp.rounds ?_
  unfold laws_FnGraphTurn.f
  have hml : m.length ≤ 9223372036854775807 := by simpa [maxLen] using hm1
  have key : ∀ b : Bool, Evp (fun k => laws_FnGraphTurn.j0 k l m b) (fun r => r = true) := by
    intro b
    refine Evp.step (f := fun k => _) (fun k => by rw [laws_FnGraphTurn.j0]) (Evp.ite (fun _ => Evp.pure _ rfl) (fun _ => ?_))
    refine Evp.bind (draw_graph h) fun a ha => ?_
    obtain ⟨objs, roots⟩ := a
    obtain ⟨⟨ho, hv⟩, hr⟩ := ha
    dsimp only at ho hv hr
    have hs : Small objs := ⟨by omega, fun o hm => by have := hv o hm; omega⟩
    have hrl : roots.length ≤ 1073741824 := by omega
    have hp := hg_parts hs hrl
    refine Evp.bind (impl_graph hs hrl) fun g e => ?_
    subst e
    refine Evp.bind (spec_graph hs hrl) fun g e => ?_
    subst e
    refine Evp.bind (le_objs hp.1) fun t e => ?_
    subst e
    refine Evp.yes rfl ?_
    refine Evp.bind (le_vals hp.2.1) fun t e => ?_
    subst e
    refine Evp.yes rfl ?_
    refine Evp.bind (spec_heap hs hrl) fun t e => ?_
    subst e
    have last : ∀ c : Bool, (c = false → heapOk objs roots = true ∧ 0 < objs.length) → Evp (fun k => laws_FnGraphTurn.j1 k m objs roots (HG objs roots).1 (HG objs roots).2 (HG objs roots).1 (HG objs roots).2 c) (fun r => r = true) := by
      intro c hc
      refine Evp.step (f := fun k => _) (fun k => by rw [laws_FnGraphTurn.j1]) (Evp.ite (fun _ => ?_) (fun hcf => ?_))
      · refine Evp.bind (le_objs hp.1) fun t e => ?_
        subst e
        refine Evp.yes rfl ?_
        refine Evp.bind (le_vals hp.2.1) fun t e => ?_
        subst e
        exact Evp.pure _ rfl
      · obtain ⟨hk, hpos⟩ := hc (by simpa using hcf)
        refine Evp.no (by omega) ?_
        have hb : m.length % objs.length < objs.length := Nat.mod_lt _ hpos
        rw [show ((m.length : Int) % (objs.length : Int)) = ((m.length % objs.length : Nat) : Int) by omega]
        refine Evp.bind (turn_objs hs hrl hk hb) fun t e => ?_
        subst e
        have ht := hg_turn hs hk hb
        refine Evp.bind (impl_graph ht.2 (by simpa using hrl)) fun g e => ?_
        subst e
        rw [ht.1]
        refine Evp.bind (le_objs hp.1) fun t e => ?_
        subst e
        refine Evp.yes rfl ?_
        refine Evp.bind (le_vals hp.2.1) fun t e => ?_
        subst e
        exact Evp.pure _ rfl
    refine Evp.ite (fun hk => last _ (fun hc => ⟨hk, ?_⟩)) (fun _ => last _ (fun h => by cases h))
    simp at hc
    cases objs with
    | nil => exact absurd rfl hc
    | cons a b => simp
  exact Evp.ite (fun _ => key _) (fun _ => key _)
end Go.Proofs.Yteeakklnlcjgbaa.Pure

end
section

namespace Go.Proofs.Yteeakklnlcjgbaa.fnGraphTurn
open Go.ChangeShapes Go.WideShapes Go.ChangeAt Go.RowKit
open Go.ChangeMaps (open_string shut_string)
set_option linter.unusedVariables false
theorem own : ownKnob Try.prog.godebug = none := by kernel_rfl
theorem laidOut : laidOutB Try.prog = true := by kernel_rfl
def IsRow (k : IntKind) (w : World) (a : Option Addr) (len cap : Nat) (zs : List Int) : Prop :=
  (a = none ∧ len = 0 ∧ cap = 0 ∧ zs = []) ∨
  ∃ x, a = some x ∧ len ≤ cap ∧ cap ≤ maxLen ∧ zs.length = cap ∧ (∀ i, i < zs.length → w.cell? (x.add i) = some (.int k (zs.getD i 0))) ∧ ∀ n ∈ zs, (Lit.int k n).wf = true
set_option maxRecDepth 100000 in
theorem lifted (os : Os) (started : os.Started) (H : Type) (enc : TypeId × Value → H) :
    ReturnsInHanded {} Try.checked os 11 .any (Rows.fnGraphTurnSpec.pre6 enc Try.prog Try.f11 Rows.fnGraphTurnRow.domain false) (Rows.fnGraphTurnSpec.post enc Try.prog Try.f11 false true false false) := by
  refine returnsInHanded_of_change_sized (C := Try.checked) own started (by kernel_rfl) Try.func11
    (ChangeSpec.witness6 (enc := enc) (C := Try.checked) false ⟨#[], #[.slice none 0 0, .slice none 0 0], []⟩ 8 (by kernel_rfl) (by kernel_rfl) (by kernel_rfl) (by kernel_rfl)) ?_
  intro W base args ds gs before hval0 hW hcnd hsz0 _
  have hsz : (DataW.weightsEach Try.prog (Try.f11.params.toList ++ Rows.fnGraphTurnSpec.plain.varTypes Try.prog) (ds ++ gs)).all (· ≤ reachBytes) = true := hsz0
  have hval : ∀ (j : Nat) t v, Try.f11.params[j]? = some t → args[j]? = some v → Value.okWide Try.prog W .any base t v := hval0
  have hW' := hW
  obtain ⟨p, q, hA0, hV, rfl, hfz, hnd⟩ := hW
  have hA : DataW.TrodAll enc Try.prog W 0 (fun _ => true) true Try.f11.params.toList args.toList ds p := hA0
  rw [Try.params11] at hA hval hsz
  obtain ⟨v0, vs0, d0, ds0, p0, q0, hargs, rfl, rfl, h0, r0⟩ := trodAll_cons hA
  obtain ⟨v1, vs1, d1, ds1, p1, q1, rfl, rfl, rfl, h1, r1⟩ := trodAll_cons r0
  obtain ⟨rfl, rfl, rfl⟩ := trodAll_nil r1
  obtain rfl : args = #[v0, v1] := by cases args; simp_all
  obtain ⟨rfl, rfl⟩ := trodVars_none hV
  obtain ⟨a0, len0, cap0, rfl⟩ := okWide_slice Try.underlying25 (hval 0 25 v0 rfl rfl)
  have k0 := h0
  have lt0 : ∀ x ∈ p0, x.block < W.heap.size := by obtain ⟨m, hm⟩ := k0; exact DataW.trod_lt m _ _ _ hm
  obtain ⟨z0, w0⟩ : ∃ zs, IsRow .u8 W a0 len0 cap0 zs := by
    obtain ⟨fuel, hf⟩ := h0
    rcases open_ints Try.underlying25 Try.underlying5 (by kernel_rfl) hf with ⟨hcs, _⟩ | ⟨x, l, c, zs, hcs, _, hl, hm, hz, _, hcell, hwz⟩
    · simp [Value.cells] at hcs
      obtain ⟨rfl, rfl, rfl⟩ := hcs
      exact ⟨[], .inl ⟨rfl, rfl, rfl, rfl⟩⟩
    · simp [Value.cells] at hcs
      obtain ⟨rfl, rfl, rfl⟩ := hcs
      exact ⟨zs, .inr ⟨_, rfl, hl, hm, by simpa using hz, hcell, hwz⟩⟩
  have y0 : len0 * 1 ≤ 140737488351232 := Go.Proofs.YteeakklnlcjgbaaW.PrintWords.sized_ints hsz (j := 0) (t := 25) rfl rfl Try.underlying25 Try.underlying5 (by kernel_rfl) (by kernel_rfl) h0
  obtain ⟨a1, len1, cap1, rfl⟩ := okWide_slice Try.underlying25 (hval 1 25 v1 rfl rfl)
  have k1 := h1
  have lt1 : ∀ x ∈ p1, x.block < W.heap.size := by obtain ⟨m, hm⟩ := k1; exact DataW.trod_lt m _ _ _ hm
  obtain ⟨z1, w1⟩ : ∃ zs, IsRow .u8 W a1 len1 cap1 zs := by
    obtain ⟨fuel, hf⟩ := h1
    rcases open_ints Try.underlying25 Try.underlying5 (by kernel_rfl) hf with ⟨hcs, _⟩ | ⟨x, l, c, zs, hcs, _, hl, hm, hz, _, hcell, hwz⟩
    · simp [Value.cells] at hcs
      obtain ⟨rfl, rfl, rfl⟩ := hcs
      exact ⟨[], .inl ⟨rfl, rfl, rfl, rfl⟩⟩
    · simp [Value.cells] at hcs
      obtain ⟨rfl, rfl, rfl⟩ := hcs
      exact ⟨zs, .inr ⟨_, rfl, hl, hm, by simpa using hz, hcell, hwz⟩⟩
  have y1 : len1 * 1 ≤ 140737488351232 := Go.Proofs.YteeakklnlcjgbaaW.PrintWords.sized_ints hsz (j := 1) (t := 25) rfl rfl Try.underlying25 Try.underlying5 (by kernel_rfl) (by kernel_rfl) h1
  clear hA0 hval0 hsz0 hsz
  refine (P.laws_FnGraphTurn.walk Pure.FnGraphTurn a0 len0 cap0 z0 a1 len1 cap1 z1 W w0 y0 w1 y1).mono fun e W' ⟨he, bel⟩ => ?_
  subst he
  exact ⟨_, rfl, _, _, _, [], _, [], hW', trodAll_mk1 (shut_bool Try.underlying4 _), (trodAll_cons_mk (Below.trod laidOut (by kernel_rfl) (of_decide_eq_true (by kernel_rfl)) k0 bel lt0) (trodAll_cons_mk (Below.trod laidOut (by kernel_rfl) (of_decide_eq_true (by kernel_rfl)) k1 bel lt1) trodAll_mk0)), rfl, bel.frame _, fun h => by cases h⟩
theorem over : Rows.fnGraphTurnRow.holds Try.pinned (OpenSpec.ofChange Rows.fnGraphTurnSpec) :=
  OpenClaim.holds_of_wide 11 Try.f11 rfl rfl rfl rfl rfl rfl rfl ⟨rfl, rfl, rfl, rfl, rfl⟩ rfl rfl rfl rfl rfl (by kernel_rfl) Try.func11 (by show joinedFacts Try.prog _ _ _ _ = true; unfold joinedFacts; rw [Go.Proofs.Yteeakklnlcjgbaa.enter, Go.Proofs.Yteeakklnlcjgbaa.make, Go.Proofs.Yteeakklnlcjgbaa.lifts]; kernel_rfl)
    (of_decide_eq_true (by kernel_rfl)) (by unfold Func.isWrapper; first | (rw [if_pos (by decide +kernel)]; kernel_rfl) | (rw [if_neg (by decide +kernel)]; exact ⟨rfl, rfl⟩))
    (fun os started H enc _ => lifted os started H enc)
theorem proved : Rows.FnGraphTurnSaid := over
#print axioms proved
end Go.Proofs.Yteeakklnlcjgbaa.fnGraphTurn
namespace Go.Proofs.Yteeakklnlcjgbaa
theorem fnGraphTurn_holds : Rows.FnGraphTurnSaid := fnGraphTurn.proved
end Go.Proofs.Yteeakklnlcjgbaa

end
