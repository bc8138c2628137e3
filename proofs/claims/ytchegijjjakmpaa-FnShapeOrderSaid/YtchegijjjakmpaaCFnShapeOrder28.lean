/- A part of the claim FnShapeOrder: texts of this session and texts that its program printed out of the translation, joined. -/
import Derived.Test.YtchegijjjakmpaaCFnShapeOrder22
import Derived.Test.YtchegijjjakmpaaCFnShapeOrder23
import Derived.Test.YtchegijjjakmpaaCFnShapeOrder25
import Derived.Test.YtchegijjjakmpaaCFnShapeOrder27
import Derived.Test.YtchegijjjakmpaaCFnShapeOrder0
import Derived.Test.YtchegijjjakmpaaCFnShapeOrder1
import Derived.Test.YtchegijjjakmpaaCFnShapeOrder2
import Derived.Test.YtchegijjjakmpaaCFnShapeOrder3
import Derived.Test.YtchegijjjakmpaaCFnShapeOrder4
import Derived.Test.YtchegijjjakmpaaCFnShapeOrder5
import Derived.Test.YtchegijjjakmpaaCFnShapeOrder6
import Derived.Test.YtchegijjjakmpaaCFnShapeOrder7
import Derived.Test.YtchegijjjakmpaaCFnShapeOrder8
import Derived.Test.YtchegijjjakmpaaCFnShapeOrder9
import Derived.Test.YtchegijjjakmpaaCFnShapeOrder10
import Derived.Test.YtchegijjjakmpaaCFnShapeOrder11
import Derived.Test.YtchegijjjakmpaaCFnShapeOrder12
import Derived.Test.YtchegijjjakmpaaCFnShapeOrder13
import Derived.Test.YtchegijjjakmpaaCFnShapeOrder14
import Derived.Test.YtchegijjjakmpaaCFnShapeOrder15
import Derived.Test.YtchegijjjakmpaaCFnShapeOrder16
import Derived.Test.YtchegijjjakmpaaCFnShapeOrder17
import Derived.Test.YtchegijjjakmpaaCFnShapeOrder18
import Derived.Test.YtchegijjjakmpaaCFnShapeOrder19
import Derived.Test.YtchegijjjakmpaaCFnShapeOrder20
import Derived.Test.YtchegijjjakmpaaCFnShapeOrder21
import Derived.Test.YtchegijjjakmpaaCFnShapeOrder24
import Derived.Test.YtchegijjjakmpaaCFnShapeOrder26
section

namespace Go.Proofs.Ytchegijjjakmpaa.P
open Go.RowKit Go.Proofs.YtchegijjjakmpaaW.PrintWords Go.Proofs.YtchegijjjakmpaaW.PrintLast Go.Proofs.YtchegijjjakmpaaW.PrintMore
attribute [local go_sem] max2_int min2_int max_two min_two max_three min_three max_four min_four
set_option linter.unusedVariables false
set_option linter.unusedSimpArgs false
def spec_l72Two.T11 : Bool × List (List Nat × List Nat) := (true, [([], []), ([0], [0]), ([], []), ([], []), ([3], [3]), ([], []), ([4, 5], [4, 5]), ([6], [6]), ([1, 2, 0, 1, 2, 3, 4, 5, 6, 7], [1, 2]), ([8, 7, 0, 1, 2, 3, 4, 5, 6, 7], [7, 8])])
def spec_l72Two.B11 : List Nat := [0, 1, 0, 0, 8, 0, 56, 120, 255, 511]
theorem spec_l72Two.tab11 : rtab .any (opsOf Try.f9 11) = spec_l72Two.T11 := by kernel_rfl
theorem spec_l72Two.bits11 : waitsOk spec_l72Two.T11.2 spec_l72Two.B11 = true := by kernel_rfl
set_option maxHeartbeats 8000000 in
set_option maxRecDepth 100000 in
theorem spec_l72Two.calls (k : Nat) (g : Nat) (s0_0 : List Int) (s0_1 : Int) (r1 : List (S48)) (r2 : Bool) (r3 : List Int) (r4 : List Int) (r5 : Bool) (r6 : List Int) (r7 : List Int) (r8 : Int) (w0 w : World) (hI : IsS40 w0 w g s0_0 s0_1) (hB : Below w0.heap.size w0 w) (h : spec_l72Two.f k s0_0 s0_1 = some (r1, r2, r3, r4, r5, r6, r7, r8)) :
  Calls Try.prog 9 #[.pointer (some ⟨g, 0, none⟩)] w fun e w' => ∃ v0_ v2_ v3_ v5_ v6_ : Value, e = .returned (.tuple #[v0_, .agg #[.bool r2, v2_, v3_], .agg #[.bool r5, v5_, v6_]]) ∧ Kd.N k48 48 w' w.heap.size (fun k_ => (w.heap.size ≤ k_) ∧ some k_ ≠ (v2_ : Value).ownBlock ∧ some k_ ≠ (v3_ : Value).ownBlock ∧ some k_ ≠ (v5_ : Value).ownBlock ∧ some k_ ≠ (v6_ : Value).ownBlock) v0_ r1 ∧ Kd.R (Kd.int .i64) 3 w' w.heap.size (fun k_ => (w.heap.size ≤ k_) ∧ some k_ ≠ (v3_ : Value).ownBlock ∧ some k_ ≠ (v5_ : Value).ownBlock ∧ some k_ ≠ (v6_ : Value).ownBlock) v2_ r3 ∧ Kd.Q (Kd.int .i64) 3 w' w.heap.size (fun k_ => (w.heap.size ≤ k_) ∧ some k_ ≠ (v2_ : Value).ownBlock ∧ some k_ ≠ (v5_ : Value).ownBlock ∧ some k_ ≠ (v6_ : Value).ownBlock) v3_ r4 ∧ Kd.R (Kd.int .i64) 3 w' w.heap.size (fun k_ => (w.heap.size ≤ k_) ∧ some k_ ≠ (v2_ : Value).ownBlock ∧ some k_ ≠ (v3_ : Value).ownBlock ∧ some k_ ≠ (v6_ : Value).ownBlock) v5_ r6 ∧ Kd.Q (Kd.int .i64) 3 w' w.heap.size (fun k_ => (w.heap.size ≤ k_) ∧ some k_ ≠ (v2_ : Value).ownBlock ∧ some k_ ≠ (v3_ : Value).ownBlock ∧ some k_ ≠ (v5_ : Value).ownBlock) v6_ r7 ∧ IsS40 w0 w' g s0_0 r8 ∧ Below w0.heap.size w0 w' ∧ KeepBut w w' g none := by
 have hu26 := Try.underlying26
 have HI0 := Aside0.mk hI
 have HK := Aside0.mk (KeepBut.refl w g none)
 have HL := Aside0.mk hB.size
 clear hI
 have HW0 := Aside0.mk hB.size
 have HB := Aside0.mk hB
 clear hB
 have H : ((spec_l71Off.f k s0_0 s0_1).bind fun bt195 => ((spec_l6Rd_pick.f k s0_0 bt195.2 4).bind fun bt199 => ((spec_l72Shape.f k s0_0 bt199.2 (bt195.1.length : Int) bt199.1).bind fun bt201 => ((spec_l72Shape.f k s0_0 bt201.2.2.2 (bt195.1.length : Int) bt199.1).bind fun bt210 => (spec_l72Two.l0 k bt195.1 s0_0 bt210.2.2.2 bt201.1 bt201.2.1 bt201.2.2.1 bt210.1 bt210.2.1 bt210.2.2.1))))) = some (r1, r2, r3, r4, r5, r6, r7, r8) := h
 clear h
 replace H := Option.bind_eq_some_iff.mp H
 obtain ⟨⟨t195, t198⟩, A20, H⟩ := H
 replace H : ((spec_l6Rd_pick.f k s0_0 t198 4).bind fun bt199 => ((spec_l72Shape.f k s0_0 bt199.2 (t195.length : Int) bt199.1).bind fun bt201 => ((spec_l72Shape.f k s0_0 bt201.2.2.2 (t195.length : Int) bt199.1).bind fun bt210 => (spec_l72Two.l0 k t195 s0_0 bt210.2.2.2 bt201.1 bt201.2.1 bt201.2.2.1 bt210.1 bt210.2.1 bt210.2.2.1)))) = some (r1, r2, r3, r4, r5, r6, r7, r8) := H
 have A2 := Aside0.mk A20
 clear A20
 replace H := Option.bind_eq_some_iff.mp H
 obtain ⟨⟨t199, t200⟩, A30, H⟩ := H
 replace H : ((spec_l72Shape.f k s0_0 t200 (t195.length : Int) t199).bind fun bt201 => ((spec_l72Shape.f k s0_0 bt201.2.2.2 (t195.length : Int) t199).bind fun bt210 => (spec_l72Two.l0 k t195 s0_0 bt210.2.2.2 bt201.1 bt201.2.1 bt201.2.2.1 bt210.1 bt210.2.1 bt210.2.2.1))) = some (r1, r2, r3, r4, r5, r6, r7, r8) := H
 have A3 := Aside0.mk A30
 clear A30
 replace H := Option.bind_eq_some_iff.mp H
 obtain ⟨⟨t201, t202, t205, t208⟩, A40, H⟩ := H
 replace H : ((spec_l72Shape.f k s0_0 t208 (t195.length : Int) t199).bind fun bt210 => (spec_l72Two.l0 k t195 s0_0 bt210.2.2.2 t201 t202 t205 bt210.1 bt210.2.1 bt210.2.2.1)) = some (r1, r2, r3, r4, r5, r6, r7, r8) := H
 have A4 := Aside0.mk A40
 clear A40
 replace H := Option.bind_eq_some_iff.mp H
 obtain ⟨⟨t210, t211, t214, t217⟩, A50, H⟩ := H
 replace H : (spec_l72Two.l0 k t195 s0_0 t217 t201 t202 t205 t210 t211 t214) = some (r1, r2, r3, r4, r5, r6, r7, r8) := H
 have A5 := Aside0.mk A50
 clear A50
 have H' := Aside0.mk H
 clear H
 go_enter Try.func9, Try.ntmps9
 go_wp2_with (first | ((with_reducible refine gd 3 rfl ?_); (try (refine gate_guard (by rfl) ?_; dsimp only)); refine bx 3 #[.bool false, .slice none 0 0, .slice none 0 0] 26 ?_; intro gb193 hg w6 hbox hb; have BK193 := Aside0.mk hbox; have GW193 := kZ HK hg; have GE193 := kY HW0 HK hg; have NB0_193 := iL HI0 hg; have NB193_0 := iG HI0 hg; replace HI0 := iB HI0 hb; replace HK := kN HK hb; replace HB := bN HB hb; clear hb hbox hg) | ((with_reducible refine gd 4 rfl ?_); (try (refine gate_guard (by rfl) ?_; dsimp only)); refine bx 4 #[.bool false, .slice none 0 0, .slice none 0 0] 26 ?_; intro gb194 hg w7 hbox hb; have BK194 := Aside0.mk hbox; have GW194 := kZ HK hg; have GE194 := kY HW0 HK hg; have NB193_194 := nl BK193 hg; have NB194_193 := ng BK193 hg; have NB0_194 := iL HI0 hg; have NB194_0 := iG HI0 hg; replace HI0 := iB HI0 hb; replace BK193 := kb BK193 hb; replace HK := kN HK hb; replace HB := bN HB hb; clear hb hbox hg) | ((with_reducible refine gc 17 rfl ?_); refine gl (some 11) Try.func17 #[.pointer (some ⟨g, 0, none⟩)] rfl ?_; (with_reducible refine (spec_l71Off.calls k g s0_0 s0_1 t195 t198 w0 _ ?side1 ?side2 A2.out).mono ?_); (case side1 => exact iS); (case side2 => exact bS); rintro e w8 ⟨v196, rfl, ho0, hi, hb, hk⟩; refine ⟨_, rfl, ?_⟩; have HO197 := Aside0.mk (Kd.N_lower (Kd.N_mono (ok' := fun k_ => (w.heap.size ≤ k_) ∧ k_ ≠ gb193 ∧ k_ ≠ gb194 ∧ k_ ≠ g) ho0 (fun k_ hk_ => ⟨(Nat.le_trans (keep_size (w := w) (g := g) (row := none) kU) hk_), (Kd.freshB (g := gb193) (o := .cells #[.bool false, .slice none 0 0, .slice none 0 0] 26 (0, 0)) BK193.out k_ hk_), (Kd.freshB (g := gb194) (o := .cells #[.bool false, .slice none 0 0, .slice none 0 0] 26 (0, 0)) BK194.out k_ hk_), (IsS40.fresh iS k_ hk_)⟩)) (keep_size (w := w) (g := g) (row := none) kU)); replace BK193 := Aside0.mk (KeepBut.blk hk (g' := gb193) (o := .cells #[.bool false, .slice none 0 0, .slice none 0 0] 26 (0, 0)) BK193.out NB193_0.out (by simp)); replace BK194 := Aside0.mk (KeepBut.blk hk (g' := gb194) (o := .cells #[.bool false, .slice none 0 0, .slice none 0 0] 26 (0, 0)) BK194.out NB194_0.out (by simp)); replace HK := kT HK hk; replace HI0 := Aside0.mk (hi); replace HB := Aside0.mk (hb)) | ((with_reducible refine gc 10 rfl ?_); refine gl (some 13) Try.func10 #[.pointer (some ⟨g, 0, none⟩), .int .i64 4] rfl ?_; (with_reducible refine (spec_l6Rd_pick.calls k g s0_0 t198 4 t199 t200 w0 _ ?side1 ?side2 A3.out).mono ?_); (case side1 => exact iS); (case side2 => exact bS); rintro e w9 ⟨rfl, hi, hb, hk⟩; refine ⟨_, rfl, ?_⟩; replace BK193 := Aside0.mk (KeepBut.blk hk (g' := gb193) (o := .cells #[.bool false, .slice none 0 0, .slice none 0 0] 26 (0, 0)) BK193.out NB193_0.out (by simp)); replace BK194 := Aside0.mk (KeepBut.blk hk (g' := gb194) (o := .cells #[.bool false, .slice none 0 0, .slice none 0 0] 26 (0, 0)) BK194.out NB194_0.out (by simp)); replace HO197 := Aside0.mk (Kd.N_mono (Kd.N_keep (Kd.N_mono (ok := fun k_ => (((w.heap.size ≤ k_)) ∧ (k_ ≠ gb193 ∧ (k_ ≠ gb194 ∧ k_ ≠ g)))) HO197.out (fun k_ hk_ => (⟨hk_, hk_.2.2.2⟩ : _ ∧ k_ ≠ g))) hk (fun _ h => h.2)) (fun _ h => h.1)); replace HK := kT HK hk; replace HI0 := Aside0.mk (hi); replace HB := Aside0.mk (hb); obtain ⟨Ao10, co10, eo10⟩ := Kd.N_slice HO197.out; subst eo10) | ((with_reducible refine gc 18 rfl ?_); refine gl (some 18) Try.func18 #[.pointer (some ⟨g, 0, none⟩), .int .i64 (t195.length : Int), .int .i64 t199] rfl ?_; (with_reducible refine (spec_l72Shape.calls k g s0_0 t200 (t195.length : Int) t199 t201 t202 t205 t208 w0 _ ?side1 ?side2 A4.out).mono ?_); (case side1 => exact iS); (case side2 => exact bS); rintro e w11 ⟨v203, v206, rfl, ho0, ho1, hi, hb, hk⟩; refine ⟨_, rfl, ?_⟩; have HO204 := Aside0.mk (Kd.R_lower (Kd.R_newM (M := fun k_ => (w.heap.size ≤ k_)) ho0 (keep_size (w := w) (g := g) (row := none) kU) (fun k_ h_ => h_)) (keep_size (w := w) (g := g) (row := none) kU)); have HO207 := Aside0.mk (Kd.R_lower (Kd.R_newM (M := fun k_ => (w.heap.size ≤ k_)) ho1 (keep_size (w := w) (g := g) (row := none) kU) (fun k_ h_ => h_)) (keep_size (w := w) (g := g) (row := none) kU)); replace BK193 := Aside0.mk (KeepBut.blk hk (g' := gb193) (o := .cells #[.bool false, .slice none 0 0, .slice none 0 0] 26 (0, 0)) BK193.out NB193_0.out (by simp)); replace BK194 := Aside0.mk (KeepBut.blk hk (g' := gb194) (o := .cells #[.bool false, .slice none 0 0, .slice none 0 0] 26 (0, 0)) BK194.out NB194_0.out (by simp)); replace HO197 := Aside0.mk (Kd.N_mono (Kd.N_told (Kd.N_told (Kd.N_oldK (Kd.N_mono (ok := fun k_ => (((w.heap.size ≤ k_)) ∧ (k_ ≠ gb193 ∧ (k_ ≠ gb194 ∧ k_ ≠ g)))) HO197.out (fun k_ hk_ => (⟨hk_, hk_.2.2.2⟩ : _ ∧ k_ ≠ g))) hk) (Kd.R_base ho0)) (Kd.R_base ho1)) (fun _ h_ => h_.1)); replace HK := kT HK hk; replace HI0 := Aside0.mk (hi); replace HB := Aside0.mk (hb)) | ((with_reducible refine gd 7 rfl ?_); (try (refine gate_guard (by rfl) ?_; dsimp only)); refine bx 7 #[.bool false, .slice none 0 0, .slice none 0 0] 26 ?_; intro gb209 hg w12 hbox hb; have BK209 := Aside0.mk hbox; have GW209 := kZ HK hg; have GE209 := kY HW0 HK hg; have NB193_209 := nl BK193 hg; have NB209_193 := ng BK193 hg; have NB194_209 := nl BK194 hg; have NB209_194 := ng BK194 hg; have NB0_209 := iL HI0 hg; have NB209_0 := iG HI0 hg; replace HO197 := Aside0.mk (Kd.N_below (Kd.N_elderB HO197.out gb209 (Nat.le_of_eq hg.symm)) hb); replace HO204 := Aside0.mk (Kd.R_below HO204.out hb); replace HO207 := Aside0.mk (Kd.R_below HO207.out hb); replace HI0 := iB HI0 hb; replace BK193 := kb BK193 hb; replace BK194 := kb BK194 hb; replace HK := kN HK hb; replace HB := bN HB hb; clear hb hbox hg; have hnb13 := NB209_193.out; have hnc13 := NB193_209.out; have hnb14 := NB209_194.out; have hnc14 := NB194_209.out; have hnb15 := NB209_0.out; have hnc15 := NB0_209.out; obtain ⟨_,_,_,_,_,_⟩ := cf3 BK209; obtain ⟨Ao17, co17, eo17⟩ := Kd.R_slice HO204.out; subst eo17; obtain ⟨Ao18, co18, eo18⟩ := Kd.R_slice HO207.out; subst eo18) | ((with_reducible refine gc 18 rfl ?_); refine gl (some 23) Try.func18 #[.pointer (some ⟨g, 0, none⟩), .int .i64 (t195.length : Int), .int .i64 t199] rfl ?_; (with_reducible refine (spec_l72Shape.calls k g s0_0 t208 (t195.length : Int) t199 t210 t211 t214 t217 w0 _ ?side1 ?side2 A5.out).mono ?_); (case side1 => exact iS); (case side2 => exact bS); rintro e w19 ⟨v212, v215, rfl, ho0, ho1, hi, hb, hk⟩; refine ⟨_, rfl, ?_⟩; have HO213 := Aside0.mk (Kd.R_lower (Kd.R_new' (Kd.R_new' (Kd.R_newM (M := fun k_ => (w.heap.size ≤ k_)) ho0 (keep_size (w := w) (g := g) (row := none) kU) (fun k_ h_ => h_)) (Kd.R_lt ((Kd.R_mono (Kd.R_far (p := ⟨gb209, 2, none⟩) (Kd.R_far (p := ⟨gb209, 1, none⟩) (Kd.R_far (p := ⟨gb209, 0, none⟩) (Kd.R_types HO204.out BK209.out (by decide)) (fun _ hk => hk.2) (.bool t201)) (fun _ hk => hk.2) (.slice Ao17 t202.length co17)) (fun _ hk => hk.2) (.slice Ao18 t205.length co18)) (fun _ h_ => h_.1))))) (Kd.R_lt ((Kd.R_mono (Kd.R_far (p := ⟨gb209, 2, none⟩) (Kd.R_far (p := ⟨gb209, 1, none⟩) (Kd.R_far (p := ⟨gb209, 0, none⟩) (Kd.R_types HO207.out BK209.out (by decide)) (fun _ hk => hk.2) (.bool t201)) (fun _ hk => hk.2) (.slice Ao17 t202.length co17)) (fun _ hk => hk.2) (.slice Ao18 t205.length co18)) (fun _ h_ => h_.1))))) (keep_size (w := w) (g := g) (row := none) kU)); have HO216 := Aside0.mk (Kd.R_lower (Kd.R_new' (Kd.R_new' (Kd.R_newM (M := fun k_ => (w.heap.size ≤ k_)) ho1 (keep_size (w := w) (g := g) (row := none) kU) (fun k_ h_ => h_)) (Kd.R_lt ((Kd.R_mono (Kd.R_far (p := ⟨gb209, 2, none⟩) (Kd.R_far (p := ⟨gb209, 1, none⟩) (Kd.R_far (p := ⟨gb209, 0, none⟩) (Kd.R_types HO204.out BK209.out (by decide)) (fun _ hk => hk.2) (.bool t201)) (fun _ hk => hk.2) (.slice Ao17 t202.length co17)) (fun _ hk => hk.2) (.slice Ao18 t205.length co18)) (fun _ h_ => h_.1))))) (Kd.R_lt ((Kd.R_mono (Kd.R_far (p := ⟨gb209, 2, none⟩) (Kd.R_far (p := ⟨gb209, 1, none⟩) (Kd.R_far (p := ⟨gb209, 0, none⟩) (Kd.R_types HO207.out BK209.out (by decide)) (fun _ hk => hk.2) (.bool t201)) (fun _ hk => hk.2) (.slice Ao17 t202.length co17)) (fun _ hk => hk.2) (.slice Ao18 t205.length co18)) (fun _ h_ => h_.1))))) (keep_size (w := w) (g := g) (row := none) kU)); replace BK193 := Aside0.mk (KeepBut.blk hk (g' := gb193) (o := .cells #[.bool false, .slice none 0 0, .slice none 0 0] 26 (0, 0)) (by (with_reducible repeat (first | refine blk_drewN ?_ _ | refine blk_drew ?_ | refine blk_alloc ?_ _)); refine blk_far ?_ NB193_209.out _; (with_reducible repeat (first | refine blk_drewN ?_ _ | refine blk_drew ?_ | refine blk_alloc ?_ _)); refine blk_far ?_ NB193_209.out _; (with_reducible repeat (first | refine blk_drewN ?_ _ | refine blk_drew ?_ | refine blk_alloc ?_ _)); refine blk_far ?_ NB193_209.out _; (with_reducible repeat (first | refine blk_drewN ?_ _ | refine blk_drew ?_ | refine blk_alloc ?_ _)); exact BK193.out) NB193_0.out (by simp)); replace BK194 := Aside0.mk (KeepBut.blk hk (g' := gb194) (o := .cells #[.bool false, .slice none 0 0, .slice none 0 0] 26 (0, 0)) (by (with_reducible repeat (first | refine blk_drewN ?_ _ | refine blk_drew ?_ | refine blk_alloc ?_ _)); refine blk_far ?_ NB194_209.out _; (with_reducible repeat (first | refine blk_drewN ?_ _ | refine blk_drew ?_ | refine blk_alloc ?_ _)); refine blk_far ?_ NB194_209.out _; (with_reducible repeat (first | refine blk_drewN ?_ _ | refine blk_drew ?_ | refine blk_alloc ?_ _)); refine blk_far ?_ NB194_209.out _; (with_reducible repeat (first | refine blk_drewN ?_ _ | refine blk_drew ?_ | refine blk_alloc ?_ _)); exact BK194.out) NB194_0.out (by simp)); replace HO197 := Aside0.mk (Kd.N_mono (Kd.N_told (Kd.N_told (Kd.N_oldK (Kd.N_mono (ok := fun k_ => ((((((w.heap.size ≤ k_)) ∧ (k_ ≠ gb193 ∧ (k_ ≠ gb194 ∧ k_ ≠ g))) ∧ some k_ ≠ (.slice Ao17 t202.length co17 : Value).ownBlock) ∧ some k_ ≠ (.slice Ao18 t205.length co18 : Value).ownBlock) ∧ k_ ≠ gb209)) ((Kd.N_mono (Kd.N_far (p := ⟨gb209, 2, none⟩) (Kd.N_far (p := ⟨gb209, 1, none⟩) (Kd.N_far (p := ⟨gb209, 0, none⟩) (Kd.N_mono HO197.out (fun k_ hk => (⟨hk, hk.2⟩ : _ ∧ k_ ≠ gb209))) (fun _ hk => hk.2) (.bool t201)) (fun _ hk => hk.2) (.slice Ao17 t202.length co17)) (fun _ hk => hk.2) (.slice Ao18 t205.length co18)) (fun _ h_ => h_.1))) (fun k_ hk_ => (⟨hk_, hk_.1.1.1.2.2.2⟩ : _ ∧ k_ ≠ g))) hk) (Kd.R_base ho0)) (Kd.R_base ho1)) (fun _ h_ => h_.1)); replace HO204 := Aside0.mk (Kd.R_mono (Kd.R_told (Kd.R_told (Kd.R_oldK (IsS40.apart (show IsS40 w0 _ g s0_0 t208 from iS) ((Kd.R_mono (Kd.R_far (p := ⟨gb209, 2, none⟩) (Kd.R_far (p := ⟨gb209, 1, none⟩) (Kd.R_far (p := ⟨gb209, 0, none⟩) (Kd.R_types HO204.out BK209.out (by decide)) (fun _ hk => hk.2) (.bool t201)) (fun _ hk => hk.2) (.slice Ao17 t202.length co17)) (fun _ hk => hk.2) (.slice Ao18 t205.length co18)) (fun _ h_ => h_.1))) (by decide)) hk) (Kd.R_base ho0)) (Kd.R_base ho1)) (fun _ h_ => h_.1)); replace HO207 := Aside0.mk (Kd.R_mono (Kd.R_told (Kd.R_told (Kd.R_oldK (IsS40.apart (show IsS40 w0 _ g s0_0 t208 from iS) ((Kd.R_mono (Kd.R_far (p := ⟨gb209, 2, none⟩) (Kd.R_far (p := ⟨gb209, 1, none⟩) (Kd.R_far (p := ⟨gb209, 0, none⟩) (Kd.R_types HO207.out BK209.out (by decide)) (fun _ hk => hk.2) (.bool t201)) (fun _ hk => hk.2) (.slice Ao17 t202.length co17)) (fun _ hk => hk.2) (.slice Ao18 t205.length co18)) (fun _ h_ => h_.1))) (by decide)) hk) (Kd.R_base ho0)) (Kd.R_base ho1)) (fun _ h_ => h_.1)); replace BK209 := Aside0.mk (KeepBut.blk hk (g' := gb209) (o := .cells #[.bool t201, .slice Ao17 t202.length co17, .slice Ao18 t205.length co18] 26 (0, 0)) (by (with_reducible repeat (first | refine blk_drewN ?_ _ | refine blk_drew ?_ | refine blk_alloc ?_ _)); refine blk_put (cs := #[.bool t201, .slice Ao17 t202.length co17, .slice none 0 0]) ?_ 2 _ rfl; (with_reducible repeat (first | refine blk_drewN ?_ _ | refine blk_drew ?_ | refine blk_alloc ?_ _)); refine blk_put (cs := #[.bool t201, .slice none 0 0, .slice none 0 0]) ?_ 1 _ rfl; (with_reducible repeat (first | refine blk_drewN ?_ _ | refine blk_drew ?_ | refine blk_alloc ?_ _)); refine blk_put (cs := #[.bool false, .slice none 0 0, .slice none 0 0]) ?_ 0 _ rfl; (with_reducible repeat (first | refine blk_drewN ?_ _ | refine blk_drew ?_ | refine blk_alloc ?_ _)); exact BK209.out) NB209_0.out (by simp)); replace HK := kT HK hk; replace HI0 := Aside0.mk (hi); replace HB := Aside0.mk (hb)) | ((with_reducible refine gd 8 rfl ?_); (try (refine gate_guard (by rfl) ?_; dsimp only)); refine bx 8 #[.bool false, .slice none 0 0, .slice none 0 0] 26 ?_; intro gb218 hg w20 hbox hb; have BK218 := Aside0.mk hbox; have GW218 := kZ HK hg; have GE218 := kY HW0 HK hg; have NB193_218 := nl BK193 hg; have NB218_193 := ng BK193 hg; have NB194_218 := nl BK194 hg; have NB218_194 := ng BK194 hg; have NB209_218 := nl BK209 hg; have NB218_209 := ng BK209 hg; have NB0_218 := iL HI0 hg; have NB218_0 := iG HI0 hg; replace HO197 := Aside0.mk (Kd.N_below (Kd.N_elderB HO197.out gb218 (Nat.le_of_eq hg.symm)) hb); replace HO204 := Aside0.mk (Kd.R_below HO204.out hb); replace HO207 := Aside0.mk (Kd.R_below HO207.out hb); replace HO213 := Aside0.mk (Kd.R_below HO213.out hb); replace HO216 := Aside0.mk (Kd.R_below HO216.out hb); replace HI0 := iB HI0 hb; replace BK193 := kb BK193 hb; replace BK194 := kb BK194 hb; replace BK209 := kb BK209 hb; replace HK := kN HK hb; replace HB := bN HB hb; clear hb hbox hg; have hnb21 := NB218_193.out; have hnc21 := NB193_218.out; have hnb22 := NB218_194.out; have hnc22 := NB194_218.out; have hnb23 := NB218_209.out; have hnc23 := NB209_218.out; have hnb24 := NB218_0.out; have hnc24 := NB0_218.out; obtain ⟨_,_,_,_,_,_⟩ := cf3 BK218; obtain ⟨Ao26, co26, eo26⟩ := Kd.R_slice HO213.out; subst eo26; obtain ⟨Ao27, co27, eo27⟩ := Kd.R_slice HO216.out; subst eo27))
 go_loopg [] k (fun kq w' => ∃ (x219002_1 : List Int) (u219002 : Value), Aside0 (spec_l72Two.l0 kq t195 s0_0 t217 t201 t202 t205 t210 t211 x219002_1 = some (r1, r2, r3, r4, r5, r6, r7, r8)) ∧ Aside0 (kq ≤ k) ∧ Aside0 (Kd.N k48 48 w' w.heap.size (fun k_ => (w.heap.size ≤ k_) ∧ some k_ ≠ ((.slice Ao17 t202.length co17) : Value).ownBlock ∧ some k_ ≠ ((.slice Ao18 t205.length co18) : Value).ownBlock ∧ some k_ ≠ ((.slice Ao26 t211.length co26) : Value).ownBlock ∧ some k_ ≠ (u219002 : Value).ownBlock ∧ k_ ≠ gb193 ∧ k_ ≠ gb194 ∧ k_ ≠ gb209 ∧ k_ ≠ gb218 ∧ k_ ≠ g) (.slice Ao10 t195.length co10) t195) ∧ Aside0 (Kd.R (Kd.int .i64) 3 w' w.heap.size (fun k_ => (w.heap.size ≤ k_) ∧ some k_ ≠ ((.slice Ao18 t205.length co18) : Value).ownBlock ∧ some k_ ≠ ((.slice Ao26 t211.length co26) : Value).ownBlock ∧ some k_ ≠ (u219002 : Value).ownBlock) (.slice Ao17 t202.length co17) t202) ∧ Aside0 (Kd.Q (Kd.int .i64) 3 w' w.heap.size (fun k_ => (w.heap.size ≤ k_) ∧ some k_ ≠ ((.slice Ao17 t202.length co17) : Value).ownBlock ∧ some k_ ≠ ((.slice Ao26 t211.length co26) : Value).ownBlock ∧ some k_ ≠ (u219002 : Value).ownBlock) (.slice Ao18 t205.length co18) t205) ∧ Aside0 (Kd.R (Kd.int .i64) 3 w' w.heap.size (fun k_ => (w.heap.size ≤ k_) ∧ some k_ ≠ ((.slice Ao17 t202.length co17) : Value).ownBlock ∧ some k_ ≠ ((.slice Ao18 t205.length co18) : Value).ownBlock ∧ some k_ ≠ (u219002 : Value).ownBlock) (.slice Ao26 t211.length co26) t211) ∧ Aside0 (Kd.Q (Kd.int .i64) 3 w' w.heap.size (fun k_ => (w.heap.size ≤ k_) ∧ some k_ ≠ ((.slice Ao17 t202.length co17) : Value).ownBlock ∧ some k_ ≠ ((.slice Ao18 t205.length co18) : Value).ownBlock ∧ some k_ ≠ ((.slice Ao26 t211.length co26) : Value).ownBlock) u219002 x219002_1) ∧ Aside0 (w'.heap[gb193]? = some (.cells #[.bool false, (.slice none 0 0), (.slice none 0 0)] 26 (0, 0))) ∧ Aside0 (w'.heap[gb194]? = some (.cells #[.bool false, (.slice none 0 0), (.slice none 0 0)] 26 (0, 0))) ∧ Aside0 (w'.heap[gb209]? = some (.cells #[.bool t201, (.slice Ao17 t202.length co17), (.slice Ao18 t205.length co18)] 26 (0, 0))) ∧ Aside0 (w'.heap[gb218]? = some (.cells #[.bool t210, (.slice Ao26 t211.length co26), u219002] 26 (0, 0))) ∧ Aside0 (IsS40 w0 w' g s0_0 t217) ∧ Aside0 (KeepBut w w' g none) ∧ Aside0 (Below w0.heap.size w0 w'))
 case atStart => exact ⟨(t214), (.slice Ao27 t214.length co27), H', ⟨Nat.le_refl _⟩, ⟨by exact Kd.N_mono (Kd.N_far (p := ⟨gb218, 2, none⟩) (Kd.N_far (p := ⟨gb218, 1, none⟩) (Kd.N_far (p := ⟨gb218, 0, none⟩) (Kd.N_mono HO197.out (fun k_ hk => (⟨hk, hk.2⟩ : _ ∧ k_ ≠ gb218))) (fun _ hk => hk.2) (.bool t210)) (fun _ hk => hk.2) (.slice Ao26 t211.length co26)) (fun _ hk => hk.2) (.slice Ao27 t214.length co27)) (fun _ hk => ⟨hk.1.1.1.1.1.1.1.1, ⟨hk.1.1.1.1.1.1.2, ⟨hk.1.1.1.1.1.2, ⟨hk.1.1.1.2, ⟨hk.1.1.2, ⟨hk.1.1.1.1.1.1.1.2.1, ⟨hk.1.1.1.1.1.1.1.2.2.1, ⟨hk.1.1.1.1.2, ⟨hk.1.2, hk.1.1.1.1.1.1.1.2.2.2⟩⟩⟩⟩⟩⟩⟩⟩⟩)⟩, ⟨by exact Kd.R_mono (Kd.R_far (p := ⟨gb218, 2, none⟩) (Kd.R_far (p := ⟨gb218, 1, none⟩) (Kd.R_far (p := ⟨gb218, 0, none⟩) (Kd.R_types HO204.out BK218.out (by decide)) (fun _ hk => hk.2) (.bool t210)) (fun _ hk => hk.2) (.slice Ao26 t211.length co26)) (fun _ hk => hk.2) (.slice Ao27 t214.length co27)) (fun _ hk => ⟨hk.1.1.1.1, ⟨hk.1.1.1.2, ⟨hk.1.1.2, hk.1.2⟩⟩⟩)⟩, ⟨Kd.Q_of_R (Kd.R_mono (Kd.R_far (p := ⟨gb218, 2, none⟩) (Kd.R_far (p := ⟨gb218, 1, none⟩) (Kd.R_far (p := ⟨gb218, 0, none⟩) (Kd.R_types HO207.out BK218.out (by decide)) (fun _ hk => hk.2) (.bool t210)) (fun _ hk => hk.2) (.slice Ao26 t211.length co26)) (fun _ hk => hk.2) (.slice Ao27 t214.length co27)) (fun _ hk => ⟨hk.1.1.1.1, ⟨hk.1.1.1.2, ⟨hk.1.1.2, hk.1.2⟩⟩⟩))⟩, ⟨by exact Kd.R_mono (Kd.R_far (p := ⟨gb218, 2, none⟩) (Kd.R_far (p := ⟨gb218, 1, none⟩) (Kd.R_far (p := ⟨gb218, 0, none⟩) (Kd.R_types HO213.out BK218.out (by decide)) (fun _ hk => hk.2) (.bool t210)) (fun _ hk => hk.2) (.slice Ao26 t211.length co26)) (fun _ hk => hk.2) (.slice Ao27 t214.length co27)) (fun _ hk => ⟨hk.1.1.1.1, ⟨hk.1.1.2, ⟨hk.1.2, hk.1.1.1.2⟩⟩⟩)⟩, ⟨Kd.Q_of_R (Kd.R_mono (Kd.R_far (p := ⟨gb218, 2, none⟩) (Kd.R_far (p := ⟨gb218, 1, none⟩) (Kd.R_far (p := ⟨gb218, 0, none⟩) (Kd.R_types HO216.out BK218.out (by decide)) (fun _ hk => hk.2) (.bool t210)) (fun _ hk => hk.2) (.slice Ao26 t211.length co26)) (fun _ hk => hk.2) (.slice Ao27 t214.length co27)) (fun _ hk => ⟨hk.1.1.1.1, ⟨hk.1.1.2, ⟨hk.1.2, hk.1.1.1.2⟩⟩⟩))⟩, kf, kf, kf, kf, ⟨iS⟩, ⟨kU⟩, ⟨bS⟩⟩
 case round =>
  clear H'
  obtain ⟨x219002_1, u219002, HA, HK1, HO_5, HO_210001, HO_210002, HO_219001, HO_219002, BK193, BK194, BK209, BK218, HI0, HK, HB⟩ := hrel
  cases gk with
  | zero => exact absurd HA.out (by simp [spec_l72Two.l0])
  | succ k1 =>
   have H := HA.out
   clear HA
   simp only [spec_l72Two.l0] at H
   by_cases c28 : (x219002_1.length : Int) > (t205.length : Int)
   ·rw [if_pos c28] at H
    have c28b0 : decide ((t205.length : Int) < (x219002_1.length : Int)) = true := decide_eq_true c28
    have c28b1 : decide (t205.length < x219002_1.length) = true := decide_eq_true (Int.ofNat_lt.mp c28)
    clear c28
    by_cases c29 : 1 ≤ (x219002_1.length : Int)
    ·rw [if_pos c29] at H
     have c29b0 := eq_true c29
     have c29b1 : decide (1 ≤ (x219002_1.length : Int)) = true := decide_eq_true c29
     clear c29
     obtain ⟨y219, hy219⟩ : ∃ y_ : List Int, y_ = (x219002_1.drop (1 : Int).toNat) := ⟨_, rfl⟩
     replace H : (spec_l72Two.l0 k1 t195 s0_0 t217 t201 t202 t205 t210 t211 y219) = some (r1, r2, r3, r4, r5, r6, r7, r8) := by first | (rw [hy219]; with_reducible exact H) | (have H2_ := (Option.bind_some _ _).symm.trans H; rw [hy219]; with_reducible exact H2_) | (have H2_ := (Option.bind_some _ _).symm.trans H; with_reducible exact H2_) | with_reducible exact H | (rw [hy219]; exact H) | exact H
     have Ny219 := Aside0.mk hy219
     clear hy219
     have H' := Aside0.mk H
     clear H
     have hnb30 := NB218_193.out
     have hnc30 := NB193_218.out
     have hnb31 := NB218_194.out
     have hnc31 := NB194_218.out
     have hnb32 := NB218_209.out
     have hnc32 := NB209_218.out
     have hnb33 := NB218_0.out
     have hnc33 := NB0_218.out
     obtain ⟨_,_,_,_,_,_⟩ := cf3 BK218
     obtain ⟨Ao35, co35, eo35, _⟩ := Kd.Q_slice HO_219002.out
     subst eo35
     have hnb36 := NB209_193.out
     have hnc36 := NB193_209.out
     have hnb37 := NB209_194.out
     have hnc37 := NB194_209.out
     have hnb38 := NB209_0.out
     have hnc38 := NB0_209.out
     obtain ⟨_,_,_,_,_,_⟩ := cf3 BK209
     have q40 : (1 : Int) ≤ ((x219002_1.length : Int) : Int) := od
     obtain ⟨i040, hi040, _, hsz40, _⟩ := info_parts info3
     have hcut40 := cut_from (P := Try.prog) 24 3 .i64 Try.underlying24 hi040 1 hsz40 Ao35 x219002_1.length co35 1 (by omega) q40
     have hr40 := Kd.Q_drop (k := (1 : Int).toNat) HO_219002.out (by omega)
     obtain ⟨A40, hA40⟩ : ∃ A1, A1 = (if co35 = (1 : Int).toNat then Ao35 else (Ao35 : Option Addr).map (·.add ((1 : Int).toNat * 1))) := ⟨_, rfl⟩
     obtain ⟨c40, hc40⟩ : ∃ c1, c1 = co35 - (1 : Int).toNat := ⟨_, rfl⟩
     have hy40 : y219.length = x219002_1.length - (1 : Int).toNat := (by rw [Ny219.out, List.length_drop])
     rw [← Ny219.out] at hr40
     rw [← hy40, ← hA40, ← hc40] at hcut40
     replace hr40 : Kd.Q (Kd.int .i64) 3 wr w.heap.size (fun k_ => (w.heap.size ≤ k_) ∧ some k_ ≠ (.slice Ao17 t202.length co17 : Value).ownBlock ∧ some k_ ≠ (.slice Ao18 t205.length co18 : Value).ownBlock ∧ some k_ ≠ (.slice Ao26 t211.length co26 : Value).ownBlock) (.slice A40 y219.length c40) y219 := (by rw [hA40, hc40, hy40]; exact hr40)
     have HE40 : Aside0 ((Value.slice A40 y219.length c40).ownBlock = (.slice Ao35 x219002_1.length co35 : Value).ownBlock) := ⟨by rw [hA40]; split <;> (cases (Ao35 : Option Addr) <;> rfl)⟩
     clear hy40 hi040 hsz40 HO_219002 hA40 hc40
     have HO221 := Aside0.mk hr40
     clear hr40
     replace q40 := eq_true q40
     have n_ := Aside0.mk (Kd.N_mono (ok' := fun k_ => (((w.heap.size ≤ k_)) ∧ (some k_ ≠ (.slice Ao17 t202.length co17 : Value).ownBlock ∧ (some k_ ≠ (.slice Ao18 t205.length co18 : Value).ownBlock ∧ (some k_ ≠ (.slice Ao26 t211.length co26 : Value).ownBlock ∧ (some k_ ≠ (.slice A40 y219.length c40 : Value).ownBlock ∧ (k_ ≠ gb193 ∧ (k_ ≠ gb194 ∧ (k_ ≠ gb209 ∧ (k_ ≠ gb218 ∧ k_ ≠ g)))))))))) HO_5.out (fun k_ hk => ⟨hk.1, ⟨hk.2.1, ⟨hk.2.2.1, ⟨hk.2.2.2.1, ⟨(by rw [HE40.out]; exact hk.2.2.2.2.1), ⟨hk.2.2.2.2.2.1, ⟨hk.2.2.2.2.2.2.1, ⟨hk.2.2.2.2.2.2.2.1, ⟨hk.2.2.2.2.2.2.2.2.1, hk.2.2.2.2.2.2.2.2.2⟩⟩⟩⟩⟩⟩⟩⟩⟩))
     clear HO_5
     have HO_5 := n_
     clear n_
     have n_ := Aside0.mk (Kd.R_mono (ok' := fun k_ => (((w.heap.size ≤ k_)) ∧ (some k_ ≠ (.slice Ao18 t205.length co18 : Value).ownBlock ∧ (some k_ ≠ (.slice Ao26 t211.length co26 : Value).ownBlock ∧ some k_ ≠ (.slice A40 y219.length c40 : Value).ownBlock)))) HO_210001.out (fun k_ hk => ⟨hk.1, ⟨hk.2.1, ⟨hk.2.2.1, (by rw [HE40.out]; exact hk.2.2.2)⟩⟩⟩))
     clear HO_210001
     have HO_210001 := n_
     clear n_
     have n_ := Aside0.mk (Kd.Q_mono (ok' := fun k_ => (((w.heap.size ≤ k_)) ∧ (some k_ ≠ (.slice Ao17 t202.length co17 : Value).ownBlock ∧ (some k_ ≠ (.slice Ao26 t211.length co26 : Value).ownBlock ∧ some k_ ≠ (.slice A40 y219.length c40 : Value).ownBlock)))) HO_210002.out (fun k_ hk => ⟨hk.1, ⟨hk.2.1, ⟨hk.2.2.1, (by rw [HE40.out]; exact hk.2.2.2)⟩⟩⟩))
     clear HO_210002
     have HO_210002 := n_
     clear n_
     have n_ := Aside0.mk (Kd.R_mono (ok' := fun k_ => (((w.heap.size ≤ k_)) ∧ (some k_ ≠ (.slice Ao17 t202.length co17 : Value).ownBlock ∧ (some k_ ≠ (.slice Ao18 t205.length co18 : Value).ownBlock ∧ some k_ ≠ (.slice A40 y219.length c40 : Value).ownBlock)))) HO_219001.out (fun k_ hk => ⟨hk.1, ⟨hk.2.1, ⟨hk.2.2.1, (by rw [HE40.out]; exact hk.2.2.2)⟩⟩⟩))
     clear HO_219001
     have HO_219001 := n_
     clear n_
     go_wp2
     go_roundg k1
     case measure => have := HK1.out; omega
     case rel => exact ⟨(y219), (.slice A40 y219.length c40), H', ⟨by have := HK1.out; omega⟩, ⟨by exact Kd.N_mono (Kd.N_far (p := ⟨gb218, 2, none⟩) (Kd.N_mono HO_5.out (fun k_ hk => (⟨hk, hk.2.2.2.2.2.2.2.2.1⟩ : _ ∧ k_ ≠ gb218))) (fun _ hk => hk.2) (.slice A40 y219.length c40)) (fun _ hk => ⟨hk.1.1, ⟨hk.1.2.1, ⟨hk.1.2.2.1, ⟨hk.1.2.2.2.1, ⟨hk.1.2.2.2.2.1, ⟨hk.1.2.2.2.2.2.1, ⟨hk.1.2.2.2.2.2.2.1, ⟨hk.1.2.2.2.2.2.2.2.1, ⟨hk.1.2.2.2.2.2.2.2.2.1, hk.1.2.2.2.2.2.2.2.2.2⟩⟩⟩⟩⟩⟩⟩⟩⟩)⟩, ⟨by exact Kd.R_mono (Kd.R_far (p := ⟨gb218, 2, none⟩) (Kd.R_types HO_210001.out BK218.out (by decide)) (fun _ hk => hk.2) (.slice A40 y219.length c40)) (fun _ hk => ⟨hk.1.1, ⟨hk.1.2.1, ⟨hk.1.2.2.1, hk.1.2.2.2⟩⟩⟩)⟩, ⟨by exact Kd.Q_mono (Kd.Q_far (p := ⟨gb218, 2, none⟩) (Kd.Q_types HO_210002.out BK218.out (by decide)) (fun _ hk => hk.2) (.slice A40 y219.length c40)) (fun _ hk => ⟨hk.1.1, ⟨hk.1.2.1, ⟨hk.1.2.2.1, hk.1.2.2.2⟩⟩⟩)⟩, ⟨by exact Kd.R_mono (Kd.R_far (p := ⟨gb218, 2, none⟩) (Kd.R_types HO_219001.out BK218.out (by decide)) (fun _ hk => hk.2) (.slice A40 y219.length c40)) (fun _ hk => ⟨hk.1.1, ⟨hk.1.2.1, ⟨hk.1.2.2.1, hk.1.2.2.2⟩⟩⟩)⟩, ⟨by exact Kd.Q_mono (Kd.Q_far (p := ⟨gb218, 2, none⟩) (Kd.Q_types HO221.out BK218.out (by decide)) (fun _ hk => hk.2) (.slice A40 y219.length c40)) (fun _ hk => ⟨hk.1.1, ⟨hk.1.2.1, ⟨hk.1.2.2.1, hk.1.2.2.2⟩⟩⟩)⟩, kf, kf, kf, kf, ⟨iS⟩, ⟨kU⟩, ⟨bS⟩⟩
    ·rw [if_neg c29] at H
     exact absurd H (by simp)
   ·rw [if_neg c28] at H
    have c28b0 : decide ((t205.length : Int) < (x219002_1.length : Int)) = false := decide_eq_false c28
    have c28b1 : decide (t205.length < x219002_1.length) = false := decide_eq_false (fun h => c28 (Int.ofNat_lt.mpr h))
    clear c28
    have H' := Aside0.mk H
    clear H
    have hnb41 := NB218_193.out
    have hnc41 := NB193_218.out
    have hnb42 := NB218_194.out
    have hnc42 := NB194_218.out
    have hnb43 := NB218_209.out
    have hnc43 := NB209_218.out
    have hnb44 := NB218_0.out
    have hnc44 := NB0_218.out
    obtain ⟨_,_,_,_,_,_⟩ := cf3 BK218
    obtain ⟨Ao46, co46, eo46, _⟩ := Kd.Q_slice HO_219002.out
    subst eo46
    have hnb47 := NB209_193.out
    have hnc47 := NB193_209.out
    have hnb48 := NB209_194.out
    have hnc48 := NB194_209.out
    have hnb49 := NB209_0.out
    have hnc49 := NB0_209.out
    obtain ⟨_,_,_,_,_,_⟩ := cf3 BK209
    go_wp2
    go_loopg [9] k1 (fun kq v9 w' => ∃ (x9_2 : Int) (x1001_2 : Int) (x210001_2 : List Int) (x210002_2 : List Int) (x219001_2 : List Int) (x219002_2 : List Int) (u210001 : Value) (u210002 : Value) (u219001 : Value) (u219002 : Value), v9 = .int .i64 x9_2 ∧ Aside0 (spec_l72Two.l1 kq t195 x9_2 s0_0 x1001_2 t201 x210001_2 x210002_2 t210 x219001_2 x219002_2 = some (r1, r2, r3, r4, r5, r6, r7, r8)) ∧ Aside0 (kq ≤ k1) ∧ Aside0 (Kd.N k48 48 w' w.heap.size (fun k_ => (w.heap.size ≤ k_) ∧ some k_ ≠ (u210001 : Value).ownBlock ∧ some k_ ≠ (u210002 : Value).ownBlock ∧ some k_ ≠ (u219001 : Value).ownBlock ∧ some k_ ≠ (u219002 : Value).ownBlock ∧ k_ ≠ gb193 ∧ k_ ≠ gb194 ∧ k_ ≠ gb209 ∧ k_ ≠ gb218 ∧ k_ ≠ g) (.slice Ao10 t195.length co10) t195) ∧ Aside0 (Kd.R (Kd.int .i64) 3 w' w.heap.size (fun k_ => (w.heap.size ≤ k_) ∧ some k_ ≠ (u210002 : Value).ownBlock ∧ some k_ ≠ (u219001 : Value).ownBlock ∧ some k_ ≠ (u219002 : Value).ownBlock) u210001 x210001_2) ∧ Aside0 (Kd.Q (Kd.int .i64) 3 w' w.heap.size (fun k_ => (w.heap.size ≤ k_) ∧ some k_ ≠ (u210001 : Value).ownBlock ∧ some k_ ≠ (u219001 : Value).ownBlock ∧ some k_ ≠ (u219002 : Value).ownBlock) u210002 x210002_2) ∧ Aside0 (Kd.R (Kd.int .i64) 3 w' w.heap.size (fun k_ => (w.heap.size ≤ k_) ∧ some k_ ≠ (u210001 : Value).ownBlock ∧ some k_ ≠ (u210002 : Value).ownBlock ∧ some k_ ≠ (u219002 : Value).ownBlock) u219001 x219001_2) ∧ Aside0 (Kd.Q (Kd.int .i64) 3 w' w.heap.size (fun k_ => (w.heap.size ≤ k_) ∧ some k_ ≠ (u210001 : Value).ownBlock ∧ some k_ ≠ (u210002 : Value).ownBlock ∧ some k_ ≠ (u219001 : Value).ownBlock) u219002 x219002_2) ∧ Aside0 (w'.heap[gb193]? = some (.cells #[.bool false, (.slice none 0 0), (.slice none 0 0)] 26 (0, 0))) ∧ Aside0 (w'.heap[gb194]? = some (.cells #[.bool false, (.slice none 0 0), (.slice none 0 0)] 26 (0, 0))) ∧ Aside0 (w'.heap[gb209]? = some (.cells #[.bool t201, u210001, u210002] 26 (0, 0))) ∧ Aside0 (w'.heap[gb218]? = some (.cells #[.bool t210, u219001, u219002] 26 (0, 0))) ∧ Aside0 (IsS40 w0 w' g s0_0 x1001_2) ∧ Aside0 (KeepBut w w' g none) ∧ Aside0 (Below w0.heap.size w0 w'))
    case atStart => exact ⟨(0), (t217), (t202), (t205), (t211), (x219002_1), (.slice Ao17 t202.length co17), (.slice Ao18 t205.length co18), (.slice Ao26 t211.length co26), (.slice Ao46 x219002_1.length co46), (by first | rfl | (simp; done) | (simp [*]; done)), H', ⟨Nat.le_refl _⟩, ⟨HO_5.out⟩, ⟨HO_210001.out⟩, ⟨HO_210002.out⟩, ⟨HO_219001.out⟩, ⟨HO_219002.out⟩, kk BK193, kk BK194, kk BK209, kk BK218, ⟨iS⟩, ⟨kU⟩, ⟨bS⟩⟩
    case round =>
     clear H'
     obtain ⟨x9_2, x1001_2, x210001_2, x210002_2, x219001_2, x219002_2, u210001, u210002, u219001, u219002, rfl, HA, HK2, HO_5, HO_210001, HO_210002, HO_219001, HO_219002, BK193, BK194, BK209, BK218, HI0, HK, HB⟩ := hrel
     cases gk with
     | zero => exact absurd HA.out (by simp [spec_l72Two.l1])
     | succ k2 =>
      have H := HA.out
      clear HA
      simp only [spec_l72Two.l1] at H
      have HC51 := Aside0.mk H
      clear H
      go_upto_region 8 with (fail)
      go_cut [46] (fun v46 wc => ∃ (kq : Nat) (x46_50 : Bool), v46 = .bool x46_50 ∧ Aside0 (spec_l72Two.j2 kq t195 x9_2 x46_50 s0_0 x1001_2 t201 x210001_2 x210002_2 t210 x219001_2 x219002_2 = some (r1, r2, r3, r4, r5, r6, r7, r8)) ∧ Aside0 (kq ≤ k2) ∧ Aside0 (Kd.N k48 48 wc w.heap.size (fun k_ => (w.heap.size ≤ k_) ∧ some k_ ≠ (u210001 : Value).ownBlock ∧ some k_ ≠ (u210002 : Value).ownBlock ∧ some k_ ≠ (u219001 : Value).ownBlock ∧ some k_ ≠ (u219002 : Value).ownBlock ∧ k_ ≠ gb193 ∧ k_ ≠ gb194 ∧ k_ ≠ gb209 ∧ k_ ≠ gb218 ∧ k_ ≠ g) (.slice Ao10 t195.length co10) t195) ∧ Aside0 (Kd.R (Kd.int .i64) 3 wc w.heap.size (fun k_ => (w.heap.size ≤ k_) ∧ some k_ ≠ (u210002 : Value).ownBlock ∧ some k_ ≠ (u219001 : Value).ownBlock ∧ some k_ ≠ (u219002 : Value).ownBlock) u210001 x210001_2) ∧ Aside0 (Kd.Q (Kd.int .i64) 3 wc w.heap.size (fun k_ => (w.heap.size ≤ k_) ∧ some k_ ≠ (u210001 : Value).ownBlock ∧ some k_ ≠ (u219001 : Value).ownBlock ∧ some k_ ≠ (u219002 : Value).ownBlock) u210002 x210002_2) ∧ Aside0 (Kd.R (Kd.int .i64) 3 wc w.heap.size (fun k_ => (w.heap.size ≤ k_) ∧ some k_ ≠ (u210001 : Value).ownBlock ∧ some k_ ≠ (u210002 : Value).ownBlock ∧ some k_ ≠ (u219002 : Value).ownBlock) u219001 x219001_2) ∧ Aside0 (Kd.Q (Kd.int .i64) 3 wc w.heap.size (fun k_ => (w.heap.size ≤ k_) ∧ some k_ ≠ (u210001 : Value).ownBlock ∧ some k_ ≠ (u210002 : Value).ownBlock ∧ some k_ ≠ (u219001 : Value).ownBlock) u219002 x219002_2) ∧ Aside0 (wc.heap[gb193]? = some (.cells #[.bool false, (.slice none 0 0), (.slice none 0 0)] 26 (0, 0))) ∧ Aside0 (wc.heap[gb194]? = some (.cells #[.bool false, (.slice none 0 0), (.slice none 0 0)] 26 (0, 0))) ∧ Aside0 (wc.heap[gb209]? = some (.cells #[.bool t201, u210001, u210002] 26 (0, 0))) ∧ Aside0 (wc.heap[gb218]? = some (.cells #[.bool t210, u219001, u219002] 26 (0, 0))) ∧ Aside0 (IsS40 w0 wc g s0_0 x1001_2) ∧ Aside0 (KeepBut w wc g none) ∧ Aside0 (Below w0.heap.size w0 wc))
      case first =>
       have H := HC51.out
       clear HC51
       by_cases c52 : x9_2 < (x219001_2.length : Int)
       ·rw [if_pos c52] at H
        have c52b0 : decide (x9_2 < (x219001_2.length : Int)) = true := decide_eq_true c52
        clear c52
        (first | rw [c52b0] | (simp only [i64_w, i32_w]; rw [c52b0]) | skip)
        have H' := Aside0.mk H
        clear H
        have hnb53 := NB218_193.out
        have hnc53 := NB193_218.out
        have hnb54 := NB218_194.out
        have hnc54 := NB194_218.out
        have hnb55 := NB218_209.out
        have hnc55 := NB209_218.out
        have hnb56 := NB218_0.out
        have hnc56 := NB0_218.out
        obtain ⟨_,_,_,_,_,_⟩ := cf3 BK218
        obtain ⟨Ao58, co58, eo58⟩ := Kd.R_slice HO_219001.out
        subst eo58
        have hnb59 := NB209_193.out
        have hnc59 := NB193_209.out
        have hnb60 := NB209_194.out
        have hnc60 := NB194_209.out
        have hnb61 := NB209_0.out
        have hnc61 := NB0_209.out
        obtain ⟨_,_,_,_,_,_⟩ := cf3 BK209
        obtain ⟨Ao63, co63, eo63⟩ := Kd.R_slice HO_210001.out
        subst eo63
        go_wp2
        go_meet
        case rel => exact ⟨_, (decide (x9_2 < (x210001_2.length : Int))), (by first | rfl | (simp; done) | (simp [*]; done)), H', ⟨by have := HK1.out; have := HK2.out; first | omega | exact Nat.le_refl _⟩, ⟨HO_5.out⟩, ⟨HO_210001.out⟩, ⟨HO_210002.out⟩, ⟨HO_219001.out⟩, ⟨HO_219002.out⟩, kk BK193, kk BK194, kk BK209, kk BK218, ⟨iS⟩, ⟨kU⟩, ⟨bS⟩⟩
       ·rw [if_neg c52] at H
        have c52b0 : decide (x9_2 < (x219001_2.length : Int)) = false := decide_eq_false c52
        clear c52
        (first | rw [c52b0] | (simp only [i64_w, i32_w]; rw [c52b0]) | skip)
        have H' := Aside0.mk H
        clear H
        have hnb64 := NB218_193.out
        have hnc64 := NB193_218.out
        have hnb65 := NB218_194.out
        have hnc65 := NB194_218.out
        have hnb66 := NB218_209.out
        have hnc66 := NB209_218.out
        have hnb67 := NB218_0.out
        have hnc67 := NB0_218.out
        obtain ⟨_,_,_,_,_,_⟩ := cf3 BK218
        obtain ⟨Ao69, co69, eo69⟩ := Kd.R_slice HO_219001.out
        subst eo69
        go_wp2
        go_meet
        case rel => exact ⟨_, (false), (by first | rfl | (simp; done) | (simp [*]; done)), H', ⟨by have := HK1.out; have := HK2.out; first | omega | exact Nat.le_refl _⟩, ⟨HO_5.out⟩, ⟨HO_210001.out⟩, ⟨HO_210002.out⟩, ⟨HO_219001.out⟩, ⟨HO_219002.out⟩, kk BK193, kk BK194, kk BK209, kk BK218, ⟨iS⟩, ⟨kU⟩, ⟨bS⟩⟩
      case rest =>
       clear HC51
       obtain ⟨kq, x46_50, rfl, HA, HJ50, HO_5, HO_210001, HO_210002, HO_219001, HO_219002, BK193, BK194, BK209, BK218, HI0, HK, HB⟩ := hcut
       cases kq with
       | zero => exact absurd HA.out (by simp [spec_l72Two.j2])
       | succ kj50 =>
        have H := HA.out
        clear HA
        simp only [spec_l72Two.j2] at H
        by_cases c70 : x46_50 = true
        ·subst c70
         replace H := it H
         replace H := Option.bind_eq_some_iff.mp H
         obtain ⟨⟨t222, t223⟩, A710, H⟩ := H
         replace H : (if t222 = 0 then (if 0 ≤ x9_2 then (if x9_2 < (x210001_2.length : Int) then (if x9_2 < (x219001_2.length : Int) then (spec_l72Two.l1 kj50 t195 (wrap64 (x9_2 + 1)) s0_0 t223 t201 x210001_2 x210002_2 t210 (x219001_2.set (x9_2 : Int).toNat (rd x210001_2 x9_2)) x219002_2) else (none)) else (none)) else (none)) else (spec_l72Two.l1 kj50 t195 (wrap64 (x9_2 + 1)) s0_0 t223 t201 x210001_2 x210002_2 t210 x219001_2 x219002_2)) = some (r1, r2, r3, r4, r5, r6, r7, r8) := H
         have A71 := Aside0.mk A710
         clear A710
         by_cases c72 : t222 = 0
         ·rw [if_pos c72] at H
          have c72b0 := beq_iff_eq.mpr c72
          have c72b1 := bne_eq_false_iff_eq.mpr c72
          clear c72
          by_cases c73 : 0 ≤ x9_2
          ·rw [if_pos c73] at H
           have c73b0 : decide (0 ≤ x9_2) = true := decide_eq_true c73
           clear c73
           by_cases c74 : x9_2 < (x210001_2.length : Int)
           ·rw [if_pos c74] at H
            have c74b0 : decide (x9_2 < (x210001_2.length : Int)) = true := decide_eq_true c74
            clear c74
            by_cases c75 : x9_2 < (x219001_2.length : Int)
            ·rw [if_pos c75] at H
             have c75b0 : decide (x9_2 < (x219001_2.length : Int)) = true := decide_eq_true c75
             clear c75
             obtain ⟨y225, hy225⟩ : ∃ y_ : List Int, y_ = (x219001_2.set (x9_2 : Int).toNat (rd x210001_2 x9_2)) := ⟨_, rfl⟩
             replace H : (spec_l72Two.l1 kj50 t195 (wrap64 (x9_2 + 1)) s0_0 t223 t201 x210001_2 x210002_2 t210 y225 x219002_2) = some (r1, r2, r3, r4, r5, r6, r7, r8) := by first | (rw [hy225]; with_reducible exact H) | (have H2_ := (Option.bind_some _ _).symm.trans H; rw [hy225]; with_reducible exact H2_) | (have H2_ := (Option.bind_some _ _).symm.trans H; with_reducible exact H2_) | with_reducible exact H | (rw [hy225]; exact H) | exact H
             have Ny225 := Aside0.mk hy225
             clear hy225
             have H' := Aside0.mk H
             clear H
             try go_wp2_with (first | ((with_reducible refine gc 10 rfl ?_); refine gl (some 50) Try.func10 #[.pointer (some ⟨g, 0, none⟩), .int .i64 3] rfl ?_; (with_reducible refine (spec_l6Rd_pick.calls kj50 g s0_0 x1001_2 3 t222 t223 w0 _ ?side1 ?side2 A71.out).mono ?_); (case side1 => exact iS); (case side2 => exact bS); rintro e w77 ⟨rfl, hi, hb, hk⟩; refine ⟨_, rfl, ?_⟩; replace HO_5 := Aside0.mk (Kd.N_mono (Kd.N_keep (Kd.N_mono (ok := fun k_ => (((w.heap.size ≤ k_)) ∧ (some k_ ≠ (u210001 : Value).ownBlock ∧ (some k_ ≠ (u210002 : Value).ownBlock ∧ (some k_ ≠ (u219001 : Value).ownBlock ∧ (some k_ ≠ (u219002 : Value).ownBlock ∧ (k_ ≠ gb193 ∧ (k_ ≠ gb194 ∧ (k_ ≠ gb209 ∧ (k_ ≠ gb218 ∧ k_ ≠ g)))))))))) HO_5.out (fun k_ hk_ => (⟨hk_, hk_.2.2.2.2.2.2.2.2.2⟩ : _ ∧ k_ ≠ g))) hk (fun _ h => h.2)) (fun _ h => h.1)); replace HO_210001 := Aside0.mk (Kd.R_mono (Kd.R_keep (IsS40.apart (show IsS40 w0 _ g s0_0 x1001_2 from iS) HO_210001.out (by decide)) hk (fun _ h => h.2)) (fun _ h => h.1)); replace HO_210002 := Aside0.mk (Kd.Q_mono (Kd.Q_keep (IsS40.apartQ (show IsS40 w0 _ g s0_0 x1001_2 from iS) HO_210002.out (by decide)) hk (fun _ h => h.2)) (fun _ h => h.1)); replace HO_219001 := Aside0.mk (Kd.R_mono (Kd.R_keep (IsS40.apart (show IsS40 w0 _ g s0_0 x1001_2 from iS) HO_219001.out (by decide)) hk (fun _ h => h.2)) (fun _ h => h.1)); replace HO_219002 := Aside0.mk (Kd.Q_mono (Kd.Q_keep (IsS40.apartQ (show IsS40 w0 _ g s0_0 x1001_2 from iS) HO_219002.out (by decide)) hk (fun _ h => h.2)) (fun _ h => h.1)); replace BK193 := Aside0.mk (KeepBut.blk hk (g' := gb193) (o := .cells #[.bool false, .slice none 0 0, .slice none 0 0] 26 (0, 0)) BK193.out NB193_0.out (by simp)); replace BK194 := Aside0.mk (KeepBut.blk hk (g' := gb194) (o := .cells #[.bool false, .slice none 0 0, .slice none 0 0] 26 (0, 0)) BK194.out NB194_0.out (by simp)); replace BK209 := Aside0.mk (KeepBut.blk hk (g' := gb209) (o := .cells #[.bool t201, u210001, u210002] 26 (0, 0)) BK209.out NB209_0.out (by simp)); replace BK218 := Aside0.mk (KeepBut.blk hk (g' := gb218) (o := .cells #[.bool t210, u219001, u219002] 26 (0, 0)) BK218.out NB218_0.out (by simp)); replace HK := kT HK hk; replace HI0 := Aside0.mk (hi); replace HB := Aside0.mk (hb)))
             replace HO_5 := Aside0.mk (Kd.N_drew HO_5.out)
             replace HO_210001 := Aside0.mk (Kd.R_drew HO_210001.out)
             replace HO_210002 := Aside0.mk (Kd.Q_drew HO_210002.out)
             replace HO_219001 := Aside0.mk (Kd.R_drew HO_219001.out)
             replace HO_219002 := Aside0.mk (Kd.Q_drew HO_219002.out)
             replace BK193 := Aside0.mk (blk_drew BK193.out)
             replace BK194 := Aside0.mk (blk_drew BK194.out)
             replace BK209 := Aside0.mk (blk_drew BK209.out)
             replace BK218 := Aside0.mk (blk_drew BK218.out)
             replace HI0 := Aside0.mk (IsS40.drew HI0.out)
             replace HK := Aside0.mk (keep_drew HK.out)
             replace HB := Aside0.mk (below_drew1 HB.out)
             obtain ⟨Ao79, co79, eo79⟩ := Kd.R_slice HO_210001.out
             (first | subst eo79 | (injection eo79 with f1_ f2_ f3_; have f4_ := f1_.symm; have f5_ := f3_.symm; clear f1_ f2_ f3_; subst f4_; subst f5_))
             have p224 : 0 ≤ (x9_2 : Int) := od
             have q224 : x9_2 < (x210001_2.length : Int) := od
             obtain ⟨ad224, e224, hx224_0⟩ := Kd.at_int (Kd.R_reads' HO_210001.out).2.2 x9_2 p224 q224
             cases e224
             replace p224 := eq_true p224
             replace q224 := eq_true q224
             have p76 : 0 ≤ (x9_2 : Int) := od
             have q76 : (x9_2 : Int) < ((x219001_2.length : Int) : Int) := od
             obtain ⟨go76, co76, eo76, gb76, gl76, cl76, HG76⟩ := Kd.R_form HO_219001.out (by omega)
             (first | cases eo76 | (injection eo76 with ea_ en_ ec_; (first | subst ea_ | (injection ea_ with ea_; subst ea_)); subst ec_; clear en_))
             have GB76 := Aside0.mk gb76
             have GG76 := Aside0.mk HG76
             clear gb76 gl76 HG76
             obtain ⟨hx76_0, hf76_0⟩ := Kd.R_celln 0 HO_219001.out (x9_2 : Int) p76 q76
             replace p76 := eq_true p76
             replace q76 := eq_true q76
             have HN0_go76 := Aside0.mk (show g ≠ go76 from by have h_ := IsS40.own_ne HI0.out HO_219001.out (by decide); intro e_; exact h_ (by rw [e_]; rfl))
             have HP80 := Kd.R_putn HO_219001.out (x9_2 : Int) (rd x210001_2 x9_2)
             rw [← Ny225.out] at HP80
             have HQ80 := Aside0.mk HP80
             clear HP80
             refine start_ (n := 10) (S := fun w' => w'.cell? ⟨gb218, 0, none⟩ = some (.bool t210) ∧ w'.cell? ⟨gb218, 1, none⟩ = some (.slice (some ⟨go76, 0, none⟩) x219001_2.length co76) ∧ w'.cell? ⟨gb218, 2, none⟩ = some (u219002) ∧ w'.cell? ⟨gb209, 0, none⟩ = some (.bool t201) ∧ w'.cell? ⟨gb209, 1, none⟩ = some (.slice (some ad224) x210001_2.length co79) ∧ w'.cell? ⟨gb209, 2, none⟩ = some (u210002) ∧ w'.cell? (ad224.add (x9_2).toNat) = some (.int .i64 (rd x210001_2 x9_2))) (ds := [9]) #[false, false, false, false, false, false, false, false, false, false] (by kernel_rfl) rfl rfl ⟨(blk_cell BK218.out 0).trans rfl, (blk_cell BK218.out 1).trans rfl, (blk_cell BK218.out 2).trans rfl, (blk_cell BK209.out 0).trans rfl, (blk_cell BK209.out 1).trans rfl, (blk_cell BK209.out 2).trans rfl, hx224_0⟩ (fun hHeld => ?_); refine with_tabW spec_l72Two.tab11 spec_l72Two.bits11 (fun HT_ HW_ => ?_)
             generalize w77.drew = w78 at HO_5 HO_210001 HO_210002 HO_219001 HO_219002 BK193 BK194 BK209 BK218 HI0 HK HB GG76 HQ80 hf76_0 hx224_0 hx76_0 hHeld ⊢
             refine pu 0 52 #[true, false, false, false, false, false, false, false, false, false] HT_ rfl rfl ?_
             refine pu 2 54 #[true, false, true, false, false, false, false, false, false, false] HT_ rfl rfl ?_
             refine pu 3 55 #[true, false, true, true, false, false, false, false, false, false] HT_ rfl rfl ?_
             refine pu 5 57 #[true, false, true, true, false, true, false, false, false, false] HT_ rfl rfl ?_
             refine ta 1 53 #[true, true, true, true, false, true, false, false, false, false] HT_ HW_ hHeld rfl rfl ?_
             refine ta 4 56 #[true, true, true, true, true, true, false, false, false, false] HT_ HW_ hHeld rfl rfl ?_
             refine pu 6 58 #[true, true, true, true, true, true, true, false, false, false] HT_ rfl rfl ?_
             refine ta 7 59 #[true, true, true, true, true, true, true, true, false, false] HT_ HW_ hHeld rfl rfl ?_
             refine pu 8 60 #[true, true, true, true, true, true, true, true, true, false] HT_ rfl rfl ?_
             refine last_ (i := 9) (N := none) #[true, true, true, true, true, true, true, true, true, true] rfl rfl (one_of HT_.out (by kernel_rfl)) (by decide) (fun K hK => ?_)
             refine skip_ (w1 := ?_) (by rfl) rfl ?_ ?_
             rotate_left
             ·go_simp
              rfl
             refine hK.out _ _ ?_
             clear hK K
             refine done_ (done_of HT_.out (by kernel_rfl)) ?_
             try go_wp2
             go_roundg kj50
             case measure => have := HK1.out; have := HK2.out; have := HJ50.out; omega
             case rel => exact ⟨(wrap64 (x9_2 + 1)), (t223), (x210001_2), (x210002_2), (y225), (x219002_2), (.slice (some ad224) x210001_2.length co79), (u210002), (.slice (some ⟨go76, 0, none⟩) x219001_2.length co76), (u219002), (by first | rfl | (simp; done) | (simp [*]; done)), H', ⟨by have := HK1.out; have := HK2.out; have := HJ50.out; omega⟩, ⟨by exact Kd.N_mono (Kd.N_far (p := ⟨go76, (x9_2 : Int).toNat, none⟩) (Kd.N_mono HO_5.out (fun k_ hk => (⟨hk, fun e_ => hk.2.2.2.1 (by rw [e_]; rfl)⟩ : _ ∧ k_ ≠ go76))) (fun _ hk => hk.2) (.int .i64 (rd x210001_2 x9_2))) (fun _ hk => ⟨hk.1.1, ⟨hk.1.2.1, ⟨hk.1.2.2.1, ⟨hk.1.2.2.2.1, ⟨hk.1.2.2.2.2.1, ⟨hk.1.2.2.2.2.2.1, ⟨hk.1.2.2.2.2.2.2.1, ⟨hk.1.2.2.2.2.2.2.2.1, ⟨hk.1.2.2.2.2.2.2.2.2.1, hk.1.2.2.2.2.2.2.2.2.2⟩⟩⟩⟩⟩⟩⟩⟩⟩)⟩, ⟨by exact Kd.R_mono (Kd.R_far (p := ⟨go76, (x9_2 : Int).toNat, none⟩) (Kd.R_mono HO_210001.out (fun k_ hk => (⟨hk, fun e_ => hk.2.2.1 (by rw [e_]; rfl)⟩ : _ ∧ k_ ≠ go76))) (fun _ hk => hk.2) (.int .i64 (rd x210001_2 x9_2))) (fun _ hk => ⟨hk.1.1, ⟨hk.1.2.1, ⟨hk.1.2.2.1, hk.1.2.2.2⟩⟩⟩)⟩, ⟨by exact Kd.Q_mono (Kd.Q_far (p := ⟨go76, (x9_2 : Int).toNat, none⟩) (Kd.Q_mono HO_210002.out (fun k_ hk => (⟨hk, fun e_ => hk.2.2.1 (by rw [e_]; rfl)⟩ : _ ∧ k_ ≠ go76))) (fun _ hk => hk.2) (.int .i64 (rd x210001_2 x9_2))) (fun _ hk => ⟨hk.1.1, ⟨hk.1.2.1, ⟨hk.1.2.2.1, hk.1.2.2.2⟩⟩⟩)⟩, ⟨HQ80.out⟩, ⟨by exact Kd.Q_mono (Kd.Q_far (p := ⟨go76, (x9_2 : Int).toNat, none⟩) (Kd.Q_mono HO_219002.out (fun k_ hk => (⟨hk, fun e_ => hk.2.2.2 (by rw [e_]; rfl)⟩ : _ ∧ k_ ≠ go76))) (fun _ hk => hk.2) (.int .i64 (rd x210001_2 x9_2))) (fun _ hk => ⟨hk.1.1, ⟨hk.1.2.1, ⟨hk.1.2.2.1, hk.1.2.2.2⟩⟩⟩)⟩, ⟨by (with_reducible repeat (first | refine blk_drewN ?_ _ | refine blk_drew ?_ | refine blk_alloc ?_ _)); refine blk_far ?_ (by have h_ := Kd.R_ne HO_219001.out BK193.out (by decide); intro e_; exact h_ (by rw [e_]; rfl)) _; (with_reducible repeat (first | refine blk_drewN ?_ _ | refine blk_drew ?_ | refine blk_alloc ?_ _)); exact BK193.out⟩, ⟨by (with_reducible repeat (first | refine blk_drewN ?_ _ | refine blk_drew ?_ | refine blk_alloc ?_ _)); refine blk_far ?_ (by have h_ := Kd.R_ne HO_219001.out BK194.out (by decide); intro e_; exact h_ (by rw [e_]; rfl)) _; (with_reducible repeat (first | refine blk_drewN ?_ _ | refine blk_drew ?_ | refine blk_alloc ?_ _)); exact BK194.out⟩, ⟨by (with_reducible repeat (first | refine blk_drewN ?_ _ | refine blk_drew ?_ | refine blk_alloc ?_ _)); refine blk_far ?_ (by have h_ := Kd.R_ne HO_219001.out BK209.out (by decide); intro e_; exact h_ (by rw [e_]; rfl)) _; (with_reducible repeat (first | refine blk_drewN ?_ _ | refine blk_drew ?_ | refine blk_alloc ?_ _)); exact BK209.out⟩, ⟨by (with_reducible repeat (first | refine blk_drewN ?_ _ | refine blk_drew ?_ | refine blk_alloc ?_ _)); refine blk_far ?_ (by have h_ := Kd.R_ne HO_219001.out BK218.out (by decide); intro e_; exact h_ (by rw [e_]; rfl)) _; (with_reducible repeat (first | refine blk_drewN ?_ _ | refine blk_drew ?_ | refine blk_alloc ?_ _)); exact BK218.out⟩, ⟨iS⟩, ⟨kU⟩, ⟨by repeat (first | (with_reducible first | exact HB.out | apply below_alloc | apply pw_below_drewN | apply below_drew1 | refine below_set ?_ (Nat.le_trans HL.out GB76.out) | refine below_set ?_ (IsS40.ge HI0.out) | refine below_set ?_ GE193.out | refine below_set ?_ GE194.out | refine below_set ?_ GE209.out | refine below_set ?_ GE218.out) | exact HB.out)⟩⟩
            ·rw [if_neg c75] at H
             exact absurd H (by simp)
           ·rw [if_neg c74] at H
            exact absurd H (by simp)
          ·rw [if_neg c73] at H
           exact absurd H (by simp)
         ·rw [if_neg c72] at H
          have c72b0 := beq_eq_false_iff_ne.mpr c72
          have c72b1 := bne_iff_ne.mpr c72
          have H' := Aside0.mk H
          clear H
          go_wp2_with (first | ((with_reducible refine gc 10 rfl ?_); refine gl (some 50) Try.func10 #[.pointer (some ⟨g, 0, none⟩), .int .i64 3] rfl ?_; (with_reducible refine (spec_l6Rd_pick.calls kj50 g s0_0 x1001_2 3 t222 t223 w0 _ ?side1 ?side2 A71.out).mono ?_); (case side1 => exact iS); (case side2 => exact bS); rintro e w81 ⟨rfl, hi, hb, hk⟩; refine ⟨_, rfl, ?_⟩; replace HO_5 := Aside0.mk (Kd.N_mono (Kd.N_keep (Kd.N_mono (ok := fun k_ => (((w.heap.size ≤ k_)) ∧ (some k_ ≠ (u210001 : Value).ownBlock ∧ (some k_ ≠ (u210002 : Value).ownBlock ∧ (some k_ ≠ (u219001 : Value).ownBlock ∧ (some k_ ≠ (u219002 : Value).ownBlock ∧ (k_ ≠ gb193 ∧ (k_ ≠ gb194 ∧ (k_ ≠ gb209 ∧ (k_ ≠ gb218 ∧ k_ ≠ g)))))))))) HO_5.out (fun k_ hk_ => (⟨hk_, hk_.2.2.2.2.2.2.2.2.2⟩ : _ ∧ k_ ≠ g))) hk (fun _ h => h.2)) (fun _ h => h.1)); replace HO_210001 := Aside0.mk (Kd.R_mono (Kd.R_keep (IsS40.apart (show IsS40 w0 _ g s0_0 x1001_2 from iS) HO_210001.out (by decide)) hk (fun _ h => h.2)) (fun _ h => h.1)); replace HO_210002 := Aside0.mk (Kd.Q_mono (Kd.Q_keep (IsS40.apartQ (show IsS40 w0 _ g s0_0 x1001_2 from iS) HO_210002.out (by decide)) hk (fun _ h => h.2)) (fun _ h => h.1)); replace HO_219001 := Aside0.mk (Kd.R_mono (Kd.R_keep (IsS40.apart (show IsS40 w0 _ g s0_0 x1001_2 from iS) HO_219001.out (by decide)) hk (fun _ h => h.2)) (fun _ h => h.1)); replace HO_219002 := Aside0.mk (Kd.Q_mono (Kd.Q_keep (IsS40.apartQ (show IsS40 w0 _ g s0_0 x1001_2 from iS) HO_219002.out (by decide)) hk (fun _ h => h.2)) (fun _ h => h.1)); replace BK193 := Aside0.mk (KeepBut.blk hk (g' := gb193) (o := .cells #[.bool false, .slice none 0 0, .slice none 0 0] 26 (0, 0)) BK193.out NB193_0.out (by simp)); replace BK194 := Aside0.mk (KeepBut.blk hk (g' := gb194) (o := .cells #[.bool false, .slice none 0 0, .slice none 0 0] 26 (0, 0)) BK194.out NB194_0.out (by simp)); replace BK209 := Aside0.mk (KeepBut.blk hk (g' := gb209) (o := .cells #[.bool t201, u210001, u210002] 26 (0, 0)) BK209.out NB209_0.out (by simp)); replace BK218 := Aside0.mk (KeepBut.blk hk (g' := gb218) (o := .cells #[.bool t210, u219001, u219002] 26 (0, 0)) BK218.out NB218_0.out (by simp)); replace HK := kT HK hk; replace HI0 := Aside0.mk (hi); replace HB := Aside0.mk (hb)))
          go_roundg kj50
          case measure => have := HK1.out; have := HK2.out; have := HJ50.out; omega
          case rel => exact ⟨(wrap64 (x9_2 + 1)), (t223), (x210001_2), (x210002_2), (x219001_2), (x219002_2), (u210001), (u210002), (u219001), (u219002), (by first | rfl | (simp; done) | (simp [*]; done)), H', ⟨by have := HK1.out; have := HK2.out; have := HJ50.out; omega⟩, ⟨HO_5.out⟩, ⟨HO_210001.out⟩, ⟨HO_210002.out⟩, ⟨HO_219001.out⟩, ⟨HO_219002.out⟩, kk BK193, kk BK194, kk BK209, kk BK218, ⟨iS⟩, ⟨kU⟩, ⟨bS⟩⟩
        ·replace c70 := Bool.eq_false_iff.mpr c70
         subst c70
         replace H := ie H
         simp only [Option.some.injEq, Prod.mk.injEq] at H
         obtain ⟨rfl, rfl, rfl, rfl, rfl, rfl, rfl, rfl⟩ := H
         try go_wp2
         replace HO_5 := Aside0.mk (Kd.N_drew HO_5.out)
         replace HO_210001 := Aside0.mk (Kd.R_drew HO_210001.out)
         replace HO_210002 := Aside0.mk (Kd.Q_drew HO_210002.out)
         replace HO_219001 := Aside0.mk (Kd.R_drew HO_219001.out)
         replace HO_219002 := Aside0.mk (Kd.Q_drew HO_219002.out)
         replace BK193 := Aside0.mk (blk_drew BK193.out)
         replace BK194 := Aside0.mk (blk_drew BK194.out)
         replace BK209 := Aside0.mk (blk_drew BK209.out)
         replace BK218 := Aside0.mk (blk_drew BK218.out)
         replace HI0 := Aside0.mk (IsS40.drew HI0.out)
         replace HK := Aside0.mk (keep_drew HK.out)
         replace HB := Aside0.mk (below_drew1 HB.out)
         obtain ⟨Ao84, co84, eo84⟩ := Kd.R_slice HO_210001.out
         (first | subst eo84 | (injection eo84 with f1_ f2_ f3_; have f4_ := f1_.symm; have f5_ := f3_.symm; clear f1_ f2_ f3_; subst f4_; subst f5_))
         obtain ⟨Ao86, co86, eo86, _⟩ := Kd.Q_slice HO_210002.out
         (first | subst eo86 | (injection eo86 with f1_ f2_ f3_; have f4_ := f1_.symm; have f5_ := f3_.symm; clear f1_ f2_ f3_; subst f4_; subst f5_))
         obtain ⟨Ao89, co89, eo89⟩ := Kd.R_slice HO_219001.out
         (first | subst eo89 | (injection eo89 with f1_ f2_ f3_; have f4_ := f1_.symm; have f5_ := f3_.symm; clear f1_ f2_ f3_; subst f4_; subst f5_))
         obtain ⟨Ao91, co91, eo91, _⟩ := Kd.Q_slice HO_219002.out
         (first | subst eo91 | (injection eo91 with f1_ f2_ f3_; have f4_ := f1_.symm; have f5_ := f3_.symm; clear f1_ f2_ f3_; subst f4_; subst f5_))
         refine start_ (n := 6) (S := fun w' => w'.cell? ⟨gb209, 0, none⟩ = some (.bool t201) ∧ w'.cell? ⟨gb209, 1, none⟩ = some (.slice Ao84 x210001_2.length co84) ∧ w'.cell? ⟨gb209, 2, none⟩ = some (.slice Ao86 x210002_2.length co86) ∧ w'.cell? ⟨gb218, 0, none⟩ = some (.bool t210) ∧ w'.cell? ⟨gb218, 1, none⟩ = some (.slice Ao89 x219001_2.length co89) ∧ w'.cell? ⟨gb218, 2, none⟩ = some (.slice Ao91 x219002_2.length co91)) (ds := []) #[false, false, false, false, false, false] (by kernel_rfl) rfl rfl ⟨(blk_cell BK209.out 0).trans rfl, (blk_cell BK209.out 1).trans rfl, (blk_cell BK209.out 2).trans rfl, (blk_cell BK218.out 0).trans rfl, (blk_cell BK218.out 1).trans rfl, (blk_cell BK218.out 2).trans rfl⟩ (fun hHeld => ?_)
         generalize wc.drew = w82 at HO_5 HO_210001 HO_210002 HO_219001 HO_219002 BK193 BK194 BK209 BK218 HI0 HK HB hHeld ⊢
         refine pure_ (i := 0) (N := some 61) (v := ?_) (a' := ?_) #[true, false, false, false, false, false] rfl rfl (by kernel_rfl) (fun _ _ _ h => h) (Or.inl ⟨by rfl, ?_⟩) ?_ ?_
         rotate_left
         ·intro w'
          go_simp
          with_reducible rfl
         rotate_left
         ·simp only [Act.put, List.setIfInBounds_toArray, List.set_cons_zero, List.set_cons_succ, i64_w, i32_w]
          rfl
         refine pure_ (i := 3) (N := some 2) (v := ?_) (a' := ?_) #[true, false, false, true, false, false] rfl rfl (by kernel_rfl) (fun _ _ _ h => h) (Or.inl ⟨by rfl, ?_⟩) ?_ ?_
         rotate_left
         ·intro w'
          go_simp
          with_reducible rfl
         rotate_left
         ·simp only [Act.put, List.setIfInBounds_toArray, List.set_cons_zero, List.set_cons_succ, i64_w, i32_w]
          rfl
         refine take_ (i := 1) (N := some 62) (v := ?_) (a' := ?_) #[true, true, false, true, false, false] rfl rfl (by kernel_rfl) (fun _ _ _ h => h) (Or.inl ⟨by rfl, ?_⟩) hHeld ?_ ?_
         rotate_left
         ·rintro w' ⟨s0, s1, s2, s3, s4, s5⟩
          go_simp
          with_reducible rfl
         rotate_left
         ·simp only [Act.put, List.setIfInBounds_toArray, List.set_cons_zero, List.set_cons_succ, i64_w, i32_w]
          rfl
         refine take_ (i := 2) (N := some 63) (v := ?_) (a' := ?_) #[true, true, true, true, false, false] rfl rfl (by kernel_rfl) (fun _ _ _ h => h) (Or.inl ⟨by rfl, ?_⟩) hHeld ?_ ?_
         rotate_left
         ·rintro w' ⟨s0, s1, s2, s3, s4, s5⟩
          go_simp
          with_reducible rfl
         rotate_left
         ·simp only [Act.put, List.setIfInBounds_toArray, List.set_cons_zero, List.set_cons_succ, i64_w, i32_w]
          rfl
         refine one_ (i := 4) (N := none) #[true, true, true, true, true, false] rfl rfl (by kernel_rfl) (by decide) (fun K hK => ?_)
         have hs83 : w82.cell? ⟨gb193, 0, none⟩ = some (.bool false) := (blk_cell BK193.out 0).trans rfl
         have hfs83 := blk_frozen BK193.out 0
         have hns83_1 := NB194_193.out
         have hns83_2 := NB209_193.out
         have hns83_3 := NB218_193.out
         have hms83_1 := NB193_194.out
         have hms83_2 := NB193_209.out
         have hms83_3 := NB193_218.out
         have hs85 : w82.cell? ⟨gb193, 1, none⟩ = some (.slice none 0 0) := (blk_cell BK193.out 1).trans rfl
         have hfs85 := blk_frozen BK193.out 1
         have hns85_1 := NB194_193.out
         have hns85_2 := NB209_193.out
         have hns85_3 := NB218_193.out
         have hms85_1 := NB193_194.out
         have hms85_2 := NB193_209.out
         have hms85_3 := NB193_218.out
         have hs87 : w82.cell? ⟨gb193, 2, none⟩ = some (.slice none 0 0) := (blk_cell BK193.out 2).trans rfl
         have hfs87 := blk_frozen BK193.out 2
         have hns87_1 := NB194_193.out
         have hns87_2 := NB209_193.out
         have hns87_3 := NB218_193.out
         have hms87_1 := NB193_194.out
         have hms87_2 := NB193_209.out
         have hms87_3 := NB193_218.out
         refine skip_ (w1 := ?_) (by rfl) rfl ?_ ?_
         rotate_left
         ·go_simp
          rfl
         refine hK.out _ _ ⟨((cell_far (p := ⟨gb193, _, none⟩) NB209_193.out _).trans (((cell_far (p := ⟨gb193, _, none⟩) NB209_193.out _).trans (((cell_far (p := ⟨gb193, _, none⟩) NB209_193.out _).trans (hHeld.1)))))), ((cell_far (p := ⟨gb193, _, none⟩) NB209_193.out _).trans (((cell_far (p := ⟨gb193, _, none⟩) NB209_193.out _).trans (((cell_far (p := ⟨gb193, _, none⟩) NB209_193.out _).trans (hHeld.2.1)))))), ((cell_far (p := ⟨gb193, _, none⟩) NB209_193.out _).trans (((cell_far (p := ⟨gb193, _, none⟩) NB209_193.out _).trans (((cell_far (p := ⟨gb193, _, none⟩) NB209_193.out _).trans (hHeld.2.2.1)))))), ((cell_far (p := ⟨gb193, _, none⟩) NB218_193.out _).trans (((cell_far (p := ⟨gb193, _, none⟩) NB218_193.out _).trans (((cell_far (p := ⟨gb193, _, none⟩) NB218_193.out _).trans (hHeld.2.2.2.1)))))), ((cell_far (p := ⟨gb193, _, none⟩) NB218_193.out _).trans (((cell_far (p := ⟨gb193, _, none⟩) NB218_193.out _).trans (((cell_far (p := ⟨gb193, _, none⟩) NB218_193.out _).trans (hHeld.2.2.2.2.1)))))), ((cell_far (p := ⟨gb193, _, none⟩) NB218_193.out _).trans (((cell_far (p := ⟨gb193, _, none⟩) NB218_193.out _).trans (((cell_far (p := ⟨gb193, _, none⟩) NB218_193.out _).trans (hHeld.2.2.2.2.2))))))⟩ (fun hHeld => ?_)
         clear hK K
         refine one_ (i := 5) (N := none) #[true, true, true, true, true, true] rfl rfl (by kernel_rfl) (by decide) (fun K hK => ?_)
         have hs88 : w82.cell? ⟨gb194, 0, none⟩ = some (.bool false) := (blk_cell BK194.out 0).trans rfl
         have hfs88 := blk_frozen BK194.out 0
         have hns88_0 := NB193_194.out
         have hns88_2 := NB209_194.out
         have hns88_3 := NB218_194.out
         have hms88_0 := NB194_193.out
         have hms88_2 := NB194_209.out
         have hms88_3 := NB194_218.out
         have hs90 : w82.cell? ⟨gb194, 1, none⟩ = some (.slice none 0 0) := (blk_cell BK194.out 1).trans rfl
         have hfs90 := blk_frozen BK194.out 1
         have hns90_0 := NB193_194.out
         have hns90_2 := NB209_194.out
         have hns90_3 := NB218_194.out
         have hms90_0 := NB194_193.out
         have hms90_2 := NB194_209.out
         have hms90_3 := NB194_218.out
         have hs92 : w82.cell? ⟨gb194, 2, none⟩ = some (.slice none 0 0) := (blk_cell BK194.out 2).trans rfl
         have hfs92 := blk_frozen BK194.out 2
         have hns92_0 := NB193_194.out
         have hns92_2 := NB209_194.out
         have hns92_3 := NB218_194.out
         have hms92_0 := NB194_193.out
         have hms92_2 := NB194_209.out
         have hms92_3 := NB194_218.out
         refine skip_ (w1 := ?_) (by rfl) rfl ?_ ?_
         rotate_left
         ·go_simp
          rfl
         refine hK.out _ _ ⟨((cell_far (p := ⟨gb194, _, none⟩) NB209_194.out _).trans (((cell_far (p := ⟨gb194, _, none⟩) NB209_194.out _).trans (((cell_far (p := ⟨gb194, _, none⟩) NB209_194.out _).trans (hHeld.1)))))), ((cell_far (p := ⟨gb194, _, none⟩) NB209_194.out _).trans (((cell_far (p := ⟨gb194, _, none⟩) NB209_194.out _).trans (((cell_far (p := ⟨gb194, _, none⟩) NB209_194.out _).trans (hHeld.2.1)))))), ((cell_far (p := ⟨gb194, _, none⟩) NB209_194.out _).trans (((cell_far (p := ⟨gb194, _, none⟩) NB209_194.out _).trans (((cell_far (p := ⟨gb194, _, none⟩) NB209_194.out _).trans (hHeld.2.2.1)))))), ((cell_far (p := ⟨gb194, _, none⟩) NB218_194.out _).trans (((cell_far (p := ⟨gb194, _, none⟩) NB218_194.out _).trans (((cell_far (p := ⟨gb194, _, none⟩) NB218_194.out _).trans (hHeld.2.2.2.1)))))), ((cell_far (p := ⟨gb194, _, none⟩) NB218_194.out _).trans (((cell_far (p := ⟨gb194, _, none⟩) NB218_194.out _).trans (((cell_far (p := ⟨gb194, _, none⟩) NB218_194.out _).trans (hHeld.2.2.2.2.1)))))), ((cell_far (p := ⟨gb194, _, none⟩) NB218_194.out _).trans (((cell_far (p := ⟨gb194, _, none⟩) NB218_194.out _).trans (((cell_far (p := ⟨gb194, _, none⟩) NB218_194.out _).trans (hHeld.2.2.2.2.2))))))⟩ (fun hHeld => ?_)
         clear hK K
         refine done_ (by kernel_rfl) ?_
         try go_wp2
         refine bodyPost_ret (results_list (rs := [.tmp 2, .cell 3 26, .cell 4 26]) rfl (by simp) (.tmp (.cell gb193 26 #[.bool t201, .slice Ao84 x210001_2.length co84, .slice Ao86 x210002_2.length co86] (0, 0) _ rfl (by (with_reducible repeat (first | refine blk_drewN ?_ _ | refine blk_drew ?_ | refine blk_alloc ?_ _)); refine blk_far ?_ NB193_194.out _; (with_reducible repeat (first | refine blk_drewN ?_ _ | refine blk_drew ?_ | refine blk_alloc ?_ _)); refine blk_far ?_ NB193_194.out _; (with_reducible repeat (first | refine blk_drewN ?_ _ | refine blk_drew ?_ | refine blk_alloc ?_ _)); refine blk_far ?_ NB193_194.out _; (with_reducible repeat (first | refine blk_drewN ?_ _ | refine blk_drew ?_ | refine blk_alloc ?_ _)); refine blk_put (cs := #[.bool t201, .slice Ao84 x210001_2.length co84, .slice none 0 0]) ?_ 2 _ rfl; (with_reducible repeat (first | refine blk_drewN ?_ _ | refine blk_drew ?_ | refine blk_alloc ?_ _)); refine blk_put (cs := #[.bool t201, .slice none 0 0, .slice none 0 0]) ?_ 1 _ rfl; (with_reducible repeat (first | refine blk_drewN ?_ _ | refine blk_drew ?_ | refine blk_alloc ?_ _)); refine blk_put (cs := #[.bool false, .slice none 0 0, .slice none 0 0]) ?_ 0 _ rfl; (with_reducible repeat (first | refine blk_drewN ?_ _ | refine blk_drew ?_ | refine blk_alloc ?_ _)); exact BK193.out) Try.underlying26 rfl (by kernel_rfl) (.cell gb194 26 #[.bool t210, .slice Ao89 x219001_2.length co89, .slice Ao91 x219002_2.length co91] (0, 0) _ rfl (by (with_reducible repeat (first | refine blk_drewN ?_ _ | refine blk_drew ?_ | refine blk_alloc ?_ _)); refine blk_put (cs := #[.bool t210, .slice Ao89 x219001_2.length co89, .slice none 0 0]) ?_ 2 _ rfl; (with_reducible repeat (first | refine blk_drewN ?_ _ | refine blk_drew ?_ | refine blk_alloc ?_ _)); refine blk_put (cs := #[.bool t210, .slice none 0 0, .slice none 0 0]) ?_ 1 _ rfl; (with_reducible repeat (first | refine blk_drewN ?_ _ | refine blk_drew ?_ | refine blk_alloc ?_ _)); refine blk_put (cs := #[.bool false, .slice none 0 0, .slice none 0 0]) ?_ 0 _ rfl; (with_reducible repeat (first | refine blk_drewN ?_ _ | refine blk_drew ?_ | refine blk_alloc ?_ _)); refine blk_far ?_ NB194_193.out _; (with_reducible repeat (first | refine blk_drewN ?_ _ | refine blk_drew ?_ | refine blk_alloc ?_ _)); refine blk_far ?_ NB194_193.out _; (with_reducible repeat (first | refine blk_drewN ?_ _ | refine blk_drew ?_ | refine blk_alloc ?_ _)); refine blk_far ?_ NB194_193.out _; (with_reducible repeat (first | refine blk_drewN ?_ _ | refine blk_drew ?_ | refine blk_alloc ?_ _)); exact BK194.out) Try.underlying26 rfl (by kernel_rfl) .nil)))) rfl ?_
         exact ⟨_, _, _, _, _, by first | rfl | (simp [errW_none, errW_some] <;> rfl) | (simp [*, errW_none, errW_some] <;> rfl), by exact Kd.N_mono (Kd.N_far (p := ⟨gb194, 2, none⟩) (Kd.N_far (p := ⟨gb194, 1, none⟩) (Kd.N_far (p := ⟨gb194, 0, none⟩) (Kd.N_far (p := ⟨gb193, 2, none⟩) (Kd.N_far (p := ⟨gb193, 1, none⟩) (Kd.N_far (p := ⟨gb193, 0, none⟩) (Kd.N_mono (Kd.N_mono HO_5.out (fun k_ hk => (⟨hk, hk.2.2.2.2.2.1⟩ : _ ∧ k_ ≠ gb193))) (fun k_ hk => (⟨hk, hk.1.2.2.2.2.2.2.1⟩ : _ ∧ k_ ≠ gb194))) (fun _ hk => hk.1.2) (.bool t201)) (fun _ hk => hk.1.2) (.slice Ao84 x210001_2.length co84)) (fun _ hk => hk.1.2) (.slice Ao86 x210002_2.length co86)) (fun _ hk => hk.2) (.bool t210)) (fun _ hk => hk.2) (.slice Ao89 x219001_2.length co89)) (fun _ hk => hk.2) (.slice Ao91 x219002_2.length co91)) (fun _ hk => ⟨hk.1.1.1, ⟨hk.1.1.2.1, ⟨hk.1.1.2.2.1, ⟨hk.1.1.2.2.2.1, hk.1.1.2.2.2.2.1⟩⟩⟩⟩), by exact Kd.R_mono (Kd.R_far (p := ⟨gb194, 2, none⟩) (Kd.R_far (p := ⟨gb194, 1, none⟩) (Kd.R_far (p := ⟨gb194, 0, none⟩) (Kd.R_far (p := ⟨gb193, 2, none⟩) (Kd.R_far (p := ⟨gb193, 1, none⟩) (Kd.R_far (p := ⟨gb193, 0, none⟩) (Kd.R_types (Kd.R_types HO_210001.out BK193.out (by decide)) BK194.out (by decide)) (fun _ hk => hk.1.2) (.bool t201)) (fun _ hk => hk.1.2) (.slice Ao84 x210001_2.length co84)) (fun _ hk => hk.1.2) (.slice Ao86 x210002_2.length co86)) (fun _ hk => hk.2) (.bool t210)) (fun _ hk => hk.2) (.slice Ao89 x219001_2.length co89)) (fun _ hk => hk.2) (.slice Ao91 x219002_2.length co91)) (fun _ hk => ⟨hk.1.1.1, ⟨hk.1.1.2.1, ⟨hk.1.1.2.2.1, hk.1.1.2.2.2⟩⟩⟩), by exact Kd.Q_mono (Kd.Q_far (p := ⟨gb194, 2, none⟩) (Kd.Q_far (p := ⟨gb194, 1, none⟩) (Kd.Q_far (p := ⟨gb194, 0, none⟩) (Kd.Q_far (p := ⟨gb193, 2, none⟩) (Kd.Q_far (p := ⟨gb193, 1, none⟩) (Kd.Q_far (p := ⟨gb193, 0, none⟩) (Kd.Q_types (Kd.Q_types HO_210002.out BK193.out (by decide)) BK194.out (by decide)) (fun _ hk => hk.1.2) (.bool t201)) (fun _ hk => hk.1.2) (.slice Ao84 x210001_2.length co84)) (fun _ hk => hk.1.2) (.slice Ao86 x210002_2.length co86)) (fun _ hk => hk.2) (.bool t210)) (fun _ hk => hk.2) (.slice Ao89 x219001_2.length co89)) (fun _ hk => hk.2) (.slice Ao91 x219002_2.length co91)) (fun _ hk => ⟨hk.1.1.1, ⟨hk.1.1.2.1, ⟨hk.1.1.2.2.1, hk.1.1.2.2.2⟩⟩⟩), by exact Kd.R_mono (Kd.R_far (p := ⟨gb194, 2, none⟩) (Kd.R_far (p := ⟨gb194, 1, none⟩) (Kd.R_far (p := ⟨gb194, 0, none⟩) (Kd.R_far (p := ⟨gb193, 2, none⟩) (Kd.R_far (p := ⟨gb193, 1, none⟩) (Kd.R_far (p := ⟨gb193, 0, none⟩) (Kd.R_types (Kd.R_types HO_219001.out BK193.out (by decide)) BK194.out (by decide)) (fun _ hk => hk.1.2) (.bool t201)) (fun _ hk => hk.1.2) (.slice Ao84 x210001_2.length co84)) (fun _ hk => hk.1.2) (.slice Ao86 x210002_2.length co86)) (fun _ hk => hk.2) (.bool t210)) (fun _ hk => hk.2) (.slice Ao89 x219001_2.length co89)) (fun _ hk => hk.2) (.slice Ao91 x219002_2.length co91)) (fun _ hk => ⟨hk.1.1.1, ⟨hk.1.1.2.1, ⟨hk.1.1.2.2.1, hk.1.1.2.2.2⟩⟩⟩), by exact Kd.Q_mono (Kd.Q_far (p := ⟨gb194, 2, none⟩) (Kd.Q_far (p := ⟨gb194, 1, none⟩) (Kd.Q_far (p := ⟨gb194, 0, none⟩) (Kd.Q_far (p := ⟨gb193, 2, none⟩) (Kd.Q_far (p := ⟨gb193, 1, none⟩) (Kd.Q_far (p := ⟨gb193, 0, none⟩) (Kd.Q_types (Kd.Q_types HO_219002.out BK193.out (by decide)) BK194.out (by decide)) (fun _ hk => hk.1.2) (.bool t201)) (fun _ hk => hk.1.2) (.slice Ao84 x210001_2.length co84)) (fun _ hk => hk.1.2) (.slice Ao86 x210002_2.length co86)) (fun _ hk => hk.2) (.bool t210)) (fun _ hk => hk.2) (.slice Ao89 x219001_2.length co89)) (fun _ hk => hk.2) (.slice Ao91 x219002_2.length co91)) (fun _ hk => ⟨hk.1.1.1, ⟨hk.1.1.2.1, ⟨hk.1.1.2.2.1, hk.1.1.2.2.2⟩⟩⟩), iS, bS, kU⟩
end Go.Proofs.Ytchegijjjakmpaa.P

end
