/- A part of the claim FnShapeOrder: texts of this session and texts that its program printed out of the translation, joined. -/
import Derived.Test.YtchegijjjakmpaaCFnShapeOrder22
import Derived.Test.YtchegijjjakmpaaCFnShapeOrder23
import Derived.Test.YtchegijjjakmpaaCFnShapeOrder24
import Derived.Test.YtchegijjjakmpaaCFnShapeOrder28
import Derived.Test.YtchegijjjakmpaaCFnShapeOrder0
import Derived.Test.YtchegijjjakmpaaCFnShapeOrder1
import Derived.Test.YtchegijjjakmpaaCFnShapeOrder2
import Derived.Test.YtchegijjjakmpaaCFnShapeOrder3
import Derived.Test.YtchegijjjakmpaaCFnShapeOrder4
import Derived.Test.YtchegijjjakmpaaCFnShapeOrder5
import Derived.Test.YtchegijjjakmpaaCFnShapeOrder6
import Derived.Test.YtchegijjjakmpaaCFnShapeOrder7
import Derived.Test.YtchegijjjakmpaaCFnShapeOrder8
import Derived.Test.YtchegijjjakmpaaCFnShapeOrder9
import Derived.Test.YtchegijjjakmpaaCFnShapeOrder10
import Derived.Test.YtchegijjjakmpaaCFnShapeOrder11
import Derived.Test.YtchegijjjakmpaaCFnShapeOrder12
import Derived.Test.YtchegijjjakmpaaCFnShapeOrder13
import Derived.Test.YtchegijjjakmpaaCFnShapeOrder14
import Derived.Test.YtchegijjjakmpaaCFnShapeOrder15
import Derived.Test.YtchegijjjakmpaaCFnShapeOrder16
import Derived.Test.YtchegijjjakmpaaCFnShapeOrder17
import Derived.Test.YtchegijjjakmpaaCFnShapeOrder18
import Derived.Test.YtchegijjjakmpaaCFnShapeOrder19
import Derived.Test.YtchegijjjakmpaaCFnShapeOrder20
import Derived.Test.YtchegijjjakmpaaCFnShapeOrder21
import Derived.Test.YtchegijjjakmpaaCFnShapeOrder25
import Derived.Test.YtchegijjjakmpaaCFnShapeOrder26
import Derived.Test.YtchegijjjakmpaaCFnShapeOrder27
section

namespace Go.Proofs.Ytchegijjjakmpaa.P
open Go.RowKit Go.Proofs.YtchegijjjakmpaaW.PrintWords Go.Proofs.YtchegijjjakmpaaW.PrintLast Go.Proofs.YtchegijjjakmpaaW.PrintMore
attribute [local go_sem] max2_int min2_int max_two min_two max_three min_three max_four min_four
set_option linter.unusedVariables false
set_option linter.unusedSimpArgs false
abbrev sospec_DrawShapeIn {α : Type} (k : Nat) (A : Option Addr) (l : List α) (c : Nat) : Prop := some k ≠ (Value.slice A l.length c).ownBlock
set_option maxHeartbeats 8000000 in
set_option maxRecDepth 100000 in
theorem spec_DrawShapeIn.calls (k : Nat) (A0 : Option Addr) (c0 : Nat) (l0 : List Int) (r1 : List (S48)) (r2 : Bool) (r3 : List Int) (r4 : List Int) (r5 : Bool) (r6 : List Int) (r7 : List Int) (w : World) (hr0 : Kd.C (Kd.int .u8) w A0 l0.length l0) (hc0 : l0.length ≤ c0) (h : spec_DrawShapeIn.f k l0 = some (r1, r2, r3, r4, r5, r6, r7)) :
  Calls Try.prog 4 #[.slice A0 l0.length c0] w fun e w' => ∃ v0_ v2_ v3_ v5_ v6_ : Value, e = .returned (.tuple #[v0_, .agg #[.bool r2, v2_, v3_], .agg #[.bool r5, v5_, v6_]]) ∧ Kd.N k48 48 w' w.heap.size (fun k_ => (w.heap.size ≤ k_) ∧ some k_ ≠ (v2_ : Value).ownBlock ∧ some k_ ≠ (v3_ : Value).ownBlock ∧ some k_ ≠ (v5_ : Value).ownBlock ∧ some k_ ≠ (v6_ : Value).ownBlock) v0_ r1 ∧ Kd.R (Kd.int .i64) 3 w' w.heap.size (fun k_ => (w.heap.size ≤ k_) ∧ some k_ ≠ (v3_ : Value).ownBlock ∧ some k_ ≠ (v5_ : Value).ownBlock ∧ some k_ ≠ (v6_ : Value).ownBlock) v2_ r3 ∧ Kd.Q (Kd.int .i64) 3 w' w.heap.size (fun k_ => (w.heap.size ≤ k_) ∧ some k_ ≠ (v2_ : Value).ownBlock ∧ some k_ ≠ (v5_ : Value).ownBlock ∧ some k_ ≠ (v6_ : Value).ownBlock) v3_ r4 ∧ Kd.R (Kd.int .i64) 3 w' w.heap.size (fun k_ => (w.heap.size ≤ k_) ∧ some k_ ≠ (v2_ : Value).ownBlock ∧ some k_ ≠ (v3_ : Value).ownBlock ∧ some k_ ≠ (v6_ : Value).ownBlock) v5_ r6 ∧ Kd.Q (Kd.int .i64) 3 w' w.heap.size (fun k_ => (w.heap.size ≤ k_) ∧ some k_ ≠ (v2_ : Value).ownBlock ∧ some k_ ≠ (v3_ : Value).ownBlock ∧ some k_ ≠ (v5_ : Value).ownBlock) v6_ r7 ∧ Below w.heap.size w w' := by
 have hu26 := Try.underlying26
 have HR0 := Aside0.mk hr0
 have HC0 := Aside0.mk hc0
 clear hr0 hc0
 have HB := Aside0.mk (Below.refl w.heap.size w)
 have H : ((spec_l6Open.f l0).bind fun bt309 => ((spec_l72Two.f k bt309.1 bt309.2).bind fun bt312 => ((spec_l6Rd_pick.f k bt309.1 bt312.2.2.2.2.2.2.2 5).bind fun bt332 => (if bt332.1 > 0 then ((spec_l11Fits.f k bt312.1 bt312.2.1 bt312.2.2.1 bt312.2.2.2.1 bt312.2.2.2.2.1 bt312.2.2.2.2.2.1 bt312.2.2.2.2.2.2.1).bind fun t334 => (spec_DrawShapeIn.j0 k bt312.1 t334 bt312.2.1 bt312.2.2.1 bt312.2.2.2.1 bt312.2.2.2.2.1 bt312.2.2.2.2.2.1 bt312.2.2.2.2.2.2.1)) else (spec_DrawShapeIn.j0 k bt312.1 false bt312.2.1 bt312.2.2.1 bt312.2.2.2.1 bt312.2.2.2.2.1 bt312.2.2.2.2.2.1 bt312.2.2.2.2.2.2.1))))) = some (r1, r2, r3, r4, r5, r6, r7) := h
 clear h
 replace H := Option.bind_eq_some_iff.mp H
 obtain ⟨⟨t309, t310⟩, A20, H⟩ := H
 replace H : ((spec_l72Two.f k t309 t310).bind fun bt312 => ((spec_l6Rd_pick.f k t309 bt312.2.2.2.2.2.2.2 5).bind fun bt332 => (if bt332.1 > 0 then ((spec_l11Fits.f k bt312.1 bt312.2.1 bt312.2.2.1 bt312.2.2.2.1 bt312.2.2.2.2.1 bt312.2.2.2.2.2.1 bt312.2.2.2.2.2.2.1).bind fun t334 => (spec_DrawShapeIn.j0 k bt312.1 t334 bt312.2.1 bt312.2.2.1 bt312.2.2.2.1 bt312.2.2.2.2.1 bt312.2.2.2.2.2.1 bt312.2.2.2.2.2.2.1)) else (spec_DrawShapeIn.j0 k bt312.1 false bt312.2.1 bt312.2.2.1 bt312.2.2.2.1 bt312.2.2.2.2.1 bt312.2.2.2.2.2.1 bt312.2.2.2.2.2.2.1)))) = some (r1, r2, r3, r4, r5, r6, r7) := H
 have A2 := Aside0.mk A20
 clear A20
 replace H := Option.bind_eq_some_iff.mp H
 obtain ⟨⟨t312, t315, t316, t319, t322, t323, t326, t329⟩, A30, H⟩ := H
 replace H : ((spec_l6Rd_pick.f k t309 t329 5).bind fun bt332 => (if bt332.1 > 0 then ((spec_l11Fits.f k t312 t315 t316 t319 t322 t323 t326).bind fun t334 => (spec_DrawShapeIn.j0 k t312 t334 t315 t316 t319 t322 t323 t326)) else (spec_DrawShapeIn.j0 k t312 false t315 t316 t319 t322 t323 t326))) = some (r1, r2, r3, r4, r5, r6, r7) := H
 have A3 := Aside0.mk A30
 clear A30
 have HC4 := Aside0.mk H
 clear H
 go_enter Try.func4, Try.ntmps4
 go_upto_region 3 with (first | ((with_reducible refine gd 3 rfl ?_); refine bx 3 #[.bool false, .slice none 0 0, .slice none 0 0] 26 ?_; intro gb307 hg w5 hbox hb; have BK307 := Aside0.mk hbox; have GW307 := hz HB hg; have GE307 := hz HB hg; replace HB := hs HB hb; clear hb hbox hg) | ((with_reducible refine gd 4 rfl ?_); refine bx 4 #[.bool false, .slice none 0 0, .slice none 0 0] 26 ?_; intro gb308 hg w6 hbox hb; have BK308 := Aside0.mk hbox; have GW308 := hz HB hg; have GE308 := hz HB hg; have NB307_308 := nl BK307 hg; have NB308_307 := ng BK307 hg; replace BK307 := kb BK307 hb; replace HB := hs HB hb; clear hb hbox hg) | ((with_reducible refine gc 8 rfl ?_); refine gl (some 11) Try.func8 #[.slice A0 l0.length c0] rfl ?_; (with_reducible refine (spec_l6Open.calls _ _ l0 t309 t310 w _ ?side1 ?side2 ?side3 A2.out).mono ?_); (case side1 => repeat (first | (with_reducible first | exact HB.out | apply below_alloc | apply pw_below_drewN | apply below_drew1 | refine below_set ?_ GE307.out | refine below_set ?_ GE308.out) | exact HB.out)); (case side2 => exact HR0.out); (case side3 => exact HC0.out); rintro e w7 ⟨g311, rfl, hi, hb, hb2⟩; refine ⟨_, rfl, ?_⟩; have HI311 := Aside0.mk (hi); have NB311_307 := Aside0.mk (IsS40.ne_blk hi (blk_below (g := gb307) (o := .cells #[.bool false, .slice none 0 0, .slice none 0 0] 26 (0, 0)) BK307.out hb2) (by decide)); have NB307_311 := Aside0.mk (Ne.symm (IsS40.ne_blk hi (blk_below (g := gb307) (o := .cells #[.bool false, .slice none 0 0, .slice none 0 0] 26 (0, 0)) BK307.out hb2) (by decide))); have NB311_308 := Aside0.mk (IsS40.ne_blk hi (blk_below (g := gb308) (o := .cells #[.bool false, .slice none 0 0, .slice none 0 0] 26 (0, 0)) BK308.out hb2) (by decide)); have NB308_311 := Aside0.mk (Ne.symm (IsS40.ne_blk hi (blk_below (g := gb308) (o := .cells #[.bool false, .slice none 0 0, .slice none 0 0] 26 (0, 0)) BK308.out hb2) (by decide))); replace BK307 := kb BK307 hb2; replace BK308 := kb BK308 hb2; replace HB := Aside0.mk (hb)) | ((with_reducible refine gc 9 rfl ?_); refine gl (some 14) Try.func9 #[.pointer (some ⟨g311, 0, none⟩)] rfl ?_; (with_reducible refine (spec_l72Two.calls k g311 t309 t310 t312 t315 t316 t319 t322 t323 t326 t329 w _ ?side1 ?side2 A3.out).mono ?_); (case side1 => repeat (first | (with_reducible first | exact HI311.out | apply IsS40.alloc | apply IsS40.drewN | apply IsS40.drew | apply IsS40.set_1 | refine IsS40.far ?_ NB311_307.out _ | refine IsS40.far ?_ NB311_308.out _) | exact HI311.out)); (case side2 => repeat (first | (with_reducible first | exact HB.out | apply below_alloc | apply pw_below_drewN | apply below_drew1 | refine below_set ?_ (IsS40.ge HI311.out) | refine below_set ?_ GE307.out | refine below_set ?_ GE308.out) | exact HB.out)); rintro e w8 ⟨v313, v317, v320, v324, v327, rfl, ho0, ho1, ho2, ho3, ho4, hi, hb, hk⟩; refine ⟨_, rfl, ?_⟩; have HO314 := Aside0.mk (Kd.N_lower (Kd.N_mono (ok' := fun k_ => (w.heap.size ≤ k_) ∧ some k_ ≠ (v317 : Value).ownBlock ∧ some k_ ≠ (v320 : Value).ownBlock ∧ some k_ ≠ (v324 : Value).ownBlock ∧ some k_ ≠ (v327 : Value).ownBlock ∧ k_ ≠ gb307 ∧ k_ ≠ gb308 ∧ k_ ≠ g311) ho0 (fun k_ hk_ => ⟨(Nat.le_trans (below_size (by repeat (first | (with_reducible first | exact HB.out | apply below_alloc | apply pw_below_drewN | apply below_drew1 | refine below_set ?_ (IsS40.ge HI311.out) | refine below_set ?_ GE307.out | refine below_set ?_ GE308.out) | exact HB.out))) hk_.1), hk_.2.1, hk_.2.2.1, hk_.2.2.2.1, hk_.2.2.2.2, (Kd.freshB (g := gb307) (o := .cells #[.bool false, .slice none 0 0, .slice none 0 0] 26 (0, 0)) BK307.out k_ hk_.1), (Kd.freshB (g := gb308) (o := .cells #[.bool false, .slice none 0 0, .slice none 0 0] 26 (0, 0)) BK308.out k_ hk_.1), (IsS40.fresh (by repeat (first | (with_reducible first | exact HI311.out | apply IsS40.alloc | apply IsS40.drewN | apply IsS40.drew | apply IsS40.set_1 | refine IsS40.far ?_ NB311_307.out _ | refine IsS40.far ?_ NB311_308.out _) | exact HI311.out)) k_ hk_.1)⟩)) (below_size (by repeat (first | (with_reducible first | exact HB.out | apply below_alloc | apply pw_below_drewN | apply below_drew1 | refine below_set ?_ (IsS40.ge HI311.out) | refine below_set ?_ GE307.out | refine below_set ?_ GE308.out) | exact HB.out)))); have HO318 := Aside0.mk (Kd.R_lower (Kd.R_newM (M := fun k_ => (w.heap.size ≤ k_)) (Kd.R_mono (ok' := fun k_ => some k_ ≠ (v320 : Value).ownBlock ∧ some k_ ≠ (v324 : Value).ownBlock ∧ some k_ ≠ (v327 : Value).ownBlock) ho1 (fun _ hk_ => hk_.2)) (below_size (by repeat (first | (with_reducible first | exact HB.out | apply below_alloc | apply pw_below_drewN | apply below_drew1 | refine below_set ?_ (IsS40.ge HI311.out) | refine below_set ?_ GE307.out | refine below_set ?_ GE308.out) | exact HB.out))) (fun k_ h_ => h_)) (below_size (by repeat (first | (with_reducible first | exact HB.out | apply below_alloc | apply pw_below_drewN | apply below_drew1 | refine below_set ?_ (IsS40.ge HI311.out) | refine below_set ?_ GE307.out | refine below_set ?_ GE308.out) | exact HB.out)))); have HO321 := Aside0.mk (Kd.Q_lower (Kd.Q_newM (M := fun k_ => (w.heap.size ≤ k_)) (Kd.Q_mono (ok' := fun k_ => some k_ ≠ (v317 : Value).ownBlock ∧ some k_ ≠ (v324 : Value).ownBlock ∧ some k_ ≠ (v327 : Value).ownBlock) ho2 (fun _ hk_ => hk_.2)) (below_size (by repeat (first | (with_reducible first | exact HB.out | apply below_alloc | apply pw_below_drewN | apply below_drew1 | refine below_set ?_ (IsS40.ge HI311.out) | refine below_set ?_ GE307.out | refine below_set ?_ GE308.out) | exact HB.out))) (fun k_ h_ => h_)) (below_size (by repeat (first | (with_reducible first | exact HB.out | apply below_alloc | apply pw_below_drewN | apply below_drew1 | refine below_set ?_ (IsS40.ge HI311.out) | refine below_set ?_ GE307.out | refine below_set ?_ GE308.out) | exact HB.out)))); have HO325 := Aside0.mk (Kd.R_lower (Kd.R_newM (M := fun k_ => (w.heap.size ≤ k_)) (Kd.R_mono (ok' := fun k_ => some k_ ≠ (v317 : Value).ownBlock ∧ some k_ ≠ (v320 : Value).ownBlock ∧ some k_ ≠ (v327 : Value).ownBlock) ho3 (fun _ hk_ => hk_.2)) (below_size (by repeat (first | (with_reducible first | exact HB.out | apply below_alloc | apply pw_below_drewN | apply below_drew1 | refine below_set ?_ (IsS40.ge HI311.out) | refine below_set ?_ GE307.out | refine below_set ?_ GE308.out) | exact HB.out))) (fun k_ h_ => h_)) (below_size (by repeat (first | (with_reducible first | exact HB.out | apply below_alloc | apply pw_below_drewN | apply below_drew1 | refine below_set ?_ (IsS40.ge HI311.out) | refine below_set ?_ GE307.out | refine below_set ?_ GE308.out) | exact HB.out)))); have HO328 := Aside0.mk (Kd.Q_lower (Kd.Q_newM (M := fun k_ => (w.heap.size ≤ k_)) (Kd.Q_mono (ok' := fun k_ => some k_ ≠ (v317 : Value).ownBlock ∧ some k_ ≠ (v320 : Value).ownBlock ∧ some k_ ≠ (v324 : Value).ownBlock) ho4 (fun _ hk_ => hk_.2)) (below_size (by repeat (first | (with_reducible first | exact HB.out | apply below_alloc | apply pw_below_drewN | apply below_drew1 | refine below_set ?_ (IsS40.ge HI311.out) | refine below_set ?_ GE307.out | refine below_set ?_ GE308.out) | exact HB.out))) (fun k_ h_ => h_)) (below_size (by repeat (first | (with_reducible first | exact HB.out | apply below_alloc | apply pw_below_drewN | apply below_drew1 | refine below_set ?_ (IsS40.ge HI311.out) | refine below_set ?_ GE307.out | refine below_set ?_ GE308.out) | exact HB.out)))); replace BK307 := kbk hk BK307 NB307_311; replace BK308 := kbk hk BK308 NB308_311; replace HI311 := Aside0.mk (hi); replace HB := Aside0.mk (hb)) | ((with_reducible refine gd 7 rfl ?_); refine bx 7 #[.bool false, .slice none 0 0, .slice none 0 0] 26 ?_; intro gb330 hg w9 hbox hb; have BK330 := Aside0.mk hbox; have GW330 := Aside0.mk ((by rw [hg]; exact (below_size (by repeat (first | (with_reducible first | exact HB.out | apply below_alloc | apply pw_below_drewN | apply below_drew1 | refine below_set ?_ (IsS40.ge HI311.out) | refine below_set ?_ GE307.out | refine below_set ?_ GE308.out) | exact HB.out))) : w.heap.size ≤ gb330)); have GE330 := Aside0.mk ((by rw [hg]; exact (below_size (by repeat (first | (with_reducible first | exact HB.out | apply below_alloc | apply pw_below_drewN | apply below_drew1 | refine below_set ?_ (IsS40.ge HI311.out) | refine below_set ?_ GE307.out | refine below_set ?_ GE308.out) | exact HB.out))) : w.heap.size ≤ gb330)); have NB307_330 := nl BK307 hg; have NB330_307 := ng BK307 hg; have NB308_330 := nl BK308 hg; have NB330_308 := ng BK308 hg; have NB311_330 := Aside0.mk ((by rw [hg]; exact Nat.ne_of_lt (IsS40.lt (show IsS40 w _ g311 t309 t329 from by repeat (first | (with_reducible first | exact HI311.out | apply IsS40.alloc | apply IsS40.drewN | apply IsS40.drew | apply IsS40.set_1 | refine IsS40.far ?_ NB311_307.out _ | refine IsS40.far ?_ NB311_308.out _) | exact HI311.out))) : g311 ≠ gb330)); have NB330_311 := Aside0.mk ((by rw [hg]; exact Nat.ne_of_gt (IsS40.lt (show IsS40 w _ g311 t309 t329 from by repeat (first | (with_reducible first | exact HI311.out | apply IsS40.alloc | apply IsS40.drewN | apply IsS40.drew | apply IsS40.set_1 | refine IsS40.far ?_ NB311_307.out _ | refine IsS40.far ?_ NB311_308.out _) | exact HI311.out))) : gb330 ≠ g311)); replace HO314 := Aside0.mk (Kd.N_below (Kd.N_elderB HO314.out gb330 (Nat.le_of_eq hg.symm)) hb); replace HO318 := rb HO318 hb; replace HO321 := qb HO321 hb; replace HO325 := rb HO325 hb; replace HO328 := qb HO328 hb; replace BK307 := kb BK307 hb; replace BK308 := kb BK308 hb; replace HI311 := Aside0.mk (IsS40.below (by repeat (first | (with_reducible first | exact HI311.out | apply IsS40.alloc | apply IsS40.drewN | apply IsS40.drew | apply IsS40.set_1 | refine IsS40.far ?_ NB311_307.out _ | refine IsS40.far ?_ NB311_308.out _) | exact HI311.out)) hb); replace HB := Aside0.mk (below_step (by repeat (first | (with_reducible first | exact HB.out | apply below_alloc | apply pw_below_drewN | apply below_drew1 | refine below_set ?_ (IsS40.ge HI311.out) | refine below_set ?_ GE307.out | refine below_set ?_ GE308.out) | exact HB.out)) hb); clear hb hbox hg) | ((with_reducible refine gd 8 rfl ?_); refine bx 8 #[.bool false, .slice none 0 0, .slice none 0 0] 26 ?_; intro gb331 hg w10 hbox hb; have BK331 := Aside0.mk hbox; have GW331 := Aside0.mk ((by rw [hg]; exact (below_size (by repeat (first | (with_reducible first | exact HB.out | apply below_alloc | apply pw_below_drewN | apply below_drew1 | refine below_set ?_ (IsS40.ge HI311.out) | refine below_set ?_ GE307.out | refine below_set ?_ GE308.out | refine below_set ?_ GE330.out) | exact HB.out))) : w.heap.size ≤ gb331)); have GE331 := Aside0.mk ((by rw [hg]; exact (below_size (by repeat (first | (with_reducible first | exact HB.out | apply below_alloc | apply pw_below_drewN | apply below_drew1 | refine below_set ?_ (IsS40.ge HI311.out) | refine below_set ?_ GE307.out | refine below_set ?_ GE308.out | refine below_set ?_ GE330.out) | exact HB.out))) : w.heap.size ≤ gb331)); have NB307_331 := nl BK307 hg; have NB331_307 := ng BK307 hg; have NB308_331 := nl BK308 hg; have NB331_308 := ng BK308 hg; have NB330_331 := nl BK330 hg; have NB331_330 := ng BK330 hg; have NB311_331 := Aside0.mk ((by rw [hg]; exact Nat.ne_of_lt (IsS40.lt (show IsS40 w _ g311 t309 t329 from by repeat (first | (with_reducible first | exact HI311.out | apply IsS40.alloc | apply IsS40.drewN | apply IsS40.drew | apply IsS40.set_1 | refine IsS40.far ?_ NB311_307.out _ | refine IsS40.far ?_ NB311_308.out _ | refine IsS40.far ?_ NB311_330.out _) | exact HI311.out))) : g311 ≠ gb331)); have NB331_311 := Aside0.mk ((by rw [hg]; exact Nat.ne_of_gt (IsS40.lt (show IsS40 w _ g311 t309 t329 from by repeat (first | (with_reducible first | exact HI311.out | apply IsS40.alloc | apply IsS40.drewN | apply IsS40.drew | apply IsS40.set_1 | refine IsS40.far ?_ NB311_307.out _ | refine IsS40.far ?_ NB311_308.out _ | refine IsS40.far ?_ NB311_330.out _) | exact HI311.out))) : gb331 ≠ g311)); replace HO314 := Aside0.mk (Kd.N_below (Kd.N_elderB HO314.out gb331 (Nat.le_of_eq hg.symm)) hb); replace HO318 := rb HO318 hb; replace HO321 := qb HO321 hb; replace HO325 := rb HO325 hb; replace HO328 := qb HO328 hb; replace BK307 := kb BK307 hb; replace BK308 := kb BK308 hb; replace HI311 := Aside0.mk (IsS40.below (by repeat (first | (with_reducible first | exact HI311.out | apply IsS40.alloc | apply IsS40.drewN | apply IsS40.drew | apply IsS40.set_1 | refine IsS40.far ?_ NB311_307.out _ | refine IsS40.far ?_ NB311_308.out _ | refine IsS40.far ?_ NB311_330.out _) | exact HI311.out)) hb); replace BK330 := kb BK330 hb; replace HB := Aside0.mk (below_step (by repeat (first | (with_reducible first | exact HB.out | apply below_alloc | apply pw_below_drewN | apply below_drew1 | refine below_set ?_ (IsS40.ge HI311.out) | refine below_set ?_ GE307.out | refine below_set ?_ GE308.out | refine below_set ?_ GE330.out) | exact HB.out)) hb); clear hb hbox hg; have hnb11 := NB330_307.out; have hnc11 := NB307_330.out; have hnb12 := NB330_308.out; have hnc12 := NB308_330.out; have hnb13 := NB330_331.out; have hnc13 := NB331_330.out; have hnb14 := NB330_311.out; have hnc14 := NB311_330.out; obtain ⟨_,_,_,_,_,_⟩ := cf3 BK330; obtain ⟨Ao16, co16, eo16⟩ := Kd.R_slice HO318.out; subst eo16; obtain ⟨Ao17, co17, eo17, _⟩ := Kd.Q_slice HO321.out; subst eo17; have hnb18 := NB331_307.out; have hnc18 := NB307_331.out; have hnb19 := NB331_308.out; have hnc19 := NB308_331.out; have hnb20 := NB331_311.out; have hnc20 := NB311_331.out; obtain ⟨_,_,_,_,_,_⟩ := cf3 BK331; obtain ⟨Ao22, co22, eo22⟩ := Kd.R_slice HO325.out; subst eo22; obtain ⟨Ao23, co23, eo23, _⟩ := Kd.Q_slice HO328.out; subst eo23))
 (try simp only [Act.put, List.setIfInBounds_toArray, List.set_cons_zero, List.set_cons_succ])
 go_cut [26] (fun v26 wc => ∃ (kq : Nat) (x26_3 : Bool), v26 = .bool x26_3 ∧ Aside0 (spec_DrawShapeIn.j0 kq t312 x26_3 t315 t316 t319 t322 t323 t326 = some (r1, r2, r3, r4, r5, r6, r7)) ∧ Aside0 (kq ≤ k) ∧ Aside0 (Kd.N k48 48 wc w.heap.size (fun k_ => (w.heap.size ≤ k_) ∧ some k_ ≠ ((.slice Ao16 t316.length co16) : Value).ownBlock ∧ some k_ ≠ ((.slice Ao17 t319.length co17) : Value).ownBlock ∧ some k_ ≠ ((.slice Ao22 t323.length co22) : Value).ownBlock ∧ some k_ ≠ ((.slice Ao23 t326.length co23) : Value).ownBlock ∧ k_ ≠ gb307 ∧ k_ ≠ gb308 ∧ k_ ≠ gb330 ∧ k_ ≠ gb331) v313 t312) ∧ Aside0 (Kd.R (Kd.int .i64) 3 wc w.heap.size (fun k_ => (w.heap.size ≤ k_) ∧ some k_ ≠ ((.slice Ao17 t319.length co17) : Value).ownBlock ∧ some k_ ≠ ((.slice Ao22 t323.length co22) : Value).ownBlock ∧ some k_ ≠ ((.slice Ao23 t326.length co23) : Value).ownBlock) (.slice Ao16 t316.length co16) t316) ∧ Aside0 (Kd.Q (Kd.int .i64) 3 wc w.heap.size (fun k_ => (w.heap.size ≤ k_) ∧ some k_ ≠ ((.slice Ao16 t316.length co16) : Value).ownBlock ∧ some k_ ≠ ((.slice Ao22 t323.length co22) : Value).ownBlock ∧ some k_ ≠ ((.slice Ao23 t326.length co23) : Value).ownBlock) (.slice Ao17 t319.length co17) t319) ∧ Aside0 (Kd.R (Kd.int .i64) 3 wc w.heap.size (fun k_ => (w.heap.size ≤ k_) ∧ some k_ ≠ ((.slice Ao16 t316.length co16) : Value).ownBlock ∧ some k_ ≠ ((.slice Ao17 t319.length co17) : Value).ownBlock ∧ some k_ ≠ ((.slice Ao23 t326.length co23) : Value).ownBlock) (.slice Ao22 t323.length co22) t323) ∧ Aside0 (Kd.Q (Kd.int .i64) 3 wc w.heap.size (fun k_ => (w.heap.size ≤ k_) ∧ some k_ ≠ ((.slice Ao16 t316.length co16) : Value).ownBlock ∧ some k_ ≠ ((.slice Ao17 t319.length co17) : Value).ownBlock ∧ some k_ ≠ ((.slice Ao22 t323.length co22) : Value).ownBlock) (.slice Ao23 t326.length co23) t326) ∧ Aside0 (wc.heap[gb307]? = some (.cells #[.bool false, (.slice none 0 0), (.slice none 0 0)] 26 (0, 0))) ∧ Aside0 (wc.heap[gb308]? = some (.cells #[.bool false, (.slice none 0 0), (.slice none 0 0)] 26 (0, 0))) ∧ Aside0 (wc.heap[gb330]? = some (.cells #[.bool t315, (.slice Ao16 t316.length co16), (.slice Ao17 t319.length co17)] 26 (0, 0))) ∧ Aside0 (wc.heap[gb331]? = some (.cells #[.bool t322, (.slice Ao22 t323.length co22), (.slice Ao23 t326.length co23)] 26 (0, 0))) ∧ Aside0 (Below w.heap.size w wc))
 case first =>
  have H := HC4.out
  clear HC4
  replace H := Option.bind_eq_some_iff.mp H
  obtain ⟨⟨t332, t333⟩, A240, H⟩ := H
  replace H : (if t332 > 0 then ((spec_l11Fits.f k t312 t315 t316 t319 t322 t323 t326).bind fun t334 => (spec_DrawShapeIn.j0 k t312 t334 t315 t316 t319 t322 t323 t326)) else (spec_DrawShapeIn.j0 k t312 false t315 t316 t319 t322 t323 t326)) = some (r1, r2, r3, r4, r5, r6, r7) := H
  have A24 := Aside0.mk A240
  clear A240
  by_cases c25 : t332 > 0
  ·rw [if_pos c25] at H
   have c25b0 : decide (0 < t332) = true := decide_eq_true c25
   clear c25
   (first | rw [c25b0] | (simp only [i64_w, i32_w]; rw [c25b0]) | skip)
   obtain ⟨t334, A26, H⟩ := ob H
   have H' := Aside0.mk H
   clear H
   go_wp2_with (first | ((with_reducible refine gc 10 rfl ?_); refine gl (some 19) Try.func10 #[.pointer (some ⟨g311, 0, none⟩), .int .i64 5] rfl ?_; (with_reducible refine (spec_l6Rd_pick.calls k g311 t309 t329 5 t332 t333 w _ ?side1 ?side2 A24.out).mono ?_); (case side1 => repeat (first | (with_reducible first | exact HI311.out | apply IsS40.alloc | apply IsS40.drewN | apply IsS40.drew | apply IsS40.set_1 | refine IsS40.far ?_ NB311_307.out _ | refine IsS40.far ?_ NB311_308.out _ | refine IsS40.far ?_ NB311_330.out _ | refine IsS40.far ?_ NB311_331.out _) | exact HI311.out)); (case side2 => repeat (first | (with_reducible first | exact HB.out | apply below_alloc | apply pw_below_drewN | apply below_drew1 | refine below_set ?_ (IsS40.ge HI311.out) | refine below_set ?_ GE307.out | refine below_set ?_ GE308.out | refine below_set ?_ GE330.out | refine below_set ?_ GE331.out) | exact HB.out)); rintro e w27 ⟨rfl, hi, hb, hk⟩; refine ⟨_, rfl, ?_⟩; replace BK307 := Aside0.mk (KeepBut.blk hk (g' := gb307) (o := .cells #[.bool false, .slice none 0 0, .slice none 0 0] 26 (0, 0)) (by (with_reducible repeat (first | refine blk_drewN ?_ _ | refine blk_drew ?_ | refine blk_alloc ?_ _)); refine blk_far ?_ NB307_331.out _; (with_reducible repeat (first | refine blk_drewN ?_ _ | refine blk_drew ?_ | refine blk_alloc ?_ _)); refine blk_far ?_ NB307_331.out _; (with_reducible repeat (first | refine blk_drewN ?_ _ | refine blk_drew ?_ | refine blk_alloc ?_ _)); refine blk_far ?_ NB307_331.out _; (with_reducible repeat (first | refine blk_drewN ?_ _ | refine blk_drew ?_ | refine blk_alloc ?_ _)); refine blk_far ?_ NB307_330.out _; (with_reducible repeat (first | refine blk_drewN ?_ _ | refine blk_drew ?_ | refine blk_alloc ?_ _)); refine blk_far ?_ NB307_330.out _; (with_reducible repeat (first | refine blk_drewN ?_ _ | refine blk_drew ?_ | refine blk_alloc ?_ _)); refine blk_far ?_ NB307_330.out _; (with_reducible repeat (first | refine blk_drewN ?_ _ | refine blk_drew ?_ | refine blk_alloc ?_ _)); exact BK307.out) NB307_311.out (by simp)); replace BK308 := Aside0.mk (KeepBut.blk hk (g' := gb308) (o := .cells #[.bool false, .slice none 0 0, .slice none 0 0] 26 (0, 0)) (by (with_reducible repeat (first | refine blk_drewN ?_ _ | refine blk_drew ?_ | refine blk_alloc ?_ _)); refine blk_far ?_ NB308_331.out _; (with_reducible repeat (first | refine blk_drewN ?_ _ | refine blk_drew ?_ | refine blk_alloc ?_ _)); refine blk_far ?_ NB308_331.out _; (with_reducible repeat (first | refine blk_drewN ?_ _ | refine blk_drew ?_ | refine blk_alloc ?_ _)); refine blk_far ?_ NB308_331.out _; (with_reducible repeat (first | refine blk_drewN ?_ _ | refine blk_drew ?_ | refine blk_alloc ?_ _)); refine blk_far ?_ NB308_330.out _; (with_reducible repeat (first | refine blk_drewN ?_ _ | refine blk_drew ?_ | refine blk_alloc ?_ _)); refine blk_far ?_ NB308_330.out _; (with_reducible repeat (first | refine blk_drewN ?_ _ | refine blk_drew ?_ | refine blk_alloc ?_ _)); refine blk_far ?_ NB308_330.out _; (with_reducible repeat (first | refine blk_drewN ?_ _ | refine blk_drew ?_ | refine blk_alloc ?_ _)); exact BK308.out) NB308_311.out (by simp)); replace HO314 := Aside0.mk (Kd.N_mono (Kd.N_keep (Kd.N_mono (ok := fun k_ => (((((w.heap.size ≤ k_)) ∧ (sospec_DrawShapeIn k_ Ao16 t316 co16 ∧ (sospec_DrawShapeIn k_ Ao17 t319 co17 ∧ (sospec_DrawShapeIn k_ Ao22 t323 co22 ∧ (sospec_DrawShapeIn k_ Ao23 t326 co23 ∧ (k_ ≠ gb307 ∧ (k_ ≠ gb308 ∧ k_ ≠ g311))))))) ∧ k_ ≠ gb330) ∧ k_ ≠ gb331)) ((Kd.N_mono (Kd.N_mono (Kd.N_far (p := ⟨gb331, 2, none⟩) (Kd.N_far (p := ⟨gb331, 1, none⟩) (Kd.N_far (p := ⟨gb331, 0, none⟩) (Kd.N_far (p := ⟨gb330, 2, none⟩) (Kd.N_far (p := ⟨gb330, 1, none⟩) (Kd.N_far (p := ⟨gb330, 0, none⟩) (Kd.N_mono (Kd.N_mono HO314.out (fun k_ hk => (⟨hk, hk.1.2⟩ : _ ∧ k_ ≠ gb330))) (fun k_ hk => (⟨hk, hk.1.2⟩ : _ ∧ k_ ≠ gb331))) (fun _ hk => hk.1.2) (.bool t315)) (fun _ hk => hk.1.2) (.slice Ao16 t316.length co16)) (fun _ hk => hk.1.2) (.slice Ao17 t319.length co17)) (fun _ hk => hk.2) (.bool t322)) (fun _ hk => hk.2) (.slice Ao22 t323.length co22)) (fun _ hk => hk.2) (.slice Ao23 t326.length co23)) (fun _ h_ => h_.1)) (fun _ h_ => h_.1))) (fun k_ hk_ => (⟨hk_, hk_.1.1.2.2.2.2.2.2.2⟩ : _ ∧ k_ ≠ g311))) hk (fun _ h => h.2)) (fun _ h => h.1)); replace HO318 := Aside0.mk (Kd.R_mono (Kd.R_keep (IsS40.apart (show IsS40 w _ g311 t309 t329 from by repeat (first | (with_reducible first | exact HI311.out | apply IsS40.alloc | apply IsS40.drewN | apply IsS40.drew | apply IsS40.set_1 | refine IsS40.far ?_ NB311_307.out _ | refine IsS40.far ?_ NB311_308.out _ | refine IsS40.far ?_ NB311_330.out _ | refine IsS40.far ?_ NB311_331.out _) | exact HI311.out)) ((Kd.R_mono (Kd.R_mono (Kd.R_far (p := ⟨gb331, 2, none⟩) (Kd.R_far (p := ⟨gb331, 1, none⟩) (Kd.R_far (p := ⟨gb331, 0, none⟩) (Kd.R_far (p := ⟨gb330, 2, none⟩) (Kd.R_far (p := ⟨gb330, 1, none⟩) (Kd.R_far (p := ⟨gb330, 0, none⟩) (Kd.R_types (Kd.R_types HO318.out BK330.out (by decide)) BK331.out (by decide)) (fun _ hk => hk.1.2) (.bool t315)) (fun _ hk => hk.1.2) (.slice Ao16 t316.length co16)) (fun _ hk => hk.1.2) (.slice Ao17 t319.length co17)) (fun _ hk => hk.2) (.bool t322)) (fun _ hk => hk.2) (.slice Ao22 t323.length co22)) (fun _ hk => hk.2) (.slice Ao23 t326.length co23)) (fun _ h_ => h_.1)) (fun _ h_ => h_.1))) (by decide)) hk (fun _ h => h.2)) (fun _ h => h.1)); replace HO321 := Aside0.mk (Kd.Q_mono (Kd.Q_keep (IsS40.apartQ (show IsS40 w _ g311 t309 t329 from by repeat (first | (with_reducible first | exact HI311.out | apply IsS40.alloc | apply IsS40.drewN | apply IsS40.drew | apply IsS40.set_1 | refine IsS40.far ?_ NB311_307.out _ | refine IsS40.far ?_ NB311_308.out _ | refine IsS40.far ?_ NB311_330.out _ | refine IsS40.far ?_ NB311_331.out _) | exact HI311.out)) ((Kd.Q_mono (Kd.Q_mono (Kd.Q_far (p := ⟨gb331, 2, none⟩) (Kd.Q_far (p := ⟨gb331, 1, none⟩) (Kd.Q_far (p := ⟨gb331, 0, none⟩) (Kd.Q_far (p := ⟨gb330, 2, none⟩) (Kd.Q_far (p := ⟨gb330, 1, none⟩) (Kd.Q_far (p := ⟨gb330, 0, none⟩) (Kd.Q_types (Kd.Q_types HO321.out BK330.out (by decide)) BK331.out (by decide)) (fun _ hk => hk.1.2) (.bool t315)) (fun _ hk => hk.1.2) (.slice Ao16 t316.length co16)) (fun _ hk => hk.1.2) (.slice Ao17 t319.length co17)) (fun _ hk => hk.2) (.bool t322)) (fun _ hk => hk.2) (.slice Ao22 t323.length co22)) (fun _ hk => hk.2) (.slice Ao23 t326.length co23)) (fun _ h_ => h_.1)) (fun _ h_ => h_.1))) (by decide)) hk (fun _ h => h.2)) (fun _ h => h.1)); replace HO325 := Aside0.mk (Kd.R_mono (Kd.R_keep (IsS40.apart (show IsS40 w _ g311 t309 t329 from by repeat (first | (with_reducible first | exact HI311.out | apply IsS40.alloc | apply IsS40.drewN | apply IsS40.drew | apply IsS40.set_1 | refine IsS40.far ?_ NB311_307.out _ | refine IsS40.far ?_ NB311_308.out _ | refine IsS40.far ?_ NB311_330.out _ | refine IsS40.far ?_ NB311_331.out _) | exact HI311.out)) ((Kd.R_mono (Kd.R_mono (Kd.R_far (p := ⟨gb331, 2, none⟩) (Kd.R_far (p := ⟨gb331, 1, none⟩) (Kd.R_far (p := ⟨gb331, 0, none⟩) (Kd.R_far (p := ⟨gb330, 2, none⟩) (Kd.R_far (p := ⟨gb330, 1, none⟩) (Kd.R_far (p := ⟨gb330, 0, none⟩) (Kd.R_types (Kd.R_types HO325.out BK330.out (by decide)) BK331.out (by decide)) (fun _ hk => hk.1.2) (.bool t315)) (fun _ hk => hk.1.2) (.slice Ao16 t316.length co16)) (fun _ hk => hk.1.2) (.slice Ao17 t319.length co17)) (fun _ hk => hk.2) (.bool t322)) (fun _ hk => hk.2) (.slice Ao22 t323.length co22)) (fun _ hk => hk.2) (.slice Ao23 t326.length co23)) (fun _ h_ => h_.1)) (fun _ h_ => h_.1))) (by decide)) hk (fun _ h => h.2)) (fun _ h => h.1)); replace HO328 := Aside0.mk (Kd.Q_mono (Kd.Q_keep (IsS40.apartQ (show IsS40 w _ g311 t309 t329 from by repeat (first | (with_reducible first | exact HI311.out | apply IsS40.alloc | apply IsS40.drewN | apply IsS40.drew | apply IsS40.set_1 | refine IsS40.far ?_ NB311_307.out _ | refine IsS40.far ?_ NB311_308.out _ | refine IsS40.far ?_ NB311_330.out _ | refine IsS40.far ?_ NB311_331.out _) | exact HI311.out)) ((Kd.Q_mono (Kd.Q_mono (Kd.Q_far (p := ⟨gb331, 2, none⟩) (Kd.Q_far (p := ⟨gb331, 1, none⟩) (Kd.Q_far (p := ⟨gb331, 0, none⟩) (Kd.Q_far (p := ⟨gb330, 2, none⟩) (Kd.Q_far (p := ⟨gb330, 1, none⟩) (Kd.Q_far (p := ⟨gb330, 0, none⟩) (Kd.Q_types (Kd.Q_types HO328.out BK330.out (by decide)) BK331.out (by decide)) (fun _ hk => hk.1.2) (.bool t315)) (fun _ hk => hk.1.2) (.slice Ao16 t316.length co16)) (fun _ hk => hk.1.2) (.slice Ao17 t319.length co17)) (fun _ hk => hk.2) (.bool t322)) (fun _ hk => hk.2) (.slice Ao22 t323.length co22)) (fun _ hk => hk.2) (.slice Ao23 t326.length co23)) (fun _ h_ => h_.1)) (fun _ h_ => h_.1))) (by decide)) hk (fun _ h => h.2)) (fun _ h => h.1)); replace BK330 := Aside0.mk (KeepBut.blk hk (g' := gb330) (o := .cells #[.bool t315, .slice Ao16 t316.length co16, .slice Ao17 t319.length co17] 26 (0, 0)) (by (with_reducible repeat (first | refine blk_drewN ?_ _ | refine blk_drew ?_ | refine blk_alloc ?_ _)); refine blk_far ?_ NB330_331.out _; (with_reducible repeat (first | refine blk_drewN ?_ _ | refine blk_drew ?_ | refine blk_alloc ?_ _)); refine blk_far ?_ NB330_331.out _; (with_reducible repeat (first | refine blk_drewN ?_ _ | refine blk_drew ?_ | refine blk_alloc ?_ _)); refine blk_far ?_ NB330_331.out _; (with_reducible repeat (first | refine blk_drewN ?_ _ | refine blk_drew ?_ | refine blk_alloc ?_ _)); refine blk_put (cs := #[.bool t315, .slice Ao16 t316.length co16, .slice none 0 0]) ?_ 2 _ rfl; (with_reducible repeat (first | refine blk_drewN ?_ _ | refine blk_drew ?_ | refine blk_alloc ?_ _)); refine blk_put (cs := #[.bool t315, .slice none 0 0, .slice none 0 0]) ?_ 1 _ rfl; (with_reducible repeat (first | refine blk_drewN ?_ _ | refine blk_drew ?_ | refine blk_alloc ?_ _)); refine blk_put (cs := #[.bool false, .slice none 0 0, .slice none 0 0]) ?_ 0 _ rfl; (with_reducible repeat (first | refine blk_drewN ?_ _ | refine blk_drew ?_ | refine blk_alloc ?_ _)); exact BK330.out) NB330_311.out (by simp)); replace BK331 := Aside0.mk (KeepBut.blk hk (g' := gb331) (o := .cells #[.bool t322, .slice Ao22 t323.length co22, .slice Ao23 t326.length co23] 26 (0, 0)) (by (with_reducible repeat (first | refine blk_drewN ?_ _ | refine blk_drew ?_ | refine blk_alloc ?_ _)); refine blk_put (cs := #[.bool t322, .slice Ao22 t323.length co22, .slice none 0 0]) ?_ 2 _ rfl; (with_reducible repeat (first | refine blk_drewN ?_ _ | refine blk_drew ?_ | refine blk_alloc ?_ _)); refine blk_put (cs := #[.bool t322, .slice none 0 0, .slice none 0 0]) ?_ 1 _ rfl; (with_reducible repeat (first | refine blk_drewN ?_ _ | refine blk_drew ?_ | refine blk_alloc ?_ _)); refine blk_put (cs := #[.bool false, .slice none 0 0, .slice none 0 0]) ?_ 0 _ rfl; (with_reducible repeat (first | refine blk_drewN ?_ _ | refine blk_drew ?_ | refine blk_alloc ?_ _)); refine blk_far ?_ NB331_330.out _; (with_reducible repeat (first | refine blk_drewN ?_ _ | refine blk_drew ?_ | refine blk_alloc ?_ _)); refine blk_far ?_ NB331_330.out _; (with_reducible repeat (first | refine blk_drewN ?_ _ | refine blk_drew ?_ | refine blk_alloc ?_ _)); refine blk_far ?_ NB331_330.out _; (with_reducible repeat (first | refine blk_drewN ?_ _ | refine blk_drew ?_ | refine blk_alloc ?_ _)); exact BK331.out) NB331_311.out (by simp)); replace HI311 := Aside0.mk (hi); replace HB := Aside0.mk (hb); have hnb28 := NB330_307.out; have hnc28 := NB307_330.out; have hnb29 := NB330_308.out; have hnc29 := NB308_330.out; have hnb30 := NB330_331.out; have hnc30 := NB331_330.out; have hnb31 := NB330_311.out; have hnc31 := NB311_330.out; obtain ⟨_,_,_,_,_,_⟩ := cf3 BK330; have hnb33 := NB331_307.out; have hnc33 := NB307_331.out; have hnb34 := NB331_308.out; have hnc34 := NB308_331.out; have hnb35 := NB331_311.out; have hnc35 := NB311_331.out; obtain ⟨_,_,_,_,_,_⟩ := cf3 BK331; obtain ⟨Ao37, co37, eo37⟩ := Kd.N_slice HO314.out; subst eo37) | (go_at_call 11; (with_reducible refine (spec_l11Fits.calls k _ _ t312 t315 _ _ t316 _ _ t319 t322 _ _ t323 _ _ t326 t334 _ ?side1 ?side2 ?side3 ?side4 ?side5 ?side6 ?side7 ?side8 ?side9 ?side10 A26.out).mono ?_); (case side1 => exact (Kd.N_reads' HO314.out).2.2); (case side2 => exact (Kd.N_reads' HO314.out).2.1); (case side3 => exact (Kd.R_reads' HO318.out).2.2); (case side4 => exact (Kd.R_reads' HO318.out).2.1); (case side5 => exact (Kd.Q_reads' HO321.out).2.2); (case side6 => exact (Kd.Q_reads' HO321.out).2.1); (case side7 => exact (Kd.R_reads' HO325.out).2.2); (case side8 => exact (Kd.R_reads' HO325.out).2.1); (case side9 => exact (Kd.Q_reads' HO328.out).2.2); (case side10 => exact (Kd.Q_reads' HO328.out).2.1); rintro e w38 ⟨rfl, hb⟩; replace HO314 := nb HO314 hb; replace HO318 := rb HO318 hb; replace HO321 := qb HO321 hb; replace HO325 := rb HO325 hb; replace HO328 := qb HO328 hb; replace BK307 := kb BK307 hb; replace BK308 := kb BK308 hb; replace HI311 := Aside0.mk (IsS40.below (by repeat (first | (with_reducible first | exact HI311.out | apply IsS40.alloc | apply IsS40.drewN | apply IsS40.drew | apply IsS40.set_1 | refine IsS40.far ?_ NB311_307.out _ | refine IsS40.far ?_ NB311_308.out _ | refine IsS40.far ?_ NB311_330.out _ | refine IsS40.far ?_ NB311_331.out _) | exact HI311.out)) hb); replace BK330 := kb BK330 hb; replace BK331 := kb BK331 hb; replace HB := Aside0.mk (below_step (by repeat (first | (with_reducible first | exact HB.out | apply below_alloc | apply pw_below_drewN | apply below_drew1 | refine below_set ?_ (IsS40.ge HI311.out) | refine below_set ?_ GE307.out | refine below_set ?_ GE308.out | refine below_set ?_ GE330.out | refine below_set ?_ GE331.out) | exact HB.out)) hb)))
   go_meet
   case rel => exact ⟨_, (t334), (by first | rfl | (simp; done) | (simp [*]; done)), H', ⟨by first | omega | exact Nat.le_refl _⟩, ⟨by exact Kd.N_mono HO314.out (fun _ hk => ⟨hk.1.1.1, ⟨hk.1.1.2.1, ⟨hk.1.1.2.2.1, ⟨hk.1.1.2.2.2.1, ⟨hk.1.1.2.2.2.2.1, ⟨hk.1.1.2.2.2.2.2.1, ⟨hk.1.1.2.2.2.2.2.2.1, ⟨hk.1.2, hk.2⟩⟩⟩⟩⟩⟩⟩⟩)⟩, ⟨HO318.out⟩, ⟨HO321.out⟩, ⟨HO325.out⟩, ⟨HO328.out⟩, kk BK307, kk BK308, kk BK330, kk BK331, ⟨by repeat (first | (with_reducible first | exact HB.out | apply below_alloc | apply pw_below_drewN | apply below_drew1 | refine below_set ?_ (IsS40.ge HI311.out) | refine below_set ?_ GE307.out | refine below_set ?_ GE308.out | refine below_set ?_ GE330.out | refine below_set ?_ GE331.out) | exact HB.out)⟩⟩
  ·rw [if_neg c25] at H
   have c25b0 : decide (0 < t332) = false := decide_eq_false c25
   clear c25
   (first | rw [c25b0] | (simp only [i64_w, i32_w]; rw [c25b0]) | skip)
   have H' := Aside0.mk H
   clear H
   go_wp2_with (first | ((with_reducible refine gc 10 rfl ?_); refine gl (some 19) Try.func10 #[.pointer (some ⟨g311, 0, none⟩), .int .i64 5] rfl ?_; (with_reducible refine (spec_l6Rd_pick.calls k g311 t309 t329 5 t332 t333 w _ ?side1 ?side2 A24.out).mono ?_); (case side1 => repeat (first | (with_reducible first | exact HI311.out | apply IsS40.alloc | apply IsS40.drewN | apply IsS40.drew | apply IsS40.set_1 | refine IsS40.far ?_ NB311_307.out _ | refine IsS40.far ?_ NB311_308.out _ | refine IsS40.far ?_ NB311_330.out _ | refine IsS40.far ?_ NB311_331.out _) | exact HI311.out)); (case side2 => repeat (first | (with_reducible first | exact HB.out | apply below_alloc | apply pw_below_drewN | apply below_drew1 | refine below_set ?_ (IsS40.ge HI311.out) | refine below_set ?_ GE307.out | refine below_set ?_ GE308.out | refine below_set ?_ GE330.out | refine below_set ?_ GE331.out) | exact HB.out)); rintro e w39 ⟨rfl, hi, hb, hk⟩; refine ⟨_, rfl, ?_⟩; replace BK307 := Aside0.mk (KeepBut.blk hk (g' := gb307) (o := .cells #[.bool false, .slice none 0 0, .slice none 0 0] 26 (0, 0)) (by (with_reducible repeat (first | refine blk_drewN ?_ _ | refine blk_drew ?_ | refine blk_alloc ?_ _)); refine blk_far ?_ NB307_331.out _; (with_reducible repeat (first | refine blk_drewN ?_ _ | refine blk_drew ?_ | refine blk_alloc ?_ _)); refine blk_far ?_ NB307_331.out _; (with_reducible repeat (first | refine blk_drewN ?_ _ | refine blk_drew ?_ | refine blk_alloc ?_ _)); refine blk_far ?_ NB307_331.out _; (with_reducible repeat (first | refine blk_drewN ?_ _ | refine blk_drew ?_ | refine blk_alloc ?_ _)); refine blk_far ?_ NB307_330.out _; (with_reducible repeat (first | refine blk_drewN ?_ _ | refine blk_drew ?_ | refine blk_alloc ?_ _)); refine blk_far ?_ NB307_330.out _; (with_reducible repeat (first | refine blk_drewN ?_ _ | refine blk_drew ?_ | refine blk_alloc ?_ _)); refine blk_far ?_ NB307_330.out _; (with_reducible repeat (first | refine blk_drewN ?_ _ | refine blk_drew ?_ | refine blk_alloc ?_ _)); exact BK307.out) NB307_311.out (by simp)); replace BK308 := Aside0.mk (KeepBut.blk hk (g' := gb308) (o := .cells #[.bool false, .slice none 0 0, .slice none 0 0] 26 (0, 0)) (by (with_reducible repeat (first | refine blk_drewN ?_ _ | refine blk_drew ?_ | refine blk_alloc ?_ _)); refine blk_far ?_ NB308_331.out _; (with_reducible repeat (first | refine blk_drewN ?_ _ | refine blk_drew ?_ | refine blk_alloc ?_ _)); refine blk_far ?_ NB308_331.out _; (with_reducible repeat (first | refine blk_drewN ?_ _ | refine blk_drew ?_ | refine blk_alloc ?_ _)); refine blk_far ?_ NB308_331.out _; (with_reducible repeat (first | refine blk_drewN ?_ _ | refine blk_drew ?_ | refine blk_alloc ?_ _)); refine blk_far ?_ NB308_330.out _; (with_reducible repeat (first | refine blk_drewN ?_ _ | refine blk_drew ?_ | refine blk_alloc ?_ _)); refine blk_far ?_ NB308_330.out _; (with_reducible repeat (first | refine blk_drewN ?_ _ | refine blk_drew ?_ | refine blk_alloc ?_ _)); refine blk_far ?_ NB308_330.out _; (with_reducible repeat (first | refine blk_drewN ?_ _ | refine blk_drew ?_ | refine blk_alloc ?_ _)); exact BK308.out) NB308_311.out (by simp)); replace HO314 := Aside0.mk (Kd.N_mono (Kd.N_keep (Kd.N_mono (ok := fun k_ => (((((w.heap.size ≤ k_)) ∧ (sospec_DrawShapeIn k_ Ao16 t316 co16 ∧ (sospec_DrawShapeIn k_ Ao17 t319 co17 ∧ (sospec_DrawShapeIn k_ Ao22 t323 co22 ∧ (sospec_DrawShapeIn k_ Ao23 t326 co23 ∧ (k_ ≠ gb307 ∧ (k_ ≠ gb308 ∧ k_ ≠ g311))))))) ∧ k_ ≠ gb330) ∧ k_ ≠ gb331)) ((Kd.N_mono (Kd.N_mono (Kd.N_far (p := ⟨gb331, 2, none⟩) (Kd.N_far (p := ⟨gb331, 1, none⟩) (Kd.N_far (p := ⟨gb331, 0, none⟩) (Kd.N_far (p := ⟨gb330, 2, none⟩) (Kd.N_far (p := ⟨gb330, 1, none⟩) (Kd.N_far (p := ⟨gb330, 0, none⟩) (Kd.N_mono (Kd.N_mono HO314.out (fun k_ hk => (⟨hk, hk.1.2⟩ : _ ∧ k_ ≠ gb330))) (fun k_ hk => (⟨hk, hk.1.2⟩ : _ ∧ k_ ≠ gb331))) (fun _ hk => hk.1.2) (.bool t315)) (fun _ hk => hk.1.2) (.slice Ao16 t316.length co16)) (fun _ hk => hk.1.2) (.slice Ao17 t319.length co17)) (fun _ hk => hk.2) (.bool t322)) (fun _ hk => hk.2) (.slice Ao22 t323.length co22)) (fun _ hk => hk.2) (.slice Ao23 t326.length co23)) (fun _ h_ => h_.1)) (fun _ h_ => h_.1))) (fun k_ hk_ => (⟨hk_, hk_.1.1.2.2.2.2.2.2.2⟩ : _ ∧ k_ ≠ g311))) hk (fun _ h => h.2)) (fun _ h => h.1)); replace HO318 := Aside0.mk (Kd.R_mono (Kd.R_keep (IsS40.apart (show IsS40 w _ g311 t309 t329 from by repeat (first | (with_reducible first | exact HI311.out | apply IsS40.alloc | apply IsS40.drewN | apply IsS40.drew | apply IsS40.set_1 | refine IsS40.far ?_ NB311_307.out _ | refine IsS40.far ?_ NB311_308.out _ | refine IsS40.far ?_ NB311_330.out _ | refine IsS40.far ?_ NB311_331.out _) | exact HI311.out)) ((Kd.R_mono (Kd.R_mono (Kd.R_far (p := ⟨gb331, 2, none⟩) (Kd.R_far (p := ⟨gb331, 1, none⟩) (Kd.R_far (p := ⟨gb331, 0, none⟩) (Kd.R_far (p := ⟨gb330, 2, none⟩) (Kd.R_far (p := ⟨gb330, 1, none⟩) (Kd.R_far (p := ⟨gb330, 0, none⟩) (Kd.R_types (Kd.R_types HO318.out BK330.out (by decide)) BK331.out (by decide)) (fun _ hk => hk.1.2) (.bool t315)) (fun _ hk => hk.1.2) (.slice Ao16 t316.length co16)) (fun _ hk => hk.1.2) (.slice Ao17 t319.length co17)) (fun _ hk => hk.2) (.bool t322)) (fun _ hk => hk.2) (.slice Ao22 t323.length co22)) (fun _ hk => hk.2) (.slice Ao23 t326.length co23)) (fun _ h_ => h_.1)) (fun _ h_ => h_.1))) (by decide)) hk (fun _ h => h.2)) (fun _ h => h.1)); replace HO321 := Aside0.mk (Kd.Q_mono (Kd.Q_keep (IsS40.apartQ (show IsS40 w _ g311 t309 t329 from by repeat (first | (with_reducible first | exact HI311.out | apply IsS40.alloc | apply IsS40.drewN | apply IsS40.drew | apply IsS40.set_1 | refine IsS40.far ?_ NB311_307.out _ | refine IsS40.far ?_ NB311_308.out _ | refine IsS40.far ?_ NB311_330.out _ | refine IsS40.far ?_ NB311_331.out _) | exact HI311.out)) ((Kd.Q_mono (Kd.Q_mono (Kd.Q_far (p := ⟨gb331, 2, none⟩) (Kd.Q_far (p := ⟨gb331, 1, none⟩) (Kd.Q_far (p := ⟨gb331, 0, none⟩) (Kd.Q_far (p := ⟨gb330, 2, none⟩) (Kd.Q_far (p := ⟨gb330, 1, none⟩) (Kd.Q_far (p := ⟨gb330, 0, none⟩) (Kd.Q_types (Kd.Q_types HO321.out BK330.out (by decide)) BK331.out (by decide)) (fun _ hk => hk.1.2) (.bool t315)) (fun _ hk => hk.1.2) (.slice Ao16 t316.length co16)) (fun _ hk => hk.1.2) (.slice Ao17 t319.length co17)) (fun _ hk => hk.2) (.bool t322)) (fun _ hk => hk.2) (.slice Ao22 t323.length co22)) (fun _ hk => hk.2) (.slice Ao23 t326.length co23)) (fun _ h_ => h_.1)) (fun _ h_ => h_.1))) (by decide)) hk (fun _ h => h.2)) (fun _ h => h.1)); replace HO325 := Aside0.mk (Kd.R_mono (Kd.R_keep (IsS40.apart (show IsS40 w _ g311 t309 t329 from by repeat (first | (with_reducible first | exact HI311.out | apply IsS40.alloc | apply IsS40.drewN | apply IsS40.drew | apply IsS40.set_1 | refine IsS40.far ?_ NB311_307.out _ | refine IsS40.far ?_ NB311_308.out _ | refine IsS40.far ?_ NB311_330.out _ | refine IsS40.far ?_ NB311_331.out _) | exact HI311.out)) ((Kd.R_mono (Kd.R_mono (Kd.R_far (p := ⟨gb331, 2, none⟩) (Kd.R_far (p := ⟨gb331, 1, none⟩) (Kd.R_far (p := ⟨gb331, 0, none⟩) (Kd.R_far (p := ⟨gb330, 2, none⟩) (Kd.R_far (p := ⟨gb330, 1, none⟩) (Kd.R_far (p := ⟨gb330, 0, none⟩) (Kd.R_types (Kd.R_types HO325.out BK330.out (by decide)) BK331.out (by decide)) (fun _ hk => hk.1.2) (.bool t315)) (fun _ hk => hk.1.2) (.slice Ao16 t316.length co16)) (fun _ hk => hk.1.2) (.slice Ao17 t319.length co17)) (fun _ hk => hk.2) (.bool t322)) (fun _ hk => hk.2) (.slice Ao22 t323.length co22)) (fun _ hk => hk.2) (.slice Ao23 t326.length co23)) (fun _ h_ => h_.1)) (fun _ h_ => h_.1))) (by decide)) hk (fun _ h => h.2)) (fun _ h => h.1)); replace HO328 := Aside0.mk (Kd.Q_mono (Kd.Q_keep (IsS40.apartQ (show IsS40 w _ g311 t309 t329 from by repeat (first | (with_reducible first | exact HI311.out | apply IsS40.alloc | apply IsS40.drewN | apply IsS40.drew | apply IsS40.set_1 | refine IsS40.far ?_ NB311_307.out _ | refine IsS40.far ?_ NB311_308.out _ | refine IsS40.far ?_ NB311_330.out _ | refine IsS40.far ?_ NB311_331.out _) | exact HI311.out)) ((Kd.Q_mono (Kd.Q_mono (Kd.Q_far (p := ⟨gb331, 2, none⟩) (Kd.Q_far (p := ⟨gb331, 1, none⟩) (Kd.Q_far (p := ⟨gb331, 0, none⟩) (Kd.Q_far (p := ⟨gb330, 2, none⟩) (Kd.Q_far (p := ⟨gb330, 1, none⟩) (Kd.Q_far (p := ⟨gb330, 0, none⟩) (Kd.Q_types (Kd.Q_types HO328.out BK330.out (by decide)) BK331.out (by decide)) (fun _ hk => hk.1.2) (.bool t315)) (fun _ hk => hk.1.2) (.slice Ao16 t316.length co16)) (fun _ hk => hk.1.2) (.slice Ao17 t319.length co17)) (fun _ hk => hk.2) (.bool t322)) (fun _ hk => hk.2) (.slice Ao22 t323.length co22)) (fun _ hk => hk.2) (.slice Ao23 t326.length co23)) (fun _ h_ => h_.1)) (fun _ h_ => h_.1))) (by decide)) hk (fun _ h => h.2)) (fun _ h => h.1)); replace BK330 := Aside0.mk (KeepBut.blk hk (g' := gb330) (o := .cells #[.bool t315, .slice Ao16 t316.length co16, .slice Ao17 t319.length co17] 26 (0, 0)) (by (with_reducible repeat (first | refine blk_drewN ?_ _ | refine blk_drew ?_ | refine blk_alloc ?_ _)); refine blk_far ?_ NB330_331.out _; (with_reducible repeat (first | refine blk_drewN ?_ _ | refine blk_drew ?_ | refine blk_alloc ?_ _)); refine blk_far ?_ NB330_331.out _; (with_reducible repeat (first | refine blk_drewN ?_ _ | refine blk_drew ?_ | refine blk_alloc ?_ _)); refine blk_far ?_ NB330_331.out _; (with_reducible repeat (first | refine blk_drewN ?_ _ | refine blk_drew ?_ | refine blk_alloc ?_ _)); refine blk_put (cs := #[.bool t315, .slice Ao16 t316.length co16, .slice none 0 0]) ?_ 2 _ rfl; (with_reducible repeat (first | refine blk_drewN ?_ _ | refine blk_drew ?_ | refine blk_alloc ?_ _)); refine blk_put (cs := #[.bool t315, .slice none 0 0, .slice none 0 0]) ?_ 1 _ rfl; (with_reducible repeat (first | refine blk_drewN ?_ _ | refine blk_drew ?_ | refine blk_alloc ?_ _)); refine blk_put (cs := #[.bool false, .slice none 0 0, .slice none 0 0]) ?_ 0 _ rfl; (with_reducible repeat (first | refine blk_drewN ?_ _ | refine blk_drew ?_ | refine blk_alloc ?_ _)); exact BK330.out) NB330_311.out (by simp)); replace BK331 := Aside0.mk (KeepBut.blk hk (g' := gb331) (o := .cells #[.bool t322, .slice Ao22 t323.length co22, .slice Ao23 t326.length co23] 26 (0, 0)) (by (with_reducible repeat (first | refine blk_drewN ?_ _ | refine blk_drew ?_ | refine blk_alloc ?_ _)); refine blk_put (cs := #[.bool t322, .slice Ao22 t323.length co22, .slice none 0 0]) ?_ 2 _ rfl; (with_reducible repeat (first | refine blk_drewN ?_ _ | refine blk_drew ?_ | refine blk_alloc ?_ _)); refine blk_put (cs := #[.bool t322, .slice none 0 0, .slice none 0 0]) ?_ 1 _ rfl; (with_reducible repeat (first | refine blk_drewN ?_ _ | refine blk_drew ?_ | refine blk_alloc ?_ _)); refine blk_put (cs := #[.bool false, .slice none 0 0, .slice none 0 0]) ?_ 0 _ rfl; (with_reducible repeat (first | refine blk_drewN ?_ _ | refine blk_drew ?_ | refine blk_alloc ?_ _)); refine blk_far ?_ NB331_330.out _; (with_reducible repeat (first | refine blk_drewN ?_ _ | refine blk_drew ?_ | refine blk_alloc ?_ _)); refine blk_far ?_ NB331_330.out _; (with_reducible repeat (first | refine blk_drewN ?_ _ | refine blk_drew ?_ | refine blk_alloc ?_ _)); refine blk_far ?_ NB331_330.out _; (with_reducible repeat (first | refine blk_drewN ?_ _ | refine blk_drew ?_ | refine blk_alloc ?_ _)); exact BK331.out) NB331_311.out (by simp)); replace HI311 := Aside0.mk (hi); replace HB := Aside0.mk (hb)))
   go_meet
   case rel => exact ⟨_, (false), (by first | rfl | (simp; done) | (simp [*]; done)), H', ⟨by first | omega | exact Nat.le_refl _⟩, ⟨by exact Kd.N_mono HO314.out (fun _ hk => ⟨hk.1.1.1, ⟨hk.1.1.2.1, ⟨hk.1.1.2.2.1, ⟨hk.1.1.2.2.2.1, ⟨hk.1.1.2.2.2.2.1, ⟨hk.1.1.2.2.2.2.2.1, ⟨hk.1.1.2.2.2.2.2.2.1, ⟨hk.1.2, hk.2⟩⟩⟩⟩⟩⟩⟩⟩)⟩, ⟨HO318.out⟩, ⟨HO321.out⟩, ⟨HO325.out⟩, ⟨HO328.out⟩, kk BK307, kk BK308, kk BK330, kk BK331, ⟨by repeat (first | (with_reducible first | exact HB.out | apply below_alloc | apply pw_below_drewN | apply below_drew1 | refine below_set ?_ (IsS40.ge HI311.out) | refine below_set ?_ GE307.out | refine below_set ?_ GE308.out | refine below_set ?_ GE330.out | refine below_set ?_ GE331.out) | exact HB.out)⟩⟩
 case rest =>
  clear HC4
  obtain ⟨kq, x26_3, rfl, HA, HJ3, HO_6, HO_331001, HO_331002, HO_332001, HO_332002, BK307, BK308, BK330, BK331, HB⟩ := hcut
  cases kq with
  | zero => exact absurd HA.out (by simp [spec_DrawShapeIn.j0])
  | succ kj3 =>
   have H := HA.out
   clear HA
   simp only [spec_DrawShapeIn.j0] at H
   by_cases c40 : x26_3 = true
   ·subst c40
    replace H := it H
    replace H := Option.bind_eq_some_iff.mp H
    obtain ⟨⟨t335, t336, t339⟩, A410, H⟩ := H
    replace H : (if t335 = true then (some (t312, t315, t316, t319, t335, t336, t339)) else (some (t312, t315, t316, t319, t322, t323, t326))) = some (r1, r2, r3, r4, r5, r6, r7) := H
    have A41 := Aside0.mk A410
    clear A410
    by_cases c42 : t335 = true
    ·subst c42
     replace H := it H
     simp only [Option.some.injEq, Prod.mk.injEq] at H
     obtain ⟨rfl, rfl, rfl, rfl, rfl, rfl, rfl⟩ := H
     have hnb43 := NB330_307.out
     have hnc43 := NB307_330.out
     have hnb44 := NB330_308.out
     have hnc44 := NB308_330.out
     have hnb45 := NB330_331.out
     have hnc45 := NB331_330.out
     obtain ⟨_,_,_,_,_,_⟩ := cf3 BK330
     have hnb47 := NB331_307.out
     have hnc47 := NB307_331.out
     have hnb48 := NB331_308.out
     have hnc48 := NB308_331.out
     obtain ⟨_,_,_,_,_,_⟩ := cf3 BK331
     obtain ⟨Ao50, co50, eo50⟩ := Kd.N_slice HO_6.out
     subst eo50
     try go_wp2_with (first | ((with_reducible refine gc 12 rfl ?_); refine gl (some 30) Try.func12 #[.slice Ao50 t312.length co50, .agg #[.bool t315, .slice Ao16 t316.length co16, .slice Ao17 t319.length co17], .agg #[.bool t322, .slice Ao22 t323.length co22, .slice Ao23 t326.length co23]] rfl ?_; (with_reducible refine (spec_l11Join.calls kj3 _ _ t312 t315 _ _ t316 _ _ t319 t322 _ _ t323 _ _ t326 true t336 t339 _ ?side1 ?side2 ?side3 ?side4 ?side5 ?side6 ?side7 ?side8 ?side9 ?side10 A41.out).mono ?_); (case side1 => exact (Kd.N_reads' HO_6.out).2.2); (case side2 => exact (Kd.N_reads' HO_6.out).2.1); (case side3 => exact (Kd.R_reads' HO_331001.out).2.2); (case side4 => exact (Kd.R_reads' HO_331001.out).2.1); (case side5 => exact (Kd.Q_reads' HO_331002.out).2.2); (case side6 => exact (Kd.Q_reads' HO_331002.out).2.1); (case side7 => exact (Kd.R_reads' HO_332001.out).2.2); (case side8 => exact (Kd.R_reads' HO_332001.out).2.1); (case side9 => exact (Kd.Q_reads' HO_332002.out).2.2); (case side10 => exact (Kd.Q_reads' HO_332002.out).2.1); rintro e w51 ⟨v337, v340, rfl, ho0, ho1, hb⟩; refine ⟨_, rfl, ?_⟩; have HO338 := Aside0.mk (Kd.R_lower (Kd.R_new' (Kd.R_new' (Kd.R_new' (Kd.R_new' (Kd.R_newM (M := fun k_ => (w.heap.size ≤ k_)) ho0 (below_size bl) (fun k_ h_ => h_)) (Kd.R_lt HO_331001.out)) (Kd.Q_lt HO_331002.out)) (Kd.R_lt HO_332001.out)) (Kd.Q_lt HO_332002.out)) (below_size bl)); have HO341 := Aside0.mk (Kd.R_lower (Kd.R_new' (Kd.R_new' (Kd.R_new' (Kd.R_new' (Kd.R_newM (M := fun k_ => (w.heap.size ≤ k_)) ho1 (below_size bl) (fun k_ h_ => h_)) (Kd.R_lt HO_331001.out)) (Kd.Q_lt HO_331002.out)) (Kd.R_lt HO_332001.out)) (Kd.Q_lt HO_332002.out)) (below_size bl)); replace HO_6 := Aside0.mk (Kd.N_mono (Kd.N_told (Kd.N_told (Kd.N_old HO_6.out hb) (Kd.R_base ho0)) (Kd.R_base ho1)) (fun _ h_ => h_.1)); replace HO_331001 := Aside0.mk (Kd.R_mono (Kd.R_told (Kd.R_told (Kd.R_old HO_331001.out hb) (Kd.R_base ho0)) (Kd.R_base ho1)) (fun _ h_ => h_.1)); replace HO_331002 := Aside0.mk (Kd.Q_mono (Kd.Q_told (Kd.Q_told (Kd.Q_old HO_331002.out hb) (Kd.R_base ho0)) (Kd.R_base ho1)) (fun _ h_ => h_.1)); replace HO_332001 := Aside0.mk (Kd.R_mono (Kd.R_told (Kd.R_told (Kd.R_old HO_332001.out hb) (Kd.R_base ho0)) (Kd.R_base ho1)) (fun _ h_ => h_.1)); replace HO_332002 := Aside0.mk (Kd.Q_mono (Kd.Q_told (Kd.Q_told (Kd.Q_old HO_332002.out hb) (Kd.R_base ho0)) (Kd.R_base ho1)) (fun _ h_ => h_.1)); replace BK307 := kb BK307 hb; replace BK308 := kb BK308 hb; replace BK330 := kb BK330 hb; replace BK331 := kb BK331 hb; replace HB := hs HB hb) | ((with_reducible refine gd 9 rfl ?_); refine bx 9 #[.bool false, .slice none 0 0, .slice none 0 0] 26 ?_; intro gb342 hg w52 hbox hb; have BK342 := Aside0.mk hbox; have GW342 := hz HB hg; have GE342 := hz HB hg; have NB307_342 := nl BK307 hg; have NB342_307 := ng BK307 hg; have NB308_342 := nl BK308 hg; have NB342_308 := ng BK308 hg; have NB330_342 := nl BK330 hg; have NB342_330 := ng BK330 hg; have NB331_342 := nl BK331 hg; have NB342_331 := ng BK331 hg; replace HO_6 := Aside0.mk (Kd.N_below (Kd.N_elderB HO_6.out gb342 (Nat.le_of_eq hg.symm)) hb); replace HO_331001 := rb HO_331001 hb; replace HO_331002 := qb HO_331002 hb; replace HO_332001 := rb HO_332001 hb; replace HO_332002 := qb HO_332002 hb; replace HO338 := rb HO338 hb; replace HO341 := rb HO341 hb; replace BK307 := kb BK307 hb; replace BK308 := kb BK308 hb; replace BK330 := kb BK330 hb; replace BK331 := kb BK331 hb; replace HB := hs HB hb; clear hb hbox hg; have hnb53 := NB342_307.out; have hnc53 := NB307_342.out; have hnb54 := NB342_308.out; have hnc54 := NB308_342.out; have hnb55 := NB342_330.out; have hnc55 := NB330_342.out; have hnb56 := NB342_331.out; have hnc56 := NB331_342.out; obtain ⟨_,_,_,_,_,_⟩ := cf3 BK342; obtain ⟨Ao58, co58, eo58⟩ := Kd.R_slice HO338.out; subst eo58; obtain ⟨Ao59, co59, eo59⟩ := Kd.R_slice HO341.out; subst eo59))
     have n0_ : Aside0 (Kd.N k48 48 (((w52.setCell ⟨gb342, 0, none⟩ (.bool true)).setCell ⟨gb342, 1, none⟩ (.slice Ao58 t336.length co58)).setCell ⟨gb342, 2, none⟩ (.slice Ao59 t339.length co59)) w.heap.size (fun k_ => (w.heap.size ≤ k_) ∧ sospec_DrawShapeIn k_ Ao16 t316 co16 ∧ sospec_DrawShapeIn k_ Ao17 t319 co17 ∧ sospec_DrawShapeIn k_ Ao22 t323 co22 ∧ sospec_DrawShapeIn k_ Ao23 t326 co23 ∧ sospec_DrawShapeIn k_ Ao58 t336 co58 ∧ sospec_DrawShapeIn k_ Ao59 t339 co59 ∧ k_ ≠ gb307 ∧ k_ ≠ gb308 ∧ k_ ≠ gb330 ∧ k_ ≠ gb331 ∧ k_ ≠ gb342) (.slice Ao50 t312.length co50) t312) := ⟨by exact Kd.N_mono (Kd.N_far (p := ⟨gb342, 2, none⟩) (Kd.N_far (p := ⟨gb342, 1, none⟩) (Kd.N_far (p := ⟨gb342, 0, none⟩) (Kd.N_mono HO_6.out (fun k_ hk => (⟨hk, hk.2⟩ : _ ∧ k_ ≠ gb342))) (fun _ hk => hk.2) (.bool true)) (fun _ hk => hk.2) (.slice Ao58 t336.length co58)) (fun _ hk => hk.2) (.slice Ao59 t339.length co59)) (fun _ hk => ⟨hk.1.1.1.1.1, ⟨hk.1.1.1.1.2.1, ⟨hk.1.1.1.1.2.2.1, ⟨hk.1.1.1.1.2.2.2.1, ⟨hk.1.1.1.1.2.2.2.2.1, ⟨hk.1.1.1.2, ⟨hk.1.1.2, ⟨hk.1.1.1.1.2.2.2.2.2.1, ⟨hk.1.1.1.1.2.2.2.2.2.2.1, ⟨hk.1.1.1.1.2.2.2.2.2.2.2.1, ⟨hk.1.1.1.1.2.2.2.2.2.2.2.2, hk.1.2⟩⟩⟩⟩⟩⟩⟩⟩⟩⟩⟩)⟩
     have n1_ : Aside0 (Kd.R (Kd.int .i64) 3 (((w52.setCell ⟨gb342, 0, none⟩ (.bool true)).setCell ⟨gb342, 1, none⟩ (.slice Ao58 t336.length co58)).setCell ⟨gb342, 2, none⟩ (.slice Ao59 t339.length co59)) w.heap.size (fun k_ => (w.heap.size ≤ k_) ∧ sospec_DrawShapeIn k_ Ao17 t319 co17 ∧ sospec_DrawShapeIn k_ Ao22 t323 co22 ∧ sospec_DrawShapeIn k_ Ao23 t326 co23 ∧ sospec_DrawShapeIn k_ Ao58 t336 co58 ∧ sospec_DrawShapeIn k_ Ao59 t339 co59) (.slice Ao16 t316.length co16) t316) := ⟨by exact Kd.R_mono (Kd.R_far (p := ⟨gb342, 2, none⟩) (Kd.R_far (p := ⟨gb342, 1, none⟩) (Kd.R_far (p := ⟨gb342, 0, none⟩) (Kd.R_types HO_331001.out BK342.out (by decide)) (fun _ hk => hk.2) (.bool true)) (fun _ hk => hk.2) (.slice Ao58 t336.length co58)) (fun _ hk => hk.2) (.slice Ao59 t339.length co59)) (fun _ hk => ⟨hk.1.1.1.1, ⟨hk.1.1.1.2.1, ⟨hk.1.1.1.2.2.1, ⟨hk.1.1.1.2.2.2, ⟨hk.1.1.2, hk.1.2⟩⟩⟩⟩⟩)⟩
     have n2_ : Aside0 (Kd.Q (Kd.int .i64) 3 (((w52.setCell ⟨gb342, 0, none⟩ (.bool true)).setCell ⟨gb342, 1, none⟩ (.slice Ao58 t336.length co58)).setCell ⟨gb342, 2, none⟩ (.slice Ao59 t339.length co59)) w.heap.size (fun k_ => (w.heap.size ≤ k_) ∧ sospec_DrawShapeIn k_ Ao16 t316 co16 ∧ sospec_DrawShapeIn k_ Ao22 t323 co22 ∧ sospec_DrawShapeIn k_ Ao23 t326 co23 ∧ sospec_DrawShapeIn k_ Ao58 t336 co58 ∧ sospec_DrawShapeIn k_ Ao59 t339 co59) (.slice Ao17 t319.length co17) t319) := ⟨by exact Kd.Q_mono (Kd.Q_far (p := ⟨gb342, 2, none⟩) (Kd.Q_far (p := ⟨gb342, 1, none⟩) (Kd.Q_far (p := ⟨gb342, 0, none⟩) (Kd.Q_types HO_331002.out BK342.out (by decide)) (fun _ hk => hk.2) (.bool true)) (fun _ hk => hk.2) (.slice Ao58 t336.length co58)) (fun _ hk => hk.2) (.slice Ao59 t339.length co59)) (fun _ hk => ⟨hk.1.1.1.1, ⟨hk.1.1.1.2.1, ⟨hk.1.1.1.2.2.1, ⟨hk.1.1.1.2.2.2, ⟨hk.1.1.2, hk.1.2⟩⟩⟩⟩⟩)⟩
     have n3_ : Aside0 (Kd.R (Kd.int .i64) 3 (((w52.setCell ⟨gb342, 0, none⟩ (.bool true)).setCell ⟨gb342, 1, none⟩ (.slice Ao58 t336.length co58)).setCell ⟨gb342, 2, none⟩ (.slice Ao59 t339.length co59)) w.heap.size (fun k_ => (w.heap.size ≤ k_) ∧ sospec_DrawShapeIn k_ Ao16 t316 co16 ∧ sospec_DrawShapeIn k_ Ao17 t319 co17 ∧ sospec_DrawShapeIn k_ Ao23 t326 co23 ∧ sospec_DrawShapeIn k_ Ao58 t336 co58 ∧ sospec_DrawShapeIn k_ Ao59 t339 co59) (.slice Ao22 t323.length co22) t323) := ⟨by exact Kd.R_mono (Kd.R_far (p := ⟨gb342, 2, none⟩) (Kd.R_far (p := ⟨gb342, 1, none⟩) (Kd.R_far (p := ⟨gb342, 0, none⟩) (Kd.R_types HO_332001.out BK342.out (by decide)) (fun _ hk => hk.2) (.bool true)) (fun _ hk => hk.2) (.slice Ao58 t336.length co58)) (fun _ hk => hk.2) (.slice Ao59 t339.length co59)) (fun _ hk => ⟨hk.1.1.1.1, ⟨hk.1.1.1.2.1, ⟨hk.1.1.1.2.2.1, ⟨hk.1.1.1.2.2.2, ⟨hk.1.1.2, hk.1.2⟩⟩⟩⟩⟩)⟩
     have n4_ : Aside0 (Kd.Q (Kd.int .i64) 3 (((w52.setCell ⟨gb342, 0, none⟩ (.bool true)).setCell ⟨gb342, 1, none⟩ (.slice Ao58 t336.length co58)).setCell ⟨gb342, 2, none⟩ (.slice Ao59 t339.length co59)) w.heap.size (fun k_ => (w.heap.size ≤ k_) ∧ sospec_DrawShapeIn k_ Ao16 t316 co16 ∧ sospec_DrawShapeIn k_ Ao17 t319 co17 ∧ sospec_DrawShapeIn k_ Ao22 t323 co22 ∧ sospec_DrawShapeIn k_ Ao58 t336 co58 ∧ sospec_DrawShapeIn k_ Ao59 t339 co59) (.slice Ao23 t326.length co23) t326) := ⟨by exact Kd.Q_mono (Kd.Q_far (p := ⟨gb342, 2, none⟩) (Kd.Q_far (p := ⟨gb342, 1, none⟩) (Kd.Q_far (p := ⟨gb342, 0, none⟩) (Kd.Q_types HO_332002.out BK342.out (by decide)) (fun _ hk => hk.2) (.bool true)) (fun _ hk => hk.2) (.slice Ao58 t336.length co58)) (fun _ hk => hk.2) (.slice Ao59 t339.length co59)) (fun _ hk => ⟨hk.1.1.1.1, ⟨hk.1.1.1.2.1, ⟨hk.1.1.1.2.2.1, ⟨hk.1.1.1.2.2.2, ⟨hk.1.1.2, hk.1.2⟩⟩⟩⟩⟩)⟩
     have n5_ : Aside0 (Kd.R (Kd.int .i64) 3 (((w52.setCell ⟨gb342, 0, none⟩ (.bool true)).setCell ⟨gb342, 1, none⟩ (.slice Ao58 t336.length co58)).setCell ⟨gb342, 2, none⟩ (.slice Ao59 t339.length co59)) w.heap.size (fun k_ => (w.heap.size ≤ k_) ∧ sospec_DrawShapeIn k_ Ao16 t316 co16 ∧ sospec_DrawShapeIn k_ Ao17 t319 co17 ∧ sospec_DrawShapeIn k_ Ao22 t323 co22 ∧ sospec_DrawShapeIn k_ Ao23 t326 co23 ∧ sospec_DrawShapeIn k_ Ao59 t339 co59) (.slice Ao58 t336.length co58) t336) := ⟨by exact Kd.R_mono (Kd.R_far (p := ⟨gb342, 2, none⟩) (Kd.R_far (p := ⟨gb342, 1, none⟩) (Kd.R_far (p := ⟨gb342, 0, none⟩) (Kd.R_types HO338.out BK342.out (by decide)) (fun _ hk => hk.2) (.bool true)) (fun _ hk => hk.2) (.slice Ao58 t336.length co58)) (fun _ hk => hk.2) (.slice Ao59 t339.length co59)) (fun _ hk => ⟨hk.1.1.1.1.1.1, ⟨hk.1.1.1.1.2, ⟨hk.1.1.1.2, ⟨hk.1.1.2, ⟨hk.1.2, hk.1.1.1.1.1.2⟩⟩⟩⟩⟩)⟩
     have n6_ : Aside0 (Kd.R (Kd.int .i64) 3 (((w52.setCell ⟨gb342, 0, none⟩ (.bool true)).setCell ⟨gb342, 1, none⟩ (.slice Ao58 t336.length co58)).setCell ⟨gb342, 2, none⟩ (.slice Ao59 t339.length co59)) w.heap.size (fun k_ => (w.heap.size ≤ k_) ∧ sospec_DrawShapeIn k_ Ao16 t316 co16 ∧ sospec_DrawShapeIn k_ Ao17 t319 co17 ∧ sospec_DrawShapeIn k_ Ao22 t323 co22 ∧ sospec_DrawShapeIn k_ Ao23 t326 co23 ∧ sospec_DrawShapeIn k_ Ao58 t336 co58) (.slice Ao59 t339.length co59) t339) := ⟨by exact Kd.R_mono (Kd.R_far (p := ⟨gb342, 2, none⟩) (Kd.R_far (p := ⟨gb342, 1, none⟩) (Kd.R_far (p := ⟨gb342, 0, none⟩) (Kd.R_types HO341.out BK342.out (by decide)) (fun _ hk => hk.2) (.bool true)) (fun _ hk => hk.2) (.slice Ao58 t336.length co58)) (fun _ hk => hk.2) (.slice Ao59 t339.length co59)) (fun _ hk => ⟨hk.1.1.1.1.1.1, ⟨hk.1.1.1.1.2, ⟨hk.1.1.1.2, ⟨hk.1.1.2, ⟨hk.1.2, hk.1.1.1.1.1.2⟩⟩⟩⟩⟩)⟩
     have n7_ : Aside0 ((((w52.setCell ⟨gb342, 0, none⟩ (.bool true)).setCell ⟨gb342, 1, none⟩ (.slice Ao58 t336.length co58)).setCell ⟨gb342, 2, none⟩ (.slice Ao59 t339.length co59)).heap[gb307]? = some (.cells #[.bool false, .slice none 0 0, .slice none 0 0] 26 (0, 0))) := kf
     have n8_ : Aside0 ((((w52.setCell ⟨gb342, 0, none⟩ (.bool true)).setCell ⟨gb342, 1, none⟩ (.slice Ao58 t336.length co58)).setCell ⟨gb342, 2, none⟩ (.slice Ao59 t339.length co59)).heap[gb308]? = some (.cells #[.bool false, .slice none 0 0, .slice none 0 0] 26 (0, 0))) := kf
     have n9_ : Aside0 ((((w52.setCell ⟨gb342, 0, none⟩ (.bool true)).setCell ⟨gb342, 1, none⟩ (.slice Ao58 t336.length co58)).setCell ⟨gb342, 2, none⟩ (.slice Ao59 t339.length co59)).heap[gb330]? = some (.cells #[.bool t315, .slice Ao16 t316.length co16, .slice Ao17 t319.length co17] 26 (0, 0))) := kf
     have n10_ : Aside0 ((((w52.setCell ⟨gb342, 0, none⟩ (.bool true)).setCell ⟨gb342, 1, none⟩ (.slice Ao58 t336.length co58)).setCell ⟨gb342, 2, none⟩ (.slice Ao59 t339.length co59)).heap[gb331]? = some (.cells #[.bool t322, .slice Ao22 t323.length co22, .slice Ao23 t326.length co23] 26 (0, 0))) := kf
     have n11_ : Aside0 ((((w52.setCell ⟨gb342, 0, none⟩ (.bool true)).setCell ⟨gb342, 1, none⟩ (.slice Ao58 t336.length co58)).setCell ⟨gb342, 2, none⟩ (.slice Ao59 t339.length co59)).heap[gb342]? = some (.cells #[.bool true, .slice Ao58 t336.length co58, .slice Ao59 t339.length co59] 26 (0, 0))) := kf
     have n12_ : Aside0 (Below w.heap.size w (((w52.setCell ⟨gb342, 0, none⟩ (.bool true)).setCell ⟨gb342, 1, none⟩ (.slice Ao58 t336.length co58)).setCell ⟨gb342, 2, none⟩ (.slice Ao59 t339.length co59))) := ⟨bl⟩
     (try clear HO_6)
     (try clear HO_331001)
     (try clear HO_331002)
     (try clear HO_332001)
     (try clear HO_332002)
     (try clear HO338)
     (try clear HO341)
     (try clear BK307)
     (try clear BK308)
     (try clear BK330)
     (try clear BK331)
     (try clear BK342)
     (try clear HB)
     generalize (((w52.setCell ⟨gb342, 0, none⟩ (.bool true)).setCell ⟨gb342, 1, none⟩ (.slice Ao58 t336.length co58)).setCell ⟨gb342, 2, none⟩ (.slice Ao59 t339.length co59)) = w60 at n0_ n1_ n2_ n3_ n4_ n5_ n6_ n7_ n8_ n9_ n10_ n11_ n12_ ⊢
     have HO_6 := n0_
     have HO_331001 := n1_
     have HO_331002 := n2_
     have HO_332001 := n3_
     have HO_332002 := n4_
     have HO338 := n5_
     have HO341 := n6_
     have BK307 := n7_
     have BK308 := n8_
     have BK330 := n9_
     have BK331 := n10_
     have BK342 := n11_
     have HB := n12_
     clear n0_ n1_ n2_ n3_ n4_ n5_ n6_ n7_ n8_ n9_ n10_ n11_ n12_
     replace HO_6 := dN HO_6
     replace HO_331001 := dR HO_331001
     replace HO_331002 := dQ HO_331002
     replace HO_332001 := dR HO_332001
     replace HO_332002 := dQ HO_332002
     replace HO338 := dR HO338
     replace HO341 := dR HO341
     replace BK307 := dK BK307
     replace BK308 := dK BK308
     replace BK330 := dK BK330
     replace BK331 := dK BK331
     replace BK342 := dK BK342
     replace HB := Aside0.mk (below_drew1 HB.out)
     refine start_ (n := 6) (S := fun w' => w'.cell? ⟨gb330, 0, none⟩ = some (.bool t315) ∧ w'.cell? ⟨gb330, 1, none⟩ = some (.slice Ao16 t316.length co16) ∧ w'.cell? ⟨gb330, 2, none⟩ = some (.slice Ao17 t319.length co17) ∧ w'.cell? ⟨gb342, 0, none⟩ = some (.bool true) ∧ w'.cell? ⟨gb342, 1, none⟩ = some (.slice Ao58 t336.length co58) ∧ w'.cell? ⟨gb342, 2, none⟩ = some (.slice Ao59 t339.length co59)) (ds := []) #[false, false, false, false, false, false] (by kernel_rfl) rfl rfl ⟨(blk_cell BK330.out 0).trans rfl, (blk_cell BK330.out 1).trans rfl, (blk_cell BK330.out 2).trans rfl, (blk_cell BK342.out 0).trans rfl, (blk_cell BK342.out 1).trans rfl, (blk_cell BK342.out 2).trans rfl⟩ (fun hHeld => ?_)
     generalize w60.drew = w61 at HO_6 HO_331001 HO_331002 HO_332001 HO_332002 HO338 HO341 BK307 BK308 BK330 BK331 BK342 HB hHeld ⊢
     refine pure_ (i := 0) (N := some 33) (v := ?_) (a' := ?_) #[true, false, false, false, false, false] rfl rfl (by kernel_rfl) (fun _ _ _ h => h) (Or.inl ⟨by rfl, ?_⟩) ?_ ?_
     rotate_left
     ·intro w'
      go_simp
      with_reducible rfl
     rotate_left
     ·simp only [Act.put, List.setIfInBounds_toArray, List.set_cons_zero, List.set_cons_succ, i64_w, i32_w]
      rfl
     refine pure_ (i := 3) (N := some 2) (v := ?_) (a' := ?_) #[true, false, false, true, false, false] rfl rfl (by kernel_rfl) (fun _ _ _ h => h) (Or.inl ⟨by rfl, ?_⟩) ?_ ?_
     rotate_left
     ·intro w'
      go_simp
      with_reducible rfl
     rotate_left
     ·simp only [Act.put, List.setIfInBounds_toArray, List.set_cons_zero, List.set_cons_succ, i64_w, i32_w]
      rfl
     refine take_ (i := 1) (N := some 34) (v := ?_) (a' := ?_) #[true, true, false, true, false, false] rfl rfl (by kernel_rfl) (fun _ _ _ h => h) (Or.inl ⟨by rfl, ?_⟩) hHeld ?_ ?_
     rotate_left
     ·rintro w' ⟨s0, s1, s2, s3, s4, s5⟩
      go_simp
      with_reducible rfl
     rotate_left
     ·simp only [Act.put, List.setIfInBounds_toArray, List.set_cons_zero, List.set_cons_succ, i64_w, i32_w]
      rfl
     refine take_ (i := 2) (N := some 35) (v := ?_) (a' := ?_) #[true, true, true, true, false, false] rfl rfl (by kernel_rfl) (fun _ _ _ h => h) (Or.inl ⟨by rfl, ?_⟩) hHeld ?_ ?_
     rotate_left
     ·rintro w' ⟨s0, s1, s2, s3, s4, s5⟩
      go_simp
      with_reducible rfl
     rotate_left
     ·simp only [Act.put, List.setIfInBounds_toArray, List.set_cons_zero, List.set_cons_succ, i64_w, i32_w]
      rfl
     refine one_ (i := 4) (N := none) #[true, true, true, true, true, false] rfl rfl (by kernel_rfl) (by decide) (fun K hK => ?_)
     have hs62 : w61.cell? ⟨gb307, 0, none⟩ = some (.bool false) := (blk_cell BK307.out 0).trans rfl
     have hfs62 := blk_frozen BK307.out 0
     have hns62_1 := NB308_307.out
     have hns62_2 := NB330_307.out
     have hns62_3 := NB331_307.out
     have hns62_4 := NB342_307.out
     have hms62_1 := NB307_308.out
     have hms62_2 := NB307_330.out
     have hms62_3 := NB307_331.out
     have hms62_4 := NB307_342.out
     have hs63 : w61.cell? ⟨gb307, 1, none⟩ = some (.slice none 0 0) := (blk_cell BK307.out 1).trans rfl
     have hfs63 := blk_frozen BK307.out 1
     have hns63_1 := NB308_307.out
     have hns63_2 := NB330_307.out
     have hns63_3 := NB331_307.out
     have hns63_4 := NB342_307.out
     have hms63_1 := NB307_308.out
     have hms63_2 := NB307_330.out
     have hms63_3 := NB307_331.out
     have hms63_4 := NB307_342.out
     have hs64 : w61.cell? ⟨gb307, 2, none⟩ = some (.slice none 0 0) := (blk_cell BK307.out 2).trans rfl
     have hfs64 := blk_frozen BK307.out 2
     have hns64_1 := NB308_307.out
     have hns64_2 := NB330_307.out
     have hns64_3 := NB331_307.out
     have hns64_4 := NB342_307.out
     have hms64_1 := NB307_308.out
     have hms64_2 := NB307_330.out
     have hms64_3 := NB307_331.out
     have hms64_4 := NB307_342.out
     refine skip_ (w1 := ?_) (by rfl) rfl ?_ ?_
     rotate_left
     ·go_simp
      rfl
     refine hK.out _ _ ⟨((cell_far (p := ⟨gb307, _, none⟩) NB330_307.out _).trans (((cell_far (p := ⟨gb307, _, none⟩) NB330_307.out _).trans (((cell_far (p := ⟨gb307, _, none⟩) NB330_307.out _).trans (hHeld.1)))))), ((cell_far (p := ⟨gb307, _, none⟩) NB330_307.out _).trans (((cell_far (p := ⟨gb307, _, none⟩) NB330_307.out _).trans (((cell_far (p := ⟨gb307, _, none⟩) NB330_307.out _).trans (hHeld.2.1)))))), ((cell_far (p := ⟨gb307, _, none⟩) NB330_307.out _).trans (((cell_far (p := ⟨gb307, _, none⟩) NB330_307.out _).trans (((cell_far (p := ⟨gb307, _, none⟩) NB330_307.out _).trans (hHeld.2.2.1)))))), ((cell_far (p := ⟨gb307, _, none⟩) NB342_307.out _).trans (((cell_far (p := ⟨gb307, _, none⟩) NB342_307.out _).trans (((cell_far (p := ⟨gb307, _, none⟩) NB342_307.out _).trans (hHeld.2.2.2.1)))))), ((cell_far (p := ⟨gb307, _, none⟩) NB342_307.out _).trans (((cell_far (p := ⟨gb307, _, none⟩) NB342_307.out _).trans (((cell_far (p := ⟨gb307, _, none⟩) NB342_307.out _).trans (hHeld.2.2.2.2.1)))))), ((cell_far (p := ⟨gb307, _, none⟩) NB342_307.out _).trans (((cell_far (p := ⟨gb307, _, none⟩) NB342_307.out _).trans (((cell_far (p := ⟨gb307, _, none⟩) NB342_307.out _).trans (hHeld.2.2.2.2.2))))))⟩ (fun hHeld => ?_)
     clear hK K
     refine one_ (i := 5) (N := none) #[true, true, true, true, true, true] rfl rfl (by kernel_rfl) (by decide) (fun K hK => ?_)
     have hs65 : w61.cell? ⟨gb308, 0, none⟩ = some (.bool false) := (blk_cell BK308.out 0).trans rfl
     have hfs65 := blk_frozen BK308.out 0
     have hns65_0 := NB307_308.out
     have hns65_2 := NB330_308.out
     have hns65_3 := NB331_308.out
     have hns65_4 := NB342_308.out
     have hms65_0 := NB308_307.out
     have hms65_2 := NB308_330.out
     have hms65_3 := NB308_331.out
     have hms65_4 := NB308_342.out
     have hs66 : w61.cell? ⟨gb308, 1, none⟩ = some (.slice none 0 0) := (blk_cell BK308.out 1).trans rfl
     have hfs66 := blk_frozen BK308.out 1
     have hns66_0 := NB307_308.out
     have hns66_2 := NB330_308.out
     have hns66_3 := NB331_308.out
     have hns66_4 := NB342_308.out
     have hms66_0 := NB308_307.out
     have hms66_2 := NB308_330.out
     have hms66_3 := NB308_331.out
     have hms66_4 := NB308_342.out
     have hs67 : w61.cell? ⟨gb308, 2, none⟩ = some (.slice none 0 0) := (blk_cell BK308.out 2).trans rfl
     have hfs67 := blk_frozen BK308.out 2
     have hns67_0 := NB307_308.out
     have hns67_2 := NB330_308.out
     have hns67_3 := NB331_308.out
     have hns67_4 := NB342_308.out
     have hms67_0 := NB308_307.out
     have hms67_2 := NB308_330.out
     have hms67_3 := NB308_331.out
     have hms67_4 := NB308_342.out
     refine skip_ (w1 := ?_) (by rfl) rfl ?_ ?_
     rotate_left
     ·go_simp
      rfl
     refine hK.out _ _ ⟨((cell_far (p := ⟨gb308, _, none⟩) NB330_308.out _).trans (((cell_far (p := ⟨gb308, _, none⟩) NB330_308.out _).trans (((cell_far (p := ⟨gb308, _, none⟩) NB330_308.out _).trans (hHeld.1)))))), ((cell_far (p := ⟨gb308, _, none⟩) NB330_308.out _).trans (((cell_far (p := ⟨gb308, _, none⟩) NB330_308.out _).trans (((cell_far (p := ⟨gb308, _, none⟩) NB330_308.out _).trans (hHeld.2.1)))))), ((cell_far (p := ⟨gb308, _, none⟩) NB330_308.out _).trans (((cell_far (p := ⟨gb308, _, none⟩) NB330_308.out _).trans (((cell_far (p := ⟨gb308, _, none⟩) NB330_308.out _).trans (hHeld.2.2.1)))))), ((cell_far (p := ⟨gb308, _, none⟩) NB342_308.out _).trans (((cell_far (p := ⟨gb308, _, none⟩) NB342_308.out _).trans (((cell_far (p := ⟨gb308, _, none⟩) NB342_308.out _).trans (hHeld.2.2.2.1)))))), ((cell_far (p := ⟨gb308, _, none⟩) NB342_308.out _).trans (((cell_far (p := ⟨gb308, _, none⟩) NB342_308.out _).trans (((cell_far (p := ⟨gb308, _, none⟩) NB342_308.out _).trans (hHeld.2.2.2.2.1)))))), ((cell_far (p := ⟨gb308, _, none⟩) NB342_308.out _).trans (((cell_far (p := ⟨gb308, _, none⟩) NB342_308.out _).trans (((cell_far (p := ⟨gb308, _, none⟩) NB342_308.out _).trans (hHeld.2.2.2.2.2))))))⟩ (fun hHeld => ?_)
     clear hK K
     refine done_ (by kernel_rfl) ?_
     try go_wp2
     refine bodyPost_ret (results_list (rs := [.tmp 2, .cell 3 26, .cell 4 26]) rfl (by simp) (.tmp (.cell gb307 26 #[.bool t315, .slice Ao16 t316.length co16, .slice Ao17 t319.length co17] (0, 0) _ rfl (by (with_reducible repeat (first | refine blk_drewN ?_ _ | refine blk_drew ?_ | refine blk_alloc ?_ _)); refine blk_far ?_ NB307_308.out _; (with_reducible repeat (first | refine blk_drewN ?_ _ | refine blk_drew ?_ | refine blk_alloc ?_ _)); refine blk_far ?_ NB307_308.out _; (with_reducible repeat (first | refine blk_drewN ?_ _ | refine blk_drew ?_ | refine blk_alloc ?_ _)); refine blk_far ?_ NB307_308.out _; (with_reducible repeat (first | refine blk_drewN ?_ _ | refine blk_drew ?_ | refine blk_alloc ?_ _)); refine blk_put (cs := #[.bool t315, .slice Ao16 t316.length co16, .slice none 0 0]) ?_ 2 _ rfl; (with_reducible repeat (first | refine blk_drewN ?_ _ | refine blk_drew ?_ | refine blk_alloc ?_ _)); refine blk_put (cs := #[.bool t315, .slice none 0 0, .slice none 0 0]) ?_ 1 _ rfl; (with_reducible repeat (first | refine blk_drewN ?_ _ | refine blk_drew ?_ | refine blk_alloc ?_ _)); refine blk_put (cs := #[.bool false, .slice none 0 0, .slice none 0 0]) ?_ 0 _ rfl; (with_reducible repeat (first | refine blk_drewN ?_ _ | refine blk_drew ?_ | refine blk_alloc ?_ _)); exact BK307.out) Try.underlying26 rfl (by kernel_rfl) (.cell gb308 26 #[.bool true, .slice Ao58 t336.length co58, .slice Ao59 t339.length co59] (0, 0) _ rfl (by (with_reducible repeat (first | refine blk_drewN ?_ _ | refine blk_drew ?_ | refine blk_alloc ?_ _)); refine blk_put (cs := #[.bool true, .slice Ao58 t336.length co58, .slice none 0 0]) ?_ 2 _ rfl; (with_reducible repeat (first | refine blk_drewN ?_ _ | refine blk_drew ?_ | refine blk_alloc ?_ _)); refine blk_put (cs := #[.bool true, .slice none 0 0, .slice none 0 0]) ?_ 1 _ rfl; (with_reducible repeat (first | refine blk_drewN ?_ _ | refine blk_drew ?_ | refine blk_alloc ?_ _)); refine blk_put (cs := #[.bool false, .slice none 0 0, .slice none 0 0]) ?_ 0 _ rfl; (with_reducible repeat (first | refine blk_drewN ?_ _ | refine blk_drew ?_ | refine blk_alloc ?_ _)); refine blk_far ?_ NB308_307.out _; (with_reducible repeat (first | refine blk_drewN ?_ _ | refine blk_drew ?_ | refine blk_alloc ?_ _)); refine blk_far ?_ NB308_307.out _; (with_reducible repeat (first | refine blk_drewN ?_ _ | refine blk_drew ?_ | refine blk_alloc ?_ _)); refine blk_far ?_ NB308_307.out _; (with_reducible repeat (first | refine blk_drewN ?_ _ | refine blk_drew ?_ | refine blk_alloc ?_ _)); exact BK308.out) Try.underlying26 rfl (by kernel_rfl) .nil)))) rfl ?_
     exact ⟨_, _, _, _, _, by first | rfl | (simp [errW_none, errW_some] <;> rfl) | (simp [*, errW_none, errW_some] <;> rfl), by exact Kd.N_mono (Kd.N_far (p := ⟨gb308, 2, none⟩) (Kd.N_far (p := ⟨gb308, 1, none⟩) (Kd.N_far (p := ⟨gb308, 0, none⟩) (Kd.N_far (p := ⟨gb307, 2, none⟩) (Kd.N_far (p := ⟨gb307, 1, none⟩) (Kd.N_far (p := ⟨gb307, 0, none⟩) (Kd.N_mono (Kd.N_mono HO_6.out (fun k_ hk => (⟨hk, hk.2.2.2.2.2.2.2.1⟩ : _ ∧ k_ ≠ gb307))) (fun k_ hk => (⟨hk, hk.1.2.2.2.2.2.2.2.2.1⟩ : _ ∧ k_ ≠ gb308))) (fun _ hk => hk.1.2) (.bool t315)) (fun _ hk => hk.1.2) (.slice Ao16 t316.length co16)) (fun _ hk => hk.1.2) (.slice Ao17 t319.length co17)) (fun _ hk => hk.2) (.bool true)) (fun _ hk => hk.2) (.slice Ao58 t336.length co58)) (fun _ hk => hk.2) (.slice Ao59 t339.length co59)) (fun _ hk => ⟨hk.1.1.1, ⟨hk.1.1.2.1, ⟨hk.1.1.2.2.1, ⟨hk.1.1.2.2.2.2.2.1, hk.1.1.2.2.2.2.2.2.1⟩⟩⟩⟩), by exact Kd.R_mono (Kd.R_far (p := ⟨gb308, 2, none⟩) (Kd.R_far (p := ⟨gb308, 1, none⟩) (Kd.R_far (p := ⟨gb308, 0, none⟩) (Kd.R_far (p := ⟨gb307, 2, none⟩) (Kd.R_far (p := ⟨gb307, 1, none⟩) (Kd.R_far (p := ⟨gb307, 0, none⟩) (Kd.R_types (Kd.R_types HO_331001.out BK307.out (by decide)) BK308.out (by decide)) (fun _ hk => hk.1.2) (.bool t315)) (fun _ hk => hk.1.2) (.slice Ao16 t316.length co16)) (fun _ hk => hk.1.2) (.slice Ao17 t319.length co17)) (fun _ hk => hk.2) (.bool true)) (fun _ hk => hk.2) (.slice Ao58 t336.length co58)) (fun _ hk => hk.2) (.slice Ao59 t339.length co59)) (fun _ hk => ⟨hk.1.1.1, ⟨hk.1.1.2.1, ⟨hk.1.1.2.2.2.2.1, hk.1.1.2.2.2.2.2⟩⟩⟩), by exact Kd.Q_mono (Kd.Q_far (p := ⟨gb308, 2, none⟩) (Kd.Q_far (p := ⟨gb308, 1, none⟩) (Kd.Q_far (p := ⟨gb308, 0, none⟩) (Kd.Q_far (p := ⟨gb307, 2, none⟩) (Kd.Q_far (p := ⟨gb307, 1, none⟩) (Kd.Q_far (p := ⟨gb307, 0, none⟩) (Kd.Q_types (Kd.Q_types HO_331002.out BK307.out (by decide)) BK308.out (by decide)) (fun _ hk => hk.1.2) (.bool t315)) (fun _ hk => hk.1.2) (.slice Ao16 t316.length co16)) (fun _ hk => hk.1.2) (.slice Ao17 t319.length co17)) (fun _ hk => hk.2) (.bool true)) (fun _ hk => hk.2) (.slice Ao58 t336.length co58)) (fun _ hk => hk.2) (.slice Ao59 t339.length co59)) (fun _ hk => ⟨hk.1.1.1, ⟨hk.1.1.2.1, ⟨hk.1.1.2.2.2.2.1, hk.1.1.2.2.2.2.2⟩⟩⟩), by exact Kd.R_mono (Kd.R_far (p := ⟨gb308, 2, none⟩) (Kd.R_far (p := ⟨gb308, 1, none⟩) (Kd.R_far (p := ⟨gb308, 0, none⟩) (Kd.R_far (p := ⟨gb307, 2, none⟩) (Kd.R_far (p := ⟨gb307, 1, none⟩) (Kd.R_far (p := ⟨gb307, 0, none⟩) (Kd.R_types (Kd.R_types HO338.out BK307.out (by decide)) BK308.out (by decide)) (fun _ hk => hk.1.2) (.bool t315)) (fun _ hk => hk.1.2) (.slice Ao16 t316.length co16)) (fun _ hk => hk.1.2) (.slice Ao17 t319.length co17)) (fun _ hk => hk.2) (.bool true)) (fun _ hk => hk.2) (.slice Ao58 t336.length co58)) (fun _ hk => hk.2) (.slice Ao59 t339.length co59)) (fun _ hk => ⟨hk.1.1.1, ⟨hk.1.1.2.1, ⟨hk.1.1.2.2.1, hk.1.1.2.2.2.2.2⟩⟩⟩), Kd.Q_of_R (Kd.R_mono (Kd.R_far (p := ⟨gb308, 2, none⟩) (Kd.R_far (p := ⟨gb308, 1, none⟩) (Kd.R_far (p := ⟨gb308, 0, none⟩) (Kd.R_far (p := ⟨gb307, 2, none⟩) (Kd.R_far (p := ⟨gb307, 1, none⟩) (Kd.R_far (p := ⟨gb307, 0, none⟩) (Kd.R_types (Kd.R_types HO341.out BK307.out (by decide)) BK308.out (by decide)) (fun _ hk => hk.1.2) (.bool t315)) (fun _ hk => hk.1.2) (.slice Ao16 t316.length co16)) (fun _ hk => hk.1.2) (.slice Ao17 t319.length co17)) (fun _ hk => hk.2) (.bool true)) (fun _ hk => hk.2) (.slice Ao58 t336.length co58)) (fun _ hk => hk.2) (.slice Ao59 t339.length co59)) (fun _ hk => ⟨hk.1.1.1, ⟨hk.1.1.2.1, ⟨hk.1.1.2.2.1, hk.1.1.2.2.2.2.2⟩⟩⟩)), bl⟩
    ·replace c42 := Bool.eq_false_iff.mpr c42
     subst c42
     replace H := ie H
     simp only [Option.some.injEq, Prod.mk.injEq] at H
     obtain ⟨rfl, rfl, rfl, rfl, rfl, rfl, rfl⟩ := H
     have hnb68 := NB330_307.out
     have hnc68 := NB307_330.out
     have hnb69 := NB330_308.out
     have hnc69 := NB308_330.out
     have hnb70 := NB330_331.out
     have hnc70 := NB331_330.out
     obtain ⟨_,_,_,_,_,_⟩ := cf3 BK330
     have hnb72 := NB331_307.out
     have hnc72 := NB307_331.out
     have hnb73 := NB331_308.out
     have hnc73 := NB308_331.out
     obtain ⟨_,_,_,_,_,_⟩ := cf3 BK331
     obtain ⟨Ao75, co75, eo75⟩ := Kd.N_slice HO_6.out
     subst eo75
     try go_wp2_with (first | ((with_reducible refine gc 12 rfl ?_); refine gl (some 30) Try.func12 #[.slice Ao75 t312.length co75, .agg #[.bool t315, .slice Ao16 t316.length co16, .slice Ao17 t319.length co17], .agg #[.bool t322, .slice Ao22 t323.length co22, .slice Ao23 t326.length co23]] rfl ?_; (with_reducible refine (spec_l11Join.calls kj3 _ _ t312 t315 _ _ t316 _ _ t319 t322 _ _ t323 _ _ t326 false t336 t339 _ ?side1 ?side2 ?side3 ?side4 ?side5 ?side6 ?side7 ?side8 ?side9 ?side10 A41.out).mono ?_); (case side1 => exact (Kd.N_reads' HO_6.out).2.2); (case side2 => exact (Kd.N_reads' HO_6.out).2.1); (case side3 => exact (Kd.R_reads' HO_331001.out).2.2); (case side4 => exact (Kd.R_reads' HO_331001.out).2.1); (case side5 => exact (Kd.Q_reads' HO_331002.out).2.2); (case side6 => exact (Kd.Q_reads' HO_331002.out).2.1); (case side7 => exact (Kd.R_reads' HO_332001.out).2.2); (case side8 => exact (Kd.R_reads' HO_332001.out).2.1); (case side9 => exact (Kd.Q_reads' HO_332002.out).2.2); (case side10 => exact (Kd.Q_reads' HO_332002.out).2.1); rintro e w76 ⟨v337, v340, rfl, ho0, ho1, hb⟩; refine ⟨_, rfl, ?_⟩; have HO338 := Aside0.mk (Kd.R_lower (Kd.R_new' (Kd.R_new' (Kd.R_new' (Kd.R_new' (Kd.R_newM (M := fun k_ => (w.heap.size ≤ k_)) ho0 (below_size bl) (fun k_ h_ => h_)) (Kd.R_lt HO_331001.out)) (Kd.Q_lt HO_331002.out)) (Kd.R_lt HO_332001.out)) (Kd.Q_lt HO_332002.out)) (below_size bl)); have HO341 := Aside0.mk (Kd.R_lower (Kd.R_new' (Kd.R_new' (Kd.R_new' (Kd.R_new' (Kd.R_newM (M := fun k_ => (w.heap.size ≤ k_)) ho1 (below_size bl) (fun k_ h_ => h_)) (Kd.R_lt HO_331001.out)) (Kd.Q_lt HO_331002.out)) (Kd.R_lt HO_332001.out)) (Kd.Q_lt HO_332002.out)) (below_size bl)); replace HO_6 := Aside0.mk (Kd.N_mono (Kd.N_told (Kd.N_told (Kd.N_old HO_6.out hb) (Kd.R_base ho0)) (Kd.R_base ho1)) (fun _ h_ => h_.1)); replace HO_331001 := Aside0.mk (Kd.R_mono (Kd.R_told (Kd.R_told (Kd.R_old HO_331001.out hb) (Kd.R_base ho0)) (Kd.R_base ho1)) (fun _ h_ => h_.1)); replace HO_331002 := Aside0.mk (Kd.Q_mono (Kd.Q_told (Kd.Q_told (Kd.Q_old HO_331002.out hb) (Kd.R_base ho0)) (Kd.R_base ho1)) (fun _ h_ => h_.1)); replace HO_332001 := Aside0.mk (Kd.R_mono (Kd.R_told (Kd.R_told (Kd.R_old HO_332001.out hb) (Kd.R_base ho0)) (Kd.R_base ho1)) (fun _ h_ => h_.1)); replace HO_332002 := Aside0.mk (Kd.Q_mono (Kd.Q_told (Kd.Q_told (Kd.Q_old HO_332002.out hb) (Kd.R_base ho0)) (Kd.R_base ho1)) (fun _ h_ => h_.1)); replace BK307 := kb BK307 hb; replace BK308 := kb BK308 hb; replace BK330 := kb BK330 hb; replace BK331 := kb BK331 hb; replace HB := hs HB hb) | ((with_reducible refine gd 9 rfl ?_); refine bx 9 #[.bool false, .slice none 0 0, .slice none 0 0] 26 ?_; intro gb342 hg w77 hbox hb; have BK342 := Aside0.mk hbox; have GW342 := hz HB hg; have GE342 := hz HB hg; have NB307_342 := nl BK307 hg; have NB342_307 := ng BK307 hg; have NB308_342 := nl BK308 hg; have NB342_308 := ng BK308 hg; have NB330_342 := nl BK330 hg; have NB342_330 := ng BK330 hg; have NB331_342 := nl BK331 hg; have NB342_331 := ng BK331 hg; replace HO_6 := Aside0.mk (Kd.N_below (Kd.N_elderB HO_6.out gb342 (Nat.le_of_eq hg.symm)) hb); replace HO_331001 := rb HO_331001 hb; replace HO_331002 := qb HO_331002 hb; replace HO_332001 := rb HO_332001 hb; replace HO_332002 := qb HO_332002 hb; replace HO338 := rb HO338 hb; replace HO341 := rb HO341 hb; replace BK307 := kb BK307 hb; replace BK308 := kb BK308 hb; replace BK330 := kb BK330 hb; replace BK331 := kb BK331 hb; replace HB := hs HB hb; clear hb hbox hg; have hnb78 := NB342_307.out; have hnc78 := NB307_342.out; have hnb79 := NB342_308.out; have hnc79 := NB308_342.out; have hnb80 := NB342_330.out; have hnc80 := NB330_342.out; have hnb81 := NB342_331.out; have hnc81 := NB331_342.out; obtain ⟨_,_,_,_,_,_⟩ := cf3 BK342; obtain ⟨Ao83, co83, eo83⟩ := Kd.R_slice HO338.out; subst eo83; obtain ⟨Ao84, co84, eo84⟩ := Kd.R_slice HO341.out; subst eo84))
     have n0_ : Aside0 (Kd.N k48 48 (((w77.setCell ⟨gb342, 0, none⟩ (.bool false)).setCell ⟨gb342, 1, none⟩ (.slice Ao83 t336.length co83)).setCell ⟨gb342, 2, none⟩ (.slice Ao84 t339.length co84)) w.heap.size (fun k_ => (w.heap.size ≤ k_) ∧ sospec_DrawShapeIn k_ Ao16 t316 co16 ∧ sospec_DrawShapeIn k_ Ao17 t319 co17 ∧ sospec_DrawShapeIn k_ Ao22 t323 co22 ∧ sospec_DrawShapeIn k_ Ao23 t326 co23 ∧ sospec_DrawShapeIn k_ Ao83 t336 co83 ∧ sospec_DrawShapeIn k_ Ao84 t339 co84 ∧ k_ ≠ gb307 ∧ k_ ≠ gb308 ∧ k_ ≠ gb330 ∧ k_ ≠ gb331 ∧ k_ ≠ gb342) (.slice Ao75 t312.length co75) t312) := ⟨by exact Kd.N_mono (Kd.N_far (p := ⟨gb342, 2, none⟩) (Kd.N_far (p := ⟨gb342, 1, none⟩) (Kd.N_far (p := ⟨gb342, 0, none⟩) (Kd.N_mono HO_6.out (fun k_ hk => (⟨hk, hk.2⟩ : _ ∧ k_ ≠ gb342))) (fun _ hk => hk.2) (.bool false)) (fun _ hk => hk.2) (.slice Ao83 t336.length co83)) (fun _ hk => hk.2) (.slice Ao84 t339.length co84)) (fun _ hk => ⟨hk.1.1.1.1.1, ⟨hk.1.1.1.1.2.1, ⟨hk.1.1.1.1.2.2.1, ⟨hk.1.1.1.1.2.2.2.1, ⟨hk.1.1.1.1.2.2.2.2.1, ⟨hk.1.1.1.2, ⟨hk.1.1.2, ⟨hk.1.1.1.1.2.2.2.2.2.1, ⟨hk.1.1.1.1.2.2.2.2.2.2.1, ⟨hk.1.1.1.1.2.2.2.2.2.2.2.1, ⟨hk.1.1.1.1.2.2.2.2.2.2.2.2, hk.1.2⟩⟩⟩⟩⟩⟩⟩⟩⟩⟩⟩)⟩
     have n1_ : Aside0 (Kd.R (Kd.int .i64) 3 (((w77.setCell ⟨gb342, 0, none⟩ (.bool false)).setCell ⟨gb342, 1, none⟩ (.slice Ao83 t336.length co83)).setCell ⟨gb342, 2, none⟩ (.slice Ao84 t339.length co84)) w.heap.size (fun k_ => (w.heap.size ≤ k_) ∧ sospec_DrawShapeIn k_ Ao17 t319 co17 ∧ sospec_DrawShapeIn k_ Ao22 t323 co22 ∧ sospec_DrawShapeIn k_ Ao23 t326 co23 ∧ sospec_DrawShapeIn k_ Ao83 t336 co83 ∧ sospec_DrawShapeIn k_ Ao84 t339 co84) (.slice Ao16 t316.length co16) t316) := ⟨by exact Kd.R_mono (Kd.R_far (p := ⟨gb342, 2, none⟩) (Kd.R_far (p := ⟨gb342, 1, none⟩) (Kd.R_far (p := ⟨gb342, 0, none⟩) (Kd.R_types HO_331001.out BK342.out (by decide)) (fun _ hk => hk.2) (.bool false)) (fun _ hk => hk.2) (.slice Ao83 t336.length co83)) (fun _ hk => hk.2) (.slice Ao84 t339.length co84)) (fun _ hk => ⟨hk.1.1.1.1, ⟨hk.1.1.1.2.1, ⟨hk.1.1.1.2.2.1, ⟨hk.1.1.1.2.2.2, ⟨hk.1.1.2, hk.1.2⟩⟩⟩⟩⟩)⟩
     have n2_ : Aside0 (Kd.Q (Kd.int .i64) 3 (((w77.setCell ⟨gb342, 0, none⟩ (.bool false)).setCell ⟨gb342, 1, none⟩ (.slice Ao83 t336.length co83)).setCell ⟨gb342, 2, none⟩ (.slice Ao84 t339.length co84)) w.heap.size (fun k_ => (w.heap.size ≤ k_) ∧ sospec_DrawShapeIn k_ Ao16 t316 co16 ∧ sospec_DrawShapeIn k_ Ao22 t323 co22 ∧ sospec_DrawShapeIn k_ Ao23 t326 co23 ∧ sospec_DrawShapeIn k_ Ao83 t336 co83 ∧ sospec_DrawShapeIn k_ Ao84 t339 co84) (.slice Ao17 t319.length co17) t319) := ⟨by exact Kd.Q_mono (Kd.Q_far (p := ⟨gb342, 2, none⟩) (Kd.Q_far (p := ⟨gb342, 1, none⟩) (Kd.Q_far (p := ⟨gb342, 0, none⟩) (Kd.Q_types HO_331002.out BK342.out (by decide)) (fun _ hk => hk.2) (.bool false)) (fun _ hk => hk.2) (.slice Ao83 t336.length co83)) (fun _ hk => hk.2) (.slice Ao84 t339.length co84)) (fun _ hk => ⟨hk.1.1.1.1, ⟨hk.1.1.1.2.1, ⟨hk.1.1.1.2.2.1, ⟨hk.1.1.1.2.2.2, ⟨hk.1.1.2, hk.1.2⟩⟩⟩⟩⟩)⟩
     have n3_ : Aside0 (Kd.R (Kd.int .i64) 3 (((w77.setCell ⟨gb342, 0, none⟩ (.bool false)).setCell ⟨gb342, 1, none⟩ (.slice Ao83 t336.length co83)).setCell ⟨gb342, 2, none⟩ (.slice Ao84 t339.length co84)) w.heap.size (fun k_ => (w.heap.size ≤ k_) ∧ sospec_DrawShapeIn k_ Ao16 t316 co16 ∧ sospec_DrawShapeIn k_ Ao17 t319 co17 ∧ sospec_DrawShapeIn k_ Ao23 t326 co23 ∧ sospec_DrawShapeIn k_ Ao83 t336 co83 ∧ sospec_DrawShapeIn k_ Ao84 t339 co84) (.slice Ao22 t323.length co22) t323) := ⟨by exact Kd.R_mono (Kd.R_far (p := ⟨gb342, 2, none⟩) (Kd.R_far (p := ⟨gb342, 1, none⟩) (Kd.R_far (p := ⟨gb342, 0, none⟩) (Kd.R_types HO_332001.out BK342.out (by decide)) (fun _ hk => hk.2) (.bool false)) (fun _ hk => hk.2) (.slice Ao83 t336.length co83)) (fun _ hk => hk.2) (.slice Ao84 t339.length co84)) (fun _ hk => ⟨hk.1.1.1.1, ⟨hk.1.1.1.2.1, ⟨hk.1.1.1.2.2.1, ⟨hk.1.1.1.2.2.2, ⟨hk.1.1.2, hk.1.2⟩⟩⟩⟩⟩)⟩
     have n4_ : Aside0 (Kd.Q (Kd.int .i64) 3 (((w77.setCell ⟨gb342, 0, none⟩ (.bool false)).setCell ⟨gb342, 1, none⟩ (.slice Ao83 t336.length co83)).setCell ⟨gb342, 2, none⟩ (.slice Ao84 t339.length co84)) w.heap.size (fun k_ => (w.heap.size ≤ k_) ∧ sospec_DrawShapeIn k_ Ao16 t316 co16 ∧ sospec_DrawShapeIn k_ Ao17 t319 co17 ∧ sospec_DrawShapeIn k_ Ao22 t323 co22 ∧ sospec_DrawShapeIn k_ Ao83 t336 co83 ∧ sospec_DrawShapeIn k_ Ao84 t339 co84) (.slice Ao23 t326.length co23) t326) := ⟨by exact Kd.Q_mono (Kd.Q_far (p := ⟨gb342, 2, none⟩) (Kd.Q_far (p := ⟨gb342, 1, none⟩) (Kd.Q_far (p := ⟨gb342, 0, none⟩) (Kd.Q_types HO_332002.out BK342.out (by decide)) (fun _ hk => hk.2) (.bool false)) (fun _ hk => hk.2) (.slice Ao83 t336.length co83)) (fun _ hk => hk.2) (.slice Ao84 t339.length co84)) (fun _ hk => ⟨hk.1.1.1.1, ⟨hk.1.1.1.2.1, ⟨hk.1.1.1.2.2.1, ⟨hk.1.1.1.2.2.2, ⟨hk.1.1.2, hk.1.2⟩⟩⟩⟩⟩)⟩
     have n5_ : Aside0 (Kd.R (Kd.int .i64) 3 (((w77.setCell ⟨gb342, 0, none⟩ (.bool false)).setCell ⟨gb342, 1, none⟩ (.slice Ao83 t336.length co83)).setCell ⟨gb342, 2, none⟩ (.slice Ao84 t339.length co84)) w.heap.size (fun k_ => (w.heap.size ≤ k_) ∧ sospec_DrawShapeIn k_ Ao16 t316 co16 ∧ sospec_DrawShapeIn k_ Ao17 t319 co17 ∧ sospec_DrawShapeIn k_ Ao22 t323 co22 ∧ sospec_DrawShapeIn k_ Ao23 t326 co23 ∧ sospec_DrawShapeIn k_ Ao84 t339 co84) (.slice Ao83 t336.length co83) t336) := ⟨by exact Kd.R_mono (Kd.R_far (p := ⟨gb342, 2, none⟩) (Kd.R_far (p := ⟨gb342, 1, none⟩) (Kd.R_far (p := ⟨gb342, 0, none⟩) (Kd.R_types HO338.out BK342.out (by decide)) (fun _ hk => hk.2) (.bool false)) (fun _ hk => hk.2) (.slice Ao83 t336.length co83)) (fun _ hk => hk.2) (.slice Ao84 t339.length co84)) (fun _ hk => ⟨hk.1.1.1.1.1.1, ⟨hk.1.1.1.1.2, ⟨hk.1.1.1.2, ⟨hk.1.1.2, ⟨hk.1.2, hk.1.1.1.1.1.2⟩⟩⟩⟩⟩)⟩
     have n6_ : Aside0 (Kd.R (Kd.int .i64) 3 (((w77.setCell ⟨gb342, 0, none⟩ (.bool false)).setCell ⟨gb342, 1, none⟩ (.slice Ao83 t336.length co83)).setCell ⟨gb342, 2, none⟩ (.slice Ao84 t339.length co84)) w.heap.size (fun k_ => (w.heap.size ≤ k_) ∧ sospec_DrawShapeIn k_ Ao16 t316 co16 ∧ sospec_DrawShapeIn k_ Ao17 t319 co17 ∧ sospec_DrawShapeIn k_ Ao22 t323 co22 ∧ sospec_DrawShapeIn k_ Ao23 t326 co23 ∧ sospec_DrawShapeIn k_ Ao83 t336 co83) (.slice Ao84 t339.length co84) t339) := ⟨by exact Kd.R_mono (Kd.R_far (p := ⟨gb342, 2, none⟩) (Kd.R_far (p := ⟨gb342, 1, none⟩) (Kd.R_far (p := ⟨gb342, 0, none⟩) (Kd.R_types HO341.out BK342.out (by decide)) (fun _ hk => hk.2) (.bool false)) (fun _ hk => hk.2) (.slice Ao83 t336.length co83)) (fun _ hk => hk.2) (.slice Ao84 t339.length co84)) (fun _ hk => ⟨hk.1.1.1.1.1.1, ⟨hk.1.1.1.1.2, ⟨hk.1.1.1.2, ⟨hk.1.1.2, ⟨hk.1.2, hk.1.1.1.1.1.2⟩⟩⟩⟩⟩)⟩
     have n7_ : Aside0 ((((w77.setCell ⟨gb342, 0, none⟩ (.bool false)).setCell ⟨gb342, 1, none⟩ (.slice Ao83 t336.length co83)).setCell ⟨gb342, 2, none⟩ (.slice Ao84 t339.length co84)).heap[gb307]? = some (.cells #[.bool false, .slice none 0 0, .slice none 0 0] 26 (0, 0))) := kf
     have n8_ : Aside0 ((((w77.setCell ⟨gb342, 0, none⟩ (.bool false)).setCell ⟨gb342, 1, none⟩ (.slice Ao83 t336.length co83)).setCell ⟨gb342, 2, none⟩ (.slice Ao84 t339.length co84)).heap[gb308]? = some (.cells #[.bool false, .slice none 0 0, .slice none 0 0] 26 (0, 0))) := kf
     have n9_ : Aside0 ((((w77.setCell ⟨gb342, 0, none⟩ (.bool false)).setCell ⟨gb342, 1, none⟩ (.slice Ao83 t336.length co83)).setCell ⟨gb342, 2, none⟩ (.slice Ao84 t339.length co84)).heap[gb330]? = some (.cells #[.bool t315, .slice Ao16 t316.length co16, .slice Ao17 t319.length co17] 26 (0, 0))) := kf
     have n10_ : Aside0 ((((w77.setCell ⟨gb342, 0, none⟩ (.bool false)).setCell ⟨gb342, 1, none⟩ (.slice Ao83 t336.length co83)).setCell ⟨gb342, 2, none⟩ (.slice Ao84 t339.length co84)).heap[gb331]? = some (.cells #[.bool t322, .slice Ao22 t323.length co22, .slice Ao23 t326.length co23] 26 (0, 0))) := kf
     have n11_ : Aside0 ((((w77.setCell ⟨gb342, 0, none⟩ (.bool false)).setCell ⟨gb342, 1, none⟩ (.slice Ao83 t336.length co83)).setCell ⟨gb342, 2, none⟩ (.slice Ao84 t339.length co84)).heap[gb342]? = some (.cells #[.bool false, .slice Ao83 t336.length co83, .slice Ao84 t339.length co84] 26 (0, 0))) := kf
     have n12_ : Aside0 (Below w.heap.size w (((w77.setCell ⟨gb342, 0, none⟩ (.bool false)).setCell ⟨gb342, 1, none⟩ (.slice Ao83 t336.length co83)).setCell ⟨gb342, 2, none⟩ (.slice Ao84 t339.length co84))) := ⟨bl⟩
     (try clear HO_6)
     (try clear HO_331001)
     (try clear HO_331002)
     (try clear HO_332001)
     (try clear HO_332002)
     (try clear HO338)
     (try clear HO341)
     (try clear BK307)
     (try clear BK308)
     (try clear BK330)
     (try clear BK331)
     (try clear BK342)
     (try clear HB)
     generalize (((w77.setCell ⟨gb342, 0, none⟩ (.bool false)).setCell ⟨gb342, 1, none⟩ (.slice Ao83 t336.length co83)).setCell ⟨gb342, 2, none⟩ (.slice Ao84 t339.length co84)) = w85 at n0_ n1_ n2_ n3_ n4_ n5_ n6_ n7_ n8_ n9_ n10_ n11_ n12_ ⊢
     have HO_6 := n0_
     have HO_331001 := n1_
     have HO_331002 := n2_
     have HO_332001 := n3_
     have HO_332002 := n4_
     have HO338 := n5_
     have HO341 := n6_
     have BK307 := n7_
     have BK308 := n8_
     have BK330 := n9_
     have BK331 := n10_
     have BK342 := n11_
     have HB := n12_
     clear n0_ n1_ n2_ n3_ n4_ n5_ n6_ n7_ n8_ n9_ n10_ n11_ n12_
     replace HO_6 := dN HO_6
     replace HO_331001 := dR HO_331001
     replace HO_331002 := dQ HO_331002
     replace HO_332001 := dR HO_332001
     replace HO_332002 := dQ HO_332002
     replace HO338 := dR HO338
     replace HO341 := dR HO341
     replace BK307 := dK BK307
     replace BK308 := dK BK308
     replace BK330 := dK BK330
     replace BK331 := dK BK331
     replace BK342 := dK BK342
     replace HB := Aside0.mk (below_drew1 HB.out)
     refine start_ (n := 6) (S := fun w' => w'.cell? ⟨gb330, 0, none⟩ = some (.bool t315) ∧ w'.cell? ⟨gb330, 1, none⟩ = some (.slice Ao16 t316.length co16) ∧ w'.cell? ⟨gb330, 2, none⟩ = some (.slice Ao17 t319.length co17) ∧ w'.cell? ⟨gb331, 0, none⟩ = some (.bool t322) ∧ w'.cell? ⟨gb331, 1, none⟩ = some (.slice Ao22 t323.length co22) ∧ w'.cell? ⟨gb331, 2, none⟩ = some (.slice Ao23 t326.length co23)) (ds := []) #[false, false, false, false, false, false] (by kernel_rfl) rfl rfl ⟨(blk_cell BK330.out 0).trans rfl, (blk_cell BK330.out 1).trans rfl, (blk_cell BK330.out 2).trans rfl, (blk_cell BK331.out 0).trans rfl, (blk_cell BK331.out 1).trans rfl, (blk_cell BK331.out 2).trans rfl⟩ (fun hHeld => ?_)
     generalize w85.drew = w86 at HO_6 HO_331001 HO_331002 HO_332001 HO_332002 HO338 HO341 BK307 BK308 BK330 BK331 BK342 HB hHeld ⊢
     refine pure_ (i := 0) (N := some 36) (v := ?_) (a' := ?_) #[true, false, false, false, false, false] rfl rfl (by kernel_rfl) (fun _ _ _ h => h) (Or.inl ⟨by rfl, ?_⟩) ?_ ?_
     rotate_left
     ·intro w'
      go_simp
      with_reducible rfl
     rotate_left
     ·simp only [Act.put, List.setIfInBounds_toArray, List.set_cons_zero, List.set_cons_succ, i64_w, i32_w]
      rfl
     refine pure_ (i := 3) (N := some 2) (v := ?_) (a' := ?_) #[true, false, false, true, false, false] rfl rfl (by kernel_rfl) (fun _ _ _ h => h) (Or.inl ⟨by rfl, ?_⟩) ?_ ?_
     rotate_left
     ·intro w'
      go_simp
      with_reducible rfl
     rotate_left
     ·simp only [Act.put, List.setIfInBounds_toArray, List.set_cons_zero, List.set_cons_succ, i64_w, i32_w]
      rfl
     refine take_ (i := 1) (N := some 37) (v := ?_) (a' := ?_) #[true, true, false, true, false, false] rfl rfl (by kernel_rfl) (fun _ _ _ h => h) (Or.inl ⟨by rfl, ?_⟩) hHeld ?_ ?_
     rotate_left
     ·rintro w' ⟨s0, s1, s2, s3, s4, s5⟩
      go_simp
      with_reducible rfl
     rotate_left
     ·simp only [Act.put, List.setIfInBounds_toArray, List.set_cons_zero, List.set_cons_succ, i64_w, i32_w]
      rfl
     refine take_ (i := 2) (N := some 38) (v := ?_) (a' := ?_) #[true, true, true, true, false, false] rfl rfl (by kernel_rfl) (fun _ _ _ h => h) (Or.inl ⟨by rfl, ?_⟩) hHeld ?_ ?_
     rotate_left
     ·rintro w' ⟨s0, s1, s2, s3, s4, s5⟩
      go_simp
      with_reducible rfl
     rotate_left
     ·simp only [Act.put, List.setIfInBounds_toArray, List.set_cons_zero, List.set_cons_succ, i64_w, i32_w]
      rfl
     refine one_ (i := 4) (N := none) #[true, true, true, true, true, false] rfl rfl (by kernel_rfl) (by decide) (fun K hK => ?_)
     have hs87 : w86.cell? ⟨gb307, 0, none⟩ = some (.bool false) := (blk_cell BK307.out 0).trans rfl
     have hfs87 := blk_frozen BK307.out 0
     have hns87_1 := NB308_307.out
     have hns87_2 := NB330_307.out
     have hns87_3 := NB331_307.out
     have hns87_4 := NB342_307.out
     have hms87_1 := NB307_308.out
     have hms87_2 := NB307_330.out
     have hms87_3 := NB307_331.out
     have hms87_4 := NB307_342.out
     have hs88 : w86.cell? ⟨gb307, 1, none⟩ = some (.slice none 0 0) := (blk_cell BK307.out 1).trans rfl
     have hfs88 := blk_frozen BK307.out 1
     have hns88_1 := NB308_307.out
     have hns88_2 := NB330_307.out
     have hns88_3 := NB331_307.out
     have hns88_4 := NB342_307.out
     have hms88_1 := NB307_308.out
     have hms88_2 := NB307_330.out
     have hms88_3 := NB307_331.out
     have hms88_4 := NB307_342.out
     have hs89 : w86.cell? ⟨gb307, 2, none⟩ = some (.slice none 0 0) := (blk_cell BK307.out 2).trans rfl
     have hfs89 := blk_frozen BK307.out 2
     have hns89_1 := NB308_307.out
     have hns89_2 := NB330_307.out
     have hns89_3 := NB331_307.out
     have hns89_4 := NB342_307.out
     have hms89_1 := NB307_308.out
     have hms89_2 := NB307_330.out
     have hms89_3 := NB307_331.out
     have hms89_4 := NB307_342.out
     refine skip_ (w1 := ?_) (by rfl) rfl ?_ ?_
     rotate_left
     ·go_simp
      rfl
     refine hK.out _ _ ⟨((cell_far (p := ⟨gb307, _, none⟩) NB330_307.out _).trans (((cell_far (p := ⟨gb307, _, none⟩) NB330_307.out _).trans (((cell_far (p := ⟨gb307, _, none⟩) NB330_307.out _).trans (hHeld.1)))))), ((cell_far (p := ⟨gb307, _, none⟩) NB330_307.out _).trans (((cell_far (p := ⟨gb307, _, none⟩) NB330_307.out _).trans (((cell_far (p := ⟨gb307, _, none⟩) NB330_307.out _).trans (hHeld.2.1)))))), ((cell_far (p := ⟨gb307, _, none⟩) NB330_307.out _).trans (((cell_far (p := ⟨gb307, _, none⟩) NB330_307.out _).trans (((cell_far (p := ⟨gb307, _, none⟩) NB330_307.out _).trans (hHeld.2.2.1)))))), ((cell_far (p := ⟨gb307, _, none⟩) NB331_307.out _).trans (((cell_far (p := ⟨gb307, _, none⟩) NB331_307.out _).trans (((cell_far (p := ⟨gb307, _, none⟩) NB331_307.out _).trans (hHeld.2.2.2.1)))))), ((cell_far (p := ⟨gb307, _, none⟩) NB331_307.out _).trans (((cell_far (p := ⟨gb307, _, none⟩) NB331_307.out _).trans (((cell_far (p := ⟨gb307, _, none⟩) NB331_307.out _).trans (hHeld.2.2.2.2.1)))))), ((cell_far (p := ⟨gb307, _, none⟩) NB331_307.out _).trans (((cell_far (p := ⟨gb307, _, none⟩) NB331_307.out _).trans (((cell_far (p := ⟨gb307, _, none⟩) NB331_307.out _).trans (hHeld.2.2.2.2.2))))))⟩ (fun hHeld => ?_)
     clear hK K
     refine one_ (i := 5) (N := none) #[true, true, true, true, true, true] rfl rfl (by kernel_rfl) (by decide) (fun K hK => ?_)
     have hs90 : w86.cell? ⟨gb308, 0, none⟩ = some (.bool false) := (blk_cell BK308.out 0).trans rfl
     have hfs90 := blk_frozen BK308.out 0
     have hns90_0 := NB307_308.out
     have hns90_2 := NB330_308.out
     have hns90_3 := NB331_308.out
     have hns90_4 := NB342_308.out
     have hms90_0 := NB308_307.out
     have hms90_2 := NB308_330.out
     have hms90_3 := NB308_331.out
     have hms90_4 := NB308_342.out
     have hs91 : w86.cell? ⟨gb308, 1, none⟩ = some (.slice none 0 0) := (blk_cell BK308.out 1).trans rfl
     have hfs91 := blk_frozen BK308.out 1
     have hns91_0 := NB307_308.out
     have hns91_2 := NB330_308.out
     have hns91_3 := NB331_308.out
     have hns91_4 := NB342_308.out
     have hms91_0 := NB308_307.out
     have hms91_2 := NB308_330.out
     have hms91_3 := NB308_331.out
     have hms91_4 := NB308_342.out
     have hs92 : w86.cell? ⟨gb308, 2, none⟩ = some (.slice none 0 0) := (blk_cell BK308.out 2).trans rfl
     have hfs92 := blk_frozen BK308.out 2
     have hns92_0 := NB307_308.out
     have hns92_2 := NB330_308.out
     have hns92_3 := NB331_308.out
     have hns92_4 := NB342_308.out
     have hms92_0 := NB308_307.out
     have hms92_2 := NB308_330.out
     have hms92_3 := NB308_331.out
     have hms92_4 := NB308_342.out
     refine skip_ (w1 := ?_) (by rfl) rfl ?_ ?_
     rotate_left
     ·go_simp
      rfl
     refine hK.out _ _ ⟨((cell_far (p := ⟨gb308, _, none⟩) NB330_308.out _).trans (((cell_far (p := ⟨gb308, _, none⟩) NB330_308.out _).trans (((cell_far (p := ⟨gb308, _, none⟩) NB330_308.out _).trans (hHeld.1)))))), ((cell_far (p := ⟨gb308, _, none⟩) NB330_308.out _).trans (((cell_far (p := ⟨gb308, _, none⟩) NB330_308.out _).trans (((cell_far (p := ⟨gb308, _, none⟩) NB330_308.out _).trans (hHeld.2.1)))))), ((cell_far (p := ⟨gb308, _, none⟩) NB330_308.out _).trans (((cell_far (p := ⟨gb308, _, none⟩) NB330_308.out _).trans (((cell_far (p := ⟨gb308, _, none⟩) NB330_308.out _).trans (hHeld.2.2.1)))))), ((cell_far (p := ⟨gb308, _, none⟩) NB331_308.out _).trans (((cell_far (p := ⟨gb308, _, none⟩) NB331_308.out _).trans (((cell_far (p := ⟨gb308, _, none⟩) NB331_308.out _).trans (hHeld.2.2.2.1)))))), ((cell_far (p := ⟨gb308, _, none⟩) NB331_308.out _).trans (((cell_far (p := ⟨gb308, _, none⟩) NB331_308.out _).trans (((cell_far (p := ⟨gb308, _, none⟩) NB331_308.out _).trans (hHeld.2.2.2.2.1)))))), ((cell_far (p := ⟨gb308, _, none⟩) NB331_308.out _).trans (((cell_far (p := ⟨gb308, _, none⟩) NB331_308.out _).trans (((cell_far (p := ⟨gb308, _, none⟩) NB331_308.out _).trans (hHeld.2.2.2.2.2))))))⟩ (fun hHeld => ?_)
     clear hK K
     refine done_ (by kernel_rfl) ?_
     try go_wp2
     refine bodyPost_ret (results_list (rs := [.tmp 2, .cell 3 26, .cell 4 26]) rfl (by simp) (.tmp (.cell gb307 26 #[.bool t315, .slice Ao16 t316.length co16, .slice Ao17 t319.length co17] (0, 0) _ rfl (by (with_reducible repeat (first | refine blk_drewN ?_ _ | refine blk_drew ?_ | refine blk_alloc ?_ _)); refine blk_far ?_ NB307_308.out _; (with_reducible repeat (first | refine blk_drewN ?_ _ | refine blk_drew ?_ | refine blk_alloc ?_ _)); refine blk_far ?_ NB307_308.out _; (with_reducible repeat (first | refine blk_drewN ?_ _ | refine blk_drew ?_ | refine blk_alloc ?_ _)); refine blk_far ?_ NB307_308.out _; (with_reducible repeat (first | refine blk_drewN ?_ _ | refine blk_drew ?_ | refine blk_alloc ?_ _)); refine blk_put (cs := #[.bool t315, .slice Ao16 t316.length co16, .slice none 0 0]) ?_ 2 _ rfl; (with_reducible repeat (first | refine blk_drewN ?_ _ | refine blk_drew ?_ | refine blk_alloc ?_ _)); refine blk_put (cs := #[.bool t315, .slice none 0 0, .slice none 0 0]) ?_ 1 _ rfl; (with_reducible repeat (first | refine blk_drewN ?_ _ | refine blk_drew ?_ | refine blk_alloc ?_ _)); refine blk_put (cs := #[.bool false, .slice none 0 0, .slice none 0 0]) ?_ 0 _ rfl; (with_reducible repeat (first | refine blk_drewN ?_ _ | refine blk_drew ?_ | refine blk_alloc ?_ _)); exact BK307.out) Try.underlying26 rfl (by kernel_rfl) (.cell gb308 26 #[.bool t322, .slice Ao22 t323.length co22, .slice Ao23 t326.length co23] (0, 0) _ rfl (by (with_reducible repeat (first | refine blk_drewN ?_ _ | refine blk_drew ?_ | refine blk_alloc ?_ _)); refine blk_put (cs := #[.bool t322, .slice Ao22 t323.length co22, .slice none 0 0]) ?_ 2 _ rfl; (with_reducible repeat (first | refine blk_drewN ?_ _ | refine blk_drew ?_ | refine blk_alloc ?_ _)); refine blk_put (cs := #[.bool t322, .slice none 0 0, .slice none 0 0]) ?_ 1 _ rfl; (with_reducible repeat (first | refine blk_drewN ?_ _ | refine blk_drew ?_ | refine blk_alloc ?_ _)); refine blk_put (cs := #[.bool false, .slice none 0 0, .slice none 0 0]) ?_ 0 _ rfl; (with_reducible repeat (first | refine blk_drewN ?_ _ | refine blk_drew ?_ | refine blk_alloc ?_ _)); refine blk_far ?_ NB308_307.out _; (with_reducible repeat (first | refine blk_drewN ?_ _ | refine blk_drew ?_ | refine blk_alloc ?_ _)); refine blk_far ?_ NB308_307.out _; (with_reducible repeat (first | refine blk_drewN ?_ _ | refine blk_drew ?_ | refine blk_alloc ?_ _)); refine blk_far ?_ NB308_307.out _; (with_reducible repeat (first | refine blk_drewN ?_ _ | refine blk_drew ?_ | refine blk_alloc ?_ _)); exact BK308.out) Try.underlying26 rfl (by kernel_rfl) .nil)))) rfl ?_
     exact ⟨_, _, _, _, _, by first | rfl | (simp [errW_none, errW_some] <;> rfl) | (simp [*, errW_none, errW_some] <;> rfl), by exact Kd.N_mono (Kd.N_far (p := ⟨gb308, 2, none⟩) (Kd.N_far (p := ⟨gb308, 1, none⟩) (Kd.N_far (p := ⟨gb308, 0, none⟩) (Kd.N_far (p := ⟨gb307, 2, none⟩) (Kd.N_far (p := ⟨gb307, 1, none⟩) (Kd.N_far (p := ⟨gb307, 0, none⟩) (Kd.N_mono (Kd.N_mono HO_6.out (fun k_ hk => (⟨hk, hk.2.2.2.2.2.2.2.1⟩ : _ ∧ k_ ≠ gb307))) (fun k_ hk => (⟨hk, hk.1.2.2.2.2.2.2.2.2.1⟩ : _ ∧ k_ ≠ gb308))) (fun _ hk => hk.1.2) (.bool t315)) (fun _ hk => hk.1.2) (.slice Ao16 t316.length co16)) (fun _ hk => hk.1.2) (.slice Ao17 t319.length co17)) (fun _ hk => hk.2) (.bool t322)) (fun _ hk => hk.2) (.slice Ao22 t323.length co22)) (fun _ hk => hk.2) (.slice Ao23 t326.length co23)) (fun _ hk => ⟨hk.1.1.1, ⟨hk.1.1.2.1, ⟨hk.1.1.2.2.1, ⟨hk.1.1.2.2.2.1, hk.1.1.2.2.2.2.1⟩⟩⟩⟩), by exact Kd.R_mono (Kd.R_far (p := ⟨gb308, 2, none⟩) (Kd.R_far (p := ⟨gb308, 1, none⟩) (Kd.R_far (p := ⟨gb308, 0, none⟩) (Kd.R_far (p := ⟨gb307, 2, none⟩) (Kd.R_far (p := ⟨gb307, 1, none⟩) (Kd.R_far (p := ⟨gb307, 0, none⟩) (Kd.R_types (Kd.R_types HO_331001.out BK307.out (by decide)) BK308.out (by decide)) (fun _ hk => hk.1.2) (.bool t315)) (fun _ hk => hk.1.2) (.slice Ao16 t316.length co16)) (fun _ hk => hk.1.2) (.slice Ao17 t319.length co17)) (fun _ hk => hk.2) (.bool t322)) (fun _ hk => hk.2) (.slice Ao22 t323.length co22)) (fun _ hk => hk.2) (.slice Ao23 t326.length co23)) (fun _ hk => ⟨hk.1.1.1, ⟨hk.1.1.2.1, ⟨hk.1.1.2.2.1, hk.1.1.2.2.2.1⟩⟩⟩), by exact Kd.Q_mono (Kd.Q_far (p := ⟨gb308, 2, none⟩) (Kd.Q_far (p := ⟨gb308, 1, none⟩) (Kd.Q_far (p := ⟨gb308, 0, none⟩) (Kd.Q_far (p := ⟨gb307, 2, none⟩) (Kd.Q_far (p := ⟨gb307, 1, none⟩) (Kd.Q_far (p := ⟨gb307, 0, none⟩) (Kd.Q_types (Kd.Q_types HO_331002.out BK307.out (by decide)) BK308.out (by decide)) (fun _ hk => hk.1.2) (.bool t315)) (fun _ hk => hk.1.2) (.slice Ao16 t316.length co16)) (fun _ hk => hk.1.2) (.slice Ao17 t319.length co17)) (fun _ hk => hk.2) (.bool t322)) (fun _ hk => hk.2) (.slice Ao22 t323.length co22)) (fun _ hk => hk.2) (.slice Ao23 t326.length co23)) (fun _ hk => ⟨hk.1.1.1, ⟨hk.1.1.2.1, ⟨hk.1.1.2.2.1, hk.1.1.2.2.2.1⟩⟩⟩), by exact Kd.R_mono (Kd.R_far (p := ⟨gb308, 2, none⟩) (Kd.R_far (p := ⟨gb308, 1, none⟩) (Kd.R_far (p := ⟨gb308, 0, none⟩) (Kd.R_far (p := ⟨gb307, 2, none⟩) (Kd.R_far (p := ⟨gb307, 1, none⟩) (Kd.R_far (p := ⟨gb307, 0, none⟩) (Kd.R_types (Kd.R_types HO_332001.out BK307.out (by decide)) BK308.out (by decide)) (fun _ hk => hk.1.2) (.bool t315)) (fun _ hk => hk.1.2) (.slice Ao16 t316.length co16)) (fun _ hk => hk.1.2) (.slice Ao17 t319.length co17)) (fun _ hk => hk.2) (.bool t322)) (fun _ hk => hk.2) (.slice Ao22 t323.length co22)) (fun _ hk => hk.2) (.slice Ao23 t326.length co23)) (fun _ hk => ⟨hk.1.1.1, ⟨hk.1.1.2.1, ⟨hk.1.1.2.2.1, hk.1.1.2.2.2.1⟩⟩⟩), by exact Kd.Q_mono (Kd.Q_far (p := ⟨gb308, 2, none⟩) (Kd.Q_far (p := ⟨gb308, 1, none⟩) (Kd.Q_far (p := ⟨gb308, 0, none⟩) (Kd.Q_far (p := ⟨gb307, 2, none⟩) (Kd.Q_far (p := ⟨gb307, 1, none⟩) (Kd.Q_far (p := ⟨gb307, 0, none⟩) (Kd.Q_types (Kd.Q_types HO_332002.out BK307.out (by decide)) BK308.out (by decide)) (fun _ hk => hk.1.2) (.bool t315)) (fun _ hk => hk.1.2) (.slice Ao16 t316.length co16)) (fun _ hk => hk.1.2) (.slice Ao17 t319.length co17)) (fun _ hk => hk.2) (.bool t322)) (fun _ hk => hk.2) (.slice Ao22 t323.length co22)) (fun _ hk => hk.2) (.slice Ao23 t326.length co23)) (fun _ hk => ⟨hk.1.1.1, ⟨hk.1.1.2.1, ⟨hk.1.1.2.2.1, hk.1.1.2.2.2.1⟩⟩⟩), bl⟩
   ·replace c40 := Bool.eq_false_iff.mpr c40
    subst c40
    replace H := ie H
    simp only [Option.some.injEq, Prod.mk.injEq] at H
    obtain ⟨rfl, rfl, rfl, rfl, rfl, rfl, rfl⟩ := H
    try go_wp2
    replace HO_6 := dN HO_6
    replace HO_331001 := dR HO_331001
    replace HO_331002 := dQ HO_331002
    replace HO_332001 := dR HO_332001
    replace HO_332002 := dQ HO_332002
    replace BK307 := dK BK307
    replace BK308 := dK BK308
    replace BK330 := dK BK330
    replace BK331 := dK BK331
    replace HB := Aside0.mk (below_drew1 HB.out)
    refine start_ (n := 6) (S := fun w' => w'.cell? ⟨gb330, 0, none⟩ = some (.bool t315) ∧ w'.cell? ⟨gb330, 1, none⟩ = some (.slice Ao16 t316.length co16) ∧ w'.cell? ⟨gb330, 2, none⟩ = some (.slice Ao17 t319.length co17) ∧ w'.cell? ⟨gb331, 0, none⟩ = some (.bool t322) ∧ w'.cell? ⟨gb331, 1, none⟩ = some (.slice Ao22 t323.length co22) ∧ w'.cell? ⟨gb331, 2, none⟩ = some (.slice Ao23 t326.length co23)) (ds := []) #[false, false, false, false, false, false] (by kernel_rfl) rfl rfl ⟨(blk_cell BK330.out 0).trans rfl, (blk_cell BK330.out 1).trans rfl, (blk_cell BK330.out 2).trans rfl, (blk_cell BK331.out 0).trans rfl, (blk_cell BK331.out 1).trans rfl, (blk_cell BK331.out 2).trans rfl⟩ (fun hHeld => ?_)
    generalize wc.drew = w93 at HO_6 HO_331001 HO_331002 HO_332001 HO_332002 BK307 BK308 BK330 BK331 HB hHeld ⊢
    refine pure_ (i := 0) (N := some 36) (v := ?_) (a' := ?_) #[true, false, false, false, false, false] rfl rfl (by kernel_rfl) (fun _ _ _ h => h) (Or.inl ⟨by rfl, ?_⟩) ?_ ?_
    rotate_left
    ·intro w'
     go_simp
     with_reducible rfl
    rotate_left
    ·simp only [Act.put, List.setIfInBounds_toArray, List.set_cons_zero, List.set_cons_succ, i64_w, i32_w]
     rfl
    refine pure_ (i := 3) (N := some 2) (v := ?_) (a' := ?_) #[true, false, false, true, false, false] rfl rfl (by kernel_rfl) (fun _ _ _ h => h) (Or.inl ⟨by rfl, ?_⟩) ?_ ?_
    rotate_left
    ·intro w'
     go_simp
     with_reducible rfl
    rotate_left
    ·simp only [Act.put, List.setIfInBounds_toArray, List.set_cons_zero, List.set_cons_succ, i64_w, i32_w]
     rfl
    refine take_ (i := 1) (N := some 37) (v := ?_) (a' := ?_) #[true, true, false, true, false, false] rfl rfl (by kernel_rfl) (fun _ _ _ h => h) (Or.inl ⟨by rfl, ?_⟩) hHeld ?_ ?_
    rotate_left
    ·rintro w' ⟨s0, s1, s2, s3, s4, s5⟩
     go_simp
     with_reducible rfl
    rotate_left
    ·simp only [Act.put, List.setIfInBounds_toArray, List.set_cons_zero, List.set_cons_succ, i64_w, i32_w]
     rfl
    refine take_ (i := 2) (N := some 38) (v := ?_) (a' := ?_) #[true, true, true, true, false, false] rfl rfl (by kernel_rfl) (fun _ _ _ h => h) (Or.inl ⟨by rfl, ?_⟩) hHeld ?_ ?_
    rotate_left
    ·rintro w' ⟨s0, s1, s2, s3, s4, s5⟩
     go_simp
     with_reducible rfl
    rotate_left
    ·simp only [Act.put, List.setIfInBounds_toArray, List.set_cons_zero, List.set_cons_succ, i64_w, i32_w]
     rfl
    refine one_ (i := 4) (N := none) #[true, true, true, true, true, false] rfl rfl (by kernel_rfl) (by decide) (fun K hK => ?_)
    have hs94 : w93.cell? ⟨gb307, 0, none⟩ = some (.bool false) := (blk_cell BK307.out 0).trans rfl
    have hfs94 := blk_frozen BK307.out 0
    have hns94_1 := NB308_307.out
    have hns94_2 := NB330_307.out
    have hns94_3 := NB331_307.out
    have hms94_1 := NB307_308.out
    have hms94_2 := NB307_330.out
    have hms94_3 := NB307_331.out
    have hs95 : w93.cell? ⟨gb307, 1, none⟩ = some (.slice none 0 0) := (blk_cell BK307.out 1).trans rfl
    have hfs95 := blk_frozen BK307.out 1
    have hns95_1 := NB308_307.out
    have hns95_2 := NB330_307.out
    have hns95_3 := NB331_307.out
    have hms95_1 := NB307_308.out
    have hms95_2 := NB307_330.out
    have hms95_3 := NB307_331.out
    have hs96 : w93.cell? ⟨gb307, 2, none⟩ = some (.slice none 0 0) := (blk_cell BK307.out 2).trans rfl
    have hfs96 := blk_frozen BK307.out 2
    have hns96_1 := NB308_307.out
    have hns96_2 := NB330_307.out
    have hns96_3 := NB331_307.out
    have hms96_1 := NB307_308.out
    have hms96_2 := NB307_330.out
    have hms96_3 := NB307_331.out
    refine skip_ (w1 := ?_) (by rfl) rfl ?_ ?_
    rotate_left
    ·go_simp
     rfl
    refine hK.out _ _ ⟨((cell_far (p := ⟨gb307, _, none⟩) NB330_307.out _).trans (((cell_far (p := ⟨gb307, _, none⟩) NB330_307.out _).trans (((cell_far (p := ⟨gb307, _, none⟩) NB330_307.out _).trans (hHeld.1)))))), ((cell_far (p := ⟨gb307, _, none⟩) NB330_307.out _).trans (((cell_far (p := ⟨gb307, _, none⟩) NB330_307.out _).trans (((cell_far (p := ⟨gb307, _, none⟩) NB330_307.out _).trans (hHeld.2.1)))))), ((cell_far (p := ⟨gb307, _, none⟩) NB330_307.out _).trans (((cell_far (p := ⟨gb307, _, none⟩) NB330_307.out _).trans (((cell_far (p := ⟨gb307, _, none⟩) NB330_307.out _).trans (hHeld.2.2.1)))))), ((cell_far (p := ⟨gb307, _, none⟩) NB331_307.out _).trans (((cell_far (p := ⟨gb307, _, none⟩) NB331_307.out _).trans (((cell_far (p := ⟨gb307, _, none⟩) NB331_307.out _).trans (hHeld.2.2.2.1)))))), ((cell_far (p := ⟨gb307, _, none⟩) NB331_307.out _).trans (((cell_far (p := ⟨gb307, _, none⟩) NB331_307.out _).trans (((cell_far (p := ⟨gb307, _, none⟩) NB331_307.out _).trans (hHeld.2.2.2.2.1)))))), ((cell_far (p := ⟨gb307, _, none⟩) NB331_307.out _).trans (((cell_far (p := ⟨gb307, _, none⟩) NB331_307.out _).trans (((cell_far (p := ⟨gb307, _, none⟩) NB331_307.out _).trans (hHeld.2.2.2.2.2))))))⟩ (fun hHeld => ?_)
    clear hK K
    refine one_ (i := 5) (N := none) #[true, true, true, true, true, true] rfl rfl (by kernel_rfl) (by decide) (fun K hK => ?_)
    have hs97 : w93.cell? ⟨gb308, 0, none⟩ = some (.bool false) := (blk_cell BK308.out 0).trans rfl
    have hfs97 := blk_frozen BK308.out 0
    have hns97_0 := NB307_308.out
    have hns97_2 := NB330_308.out
    have hns97_3 := NB331_308.out
    have hms97_0 := NB308_307.out
    have hms97_2 := NB308_330.out
    have hms97_3 := NB308_331.out
    have hs98 : w93.cell? ⟨gb308, 1, none⟩ = some (.slice none 0 0) := (blk_cell BK308.out 1).trans rfl
    have hfs98 := blk_frozen BK308.out 1
    have hns98_0 := NB307_308.out
    have hns98_2 := NB330_308.out
    have hns98_3 := NB331_308.out
    have hms98_0 := NB308_307.out
    have hms98_2 := NB308_330.out
    have hms98_3 := NB308_331.out
    have hs99 : w93.cell? ⟨gb308, 2, none⟩ = some (.slice none 0 0) := (blk_cell BK308.out 2).trans rfl
    have hfs99 := blk_frozen BK308.out 2
    have hns99_0 := NB307_308.out
    have hns99_2 := NB330_308.out
    have hns99_3 := NB331_308.out
    have hms99_0 := NB308_307.out
    have hms99_2 := NB308_330.out
    have hms99_3 := NB308_331.out
    refine skip_ (w1 := ?_) (by rfl) rfl ?_ ?_
    rotate_left
    ·go_simp
     rfl
    refine hK.out _ _ ⟨((cell_far (p := ⟨gb308, _, none⟩) NB330_308.out _).trans (((cell_far (p := ⟨gb308, _, none⟩) NB330_308.out _).trans (((cell_far (p := ⟨gb308, _, none⟩) NB330_308.out _).trans (hHeld.1)))))), ((cell_far (p := ⟨gb308, _, none⟩) NB330_308.out _).trans (((cell_far (p := ⟨gb308, _, none⟩) NB330_308.out _).trans (((cell_far (p := ⟨gb308, _, none⟩) NB330_308.out _).trans (hHeld.2.1)))))), ((cell_far (p := ⟨gb308, _, none⟩) NB330_308.out _).trans (((cell_far (p := ⟨gb308, _, none⟩) NB330_308.out _).trans (((cell_far (p := ⟨gb308, _, none⟩) NB330_308.out _).trans (hHeld.2.2.1)))))), ((cell_far (p := ⟨gb308, _, none⟩) NB331_308.out _).trans (((cell_far (p := ⟨gb308, _, none⟩) NB331_308.out _).trans (((cell_far (p := ⟨gb308, _, none⟩) NB331_308.out _).trans (hHeld.2.2.2.1)))))), ((cell_far (p := ⟨gb308, _, none⟩) NB331_308.out _).trans (((cell_far (p := ⟨gb308, _, none⟩) NB331_308.out _).trans (((cell_far (p := ⟨gb308, _, none⟩) NB331_308.out _).trans (hHeld.2.2.2.2.1)))))), ((cell_far (p := ⟨gb308, _, none⟩) NB331_308.out _).trans (((cell_far (p := ⟨gb308, _, none⟩) NB331_308.out _).trans (((cell_far (p := ⟨gb308, _, none⟩) NB331_308.out _).trans (hHeld.2.2.2.2.2))))))⟩ (fun hHeld => ?_)
    clear hK K
    refine done_ (by kernel_rfl) ?_
    try go_wp2
    refine bodyPost_ret (results_list (rs := [.tmp 2, .cell 3 26, .cell 4 26]) rfl (by simp) (.tmp (.cell gb307 26 #[.bool t315, .slice Ao16 t316.length co16, .slice Ao17 t319.length co17] (0, 0) _ rfl (by (with_reducible repeat (first | refine blk_drewN ?_ _ | refine blk_drew ?_ | refine blk_alloc ?_ _)); refine blk_far ?_ NB307_308.out _; (with_reducible repeat (first | refine blk_drewN ?_ _ | refine blk_drew ?_ | refine blk_alloc ?_ _)); refine blk_far ?_ NB307_308.out _; (with_reducible repeat (first | refine blk_drewN ?_ _ | refine blk_drew ?_ | refine blk_alloc ?_ _)); refine blk_far ?_ NB307_308.out _; (with_reducible repeat (first | refine blk_drewN ?_ _ | refine blk_drew ?_ | refine blk_alloc ?_ _)); refine blk_put (cs := #[.bool t315, .slice Ao16 t316.length co16, .slice none 0 0]) ?_ 2 _ rfl; (with_reducible repeat (first | refine blk_drewN ?_ _ | refine blk_drew ?_ | refine blk_alloc ?_ _)); refine blk_put (cs := #[.bool t315, .slice none 0 0, .slice none 0 0]) ?_ 1 _ rfl; (with_reducible repeat (first | refine blk_drewN ?_ _ | refine blk_drew ?_ | refine blk_alloc ?_ _)); refine blk_put (cs := #[.bool false, .slice none 0 0, .slice none 0 0]) ?_ 0 _ rfl; (with_reducible repeat (first | refine blk_drewN ?_ _ | refine blk_drew ?_ | refine blk_alloc ?_ _)); exact BK307.out) Try.underlying26 rfl (by kernel_rfl) (.cell gb308 26 #[.bool t322, .slice Ao22 t323.length co22, .slice Ao23 t326.length co23] (0, 0) _ rfl (by (with_reducible repeat (first | refine blk_drewN ?_ _ | refine blk_drew ?_ | refine blk_alloc ?_ _)); refine blk_put (cs := #[.bool t322, .slice Ao22 t323.length co22, .slice none 0 0]) ?_ 2 _ rfl; (with_reducible repeat (first | refine blk_drewN ?_ _ | refine blk_drew ?_ | refine blk_alloc ?_ _)); refine blk_put (cs := #[.bool t322, .slice none 0 0, .slice none 0 0]) ?_ 1 _ rfl; (with_reducible repeat (first | refine blk_drewN ?_ _ | refine blk_drew ?_ | refine blk_alloc ?_ _)); refine blk_put (cs := #[.bool false, .slice none 0 0, .slice none 0 0]) ?_ 0 _ rfl; (with_reducible repeat (first | refine blk_drewN ?_ _ | refine blk_drew ?_ | refine blk_alloc ?_ _)); refine blk_far ?_ NB308_307.out _; (with_reducible repeat (first | refine blk_drewN ?_ _ | refine blk_drew ?_ | refine blk_alloc ?_ _)); refine blk_far ?_ NB308_307.out _; (with_reducible repeat (first | refine blk_drewN ?_ _ | refine blk_drew ?_ | refine blk_alloc ?_ _)); refine blk_far ?_ NB308_307.out _; (with_reducible repeat (first | refine blk_drewN ?_ _ | refine blk_drew ?_ | refine blk_alloc ?_ _)); exact BK308.out) Try.underlying26 rfl (by kernel_rfl) .nil)))) rfl ?_
    exact ⟨_, _, _, _, _, by first | rfl | (simp [errW_none, errW_some] <;> rfl) | (simp [*, errW_none, errW_some] <;> rfl), by exact Kd.N_mono (Kd.N_far (p := ⟨gb308, 2, none⟩) (Kd.N_far (p := ⟨gb308, 1, none⟩) (Kd.N_far (p := ⟨gb308, 0, none⟩) (Kd.N_far (p := ⟨gb307, 2, none⟩) (Kd.N_far (p := ⟨gb307, 1, none⟩) (Kd.N_far (p := ⟨gb307, 0, none⟩) (Kd.N_mono (Kd.N_mono HO_6.out (fun k_ hk => (⟨hk, hk.2.2.2.2.2.1⟩ : _ ∧ k_ ≠ gb307))) (fun k_ hk => (⟨hk, hk.1.2.2.2.2.2.2.1⟩ : _ ∧ k_ ≠ gb308))) (fun _ hk => hk.1.2) (.bool t315)) (fun _ hk => hk.1.2) (.slice Ao16 t316.length co16)) (fun _ hk => hk.1.2) (.slice Ao17 t319.length co17)) (fun _ hk => hk.2) (.bool t322)) (fun _ hk => hk.2) (.slice Ao22 t323.length co22)) (fun _ hk => hk.2) (.slice Ao23 t326.length co23)) (fun _ hk => ⟨hk.1.1.1, ⟨hk.1.1.2.1, ⟨hk.1.1.2.2.1, ⟨hk.1.1.2.2.2.1, hk.1.1.2.2.2.2.1⟩⟩⟩⟩), by exact Kd.R_mono (Kd.R_far (p := ⟨gb308, 2, none⟩) (Kd.R_far (p := ⟨gb308, 1, none⟩) (Kd.R_far (p := ⟨gb308, 0, none⟩) (Kd.R_far (p := ⟨gb307, 2, none⟩) (Kd.R_far (p := ⟨gb307, 1, none⟩) (Kd.R_far (p := ⟨gb307, 0, none⟩) (Kd.R_types (Kd.R_types HO_331001.out BK307.out (by decide)) BK308.out (by decide)) (fun _ hk => hk.1.2) (.bool t315)) (fun _ hk => hk.1.2) (.slice Ao16 t316.length co16)) (fun _ hk => hk.1.2) (.slice Ao17 t319.length co17)) (fun _ hk => hk.2) (.bool t322)) (fun _ hk => hk.2) (.slice Ao22 t323.length co22)) (fun _ hk => hk.2) (.slice Ao23 t326.length co23)) (fun _ hk => ⟨hk.1.1.1, ⟨hk.1.1.2.1, ⟨hk.1.1.2.2.1, hk.1.1.2.2.2⟩⟩⟩), by exact Kd.Q_mono (Kd.Q_far (p := ⟨gb308, 2, none⟩) (Kd.Q_far (p := ⟨gb308, 1, none⟩) (Kd.Q_far (p := ⟨gb308, 0, none⟩) (Kd.Q_far (p := ⟨gb307, 2, none⟩) (Kd.Q_far (p := ⟨gb307, 1, none⟩) (Kd.Q_far (p := ⟨gb307, 0, none⟩) (Kd.Q_types (Kd.Q_types HO_331002.out BK307.out (by decide)) BK308.out (by decide)) (fun _ hk => hk.1.2) (.bool t315)) (fun _ hk => hk.1.2) (.slice Ao16 t316.length co16)) (fun _ hk => hk.1.2) (.slice Ao17 t319.length co17)) (fun _ hk => hk.2) (.bool t322)) (fun _ hk => hk.2) (.slice Ao22 t323.length co22)) (fun _ hk => hk.2) (.slice Ao23 t326.length co23)) (fun _ hk => ⟨hk.1.1.1, ⟨hk.1.1.2.1, ⟨hk.1.1.2.2.1, hk.1.1.2.2.2⟩⟩⟩), by exact Kd.R_mono (Kd.R_far (p := ⟨gb308, 2, none⟩) (Kd.R_far (p := ⟨gb308, 1, none⟩) (Kd.R_far (p := ⟨gb308, 0, none⟩) (Kd.R_far (p := ⟨gb307, 2, none⟩) (Kd.R_far (p := ⟨gb307, 1, none⟩) (Kd.R_far (p := ⟨gb307, 0, none⟩) (Kd.R_types (Kd.R_types HO_332001.out BK307.out (by decide)) BK308.out (by decide)) (fun _ hk => hk.1.2) (.bool t315)) (fun _ hk => hk.1.2) (.slice Ao16 t316.length co16)) (fun _ hk => hk.1.2) (.slice Ao17 t319.length co17)) (fun _ hk => hk.2) (.bool t322)) (fun _ hk => hk.2) (.slice Ao22 t323.length co22)) (fun _ hk => hk.2) (.slice Ao23 t326.length co23)) (fun _ hk => ⟨hk.1.1.1, ⟨hk.1.1.2.1, ⟨hk.1.1.2.2.1, hk.1.1.2.2.2⟩⟩⟩), by exact Kd.Q_mono (Kd.Q_far (p := ⟨gb308, 2, none⟩) (Kd.Q_far (p := ⟨gb308, 1, none⟩) (Kd.Q_far (p := ⟨gb308, 0, none⟩) (Kd.Q_far (p := ⟨gb307, 2, none⟩) (Kd.Q_far (p := ⟨gb307, 1, none⟩) (Kd.Q_far (p := ⟨gb307, 0, none⟩) (Kd.Q_types (Kd.Q_types HO_332002.out BK307.out (by decide)) BK308.out (by decide)) (fun _ hk => hk.1.2) (.bool t315)) (fun _ hk => hk.1.2) (.slice Ao16 t316.length co16)) (fun _ hk => hk.1.2) (.slice Ao17 t319.length co17)) (fun _ hk => hk.2) (.bool t322)) (fun _ hk => hk.2) (.slice Ao22 t323.length co22)) (fun _ hk => hk.2) (.slice Ao23 t326.length co23)) (fun _ hk => ⟨hk.1.1.1, ⟨hk.1.1.2.1, ⟨hk.1.1.2.2.1, hk.1.1.2.2.2⟩⟩⟩), bl⟩
end Go.Proofs.Ytchegijjjakmpaa.P

end
