/- A part of the claim FnExactUnitOk: texts of this session and texts that its program printed out of the translation, joined. -/
import Derived.Test.YtedodaifpekahaaCFnExactUnitOk22
import Derived.Carry
import Derived.Test.YtedodaifpekahaaCFnExactUnitOk21
import Derived.Test.YtedodaifpekahaaCFnExactUnitOk29
import Derived.Test.YtedodaifpekahaaCFnExactUnitOk30
import Derived.Test.YtedodaifpekahaaCFnExactUnitOk0
import Derived.Test.YtedodaifpekahaaCFnExactUnitOk1
import Derived.Test.YtedodaifpekahaaCFnExactUnitOk2
import Derived.Test.YtedodaifpekahaaCFnExactUnitOk3
import Derived.Test.YtedodaifpekahaaCFnExactUnitOk4
import Derived.Test.YtedodaifpekahaaCFnExactUnitOk5
import Derived.Test.YtedodaifpekahaaCFnExactUnitOk6
import Derived.Test.YtedodaifpekahaaCFnExactUnitOk7
import Derived.Test.YtedodaifpekahaaCFnExactUnitOk8
import Derived.Test.YtedodaifpekahaaCFnExactUnitOk9
import Derived.Test.YtedodaifpekahaaCFnExactUnitOk10
import Derived.Test.YtedodaifpekahaaCFnExactUnitOk11
import Derived.Test.YtedodaifpekahaaCFnExactUnitOk12
import Derived.Test.YtedodaifpekahaaCFnExactUnitOk13
import Derived.Test.YtedodaifpekahaaCFnExactUnitOk14
import Derived.Test.YtedodaifpekahaaCFnExactUnitOk15
import Derived.Test.YtedodaifpekahaaCFnExactUnitOk16
import Derived.Test.YtedodaifpekahaaCFnExactUnitOk17
import Derived.Test.YtedodaifpekahaaCFnExactUnitOk18
import Derived.Test.YtedodaifpekahaaCFnExactUnitOk19
import Derived.Test.YtedodaifpekahaaCFnExactUnitOk20
import Derived.Test.YtedodaifpekahaaCFnExactUnitOk23
import Derived.Test.YtedodaifpekahaaCFnExactUnitOk24
import Derived.Test.YtedodaifpekahaaCFnExactUnitOk25
import Derived.Test.YtedodaifpekahaaCFnExactUnitOk26
import Derived.Test.YtedodaifpekahaaCFnExactUnitOk27
import Derived.Test.YtedodaifpekahaaCFnExactUnitOk28
section

namespace Go.Proofs.Ytedodaifpekahaa.P
open Go Go.RowKit Go.Proofs.YtedodaifpekahaaW.PrintWords Go.Proofs.YtedodaifpekahaaW.PrintLast Go.Proofs.YtedodaifpekahaaW.PrintMore
set_option linter.unusedVariables false
set_option linter.unusedSimpArgs false
theorem wantEnts_snoc (e : Int × Int × Int) : ∀ (l : List (Int × Int × Int)) (i : Nat), wantEnts (l ++ [e]) i = wantEnts l i ++ [wantE e (i + l.length)]
  | [], i => rfl
  | x :: l, i => by
    show wantE x i :: wantEnts (l ++ [e]) (i + 1) = wantE x i :: (wantEnts l (i + 1) ++ [wantE e (i + (l.length + 1))])
    rw [wantEnts_snoc e l (i + 1), show i + 1 + l.length = i + (l.length + 1) by omega]
section
variable {ops : Array Oper} {rest : List Oper} {o : Oper} {a : Act} {Q : Exit → Act → World → Prop} {W : World}
theorem make_event (hgd : o.guard = none) (hop : o.op = .makeMap 50 none) {w : World} (hB : Below w.heap.size w W)
    (h : ∀ g, g = W.heap.size → ∀ W1, W1.heap[g]? = some (wantsAt 0) → Below w.heap.size w W1 → w.heap.size ≤ g → wpList Try.prog ops Q rest (a.put o.dst (.map (some g))) W1) : wpList Try.prog ops Q (o :: rest) a W := by
  refine Kd.event_run hgd ?_ (h _ rfl _ (blk_new W _) (below_alloc hB _) hB.size)
  unfold execOp
  rw [hop]
  simp only [Option.map, Sem.run_bind, run_makeMap, Result.andThen]
  rfl
theorem insert_event {g m : Nat} {e1 e2 e3 : Int} {x k v : Operand} (hgd : o.guard = none) (hop : o.op = .insert 50 x k v) (hN : o.dst = none) (hx : a.eval x = .map (some g)) (hk : a.eval k = .int .i64 e1) (hv : a.eval v = .agg #[.int .i64 e2, .int .i64 e3])
    (hm : W.heap[g]? = some (wantsAt m)) (hl : wantL.take (m + 1) = wantL.take m ++ [(e1, e2, e3)]) (hlen : (wantL.take m).length = m) (hf : wantFind e1 (wantL.take m) = none) {w : World} (hB : Below w.heap.size w W) (hg : w.heap.size ≤ g)
    (h : ∀ W1, W1.heap[g]? = some (wantsAt (m + 1)) → Below w.heap.size w W1 → wpList Try.prog ops Q rest a W1) : wpList Try.prog ops Q (o :: rest) a W := by
  have hm0 := hm
  unfold wantsAt at hm
  obtain ⟨j, hj⟩ := findNow_want e1 (wantL.take m) 0 0
  rw [hf] at hj
  have hkk : MapKept.IsKey (.int .i64) (.int .i64 e1) := by simp [MapKept.IsKey]
  have hu := Try.underlying50
  have hu3 := Try.underlying3
  have e0 : Obj.map ((wantEnts (wantL.take m) 0).toArray.push { key := .int .i64 e1, val := .agg #[.int .i64 e2, .int .i64 e3], born := m }) (m + 1) = wantsAt (m + 1) := by
    unfold wantsAt
    rw [hl, wantEnts_snoc, hlen, Nat.zero_add, List.push_toArray]
    rfl
  have hrun : (Instr.mapUpdate 50 (.map (some g)) (.int .i64 e1) (.agg #[.int .i64 e2, .int .i64 e3])).run Try.prog W = .ok () { W with heap := W.heap.setIfInBounds g (wantsAt (m + 1)) } := by
    rw [← e0]
    simp [Instr.mapUpdate, run_underlying hu, MapKept.run_getObj_map hm, MapKept.run_checkKey hu3 hkk, MapKept.run_findKey hu3 hj, MapKept.run_setObj_map _ hm, Result.andThen]
  have hh := MapKept.heap_set (o' := wantsAt (m + 1)) hm0
  refine wpList_plain hgd fun K hK => ?_
  unfold Oper.wp
  have hex : (execOp a.eval o).run Try.prog W = .ok .skip { W with heap := W.heap.setIfInBounds g (wantsAt (m + 1)) } := by
    unfold execOp
    rw [hop]
    dsimp only
    rw [hx, hk, hv]
    simp only [Sem.run_bind, hrun, Result.andThen]
    rfl
  rw [hex]
  show K (a.put o.dst undef) _
  rw [hN]
  exact hK _ _ (h _ hh.1 (hB.trans ⟨rfl, rfl, rfl, by simp, fun k_ hk_ => hh.2 k_ (by omega)⟩))
end
set_option maxHeartbeats 8000000 in
set_option maxRecDepth 100000 in
theorem impl_wants.calls (w : World) : Calls Try.prog 21 #[] w fun e w' => ∃ g, e = .returned (.map (some g)) ∧ g = w.heap.size ∧ w'.heap[g]? = some wantsO ∧ Below w.heap.size w w' := by
  have HB := Aside0.mk (Below.refl w.heap.size w)
  go_enter Try.func21, Try.ntmps21
  go_wp2_with (first | ((with_reducible refine gate_dst (N := 1) rfl ?_); refine make_event rfl rfl HB.out ?_; intro gM hg W1 hm_ hb_ hs_; clear HB; have HM := Aside0.mk hm_; have HB := Aside0.mk hb_; have HS := Aside0.mk hs_; have HG := Aside0.mk hg; clear hm_ hb_ hs_ hg) | (refine insert_event rfl rfl rfl rfl rfl rfl HM.out rfl rfl rfl HB.out HS.out ?_; intro W1 hm_ hb_; clear HM HB; have HM := Aside0.mk hm_; have HB := Aside0.mk hb_; clear hm_ hb_))
  go_ret
  exact ⟨_, rfl, HG.out, HM.out, HB.out⟩
end Go.Proofs.Ytedodaifpekahaa.P

end
section

namespace Go.Proofs.Ytedodaifpekahaa.P
open Go.RowKit Go.Proofs.YtedodaifpekahaaW.PrintWords Go.Proofs.YtedodaifpekahaaW.PrintLast Go.Proofs.YtedodaifpekahaaW.PrintMore
attribute [local go_sem] max2_int min2_int max_two min_two max_three min_three max_four min_four
set_option linter.unusedVariables false
set_option linter.unusedSimpArgs false
set_option maxHeartbeats 8000000 in
set_option maxRecDepth 100000 in
theorem impl_UnitOk.calls (k : Nat) (A0_0 : Option Addr) (c0_0 : Nat) (l0_0 : List (S76)) (A0_1 : Option Addr) (c0_1 : Nat) (l0_1 : List (S46)) (r : Bool) (w : World) (hr0_0 : Kd.C k76 w A0_0 l0_0.length l0_0) (hc0_0 : l0_0.length ≤ c0_0) (hr0_1 : Kd.C k46 w A0_1 l0_1.length l0_1) (hc0_1 : l0_1.length ≤ c0_1) (h : impl_UnitOk.f k l0_0 l0_1 = some r) :
  Calls Try.prog 8 #[.agg #[.slice A0_0 l0_0.length c0_0, .slice A0_1 l0_1.length c0_1]] w fun e w' => e = .returned (.bool r) ∧ Below w.heap.size w w' := by
 have hu31 := Try.underlying31
 have hu46 := Try.underlying46
 have HR0_0 := Aside0.mk hr0_0
 have HC0_0 := Aside0.mk hc0_0
 clear hr0_0 hc0_0
 have HR0_1 := Aside0.mk hr0_1
 have HC0_1 := Aside0.mk hc0_1
 clear hr0_1 hc0_1
 have HB := Aside0.mk (Below.refl w.heap.size w)
 have H : ((impl_ClassesOk.f k l0_0).bind fun t402 => (if t402 = true then (if (l0_1.length : Int) < 1 then (impl_UnitOk.j0 k true l0_0 l0_1) else (impl_UnitOk.j0 k (decide ((l0_1.length : Int) > 4)) l0_0 l0_1)) else (impl_UnitOk.j0 k true l0_0 l0_1))) = some r := h
 clear h
 have HC2 := Aside0.mk H
 clear H
 go_enter Try.func8, Try.ntmps8
 go_upto_region 1 with (first | ((with_reducible refine gd 1 rfl ?_); (try (refine gate_guard (by rfl) ?_; dsimp only)); refine bx 1 #[.slice A0_0 l0_0.length c0_0, .slice A0_1 l0_1.length c0_1] 31 ?_; intro gb401 hg w3 hbox hb; have BK401 := Aside0.mk hbox; have GW401 := hz HB hg; have GE401 := hz HB hg; replace HB := hs HB hb; clear hb hbox hg))
 (try simp only [Act.put, List.setIfInBounds_toArray, List.set_cons_zero, List.set_cons_succ])
 go_cut [22] (fun v22 wc => ∃ (kq : Nat) (x22_1 : Bool), v22 = .bool x22_1 ∧ Aside0 (impl_UnitOk.j0 kq x22_1 l0_0 l0_1 = some r) ∧ Aside0 (kq ≤ k) ∧ Aside0 (wc.heap[gb401]? = some (.cells #[(.slice A0_0 l0_0.length c0_0), (.slice A0_1 l0_1.length c0_1)] 31 (0, 0))) ∧ Aside0 (Below w.heap.size w wc))
 case first =>
  have H := HC2.out
  clear HC2
  obtain ⟨t402, A4, H⟩ := ob H
  by_cases c5 : t402 = true
  ·subst c5
   replace H := it H
   by_cases c6 : (l0_1.length : Int) < 1
   ·rw [if_pos c6] at H
    have c6b0 : decide ((l0_1.length : Int) < 1) = true := decide_eq_true c6
    have c6b1 : decide (l0_1.length < 1) = true := decide_eq_true (by omega)
    clear c6
    (first | rw [c6b0] | (simp only [i64_w, i32_w]; rw [c6b0]) | skip)
    have H' := Aside0.mk H
    clear H
    obtain ⟨_,_,_,_⟩ := cf2 BK401
    go_wp2_with (first | ((with_reducible refine gc 20 rfl ?_); refine gl (some 9) Try.func20 #[.slice A0_0 l0_0.length c0_0] rfl ?_; (with_reducible refine (impl_ClassesOk.calls k _ _ l0_0 true _ ?side1 ?side2 A4.out).mono ?_); (case side1 => exact cb HR0_0.out); (case side2 => exact HC0_0.out); rintro e w8 ⟨rfl, hb⟩; refine ⟨_, rfl, ?_⟩; replace BK401 := kb BK401 hb; replace HB := hs HB hb; (try clear hb); obtain ⟨_,_,_,_⟩ := cf2 BK401))
    go_meet
    case rel => exact ⟨_, (true), (by first | rfl | (simp; done) | (simp [*]; done)), H', ⟨by first | omega | exact Nat.le_refl _⟩, kk BK401, ⟨bl⟩⟩
   ·rw [if_neg c6] at H
    have c6b0 : decide ((l0_1.length : Int) < 1) = false := decide_eq_false c6
    have c6b1 : decide (l0_1.length < 1) = false := decide_eq_false (by omega)
    clear c6
    (first | rw [c6b0] | (simp only [i64_w, i32_w]; rw [c6b0]) | skip)
    have H' := Aside0.mk H
    clear H
    obtain ⟨_,_,_,_⟩ := cf2 BK401
    go_wp2_with (first | ((with_reducible refine gc 20 rfl ?_); refine gl (some 9) Try.func20 #[.slice A0_0 l0_0.length c0_0] rfl ?_; (with_reducible refine (impl_ClassesOk.calls k _ _ l0_0 true _ ?side1 ?side2 A4.out).mono ?_); (case side1 => exact cb HR0_0.out); (case side2 => exact HC0_0.out); rintro e w11 ⟨rfl, hb⟩; refine ⟨_, rfl, ?_⟩; replace BK401 := kb BK401 hb; replace HB := hs HB hb; (try clear hb); obtain ⟨_,_,_,_⟩ := cf2 BK401))
    go_meet
    case rel => exact ⟨_, (decide ((l0_1.length : Int) > 4)), (by first | rfl | (simp; done) | (simp [*]; done)), H', ⟨by first | omega | exact Nat.le_refl _⟩, kk BK401, ⟨bl⟩⟩
  ·replace c5 := Bool.eq_false_iff.mpr c5
   subst c5
   replace H := ie H
   have H' := Aside0.mk H
   clear H
   obtain ⟨_,_,_,_⟩ := cf2 BK401
   go_wp2_with (first | ((with_reducible refine gc 20 rfl ?_); refine gl (some 9) Try.func20 #[.slice A0_0 l0_0.length c0_0] rfl ?_; (with_reducible refine (impl_ClassesOk.calls k _ _ l0_0 false _ ?side1 ?side2 A4.out).mono ?_); (case side1 => exact cb HR0_0.out); (case side2 => exact HC0_0.out); rintro e w14 ⟨rfl, hb⟩; refine ⟨_, rfl, ?_⟩; replace BK401 := kb BK401 hb; replace HB := hs HB hb; (try clear hb)))
   go_meet
   case rel => exact ⟨_, (true), (by first | rfl | (simp; done) | (simp [*]; done)), H', ⟨by first | omega | exact Nat.le_refl _⟩, kk BK401, ⟨bl⟩⟩
 case rest =>
  clear HC2
  obtain ⟨kq, x22_1, rfl, HA, HJ1, BK401, HB⟩ := hcut
  cases kq with
  | zero => exact absurd HA.out (by simp [impl_UnitOk.j0])
  | succ kj1 =>
   have H := HA.out
   clear HA
   simp only [impl_UnitOk.j0] at H
   by_cases c15 : x22_1 = true
   ·subst c15
    replace H := it H
    obtain rfl := Option.some.inj H; clear H
    go_wp2
    go_ret
    exact fin
   ·replace c15 := Bool.eq_false_iff.mpr c15
    subst c15
    replace H := ie H
    by_cases c16 : 0 < (l0_1.length : Int)
    ·rw [if_pos c16] at H
     have c16b0 : decide (0 < (l0_1.length : Int)) = true := decide_eq_true c16
     have c16b1 : decide (0 < l0_1.length) = true := decide_eq_true (by omega)
     clear c16
     have HC17 := Aside0.mk H
     clear H
     obtain ⟨_,_,_,_⟩ := cf2 BK401
     have p403 : 0 ≤ (0 : Int) := (by omega)
     have q403 : 0 < (l0_1.length : Int) := od
     obtain ⟨ad403, A403_2, c403_2, A403_5, c403_5, A403_6, c403_6, A403_7, c403_7, e403, hx403_0, hx403_1, hx403_2, hx403_3, hx403_4, hx403_5, hx403_6, hx403_7, hl403_2, hi403_2, hl403_5, hi403_5, hl403_6, hi403_6, hl403_7, hi403_7⟩ := at_T46 HR0_1.out 0 p403 q403
     cases e403
     have qi403 : (0 < l0_1.length) = True := eq_true (by omega)
     (try rw [show ((0 : Int)).toNat = 0 from rfl] at hx403_0)
     (try rw [show 0 * 8 = 0 from rfl] at hx403_0)
     (try rw [Addr.add_zero'] at hx403_0)
     (try rw [show ((0 : Int)).toNat = 0 from rfl] at hx403_1)
     (try rw [show 0 * 8 = 0 from rfl] at hx403_1)
     (try rw [Addr.add_zero'] at hx403_1)
     (try rw [show ((0 : Int)).toNat = 0 from rfl] at hx403_2)
     (try rw [show 0 * 8 = 0 from rfl] at hx403_2)
     (try rw [Addr.add_zero'] at hx403_2)
     (try rw [show ((0 : Int)).toNat = 0 from rfl] at hx403_3)
     (try rw [show 0 * 8 = 0 from rfl] at hx403_3)
     (try rw [Addr.add_zero'] at hx403_3)
     (try rw [show ((0 : Int)).toNat = 0 from rfl] at hx403_4)
     (try rw [show 0 * 8 = 0 from rfl] at hx403_4)
     (try rw [Addr.add_zero'] at hx403_4)
     (try rw [show ((0 : Int)).toNat = 0 from rfl] at hx403_5)
     (try rw [show 0 * 8 = 0 from rfl] at hx403_5)
     (try rw [Addr.add_zero'] at hx403_5)
     (try rw [show ((0 : Int)).toNat = 0 from rfl] at hx403_6)
     (try rw [show 0 * 8 = 0 from rfl] at hx403_6)
     (try rw [Addr.add_zero'] at hx403_6)
     (try rw [show ((0 : Int)).toNat = 0 from rfl] at hx403_7)
     (try rw [show 0 * 8 = 0 from rfl] at hx403_7)
     (try rw [Addr.add_zero'] at hx403_7)
     obtain ⟨hx403_0,hx403_1,hx403_2,hx403_3,hx403_4,hx403_5,hx403_6,hx403_7⟩ := hc8 HB hx403_0 hx403_1 hx403_2 hx403_3 hx403_4 hx403_5 hx403_6 hx403_7
     have HR403_2 := Aside0.mk hi403_2
     have HC403_2 := Aside0.mk hl403_2
     clear hi403_2 hl403_2
     have HR403_5 := Aside0.mk hi403_5
     have HC403_5 := Aside0.mk hl403_5
     clear hi403_5 hl403_5
     have HR403_6 := Aside0.mk hi403_6
     have HC403_6 := Aside0.mk hl403_6
     clear hi403_6 hl403_6
     have HR403_7 := Aside0.mk hi403_7
     have HC403_7 := Aside0.mk hl403_7
     clear hi403_7 hl403_7
     replace p403 := eq_true p403
     replace q403 := eq_true q403
     go_upto_region 4 with (first | ((with_reducible refine gd 3 rfl ?_); (try (refine gate_guard (by rfl) ?_; dsimp only)); refine bx 3 #[.int .i64 0, .int .i64 0, .slice none 0 0, .int .i64 0, .int .i64 0, .slice none 0 0, .slice none 0 0, .slice none 0 0] 46 ?_; intro gb404 hg w19 hbox hb; have BK404 := Aside0.mk hbox; have GW404 := hz HB hg; have GE404 := hz HB hg; have NB401_404 := nl BK401 hg; have NB404_401 := ng BK401 hg; replace BK401 := kb BK401 hb; replace HB := hs HB hb; clear hb hbox hg; have hnb20 := NB404_401.out; have hnc20 := NB401_404.out; obtain ⟨_,_,_,_,_,_,_,_,_,_,_,_,_,_,_,_⟩ := cf8 BK404))
     (try simp only [Act.put, List.setIfInBounds_toArray, List.set_cons_zero, List.set_cons_succ])
     go_cut [40] (fun v40 wc => ∃ (kq : Nat) (x40_16 : Bool), v40 = .bool x40_16 ∧ Aside0 (impl_UnitOk.j1 kq x40_16 l0_0 l0_1 = some r) ∧ Aside0 (kq ≤ kj1) ∧ Aside0 (wc.heap[gb401]? = some (.cells #[(.slice A0_0 l0_0.length c0_0), (.slice (some ad403) l0_1.length c0_1)] 31 (0, 0))) ∧ Aside0 (wc.heap[gb404]? = some (.cells #[.int .i64 ((rd_T46 l0_1 0).f0), .int .i64 ((rd_T46 l0_1 0).f1), (.slice A403_2 ((rd_T46 l0_1 0).f2).length c403_2), .int .i64 ((rd_T46 l0_1 0).f3), .int .i64 ((rd_T46 l0_1 0).f4), (.slice A403_5 ((rd_T46 l0_1 0).f5).length c403_5), (.slice A403_6 ((rd_T46 l0_1 0).f6).length c403_6), (.slice A403_7 ((rd_T46 l0_1 0).f7).length c403_7)] 46 (0, 0))) ∧ Aside0 (Below w.heap.size w wc))
     case first =>
      have H := HC17.out
      clear HC17
      by_cases c22 : ((rd_T46 l0_1 0).f0) = (-1)
      ·rw [if_pos c22] at H
       have c22b0 := beq_iff_eq.mpr c22
       have c22b1 := bne_eq_false_iff_eq.mpr c22
       clear c22
       (first | rw [c22b0] | (simp only [i64_w, i32_w]; rw [c22b0]) | skip)
       by_cases c23 : (((rd_T46 l0_1 0).f2).length : Int) = 0
       ·rw [if_pos c23] at H
        have c23b0 := beq_iff_eq.mpr c23
        have c23b1 := bne_eq_false_iff_eq.mpr c23
        clear c23
        have H' := Aside0.mk H
        clear H
        have hnb24 := NB404_401.out
        have hnc24 := NB401_404.out
        obtain ⟨_,_,_,_,_,_,_,_,_,_,_,_,_,_,_,_⟩ := cf8 BK404
        go_wp2
        go_meet
        case rel => exact ⟨_, ((((rd_T46 l0_1 0).f3) != 1)), (by first | rfl | (simp; done) | (simp [*]; done)), H', ⟨by have := HJ1.out; first | omega | exact Nat.le_refl _⟩, kf, kf, ⟨bl⟩⟩
       ·rw [if_neg c23] at H
        have c23b0 := beq_eq_false_iff_ne.mpr c23
        have c23b1 := bne_iff_ne.mpr c23
        have c23b2 : ¬ (((rd_T46 l0_1 0).f2) = []) := fun h_ => c23 (by rw [h_]; rfl)
        have H' := Aside0.mk H
        clear H
        have hnb26 := NB404_401.out
        have hnc26 := NB401_404.out
        obtain ⟨_,_,_,_,_,_,_,_,_,_,_,_,_,_,_,_⟩ := cf8 BK404
        go_wp2
        go_meet
        case rel => exact ⟨_, (true), (by first | rfl | (simp; done) | (simp [*]; done)), H', ⟨by have := HJ1.out; first | omega | exact Nat.le_refl _⟩, kf, kf, ⟨bl⟩⟩
      ·rw [if_neg c22] at H
       have c22b0 := beq_eq_false_iff_ne.mpr c22
       have c22b1 := bne_iff_ne.mpr c22
       (first | rw [c22b0] | (simp only [i64_w, i32_w]; rw [c22b0]) | skip)
       have H' := Aside0.mk H
       clear H
       have hnb28 := NB404_401.out
       have hnc28 := NB401_404.out
       obtain ⟨_,_,_,_,_,_,_,_,_,_,_,_,_,_,_,_⟩ := cf8 BK404
       go_wp2
       go_meet
       case rel => exact ⟨_, (true), (by first | rfl | (simp; done) | (simp [*]; done)), H', ⟨by have := HJ1.out; first | omega | exact Nat.le_refl _⟩, kf, kf, ⟨bl⟩⟩
     case rest =>
      clear HC17
      obtain ⟨kq, x40_16, rfl, HA, HJ16, BK401, BK404, HB⟩ := hcut
      cases kq with
      | zero => exact absurd HA.out (by simp [impl_UnitOk.j1])
      | succ kj16 =>
       have H := HA.out
       clear HA
       simp only [impl_UnitOk.j1] at H
       by_cases c30 : x40_16 = true
       ·subst c30
        replace H := it H
        obtain rfl := Option.some.inj H; clear H
        go_wp2
        go_ret
        exact fin
       ·replace c30 := Bool.eq_false_iff.mpr c30
        subst c30
        replace H := ie H
        have H' := Aside0.mk H
        clear H
        go_wp2_with (first | ((with_reducible refine gc 21 rfl ?_); refine goesL_ (some 41) rfl rfl Try.func21 (by kernel_rfl) rfl #[] rfl (by (try simp only [List.map_toArray, List.map_cons, List.map_nil]); first | done | rfl) ?_; (refine (impl_wants.calls _).mono ?_); rintro e w31 ⟨gb405, rfl, hg, hbox, hb⟩; refine ⟨_, rfl, ?_⟩; have BK405 := Aside0.mk hbox; have GW405 := hz HB hg; have GE405 := hz HB hg; have NB401_405 := nl BK401 hg; have NB405_401 := ng BK401 hg; have NB404_405 := nl BK404 hg; have NB405_404 := ng BK404 hg; replace BK401 := kb BK401 hb; replace BK404 := kb BK404 hb; replace HB := hs HB hb; clear hb hbox hg; have hnb32 := NB401_404.out; have hnc32 := NB404_401.out; have hnb33 := NB401_405.out; have hnc33 := NB405_401.out; obtain ⟨_,_,_,_⟩ := cf2 BK401))
        go_loopg [45] kj16 (fun kq v45 w' => ∃ (x45_3 : Int), v45 = .int .i64 x45_3 ∧ Aside0 (impl_UnitOk.l0 kq l0_1 (l0_1.length : Int) x45_3 l0_0 l0_1 = some r) ∧ Aside0 (kq ≤ kj16) ∧ Aside0 (w'.heap[gb401]? = some (.cells #[(.slice A0_0 l0_0.length c0_0), (.slice (some ad403) l0_1.length c0_1)] 31 (0, 0))) ∧ Aside0 (w'.heap[gb404]? = some (.cells #[.int .i64 ((rd_T46 l0_1 0).f0), .int .i64 ((rd_T46 l0_1 0).f1), (.slice A403_2 ((rd_T46 l0_1 0).f2).length c403_2), .int .i64 ((rd_T46 l0_1 0).f3), .int .i64 ((rd_T46 l0_1 0).f4), (.slice A403_5 ((rd_T46 l0_1 0).f5).length c403_5), (.slice A403_6 ((rd_T46 l0_1 0).f6).length c403_6), (.slice A403_7 ((rd_T46 l0_1 0).f7).length c403_7)] 46 (0, 0))) ∧ Aside0 (w'.heap[gb405]? = some (wantsO)) ∧ Aside0 (Below w.heap.size w w'))
        case atStart => exact ⟨(0), (by first | rfl | (simp; done) | (simp [*]; done)), H', ⟨Nat.le_refl _⟩, kk BK401, kk BK404, kk BK405, ⟨bl⟩⟩
        case round =>
         clear H'
         obtain ⟨x45_3, rfl, HA, HK3, BK401, BK404, BK405, HB⟩ := hrel
         cases gk with
         | zero => exact absurd HA.out (by simp [impl_UnitOk.l0])
         | succ k3 =>
          have H := HA.out
          clear HA
          simp only [impl_UnitOk.l0] at H
          by_cases c35 : x45_3 < (l0_1.length : Int)
          ·rw [if_pos c35] at H
           have c35b0 : decide (x45_3 < (l0_1.length : Int)) = true := decide_eq_true c35
           clear c35
           by_cases c36 : 0 ≤ x45_3
           ·rw [if_pos c36] at H
            have c36b0 : decide (0 ≤ x45_3) = true := decide_eq_true c36
            clear c36
            by_cases c37 : x45_3 < (l0_1.length : Int)
            ·rw [if_pos c37] at H
             have c37b0 : decide (x45_3 < (l0_1.length : Int)) = true := decide_eq_true c37
             clear c37
             obtain ⟨t409, A38, H⟩ := ob H
             by_cases c39 : t409 = true
             ·subst c39
              replace H := it H
              obtain ⟨t410, A40, H⟩ := ob H
              by_cases c41 : t410 = true
              ·subst c41
               replace H := it H
               obtain ⟨t411, A42, H⟩ := ob H
               by_cases c43 : t411 = true
               ·subst c43
                replace H := it H
                have H' := Aside0.mk H
                clear H
                have p407 : 0 ≤ (x45_3 : Int) := od
                have q407 : x45_3 < (l0_1.length : Int) := od
                obtain ⟨ad407, A407_2, c407_2, A407_5, c407_5, A407_6, c407_6, A407_7, c407_7, e407, hx407_0, hx407_1, hx407_2, hx407_3, hx407_4, hx407_5, hx407_6, hx407_7, hl407_2, hi407_2, hl407_5, hi407_5, hl407_6, hi407_6, hl407_7, hi407_7⟩ := at_T46 HR0_1.out x45_3 p407 q407
                obtain rfl : ad403 = ad407 := (by injection e407)
                obtain ⟨hx407_0,hx407_1,hx407_2,hx407_3,hx407_4,hx407_5,hx407_6,hx407_7⟩ := hc8 HB hx407_0 hx407_1 hx407_2 hx407_3 hx407_4 hx407_5 hx407_6 hx407_7
                have HR407_2 := Aside0.mk hi407_2
                have HC407_2 := Aside0.mk hl407_2
                clear hi407_2 hl407_2
                have HR407_5 := Aside0.mk hi407_5
                have HC407_5 := Aside0.mk hl407_5
                clear hi407_5 hl407_5
                have HR407_6 := Aside0.mk hi407_6
                have HC407_6 := Aside0.mk hl407_6
                clear hi407_6 hl407_6
                have HR407_7 := Aside0.mk hi407_7
                have HC407_7 := Aside0.mk hl407_7
                clear hi407_7 hl407_7
                replace p407 := eq_true p407
                replace q407 := eq_true q407
                go_wp2_with (first | ((with_reducible refine gd 6 rfl ?_); (try (refine gate_guard (by rfl) ?_; dsimp only)); refine bx 6 #[.int .i64 0, .int .i64 0, .slice none 0 0, .int .i64 0, .int .i64 0, .slice none 0 0, .slice none 0 0, .slice none 0 0] 46 ?_; intro gb408 hg w44 hbox hb; have BK408 := Aside0.mk hbox; have GW408 := hz HB hg; have GE408 := hz HB hg; have NB401_408 := nl BK401 hg; have NB408_401 := ng BK401 hg; have NB404_408 := nl BK404 hg; have NB408_404 := ng BK404 hg; have NB405_408 := nl BK405 hg; have NB408_405 := ng BK405 hg; replace BK401 := kb BK401 hb; replace BK404 := kb BK404 hb; replace BK405 := kb BK405 hb; replace HB := hs HB hb; clear hb hbox hg; have hnb45 := NB408_401.out; have hnc45 := NB401_408.out; have hnb46 := NB408_404.out; have hnc46 := NB404_408.out; have hnb47 := NB408_405.out; have hnc47 := NB405_408.out; obtain ⟨_,_,_,_,_,_,_,_,_,_,_,_,_,_,_,_⟩ := cf8 BK408; have hnb49 := NB401_404.out; have hnc49 := NB404_401.out; have hnb50 := NB401_405.out; have hnc50 := NB405_401.out; obtain ⟨_,_,_,_⟩ := cf2 BK401) | ((with_reducible refine gc 22 rfl ?_); refine gl (some 51) Try.func22 #[.agg #[.slice A0_0 l0_0.length c0_0, .slice (some ad403) l0_1.length c0_1], .agg #[.int .i64 ((rd_T46 l0_1 x45_3).f0), .int .i64 ((rd_T46 l0_1 x45_3).f1), .slice A407_2 ((rd_T46 l0_1 x45_3).f2).length c407_2, .int .i64 ((rd_T46 l0_1 x45_3).f3), .int .i64 ((rd_T46 l0_1 x45_3).f4), .slice A407_5 ((rd_T46 l0_1 x45_3).f5).length c407_5, .slice A407_6 ((rd_T46 l0_1 x45_3).f6).length c407_6, .slice A407_7 ((rd_T46 l0_1 x45_3).f7).length c407_7]] rfl ?_; (with_reducible refine (impl_headOk.calls k3 _ _ l0_0 _ _ l0_1 ((rd_T46 l0_1 x45_3).f0) ((rd_T46 l0_1 x45_3).f1) _ _ ((rd_T46 l0_1 x45_3).f2) ((rd_T46 l0_1 x45_3).f3) ((rd_T46 l0_1 x45_3).f4) _ _ ((rd_T46 l0_1 x45_3).f5) _ _ ((rd_T46 l0_1 x45_3).f6) _ _ ((rd_T46 l0_1 x45_3).f7) true _ ?side1 ?side2 ?side3 ?side4 ?side5 ?side6 ?side7 ?side8 ?side9 ?side10 ?side11 ?side12 A38.out).mono ?_); (case side1 => exact cb HR0_0.out); (case side2 => exact HC0_0.out); (case side3 => exact cb HR0_1.out); (case side4 => exact HC0_1.out); (case side5 => exact cb HR407_2.out); (case side6 => exact HC407_2.out); (case side7 => exact cb HR407_5.out); (case side8 => exact HC407_5.out); (case side9 => exact cb HR407_6.out); (case side10 => exact HC407_6.out); (case side11 => exact cb HR407_7.out); (case side12 => exact HC407_7.out); rintro e w52 ⟨rfl, hb⟩; refine ⟨_, rfl, ?_⟩; replace BK401 := kq BK401 hb; replace BK404 := kq BK404 hb; replace BK405 := Aside0.mk (blk_below (g := gb405) (o := wantsO) (by (with_reducible repeat (first | refine blk_drewN ?_ _ | refine blk_drew ?_ | refine blk_alloc ?_ _)); refine obj_far ?_ NB405_408.out _; (with_reducible repeat (first | refine blk_drewN ?_ _ | refine blk_drew ?_ | refine blk_alloc ?_ _)); refine obj_far ?_ NB405_408.out _; (with_reducible repeat (first | refine blk_drewN ?_ _ | refine blk_drew ?_ | refine blk_alloc ?_ _)); refine obj_far ?_ NB405_408.out _; (with_reducible repeat (first | refine blk_drewN ?_ _ | refine blk_drew ?_ | refine blk_alloc ?_ _)); refine obj_far ?_ NB405_408.out _; (with_reducible repeat (first | refine blk_drewN ?_ _ | refine blk_drew ?_ | refine blk_alloc ?_ _)); refine obj_far ?_ NB405_408.out _; (with_reducible repeat (first | refine blk_drewN ?_ _ | refine blk_drew ?_ | refine blk_alloc ?_ _)); refine obj_far ?_ NB405_408.out _; (with_reducible repeat (first | refine blk_drewN ?_ _ | refine blk_drew ?_ | refine blk_alloc ?_ _)); refine obj_far ?_ NB405_408.out _; (with_reducible repeat (first | refine blk_drewN ?_ _ | refine blk_drew ?_ | refine blk_alloc ?_ _)); refine obj_far ?_ NB405_408.out _; (with_reducible repeat (first | refine blk_drewN ?_ _ | refine blk_drew ?_ | refine blk_alloc ?_ _)); exact BK405.out) hb); replace BK408 := kp gb408 #[.int .i64 ((rd_T46 l0_1 x45_3).f0), .int .i64 ((rd_T46 l0_1 x45_3).f1), .slice A407_2 ((rd_T46 l0_1 x45_3).f2).length c407_2, .int .i64 ((rd_T46 l0_1 x45_3).f3), .int .i64 ((rd_T46 l0_1 x45_3).f4), .slice A407_5 ((rd_T46 l0_1 x45_3).f5).length c407_5, .slice A407_6 ((rd_T46 l0_1 x45_3).f6).length c407_6, .slice A407_7 ((rd_T46 l0_1 x45_3).f7).length c407_7] 46 hb; replace HB := hs HB hb; (try clear hb); obtain ⟨_,_,_,_⟩ := cf2 BK401; obtain ⟨_,_,_,_,_,_,_,_,_,_,_,_,_,_,_,_⟩ := cf8 BK408) | (go_at_call 23; (with_reducible refine (impl_codeOk.calls k3 _ _ l0_0 _ _ l0_1 ((rd_T46 l0_1 x45_3).f0) ((rd_T46 l0_1 x45_3).f1) _ _ ((rd_T46 l0_1 x45_3).f2) ((rd_T46 l0_1 x45_3).f3) ((rd_T46 l0_1 x45_3).f4) _ _ ((rd_T46 l0_1 x45_3).f5) _ _ ((rd_T46 l0_1 x45_3).f6) _ _ ((rd_T46 l0_1 x45_3).f7) 0 true _ ?side1 ?side2 ?side3 ?side4 ?side5 ?side6 ?side7 ?side8 ?side9 ?side10 ?side11 ?side12 ?sideM A40.out).mono ?_); (case sideM => (with_reducible repeat (first | refine blk_drewN ?_ _ | refine blk_drew ?_ | refine blk_alloc ?_ _)); exact BK405.out); (case side1 => exact cb HR0_0.out); (case side2 => exact HC0_0.out); (case side3 => exact cb HR0_1.out); (case side4 => exact HC0_1.out); (case side5 => exact cb HR407_2.out); (case side6 => exact HC407_2.out); (case side7 => exact cb HR407_5.out); (case side8 => exact HC407_5.out); (case side9 => exact cb HR407_6.out); (case side10 => exact HC407_6.out); (case side11 => exact cb HR407_7.out); (case side12 => exact HC407_7.out); rintro e w55 ⟨rfl, hb⟩; replace BK401 := kb BK401 hb; replace BK404 := kb BK404 hb; replace BK405 := kb BK405 hb; replace BK408 := kb BK408 hb; replace HB := hs HB hb; (try clear hb); obtain ⟨_,_,_,_⟩ := cf2 BK401; obtain ⟨_,_,_,_,_,_,_,_,_,_,_,_,_,_,_,_⟩ := cf8 BK408) | (go_at_call 24; (with_reducible refine (impl_catchesOk.calls k3 _ _ l0_0 _ _ l0_1 ((rd_T46 l0_1 x45_3).f0) ((rd_T46 l0_1 x45_3).f1) _ _ ((rd_T46 l0_1 x45_3).f2) ((rd_T46 l0_1 x45_3).f3) ((rd_T46 l0_1 x45_3).f4) _ _ ((rd_T46 l0_1 x45_3).f5) _ _ ((rd_T46 l0_1 x45_3).f6) _ _ ((rd_T46 l0_1 x45_3).f7) true _ ?side1 ?side2 ?side3 ?side4 ?side5 ?side6 ?side7 ?side8 ?side9 ?side10 ?side11 ?side12 A42.out).mono ?_); (case side1 => exact cb HR0_0.out); (case side2 => exact HC0_0.out); (case side3 => exact cb HR0_1.out); (case side4 => exact HC0_1.out); (case side5 => exact cb HR407_2.out); (case side6 => exact HC407_2.out); (case side7 => exact cb HR407_5.out); (case side8 => exact HC407_5.out); (case side9 => exact cb HR407_6.out); (case side10 => exact HC407_6.out); (case side11 => exact cb HR407_7.out); (case side12 => exact HC407_7.out); rintro e w58 ⟨rfl, hb⟩; replace BK401 := kb BK401 hb; replace BK404 := kb BK404 hb; replace BK405 := kb BK405 hb; replace BK408 := kb BK408 hb; replace HB := hs HB hb; (try clear hb)))
                go_roundg k3
                case measure => have := HJ1.out; have := HJ16.out; have := HK3.out; omega
                case rel => exact ⟨(wrap64 (x45_3 + 1)), (by first | rfl | (simp; done) | (simp [*]; done)), H', ⟨by have := HJ1.out; have := HJ16.out; have := HK3.out; omega⟩, kk BK401, kk BK404, kk BK405, ⟨bl⟩⟩
               ·replace c43 := Bool.eq_false_iff.mpr c43
                subst c43
                replace H := ie H
                obtain rfl := Option.some.inj H; clear H
                have p407 : 0 ≤ (x45_3 : Int) := od
                have q407 : x45_3 < (l0_1.length : Int) := od
                obtain ⟨ad407, A407_2, c407_2, A407_5, c407_5, A407_6, c407_6, A407_7, c407_7, e407, hx407_0, hx407_1, hx407_2, hx407_3, hx407_4, hx407_5, hx407_6, hx407_7, hl407_2, hi407_2, hl407_5, hi407_5, hl407_6, hi407_6, hl407_7, hi407_7⟩ := at_T46 HR0_1.out x45_3 p407 q407
                obtain rfl : ad403 = ad407 := (by injection e407)
                obtain ⟨hx407_0,hx407_1,hx407_2,hx407_3,hx407_4,hx407_5,hx407_6,hx407_7⟩ := hc8 HB hx407_0 hx407_1 hx407_2 hx407_3 hx407_4 hx407_5 hx407_6 hx407_7
                have HR407_2 := Aside0.mk hi407_2
                have HC407_2 := Aside0.mk hl407_2
                clear hi407_2 hl407_2
                have HR407_5 := Aside0.mk hi407_5
                have HC407_5 := Aside0.mk hl407_5
                clear hi407_5 hl407_5
                have HR407_6 := Aside0.mk hi407_6
                have HC407_6 := Aside0.mk hl407_6
                clear hi407_6 hl407_6
                have HR407_7 := Aside0.mk hi407_7
                have HC407_7 := Aside0.mk hl407_7
                clear hi407_7 hl407_7
                replace p407 := eq_true p407
                replace q407 := eq_true q407
                go_wp2_with (first | ((with_reducible refine gd 6 rfl ?_); (try (refine gate_guard (by rfl) ?_; dsimp only)); refine bx 6 #[.int .i64 0, .int .i64 0, .slice none 0 0, .int .i64 0, .int .i64 0, .slice none 0 0, .slice none 0 0, .slice none 0 0] 46 ?_; intro gb408 hg w59 hbox hb; have BK408 := Aside0.mk hbox; have GW408 := hz HB hg; have GE408 := hz HB hg; have NB401_408 := nl BK401 hg; have NB408_401 := ng BK401 hg; have NB404_408 := nl BK404 hg; have NB408_404 := ng BK404 hg; have NB405_408 := nl BK405 hg; have NB408_405 := ng BK405 hg; replace BK401 := kb BK401 hb; replace BK404 := kb BK404 hb; replace BK405 := kb BK405 hb; replace HB := hs HB hb; clear hb hbox hg; have hnb60 := NB408_401.out; have hnc60 := NB401_408.out; have hnb61 := NB408_404.out; have hnc61 := NB404_408.out; have hnb62 := NB408_405.out; have hnc62 := NB405_408.out; obtain ⟨_,_,_,_,_,_,_,_,_,_,_,_,_,_,_,_⟩ := cf8 BK408; have hnb64 := NB401_404.out; have hnc64 := NB404_401.out; have hnb65 := NB401_405.out; have hnc65 := NB405_401.out; obtain ⟨_,_,_,_⟩ := cf2 BK401) | ((with_reducible refine gc 22 rfl ?_); refine gl (some 51) Try.func22 #[.agg #[.slice A0_0 l0_0.length c0_0, .slice (some ad403) l0_1.length c0_1], .agg #[.int .i64 ((rd_T46 l0_1 x45_3).f0), .int .i64 ((rd_T46 l0_1 x45_3).f1), .slice A407_2 ((rd_T46 l0_1 x45_3).f2).length c407_2, .int .i64 ((rd_T46 l0_1 x45_3).f3), .int .i64 ((rd_T46 l0_1 x45_3).f4), .slice A407_5 ((rd_T46 l0_1 x45_3).f5).length c407_5, .slice A407_6 ((rd_T46 l0_1 x45_3).f6).length c407_6, .slice A407_7 ((rd_T46 l0_1 x45_3).f7).length c407_7]] rfl ?_; (with_reducible refine (impl_headOk.calls k3 _ _ l0_0 _ _ l0_1 ((rd_T46 l0_1 x45_3).f0) ((rd_T46 l0_1 x45_3).f1) _ _ ((rd_T46 l0_1 x45_3).f2) ((rd_T46 l0_1 x45_3).f3) ((rd_T46 l0_1 x45_3).f4) _ _ ((rd_T46 l0_1 x45_3).f5) _ _ ((rd_T46 l0_1 x45_3).f6) _ _ ((rd_T46 l0_1 x45_3).f7) true _ ?side1 ?side2 ?side3 ?side4 ?side5 ?side6 ?side7 ?side8 ?side9 ?side10 ?side11 ?side12 A38.out).mono ?_); (case side1 => exact cb HR0_0.out); (case side2 => exact HC0_0.out); (case side3 => exact cb HR0_1.out); (case side4 => exact HC0_1.out); (case side5 => exact cb HR407_2.out); (case side6 => exact HC407_2.out); (case side7 => exact cb HR407_5.out); (case side8 => exact HC407_5.out); (case side9 => exact cb HR407_6.out); (case side10 => exact HC407_6.out); (case side11 => exact cb HR407_7.out); (case side12 => exact HC407_7.out); rintro e w67 ⟨rfl, hb⟩; refine ⟨_, rfl, ?_⟩; replace BK401 := kq BK401 hb; replace BK404 := kq BK404 hb; replace BK405 := Aside0.mk (blk_below (g := gb405) (o := wantsO) (by (with_reducible repeat (first | refine blk_drewN ?_ _ | refine blk_drew ?_ | refine blk_alloc ?_ _)); refine obj_far ?_ NB405_408.out _; (with_reducible repeat (first | refine blk_drewN ?_ _ | refine blk_drew ?_ | refine blk_alloc ?_ _)); refine obj_far ?_ NB405_408.out _; (with_reducible repeat (first | refine blk_drewN ?_ _ | refine blk_drew ?_ | refine blk_alloc ?_ _)); refine obj_far ?_ NB405_408.out _; (with_reducible repeat (first | refine blk_drewN ?_ _ | refine blk_drew ?_ | refine blk_alloc ?_ _)); refine obj_far ?_ NB405_408.out _; (with_reducible repeat (first | refine blk_drewN ?_ _ | refine blk_drew ?_ | refine blk_alloc ?_ _)); refine obj_far ?_ NB405_408.out _; (with_reducible repeat (first | refine blk_drewN ?_ _ | refine blk_drew ?_ | refine blk_alloc ?_ _)); refine obj_far ?_ NB405_408.out _; (with_reducible repeat (first | refine blk_drewN ?_ _ | refine blk_drew ?_ | refine blk_alloc ?_ _)); refine obj_far ?_ NB405_408.out _; (with_reducible repeat (first | refine blk_drewN ?_ _ | refine blk_drew ?_ | refine blk_alloc ?_ _)); refine obj_far ?_ NB405_408.out _; (with_reducible repeat (first | refine blk_drewN ?_ _ | refine blk_drew ?_ | refine blk_alloc ?_ _)); exact BK405.out) hb); replace BK408 := kp gb408 #[.int .i64 ((rd_T46 l0_1 x45_3).f0), .int .i64 ((rd_T46 l0_1 x45_3).f1), .slice A407_2 ((rd_T46 l0_1 x45_3).f2).length c407_2, .int .i64 ((rd_T46 l0_1 x45_3).f3), .int .i64 ((rd_T46 l0_1 x45_3).f4), .slice A407_5 ((rd_T46 l0_1 x45_3).f5).length c407_5, .slice A407_6 ((rd_T46 l0_1 x45_3).f6).length c407_6, .slice A407_7 ((rd_T46 l0_1 x45_3).f7).length c407_7] 46 hb; replace HB := hs HB hb; (try clear hb); obtain ⟨_,_,_,_⟩ := cf2 BK401; obtain ⟨_,_,_,_,_,_,_,_,_,_,_,_,_,_,_,_⟩ := cf8 BK408) | (go_at_call 23; (with_reducible refine (impl_codeOk.calls k3 _ _ l0_0 _ _ l0_1 ((rd_T46 l0_1 x45_3).f0) ((rd_T46 l0_1 x45_3).f1) _ _ ((rd_T46 l0_1 x45_3).f2) ((rd_T46 l0_1 x45_3).f3) ((rd_T46 l0_1 x45_3).f4) _ _ ((rd_T46 l0_1 x45_3).f5) _ _ ((rd_T46 l0_1 x45_3).f6) _ _ ((rd_T46 l0_1 x45_3).f7) 0 true _ ?side1 ?side2 ?side3 ?side4 ?side5 ?side6 ?side7 ?side8 ?side9 ?side10 ?side11 ?side12 ?sideM A40.out).mono ?_); (case sideM => (with_reducible repeat (first | refine blk_drewN ?_ _ | refine blk_drew ?_ | refine blk_alloc ?_ _)); exact BK405.out); (case side1 => exact cb HR0_0.out); (case side2 => exact HC0_0.out); (case side3 => exact cb HR0_1.out); (case side4 => exact HC0_1.out); (case side5 => exact cb HR407_2.out); (case side6 => exact HC407_2.out); (case side7 => exact cb HR407_5.out); (case side8 => exact HC407_5.out); (case side9 => exact cb HR407_6.out); (case side10 => exact HC407_6.out); (case side11 => exact cb HR407_7.out); (case side12 => exact HC407_7.out); rintro e w70 ⟨rfl, hb⟩; replace BK401 := kb BK401 hb; replace BK404 := kb BK404 hb; replace BK405 := kb BK405 hb; replace BK408 := kb BK408 hb; replace HB := hs HB hb; (try clear hb); obtain ⟨_,_,_,_⟩ := cf2 BK401; obtain ⟨_,_,_,_,_,_,_,_,_,_,_,_,_,_,_,_⟩ := cf8 BK408) | (go_at_call 24; (with_reducible refine (impl_catchesOk.calls k3 _ _ l0_0 _ _ l0_1 ((rd_T46 l0_1 x45_3).f0) ((rd_T46 l0_1 x45_3).f1) _ _ ((rd_T46 l0_1 x45_3).f2) ((rd_T46 l0_1 x45_3).f3) ((rd_T46 l0_1 x45_3).f4) _ _ ((rd_T46 l0_1 x45_3).f5) _ _ ((rd_T46 l0_1 x45_3).f6) _ _ ((rd_T46 l0_1 x45_3).f7) false _ ?side1 ?side2 ?side3 ?side4 ?side5 ?side6 ?side7 ?side8 ?side9 ?side10 ?side11 ?side12 A42.out).mono ?_); (case side1 => exact cb HR0_0.out); (case side2 => exact HC0_0.out); (case side3 => exact cb HR0_1.out); (case side4 => exact HC0_1.out); (case side5 => exact cb HR407_2.out); (case side6 => exact HC407_2.out); (case side7 => exact cb HR407_5.out); (case side8 => exact HC407_5.out); (case side9 => exact cb HR407_6.out); (case side10 => exact HC407_6.out); (case side11 => exact cb HR407_7.out); (case side12 => exact HC407_7.out); rintro e w73 ⟨rfl, hb⟩; replace BK401 := kb BK401 hb; replace BK404 := kb BK404 hb; replace BK405 := kb BK405 hb; replace BK408 := kb BK408 hb; replace HB := hs HB hb; (try clear hb)))
                go_ret
                exact fin
              ·replace c41 := Bool.eq_false_iff.mpr c41
               subst c41
               replace H := ie H
               obtain rfl := Option.some.inj H; clear H
               have p407 : 0 ≤ (x45_3 : Int) := od
               have q407 : x45_3 < (l0_1.length : Int) := od
               obtain ⟨ad407, A407_2, c407_2, A407_5, c407_5, A407_6, c407_6, A407_7, c407_7, e407, hx407_0, hx407_1, hx407_2, hx407_3, hx407_4, hx407_5, hx407_6, hx407_7, hl407_2, hi407_2, hl407_5, hi407_5, hl407_6, hi407_6, hl407_7, hi407_7⟩ := at_T46 HR0_1.out x45_3 p407 q407
               obtain rfl : ad403 = ad407 := (by injection e407)
               obtain ⟨hx407_0,hx407_1,hx407_2,hx407_3,hx407_4,hx407_5,hx407_6,hx407_7⟩ := hc8 HB hx407_0 hx407_1 hx407_2 hx407_3 hx407_4 hx407_5 hx407_6 hx407_7
               have HR407_2 := Aside0.mk hi407_2
               have HC407_2 := Aside0.mk hl407_2
               clear hi407_2 hl407_2
               have HR407_5 := Aside0.mk hi407_5
               have HC407_5 := Aside0.mk hl407_5
               clear hi407_5 hl407_5
               have HR407_6 := Aside0.mk hi407_6
               have HC407_6 := Aside0.mk hl407_6
               clear hi407_6 hl407_6
               have HR407_7 := Aside0.mk hi407_7
               have HC407_7 := Aside0.mk hl407_7
               clear hi407_7 hl407_7
               replace p407 := eq_true p407
               replace q407 := eq_true q407
               go_wp2_with (first | ((with_reducible refine gd 6 rfl ?_); (try (refine gate_guard (by rfl) ?_; dsimp only)); refine bx 6 #[.int .i64 0, .int .i64 0, .slice none 0 0, .int .i64 0, .int .i64 0, .slice none 0 0, .slice none 0 0, .slice none 0 0] 46 ?_; intro gb408 hg w74 hbox hb; have BK408 := Aside0.mk hbox; have GW408 := hz HB hg; have GE408 := hz HB hg; have NB401_408 := nl BK401 hg; have NB408_401 := ng BK401 hg; have NB404_408 := nl BK404 hg; have NB408_404 := ng BK404 hg; have NB405_408 := nl BK405 hg; have NB408_405 := ng BK405 hg; replace BK401 := kb BK401 hb; replace BK404 := kb BK404 hb; replace BK405 := kb BK405 hb; replace HB := hs HB hb; clear hb hbox hg; have hnb75 := NB408_401.out; have hnc75 := NB401_408.out; have hnb76 := NB408_404.out; have hnc76 := NB404_408.out; have hnb77 := NB408_405.out; have hnc77 := NB405_408.out; obtain ⟨_,_,_,_,_,_,_,_,_,_,_,_,_,_,_,_⟩ := cf8 BK408; have hnb79 := NB401_404.out; have hnc79 := NB404_401.out; have hnb80 := NB401_405.out; have hnc80 := NB405_401.out; obtain ⟨_,_,_,_⟩ := cf2 BK401) | ((with_reducible refine gc 22 rfl ?_); refine gl (some 51) Try.func22 #[.agg #[.slice A0_0 l0_0.length c0_0, .slice (some ad403) l0_1.length c0_1], .agg #[.int .i64 ((rd_T46 l0_1 x45_3).f0), .int .i64 ((rd_T46 l0_1 x45_3).f1), .slice A407_2 ((rd_T46 l0_1 x45_3).f2).length c407_2, .int .i64 ((rd_T46 l0_1 x45_3).f3), .int .i64 ((rd_T46 l0_1 x45_3).f4), .slice A407_5 ((rd_T46 l0_1 x45_3).f5).length c407_5, .slice A407_6 ((rd_T46 l0_1 x45_3).f6).length c407_6, .slice A407_7 ((rd_T46 l0_1 x45_3).f7).length c407_7]] rfl ?_; (with_reducible refine (impl_headOk.calls k3 _ _ l0_0 _ _ l0_1 ((rd_T46 l0_1 x45_3).f0) ((rd_T46 l0_1 x45_3).f1) _ _ ((rd_T46 l0_1 x45_3).f2) ((rd_T46 l0_1 x45_3).f3) ((rd_T46 l0_1 x45_3).f4) _ _ ((rd_T46 l0_1 x45_3).f5) _ _ ((rd_T46 l0_1 x45_3).f6) _ _ ((rd_T46 l0_1 x45_3).f7) true _ ?side1 ?side2 ?side3 ?side4 ?side5 ?side6 ?side7 ?side8 ?side9 ?side10 ?side11 ?side12 A38.out).mono ?_); (case side1 => exact cb HR0_0.out); (case side2 => exact HC0_0.out); (case side3 => exact cb HR0_1.out); (case side4 => exact HC0_1.out); (case side5 => exact cb HR407_2.out); (case side6 => exact HC407_2.out); (case side7 => exact cb HR407_5.out); (case side8 => exact HC407_5.out); (case side9 => exact cb HR407_6.out); (case side10 => exact HC407_6.out); (case side11 => exact cb HR407_7.out); (case side12 => exact HC407_7.out); rintro e w82 ⟨rfl, hb⟩; refine ⟨_, rfl, ?_⟩; replace BK401 := kq BK401 hb; replace BK404 := kq BK404 hb; replace BK405 := Aside0.mk (blk_below (g := gb405) (o := wantsO) (by (with_reducible repeat (first | refine blk_drewN ?_ _ | refine blk_drew ?_ | refine blk_alloc ?_ _)); refine obj_far ?_ NB405_408.out _; (with_reducible repeat (first | refine blk_drewN ?_ _ | refine blk_drew ?_ | refine blk_alloc ?_ _)); refine obj_far ?_ NB405_408.out _; (with_reducible repeat (first | refine blk_drewN ?_ _ | refine blk_drew ?_ | refine blk_alloc ?_ _)); refine obj_far ?_ NB405_408.out _; (with_reducible repeat (first | refine blk_drewN ?_ _ | refine blk_drew ?_ | refine blk_alloc ?_ _)); refine obj_far ?_ NB405_408.out _; (with_reducible repeat (first | refine blk_drewN ?_ _ | refine blk_drew ?_ | refine blk_alloc ?_ _)); refine obj_far ?_ NB405_408.out _; (with_reducible repeat (first | refine blk_drewN ?_ _ | refine blk_drew ?_ | refine blk_alloc ?_ _)); refine obj_far ?_ NB405_408.out _; (with_reducible repeat (first | refine blk_drewN ?_ _ | refine blk_drew ?_ | refine blk_alloc ?_ _)); refine obj_far ?_ NB405_408.out _; (with_reducible repeat (first | refine blk_drewN ?_ _ | refine blk_drew ?_ | refine blk_alloc ?_ _)); refine obj_far ?_ NB405_408.out _; (with_reducible repeat (first | refine blk_drewN ?_ _ | refine blk_drew ?_ | refine blk_alloc ?_ _)); exact BK405.out) hb); replace BK408 := kp gb408 #[.int .i64 ((rd_T46 l0_1 x45_3).f0), .int .i64 ((rd_T46 l0_1 x45_3).f1), .slice A407_2 ((rd_T46 l0_1 x45_3).f2).length c407_2, .int .i64 ((rd_T46 l0_1 x45_3).f3), .int .i64 ((rd_T46 l0_1 x45_3).f4), .slice A407_5 ((rd_T46 l0_1 x45_3).f5).length c407_5, .slice A407_6 ((rd_T46 l0_1 x45_3).f6).length c407_6, .slice A407_7 ((rd_T46 l0_1 x45_3).f7).length c407_7] 46 hb; replace HB := hs HB hb; (try clear hb); obtain ⟨_,_,_,_⟩ := cf2 BK401; obtain ⟨_,_,_,_,_,_,_,_,_,_,_,_,_,_,_,_⟩ := cf8 BK408) | (go_at_call 23; (with_reducible refine (impl_codeOk.calls k3 _ _ l0_0 _ _ l0_1 ((rd_T46 l0_1 x45_3).f0) ((rd_T46 l0_1 x45_3).f1) _ _ ((rd_T46 l0_1 x45_3).f2) ((rd_T46 l0_1 x45_3).f3) ((rd_T46 l0_1 x45_3).f4) _ _ ((rd_T46 l0_1 x45_3).f5) _ _ ((rd_T46 l0_1 x45_3).f6) _ _ ((rd_T46 l0_1 x45_3).f7) 0 false _ ?side1 ?side2 ?side3 ?side4 ?side5 ?side6 ?side7 ?side8 ?side9 ?side10 ?side11 ?side12 ?sideM A40.out).mono ?_); (case sideM => (with_reducible repeat (first | refine blk_drewN ?_ _ | refine blk_drew ?_ | refine blk_alloc ?_ _)); exact BK405.out); (case side1 => exact cb HR0_0.out); (case side2 => exact HC0_0.out); (case side3 => exact cb HR0_1.out); (case side4 => exact HC0_1.out); (case side5 => exact cb HR407_2.out); (case side6 => exact HC407_2.out); (case side7 => exact cb HR407_5.out); (case side8 => exact HC407_5.out); (case side9 => exact cb HR407_6.out); (case side10 => exact HC407_6.out); (case side11 => exact cb HR407_7.out); (case side12 => exact HC407_7.out); rintro e w85 ⟨rfl, hb⟩; replace BK401 := kb BK401 hb; replace BK404 := kb BK404 hb; replace BK405 := kb BK405 hb; replace BK408 := kb BK408 hb; replace HB := hs HB hb; (try clear hb)))
               go_ret
               exact fin
             ·replace c39 := Bool.eq_false_iff.mpr c39
              subst c39
              replace H := ie H
              obtain rfl := Option.some.inj H; clear H
              have p407 : 0 ≤ (x45_3 : Int) := od
              have q407 : x45_3 < (l0_1.length : Int) := od
              obtain ⟨ad407, A407_2, c407_2, A407_5, c407_5, A407_6, c407_6, A407_7, c407_7, e407, hx407_0, hx407_1, hx407_2, hx407_3, hx407_4, hx407_5, hx407_6, hx407_7, hl407_2, hi407_2, hl407_5, hi407_5, hl407_6, hi407_6, hl407_7, hi407_7⟩ := at_T46 HR0_1.out x45_3 p407 q407
              obtain rfl : ad403 = ad407 := (by injection e407)
              obtain ⟨hx407_0,hx407_1,hx407_2,hx407_3,hx407_4,hx407_5,hx407_6,hx407_7⟩ := hc8 HB hx407_0 hx407_1 hx407_2 hx407_3 hx407_4 hx407_5 hx407_6 hx407_7
              have HR407_2 := Aside0.mk hi407_2
              have HC407_2 := Aside0.mk hl407_2
              clear hi407_2 hl407_2
              have HR407_5 := Aside0.mk hi407_5
              have HC407_5 := Aside0.mk hl407_5
              clear hi407_5 hl407_5
              have HR407_6 := Aside0.mk hi407_6
              have HC407_6 := Aside0.mk hl407_6
              clear hi407_6 hl407_6
              have HR407_7 := Aside0.mk hi407_7
              have HC407_7 := Aside0.mk hl407_7
              clear hi407_7 hl407_7
              replace p407 := eq_true p407
              replace q407 := eq_true q407
              go_wp2_with (first | ((with_reducible refine gd 6 rfl ?_); (try (refine gate_guard (by rfl) ?_; dsimp only)); refine bx 6 #[.int .i64 0, .int .i64 0, .slice none 0 0, .int .i64 0, .int .i64 0, .slice none 0 0, .slice none 0 0, .slice none 0 0] 46 ?_; intro gb408 hg w86 hbox hb; have BK408 := Aside0.mk hbox; have GW408 := hz HB hg; have GE408 := hz HB hg; have NB401_408 := nl BK401 hg; have NB408_401 := ng BK401 hg; have NB404_408 := nl BK404 hg; have NB408_404 := ng BK404 hg; have NB405_408 := nl BK405 hg; have NB408_405 := ng BK405 hg; replace BK401 := kb BK401 hb; replace BK404 := kb BK404 hb; replace BK405 := kb BK405 hb; replace HB := hs HB hb; clear hb hbox hg; have hnb87 := NB408_401.out; have hnc87 := NB401_408.out; have hnb88 := NB408_404.out; have hnc88 := NB404_408.out; have hnb89 := NB408_405.out; have hnc89 := NB405_408.out; obtain ⟨_,_,_,_,_,_,_,_,_,_,_,_,_,_,_,_⟩ := cf8 BK408; have hnb91 := NB401_404.out; have hnc91 := NB404_401.out; have hnb92 := NB401_405.out; have hnc92 := NB405_401.out; obtain ⟨_,_,_,_⟩ := cf2 BK401) | ((with_reducible refine gc 22 rfl ?_); refine gl (some 51) Try.func22 #[.agg #[.slice A0_0 l0_0.length c0_0, .slice (some ad403) l0_1.length c0_1], .agg #[.int .i64 ((rd_T46 l0_1 x45_3).f0), .int .i64 ((rd_T46 l0_1 x45_3).f1), .slice A407_2 ((rd_T46 l0_1 x45_3).f2).length c407_2, .int .i64 ((rd_T46 l0_1 x45_3).f3), .int .i64 ((rd_T46 l0_1 x45_3).f4), .slice A407_5 ((rd_T46 l0_1 x45_3).f5).length c407_5, .slice A407_6 ((rd_T46 l0_1 x45_3).f6).length c407_6, .slice A407_7 ((rd_T46 l0_1 x45_3).f7).length c407_7]] rfl ?_; (with_reducible refine (impl_headOk.calls k3 _ _ l0_0 _ _ l0_1 ((rd_T46 l0_1 x45_3).f0) ((rd_T46 l0_1 x45_3).f1) _ _ ((rd_T46 l0_1 x45_3).f2) ((rd_T46 l0_1 x45_3).f3) ((rd_T46 l0_1 x45_3).f4) _ _ ((rd_T46 l0_1 x45_3).f5) _ _ ((rd_T46 l0_1 x45_3).f6) _ _ ((rd_T46 l0_1 x45_3).f7) false _ ?side1 ?side2 ?side3 ?side4 ?side5 ?side6 ?side7 ?side8 ?side9 ?side10 ?side11 ?side12 A38.out).mono ?_); (case side1 => exact cb HR0_0.out); (case side2 => exact HC0_0.out); (case side3 => exact cb HR0_1.out); (case side4 => exact HC0_1.out); (case side5 => exact cb HR407_2.out); (case side6 => exact HC407_2.out); (case side7 => exact cb HR407_5.out); (case side8 => exact HC407_5.out); (case side9 => exact cb HR407_6.out); (case side10 => exact HC407_6.out); (case side11 => exact cb HR407_7.out); (case side12 => exact HC407_7.out); rintro e w94 ⟨rfl, hb⟩; refine ⟨_, rfl, ?_⟩; replace BK401 := kq BK401 hb; replace BK404 := kq BK404 hb; replace BK405 := Aside0.mk (blk_below (g := gb405) (o := wantsO) (by (with_reducible repeat (first | refine blk_drewN ?_ _ | refine blk_drew ?_ | refine blk_alloc ?_ _)); refine obj_far ?_ NB405_408.out _; (with_reducible repeat (first | refine blk_drewN ?_ _ | refine blk_drew ?_ | refine blk_alloc ?_ _)); refine obj_far ?_ NB405_408.out _; (with_reducible repeat (first | refine blk_drewN ?_ _ | refine blk_drew ?_ | refine blk_alloc ?_ _)); refine obj_far ?_ NB405_408.out _; (with_reducible repeat (first | refine blk_drewN ?_ _ | refine blk_drew ?_ | refine blk_alloc ?_ _)); refine obj_far ?_ NB405_408.out _; (with_reducible repeat (first | refine blk_drewN ?_ _ | refine blk_drew ?_ | refine blk_alloc ?_ _)); refine obj_far ?_ NB405_408.out _; (with_reducible repeat (first | refine blk_drewN ?_ _ | refine blk_drew ?_ | refine blk_alloc ?_ _)); refine obj_far ?_ NB405_408.out _; (with_reducible repeat (first | refine blk_drewN ?_ _ | refine blk_drew ?_ | refine blk_alloc ?_ _)); refine obj_far ?_ NB405_408.out _; (with_reducible repeat (first | refine blk_drewN ?_ _ | refine blk_drew ?_ | refine blk_alloc ?_ _)); refine obj_far ?_ NB405_408.out _; (with_reducible repeat (first | refine blk_drewN ?_ _ | refine blk_drew ?_ | refine blk_alloc ?_ _)); exact BK405.out) hb); replace BK408 := kp gb408 #[.int .i64 ((rd_T46 l0_1 x45_3).f0), .int .i64 ((rd_T46 l0_1 x45_3).f1), .slice A407_2 ((rd_T46 l0_1 x45_3).f2).length c407_2, .int .i64 ((rd_T46 l0_1 x45_3).f3), .int .i64 ((rd_T46 l0_1 x45_3).f4), .slice A407_5 ((rd_T46 l0_1 x45_3).f5).length c407_5, .slice A407_6 ((rd_T46 l0_1 x45_3).f6).length c407_6, .slice A407_7 ((rd_T46 l0_1 x45_3).f7).length c407_7] 46 hb; replace HB := hs HB hb; (try clear hb)))
              go_ret
              exact fin
            ·rw [if_neg c37] at H
             exact absurd H (by simp)
           ·rw [if_neg c36] at H
            exact absurd H (by simp)
          ·rw [if_neg c35] at H
           have c35b0 : decide (x45_3 < (l0_1.length : Int)) = false := decide_eq_false c35
           clear c35
           obtain ⟨t406, A95, H⟩ := ob H
           obtain rfl := Option.some.inj H; clear H
           have hnb96 := NB401_404.out
           have hnc96 := NB404_401.out
           have hnb97 := NB401_405.out
           have hnc97 := NB405_401.out
           obtain ⟨_,_,_,_⟩ := cf2 BK401
           go_wp2_with (first | ((with_reducible refine gc 25 rfl ?_); refine gl (some 68) Try.func25 #[.agg #[.slice A0_0 l0_0.length c0_0, .slice (some ad403) l0_1.length c0_1]] rfl ?_; (with_reducible refine (impl_agree.calls k3 _ _ l0_0 _ _ l0_1 t406 _ ?side1 ?side2 ?side3 ?side4 A95.out).mono ?_); (case side1 => exact cb HR0_0.out); (case side2 => exact HC0_0.out); (case side3 => exact cb HR0_1.out); (case side4 => exact HC0_1.out); rintro e w99 ⟨rfl, hb⟩; refine ⟨_, rfl, ?_⟩; replace BK401 := kb BK401 hb; replace BK404 := kb BK404 hb; replace BK405 := kb BK405 hb; replace HB := hs HB hb; (try clear hb)))
           go_ret
           exact fin
    ·rw [if_neg c16] at H
     exact absurd H (by simp)
end Go.Proofs.Ytedodaifpekahaa.P

end
section

namespace Go.Proofs.Ytedodaifpekahaa.P
open Go.RowKit Go.Proofs.YtedodaifpekahaaW.PrintWords Go.Proofs.YtedodaifpekahaaW.PrintLast Go.Proofs.YtedodaifpekahaaW.PrintMore
attribute [local go_sem] max2_int min2_int max_two min_two max_three min_three max_four min_four
set_option linter.unusedVariables false
set_option linter.unusedSimpArgs false
set_option maxHeartbeats 8000000 in
set_option maxRecDepth 100000 in
theorem laws_eqIntS.calls (k : Nat) (A0 : Option Addr) (c0 : Nat) (l0 : List Int) (A1 : Option Addr) (c1 : Nat) (l1 : List Int) (r : Bool) (w : World) (hr0 : Kd.C (Kd.int .i64) w A0 l0.length l0) (hc0 : l0.length ≤ c0) (hr1 : Kd.C (Kd.int .i64) w A1 l1.length l1) (hc1 : l1.length ≤ c1) (h : laws_eqIntS.f k l0 l1 = some r) :
  Calls Try.prog 65 #[.slice A0 l0.length c0, .slice A1 l1.length c1] w fun e w' => e = .returned (.bool r) ∧ Drawn0 w w' := by
 have HR0 := Aside0.mk hr0
 have HC0 := Aside0.mk hc0
 clear hr0 hc0
 have HR1 := Aside0.mk hr1
 have HC1 := Aside0.mk hc1
 clear hr1 hc1
 have H : (if (l0.length : Int) = (l1.length : Int) then (laws_eqIntS.l0 k l0 l1 0) else (some false)) = some r := h
 clear h
 by_cases c3 : (l0.length : Int) = (l1.length : Int)
 ·rw [if_pos c3] at H
  have c3b0 := beq_iff_eq.mpr c3
  have c3b1 := bne_eq_false_iff_eq.mpr c3
  have c3b2 : (l0.length == l1.length) = true := by first | simpa using c3 | (simp at c3 ⊢; omega)
  clear c3
  have H' := Aside0.mk H
  clear H
  go_enter Try.func65, Try.ntmps65
  go_wp2
  repeat (go_quiet (fail); try go_wp2)
  go_loopg [5] k (fun kq v5 w' => ∃ (x5_1 : Int), v5 = .int .i64 x5_1 ∧ Aside0 (laws_eqIntS.l0 kq l0 l1 x5_1 = some r) ∧ Aside0 (kq ≤ k) ∧ Drawn0 w w')
  case atStart => exact ⟨(0), (by first | rfl | (simp; done) | (simp [*]; done)), H', ⟨Nat.le_refl _⟩, by repeat (first | exact Drawn0.refl _ | apply Drawn0.step)⟩
  case round =>
   clear H'
   obtain ⟨x5_1, rfl, HA, HK1, ⟨m1, rfl⟩⟩ := hrel
   cases gk with
   | zero => exact absurd HA.out (by simp [laws_eqIntS.l0])
   | succ k1 =>
    have H := HA.out
    clear HA
    simp only [laws_eqIntS.l0] at H
    by_cases c4 : x5_1 < (l0.length : Int)
    ·rw [if_pos c4] at H
     have c4b0 : decide (x5_1 < (l0.length : Int)) = true := decide_eq_true c4
     clear c4
     by_cases c5 : 0 ≤ x5_1
     ·rw [if_pos c5] at H
      have c5b0 : decide (0 ≤ x5_1) = true := decide_eq_true c5
      clear c5
      by_cases c6 : x5_1 < (l1.length : Int)
      ·rw [if_pos c6] at H
       have c6b0 : decide (x5_1 < (l1.length : Int)) = true := decide_eq_true c6
       clear c6
       by_cases c7 : (rd l0 x5_1) = (rd l1 x5_1)
       ·rw [if_pos c7] at H
        have c7b0 := beq_iff_eq.mpr c7
        have c7b1 := bne_eq_false_iff_eq.mpr c7
        clear c7
        have H' := Aside0.mk H
        clear H
        have p412 : 0 ≤ (x5_1 : Int) := od
        have q412 : x5_1 < (l0.length : Int) := od
        obtain ⟨ad412, e412, hx412_0⟩ := Kd.at_int HR0.out x5_1 p412 q412
        cases e412
        replace p412 := eq_true p412
        replace q412 := eq_true q412
        have p413 : 0 ≤ (x5_1 : Int) := od
        have q413 : x5_1 < (l1.length : Int) := od
        obtain ⟨ad413, e413, hx413_0⟩ := Kd.at_int HR1.out x5_1 p413 q413
        cases e413
        replace p413 := eq_true p413
        replace q413 := eq_true q413
        go_wp2
        repeat (go_quiet (fail); try go_wp2)
        go_roundg k1
        case measure => have := HK1.out; omega
        case rel => exact ⟨(wrap64 (x5_1 + 1)), (by first | rfl | (simp; done) | (simp [*]; done)), H', ⟨by have := HK1.out; omega⟩, by repeat (first | exact Drawn0.refl _ | apply Drawn0.step)⟩
       ·rw [if_neg c7] at H
        have c7b0 := beq_eq_false_iff_ne.mpr c7
        have c7b1 := bne_iff_ne.mpr c7
        obtain rfl := Option.some.inj H; clear H
        have p412 : 0 ≤ (x5_1 : Int) := od
        have q412 : x5_1 < (l0.length : Int) := od
        obtain ⟨ad412, e412, hx412_0⟩ := Kd.at_int HR0.out x5_1 p412 q412
        cases e412
        replace p412 := eq_true p412
        replace q412 := eq_true q412
        have p413 : 0 ≤ (x5_1 : Int) := od
        have q413 : x5_1 < (l1.length : Int) := od
        obtain ⟨ad413, e413, hx413_0⟩ := Kd.at_int HR1.out x5_1 p413 q413
        cases e413
        replace p413 := eq_true p413
        replace q413 := eq_true q413
        go_wp2
        repeat (go_quiet (fail); try go_wp2)
        go_ret
        exact ⟨by first | rfl | (simp; done) | (simp [*]; done), by repeat (first | exact Drawn0.refl _ | apply Drawn0.step)⟩
      ·rw [if_neg c6] at H
       exact absurd H (by simp)
     ·rw [if_neg c5] at H
      exact absurd H (by simp)
    ·rw [if_neg c4] at H
     have c4b0 : decide (x5_1 < (l0.length : Int)) = false := decide_eq_false c4
     clear c4
     obtain rfl := Option.some.inj H; clear H
     go_wp2
     repeat (go_quiet (fail); try go_wp2)
     go_ret
     exact ⟨by first | rfl | (simp; done) | (simp [*]; done), by repeat (first | exact Drawn0.refl _ | apply Drawn0.step)⟩
 ·rw [if_neg c3] at H
  have c3b0 := beq_eq_false_iff_ne.mpr c3
  have c3b1 := bne_iff_ne.mpr c3
  have c3b2 : (l0.length == l1.length) = false := by first | simpa using c3 | (simp at c3 ⊢; omega)
  obtain rfl := Option.some.inj H; clear H
  go_enter Try.func65, Try.ntmps65
  go_wp2
  repeat (go_quiet (fail); try go_wp2)
  go_ret
  exact ⟨by first | rfl | (simp; done) | (simp [*]; done), by repeat (first | exact Drawn0.refl _ | apply Drawn0.step)⟩
end Go.Proofs.Ytedodaifpekahaa.P

end
section

namespace Go.Proofs.Ytedodaifpekahaa.P
open Go.RowKit Go.Proofs.YtedodaifpekahaaW.PrintWords Go.Proofs.YtedodaifpekahaaW.PrintLast Go.Proofs.YtedodaifpekahaaW.PrintMore
attribute [local go_sem] max2_int min2_int max_two min_two max_three min_three max_four min_four
set_option linter.unusedVariables false
set_option linter.unusedSimpArgs false
set_option maxHeartbeats 8000000 in
set_option maxRecDepth 100000 in
theorem laws_eqClass.calls (k : Nat) (a0_0 : Int) (A0_1 : Option Addr) (c0_1 : Nat) (l0_1 : List Int) (a1_0 : Int) (A1_1 : Option Addr) (c1_1 : Nat) (l1_1 : List Int) (r : Bool) (w : World) (hr0_1 : Kd.C (Kd.int .i64) w A0_1 l0_1.length l0_1) (hc0_1 : l0_1.length ≤ c0_1) (hr1_1 : Kd.C (Kd.int .i64) w A1_1 l1_1.length l1_1) (hc1_1 : l1_1.length ≤ c1_1) (h : laws_eqClass.f k a0_0 l0_1 a1_0 l1_1 = some r) :
  Calls Try.prog 48 #[.agg #[.int .i64 a0_0, .slice A0_1 l0_1.length c0_1], .agg #[.int .i64 a1_0, .slice A1_1 l1_1.length c1_1]] w fun e w' => e = .returned (.bool r) ∧ Below w.heap.size w w' := by
 have hu76 := Try.underlying76
 have HR0_1 := Aside0.mk hr0_1
 have HC0_1 := Aside0.mk hc0_1
 clear hr0_1 hc0_1
 have HR1_1 := Aside0.mk hr1_1
 have HC1_1 := Aside0.mk hc1_1
 clear hr1_1 hc1_1
 have HB := Aside0.mk (Below.refl w.heap.size w)
 have H : (if a0_0 = a1_0 then ((laws_eqIntS.f k l0_1 l1_1).bind fun t416 => (if t416 = true then (some true) else (some false))) else (some false)) = some r := h
 clear h
 by_cases c3 : a0_0 = a1_0
 ·rw [if_pos c3] at H
  have c3b0 := beq_iff_eq.mpr c3
  have c3b1 := bne_eq_false_iff_eq.mpr c3
  clear c3
  obtain ⟨t416, A4, H⟩ := ob H
  by_cases c5 : t416 = true
  ·subst c5
   replace H := it H
   obtain rfl := Option.some.inj H; clear H
   go_enter Try.func48, Try.ntmps48
   go_wp2_with (first | ((with_reducible refine gc 65 rfl ?_); refine gl (some 14) Try.func65 #[.slice A0_1 l0_1.length c0_1, .slice A1_1 l1_1.length c1_1] rfl ?_; (with_reducible refine (laws_eqIntS.calls k _ _ l0_1 _ _ l1_1 true _ ?side1 ?side2 ?side3 ?side4 A4.out).mono ?_); (case side1 => exact cb HR0_1.out); (case side2 => exact HC0_1.out); (case side3 => exact cb HR1_1.out); (case side4 => exact HC1_1.out); rintro e w' ⟨rfl, ⟨nd, rfl⟩⟩; refine ⟨_, rfl, ?_⟩))
   go_ret
   exact fin
  ·replace c5 := Bool.eq_false_iff.mpr c5
   subst c5
   replace H := ie H
   obtain rfl := Option.some.inj H; clear H
   go_enter Try.func48, Try.ntmps48
   go_wp2_with (first | ((with_reducible refine gc 65 rfl ?_); refine gl (some 14) Try.func65 #[.slice A0_1 l0_1.length c0_1, .slice A1_1 l1_1.length c1_1] rfl ?_; (with_reducible refine (laws_eqIntS.calls k _ _ l0_1 _ _ l1_1 false _ ?side1 ?side2 ?side3 ?side4 A4.out).mono ?_); (case side1 => exact cb HR0_1.out); (case side2 => exact HC0_1.out); (case side3 => exact cb HR1_1.out); (case side4 => exact HC1_1.out); rintro e w' ⟨rfl, ⟨nd, rfl⟩⟩; refine ⟨_, rfl, ?_⟩))
   go_ret
   exact fin
 ·rw [if_neg c3] at H
  have c3b0 := beq_eq_false_iff_ne.mpr c3
  have c3b1 := bne_iff_ne.mpr c3
  obtain rfl := Option.some.inj H; clear H
  go_enter Try.func48, Try.ntmps48
  go_wp2
  go_ret
  exact fin
end Go.Proofs.Ytedodaifpekahaa.P

end
section

namespace Go.Proofs.Ytedodaifpekahaa.P
open Go.RowKit Go.Proofs.YtedodaifpekahaaW.PrintWords Go.Proofs.YtedodaifpekahaaW.PrintLast Go.Proofs.YtedodaifpekahaaW.PrintMore
attribute [local go_sem] max2_int min2_int max_two min_two max_three min_three max_four min_four
set_option linter.unusedVariables false
set_option linter.unusedSimpArgs false
def laws_eqClassS.T6 : Bool × List (List Nat × List Nat) := (true, [([], []), ([], []), ([0, 1], [0, 1]), ([2], [2]), ([], []), ([], []), ([4, 5], [4, 5]), ([6], [6]), ([3, 7], [3, 7]), ([8], [8])])
def laws_eqClassS.B6 : List Nat := [0, 0, 3, 7, 0, 0, 48, 112, 255, 511]
theorem laws_eqClassS.tab6 : rtab .any (opsOf Try.f26 6) = laws_eqClassS.T6 := by kernel_rfl
theorem laws_eqClassS.bits6 : waitsOk laws_eqClassS.T6.2 laws_eqClassS.B6 = true := by kernel_rfl
set_option maxHeartbeats 8000000 in
set_option maxRecDepth 100000 in
theorem laws_eqClassS.calls (k : Nat) (A0 : Option Addr) (c0 : Nat) (l0 : List (S76)) (A1 : Option Addr) (c1 : Nat) (l1 : List (S76)) (r : Bool) (w : World) (hr0 : Kd.C k76 w A0 l0.length l0) (hc0 : l0.length ≤ c0) (hr1 : Kd.C k76 w A1 l1.length l1) (hc1 : l1.length ≤ c1) (h : laws_eqClassS.f k l0 l1 = some r) :
  Calls Try.prog 26 #[.slice A0 l0.length c0, .slice A1 l1.length c1] w fun e w' => e = .returned (.bool r) ∧ Below w.heap.size w w' := by
 have hu76 := Try.underlying76
 have HR0 := Aside0.mk hr0
 have HC0 := Aside0.mk hc0
 clear hr0 hc0
 have HR1 := Aside0.mk hr1
 have HC1 := Aside0.mk hc1
 clear hr1 hc1
 have HB := Aside0.mk (Below.refl w.heap.size w)
 have H : (if (l0.length : Int) = (l1.length : Int) then (laws_eqClassS.l0 k l0 l1 0) else (some false)) = some r := h
 clear h
 by_cases c3 : (l0.length : Int) = (l1.length : Int)
 ·rw [if_pos c3] at H
  have c3b0 := beq_iff_eq.mpr c3
  have c3b1 := bne_eq_false_iff_eq.mpr c3
  have c3b2 : (l0.length == l1.length) = true := by first | simpa using c3 | (simp at c3 ⊢; omega)
  clear c3
  have H' := Aside0.mk H
  clear H
  go_enter Try.func26, Try.ntmps26
  go_wp2
  go_loopg [5] k (fun kq v5 w' => ∃ (x5_1 : Int), v5 = .int .i64 x5_1 ∧ Aside0 (laws_eqClassS.l0 kq l0 l1 x5_1 = some r) ∧ Aside0 (kq ≤ k) ∧ Aside0 (Below w.heap.size w w'))
  case atStart => exact ⟨(0), (by first | rfl | (simp; done) | (simp [*]; done)), H', ⟨Nat.le_refl _⟩, ⟨bl⟩⟩
  case round =>
   clear H'
   obtain ⟨x5_1, rfl, HA, HK1, HB⟩ := hrel
   cases gk with
   | zero => exact absurd HA.out (by simp [laws_eqClassS.l0])
   | succ k1 =>
    have H := HA.out
    clear HA
    simp only [laws_eqClassS.l0] at H
    by_cases c4 : x5_1 < (l0.length : Int)
    ·rw [if_pos c4] at H
     have c4b0 : decide (x5_1 < (l0.length : Int)) = true := decide_eq_true c4
     clear c4
     by_cases c5 : 0 ≤ x5_1
     ·rw [if_pos c5] at H
      have c5b0 : decide (0 ≤ x5_1) = true := decide_eq_true c5
      clear c5
      by_cases c6 : x5_1 < (l1.length : Int)
      ·rw [if_pos c6] at H
       have c6b0 : decide (x5_1 < (l1.length : Int)) = true := decide_eq_true c6
       clear c6
       obtain ⟨t419, A7, H⟩ := ob H
       by_cases c8 : t419 = true
       ·subst c8
        replace H := it H
        have H' := Aside0.mk H
        clear H
        try go_wp2
        replace HB := Aside0.mk (below_drew1 HB.out)
        have p417 : 0 ≤ (x5_1 : Int) := od
        have q417 : x5_1 < (l0.length : Int) := od
        obtain ⟨ad417, A417_1, c417_1, e417, hx417_0, hx417_1, hl417_1, hi417_1⟩ := at_T76 HR0.out x5_1 p417 q417
        have hw417_1 := hx417_1
        have hw417_0 := hx417_0
        cases e417
        obtain ⟨hx417_0,hx417_1⟩ := hc2 HB hx417_0 hx417_1
        have HR417_1 := Aside0.mk hi417_1
        have HC417_1 := Aside0.mk hl417_1
        clear hi417_1 hl417_1
        replace p417 := eq_true p417
        replace q417 := eq_true q417
        have p418 : 0 ≤ (x5_1 : Int) := od
        have q418 : x5_1 < (l1.length : Int) := od
        obtain ⟨ad418, A418_1, c418_1, e418, hx418_0, hx418_1, hl418_1, hi418_1⟩ := at_T76 HR1.out x5_1 p418 q418
        have hw418_1 := hx418_1
        have hw418_0 := hx418_0
        cases e418
        obtain ⟨hx418_0,hx418_1⟩ := hc2 HB hx418_0 hx418_1
        have HR418_1 := Aside0.mk hi418_1
        have HC418_1 := Aside0.mk hl418_1
        clear hi418_1 hl418_1
        replace p418 := eq_true p418
        replace q418 := eq_true q418
        refine start_ (n := 10) (S := fun w' => w'.cell? (ad417.add ((x5_1).toNat * 2)) = some (.int .i64 ((rd_T76 l0 x5_1).f0)) ∧ w'.cell? ⟨(ad417.add ((x5_1).toNat * 2)).block, (ad417.add ((x5_1).toNat * 2)).off + 1, none⟩ = some (.slice A417_1 ((rd_T76 l0 x5_1).f1).length c417_1) ∧ w'.cell? (ad418.add ((x5_1).toNat * 2)) = some (.int .i64 ((rd_T76 l1 x5_1).f0)) ∧ w'.cell? ⟨(ad418.add ((x5_1).toNat * 2)).block, (ad418.add ((x5_1).toNat * 2)).off + 1, none⟩ = some (.slice A418_1 ((rd_T76 l1 x5_1).f1).length c418_1)) (ds := []) #[false, false, false, false, false, false, false, false, false, false] (by kernel_rfl) rfl rfl ⟨((HB.out.cell (World.block_lt_of_cell? w _ hw417_0)).trans hw417_0), ((HB.out.cell (World.block_lt_of_cell? w _ hw417_1)).trans hw417_1), ((HB.out.cell (World.block_lt_of_cell? w _ hw418_0)).trans hw418_0), ((HB.out.cell (World.block_lt_of_cell? w _ hw418_1)).trans hw418_1)⟩ (fun hHeld => ?_); refine with_tabW laws_eqClassS.tab6 laws_eqClassS.bits6 (fun HT_ HW_ => ?_)
        generalize wr.drew = w9 at HB HR417_1 HR418_1 hx417_0 hx417_1 hx418_0 hx418_1 hHeld ⊢
        refine pu 0 17 #[true, false, false, false, false, false, false, false, false, false] HT_ rfl rfl ?_
        refine pu 1 18 #[true, true, false, false, false, false, false, false, false, false] HT_ rfl rfl ?_
        refine pu 2 19 #[true, true, true, false, false, false, false, false, false, false] HT_ rfl rfl ?_
        refine pu 4 21 #[true, true, true, false, true, false, false, false, false, false] HT_ rfl rfl ?_
        refine pu 5 22 #[true, true, true, false, true, true, false, false, false, false] HT_ rfl rfl ?_
        refine pu 6 23 #[true, true, true, false, true, true, true, false, false, false] HT_ rfl rfl ?_
        refine ta 3 20 #[true, true, true, true, true, true, true, false, false, false] HT_ HW_ hHeld rfl rfl ?_
        refine ta 7 24 #[true, true, true, true, true, true, true, true, false, false] HT_ HW_ hHeld rfl rfl ?_
        refine one_ (i := 8) (N := some 25) #[true, true, true, true, true, true, true, true, true, false] rfl rfl (one_of HT_.out (by kernel_rfl)) (by decide) (fun K hK => ?_)
        refine gs Try.func48 #[.agg #[.int .i64 ((rd_T76 l0 x5_1).f0), .slice A417_1 ((rd_T76 l0 x5_1).f1).length c417_1], .agg #[.int .i64 ((rd_T76 l1 x5_1).f0), .slice A418_1 ((rd_T76 l1 x5_1).f1).length c418_1]] rfl rfl ?_
        with_reducible refine (laws_eqClass.calls k1 ((rd_T76 l0 x5_1).f0) _ _ ((rd_T76 l0 x5_1).f1) ((rd_T76 l1 x5_1).f0) _ _ ((rd_T76 l1 x5_1).f1) true _ ?side1 ?side2 ?side3 ?side4 A7.out).mono ?_
        (case side1 => exact cb HR417_1.out)
        (case side2 => exact HC417_1.out)
        (case side3 => exact cb HR418_1.out)
        (case side4 => exact HC418_1.out)
        rintro e w10 ⟨rfl, hb⟩
        refine ⟨_, rfl, ?_⟩
        replace HB := hs HB hb
        (try clear hb)
        (try clear hb2)
        (try clear hk)
        (try clear hi)
        refine hK.out _ _ ⟨((HB.out.cell (World.block_lt_of_cell? w _ hw417_0)).trans hw417_0), ((HB.out.cell (World.block_lt_of_cell? w _ hw417_1)).trans hw417_1), ((HB.out.cell (World.block_lt_of_cell? w _ hw418_0)).trans hw418_0), ((HB.out.cell (World.block_lt_of_cell? w _ hw418_1)).trans hw418_1)⟩ (fun hHeld => ?_)
        clear hK K
        refine no 25 ?_
        refine pu 9 26 #[true, true, true, true, true, true, true, true, true, true] HT_ rfl rfl ?_
        refine done_ (done_of HT_.out (by kernel_rfl)) ?_
        try go_wp2
        go_roundg k1
        case measure => have := HK1.out; omega
        case rel => exact ⟨(wrap64 (x5_1 + 1)), (by first | rfl | (simp; done) | (simp [*]; done)), H', ⟨by have := HK1.out; omega⟩, ⟨bl⟩⟩
       ·replace c8 := Bool.eq_false_iff.mpr c8
        subst c8
        replace H := ie H
        obtain rfl := Option.some.inj H; clear H
        try go_wp2
        replace HB := Aside0.mk (below_drew1 HB.out)
        have p417 : 0 ≤ (x5_1 : Int) := od
        have q417 : x5_1 < (l0.length : Int) := od
        obtain ⟨ad417, A417_1, c417_1, e417, hx417_0, hx417_1, hl417_1, hi417_1⟩ := at_T76 HR0.out x5_1 p417 q417
        have hw417_1 := hx417_1
        have hw417_0 := hx417_0
        cases e417
        obtain ⟨hx417_0,hx417_1⟩ := hc2 HB hx417_0 hx417_1
        have HR417_1 := Aside0.mk hi417_1
        have HC417_1 := Aside0.mk hl417_1
        clear hi417_1 hl417_1
        replace p417 := eq_true p417
        replace q417 := eq_true q417
        have p418 : 0 ≤ (x5_1 : Int) := od
        have q418 : x5_1 < (l1.length : Int) := od
        obtain ⟨ad418, A418_1, c418_1, e418, hx418_0, hx418_1, hl418_1, hi418_1⟩ := at_T76 HR1.out x5_1 p418 q418
        have hw418_1 := hx418_1
        have hw418_0 := hx418_0
        cases e418
        obtain ⟨hx418_0,hx418_1⟩ := hc2 HB hx418_0 hx418_1
        have HR418_1 := Aside0.mk hi418_1
        have HC418_1 := Aside0.mk hl418_1
        clear hi418_1 hl418_1
        replace p418 := eq_true p418
        replace q418 := eq_true q418
        refine start_ (n := 10) (S := fun w' => w'.cell? (ad417.add ((x5_1).toNat * 2)) = some (.int .i64 ((rd_T76 l0 x5_1).f0)) ∧ w'.cell? ⟨(ad417.add ((x5_1).toNat * 2)).block, (ad417.add ((x5_1).toNat * 2)).off + 1, none⟩ = some (.slice A417_1 ((rd_T76 l0 x5_1).f1).length c417_1) ∧ w'.cell? (ad418.add ((x5_1).toNat * 2)) = some (.int .i64 ((rd_T76 l1 x5_1).f0)) ∧ w'.cell? ⟨(ad418.add ((x5_1).toNat * 2)).block, (ad418.add ((x5_1).toNat * 2)).off + 1, none⟩ = some (.slice A418_1 ((rd_T76 l1 x5_1).f1).length c418_1)) (ds := []) #[false, false, false, false, false, false, false, false, false, false] (by kernel_rfl) rfl rfl ⟨((HB.out.cell (World.block_lt_of_cell? w _ hw417_0)).trans hw417_0), ((HB.out.cell (World.block_lt_of_cell? w _ hw417_1)).trans hw417_1), ((HB.out.cell (World.block_lt_of_cell? w _ hw418_0)).trans hw418_0), ((HB.out.cell (World.block_lt_of_cell? w _ hw418_1)).trans hw418_1)⟩ (fun hHeld => ?_); refine with_tabW laws_eqClassS.tab6 laws_eqClassS.bits6 (fun HT_ HW_ => ?_)
        generalize wr.drew = w11 at HB HR417_1 HR418_1 hx417_0 hx417_1 hx418_0 hx418_1 hHeld ⊢
        refine pu 0 17 #[true, false, false, false, false, false, false, false, false, false] HT_ rfl rfl ?_
        refine pu 1 18 #[true, true, false, false, false, false, false, false, false, false] HT_ rfl rfl ?_
        refine pu 2 19 #[true, true, true, false, false, false, false, false, false, false] HT_ rfl rfl ?_
        refine pu 4 21 #[true, true, true, false, true, false, false, false, false, false] HT_ rfl rfl ?_
        refine pu 5 22 #[true, true, true, false, true, true, false, false, false, false] HT_ rfl rfl ?_
        refine pu 6 23 #[true, true, true, false, true, true, true, false, false, false] HT_ rfl rfl ?_
        refine ta 3 20 #[true, true, true, true, true, true, true, false, false, false] HT_ HW_ hHeld rfl rfl ?_
        refine ta 7 24 #[true, true, true, true, true, true, true, true, false, false] HT_ HW_ hHeld rfl rfl ?_
        refine one_ (i := 8) (N := some 25) #[true, true, true, true, true, true, true, true, true, false] rfl rfl (one_of HT_.out (by kernel_rfl)) (by decide) (fun K hK => ?_)
        refine gs Try.func48 #[.agg #[.int .i64 ((rd_T76 l0 x5_1).f0), .slice A417_1 ((rd_T76 l0 x5_1).f1).length c417_1], .agg #[.int .i64 ((rd_T76 l1 x5_1).f0), .slice A418_1 ((rd_T76 l1 x5_1).f1).length c418_1]] rfl rfl ?_
        with_reducible refine (laws_eqClass.calls k1 ((rd_T76 l0 x5_1).f0) _ _ ((rd_T76 l0 x5_1).f1) ((rd_T76 l1 x5_1).f0) _ _ ((rd_T76 l1 x5_1).f1) false _ ?side1 ?side2 ?side3 ?side4 A7.out).mono ?_
        (case side1 => exact cb HR417_1.out)
        (case side2 => exact HC417_1.out)
        (case side3 => exact cb HR418_1.out)
        (case side4 => exact HC418_1.out)
        rintro e w12 ⟨rfl, hb⟩
        refine ⟨_, rfl, ?_⟩
        replace HB := hs HB hb
        (try clear hb)
        (try clear hb2)
        (try clear hk)
        (try clear hi)
        refine hK.out _ _ ⟨((HB.out.cell (World.block_lt_of_cell? w _ hw417_0)).trans hw417_0), ((HB.out.cell (World.block_lt_of_cell? w _ hw417_1)).trans hw417_1), ((HB.out.cell (World.block_lt_of_cell? w _ hw418_0)).trans hw418_0), ((HB.out.cell (World.block_lt_of_cell? w _ hw418_1)).trans hw418_1)⟩ (fun hHeld => ?_)
        clear hK K
        refine no 25 ?_
        refine pu 9 26 #[true, true, true, true, true, true, true, true, true, true] HT_ rfl rfl ?_
        refine done_ (done_of HT_.out (by kernel_rfl)) ?_
        try go_wp2
        go_ret
        exact fin
      ·rw [if_neg c6] at H
       exact absurd H (by simp)
     ·rw [if_neg c5] at H
      exact absurd H (by simp)
    ·rw [if_neg c4] at H
     have c4b0 : decide (x5_1 < (l0.length : Int)) = false := decide_eq_false c4
     clear c4
     obtain rfl := Option.some.inj H; clear H
     go_wp2
     go_ret
     exact fin
 ·rw [if_neg c3] at H
  have c3b0 := beq_eq_false_iff_ne.mpr c3
  have c3b1 := bne_iff_ne.mpr c3
  have c3b2 : (l0.length == l1.length) = false := by first | simpa using c3 | (simp at c3 ⊢; omega)
  obtain rfl := Option.some.inj H; clear H
  go_enter Try.func26, Try.ntmps26
  go_wp2
  go_ret
  exact fin
end Go.Proofs.Ytedodaifpekahaa.P

end
section

namespace Go.Proofs.Ytedodaifpekahaa.P
open Go.RowKit Go.Proofs.YtedodaifpekahaaW.PrintWords Go.Proofs.YtedodaifpekahaaW.PrintLast Go.Proofs.YtedodaifpekahaaW.PrintMore
attribute [local go_sem] max2_int min2_int max_two min_two max_three min_three max_four min_four
set_option linter.unusedVariables false
set_option linter.unusedSimpArgs false
set_option maxHeartbeats 8000000 in
set_option maxRecDepth 100000 in
theorem laws_eqIns.calls (a0_0 : Int) (a0_1 : Int) (a0_2 : Int) (a1_0 : Int) (a1_1 : Int) (a1_2 : Int) (r : Bool) (w : World) (h : laws_eqIns.f a0_0 a0_1 a0_2 a1_0 a1_1 a1_2 = some r) :
  Calls Try.prog 73 #[.agg #[.int .i64 a0_0, .int .i64 a0_1, .int .i64 a0_2], .agg #[.int .i64 a1_0, .int .i64 a1_1, .int .i64 a1_2]] w fun e w' => e = .returned (.bool r) ∧ Below w.heap.size w w' := by
 have hu67 := Try.underlying67
 have HB := Aside0.mk (Below.refl w.heap.size w)
 have H : (if a0_0 = a1_0 then (if a0_1 = a1_1 then (if a0_2 = a1_2 then (some true) else (some false)) else (some false)) else (some false)) = some r := h
 clear h
 by_cases c3 : a0_0 = a1_0
 ·rw [if_pos c3] at H
  have c3b0 := beq_iff_eq.mpr c3
  have c3b1 := bne_eq_false_iff_eq.mpr c3
  clear c3
  by_cases c4 : a0_1 = a1_1
  ·rw [if_pos c4] at H
   have c4b0 := beq_iff_eq.mpr c4
   have c4b1 := bne_eq_false_iff_eq.mpr c4
   clear c4
   by_cases c5 : a0_2 = a1_2
   ·rw [if_pos c5] at H
    have c5b0 := beq_iff_eq.mpr c5
    have c5b1 := bne_eq_false_iff_eq.mpr c5
    clear c5
    obtain rfl := Option.some.inj H; clear H
    go_enter Try.func73, Try.ntmps73
    go_wp2
    go_ret
    exact fin
   ·rw [if_neg c5] at H
    have c5b0 := beq_eq_false_iff_ne.mpr c5
    have c5b1 := bne_iff_ne.mpr c5
    obtain rfl := Option.some.inj H; clear H
    go_enter Try.func73, Try.ntmps73
    go_wp2
    go_ret
    exact fin
  ·rw [if_neg c4] at H
   have c4b0 := beq_eq_false_iff_ne.mpr c4
   have c4b1 := bne_iff_ne.mpr c4
   obtain rfl := Option.some.inj H; clear H
   go_enter Try.func73, Try.ntmps73
   go_wp2
   go_ret
   exact fin
 ·rw [if_neg c3] at H
  have c3b0 := beq_eq_false_iff_ne.mpr c3
  have c3b1 := bne_iff_ne.mpr c3
  obtain rfl := Option.some.inj H; clear H
  go_enter Try.func73, Try.ntmps73
  go_wp2
  go_ret
  exact fin
end Go.Proofs.Ytedodaifpekahaa.P

end
section

namespace Go.Proofs.Ytedodaifpekahaa.P
open Go.RowKit Go.Proofs.YtedodaifpekahaaW.PrintWords Go.Proofs.YtedodaifpekahaaW.PrintLast Go.Proofs.YtedodaifpekahaaW.PrintMore
attribute [local go_sem] max2_int min2_int max_two min_two max_three min_three max_four min_four
set_option linter.unusedVariables false
set_option linter.unusedSimpArgs false
def laws_eqInsS.T6 : Bool × List (List Nat × List Nat) := (true, [([], []), ([], []), ([0, 1], [0, 1]), ([2], [2]), ([], []), ([], []), ([4, 5], [4, 5]), ([6], [6]), ([3, 7], [3, 7]), ([8], [8])])
def laws_eqInsS.B6 : List Nat := [0, 0, 3, 7, 0, 0, 48, 112, 255, 511]
theorem laws_eqInsS.tab6 : rtab .any (opsOf Try.f66 6) = laws_eqInsS.T6 := by kernel_rfl
theorem laws_eqInsS.bits6 : waitsOk laws_eqInsS.T6.2 laws_eqInsS.B6 = true := by kernel_rfl
set_option maxHeartbeats 8000000 in
set_option maxRecDepth 100000 in
theorem laws_eqInsS.calls (k : Nat) (A0 : Option Addr) (c0 : Nat) (l0 : List (S67)) (A1 : Option Addr) (c1 : Nat) (l1 : List (S67)) (r : Bool) (w : World) (hr0 : Kd.C k67 w A0 l0.length l0) (hc0 : l0.length ≤ c0) (hr1 : Kd.C k67 w A1 l1.length l1) (hc1 : l1.length ≤ c1) (h : laws_eqInsS.f k l0 l1 = some r) :
  Calls Try.prog 66 #[.slice A0 l0.length c0, .slice A1 l1.length c1] w fun e w' => e = .returned (.bool r) ∧ Below w.heap.size w w' := by
 have hu67 := Try.underlying67
 have HR0 := Aside0.mk hr0
 have HC0 := Aside0.mk hc0
 clear hr0 hc0
 have HR1 := Aside0.mk hr1
 have HC1 := Aside0.mk hc1
 clear hr1 hc1
 have HB := Aside0.mk (Below.refl w.heap.size w)
 have H : (if (l0.length : Int) = (l1.length : Int) then (laws_eqInsS.l0 k l0 l1 0) else (some false)) = some r := h
 clear h
 by_cases c3 : (l0.length : Int) = (l1.length : Int)
 ·rw [if_pos c3] at H
  have c3b0 := beq_iff_eq.mpr c3
  have c3b1 := bne_eq_false_iff_eq.mpr c3
  have c3b2 : (l0.length == l1.length) = true := by first | simpa using c3 | (simp at c3 ⊢; omega)
  clear c3
  have H' := Aside0.mk H
  clear H
  go_enter Try.func66, Try.ntmps66
  go_wp2
  go_loopg [5] k (fun kq v5 w' => ∃ (x5_1 : Int), v5 = .int .i64 x5_1 ∧ Aside0 (laws_eqInsS.l0 kq l0 l1 x5_1 = some r) ∧ Aside0 (kq ≤ k) ∧ Aside0 (Below w.heap.size w w'))
  case atStart => exact ⟨(0), (by first | rfl | (simp; done) | (simp [*]; done)), H', ⟨Nat.le_refl _⟩, ⟨bl⟩⟩
  case round =>
   clear H'
   obtain ⟨x5_1, rfl, HA, HK1, HB⟩ := hrel
   cases gk with
   | zero => exact absurd HA.out (by simp [laws_eqInsS.l0])
   | succ k1 =>
    have H := HA.out
    clear HA
    simp only [laws_eqInsS.l0] at H
    by_cases c4 : x5_1 < (l0.length : Int)
    ·rw [if_pos c4] at H
     have c4b0 : decide (x5_1 < (l0.length : Int)) = true := decide_eq_true c4
     clear c4
     by_cases c5 : 0 ≤ x5_1
     ·rw [if_pos c5] at H
      have c5b0 : decide (0 ≤ x5_1) = true := decide_eq_true c5
      clear c5
      by_cases c6 : x5_1 < (l1.length : Int)
      ·rw [if_pos c6] at H
       have c6b0 : decide (x5_1 < (l1.length : Int)) = true := decide_eq_true c6
       clear c6
       obtain ⟨t424, A7, H⟩ := ob H
       by_cases c8 : t424 = true
       ·subst c8
        replace H := it H
        have H' := Aside0.mk H
        clear H
        try go_wp2
        replace HB := Aside0.mk (below_drew1 HB.out)
        have p422 : 0 ≤ (x5_1 : Int) := od
        have q422 : x5_1 < (l0.length : Int) := od
        obtain ⟨ad422, e422, hx422_0, hx422_1, hx422_2⟩ := at_T67 HR0.out x5_1 p422 q422
        have hw422_2 := hx422_2
        have hw422_1 := hx422_1
        have hw422_0 := hx422_0
        cases e422
        obtain ⟨hx422_0,hx422_1,hx422_2⟩ := hc3 HB hx422_0 hx422_1 hx422_2
        replace p422 := eq_true p422
        replace q422 := eq_true q422
        have p423 : 0 ≤ (x5_1 : Int) := od
        have q423 : x5_1 < (l1.length : Int) := od
        obtain ⟨ad423, e423, hx423_0, hx423_1, hx423_2⟩ := at_T67 HR1.out x5_1 p423 q423
        have hw423_2 := hx423_2
        have hw423_1 := hx423_1
        have hw423_0 := hx423_0
        cases e423
        obtain ⟨hx423_0,hx423_1,hx423_2⟩ := hc3 HB hx423_0 hx423_1 hx423_2
        replace p423 := eq_true p423
        replace q423 := eq_true q423
        refine start_ (n := 10) (S := fun w' => w'.cell? (ad422.add ((x5_1).toNat * 3)) = some (.int .i64 ((rd_T67 l0 x5_1).f0)) ∧ w'.cell? ⟨(ad422.add ((x5_1).toNat * 3)).block, (ad422.add ((x5_1).toNat * 3)).off + 1, none⟩ = some (.int .i64 ((rd_T67 l0 x5_1).f1)) ∧ w'.cell? ⟨(ad422.add ((x5_1).toNat * 3)).block, (ad422.add ((x5_1).toNat * 3)).off + 2, none⟩ = some (.int .i64 ((rd_T67 l0 x5_1).f2)) ∧ w'.cell? (ad423.add ((x5_1).toNat * 3)) = some (.int .i64 ((rd_T67 l1 x5_1).f0)) ∧ w'.cell? ⟨(ad423.add ((x5_1).toNat * 3)).block, (ad423.add ((x5_1).toNat * 3)).off + 1, none⟩ = some (.int .i64 ((rd_T67 l1 x5_1).f1)) ∧ w'.cell? ⟨(ad423.add ((x5_1).toNat * 3)).block, (ad423.add ((x5_1).toNat * 3)).off + 2, none⟩ = some (.int .i64 ((rd_T67 l1 x5_1).f2))) (ds := []) #[false, false, false, false, false, false, false, false, false, false] (by kernel_rfl) rfl rfl ⟨((HB.out.cell (World.block_lt_of_cell? w _ hw422_0)).trans hw422_0), ((HB.out.cell (World.block_lt_of_cell? w _ hw422_1)).trans hw422_1), ((HB.out.cell (World.block_lt_of_cell? w _ hw422_2)).trans hw422_2), ((HB.out.cell (World.block_lt_of_cell? w _ hw423_0)).trans hw423_0), ((HB.out.cell (World.block_lt_of_cell? w _ hw423_1)).trans hw423_1), ((HB.out.cell (World.block_lt_of_cell? w _ hw423_2)).trans hw423_2)⟩ (fun hHeld => ?_); refine with_tabW laws_eqInsS.tab6 laws_eqInsS.bits6 (fun HT_ HW_ => ?_)
        generalize wr.drew = w9 at HB hx422_0 hx422_1 hx422_2 hx423_0 hx423_1 hx423_2 hHeld ⊢
        refine pu 0 17 #[true, false, false, false, false, false, false, false, false, false] HT_ rfl rfl ?_
        refine pu 1 18 #[true, true, false, false, false, false, false, false, false, false] HT_ rfl rfl ?_
        refine pu 2 19 #[true, true, true, false, false, false, false, false, false, false] HT_ rfl rfl ?_
        refine pu 4 21 #[true, true, true, false, true, false, false, false, false, false] HT_ rfl rfl ?_
        refine pu 5 22 #[true, true, true, false, true, true, false, false, false, false] HT_ rfl rfl ?_
        refine pu 6 23 #[true, true, true, false, true, true, true, false, false, false] HT_ rfl rfl ?_
        refine ta 3 20 #[true, true, true, true, true, true, true, false, false, false] HT_ HW_ hHeld rfl rfl ?_
        refine ta 7 24 #[true, true, true, true, true, true, true, true, false, false] HT_ HW_ hHeld rfl rfl ?_
        refine one_ (i := 8) (N := some 25) #[true, true, true, true, true, true, true, true, true, false] rfl rfl (one_of HT_.out (by kernel_rfl)) (by decide) (fun K hK => ?_)
        refine gs Try.func73 #[.agg #[.int .i64 ((rd_T67 l0 x5_1).f0), .int .i64 ((rd_T67 l0 x5_1).f1), .int .i64 ((rd_T67 l0 x5_1).f2)], .agg #[.int .i64 ((rd_T67 l1 x5_1).f0), .int .i64 ((rd_T67 l1 x5_1).f1), .int .i64 ((rd_T67 l1 x5_1).f2)]] rfl rfl ?_
        with_reducible refine (laws_eqIns.calls ((rd_T67 l0 x5_1).f0) ((rd_T67 l0 x5_1).f1) ((rd_T67 l0 x5_1).f2) ((rd_T67 l1 x5_1).f0) ((rd_T67 l1 x5_1).f1) ((rd_T67 l1 x5_1).f2) true _ A7.out).mono ?_
        rintro e w10 ⟨rfl, hb⟩
        refine ⟨_, rfl, ?_⟩
        replace HB := hs HB hb
        (try clear hb)
        (try clear hb2)
        (try clear hk)
        (try clear hi)
        refine hK.out _ _ ⟨((HB.out.cell (World.block_lt_of_cell? w _ hw422_0)).trans hw422_0), ((HB.out.cell (World.block_lt_of_cell? w _ hw422_1)).trans hw422_1), ((HB.out.cell (World.block_lt_of_cell? w _ hw422_2)).trans hw422_2), ((HB.out.cell (World.block_lt_of_cell? w _ hw423_0)).trans hw423_0), ((HB.out.cell (World.block_lt_of_cell? w _ hw423_1)).trans hw423_1), ((HB.out.cell (World.block_lt_of_cell? w _ hw423_2)).trans hw423_2)⟩ (fun hHeld => ?_)
        clear hK K
        refine no 25 ?_
        refine pu 9 26 #[true, true, true, true, true, true, true, true, true, true] HT_ rfl rfl ?_
        refine done_ (done_of HT_.out (by kernel_rfl)) ?_
        try go_wp2
        go_roundg k1
        case measure => have := HK1.out; omega
        case rel => exact ⟨(wrap64 (x5_1 + 1)), (by first | rfl | (simp; done) | (simp [*]; done)), H', ⟨by have := HK1.out; omega⟩, ⟨bl⟩⟩
       ·replace c8 := Bool.eq_false_iff.mpr c8
        subst c8
        replace H := ie H
        obtain rfl := Option.some.inj H; clear H
        try go_wp2
        replace HB := Aside0.mk (below_drew1 HB.out)
        have p422 : 0 ≤ (x5_1 : Int) := od
        have q422 : x5_1 < (l0.length : Int) := od
        obtain ⟨ad422, e422, hx422_0, hx422_1, hx422_2⟩ := at_T67 HR0.out x5_1 p422 q422
        have hw422_2 := hx422_2
        have hw422_1 := hx422_1
        have hw422_0 := hx422_0
        cases e422
        obtain ⟨hx422_0,hx422_1,hx422_2⟩ := hc3 HB hx422_0 hx422_1 hx422_2
        replace p422 := eq_true p422
        replace q422 := eq_true q422
        have p423 : 0 ≤ (x5_1 : Int) := od
        have q423 : x5_1 < (l1.length : Int) := od
        obtain ⟨ad423, e423, hx423_0, hx423_1, hx423_2⟩ := at_T67 HR1.out x5_1 p423 q423
        have hw423_2 := hx423_2
        have hw423_1 := hx423_1
        have hw423_0 := hx423_0
        cases e423
        obtain ⟨hx423_0,hx423_1,hx423_2⟩ := hc3 HB hx423_0 hx423_1 hx423_2
        replace p423 := eq_true p423
        replace q423 := eq_true q423
        refine start_ (n := 10) (S := fun w' => w'.cell? (ad422.add ((x5_1).toNat * 3)) = some (.int .i64 ((rd_T67 l0 x5_1).f0)) ∧ w'.cell? ⟨(ad422.add ((x5_1).toNat * 3)).block, (ad422.add ((x5_1).toNat * 3)).off + 1, none⟩ = some (.int .i64 ((rd_T67 l0 x5_1).f1)) ∧ w'.cell? ⟨(ad422.add ((x5_1).toNat * 3)).block, (ad422.add ((x5_1).toNat * 3)).off + 2, none⟩ = some (.int .i64 ((rd_T67 l0 x5_1).f2)) ∧ w'.cell? (ad423.add ((x5_1).toNat * 3)) = some (.int .i64 ((rd_T67 l1 x5_1).f0)) ∧ w'.cell? ⟨(ad423.add ((x5_1).toNat * 3)).block, (ad423.add ((x5_1).toNat * 3)).off + 1, none⟩ = some (.int .i64 ((rd_T67 l1 x5_1).f1)) ∧ w'.cell? ⟨(ad423.add ((x5_1).toNat * 3)).block, (ad423.add ((x5_1).toNat * 3)).off + 2, none⟩ = some (.int .i64 ((rd_T67 l1 x5_1).f2))) (ds := []) #[false, false, false, false, false, false, false, false, false, false] (by kernel_rfl) rfl rfl ⟨((HB.out.cell (World.block_lt_of_cell? w _ hw422_0)).trans hw422_0), ((HB.out.cell (World.block_lt_of_cell? w _ hw422_1)).trans hw422_1), ((HB.out.cell (World.block_lt_of_cell? w _ hw422_2)).trans hw422_2), ((HB.out.cell (World.block_lt_of_cell? w _ hw423_0)).trans hw423_0), ((HB.out.cell (World.block_lt_of_cell? w _ hw423_1)).trans hw423_1), ((HB.out.cell (World.block_lt_of_cell? w _ hw423_2)).trans hw423_2)⟩ (fun hHeld => ?_); refine with_tabW laws_eqInsS.tab6 laws_eqInsS.bits6 (fun HT_ HW_ => ?_)
        generalize wr.drew = w11 at HB hx422_0 hx422_1 hx422_2 hx423_0 hx423_1 hx423_2 hHeld ⊢
        refine pu 0 17 #[true, false, false, false, false, false, false, false, false, false] HT_ rfl rfl ?_
        refine pu 1 18 #[true, true, false, false, false, false, false, false, false, false] HT_ rfl rfl ?_
        refine pu 2 19 #[true, true, true, false, false, false, false, false, false, false] HT_ rfl rfl ?_
        refine pu 4 21 #[true, true, true, false, true, false, false, false, false, false] HT_ rfl rfl ?_
        refine pu 5 22 #[true, true, true, false, true, true, false, false, false, false] HT_ rfl rfl ?_
        refine pu 6 23 #[true, true, true, false, true, true, true, false, false, false] HT_ rfl rfl ?_
        refine ta 3 20 #[true, true, true, true, true, true, true, false, false, false] HT_ HW_ hHeld rfl rfl ?_
        refine ta 7 24 #[true, true, true, true, true, true, true, true, false, false] HT_ HW_ hHeld rfl rfl ?_
        refine one_ (i := 8) (N := some 25) #[true, true, true, true, true, true, true, true, true, false] rfl rfl (one_of HT_.out (by kernel_rfl)) (by decide) (fun K hK => ?_)
        refine gs Try.func73 #[.agg #[.int .i64 ((rd_T67 l0 x5_1).f0), .int .i64 ((rd_T67 l0 x5_1).f1), .int .i64 ((rd_T67 l0 x5_1).f2)], .agg #[.int .i64 ((rd_T67 l1 x5_1).f0), .int .i64 ((rd_T67 l1 x5_1).f1), .int .i64 ((rd_T67 l1 x5_1).f2)]] rfl rfl ?_
        with_reducible refine (laws_eqIns.calls ((rd_T67 l0 x5_1).f0) ((rd_T67 l0 x5_1).f1) ((rd_T67 l0 x5_1).f2) ((rd_T67 l1 x5_1).f0) ((rd_T67 l1 x5_1).f1) ((rd_T67 l1 x5_1).f2) false _ A7.out).mono ?_
        rintro e w12 ⟨rfl, hb⟩
        refine ⟨_, rfl, ?_⟩
        replace HB := hs HB hb
        (try clear hb)
        (try clear hb2)
        (try clear hk)
        (try clear hi)
        refine hK.out _ _ ⟨((HB.out.cell (World.block_lt_of_cell? w _ hw422_0)).trans hw422_0), ((HB.out.cell (World.block_lt_of_cell? w _ hw422_1)).trans hw422_1), ((HB.out.cell (World.block_lt_of_cell? w _ hw422_2)).trans hw422_2), ((HB.out.cell (World.block_lt_of_cell? w _ hw423_0)).trans hw423_0), ((HB.out.cell (World.block_lt_of_cell? w _ hw423_1)).trans hw423_1), ((HB.out.cell (World.block_lt_of_cell? w _ hw423_2)).trans hw423_2)⟩ (fun hHeld => ?_)
        clear hK K
        refine no 25 ?_
        refine pu 9 26 #[true, true, true, true, true, true, true, true, true, true] HT_ rfl rfl ?_
        refine done_ (done_of HT_.out (by kernel_rfl)) ?_
        try go_wp2
        go_ret
        exact fin
      ·rw [if_neg c6] at H
       exact absurd H (by simp)
     ·rw [if_neg c5] at H
      exact absurd H (by simp)
    ·rw [if_neg c4] at H
     have c4b0 : decide (x5_1 < (l0.length : Int)) = false := decide_eq_false c4
     clear c4
     obtain rfl := Option.some.inj H; clear H
     go_wp2
     go_ret
     exact fin
 ·rw [if_neg c3] at H
  have c3b0 := beq_eq_false_iff_ne.mpr c3
  have c3b1 := bne_iff_ne.mpr c3
  have c3b2 : (l0.length == l1.length) = false := by first | simpa using c3 | (simp at c3 ⊢; omega)
  obtain rfl := Option.some.inj H; clear H
  go_enter Try.func66, Try.ntmps66
  go_wp2
  go_ret
  exact fin
end Go.Proofs.Ytedodaifpekahaa.P

end
section

namespace Go.Proofs.Ytedodaifpekahaa.P
open Go.RowKit Go.Proofs.YtedodaifpekahaaW.PrintWords Go.Proofs.YtedodaifpekahaaW.PrintLast Go.Proofs.YtedodaifpekahaaW.PrintMore
attribute [local go_sem] max2_int min2_int max_two min_two max_three min_three max_four min_four
set_option linter.unusedVariables false
set_option linter.unusedSimpArgs false
set_option maxHeartbeats 8000000 in
set_option maxRecDepth 100000 in
theorem laws_eqShape.calls (k : Nat) (a0_0 : Bool) (A0_1 : Option Addr) (c0_1 : Nat) (l0_1 : List Int) (A0_2 : Option Addr) (c0_2 : Nat) (l0_2 : List Int) (a1_0 : Bool) (A1_1 : Option Addr) (c1_1 : Nat) (l1_1 : List Int) (A1_2 : Option Addr) (c1_2 : Nat) (l1_2 : List Int) (r : Bool) (w : World) (hr0_1 : Kd.C (Kd.int .i64) w A0_1 l0_1.length l0_1) (hc0_1 : l0_1.length ≤ c0_1) (hr0_2 : Kd.C (Kd.int .i64) w A0_2 l0_2.length l0_2) (hc0_2 : l0_2.length ≤ c0_2) (hr1_1 : Kd.C (Kd.int .i64) w A1_1 l1_1.length l1_1) (hc1_1 : l1_1.length ≤ c1_1) (hr1_2 : Kd.C (Kd.int .i64) w A1_2 l1_2.length l1_2) (hc1_2 : l1_2.length ≤ c1_2) (h : laws_eqShape.f k a0_0 l0_1 l0_2 a1_0 l1_1 l1_2 = some r) :
  Calls Try.prog 74 #[.agg #[.bool a0_0, .slice A0_1 l0_1.length c0_1, .slice A0_2 l0_2.length c0_2], .agg #[.bool a1_0, .slice A1_1 l1_1.length c1_1, .slice A1_2 l1_2.length c1_2]] w fun e w' => e = .returned (.bool r) ∧ Below w.heap.size w w' := by
 have hu70 := Try.underlying70
 have HR0_1 := Aside0.mk hr0_1
 have HC0_1 := Aside0.mk hc0_1
 clear hr0_1 hc0_1
 have HR0_2 := Aside0.mk hr0_2
 have HC0_2 := Aside0.mk hc0_2
 clear hr0_2 hc0_2
 have HR1_1 := Aside0.mk hr1_1
 have HC1_1 := Aside0.mk hc1_1
 clear hr1_1 hc1_1
 have HR1_2 := Aside0.mk hr1_2
 have HC1_2 := Aside0.mk hc1_2
 clear hr1_2 hc1_2
 have HB := Aside0.mk (Below.refl w.heap.size w)
 have H : (if (a0_0 != a1_0) = true then (some false) else ((laws_eqIntS.f k l0_1 l1_1).bind fun t427 => (if t427 = true then ((laws_eqIntS.f k l0_2 l1_2).bind fun t428 => (if t428 = true then (some true) else (some false))) else (some false)))) = some r := h
 clear h
 by_cases c3 : (a0_0 != a1_0) = true
 ·rw [if_pos c3] at H
  have c3b0 : (a0_0 != a1_0) = true := c3
  (try (have c3b1 : decide (a0_0 = a1_0) = false := by simpa using c3))
  (try (have c3b2 : (a0_0 == a1_0) = false := by simpa using c3))
  (try (have c3b3 : ¬ (a0_0 = a1_0) := by simpa using c3))
  clear c3
  obtain rfl := Option.some.inj H; clear H
  go_enter Try.func74, Try.ntmps74
  go_wp2
  go_ret
  exact fin
 ·rw [if_neg c3] at H
  have c3b0 : (a0_0 != a1_0) = false := by simpa using c3
  (try (have c3b1 : decide (a0_0 = a1_0) = true := by simpa using c3))
  (try (have c3b2 : (a0_0 == a1_0) = true := by simpa using c3))
  clear c3
  obtain ⟨t427, A9, H⟩ := ob H
  by_cases c10 : t427 = true
  ·subst c10
   replace H := it H
   obtain ⟨t428, A11, H⟩ := ob H
   by_cases c12 : t428 = true
   ·subst c12
    replace H := it H
    obtain rfl := Option.some.inj H; clear H
    go_enter Try.func74, Try.ntmps74
    go_wp2_with (first | ((with_reducible refine gc 65 rfl ?_); refine gl (some 14) Try.func65 #[.slice A0_1 l0_1.length c0_1, .slice A1_1 l1_1.length c1_1] rfl ?_; (with_reducible refine (laws_eqIntS.calls k _ _ l0_1 _ _ l1_1 true _ ?side1 ?side2 ?side3 ?side4 A9.out).mono ?_); (case side1 => exact cb HR0_1.out); (case side2 => exact HC0_1.out); (case side3 => exact cb HR1_1.out); (case side4 => exact HC1_1.out); rintro e w' ⟨rfl, ⟨nd, rfl⟩⟩; refine ⟨_, rfl, ?_⟩) | ((with_reducible refine gc 65 rfl ?_); refine gl (some 20) Try.func65 #[.slice A0_2 l0_2.length c0_2, .slice A1_2 l1_2.length c1_2] rfl ?_; (with_reducible refine (laws_eqIntS.calls k _ _ l0_2 _ _ l1_2 true _ ?side1 ?side2 ?side3 ?side4 A11.out).mono ?_); (case side1 => exact cb HR0_2.out); (case side2 => exact HC0_2.out); (case side3 => exact cb HR1_2.out); (case side4 => exact HC1_2.out); rintro e w' ⟨rfl, ⟨nd, rfl⟩⟩; refine ⟨_, rfl, ?_⟩))
    go_ret
    exact fin
   ·replace c12 := Bool.eq_false_iff.mpr c12
    subst c12
    replace H := ie H
    obtain rfl := Option.some.inj H; clear H
    go_enter Try.func74, Try.ntmps74
    go_wp2_with (first | ((with_reducible refine gc 65 rfl ?_); refine gl (some 14) Try.func65 #[.slice A0_1 l0_1.length c0_1, .slice A1_1 l1_1.length c1_1] rfl ?_; (with_reducible refine (laws_eqIntS.calls k _ _ l0_1 _ _ l1_1 true _ ?side1 ?side2 ?side3 ?side4 A9.out).mono ?_); (case side1 => exact cb HR0_1.out); (case side2 => exact HC0_1.out); (case side3 => exact cb HR1_1.out); (case side4 => exact HC1_1.out); rintro e w' ⟨rfl, ⟨nd, rfl⟩⟩; refine ⟨_, rfl, ?_⟩) | ((with_reducible refine gc 65 rfl ?_); refine gl (some 20) Try.func65 #[.slice A0_2 l0_2.length c0_2, .slice A1_2 l1_2.length c1_2] rfl ?_; (with_reducible refine (laws_eqIntS.calls k _ _ l0_2 _ _ l1_2 false _ ?side1 ?side2 ?side3 ?side4 A11.out).mono ?_); (case side1 => exact cb HR0_2.out); (case side2 => exact HC0_2.out); (case side3 => exact cb HR1_2.out); (case side4 => exact HC1_2.out); rintro e w' ⟨rfl, ⟨nd, rfl⟩⟩; refine ⟨_, rfl, ?_⟩))
    go_ret
    exact fin
  ·replace c10 := Bool.eq_false_iff.mpr c10
   subst c10
   replace H := ie H
   obtain rfl := Option.some.inj H; clear H
   go_enter Try.func74, Try.ntmps74
   go_wp2_with (first | ((with_reducible refine gc 65 rfl ?_); refine gl (some 14) Try.func65 #[.slice A0_1 l0_1.length c0_1, .slice A1_1 l1_1.length c1_1] rfl ?_; (with_reducible refine (laws_eqIntS.calls k _ _ l0_1 _ _ l1_1 false _ ?side1 ?side2 ?side3 ?side4 A9.out).mono ?_); (case side1 => exact cb HR0_1.out); (case side2 => exact HC0_1.out); (case side3 => exact cb HR1_1.out); (case side4 => exact HC1_1.out); rintro e w' ⟨rfl, ⟨nd, rfl⟩⟩; refine ⟨_, rfl, ?_⟩))
   go_ret
   exact fin
end Go.Proofs.Ytedodaifpekahaa.P

end
