/- A part of the claim FnShapeOrder: texts of this session and texts that its program printed out of the translation, joined. -/
import Derived.Test.YtchegijjjakmpaaProg
import Derived.Below
import Derived.Deep.Draws
import Derived.Deep.AppendLies
import Derived.Maps.AppendAt
import Derived.OwnWalk
import Derived.Laws.BytesArg
import Derived.Laws.MakeOwn
import Derived.Laws.OwnMore
import Derived.Deep.OwnRows
import Derived.Tactics
import Derived.Lib.ConvBytes
import Derived.Laws.Slices
import Derived.WalkKit
import Derived.KernelRfl
import Derived.RowKit3
import Derived.Deep.LoopGhost
import Derived.Deep.QuietTactic
import Derived.BigQuiet
import Derived.WideLaws
import Derived.Deep.DeepCutAuto
import Derived.Deep.CutBlock
import Derived.Deep.RegionHeld3
import Derived.Laws.Rows
import Derived.Lib.AppendStr
import Derived.ArgAppend
import Derived.Laws.IdiomCopy
import Derived.OrdersHeld
import Derived.Laws.BitsLemmas
import Derived.RowKit
import Derived.Test.YtchegijjjakmpaaCFnShapeOrder0
import Derived.Test.YtchegijjjakmpaaCFnShapeOrder1
import Derived.Test.YtchegijjjakmpaaCFnShapeOrder2
import Derived.Test.YtchegijjjakmpaaCFnShapeOrder3
import Derived.Test.YtchegijjjakmpaaCFnShapeOrder4
import Derived.Test.YtchegijjjakmpaaCFnShapeOrder5
import Derived.Test.YtchegijjjakmpaaCFnShapeOrder6
import Derived.Test.YtchegijjjakmpaaCFnShapeOrder7
import Derived.Test.YtchegijjjakmpaaCFnShapeOrder8
import Derived.Test.YtchegijjjakmpaaCFnShapeOrder9
import Derived.Test.YtchegijjjakmpaaCFnShapeOrder10
import Derived.Test.YtchegijjjakmpaaCFnShapeOrder11
import Derived.Test.YtchegijjjakmpaaCFnShapeOrder12
import Derived.Test.YtchegijjjakmpaaCFnShapeOrder13
import Derived.Test.YtchegijjjakmpaaCFnShapeOrder14
import Derived.Test.YtchegijjjakmpaaCFnShapeOrder15
import Derived.Test.YtchegijjjakmpaaCFnShapeOrder16
import Derived.Test.YtchegijjjakmpaaCFnShapeOrder17
import Derived.Test.YtchegijjjakmpaaCFnShapeOrder18
import Derived.Test.YtchegijjjakmpaaCFnShapeOrder19
import Derived.Test.YtchegijjjakmpaaCFnShapeOrder20
import Derived.Test.YtchegijjjakmpaaCFnShapeOrder21
section

namespace Go.Proofs.Ytchegijjjakmpaa.P
open Go.RowKit Go.Proofs.YtchegijjjakmpaaW.PrintWords Go.Proofs.YtchegijjjakmpaaW.PrintLast Go.Proofs.YtchegijjjakmpaaW.PrintMore
attribute [local go_sem] max2_int min2_int max_two min_two max_three min_three max_four min_four
set_option linter.unusedVariables false
set_option linter.unusedSimpArgs false
def errW : Option Int → Value
  | none => .nilIface
  | some c => .iface 0 (.int .i64 c)
theorem errW_none : errW none = .nilIface := rfl
theorem errW_some (c : Int) : errW (some c) = .iface 0 (.int .i64 c) := rfl
theorem info3 : (Try.prog.info? 3).map (fun i => (i.zero, i.size, i.bytes)) = some (some (.int .i64 0), 1, 8) := by kernel_rfl
theorem info5 : (Try.prog.info? 5).map (fun i => (i.zero, i.size, i.bytes)) = some (some (.int .u8 0), 1, 1) := by kernel_rfl
theorem info48 : (Try.prog.info? 48).map (fun i => (i.zero, i.size, i.bytes)) = some (some (.agg #[(.int .i64 0), (.slice none 0 0)]), 2, 32) := by kernel_rfl
structure S48 where
  f0 : Int
  f1 : (List Int)
def z48 : S48 := ⟨(0 : Int), ([] : List Int)⟩
def k48 : Kd S48 := Kd.iso (Kd.pair (Kd.int .i64) (Kd.slice 3 (Kd.int .i64))) (fun x : S48 => (x.f0, x.f1))
theorem k48_open {w : World} {x : S48} {cs : List Value} (h : k48.K w x cs) : ∃ A1 c1, cs = [.int .i64 x.f0, .slice A1 x.f1.length c1] ∧ x.f1.length ≤ c1 ∧ (Kd.int .i64).C w A1 x.f1.length x.f1 := by
  obtain ⟨_, _, rfl, rfl, ⟨A1, c1, rfl, l1, g1⟩⟩ := h
  exact ⟨A1, c1, rfl, l1, g1⟩
theorem k48_openM {w : World} {base : Nat} {ok : Nat → Prop} {x : S48} {cs : List Value} (h : k48.M w base ok x cs) : ∃ v1, cs = [.int .i64 x.f0, v1] ∧ (Kd.int .i64).R 3 w base ok v1 x.f1 := by
  obtain ⟨_, _, rfl, rfl, ⟨v1, rfl, g1⟩⟩ := h
  exact ⟨v1, rfl, g1⟩
theorem k48_mk (w : World) (x : S48) {A1 : Option Addr} {c1 : Nat} (l1 : x.f1.length ≤ c1) (g1 : (Kd.int .i64).C w A1 x.f1.length x.f1) : k48.K w x [.int .i64 x.f0, .slice A1 x.f1.length c1] := ⟨[.int .i64 x.f0], [.slice A1 x.f1.length c1], rfl, rfl, ⟨A1, c1, rfl, l1, g1⟩⟩
theorem k48_mkM (w : World) (base : Nat) (ok : Nat → Prop) (x : S48) {v1 : Value} (g1 : (Kd.int .i64).R 3 w base ok v1 x.f1) : k48.M w base ok x [.int .i64 x.f0, v1] := ⟨[.int .i64 x.f0], [v1], rfl, rfl, ⟨v1, rfl, g1⟩⟩
theorem k48_openF {W : World} {ok : Nat → Prop} {x : S48} {cs : List Value} (h : Kd.FK k48 W ok x cs) : ∃ A1 c1, cs = [.int .i64 x.f0, .slice A1 x.f1.length c1] ∧ x.f1.length ≤ c1 ∧ Kd.F (Kd.int .i64) W ok A1 x.f1.length x.f1 := by
  obtain ⟨A1, c1, rfl, l1, _⟩ := k48_open (Kd.FK_now h)
  exact ⟨A1, c1, rfl, l1, (fun W' hW => by obtain ⟨A1_, c1_, he, l1_, g1_⟩ := k48_open (h W' hW); injection (Option.some.inj (show some (Value.slice A1 x.f1.length c1) = some (Value.slice A1_ x.f1.length c1_) from congrArg (fun l => l[1]?) he)) with ha_ _ _; rw [ha_]; exact g1_)⟩
theorem k48_mkF (W : World) (ok : Nat → Prop) (x : S48) {A1 : Option Addr} {c1 : Nat} (l1 : x.f1.length ≤ c1) (g1 : Kd.F (Kd.int .i64) W ok A1 x.f1.length x.f1) : Kd.FK k48 W ok x [.int .i64 x.f0, .slice A1 x.f1.length c1] := fun W2 hW => k48_mk W2 x l1 (g1 W2 hW)
def rd_T48 (xs : List S48) (i : Int) : S48 := xs.getD i.toNat z48
theorem at_T48 {w : World} {A : Option Addr} {n : Nat} {xs : List S48} (h : Kd.C k48 w A n xs) (i : Int) (h0 : 0 ≤ i) (h1 : i < n) : ∃ ad A1 c1, A = some ad ∧ w.cell? (ad.add (i.toNat * 2)) = some (.int .i64 (rd_T48 xs i).f0) ∧ w.cell? ⟨(ad.add (i.toNat * 2)).block, (ad.add (i.toNat * 2)).off + 1, none⟩ = some (.slice A1 (rd_T48 xs i).f1.length c1) ∧ (rd_T48 xs i).f1.length ≤ c1 ∧ (Kd.int .i64).C w A1 (rd_T48 xs i).f1.length (rd_T48 xs i).f1 := by
  obtain ⟨ad, c, e, _, hK, hc0⟩ := Kd.C_get h z48 i h0 h1
  have hc : ∀ j u, c[j]? = some u → w.cell? (ad.add (i.toNat * 2 + j)) = some u := hc0
  obtain ⟨A1, c1, rfl, l1, g1⟩ := k48_open hK
  exact ⟨ad, A1, c1, e, hc 0 _ rfl, by rw [← add_field _ _ 1 (by omega)]; exact hc 1 _ rfl, l1, g1⟩
end Go.Proofs.Ytchegijjjakmpaa.P

end
section

namespace Go.Proofs.Ytchegijjjakmpaa
open Go Go.Proofs.Ytchegijjjakmpaa.P
set_option maxRecDepth 100000
theorem enter_of {P : Program} {L : List Char} {W : List (List Char)} {c : List Char} {rest : List (List Char)} (h1 : P.initOrder.toList = L) (h2 : wordsSigns L = W) (h3 : behindMainWord W = c :: rest) (h4 : stripLifts liftWords (c :: rest) = ([], c :: rest)) (h5 : c = "cut".toList) (h6 : P.laysLater = false) (h7 : P.bearsReflect = false) (h8 : P.doorFits [] = true) : P.mayEnter = true := by
  unfold Program.mayEnter
  rw [h1, h2, h3]
  simp only [h4, h6, h7, h8, List.head?_cons]
  simp [h5]
theorem make_of {P : Program} {L : List Char} {W : List (List Char)} {c : List Char} {rest : List (List Char)} (h1 : P.initOrder.toList = L) (h2 : wordsSigns L = W) (h3 : behindMainWord W = c :: rest) (h5 : c = "cut".toList) : P.make = some .cut := by
  unfold Program.make
  rw [h1, h2, h3]
  simp [h5]
theorem lifts_of {P : Program} {L : List Char} {W : List (List Char)} {c : List Char} {rest : List (List Char)} (h1 : P.initOrder.toList = L) (h2 : wordsSigns L = W) (h3 : behindMainWord W = c :: rest) (h4 : stripLifts liftWords (c :: rest) = ([], c :: rest)) (h5 : c = "cut".toList) : P.liftsFinal = false := by
  unfold Program.liftsFinal Program.headLifts
  rw [h1, h2, h3]
  simp only [h4, List.head?_cons]
  simp [h5]
def headChars : List Char := [Char.ofNat 104, Char.ofNat 97, Char.ofNat 114, Char.ofNat 110, Char.ofNat 101, Char.ofNat 115, Char.ofNat 115, Char.ofNat 32, Char.ofNat 54, Char.ofNat 102, Char.ofNat 50, Char.ofNat 97, Char.ofNat 102, Char.ofNat 100, Char.ofNat 101, Char.ofNat 50, Char.ofNat 57, Char.ofNat 53, Char.ofNat 99, Char.ofNat 57, Char.ofNat 98, Char.ofNat 101, Char.ofNat 99, Char.ofNat 97, Char.ofNat 99, Char.ofNat 48, Char.ofNat 56, Char.ofNat 51, Char.ofNat 102, Char.ofNat 56, Char.ofNat 102, Char.ofNat 51, Char.ofNat 101, Char.ofNat 52, Char.ofNat 50, Char.ofNat 101, Char.ofNat 57, Char.ofNat 56, Char.ofNat 101, Char.ofNat 98, Char.ofNat 100, Char.ofNat 51, Char.ofNat 49, Char.ofNat 57, Char.ofNat 56, Char.ofNat 55, Char.ofNat 98, Char.ofNat 98, Char.ofNat 98, Char.ofNat 102, Char.ofNat 56, Char.ofNat 51, Char.ofNat 56, Char.ofNat 49, Char.ofNat 98, Char.ofNat 101, Char.ofNat 56, Char.ofNat 100, Char.ofNat 100, Char.ofNat 53, Char.ofNat 53, Char.ofNat 52, Char.ofNat 101, Char.ofNat 54, Char.ofNat 54, Char.ofNat 52, Char.ofNat 51, Char.ofNat 54, Char.ofNat 102, Char.ofNat 55, Char.ofNat 48, Char.ofNat 51, Char.ofNat 32, Char.ofNat 99, Char.ofNat 117, Char.ofNat 116, Char.ofNat 32, Char.ofNat 97, Char.ofNat 116, Char.ofNat 32, Char.ofNat 108, Char.ofNat 111, Char.ofNat 111, Char.ofNat 112, Char.ofNat 46, Char.ofNat 101, Char.ofNat 120, Char.ofNat 97, Char.ofNat 109, Char.ofNat 112, Char.ofNat 108, Char.ofNat 101, Char.ofNat 47, Char.ofNat 101, Char.ofNat 110, Char.ofNat 116, Char.ofNat 97, Char.ofNat 105, Char.ofNat 108, Char.ofNat 47, Char.ofNat 108, Char.ofNat 97, Char.ofNat 119, Char.ofNat 115, Char.ofNat 46, Char.ofNat 70, Char.ofNat 110, Char.ofNat 83, Char.ofNat 104, Char.ofNat 97, Char.ofNat 112, Char.ofNat 101, Char.ofNat 79, Char.ofNat 114, Char.ofNat 100, Char.ofNat 101, Char.ofNat 114]
def headWords : List (List Char) := [[Char.ofNat 104, Char.ofNat 97, Char.ofNat 114, Char.ofNat 110, Char.ofNat 101, Char.ofNat 115, Char.ofNat 115], [Char.ofNat 54, Char.ofNat 102, Char.ofNat 50, Char.ofNat 97, Char.ofNat 102, Char.ofNat 100, Char.ofNat 101, Char.ofNat 50, Char.ofNat 57, Char.ofNat 53, Char.ofNat 99, Char.ofNat 57, Char.ofNat 98, Char.ofNat 101, Char.ofNat 99, Char.ofNat 97, Char.ofNat 99, Char.ofNat 48, Char.ofNat 56, Char.ofNat 51, Char.ofNat 102, Char.ofNat 56, Char.ofNat 102, Char.ofNat 51, Char.ofNat 101, Char.ofNat 52, Char.ofNat 50, Char.ofNat 101, Char.ofNat 57, Char.ofNat 56, Char.ofNat 101, Char.ofNat 98, Char.ofNat 100, Char.ofNat 51, Char.ofNat 49, Char.ofNat 57, Char.ofNat 56, Char.ofNat 55, Char.ofNat 98, Char.ofNat 98, Char.ofNat 98, Char.ofNat 102, Char.ofNat 56, Char.ofNat 51, Char.ofNat 56, Char.ofNat 49, Char.ofNat 98, Char.ofNat 101, Char.ofNat 56, Char.ofNat 100, Char.ofNat 100, Char.ofNat 53, Char.ofNat 53, Char.ofNat 52, Char.ofNat 101, Char.ofNat 54, Char.ofNat 54, Char.ofNat 52, Char.ofNat 51, Char.ofNat 54, Char.ofNat 102, Char.ofNat 55, Char.ofNat 48, Char.ofNat 51], [Char.ofNat 99, Char.ofNat 117, Char.ofNat 116], [Char.ofNat 97, Char.ofNat 116], [Char.ofNat 108, Char.ofNat 111, Char.ofNat 111, Char.ofNat 112, Char.ofNat 46, Char.ofNat 101, Char.ofNat 120, Char.ofNat 97, Char.ofNat 109, Char.ofNat 112, Char.ofNat 108, Char.ofNat 101, Char.ofNat 47, Char.ofNat 101, Char.ofNat 110, Char.ofNat 116, Char.ofNat 97, Char.ofNat 105, Char.ofNat 108, Char.ofNat 47, Char.ofNat 108, Char.ofNat 97, Char.ofNat 119, Char.ofNat 115, Char.ofNat 46, Char.ofNat 70, Char.ofNat 110, Char.ofNat 83, Char.ofNat 104, Char.ofNat 97, Char.ofNat 112, Char.ofNat 101, Char.ofNat 79, Char.ofNat 114, Char.ofNat 100, Char.ofNat 101, Char.ofNat 114]]
theorem head_is : Try.prog.initOrder.toList = headChars := by
  have h : Try.prog.initOrder = String.ofList headChars := by kernel_rfl
  rw [h, String.toList_ofList]
def rootWords : List (List Char) := [[Char.ofNat 97, Char.ofNat 116], [Char.ofNat 108, Char.ofNat 111, Char.ofNat 111, Char.ofNat 112, Char.ofNat 46, Char.ofNat 101, Char.ofNat 120, Char.ofNat 97, Char.ofNat 109, Char.ofNat 112, Char.ofNat 108, Char.ofNat 101, Char.ofNat 47, Char.ofNat 101, Char.ofNat 110, Char.ofNat 116, Char.ofNat 97, Char.ofNat 105, Char.ofNat 108, Char.ofNat 47, Char.ofNat 108, Char.ofNat 97, Char.ofNat 119, Char.ofNat 115, Char.ofNat 46, Char.ofNat 70, Char.ofNat 110, Char.ofNat 83, Char.ofNat 104, Char.ofNat 97, Char.ofNat 112, Char.ofNat 101, Char.ofNat 79, Char.ofNat 114, Char.ofNat 100, Char.ofNat 101, Char.ofNat 114]]
theorem enter : Try.prog.mayEnter = true := enter_of (L := headChars) (W := headWords) head_is (by kernel_rfl) (c := [Char.ofNat 99, Char.ofNat 117, Char.ofNat 116]) (rest := rootWords) (by kernel_rfl) (by kernel_rfl) (by kernel_rfl) (by kernel_rfl) (by kernel_rfl) (by kernel_rfl)
theorem make : Try.prog.make = some .cut := make_of (L := headChars) (W := headWords) head_is (by kernel_rfl) (c := [Char.ofNat 99, Char.ofNat 117, Char.ofNat 116]) (rest := rootWords) (by kernel_rfl) (by kernel_rfl)
theorem lifts : Try.prog.liftsFinal = false := lifts_of (L := headChars) (W := headWords) head_is (by kernel_rfl) (c := [Char.ofNat 99, Char.ofNat 117, Char.ofNat 116]) (rest := rootWords) (by kernel_rfl) (by kernel_rfl) (by kernel_rfl)
end Go.Proofs.Ytchegijjjakmpaa

end
section

namespace Go.Proofs.Ytchegijjjakmpaa.P
set_option linter.unusedVariables false
open Go Go.RowKit Go.Proofs.YtchegijjjakmpaaW.PrintWords Go.Proofs.YtchegijjjakmpaaW.PrintLast Go.Proofs.YtchegijjjakmpaaW.PrintMore
theorem bl {w W : World} (h : Below w.heap.size w W := by repeat (first | (with_reducible first | exact Aside0.out (by assumption) | apply below_alloc | apply pw_below_drewN | apply below_drew1 | refine below_set ?_ (Aside0.out (by assumption))) | exact Aside0.out (by assumption))) : Below w.heap.size w W := h
theorem cz {w : World} {g : Nat} {t : TypeId} {cs : Array Value} (h : w.heap[g]? = some (.cells cs t (0, 0))) (i : Nat) {v : Value} (e : cs.toList[i]? = some v) : w.cell? ⟨g, i, none⟩ = some v := (blk_cell h i).trans (by rw [← Array.getElem?_toList]; exact e)
theorem lt_alloc {w : World} {g : Nat} (h : g < w.heap.size) (o : Obj) : g < (w.alloc o).heap.size := Nat.lt_of_lt_of_le h (below_size (below_alloc (Below.refl _ _) o))
theorem lt_drewN {w : World} {g : Nat} (h : g < w.heap.size) (n : Nat) : g < (w.drewN n).heap.size := h
theorem lt_drew {w : World} {g : Nat} (h : g < w.heap.size) : g < w.drew.heap.size := h
theorem lt_set {w : World} {g : Nat} (h : g < w.heap.size) (p : Addr) (u : Value) : g < (w.setCell p u).heap.size := by simpa [World.setCell] using h
section
variable {w W W0 w1 : World} {g g' : Nat} {o : Obj}
theorem kk (_ : Aside0 (W0.heap[g]? = some o)) (h : W.heap[g]? = some o := by (with_reducible repeat (first | refine blk_drewN ?_ _ | refine blk_drew ?_ | refine blk_alloc ?_ _)); exact Aside0.out (by assumption)) : Aside0 (W.heap[g]? = some o) := ⟨h⟩
theorem kf (h : W.heap[g]? = some o := by (repeat (first | (with_reducible first | refine blk_drewN ?_ _ | refine blk_drew ?_ | refine blk_alloc ?_ _) | refine blk_far ?_ (Aside0.out (by assumption)) _ | apply blk_put)); exact Aside0.out (by assumption); all_goals rfl) : Aside0 (W.heap[g]? = some o) := ⟨h⟩
theorem kb (_ : Aside0 (W0.heap[g]? = some o)) (hb : Below W.heap.size W w1) (h : W.heap[g]? = some o := by (with_reducible repeat (first | refine blk_drewN ?_ _ | refine blk_drew ?_ | refine blk_alloc ?_ _)); exact Aside0.out (by assumption)) : Aside0 (w1.heap[g]? = some o) := ⟨blk_below h hb⟩
theorem kq (_ : Aside0 (W0.heap[g]? = some o)) (hb : Below W.heap.size W w1) (h : W.heap[g]? = some o := by (repeat (first | (with_reducible first | refine blk_drewN ?_ _ | refine blk_drew ?_ | refine blk_alloc ?_ _) | refine blk_far ?_ (Aside0.out (by assumption)) _)); exact Aside0.out (by assumption)) : Aside0 (w1.heap[g]? = some o) := ⟨blk_below h hb⟩
theorem kp (g : Nat) (cs : Array Value) (t : TypeId) (hb : Below W.heap.size W w1) (h : W.heap[g]? = some (.cells cs t (0, 0)) := by (repeat (first | (with_reducible first | refine blk_drewN ?_ _ | refine blk_drew ?_ | refine blk_alloc ?_ _) | refine blk_far ?_ (Aside0.out (by assumption)) _ | apply blk_put)); exact Aside0.out (by assumption); all_goals rfl) : Aside0 (w1.heap[g]? = some (.cells cs t (0, 0))) := ⟨blk_below h hb⟩
theorem hs (_ : Aside0 (Below w.heap.size w W0)) (hb : Below W.heap.size W w1) (h : Below w.heap.size w W := by repeat (first | (with_reducible first | exact Aside0.out (by assumption) | apply below_alloc | apply pw_below_drewN | apply below_drew1 | refine below_set ?_ (Aside0.out (by assumption))) | exact Aside0.out (by assumption))) : Aside0 (Below w.heap.size w w1) := ⟨below_step h hb⟩
theorem hz (_ : Aside0 (Below w.heap.size w W0)) (hg : g = W.heap.size) (h : Below w.heap.size w W := by repeat (first | (with_reducible first | exact Aside0.out (by assumption) | apply below_alloc | apply pw_below_drewN | apply below_drew1 | refine below_set ?_ (Aside0.out (by assumption))) | exact Aside0.out (by assumption))) : Aside0 (w.heap.size ≤ g) := ⟨by rw [hg]; exact below_size h⟩
theorem nl (_ : Aside0 (W0.heap[g]? = some o)) (hg : g' = W.heap.size) (h : g < W.heap.size := by (with_reducible repeat (first | refine lt_drewN ?_ _ | refine lt_drew ?_ | refine lt_alloc ?_ _ | refine lt_set ?_ _ _)); exact blk_lt (Aside0.out (by assumption))) : Aside0 (g ≠ g') := ⟨by rw [hg]; exact Nat.ne_of_lt h⟩
theorem ng (_ : Aside0 (W0.heap[g]? = some o)) (hg : g' = W.heap.size) (h : g < W.heap.size := by (with_reducible repeat (first | refine lt_drewN ?_ _ | refine lt_drew ?_ | refine lt_alloc ?_ _ | refine lt_set ?_ _ _)); exact blk_lt (Aside0.out (by assumption))) : Aside0 (g' ≠ g) := ⟨by rw [hg]; exact Nat.ne_of_gt h⟩
theorem hc {a : Addr} {v : Value} (HB : Aside0 (Below w.heap.size w W)) (h : w.cell? a = some v) : W.cell? a = some v := (HB.out.cell (World.block_lt_of_cell? w _ h)).trans h
theorem fin {p : Prop} (h : p := by first | rfl | (simp [errW_none, errW_some] <;> rfl) | (simp [*, errW_none, errW_some] <;> rfl)) (hb : Below w.heap.size w W := by repeat (first | (with_reducible first | exact Aside0.out (by assumption) | apply below_alloc | apply pw_below_drewN | apply below_drew1 | refine below_set ?_ (Aside0.out (by assumption))) | exact Aside0.out (by assumption))) : p ∧ Below w.heap.size w W := ⟨h, hb⟩
theorem cb {α : Type} {d : Kd α} {A : Option Addr} {n : Nat} {xs : List α} (c : d.C w A n xs) (h : Below w.heap.size w W := by repeat (first | (with_reducible first | exact Aside0.out (by assumption) | apply below_alloc | apply pw_below_drewN | apply below_drew1 | refine below_set ?_ (Aside0.out (by assumption))) | exact Aside0.out (by assumption))) : d.C W A n xs := Kd.C_below c h
end
section
variable {P : Program} {ops : Array Oper} {rest : List Oper} {o : Oper} {a : Act} {Q : Exit → Act → World → Prop} {W : World}
theorem gd (N : Tmp) (_hN : o.dst = some N) (h : wpList P ops Q (o :: rest) a W) : wpList P ops Q (o :: rest) a W := h
theorem gc (f : FuncId) {ar : Array Operand} {ts : Array TypeId} (_ho : o.op = .call { callee := .value (.func f), args := ar, argTypes := ts }) (h : wpList P ops Q (o :: rest) a W) : wpList P ops Q (o :: rest) a W := h
theorem bx (N : Tmp) (cs : Array Value) (t : TypeId)
    (h : ∀ g, g = W.heap.size → ∀ w1, w1.heap[g]? = some (.cells cs t (0, 0)) → Below W.heap.size W w1 → wpList P ops Q rest (a.put o.dst (.pointer (some ⟨g, 0, none⟩))) w1)
    (hd : o.dst = some N := by rfl) (hgd : o.guard = none := by rfl)
    (hrun : (execOp a.eval o).run P W = .ok (.value (.pointer (some ⟨W.heap.size, 0, none⟩))) (W.alloc (.cells cs t (0, 0))) := by first | (go_simp; done) | (go_simp; rfl)) : wpList P ops Q (o :: rest) a W := box_event hgd hd hrun h
theorem gl {f : FuncId} {fn : Func} {ar : Array Operand} {ts : Array TypeId} (N : Option Tmp) (hf : P.funcs[f]? = some fn) (args : Array Value) (hop : o.op = .call { callee := .value (.func f), args := ar, argTypes := ts })
    (h : Calls P f args W fun e w' => ∃ v, e = .returned v ∧ wpList P ops Q rest (a.put N v) w') (hd : o.dst = N := by rfl) (hg : o.guard = none := by rfl) (hname : (fn.name == "runtime.NumGoroutine") = false := by kernel_rfl) (hb : fn.body.isSome = true := by rfl)
    (hargs : ar.map a.eval = args := by (try simp only [List.map_toArray, List.map_cons, List.map_nil]); first | done | rfl | (simp only [List.length_drop, List.length_take]; rfl)) : wpList P ops Q (o :: rest) a W := goesL_ N hd hg hf hname hb args hop hargs h
end
section
variable {P : Program} {md : Region.Mode} {ops : Array Oper} {Q : Exit → Act → World → Prop} {S : World → Prop} {ds : List Nat} {T : Bool × List (List Nat × List Nat)} {B : List Nat} {oi : Oper} {v : Value} {fuel : Nat} {l : Array Bool} {a a' : Act} {w : World}
theorem pu (i N : Nat) (l' : Array Bool) (hT : Aside0 (rtab md ops = T)) (hi : ops[i]? = some oi) (hN : oi.dst = some N) (h : wpAnyLast P md ops Q S ds fuel l' a' w) (hc : anyT T l.toList l'.toList i = true := by kernel_rfl) (hy : Yields P ops oi v a := by (refine Or.inl ⟨by rfl, ?_⟩; intro w'; go_simp; with_reducible rfl)) (ha : a.put (some N) v = a' := by (simp only [Act.put, List.setIfInBounds_toArray, List.set_cons_zero, List.set_cons_succ, i64_w, i32_w]; rfl)) (hQ : ∀ c a w, Q (.panic c) (a.put oi.dst v) w → Q (.panic c) a w := by exact fun _ _ _ h => h) : wpAnyLast P md ops Q S ds (fuel + 1) l a w := pure_ l' hi hN (any_of hT.out hc) hQ hy ha h
theorem ta (i N : Nat) (l' : Array Bool) (hT : Aside0 (rtab md ops = T)) (hW : Aside0 (waitsOk T.2 B = true)) (hS : S w) (hi : ops[i]? = some oi) (hN : oi.dst = some N) (h : wpAnyLast P md ops Q S ds fuel l' a' w) (hc : takeW T B ds l.toList l'.toList i = true := by kernel_rfl) (hy : YieldsIf P ops S oi v a := by (refine Or.inl ⟨by rfl, ?_⟩; intro w' hs; (repeat (have hs1 := hs.1; replace hs := hs.2)); go_simp; with_reducible rfl)) (ha : a.put (some N) v = a' := by (simp only [Act.put, List.setIfInBounds_toArray, List.set_cons_zero, List.set_cons_succ, i64_w, i32_w]; rfl)) (hQ : ∀ c a w, Q (.panic c) (a.put oi.dst v) w → Q (.panic c) a w := by exact fun _ _ _ h => h) : wpAnyLast P md ops Q S ds (fuel + 1) l a w := take_ l' hi hN (take_ofW hT.out hW.out hc) hQ hy hS ha h
theorem no (N : Nat) (h : wpAnyLast P md ops Q S ds fuel l a' w) (ha : a.put (some N) v = a' := by (simp only [Act.put, List.setIfInBounds_toArray, List.set_cons_zero, List.set_cons_succ, i64_w, i32_w]; rfl)) : wpAnyLast P md ops Q S ds fuel l (a.put (some N) v) w := norm_ ha h
theorem gs {K : Act → World → Prop} {N : Option Tmp} {f : FuncId} {fn : Func} {ar : Array Operand} {ts : Array TypeId} (hf : P.funcs[f]? = some fn) (args : Array Value) (hN : oi.dst = N) (hop : oi.op = .call { callee := .value (.func f), args := ar, argTypes := ts })
    (h : Calls P f args w fun e w' => ∃ v, e = .returned v ∧ K (a.put N v) w') (hname : (fn.name == "runtime.NumGoroutine") = false := by kernel_rfl) (hb : fn.body.isSome = true := by rfl) (hw : Region.wanted oi (yielded ops a.tmps) = true := by rfl)
    (hargs : ar.map a.eval = args := by (try simp only [List.map_toArray, List.map_cons, List.map_nil]); first | done | rfl | (simp only [List.length_drop, List.length_take]; rfl)) : if Region.wanted oi (yielded ops a.tmps) = true then Oper.wp P oi a w K Q else K (a.put N undef) w := goes_ hf hname hb args hw hN hop hargs h
end
section
variable {α β : Type} {A B x : α}
theorem it {h : Decidable (true = true)} (H : @ite α (true = true) h A B = x) : A = x := (if_pos rfl).symm.trans H
theorem ie {h : Decidable (false = true)} (H : @ite α (false = true) h A B = x) : B = x := (if_neg (by simp)).symm.trans H
theorem ob {o : Option α} {f : α → Option β} {r : β} (H : o.bind f = some r) : ∃ a, Aside0 (o = some a) ∧ f a = some r := (Option.bind_eq_some_iff.mp H).imp fun _ h => ⟨⟨h.1⟩, h.2⟩
end
theorem od {p : Prop} [Decidable p] (h : decide p = true := by first | (with_reducible assumption) | assumption) : p := of_decide_eq_true h
theorem hc2 {w W : World} {a0 a1 : Addr} {v0 v1 : Value} (HB : Aside0 (Below w.heap.size w W)) (h0 : w.cell? a0 = some v0) (h1 : w.cell? a1 = some v1) : W.cell? a0 = some v0 ∧ W.cell? a1 = some v1 := ⟨hc HB h0, hc HB h1⟩
theorem cf2 {w : World} {g : Nat} {t : TypeId} {v0 v1 : Value} (h : Aside0 (w.heap[g]? = some (.cells #[v0, v1] t (0, 0)))) : w.cell? ⟨g, 0, none⟩ = some v0 ∧ w.cell? ⟨g, 1, none⟩ = some v1 ∧ w.frozen? ⟨g, 0, none⟩ = false ∧ w.frozen? ⟨g, 1, none⟩ = false := ⟨cz h.out 0 rfl, cz h.out 1 rfl, blk_frozen h.out 0, blk_frozen h.out 1⟩
theorem cf3 {w : World} {g : Nat} {t : TypeId} {v0 v1 v2 : Value} (h : Aside0 (w.heap[g]? = some (.cells #[v0, v1, v2] t (0, 0)))) : w.cell? ⟨g, 0, none⟩ = some v0 ∧ w.cell? ⟨g, 1, none⟩ = some v1 ∧ w.cell? ⟨g, 2, none⟩ = some v2 ∧ w.frozen? ⟨g, 0, none⟩ = false ∧ w.frozen? ⟨g, 1, none⟩ = false ∧ w.frozen? ⟨g, 2, none⟩ = false := ⟨cz h.out 0 rfl, cz h.out 1 rfl, cz h.out 2 rfl, blk_frozen h.out 0, blk_frozen h.out 1, blk_frozen h.out 2⟩
end Go.Proofs.Ytchegijjjakmpaa.P

end
section

namespace Go.Proofs.Ytchegijjjakmpaa.P
open Go.RowKit Go.Proofs.YtchegijjjakmpaaW.PrintWords Go.Proofs.YtchegijjjakmpaaW.PrintLast Go.Proofs.YtchegijjjakmpaaW.PrintMore
attribute [local go_sem] max2_int min2_int max_two min_two max_three min_three max_four min_four
set_option linter.unusedVariables false
set_option linter.unusedSimpArgs false
def IsS40 (w0 W : World) (g : Nat) (f0 : List Int) (f1 : Int) : Prop := ∃ A0 c0, W.heap[g]? = some (.cells #[.slice A0 f0.length c0, .int .i64 f1] 40 (0, 0)) ∧ w0.heap.size ≤ g ∧ Kd.C (Kd.int .u8) w0 A0 f0.length f0
theorem IsS40.grown {w0 W : World} {g : Nat} {f0 : List Int} {f1 : Int} {W1 : World} {row : Option Nat} (h : IsS40 w0 W g f0 f1) (hw : W.grownBy W1 row) (hne : some g ≠ row) : IsS40 w0 W1 g f0 f1 := by
  obtain ⟨A0, c0, hb, hg, hr0⟩ := h
  exact ⟨A0, c0, blk_grown hb hw hne, hg, hr0⟩
theorem IsS40.own_neN {w0 W : World} {g : Nat} {f0 : List Int} {f1 : Int} {α : Type} {d : Kd α} {e : Nat} {base : Nat} {ok : Nat → Prop} {v : Value} {xs : List α} (h : IsS40 w0 W g f0 f1) (ho : Kd.N d e W base ok v xs) (ht : e ≠ 40) : some g ≠ v.ownBlock := by
  obtain ⟨A0, c0, hb, hg, hr0⟩ := h
  exact Kd.N_ne ho hb ht
theorem IsS40.fresh {w0 W : World} {g : Nat} {f0 : List Int} {f1 : Int} (h : IsS40 w0 W g f0 f1) : ∀ k, W.heap.size ≤ k → k ≠ g := by
  obtain ⟨A0, c0, hb, hg, hr0⟩ := h
  exact Kd.freshB hb
theorem IsS40.kept {w0 W : World} {g : Nat} {f0 : List Int} {f1 : Int} {W1 : World} {S : Nat → Prop} (h : IsS40 w0 W g f0 f1) (hk : Kept W W1 S) (hne : ¬ S g) : IsS40 w0 W1 g f0 f1 := by
  obtain ⟨A0, c0, hb, hg, hr0⟩ := h
  exact ⟨A0, c0, blk_kept hb hk hne, hg, hr0⟩
theorem IsS40.below {w0 W : World} {g : Nat} {f0 : List Int} {f1 : Int} {W1 : World} (h : IsS40 w0 W g f0 f1) (hw : Below W.heap.size W W1) : IsS40 w0 W1 g f0 f1 := h.grown (grown_of_below hw none) (by simp)
theorem IsS40.alloc {w0 W : World} {g : Nat} {f0 : List Int} {f1 : Int} (h : IsS40 w0 W g f0 f1) (o : Obj) : IsS40 w0 (W.alloc o) g f0 f1 := h.below (below_alloc (Below.refl _ _) o)
theorem IsS40.drewN {w0 W : World} {g : Nat} {f0 : List Int} {f1 : Int} (h : IsS40 w0 W g f0 f1) (m : Nat) : IsS40 w0 (W.drewN m) g f0 f1 := h
theorem IsS40.drew {w0 W : World} {g : Nat} {f0 : List Int} {f1 : Int} (h : IsS40 w0 W g f0 f1) : IsS40 w0 W.drew g f0 f1 := h
theorem IsS40.at_ {w0 W : World} {g : Nat} {f0 : List Int} {f1 : Int} {w' : World} {m : Nat} (hq : W.drewN m = w') (h : IsS40 w0 W g f0 f1) : IsS40 w0 w' g f0 f1 := by subst hq; exact IsS40.drewN h m
theorem IsS40.apart {w0 W : World} {g : Nat} {f0 : List Int} {f1 : Int} {α : Type} {d : Kd α} {e : Nat} {base : Nat} {ok : Nat → Prop} {v : Value} {xs : List α} (h : IsS40 w0 W g f0 f1) (ho : d.R e W base ok v xs) (ht : ∀ q, q ∈ e :: d.E → q ≠ 40) : d.R e W base (fun k => ok k ∧ k ≠ g) v xs := by
  obtain ⟨A0, c0, hb, hg, hr0⟩ := h
  exact Kd.R_types ho hb ht
theorem IsS40.own_ne {w0 W : World} {g : Nat} {f0 : List Int} {f1 : Int} {α : Type} {d : Kd α} {e : Nat} {base : Nat} {ok : Nat → Prop} {v : Value} {xs : List α} (h : IsS40 w0 W g f0 f1) (ho : d.R e W base ok v xs) (ht : e ≠ 40) : some g ≠ v.ownBlock := by
  obtain ⟨A0, c0, hb, hg, hr0⟩ := h
  exact Kd.R_ne ho hb ht
theorem IsS40.apartQ {w0 W : World} {g : Nat} {f0 : List Int} {f1 : Int} {α : Type} {d : Kd α} {e : Nat} {base : Nat} {ok : Nat → Prop} {v : Value} {xs : List α} (h : IsS40 w0 W g f0 f1) (ho : d.Q e W base ok v xs) (ht : ∀ q, q ∈ e :: d.E → q ≠ 40) : d.Q e W base (fun k => ok k ∧ k ≠ g) v xs := by
  obtain ⟨A0, c0, hb, hg, hr0⟩ := h
  exact Kd.Q_types ho hb ht
theorem IsS40.apartS {w0 W : World} {g : Nat} {f0 : List Int} {f1 : Int} {α : Type} {d : Kd α} {e : Nat} {base : Nat} {ok : Nat → Prop} {v : Value} {xs : List α} (h : IsS40 w0 W g f0 f1) (ho : d.S e W base ok v xs) (ht : ∀ q, q ∈ e :: d.E → q ≠ 40) : d.S e W base (fun k => ok k ∧ k ≠ g) v xs := by
  obtain ⟨A0, c0, hb, hg, hr0⟩ := h
  exact Kd.S_types ho hb ht
theorem IsS40.own_neS {w0 W : World} {g : Nat} {f0 : List Int} {f1 : Int} {α : Type} {d : Kd α} {e : Nat} {base : Nat} {ok : Nat → Prop} {v : Value} {xs : List α} (h : IsS40 w0 W g f0 f1) (ho : d.S e W base ok v xs) (ht : e ≠ 40) : some g ≠ v.ownBlock := by
  obtain ⟨A0, c0, hb, hg, hr0⟩ := h
  exact Kd.S_ne ho hb ht
theorem IsS40.lt {w0 W : World} {g : Nat} {f0 : List Int} {f1 : Int} (h : IsS40 w0 W g f0 f1) : g < W.heap.size := by
  obtain ⟨A0, c0, hb, hg, hr0⟩ := h
  exact blk_lt hb
theorem IsS40.ge {w0 W : World} {g : Nat} {f0 : List Int} {f1 : Int} (h : IsS40 w0 W g f0 f1) : w0.heap.size ≤ g := by
  obtain ⟨A0, c0, hb, hg, hr0⟩ := h
  exact hg
theorem IsS40.ne_blk {w0 W : World} {g : Nat} {f0 : List Int} {f1 : Int} {a : Nat} {cs : Array Value} {t : TypeId} {fr : Nat × Nat} (h : IsS40 w0 W g f0 f1) (hb2 : W.heap[a]? = some (.cells cs t fr)) (ht : t ≠ 40) : g ≠ a := by
  obtain ⟨A0, c0, hb, hg, hr0⟩ := h
  rintro rfl
  rw [hb] at hb2
  injection hb2 with hb2
  injection hb2 with _ ht2
  exact ht ht2.symm
theorem IsS40.far {w0 W : World} {g : Nat} {f0 : List Int} {f1 : Int} {p : Addr} (h : IsS40 w0 W g f0 f1) (hne : g ≠ p.block) (u : Value) : IsS40 w0 (W.setCell p u) g f0 f1 := by
  obtain ⟨A0, c0, hb, hg, hr0⟩ := h
  exact ⟨A0, c0, blk_far hb hne u, hg, hr0⟩
theorem cellS40_0 {W : World} {g : Nat} {A0 : Option Addr} {c0 : Nat} {f0 : List Int} {f1 : Int} (h : W.heap[g]? = some (.cells #[.slice A0 f0.length c0, .int .i64 f1] 40 (0, 0))) : W.cell? ⟨g, 0, none⟩ = some (.slice A0 f0.length c0) := (blk_cell h 0).trans rfl
theorem cellS40_1 {W : World} {g : Nat} {A0 : Option Addr} {c0 : Nat} {f0 : List Int} {f1 : Int} (h : W.heap[g]? = some (.cells #[.slice A0 f0.length c0, .int .i64 f1] 40 (0, 0))) : W.cell? ⟨g, 1, none⟩ = some (.int .i64 f1) := (blk_cell h 1).trans rfl
theorem IsS40.set_1 {w0 W : World} {g : Nat} {f0 : List Int} {f1 : Int} (h : IsS40 w0 W g f0 f1) (x : Int) : IsS40 w0 (W.setCell ⟨g, 1, none⟩ (.int .i64 x)) g f0 x := by
  obtain ⟨A0, c0, hb, hg, hr0⟩ := h
  exact ⟨A0, c0, by simpa using blk_set hb 1 (.int .i64 x), hg, hr0⟩
end Go.Proofs.Ytchegijjjakmpaa.P

end
section

namespace Go.Proofs.Ytchegijjjakmpaa.P
set_option linter.unusedVariables false
open Go Go.RowKit Go.Proofs.YtchegijjjakmpaaW.PrintWords Go.Proofs.YtchegijjjakmpaaW.PrintLast Go.Proofs.YtchegijjjakmpaaW.PrintMore
section
variable {w w0 W W0 w1 : World} {g g' : Nat} {f0 a0 : List Int} {f1 a1 : Int} {row : Option Nat}
theorem iS (h : IsS40 w0 W g f0 f1 := by repeat (first | (with_reducible first | exact Aside0.out (by assumption) | apply IsS40.alloc | apply IsS40.drewN | apply IsS40.drew | apply IsS40.set_1 | refine IsS40.far ?_ (Aside0.out (by assumption)) _) | exact Aside0.out (by assumption))) : IsS40 w0 W g f0 f1 := h
theorem kU (h : KeepBut w W g row := by repeat (first | (with_reducible first | exact Aside0.out (by assumption) | apply KeepBut.set_ | apply keep_drewN | apply keep_drew | apply keep_alloc | refine keep_far ?_ (Aside0.out (by assumption)) _) | exact Aside0.out (by assumption))) : KeepBut w W g row := h
theorem bS (h : Below w.heap.size w W := by repeat (first | (with_reducible first | exact Aside0.out (by assumption) | apply below_alloc | apply pw_below_drewN | apply below_drew1 | refine below_set ?_ (Aside0.out (by assumption)) | refine below_set ?_ (IsS40.ge (Aside0.out (by assumption)))) | exact Aside0.out (by assumption))) : Below w.heap.size w W := h
theorem iB (_ : Aside0 (IsS40 w0 W0 g a0 a1)) (hb : Below W.heap.size W w1) (h : IsS40 w0 W g f0 f1 := by repeat (first | (with_reducible first | exact Aside0.out (by assumption) | apply IsS40.alloc | apply IsS40.drewN | apply IsS40.drew | apply IsS40.set_1 | refine IsS40.far ?_ (Aside0.out (by assumption)) _) | exact Aside0.out (by assumption))) : Aside0 (IsS40 w0 w1 g f0 f1) := ⟨IsS40.below h hb⟩
theorem iL (_ : Aside0 (IsS40 w0 W0 g a0 a1)) (hg : g' = W.heap.size) (h : IsS40 w0 W g f0 f1 := by repeat (first | (with_reducible first | exact Aside0.out (by assumption) | apply IsS40.alloc | apply IsS40.drewN | apply IsS40.drew | apply IsS40.set_1 | refine IsS40.far ?_ (Aside0.out (by assumption)) _) | exact Aside0.out (by assumption))) : Aside0 (g ≠ g') := ⟨by rw [hg]; exact Nat.ne_of_lt (IsS40.lt h)⟩
theorem iG (_ : Aside0 (IsS40 w0 W0 g a0 a1)) (hg : g' = W.heap.size) (h : IsS40 w0 W g f0 f1 := by repeat (first | (with_reducible first | exact Aside0.out (by assumption) | apply IsS40.alloc | apply IsS40.drewN | apply IsS40.drew | apply IsS40.set_1 | refine IsS40.far ?_ (Aside0.out (by assumption)) _) | exact Aside0.out (by assumption))) : Aside0 (g' ≠ g) := ⟨by rw [hg]; exact Nat.ne_of_gt (IsS40.lt h)⟩
theorem kN (_ : Aside0 (KeepBut w W0 g row)) (hb : Below W.heap.size W w1) (h : KeepBut w W g row := by repeat (first | (with_reducible first | exact Aside0.out (by assumption) | apply KeepBut.set_ | apply keep_drewN | apply keep_drew | apply keep_alloc | refine keep_far ?_ (Aside0.out (by assumption)) _) | exact Aside0.out (by assumption))) : Aside0 (KeepBut w w1 g row) := ⟨KeepBut.trans h (KeepBut.of_below hb g row) (.inl rfl)⟩
theorem kT (_ : Aside0 (KeepBut w W0 g row)) (hk : KeepBut W w1 g row) (h : KeepBut w W g row := by repeat (first | (with_reducible first | exact Aside0.out (by assumption) | apply KeepBut.set_ | apply keep_drewN | apply keep_drew | apply keep_alloc | refine keep_far ?_ (Aside0.out (by assumption)) _) | exact Aside0.out (by assumption))) : Aside0 (KeepBut w w1 g row) := ⟨KeepBut.trans h hk (.inl rfl)⟩
theorem kZ (_ : Aside0 (KeepBut w W0 g none)) (hg : g' = W.heap.size) (h : KeepBut w W g none := by repeat (first | (with_reducible first | exact Aside0.out (by assumption) | apply KeepBut.set_ | apply keep_drewN | apply keep_drew | apply keep_alloc | refine keep_far ?_ (Aside0.out (by assumption)) _) | exact Aside0.out (by assumption))) : Aside0 (w.heap.size ≤ g') := ⟨by rw [hg]; exact keep_size h⟩
theorem kY (HW : Aside0 (w0.heap.size ≤ w.heap.size)) (_ : Aside0 (KeepBut w W0 g none)) (hg : g' = W.heap.size) (h : KeepBut w W g none := by repeat (first | (with_reducible first | exact Aside0.out (by assumption) | apply KeepBut.set_ | apply keep_drewN | apply keep_drew | apply keep_alloc | refine keep_far ?_ (Aside0.out (by assumption)) _) | exact Aside0.out (by assumption))) : Aside0 (w0.heap.size ≤ g') := ⟨Nat.le_trans HW.out (by rw [hg]; exact keep_size h)⟩
theorem bN (_ : Aside0 (Below w.heap.size w W0)) (hb : Below W.heap.size W w1) (h : Below w.heap.size w W := by repeat (first | (with_reducible first | exact Aside0.out (by assumption) | apply below_alloc | apply pw_below_drewN | apply below_drew1 | refine below_set ?_ (Aside0.out (by assumption)) | refine below_set ?_ (IsS40.ge (Aside0.out (by assumption)))) | exact Aside0.out (by assumption))) : Aside0 (Below w.heap.size w w1) := ⟨below_step h hb⟩
variable {α : Type} {d : Kd α} {e base : Nat} {ok : Nat → Prop} {v : Value} {xs : List α} {o : Obj}
theorem kbk (hk : KeepBut W w1 g none) (h : Aside0 (W.heap[g']? = some o)) (hn : Aside0 (g' ≠ g)) : Aside0 (w1.heap[g']? = some o) := ⟨KeepBut.blk hk h.out hn.out (by simp)⟩
theorem kR (hk : KeepBut W w1 g none) (_ : Aside0 (IsS40 w0 W0 g a0 a1)) (ho : Aside0 (d.R e W base ok v xs)) (ht : ∀ q, q ∈ e :: d.E → q ≠ 40 := by decide) (h : IsS40 w0 W g f0 f1 := by repeat (first | (with_reducible first | exact Aside0.out (by assumption) | apply IsS40.alloc | apply IsS40.drewN | apply IsS40.drew | apply IsS40.set_1 | refine IsS40.far ?_ (Aside0.out (by assumption)) _) | exact Aside0.out (by assumption))) : Aside0 (d.R e w1 base ok v xs) := ⟨Kd.R_mono (Kd.R_keep (IsS40.apart h ho.out ht) hk (fun _ h => h.2)) (fun _ h => h.1)⟩
theorem rb (h : Aside0 (Kd.R d e W base ok v xs)) (hb : Below W.heap.size W w1) : Aside0 (Kd.R d e w1 base ok v xs) := ⟨Kd.R_below h.out hb⟩
theorem dR (h : Aside0 (Kd.R d e W base ok v xs)) : Aside0 (Kd.R d e W.drew base ok v xs) := ⟨Kd.R_drew h.out⟩
theorem qb (h : Aside0 (Kd.Q d e W base ok v xs)) (hb : Below W.heap.size W w1) : Aside0 (Kd.Q d e w1 base ok v xs) := ⟨Kd.Q_below h.out hb⟩
theorem dQ (h : Aside0 (Kd.Q d e W base ok v xs)) : Aside0 (Kd.Q d e W.drew base ok v xs) := ⟨Kd.Q_drew h.out⟩
theorem nb (h : Aside0 (Kd.N d e W base ok v xs)) (hb : Below W.heap.size W w1) : Aside0 (Kd.N d e w1 base ok v xs) := ⟨Kd.N_below h.out hb⟩
theorem dN (h : Aside0 (Kd.N d e W base ok v xs)) : Aside0 (Kd.N d e W.drew base ok v xs) := ⟨Kd.N_drew h.out⟩
theorem dK (h : Aside0 (W.heap[g']? = some o)) : Aside0 (W.drew.heap[g']? = some o) := ⟨blk_drew h.out⟩
end
end Go.Proofs.Ytchegijjjakmpaa.P

end
section

namespace Go.Proofs.Ytchegijjjakmpaa.P
open Go.RowKit Go.Proofs.YtchegijjjakmpaaW.PrintWords Go.Proofs.YtchegijjjakmpaaW.PrintLast Go.Proofs.YtchegijjjakmpaaW.PrintMore
attribute [local go_sem] max2_int min2_int max_two min_two max_three min_three max_four min_four
set_option linter.unusedVariables false
set_option linter.unusedSimpArgs false
def spec_l6Rd_pick.j0 : Nat → Int → Bool → List Int → Int → Option (Int × Int)
  | 0, _, _, _, _ => none
  | k + 1, x1, x24, x1000, x1001 => if x24 = true then (some (0, x1001)) else (if (wrap64 (x1001 - 1)) < (x1000.length : Int) then (if 0 ≤ (wrap64 (x1001 - 1)) then (if x1 = 0 then (none) else (some (Int.tmod (wrap64 (rd x1000 (wrap64 (x1001 - 1)))) x1, x1001))) else (none)) else (if (x1000.length : Int) = 0 then (none) else (if 0 ≤ (Int.tmod (wrap64 (x1001 - 1)) (x1000.length : Int)) then (if (Int.tmod (wrap64 (x1001 - 1)) (x1000.length : Int)) < (x1000.length : Int) then (if 0 ≤ (Int.tmod (wrap64 ((wrap64 ((wrap64 (x1001 - 1)) * 7)) + 3)) (x1000.length : Int)) then (if (Int.tmod (wrap64 ((wrap64 ((wrap64 (x1001 - 1)) * 7)) + 3)) (x1000.length : Int)) < (x1000.length : Int) then (if x1 = 0 then (none) else (some (Int.tmod (Go.bits .xor .i64 (wrap64 ((wrap64 ((wrap64 ((wrap64 ((wrap64 (rd x1000 (Int.tmod (wrap64 (x1001 - 1)) (x1000.length : Int)))) * 131)) + (wrap64 ((wrap64 (rd x1000 (Int.tmod (wrap64 ((wrap64 ((wrap64 (x1001 - 1)) * 7)) + 3)) (x1000.length : Int)))) * 1117)))) + (wrap64 ((wrap64 (x1001 - 1)) * 29)))) + (wrap64 ((wrap64 (Int.tdiv (wrap64 (x1001 - 1)) (x1000.length : Int))) * 53)))) (wrap64 (Int.tdiv (wrap64 ((wrap64 ((wrap64 ((wrap64 ((wrap64 (rd x1000 (Int.tmod (wrap64 (x1001 - 1)) (x1000.length : Int)))) * 131)) + (wrap64 ((wrap64 (rd x1000 (Int.tmod (wrap64 ((wrap64 ((wrap64 (x1001 - 1)) * 7)) + 3)) (x1000.length : Int)))) * 1117)))) + (wrap64 ((wrap64 (x1001 - 1)) * 29)))) + (wrap64 ((wrap64 (Int.tdiv (wrap64 (x1001 - 1)) (x1000.length : Int))) * 53)))) 64))) x1, x1001))) else (none)) else (none)) else (none)) else (none))))
def spec_l6Rd_pick.f (k : Nat) (s0_0 : List Int) (s0_1 : Int) (a1 : Int) : Option (Int × Int) := if a1 < 1 then (spec_l6Rd_pick.j0 k a1 true s0_0 (wrap64 (s0_1 + 1))) else (spec_l6Rd_pick.j0 k a1 ((s0_0.length : Int) == 0) s0_0 (wrap64 (s0_1 + 1)))
end Go.Proofs.Ytchegijjjakmpaa.P

end
section

namespace Go.Proofs.Ytchegijjjakmpaa.P
open Go.RowKit Go.Proofs.YtchegijjjakmpaaW.PrintWords Go.Proofs.YtchegijjjakmpaaW.PrintLast Go.Proofs.YtchegijjjakmpaaW.PrintMore
attribute [local go_sem] max2_int min2_int max_two min_two max_three min_three max_four min_four
set_option linter.unusedVariables false
set_option linter.unusedSimpArgs false
def spec_l6In.f (a0 : Int) (a1 : Int) (a2 : Int) : Option (Bool) := if a0 ≥ a1 then (some (decide (a0 ≤ a2))) else (some false)
end Go.Proofs.Ytchegijjjakmpaa.P

end
section

namespace Go.Proofs.Ytchegijjjakmpaa.P
open Go.RowKit Go.Proofs.YtchegijjjakmpaaW.PrintWords Go.Proofs.YtchegijjjakmpaaW.PrintLast Go.Proofs.YtchegijjjakmpaaW.PrintMore
attribute [local go_sem] max2_int min2_int max_two min_two max_three min_three max_four min_four
set_option linter.unusedVariables false
set_option linter.unusedSimpArgs false
def spec_l2Field.f (l0 : List (S48)) (a1 : Int) : Option (Bool) := if a1 = 1 then (some true) else (if a1 = 3 then (some true) else (if a1 = 4 then (some true) else ((spec_l6In.f a1 8 (wrap64 ((wrap64 (8 + (l0.length : Int))) - 1))).bind fun t226 => (some t226))))
end Go.Proofs.Ytchegijjjakmpaa.P

end
section

namespace Go.Proofs.Ytchegijjjakmpaa.P
open Go.RowKit Go.Proofs.YtchegijjjakmpaaW.PrintWords Go.Proofs.YtchegijjjakmpaaW.PrintLast Go.Proofs.YtchegijjjakmpaaW.PrintMore
attribute [local go_sem] max2_int min2_int max_two min_two max_three min_three max_four min_four
set_option linter.unusedVariables false
set_option linter.unusedSimpArgs false
def spec_l2Class.l0 : Nat → List (S48) → Int → Int → Int → List Int → Option (Bool)
  | 0, _, _, _, _, _ => none
  | k + 1, x0, x1, x6, x229000, x229001 => if x6 < (x229001.length : Int) then (if 0 ≤ x6 then ((spec_l2Field.f x0 (rd x229001 x6)).bind fun t230 => (if t230 = true then (spec_l2Class.l0 k x0 x1 (wrap64 (x6 + 1)) x229000 x229001) else (some false))) else (none)) else (if x1 = 0 then (if x229000 = (-1) then (some ((x229001.length : Int) == 0)) else (some false)) else (if x1 = 1 then (if x229000 = 0 then (if (x229001.length : Int) = 1 then (if 0 < (x229001.length : Int) then (some ((rd x229001 0) == 1)) else (none)) else (some false)) else (some false)) else ((spec_l6In.f x229000 0 (wrap64 (x1 - 1))).bind fun t232 => (if t232 = true then (some (decide ((x229001.length : Int) ≤ 2))) else (some false)))))
def spec_l2Class.f (k : Nat) (l0 : List (S48)) (a1 : Int) : Option (Bool) := if 0 ≤ a1 then (if a1 < (l0.length : Int) then (spec_l2Class.l0 k l0 a1 0 ((rd_T48 l0 a1).f0) ((rd_T48 l0 a1).f1)) else (none)) else (none)
end Go.Proofs.Ytchegijjjakmpaa.P

end
section

namespace Go.Proofs.Ytchegijjjakmpaa.P
open Go.RowKit Go.Proofs.YtchegijjjakmpaaW.PrintWords Go.Proofs.YtchegijjjakmpaaW.PrintLast Go.Proofs.YtchegijjjakmpaaW.PrintMore
attribute [local go_sem] max2_int min2_int max_two min_two max_three min_three max_four min_four
set_option linter.unusedVariables false
set_option linter.unusedSimpArgs false
def spec_ClassesOk.l0 : Nat → List (S48) → Int → Option (Bool)
  | 0, _, _ => none
  | k + 1, x0, x3 => if x3 < (x0.length : Int) then ((spec_l2Class.f k x0 x3).bind fun t234 => (if t234 = true then (spec_ClassesOk.l0 k x0 (wrap64 (x3 + 1))) else (some false))) else (some true)
def spec_ClassesOk.f (k : Nat) (l0 : List (S48)) : Option (Bool) := (spec_l6In.f (l0.length : Int) 2 5).bind fun t233 => (if t233 = true then (spec_ClassesOk.l0 k l0 0) else (some false))
end Go.Proofs.Ytchegijjjakmpaa.P

end
section

namespace Go.Proofs.Ytchegijjjakmpaa.P
open Go.RowKit Go.Proofs.YtchegijjjakmpaaW.PrintWords Go.Proofs.YtchegijjjakmpaaW.PrintLast Go.Proofs.YtchegijjjakmpaaW.PrintMore
attribute [local go_sem] max2_int min2_int max_two min_two max_three min_three max_four min_four
set_option linter.unusedVariables false
set_option linter.unusedSimpArgs false
def spec_TypeOk.f (k : Nat) (l0 : List (S48)) (a1 : Int) : Option (Bool) := (spec_ClassesOk.f k l0).bind fun t235 => (if t235 = true then (if a1 = 0 then (some true) else (if a1 = 2 then (some true) else ((spec_l2Field.f l0 a1).bind fun t236 => (some t236)))) else (some false))
end Go.Proofs.Ytchegijjjakmpaa.P

end
section

namespace Go.Proofs.Ytchegijjjakmpaa.P
open Go.RowKit Go.Proofs.YtchegijjjakmpaaW.PrintWords Go.Proofs.YtchegijjjakmpaaW.PrintLast Go.Proofs.YtchegijjjakmpaaW.PrintMore
attribute [local go_sem] max2_int min2_int max_two min_two max_three min_three max_four min_four
set_option linter.unusedVariables false
set_option linter.unusedSimpArgs false
mutual
def spec_ShapeOk.j0 : Nat → List (S48) → Bool → Bool → List Int → List Int → Option (Bool)
  | 0, _, _, _, _, _ => none
  | k + 1, x0, x35, x238000, x238001, x238002 => if x35 = true then (some false) else (spec_ShapeOk.l0 k x0 0 x238000 x238001 x238002)
def spec_ShapeOk.l0 : Nat → List (S48) → Int → Bool → List Int → List Int → Option (Bool)
  | 0, _, _, _, _, _ => none
  | k + 1, x0, x7, x238000, x238001, x238002 => if x7 < (x238001.length : Int) then (if 0 ≤ x7 then ((spec_TypeOk.f k x0 (rd x238001 x7)).bind fun t240 => (if t240 = true then (spec_ShapeOk.l0 k x0 (wrap64 (x7 + 1)) x238000 x238001 x238002) else (some false))) else (none)) else (spec_ShapeOk.l1 k x0 0 x238000 x238001 x238002)
def spec_ShapeOk.l1 : Nat → List (S48) → Int → Bool → List Int → List Int → Option (Bool)
  | 0, _, _, _, _, _ => none
  | k + 1, x0, x8, x238000, x238001, x238002 => if x8 < (x238002.length : Int) then (if 0 ≤ x8 then ((spec_TypeOk.f k x0 (rd x238002 x8)).bind fun t242 => (if t242 = true then (if (rd x238002 x8) = 0 then (some false) else (spec_ShapeOk.l1 k x0 (wrap64 (x8 + 1)) x238000 x238001 x238002)) else (some false))) else (none)) else (some true)
end
def spec_ShapeOk.f (k : Nat) (l0 : List (S48)) (a1 : Int) (a2_0 : Bool) (l2_1 : List Int) (l2_2 : List Int) : Option (Bool) := (spec_ClassesOk.f k l0).bind fun t238 => (if t238 = true then (if a2_0 = true then (if (l2_1.length : Int) = a1 then (spec_ShapeOk.j0 k l0 (decide ((l2_2.length : Int) > 4)) a2_0 l2_1 l2_2) else (spec_ShapeOk.j0 k l0 true a2_0 l2_1 l2_2)) else (if (l2_1.length : Int) = 0 then (some ((l2_2.length : Int) == 0)) else (some false))) else (some false))
end Go.Proofs.Ytchegijjjakmpaa.P

end
section

namespace Go.Proofs.Ytchegijjjakmpaa.P
open Go.RowKit Go.Proofs.YtchegijjjakmpaaW.PrintWords Go.Proofs.YtchegijjjakmpaaW.PrintLast Go.Proofs.YtchegijjjakmpaaW.PrintMore
attribute [local go_sem] max2_int min2_int max_two min_two max_three min_three max_four min_four
set_option linter.unusedVariables false
set_option linter.unusedSimpArgs false
def spec_l11Fits.f (k : Nat) (l0 : List (S48)) (a1_0 : Bool) (l1_1 : List Int) (l1_2 : List Int) (a2_0 : Bool) (l2_1 : List Int) (l2_2 : List Int) : Option (Bool) := if a1_0 = true then (if a2_0 = true then ((spec_ShapeOk.f k l0 (l1_1.length : Int) a1_0 l1_1 l1_2).bind fun t246 => (if t246 = true then ((spec_ShapeOk.f k l0 (l1_1.length : Int) a2_0 l2_1 l2_2).bind fun t247 => (if t247 = true then (some ((l1_2.length : Int) == (l2_2.length : Int))) else (some false))) else (some false))) else (some false)) else (some false)
end Go.Proofs.Ytchegijjjakmpaa.P

end
section

namespace Go.Proofs.Ytchegijjjakmpaa.P
open Go.RowKit Go.Proofs.YtchegijjjakmpaaW.PrintWords Go.Proofs.YtchegijjjakmpaaW.PrintLast Go.Proofs.YtchegijjjakmpaaW.PrintMore
attribute [local go_sem] max2_int min2_int max_two min_two max_three min_three max_four min_four
set_option linter.unusedVariables false
set_option linter.unusedSimpArgs false
def spec_l11Copy.f (a0_0 : Bool) (l0_1 : List Int) (l0_2 : List Int) : Option (Bool × List Int × List Int) := (some (([] : List Int) : List Int)).bind fun y250 => (if y250.length + l0_1.length < 17592186044416 then ((some (([] : List Int) : List Int)).bind fun y256 => (if y256.length + l0_2.length < 17592186044416 then (some (a0_0, (y250 ++ l0_1), (y256 ++ l0_2))) else (none))) else (none))
end Go.Proofs.Ytchegijjjakmpaa.P

end
section

namespace Go.Proofs.Ytchegijjjakmpaa.P
open Go.RowKit Go.Proofs.YtchegijjjakmpaaW.PrintWords Go.Proofs.YtchegijjjakmpaaW.PrintLast Go.Proofs.YtchegijjjakmpaaW.PrintMore
attribute [local go_sem] max2_int min2_int max_two min_two max_three min_three max_four min_four
set_option linter.unusedVariables false
set_option linter.unusedSimpArgs false
def spec_l11None.f  : Option (Bool × List Int × List Int) := some (false, (([] : List Int)), (([] : List Int)))
end Go.Proofs.Ytchegijjjakmpaa.P

end
section

namespace Go.Proofs.Ytchegijjjakmpaa.P
open Go.RowKit Go.Proofs.YtchegijjjakmpaaW.PrintWords Go.Proofs.YtchegijjjakmpaaW.PrintLast Go.Proofs.YtchegijjjakmpaaW.PrintMore
attribute [local go_sem] max2_int min2_int max_two min_two max_three min_three max_four min_four
set_option linter.unusedVariables false
set_option linter.unusedSimpArgs false
def spec_l2Ref.f (a0 : Int) : Option (Bool) := some (decide (a0 ≥ 2))
end Go.Proofs.Ytchegijjjakmpaa.P

end
section

namespace Go.Proofs.Ytchegijjjakmpaa.P
open Go.RowKit Go.Proofs.YtchegijjjakmpaaW.PrintWords Go.Proofs.YtchegijjjakmpaaW.PrintLast Go.Proofs.YtchegijjjakmpaaW.PrintMore
attribute [local go_sem] max2_int min2_int max_two min_two max_three min_three max_four min_four
set_option linter.unusedVariables false
set_option linter.unusedSimpArgs false
def spec_l2Up.l0 : Nat → List (S48) → Int → Int → Option (Bool)
  | 0, _, _, _ => none
  | k + 1, x0, x1, x2 => if x1 > x2 then (if 0 ≤ x1 then (if x1 < (x0.length : Int) then (spec_l2Up.l0 k x0 ((rd_T48 x0 x1).f0) x2) else (none)) else (none)) else (some (x1 == x2))
def spec_l2Up.f (k : Nat) (l0 : List (S48)) (a1 : Int) (a2 : Int) : Option (Bool) := spec_l2Up.l0 k l0 a1 a2
end Go.Proofs.Ytchegijjjakmpaa.P

end
section

namespace Go.Proofs.Ytchegijjjakmpaa.P
open Go.RowKit Go.Proofs.YtchegijjjakmpaaW.PrintWords Go.Proofs.YtchegijjjakmpaaW.PrintLast Go.Proofs.YtchegijjjakmpaaW.PrintMore
attribute [local go_sem] max2_int min2_int max_two min_two max_three min_three max_four min_four
set_option linter.unusedVariables false
set_option linter.unusedSimpArgs false
mutual
def spec_l2In.j0 : Nat → List (S48) → Int → Int → Bool → Option (Bool)
  | 0, _, _, _, _ => none
  | k + 1, x0, x1, x2, x13 => if x13 = true then (some true) else (if x1 = 2 then ((spec_l2Ref.f x2).bind fun t263 => (some t263)) else ((spec_l2Ref.f x1).bind fun t264 => (if t264 = true then (spec_l2In.j1 k x0 x1 x2 (decide (x2 < 8))) else (spec_l2In.j1 k x0 x1 x2 true))))
def spec_l2In.j1 : Nat → List (S48) → Int → Int → Bool → Option (Bool)
  | 0, _, _, _, _ => none
  | k + 1, x0, x1, x2, x24 => if x24 = true then (some false) else (if x1 < 8 then (some (x2 == 8)) else ((spec_l2Up.f k x0 (wrap64 (x1 - 8)) (wrap64 (x2 - 8))).bind fun t265 => (some t265)))
end
def spec_l2In.f (k : Nat) (l0 : List (S48)) (a1 : Int) (a2 : Int) : Option (Bool) := if a1 = a2 then (spec_l2In.j0 k l0 a1 a2 true) else (spec_l2In.j0 k l0 a1 a2 (a2 == 0))
end Go.Proofs.Ytchegijjjakmpaa.P

end
section

namespace Go.Proofs.Ytchegijjjakmpaa.P
open Go.RowKit Go.Proofs.YtchegijjjakmpaaW.PrintWords Go.Proofs.YtchegijjjakmpaaW.PrintLast Go.Proofs.YtchegijjjakmpaaW.PrintMore
attribute [local go_sem] max2_int min2_int max_two min_two max_three min_three max_four min_four
set_option linter.unusedVariables false
set_option linter.unusedSimpArgs false
def spec_l2Join.l0 : Nat → List (S48) → Int → Int → Option (Int)
  | 0, _, _, _ => none
  | k + 1, x0, x1, x2 => (spec_l2Up.f k x0 x2 x1).bind fun t266 => (if t266 = true then (some x1) else (if 0 ≤ x1 then (if x1 < (x0.length : Int) then (spec_l2Join.l0 k x0 ((rd_T48 x0 x1).f0) x2) else (none)) else (none)))
def spec_l2Join.f (k : Nat) (l0 : List (S48)) (a1 : Int) (a2 : Int) : Option (Int) := spec_l2Join.l0 k l0 a1 a2
end Go.Proofs.Ytchegijjjakmpaa.P

end
section

namespace Go.Proofs.Ytchegijjjakmpaa.P
open Go.RowKit Go.Proofs.YtchegijjjakmpaaW.PrintWords Go.Proofs.YtchegijjjakmpaaW.PrintLast Go.Proofs.YtchegijjjakmpaaW.PrintMore
attribute [local go_sem] max2_int min2_int max_two min_two max_three min_three max_four min_four
set_option linter.unusedVariables false
set_option linter.unusedSimpArgs false
def spec_l2Meets.j0 : Nat → List (S48) → Int → Int → Bool → Option (Int)
  | 0, _, _, _, _ => none
  | k + 1, x0, x1, x2, x24 => if x24 = true then (some 0) else (if x1 < 8 then (some 8) else (if x2 < 8 then (some 8) else ((spec_l2Join.f k x0 (wrap64 (x1 - 8)) (wrap64 (x2 - 8))).bind fun t272 => (some (wrap64 (8 + t272))))))
def spec_l2Meets.f (k : Nat) (l0 : List (S48)) (a1 : Int) (a2 : Int) : Option (Int) := (spec_l2In.f k l0 a1 a2).bind fun t268 => (if t268 = true then (some a2) else ((spec_l2In.f k l0 a2 a1).bind fun t269 => (if t269 = true then (some a1) else ((spec_l2Ref.f a1).bind fun t270 => (if t270 = true then ((spec_l2Ref.f a2).bind fun t271 => (spec_l2Meets.j0 k l0 a1 a2 (!t271))) else (spec_l2Meets.j0 k l0 a1 a2 true))))))
end Go.Proofs.Ytchegijjjakmpaa.P

end
section

namespace Go.Proofs.Ytchegijjjakmpaa.P
open Go.RowKit Go.Proofs.YtchegijjjakmpaaW.PrintWords Go.Proofs.YtchegijjjakmpaaW.PrintLast Go.Proofs.YtchegijjjakmpaaW.PrintMore
attribute [local go_sem] max2_int min2_int max_two min_two max_three min_three max_four min_four
set_option linter.unusedVariables false
set_option linter.unusedSimpArgs false
mutual
def spec_l11Join.l0 : Nat → List (S48) → Int → Bool → List Int → List Int → Bool → List Int → List Int → Bool → List Int → List Int → Option (Bool × List Int × List Int)
  | 0, _, _, _, _, _, _, _, _, _, _, _ => none
  | k + 1, x0, x8, x274000, x274001, x274002, x275000, x275001, x275002, x284000, x284001, x284002 => if x8 < (x274001.length : Int) then (if 0 ≤ x8 then (if x8 < (x275001.length : Int) then ((spec_l2Meets.f k x0 (rd x274001 x8) (rd x275001 x8)).bind fun t293 => (if x8 < (x284001.length : Int) then (spec_l11Join.l0 k x0 (wrap64 (x8 + 1)) x274000 x274001 x274002 x275000 x275001 x275002 x284000 (x284001.set (x8 : Int).toNat t293) x284002) else (none))) else (none)) else (none)) else (spec_l11Join.l1 k x0 0 x274000 x274001 x274002 x275000 x275001 x275002 x284000 x284001 x284002)
def spec_l11Join.l1 : Nat → List (S48) → Int → Bool → List Int → List Int → Bool → List Int → List Int → Bool → List Int → List Int → Option (Bool × List Int × List Int)
  | 0, _, _, _, _, _, _, _, _, _, _, _ => none
  | k + 1, x0, x9, x274000, x274001, x274002, x275000, x275001, x275002, x284000, x284001, x284002 => if x9 < (x274002.length : Int) then (if 0 ≤ x9 then (if x9 < (x275002.length : Int) then ((spec_l2Meets.f k x0 (rd x274002 x9) (rd x275002 x9)).bind fun t297 => (if x9 < (x284002.length : Int) then (if t297 = 0 then ((spec_l11None.f).bind fun bt300 => (some (bt300.1, bt300.2.1, bt300.2.2))) else (spec_l11Join.l1 k x0 (wrap64 (x9 + 1)) x274000 x274001 x274002 x275000 x275001 x275002 x284000 x284001 (x284002.set (x9 : Int).toNat t297))) else (none))) else (none)) else (none)) else (some (x284000, x284001, x284002))
end
def spec_l11Join.f (k : Nat) (l0 : List (S48)) (a1_0 : Bool) (l1_1 : List Int) (l1_2 : List Int) (a2_0 : Bool) (l2_1 : List Int) (l2_2 : List Int) : Option (Bool × List Int × List Int) := (spec_l11Copy.f a1_0 l1_1 l1_2).bind fun bt276 => (if (l1_2.length : Int) = (l2_2.length : Int) then (spec_l11Join.l0 k l0 0 a1_0 l1_1 l1_2 a2_0 l2_1 l2_2 bt276.1 bt276.2.1 bt276.2.2) else ((spec_l11None.f).bind fun bt284 => (some (bt284.1, bt284.2.1, bt284.2.2))))
end Go.Proofs.Ytchegijjjakmpaa.P

end
section

namespace Go.Proofs.Ytchegijjjakmpaa.P
open Go.RowKit Go.Proofs.YtchegijjjakmpaaW.PrintWords Go.Proofs.YtchegijjjakmpaaW.PrintLast Go.Proofs.YtchegijjjakmpaaW.PrintMore
attribute [local go_sem] max2_int min2_int max_two min_two max_three min_three max_four min_four
set_option linter.unusedVariables false
set_option linter.unusedSimpArgs false
def spec_l6Open.f (l0 : List Int) : Option (List Int × Int) := if (l0.length : Int) > 2000 then (if 2000 ≤ (l0.length : Int) then (some (l0.take 2000, 0)) else (none)) else (some (l0, 0))
end Go.Proofs.Ytchegijjjakmpaa.P

end
section

namespace Go.Proofs.Ytchegijjjakmpaa.P
open Go.RowKit Go.Proofs.YtchegijjjakmpaaW.PrintWords Go.Proofs.YtchegijjjakmpaaW.PrintLast Go.Proofs.YtchegijjjakmpaaW.PrintMore
attribute [local go_sem] max2_int min2_int max_two min_two max_three min_three max_four min_four
set_option linter.unusedVariables false
set_option linter.unusedSimpArgs false
def spec_l71Field.j0 : Nat → Int → Int → Bool → List Int → Int → Option (Int × Int)
  | 0, _, _, _, _, _ => none
  | k + 1, x1, x6, x7, x1000, x1001 => if x7 = true then (some (1, x1001)) else (if x6 = 2 then (some (3, x1001)) else (if x6 = 3 then (some (4, x1001)) else ((spec_l6Rd_pick.f k x1000 x1001 x1).bind fun bt109 => (some (wrap64 (8 + bt109.1), bt109.2)))))
def spec_l71Field.f (k : Nat) (s0_0 : List Int) (s0_1 : Int) (a1 : Int) : Option (Int × Int) := (spec_l6Rd_pick.f k s0_0 s0_1 6).bind fun bt107 => (if bt107.1 = 0 then (spec_l71Field.j0 k a1 bt107.1 (bt107.1 == 0) s0_0 bt107.2) else (spec_l71Field.j0 k a1 bt107.1 (bt107.1 == 1) s0_0 bt107.2))
end Go.Proofs.Ytchegijjjakmpaa.P

end
section

namespace Go.Proofs.Ytchegijjjakmpaa.P
open Go.RowKit Go.Proofs.YtchegijjjakmpaaW.PrintWords Go.Proofs.YtchegijjjakmpaaW.PrintLast Go.Proofs.YtchegijjjakmpaaW.PrintMore
attribute [local go_sem] max2_int min2_int max_two min_two max_three min_three max_four min_four
set_option linter.unusedVariables false
set_option linter.unusedSimpArgs false
def spec_l71Type.f (k : Nat) (s0_0 : List Int) (s0_1 : Int) (a1 : Int) : Option (Int × Int) := (spec_l6Rd_pick.f k s0_0 s0_1 8).bind fun bt139 => (if bt139.1 = 0 then (some (2, bt139.2)) else (if bt139.1 = 1 then (some (0, bt139.2)) else (if bt139.1 = 2 then ((spec_l6Rd_pick.f k s0_0 bt139.2 6).bind fun bt141 => (if bt141.1 = 0 then ((some (([(-1), 5, 7, wrap64 (8 + a1)] : List Int) : List Int)).bind fun y143 => ((spec_l6Rd_pick.f k s0_0 bt141.2 4).bind fun bt146 => (if 0 ≤ bt146.1 then (if bt146.1 < (y143.length : Int) then (some (rd y143 bt146.1, bt146.2)) else (none)) else (none)))) else ((spec_l71Field.f k s0_0 bt141.2 a1).bind fun bt149 => (some (bt149.1, bt149.2))))) else ((spec_l71Field.f k s0_0 bt139.2 a1).bind fun bt151 => (some (bt151.1, bt151.2))))))
end Go.Proofs.Ytchegijjjakmpaa.P

end
section

namespace Go.Proofs.Ytchegijjjakmpaa.P
open Go.RowKit Go.Proofs.YtchegijjjakmpaaW.PrintWords Go.Proofs.YtchegijjjakmpaaW.PrintLast Go.Proofs.YtchegijjjakmpaaW.PrintMore
attribute [local go_sem] max2_int min2_int max_two min_two max_three min_three max_four min_four
set_option linter.unusedVariables false
set_option linter.unusedSimpArgs false
mutual
def spec_l72Shape.l0 : Nat → Int → Int → Int → List Int → Int → Bool → List Int → Option (Bool × List Int × List Int × Int)
  | 0, _, _, _, _, _, _, _ => none
  | k + 1, x1, x2, x8, x1000, x1001, x155000, x155001 => if x8 < x2 then ((spec_l71Type.f k x1000 x1001 x1).bind fun bt155 => (if x155001.length < 17592186044416 then (spec_l72Shape.l0 k x1 x2 (wrap64 (x8 + 1)) x1000 bt155.2 x155000 (x155001 ++ [bt155.1])) else (none))) else ((spec_l6Rd_pick.f k x1000 x1001 4).bind fun bt160 => (spec_l72Shape.l1 k x1 bt160.1 x1000 bt160.2 x155000 x155001 ([] : List Int)))
def spec_l72Shape.l1 : Nat → Int → Int → List Int → Int → Bool → List Int → List Int → Option (Bool × List Int × List Int × Int)
  | 0, _, _, _, _, _, _, _ => none
  | k + 1, x1, x9, x1000, x1001, x155000, x155001, x155002 => if x9 > 0 then ((spec_l71Type.f k x1000 x1001 x1).bind fun bt162 => (if bt162.1 = 0 then ((spec_l6Rd_pick.f k x1000 bt162.2 8).bind fun bt164 => (if bt164.1 > 0 then (if x155002.length < 17592186044416 then (spec_l72Shape.l1 k x1 (wrap64 (x9 - 1)) x1000 bt164.2 x155000 x155001 (x155002 ++ [1])) else (none)) else (if x155002.length < 17592186044416 then (spec_l72Shape.l1 k x1 (wrap64 (x9 - 1)) x1000 bt164.2 x155000 x155001 (x155002 ++ [bt162.1])) else (none)))) else (if x155002.length < 17592186044416 then (spec_l72Shape.l1 k x1 (wrap64 (x9 - 1)) x1000 bt162.2 x155000 x155001 (x155002 ++ [bt162.1])) else (none)))) else ((spec_l6Rd_pick.f k x1000 x1001 30).bind fun bt175 => (if bt175.1 = 0 then ((spec_l11None.f).bind fun bt177 => (some (bt177.1, bt177.2.1, bt177.2.2, bt175.2))) else (if bt175.1 = 1 then (some (false, x155001, x155002, bt175.2)) else (if bt175.1 = 2 then (if x155001.length < 17592186044416 then (some (x155000, (x155001 ++ [1]), x155002, bt175.2)) else (none)) else (if bt175.1 = 3 then ((some (([1, 1, 1, 1] : List Int) : List Int)).bind fun y187 => (if x155002.length + y187.length < 17592186044416 then (some (x155000, x155001, (x155002 ++ y187), bt175.2)) else (none))) else (some (x155000, x155001, x155002, bt175.2)))))))
end
def spec_l72Shape.f (k : Nat) (s0_0 : List Int) (s0_1 : Int) (a1 : Int) (a2 : Int) : Option (Bool × List Int × List Int × Int) := spec_l72Shape.l0 k a1 a2 0 s0_0 s0_1 true ([] : List Int)
end Go.Proofs.Ytchegijjjakmpaa.P

end
section

namespace Go.Proofs.Ytchegijjjakmpaa.P
open Go.RowKit Go.Proofs.YtchegijjjakmpaaW.PrintWords Go.Proofs.YtchegijjjakmpaaW.PrintLast Go.Proofs.YtchegijjjakmpaaW.PrintMore
attribute [local go_sem] max2_int min2_int max_two min_two max_three min_three max_four min_four
set_option linter.unusedVariables false
set_option linter.unusedSimpArgs false
mutual
def spec_l71Classes.l0 : Nat → Int → List (S48) → Int → List Int → Int → Option ((List (S48)) × Int)
  | 0, _, _, _, _, _ => none
  | k + 1, x3, x4, x5, x1000, x1001 => if x5 < x3 then ((spec_l6Rd_pick.f k x1000 x1001 x5).bind fun bt119 => ((spec_l6Rd_pick.f k x1000 bt119.2 3).bind fun bt122 => (spec_l71Classes.l1 k x3 x4 x5 bt122.1 x1000 bt122.2 bt119.1 ([] : List Int)))) else (some (x4, x1001))
def spec_l71Classes.l1 : Nat → Int → List (S48) → Int → Int → List Int → Int → Int → List Int → Option ((List (S48)) × Int)
  | 0, _, _, _, _, _, _, _, _ => none
  | k + 1, x3, x4, x5, x7, x1000, x1001, x122000, x122001 => if x7 > 0 then ((spec_l71Field.f k x1000 x1001 x3).bind fun bt124 => (if x122001.length < 17592186044416 then (spec_l71Classes.l1 k x3 x4 x5 (wrap64 (x7 - 1)) x1000 bt124.2 x122000 (x122001 ++ [bt124.1])) else (none))) else (if x4.length < 4398046511104 then (spec_l71Classes.l0 k x3 (x4 ++ [(⟨x122000, x122001⟩ : S48)]) (wrap64 (x5 + 1)) x1000 x1001) else (none))
end
def spec_l71Classes.f (k : Nat) (s0_0 : List Int) (s0_1 : Int) : Option ((List (S48)) × Int) := (spec_l6Rd_pick.f k s0_0 s0_1 4).bind fun bt111 => (spec_l71Classes.l0 k (wrap64 (2 + bt111.1)) (([(⟨(-1), ([] : List Int)⟩ : S48), (⟨0, (([1] : List Int))⟩ : S48)] : List (S48))) 2 s0_0 bt111.2)
end Go.Proofs.Ytchegijjjakmpaa.P

end
section

namespace Go.Proofs.Ytchegijjjakmpaa.P
open Go.RowKit Go.Proofs.YtchegijjjakmpaaW.PrintWords Go.Proofs.YtchegijjjakmpaaW.PrintLast Go.Proofs.YtchegijjjakmpaaW.PrintMore
attribute [local go_sem] max2_int min2_int max_two min_two max_three min_three max_four min_four
set_option linter.unusedVariables false
set_option linter.unusedSimpArgs false
def spec_l71OffA.f (k : Nat) (s0_0 : List Int) (s0_1 : Int) : Option ((List (S48)) × Int) := (spec_l71Classes.f k s0_0 s0_1).bind fun bt132 => ((spec_l6Rd_pick.f k s0_0 bt132.2 20).bind fun bt136 => (if bt136.1 > 0 then (some (bt132.1, bt136.2)) else ((spec_l6Rd_pick.f k s0_0 bt136.2 (bt132.1.length : Int)).bind fun bt138 => ((spec_l6Rd_pick.f k s0_0 bt138.2 6).bind fun bt140 => (if bt140.1 = 0 then ((spec_l6Rd_pick.f k s0_0 bt140.2 7).bind fun bt142 => (if 0 ≤ bt138.1 then (if bt138.1 < (bt132.1.length : Int) then (some ((bt132.1.set (bt138.1 : Int).toNat (⟨wrap64 (bt142.1 - 1), (rd_T48 bt132.1 bt138.1).f1⟩ : S48)), bt142.2)) else (none)) else (none))) else (if bt140.1 = 1 then (if 0 ≤ bt138.1 then (if bt138.1 < (bt132.1.length : Int) then ((some (([0, 2, 13, 5] : List Int) : List Int)).bind fun y146 => ((spec_l6Rd_pick.f k s0_0 bt140.2 4).bind fun bt149 => (if 0 ≤ bt149.1 then (if bt149.1 < (y146.length : Int) then (if ((rd_T48 bt132.1 bt138.1).f1).length < 17592186044416 then (some ((bt132.1.set (bt138.1 : Int).toNat (⟨(rd_T48 bt132.1 bt138.1).f0, (((rd_T48 bt132.1 bt138.1).f1) ++ [rd y146 bt149.1])⟩ : S48)), bt149.2)) else (none)) else (none)) else (none)))) else (none)) else (none)) else (if bt140.1 = 2 then (if 1 ≤ (bt132.1.length : Int) then (some ((bt132.1.take (1 : Int).toNat), bt140.2)) else (none)) else (if bt140.1 = 3 then (if 1 < (bt132.1.length : Int) then (none) else (none)) else (if bt140.1 = 4 then (if 0 ≤ bt138.1 then (if bt138.1 < (bt132.1.length : Int) then (some ((bt132.1.set (bt138.1 : Int).toNat (⟨(rd_T48 bt132.1 bt138.1).f0, (([1, 1, 1] : List Int))⟩ : S48)), bt140.2)) else (none)) else (none)) else (if 0 ≤ bt138.1 then (if bt138.1 < (bt132.1.length : Int) then (some ((bt132.1.set (bt138.1 : Int).toNat (⟨(rd_T48 bt132.1 bt138.1).f0, ([] : List Int)⟩ : S48)), bt140.2)) else (none)) else (none)))))))))))
end Go.Proofs.Ytchegijjjakmpaa.P

end
section

namespace Go.Proofs.Ytchegijjjakmpaa.P
open Go.RowKit Go.Proofs.YtchegijjjakmpaaW.PrintWords Go.Proofs.YtchegijjjakmpaaW.PrintLast Go.Proofs.YtchegijjjakmpaaW.PrintMore
attribute [local go_sem] max2_int min2_int max_two min_two max_three min_three max_four min_four
set_option linter.unusedVariables false
set_option linter.unusedSimpArgs false
def spec_l71OffB.f (k : Nat) (s0_0 : List Int) (s0_1 : Int) : Option ((List (S48)) × Int) := (spec_l71Classes.f k s0_0 s0_1).bind fun bt132 => ((spec_l6Rd_pick.f k s0_0 bt132.2 20).bind fun bt136 => (if bt136.1 > 0 then (some (bt132.1, bt136.2)) else ((spec_l6Rd_pick.f k s0_0 bt136.2 (bt132.1.length : Int)).bind fun bt138 => ((spec_l6Rd_pick.f k s0_0 bt138.2 6).bind fun bt140 => (if bt140.1 = 0 then ((spec_l6Rd_pick.f k s0_0 bt140.2 7).bind fun bt142 => (if 0 ≤ bt138.1 then (if bt138.1 < (bt132.1.length : Int) then (some ((bt132.1.set (bt138.1 : Int).toNat (⟨wrap64 (bt142.1 - 1), (rd_T48 bt132.1 bt138.1).f1⟩ : S48)), bt142.2)) else (none)) else (none))) else (if bt140.1 = 1 then (if 0 ≤ bt138.1 then (if bt138.1 < (bt132.1.length : Int) then (none) else (none)) else (none)) else (if bt140.1 = 2 then (if 1 ≤ (bt132.1.length : Int) then (some ((bt132.1.take (1 : Int).toNat), bt140.2)) else (none)) else (if bt140.1 = 3 then (if 1 < (bt132.1.length : Int) then ((some (([(⟨(rd_T48 bt132.1 1).f0, (rd_T48 bt132.1 1).f1⟩ : S48), (⟨(rd_T48 bt132.1 1).f0, (rd_T48 bt132.1 1).f1⟩ : S48), (⟨(rd_T48 bt132.1 1).f0, (rd_T48 bt132.1 1).f1⟩ : S48), (⟨(rd_T48 bt132.1 1).f0, (rd_T48 bt132.1 1).f1⟩ : S48)] : List (S48)) : List (S48))).bind fun y153 => (if bt132.1.length + y153.length < 4398046511104 then (some ((bt132.1 ++ y153), bt140.2)) else (none))) else (none)) else (if bt140.1 = 4 then (none) else (if 0 ≤ bt138.1 then (if bt138.1 < (bt132.1.length : Int) then (some ((bt132.1.set (bt138.1 : Int).toNat (⟨(rd_T48 bt132.1 bt138.1).f0, ([] : List Int)⟩ : S48)), bt140.2)) else (none)) else (none)))))))))))
end Go.Proofs.Ytchegijjjakmpaa.P

end
section

namespace Go.Proofs.Ytchegijjjakmpaa.P
open Go.RowKit Go.Proofs.YtchegijjjakmpaaW.PrintWords Go.Proofs.YtchegijjjakmpaaW.PrintLast Go.Proofs.YtchegijjjakmpaaW.PrintMore
attribute [local go_sem] max2_int min2_int max_two min_two max_three min_three max_four min_four
set_option linter.unusedVariables false
set_option linter.unusedSimpArgs false
def spec_l71Off.f (k : Nat) (s0_0 : List Int) (s0_1 : Int) : Option ((List (S48)) × Int) := (spec_l71Classes.f k s0_0 s0_1).bind fun bt132 => ((spec_l6Rd_pick.f k s0_0 bt132.2 20).bind fun bt136 => (if bt136.1 > 0 then (some (bt132.1, bt136.2)) else ((spec_l6Rd_pick.f k s0_0 bt136.2 (bt132.1.length : Int)).bind fun bt138 => ((spec_l6Rd_pick.f k s0_0 bt138.2 6).bind fun bt140 => (if bt140.1 = 0 then ((spec_l6Rd_pick.f k s0_0 bt140.2 7).bind fun bt142 => (if 0 ≤ bt138.1 then (if bt138.1 < (bt132.1.length : Int) then (some ((bt132.1.set (bt138.1 : Int).toNat (⟨wrap64 (bt142.1 - 1), (rd_T48 bt132.1 bt138.1).f1⟩ : S48)), bt142.2)) else (none)) else (none))) else (if bt140.1 = 1 then (if 0 ≤ bt138.1 then (if bt138.1 < (bt132.1.length : Int) then ((some (([0, 2, 13, 5] : List Int) : List Int)).bind fun y146 => ((spec_l6Rd_pick.f k s0_0 bt140.2 4).bind fun bt149 => (if 0 ≤ bt149.1 then (if bt149.1 < (y146.length : Int) then (if ((rd_T48 bt132.1 bt138.1).f1).length < 17592186044416 then (some ((bt132.1.set (bt138.1 : Int).toNat (⟨(rd_T48 bt132.1 bt138.1).f0, (((rd_T48 bt132.1 bt138.1).f1) ++ [rd y146 bt149.1])⟩ : S48)), bt149.2)) else (none)) else (none)) else (none)))) else (none)) else (none)) else (if bt140.1 = 2 then (if 1 ≤ (bt132.1.length : Int) then (some ((bt132.1.take (1 : Int).toNat), bt140.2)) else (none)) else (if bt140.1 = 3 then (if 1 < (bt132.1.length : Int) then ((some (([(⟨(rd_T48 bt132.1 1).f0, (rd_T48 bt132.1 1).f1⟩ : S48), (⟨(rd_T48 bt132.1 1).f0, (rd_T48 bt132.1 1).f1⟩ : S48), (⟨(rd_T48 bt132.1 1).f0, (rd_T48 bt132.1 1).f1⟩ : S48), (⟨(rd_T48 bt132.1 1).f0, (rd_T48 bt132.1 1).f1⟩ : S48)] : List (S48)) : List (S48))).bind fun y153 => (if bt132.1.length + y153.length < 4398046511104 then (some ((bt132.1 ++ y153), bt140.2)) else (none))) else (none)) else (if bt140.1 = 4 then (if 0 ≤ bt138.1 then (if bt138.1 < (bt132.1.length : Int) then (some ((bt132.1.set (bt138.1 : Int).toNat (⟨(rd_T48 bt132.1 bt138.1).f0, (([1, 1, 1] : List Int))⟩ : S48)), bt140.2)) else (none)) else (none)) else (if 0 ≤ bt138.1 then (if bt138.1 < (bt132.1.length : Int) then (some ((bt132.1.set (bt138.1 : Int).toNat (⟨(rd_T48 bt132.1 bt138.1).f0, ([] : List Int)⟩ : S48)), bt140.2)) else (none)) else (none)))))))))))
theorem spec_l71Off.or (k : Nat) (s0 : List Int) (s1 : Int) (r : (List (S48)) × Int) (h : spec_l71Off.f k s0 s1 = some r) : spec_l71OffA.f k s0 s1 = some r ∨ spec_l71OffB.f k s0 s1 = some r := by
  unfold spec_l71Off.f at h
  unfold spec_l71OffA.f spec_l71OffB.f
  cases h0 : spec_l71Classes.f k s0 s1 with
  | none => rw [h0] at h; exact absurd h (by simp)
  | some b0 =>
    rw [h0] at h
    simp only [Option.bind_some] at h ⊢
    cases h1 : spec_l6Rd_pick.f k s0 b0.2 20 with
    | none => rw [h1] at h; exact absurd h (by simp)
    | some b1 =>
      rw [h1] at h
      simp only [Option.bind_some] at h ⊢
      by_cases c1 : b1.1 > 0
      · rw [if_pos c1] at h
        rw [if_pos c1]
        exact .inl h
      · rw [if_neg c1] at h
        rw [if_neg c1, if_neg c1]
        cases h2 : spec_l6Rd_pick.f k s0 b1.2 (b0.1.length : Int) with
        | none => rw [h2] at h; exact absurd h (by simp)
        | some b2 =>
          rw [h2] at h
          simp only [Option.bind_some] at h ⊢
          cases h3 : spec_l6Rd_pick.f k s0 b2.2 6 with
          | none => rw [h3] at h; exact absurd h (by simp)
          | some b3 =>
            rw [h3] at h
            simp only [Option.bind_some] at h ⊢
            by_cases c3 : b3.1 = 3
            · refine .inr ?_
              rw [if_neg (by omega), if_neg (by omega), if_neg (by omega), if_pos c3] at h ⊢
              exact h
            · refine .inl ?_
              rw [if_neg c3] at h ⊢
              exact h
end Go.Proofs.Ytchegijjjakmpaa.P

end
section

namespace Go.Proofs.Ytchegijjjakmpaa.P
open Go.RowKit Go.Proofs.YtchegijjjakmpaaW.PrintWords Go.Proofs.YtchegijjjakmpaaW.PrintLast Go.Proofs.YtchegijjjakmpaaW.PrintMore
attribute [local go_sem] max2_int min2_int max_two min_two max_three min_three max_four min_four
set_option linter.unusedVariables false
set_option linter.unusedSimpArgs false
mutual
def spec_l72Two.l0 : Nat → List (S48) → List Int → Int → Bool → List Int → List Int → Bool → List Int → List Int → Option ((List (S48)) × Bool × List Int × List Int × Bool × List Int × List Int × Int)
  | 0, _, _, _, _, _, _, _, _, _ => none
  | k + 1, x5, x1000, x1001, x210000, x210001, x210002, x219000, x219001, x219002 => if (x219002.length : Int) > (x210002.length : Int) then (if 1 ≤ (x219002.length : Int) then (spec_l72Two.l0 k x5 x1000 x1001 x210000 x210001 x210002 x219000 x219001 (x219002.drop (1 : Int).toNat)) else (none)) else (spec_l72Two.l1 k x5 0 x1000 x1001 x210000 x210001 x210002 x219000 x219001 x219002)
def spec_l72Two.l1 : Nat → List (S48) → Int → List Int → Int → Bool → List Int → List Int → Bool → List Int → List Int → Option ((List (S48)) × Bool × List Int × List Int × Bool × List Int × List Int × Int)
  | 0, _, _, _, _, _, _, _, _, _, _ => none
  | k + 1, x5, x9, x1000, x1001, x210000, x210001, x210002, x219000, x219001, x219002 => if x9 < (x219001.length : Int) then (spec_l72Two.j2 k x5 x9 (decide (x9 < (x210001.length : Int))) x1000 x1001 x210000 x210001 x210002 x219000 x219001 x219002) else (spec_l72Two.j2 k x5 x9 false x1000 x1001 x210000 x210001 x210002 x219000 x219001 x219002)
def spec_l72Two.j2 : Nat → List (S48) → Int → Bool → List Int → Int → Bool → List Int → List Int → Bool → List Int → List Int → Option ((List (S48)) × Bool × List Int × List Int × Bool × List Int × List Int × Int)
  | 0, _, _, _, _, _, _, _, _, _, _, _ => none
  | k + 1, x5, x9, x46, x1000, x1001, x210000, x210001, x210002, x219000, x219001, x219002 => if x46 = true then ((spec_l6Rd_pick.f k x1000 x1001 3).bind fun bt222 => (if bt222.1 = 0 then (if 0 ≤ x9 then (if x9 < (x210001.length : Int) then (if x9 < (x219001.length : Int) then (spec_l72Two.l1 k x5 (wrap64 (x9 + 1)) x1000 bt222.2 x210000 x210001 x210002 x219000 (x219001.set (x9 : Int).toNat (rd x210001 x9)) x219002) else (none)) else (none)) else (none)) else (spec_l72Two.l1 k x5 (wrap64 (x9 + 1)) x1000 bt222.2 x210000 x210001 x210002 x219000 x219001 x219002))) else (some (x5, x210000, x210001, x210002, x219000, x219001, x219002, x1001))
end
def spec_l72Two.f (k : Nat) (s0_0 : List Int) (s0_1 : Int) : Option ((List (S48)) × Bool × List Int × List Int × Bool × List Int × List Int × Int) := (spec_l71Off.f k s0_0 s0_1).bind fun bt195 => ((spec_l6Rd_pick.f k s0_0 bt195.2 4).bind fun bt199 => ((spec_l72Shape.f k s0_0 bt199.2 (bt195.1.length : Int) bt199.1).bind fun bt201 => ((spec_l72Shape.f k s0_0 bt201.2.2.2 (bt195.1.length : Int) bt199.1).bind fun bt210 => (spec_l72Two.l0 k bt195.1 s0_0 bt210.2.2.2 bt201.1 bt201.2.1 bt201.2.2.1 bt210.1 bt210.2.1 bt210.2.2.1))))
end Go.Proofs.Ytchegijjjakmpaa.P

end
section

namespace Go.Proofs.Ytchegijjjakmpaa.P
open Go.RowKit Go.Proofs.YtchegijjjakmpaaW.PrintWords Go.Proofs.YtchegijjjakmpaaW.PrintLast Go.Proofs.YtchegijjjakmpaaW.PrintMore
attribute [local go_sem] max2_int min2_int max_two min_two max_three min_three max_four min_four
set_option linter.unusedVariables false
set_option linter.unusedSimpArgs false
def spec_DrawShapeIn.j0 : Nat → List (S48) → Bool → Bool → List Int → List Int → Bool → List Int → List Int → Option ((List (S48)) × Bool × List Int × List Int × Bool × List Int × List Int)
  | 0, _, _, _, _, _, _, _, _ => none
  | k + 1, x6, x26, x331000, x331001, x331002, x332000, x332001, x332002 => if x26 = true then ((spec_l11Join.f k x6 x331000 x331001 x331002 x332000 x332001 x332002).bind fun bt335 => (if bt335.1 = true then (some (x6, x331000, x331001, x331002, bt335.1, bt335.2.1, bt335.2.2)) else (some (x6, x331000, x331001, x331002, x332000, x332001, x332002)))) else (some (x6, x331000, x331001, x331002, x332000, x332001, x332002))
def spec_DrawShapeIn.f (k : Nat) (l0 : List Int) : Option ((List (S48)) × Bool × List Int × List Int × Bool × List Int × List Int) := (spec_l6Open.f l0).bind fun bt309 => ((spec_l72Two.f k bt309.1 bt309.2).bind fun bt312 => ((spec_l6Rd_pick.f k bt309.1 bt312.2.2.2.2.2.2.2 5).bind fun bt332 => (if bt332.1 > 0 then ((spec_l11Fits.f k bt312.1 bt312.2.1 bt312.2.2.1 bt312.2.2.2.1 bt312.2.2.2.2.1 bt312.2.2.2.2.2.1 bt312.2.2.2.2.2.2.1).bind fun t334 => (spec_DrawShapeIn.j0 k bt312.1 t334 bt312.2.1 bt312.2.2.1 bt312.2.2.2.1 bt312.2.2.2.2.1 bt312.2.2.2.2.2.1 bt312.2.2.2.2.2.2.1)) else (spec_DrawShapeIn.j0 k bt312.1 false bt312.2.1 bt312.2.2.1 bt312.2.2.2.1 bt312.2.2.2.2.1 bt312.2.2.2.2.2.1 bt312.2.2.2.2.2.2.1))))
end Go.Proofs.Ytchegijjjakmpaa.P

end
section

namespace Go.Proofs.Ytchegijjjakmpaa.P
open Go Go.RowKit Go.Proofs.YtchegijjjakmpaaW.PrintWords
def kindW (r : Int) : Value :=
  if r = -1 then .nilIface else if r = 0 then .iface 65 (.agg #[]) else if r = 1 then .iface 58 (.agg #[]) else if r = 2 then .iface 66 (.agg #[])
  else if r = 3 then .iface 60 (.agg #[.bool false]) else if r = 4 then .iface 60 (.agg #[.bool true]) else .iface 62 (.agg #[.int .i64 (r - 8)])
def impl_kindOf.f (c t : Int) : Option Int :=
  if 0 ≤ c ∧ c ≤ 1000000000 ∧ -9223372036854775808 ≤ t ∧ t ≤ 9223372036854775807 then
    (if t = 0 then some 0 else if t = 1 then some 1 else if t = 2 then some 2 else if t = 3 then some 3 else if t = 4 then some 4 else if 8 ≤ t ∧ t < 8 + c then some t else some (-1)) else none
def impl_fieldType.f (c t : Int) : Option Bool := (impl_kindOf.f c t).bind fun r => some (decide (r = 1 ∨ r = 3 ∨ r = 4 ∨ 8 ≤ r))
end Go.Proofs.Ytchegijjjakmpaa.P

end
section

namespace Go.Proofs.Ytchegijjjakmpaa.P
open Go.RowKit Go.Proofs.YtchegijjjakmpaaW.PrintWords Go.Proofs.YtchegijjjakmpaaW.PrintLast Go.Proofs.YtchegijjjakmpaaW.PrintMore
attribute [local go_sem] max2_int min2_int max_two min_two max_three min_three max_four min_four
set_option linter.unusedVariables false
set_option linter.unusedSimpArgs false
mutual
def impl_ClassesOk.j0 : Nat → List (S48) → Bool → Option (Bool)
  | 0, _, _ => none
  | k + 1, x0, x15 => if x15 = true then (some false) else (if 0 < (x0.length : Int) then (if ((rd_T48 x0 0).f0) = (-1) then (impl_ClassesOk.j1 k x0 ((((rd_T48 x0 0).f1).length : Int) != 0)) else (impl_ClassesOk.j1 k x0 true)) else (none))
def impl_ClassesOk.j1 : Nat → List (S48) → Bool → Option (Bool)
  | 0, _, _ => none
  | k + 1, x0, x28 => if x28 = true then (some false) else (if 1 < (x0.length : Int) then (if ((rd_T48 x0 1).f0) = 0 then (if (((rd_T48 x0 1).f1).length : Int) = 1 then (if 0 < (((rd_T48 x0 1).f1).length : Int) then (impl_ClassesOk.j2 k x0 ((rd ((rd_T48 x0 1).f1) 0) != 1)) else (none)) else (impl_ClassesOk.j2 k x0 true)) else (impl_ClassesOk.j2 k x0 true)) else (none))
def impl_ClassesOk.j2 : Nat → List (S48) → Bool → Option (Bool)
  | 0, _, _ => none
  | k + 1, x0, x47 => if x47 = true then (some false) else (impl_ClassesOk.l0 k x0 x0 (x0.length : Int) 0)
def impl_ClassesOk.l0 : Nat → List (S48) → List (S48) → Int → Int → Option (Bool)
  | 0, _, _, _, _ => none
  | k + 1, x0, x48, x49, x50 => if x50 < x49 then (if 0 ≤ x50 then (if x50 < (x48.length : Int) then (if x50 > 1 then (if ((rd_T48 x48 x50).f0) < 0 then (impl_ClassesOk.j4 k x0 x48 x49 x50 true ((rd_T48 x48 x50).f0) ((rd_T48 x48 x50).f1)) else (impl_ClassesOk.j4 k x0 x48 x49 x50 (decide (((rd_T48 x48 x50).f0) ≥ x50)) ((rd_T48 x48 x50).f0) ((rd_T48 x48 x50).f1))) else (impl_ClassesOk.j4 k x0 x48 x49 x50 false ((rd_T48 x48 x50).f0) ((rd_T48 x48 x50).f1))) else (none)) else (none)) else (some true)
def impl_ClassesOk.j4 : Nat → List (S48) → List (S48) → Int → Int → Bool → Int → List Int → Option (Bool)
  | 0, _, _, _, _, _, _, _ => none
  | k + 1, x0, x48, x49, x50, x67, x350000, x350001 => if x67 = true then (some false) else (if (x350001.length : Int) > 2 then (some false) else (impl_ClassesOk.l1 k x0 x48 x49 x50 x350001 (x350001.length : Int) 0))
def impl_ClassesOk.l1 : Nat → List (S48) → List (S48) → Int → Int → List Int → Int → Int → Option (Bool)
  | 0, _, _, _, _, _, _, _ => none
  | k + 1, x0, x48, x49, x50, x73, x74, x75 => if x75 < x74 then (if 0 ≤ x75 then (if x75 < (x73.length : Int) then ((impl_fieldType.f (x0.length : Int) (rd x73 x75)).bind fun t351 => (if t351 = true then (impl_ClassesOk.l1 k x0 x48 x49 x50 x73 x74 (wrap64 (x75 + 1))) else (some false))) else (none)) else (none)) else (impl_ClassesOk.l0 k x0 x48 x49 (wrap64 (x50 + 1)))
end
def impl_ClassesOk.f (k : Nat) (l0 : List (S48)) : Option (Bool) := if (l0.length : Int) < 2 then (impl_ClassesOk.j0 k l0 true) else (impl_ClassesOk.j0 k l0 (decide ((l0.length : Int) > 5)))
end Go.Proofs.Ytchegijjjakmpaa.P

end
section

namespace Go.Proofs.Ytchegijjjakmpaa.P
open Go.RowKit Go.Proofs.YtchegijjjakmpaaW.PrintWords Go.Proofs.YtchegijjjakmpaaW.PrintLast Go.Proofs.YtchegijjjakmpaaW.PrintMore
attribute [local go_sem] max2_int min2_int max_two min_two max_three min_three max_four min_four
set_option linter.unusedVariables false
set_option linter.unusedSimpArgs false
mutual
def impl_shapeOk.j0 : Nat → List (S48) → Bool → Bool → List Int → List Int → Option (Bool)
  | 0, _, _, _, _, _ => none
  | k + 1, x0, x34, x353000, x353001, x353002 => if x34 = true then (some false) else (impl_shapeOk.l0 k x0 x353001 (x353001.length : Int) 0 x353000 x353001 x353002)
def impl_shapeOk.l0 : Nat → List (S48) → List Int → Int → Int → Bool → List Int → List Int → Option (Bool)
  | 0, _, _, _, _, _, _, _ => none
  | k + 1, x0, x36, x37, x38, x353000, x353001, x353002 => if x38 < x37 then (if 0 ≤ x38 then (if x38 < (x36.length : Int) then ((impl_kindOf.f (x0.length : Int) (rd x36 x38)).bind fun t354 => (if t354 = (-1) then (some false) else (impl_shapeOk.l0 k x0 x36 x37 (wrap64 (x38 + 1)) x353000 x353001 x353002))) else (none)) else (none)) else (impl_shapeOk.l1 k x0 x353002 (x353002.length : Int) 0)
def impl_shapeOk.l1 : Nat → List (S48) → List Int → Int → Int → Option (Bool)
  | 0, _, _, _, _ => none
  | k + 1, x0, x49, x50, x51 => if x51 < x50 then (if 0 ≤ x51 then (if x51 < (x49.length : Int) then (if (rd x49 x51) = 0 then (some false) else ((impl_kindOf.f (x0.length : Int) (rd x49 x51)).bind fun t356 => (if t356 = (-1) then (some false) else (impl_shapeOk.l1 k x0 x49 x50 (wrap64 (x51 + 1)))))) else (none)) else (none)) else (some true)
end
def impl_shapeOk.f (k : Nat) (l0 : List (S48)) (a1 : Int) (a2_0 : Bool) (l2_1 : List Int) (l2_2 : List Int) : Option (Bool) := if a2_0 = true then (if (l2_1.length : Int) = a1 then (impl_shapeOk.j0 k l0 (decide ((l2_2.length : Int) > 4)) a2_0 l2_1 l2_2) else (impl_shapeOk.j0 k l0 true a2_0 l2_1 l2_2)) else (if (l2_1.length : Int) = 0 then (some ((l2_2.length : Int) == 0)) else (some false))
end Go.Proofs.Ytchegijjjakmpaa.P

end
section

namespace Go.Proofs.Ytchegijjjakmpaa.P
open Go.RowKit Go.Proofs.YtchegijjjakmpaaW.PrintWords Go.Proofs.YtchegijjjakmpaaW.PrintLast Go.Proofs.YtchegijjjakmpaaW.PrintMore
attribute [local go_sem] max2_int min2_int max_two min_two max_three min_three max_four min_four
set_option linter.unusedVariables false
set_option linter.unusedSimpArgs false
def impl_shapeFit.f (k : Nat) (l0 : List (S48)) (a1_0 : Bool) (l1_1 : List Int) (l1_2 : List Int) (a2_0 : Bool) (l2_1 : List Int) (l2_2 : List Int) : Option (Bool) := if a1_0 = true then (if a2_0 = true then (if (l1_1.length : Int) = (l2_1.length : Int) then (if (l1_2.length : Int) = (l2_2.length : Int) then ((impl_shapeOk.f k l0 (l1_1.length : Int) a1_0 l1_1 l1_2).bind fun t359 => (if t359 = true then ((impl_shapeOk.f k l0 (l2_1.length : Int) a2_0 l2_1 l2_2).bind fun t360 => (some t360)) else (some false))) else (some false)) else (some false)) else (some false)) else (some false)
end Go.Proofs.Ytchegijjjakmpaa.P

end
section

namespace Go.Proofs.Ytchegijjjakmpaa.P
open Go.RowKit Go.Proofs.YtchegijjjakmpaaW.PrintWords Go.Proofs.YtchegijjjakmpaaW.PrintLast Go.Proofs.YtchegijjjakmpaaW.PrintMore
attribute [local go_sem] max2_int min2_int max_two min_two max_three min_three max_four min_four
set_option linter.unusedVariables false
set_option linter.unusedSimpArgs false
def impl_classUp.l0 : Nat → List (S48) → Int → Int → Option (Bool)
  | 0, _, _, _ => none
  | k + 1, x0, x2, x7 => if x7 ≥ 0 then (if x7 = x2 then (some true) else (if 0 ≤ x7 then (if x7 < (x0.length : Int) then (impl_classUp.l0 k x0 x2 ((rd_T48 x0 x7).f0)) else (none)) else (none))) else (some false)
def impl_classUp.f (k : Nat) (l0 : List (S48)) (a1 : Int) (a2 : Int) : Option (Bool) := impl_classUp.l0 k l0 a2 a1
end Go.Proofs.Ytchegijjjakmpaa.P

end
section

namespace Go.Proofs.Ytchegijjjakmpaa.P
open Go Go.RowKit Go.Proofs.YtchegijjjakmpaaW.PrintWords
def KindOk (r : Int) : Prop := (0 ≤ r ∧ r ≤ 4) ∨ (8 ≤ r ∧ r ≤ 2000000000)
instance (r : Int) : Decidable (KindOk r) := by unfold KindOk; infer_instance
def impl_kindIn.f (k : Nat) (l0 : List S48) (a b : Int) : Option Bool :=
  if KindOk a ∧ KindOk b then
    (if a = b then some true else if b = 0 then some true else if a = 2 then some (b != 1) else if a = 3 ∨ a = 4 then some (b == 8) else if 8 ≤ a then (if 8 ≤ b then impl_classUp.f k l0 (a - 8) (b - 8) else some false) else some false)
  else none
end Go.Proofs.Ytchegijjjakmpaa.P

end
section

namespace Go.Proofs.Ytchegijjjakmpaa.P
open Go.RowKit Go.Proofs.YtchegijjjakmpaaW.PrintWords Go.Proofs.YtchegijjjakmpaaW.PrintLast Go.Proofs.YtchegijjjakmpaaW.PrintMore
attribute [local go_sem] max2_int min2_int max_two min_two max_three min_three max_four min_four
set_option linter.unusedVariables false
set_option linter.unusedSimpArgs false
def impl_typeIn.f (k : Nat) (l0 : List (S48)) (a1 : Int) (a2 : Int) : Option (Bool) := (impl_kindOf.f (l0.length : Int) a1).bind fun t362 => ((impl_kindOf.f (l0.length : Int) a2).bind fun t363 => (if t362 = (-1) then (some false) else (if t363 = (-1) then (some false) else ((impl_kindIn.f k l0 t362 t363).bind fun t364 => (some t364)))))
end Go.Proofs.Ytchegijjjakmpaa.P

end
section

namespace Go.Proofs.Ytchegijjjakmpaa.P
open Go.RowKit Go.Proofs.YtchegijjjakmpaaW.PrintWords Go.Proofs.YtchegijjjakmpaaW.PrintLast Go.Proofs.YtchegijjjakmpaaW.PrintMore
attribute [local go_sem] max2_int min2_int max_two min_two max_three min_three max_four min_four
set_option linter.unusedVariables false
set_option linter.unusedSimpArgs false
mutual
def impl_shapeIn.l0 : Nat → List (S48) → List Int → Int → Int → Bool → List Int → List Int → Bool → List Int → List Int → Option (Bool)
  | 0, _, _, _, _, _, _, _, _, _, _ => none
  | k + 1, x0, x17, x18, x19, x366000, x366001, x366002, x367000, x367001, x367002 => if x19 < x18 then (if 0 ≤ x19 then (if x19 < (x17.length : Int) then (if x19 < (x367001.length : Int) then ((impl_typeIn.f k x0 (rd x17 x19) (rd x367001 x19)).bind fun t370 => (if t370 = true then (impl_shapeIn.l0 k x0 x17 x18 (wrap64 (x19 + 1)) x366000 x366001 x366002 x367000 x367001 x367002) else (some false))) else (none)) else (none)) else (none)) else (impl_shapeIn.l1 k x0 x366002 (x366002.length : Int) 0 x367000 x367001 x367002)
def impl_shapeIn.l1 : Nat → List (S48) → List Int → Int → Int → Bool → List Int → List Int → Option (Bool)
  | 0, _, _, _, _, _, _, _ => none
  | k + 1, x0, x35, x36, x37, x367000, x367001, x367002 => if x37 < x36 then (if 0 ≤ x37 then (if x37 < (x35.length : Int) then (if x37 < (x367002.length : Int) then ((impl_typeIn.f k x0 (rd x35 x37) (rd x367002 x37)).bind fun t373 => (if t373 = true then (impl_shapeIn.l1 k x0 x35 x36 (wrap64 (x37 + 1)) x367000 x367001 x367002) else (some false))) else (none)) else (none)) else (none)) else (some true)
end
def impl_shapeIn.f (k : Nat) (l0 : List (S48)) (a1_0 : Bool) (l1_1 : List Int) (l1_2 : List Int) (a2_0 : Bool) (l2_1 : List Int) (l2_2 : List Int) : Option (Bool) := (impl_shapeFit.f k l0 a1_0 l1_1 l1_2 a2_0 l2_1 l2_2).bind fun t367 => (if t367 = true then (impl_shapeIn.l0 k l0 l1_1 (l1_1.length : Int) 0 a1_0 l1_1 l1_2 a2_0 l2_1 l2_2) else (some false))
end Go.Proofs.Ytchegijjjakmpaa.P

end
section

namespace Go.Proofs.Ytchegijjjakmpaa.P
open Go.RowKit Go.Proofs.YtchegijjjakmpaaW.PrintWords Go.Proofs.YtchegijjjakmpaaW.PrintLast Go.Proofs.YtchegijjjakmpaaW.PrintMore
attribute [local go_sem] max2_int min2_int max_two min_two max_three min_three max_four min_four
set_option linter.unusedVariables false
set_option linter.unusedSimpArgs false
def impl_ShapeIn.f (k : Nat) (l0 : List (S48)) (a1_0 : Bool) (l1_1 : List Int) (l1_2 : List Int) (a2_0 : Bool) (l2_1 : List Int) (l2_2 : List Int) : Option (Bool) := (impl_ClassesOk.f k l0).bind fun t376 => (if t376 = true then ((impl_shapeIn.f k l0 a1_0 l1_1 l1_2 a2_0 l2_1 l2_2).bind fun t377 => (some t377)) else (some false))
end Go.Proofs.Ytchegijjjakmpaa.P

end
section

namespace Go.Proofs.Ytchegijjjakmpaa.P
open Go.RowKit Go.Proofs.YtchegijjjakmpaaW.PrintWords Go.Proofs.YtchegijjjakmpaaW.PrintLast Go.Proofs.YtchegijjjakmpaaW.PrintMore
attribute [local go_sem] max2_int min2_int max_two min_two max_three min_three max_four min_four
set_option linter.unusedVariables false
set_option linter.unusedSimpArgs false
mutual
def spec_l11In.l0 : Nat → List (S48) → Int → Bool → List Int → List Int → Bool → List Int → List Int → Option (Bool)
  | 0, _, _, _, _, _, _, _, _ => none
  | k + 1, x0, x7, x379000, x379001, x379002, x380000, x380001, x380002 => if x7 < (x379001.length : Int) then (if 0 ≤ x7 then (if x7 < (x380001.length : Int) then ((spec_l2In.f k x0 (rd x379001 x7) (rd x380001 x7)).bind fun t382 => (if t382 = true then (spec_l11In.l0 k x0 (wrap64 (x7 + 1)) x379000 x379001 x379002 x380000 x380001 x380002) else (some false))) else (none)) else (none)) else (spec_l11In.l1 k x0 0 x379000 x379001 x379002 x380000 x380001 x380002)
def spec_l11In.l1 : Nat → List (S48) → Int → Bool → List Int → List Int → Bool → List Int → List Int → Option (Bool)
  | 0, _, _, _, _, _, _, _, _ => none
  | k + 1, x0, x8, x379000, x379001, x379002, x380000, x380001, x380002 => if x8 < (x379002.length : Int) then (if 0 ≤ x8 then (if x8 < (x380002.length : Int) then ((spec_l2In.f k x0 (rd x379002 x8) (rd x380002 x8)).bind fun t385 => (if t385 = true then (spec_l11In.l1 k x0 (wrap64 (x8 + 1)) x379000 x379001 x379002 x380000 x380001 x380002) else (some false))) else (none)) else (none)) else (some true)
end
def spec_l11In.f (k : Nat) (l0 : List (S48)) (a1_0 : Bool) (l1_1 : List Int) (l1_2 : List Int) (a2_0 : Bool) (l2_1 : List Int) (l2_2 : List Int) : Option (Bool) := if (l1_2.length : Int) = (l2_2.length : Int) then (spec_l11In.l0 k l0 0 a1_0 l1_1 l1_2 a2_0 l2_1 l2_2) else (some false)
end Go.Proofs.Ytchegijjjakmpaa.P

end
section

namespace Go.Proofs.Ytchegijjjakmpaa.P
open Go.RowKit Go.Proofs.YtchegijjjakmpaaW.PrintWords Go.Proofs.YtchegijjjakmpaaW.PrintLast Go.Proofs.YtchegijjjakmpaaW.PrintMore
attribute [local go_sem] max2_int min2_int max_two min_two max_three min_three max_four min_four
set_option linter.unusedVariables false
set_option linter.unusedSimpArgs false
def spec_ShapeIn.f (k : Nat) (l0 : List (S48)) (a1_0 : Bool) (l1_1 : List Int) (l1_2 : List Int) (a2_0 : Bool) (l2_1 : List Int) (l2_2 : List Int) : Option (Bool) := (spec_l11Fits.f k l0 a1_0 l1_1 l1_2 a2_0 l2_1 l2_2).bind fun t388 => (if t388 = true then ((spec_l11In.f k l0 a1_0 l1_1 l1_2 a2_0 l2_1 l2_2).bind fun t389 => (some t389)) else (some false))
end Go.Proofs.Ytchegijjjakmpaa.P

end
section

namespace Go.Proofs.Ytchegijjjakmpaa.P
open Go.RowKit Go.Proofs.YtchegijjjakmpaaW.PrintWords Go.Proofs.YtchegijjjakmpaaW.PrintLast Go.Proofs.YtchegijjjakmpaaW.PrintMore
attribute [local go_sem] max2_int min2_int max_two min_two max_three min_three max_four min_four
set_option linter.unusedVariables false
set_option linter.unusedSimpArgs false
def laws_leInts.l0 : Nat → List Int → List Int → Int → Option (Bool)
  | 0, _, _, _ => none
  | k + 1, x0, x1, x5 => if x5 < (x0.length : Int) then (if 0 ≤ x5 then (if x5 < (x1.length : Int) then (if (rd x0 x5) = (rd x1 x5) then (laws_leInts.l0 k x0 x1 (wrap64 (x5 + 1))) else (some false)) else (none)) else (none)) else (some true)
def laws_leInts.f (k : Nat) (l0 : List Int) (l1 : List Int) : Option (Bool) := if (l0.length : Int) = (l1.length : Int) then (laws_leInts.l0 k l0 l1 0) else (some false)
end Go.Proofs.Ytchegijjjakmpaa.P

end
section

namespace Go.Proofs.Ytchegijjjakmpaa.P
open Go.RowKit Go.Proofs.YtchegijjjakmpaaW.PrintWords Go.Proofs.YtchegijjjakmpaaW.PrintLast Go.Proofs.YtchegijjjakmpaaW.PrintMore
attribute [local go_sem] max2_int min2_int max_two min_two max_three min_three max_four min_four
set_option linter.unusedVariables false
set_option linter.unusedSimpArgs false
def laws_leShape.f (k : Nat) (a0_0 : Bool) (l0_1 : List Int) (l0_2 : List Int) (a1_0 : Bool) (l1_1 : List Int) (l1_2 : List Int) : Option (Bool) := if (a0_0 == a1_0) = true then ((laws_leInts.f k l0_1 l1_1).bind fun t394 => (if t394 = true then ((laws_leInts.f k l0_2 l1_2).bind fun t395 => (some t395)) else (some false))) else (some false)
end Go.Proofs.Ytchegijjjakmpaa.P

end
section

namespace Go.Proofs.Ytchegijjjakmpaa.P
open Go.RowKit Go.Proofs.YtchegijjjakmpaaW.PrintWords Go.Proofs.YtchegijjjakmpaaW.PrintLast Go.Proofs.YtchegijjjakmpaaW.PrintMore
attribute [local go_sem] max2_int min2_int max_two min_two max_three min_three max_four min_four
set_option linter.unusedVariables false
set_option linter.unusedSimpArgs false
mutual
def laws_FnShapeOrder.j0 : Nat → List Int → List Int → Bool → Option (Bool)
  | 0, _, _, _ => none
  | k + 1, x0, x1, x17 => if x17 = true then (some true) else ((spec_DrawShapeIn.f k x0).bind fun bt396 => ((impl_ShapeIn.f k bt396.1 bt396.2.1 bt396.2.2.1 bt396.2.2.2.1 bt396.2.2.2.2.1 bt396.2.2.2.2.2.1 bt396.2.2.2.2.2.2).bind fun t415 => ((spec_ShapeIn.f k bt396.1 bt396.2.1 bt396.2.2.1 bt396.2.2.2.1 bt396.2.2.2.2.1 bt396.2.2.2.2.2.1 bt396.2.2.2.2.2.2).bind fun t416 => (if (t415 != t416) = true then (laws_FnShapeOrder.j1 k x1 bt396.1 t415 true bt396.2.1 bt396.2.2.1 bt396.2.2.2.1 bt396.2.2.2.2.1 bt396.2.2.2.2.2.1 bt396.2.2.2.2.2.2) else (laws_FnShapeOrder.j1 k x1 bt396.1 t415 (!t415) bt396.2.1 bt396.2.2.1 bt396.2.2.2.1 bt396.2.2.2.2.1 bt396.2.2.2.2.2.1 bt396.2.2.2.2.2.2)))))
def laws_FnShapeOrder.j1 : Nat → List Int → List (S48) → Bool → Bool → Bool → List Int → List Int → Bool → List Int → List Int → Option (Bool)
  | 0, _, _, _, _, _, _, _, _, _, _ => none
  | k + 1, x1, x5, x8, x37, x414000, x414001, x414002, x415000, x415001, x415002 => if x37 = true then ((spec_ShapeIn.f k x5 x414000 x414001 x414002 x415000 x415001 x415002).bind fun t417 => (some (x8 == t417))) else ((impl_ShapeIn.f k x5 x414000 x414001 x414002 x414000 x414001 x414002).bind fun t418 => (if t418 = true then ((impl_ShapeIn.f k x5 x415000 x415001 x415002 x415000 x415001 x415002).bind fun t419 => (if t419 = true then ((impl_ShapeIn.f k x5 x415000 x415001 x415002 x414000 x414001 x414002).bind fun t420 => (if t420 = true then ((laws_leShape.f k x414000 x414001 x414002 x415000 x415001 x415002).bind fun t421 => (laws_FnShapeOrder.j2 k x1 x5 (!t421) x414000 x414001 x414002 x415000 x415001 x415002)) else (laws_FnShapeOrder.j2 k x1 x5 false x414000 x414001 x414002 x415000 x415001 x415002))) else (laws_FnShapeOrder.j2 k x1 x5 true x414000 x414001 x414002 x415000 x415001 x415002))) else (laws_FnShapeOrder.j2 k x1 x5 true x414000 x414001 x414002 x415000 x415001 x415002)))
def laws_FnShapeOrder.j2 : Nat → List Int → List (S48) → Bool → Bool → List Int → List Int → Bool → List Int → List Int → Option (Bool)
  | 0, _, _, _, _, _, _, _, _, _ => none
  | k + 1, x1, x5, x67, x414000, x414001, x414002, x415000, x415001, x415002 => if x67 = true then (some false) else ((some (([] : List Int) : List Int)).bind fun y422 => (if y422.length + x415001.length < 17592186044416 then ((some (y422 ++ x415001 : List Int)).bind fun y425 => ((some (([] : List Int) : List Int)).bind fun y428 => (if y428.length + x415002.length < 17592186044416 then ((some (y428 ++ x415002 : List Int)).bind fun y431 => (if (y425.length : Int) > 0 then (if (y425.length : Int) = 0 then (none) else (if 0 ≤ ((x1.length : Int) % (y425.length : Int)) then (if ((x1.length : Int) % (y425.length : Int)) < (y425.length : Int) then ((some (y425.set (((x1.length : Int) % (y425.length : Int)) : Int).toNat 0 : List Int)).bind fun y435 => ((impl_ShapeIn.f k x5 x415000 x415001 x415002 true y435 y431).bind fun t436 => (if t436 = true then ((impl_ShapeIn.f k x5 x414000 x414001 x414002 true y435 y431).bind fun t437 => (some t437)) else (some false)))) else (none)) else (none))) else ((impl_ShapeIn.f k x5 x415000 x415001 x415002 true y425 y431).bind fun t438 => (if t438 = true then ((impl_ShapeIn.f k x5 x414000 x414001 x414002 true y425 y431).bind fun t439 => (some t439)) else (some false))))) else (none)))) else (none)))
end
def laws_FnShapeOrder.f (k : Nat) (l0 : List Int) (l1 : List Int) : Option (Bool) := if (l0.length : Int) > 1048576 then (laws_FnShapeOrder.j0 k l0 l1 true) else (laws_FnShapeOrder.j0 k l0 l1 (decide ((l1.length : Int) > 1048576)))
def laws_FnShapeOrder.Pure : Prop := ∀ (l0 : List Int) (l1 : List Int), l0.length ≤ maxLen → l0.length * 1 ≤ 140737488351232 → (∀ x ∈ l0, (Lit.int .u8 x).wf = true) → l1.length ≤ maxLen → l1.length * 1 ≤ 140737488351232 → (∀ x ∈ l1, (Lit.int .u8 x).wf = true) → ∃ k, laws_FnShapeOrder.f k l0 l1 = some true
end Go.Proofs.Ytchegijjjakmpaa.P

end
