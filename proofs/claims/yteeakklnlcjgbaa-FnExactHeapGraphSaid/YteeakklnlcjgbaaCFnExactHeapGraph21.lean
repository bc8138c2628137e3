/- A part of the claim FnExactHeapGraph: texts of this session and texts that its program printed out of the translation, joined. -/
import Derived.Test.YteeakklnlcjgbaaProg
import Derived.Below
import Derived.Deep.Draws
import Derived.Deep.AppendLies
import Derived.Maps.AppendAt
import Derived.OwnWalk
import Derived.Laws.BytesArg
import Derived.Laws.MakeOwn
import Derived.Laws.OwnMore
import Derived.Deep.OwnRows
import Derived.Tactics
import Derived.Lib.ConvBytes
import Derived.Laws.Slices
import Derived.WalkKit
import Derived.KernelRfl
import Derived.RowKit3
import Derived.Deep.LoopGhost
import Derived.Deep.QuietTactic
import Derived.BigQuiet
import Derived.WideLaws
import Derived.Deep.DeepCutAuto
import Derived.Deep.CutBlock
import Derived.Deep.RegionHeld3
import Derived.Laws.Rows
import Derived.Lib.AppendStr
import Derived.ArgAppend
import Derived.Laws.IdiomCopy
import Derived.OrdersHeld
import Derived.Laws.BitsLemmas
import Derived.RowKit
import Derived.Test.YteeakklnlcjgbaaCFnExactHeapGraph0
import Derived.Test.YteeakklnlcjgbaaCFnExactHeapGraph1
import Derived.Test.YteeakklnlcjgbaaCFnExactHeapGraph2
import Derived.Test.YteeakklnlcjgbaaCFnExactHeapGraph3
import Derived.Test.YteeakklnlcjgbaaCFnExactHeapGraph4
import Derived.Test.YteeakklnlcjgbaaCFnExactHeapGraph5
import Derived.Test.YteeakklnlcjgbaaCFnExactHeapGraph6
import Derived.Test.YteeakklnlcjgbaaCFnExactHeapGraph7
import Derived.Test.YteeakklnlcjgbaaCFnExactHeapGraph8
import Derived.Test.YteeakklnlcjgbaaCFnExactHeapGraph9
import Derived.Test.YteeakklnlcjgbaaCFnExactHeapGraph10
import Derived.Test.YteeakklnlcjgbaaCFnExactHeapGraph11
import Derived.Test.YteeakklnlcjgbaaCFnExactHeapGraph12
import Derived.Test.YteeakklnlcjgbaaCFnExactHeapGraph13
import Derived.Test.YteeakklnlcjgbaaCFnExactHeapGraph14
import Derived.Test.YteeakklnlcjgbaaCFnExactHeapGraph15
import Derived.Test.YteeakklnlcjgbaaCFnExactHeapGraph16
import Derived.Test.YteeakklnlcjgbaaCFnExactHeapGraph17
import Derived.Test.YteeakklnlcjgbaaCFnExactHeapGraph18
import Derived.Test.YteeakklnlcjgbaaCFnExactHeapGraph19
import Derived.Test.YteeakklnlcjgbaaCFnExactHeapGraph20
import Derived.RangeFuncNested
import Derived.RangeFuncBound
import Derived.RangeFuncCalls
import Derived.RangeFuncLeaves
section

namespace Go.Proofs.Yteeakklnlcjgbaa.P
open Go.RowKit Go.Proofs.YteeakklnlcjgbaaW.PrintWords Go.Proofs.YteeakklnlcjgbaaW.PrintLast Go.Proofs.YteeakklnlcjgbaaW.PrintMore
attribute [local go_sem] max2_int min2_int max_two min_two max_three min_three max_four min_four
set_option linter.unusedVariables false
set_option linter.unusedSimpArgs false
def errW : Option Int → Value
  | none => .nilIface
  | some c => .iface 0 (.int .i64 c)
theorem errW_none : errW none = .nilIface := rfl
theorem errW_some (c : Int) : errW (some c) = .iface 0 (.int .i64 c) := rfl
theorem info3 : (Try.prog.info? 3).map (fun i => (i.zero, i.size, i.bytes)) = some (some (.int .i64 0), 1, 8) := by kernel_rfl
theorem info46 : (Try.prog.info? 46).map (fun i => (i.zero, i.size, i.bytes)) = some (some (.agg #[(.bool false), (.int .i64 0)]), 2, 16) := by kernel_rfl
theorem info48 : (Try.prog.info? 48).map (fun i => (i.zero, i.size, i.bytes)) = some (some (.agg #[(.int .i64 0), (.slice none 0 0)]), 2, 32) := by kernel_rfl
structure S62 where
  f0 : Bool
  f1 : Int
def z62 : S62 := ⟨false, (0 : Int)⟩
def k62 : Kd S62 := Kd.iso (Kd.pair Kd.bool (Kd.int .i64)) (fun x : S62 => (x.f0, x.f1))
theorem k62_open {w : World} {x : S62} {cs : List Value} (h : k62.K w x cs) : cs = [.bool x.f0, .int .i64 x.f1] := by
  obtain ⟨_, _, rfl, rfl, rfl⟩ := h
  exact rfl
def rd_T62 (xs : List S62) (i : Int) : S62 := xs.getD i.toNat z62
theorem at_T62 {w : World} {A : Option Addr} {n : Nat} {xs : List S62} (h : Kd.C k62 w A n xs) (i : Int) (h0 : 0 ≤ i) (h1 : i < n) : ∃ ad , A = some ad ∧ w.cell? (ad.add (i.toNat * 2)) = some (.bool (rd_T62 xs i).f0) ∧ w.cell? ⟨(ad.add (i.toNat * 2)).block, (ad.add (i.toNat * 2)).off + 1, none⟩ = some (.int .i64 (rd_T62 xs i).f1) := by
  obtain ⟨ad, c, e, _, hK, hc0⟩ := Kd.C_get h z62 i h0 h1
  have hc : ∀ j u, c[j]? = some u → w.cell? (ad.add (i.toNat * 2 + j)) = some u := hc0
  obtain rfl := k62_open hK
  exact ⟨ad, e, hc 0 _ rfl, by rw [← add_field _ _ 1 (by omega)]; exact hc 1 _ rfl⟩
structure S58 where
  f0 : Int
  f1 : (List S62)
def z58 : S58 := ⟨(0 : Int), ([] : List S62)⟩
def k58 : Kd S58 := Kd.iso (Kd.pair (Kd.int .i64) (Kd.slice 62 k62)) (fun x : S58 => (x.f0, x.f1))
theorem k58_open {w : World} {x : S58} {cs : List Value} (h : k58.K w x cs) : ∃ A1 c1, cs = [.int .i64 x.f0, .slice A1 x.f1.length c1] ∧ x.f1.length ≤ c1 ∧ k62.C w A1 x.f1.length x.f1 := by
  obtain ⟨_, _, rfl, rfl, ⟨A1, c1, rfl, l1, g1⟩⟩ := h
  exact ⟨A1, c1, rfl, l1, g1⟩
def rd_T58 (xs : List S58) (i : Int) : S58 := xs.getD i.toNat z58
theorem at_T58 {w : World} {A : Option Addr} {n : Nat} {xs : List S58} (h : Kd.C k58 w A n xs) (i : Int) (h0 : 0 ≤ i) (h1 : i < n) : ∃ ad A1 c1, A = some ad ∧ w.cell? (ad.add (i.toNat * 2)) = some (.int .i64 (rd_T58 xs i).f0) ∧ w.cell? ⟨(ad.add (i.toNat * 2)).block, (ad.add (i.toNat * 2)).off + 1, none⟩ = some (.slice A1 (rd_T58 xs i).f1.length c1) ∧ (rd_T58 xs i).f1.length ≤ c1 ∧ k62.C w A1 (rd_T58 xs i).f1.length (rd_T58 xs i).f1 := by
  obtain ⟨ad, c, e, _, hK, hc0⟩ := Kd.C_get h z58 i h0 h1
  have hc : ∀ j u, c[j]? = some u → w.cell? (ad.add (i.toNat * 2 + j)) = some u := hc0
  obtain ⟨A1, c1, rfl, l1, g1⟩ := k58_open hK
  exact ⟨ad, A1, c1, e, hc 0 _ rfl, by rw [← add_field _ _ 1 (by omega)]; exact hc 1 _ rfl, l1, g1⟩
structure S46 where
  f0 : Bool
  f1 : Int
def z46 : S46 := ⟨false, (0 : Int)⟩
def k46 : Kd S46 := Kd.iso (Kd.pair Kd.bool (Kd.int .i64)) (fun x : S46 => (x.f0, x.f1))
theorem k46_open {w : World} {x : S46} {cs : List Value} (h : k46.K w x cs) : cs = [.bool x.f0, .int .i64 x.f1] := by
  obtain ⟨_, _, rfl, rfl, rfl⟩ := h
  exact rfl
theorem k46_openM {w : World} {base : Nat} {ok : Nat → Prop} {x : S46} {cs : List Value} (h : k46.M w base ok x cs) : cs = [.bool x.f0, .int .i64 x.f1] := by
  obtain ⟨_, _, rfl, rfl, rfl⟩ := h
  exact rfl
theorem k46_mkM (w : World) (base : Nat) (ok : Nat → Prop) (x : S46)  : k46.M w base ok x [.bool x.f0, .int .i64 x.f1] := ⟨[.bool x.f0], [.int .i64 x.f1], rfl, rfl, rfl⟩
def rd_T46 (xs : List S46) (i : Int) : S46 := xs.getD i.toNat z46
theorem at_T46 {w : World} {A : Option Addr} {n : Nat} {xs : List S46} (h : Kd.C k46 w A n xs) (i : Int) (h0 : 0 ≤ i) (h1 : i < n) : ∃ ad , A = some ad ∧ w.cell? (ad.add (i.toNat * 2)) = some (.bool (rd_T46 xs i).f0) ∧ w.cell? ⟨(ad.add (i.toNat * 2)).block, (ad.add (i.toNat * 2)).off + 1, none⟩ = some (.int .i64 (rd_T46 xs i).f1) := by
  obtain ⟨ad, c, e, _, hK, hc0⟩ := Kd.C_get h z46 i h0 h1
  have hc : ∀ j u, c[j]? = some u → w.cell? (ad.add (i.toNat * 2 + j)) = some u := hc0
  obtain rfl := k46_open hK
  exact ⟨ad, e, hc 0 _ rfl, by rw [← add_field _ _ 1 (by omega)]; exact hc 1 _ rfl⟩
structure S48 where
  f0 : Int
  f1 : (List S46)
def z48 : S48 := ⟨(0 : Int), ([] : List S46)⟩
def k48 : Kd S48 := Kd.iso (Kd.pair (Kd.int .i64) (Kd.slice 46 k46)) (fun x : S48 => (x.f0, x.f1))
theorem k48_open {w : World} {x : S48} {cs : List Value} (h : k48.K w x cs) : ∃ A1 c1, cs = [.int .i64 x.f0, .slice A1 x.f1.length c1] ∧ x.f1.length ≤ c1 ∧ k46.C w A1 x.f1.length x.f1 := by
  obtain ⟨_, _, rfl, rfl, ⟨A1, c1, rfl, l1, g1⟩⟩ := h
  exact ⟨A1, c1, rfl, l1, g1⟩
theorem k48_openM {w : World} {base : Nat} {ok : Nat → Prop} {x : S48} {cs : List Value} (h : k48.M w base ok x cs) : ∃ v1, cs = [.int .i64 x.f0, v1] ∧ k46.R 46 w base ok v1 x.f1 := by
  obtain ⟨_, _, rfl, rfl, ⟨v1, rfl, g1⟩⟩ := h
  exact ⟨v1, rfl, g1⟩
theorem k48_mkM (w : World) (base : Nat) (ok : Nat → Prop) (x : S48) {v1 : Value} (g1 : k46.R 46 w base ok v1 x.f1) : k48.M w base ok x [.int .i64 x.f0, v1] := ⟨[.int .i64 x.f0], [v1], rfl, rfl, ⟨v1, rfl, g1⟩⟩
def rd_T48 (xs : List S48) (i : Int) : S48 := xs.getD i.toNat z48
theorem at_T48 {w : World} {A : Option Addr} {n : Nat} {xs : List S48} (h : Kd.C k48 w A n xs) (i : Int) (h0 : 0 ≤ i) (h1 : i < n) : ∃ ad A1 c1, A = some ad ∧ w.cell? (ad.add (i.toNat * 2)) = some (.int .i64 (rd_T48 xs i).f0) ∧ w.cell? ⟨(ad.add (i.toNat * 2)).block, (ad.add (i.toNat * 2)).off + 1, none⟩ = some (.slice A1 (rd_T48 xs i).f1.length c1) ∧ (rd_T48 xs i).f1.length ≤ c1 ∧ k46.C w A1 (rd_T48 xs i).f1.length (rd_T48 xs i).f1 := by
  obtain ⟨ad, c, e, _, hK, hc0⟩ := Kd.C_get h z48 i h0 h1
  have hc : ∀ j u, c[j]? = some u → w.cell? (ad.add (i.toNat * 2 + j)) = some u := hc0
  obtain ⟨A1, c1, rfl, l1, g1⟩ := k48_open hK
  exact ⟨ad, A1, c1, e, hc 0 _ rfl, by rw [← add_field _ _ 1 (by omega)]; exact hc 1 _ rfl, l1, g1⟩
end Go.Proofs.Yteeakklnlcjgbaa.P

end
section

namespace Go.Proofs.Yteeakklnlcjgbaa
open Go Go.Proofs.Yteeakklnlcjgbaa.P
set_option maxRecDepth 100000
theorem enter_of {P : Program} {L : List Char} {W : List (List Char)} {c : List Char} {rest : List (List Char)} (h1 : P.initOrder.toList = L) (h2 : wordsSigns L = W) (h3 : behindMainWord W = c :: rest) (h4 : stripLifts liftWords (c :: rest) = ([], c :: rest)) (h5 : c = "cut".toList) (h6 : P.laysLater = false) (h7 : P.bearsReflect = false) (h8 : P.doorFits [] = true) : P.mayEnter = true := by
  unfold Program.mayEnter
  rw [h1, h2, h3]
  simp only [h4, h6, h7, h8, List.head?_cons]
  simp [h5]
theorem make_of {P : Program} {L : List Char} {W : List (List Char)} {c : List Char} {rest : List (List Char)} (h1 : P.initOrder.toList = L) (h2 : wordsSigns L = W) (h3 : behindMainWord W = c :: rest) (h5 : c = "cut".toList) : P.make = some .cut := by
  unfold Program.make
  rw [h1, h2, h3]
  simp [h5]
theorem lifts_of {P : Program} {L : List Char} {W : List (List Char)} {c : List Char} {rest : List (List Char)} (h1 : P.initOrder.toList = L) (h2 : wordsSigns L = W) (h3 : behindMainWord W = c :: rest) (h4 : stripLifts liftWords (c :: rest) = ([], c :: rest)) (h5 : c = "cut".toList) : P.liftsFinal = false := by
  unfold Program.liftsFinal Program.headLifts
  rw [h1, h2, h3]
  simp only [h4, List.head?_cons]
  simp [h5]
def headChars : List Char := [Char.ofNat 104, Char.ofNat 97, Char.ofNat 114, Char.ofNat 110, Char.ofNat 101, Char.ofNat 115, Char.ofNat 115, Char.ofNat 32, Char.ofNat 53, Char.ofNat 100, Char.ofNat 97, Char.ofNat 98, Char.ofNat 98, Char.ofNat 50, Char.ofNat 51, Char.ofNat 102, Char.ofNat 99, Char.ofNat 57, Char.ofNat 55, Char.ofNat 97, Char.ofNat 97, Char.ofNat 57, Char.ofNat 54, Char.ofNat 99, Char.ofNat 57, Char.ofNat 57, Char.ofNat 97, Char.ofNat 48, Char.ofNat 50, Char.ofNat 48, Char.ofNat 55, Char.ofNat 54, Char.ofNat 56, Char.ofNat 101, Char.ofNat 51, Char.ofNat 100, Char.ofNat 53, Char.ofNat 56, Char.ofNat 101, Char.ofNat 53, Char.ofNat 97, Char.ofNat 99, Char.ofNat 53, Char.ofNat 99, Char.ofNat 57, Char.ofNat 99, Char.ofNat 48, Char.ofNat 53, Char.ofNat 53, Char.ofNat 99, Char.ofNat 100, Char.ofNat 50, Char.ofNat 51, Char.ofNat 98, Char.ofNat 100, Char.ofNat 48, Char.ofNat 101, Char.ofNat 55, Char.ofNat 54, Char.ofNat 57, Char.ofNat 48, Char.ofNat 49, Char.ofNat 56, Char.ofNat 100, Char.ofNat 52, Char.ofNat 52, Char.ofNat 54, Char.ofNat 52, Char.ofNat 54, Char.ofNat 98, Char.ofNat 55, Char.ofNat 100, Char.ofNat 32, Char.ofNat 99, Char.ofNat 117, Char.ofNat 116, Char.ofNat 32, Char.ofNat 97, Char.ofNat 116, Char.ofNat 32, Char.ofNat 108, Char.ofNat 111, Char.ofNat 111, Char.ofNat 112, Char.ofNat 46, Char.ofNat 101, Char.ofNat 120, Char.ofNat 97, Char.ofNat 109, Char.ofNat 112, Char.ofNat 108, Char.ofNat 101, Char.ofNat 47, Char.ofNat 101, Char.ofNat 110, Char.ofNat 116, Char.ofNat 97, Char.ofNat 105, Char.ofNat 108, Char.ofNat 47, Char.ofNat 108, Char.ofNat 97, Char.ofNat 119, Char.ofNat 115, Char.ofNat 46, Char.ofNat 70, Char.ofNat 110, Char.ofNat 69, Char.ofNat 120, Char.ofNat 97, Char.ofNat 99, Char.ofNat 116, Char.ofNat 67, Char.ofNat 111, Char.ofNat 110, Char.ofNat 115, Char.ofNat 116, Char.ofNat 97, Char.ofNat 110, Char.ofNat 116, Char.ofNat 115, Char.ofNat 32, Char.ofNat 108, Char.ofNat 111, Char.ofNat 111, Char.ofNat 112, Char.ofNat 46, Char.ofNat 101, Char.ofNat 120, Char.ofNat 97, Char.ofNat 109, Char.ofNat 112, Char.ofNat 108, Char.ofNat 101, Char.ofNat 47, Char.ofNat 101, Char.ofNat 110, Char.ofNat 116, Char.ofNat 97, Char.ofNat 105, Char.ofNat 108, Char.ofNat 47, Char.ofNat 108, Char.ofNat 97, Char.ofNat 119, Char.ofNat 115, Char.ofNat 46, Char.ofNat 70, Char.ofNat 110, Char.ofNat 69, Char.ofNat 120, Char.ofNat 97, Char.ofNat 99, Char.ofNat 116, Char.ofNat 73, Char.ofNat 110, Char.ofNat 116, Char.ofNat 87, Char.ofNat 114, Char.ofNat 97, Char.ofNat 112, Char.ofNat 32, Char.ofNat 108, Char.ofNat 111, Char.ofNat 111, Char.ofNat 112, Char.ofNat 46, Char.ofNat 101, Char.ofNat 120, Char.ofNat 97, Char.ofNat 109, Char.ofNat 112, Char.ofNat 108, Char.ofNat 101, Char.ofNat 47, Char.ofNat 101, Char.ofNat 110, Char.ofNat 116, Char.ofNat 97, Char.ofNat 105, Char.ofNat 108, Char.ofNat 47, Char.ofNat 108, Char.ofNat 97, Char.ofNat 119, Char.ofNat 115, Char.ofNat 46, Char.ofNat 70, Char.ofNat 110, Char.ofNat 73, Char.ofNat 110, Char.ofNat 116, Char.ofNat 87, Char.ofNat 114, Char.ofNat 97, Char.ofNat 112, Char.ofNat 32, Char.ofNat 108, Char.ofNat 111, Char.ofNat 111, Char.ofNat 112, Char.ofNat 46, Char.ofNat 101, Char.ofNat 120, Char.ofNat 97, Char.ofNat 109, Char.ofNat 112, Char.ofNat 108, Char.ofNat 101, Char.ofNat 47, Char.ofNat 101, Char.ofNat 110, Char.ofNat 116, Char.ofNat 97, Char.ofNat 105, Char.ofNat 108, Char.ofNat 47, Char.ofNat 108, Char.ofNat 97, Char.ofNat 119, Char.ofNat 115, Char.ofNat 46, Char.ofNat 70, Char.ofNat 110, Char.ofNat 69, Char.ofNat 120, Char.ofNat 97, Char.ofNat 99, Char.ofNat 116, Char.ofNat 72, Char.ofNat 101, Char.ofNat 97, Char.ofNat 112, Char.ofNat 79, Char.ofNat 107, Char.ofNat 32, Char.ofNat 108, Char.ofNat 111, Char.ofNat 111, Char.ofNat 112, Char.ofNat 46, Char.ofNat 101, Char.ofNat 120, Char.ofNat 97, Char.ofNat 109, Char.ofNat 112, Char.ofNat 108, Char.ofNat 101, Char.ofNat 47, Char.ofNat 101, Char.ofNat 110, Char.ofNat 116, Char.ofNat 97, Char.ofNat 105, Char.ofNat 108, Char.ofNat 47, Char.ofNat 108, Char.ofNat 97, Char.ofNat 119, Char.ofNat 115, Char.ofNat 46, Char.ofNat 70, Char.ofNat 110, Char.ofNat 69, Char.ofNat 120, Char.ofNat 97, Char.ofNat 99, Char.ofNat 116, Char.ofNat 72, Char.ofNat 101, Char.ofNat 97, Char.ofNat 112, Char.ofNat 71, Char.ofNat 114, Char.ofNat 97, Char.ofNat 112, Char.ofNat 104, Char.ofNat 32, Char.ofNat 108, Char.ofNat 111, Char.ofNat 111, Char.ofNat 112, Char.ofNat 46, Char.ofNat 101, Char.ofNat 120, Char.ofNat 97, Char.ofNat 109, Char.ofNat 112, Char.ofNat 108, Char.ofNat 101, Char.ofNat 47, Char.ofNat 101, Char.ofNat 110, Char.ofNat 116, Char.ofNat 97, Char.ofNat 105, Char.ofNat 108, Char.ofNat 47, Char.ofNat 108, Char.ofNat 97, Char.ofNat 119, Char.ofNat 115, Char.ofNat 46, Char.ofNat 70, Char.ofNat 110, Char.ofNat 71, Char.ofNat 114, Char.ofNat 97, Char.ofNat 112, Char.ofNat 104, Char.ofNat 76, Char.ofNat 101, Char.ofNat 100, Char.ofNat 32, Char.ofNat 108, Char.ofNat 111, Char.ofNat 111, Char.ofNat 112, Char.ofNat 46, Char.ofNat 101, Char.ofNat 120, Char.ofNat 97, Char.ofNat 109, Char.ofNat 112, Char.ofNat 108, Char.ofNat 101, Char.ofNat 47, Char.ofNat 101, Char.ofNat 110, Char.ofNat 116, Char.ofNat 97, Char.ofNat 105, Char.ofNat 108, Char.ofNat 47, Char.ofNat 108, Char.ofNat 97, Char.ofNat 119, Char.ofNat 115, Char.ofNat 46, Char.ofNat 70, Char.ofNat 110, Char.ofNat 71, Char.ofNat 114, Char.ofNat 97, Char.ofNat 112, Char.ofNat 104, Char.ofNat 77, Char.ofNat 111, Char.ofNat 114, Char.ofNat 101, Char.ofNat 32, Char.ofNat 108, Char.ofNat 111, Char.ofNat 111, Char.ofNat 112, Char.ofNat 46, Char.ofNat 101, Char.ofNat 120, Char.ofNat 97, Char.ofNat 109, Char.ofNat 112, Char.ofNat 108, Char.ofNat 101, Char.ofNat 47, Char.ofNat 101, Char.ofNat 110, Char.ofNat 116, Char.ofNat 97, Char.ofNat 105, Char.ofNat 108, Char.ofNat 47, Char.ofNat 108, Char.ofNat 97, Char.ofNat 119, Char.ofNat 115, Char.ofNat 46, Char.ofNat 70, Char.ofNat 110, Char.ofNat 71, Char.ofNat 114, Char.ofNat 97, Char.ofNat 112, Char.ofNat 104, Char.ofNat 84, Char.ofNat 119, Char.ofNat 105, Char.ofNat 99, Char.ofNat 101, Char.ofNat 32, Char.ofNat 108, Char.ofNat 111, Char.ofNat 111, Char.ofNat 112, Char.ofNat 46, Char.ofNat 101, Char.ofNat 120, Char.ofNat 97, Char.ofNat 109, Char.ofNat 112, Char.ofNat 108, Char.ofNat 101, Char.ofNat 47, Char.ofNat 101, Char.ofNat 110, Char.ofNat 116, Char.ofNat 97, Char.ofNat 105, Char.ofNat 108, Char.ofNat 47, Char.ofNat 108, Char.ofNat 97, Char.ofNat 119, Char.ofNat 115, Char.ofNat 46, Char.ofNat 70, Char.ofNat 110, Char.ofNat 71, Char.ofNat 114, Char.ofNat 97, Char.ofNat 112, Char.ofNat 104, Char.ofNat 84, Char.ofNat 117, Char.ofNat 114, Char.ofNat 110]
def headWords : List (List Char) := [[Char.ofNat 104, Char.ofNat 97, Char.ofNat 114, Char.ofNat 110, Char.ofNat 101, Char.ofNat 115, Char.ofNat 115], [Char.ofNat 53, Char.ofNat 100, Char.ofNat 97, Char.ofNat 98, Char.ofNat 98, Char.ofNat 50, Char.ofNat 51, Char.ofNat 102, Char.ofNat 99, Char.ofNat 57, Char.ofNat 55, Char.ofNat 97, Char.ofNat 97, Char.ofNat 57, Char.ofNat 54, Char.ofNat 99, Char.ofNat 57, Char.ofNat 57, Char.ofNat 97, Char.ofNat 48, Char.ofNat 50, Char.ofNat 48, Char.ofNat 55, Char.ofNat 54, Char.ofNat 56, Char.ofNat 101, Char.ofNat 51, Char.ofNat 100, Char.ofNat 53, Char.ofNat 56, Char.ofNat 101, Char.ofNat 53, Char.ofNat 97, Char.ofNat 99, Char.ofNat 53, Char.ofNat 99, Char.ofNat 57, Char.ofNat 99, Char.ofNat 48, Char.ofNat 53, Char.ofNat 53, Char.ofNat 99, Char.ofNat 100, Char.ofNat 50, Char.ofNat 51, Char.ofNat 98, Char.ofNat 100, Char.ofNat 48, Char.ofNat 101, Char.ofNat 55, Char.ofNat 54, Char.ofNat 57, Char.ofNat 48, Char.ofNat 49, Char.ofNat 56, Char.ofNat 100, Char.ofNat 52, Char.ofNat 52, Char.ofNat 54, Char.ofNat 52, Char.ofNat 54, Char.ofNat 98, Char.ofNat 55, Char.ofNat 100], [Char.ofNat 99, Char.ofNat 117, Char.ofNat 116], [Char.ofNat 97, Char.ofNat 116], [Char.ofNat 108, Char.ofNat 111, Char.ofNat 111, Char.ofNat 112, Char.ofNat 46, Char.ofNat 101, Char.ofNat 120, Char.ofNat 97, Char.ofNat 109, Char.ofNat 112, Char.ofNat 108, Char.ofNat 101, Char.ofNat 47, Char.ofNat 101, Char.ofNat 110, Char.ofNat 116, Char.ofNat 97, Char.ofNat 105, Char.ofNat 108, Char.ofNat 47, Char.ofNat 108, Char.ofNat 97, Char.ofNat 119, Char.ofNat 115, Char.ofNat 46, Char.ofNat 70, Char.ofNat 110, Char.ofNat 69, Char.ofNat 120, Char.ofNat 97, Char.ofNat 99, Char.ofNat 116, Char.ofNat 67, Char.ofNat 111, Char.ofNat 110, Char.ofNat 115, Char.ofNat 116, Char.ofNat 97, Char.ofNat 110, Char.ofNat 116, Char.ofNat 115], [Char.ofNat 108, Char.ofNat 111, Char.ofNat 111, Char.ofNat 112, Char.ofNat 46, Char.ofNat 101, Char.ofNat 120, Char.ofNat 97, Char.ofNat 109, Char.ofNat 112, Char.ofNat 108, Char.ofNat 101, Char.ofNat 47, Char.ofNat 101, Char.ofNat 110, Char.ofNat 116, Char.ofNat 97, Char.ofNat 105, Char.ofNat 108, Char.ofNat 47, Char.ofNat 108, Char.ofNat 97, Char.ofNat 119, Char.ofNat 115, Char.ofNat 46, Char.ofNat 70, Char.ofNat 110, Char.ofNat 69, Char.ofNat 120, Char.ofNat 97, Char.ofNat 99, Char.ofNat 116, Char.ofNat 73, Char.ofNat 110, Char.ofNat 116, Char.ofNat 87, Char.ofNat 114, Char.ofNat 97, Char.ofNat 112], [Char.ofNat 108, Char.ofNat 111, Char.ofNat 111, Char.ofNat 112, Char.ofNat 46, Char.ofNat 101, Char.ofNat 120, Char.ofNat 97, Char.ofNat 109, Char.ofNat 112, Char.ofNat 108, Char.ofNat 101, Char.ofNat 47, Char.ofNat 101, Char.ofNat 110, Char.ofNat 116, Char.ofNat 97, Char.ofNat 105, Char.ofNat 108, Char.ofNat 47, Char.ofNat 108, Char.ofNat 97, Char.ofNat 119, Char.ofNat 115, Char.ofNat 46, Char.ofNat 70, Char.ofNat 110, Char.ofNat 73, Char.ofNat 110, Char.ofNat 116, Char.ofNat 87, Char.ofNat 114, Char.ofNat 97, Char.ofNat 112], [Char.ofNat 108, Char.ofNat 111, Char.ofNat 111, Char.ofNat 112, Char.ofNat 46, Char.ofNat 101, Char.ofNat 120, Char.ofNat 97, Char.ofNat 109, Char.ofNat 112, Char.ofNat 108, Char.ofNat 101, Char.ofNat 47, Char.ofNat 101, Char.ofNat 110, Char.ofNat 116, Char.ofNat 97, Char.ofNat 105, Char.ofNat 108, Char.ofNat 47, Char.ofNat 108, Char.ofNat 97, Char.ofNat 119, Char.ofNat 115, Char.ofNat 46, Char.ofNat 70, Char.ofNat 110, Char.ofNat 69, Char.ofNat 120, Char.ofNat 97, Char.ofNat 99, Char.ofNat 116, Char.ofNat 72, Char.ofNat 101, Char.ofNat 97, Char.ofNat 112, Char.ofNat 79, Char.ofNat 107], [Char.ofNat 108, Char.ofNat 111, Char.ofNat 111, Char.ofNat 112, Char.ofNat 46, Char.ofNat 101, Char.ofNat 120, Char.ofNat 97, Char.ofNat 109, Char.ofNat 112, Char.ofNat 108, Char.ofNat 101, Char.ofNat 47, Char.ofNat 101, Char.ofNat 110, Char.ofNat 116, Char.ofNat 97, Char.ofNat 105, Char.ofNat 108, Char.ofNat 47, Char.ofNat 108, Char.ofNat 97, Char.ofNat 119, Char.ofNat 115, Char.ofNat 46, Char.ofNat 70, Char.ofNat 110, Char.ofNat 69, Char.ofNat 120, Char.ofNat 97, Char.ofNat 99, Char.ofNat 116, Char.ofNat 72, Char.ofNat 101, Char.ofNat 97, Char.ofNat 112, Char.ofNat 71, Char.ofNat 114, Char.ofNat 97, Char.ofNat 112, Char.ofNat 104], [Char.ofNat 108, Char.ofNat 111, Char.ofNat 111, Char.ofNat 112, Char.ofNat 46, Char.ofNat 101, Char.ofNat 120, Char.ofNat 97, Char.ofNat 109, Char.ofNat 112, Char.ofNat 108, Char.ofNat 101, Char.ofNat 47, Char.ofNat 101, Char.ofNat 110, Char.ofNat 116, Char.ofNat 97, Char.ofNat 105, Char.ofNat 108, Char.ofNat 47, Char.ofNat 108, Char.ofNat 97, Char.ofNat 119, Char.ofNat 115, Char.ofNat 46, Char.ofNat 70, Char.ofNat 110, Char.ofNat 71, Char.ofNat 114, Char.ofNat 97, Char.ofNat 112, Char.ofNat 104, Char.ofNat 76, Char.ofNat 101, Char.ofNat 100], [Char.ofNat 108, Char.ofNat 111, Char.ofNat 111, Char.ofNat 112, Char.ofNat 46, Char.ofNat 101, Char.ofNat 120, Char.ofNat 97, Char.ofNat 109, Char.ofNat 112, Char.ofNat 108, Char.ofNat 101, Char.ofNat 47, Char.ofNat 101, Char.ofNat 110, Char.ofNat 116, Char.ofNat 97, Char.ofNat 105, Char.ofNat 108, Char.ofNat 47, Char.ofNat 108, Char.ofNat 97, Char.ofNat 119, Char.ofNat 115, Char.ofNat 46, Char.ofNat 70, Char.ofNat 110, Char.ofNat 71, Char.ofNat 114, Char.ofNat 97, Char.ofNat 112, Char.ofNat 104, Char.ofNat 77, Char.ofNat 111, Char.ofNat 114, Char.ofNat 101], [Char.ofNat 108, Char.ofNat 111, Char.ofNat 111, Char.ofNat 112, Char.ofNat 46, Char.ofNat 101, Char.ofNat 120, Char.ofNat 97, Char.ofNat 109, Char.ofNat 112, Char.ofNat 108, Char.ofNat 101, Char.ofNat 47, Char.ofNat 101, Char.ofNat 110, Char.ofNat 116, Char.ofNat 97, Char.ofNat 105, Char.ofNat 108, Char.ofNat 47, Char.ofNat 108, Char.ofNat 97, Char.ofNat 119, Char.ofNat 115, Char.ofNat 46, Char.ofNat 70, Char.ofNat 110, Char.ofNat 71, Char.ofNat 114, Char.ofNat 97, Char.ofNat 112, Char.ofNat 104, Char.ofNat 84, Char.ofNat 119, Char.ofNat 105, Char.ofNat 99, Char.ofNat 101], [Char.ofNat 108, Char.ofNat 111, Char.ofNat 111, Char.ofNat 112, Char.ofNat 46, Char.ofNat 101, Char.ofNat 120, Char.ofNat 97, Char.ofNat 109, Char.ofNat 112, Char.ofNat 108, Char.ofNat 101, Char.ofNat 47, Char.ofNat 101, Char.ofNat 110, Char.ofNat 116, Char.ofNat 97, Char.ofNat 105, Char.ofNat 108, Char.ofNat 47, Char.ofNat 108, Char.ofNat 97, Char.ofNat 119, Char.ofNat 115, Char.ofNat 46, Char.ofNat 70, Char.ofNat 110, Char.ofNat 71, Char.ofNat 114, Char.ofNat 97, Char.ofNat 112, Char.ofNat 104, Char.ofNat 84, Char.ofNat 117, Char.ofNat 114, Char.ofNat 110]]
theorem head_is : Try.prog.initOrder.toList = headChars := by
  have h : Try.prog.initOrder = String.ofList headChars := by kernel_rfl
  rw [h, String.toList_ofList]
def rootWords : List (List Char) := [[Char.ofNat 97, Char.ofNat 116], [Char.ofNat 108, Char.ofNat 111, Char.ofNat 111, Char.ofNat 112, Char.ofNat 46, Char.ofNat 101, Char.ofNat 120, Char.ofNat 97, Char.ofNat 109, Char.ofNat 112, Char.ofNat 108, Char.ofNat 101, Char.ofNat 47, Char.ofNat 101, Char.ofNat 110, Char.ofNat 116, Char.ofNat 97, Char.ofNat 105, Char.ofNat 108, Char.ofNat 47, Char.ofNat 108, Char.ofNat 97, Char.ofNat 119, Char.ofNat 115, Char.ofNat 46, Char.ofNat 70, Char.ofNat 110, Char.ofNat 69, Char.ofNat 120, Char.ofNat 97, Char.ofNat 99, Char.ofNat 116, Char.ofNat 67, Char.ofNat 111, Char.ofNat 110, Char.ofNat 115, Char.ofNat 116, Char.ofNat 97, Char.ofNat 110, Char.ofNat 116, Char.ofNat 115], [Char.ofNat 108, Char.ofNat 111, Char.ofNat 111, Char.ofNat 112, Char.ofNat 46, Char.ofNat 101, Char.ofNat 120, Char.ofNat 97, Char.ofNat 109, Char.ofNat 112, Char.ofNat 108, Char.ofNat 101, Char.ofNat 47, Char.ofNat 101, Char.ofNat 110, Char.ofNat 116, Char.ofNat 97, Char.ofNat 105, Char.ofNat 108, Char.ofNat 47, Char.ofNat 108, Char.ofNat 97, Char.ofNat 119, Char.ofNat 115, Char.ofNat 46, Char.ofNat 70, Char.ofNat 110, Char.ofNat 69, Char.ofNat 120, Char.ofNat 97, Char.ofNat 99, Char.ofNat 116, Char.ofNat 73, Char.ofNat 110, Char.ofNat 116, Char.ofNat 87, Char.ofNat 114, Char.ofNat 97, Char.ofNat 112], [Char.ofNat 108, Char.ofNat 111, Char.ofNat 111, Char.ofNat 112, Char.ofNat 46, Char.ofNat 101, Char.ofNat 120, Char.ofNat 97, Char.ofNat 109, Char.ofNat 112, Char.ofNat 108, Char.ofNat 101, Char.ofNat 47, Char.ofNat 101, Char.ofNat 110, Char.ofNat 116, Char.ofNat 97, Char.ofNat 105, Char.ofNat 108, Char.ofNat 47, Char.ofNat 108, Char.ofNat 97, Char.ofNat 119, Char.ofNat 115, Char.ofNat 46, Char.ofNat 70, Char.ofNat 110, Char.ofNat 73, Char.ofNat 110, Char.ofNat 116, Char.ofNat 87, Char.ofNat 114, Char.ofNat 97, Char.ofNat 112], [Char.ofNat 108, Char.ofNat 111, Char.ofNat 111, Char.ofNat 112, Char.ofNat 46, Char.ofNat 101, Char.ofNat 120, Char.ofNat 97, Char.ofNat 109, Char.ofNat 112, Char.ofNat 108, Char.ofNat 101, Char.ofNat 47, Char.ofNat 101, Char.ofNat 110, Char.ofNat 116, Char.ofNat 97, Char.ofNat 105, Char.ofNat 108, Char.ofNat 47, Char.ofNat 108, Char.ofNat 97, Char.ofNat 119, Char.ofNat 115, Char.ofNat 46, Char.ofNat 70, Char.ofNat 110, Char.ofNat 69, Char.ofNat 120, Char.ofNat 97, Char.ofNat 99, Char.ofNat 116, Char.ofNat 72, Char.ofNat 101, Char.ofNat 97, Char.ofNat 112, Char.ofNat 79, Char.ofNat 107], [Char.ofNat 108, Char.ofNat 111, Char.ofNat 111, Char.ofNat 112, Char.ofNat 46, Char.ofNat 101, Char.ofNat 120, Char.ofNat 97, Char.ofNat 109, Char.ofNat 112, Char.ofNat 108, Char.ofNat 101, Char.ofNat 47, Char.ofNat 101, Char.ofNat 110, Char.ofNat 116, Char.ofNat 97, Char.ofNat 105, Char.ofNat 108, Char.ofNat 47, Char.ofNat 108, Char.ofNat 97, Char.ofNat 119, Char.ofNat 115, Char.ofNat 46, Char.ofNat 70, Char.ofNat 110, Char.ofNat 69, Char.ofNat 120, Char.ofNat 97, Char.ofNat 99, Char.ofNat 116, Char.ofNat 72, Char.ofNat 101, Char.ofNat 97, Char.ofNat 112, Char.ofNat 71, Char.ofNat 114, Char.ofNat 97, Char.ofNat 112, Char.ofNat 104], [Char.ofNat 108, Char.ofNat 111, Char.ofNat 111, Char.ofNat 112, Char.ofNat 46, Char.ofNat 101, Char.ofNat 120, Char.ofNat 97, Char.ofNat 109, Char.ofNat 112, Char.ofNat 108, Char.ofNat 101, Char.ofNat 47, Char.ofNat 101, Char.ofNat 110, Char.ofNat 116, Char.ofNat 97, Char.ofNat 105, Char.ofNat 108, Char.ofNat 47, Char.ofNat 108, Char.ofNat 97, Char.ofNat 119, Char.ofNat 115, Char.ofNat 46, Char.ofNat 70, Char.ofNat 110, Char.ofNat 71, Char.ofNat 114, Char.ofNat 97, Char.ofNat 112, Char.ofNat 104, Char.ofNat 76, Char.ofNat 101, Char.ofNat 100], [Char.ofNat 108, Char.ofNat 111, Char.ofNat 111, Char.ofNat 112, Char.ofNat 46, Char.ofNat 101, Char.ofNat 120, Char.ofNat 97, Char.ofNat 109, Char.ofNat 112, Char.ofNat 108, Char.ofNat 101, Char.ofNat 47, Char.ofNat 101, Char.ofNat 110, Char.ofNat 116, Char.ofNat 97, Char.ofNat 105, Char.ofNat 108, Char.ofNat 47, Char.ofNat 108, Char.ofNat 97, Char.ofNat 119, Char.ofNat 115, Char.ofNat 46, Char.ofNat 70, Char.ofNat 110, Char.ofNat 71, Char.ofNat 114, Char.ofNat 97, Char.ofNat 112, Char.ofNat 104, Char.ofNat 77, Char.ofNat 111, Char.ofNat 114, Char.ofNat 101], [Char.ofNat 108, Char.ofNat 111, Char.ofNat 111, Char.ofNat 112, Char.ofNat 46, Char.ofNat 101, Char.ofNat 120, Char.ofNat 97, Char.ofNat 109, Char.ofNat 112, Char.ofNat 108, Char.ofNat 101, Char.ofNat 47, Char.ofNat 101, Char.ofNat 110, Char.ofNat 116, Char.ofNat 97, Char.ofNat 105, Char.ofNat 108, Char.ofNat 47, Char.ofNat 108, Char.ofNat 97, Char.ofNat 119, Char.ofNat 115, Char.ofNat 46, Char.ofNat 70, Char.ofNat 110, Char.ofNat 71, Char.ofNat 114, Char.ofNat 97, Char.ofNat 112, Char.ofNat 104, Char.ofNat 84, Char.ofNat 119, Char.ofNat 105, Char.ofNat 99, Char.ofNat 101], [Char.ofNat 108, Char.ofNat 111, Char.ofNat 111, Char.ofNat 112, Char.ofNat 46, Char.ofNat 101, Char.ofNat 120, Char.ofNat 97, Char.ofNat 109, Char.ofNat 112, Char.ofNat 108, Char.ofNat 101, Char.ofNat 47, Char.ofNat 101, Char.ofNat 110, Char.ofNat 116, Char.ofNat 97, Char.ofNat 105, Char.ofNat 108, Char.ofNat 47, Char.ofNat 108, Char.ofNat 97, Char.ofNat 119, Char.ofNat 115, Char.ofNat 46, Char.ofNat 70, Char.ofNat 110, Char.ofNat 71, Char.ofNat 114, Char.ofNat 97, Char.ofNat 112, Char.ofNat 104, Char.ofNat 84, Char.ofNat 117, Char.ofNat 114, Char.ofNat 110]]
theorem enter : Try.prog.mayEnter = true := enter_of (L := headChars) (W := headWords) head_is (by kernel_rfl) (c := [Char.ofNat 99, Char.ofNat 117, Char.ofNat 116]) (rest := rootWords) (by kernel_rfl) (by kernel_rfl) (by kernel_rfl) (by kernel_rfl) (by kernel_rfl) (by kernel_rfl)
theorem make : Try.prog.make = some .cut := make_of (L := headChars) (W := headWords) head_is (by kernel_rfl) (c := [Char.ofNat 99, Char.ofNat 117, Char.ofNat 116]) (rest := rootWords) (by kernel_rfl) (by kernel_rfl)
theorem lifts : Try.prog.liftsFinal = false := lifts_of (L := headChars) (W := headWords) head_is (by kernel_rfl) (c := [Char.ofNat 99, Char.ofNat 117, Char.ofNat 116]) (rest := rootWords) (by kernel_rfl) (by kernel_rfl) (by kernel_rfl)
end Go.Proofs.Yteeakklnlcjgbaa

end
section

namespace Go.Proofs.Yteeakklnlcjgbaa.P
open Go.RowKit Go.Proofs.YteeakklnlcjgbaaW.PrintWords Go.Proofs.YteeakklnlcjgbaaW.PrintLast Go.Proofs.YteeakklnlcjgbaaW.PrintMore
attribute [local go_sem] max2_int min2_int max_two min_two max_three min_three max_four min_four
set_option linter.unusedVariables false
set_option linter.unusedSimpArgs false
def impl_moveVals.l0 : Nat → List Int → List (S46) → List (S46) → Int → Int → Option ((List (S46)))
  | 0, _, _, _, _, _ => none
  | k + 1, x1, x5, x8, x9, x10 => if x10 < x9 then (if 0 ≤ x10 then (if x10 < (x8.length : Int) then (if (rd_T46 x8 x10).f0 = true then (if 0 ≤ ((rd_T46 x8 x10).f1) then (if ((rd_T46 x8 x10).f1) < (x1.length : Int) then (if x5.length < 8796093022208 then (impl_moveVals.l0 k x1 (x5 ++ [(⟨(rd_T46 x8 x10).f0, rd x1 ((rd_T46 x8 x10).f1)⟩ : S46)]) x8 x9 (wrap64 (x10 + 1))) else (none)) else (none)) else (none)) else (if x5.length < 8796093022208 then (impl_moveVals.l0 k x1 (x5 ++ [(⟨(rd_T46 x8 x10).f0, (rd_T46 x8 x10).f1⟩ : S46)]) x8 x9 (wrap64 (x10 + 1))) else (none))) else (none)) else (none)) else (some x5)
def impl_moveVals.f (k : Nat) (l0 : List (S46)) (l1 : List Int) : Option ((List (S46))) := impl_moveVals.l0 k l1 ([] : List (S46)) l0 (l0.length : Int) 0
end Go.Proofs.Yteeakklnlcjgbaa.P

end
section

namespace Go.Proofs.Yteeakklnlcjgbaa.P
open Go.RowKit Go.Proofs.YteeakklnlcjgbaaW.PrintWords Go.Proofs.YteeakklnlcjgbaaW.PrintLast Go.Proofs.YteeakklnlcjgbaaW.PrintMore
attribute [local go_sem] max2_int min2_int max_two min_two max_three min_three max_four min_four
set_option linter.unusedVariables false
set_option linter.unusedSimpArgs false
def impl_leadsOk.f (a0_0 : Bool) (a0_1 : Int) (a1 : Int) : Option (Bool) := if a0_0 = true then (if a0_1 ≥ 0 then (some (decide (a0_1 ≤ a1))) else (some false)) else (some true)
end Go.Proofs.Yteeakklnlcjgbaa.P

end
section

namespace Go.Proofs.Yteeakklnlcjgbaa.P
open Go.RowKit Go.Proofs.YteeakklnlcjgbaaW.PrintWords Go.Proofs.YteeakklnlcjgbaaW.PrintLast Go.Proofs.YteeakklnlcjgbaaW.PrintMore
attribute [local go_sem] max2_int min2_int max_two min_two max_three min_three max_four min_four
set_option linter.unusedVariables false
set_option linter.unusedSimpArgs false
mutual
def impl_HeapOk.l0 : Nat → List (S48) → List (S46) → Int → Int → Option (Bool)
  | 0, _, _, _, _ => none
  | k + 1, x0, x11, x12, x13 => if x13 < x12 then (if 0 ≤ x13 then (if x13 < (x11.length : Int) then ((impl_leadsOk.f ((rd_T46 x11 x13).f0) ((rd_T46 x11 x13).f1) (x0.length : Int)).bind fun t174 => (if t174 = true then (impl_HeapOk.l0 k x0 x11 x12 (wrap64 (x13 + 1))) else (some false))) else (none)) else (none)) else (impl_HeapOk.l1 k x0 x0 (x0.length : Int) 0)
def impl_HeapOk.l1 : Nat → List (S48) → List (S48) → Int → Int → Option (Bool)
  | 0, _, _, _, _ => none
  | k + 1, x0, x23, x24, x25 => if x25 < x24 then (if 0 ≤ x25 then (if x25 < (x23.length : Int) then (impl_HeapOk.l2 k x0 x23 x24 x25 ((rd_T48 x23 x25).f1) (((rd_T48 x23 x25).f1).length : Int) 0) else (none)) else (none)) else (some true)
def impl_HeapOk.l2 : Nat → List (S48) → List (S48) → Int → Int → List (S46) → Int → Int → Option (Bool)
  | 0, _, _, _, _, _, _, _ => none
  | k + 1, x0, x23, x24, x25, x30, x31, x32 => if x32 < x31 then (if 0 ≤ x32 then (if x32 < (x30.length : Int) then ((impl_leadsOk.f ((rd_T46 x30 x32).f0) ((rd_T46 x30 x32).f1) (x0.length : Int)).bind fun t179 => (if t179 = true then (impl_HeapOk.l2 k x0 x23 x24 x25 x30 x31 (wrap64 (x32 + 1))) else (some false))) else (none)) else (none)) else (impl_HeapOk.l1 k x0 x23 x24 (wrap64 (x25 + 1)))
end
def impl_HeapOk.f (k : Nat) (l0 : List (S48)) (l1 : List (S46)) : Option (Bool) := impl_HeapOk.l0 k l0 l1 (l1.length : Int) 0
end Go.Proofs.Yteeakklnlcjgbaa.P

end
section

namespace Go.Proofs.Yteeakklnlcjgbaa.P
open Go Go.RowKit Go.Proofs.YteeakklnlcjgbaaW.PrintWords Go.Proofs.YteeakklnlcjgbaaW.PrintLast Go.Proofs.YteeakklnlcjgbaaW.PrintMore
set_option linter.unusedVariables false
abbrev GVal := S46
abbrev GObj := S48
def g_step (n : Nat) (o : List Int) (v : GVal) : Option (List Int) :=
  if v.f0 = true then (if v.f1 = 0 then some o else (if 0 ≤ v.f1 ∧ v.f1 < (n : Int) then (if v.f1 ∈ o then some o else (if o.length < 8796093022208 then some (o ++ [v.f1]) else none)) else none)) else some o
def g_comes : Nat → Nat → List GVal → Int → List Int → Option (List Int)
  | 0, _, _, _, _ => none
  | k + 1, n, vs, i, o => if i < (vs.length : Int) then (if 0 ≤ i then ((g_step n o (rd_T46 vs i)).bind fun o' => g_comes k n vs (wrap64 (i + 1)) o') else none) else some o
def g_walk : Nat → List GObj → Int → List Int → Option (List Int)
  | 0, _, _, _ => none
  | k + 1, objs, i, o => if i < (o.length : Int) then (if 0 ≤ i ∧ 0 ≤ wrap64 (rd o i - 1) ∧ wrap64 (rd o i - 1) < (objs.length : Int) then ((g_comes k (objs.length + 1) (rd_T48 objs (wrap64 (rd o i - 1))).f1 0 o).bind fun o' => g_walk k objs (wrap64 (i + 1)) o') else none) else some o
def g_num (o : List Int) (i : Int) : Int := if i ∈ o then ((o.idxOf i : Nat) : Int) + 1 else 0
def g_toL (n : Nat) (o : List Int) : List Int := (List.range n).map fun (i : Nat) => g_num o (i : Int)
def g_seenL (n : Nat) (o : List Int) : List Bool := (List.range n).map fun (i : Nat) => decide ((i : Int) ∈ o)
def g_out : Nat → List GObj → List Int → List Int → Int → List GObj → Option (List GObj)
  | 0, _, _, _, _, _ => none
  | k + 1, objs, tl, o, i, g => if i < (o.length : Int) then (if 0 ≤ i ∧ 0 ≤ wrap64 (rd o i - 1) ∧ wrap64 (rd o i - 1) < (objs.length : Int) then ((impl_moveVals.f k (rd_T48 objs (wrap64 (rd o i - 1))).f1 tl).bind fun vs => (if g.length < 4398046511104 then g_out k objs tl o (wrap64 (i + 1)) (g ++ [(⟨(rd_T48 objs (wrap64 (rd o i - 1))).f0, vs⟩ : GObj)]) else none)) else none) else some g
theorem length_toL (n : Nat) (o : List Int) : (g_toL n o).length = n := by simp [g_toL]
theorem length_seenL (n : Nat) (o : List Int) : (g_seenL n o).length = n := by simp [g_seenL]
theorem idxOf_app_mem {i m : Int} : ∀ {o : List Int}, i ∈ o → (o ++ [m]).idxOf i = o.idxOf i
  | [], h => by simp at h
  | a :: o, h => by
    rw [List.cons_append, List.idxOf_cons, List.idxOf_cons]
    by_cases e : a = i
    · subst e; simp
    · have : i ∈ o := by simpa [show ¬ i = a from fun h => e h.symm] using h
      rw [idxOf_app_mem this]
theorem idxOf_app_not {m : Int} : ∀ {o : List Int}, m ∉ o → (o ++ [m]).idxOf m = o.length
  | [], h => by simp
  | a :: o, h => by
    have h1 : ¬ m = a := by intro e; exact h (by simp [e])
    have h2 : m ∉ o := fun e => h (by simp [e])
    rw [List.cons_append, List.idxOf_cons, idxOf_app_not h2]
    have : (a == m) = false := by simpa using fun e : a = m => h1 e.symm
    rw [this]; simp
theorem g_num_old {o : List Int} {m i : Int} (h : i ≠ m) : g_num (o ++ [m]) i = g_num o i := by
  unfold g_num
  by_cases hi : i ∈ o
  · rw [if_pos hi, if_pos (by simp [hi]), idxOf_app_mem hi]
  · rw [if_neg hi, if_neg (by simp [hi, h])]
theorem g_num_new {o : List Int} {m : Int} (h : m ∉ o) : g_num (o ++ [m]) m = (o.length : Int) + 1 := by
  unfold g_num
  rw [if_pos (by simp), idxOf_app_not h]
theorem g_toL_snoc {n : Nat} {o : List Int} {m : Int} (h0 : 0 ≤ m) (h : m ∉ o) : g_toL n (o ++ [m]) = (g_toL n o).set m.toNat ((o.length : Int) + 1) := by
  apply List.ext_getElem?
  intro i
  by_cases hi : i < n
  · by_cases e : m.toNat = i
    · subst e
      rw [List.getElem?_set_self (by rw [length_toL]; exact hi)]
      have : ((m.toNat : Nat) : Int) = m := Int.toNat_of_nonneg h0
      simp [g_toL, hi, this, g_num_new h]
    · rw [List.getElem?_set_ne e]
      have : ((i : Nat) : Int) ≠ m := by omega
      simp [g_toL, hi, g_num_old this]
  · rw [List.getElem?_eq_none (by rw [length_toL]; omega), List.getElem?_eq_none (by rw [List.length_set, length_toL]; omega)]
theorem g_seenL_snoc {n : Nat} {o : List Int} {m : Int} (h0 : 0 ≤ m) : g_seenL n (o ++ [m]) = (g_seenL n o).set m.toNat true := by
  apply List.ext_getElem?
  intro i
  by_cases hi : i < n
  · by_cases e : m.toNat = i
    · subst e
      rw [List.getElem?_set_self (by rw [length_seenL]; exact hi)]
      have : ((m.toNat : Nat) : Int) = m := Int.toNat_of_nonneg h0
      simp [g_seenL, hi, this]
    · rw [List.getElem?_set_ne e]
      have : ((i : Nat) : Int) ≠ m := by omega
      simp [g_seenL, hi, this]
  · rw [List.getElem?_eq_none (by rw [length_seenL]; omega), List.getElem?_eq_none (by rw [List.length_set, length_seenL]; omega)]
theorem g_seenL_nil (n : Nat) : g_seenL n [] = List.replicate n false := by
  apply List.ext_getElem (by simp [length_seenL])
  intro i h1 h2
  simp [g_seenL]
theorem g_toL_nil (n : Nat) : g_toL n [] = List.replicate n 0 := by
  apply List.ext_getElem (by simp [length_toL])
  intro i h1 h2
  simp [g_toL, g_num]
theorem g_seenL_get {n : Nat} {o : List Int} {i : Int} (h0 : 0 ≤ i) (h1 : i < (n : Int)) : (g_seenL n o)[i.toNat]? = some (decide (i ∈ o)) := by
  have : ((i.toNat : Nat) : Int) = i := Int.toNat_of_nonneg h0
  simp [g_seenL, show i.toNat < n by omega, this]
def impl_HeapGraph.f (k : Nat) (l0 : List GObj) (l1 : List GVal) : Option (List GObj × List GVal) :=
  (impl_HeapOk.f k l0 l1).bind fun ok => if ok = true then (if l0.length + 1 < 8796093022208 then ((g_comes k (l0.length + 1) l1 0 []).bind fun o1 => ((g_walk k l0 0 o1).bind fun o => ((g_out k l0 (g_toL (l0.length + 1) o) o 0 []).bind fun g => ((impl_moveVals.f k l1 (g_toL (l0.length + 1) o)).bind fun r => some (g, r))))) else none) else some ([], [])
end Go.Proofs.Yteeakklnlcjgbaa.P

end
section

namespace Go.Proofs.Yteeakklnlcjgbaa.P
open Go.RowKit Go.Proofs.YteeakklnlcjgbaaW.PrintWords Go.Proofs.YteeakklnlcjgbaaW.PrintLast Go.Proofs.YteeakklnlcjgbaaW.PrintMore
attribute [local go_sem] max2_int min2_int max_two min_two max_three min_three max_four min_four
set_option linter.unusedVariables false
set_option linter.unusedSimpArgs false
def laws_markValS.l0 : Nat → List (S46) → Int → Int → Option (Int × (List (S46)))
  | 0, _, _, _ => none
  | k + 1, x0, x1, x5 => if x5 < (x0.length : Int) then (if 0 ≤ x5 then ((some (x0.set (x5 : Int).toNat (⟨((Int.tmod x1 3) == 0), (rd_T46 x0 x5).f1⟩ : S46) : List (S46))).bind fun y254 => (laws_markValS.l0 k (y254.set (x5 : Int).toNat (⟨(rd_T46 y254 x5).f0, wrap64 (x1 + 1)⟩ : S46)) (wrap64 ((wrap64 (x1 + 1)) + 1)) (wrap64 (x5 + 1)))) else (none)) else (some (x1, x0))
def laws_markValS.f (k : Nat) (l0 : List (S46)) (a1 : Int) : Option (Int × (List (S46))) := laws_markValS.l0 k l0 a1 0
end Go.Proofs.Yteeakklnlcjgbaa.P

end
section

namespace Go.Proofs.Yteeakklnlcjgbaa.P
open Go Go.RowKit Go.Proofs.YteeakklnlcjgbaaW.PrintWords Go.Proofs.YteeakklnlcjgbaaW.PrintLast Go.Proofs.YteeakklnlcjgbaaW.PrintMore
set_option linter.unusedVariables false
def laws_markObjS.l0 : Nat → List (S48) → Int → Int → Option (Int × List (S48))
  | 0, _, _, _ => none
  | k + 1, xs, a, i => if i < (xs.length : Int) then (if 0 ≤ i then ((laws_markValS.f k ((rd_T48 xs i).f1) (wrap64 (a + 1))).bind fun p => (laws_markObjS.l0 k ((xs.set (i : Int).toNat (⟨a, (rd_T48 xs i).f1⟩ : S48)).set (i : Int).toNat (⟨a, p.2⟩ : S48)) p.1 (wrap64 (i + 1)))) else (none)) else (some (a, xs))
def laws_markObjS.f (k : Nat) (l0 : List (S48)) (a1 : Int) : Option (Int × List (S48)) := laws_markObjS.l0 k l0 a1 0
end Go.Proofs.Yteeakklnlcjgbaa.P

end
section

namespace Go.Proofs.Yteeakklnlcjgbaa.P
open Go.RowKit Go.Proofs.YteeakklnlcjgbaaW.PrintWords Go.Proofs.YteeakklnlcjgbaaW.PrintLast Go.Proofs.YteeakklnlcjgbaaW.PrintMore
attribute [local go_sem] max2_int min2_int max_two min_two max_three min_three max_four min_four
set_option linter.unusedVariables false
set_option linter.unusedSimpArgs false
def spec_l6In.f (a0 : Int) (a1 : Int) (a2 : Int) : Option (Bool) := if a0 ≥ a1 then (some (decide (a0 ≤ a2))) else (some false)
end Go.Proofs.Yteeakklnlcjgbaa.P

end
section

namespace Go.Proofs.Yteeakklnlcjgbaa.P
open Go.RowKit Go.Proofs.YteeakklnlcjgbaaW.PrintWords Go.Proofs.YteeakklnlcjgbaaW.PrintLast Go.Proofs.YteeakklnlcjgbaaW.PrintMore
attribute [local go_sem] max2_int min2_int max_two min_two max_three min_three max_four min_four
set_option linter.unusedVariables false
set_option linter.unusedSimpArgs false
def spec_l12Val.f (a0_0 : Bool) (a0_1 : Int) (a1 : Int) : Option (Bool) := if a0_0 = true then ((spec_l6In.f a0_1 0 a1).bind fun t139 => (some t139)) else (some true)
end Go.Proofs.Yteeakklnlcjgbaa.P

end
section

namespace Go.Proofs.Yteeakklnlcjgbaa.P
open Go.RowKit Go.Proofs.YteeakklnlcjgbaaW.PrintWords Go.Proofs.YteeakklnlcjgbaaW.PrintLast Go.Proofs.YteeakklnlcjgbaaW.PrintMore
attribute [local go_sem] max2_int min2_int max_two min_two max_three min_three max_four min_four
set_option linter.unusedVariables false
set_option linter.unusedSimpArgs false
mutual
def spec_HeapOk.l0 : Nat → List (S48) → List (S46) → Int → Option (Bool)
  | 0, _, _, _ => none
  | k + 1, x0, x1, x5 => if x5 < (x1.length : Int) then (if 0 ≤ x5 then ((spec_l12Val.f ((rd_T46 x1 x5).f0) ((rd_T46 x1 x5).f1) (x0.length : Int)).bind fun t141 => (if t141 = true then (spec_HeapOk.l0 k x0 x1 (wrap64 (x5 + 1))) else (some false))) else (none)) else (spec_HeapOk.l1 k x0 0)
def spec_HeapOk.l1 : Nat → List (S48) → Int → Option (Bool)
  | 0, _, _ => none
  | k + 1, x0, x6 => if x6 < (x0.length : Int) then (spec_HeapOk.l2 k x0 x6 0) else (some true)
def spec_HeapOk.l2 : Nat → List (S48) → Int → Int → Option (Bool)
  | 0, _, _, _ => none
  | k + 1, x0, x6, x7 => if 0 ≤ x6 then (if x6 < (x0.length : Int) then (if x7 < (((rd_T48 x0 x6).f1).length : Int) then (if 0 ≤ x7 then ((spec_l12Val.f ((rd_T46 ((rd_T48 x0 x6).f1) x7).f0) ((rd_T46 ((rd_T48 x0 x6).f1) x7).f1) (x0.length : Int)).bind fun t145 => (if t145 = true then (spec_HeapOk.l2 k x0 x6 (wrap64 (x7 + 1))) else (some false))) else (none)) else (spec_HeapOk.l1 k x0 (wrap64 (x6 + 1)))) else (none)) else (none)
end
def spec_HeapOk.f (k : Nat) (l0 : List (S48)) (l1 : List (S46)) : Option (Bool) := spec_HeapOk.l0 k l0 l1 0
end Go.Proofs.Yteeakklnlcjgbaa.P

end
section

namespace Go.Proofs.Yteeakklnlcjgbaa.P
open Go Go.RowKit Go.Proofs.YteeakklnlcjgbaaW.PrintWords Go.Proofs.YteeakklnlcjgbaaW.PrintLast Go.Proofs.YteeakklnlcjgbaaW.PrintMore
set_option linter.unusedVariables false
structure GA where
  N : Nat
  bs : Nat
  gs : Nat
  bq : Nat
  bj : Nat
  bt : Nat
  gt : Nat
  bo : Nat
  L : Nat
  D : Nat
  rc : Loop
  bb : Nat
  vb : Value
def intV (l : List Int) : List Value := l.map (Value.int .i64)
def boolV (l : List Bool) : List Value := l.map Value.bool
structure GC (B : Nat) (a : GA) (oo ot : List Int) (vo : Value) (w : World) : Prop where
  tB : w.heap[a.bt]? = some (.cells #[.slice (some ⟨a.gt, 0, none⟩) a.N a.N] 55 (0, 0))
  t : w.heap[a.gt]? = some (.cells (intV (g_toL a.N ot)).toArray 3 (0, 0))
  oB : w.heap[a.bo]? = some (.cells #[vo] 55 (0, 0))
  o : w.ownsRow B 3 1 vo oo.length (intV oo)
  on : vo.ownBlock ≠ some a.gt
  rc : w.heap[a.L]? = some (.loop a.rc)
  df : w.heap[a.D]? = some (.deferred (some []))
  ge : B ≤ a.gt ∧ B ≤ a.bo ∧ B ≤ a.L
  ne : a.bo ≠ a.bt
structure GI (B : Nat) (a : GA) (os oq : List Int) (vq : Value) (w : World) : Prop where
  sB : w.heap[a.bs]? = some (.cells #[.slice (some ⟨a.gs, 0, none⟩) a.N a.N] 79 (0, 0))
  s : w.heap[a.gs]? = some (.cells (boolV (g_seenL a.N os)).toArray 4 (0, 0))
  qB : w.heap[a.bq]? = some (.cells #[vq] 55 (0, 0))
  q : w.ownsRow B 3 1 vq oq.length (intV oq)
  yB : w.heap[a.bj]? = some (.cells #[.func (.yield a.L) #[] #[]] 24 (0, 0))
  jB : w.heap[a.bb]? = some (.cells #[a.vb] 33 (0, 0))
  ge : B ≤ a.gs ∧ B ≤ a.bq
  ne : a.bq ≠ a.bo ∧ a.bq ≠ a.bt
  qt : vq.ownBlock ≠ some a.gt
def GX (vq vo : Value) : Prop := ∀ b, vq.ownBlock = some b → vo.ownBlock ≠ some b
theorem ne_blk {w : World} {a b : Nat} {x y : Obj} (h1 : w.heap[a]? = some x) (h2 : w.heap[b]? = some y) (h : x ≠ y) : a ≠ b := by
  rintro rfl
  rw [h1] at h2
  exact h (Option.some.inj h2)
theorem own_ne {w : World} {B k : Nat} {v : Value} {xs : List Value} {e : TypeId} {n b : Nat} {y : Obj} (h : w.ownsRow B e n v k xs) (h2 : w.heap[b]? = some y) (hy : ∀ cs, y ≠ .cells cs e (0, 0)) : v.ownBlock ≠ some b := by
  rcases h.2 with ⟨rfl, _⟩ | ⟨g, cap, cur, rfl, _, hg, _⟩
  · simp [Value.ownBlock]
  · intro e'
    obtain rfl : g = b := by simpa [Value.ownBlock] using e'
    rw [hg] at h2
    exact hy cur (Option.some.inj h2).symm
theorem own_lt {w : World} {B k : Nat} {v : Value} {xs : List Value} {e : TypeId} {n b : Nat} (h : w.ownsRow B e n v k xs) (hb : v.ownBlock = some b) : b < w.heap.size ∧ B ≤ b := by
  rcases h.2 with ⟨rfl, _⟩ | ⟨g, cap, cur, rfl, hB, hg, _⟩
  · simp [Value.ownBlock] at hb
  · obtain rfl : g = b := by simpa [Value.ownBlock] using hb
    exact ⟨(Array.getElem?_eq_some_iff.1 hg).1, hB⟩
theorem own_slice {w : World} {B k : Nat} {v : Value} {xs : List Value} {e : TypeId} {n : Nat} (h : w.ownsRow B e n v k xs) : ∃ A c, v = .slice A k c ∧ k ≤ c := by
  rcases h.2 with ⟨rfl, rfl⟩ | ⟨g, cap, cur, rfl, _, _, h1, _⟩
  · exact ⟨none, 0, rfl, Nat.le_refl _⟩
  · exact ⟨_, cap, rfl, h1⟩
theorem own_read {w : World} {B k c : Nat} {A : Option Addr} {xs : List Int} {e : TypeId} (h : w.ownsRow B e 1 (.slice A k c) k (intV xs)) (hk : k = xs.length) (i : Int) (h0 : 0 ≤ i) (h1 : i < (k : Int)) : ∃ g, A = some ⟨g, 0, none⟩ ∧ w.cell? ⟨g, i.toNat, none⟩ = some (.int .i64 (rd xs i)) := by
  rcases h.2 with ⟨_, rfl⟩ | ⟨g, cap, cur, hv, _, hg, h2, _, h4, h5⟩
  · omega
  · refine ⟨g, by injection hv, ?_⟩
    rw [blk_cell hg, ← Array.getElem?_toList]
    have h6 : (cur.toList.take (k * 1))[i.toNat]? = (intV xs)[i.toNat]? := by rw [h5]
    rw [List.getElem?_take_of_lt (by omega)] at h6
    have hl : i.toNat < xs.length := by omega
    rw [h6]
    simp [intV, rd, List.getElem?_eq_getElem hl]
theorem GC.kept {B : Nat} {a : GA} {oo ot : List Int} {vo : Value} {w w' : World} {row : Option Nat} (h : GC B a oo ot vo w) (hg : w.grownBy w' row)
    (hr : ∀ r, row = some r → r ≠ a.bt ∧ r ≠ a.gt ∧ r ≠ a.bo ∧ vo.ownBlock ≠ some r ∧ r ≠ a.L ∧ r ≠ a.D) : GC B a oo ot vo w' := by
  have ne : ∀ {x : Nat}, (∀ r, row = some r → r ≠ x) → some x ≠ row := fun hx e => hx _ e.symm rfl
  exact ⟨blk_grown h.tB hg (ne fun r e => (hr r e).1), blk_grown h.t hg (ne fun r e => (hr r e).2.1), blk_grown h.oB hg (ne fun r e => (hr r e).2.2.1),
    h.o.kept hg (by
      cases hv : vo.ownBlock with
      | none => exact .inl rfl
      | some b => exact .inr fun e => (hr b e.symm).2.2.2.1 hv),
    h.on, blk_grown h.rc hg (ne fun r e => (hr r e).2.2.2.2.1), blk_grown h.df hg (ne fun r e => (hr r e).2.2.2.2.2), h.ge, h.ne⟩
theorem GI.kept {B : Nat} {a : GA} {os oq : List Int} {vq : Value} {w w' : World} {row : Option Nat} (h : GI B a os oq vq w) (hg : w.grownBy w' row)
    (hr : ∀ r, row = some r → r ≠ a.bs ∧ r ≠ a.gs ∧ r ≠ a.bq ∧ vq.ownBlock ≠ some r ∧ r ≠ a.bj ∧ r ≠ a.bb) : GI B a os oq vq w' := by
  have ne : ∀ {x : Nat}, (∀ r, row = some r → r ≠ x) → some x ≠ row := fun hx e => hx _ e.symm rfl
  exact ⟨blk_grown h.sB hg (ne fun r e => (hr r e).1), blk_grown h.s hg (ne fun r e => (hr r e).2.1), blk_grown h.qB hg (ne fun r e => (hr r e).2.2.1),
    h.q.kept hg (by
      cases hv : vq.ownBlock with
      | none => exact .inl rfl
      | some b => exact .inr fun e => (hr b e.symm).2.2.2.1 hv),
    blk_grown h.yB hg (ne fun r e => (hr r e).2.2.2.2.1), blk_grown h.jB hg (ne fun r e => (hr r e).2.2.2.2.2), h.ge, h.ne, h.qt⟩
theorem GC.alloc {B : Nat} {a : GA} {oo ot : List Int} {vo : Value} {w : World} (h : GC B a oo ot vo w) (o : Obj) : GC B a oo ot vo (w.alloc o) := h.kept (World.grownBy_alloc w o none) (fun r e => by cases e)
theorem GI.alloc {B : Nat} {a : GA} {os oq : List Int} {vq : Value} {w : World} (h : GI B a os oq vq w) (o : Obj) : GI B a os oq vq (w.alloc o) := h.kept (World.grownBy_alloc w o none) (fun r e => by cases e)
theorem GC.drewN {B : Nat} {a : GA} {oo ot : List Int} {vo : Value} {w : World} (h : GC B a oo ot vo w) (n : Nat) : GC B a oo ot vo (w.drewN n) := ⟨h.tB, h.t, h.oB, h.o, h.on, h.rc, h.df, h.ge, h.ne⟩
theorem GI.drewN {B : Nat} {a : GA} {os oq : List Int} {vq : Value} {w : World} (h : GI B a os oq vq w) (n : Nat) : GI B a os oq vq (w.drewN n) := ⟨h.sB, h.s, h.qB, h.q, h.yB, h.jB, h.ge, h.ne, h.qt⟩
theorem GC.drew {B : Nat} {a : GA} {oo ot : List Int} {vo : Value} {w : World} (h : GC B a oo ot vo w) : GC B a oo ot vo w.drew := ⟨h.tB, h.t, h.oB, h.o, h.on, h.rc, h.df, h.ge, h.ne⟩
theorem GI.drew {B : Nat} {a : GA} {os oq : List Int} {vq : Value} {w : World} (h : GI B a os oq vq w) : GI B a os oq vq w.drew := ⟨h.sB, h.s, h.qB, h.q, h.yB, h.jB, h.ge, h.ne, h.qt⟩
theorem grown_set (w : World) (g i : Nat) (v : Value) : w.grownBy (w.setCell ⟨g, i, none⟩ v) (some g) :=
  ⟨rfl, rfl, rfl, by simp [World.setCell], fun k _ hk => Below.heap_setCell _ _ _ k (fun e => hk (by rw [e]))⟩
section
variable {B : Nat} {a : GA} {os oq oo ot : List Int} {vq vo : Value} {w : World}
theorem cells_ne {cs cs' : Array Value} {t t' : TypeId} (h : t ≠ t') : Obj.cells cs t (0, 0) ≠ Obj.cells cs' t' (0, 0) := by
  intro e
  cases e
  exact h rfl
theorem GC.far (h : GC B a oo ot vo w) (hI : GI B a os oq vq w) (hX : GX vq vo) : ∀ r, (r = a.gs ∨ r = a.bq ∨ vq.ownBlock = some r) → r ≠ a.bt ∧ r ≠ a.gt ∧ r ≠ a.bo ∧ vo.ownBlock ≠ some r ∧ r ≠ a.L ∧ r ≠ a.D := by
  rintro r (rfl | rfl | hr)
  · exact ⟨ne_blk hI.s h.tB (cells_ne (by decide)), ne_blk hI.s h.t (cells_ne (by decide)), ne_blk hI.s h.oB (cells_ne (by decide)), own_ne h.o hI.s (fun _ => cells_ne (by decide)), ne_blk hI.s h.rc (by intro e; cases e), ne_blk hI.s h.df (by intro e; cases e)⟩
  · exact ⟨hI.ne.2, ne_blk hI.qB h.t (cells_ne (by decide)), hI.ne.1, own_ne h.o hI.qB (fun _ => cells_ne (by decide)), ne_blk hI.qB h.rc (by intro e; cases e), ne_blk hI.qB h.df (by intro e; cases e)⟩
  · refine ⟨fun e => own_ne hI.q h.tB (fun _ => cells_ne (by decide)) (e ▸ hr), fun e => hI.qt (e ▸ hr), fun e => own_ne hI.q h.oB (fun _ => cells_ne (by decide)) (e ▸ hr), hX r hr, fun e => own_ne hI.q h.rc (by intro _ e; cases e) (e ▸ hr), fun e => own_ne hI.q h.df (by intro _ e; cases e) (e ▸ hr)⟩
theorem GI.far (h : GC B a oo ot vo w) (hI : GI B a os oq vq w) (hX : GX vq vo) : ∀ r, (r = a.gt ∨ r = a.bo ∨ r = a.L ∨ vo.ownBlock = some r) → r ≠ a.bs ∧ r ≠ a.gs ∧ r ≠ a.bq ∧ vq.ownBlock ≠ some r ∧ r ≠ a.bj ∧ r ≠ a.bb := by
  rintro r (rfl | rfl | rfl | hr)
  · exact ⟨ne_blk h.t hI.sB (cells_ne (by decide)), ne_blk h.t hI.s (cells_ne (by decide)), ne_blk h.t hI.qB (cells_ne (by decide)), hI.qt, ne_blk h.t hI.yB (cells_ne (by decide)), ne_blk h.t hI.jB (cells_ne (by decide))⟩
  · exact ⟨ne_blk h.oB hI.sB (cells_ne (by decide)), ne_blk h.oB hI.s (cells_ne (by decide)), fun e => hI.ne.1 e.symm, own_ne hI.q h.oB (fun _ => cells_ne (by decide)), ne_blk h.oB hI.yB (cells_ne (by decide)), ne_blk h.oB hI.jB (cells_ne (by decide))⟩
  · exact ⟨ne_blk h.rc hI.sB (by intro e; cases e), ne_blk h.rc hI.s (by intro e; cases e), ne_blk h.rc hI.qB (by intro e; cases e), own_ne hI.q h.rc (by intro _ e; cases e), ne_blk h.rc hI.yB (by intro e; cases e), ne_blk h.rc hI.jB (by intro e; cases e)⟩
  · exact ⟨fun e => own_ne h.o hI.sB (fun _ => cells_ne (by decide)) (e ▸ hr), fun e => own_ne h.o hI.s (fun _ => cells_ne (by decide)) (e ▸ hr), fun e => own_ne h.o hI.qB (fun _ => cells_ne (by decide)) (e ▸ hr), fun e => hX r e hr, fun e => own_ne h.o hI.yB (fun _ => cells_ne (by decide)) (e ▸ hr), fun e => own_ne h.o hI.jB (fun _ => cells_ne (by decide)) (e ▸ hr)⟩
theorem set_map {α : Type} (f : α → Value) (l : List α) (i : Nat) (x : α) : ((l.map f).toArray).setIfInBounds i (f x) = ((l.set i x).map f).toArray := by
  rw [List.map_set]; simp
theorem GI.see (hI : GI B a os oq vq w) (hC : GC B a oo ot vo w) (hX : GX vq vo) {m : Int} (h0 : 0 ≤ m) :
    GI B a (os ++ [m]) oq vq (w.setCell ⟨a.gs, m.toNat, none⟩ (.bool true)) ∧ GC B a oo ot vo (w.setCell ⟨a.gs, m.toNat, none⟩ (.bool true)) := by
  have hg := grown_set w a.gs m.toNat (.bool true)
  refine ⟨⟨blk_grown hI.sB hg (by intro e; exact ne_blk hI.sB hI.s (cells_ne (by decide)) (Option.some.inj e)), ?_, blk_grown hI.qB hg (by intro e; exact ne_blk hI.qB hI.s (cells_ne (by decide)) (Option.some.inj e)),
    hI.q.kept hg (.inr (own_ne hI.q hI.s (fun _ => cells_ne (by decide)))), blk_grown hI.yB hg (by intro e; exact ne_blk hI.yB hI.s (cells_ne (by decide)) (Option.some.inj e)), blk_grown hI.jB hg (by intro e; exact ne_blk hI.jB hI.s (cells_ne (by decide)) (Option.some.inj e)), hI.ge, hI.ne, hI.qt⟩,
    hC.kept hg (fun r e => hC.far hI hX r (.inl (Option.some.inj e).symm))⟩
  have := blk_set hI.s m.toNat (.bool true)
  rw [boolV, set_map] at this
  rwa [g_seenL_snoc h0]
theorem GI.push (hI : GI B a os oq vq w) (hC : GC B a oo ot vo w) (hX : GX vq vo) {m : Int} {tmp : Obj} {v' : Value} {w1 : World} {r : Nat}
    (hown : w1.ownsRow B 3 1 v' r (intV oq ++ [.int .i64 m])) (hr : r = oq.length + 1) (hg : (w.alloc tmp).grownBy w1 vq.ownBlock) (hat : v'.ownBlock = vq.ownBlock ∨ v'.ownBlock = some (w.alloc tmp).heap.size) :
    w1.heap[a.bq]? = some (.cells #[vq] 55 (0, 0)) ∧ GI B a os (oq ++ [m]) v' (w1.setCell ⟨a.bq, 0, none⟩ v') ∧ GC B a oo ot vo (w1.setCell ⟨a.bq, 0, none⟩ v') ∧ GX v' vo := by
  subst hr
  have hI0 := hI.alloc tmp
  have hC0 := hC.alloc tmp
  have hC1 := hC0.kept hg (fun r e => hC0.far hI0 hX r (.inr (.inr e)))
  have f1 : ∀ {b : Nat} {y : Obj}, (w.alloc tmp).heap[b]? = some y → (∀ cs, y ≠ .cells cs 3 (0, 0)) → w1.heap[b]? = some y := fun hb hy => blk_grown hb hg (fun e => own_ne hI0.q hb hy e.symm)
  have hq1 := f1 hI0.qB (fun _ => cells_ne (by decide))
  have hs1 := f1 hI0.s (fun _ => cells_ne (by decide))
  have hsb := f1 hI0.sB (fun _ => cells_ne (by decide))
  have hyb := f1 hI0.yB (fun _ => cells_ne (by decide))
  have hjb := f1 hI0.jB (fun _ => cells_ne (by decide))
  have hX1 : GX v' vo := by
    intro b hb hvo
    rcases hat with h | h
    · exact hX b (h ▸ hb) hvo
    · rw [h] at hb
      have h1 := (own_lt hC0.o hvo).1
      have := Option.some.inj hb
      omega
  have hqt : v'.ownBlock ≠ some a.gt := by
    intro hb
    rcases hat with h | h
    · exact hI.qt (h ▸ hb)
    · rw [h] at hb
      have h1 := (Array.getElem?_eq_some_iff.1 hC0.t).1
      have := Option.some.inj hb
      omega
  have hg2 := grown_set w1 a.bq 0 v'
  have hlen : (oq ++ [m]).length = oq.length + 1 := by simp
  have hown' : w1.ownsRow B 3 1 v' (oq ++ [m]).length (intV (oq ++ [m])) := by
    rw [hlen, show intV (oq ++ [m]) = intV oq ++ [.int .i64 m] from by simp [intV]]
    exact hown
  refine ⟨hq1, ⟨blk_grown hsb hg2 (by intro e; exact ne_blk hsb hq1 (cells_ne (by decide)) (Option.some.inj e)), blk_grown hs1 hg2 (by intro e; exact ne_blk hs1 hq1 (cells_ne (by decide)) (Option.some.inj e)), blk_put hq1 0 v' rfl,
    hown'.kept hg2 (.inr (own_ne hown' hq1 (fun _ => cells_ne (by decide)))), blk_grown hyb hg2 (by intro e; exact ne_blk hyb hq1 (cells_ne (by decide)) (Option.some.inj e)), blk_grown hjb hg2 (by intro e; exact ne_blk hjb hq1 (cells_ne (by decide)) (Option.some.inj e)), hI.ge, hI.ne, hqt⟩, ?_, hX1⟩
  exact hC1.kept hg2 (fun r e => by
    obtain rfl := Option.some.inj e
    exact hC0.far hI0 hX a.bq (.inr (.inl rfl)))
theorem GC.push (hI : GI B a os oq vq w) (hC : GC B a oo ot vo w) (hX : GX vq vo) {m : Int} {tmp : Obj} {v' : Value} {w1 : World} {r : Nat}
    (hown : w1.ownsRow B 3 1 v' r (intV oo ++ [.int .i64 m])) (hr : r = oo.length + 1) (hg : (w.alloc tmp).grownBy w1 vo.ownBlock) (hat : v'.ownBlock = vo.ownBlock ∨ v'.ownBlock = some (w.alloc tmp).heap.size) :
    w1.heap[a.bo]? = some (.cells #[vo] 55 (0, 0)) ∧ GI B a os oq vq (w1.setCell ⟨a.bo, 0, none⟩ v') ∧ GC B a (oo ++ [m]) ot v' (w1.setCell ⟨a.bo, 0, none⟩ v') ∧ GX vq v' := by
  subst hr
  have hI0 := hI.alloc tmp
  have hC0 := hC.alloc tmp
  have hI1 := hI0.kept hg (fun r e => GI.far hC0 hI0 hX r (.inr (.inr (.inr e))))
  have f1 : ∀ {b : Nat} {y : Obj}, (w.alloc tmp).heap[b]? = some y → (∀ cs, y ≠ .cells cs 3 (0, 0)) → w1.heap[b]? = some y := fun hb hy => blk_grown hb hg (fun e => own_ne hC0.o hb hy e.symm)
  have hq1 := f1 hC0.oB (fun _ => cells_ne (by decide))
  have htb := f1 hC0.tB (fun _ => cells_ne (by decide))
  have hrc := f1 hC0.rc (by intro _ e; cases e)
  have hdf := f1 hC0.df (by intro _ e; cases e)
  have ht1 := blk_grown hC0.t hg (fun e => hC.on e.symm)
  have hX1 : GX vq v' := by
    intro b hb hvo
    rcases hat with h | h
    · exact hX b hb (h ▸ hvo)
    · rw [h] at hvo
      have h1 := (own_lt hI0.q hb).1
      have := Option.some.inj hvo
      omega
  have hqt : v'.ownBlock ≠ some a.gt := by
    intro hb
    rcases hat with h | h
    · exact hC.on (h ▸ hb)
    · rw [h] at hb
      have h1 := (Array.getElem?_eq_some_iff.1 hC0.t).1
      have := Option.some.inj hb
      omega
  have hg2 := grown_set w1 a.bo 0 v'
  have hlen : (oo ++ [m]).length = oo.length + 1 := by simp
  have hown' : w1.ownsRow B 3 1 v' (oo ++ [m]).length (intV (oo ++ [m])) := by
    rw [hlen, show intV (oo ++ [m]) = intV oo ++ [.int .i64 m] from by simp [intV]]
    exact hown
  refine ⟨hq1, ?_, ⟨blk_grown htb hg2 (by intro e; exact hC.ne (Option.some.inj e).symm), blk_grown ht1 hg2 (by intro e; exact ne_blk ht1 hq1 (cells_ne (by decide)) (Option.some.inj e)), blk_put hq1 0 v' rfl,
    hown'.kept hg2 (.inr (own_ne hown' hq1 (fun _ => cells_ne (by decide)))), hqt, blk_grown hrc hg2 (by intro e; exact ne_blk hrc hq1 (by intro e; cases e) (Option.some.inj e)), blk_grown hdf hg2 (by intro e; exact ne_blk hdf hq1 (by intro e; cases e) (Option.some.inj e)), hC.ge, hC.ne⟩, hX1⟩
  exact hI1.kept hg2 (fun r e => by
    obtain rfl := Option.some.inj e
    exact GI.far hC0 hI0 hX a.bo (.inr (.inl rfl)))
theorem GC.mark (hI : GI B a os oq vq w) (hC : GC B a oo ot vo w) (hX : GX vq vo) {m u : Int} (h0 : 0 ≤ m) (hm : m ∉ ot) (hu : u = (ot.length : Int) + 1) :
    GI B a os oq vq (w.setCell ⟨a.gt, m.toNat, none⟩ (.int .i64 u)) ∧ GC B a oo (ot ++ [m]) vo (w.setCell ⟨a.gt, m.toNat, none⟩ (.int .i64 u)) := by
  subst hu
  have hg := grown_set w a.gt m.toNat (.int .i64 ((ot.length : Int) + 1))
  refine ⟨hI.kept hg (fun r e => GI.far hC hI hX r (.inl (Option.some.inj e).symm)), ⟨blk_grown hC.tB hg (by intro e; exact ne_blk hC.tB hC.t (cells_ne (by decide)) (Option.some.inj e)), ?_, blk_grown hC.oB hg (by intro e; exact ne_blk hC.oB hC.t (cells_ne (by decide)) (Option.some.inj e)),
    hC.o.kept hg (.inr hC.on), hC.on, blk_grown hC.rc hg (by intro e; exact ne_blk hC.rc hC.t (by intro e; cases e) (Option.some.inj e)), blk_grown hC.df hg (by intro e; exact ne_blk hC.df hC.t (by intro e; cases e) (Option.some.inj e)), hC.ge, hC.ne⟩⟩
  have := blk_set hC.t m.toNat (.int .i64 ((ot.length : Int) + 1))
  rw [intV, set_map] at this
  rwa [g_toL_snoc h0 hm]
end
end Go.Proofs.Yteeakklnlcjgbaa.P

end
section

namespace Go.Proofs.Yteeakklnlcjgbaa.P
set_option linter.unusedVariables false
open Go Go.RowKit Go.Proofs.YteeakklnlcjgbaaW.PrintWords Go.Proofs.YteeakklnlcjgbaaW.PrintLast Go.Proofs.YteeakklnlcjgbaaW.PrintMore
theorem lt_alloc {w : World} {g : Nat} (h : g < w.heap.size) (o : Obj) : g < (w.alloc o).heap.size := Nat.lt_of_lt_of_le h (below_size (below_alloc (Below.refl _ _) o))
theorem lt_drewN {w : World} {g : Nat} (h : g < w.heap.size) (n : Nat) : g < (w.drewN n).heap.size := h
theorem lt_drew {w : World} {g : Nat} (h : g < w.heap.size) : g < w.drew.heap.size := h
theorem lt_set {w : World} {g : Nat} (h : g < w.heap.size) (p : Addr) (u : Value) : g < (w.setCell p u).heap.size := by simpa [World.setCell] using h
section
variable {w W W0 w1 : World} {g g' : Nat} {o : Obj}
theorem kq (_ : Aside0 (W0.heap[g]? = some o)) (hb : Below W.heap.size W w1) (h : W.heap[g]? = some o := by (repeat (first | (with_reducible first | refine blk_drewN ?_ _ | refine blk_drew ?_ | refine blk_alloc ?_ _) | refine blk_far ?_ (Aside0.out (by assumption)) _)); exact Aside0.out (by assumption)) : Aside0 (w1.heap[g]? = some o) := ⟨blk_below h hb⟩
theorem hs (_ : Aside0 (Below w.heap.size w W0)) (hb : Below W.heap.size W w1) (h : Below w.heap.size w W := by repeat (first | (with_reducible first | exact Aside0.out (by assumption) | apply below_alloc | apply pw_below_drewN | apply below_drew1 | refine below_set ?_ (Aside0.out (by assumption))) | exact Aside0.out (by assumption))) : Aside0 (Below w.heap.size w w1) := ⟨below_step h hb⟩
theorem hz (_ : Aside0 (Below w.heap.size w W0)) (hg : g = W.heap.size) (h : Below w.heap.size w W := by repeat (first | (with_reducible first | exact Aside0.out (by assumption) | apply below_alloc | apply pw_below_drewN | apply below_drew1 | refine below_set ?_ (Aside0.out (by assumption))) | exact Aside0.out (by assumption))) : Aside0 (w.heap.size ≤ g) := ⟨by rw [hg]; exact below_size h⟩
theorem nl (_ : Aside0 (W0.heap[g]? = some o)) (hg : g' = W.heap.size) (h : g < W.heap.size := by (with_reducible repeat (first | refine lt_drewN ?_ _ | refine lt_drew ?_ | refine lt_alloc ?_ _ | refine lt_set ?_ _ _)); exact blk_lt (Aside0.out (by assumption))) : Aside0 (g ≠ g') := ⟨by rw [hg]; exact Nat.ne_of_lt h⟩
theorem hc {a : Addr} {v : Value} (HB : Aside0 (Below w.heap.size w W)) (h : w.cell? a = some v) : W.cell? a = some v := (HB.out.cell (World.block_lt_of_cell? w _ h)).trans h
end
section
variable {P : Program} {ops : Array Oper} {rest : List Oper} {o : Oper} {a : Act} {Q : Exit → Act → World → Prop} {W : World}
theorem gd (N : Tmp) (_hN : o.dst = some N) (h : wpList P ops Q (o :: rest) a W) : wpList P ops Q (o :: rest) a W := h
theorem gl {f : FuncId} {fn : Func} {ar : Array Operand} {ts : Array TypeId} (N : Option Tmp) (hf : P.funcs[f]? = some fn) (args : Array Value) (hop : o.op = .call { callee := .value (.func f), args := ar, argTypes := ts })
    (h : Calls P f args W fun e w' => ∃ v, e = .returned v ∧ wpList P ops Q rest (a.put N v) w') (hd : o.dst = N := by rfl) (hg : o.guard = none := by rfl) (hname : (fn.name == "runtime.NumGoroutine") = false := by kernel_rfl) (hb : fn.body.isSome = true := by rfl)
    (hargs : ar.map a.eval = args := by (try simp only [List.map_toArray, List.map_cons, List.map_nil]); first | done | rfl | (simp only [List.length_drop, List.length_take]; rfl)) : wpList P ops Q (o :: rest) a W := goesL_ N hd hg hf hname hb args hop hargs h
end
section
variable {P : Program} {md : Region.Mode} {ops : Array Oper} {Q : Exit → Act → World → Prop} {S : World → Prop} {ds : List Nat} {T : Bool × List (List Nat × List Nat)} {B : List Nat} {oi : Oper} {v : Value} {fuel : Nat} {l : Array Bool} {a a' : Act} {w : World}
theorem pu (i N : Nat) (l' : Array Bool) (hT : Aside0 (rtab md ops = T)) (hi : ops[i]? = some oi) (hN : oi.dst = some N) (h : wpAnyLast P md ops Q S ds fuel l' a' w) (hc : anyT T l.toList l'.toList i = true := by kernel_rfl) (hy : Yields P ops oi v a := by (refine Or.inl ⟨by rfl, ?_⟩; intro w'; go_simp; with_reducible rfl)) (ha : a.put (some N) v = a' := by (simp only [Act.put, List.setIfInBounds_toArray, List.set_cons_zero, List.set_cons_succ, i64_w, i32_w]; rfl)) (hQ : ∀ c a w, Q (.panic c) (a.put oi.dst v) w → Q (.panic c) a w := by exact fun _ _ _ h => h) : wpAnyLast P md ops Q S ds (fuel + 1) l a w := pure_ l' hi hN (any_of hT.out hc) hQ hy ha h
theorem pv (i N : Nat) (l' : Array Bool) (hT : Aside0 (rtab md ops = T)) (hi : ops[i]? = some oi) (hN : oi.dst = some N) (h : wpAnyLast P md ops Q S ds fuel l' a' w) (hc : anyT T l.toList l'.toList i = true := by kernel_rfl) (hy : Yields P ops oi undef a := by exact Or.inr ⟨by rfl, rfl⟩) (ha : a.put (some N) undef = a' := by (simp only [Act.put, List.setIfInBounds_toArray, List.set_cons_zero, List.set_cons_succ, i64_w, i32_w]; rfl)) (hQ : ∀ c a w, Q (.panic c) (a.put oi.dst undef) w → Q (.panic c) a w := by exact fun _ _ _ h => h) : wpAnyLast P md ops Q S ds (fuel + 1) l a w := pure_ l' hi hN (any_of hT.out hc) hQ hy ha h
theorem ta (i N : Nat) (l' : Array Bool) (hT : Aside0 (rtab md ops = T)) (hW : Aside0 (waitsOk T.2 B = true)) (hS : S w) (hi : ops[i]? = some oi) (hN : oi.dst = some N) (h : wpAnyLast P md ops Q S ds fuel l' a' w) (hc : takeW T B ds l.toList l'.toList i = true := by kernel_rfl) (hy : YieldsIf P ops S oi v a := by (refine Or.inl ⟨by rfl, ?_⟩; intro w' hs; (repeat (have hs1 := hs.1; replace hs := hs.2)); go_simp; with_reducible rfl)) (ha : a.put (some N) v = a' := by (simp only [Act.put, List.setIfInBounds_toArray, List.set_cons_zero, List.set_cons_succ, i64_w, i32_w]; rfl)) (hQ : ∀ c a w, Q (.panic c) (a.put oi.dst v) w → Q (.panic c) a w := by exact fun _ _ _ h => h) : wpAnyLast P md ops Q S ds (fuel + 1) l a w := take_ l' hi hN (take_ofW hT.out hW.out hc) hQ hy hS ha h
theorem no (N : Nat) (h : wpAnyLast P md ops Q S ds fuel l a' w) (ha : a.put (some N) v = a' := by (simp only [Act.put, List.setIfInBounds_toArray, List.set_cons_zero, List.set_cons_succ, i64_w, i32_w]; rfl)) : wpAnyLast P md ops Q S ds fuel l (a.put (some N) v) w := norm_ ha h
theorem gs {K : Act → World → Prop} {N : Option Tmp} {f : FuncId} {fn : Func} {ar : Array Operand} {ts : Array TypeId} (hf : P.funcs[f]? = some fn) (args : Array Value) (hN : oi.dst = N) (hop : oi.op = .call { callee := .value (.func f), args := ar, argTypes := ts })
    (h : Calls P f args w fun e w' => ∃ v, e = .returned v ∧ K (a.put N v) w') (hname : (fn.name == "runtime.NumGoroutine") = false := by kernel_rfl) (hb : fn.body.isSome = true := by rfl) (hw : Region.wanted oi (yielded ops a.tmps) = true := by rfl)
    (hargs : ar.map a.eval = args := by (try simp only [List.map_toArray, List.map_cons, List.map_nil]); first | done | rfl | (simp only [List.length_drop, List.length_take]; rfl)) : if Region.wanted oi (yielded ops a.tmps) = true then Oper.wp P oi a w K Q else K (a.put N undef) w := goes_ hf hname hb args hw hN hop hargs h
end
section
variable {α β : Type} {A B x : α}
end
theorem hc2 {w W : World} {a0 a1 : Addr} {v0 v1 : Value} (HB : Aside0 (Below w.heap.size w W)) (h0 : w.cell? a0 = some v0) (h1 : w.cell? a1 = some v1) : W.cell? a0 = some v0 ∧ W.cell? a1 = some v1 := ⟨hc HB h0, hc HB h1⟩
theorem hc3 {w W : World} {a0 a1 a2 : Addr} {v0 v1 v2 : Value} (HB : Aside0 (Below w.heap.size w W)) (h0 : w.cell? a0 = some v0) (h1 : w.cell? a1 = some v1) (h2 : w.cell? a2 = some v2) : W.cell? a0 = some v0 ∧ W.cell? a1 = some v1 ∧ W.cell? a2 = some v2 := ⟨hc HB h0, hc HB h1, hc HB h2⟩
end Go.Proofs.Yteeakklnlcjgbaa.P

end
section

namespace Go.Proofs.Yteeakklnlcjgbaa.P
open Go Go.RowKit Go.Proofs.YteeakklnlcjgbaaW.PrintWords Go.Proofs.YteeakklnlcjgbaaW.PrintLast Go.Proofs.YteeakklnlcjgbaaW.PrintMore
set_option linter.unusedVariables false
def dec1 (x : Int) : Int := wrap64 (x - 1)
def g_numL (n : Nat) (o : List Int) : List Int := (List.range n).map fun (i : Nat) => g_num o ((i : Int) + 1)
theorem length_numL (n : Nat) (o : List Int) : (g_numL n o).length = n := by simp [g_numL]
theorem g_numL_nil (n : Nat) : g_numL n [] = List.replicate n 0 := by
  apply List.ext_getElem (by simp [length_numL])
  intro i h1 h2
  simp [g_numL, g_num]
theorem g_numL_snoc {n : Nat} {o : List Int} {m : Int} (h0 : 0 < m) (h : m ∉ o) : g_numL n (o ++ [m]) = (g_numL n o).set (m - 1).toNat ((o.length : Int) + 1) := by
  obtain ⟨j, rfl⟩ : ∃ j : Nat, m = (j : Int) + 1 := ⟨(m - 1).toNat, by omega⟩
  rw [show ((j : Int) + 1 - 1).toNat = j by omega]
  apply List.ext_getElem?
  intro i
  by_cases hi : i < n
  · by_cases e : j = i
    · subst e
      rw [List.getElem?_set_self (by rw [length_numL]; exact hi)]
      simp [g_numL, hi, g_num_new h]
    · rw [List.getElem?_set_ne e]
      have : ((i : Nat) : Int) + 1 ≠ (j : Int) + 1 := by omega
      simp [g_numL, hi, g_num_old this]
  · rw [List.getElem?_eq_none (by rw [length_numL]; omega), List.getElem?_eq_none (by rw [List.length_set, length_numL]; omega)]
theorem numL_get {n : Nat} {o : List Int} {m : Int} (h0 : 0 < m) (h1 : m ≤ (n : Int)) : (intV (g_numL n o)).toArray[(m - 1).toNat]? = some (.int .i64 (g_num o m)) := by
  obtain ⟨j, rfl⟩ : ∃ j : Nat, m = (j : Int) + 1 := ⟨(m - 1).toNat, by omega⟩
  rw [show ((j : Int) + 1 - 1).toNat = j by omega]
  simp [intV, g_numL, show j < n by omega]
structure WS (B : Nat) (bw gn n : Nat) (oo on : List Int) (vo : Value) (w : World) : Prop where
  b : w.heap[bw]? = some (.cells #[.slice (some ⟨gn, 0, none⟩) n n, vo] 76 (0, 0))
  n : w.heap[gn]? = some (.cells (intV (g_numL n on)).toArray 3 (0, 0))
  o : w.ownsRow B 3 1 vo oo.length (intV (oo.map dec1))
  ne : vo.ownBlock ≠ some gn
  ge : B ≤ bw ∧ B ≤ gn
section
variable {B bw gn n : Nat} {oo on : List Int} {vo : Value} {w w' : World}
theorem WS.kept {row : Option Nat} (h : WS B bw gn n oo on vo w) (hg : w.grownBy w' row) (hr : ∀ r, row = some r → r ≠ bw ∧ r ≠ gn ∧ vo.ownBlock ≠ some r) : WS B bw gn n oo on vo w' := by
  have ne : ∀ {x : Nat}, (∀ r, row = some r → r ≠ x) → some x ≠ row := fun hx e => hx _ e.symm rfl
  exact ⟨blk_grown h.b hg (ne fun r e => (hr r e).1), blk_grown h.n hg (ne fun r e => (hr r e).2.1), h.o.kept hg (by
      cases hv : vo.ownBlock with
      | none => exact .inl rfl
      | some b => exact .inr fun e => (hr b e.symm).2.2 hv), h.ne, h.ge⟩
theorem WS.alloc (h : WS B bw gn n oo on vo w) (o : Obj) : WS B bw gn n oo on vo (w.alloc o) := h.kept (World.grownBy_alloc w o none) (fun r e => by cases e)
theorem WS.below (h : WS B bw gn n oo on vo w) (hb : Below w.heap.size w w') : WS B bw gn n oo on vo w' := h.kept (row := none) ⟨hb.os, hb.tape, hb.output, hb.size, fun k hk _ => hb.block k hk⟩ (fun r e => by cases e)
theorem WS.drew (h : WS B bw gn n oo on vo w) : WS B bw gn n oo on vo w.drew := ⟨h.b, h.n, h.o, h.ne, h.ge⟩
theorem WS.push (h : WS B bw gn n oo on vo w) {m : Int} {tmp : Obj} {v' : Value} {w1 : World} {r : Nat}
    (hown : w1.ownsRow B 3 1 v' r (intV (oo.map dec1) ++ [.int .i64 (dec1 m)])) (hr : r = oo.length + 1) (hg : (w.alloc tmp).grownBy w1 vo.ownBlock) (hat : v'.ownBlock = vo.ownBlock ∨ v'.ownBlock = some (w.alloc tmp).heap.size) :
    w1.heap[bw]? = some (.cells #[.slice (some ⟨gn, 0, none⟩) n n, vo] 76 (0, 0)) ∧ WS B bw gn n (oo ++ [m]) on v' (w1.setCell ⟨bw, 1, none⟩ v') := by
  subst hr
  have h0 := h.alloc tmp
  have f1 : ∀ {b : Nat} {y : Obj}, (w.alloc tmp).heap[b]? = some y → (∀ cs, y ≠ .cells cs 3 (0, 0)) → w1.heap[b]? = some y := fun hb hy => blk_grown hb hg (fun e => own_ne h0.o hb hy e.symm)
  have hb1 := f1 h0.b (fun _ => cells_ne (by decide))
  have hn1 := blk_grown h0.n hg (fun e => h.ne e.symm)
  have hne : v'.ownBlock ≠ some gn := by
    intro hb
    rcases hat with h' | h'
    · exact h.ne (h' ▸ hb)
    · rw [h'] at hb
      have h1 := (Array.getElem?_eq_some_iff.1 h0.n).1
      have := Option.some.inj hb
      omega
  have hg2 := grown_set w1 bw 1 v'
  have hown' : w1.ownsRow B 3 1 v' (oo ++ [m]).length (intV ((oo ++ [m]).map dec1)) := by
    rw [show (oo ++ [m]).length = oo.length + 1 from by simp, show intV ((oo ++ [m]).map dec1) = intV (oo.map dec1) ++ [.int .i64 (dec1 m)] from by simp [intV]]
    exact hown
  exact ⟨hb1, blk_put hb1 1 v' rfl, blk_grown hn1 hg2 (by intro e; exact ne_blk hn1 hb1 (cells_ne (by decide)) (Option.some.inj e)), hown'.kept hg2 (.inr (own_ne hown' hb1 (fun _ => cells_ne (by decide)))), hne, h.ge⟩
theorem WS.mark (h : WS B bw gn n oo on vo w) {m u : Int} (h0 : 0 < m) (hm : m ∉ on) (hu : u = (on.length : Int) + 1) : WS B bw gn n oo (on ++ [m]) vo (w.setCell ⟨gn, (m - 1).toNat, none⟩ (.int .i64 u)) := by
  subst hu
  have hg := grown_set w gn (m - 1).toNat (.int .i64 ((on.length : Int) + 1))
  refine ⟨blk_grown h.b hg (by intro e; exact ne_blk h.b h.n (cells_ne (by decide)) (Option.some.inj e)), ?_, h.o.kept hg (.inr h.ne), h.ne, h.ge⟩
  have := blk_set h.n (m - 1).toNat (.int .i64 ((on.length : Int) + 1))
  rw [intV, set_map] at this
  rwa [g_numL_snoc h0 hm]
end
end Go.Proofs.Yteeakklnlcjgbaa.P

end
