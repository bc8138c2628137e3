/- A part of the claim FnExactUnitFind: texts of this session and texts that its program printed out of the translation, joined. -/
import Derived.Test.YtedodaifpekahaaProg
import Derived.Below
import Derived.Deep.Draws
import Derived.Deep.AppendLies
import Derived.Maps.AppendAt
import Derived.OwnWalk
import Derived.Laws.BytesArg
import Derived.Laws.MakeOwn
import Derived.Laws.OwnMore
import Derived.Deep.OwnRows
import Derived.Tactics
import Derived.Lib.ConvBytes
import Derived.Laws.Slices
import Derived.WalkKit
import Derived.KernelRfl
import Derived.RowKit3
import Derived.Deep.LoopGhost
import Derived.Deep.QuietTactic
import Derived.BigQuiet
import Derived.WideLaws
import Derived.Deep.DeepCutAuto
import Derived.Deep.CutBlock
import Derived.Deep.RegionHeld3
import Derived.Laws.Rows
import Derived.Lib.AppendStr
import Derived.ArgAppend
import Derived.Laws.IdiomCopy
import Derived.OrdersHeld
import Derived.Laws.BitsLemmas
import Derived.RowKit
import Derived.Test.YtedodaifpekahaaCFnExactUnitFind0
import Derived.Test.YtedodaifpekahaaCFnExactUnitFind1
import Derived.Test.YtedodaifpekahaaCFnExactUnitFind2
import Derived.Test.YtedodaifpekahaaCFnExactUnitFind3
import Derived.Test.YtedodaifpekahaaCFnExactUnitFind4
import Derived.Test.YtedodaifpekahaaCFnExactUnitFind5
import Derived.Test.YtedodaifpekahaaCFnExactUnitFind6
import Derived.Test.YtedodaifpekahaaCFnExactUnitFind7
import Derived.Test.YtedodaifpekahaaCFnExactUnitFind8
import Derived.Test.YtedodaifpekahaaCFnExactUnitFind9
import Derived.Test.YtedodaifpekahaaCFnExactUnitFind10
import Derived.Test.YtedodaifpekahaaCFnExactUnitFind11
import Derived.Test.YtedodaifpekahaaCFnExactUnitFind12
import Derived.Test.YtedodaifpekahaaCFnExactUnitFind13
import Derived.Test.YtedodaifpekahaaCFnExactUnitFind14
import Derived.Test.YtedodaifpekahaaCFnExactUnitFind15
import Derived.Test.YtedodaifpekahaaCFnExactUnitFind16
import Derived.Test.YtedodaifpekahaaCFnExactUnitFind17
import Derived.Test.YtedodaifpekahaaCFnExactUnitFind18
import Derived.Test.YtedodaifpekahaaCFnExactUnitFind19
import Derived.Test.YtedodaifpekahaaCFnExactUnitFind20
section

namespace Go.Proofs.Ytedodaifpekahaa.P
open Go.RowKit Go.Proofs.YtedodaifpekahaaW.PrintWords Go.Proofs.YtedodaifpekahaaW.PrintLast Go.Proofs.YtedodaifpekahaaW.PrintMore
attribute [local go_sem] max2_int min2_int max_two min_two max_three min_three max_four min_four
set_option linter.unusedVariables false
set_option linter.unusedSimpArgs false
def errW : Option Int → Value
  | none => .nilIface
  | some c => .iface 0 (.int .i64 c)
theorem errW_none : errW none = .nilIface := rfl
theorem errW_some (c : Int) : errW (some c) = .iface 0 (.int .i64 c) := rfl
theorem info3 : (Try.prog.info? 3).map (fun i => (i.zero, i.size, i.bytes)) = some (some (.int .i64 0), 1, 8) := by kernel_rfl
theorem info46 : (Try.prog.info? 46).map (fun i => (i.zero, i.size, i.bytes)) = some (some (.agg #[(.int .i64 0), (.int .i64 0), (.slice none 0 0), (.int .i64 0), (.int .i64 0), (.slice none 0 0), (.slice none 0 0), (.slice none 0 0)]), 8, 128) := by kernel_rfl
theorem info67 : (Try.prog.info? 67).map (fun i => (i.zero, i.size, i.bytes)) = some (some (.agg #[(.int .i64 0), (.int .i64 0), (.int .i64 0)]), 3, 24) := by kernel_rfl
theorem info70 : (Try.prog.info? 70).map (fun i => (i.zero, i.size, i.bytes)) = some (some (.agg #[(.bool false), (.slice none 0 0), (.slice none 0 0)]), 3, 56) := by kernel_rfl
theorem info73 : (Try.prog.info? 73).map (fun i => (i.zero, i.size, i.bytes)) = some (some (.agg #[(.int .i64 0), (.int .i64 0), (.int .i64 0), (.int .i64 0)]), 4, 32) := by kernel_rfl
theorem info76 : (Try.prog.info? 76).map (fun i => (i.zero, i.size, i.bytes)) = some (some (.agg #[(.int .i64 0), (.slice none 0 0)]), 2, 32) := by kernel_rfl
structure S58 where
  f0 : Int
  f1 : (List Int)
def z58 : S58 := ⟨(0 : Int), ([] : List Int)⟩
def k58 : Kd S58 := Kd.iso (Kd.pair (Kd.int .i64) (Kd.slice 3 (Kd.int .i64))) (fun x : S58 => (x.f0, x.f1))
theorem k58_open {w : World} {x : S58} {cs : List Value} (h : k58.K w x cs) : ∃ A1 c1, cs = [.int .i64 x.f0, .slice A1 x.f1.length c1] ∧ x.f1.length ≤ c1 ∧ (Kd.int .i64).C w A1 x.f1.length x.f1 := by
  obtain ⟨_, _, rfl, rfl, ⟨A1, c1, rfl, l1, g1⟩⟩ := h
  exact ⟨A1, c1, rfl, l1, g1⟩
def rd_T58 (xs : List S58) (i : Int) : S58 := xs.getD i.toNat z58
theorem at_T58 {w : World} {A : Option Addr} {n : Nat} {xs : List S58} (h : Kd.C k58 w A n xs) (i : Int) (h0 : 0 ≤ i) (h1 : i < n) : ∃ ad A1 c1, A = some ad ∧ w.cell? (ad.add (i.toNat * 2)) = some (.int .i64 (rd_T58 xs i).f0) ∧ w.cell? ⟨(ad.add (i.toNat * 2)).block, (ad.add (i.toNat * 2)).off + 1, none⟩ = some (.slice A1 (rd_T58 xs i).f1.length c1) ∧ (rd_T58 xs i).f1.length ≤ c1 ∧ (Kd.int .i64).C w A1 (rd_T58 xs i).f1.length (rd_T58 xs i).f1 := by
  obtain ⟨ad, c, e, _, hK, hc0⟩ := Kd.C_get h z58 i h0 h1
  have hc : ∀ j u, c[j]? = some u → w.cell? (ad.add (i.toNat * 2 + j)) = some u := hc0
  obtain ⟨A1, c1, rfl, l1, g1⟩ := k58_open hK
  exact ⟨ad, A1, c1, e, hc 0 _ rfl, by rw [← add_field _ _ 1 (by omega)]; exact hc 1 _ rfl, l1, g1⟩
structure S113 where
  f0 : Int
  f1 : Int
  f2 : Int
def z113 : S113 := ⟨(0 : Int), (0 : Int), (0 : Int)⟩
def k113 : Kd S113 := Kd.iso (Kd.pair (Kd.int .i64) (Kd.pair (Kd.int .i64) (Kd.int .i64))) (fun x : S113 => (x.f0, x.f1, x.f2))
theorem k113_open {w : World} {x : S113} {cs : List Value} (h : k113.K w x cs) : cs = [.int .i64 x.f0, .int .i64 x.f1, .int .i64 x.f2] := by
  obtain ⟨_, _, rfl, rfl, ⟨_, _, rfl, rfl, rfl⟩⟩ := h
  exact rfl
def rd_T113 (xs : List S113) (i : Int) : S113 := xs.getD i.toNat z113
theorem at_T113 {w : World} {A : Option Addr} {n : Nat} {xs : List S113} (h : Kd.C k113 w A n xs) (i : Int) (h0 : 0 ≤ i) (h1 : i < n) : ∃ ad , A = some ad ∧ w.cell? (ad.add (i.toNat * 3)) = some (.int .i64 (rd_T113 xs i).f0) ∧ w.cell? ⟨(ad.add (i.toNat * 3)).block, (ad.add (i.toNat * 3)).off + 1, none⟩ = some (.int .i64 (rd_T113 xs i).f1) ∧ w.cell? ⟨(ad.add (i.toNat * 3)).block, (ad.add (i.toNat * 3)).off + 2, none⟩ = some (.int .i64 (rd_T113 xs i).f2) := by
  obtain ⟨ad, c, e, _, hK, hc0⟩ := Kd.C_get h z113 i h0 h1
  have hc : ∀ j u, c[j]? = some u → w.cell? (ad.add (i.toNat * 3 + j)) = some u := hc0
  obtain rfl := k113_open hK
  exact ⟨ad, e, hc 0 _ rfl, by rw [← add_field _ _ 1 (by omega)]; exact hc 1 _ rfl, by rw [← add_field _ _ 2 (by omega)]; exact hc 2 _ rfl⟩
structure S111 where
  f0 : Bool
  f1 : (List Int)
  f2 : (List Int)
def z111 : S111 := ⟨false, ([] : List Int), ([] : List Int)⟩
def k111 : Kd S111 := Kd.iso (Kd.pair Kd.bool (Kd.pair (Kd.slice 3 (Kd.int .i64)) (Kd.slice 3 (Kd.int .i64)))) (fun x : S111 => (x.f0, x.f1, x.f2))
theorem k111_open {w : World} {x : S111} {cs : List Value} (h : k111.K w x cs) : ∃ A1 c1 A2 c2, cs = [.bool x.f0, .slice A1 x.f1.length c1, .slice A2 x.f2.length c2] ∧ x.f1.length ≤ c1 ∧ (Kd.int .i64).C w A1 x.f1.length x.f1 ∧ x.f2.length ≤ c2 ∧ (Kd.int .i64).C w A2 x.f2.length x.f2 := by
  obtain ⟨_, _, rfl, rfl, ⟨_, _, rfl, ⟨A1, c1, rfl, l1, g1⟩, ⟨A2, c2, rfl, l2, g2⟩⟩⟩ := h
  exact ⟨A1, c1, A2, c2, rfl, l1, g1, l2, g2⟩
def rd_T111 (xs : List S111) (i : Int) : S111 := xs.getD i.toNat z111
theorem at_T111 {w : World} {A : Option Addr} {n : Nat} {xs : List S111} (h : Kd.C k111 w A n xs) (i : Int) (h0 : 0 ≤ i) (h1 : i < n) : ∃ ad A1 c1 A2 c2, A = some ad ∧ w.cell? (ad.add (i.toNat * 3)) = some (.bool (rd_T111 xs i).f0) ∧ w.cell? ⟨(ad.add (i.toNat * 3)).block, (ad.add (i.toNat * 3)).off + 1, none⟩ = some (.slice A1 (rd_T111 xs i).f1.length c1) ∧ w.cell? ⟨(ad.add (i.toNat * 3)).block, (ad.add (i.toNat * 3)).off + 2, none⟩ = some (.slice A2 (rd_T111 xs i).f2.length c2) ∧ (rd_T111 xs i).f1.length ≤ c1 ∧ (Kd.int .i64).C w A1 (rd_T111 xs i).f1.length (rd_T111 xs i).f1 ∧ (rd_T111 xs i).f2.length ≤ c2 ∧ (Kd.int .i64).C w A2 (rd_T111 xs i).f2.length (rd_T111 xs i).f2 := by
  obtain ⟨ad, c, e, _, hK, hc0⟩ := Kd.C_get h z111 i h0 h1
  have hc : ∀ j u, c[j]? = some u → w.cell? (ad.add (i.toNat * 3 + j)) = some u := hc0
  obtain ⟨A1, c1, A2, c2, rfl, l1, g1, l2, g2⟩ := k111_open hK
  exact ⟨ad, A1, c1, A2, c2, e, hc 0 _ rfl, by rw [← add_field _ _ 1 (by omega)]; exact hc 1 _ rfl, by rw [← add_field _ _ 2 (by omega)]; exact hc 2 _ rfl, l1, g1, l2, g2⟩
structure S116 where
  f0 : Int
  f1 : Int
  f2 : Int
  f3 : Int
def z116 : S116 := ⟨(0 : Int), (0 : Int), (0 : Int), (0 : Int)⟩
def k116 : Kd S116 := Kd.iso (Kd.pair (Kd.int .i64) (Kd.pair (Kd.int .i64) (Kd.pair (Kd.int .i64) (Kd.int .i64)))) (fun x : S116 => (x.f0, x.f1, x.f2, x.f3))
theorem k116_open {w : World} {x : S116} {cs : List Value} (h : k116.K w x cs) : cs = [.int .i64 x.f0, .int .i64 x.f1, .int .i64 x.f2, .int .i64 x.f3] := by
  obtain ⟨_, _, rfl, rfl, ⟨_, _, rfl, rfl, ⟨_, _, rfl, rfl, rfl⟩⟩⟩ := h
  exact rfl
def rd_T116 (xs : List S116) (i : Int) : S116 := xs.getD i.toNat z116
theorem at_T116 {w : World} {A : Option Addr} {n : Nat} {xs : List S116} (h : Kd.C k116 w A n xs) (i : Int) (h0 : 0 ≤ i) (h1 : i < n) : ∃ ad , A = some ad ∧ w.cell? (ad.add (i.toNat * 4)) = some (.int .i64 (rd_T116 xs i).f0) ∧ w.cell? ⟨(ad.add (i.toNat * 4)).block, (ad.add (i.toNat * 4)).off + 1, none⟩ = some (.int .i64 (rd_T116 xs i).f1) ∧ w.cell? ⟨(ad.add (i.toNat * 4)).block, (ad.add (i.toNat * 4)).off + 2, none⟩ = some (.int .i64 (rd_T116 xs i).f2) ∧ w.cell? ⟨(ad.add (i.toNat * 4)).block, (ad.add (i.toNat * 4)).off + 3, none⟩ = some (.int .i64 (rd_T116 xs i).f3) := by
  obtain ⟨ad, c, e, _, hK, hc0⟩ := Kd.C_get h z116 i h0 h1
  have hc : ∀ j u, c[j]? = some u → w.cell? (ad.add (i.toNat * 4 + j)) = some u := hc0
  obtain rfl := k116_open hK
  exact ⟨ad, e, hc 0 _ rfl, by rw [← add_field _ _ 1 (by omega)]; exact hc 1 _ rfl, by rw [← add_field _ _ 2 (by omega)]; exact hc 2 _ rfl, by rw [← add_field _ _ 3 (by omega)]; exact hc 3 _ rfl⟩
structure S64 where
  f0 : Int
  f1 : Int
  f2 : (List Int)
  f3 : Int
  f4 : Int
  f5 : (List S113)
  f6 : (List S111)
  f7 : (List S116)
def z64 : S64 := ⟨(0 : Int), (0 : Int), ([] : List Int), (0 : Int), (0 : Int), ([] : List S113), ([] : List S111), ([] : List S116)⟩
def k64 : Kd S64 := Kd.iso (Kd.pair (Kd.int .i64) (Kd.pair (Kd.int .i64) (Kd.pair (Kd.slice 3 (Kd.int .i64)) (Kd.pair (Kd.int .i64) (Kd.pair (Kd.int .i64) (Kd.pair (Kd.slice 113 k113) (Kd.pair (Kd.slice 111 k111) (Kd.slice 116 k116)))))))) (fun x : S64 => (x.f0, x.f1, x.f2, x.f3, x.f4, x.f5, x.f6, x.f7))
theorem k64_open {w : World} {x : S64} {cs : List Value} (h : k64.K w x cs) : ∃ A2 c2 A5 c5 A6 c6 A7 c7, cs = [.int .i64 x.f0, .int .i64 x.f1, .slice A2 x.f2.length c2, .int .i64 x.f3, .int .i64 x.f4, .slice A5 x.f5.length c5, .slice A6 x.f6.length c6, .slice A7 x.f7.length c7] ∧ x.f2.length ≤ c2 ∧ (Kd.int .i64).C w A2 x.f2.length x.f2 ∧ x.f5.length ≤ c5 ∧ k113.C w A5 x.f5.length x.f5 ∧ x.f6.length ≤ c6 ∧ k111.C w A6 x.f6.length x.f6 ∧ x.f7.length ≤ c7 ∧ k116.C w A7 x.f7.length x.f7 := by
  obtain ⟨_, _, rfl, rfl, ⟨_, _, rfl, rfl, ⟨_, _, rfl, ⟨A2, c2, rfl, l2, g2⟩, ⟨_, _, rfl, rfl, ⟨_, _, rfl, rfl, ⟨_, _, rfl, ⟨A5, c5, rfl, l5, g5⟩, ⟨_, _, rfl, ⟨A6, c6, rfl, l6, g6⟩, ⟨A7, c7, rfl, l7, g7⟩⟩⟩⟩⟩⟩⟩⟩ := h
  exact ⟨A2, c2, A5, c5, A6, c6, A7, c7, rfl, l2, g2, l5, g5, l6, g6, l7, g7⟩
def rd_T64 (xs : List S64) (i : Int) : S64 := xs.getD i.toNat z64
theorem at_T64 {w : World} {A : Option Addr} {n : Nat} {xs : List S64} (h : Kd.C k64 w A n xs) (i : Int) (h0 : 0 ≤ i) (h1 : i < n) : ∃ ad A2 c2 A5 c5 A6 c6 A7 c7, A = some ad ∧ w.cell? (ad.add (i.toNat * 8)) = some (.int .i64 (rd_T64 xs i).f0) ∧ w.cell? ⟨(ad.add (i.toNat * 8)).block, (ad.add (i.toNat * 8)).off + 1, none⟩ = some (.int .i64 (rd_T64 xs i).f1) ∧ w.cell? ⟨(ad.add (i.toNat * 8)).block, (ad.add (i.toNat * 8)).off + 2, none⟩ = some (.slice A2 (rd_T64 xs i).f2.length c2) ∧ w.cell? ⟨(ad.add (i.toNat * 8)).block, (ad.add (i.toNat * 8)).off + 3, none⟩ = some (.int .i64 (rd_T64 xs i).f3) ∧ w.cell? ⟨(ad.add (i.toNat * 8)).block, (ad.add (i.toNat * 8)).off + 4, none⟩ = some (.int .i64 (rd_T64 xs i).f4) ∧ w.cell? ⟨(ad.add (i.toNat * 8)).block, (ad.add (i.toNat * 8)).off + 5, none⟩ = some (.slice A5 (rd_T64 xs i).f5.length c5) ∧ w.cell? ⟨(ad.add (i.toNat * 8)).block, (ad.add (i.toNat * 8)).off + 6, none⟩ = some (.slice A6 (rd_T64 xs i).f6.length c6) ∧ w.cell? ⟨(ad.add (i.toNat * 8)).block, (ad.add (i.toNat * 8)).off + 7, none⟩ = some (.slice A7 (rd_T64 xs i).f7.length c7) ∧ (rd_T64 xs i).f2.length ≤ c2 ∧ (Kd.int .i64).C w A2 (rd_T64 xs i).f2.length (rd_T64 xs i).f2 ∧ (rd_T64 xs i).f5.length ≤ c5 ∧ k113.C w A5 (rd_T64 xs i).f5.length (rd_T64 xs i).f5 ∧ (rd_T64 xs i).f6.length ≤ c6 ∧ k111.C w A6 (rd_T64 xs i).f6.length (rd_T64 xs i).f6 ∧ (rd_T64 xs i).f7.length ≤ c7 ∧ k116.C w A7 (rd_T64 xs i).f7.length (rd_T64 xs i).f7 := by
  obtain ⟨ad, c, e, _, hK, hc0⟩ := Kd.C_get h z64 i h0 h1
  have hc : ∀ j u, c[j]? = some u → w.cell? (ad.add (i.toNat * 8 + j)) = some u := hc0
  obtain ⟨A2, c2, A5, c5, A6, c6, A7, c7, rfl, l2, g2, l5, g5, l6, g6, l7, g7⟩ := k64_open hK
  exact ⟨ad, A2, c2, A5, c5, A6, c6, A7, c7, e, hc 0 _ rfl, by rw [← add_field _ _ 1 (by omega)]; exact hc 1 _ rfl, by rw [← add_field _ _ 2 (by omega)]; exact hc 2 _ rfl, by rw [← add_field _ _ 3 (by omega)]; exact hc 3 _ rfl, by rw [← add_field _ _ 4 (by omega)]; exact hc 4 _ rfl, by rw [← add_field _ _ 5 (by omega)]; exact hc 5 _ rfl, by rw [← add_field _ _ 6 (by omega)]; exact hc 6 _ rfl, by rw [← add_field _ _ 7 (by omega)]; exact hc 7 _ rfl, l2, g2, l5, g5, l6, g6, l7, g7⟩
structure S76 where
  f0 : Int
  f1 : (List Int)
def z76 : S76 := ⟨(0 : Int), ([] : List Int)⟩
def k76 : Kd S76 := Kd.iso (Kd.pair (Kd.int .i64) (Kd.slice 3 (Kd.int .i64))) (fun x : S76 => (x.f0, x.f1))
theorem k76_open {w : World} {x : S76} {cs : List Value} (h : k76.K w x cs) : ∃ A1 c1, cs = [.int .i64 x.f0, .slice A1 x.f1.length c1] ∧ x.f1.length ≤ c1 ∧ (Kd.int .i64).C w A1 x.f1.length x.f1 := by
  obtain ⟨_, _, rfl, rfl, ⟨A1, c1, rfl, l1, g1⟩⟩ := h
  exact ⟨A1, c1, rfl, l1, g1⟩
theorem k76_openM {w : World} {base : Nat} {ok : Nat → Prop} {x : S76} {cs : List Value} (h : k76.M w base ok x cs) : ∃ v1, cs = [.int .i64 x.f0, v1] ∧ (Kd.int .i64).R 3 w base ok v1 x.f1 := by
  obtain ⟨_, _, rfl, rfl, ⟨v1, rfl, g1⟩⟩ := h
  exact ⟨v1, rfl, g1⟩
theorem k76_mkM (w : World) (base : Nat) (ok : Nat → Prop) (x : S76) {v1 : Value} (g1 : (Kd.int .i64).R 3 w base ok v1 x.f1) : k76.M w base ok x [.int .i64 x.f0, v1] := ⟨[.int .i64 x.f0], [v1], rfl, rfl, ⟨v1, rfl, g1⟩⟩
def rd_T76 (xs : List S76) (i : Int) : S76 := xs.getD i.toNat z76
theorem at_T76 {w : World} {A : Option Addr} {n : Nat} {xs : List S76} (h : Kd.C k76 w A n xs) (i : Int) (h0 : 0 ≤ i) (h1 : i < n) : ∃ ad A1 c1, A = some ad ∧ w.cell? (ad.add (i.toNat * 2)) = some (.int .i64 (rd_T76 xs i).f0) ∧ w.cell? ⟨(ad.add (i.toNat * 2)).block, (ad.add (i.toNat * 2)).off + 1, none⟩ = some (.slice A1 (rd_T76 xs i).f1.length c1) ∧ (rd_T76 xs i).f1.length ≤ c1 ∧ (Kd.int .i64).C w A1 (rd_T76 xs i).f1.length (rd_T76 xs i).f1 := by
  obtain ⟨ad, c, e, _, hK, hc0⟩ := Kd.C_get h z76 i h0 h1
  have hc : ∀ j u, c[j]? = some u → w.cell? (ad.add (i.toNat * 2 + j)) = some u := hc0
  obtain ⟨A1, c1, rfl, l1, g1⟩ := k76_open hK
  exact ⟨ad, A1, c1, e, hc 0 _ rfl, by rw [← add_field _ _ 1 (by omega)]; exact hc 1 _ rfl, l1, g1⟩
structure S67 where
  f0 : Int
  f1 : Int
  f2 : Int
def z67 : S67 := ⟨(0 : Int), (0 : Int), (0 : Int)⟩
def k67 : Kd S67 := Kd.iso (Kd.pair (Kd.int .i64) (Kd.pair (Kd.int .i64) (Kd.int .i64))) (fun x : S67 => (x.f0, x.f1, x.f2))
theorem k67_open {w : World} {x : S67} {cs : List Value} (h : k67.K w x cs) : cs = [.int .i64 x.f0, .int .i64 x.f1, .int .i64 x.f2] := by
  obtain ⟨_, _, rfl, rfl, ⟨_, _, rfl, rfl, rfl⟩⟩ := h
  exact rfl
theorem k67_openM {w : World} {base : Nat} {ok : Nat → Prop} {x : S67} {cs : List Value} (h : k67.M w base ok x cs) : cs = [.int .i64 x.f0, .int .i64 x.f1, .int .i64 x.f2] := by
  obtain ⟨_, _, rfl, rfl, ⟨_, _, rfl, rfl, rfl⟩⟩ := h
  exact rfl
theorem k67_mkM (w : World) (base : Nat) (ok : Nat → Prop) (x : S67)  : k67.M w base ok x [.int .i64 x.f0, .int .i64 x.f1, .int .i64 x.f2] := ⟨[.int .i64 x.f0], [.int .i64 x.f1, .int .i64 x.f2], rfl, rfl, ⟨[.int .i64 x.f1], [.int .i64 x.f2], rfl, rfl, rfl⟩⟩
def rd_T67 (xs : List S67) (i : Int) : S67 := xs.getD i.toNat z67
theorem at_T67 {w : World} {A : Option Addr} {n : Nat} {xs : List S67} (h : Kd.C k67 w A n xs) (i : Int) (h0 : 0 ≤ i) (h1 : i < n) : ∃ ad , A = some ad ∧ w.cell? (ad.add (i.toNat * 3)) = some (.int .i64 (rd_T67 xs i).f0) ∧ w.cell? ⟨(ad.add (i.toNat * 3)).block, (ad.add (i.toNat * 3)).off + 1, none⟩ = some (.int .i64 (rd_T67 xs i).f1) ∧ w.cell? ⟨(ad.add (i.toNat * 3)).block, (ad.add (i.toNat * 3)).off + 2, none⟩ = some (.int .i64 (rd_T67 xs i).f2) := by
  obtain ⟨ad, c, e, _, hK, hc0⟩ := Kd.C_get h z67 i h0 h1
  have hc : ∀ j u, c[j]? = some u → w.cell? (ad.add (i.toNat * 3 + j)) = some u := hc0
  obtain rfl := k67_open hK
  exact ⟨ad, e, hc 0 _ rfl, by rw [← add_field _ _ 1 (by omega)]; exact hc 1 _ rfl, by rw [← add_field _ _ 2 (by omega)]; exact hc 2 _ rfl⟩
structure S70 where
  f0 : Bool
  f1 : (List Int)
  f2 : (List Int)
def z70 : S70 := ⟨false, ([] : List Int), ([] : List Int)⟩
def k70 : Kd S70 := Kd.iso (Kd.pair Kd.bool (Kd.pair (Kd.slice 3 (Kd.int .i64)) (Kd.slice 3 (Kd.int .i64)))) (fun x : S70 => (x.f0, x.f1, x.f2))
theorem k70_open {w : World} {x : S70} {cs : List Value} (h : k70.K w x cs) : ∃ A1 c1 A2 c2, cs = [.bool x.f0, .slice A1 x.f1.length c1, .slice A2 x.f2.length c2] ∧ x.f1.length ≤ c1 ∧ (Kd.int .i64).C w A1 x.f1.length x.f1 ∧ x.f2.length ≤ c2 ∧ (Kd.int .i64).C w A2 x.f2.length x.f2 := by
  obtain ⟨_, _, rfl, rfl, ⟨_, _, rfl, ⟨A1, c1, rfl, l1, g1⟩, ⟨A2, c2, rfl, l2, g2⟩⟩⟩ := h
  exact ⟨A1, c1, A2, c2, rfl, l1, g1, l2, g2⟩
theorem k70_openM {w : World} {base : Nat} {ok : Nat → Prop} {x : S70} {cs : List Value} (h : k70.M w base ok x cs) : ∃ v1 v2, cs = [.bool x.f0, v1, v2] ∧ (Kd.int .i64).R 3 w base ok v1 x.f1 ∧ (Kd.int .i64).R 3 w base ok v2 x.f2 := by
  obtain ⟨_, _, rfl, rfl, ⟨_, _, rfl, ⟨v1, rfl, g1⟩, ⟨v2, rfl, g2⟩⟩⟩ := h
  exact ⟨v1, v2, rfl, g1, g2⟩
theorem k70_mkM (w : World) (base : Nat) (ok : Nat → Prop) (x : S70) {v1 : Value} (g1 : (Kd.int .i64).R 3 w base ok v1 x.f1) {v2 : Value} (g2 : (Kd.int .i64).R 3 w base ok v2 x.f2) : k70.M w base ok x [.bool x.f0, v1, v2] := ⟨[.bool x.f0], [v1, v2], rfl, rfl, ⟨[v1], [v2], rfl, ⟨v1, rfl, g1⟩, ⟨v2, rfl, g2⟩⟩⟩
def rd_T70 (xs : List S70) (i : Int) : S70 := xs.getD i.toNat z70
theorem at_T70 {w : World} {A : Option Addr} {n : Nat} {xs : List S70} (h : Kd.C k70 w A n xs) (i : Int) (h0 : 0 ≤ i) (h1 : i < n) : ∃ ad A1 c1 A2 c2, A = some ad ∧ w.cell? (ad.add (i.toNat * 3)) = some (.bool (rd_T70 xs i).f0) ∧ w.cell? ⟨(ad.add (i.toNat * 3)).block, (ad.add (i.toNat * 3)).off + 1, none⟩ = some (.slice A1 (rd_T70 xs i).f1.length c1) ∧ w.cell? ⟨(ad.add (i.toNat * 3)).block, (ad.add (i.toNat * 3)).off + 2, none⟩ = some (.slice A2 (rd_T70 xs i).f2.length c2) ∧ (rd_T70 xs i).f1.length ≤ c1 ∧ (Kd.int .i64).C w A1 (rd_T70 xs i).f1.length (rd_T70 xs i).f1 ∧ (rd_T70 xs i).f2.length ≤ c2 ∧ (Kd.int .i64).C w A2 (rd_T70 xs i).f2.length (rd_T70 xs i).f2 := by
  obtain ⟨ad, c, e, _, hK, hc0⟩ := Kd.C_get h z70 i h0 h1
  have hc : ∀ j u, c[j]? = some u → w.cell? (ad.add (i.toNat * 3 + j)) = some u := hc0
  obtain ⟨A1, c1, A2, c2, rfl, l1, g1, l2, g2⟩ := k70_open hK
  exact ⟨ad, A1, c1, A2, c2, e, hc 0 _ rfl, by rw [← add_field _ _ 1 (by omega)]; exact hc 1 _ rfl, by rw [← add_field _ _ 2 (by omega)]; exact hc 2 _ rfl, l1, g1, l2, g2⟩
structure S73 where
  f0 : Int
  f1 : Int
  f2 : Int
  f3 : Int
def z73 : S73 := ⟨(0 : Int), (0 : Int), (0 : Int), (0 : Int)⟩
def k73 : Kd S73 := Kd.iso (Kd.pair (Kd.int .i64) (Kd.pair (Kd.int .i64) (Kd.pair (Kd.int .i64) (Kd.int .i64)))) (fun x : S73 => (x.f0, x.f1, x.f2, x.f3))
theorem k73_open {w : World} {x : S73} {cs : List Value} (h : k73.K w x cs) : cs = [.int .i64 x.f0, .int .i64 x.f1, .int .i64 x.f2, .int .i64 x.f3] := by
  obtain ⟨_, _, rfl, rfl, ⟨_, _, rfl, rfl, ⟨_, _, rfl, rfl, rfl⟩⟩⟩ := h
  exact rfl
theorem k73_openM {w : World} {base : Nat} {ok : Nat → Prop} {x : S73} {cs : List Value} (h : k73.M w base ok x cs) : cs = [.int .i64 x.f0, .int .i64 x.f1, .int .i64 x.f2, .int .i64 x.f3] := by
  obtain ⟨_, _, rfl, rfl, ⟨_, _, rfl, rfl, ⟨_, _, rfl, rfl, rfl⟩⟩⟩ := h
  exact rfl
theorem k73_mkM (w : World) (base : Nat) (ok : Nat → Prop) (x : S73)  : k73.M w base ok x [.int .i64 x.f0, .int .i64 x.f1, .int .i64 x.f2, .int .i64 x.f3] := ⟨[.int .i64 x.f0], [.int .i64 x.f1, .int .i64 x.f2, .int .i64 x.f3], rfl, rfl, ⟨[.int .i64 x.f1], [.int .i64 x.f2, .int .i64 x.f3], rfl, rfl, ⟨[.int .i64 x.f2], [.int .i64 x.f3], rfl, rfl, rfl⟩⟩⟩
def rd_T73 (xs : List S73) (i : Int) : S73 := xs.getD i.toNat z73
theorem at_T73 {w : World} {A : Option Addr} {n : Nat} {xs : List S73} (h : Kd.C k73 w A n xs) (i : Int) (h0 : 0 ≤ i) (h1 : i < n) : ∃ ad , A = some ad ∧ w.cell? (ad.add (i.toNat * 4)) = some (.int .i64 (rd_T73 xs i).f0) ∧ w.cell? ⟨(ad.add (i.toNat * 4)).block, (ad.add (i.toNat * 4)).off + 1, none⟩ = some (.int .i64 (rd_T73 xs i).f1) ∧ w.cell? ⟨(ad.add (i.toNat * 4)).block, (ad.add (i.toNat * 4)).off + 2, none⟩ = some (.int .i64 (rd_T73 xs i).f2) ∧ w.cell? ⟨(ad.add (i.toNat * 4)).block, (ad.add (i.toNat * 4)).off + 3, none⟩ = some (.int .i64 (rd_T73 xs i).f3) := by
  obtain ⟨ad, c, e, _, hK, hc0⟩ := Kd.C_get h z73 i h0 h1
  have hc : ∀ j u, c[j]? = some u → w.cell? (ad.add (i.toNat * 4 + j)) = some u := hc0
  obtain rfl := k73_open hK
  exact ⟨ad, e, hc 0 _ rfl, by rw [← add_field _ _ 1 (by omega)]; exact hc 1 _ rfl, by rw [← add_field _ _ 2 (by omega)]; exact hc 2 _ rfl, by rw [← add_field _ _ 3 (by omega)]; exact hc 3 _ rfl⟩
structure S46 where
  f0 : Int
  f1 : Int
  f2 : (List Int)
  f3 : Int
  f4 : Int
  f5 : (List S67)
  f6 : (List S70)
  f7 : (List S73)
def z46 : S46 := ⟨(0 : Int), (0 : Int), ([] : List Int), (0 : Int), (0 : Int), ([] : List S67), ([] : List S70), ([] : List S73)⟩
def k46 : Kd S46 := Kd.iso (Kd.pair (Kd.int .i64) (Kd.pair (Kd.int .i64) (Kd.pair (Kd.slice 3 (Kd.int .i64)) (Kd.pair (Kd.int .i64) (Kd.pair (Kd.int .i64) (Kd.pair (Kd.slice 67 k67) (Kd.pair (Kd.slice 70 k70) (Kd.slice 73 k73)))))))) (fun x : S46 => (x.f0, x.f1, x.f2, x.f3, x.f4, x.f5, x.f6, x.f7))
theorem k46_open {w : World} {x : S46} {cs : List Value} (h : k46.K w x cs) : ∃ A2 c2 A5 c5 A6 c6 A7 c7, cs = [.int .i64 x.f0, .int .i64 x.f1, .slice A2 x.f2.length c2, .int .i64 x.f3, .int .i64 x.f4, .slice A5 x.f5.length c5, .slice A6 x.f6.length c6, .slice A7 x.f7.length c7] ∧ x.f2.length ≤ c2 ∧ (Kd.int .i64).C w A2 x.f2.length x.f2 ∧ x.f5.length ≤ c5 ∧ k67.C w A5 x.f5.length x.f5 ∧ x.f6.length ≤ c6 ∧ k70.C w A6 x.f6.length x.f6 ∧ x.f7.length ≤ c7 ∧ k73.C w A7 x.f7.length x.f7 := by
  obtain ⟨_, _, rfl, rfl, ⟨_, _, rfl, rfl, ⟨_, _, rfl, ⟨A2, c2, rfl, l2, g2⟩, ⟨_, _, rfl, rfl, ⟨_, _, rfl, rfl, ⟨_, _, rfl, ⟨A5, c5, rfl, l5, g5⟩, ⟨_, _, rfl, ⟨A6, c6, rfl, l6, g6⟩, ⟨A7, c7, rfl, l7, g7⟩⟩⟩⟩⟩⟩⟩⟩ := h
  exact ⟨A2, c2, A5, c5, A6, c6, A7, c7, rfl, l2, g2, l5, g5, l6, g6, l7, g7⟩
theorem k46_openM {w : World} {base : Nat} {ok : Nat → Prop} {x : S46} {cs : List Value} (h : k46.M w base ok x cs) : ∃ v2 v5 v6 v7, cs = [.int .i64 x.f0, .int .i64 x.f1, v2, .int .i64 x.f3, .int .i64 x.f4, v5, v6, v7] ∧ (Kd.int .i64).R 3 w base ok v2 x.f2 ∧ k67.R 67 w base ok v5 x.f5 ∧ k70.R 70 w base ok v6 x.f6 ∧ k73.R 73 w base ok v7 x.f7 := by
  obtain ⟨_, _, rfl, rfl, ⟨_, _, rfl, rfl, ⟨_, _, rfl, ⟨v2, rfl, g2⟩, ⟨_, _, rfl, rfl, ⟨_, _, rfl, rfl, ⟨_, _, rfl, ⟨v5, rfl, g5⟩, ⟨_, _, rfl, ⟨v6, rfl, g6⟩, ⟨v7, rfl, g7⟩⟩⟩⟩⟩⟩⟩⟩ := h
  exact ⟨v2, v5, v6, v7, rfl, g2, g5, g6, g7⟩
theorem k46_mkM (w : World) (base : Nat) (ok : Nat → Prop) (x : S46) {v2 : Value} (g2 : (Kd.int .i64).R 3 w base ok v2 x.f2) {v5 : Value} (g5 : k67.R 67 w base ok v5 x.f5) {v6 : Value} (g6 : k70.R 70 w base ok v6 x.f6) {v7 : Value} (g7 : k73.R 73 w base ok v7 x.f7) : k46.M w base ok x [.int .i64 x.f0, .int .i64 x.f1, v2, .int .i64 x.f3, .int .i64 x.f4, v5, v6, v7] := ⟨[.int .i64 x.f0], [.int .i64 x.f1, v2, .int .i64 x.f3, .int .i64 x.f4, v5, v6, v7], rfl, rfl, ⟨[.int .i64 x.f1], [v2, .int .i64 x.f3, .int .i64 x.f4, v5, v6, v7], rfl, rfl, ⟨[v2], [.int .i64 x.f3, .int .i64 x.f4, v5, v6, v7], rfl, ⟨v2, rfl, g2⟩, ⟨[.int .i64 x.f3], [.int .i64 x.f4, v5, v6, v7], rfl, rfl, ⟨[.int .i64 x.f4], [v5, v6, v7], rfl, rfl, ⟨[v5], [v6, v7], rfl, ⟨v5, rfl, g5⟩, ⟨[v6], [v7], rfl, ⟨v6, rfl, g6⟩, ⟨v7, rfl, g7⟩⟩⟩⟩⟩⟩⟩⟩
def rd_T46 (xs : List S46) (i : Int) : S46 := xs.getD i.toNat z46
theorem at_T46 {w : World} {A : Option Addr} {n : Nat} {xs : List S46} (h : Kd.C k46 w A n xs) (i : Int) (h0 : 0 ≤ i) (h1 : i < n) : ∃ ad A2 c2 A5 c5 A6 c6 A7 c7, A = some ad ∧ w.cell? (ad.add (i.toNat * 8)) = some (.int .i64 (rd_T46 xs i).f0) ∧ w.cell? ⟨(ad.add (i.toNat * 8)).block, (ad.add (i.toNat * 8)).off + 1, none⟩ = some (.int .i64 (rd_T46 xs i).f1) ∧ w.cell? ⟨(ad.add (i.toNat * 8)).block, (ad.add (i.toNat * 8)).off + 2, none⟩ = some (.slice A2 (rd_T46 xs i).f2.length c2) ∧ w.cell? ⟨(ad.add (i.toNat * 8)).block, (ad.add (i.toNat * 8)).off + 3, none⟩ = some (.int .i64 (rd_T46 xs i).f3) ∧ w.cell? ⟨(ad.add (i.toNat * 8)).block, (ad.add (i.toNat * 8)).off + 4, none⟩ = some (.int .i64 (rd_T46 xs i).f4) ∧ w.cell? ⟨(ad.add (i.toNat * 8)).block, (ad.add (i.toNat * 8)).off + 5, none⟩ = some (.slice A5 (rd_T46 xs i).f5.length c5) ∧ w.cell? ⟨(ad.add (i.toNat * 8)).block, (ad.add (i.toNat * 8)).off + 6, none⟩ = some (.slice A6 (rd_T46 xs i).f6.length c6) ∧ w.cell? ⟨(ad.add (i.toNat * 8)).block, (ad.add (i.toNat * 8)).off + 7, none⟩ = some (.slice A7 (rd_T46 xs i).f7.length c7) ∧ (rd_T46 xs i).f2.length ≤ c2 ∧ (Kd.int .i64).C w A2 (rd_T46 xs i).f2.length (rd_T46 xs i).f2 ∧ (rd_T46 xs i).f5.length ≤ c5 ∧ k67.C w A5 (rd_T46 xs i).f5.length (rd_T46 xs i).f5 ∧ (rd_T46 xs i).f6.length ≤ c6 ∧ k70.C w A6 (rd_T46 xs i).f6.length (rd_T46 xs i).f6 ∧ (rd_T46 xs i).f7.length ≤ c7 ∧ k73.C w A7 (rd_T46 xs i).f7.length (rd_T46 xs i).f7 := by
  obtain ⟨ad, c, e, _, hK, hc0⟩ := Kd.C_get h z46 i h0 h1
  have hc : ∀ j u, c[j]? = some u → w.cell? (ad.add (i.toNat * 8 + j)) = some u := hc0
  obtain ⟨A2, c2, A5, c5, A6, c6, A7, c7, rfl, l2, g2, l5, g5, l6, g6, l7, g7⟩ := k46_open hK
  exact ⟨ad, A2, c2, A5, c5, A6, c6, A7, c7, e, hc 0 _ rfl, by rw [← add_field _ _ 1 (by omega)]; exact hc 1 _ rfl, by rw [← add_field _ _ 2 (by omega)]; exact hc 2 _ rfl, by rw [← add_field _ _ 3 (by omega)]; exact hc 3 _ rfl, by rw [← add_field _ _ 4 (by omega)]; exact hc 4 _ rfl, by rw [← add_field _ _ 5 (by omega)]; exact hc 5 _ rfl, by rw [← add_field _ _ 6 (by omega)]; exact hc 6 _ rfl, by rw [← add_field _ _ 7 (by omega)]; exact hc 7 _ rfl, l2, g2, l5, g5, l6, g6, l7, g7⟩
end Go.Proofs.Ytedodaifpekahaa.P

end
section

namespace Go.Proofs.Ytedodaifpekahaa
open Go Go.Proofs.Ytedodaifpekahaa.P
set_option maxRecDepth 100000
theorem enter_of {P : Program} {L : List Char} {W : List (List Char)} {c : List Char} {rest : List (List Char)} (h1 : P.initOrder.toList = L) (h2 : wordsSigns L = W) (h3 : behindMainWord W = c :: rest) (h4 : stripLifts liftWords (c :: rest) = ([], c :: rest)) (h5 : c = "cut".toList) (h6 : P.laysLater = false) (h7 : P.bearsReflect = false) (h8 : P.doorFits [] = true) : P.mayEnter = true := by
  unfold Program.mayEnter
  rw [h1, h2, h3]
  simp only [h4, h6, h7, h8, List.head?_cons]
  simp [h5]
theorem make_of {P : Program} {L : List Char} {W : List (List Char)} {c : List Char} {rest : List (List Char)} (h1 : P.initOrder.toList = L) (h2 : wordsSigns L = W) (h3 : behindMainWord W = c :: rest) (h5 : c = "cut".toList) : P.make = some .cut := by
  unfold Program.make
  rw [h1, h2, h3]
  simp [h5]
theorem lifts_of {P : Program} {L : List Char} {W : List (List Char)} {c : List Char} {rest : List (List Char)} (h1 : P.initOrder.toList = L) (h2 : wordsSigns L = W) (h3 : behindMainWord W = c :: rest) (h4 : stripLifts liftWords (c :: rest) = ([], c :: rest)) (h5 : c = "cut".toList) : P.liftsFinal = false := by
  unfold Program.liftsFinal Program.headLifts
  rw [h1, h2, h3]
  simp only [h4, List.head?_cons]
  simp [h5]
def headChars : List Char := [Char.ofNat 104, Char.ofNat 97, Char.ofNat 114, Char.ofNat 110, Char.ofNat 101, Char.ofNat 115, Char.ofNat 115, Char.ofNat 32, Char.ofNat 49, Char.ofNat 54, Char.ofNat 57, Char.ofNat 101, Char.ofNat 53, Char.ofNat 55, Char.ofNat 55, Char.ofNat 48, Char.ofNat 101, Char.ofNat 54, Char.ofNat 50, Char.ofNat 53, Char.ofNat 102, Char.ofNat 53, Char.ofNat 100, Char.ofNat 52, Char.ofNat 102, Char.ofNat 97, Char.ofNat 100, Char.ofNat 51, Char.ofNat 100, Char.ofNat 99, Char.ofNat 48, Char.ofNat 98, Char.ofNat 97, Char.ofNat 53, Char.ofNat 49, Char.ofNat 100, Char.ofNat 53, Char.ofNat 57, Char.ofNat 52, Char.ofNat 50, Char.ofNat 55, Char.ofNat 57, Char.ofNat 55, Char.ofNat 51, Char.ofNat 55, Char.ofNat 55, Char.ofNat 49, Char.ofNat 48, Char.ofNat 55, Char.ofNat 97, Char.ofNat 57, Char.ofNat 53, Char.ofNat 97, Char.ofNat 49, Char.ofNat 49, Char.ofNat 98, Char.ofNat 55, Char.ofNat 49, Char.ofNat 56, Char.ofNat 50, Char.ofNat 57, Char.ofNat 49, Char.ofNat 99, Char.ofNat 97, Char.ofNat 100, Char.ofNat 100, Char.ofNat 48, Char.ofNat 51, Char.ofNat 102, Char.ofNat 99, Char.ofNat 50, Char.ofNat 50, Char.ofNat 32, Char.ofNat 99, Char.ofNat 117, Char.ofNat 116, Char.ofNat 32, Char.ofNat 97, Char.ofNat 116, Char.ofNat 32, Char.ofNat 108, Char.ofNat 111, Char.ofNat 111, Char.ofNat 112, Char.ofNat 46, Char.ofNat 101, Char.ofNat 120, Char.ofNat 97, Char.ofNat 109, Char.ofNat 112, Char.ofNat 108, Char.ofNat 101, Char.ofNat 47, Char.ofNat 101, Char.ofNat 110, Char.ofNat 116, Char.ofNat 97, Char.ofNat 105, Char.ofNat 108, Char.ofNat 47, Char.ofNat 108, Char.ofNat 97, Char.ofNat 119, Char.ofNat 115, Char.ofNat 46, Char.ofNat 70, Char.ofNat 110, Char.ofNat 69, Char.ofNat 120, Char.ofNat 97, Char.ofNat 99, Char.ofNat 116, Char.ofNat 85, Char.ofNat 110, Char.ofNat 105, Char.ofNat 116, Char.ofNat 79, Char.ofNat 107, Char.ofNat 32, Char.ofNat 108, Char.ofNat 111, Char.ofNat 111, Char.ofNat 112, Char.ofNat 46, Char.ofNat 101, Char.ofNat 120, Char.ofNat 97, Char.ofNat 109, Char.ofNat 112, Char.ofNat 108, Char.ofNat 101, Char.ofNat 47, Char.ofNat 101, Char.ofNat 110, Char.ofNat 116, Char.ofNat 97, Char.ofNat 105, Char.ofNat 108, Char.ofNat 47, Char.ofNat 108, Char.ofNat 97, Char.ofNat 119, Char.ofNat 115, Char.ofNat 46, Char.ofNat 70, Char.ofNat 110, Char.ofNat 69, Char.ofNat 120, Char.ofNat 97, Char.ofNat 99, Char.ofNat 116, Char.ofNat 85, Char.ofNat 110, Char.ofNat 105, Char.ofNat 116, Char.ofNat 70, Char.ofNat 105, Char.ofNat 110, Char.ofNat 100]
def headWords : List (List Char) := [[Char.ofNat 104, Char.ofNat 97, Char.ofNat 114, Char.ofNat 110, Char.ofNat 101, Char.ofNat 115, Char.ofNat 115], [Char.ofNat 49, Char.ofNat 54, Char.ofNat 57, Char.ofNat 101, Char.ofNat 53, Char.ofNat 55, Char.ofNat 55, Char.ofNat 48, Char.ofNat 101, Char.ofNat 54, Char.ofNat 50, Char.ofNat 53, Char.ofNat 102, Char.ofNat 53, Char.ofNat 100, Char.ofNat 52, Char.ofNat 102, Char.ofNat 97, Char.ofNat 100, Char.ofNat 51, Char.ofNat 100, Char.ofNat 99, Char.ofNat 48, Char.ofNat 98, Char.ofNat 97, Char.ofNat 53, Char.ofNat 49, Char.ofNat 100, Char.ofNat 53, Char.ofNat 57, Char.ofNat 52, Char.ofNat 50, Char.ofNat 55, Char.ofNat 57, Char.ofNat 55, Char.ofNat 51, Char.ofNat 55, Char.ofNat 55, Char.ofNat 49, Char.ofNat 48, Char.ofNat 55, Char.ofNat 97, Char.ofNat 57, Char.ofNat 53, Char.ofNat 97, Char.ofNat 49, Char.ofNat 49, Char.ofNat 98, Char.ofNat 55, Char.ofNat 49, Char.ofNat 56, Char.ofNat 50, Char.ofNat 57, Char.ofNat 49, Char.ofNat 99, Char.ofNat 97, Char.ofNat 100, Char.ofNat 100, Char.ofNat 48, Char.ofNat 51, Char.ofNat 102, Char.ofNat 99, Char.ofNat 50, Char.ofNat 50], [Char.ofNat 99, Char.ofNat 117, Char.ofNat 116], [Char.ofNat 97, Char.ofNat 116], [Char.ofNat 108, Char.ofNat 111, Char.ofNat 111, Char.ofNat 112, Char.ofNat 46, Char.ofNat 101, Char.ofNat 120, Char.ofNat 97, Char.ofNat 109, Char.ofNat 112, Char.ofNat 108, Char.ofNat 101, Char.ofNat 47, Char.ofNat 101, Char.ofNat 110, Char.ofNat 116, Char.ofNat 97, Char.ofNat 105, Char.ofNat 108, Char.ofNat 47, Char.ofNat 108, Char.ofNat 97, Char.ofNat 119, Char.ofNat 115, Char.ofNat 46, Char.ofNat 70, Char.ofNat 110, Char.ofNat 69, Char.ofNat 120, Char.ofNat 97, Char.ofNat 99, Char.ofNat 116, Char.ofNat 85, Char.ofNat 110, Char.ofNat 105, Char.ofNat 116, Char.ofNat 79, Char.ofNat 107], [Char.ofNat 108, Char.ofNat 111, Char.ofNat 111, Char.ofNat 112, Char.ofNat 46, Char.ofNat 101, Char.ofNat 120, Char.ofNat 97, Char.ofNat 109, Char.ofNat 112, Char.ofNat 108, Char.ofNat 101, Char.ofNat 47, Char.ofNat 101, Char.ofNat 110, Char.ofNat 116, Char.ofNat 97, Char.ofNat 105, Char.ofNat 108, Char.ofNat 47, Char.ofNat 108, Char.ofNat 97, Char.ofNat 119, Char.ofNat 115, Char.ofNat 46, Char.ofNat 70, Char.ofNat 110, Char.ofNat 69, Char.ofNat 120, Char.ofNat 97, Char.ofNat 99, Char.ofNat 116, Char.ofNat 85, Char.ofNat 110, Char.ofNat 105, Char.ofNat 116, Char.ofNat 70, Char.ofNat 105, Char.ofNat 110, Char.ofNat 100]]
theorem head_is : Try.prog.initOrder.toList = headChars := by
  have h : Try.prog.initOrder = String.ofList headChars := by kernel_rfl
  rw [h, String.toList_ofList]
def rootWords : List (List Char) := [[Char.ofNat 97, Char.ofNat 116], [Char.ofNat 108, Char.ofNat 111, Char.ofNat 111, Char.ofNat 112, Char.ofNat 46, Char.ofNat 101, Char.ofNat 120, Char.ofNat 97, Char.ofNat 109, Char.ofNat 112, Char.ofNat 108, Char.ofNat 101, Char.ofNat 47, Char.ofNat 101, Char.ofNat 110, Char.ofNat 116, Char.ofNat 97, Char.ofNat 105, Char.ofNat 108, Char.ofNat 47, Char.ofNat 108, Char.ofNat 97, Char.ofNat 119, Char.ofNat 115, Char.ofNat 46, Char.ofNat 70, Char.ofNat 110, Char.ofNat 69, Char.ofNat 120, Char.ofNat 97, Char.ofNat 99, Char.ofNat 116, Char.ofNat 85, Char.ofNat 110, Char.ofNat 105, Char.ofNat 116, Char.ofNat 79, Char.ofNat 107], [Char.ofNat 108, Char.ofNat 111, Char.ofNat 111, Char.ofNat 112, Char.ofNat 46, Char.ofNat 101, Char.ofNat 120, Char.ofNat 97, Char.ofNat 109, Char.ofNat 112, Char.ofNat 108, Char.ofNat 101, Char.ofNat 47, Char.ofNat 101, Char.ofNat 110, Char.ofNat 116, Char.ofNat 97, Char.ofNat 105, Char.ofNat 108, Char.ofNat 47, Char.ofNat 108, Char.ofNat 97, Char.ofNat 119, Char.ofNat 115, Char.ofNat 46, Char.ofNat 70, Char.ofNat 110, Char.ofNat 69, Char.ofNat 120, Char.ofNat 97, Char.ofNat 99, Char.ofNat 116, Char.ofNat 85, Char.ofNat 110, Char.ofNat 105, Char.ofNat 116, Char.ofNat 70, Char.ofNat 105, Char.ofNat 110, Char.ofNat 100]]
theorem enter : Try.prog.mayEnter = true := enter_of (L := headChars) (W := headWords) head_is (by kernel_rfl) (c := [Char.ofNat 99, Char.ofNat 117, Char.ofNat 116]) (rest := rootWords) (by kernel_rfl) (by kernel_rfl) (by kernel_rfl) (by kernel_rfl) (by kernel_rfl) (by kernel_rfl)
theorem make : Try.prog.make = some .cut := make_of (L := headChars) (W := headWords) head_is (by kernel_rfl) (c := [Char.ofNat 99, Char.ofNat 117, Char.ofNat 116]) (rest := rootWords) (by kernel_rfl) (by kernel_rfl)
theorem lifts : Try.prog.liftsFinal = false := lifts_of (L := headChars) (W := headWords) head_is (by kernel_rfl) (c := [Char.ofNat 99, Char.ofNat 117, Char.ofNat 116]) (rest := rootWords) (by kernel_rfl) (by kernel_rfl) (by kernel_rfl)
end Go.Proofs.Ytedodaifpekahaa

end
section

namespace Go.Proofs.Ytedodaifpekahaa.P
set_option linter.unusedVariables false
open Go Go.RowKit Go.Proofs.YtedodaifpekahaaW.PrintWords Go.Proofs.YtedodaifpekahaaW.PrintLast Go.Proofs.YtedodaifpekahaaW.PrintMore
theorem bl {w W : World} (h : Below w.heap.size w W := by repeat (first | (with_reducible first | exact Aside0.out (by assumption) | apply below_alloc | apply pw_below_drewN | apply below_drew1 | refine below_set ?_ (Aside0.out (by assumption))) | exact Aside0.out (by assumption))) : Below w.heap.size w W := h
theorem cz {w : World} {g : Nat} {t : TypeId} {cs : Array Value} (h : w.heap[g]? = some (.cells cs t (0, 0))) (i : Nat) {v : Value} (e : cs.toList[i]? = some v) : w.cell? ⟨g, i, none⟩ = some v := (blk_cell h i).trans (by rw [← Array.getElem?_toList]; exact e)
theorem lt_alloc {w : World} {g : Nat} (h : g < w.heap.size) (o : Obj) : g < (w.alloc o).heap.size := Nat.lt_of_lt_of_le h (below_size (below_alloc (Below.refl _ _) o))
theorem lt_drewN {w : World} {g : Nat} (h : g < w.heap.size) (n : Nat) : g < (w.drewN n).heap.size := h
theorem lt_drew {w : World} {g : Nat} (h : g < w.heap.size) : g < w.drew.heap.size := h
theorem lt_set {w : World} {g : Nat} (h : g < w.heap.size) (p : Addr) (u : Value) : g < (w.setCell p u).heap.size := by simpa [World.setCell] using h
section
variable {w W W0 w1 : World} {g g' : Nat} {o : Obj}
theorem kk (_ : Aside0 (W0.heap[g]? = some o)) (h : W.heap[g]? = some o := by (with_reducible repeat (first | refine blk_drewN ?_ _ | refine blk_drew ?_ | refine blk_alloc ?_ _)); exact Aside0.out (by assumption)) : Aside0 (W.heap[g]? = some o) := ⟨h⟩
theorem kf (h : W.heap[g]? = some o := by (repeat (first | (with_reducible first | refine blk_drewN ?_ _ | refine blk_drew ?_ | refine blk_alloc ?_ _) | refine blk_far ?_ (Aside0.out (by assumption)) _ | apply blk_put)); exact Aside0.out (by assumption); all_goals rfl) : Aside0 (W.heap[g]? = some o) := ⟨h⟩
theorem kb (_ : Aside0 (W0.heap[g]? = some o)) (hb : Below W.heap.size W w1) (h : W.heap[g]? = some o := by (with_reducible repeat (first | refine blk_drewN ?_ _ | refine blk_drew ?_ | refine blk_alloc ?_ _)); exact Aside0.out (by assumption)) : Aside0 (w1.heap[g]? = some o) := ⟨blk_below h hb⟩
theorem kq (_ : Aside0 (W0.heap[g]? = some o)) (hb : Below W.heap.size W w1) (h : W.heap[g]? = some o := by (repeat (first | (with_reducible first | refine blk_drewN ?_ _ | refine blk_drew ?_ | refine blk_alloc ?_ _) | refine blk_far ?_ (Aside0.out (by assumption)) _)); exact Aside0.out (by assumption)) : Aside0 (w1.heap[g]? = some o) := ⟨blk_below h hb⟩
theorem kp (g : Nat) (cs : Array Value) (t : TypeId) (hb : Below W.heap.size W w1) (h : W.heap[g]? = some (.cells cs t (0, 0)) := by (repeat (first | (with_reducible first | refine blk_drewN ?_ _ | refine blk_drew ?_ | refine blk_alloc ?_ _) | refine blk_far ?_ (Aside0.out (by assumption)) _ | apply blk_put)); exact Aside0.out (by assumption); all_goals rfl) : Aside0 (w1.heap[g]? = some (.cells cs t (0, 0))) := ⟨blk_below h hb⟩
theorem hs (_ : Aside0 (Below w.heap.size w W0)) (hb : Below W.heap.size W w1) (h : Below w.heap.size w W := by repeat (first | (with_reducible first | exact Aside0.out (by assumption) | apply below_alloc | apply pw_below_drewN | apply below_drew1 | refine below_set ?_ (Aside0.out (by assumption))) | exact Aside0.out (by assumption))) : Aside0 (Below w.heap.size w w1) := ⟨below_step h hb⟩
theorem hz (_ : Aside0 (Below w.heap.size w W0)) (hg : g = W.heap.size) (h : Below w.heap.size w W := by repeat (first | (with_reducible first | exact Aside0.out (by assumption) | apply below_alloc | apply pw_below_drewN | apply below_drew1 | refine below_set ?_ (Aside0.out (by assumption))) | exact Aside0.out (by assumption))) : Aside0 (w.heap.size ≤ g) := ⟨by rw [hg]; exact below_size h⟩
theorem nl (_ : Aside0 (W0.heap[g]? = some o)) (hg : g' = W.heap.size) (h : g < W.heap.size := by (with_reducible repeat (first | refine lt_drewN ?_ _ | refine lt_drew ?_ | refine lt_alloc ?_ _ | refine lt_set ?_ _ _)); exact blk_lt (Aside0.out (by assumption))) : Aside0 (g ≠ g') := ⟨by rw [hg]; exact Nat.ne_of_lt h⟩
theorem ng (_ : Aside0 (W0.heap[g]? = some o)) (hg : g' = W.heap.size) (h : g < W.heap.size := by (with_reducible repeat (first | refine lt_drewN ?_ _ | refine lt_drew ?_ | refine lt_alloc ?_ _ | refine lt_set ?_ _ _)); exact blk_lt (Aside0.out (by assumption))) : Aside0 (g' ≠ g) := ⟨by rw [hg]; exact Nat.ne_of_gt h⟩
theorem hc {a : Addr} {v : Value} (HB : Aside0 (Below w.heap.size w W)) (h : w.cell? a = some v) : W.cell? a = some v := (HB.out.cell (World.block_lt_of_cell? w _ h)).trans h
theorem fin {p : Prop} (h : p := by first | rfl | (simp [errW_none, errW_some] <;> rfl) | (simp [*, errW_none, errW_some] <;> rfl)) (hb : Below w.heap.size w W := by repeat (first | (with_reducible first | exact Aside0.out (by assumption) | apply below_alloc | apply pw_below_drewN | apply below_drew1 | refine below_set ?_ (Aside0.out (by assumption))) | exact Aside0.out (by assumption))) : p ∧ Below w.heap.size w W := ⟨h, hb⟩
theorem cb {α : Type} {d : Kd α} {A : Option Addr} {n : Nat} {xs : List α} (c : d.C w A n xs) (h : Below w.heap.size w W := by repeat (first | (with_reducible first | exact Aside0.out (by assumption) | apply below_alloc | apply pw_below_drewN | apply below_drew1 | refine below_set ?_ (Aside0.out (by assumption))) | exact Aside0.out (by assumption))) : d.C W A n xs := Kd.C_below c h
end
section
variable {P : Program} {ops : Array Oper} {rest : List Oper} {o : Oper} {a : Act} {Q : Exit → Act → World → Prop} {W : World}
theorem gd (N : Tmp) (_hN : o.dst = some N) (h : wpList P ops Q (o :: rest) a W) : wpList P ops Q (o :: rest) a W := h
theorem gc (f : FuncId) {ar : Array Operand} {ts : Array TypeId} (_ho : o.op = .call { callee := .value (.func f), args := ar, argTypes := ts }) (h : wpList P ops Q (o :: rest) a W) : wpList P ops Q (o :: rest) a W := h
theorem bx (N : Tmp) (cs : Array Value) (t : TypeId)
    (h : ∀ g, g = W.heap.size → ∀ w1, w1.heap[g]? = some (.cells cs t (0, 0)) → Below W.heap.size W w1 → wpList P ops Q rest (a.put o.dst (.pointer (some ⟨g, 0, none⟩))) w1)
    (hd : o.dst = some N := by rfl) (hgd : o.guard = none := by rfl)
    (hrun : (execOp a.eval o).run P W = .ok (.value (.pointer (some ⟨W.heap.size, 0, none⟩))) (W.alloc (.cells cs t (0, 0))) := by first | (go_simp; done) | (go_simp; rfl)) : wpList P ops Q (o :: rest) a W := box_event hgd hd hrun h
theorem gl {f : FuncId} {fn : Func} {ar : Array Operand} {ts : Array TypeId} (N : Option Tmp) (hf : P.funcs[f]? = some fn) (args : Array Value) (hop : o.op = .call { callee := .value (.func f), args := ar, argTypes := ts })
    (h : Calls P f args W fun e w' => ∃ v, e = .returned v ∧ wpList P ops Q rest (a.put N v) w') (hd : o.dst = N := by rfl) (hg : o.guard = none := by rfl) (hname : (fn.name == "runtime.NumGoroutine") = false := by kernel_rfl) (hb : fn.body.isSome = true := by rfl)
    (hargs : ar.map a.eval = args := by (try simp only [List.map_toArray, List.map_cons, List.map_nil]); first | done | rfl | (simp only [List.length_drop, List.length_take]; rfl)) : wpList P ops Q (o :: rest) a W := goesL_ N hd hg hf hname hb args hop hargs h
end
section
variable {P : Program} {md : Region.Mode} {ops : Array Oper} {Q : Exit → Act → World → Prop} {S : World → Prop} {ds : List Nat} {T : Bool × List (List Nat × List Nat)} {B : List Nat} {oi : Oper} {v : Value} {fuel : Nat} {l : Array Bool} {a a' : Act} {w : World}
theorem pu (i N : Nat) (l' : Array Bool) (hT : Aside0 (rtab md ops = T)) (hi : ops[i]? = some oi) (hN : oi.dst = some N) (h : wpAnyLast P md ops Q S ds fuel l' a' w) (hc : anyT T l.toList l'.toList i = true := by kernel_rfl) (hy : Yields P ops oi v a := by (refine Or.inl ⟨by rfl, ?_⟩; intro w'; go_simp; with_reducible rfl)) (ha : a.put (some N) v = a' := by (simp only [Act.put, List.setIfInBounds_toArray, List.set_cons_zero, List.set_cons_succ, i64_w, i32_w]; rfl)) (hQ : ∀ c a w, Q (.panic c) (a.put oi.dst v) w → Q (.panic c) a w := by exact fun _ _ _ h => h) : wpAnyLast P md ops Q S ds (fuel + 1) l a w := pure_ l' hi hN (any_of hT.out hc) hQ hy ha h
theorem pv (i N : Nat) (l' : Array Bool) (hT : Aside0 (rtab md ops = T)) (hi : ops[i]? = some oi) (hN : oi.dst = some N) (h : wpAnyLast P md ops Q S ds fuel l' a' w) (hc : anyT T l.toList l'.toList i = true := by kernel_rfl) (hy : Yields P ops oi undef a := by exact Or.inr ⟨by rfl, rfl⟩) (ha : a.put (some N) undef = a' := by (simp only [Act.put, List.setIfInBounds_toArray, List.set_cons_zero, List.set_cons_succ, i64_w, i32_w]; rfl)) (hQ : ∀ c a w, Q (.panic c) (a.put oi.dst undef) w → Q (.panic c) a w := by exact fun _ _ _ h => h) : wpAnyLast P md ops Q S ds (fuel + 1) l a w := pure_ l' hi hN (any_of hT.out hc) hQ hy ha h
theorem ta (i N : Nat) (l' : Array Bool) (hT : Aside0 (rtab md ops = T)) (hW : Aside0 (waitsOk T.2 B = true)) (hS : S w) (hi : ops[i]? = some oi) (hN : oi.dst = some N) (h : wpAnyLast P md ops Q S ds fuel l' a' w) (hc : takeW T B ds l.toList l'.toList i = true := by kernel_rfl) (hy : YieldsIf P ops S oi v a := by (refine Or.inl ⟨by rfl, ?_⟩; intro w' hs; (repeat (have hs1 := hs.1; replace hs := hs.2)); go_simp; with_reducible rfl)) (ha : a.put (some N) v = a' := by (simp only [Act.put, List.setIfInBounds_toArray, List.set_cons_zero, List.set_cons_succ, i64_w, i32_w]; rfl)) (hQ : ∀ c a w, Q (.panic c) (a.put oi.dst v) w → Q (.panic c) a w := by exact fun _ _ _ h => h) : wpAnyLast P md ops Q S ds (fuel + 1) l a w := take_ l' hi hN (take_ofW hT.out hW.out hc) hQ hy hS ha h
theorem no (N : Nat) (h : wpAnyLast P md ops Q S ds fuel l a' w) (ha : a.put (some N) v = a' := by (simp only [Act.put, List.setIfInBounds_toArray, List.set_cons_zero, List.set_cons_succ, i64_w, i32_w]; rfl)) : wpAnyLast P md ops Q S ds fuel l (a.put (some N) v) w := norm_ ha h
theorem gs {K : Act → World → Prop} {N : Option Tmp} {f : FuncId} {fn : Func} {ar : Array Operand} {ts : Array TypeId} (hf : P.funcs[f]? = some fn) (args : Array Value) (hN : oi.dst = N) (hop : oi.op = .call { callee := .value (.func f), args := ar, argTypes := ts })
    (h : Calls P f args w fun e w' => ∃ v, e = .returned v ∧ K (a.put N v) w') (hname : (fn.name == "runtime.NumGoroutine") = false := by kernel_rfl) (hb : fn.body.isSome = true := by rfl) (hw : Region.wanted oi (yielded ops a.tmps) = true := by rfl)
    (hargs : ar.map a.eval = args := by (try simp only [List.map_toArray, List.map_cons, List.map_nil]); first | done | rfl | (simp only [List.length_drop, List.length_take]; rfl)) : if Region.wanted oi (yielded ops a.tmps) = true then Oper.wp P oi a w K Q else K (a.put N undef) w := goes_ hf hname hb args hw hN hop hargs h
end
section
variable {α β : Type} {A B x : α}
theorem it {h : Decidable (true = true)} (H : @ite α (true = true) h A B = x) : A = x := (if_pos rfl).symm.trans H
theorem ie {h : Decidable (false = true)} (H : @ite α (false = true) h A B = x) : B = x := (if_neg (by simp)).symm.trans H
theorem ob {o : Option α} {f : α → Option β} {r : β} (H : o.bind f = some r) : ∃ a, Aside0 (o = some a) ∧ f a = some r := (Option.bind_eq_some_iff.mp H).imp fun _ h => ⟨⟨h.1⟩, h.2⟩
end
theorem od {p : Prop} [Decidable p] (h : decide p = true := by first | (with_reducible assumption) | assumption) : p := of_decide_eq_true h
theorem hc2 {w W : World} {a0 a1 : Addr} {v0 v1 : Value} (HB : Aside0 (Below w.heap.size w W)) (h0 : w.cell? a0 = some v0) (h1 : w.cell? a1 = some v1) : W.cell? a0 = some v0 ∧ W.cell? a1 = some v1 := ⟨hc HB h0, hc HB h1⟩
theorem hc3 {w W : World} {a0 a1 a2 : Addr} {v0 v1 v2 : Value} (HB : Aside0 (Below w.heap.size w W)) (h0 : w.cell? a0 = some v0) (h1 : w.cell? a1 = some v1) (h2 : w.cell? a2 = some v2) : W.cell? a0 = some v0 ∧ W.cell? a1 = some v1 ∧ W.cell? a2 = some v2 := ⟨hc HB h0, hc HB h1, hc HB h2⟩
theorem hc4 {w W : World} {a0 a1 a2 a3 : Addr} {v0 v1 v2 v3 : Value} (HB : Aside0 (Below w.heap.size w W)) (h0 : w.cell? a0 = some v0) (h1 : w.cell? a1 = some v1) (h2 : w.cell? a2 = some v2) (h3 : w.cell? a3 = some v3) : W.cell? a0 = some v0 ∧ W.cell? a1 = some v1 ∧ W.cell? a2 = some v2 ∧ W.cell? a3 = some v3 := ⟨hc HB h0, hc HB h1, hc HB h2, hc HB h3⟩
theorem fw8 {W : World} {a0 a1 a2 a3 a4 a5 a6 a7 : Addr} {v0 v1 v2 v3 v4 v5 v6 v7 : Value} (p : Addr) (u : Value) (h0 : W.cell? a0 = some v0) (h1 : W.cell? a1 = some v1) (h2 : W.cell? a2 = some v2) (h3 : W.cell? a3 = some v3) (h4 : W.cell? a4 = some v4) (h5 : W.cell? a5 = some v5) (h6 : W.cell? a6 = some v6) (h7 : W.cell? a7 = some v7) (e0 : a0.block ≠ p.block := by first | (rw [add_block]; assumption) | (show (Addr.add _ _).block ≠ _; rw [add_block]; assumption) | assumption) (e1 : a1.block ≠ p.block := by first | (rw [add_block]; assumption) | (show (Addr.add _ _).block ≠ _; rw [add_block]; assumption) | assumption) (e2 : a2.block ≠ p.block := by first | (rw [add_block]; assumption) | (show (Addr.add _ _).block ≠ _; rw [add_block]; assumption) | assumption) (e3 : a3.block ≠ p.block := by first | (rw [add_block]; assumption) | (show (Addr.add _ _).block ≠ _; rw [add_block]; assumption) | assumption) (e4 : a4.block ≠ p.block := by first | (rw [add_block]; assumption) | (show (Addr.add _ _).block ≠ _; rw [add_block]; assumption) | assumption) (e5 : a5.block ≠ p.block := by first | (rw [add_block]; assumption) | (show (Addr.add _ _).block ≠ _; rw [add_block]; assumption) | assumption) (e6 : a6.block ≠ p.block := by first | (rw [add_block]; assumption) | (show (Addr.add _ _).block ≠ _; rw [add_block]; assumption) | assumption) (e7 : a7.block ≠ p.block := by first | (rw [add_block]; assumption) | (show (Addr.add _ _).block ≠ _; rw [add_block]; assumption) | assumption) : (W.setCell p u).cell? a0 = some v0 ∧ (W.setCell p u).cell? a1 = some v1 ∧ (W.setCell p u).cell? a2 = some v2 ∧ (W.setCell p u).cell? a3 = some v3 ∧ (W.setCell p u).cell? a4 = some v4 ∧ (W.setCell p u).cell? a5 = some v5 ∧ (W.setCell p u).cell? a6 = some v6 ∧ (W.setCell p u).cell? a7 = some v7 := ⟨(cell_far e0 u).trans h0, (cell_far e1 u).trans h1, (cell_far e2 u).trans h2, (cell_far e3 u).trans h3, (cell_far e4 u).trans h4, (cell_far e5 u).trans h5, (cell_far e6 u).trans h6, (cell_far e7 u).trans h7⟩
theorem hc8 {w W : World} {a0 a1 a2 a3 a4 a5 a6 a7 : Addr} {v0 v1 v2 v3 v4 v5 v6 v7 : Value} (HB : Aside0 (Below w.heap.size w W)) (h0 : w.cell? a0 = some v0) (h1 : w.cell? a1 = some v1) (h2 : w.cell? a2 = some v2) (h3 : w.cell? a3 = some v3) (h4 : w.cell? a4 = some v4) (h5 : w.cell? a5 = some v5) (h6 : w.cell? a6 = some v6) (h7 : w.cell? a7 = some v7) : W.cell? a0 = some v0 ∧ W.cell? a1 = some v1 ∧ W.cell? a2 = some v2 ∧ W.cell? a3 = some v3 ∧ W.cell? a4 = some v4 ∧ W.cell? a5 = some v5 ∧ W.cell? a6 = some v6 ∧ W.cell? a7 = some v7 := ⟨hc HB h0, hc HB h1, hc HB h2, hc HB h3, hc HB h4, hc HB h5, hc HB h6, hc HB h7⟩
theorem cf2 {w : World} {g : Nat} {t : TypeId} {v0 v1 : Value} (h : Aside0 (w.heap[g]? = some (.cells #[v0, v1] t (0, 0)))) : w.cell? ⟨g, 0, none⟩ = some v0 ∧ w.cell? ⟨g, 1, none⟩ = some v1 ∧ w.frozen? ⟨g, 0, none⟩ = false ∧ w.frozen? ⟨g, 1, none⟩ = false := ⟨cz h.out 0 rfl, cz h.out 1 rfl, blk_frozen h.out 0, blk_frozen h.out 1⟩
theorem cf3 {w : World} {g : Nat} {t : TypeId} {v0 v1 v2 : Value} (h : Aside0 (w.heap[g]? = some (.cells #[v0, v1, v2] t (0, 0)))) : w.cell? ⟨g, 0, none⟩ = some v0 ∧ w.cell? ⟨g, 1, none⟩ = some v1 ∧ w.cell? ⟨g, 2, none⟩ = some v2 ∧ w.frozen? ⟨g, 0, none⟩ = false ∧ w.frozen? ⟨g, 1, none⟩ = false ∧ w.frozen? ⟨g, 2, none⟩ = false := ⟨cz h.out 0 rfl, cz h.out 1 rfl, cz h.out 2 rfl, blk_frozen h.out 0, blk_frozen h.out 1, blk_frozen h.out 2⟩
theorem cf4 {w : World} {g : Nat} {t : TypeId} {v0 v1 v2 v3 : Value} (h : Aside0 (w.heap[g]? = some (.cells #[v0, v1, v2, v3] t (0, 0)))) : w.cell? ⟨g, 0, none⟩ = some v0 ∧ w.cell? ⟨g, 1, none⟩ = some v1 ∧ w.cell? ⟨g, 2, none⟩ = some v2 ∧ w.cell? ⟨g, 3, none⟩ = some v3 ∧ w.frozen? ⟨g, 0, none⟩ = false ∧ w.frozen? ⟨g, 1, none⟩ = false ∧ w.frozen? ⟨g, 2, none⟩ = false ∧ w.frozen? ⟨g, 3, none⟩ = false := ⟨cz h.out 0 rfl, cz h.out 1 rfl, cz h.out 2 rfl, cz h.out 3 rfl, blk_frozen h.out 0, blk_frozen h.out 1, blk_frozen h.out 2, blk_frozen h.out 3⟩
theorem cf8 {w : World} {g : Nat} {t : TypeId} {v0 v1 v2 v3 v4 v5 v6 v7 : Value} (h : Aside0 (w.heap[g]? = some (.cells #[v0, v1, v2, v3, v4, v5, v6, v7] t (0, 0)))) : w.cell? ⟨g, 0, none⟩ = some v0 ∧ w.cell? ⟨g, 1, none⟩ = some v1 ∧ w.cell? ⟨g, 2, none⟩ = some v2 ∧ w.cell? ⟨g, 3, none⟩ = some v3 ∧ w.cell? ⟨g, 4, none⟩ = some v4 ∧ w.cell? ⟨g, 5, none⟩ = some v5 ∧ w.cell? ⟨g, 6, none⟩ = some v6 ∧ w.cell? ⟨g, 7, none⟩ = some v7 ∧ w.frozen? ⟨g, 0, none⟩ = false ∧ w.frozen? ⟨g, 1, none⟩ = false ∧ w.frozen? ⟨g, 2, none⟩ = false ∧ w.frozen? ⟨g, 3, none⟩ = false ∧ w.frozen? ⟨g, 4, none⟩ = false ∧ w.frozen? ⟨g, 5, none⟩ = false ∧ w.frozen? ⟨g, 6, none⟩ = false ∧ w.frozen? ⟨g, 7, none⟩ = false := ⟨cz h.out 0 rfl, cz h.out 1 rfl, cz h.out 2 rfl, cz h.out 3 rfl, cz h.out 4 rfl, cz h.out 5 rfl, cz h.out 6 rfl, cz h.out 7 rfl, blk_frozen h.out 0, blk_frozen h.out 1, blk_frozen h.out 2, blk_frozen h.out 3, blk_frozen h.out 4, blk_frozen h.out 5, blk_frozen h.out 6, blk_frozen h.out 7⟩
end Go.Proofs.Ytedodaifpekahaa.P

end
section

namespace Go.Proofs.Ytedodaifpekahaa.P
open Go.RowKit Go.Proofs.YtedodaifpekahaaW.PrintWords Go.Proofs.YtedodaifpekahaaW.PrintLast Go.Proofs.YtedodaifpekahaaW.PrintMore
attribute [local go_sem] max2_int min2_int max_two min_two max_three min_three max_four min_four
set_option linter.unusedVariables false
set_option linter.unusedSimpArgs false
def spec_l6In.f (a0 : Int) (a1 : Int) (a2 : Int) : Option (Bool) := if a0 ≥ a1 then (some (decide (a0 ≤ a2))) else (some false)
end Go.Proofs.Ytedodaifpekahaa.P

end
section

namespace Go.Proofs.Ytedodaifpekahaa.P
open Go.RowKit Go.Proofs.YtedodaifpekahaaW.PrintWords Go.Proofs.YtedodaifpekahaaW.PrintLast Go.Proofs.YtedodaifpekahaaW.PrintMore
attribute [local go_sem] max2_int min2_int max_two min_two max_three min_three max_four min_four
set_option linter.unusedVariables false
set_option linter.unusedSimpArgs false
mutual
def spec_l3Find.l0 : Nat → Int → Int → List (S76) → List (S46) → Option (Int)
  | 0, _, _, _, _ => none
  | k + 1, x1, x2, x475000, x475001 => if x1 ≥ 0 then (spec_l3Find.l1 k x1 x2 0 x475000 x475001) else (some (-1))
def spec_l3Find.l1 : Nat → Int → Int → Int → List (S76) → List (S46) → Option (Int)
  | 0, _, _, _, _, _ => none
  | k + 1, x1, x2, x7, x475000, x475001 => if x7 < (x475001.length : Int) then (if 0 ≤ x7 then (if ((rd_T46 x475001 x7).f0) = x1 then (if ((rd_T46 x475001 x7).f1) = x2 then (some x7) else (spec_l3Find.l1 k x1 x2 (wrap64 (x7 + 1)) x475000 x475001)) else (spec_l3Find.l1 k x1 x2 (wrap64 (x7 + 1)) x475000 x475001)) else (none)) else (if 0 ≤ x1 then (if x1 < (x475000.length : Int) then (spec_l3Find.l0 k ((rd_T76 x475000 x1).f0) x2 x475000 x475001) else (none)) else (none))
end
def spec_l3Find.f (k : Nat) (l0_0 : List (S76)) (l0_1 : List (S46)) (a1 : Int) (a2 : Int) : Option (Int) := spec_l3Find.l0 k a1 a2 l0_0 l0_1
end Go.Proofs.Ytedodaifpekahaa.P

end
section

namespace Go.Proofs.Ytedodaifpekahaa.P
open Go.RowKit Go.Proofs.YtedodaifpekahaaW.PrintWords Go.Proofs.YtedodaifpekahaaW.PrintLast Go.Proofs.YtedodaifpekahaaW.PrintMore
attribute [local go_sem] max2_int min2_int max_two min_two max_three min_three max_four min_four
set_option linter.unusedVariables false
set_option linter.unusedSimpArgs false
def spec_l2Field.f (l0 : List (S76)) (a1 : Int) : Option (Bool) := if a1 = 1 then (some true) else (if a1 = 3 then (some true) else (if a1 = 4 then (some true) else ((spec_l6In.f a1 8 (wrap64 ((wrap64 (8 + (l0.length : Int))) - 1))).bind fun t120 => (some t120))))
end Go.Proofs.Ytedodaifpekahaa.P

end
section

namespace Go.Proofs.Ytedodaifpekahaa.P
open Go.RowKit Go.Proofs.YtedodaifpekahaaW.PrintWords Go.Proofs.YtedodaifpekahaaW.PrintLast Go.Proofs.YtedodaifpekahaaW.PrintMore
attribute [local go_sem] max2_int min2_int max_two min_two max_three min_three max_four min_four
set_option linter.unusedVariables false
set_option linter.unusedSimpArgs false
def spec_l2Class.l0 : Nat → List (S76) → Int → Int → Int → List Int → Option (Bool)
  | 0, _, _, _, _, _ => none
  | k + 1, x0, x1, x6, x123000, x123001 => if x6 < (x123001.length : Int) then (if 0 ≤ x6 then ((spec_l2Field.f x0 (rd x123001 x6)).bind fun t124 => (if t124 = true then (spec_l2Class.l0 k x0 x1 (wrap64 (x6 + 1)) x123000 x123001) else (some false))) else (none)) else (if x1 = 0 then (if x123000 = (-1) then (some ((x123001.length : Int) == 0)) else (some false)) else (if x1 = 1 then (if x123000 = 0 then (if (x123001.length : Int) = 1 then (if 0 < (x123001.length : Int) then (some ((rd x123001 0) == 1)) else (none)) else (some false)) else (some false)) else ((spec_l6In.f x123000 0 (wrap64 (x1 - 1))).bind fun t126 => (if t126 = true then (some (decide ((x123001.length : Int) ≤ 2))) else (some false)))))
def spec_l2Class.f (k : Nat) (l0 : List (S76)) (a1 : Int) : Option (Bool) := if 0 ≤ a1 then (if a1 < (l0.length : Int) then (spec_l2Class.l0 k l0 a1 0 ((rd_T76 l0 a1).f0) ((rd_T76 l0 a1).f1)) else (none)) else (none)
end Go.Proofs.Ytedodaifpekahaa.P

end
section

namespace Go.Proofs.Ytedodaifpekahaa.P
open Go.RowKit Go.Proofs.YtedodaifpekahaaW.PrintWords Go.Proofs.YtedodaifpekahaaW.PrintLast Go.Proofs.YtedodaifpekahaaW.PrintMore
attribute [local go_sem] max2_int min2_int max_two min_two max_three min_three max_four min_four
set_option linter.unusedVariables false
set_option linter.unusedSimpArgs false
def spec_ClassesOk.l0 : Nat → List (S76) → Int → Option (Bool)
  | 0, _, _ => none
  | k + 1, x0, x3 => if x3 < (x0.length : Int) then ((spec_l2Class.f k x0 x3).bind fun t128 => (if t128 = true then (spec_ClassesOk.l0 k x0 (wrap64 (x3 + 1))) else (some false))) else (some true)
def spec_ClassesOk.f (k : Nat) (l0 : List (S76)) : Option (Bool) := (spec_l6In.f (l0.length : Int) 2 5).bind fun t127 => (if t127 = true then (spec_ClassesOk.l0 k l0 0) else (some false))
end Go.Proofs.Ytedodaifpekahaa.P

end
section

namespace Go.Proofs.Ytedodaifpekahaa.P
open Go.RowKit Go.Proofs.YtedodaifpekahaaW.PrintWords Go.Proofs.YtedodaifpekahaaW.PrintLast Go.Proofs.YtedodaifpekahaaW.PrintMore
attribute [local go_sem] max2_int min2_int max_two min_two max_three min_three max_four min_four
set_option linter.unusedVariables false
set_option linter.unusedSimpArgs false
mutual
def spec_l3Head.j0 : Nat → Int → List (S76) → List (S46) → Int → Int → List Int → Int → Int → List (S67) → List (S70) → List (S73) → Option (Bool)
  | 0, _, _, _, _, _, _, _, _, _, _, _ => none
  | k + 1, x5, x130000, x130001, x131000, x131001, x131002, x131003, x131004, x131005, x131006, x131007 => if x131000 = 0 then (spec_l3Head.j1 k true x130000 x130001 x131000 x131001 x131002 x131003 x131004 x131005 x131006 x131007) else ((spec_l6In.f x131000 (-1) (wrap64 ((x130000.length : Int) - 1))).bind fun t131 => (if t131 = true then (if (x131002.length : Int) > 2 then (spec_l3Head.j1 k true x130000 x130001 x131000 x131001 x131002 x131003 x131004 x131005 x131006 x131007) else ((spec_l2Field.f x130000 x131003).bind fun t132 => (if t132 = true then ((spec_l6In.f x131004 (wrap64 (x5 + (x131002.length : Int))) 3).bind fun t133 => (spec_l3Head.j1 k (!t133) x130000 x130001 x131000 x131001 x131002 x131003 x131004 x131005 x131006 x131007)) else (spec_l3Head.j1 k true x130000 x130001 x131000 x131001 x131002 x131003 x131004 x131005 x131006 x131007)))) else (spec_l3Head.j1 k true x130000 x130001 x131000 x131001 x131002 x131003 x131004 x131005 x131006 x131007)))
def spec_l3Head.j1 : Nat → Bool → List (S76) → List (S46) → Int → Int → List Int → Int → Int → List (S67) → List (S70) → List (S73) → Option (Bool)
  | 0, _, _, _, _, _, _, _, _, _, _, _ => none
  | k + 1, x47, x130000, x130001, x131000, x131001, x131002, x131003, x131004, x131005, x131006, x131007 => if x47 = true then (some false) else (spec_l3Head.l0 k 0 x130000 x130001 x131000 x131001 x131002 x131003 x131004 x131005 x131006 x131007)
def spec_l3Head.l0 : Nat → Int → List (S76) → List (S46) → Int → Int → List Int → Int → Int → List (S67) → List (S70) → List (S73) → Option (Bool)
  | 0, _, _, _, _, _, _, _, _, _, _, _ => none
  | k + 1, x6, x130000, x130001, x131000, x131001, x131002, x131003, x131004, x131005, x131006, x131007 => if x6 < (x131002.length : Int) then (if 0 ≤ x6 then ((spec_l2Field.f x130000 (rd x131002 x6)).bind fun t135 => (if t135 = true then (spec_l3Head.l0 k (wrap64 (x6 + 1)) x130000 x130001 x131000 x131001 x131002 x131003 x131004 x131005 x131006 x131007) else (some false))) else (none)) else (if x131000 ≥ 0 then ((spec_l6In.f x131001 0 2).bind fun t136 => (if t136 = true then (some true) else (if x131000 < 0 then (some (x131001 == 0)) else (some false)))) else (if x131000 < 0 then (some (x131001 == 0)) else (some false)))
end
def spec_l3Head.f (k : Nat) (l0_0 : List (S76)) (l0_1 : List (S46)) (a1_0 : Int) (a1_1 : Int) (l1_2 : List Int) (a1_3 : Int) (a1_4 : Int) (l1_5 : List (S67)) (l1_6 : List (S70)) (l1_7 : List (S73)) : Option (Bool) := if a1_0 ≥ 0 then (spec_l3Head.j0 k 1 l0_0 l0_1 a1_0 a1_1 l1_2 a1_3 a1_4 l1_5 l1_6 l1_7) else (spec_l3Head.j0 k 0 l0_0 l0_1 a1_0 a1_1 l1_2 a1_3 a1_4 l1_5 l1_6 l1_7)
end Go.Proofs.Ytedodaifpekahaa.P

end
section

namespace Go.Proofs.Ytedodaifpekahaa.P
open Go.RowKit Go.Proofs.YtedodaifpekahaaW.PrintWords Go.Proofs.YtedodaifpekahaaW.PrintLast Go.Proofs.YtedodaifpekahaaW.PrintMore
attribute [local go_sem] max2_int min2_int max_two min_two max_three min_three max_four min_four
set_option linter.unusedVariables false
set_option linter.unusedSimpArgs false
def spec_l1Word.f (a0 : Int) : Option (Bool) := (spec_l6In.f a0 (-128) 127).bind fun t137 => (some t137)
end Go.Proofs.Ytedodaifpekahaa.P

end
section

namespace Go.Proofs.Ytedodaifpekahaa.P
open Go.RowKit Go.Proofs.YtedodaifpekahaaW.PrintWords Go.Proofs.YtedodaifpekahaaW.PrintLast Go.Proofs.YtedodaifpekahaaW.PrintMore
attribute [local go_sem] max2_int min2_int max_two min_two max_three min_three max_four min_four
set_option linter.unusedVariables false
set_option linter.unusedSimpArgs false
def spec_l2Fields.f : Nat → List (S76) → Int → Option (List Int)
  | 0, _, _ => none
  | k + 1, l0, a1 => if a1 = 0 then (some (([] : List Int))) else (if 0 ≤ a1 then (if a1 < (l0.length : Int) then ((spec_l2Fields.f k l0 ((rd_T76 l0 a1).f0)).bind fun t142 => (if t142.length + ((rd_T76 l0 a1).f1).length < 17592186044416 then (some (t142 ++ ((rd_T76 l0 a1).f1))) else (none))) else (none)) else (none))
end Go.Proofs.Ytedodaifpekahaa.P

end
section

namespace Go.Proofs.Ytedodaifpekahaa.P
open Go.RowKit Go.Proofs.YtedodaifpekahaaW.PrintWords Go.Proofs.YtedodaifpekahaaW.PrintLast Go.Proofs.YtedodaifpekahaaW.PrintMore
attribute [local go_sem] max2_int min2_int max_two min_two max_three min_three max_four min_four
set_option linter.unusedVariables false
set_option linter.unusedSimpArgs false
mutual
def spec_l3Ins.j0 : Nat → Bool → Int → Bool → List (S76) → List (S46) → Int → Int → List Int → Int → Int → List (S67) → List (S70) → List (S73) → Int → Int → Int → Option (Bool)
  | 0, _, _, _, _, _, _, _, _, _, _, _, _, _, _, _, _ => none
  | k + 1, x7, x16, x27, x150000, x150001, x151000, x151001, x151002, x151003, x151004, x151005, x151006, x151007, x152000, x152001, x152002 => if x27 = true then (if x152001 = 0 then (some (x152002 == 0)) else (some false)) else (if x16 = 3 then (spec_l3Ins.j1 k x7 x16 (x16 == 3) x150000 x150001 x151000 x151001 x151002 x151003 x151004 x151005 x151006 x151007 x152000 x152001 x152002) else (spec_l3Ins.j1 k x7 x16 (x16 == 4) x150000 x150001 x151000 x151001 x151002 x151003 x151004 x151005 x151006 x151007 x152000 x152001 x152002))
def spec_l3Ins.j1 : Nat → Bool → Int → Bool → List (S76) → List (S46) → Int → Int → List Int → Int → Int → List (S67) → List (S70) → List (S73) → Int → Int → Int → Option (Bool)
  | 0, _, _, _, _, _, _, _, _, _, _, _, _, _, _, _, _ => none
  | k + 1, x7, x16, x43, x150000, x150001, x151000, x151001, x151002, x151003, x151004, x151005, x151006, x151007, x152000, x152001, x152002 => if x43 = true then ((spec_l6In.f x152001 0 (wrap64 (x151004 - 1))).bind fun t154 => (if t154 = true then (some (x152002 == 0)) else (some false))) else (if x16 = 7 then ((spec_l6In.f x152001 1 4).bind fun t155 => (if t155 = true then (some (x152002 == 0)) else (some false))) else (if x16 = 8 then (spec_l3Ins.j2 k x7 x16 (x16 == 8) x150000 x150001 x151000 x151001 x151002 x151003 x151004 x151005 x151006 x151007 x152000 x152001 x152002) else (if x16 = 9 then (spec_l3Ins.j2 k x7 x16 (x16 == 9) x150000 x150001 x151000 x151001 x151002 x151003 x151004 x151005 x151006 x151007 x152000 x152001 x152002) else (if x16 = 10 then (spec_l3Ins.j2 k x7 x16 (x16 == 10) x150000 x150001 x151000 x151001 x151002 x151003 x151004 x151005 x151006 x151007 x152000 x152001 x152002) else (spec_l3Ins.j2 k x7 x16 (x16 == 11) x150000 x150001 x151000 x151001 x151002 x151003 x151004 x151005 x151006 x151007 x152000 x152001 x152002)))))
def spec_l3Ins.j2 : Nat → Bool → Int → Bool → List (S76) → List (S46) → Int → Int → List Int → Int → Int → List (S67) → List (S70) → List (S73) → Int → Int → Int → Option (Bool)
  | 0, _, _, _, _, _, _, _, _, _, _, _, _, _, _, _, _ => none
  | k + 1, x7, x16, x67, x150000, x150001, x151000, x151001, x151002, x151003, x151004, x151005, x151006, x151007, x152000, x152001, x152002 => if x67 = true then ((spec_l6In.f x152001 0 (wrap64 ((x151005.length : Int) - 1))).bind fun t156 => (if t156 = true then (some (x152002 == 0)) else (some false))) else (if x16 = 12 then (spec_l3Ins.j3 k x7 x16 (x16 == 12) x150000 x150001 x152000 x152001 x152002) else (spec_l3Ins.j3 k x7 x16 (x16 == 19) x150000 x150001 x152000 x152001 x152002))
def spec_l3Ins.j3 : Nat → Bool → Int → Bool → List (S76) → List (S46) → Int → Int → Int → Option (Bool)
  | 0, _, _, _, _, _, _, _, _ => none
  | k + 1, x7, x16, x84, x150000, x150001, x152000, x152001, x152002 => if x84 = true then (if x7 = true then (some (x152002 == 0)) else (some false)) else (if x16 = 13 then (spec_l3Ins.j4 k x7 x16 (x16 == 13) x150000 x150001 x152000 x152001 x152002) else (if x16 = 15 then (spec_l3Ins.j4 k x7 x16 (x16 == 15) x150000 x150001 x152000 x152001 x152002) else (spec_l3Ins.j4 k x7 x16 (x16 == 16) x150000 x150001 x152000 x152001 x152002)))
def spec_l3Ins.j4 : Nat → Bool → Int → Bool → List (S76) → List (S46) → Int → Int → Int → Option (Bool)
  | 0, _, _, _, _, _, _, _, _ => none
  | k + 1, x7, x16, x93, x150000, x150001, x152000, x152001, x152002 => if x93 = true then ((spec_l6In.f x152001 0 1).bind fun t157 => (if t157 = true then (some (x152002 == 0)) else (some false))) else (if x16 = 17 then (spec_l3Ins.j5 k x7 x16 (x16 == 17) x150000 x150001 x152000 x152001 x152002) else (spec_l3Ins.j5 k x7 x16 (x16 == 18) x150000 x150001 x152000 x152001 x152002))
def spec_l3Ins.j5 : Nat → Bool → Int → Bool → List (S76) → List (S46) → Int → Int → Int → Option (Bool)
  | 0, _, _, _, _, _, _, _, _ => none
  | k + 1, x7, x16, x105, x150000, x150001, x152000, x152001, x152002 => if x105 = true then (if x7 = true then ((spec_l2Fields.f k x150000 x152001).bind fun t158 => ((spec_l6In.f x152002 0 (wrap64 ((t158.length : Int) - 1))).bind fun t161 => (some t161))) else (some false)) else (if x16 = 20 then ((spec_l6In.f x152001 0 (wrap64 ((x150001.length : Int) - 1))).bind fun t162 => (if t162 = true then (if x152002 = 0 then (if 0 ≤ x152001 then (if x152001 < (x150001.length : Int) then (some (((rd_T46 x150001 x152001).f0) == (-1))) else (none)) else (none)) else (some false)) else (some false))) else (if x16 = 21 then (if x7 = true then ((spec_l6In.f x152002 0 2).bind fun t164 => (some t164)) else (some false)) else (some false)))
end
def spec_l3Ins.f (k : Nat) (l0_0 : List (S76)) (l0_1 : List (S46)) (a1_0 : Int) (a1_1 : Int) (l1_2 : List Int) (a1_3 : Int) (a1_4 : Int) (l1_5 : List (S67)) (l1_6 : List (S70)) (l1_7 : List (S73)) (a2_0 : Int) (a2_1 : Int) (a2_2 : Int) : Option (Bool) := (spec_l6In.f a2_1 0 (wrap64 ((l0_0.length : Int) - 1))).bind fun t152 => (if a2_0 = 1 then ((spec_l1Word.f a2_1).bind fun t153 => (if t153 = true then (some (a2_2 == 0)) else (some false))) else (if a2_0 = 2 then (spec_l3Ins.j0 k t152 a2_0 (a2_0 == 2) l0_0 l0_1 a1_0 a1_1 l1_2 a1_3 a1_4 l1_5 l1_6 l1_7 a2_0 a2_1 a2_2) else (if a2_0 = 5 then (spec_l3Ins.j0 k t152 a2_0 (a2_0 == 5) l0_0 l0_1 a1_0 a1_1 l1_2 a1_3 a1_4 l1_5 l1_6 l1_7 a2_0 a2_1 a2_2) else (if a2_0 = 6 then (spec_l3Ins.j0 k t152 a2_0 (a2_0 == 6) l0_0 l0_1 a1_0 a1_1 l1_2 a1_3 a1_4 l1_5 l1_6 l1_7 a2_0 a2_1 a2_2) else (if a2_0 = 14 then (spec_l3Ins.j0 k t152 a2_0 (a2_0 == 14) l0_0 l0_1 a1_0 a1_1 l1_2 a1_3 a1_4 l1_5 l1_6 l1_7 a2_0 a2_1 a2_2) else (if a2_0 = 22 then (spec_l3Ins.j0 k t152 a2_0 (a2_0 == 22) l0_0 l0_1 a1_0 a1_1 l1_2 a1_3 a1_4 l1_5 l1_6 l1_7 a2_0 a2_1 a2_2) else (if a2_0 = 23 then (spec_l3Ins.j0 k t152 a2_0 (a2_0 == 23) l0_0 l0_1 a1_0 a1_1 l1_2 a1_3 a1_4 l1_5 l1_6 l1_7 a2_0 a2_1 a2_2) else (spec_l3Ins.j0 k t152 a2_0 (a2_0 == 24) l0_0 l0_1 a1_0 a1_1 l1_2 a1_3 a1_4 l1_5 l1_6 l1_7 a2_0 a2_1 a2_2))))))))
end Go.Proofs.Ytedodaifpekahaa.P

end
section

namespace Go.Proofs.Ytedodaifpekahaa.P
open Go.RowKit Go.Proofs.YtedodaifpekahaaW.PrintWords Go.Proofs.YtedodaifpekahaaW.PrintLast Go.Proofs.YtedodaifpekahaaW.PrintMore
attribute [local go_sem] max2_int min2_int max_two min_two max_three min_three max_four min_four
set_option linter.unusedVariables false
set_option linter.unusedSimpArgs false
def spec_TypeOk.f (k : Nat) (l0 : List (S76)) (a1 : Int) : Option (Bool) := (spec_ClassesOk.f k l0).bind fun t165 => (if t165 = true then (if a1 = 0 then (some true) else (if a1 = 2 then (some true) else ((spec_l2Field.f l0 a1).bind fun t166 => (some t166)))) else (some false))
end Go.Proofs.Ytedodaifpekahaa.P

end
section

namespace Go.Proofs.Ytedodaifpekahaa.P
open Go.RowKit Go.Proofs.YtedodaifpekahaaW.PrintWords Go.Proofs.YtedodaifpekahaaW.PrintLast Go.Proofs.YtedodaifpekahaaW.PrintMore
attribute [local go_sem] max2_int min2_int max_two min_two max_three min_three max_four min_four
set_option linter.unusedVariables false
set_option linter.unusedSimpArgs false
mutual
def spec_ShapeOk.j0 : Nat → List (S76) → Bool → Bool → List Int → List Int → Option (Bool)
  | 0, _, _, _, _, _ => none
  | k + 1, x0, x35, x168000, x168001, x168002 => if x35 = true then (some false) else (spec_ShapeOk.l0 k x0 0 x168000 x168001 x168002)
def spec_ShapeOk.l0 : Nat → List (S76) → Int → Bool → List Int → List Int → Option (Bool)
  | 0, _, _, _, _, _ => none
  | k + 1, x0, x7, x168000, x168001, x168002 => if x7 < (x168001.length : Int) then (if 0 ≤ x7 then ((spec_TypeOk.f k x0 (rd x168001 x7)).bind fun t170 => (if t170 = true then (spec_ShapeOk.l0 k x0 (wrap64 (x7 + 1)) x168000 x168001 x168002) else (some false))) else (none)) else (spec_ShapeOk.l1 k x0 0 x168000 x168001 x168002)
def spec_ShapeOk.l1 : Nat → List (S76) → Int → Bool → List Int → List Int → Option (Bool)
  | 0, _, _, _, _, _ => none
  | k + 1, x0, x8, x168000, x168001, x168002 => if x8 < (x168002.length : Int) then (if 0 ≤ x8 then ((spec_TypeOk.f k x0 (rd x168002 x8)).bind fun t172 => (if t172 = true then (if (rd x168002 x8) = 0 then (some false) else (spec_ShapeOk.l1 k x0 (wrap64 (x8 + 1)) x168000 x168001 x168002)) else (some false))) else (none)) else (some true)
end
def spec_ShapeOk.f (k : Nat) (l0 : List (S76)) (a1 : Int) (a2_0 : Bool) (l2_1 : List Int) (l2_2 : List Int) : Option (Bool) := (spec_ClassesOk.f k l0).bind fun t168 => (if t168 = true then (if a2_0 = true then (if (l2_1.length : Int) = a1 then (spec_ShapeOk.j0 k l0 (decide ((l2_2.length : Int) > 4)) a2_0 l2_1 l2_2) else (spec_ShapeOk.j0 k l0 true a2_0 l2_1 l2_2)) else (if (l2_1.length : Int) = 0 then (some ((l2_2.length : Int) == 0)) else (some false))) else (some false))
end Go.Proofs.Ytedodaifpekahaa.P

end
section

namespace Go.Proofs.Ytedodaifpekahaa.P
open Go.RowKit Go.Proofs.YtedodaifpekahaaW.PrintWords Go.Proofs.YtedodaifpekahaaW.PrintLast Go.Proofs.YtedodaifpekahaaW.PrintMore
attribute [local go_sem] max2_int min2_int max_two min_two max_three min_three max_four min_four
set_option linter.unusedVariables false
set_option linter.unusedSimpArgs false
def spec_l2Up.l0 : Nat → List (S76) → Int → Int → Option (Bool)
  | 0, _, _, _ => none
  | k + 1, x0, x1, x2 => if x1 > x2 then (if 0 ≤ x1 then (if x1 < (x0.length : Int) then (spec_l2Up.l0 k x0 ((rd_T76 x0 x1).f0) x2) else (none)) else (none)) else (some (x1 == x2))
def spec_l2Up.f (k : Nat) (l0 : List (S76)) (a1 : Int) (a2 : Int) : Option (Bool) := spec_l2Up.l0 k l0 a1 a2
end Go.Proofs.Ytedodaifpekahaa.P

end
section

namespace Go.Proofs.Ytedodaifpekahaa.P
open Go.RowKit Go.Proofs.YtedodaifpekahaaW.PrintWords Go.Proofs.YtedodaifpekahaaW.PrintLast Go.Proofs.YtedodaifpekahaaW.PrintMore
attribute [local go_sem] max2_int min2_int max_two min_two max_three min_three max_four min_four
set_option linter.unusedVariables false
set_option linter.unusedSimpArgs false
def spec_l3Catch.f (k : Nat) (l0_0 : List (S76)) (l0_1 : List (S46)) (a1_0 : Int) (a1_1 : Int) (l1_2 : List Int) (a1_3 : Int) (a1_4 : Int) (l1_5 : List (S67)) (l1_6 : List (S70)) (l1_7 : List (S73)) (a2_0 : Int) (a2_1 : Int) (a2_2 : Int) (a2_3 : Int) : Option (Bool) := (spec_l6In.f a2_0 0 (wrap64 ((l1_5.length : Int) - 1))).bind fun t178 => (if t178 = true then ((spec_l6In.f a2_1 (wrap64 (a2_0 + 1)) (l1_5.length : Int)).bind fun t179 => (if t179 = true then ((spec_l6In.f a2_2 0 (wrap64 ((l1_5.length : Int) - 1))).bind fun t180 => (if t180 = true then ((spec_l6In.f a2_3 0 (wrap64 ((l0_0.length : Int) - 1))).bind fun t181 => (if t181 = true then ((spec_l2Up.f k l0_0 a2_3 1).bind fun t182 => (some t182)) else (some false))) else (some false))) else (some false))) else (some false))
end Go.Proofs.Ytedodaifpekahaa.P

end
section

namespace Go.Proofs.Ytedodaifpekahaa.P
open Go.RowKit Go.Proofs.YtedodaifpekahaaW.PrintWords Go.Proofs.YtedodaifpekahaaW.PrintLast Go.Proofs.YtedodaifpekahaaW.PrintMore
attribute [local go_sem] max2_int min2_int max_two min_two max_three min_three max_four min_four
set_option linter.unusedVariables false
set_option linter.unusedSimpArgs false
mutual
def spec_l3Method.j0 : Nat → Bool → List (S76) → List (S46) → Int → Int → List Int → Int → Int → List (S67) → List (S70) → List (S73) → Option (Bool)
  | 0, _, _, _, _, _, _, _, _, _, _, _ => none
  | k + 1, x32, x184000, x184001, x185000, x185001, x185002, x185003, x185004, x185005, x185006, x185007 => if x32 = true then (some false) else (spec_l3Method.l0 k 0 x184000 x184001 x185000 x185001 x185002 x185003 x185004 x185005 x185006 x185007)
def spec_l3Method.l0 : Nat → Int → List (S76) → List (S46) → Int → Int → List Int → Int → Int → List (S67) → List (S70) → List (S73) → Option (Bool)
  | 0, _, _, _, _, _, _, _, _, _, _, _ => none
  | k + 1, x5, x184000, x184001, x185000, x185001, x185002, x185003, x185004, x185005, x185006, x185007 => if x5 < (x185005.length : Int) then (if 0 ≤ x5 then ((spec_l3Ins.f k x184000 x184001 x185000 x185001 x185002 x185003 x185004 x185005 x185006 x185007 ((rd_T67 x185005 x5).f0) ((rd_T67 x185005 x5).f1) ((rd_T67 x185005 x5).f2)).bind fun t188 => (if t188 = true then (if x5 < (x185006.length : Int) then ((spec_ShapeOk.f k x184000 x185004 ((rd_T70 x185006 x5).f0) ((rd_T70 x185006 x5).f1) ((rd_T70 x185006 x5).f2)).bind fun t190 => (if t190 = true then (spec_l3Method.l0 k (wrap64 (x5 + 1)) x184000 x184001 x185000 x185001 x185002 x185003 x185004 x185005 x185006 x185007) else (some false))) else (none)) else (some false))) else (none)) else (spec_l3Method.l1 k 0 x184000 x184001 x185000 x185001 x185002 x185003 x185004 x185005 x185006 x185007)
def spec_l3Method.l1 : Nat → Int → List (S76) → List (S46) → Int → Int → List Int → Int → Int → List (S67) → List (S70) → List (S73) → Option (Bool)
  | 0, _, _, _, _, _, _, _, _, _, _, _ => none
  | k + 1, x6, x184000, x184001, x185000, x185001, x185002, x185003, x185004, x185005, x185006, x185007 => if x6 < (x185007.length : Int) then (if 0 ≤ x6 then ((spec_l3Catch.f k x184000 x184001 x185000 x185001 x185002 x185003 x185004 x185005 x185006 x185007 ((rd_T73 x185007 x6).f0) ((rd_T73 x185007 x6).f1) ((rd_T73 x185007 x6).f2) ((rd_T73 x185007 x6).f3)).bind fun t192 => (if t192 = true then (spec_l3Method.l1 k (wrap64 (x6 + 1)) x184000 x184001 x185000 x185001 x185002 x185003 x185004 x185005 x185006 x185007) else (some false))) else (none)) else (some true)
end
def spec_l3Method.f (k : Nat) (l0_0 : List (S76)) (l0_1 : List (S46)) (a1_0 : Int) (a1_1 : Int) (l1_2 : List Int) (a1_3 : Int) (a1_4 : Int) (l1_5 : List (S67)) (l1_6 : List (S70)) (l1_7 : List (S73)) : Option (Bool) := (spec_l3Head.f k l0_0 l0_1 a1_0 a1_1 l1_2 a1_3 a1_4 l1_5 l1_6 l1_7).bind fun t185 => (if t185 = true then ((spec_l6In.f (l1_5.length : Int) 1 12).bind fun t186 => (if t186 = true then (if (l1_6.length : Int) = (l1_5.length : Int) then (spec_l3Method.j0 k (decide ((l1_7.length : Int) > 2)) l0_0 l0_1 a1_0 a1_1 l1_2 a1_3 a1_4 l1_5 l1_6 l1_7) else (spec_l3Method.j0 k true l0_0 l0_1 a1_0 a1_1 l1_2 a1_3 a1_4 l1_5 l1_6 l1_7)) else (spec_l3Method.j0 k true l0_0 l0_1 a1_0 a1_1 l1_2 a1_3 a1_4 l1_5 l1_6 l1_7))) else (spec_l3Method.j0 k true l0_0 l0_1 a1_0 a1_1 l1_2 a1_3 a1_4 l1_5 l1_6 l1_7))
end Go.Proofs.Ytedodaifpekahaa.P

end
section

namespace Go.Proofs.Ytedodaifpekahaa.P
open Go.RowKit Go.Proofs.YtedodaifpekahaaW.PrintWords Go.Proofs.YtedodaifpekahaaW.PrintLast Go.Proofs.YtedodaifpekahaaW.PrintMore
attribute [local go_sem] max2_int min2_int max_two min_two max_three min_three max_four min_four
set_option linter.unusedVariables false
set_option linter.unusedSimpArgs false
mutual
def spec_l3Same.j0 : Nat → Bool → Int → Int → List Int → Int → Int → List (S67) → List (S70) → List (S73) → Int → Int → List Int → Int → Int → List (S67) → List (S70) → List (S73) → Option (Bool)
  | 0, _, _, _, _, _, _, _, _, _, _, _, _, _, _, _, _, _ => none
  | k + 1, x19, x194000, x194001, x194002, x194003, x194004, x194005, x194006, x194007, x195000, x195001, x195002, x195003, x195004, x195005, x195006, x195007 => if x19 = true then (some false) else (spec_l3Same.l0 k 0 x194000 x194001 x194002 x194003 x194004 x194005 x194006 x194007 x195000 x195001 x195002 x195003 x195004 x195005 x195006 x195007)
def spec_l3Same.l0 : Nat → Int → Int → Int → List Int → Int → Int → List (S67) → List (S70) → List (S73) → Int → Int → List Int → Int → Int → List (S67) → List (S70) → List (S73) → Option (Bool)
  | 0, _, _, _, _, _, _, _, _, _, _, _, _, _, _, _, _, _ => none
  | k + 1, x5, x194000, x194001, x194002, x194003, x194004, x194005, x194006, x194007, x195000, x195001, x195002, x195003, x195004, x195005, x195006, x195007 => if x5 < (x194002.length : Int) then (if 0 ≤ x5 then (if x5 < (x195002.length : Int) then (if (rd x194002 x5) = (rd x195002 x5) then (spec_l3Same.l0 k (wrap64 (x5 + 1)) x194000 x194001 x194002 x194003 x194004 x194005 x194006 x194007 x195000 x195001 x195002 x195003 x195004 x195005 x195006 x195007) else (some false)) else (none)) else (none)) else (some true)
end
def spec_l3Same.f (k : Nat) (a0_0 : Int) (a0_1 : Int) (l0_2 : List Int) (a0_3 : Int) (a0_4 : Int) (l0_5 : List (S67)) (l0_6 : List (S70)) (l0_7 : List (S73)) (a1_0 : Int) (a1_1 : Int) (l1_2 : List Int) (a1_3 : Int) (a1_4 : Int) (l1_5 : List (S67)) (l1_6 : List (S70)) (l1_7 : List (S73)) : Option (Bool) := if a0_3 = a1_3 then (spec_l3Same.j0 k ((l0_2.length : Int) != (l1_2.length : Int)) a0_0 a0_1 l0_2 a0_3 a0_4 l0_5 l0_6 l0_7 a1_0 a1_1 l1_2 a1_3 a1_4 l1_5 l1_6 l1_7) else (spec_l3Same.j0 k true a0_0 a0_1 l0_2 a0_3 a0_4 l0_5 l0_6 l0_7 a1_0 a1_1 l1_2 a1_3 a1_4 l1_5 l1_6 l1_7)
end Go.Proofs.Ytedodaifpekahaa.P

end
section

namespace Go.Proofs.Ytedodaifpekahaa.P
open Go.RowKit Go.Proofs.YtedodaifpekahaaW.PrintWords Go.Proofs.YtedodaifpekahaaW.PrintLast Go.Proofs.YtedodaifpekahaaW.PrintMore
attribute [local go_sem] max2_int min2_int max_two min_two max_three min_three max_four min_four
set_option linter.unusedVariables false
set_option linter.unusedSimpArgs false
mutual
def spec_l3Apart.l0 : Nat → Int → List (S76) → List (S46) → Option (Bool)
  | 0, _, _, _ => none
  | k + 1, x3, x198000, x198001 => if x3 < (x198001.length : Int) then (spec_l3Apart.l1 k x3 0 x198000 x198001) else (some true)
def spec_l3Apart.l1 : Nat → Int → Int → List (S76) → List (S46) → Option (Bool)
  | 0, _, _, _, _ => none
  | k + 1, x3, x4, x198000, x198001 => if x4 < (x198001.length : Int) then (if 0 ≤ x3 then (if x3 < (x198001.length : Int) then (if 0 ≤ x4 then (if x3 = x4 then (spec_l3Apart.l1 k x3 (wrap64 (x4 + 1)) x198000 x198001) else (if ((rd_T46 x198001 x3).f0) ≥ 0 then (if ((rd_T46 x198001 x4).f0) ≥ 0 then (if ((rd_T46 x198001 x3).f1) = ((rd_T46 x198001 x4).f1) then ((spec_l2Up.f k x198000 ((rd_T46 x198001 x3).f0) ((rd_T46 x198001 x4).f0)).bind fun t202 => (if t202 = true then (if ((rd_T46 x198001 x3).f0) = ((rd_T46 x198001 x4).f0) then (some false) else ((spec_l3Same.f k ((rd_T46 x198001 x3).f0) ((rd_T46 x198001 x3).f1) ((rd_T46 x198001 x3).f2) ((rd_T46 x198001 x3).f3) ((rd_T46 x198001 x3).f4) ((rd_T46 x198001 x3).f5) ((rd_T46 x198001 x3).f6) ((rd_T46 x198001 x3).f7) ((rd_T46 x198001 x4).f0) ((rd_T46 x198001 x4).f1) ((rd_T46 x198001 x4).f2) ((rd_T46 x198001 x4).f3) ((rd_T46 x198001 x4).f4) ((rd_T46 x198001 x4).f5) ((rd_T46 x198001 x4).f6) ((rd_T46 x198001 x4).f7)).bind fun t203 => (if t203 = true then (spec_l3Apart.l1 k x3 (wrap64 (x4 + 1)) x198000 x198001) else (some false)))) else (spec_l3Apart.l1 k x3 (wrap64 (x4 + 1)) x198000 x198001))) else (spec_l3Apart.l1 k x3 (wrap64 (x4 + 1)) x198000 x198001)) else (spec_l3Apart.l1 k x3 (wrap64 (x4 + 1)) x198000 x198001)) else (spec_l3Apart.l1 k x3 (wrap64 (x4 + 1)) x198000 x198001))) else (none)) else (none)) else (none)) else (spec_l3Apart.l0 k (wrap64 (x3 + 1)) x198000 x198001)
end
def spec_l3Apart.f (k : Nat) (l0_0 : List (S76)) (l0_1 : List (S46)) : Option (Bool) := spec_l3Apart.l0 k 0 l0_0 l0_1
end Go.Proofs.Ytedodaifpekahaa.P

end
section

namespace Go.Proofs.Ytedodaifpekahaa.P
open Go.RowKit Go.Proofs.YtedodaifpekahaaW.PrintWords Go.Proofs.YtedodaifpekahaaW.PrintLast Go.Proofs.YtedodaifpekahaaW.PrintMore
attribute [local go_sem] max2_int min2_int max_two min_two max_three min_three max_four min_four
set_option linter.unusedVariables false
set_option linter.unusedSimpArgs false
mutual
def spec_UnitOk.j0 : Nat → Bool → List (S76) → List (S46) → Option (Bool)
  | 0, _, _, _ => none
  | k + 1, x14, x205000, x205001 => if x14 = true then (some false) else (if 0 < (x205001.length : Int) then (if ((rd_T46 x205001 0).f0) = (-1) then (if (((rd_T46 x205001 0).f2).length : Int) > 0 then (spec_UnitOk.j1 k true x205000 x205001) else (spec_UnitOk.j1 k (((rd_T46 x205001 0).f3) != 1) x205000 x205001)) else (spec_UnitOk.j1 k true x205000 x205001)) else (none))
def spec_UnitOk.j1 : Nat → Bool → List (S76) → List (S46) → Option (Bool)
  | 0, _, _, _ => none
  | k + 1, x37, x205000, x205001 => if x37 = true then (some false) else (spec_UnitOk.l0 k 0 x205000 x205001)
def spec_UnitOk.l0 : Nat → Int → List (S76) → List (S46) → Option (Bool)
  | 0, _, _, _ => none
  | k + 1, x3, x205000, x205001 => if x3 < (x205001.length : Int) then (if 0 ≤ x3 then ((spec_l3Method.f k x205000 x205001 ((rd_T46 x205001 x3).f0) ((rd_T46 x205001 x3).f1) ((rd_T46 x205001 x3).f2) ((rd_T46 x205001 x3).f3) ((rd_T46 x205001 x3).f4) ((rd_T46 x205001 x3).f5) ((rd_T46 x205001 x3).f6) ((rd_T46 x205001 x3).f7)).bind fun t211 => (if t211 = true then (spec_UnitOk.l0 k (wrap64 (x3 + 1)) x205000 x205001) else (some false))) else (none)) else ((spec_l3Apart.f k x205000 x205001).bind fun t212 => (some t212))
end
def spec_UnitOk.f (k : Nat) (l0_0 : List (S76)) (l0_1 : List (S46)) : Option (Bool) := (spec_ClassesOk.f k l0_0).bind fun t205 => (if t205 = true then ((spec_l6In.f (l0_1.length : Int) 1 4).bind fun t206 => (spec_UnitOk.j0 k (!t206) l0_0 l0_1)) else (spec_UnitOk.j0 k true l0_0 l0_1))
end Go.Proofs.Ytedodaifpekahaa.P

end
section

namespace Go.Proofs.Ytedodaifpekahaa.P
open Go.RowKit Go.Proofs.YtedodaifpekahaaW.PrintWords Go.Proofs.YtedodaifpekahaaW.PrintLast Go.Proofs.YtedodaifpekahaaW.PrintMore
attribute [local go_sem] max2_int min2_int max_two min_two max_three min_three max_four min_four
set_option linter.unusedVariables false
set_option linter.unusedSimpArgs false
def spec_UnitFind.f (k : Nat) (l0_0 : List (S76)) (l0_1 : List (S46)) (a1 : Int) (a2 : Int) : Option (Int) := (spec_UnitOk.f k l0_0 l0_1).bind fun t479 => (if t479 = true then ((spec_l6In.f a1 0 (wrap64 ((l0_0.length : Int) - 1))).bind fun t480 => (if t480 = true then ((spec_l3Find.f k l0_0 l0_1 a1 a2).bind fun t481 => (some t481)) else (some (-1)))) else (some (-1)))
end Go.Proofs.Ytedodaifpekahaa.P

end
section

namespace Go.Proofs.Ytedodaifpekahaa.P
open Go.RowKit Go.Proofs.YtedodaifpekahaaW.PrintWords Go.Proofs.YtedodaifpekahaaW.PrintLast Go.Proofs.YtedodaifpekahaaW.PrintMore
attribute [local go_sem] max2_int min2_int max_two min_two max_three min_three max_four min_four
set_option linter.unusedVariables false
set_option linter.unusedSimpArgs false
def impl_isClass.f (l0 : List (S76)) (a1 : Int) : Option (Bool) := if a1 ≥ 0 then (some (decide (a1 < (l0.length : Int)))) else (some false)
end Go.Proofs.Ytedodaifpekahaa.P

end
section

namespace Go.Proofs.Ytedodaifpekahaa.P
open Go.RowKit Go.Proofs.YtedodaifpekahaaW.PrintWords Go.Proofs.YtedodaifpekahaaW.PrintLast Go.Proofs.YtedodaifpekahaaW.PrintMore
attribute [local go_sem] max2_int min2_int max_two min_two max_three min_three max_four min_four
set_option linter.unusedVariables false
set_option linter.unusedSimpArgs false
mutual
def impl_unitFind.l0 : Nat → Int → Int → List (S76) → List (S46) → Option (Int)
  | 0, _, _, _, _ => none
  | k + 1, x2, x7, x483000, x483001 => if x7 ≥ 0 then (impl_unitFind.l1 k x2 x7 x483001 (x483001.length : Int) 0 x483000 x483001) else (some (-1))
def impl_unitFind.l1 : Nat → Int → Int → List (S46) → Int → Int → List (S76) → List (S46) → Option (Int)
  | 0, _, _, _, _, _, _, _ => none
  | k + 1, x2, x7, x20, x21, x22, x483000, x483001 => if x22 < x21 then (if 0 ≤ x22 then (if x22 < (x20.length : Int) then (if ((rd_T46 x20 x22).f0) = x7 then (if ((rd_T46 x20 x22).f1) = x2 then (some x22) else (impl_unitFind.l1 k x2 x7 x20 x21 (wrap64 (x22 + 1)) x483000 x483001)) else (impl_unitFind.l1 k x2 x7 x20 x21 (wrap64 (x22 + 1)) x483000 x483001)) else (none)) else (none)) else (if 0 ≤ x7 then (if x7 < (x483000.length : Int) then (impl_unitFind.l0 k x2 ((rd_T76 x483000 x7).f0) x483000 x483001) else (none)) else (none))
end
def impl_unitFind.f (k : Nat) (l0_0 : List (S76)) (l0_1 : List (S46)) (a1 : Int) (a2 : Int) : Option (Int) := impl_unitFind.l0 k a2 a1 l0_0 l0_1
end Go.Proofs.Ytedodaifpekahaa.P

end
section

namespace Go.Proofs.Ytedodaifpekahaa.P
open Go Go.RowKit Go.Proofs.YtedodaifpekahaaW.PrintWords
def kindW (r : Int) : Value :=
  if r = -1 then .nilIface else if r = 0 then .iface 117 (.agg #[]) else if r = 1 then .iface 102 (.agg #[]) else if r = 2 then .iface 118 (.agg #[])
  else if r = 3 then .iface 104 (.agg #[.bool false]) else if r = 4 then .iface 104 (.agg #[.bool true]) else .iface 106 (.agg #[.int .i64 (r - 8)])
def impl_kindOf.f (c t : Int) : Option Int :=
  if 0 ≤ c ∧ c ≤ 1000000000 ∧ -9223372036854775808 ≤ t ∧ t ≤ 9223372036854775807 then
    (if t = 0 then some 0 else if t = 1 then some 1 else if t = 2 then some 2 else if t = 3 then some 3 else if t = 4 then some 4 else if 8 ≤ t ∧ t < 8 + c then some t else some (-1)) else none
def impl_fieldType.f (c t : Int) : Option Bool := (impl_kindOf.f c t).bind fun r => some (decide (r = 1 ∨ r = 3 ∨ r = 4 ∨ 8 ≤ r))
end Go.Proofs.Ytedodaifpekahaa.P

end
section

namespace Go.Proofs.Ytedodaifpekahaa.P
open Go.RowKit Go.Proofs.YtedodaifpekahaaW.PrintWords Go.Proofs.YtedodaifpekahaaW.PrintLast Go.Proofs.YtedodaifpekahaaW.PrintMore
attribute [local go_sem] max2_int min2_int max_two min_two max_three min_three max_four min_four
set_option linter.unusedVariables false
set_option linter.unusedSimpArgs false
mutual
def impl_ClassesOk.j0 : Nat → List (S76) → Bool → Option (Bool)
  | 0, _, _ => none
  | k + 1, x0, x15 => if x15 = true then (some false) else (if 0 < (x0.length : Int) then (if ((rd_T76 x0 0).f0) = (-1) then (impl_ClassesOk.j1 k x0 ((((rd_T76 x0 0).f1).length : Int) != 0)) else (impl_ClassesOk.j1 k x0 true)) else (none))
def impl_ClassesOk.j1 : Nat → List (S76) → Bool → Option (Bool)
  | 0, _, _ => none
  | k + 1, x0, x28 => if x28 = true then (some false) else (if 1 < (x0.length : Int) then (if ((rd_T76 x0 1).f0) = 0 then (if (((rd_T76 x0 1).f1).length : Int) = 1 then (if 0 < (((rd_T76 x0 1).f1).length : Int) then (impl_ClassesOk.j2 k x0 ((rd ((rd_T76 x0 1).f1) 0) != 1)) else (none)) else (impl_ClassesOk.j2 k x0 true)) else (impl_ClassesOk.j2 k x0 true)) else (none))
def impl_ClassesOk.j2 : Nat → List (S76) → Bool → Option (Bool)
  | 0, _, _ => none
  | k + 1, x0, x47 => if x47 = true then (some false) else (impl_ClassesOk.l0 k x0 x0 (x0.length : Int) 0)
def impl_ClassesOk.l0 : Nat → List (S76) → List (S76) → Int → Int → Option (Bool)
  | 0, _, _, _, _ => none
  | k + 1, x0, x48, x49, x50 => if x50 < x49 then (if 0 ≤ x50 then (if x50 < (x48.length : Int) then (if x50 > 1 then (if ((rd_T76 x48 x50).f0) < 0 then (impl_ClassesOk.j4 k x0 x48 x49 x50 true ((rd_T76 x48 x50).f0) ((rd_T76 x48 x50).f1)) else (impl_ClassesOk.j4 k x0 x48 x49 x50 (decide (((rd_T76 x48 x50).f0) ≥ x50)) ((rd_T76 x48 x50).f0) ((rd_T76 x48 x50).f1))) else (impl_ClassesOk.j4 k x0 x48 x49 x50 false ((rd_T76 x48 x50).f0) ((rd_T76 x48 x50).f1))) else (none)) else (none)) else (some true)
def impl_ClassesOk.j4 : Nat → List (S76) → List (S76) → Int → Int → Bool → Int → List Int → Option (Bool)
  | 0, _, _, _, _, _, _, _ => none
  | k + 1, x0, x48, x49, x50, x67, x329000, x329001 => if x67 = true then (some false) else (if (x329001.length : Int) > 2 then (some false) else (impl_ClassesOk.l1 k x0 x48 x49 x50 x329001 (x329001.length : Int) 0))
def impl_ClassesOk.l1 : Nat → List (S76) → List (S76) → Int → Int → List Int → Int → Int → Option (Bool)
  | 0, _, _, _, _, _, _, _ => none
  | k + 1, x0, x48, x49, x50, x73, x74, x75 => if x75 < x74 then (if 0 ≤ x75 then (if x75 < (x73.length : Int) then ((impl_fieldType.f (x0.length : Int) (rd x73 x75)).bind fun t330 => (if t330 = true then (impl_ClassesOk.l1 k x0 x48 x49 x50 x73 x74 (wrap64 (x75 + 1))) else (some false))) else (none)) else (none)) else (impl_ClassesOk.l0 k x0 x48 x49 (wrap64 (x50 + 1)))
end
def impl_ClassesOk.f (k : Nat) (l0 : List (S76)) : Option (Bool) := if (l0.length : Int) < 2 then (impl_ClassesOk.j0 k l0 true) else (impl_ClassesOk.j0 k l0 (decide ((l0.length : Int) > 5)))
end Go.Proofs.Ytedodaifpekahaa.P

end
section

namespace Go.Proofs.Ytedodaifpekahaa.P
open Go.RowKit Go.Proofs.YtedodaifpekahaaW.PrintWords Go.Proofs.YtedodaifpekahaaW.PrintLast Go.Proofs.YtedodaifpekahaaW.PrintMore
attribute [local go_sem] max2_int min2_int max_two min_two max_three min_three max_four min_four
set_option linter.unusedVariables false
set_option linter.unusedSimpArgs false
def impl_given.f (a0_0 : Int) (a0_1 : Int) (l0_2 : List Int) (a0_3 : Int) (a0_4 : Int) (l0_5 : List (S67)) (l0_6 : List (S70)) (l0_7 : List (S73)) : Option (List Int) := if a0_0 ≥ 0 then (if ([] : List Int).length < 17592186044416 then ((some (([] : List Int) ++ [wrap64 (8 + a0_0)] : List Int)).bind fun y332 => (if y332.length + l0_2.length < 17592186044416 then (some (y332 ++ l0_2)) else (none))) else (none)) else (if ([] : List Int).length + l0_2.length < 17592186044416 then (some (([] : List Int) ++ l0_2)) else (none))
end Go.Proofs.Ytedodaifpekahaa.P

end
section

namespace Go.Proofs.Ytedodaifpekahaa.P
open Go.RowKit Go.Proofs.YtedodaifpekahaaW.PrintWords Go.Proofs.YtedodaifpekahaaW.PrintLast Go.Proofs.YtedodaifpekahaaW.PrintMore
attribute [local go_sem] max2_int min2_int max_two min_two max_three min_three max_four min_four
set_option linter.unusedVariables false
set_option linter.unusedSimpArgs false
mutual
def impl_headOk.j0 : Nat → List (S76) → List (S46) → Int → Int → List Int → Int → Int → List (S67) → List (S70) → List (S73) → Option (Bool)
  | 0, _, _, _, _, _, _, _, _, _, _ => none
  | k + 1, x342000, x342001, x343000, x343001, x343002, x343003, x343004, x343005, x343006, x343007 => if (x343002.length : Int) > 2 then (impl_headOk.j1 k true x342000 x342001 x343000 x343001 x343002 x343003 x343004 x343005 x343006 x343007) else ((impl_fieldType.f (x342000.length : Int) x343003).bind fun t344 => (impl_headOk.j1 k (!t344) x342000 x342001 x343000 x343001 x343002 x343003 x343004 x343005 x343006 x343007))
def impl_headOk.j1 : Nat → Bool → List (S76) → List (S46) → Int → Int → List Int → Int → Int → List (S67) → List (S70) → List (S73) → Option (Bool)
  | 0, _, _, _, _, _, _, _, _, _, _, _ => none
  | k + 1, x46, x342000, x342001, x343000, x343001, x343002, x343003, x343004, x343005, x343006, x343007 => if x46 = true then (some false) else (impl_headOk.l0 k x343002 (x343002.length : Int) 0 x342000 x342001 x343000 x343001 x343002 x343003 x343004 x343005 x343006 x343007)
def impl_headOk.l0 : Nat → List Int → Int → Int → List (S76) → List (S46) → Int → Int → List Int → Int → Int → List (S67) → List (S70) → List (S73) → Option (Bool)
  | 0, _, _, _, _, _, _, _, _, _, _, _, _, _ => none
  | k + 1, x48, x49, x50, x342000, x342001, x343000, x343001, x343002, x343003, x343004, x343005, x343006, x343007 => if x50 < x49 then (if 0 ≤ x50 then (if x50 < (x48.length : Int) then ((impl_fieldType.f (x342000.length : Int) (rd x48 x50)).bind fun t346 => (if t346 = true then (impl_headOk.l0 k x48 x49 (wrap64 (x50 + 1)) x342000 x342001 x343000 x343001 x343002 x343003 x343004 x343005 x343006 x343007) else (some false))) else (none)) else (none)) else (if x343004 ≤ 3 then ((impl_given.f x343000 x343001 x343002 x343003 x343004 x343005 x343006 x343007).bind fun t347 => (some (decide (x343004 ≥ (t347.length : Int))))) else (some false))
end
def impl_headOk.f (k : Nat) (l0_0 : List (S76)) (l0_1 : List (S46)) (a1_0 : Int) (a1_1 : Int) (l1_2 : List Int) (a1_3 : Int) (a1_4 : Int) (l1_5 : List (S67)) (l1_6 : List (S70)) (l1_7 : List (S73)) : Option (Bool) := if a1_0 = (-1) then (if a1_1 = 0 then (impl_headOk.j0 k l0_0 l0_1 a1_0 a1_1 l1_2 a1_3 a1_4 l1_5 l1_6 l1_7) else (some false)) else (if a1_0 = 0 then (some false) else ((impl_isClass.f l0_0 a1_0).bind fun t343 => (if t343 = true then (if a1_1 < 0 then (some false) else (if a1_1 ≥ 3 then (some false) else (impl_headOk.j0 k l0_0 l0_1 a1_0 a1_1 l1_2 a1_3 a1_4 l1_5 l1_6 l1_7))) else (some false))))
end Go.Proofs.Ytedodaifpekahaa.P

end
section

namespace Go.Proofs.Ytedodaifpekahaa.P
open Go.RowKit Go.Proofs.YtedodaifpekahaaW.PrintWords Go.Proofs.YtedodaifpekahaaW.PrintLast Go.Proofs.YtedodaifpekahaaW.PrintMore
attribute [local go_sem] max2_int min2_int max_two min_two max_three min_three max_four min_four
set_option linter.unusedVariables false
set_option linter.unusedSimpArgs false
def impl_isWord.f (a0 : Int) : Option (Bool) := if a0 ≥ (-128) then (some (decide (a0 ≤ 127))) else (some false)
end Go.Proofs.Ytedodaifpekahaa.P

end
section

namespace Go.Proofs.Ytedodaifpekahaa.P
open Go.RowKit Go.Proofs.YtedodaifpekahaaW.PrintWords Go.Proofs.YtedodaifpekahaaW.PrintLast Go.Proofs.YtedodaifpekahaaW.PrintMore
attribute [local go_sem] max2_int min2_int max_two min_two max_three min_three max_four min_four
set_option linter.unusedVariables false
set_option linter.unusedSimpArgs false
def impl_classFields.f : Nat → List (S76) → Int → Option (List Int)
  | 0, _, _ => none
  | k + 1, l0, a1 => if a1 = 0 then (some ([] : List Int)) else (if 0 ≤ a1 then (if a1 < (l0.length : Int) then ((impl_classFields.f k l0 ((rd_T76 l0 a1).f0)).bind fun t351 => (if t351.length + ((rd_T76 l0 a1).f1).length < 17592186044416 then (some (t351 ++ ((rd_T76 l0 a1).f1))) else (none))) else (none)) else (none))
end Go.Proofs.Ytedodaifpekahaa.P

end
section

namespace Go.Proofs.Ytedodaifpekahaa.P
open Go.RowKit Go.Proofs.YtedodaifpekahaaW.PrintWords Go.Proofs.YtedodaifpekahaaW.PrintLast Go.Proofs.YtedodaifpekahaaW.PrintMore
attribute [local go_sem] max2_int min2_int max_two min_two max_three min_three max_four min_four
set_option linter.unusedVariables false
set_option linter.unusedSimpArgs false
def impl_operandOk.f (k : Nat) (l0_0 : List (S76)) (l0_1 : List (S46)) (a1_0 : Int) (a1_1 : Int) (l1_2 : List Int) (a1_3 : Int) (a1_4 : Int) (l1_5 : List (S67)) (l1_6 : List (S70)) (l1_7 : List (S73)) (a2_0 : Int) (a2_1 : Int) (a2_2 : Int) (a3 : Int) (a4 : Int) : Option (Bool) := if a3 = 1 then ((impl_isWord.f a4).bind fun t361 => (some t361)) else (if a3 = 2 then (if a4 ≥ 0 then (some (decide (a4 < a1_4))) else (some false)) else (if a3 = 3 then (if a4 ≥ 1 then (some (decide (a4 ≤ 4))) else (some false)) else (if a3 = 4 then (if a4 ≥ 0 then (some (decide (a4 < (l1_5.length : Int)))) else (some false)) else (if a3 = 5 then ((impl_isClass.f l0_0 a4).bind fun t362 => (some t362)) else (if a3 = 6 then (if a4 = 0 then (some true) else (some (a4 == 1))) else (if a3 = 7 then (if a4 ≥ 0 then (if a4 < (l0_1.length : Int) then (if 0 ≤ a4 then (some (((rd_T46 l0_1 a4).f0) == (-1))) else (none)) else (some false)) else (some false)) else (if a3 = 8 then (if a4 ≥ 0 then ((impl_classFields.f k l0_0 a2_1).bind fun t364 => (some (decide (a4 < (t364.length : Int))))) else (some false)) else (if a3 = 9 then (if a4 ≥ 0 then (some (decide (a4 < 3))) else (some false)) else (some (a4 == 0))))))))))
end Go.Proofs.Ytedodaifpekahaa.P

end
section

namespace Go.Proofs.Ytedodaifpekahaa.P
open Go.RowKit Go.Proofs.YtedodaifpekahaaW.PrintWords Go.Proofs.YtedodaifpekahaaW.PrintLast Go.Proofs.YtedodaifpekahaaW.PrintMore
attribute [local go_sem] max2_int min2_int max_two min_two max_three min_three max_four min_four
set_option linter.unusedVariables false
set_option linter.unusedSimpArgs false
mutual
def impl_shapeOk.j0 : Nat → List (S76) → Bool → Bool → List Int → List Int → Option (Bool)
  | 0, _, _, _, _, _ => none
  | k + 1, x0, x34, x368000, x368001, x368002 => if x34 = true then (some false) else (impl_shapeOk.l0 k x0 x368001 (x368001.length : Int) 0 x368000 x368001 x368002)
def impl_shapeOk.l0 : Nat → List (S76) → List Int → Int → Int → Bool → List Int → List Int → Option (Bool)
  | 0, _, _, _, _, _, _, _ => none
  | k + 1, x0, x36, x37, x38, x368000, x368001, x368002 => if x38 < x37 then (if 0 ≤ x38 then (if x38 < (x36.length : Int) then ((impl_kindOf.f (x0.length : Int) (rd x36 x38)).bind fun t369 => (if t369 = (-1) then (some false) else (impl_shapeOk.l0 k x0 x36 x37 (wrap64 (x38 + 1)) x368000 x368001 x368002))) else (none)) else (none)) else (impl_shapeOk.l1 k x0 x368002 (x368002.length : Int) 0)
def impl_shapeOk.l1 : Nat → List (S76) → List Int → Int → Int → Option (Bool)
  | 0, _, _, _, _ => none
  | k + 1, x0, x49, x50, x51 => if x51 < x50 then (if 0 ≤ x51 then (if x51 < (x49.length : Int) then (if (rd x49 x51) = 0 then (some false) else ((impl_kindOf.f (x0.length : Int) (rd x49 x51)).bind fun t371 => (if t371 = (-1) then (some false) else (impl_shapeOk.l1 k x0 x49 x50 (wrap64 (x51 + 1)))))) else (none)) else (none)) else (some true)
end
def impl_shapeOk.f (k : Nat) (l0 : List (S76)) (a1 : Int) (a2_0 : Bool) (l2_1 : List Int) (l2_2 : List Int) : Option (Bool) := if a2_0 = true then (if (l2_1.length : Int) = a1 then (impl_shapeOk.j0 k l0 (decide ((l2_2.length : Int) > 4)) a2_0 l2_1 l2_2) else (impl_shapeOk.j0 k l0 true a2_0 l2_1 l2_2)) else (if (l2_1.length : Int) = 0 then (some ((l2_2.length : Int) == 0)) else (some false))
end Go.Proofs.Ytedodaifpekahaa.P

end
