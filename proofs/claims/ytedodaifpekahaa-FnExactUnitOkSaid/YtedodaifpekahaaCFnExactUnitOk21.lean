/- A part of the claim FnExactUnitOk: texts of this session and texts that its program printed out of the translation, joined. -/
import Derived.Test.YtedodaifpekahaaProg
import Derived.Below
import Derived.Deep.Draws
import Derived.Deep.AppendLies
import Derived.Maps.AppendAt
import Derived.OwnWalk
import Derived.Laws.BytesArg
import Derived.Laws.MakeOwn
import Derived.Laws.OwnMore
import Derived.Deep.OwnRows
import Derived.Tactics
import Derived.Lib.ConvBytes
import Derived.Laws.Slices
import Derived.WalkKit
import Derived.KernelRfl
import Derived.RowKit3
import Derived.Deep.LoopGhost
import Derived.Deep.QuietTactic
import Derived.BigQuiet
import Derived.WideLaws
import Derived.Deep.DeepCutAuto
import Derived.Deep.CutBlock
import Derived.Deep.RegionHeld3
import Derived.Laws.Rows
import Derived.Lib.AppendStr
import Derived.ArgAppend
import Derived.Laws.IdiomCopy
import Derived.OrdersHeld
import Derived.Laws.BitsLemmas
import Derived.RowKit
import Derived.Test.YtedodaifpekahaaCFnExactUnitOk0
import Derived.Test.YtedodaifpekahaaCFnExactUnitOk1
import Derived.Test.YtedodaifpekahaaCFnExactUnitOk2
import Derived.Test.YtedodaifpekahaaCFnExactUnitOk3
import Derived.Test.YtedodaifpekahaaCFnExactUnitOk4
import Derived.Test.YtedodaifpekahaaCFnExactUnitOk5
import Derived.Test.YtedodaifpekahaaCFnExactUnitOk6
import Derived.Test.YtedodaifpekahaaCFnExactUnitOk7
import Derived.Test.YtedodaifpekahaaCFnExactUnitOk8
import Derived.Test.YtedodaifpekahaaCFnExactUnitOk9
import Derived.Test.YtedodaifpekahaaCFnExactUnitOk10
import Derived.Test.YtedodaifpekahaaCFnExactUnitOk11
import Derived.Test.YtedodaifpekahaaCFnExactUnitOk12
import Derived.Test.YtedodaifpekahaaCFnExactUnitOk13
import Derived.Test.YtedodaifpekahaaCFnExactUnitOk14
import Derived.Test.YtedodaifpekahaaCFnExactUnitOk15
import Derived.Test.YtedodaifpekahaaCFnExactUnitOk16
import Derived.Test.YtedodaifpekahaaCFnExactUnitOk17
import Derived.Test.YtedodaifpekahaaCFnExactUnitOk18
import Derived.Test.YtedodaifpekahaaCFnExactUnitOk19
import Derived.Test.YtedodaifpekahaaCFnExactUnitOk20
import Derived.MapKept
section

namespace Go.Proofs.Ytedodaifpekahaa.P
open Go.RowKit Go.Proofs.YtedodaifpekahaaW.PrintWords Go.Proofs.YtedodaifpekahaaW.PrintLast Go.Proofs.YtedodaifpekahaaW.PrintMore
attribute [local go_sem] max2_int min2_int max_two min_two max_three min_three max_four min_four
set_option linter.unusedVariables false
set_option linter.unusedSimpArgs false
def errW : Option Int → Value
  | none => .nilIface
  | some c => .iface 0 (.int .i64 c)
theorem errW_none : errW none = .nilIface := rfl
theorem errW_some (c : Int) : errW (some c) = .iface 0 (.int .i64 c) := rfl
theorem info3 : (Try.prog.info? 3).map (fun i => (i.zero, i.size, i.bytes)) = some (some (.int .i64 0), 1, 8) := by kernel_rfl
theorem info46 : (Try.prog.info? 46).map (fun i => (i.zero, i.size, i.bytes)) = some (some (.agg #[(.int .i64 0), (.int .i64 0), (.slice none 0 0), (.int .i64 0), (.int .i64 0), (.slice none 0 0), (.slice none 0 0), (.slice none 0 0)]), 8, 128) := by kernel_rfl
theorem info67 : (Try.prog.info? 67).map (fun i => (i.zero, i.size, i.bytes)) = some (some (.agg #[(.int .i64 0), (.int .i64 0), (.int .i64 0)]), 3, 24) := by kernel_rfl
theorem info70 : (Try.prog.info? 70).map (fun i => (i.zero, i.size, i.bytes)) = some (some (.agg #[(.bool false), (.slice none 0 0), (.slice none 0 0)]), 3, 56) := by kernel_rfl
theorem info73 : (Try.prog.info? 73).map (fun i => (i.zero, i.size, i.bytes)) = some (some (.agg #[(.int .i64 0), (.int .i64 0), (.int .i64 0), (.int .i64 0)]), 4, 32) := by kernel_rfl
theorem info76 : (Try.prog.info? 76).map (fun i => (i.zero, i.size, i.bytes)) = some (some (.agg #[(.int .i64 0), (.slice none 0 0)]), 2, 32) := by kernel_rfl
structure S58 where
  f0 : Int
  f1 : (List Int)
def z58 : S58 := ⟨(0 : Int), ([] : List Int)⟩
def k58 : Kd S58 := Kd.iso (Kd.pair (Kd.int .i64) (Kd.slice 3 (Kd.int .i64))) (fun x : S58 => (x.f0, x.f1))
theorem k58_open {w : World} {x : S58} {cs : List Value} (h : k58.K w x cs) : ∃ A1 c1, cs = [.int .i64 x.f0, .slice A1 x.f1.length c1] ∧ x.f1.length ≤ c1 ∧ (Kd.int .i64).C w A1 x.f1.length x.f1 := by
  obtain ⟨_, _, rfl, rfl, ⟨A1, c1, rfl, l1, g1⟩⟩ := h
  exact ⟨A1, c1, rfl, l1, g1⟩
def rd_T58 (xs : List S58) (i : Int) : S58 := xs.getD i.toNat z58
theorem at_T58 {w : World} {A : Option Addr} {n : Nat} {xs : List S58} (h : Kd.C k58 w A n xs) (i : Int) (h0 : 0 ≤ i) (h1 : i < n) : ∃ ad A1 c1, A = some ad ∧ w.cell? (ad.add (i.toNat * 2)) = some (.int .i64 (rd_T58 xs i).f0) ∧ w.cell? ⟨(ad.add (i.toNat * 2)).block, (ad.add (i.toNat * 2)).off + 1, none⟩ = some (.slice A1 (rd_T58 xs i).f1.length c1) ∧ (rd_T58 xs i).f1.length ≤ c1 ∧ (Kd.int .i64).C w A1 (rd_T58 xs i).f1.length (rd_T58 xs i).f1 := by
  obtain ⟨ad, c, e, _, hK, hc0⟩ := Kd.C_get h z58 i h0 h1
  have hc : ∀ j u, c[j]? = some u → w.cell? (ad.add (i.toNat * 2 + j)) = some u := hc0
  obtain ⟨A1, c1, rfl, l1, g1⟩ := k58_open hK
  exact ⟨ad, A1, c1, e, hc 0 _ rfl, by rw [← add_field _ _ 1 (by omega)]; exact hc 1 _ rfl, l1, g1⟩
structure S113 where
  f0 : Int
  f1 : Int
  f2 : Int
def z113 : S113 := ⟨(0 : Int), (0 : Int), (0 : Int)⟩
def k113 : Kd S113 := Kd.iso (Kd.pair (Kd.int .i64) (Kd.pair (Kd.int .i64) (Kd.int .i64))) (fun x : S113 => (x.f0, x.f1, x.f2))
theorem k113_open {w : World} {x : S113} {cs : List Value} (h : k113.K w x cs) : cs = [.int .i64 x.f0, .int .i64 x.f1, .int .i64 x.f2] := by
  obtain ⟨_, _, rfl, rfl, ⟨_, _, rfl, rfl, rfl⟩⟩ := h
  exact rfl
def rd_T113 (xs : List S113) (i : Int) : S113 := xs.getD i.toNat z113
theorem at_T113 {w : World} {A : Option Addr} {n : Nat} {xs : List S113} (h : Kd.C k113 w A n xs) (i : Int) (h0 : 0 ≤ i) (h1 : i < n) : ∃ ad , A = some ad ∧ w.cell? (ad.add (i.toNat * 3)) = some (.int .i64 (rd_T113 xs i).f0) ∧ w.cell? ⟨(ad.add (i.toNat * 3)).block, (ad.add (i.toNat * 3)).off + 1, none⟩ = some (.int .i64 (rd_T113 xs i).f1) ∧ w.cell? ⟨(ad.add (i.toNat * 3)).block, (ad.add (i.toNat * 3)).off + 2, none⟩ = some (.int .i64 (rd_T113 xs i).f2) := by
  obtain ⟨ad, c, e, _, hK, hc0⟩ := Kd.C_get h z113 i h0 h1
  have hc : ∀ j u, c[j]? = some u → w.cell? (ad.add (i.toNat * 3 + j)) = some u := hc0
  obtain rfl := k113_open hK
  exact ⟨ad, e, hc 0 _ rfl, by rw [← add_field _ _ 1 (by omega)]; exact hc 1 _ rfl, by rw [← add_field _ _ 2 (by omega)]; exact hc 2 _ rfl⟩
structure S111 where
  f0 : Bool
  f1 : (List Int)
  f2 : (List Int)
def z111 : S111 := ⟨false, ([] : List Int), ([] : List Int)⟩
def k111 : Kd S111 := Kd.iso (Kd.pair Kd.bool (Kd.pair (Kd.slice 3 (Kd.int .i64)) (Kd.slice 3 (Kd.int .i64)))) (fun x : S111 => (x.f0, x.f1, x.f2))
theorem k111_open {w : World} {x : S111} {cs : List Value} (h : k111.K w x cs) : ∃ A1 c1 A2 c2, cs = [.bool x.f0, .slice A1 x.f1.length c1, .slice A2 x.f2.length c2] ∧ x.f1.length ≤ c1 ∧ (Kd.int .i64).C w A1 x.f1.length x.f1 ∧ x.f2.length ≤ c2 ∧ (Kd.int .i64).C w A2 x.f2.length x.f2 := by
  obtain ⟨_, _, rfl, rfl, ⟨_, _, rfl, ⟨A1, c1, rfl, l1, g1⟩, ⟨A2, c2, rfl, l2, g2⟩⟩⟩ := h
  exact ⟨A1, c1, A2, c2, rfl, l1, g1, l2, g2⟩
def rd_T111 (xs : List S111) (i : Int) : S111 := xs.getD i.toNat z111
theorem at_T111 {w : World} {A : Option Addr} {n : Nat} {xs : List S111} (h : Kd.C k111 w A n xs) (i : Int) (h0 : 0 ≤ i) (h1 : i < n) : ∃ ad A1 c1 A2 c2, A = some ad ∧ w.cell? (ad.add (i.toNat * 3)) = some (.bool (rd_T111 xs i).f0) ∧ w.cell? ⟨(ad.add (i.toNat * 3)).block, (ad.add (i.toNat * 3)).off + 1, none⟩ = some (.slice A1 (rd_T111 xs i).f1.length c1) ∧ w.cell? ⟨(ad.add (i.toNat * 3)).block, (ad.add (i.toNat * 3)).off + 2, none⟩ = some (.slice A2 (rd_T111 xs i).f2.length c2) ∧ (rd_T111 xs i).f1.length ≤ c1 ∧ (Kd.int .i64).C w A1 (rd_T111 xs i).f1.length (rd_T111 xs i).f1 ∧ (rd_T111 xs i).f2.length ≤ c2 ∧ (Kd.int .i64).C w A2 (rd_T111 xs i).f2.length (rd_T111 xs i).f2 := by
  obtain ⟨ad, c, e, _, hK, hc0⟩ := Kd.C_get h z111 i h0 h1
  have hc : ∀ j u, c[j]? = some u → w.cell? (ad.add (i.toNat * 3 + j)) = some u := hc0
  obtain ⟨A1, c1, A2, c2, rfl, l1, g1, l2, g2⟩ := k111_open hK
  exact ⟨ad, A1, c1, A2, c2, e, hc 0 _ rfl, by rw [← add_field _ _ 1 (by omega)]; exact hc 1 _ rfl, by rw [← add_field _ _ 2 (by omega)]; exact hc 2 _ rfl, l1, g1, l2, g2⟩
structure S116 where
  f0 : Int
  f1 : Int
  f2 : Int
  f3 : Int
def z116 : S116 := ⟨(0 : Int), (0 : Int), (0 : Int), (0 : Int)⟩
def k116 : Kd S116 := Kd.iso (Kd.pair (Kd.int .i64) (Kd.pair (Kd.int .i64) (Kd.pair (Kd.int .i64) (Kd.int .i64)))) (fun x : S116 => (x.f0, x.f1, x.f2, x.f3))
theorem k116_open {w : World} {x : S116} {cs : List Value} (h : k116.K w x cs) : cs = [.int .i64 x.f0, .int .i64 x.f1, .int .i64 x.f2, .int .i64 x.f3] := by
  obtain ⟨_, _, rfl, rfl, ⟨_, _, rfl, rfl, ⟨_, _, rfl, rfl, rfl⟩⟩⟩ := h
  exact rfl
def rd_T116 (xs : List S116) (i : Int) : S116 := xs.getD i.toNat z116
theorem at_T116 {w : World} {A : Option Addr} {n : Nat} {xs : List S116} (h : Kd.C k116 w A n xs) (i : Int) (h0 : 0 ≤ i) (h1 : i < n) : ∃ ad , A = some ad ∧ w.cell? (ad.add (i.toNat * 4)) = some (.int .i64 (rd_T116 xs i).f0) ∧ w.cell? ⟨(ad.add (i.toNat * 4)).block, (ad.add (i.toNat * 4)).off + 1, none⟩ = some (.int .i64 (rd_T116 xs i).f1) ∧ w.cell? ⟨(ad.add (i.toNat * 4)).block, (ad.add (i.toNat * 4)).off + 2, none⟩ = some (.int .i64 (rd_T116 xs i).f2) ∧ w.cell? ⟨(ad.add (i.toNat * 4)).block, (ad.add (i.toNat * 4)).off + 3, none⟩ = some (.int .i64 (rd_T116 xs i).f3) := by
  obtain ⟨ad, c, e, _, hK, hc0⟩ := Kd.C_get h z116 i h0 h1
  have hc : ∀ j u, c[j]? = some u → w.cell? (ad.add (i.toNat * 4 + j)) = some u := hc0
  obtain rfl := k116_open hK
  exact ⟨ad, e, hc 0 _ rfl, by rw [← add_field _ _ 1 (by omega)]; exact hc 1 _ rfl, by rw [← add_field _ _ 2 (by omega)]; exact hc 2 _ rfl, by rw [← add_field _ _ 3 (by omega)]; exact hc 3 _ rfl⟩
structure S64 where
  f0 : Int
  f1 : Int
  f2 : (List Int)
  f3 : Int
  f4 : Int
  f5 : (List S113)
  f6 : (List S111)
  f7 : (List S116)
def z64 : S64 := ⟨(0 : Int), (0 : Int), ([] : List Int), (0 : Int), (0 : Int), ([] : List S113), ([] : List S111), ([] : List S116)⟩
def k64 : Kd S64 := Kd.iso (Kd.pair (Kd.int .i64) (Kd.pair (Kd.int .i64) (Kd.pair (Kd.slice 3 (Kd.int .i64)) (Kd.pair (Kd.int .i64) (Kd.pair (Kd.int .i64) (Kd.pair (Kd.slice 113 k113) (Kd.pair (Kd.slice 111 k111) (Kd.slice 116 k116)))))))) (fun x : S64 => (x.f0, x.f1, x.f2, x.f3, x.f4, x.f5, x.f6, x.f7))
theorem k64_open {w : World} {x : S64} {cs : List Value} (h : k64.K w x cs) : ∃ A2 c2 A5 c5 A6 c6 A7 c7, cs = [.int .i64 x.f0, .int .i64 x.f1, .slice A2 x.f2.length c2, .int .i64 x.f3, .int .i64 x.f4, .slice A5 x.f5.length c5, .slice A6 x.f6.length c6, .slice A7 x.f7.length c7] ∧ x.f2.length ≤ c2 ∧ (Kd.int .i64).C w A2 x.f2.length x.f2 ∧ x.f5.length ≤ c5 ∧ k113.C w A5 x.f5.length x.f5 ∧ x.f6.length ≤ c6 ∧ k111.C w A6 x.f6.length x.f6 ∧ x.f7.length ≤ c7 ∧ k116.C w A7 x.f7.length x.f7 := by
  obtain ⟨_, _, rfl, rfl, ⟨_, _, rfl, rfl, ⟨_, _, rfl, ⟨A2, c2, rfl, l2, g2⟩, ⟨_, _, rfl, rfl, ⟨_, _, rfl, rfl, ⟨_, _, rfl, ⟨A5, c5, rfl, l5, g5⟩, ⟨_, _, rfl, ⟨A6, c6, rfl, l6, g6⟩, ⟨A7, c7, rfl, l7, g7⟩⟩⟩⟩⟩⟩⟩⟩ := h
  exact ⟨A2, c2, A5, c5, A6, c6, A7, c7, rfl, l2, g2, l5, g5, l6, g6, l7, g7⟩
def rd_T64 (xs : List S64) (i : Int) : S64 := xs.getD i.toNat z64
theorem at_T64 {w : World} {A : Option Addr} {n : Nat} {xs : List S64} (h : Kd.C k64 w A n xs) (i : Int) (h0 : 0 ≤ i) (h1 : i < n) : ∃ ad A2 c2 A5 c5 A6 c6 A7 c7, A = some ad ∧ w.cell? (ad.add (i.toNat * 8)) = some (.int .i64 (rd_T64 xs i).f0) ∧ w.cell? ⟨(ad.add (i.toNat * 8)).block, (ad.add (i.toNat * 8)).off + 1, none⟩ = some (.int .i64 (rd_T64 xs i).f1) ∧ w.cell? ⟨(ad.add (i.toNat * 8)).block, (ad.add (i.toNat * 8)).off + 2, none⟩ = some (.slice A2 (rd_T64 xs i).f2.length c2) ∧ w.cell? ⟨(ad.add (i.toNat * 8)).block, (ad.add (i.toNat * 8)).off + 3, none⟩ = some (.int .i64 (rd_T64 xs i).f3) ∧ w.cell? ⟨(ad.add (i.toNat * 8)).block, (ad.add (i.toNat * 8)).off + 4, none⟩ = some (.int .i64 (rd_T64 xs i).f4) ∧ w.cell? ⟨(ad.add (i.toNat * 8)).block, (ad.add (i.toNat * 8)).off + 5, none⟩ = some (.slice A5 (rd_T64 xs i).f5.length c5) ∧ w.cell? ⟨(ad.add (i.toNat * 8)).block, (ad.add (i.toNat * 8)).off + 6, none⟩ = some (.slice A6 (rd_T64 xs i).f6.length c6) ∧ w.cell? ⟨(ad.add (i.toNat * 8)).block, (ad.add (i.toNat * 8)).off + 7, none⟩ = some (.slice A7 (rd_T64 xs i).f7.length c7) ∧ (rd_T64 xs i).f2.length ≤ c2 ∧ (Kd.int .i64).C w A2 (rd_T64 xs i).f2.length (rd_T64 xs i).f2 ∧ (rd_T64 xs i).f5.length ≤ c5 ∧ k113.C w A5 (rd_T64 xs i).f5.length (rd_T64 xs i).f5 ∧ (rd_T64 xs i).f6.length ≤ c6 ∧ k111.C w A6 (rd_T64 xs i).f6.length (rd_T64 xs i).f6 ∧ (rd_T64 xs i).f7.length ≤ c7 ∧ k116.C w A7 (rd_T64 xs i).f7.length (rd_T64 xs i).f7 := by
  obtain ⟨ad, c, e, _, hK, hc0⟩ := Kd.C_get h z64 i h0 h1
  have hc : ∀ j u, c[j]? = some u → w.cell? (ad.add (i.toNat * 8 + j)) = some u := hc0
  obtain ⟨A2, c2, A5, c5, A6, c6, A7, c7, rfl, l2, g2, l5, g5, l6, g6, l7, g7⟩ := k64_open hK
  exact ⟨ad, A2, c2, A5, c5, A6, c6, A7, c7, e, hc 0 _ rfl, by rw [← add_field _ _ 1 (by omega)]; exact hc 1 _ rfl, by rw [← add_field _ _ 2 (by omega)]; exact hc 2 _ rfl, by rw [← add_field _ _ 3 (by omega)]; exact hc 3 _ rfl, by rw [← add_field _ _ 4 (by omega)]; exact hc 4 _ rfl, by rw [← add_field _ _ 5 (by omega)]; exact hc 5 _ rfl, by rw [← add_field _ _ 6 (by omega)]; exact hc 6 _ rfl, by rw [← add_field _ _ 7 (by omega)]; exact hc 7 _ rfl, l2, g2, l5, g5, l6, g6, l7, g7⟩
structure S76 where
  f0 : Int
  f1 : (List Int)
def z76 : S76 := ⟨(0 : Int), ([] : List Int)⟩
def k76 : Kd S76 := Kd.iso (Kd.pair (Kd.int .i64) (Kd.slice 3 (Kd.int .i64))) (fun x : S76 => (x.f0, x.f1))
theorem k76_open {w : World} {x : S76} {cs : List Value} (h : k76.K w x cs) : ∃ A1 c1, cs = [.int .i64 x.f0, .slice A1 x.f1.length c1] ∧ x.f1.length ≤ c1 ∧ (Kd.int .i64).C w A1 x.f1.length x.f1 := by
  obtain ⟨_, _, rfl, rfl, ⟨A1, c1, rfl, l1, g1⟩⟩ := h
  exact ⟨A1, c1, rfl, l1, g1⟩
theorem k76_openM {w : World} {base : Nat} {ok : Nat → Prop} {x : S76} {cs : List Value} (h : k76.M w base ok x cs) : ∃ v1, cs = [.int .i64 x.f0, v1] ∧ (Kd.int .i64).R 3 w base ok v1 x.f1 := by
  obtain ⟨_, _, rfl, rfl, ⟨v1, rfl, g1⟩⟩ := h
  exact ⟨v1, rfl, g1⟩
theorem k76_mkM (w : World) (base : Nat) (ok : Nat → Prop) (x : S76) {v1 : Value} (g1 : (Kd.int .i64).R 3 w base ok v1 x.f1) : k76.M w base ok x [.int .i64 x.f0, v1] := ⟨[.int .i64 x.f0], [v1], rfl, rfl, ⟨v1, rfl, g1⟩⟩
def rd_T76 (xs : List S76) (i : Int) : S76 := xs.getD i.toNat z76
theorem at_T76 {w : World} {A : Option Addr} {n : Nat} {xs : List S76} (h : Kd.C k76 w A n xs) (i : Int) (h0 : 0 ≤ i) (h1 : i < n) : ∃ ad A1 c1, A = some ad ∧ w.cell? (ad.add (i.toNat * 2)) = some (.int .i64 (rd_T76 xs i).f0) ∧ w.cell? ⟨(ad.add (i.toNat * 2)).block, (ad.add (i.toNat * 2)).off + 1, none⟩ = some (.slice A1 (rd_T76 xs i).f1.length c1) ∧ (rd_T76 xs i).f1.length ≤ c1 ∧ (Kd.int .i64).C w A1 (rd_T76 xs i).f1.length (rd_T76 xs i).f1 := by
  obtain ⟨ad, c, e, _, hK, hc0⟩ := Kd.C_get h z76 i h0 h1
  have hc : ∀ j u, c[j]? = some u → w.cell? (ad.add (i.toNat * 2 + j)) = some u := hc0
  obtain ⟨A1, c1, rfl, l1, g1⟩ := k76_open hK
  exact ⟨ad, A1, c1, e, hc 0 _ rfl, by rw [← add_field _ _ 1 (by omega)]; exact hc 1 _ rfl, l1, g1⟩
structure S67 where
  f0 : Int
  f1 : Int
  f2 : Int
def z67 : S67 := ⟨(0 : Int), (0 : Int), (0 : Int)⟩
def k67 : Kd S67 := Kd.iso (Kd.pair (Kd.int .i64) (Kd.pair (Kd.int .i64) (Kd.int .i64))) (fun x : S67 => (x.f0, x.f1, x.f2))
theorem k67_open {w : World} {x : S67} {cs : List Value} (h : k67.K w x cs) : cs = [.int .i64 x.f0, .int .i64 x.f1, .int .i64 x.f2] := by
  obtain ⟨_, _, rfl, rfl, ⟨_, _, rfl, rfl, rfl⟩⟩ := h
  exact rfl
theorem k67_openM {w : World} {base : Nat} {ok : Nat → Prop} {x : S67} {cs : List Value} (h : k67.M w base ok x cs) : cs = [.int .i64 x.f0, .int .i64 x.f1, .int .i64 x.f2] := by
  obtain ⟨_, _, rfl, rfl, ⟨_, _, rfl, rfl, rfl⟩⟩ := h
  exact rfl
theorem k67_mkM (w : World) (base : Nat) (ok : Nat → Prop) (x : S67)  : k67.M w base ok x [.int .i64 x.f0, .int .i64 x.f1, .int .i64 x.f2] := ⟨[.int .i64 x.f0], [.int .i64 x.f1, .int .i64 x.f2], rfl, rfl, ⟨[.int .i64 x.f1], [.int .i64 x.f2], rfl, rfl, rfl⟩⟩
def rd_T67 (xs : List S67) (i : Int) : S67 := xs.getD i.toNat z67
theorem at_T67 {w : World} {A : Option Addr} {n : Nat} {xs : List S67} (h : Kd.C k67 w A n xs) (i : Int) (h0 : 0 ≤ i) (h1 : i < n) : ∃ ad , A = some ad ∧ w.cell? (ad.add (i.toNat * 3)) = some (.int .i64 (rd_T67 xs i).f0) ∧ w.cell? ⟨(ad.add (i.toNat * 3)).block, (ad.add (i.toNat * 3)).off + 1, none⟩ = some (.int .i64 (rd_T67 xs i).f1) ∧ w.cell? ⟨(ad.add (i.toNat * 3)).block, (ad.add (i.toNat * 3)).off + 2, none⟩ = some (.int .i64 (rd_T67 xs i).f2) := by
  obtain ⟨ad, c, e, _, hK, hc0⟩ := Kd.C_get h z67 i h0 h1
  have hc : ∀ j u, c[j]? = some u → w.cell? (ad.add (i.toNat * 3 + j)) = some u := hc0
  obtain rfl := k67_open hK
  exact ⟨ad, e, hc 0 _ rfl, by rw [← add_field _ _ 1 (by omega)]; exact hc 1 _ rfl, by rw [← add_field _ _ 2 (by omega)]; exact hc 2 _ rfl⟩
structure S70 where
  f0 : Bool
  f1 : (List Int)
  f2 : (List Int)
def z70 : S70 := ⟨false, ([] : List Int), ([] : List Int)⟩
def k70 : Kd S70 := Kd.iso (Kd.pair Kd.bool (Kd.pair (Kd.slice 3 (Kd.int .i64)) (Kd.slice 3 (Kd.int .i64)))) (fun x : S70 => (x.f0, x.f1, x.f2))
theorem k70_open {w : World} {x : S70} {cs : List Value} (h : k70.K w x cs) : ∃ A1 c1 A2 c2, cs = [.bool x.f0, .slice A1 x.f1.length c1, .slice A2 x.f2.length c2] ∧ x.f1.length ≤ c1 ∧ (Kd.int .i64).C w A1 x.f1.length x.f1 ∧ x.f2.length ≤ c2 ∧ (Kd.int .i64).C w A2 x.f2.length x.f2 := by
  obtain ⟨_, _, rfl, rfl, ⟨_, _, rfl, ⟨A1, c1, rfl, l1, g1⟩, ⟨A2, c2, rfl, l2, g2⟩⟩⟩ := h
  exact ⟨A1, c1, A2, c2, rfl, l1, g1, l2, g2⟩
theorem k70_openM {w : World} {base : Nat} {ok : Nat → Prop} {x : S70} {cs : List Value} (h : k70.M w base ok x cs) : ∃ v1 v2, cs = [.bool x.f0, v1, v2] ∧ (Kd.int .i64).R 3 w base ok v1 x.f1 ∧ (Kd.int .i64).R 3 w base ok v2 x.f2 := by
  obtain ⟨_, _, rfl, rfl, ⟨_, _, rfl, ⟨v1, rfl, g1⟩, ⟨v2, rfl, g2⟩⟩⟩ := h
  exact ⟨v1, v2, rfl, g1, g2⟩
theorem k70_mkM (w : World) (base : Nat) (ok : Nat → Prop) (x : S70) {v1 : Value} (g1 : (Kd.int .i64).R 3 w base ok v1 x.f1) {v2 : Value} (g2 : (Kd.int .i64).R 3 w base ok v2 x.f2) : k70.M w base ok x [.bool x.f0, v1, v2] := ⟨[.bool x.f0], [v1, v2], rfl, rfl, ⟨[v1], [v2], rfl, ⟨v1, rfl, g1⟩, ⟨v2, rfl, g2⟩⟩⟩
def rd_T70 (xs : List S70) (i : Int) : S70 := xs.getD i.toNat z70
theorem at_T70 {w : World} {A : Option Addr} {n : Nat} {xs : List S70} (h : Kd.C k70 w A n xs) (i : Int) (h0 : 0 ≤ i) (h1 : i < n) : ∃ ad A1 c1 A2 c2, A = some ad ∧ w.cell? (ad.add (i.toNat * 3)) = some (.bool (rd_T70 xs i).f0) ∧ w.cell? ⟨(ad.add (i.toNat * 3)).block, (ad.add (i.toNat * 3)).off + 1, none⟩ = some (.slice A1 (rd_T70 xs i).f1.length c1) ∧ w.cell? ⟨(ad.add (i.toNat * 3)).block, (ad.add (i.toNat * 3)).off + 2, none⟩ = some (.slice A2 (rd_T70 xs i).f2.length c2) ∧ (rd_T70 xs i).f1.length ≤ c1 ∧ (Kd.int .i64).C w A1 (rd_T70 xs i).f1.length (rd_T70 xs i).f1 ∧ (rd_T70 xs i).f2.length ≤ c2 ∧ (Kd.int .i64).C w A2 (rd_T70 xs i).f2.length (rd_T70 xs i).f2 := by
  obtain ⟨ad, c, e, _, hK, hc0⟩ := Kd.C_get h z70 i h0 h1
  have hc : ∀ j u, c[j]? = some u → w.cell? (ad.add (i.toNat * 3 + j)) = some u := hc0
  obtain ⟨A1, c1, A2, c2, rfl, l1, g1, l2, g2⟩ := k70_open hK
  exact ⟨ad, A1, c1, A2, c2, e, hc 0 _ rfl, by rw [← add_field _ _ 1 (by omega)]; exact hc 1 _ rfl, by rw [← add_field _ _ 2 (by omega)]; exact hc 2 _ rfl, l1, g1, l2, g2⟩
structure S73 where
  f0 : Int
  f1 : Int
  f2 : Int
  f3 : Int
def z73 : S73 := ⟨(0 : Int), (0 : Int), (0 : Int), (0 : Int)⟩
def k73 : Kd S73 := Kd.iso (Kd.pair (Kd.int .i64) (Kd.pair (Kd.int .i64) (Kd.pair (Kd.int .i64) (Kd.int .i64)))) (fun x : S73 => (x.f0, x.f1, x.f2, x.f3))
theorem k73_open {w : World} {x : S73} {cs : List Value} (h : k73.K w x cs) : cs = [.int .i64 x.f0, .int .i64 x.f1, .int .i64 x.f2, .int .i64 x.f3] := by
  obtain ⟨_, _, rfl, rfl, ⟨_, _, rfl, rfl, ⟨_, _, rfl, rfl, rfl⟩⟩⟩ := h
  exact rfl
theorem k73_openM {w : World} {base : Nat} {ok : Nat → Prop} {x : S73} {cs : List Value} (h : k73.M w base ok x cs) : cs = [.int .i64 x.f0, .int .i64 x.f1, .int .i64 x.f2, .int .i64 x.f3] := by
  obtain ⟨_, _, rfl, rfl, ⟨_, _, rfl, rfl, ⟨_, _, rfl, rfl, rfl⟩⟩⟩ := h
  exact rfl
theorem k73_mkM (w : World) (base : Nat) (ok : Nat → Prop) (x : S73)  : k73.M w base ok x [.int .i64 x.f0, .int .i64 x.f1, .int .i64 x.f2, .int .i64 x.f3] := ⟨[.int .i64 x.f0], [.int .i64 x.f1, .int .i64 x.f2, .int .i64 x.f3], rfl, rfl, ⟨[.int .i64 x.f1], [.int .i64 x.f2, .int .i64 x.f3], rfl, rfl, ⟨[.int .i64 x.f2], [.int .i64 x.f3], rfl, rfl, rfl⟩⟩⟩
def rd_T73 (xs : List S73) (i : Int) : S73 := xs.getD i.toNat z73
theorem at_T73 {w : World} {A : Option Addr} {n : Nat} {xs : List S73} (h : Kd.C k73 w A n xs) (i : Int) (h0 : 0 ≤ i) (h1 : i < n) : ∃ ad , A = some ad ∧ w.cell? (ad.add (i.toNat * 4)) = some (.int .i64 (rd_T73 xs i).f0) ∧ w.cell? ⟨(ad.add (i.toNat * 4)).block, (ad.add (i.toNat * 4)).off + 1, none⟩ = some (.int .i64 (rd_T73 xs i).f1) ∧ w.cell? ⟨(ad.add (i.toNat * 4)).block, (ad.add (i.toNat * 4)).off + 2, none⟩ = some (.int .i64 (rd_T73 xs i).f2) ∧ w.cell? ⟨(ad.add (i.toNat * 4)).block, (ad.add (i.toNat * 4)).off + 3, none⟩ = some (.int .i64 (rd_T73 xs i).f3) := by
  obtain ⟨ad, c, e, _, hK, hc0⟩ := Kd.C_get h z73 i h0 h1
  have hc : ∀ j u, c[j]? = some u → w.cell? (ad.add (i.toNat * 4 + j)) = some u := hc0
  obtain rfl := k73_open hK
  exact ⟨ad, e, hc 0 _ rfl, by rw [← add_field _ _ 1 (by omega)]; exact hc 1 _ rfl, by rw [← add_field _ _ 2 (by omega)]; exact hc 2 _ rfl, by rw [← add_field _ _ 3 (by omega)]; exact hc 3 _ rfl⟩
structure S46 where
  f0 : Int
  f1 : Int
  f2 : (List Int)
  f3 : Int
  f4 : Int
  f5 : (List S67)
  f6 : (List S70)
  f7 : (List S73)
def z46 : S46 := ⟨(0 : Int), (0 : Int), ([] : List Int), (0 : Int), (0 : Int), ([] : List S67), ([] : List S70), ([] : List S73)⟩
def k46 : Kd S46 := Kd.iso (Kd.pair (Kd.int .i64) (Kd.pair (Kd.int .i64) (Kd.pair (Kd.slice 3 (Kd.int .i64)) (Kd.pair (Kd.int .i64) (Kd.pair (Kd.int .i64) (Kd.pair (Kd.slice 67 k67) (Kd.pair (Kd.slice 70 k70) (Kd.slice 73 k73)))))))) (fun x : S46 => (x.f0, x.f1, x.f2, x.f3, x.f4, x.f5, x.f6, x.f7))
theorem k46_open {w : World} {x : S46} {cs : List Value} (h : k46.K w x cs) : ∃ A2 c2 A5 c5 A6 c6 A7 c7, cs = [.int .i64 x.f0, .int .i64 x.f1, .slice A2 x.f2.length c2, .int .i64 x.f3, .int .i64 x.f4, .slice A5 x.f5.length c5, .slice A6 x.f6.length c6, .slice A7 x.f7.length c7] ∧ x.f2.length ≤ c2 ∧ (Kd.int .i64).C w A2 x.f2.length x.f2 ∧ x.f5.length ≤ c5 ∧ k67.C w A5 x.f5.length x.f5 ∧ x.f6.length ≤ c6 ∧ k70.C w A6 x.f6.length x.f6 ∧ x.f7.length ≤ c7 ∧ k73.C w A7 x.f7.length x.f7 := by
  obtain ⟨_, _, rfl, rfl, ⟨_, _, rfl, rfl, ⟨_, _, rfl, ⟨A2, c2, rfl, l2, g2⟩, ⟨_, _, rfl, rfl, ⟨_, _, rfl, rfl, ⟨_, _, rfl, ⟨A5, c5, rfl, l5, g5⟩, ⟨_, _, rfl, ⟨A6, c6, rfl, l6, g6⟩, ⟨A7, c7, rfl, l7, g7⟩⟩⟩⟩⟩⟩⟩⟩ := h
  exact ⟨A2, c2, A5, c5, A6, c6, A7, c7, rfl, l2, g2, l5, g5, l6, g6, l7, g7⟩
theorem k46_openM {w : World} {base : Nat} {ok : Nat → Prop} {x : S46} {cs : List Value} (h : k46.M w base ok x cs) : ∃ v2 v5 v6 v7, cs = [.int .i64 x.f0, .int .i64 x.f1, v2, .int .i64 x.f3, .int .i64 x.f4, v5, v6, v7] ∧ (Kd.int .i64).R 3 w base ok v2 x.f2 ∧ k67.R 67 w base ok v5 x.f5 ∧ k70.R 70 w base ok v6 x.f6 ∧ k73.R 73 w base ok v7 x.f7 := by
  obtain ⟨_, _, rfl, rfl, ⟨_, _, rfl, rfl, ⟨_, _, rfl, ⟨v2, rfl, g2⟩, ⟨_, _, rfl, rfl, ⟨_, _, rfl, rfl, ⟨_, _, rfl, ⟨v5, rfl, g5⟩, ⟨_, _, rfl, ⟨v6, rfl, g6⟩, ⟨v7, rfl, g7⟩⟩⟩⟩⟩⟩⟩⟩ := h
  exact ⟨v2, v5, v6, v7, rfl, g2, g5, g6, g7⟩
theorem k46_mkM (w : World) (base : Nat) (ok : Nat → Prop) (x : S46) {v2 : Value} (g2 : (Kd.int .i64).R 3 w base ok v2 x.f2) {v5 : Value} (g5 : k67.R 67 w base ok v5 x.f5) {v6 : Value} (g6 : k70.R 70 w base ok v6 x.f6) {v7 : Value} (g7 : k73.R 73 w base ok v7 x.f7) : k46.M w base ok x [.int .i64 x.f0, .int .i64 x.f1, v2, .int .i64 x.f3, .int .i64 x.f4, v5, v6, v7] := ⟨[.int .i64 x.f0], [.int .i64 x.f1, v2, .int .i64 x.f3, .int .i64 x.f4, v5, v6, v7], rfl, rfl, ⟨[.int .i64 x.f1], [v2, .int .i64 x.f3, .int .i64 x.f4, v5, v6, v7], rfl, rfl, ⟨[v2], [.int .i64 x.f3, .int .i64 x.f4, v5, v6, v7], rfl, ⟨v2, rfl, g2⟩, ⟨[.int .i64 x.f3], [.int .i64 x.f4, v5, v6, v7], rfl, rfl, ⟨[.int .i64 x.f4], [v5, v6, v7], rfl, rfl, ⟨[v5], [v6, v7], rfl, ⟨v5, rfl, g5⟩, ⟨[v6], [v7], rfl, ⟨v6, rfl, g6⟩, ⟨v7, rfl, g7⟩⟩⟩⟩⟩⟩⟩⟩
def rd_T46 (xs : List S46) (i : Int) : S46 := xs.getD i.toNat z46
theorem at_T46 {w : World} {A : Option Addr} {n : Nat} {xs : List S46} (h : Kd.C k46 w A n xs) (i : Int) (h0 : 0 ≤ i) (h1 : i < n) : ∃ ad A2 c2 A5 c5 A6 c6 A7 c7, A = some ad ∧ w.cell? (ad.add (i.toNat * 8)) = some (.int .i64 (rd_T46 xs i).f0) ∧ w.cell? ⟨(ad.add (i.toNat * 8)).block, (ad.add (i.toNat * 8)).off + 1, none⟩ = some (.int .i64 (rd_T46 xs i).f1) ∧ w.cell? ⟨(ad.add (i.toNat * 8)).block, (ad.add (i.toNat * 8)).off + 2, none⟩ = some (.slice A2 (rd_T46 xs i).f2.length c2) ∧ w.cell? ⟨(ad.add (i.toNat * 8)).block, (ad.add (i.toNat * 8)).off + 3, none⟩ = some (.int .i64 (rd_T46 xs i).f3) ∧ w.cell? ⟨(ad.add (i.toNat * 8)).block, (ad.add (i.toNat * 8)).off + 4, none⟩ = some (.int .i64 (rd_T46 xs i).f4) ∧ w.cell? ⟨(ad.add (i.toNat * 8)).block, (ad.add (i.toNat * 8)).off + 5, none⟩ = some (.slice A5 (rd_T46 xs i).f5.length c5) ∧ w.cell? ⟨(ad.add (i.toNat * 8)).block, (ad.add (i.toNat * 8)).off + 6, none⟩ = some (.slice A6 (rd_T46 xs i).f6.length c6) ∧ w.cell? ⟨(ad.add (i.toNat * 8)).block, (ad.add (i.toNat * 8)).off + 7, none⟩ = some (.slice A7 (rd_T46 xs i).f7.length c7) ∧ (rd_T46 xs i).f2.length ≤ c2 ∧ (Kd.int .i64).C w A2 (rd_T46 xs i).f2.length (rd_T46 xs i).f2 ∧ (rd_T46 xs i).f5.length ≤ c5 ∧ k67.C w A5 (rd_T46 xs i).f5.length (rd_T46 xs i).f5 ∧ (rd_T46 xs i).f6.length ≤ c6 ∧ k70.C w A6 (rd_T46 xs i).f6.length (rd_T46 xs i).f6 ∧ (rd_T46 xs i).f7.length ≤ c7 ∧ k73.C w A7 (rd_T46 xs i).f7.length (rd_T46 xs i).f7 := by
  obtain ⟨ad, c, e, _, hK, hc0⟩ := Kd.C_get h z46 i h0 h1
  have hc : ∀ j u, c[j]? = some u → w.cell? (ad.add (i.toNat * 8 + j)) = some u := hc0
  obtain ⟨A2, c2, A5, c5, A6, c6, A7, c7, rfl, l2, g2, l5, g5, l6, g6, l7, g7⟩ := k46_open hK
  exact ⟨ad, A2, c2, A5, c5, A6, c6, A7, c7, e, hc 0 _ rfl, by rw [← add_field _ _ 1 (by omega)]; exact hc 1 _ rfl, by rw [← add_field _ _ 2 (by omega)]; exact hc 2 _ rfl, by rw [← add_field _ _ 3 (by omega)]; exact hc 3 _ rfl, by rw [← add_field _ _ 4 (by omega)]; exact hc 4 _ rfl, by rw [← add_field _ _ 5 (by omega)]; exact hc 5 _ rfl, by rw [← add_field _ _ 6 (by omega)]; exact hc 6 _ rfl, by rw [← add_field _ _ 7 (by omega)]; exact hc 7 _ rfl, l2, g2, l5, g5, l6, g6, l7, g7⟩
end Go.Proofs.Ytedodaifpekahaa.P

end
section

namespace Go.Proofs.Ytedodaifpekahaa
open Go Go.Proofs.Ytedodaifpekahaa.P
set_option maxRecDepth 100000
theorem enter_of {P : Program} {L : List Char} {W : List (List Char)} {c : List Char} {rest : List (List Char)} (h1 : P.initOrder.toList = L) (h2 : wordsSigns L = W) (h3 : behindMainWord W = c :: rest) (h4 : stripLifts liftWords (c :: rest) = ([], c :: rest)) (h5 : c = "cut".toList) (h6 : P.laysLater = false) (h7 : P.bearsReflect = false) (h8 : P.doorFits [] = true) : P.mayEnter = true := by
  unfold Program.mayEnter
  rw [h1, h2, h3]
  simp only [h4, h6, h7, h8, List.head?_cons]
  simp [h5]
theorem make_of {P : Program} {L : List Char} {W : List (List Char)} {c : List Char} {rest : List (List Char)} (h1 : P.initOrder.toList = L) (h2 : wordsSigns L = W) (h3 : behindMainWord W = c :: rest) (h5 : c = "cut".toList) : P.make = some .cut := by
  unfold Program.make
  rw [h1, h2, h3]
  simp [h5]
theorem lifts_of {P : Program} {L : List Char} {W : List (List Char)} {c : List Char} {rest : List (List Char)} (h1 : P.initOrder.toList = L) (h2 : wordsSigns L = W) (h3 : behindMainWord W = c :: rest) (h4 : stripLifts liftWords (c :: rest) = ([], c :: rest)) (h5 : c = "cut".toList) : P.liftsFinal = false := by
  unfold Program.liftsFinal Program.headLifts
  rw [h1, h2, h3]
  simp only [h4, List.head?_cons]
  simp [h5]
def headChars : List Char := [Char.ofNat 104, Char.ofNat 97, Char.ofNat 114, Char.ofNat 110, Char.ofNat 101, Char.ofNat 115, Char.ofNat 115, Char.ofNat 32, Char.ofNat 49, Char.ofNat 54, Char.ofNat 57, Char.ofNat 101, Char.ofNat 53, Char.ofNat 55, Char.ofNat 55, Char.ofNat 48, Char.ofNat 101, Char.ofNat 54, Char.ofNat 50, Char.ofNat 53, Char.ofNat 102, Char.ofNat 53, Char.ofNat 100, Char.ofNat 52, Char.ofNat 102, Char.ofNat 97, Char.ofNat 100, Char.ofNat 51, Char.ofNat 100, Char.ofNat 99, Char.ofNat 48, Char.ofNat 98, Char.ofNat 97, Char.ofNat 53, Char.ofNat 49, Char.ofNat 100, Char.ofNat 53, Char.ofNat 57, Char.ofNat 52, Char.ofNat 50, Char.ofNat 55, Char.ofNat 57, Char.ofNat 55, Char.ofNat 51, Char.ofNat 55, Char.ofNat 55, Char.ofNat 49, Char.ofNat 48, Char.ofNat 55, Char.ofNat 97, Char.ofNat 57, Char.ofNat 53, Char.ofNat 97, Char.ofNat 49, Char.ofNat 49, Char.ofNat 98, Char.ofNat 55, Char.ofNat 49, Char.ofNat 56, Char.ofNat 50, Char.ofNat 57, Char.ofNat 49, Char.ofNat 99, Char.ofNat 97, Char.ofNat 100, Char.ofNat 100, Char.ofNat 48, Char.ofNat 51, Char.ofNat 102, Char.ofNat 99, Char.ofNat 50, Char.ofNat 50, Char.ofNat 32, Char.ofNat 99, Char.ofNat 117, Char.ofNat 116, Char.ofNat 32, Char.ofNat 97, Char.ofNat 116, Char.ofNat 32, Char.ofNat 108, Char.ofNat 111, Char.ofNat 111, Char.ofNat 112, Char.ofNat 46, Char.ofNat 101, Char.ofNat 120, Char.ofNat 97, Char.ofNat 109, Char.ofNat 112, Char.ofNat 108, Char.ofNat 101, Char.ofNat 47, Char.ofNat 101, Char.ofNat 110, Char.ofNat 116, Char.ofNat 97, Char.ofNat 105, Char.ofNat 108, Char.ofNat 47, Char.ofNat 108, Char.ofNat 97, Char.ofNat 119, Char.ofNat 115, Char.ofNat 46, Char.ofNat 70, Char.ofNat 110, Char.ofNat 69, Char.ofNat 120, Char.ofNat 97, Char.ofNat 99, Char.ofNat 116, Char.ofNat 85, Char.ofNat 110, Char.ofNat 105, Char.ofNat 116, Char.ofNat 79, Char.ofNat 107, Char.ofNat 32, Char.ofNat 108, Char.ofNat 111, Char.ofNat 111, Char.ofNat 112, Char.ofNat 46, Char.ofNat 101, Char.ofNat 120, Char.ofNat 97, Char.ofNat 109, Char.ofNat 112, Char.ofNat 108, Char.ofNat 101, Char.ofNat 47, Char.ofNat 101, Char.ofNat 110, Char.ofNat 116, Char.ofNat 97, Char.ofNat 105, Char.ofNat 108, Char.ofNat 47, Char.ofNat 108, Char.ofNat 97, Char.ofNat 119, Char.ofNat 115, Char.ofNat 46, Char.ofNat 70, Char.ofNat 110, Char.ofNat 69, Char.ofNat 120, Char.ofNat 97, Char.ofNat 99, Char.ofNat 116, Char.ofNat 85, Char.ofNat 110, Char.ofNat 105, Char.ofNat 116, Char.ofNat 70, Char.ofNat 105, Char.ofNat 110, Char.ofNat 100]
def headWords : List (List Char) := [[Char.ofNat 104, Char.ofNat 97, Char.ofNat 114, Char.ofNat 110, Char.ofNat 101, Char.ofNat 115, Char.ofNat 115], [Char.ofNat 49, Char.ofNat 54, Char.ofNat 57, Char.ofNat 101, Char.ofNat 53, Char.ofNat 55, Char.ofNat 55, Char.ofNat 48, Char.ofNat 101, Char.ofNat 54, Char.ofNat 50, Char.ofNat 53, Char.ofNat 102, Char.ofNat 53, Char.ofNat 100, Char.ofNat 52, Char.ofNat 102, Char.ofNat 97, Char.ofNat 100, Char.ofNat 51, Char.ofNat 100, Char.ofNat 99, Char.ofNat 48, Char.ofNat 98, Char.ofNat 97, Char.ofNat 53, Char.ofNat 49, Char.ofNat 100, Char.ofNat 53, Char.ofNat 57, Char.ofNat 52, Char.ofNat 50, Char.ofNat 55, Char.ofNat 57, Char.ofNat 55, Char.ofNat 51, Char.ofNat 55, Char.ofNat 55, Char.ofNat 49, Char.ofNat 48, Char.ofNat 55, Char.ofNat 97, Char.ofNat 57, Char.ofNat 53, Char.ofNat 97, Char.ofNat 49, Char.ofNat 49, Char.ofNat 98, Char.ofNat 55, Char.ofNat 49, Char.ofNat 56, Char.ofNat 50, Char.ofNat 57, Char.ofNat 49, Char.ofNat 99, Char.ofNat 97, Char.ofNat 100, Char.ofNat 100, Char.ofNat 48, Char.ofNat 51, Char.ofNat 102, Char.ofNat 99, Char.ofNat 50, Char.ofNat 50], [Char.ofNat 99, Char.ofNat 117, Char.ofNat 116], [Char.ofNat 97, Char.ofNat 116], [Char.ofNat 108, Char.ofNat 111, Char.ofNat 111, Char.ofNat 112, Char.ofNat 46, Char.ofNat 101, Char.ofNat 120, Char.ofNat 97, Char.ofNat 109, Char.ofNat 112, Char.ofNat 108, Char.ofNat 101, Char.ofNat 47, Char.ofNat 101, Char.ofNat 110, Char.ofNat 116, Char.ofNat 97, Char.ofNat 105, Char.ofNat 108, Char.ofNat 47, Char.ofNat 108, Char.ofNat 97, Char.ofNat 119, Char.ofNat 115, Char.ofNat 46, Char.ofNat 70, Char.ofNat 110, Char.ofNat 69, Char.ofNat 120, Char.ofNat 97, Char.ofNat 99, Char.ofNat 116, Char.ofNat 85, Char.ofNat 110, Char.ofNat 105, Char.ofNat 116, Char.ofNat 79, Char.ofNat 107], [Char.ofNat 108, Char.ofNat 111, Char.ofNat 111, Char.ofNat 112, Char.ofNat 46, Char.ofNat 101, Char.ofNat 120, Char.ofNat 97, Char.ofNat 109, Char.ofNat 112, Char.ofNat 108, Char.ofNat 101, Char.ofNat 47, Char.ofNat 101, Char.ofNat 110, Char.ofNat 116, Char.ofNat 97, Char.ofNat 105, Char.ofNat 108, Char.ofNat 47, Char.ofNat 108, Char.ofNat 97, Char.ofNat 119, Char.ofNat 115, Char.ofNat 46, Char.ofNat 70, Char.ofNat 110, Char.ofNat 69, Char.ofNat 120, Char.ofNat 97, Char.ofNat 99, Char.ofNat 116, Char.ofNat 85, Char.ofNat 110, Char.ofNat 105, Char.ofNat 116, Char.ofNat 70, Char.ofNat 105, Char.ofNat 110, Char.ofNat 100]]
theorem head_is : Try.prog.initOrder.toList = headChars := by
  have h : Try.prog.initOrder = String.ofList headChars := by kernel_rfl
  rw [h, String.toList_ofList]
def rootWords : List (List Char) := [[Char.ofNat 97, Char.ofNat 116], [Char.ofNat 108, Char.ofNat 111, Char.ofNat 111, Char.ofNat 112, Char.ofNat 46, Char.ofNat 101, Char.ofNat 120, Char.ofNat 97, Char.ofNat 109, Char.ofNat 112, Char.ofNat 108, Char.ofNat 101, Char.ofNat 47, Char.ofNat 101, Char.ofNat 110, Char.ofNat 116, Char.ofNat 97, Char.ofNat 105, Char.ofNat 108, Char.ofNat 47, Char.ofNat 108, Char.ofNat 97, Char.ofNat 119, Char.ofNat 115, Char.ofNat 46, Char.ofNat 70, Char.ofNat 110, Char.ofNat 69, Char.ofNat 120, Char.ofNat 97, Char.ofNat 99, Char.ofNat 116, Char.ofNat 85, Char.ofNat 110, Char.ofNat 105, Char.ofNat 116, Char.ofNat 79, Char.ofNat 107], [Char.ofNat 108, Char.ofNat 111, Char.ofNat 111, Char.ofNat 112, Char.ofNat 46, Char.ofNat 101, Char.ofNat 120, Char.ofNat 97, Char.ofNat 109, Char.ofNat 112, Char.ofNat 108, Char.ofNat 101, Char.ofNat 47, Char.ofNat 101, Char.ofNat 110, Char.ofNat 116, Char.ofNat 97, Char.ofNat 105, Char.ofNat 108, Char.ofNat 47, Char.ofNat 108, Char.ofNat 97, Char.ofNat 119, Char.ofNat 115, Char.ofNat 46, Char.ofNat 70, Char.ofNat 110, Char.ofNat 69, Char.ofNat 120, Char.ofNat 97, Char.ofNat 99, Char.ofNat 116, Char.ofNat 85, Char.ofNat 110, Char.ofNat 105, Char.ofNat 116, Char.ofNat 70, Char.ofNat 105, Char.ofNat 110, Char.ofNat 100]]
theorem enter : Try.prog.mayEnter = true := enter_of (L := headChars) (W := headWords) head_is (by kernel_rfl) (c := [Char.ofNat 99, Char.ofNat 117, Char.ofNat 116]) (rest := rootWords) (by kernel_rfl) (by kernel_rfl) (by kernel_rfl) (by kernel_rfl) (by kernel_rfl) (by kernel_rfl)
theorem make : Try.prog.make = some .cut := make_of (L := headChars) (W := headWords) head_is (by kernel_rfl) (c := [Char.ofNat 99, Char.ofNat 117, Char.ofNat 116]) (rest := rootWords) (by kernel_rfl) (by kernel_rfl)
theorem lifts : Try.prog.liftsFinal = false := lifts_of (L := headChars) (W := headWords) head_is (by kernel_rfl) (c := [Char.ofNat 99, Char.ofNat 117, Char.ofNat 116]) (rest := rootWords) (by kernel_rfl) (by kernel_rfl) (by kernel_rfl)
end Go.Proofs.Ytedodaifpekahaa

end
section

namespace Go.Proofs.Ytedodaifpekahaa.P
open Go.RowKit Go.Proofs.YtedodaifpekahaaW.PrintWords Go.Proofs.YtedodaifpekahaaW.PrintLast Go.Proofs.YtedodaifpekahaaW.PrintMore
attribute [local go_sem] max2_int min2_int max_two min_two max_three min_three max_four min_four
set_option linter.unusedVariables false
set_option linter.unusedSimpArgs false
def laws_szIntS.f (l0 : List Int) (a1 : Int) : Option (Int) := if (wrap64 (a1 - (l0.length : Int))) < 0 then (some (-1)) else (some (wrap64 (a1 - (l0.length : Int))))
end Go.Proofs.Ytedodaifpekahaa.P

end
section

namespace Go.Proofs.Ytedodaifpekahaa.P
open Go.RowKit Go.Proofs.YtedodaifpekahaaW.PrintWords Go.Proofs.YtedodaifpekahaaW.PrintLast Go.Proofs.YtedodaifpekahaaW.PrintMore
attribute [local go_sem] max2_int min2_int max_two min_two max_three min_three max_four min_four
set_option linter.unusedVariables false
set_option linter.unusedSimpArgs false
def laws_szClass.f (a0_0 : Int) (l0_1 : List Int) (a1 : Int) : Option (Int) := (laws_szIntS.f l0_1 a1).bind fun t102 => (if t102 < 0 then (some (-1)) else (some t102))
end Go.Proofs.Ytedodaifpekahaa.P

end
section

namespace Go.Proofs.Ytedodaifpekahaa.P
open Go.RowKit Go.Proofs.YtedodaifpekahaaW.PrintWords Go.Proofs.YtedodaifpekahaaW.PrintLast Go.Proofs.YtedodaifpekahaaW.PrintMore
attribute [local go_sem] max2_int min2_int max_two min_two max_three min_three max_four min_four
set_option linter.unusedVariables false
set_option linter.unusedSimpArgs false
def laws_szClassS.l0 : Nat → List (S58) → Int → Int → Option (Int)
  | 0, _, _, _ => none
  | k + 1, x0, x1, x5 => if x5 < (x0.length : Int) then (if 0 ≤ x5 then ((laws_szClass.f ((rd_T58 x0 x5).f0) ((rd_T58 x0 x5).f1) x1).bind fun t104 => (if t104 < 0 then (some (-1)) else (laws_szClassS.l0 k x0 t104 (wrap64 (x5 + 1))))) else (none)) else (some x1)
def laws_szClassS.f (k : Nat) (l0 : List (S58)) (a1 : Int) : Option (Int) := if (wrap64 (a1 - (l0.length : Int))) < 0 then (some (-1)) else (laws_szClassS.l0 k l0 (wrap64 (a1 - (l0.length : Int))) 0)
end Go.Proofs.Ytedodaifpekahaa.P

end
section

namespace Go.Proofs.Ytedodaifpekahaa.P
open Go.RowKit Go.Proofs.YtedodaifpekahaaW.PrintWords Go.Proofs.YtedodaifpekahaaW.PrintLast Go.Proofs.YtedodaifpekahaaW.PrintMore
attribute [local go_sem] max2_int min2_int max_two min_two max_three min_three max_four min_four
set_option linter.unusedVariables false
set_option linter.unusedSimpArgs false
def laws_szInsS.f (l0 : List (S113)) (a1 : Int) : Option (Int) := if (wrap64 (a1 - (l0.length : Int))) < 0 then (some (-1)) else (some (wrap64 (a1 - (l0.length : Int))))
end Go.Proofs.Ytedodaifpekahaa.P

end
section

namespace Go.Proofs.Ytedodaifpekahaa.P
open Go.RowKit Go.Proofs.YtedodaifpekahaaW.PrintWords Go.Proofs.YtedodaifpekahaaW.PrintLast Go.Proofs.YtedodaifpekahaaW.PrintMore
attribute [local go_sem] max2_int min2_int max_two min_two max_three min_three max_four min_four
set_option linter.unusedVariables false
set_option linter.unusedSimpArgs false
def laws_szShape.f (a0_0 : Bool) (l0_1 : List Int) (l0_2 : List Int) (a1 : Int) : Option (Int) := (laws_szIntS.f l0_1 a1).bind fun t106 => (if t106 < 0 then (some (-1)) else ((laws_szIntS.f l0_2 t106).bind fun t107 => (if t107 < 0 then (some (-1)) else (some t107))))
end Go.Proofs.Ytedodaifpekahaa.P

end
section

namespace Go.Proofs.Ytedodaifpekahaa.P
open Go.RowKit Go.Proofs.YtedodaifpekahaaW.PrintWords Go.Proofs.YtedodaifpekahaaW.PrintLast Go.Proofs.YtedodaifpekahaaW.PrintMore
attribute [local go_sem] max2_int min2_int max_two min_two max_three min_three max_four min_four
set_option linter.unusedVariables false
set_option linter.unusedSimpArgs false
def laws_szShapeS.l0 : Nat → List (S111) → Int → Int → Option (Int)
  | 0, _, _, _ => none
  | k + 1, x0, x1, x5 => if x5 < (x0.length : Int) then (if 0 ≤ x5 then ((laws_szShape.f ((rd_T111 x0 x5).f0) ((rd_T111 x0 x5).f1) ((rd_T111 x0 x5).f2) x1).bind fun t109 => (if t109 < 0 then (some (-1)) else (laws_szShapeS.l0 k x0 t109 (wrap64 (x5 + 1))))) else (none)) else (some x1)
def laws_szShapeS.f (k : Nat) (l0 : List (S111)) (a1 : Int) : Option (Int) := if (wrap64 (a1 - (l0.length : Int))) < 0 then (some (-1)) else (laws_szShapeS.l0 k l0 (wrap64 (a1 - (l0.length : Int))) 0)
end Go.Proofs.Ytedodaifpekahaa.P

end
section

namespace Go.Proofs.Ytedodaifpekahaa.P
open Go.RowKit Go.Proofs.YtedodaifpekahaaW.PrintWords Go.Proofs.YtedodaifpekahaaW.PrintLast Go.Proofs.YtedodaifpekahaaW.PrintMore
attribute [local go_sem] max2_int min2_int max_two min_two max_three min_three max_four min_four
set_option linter.unusedVariables false
set_option linter.unusedSimpArgs false
def laws_szCatchS.f (l0 : List (S116)) (a1 : Int) : Option (Int) := if (wrap64 (a1 - (l0.length : Int))) < 0 then (some (-1)) else (some (wrap64 (a1 - (l0.length : Int))))
end Go.Proofs.Ytedodaifpekahaa.P

end
section

namespace Go.Proofs.Ytedodaifpekahaa.P
open Go.RowKit Go.Proofs.YtedodaifpekahaaW.PrintWords Go.Proofs.YtedodaifpekahaaW.PrintLast Go.Proofs.YtedodaifpekahaaW.PrintMore
attribute [local go_sem] max2_int min2_int max_two min_two max_three min_three max_four min_four
set_option linter.unusedVariables false
set_option linter.unusedSimpArgs false
def laws_szMethod.f (k : Nat) (a0_0 : Int) (a0_1 : Int) (l0_2 : List Int) (a0_3 : Int) (a0_4 : Int) (l0_5 : List (S113)) (l0_6 : List (S111)) (l0_7 : List (S116)) (a1 : Int) : Option (Int) := (laws_szIntS.f l0_2 a1).bind fun t111 => (if t111 < 0 then (some (-1)) else ((laws_szInsS.f l0_5 t111).bind fun t112 => (if t112 < 0 then (some (-1)) else ((laws_szShapeS.f k l0_6 t112).bind fun t113 => (if t113 < 0 then (some (-1)) else ((laws_szCatchS.f l0_7 t113).bind fun t114 => (if t114 < 0 then (some (-1)) else (some t114))))))))
end Go.Proofs.Ytedodaifpekahaa.P

end
section

namespace Go.Proofs.Ytedodaifpekahaa.P
open Go.RowKit Go.Proofs.YtedodaifpekahaaW.PrintWords Go.Proofs.YtedodaifpekahaaW.PrintLast Go.Proofs.YtedodaifpekahaaW.PrintMore
attribute [local go_sem] max2_int min2_int max_two min_two max_three min_three max_four min_four
set_option linter.unusedVariables false
set_option linter.unusedSimpArgs false
def laws_szMethodS.l0 : Nat → List (S64) → Int → Int → Option (Int)
  | 0, _, _, _ => none
  | k + 1, x0, x1, x5 => if x5 < (x0.length : Int) then (if 0 ≤ x5 then ((laws_szMethod.f k ((rd_T64 x0 x5).f0) ((rd_T64 x0 x5).f1) ((rd_T64 x0 x5).f2) ((rd_T64 x0 x5).f3) ((rd_T64 x0 x5).f4) ((rd_T64 x0 x5).f5) ((rd_T64 x0 x5).f6) ((rd_T64 x0 x5).f7) x1).bind fun t116 => (if t116 < 0 then (some (-1)) else (laws_szMethodS.l0 k x0 t116 (wrap64 (x5 + 1))))) else (none)) else (some x1)
def laws_szMethodS.f (k : Nat) (l0 : List (S64)) (a1 : Int) : Option (Int) := if (wrap64 (a1 - (l0.length : Int))) < 0 then (some (-1)) else (laws_szMethodS.l0 k l0 (wrap64 (a1 - (l0.length : Int))) 0)
end Go.Proofs.Ytedodaifpekahaa.P

end
section

namespace Go.Proofs.Ytedodaifpekahaa.P
open Go.RowKit Go.Proofs.YtedodaifpekahaaW.PrintWords Go.Proofs.YtedodaifpekahaaW.PrintLast Go.Proofs.YtedodaifpekahaaW.PrintMore
attribute [local go_sem] max2_int min2_int max_two min_two max_three min_three max_four min_four
set_option linter.unusedVariables false
set_option linter.unusedSimpArgs false
def laws_szUnit.f (k : Nat) (l0_0 : List (S58)) (l0_1 : List (S64)) (a1 : Int) : Option (Int) := (laws_szClassS.f k l0_0 a1).bind fun t118 => (if t118 < 0 then (some (-1)) else ((laws_szMethodS.f k l0_1 t118).bind fun t119 => (if t119 < 0 then (some (-1)) else (some t119))))
end Go.Proofs.Ytedodaifpekahaa.P

end
section

namespace Go.Proofs.Ytedodaifpekahaa.P
open Go.RowKit Go.Proofs.YtedodaifpekahaaW.PrintWords Go.Proofs.YtedodaifpekahaaW.PrintLast Go.Proofs.YtedodaifpekahaaW.PrintMore
attribute [local go_sem] max2_int min2_int max_two min_two max_three min_three max_four min_four
set_option linter.unusedVariables false
set_option linter.unusedSimpArgs false
def spec_l6In.f (a0 : Int) (a1 : Int) (a2 : Int) : Option (Bool) := if a0 ≥ a1 then (some (decide (a0 ≤ a2))) else (some false)
end Go.Proofs.Ytedodaifpekahaa.P

end
section

namespace Go.Proofs.Ytedodaifpekahaa.P
open Go.RowKit Go.Proofs.YtedodaifpekahaaW.PrintWords Go.Proofs.YtedodaifpekahaaW.PrintLast Go.Proofs.YtedodaifpekahaaW.PrintMore
attribute [local go_sem] max2_int min2_int max_two min_two max_three min_three max_four min_four
set_option linter.unusedVariables false
set_option linter.unusedSimpArgs false
def spec_l2Field.f (l0 : List (S76)) (a1 : Int) : Option (Bool) := if a1 = 1 then (some true) else (if a1 = 3 then (some true) else (if a1 = 4 then (some true) else ((spec_l6In.f a1 8 (wrap64 ((wrap64 (8 + (l0.length : Int))) - 1))).bind fun t120 => (some t120))))
end Go.Proofs.Ytedodaifpekahaa.P

end
section

namespace Go.Proofs.Ytedodaifpekahaa.P
open Go.RowKit Go.Proofs.YtedodaifpekahaaW.PrintWords Go.Proofs.YtedodaifpekahaaW.PrintLast Go.Proofs.YtedodaifpekahaaW.PrintMore
attribute [local go_sem] max2_int min2_int max_two min_two max_three min_three max_four min_four
set_option linter.unusedVariables false
set_option linter.unusedSimpArgs false
def spec_l2Class.l0 : Nat → List (S76) → Int → Int → Int → List Int → Option (Bool)
  | 0, _, _, _, _, _ => none
  | k + 1, x0, x1, x6, x123000, x123001 => if x6 < (x123001.length : Int) then (if 0 ≤ x6 then ((spec_l2Field.f x0 (rd x123001 x6)).bind fun t124 => (if t124 = true then (spec_l2Class.l0 k x0 x1 (wrap64 (x6 + 1)) x123000 x123001) else (some false))) else (none)) else (if x1 = 0 then (if x123000 = (-1) then (some ((x123001.length : Int) == 0)) else (some false)) else (if x1 = 1 then (if x123000 = 0 then (if (x123001.length : Int) = 1 then (if 0 < (x123001.length : Int) then (some ((rd x123001 0) == 1)) else (none)) else (some false)) else (some false)) else ((spec_l6In.f x123000 0 (wrap64 (x1 - 1))).bind fun t126 => (if t126 = true then (some (decide ((x123001.length : Int) ≤ 2))) else (some false)))))
def spec_l2Class.f (k : Nat) (l0 : List (S76)) (a1 : Int) : Option (Bool) := if 0 ≤ a1 then (if a1 < (l0.length : Int) then (spec_l2Class.l0 k l0 a1 0 ((rd_T76 l0 a1).f0) ((rd_T76 l0 a1).f1)) else (none)) else (none)
end Go.Proofs.Ytedodaifpekahaa.P

end
section

namespace Go.Proofs.Ytedodaifpekahaa.P
open Go.RowKit Go.Proofs.YtedodaifpekahaaW.PrintWords Go.Proofs.YtedodaifpekahaaW.PrintLast Go.Proofs.YtedodaifpekahaaW.PrintMore
attribute [local go_sem] max2_int min2_int max_two min_two max_three min_three max_four min_four
set_option linter.unusedVariables false
set_option linter.unusedSimpArgs false
def spec_ClassesOk.l0 : Nat → List (S76) → Int → Option (Bool)
  | 0, _, _ => none
  | k + 1, x0, x3 => if x3 < (x0.length : Int) then ((spec_l2Class.f k x0 x3).bind fun t128 => (if t128 = true then (spec_ClassesOk.l0 k x0 (wrap64 (x3 + 1))) else (some false))) else (some true)
def spec_ClassesOk.f (k : Nat) (l0 : List (S76)) : Option (Bool) := (spec_l6In.f (l0.length : Int) 2 5).bind fun t127 => (if t127 = true then (spec_ClassesOk.l0 k l0 0) else (some false))
end Go.Proofs.Ytedodaifpekahaa.P

end
section

namespace Go.Proofs.Ytedodaifpekahaa.P
open Go.RowKit Go.Proofs.YtedodaifpekahaaW.PrintWords Go.Proofs.YtedodaifpekahaaW.PrintLast Go.Proofs.YtedodaifpekahaaW.PrintMore
attribute [local go_sem] max2_int min2_int max_two min_two max_three min_three max_four min_four
set_option linter.unusedVariables false
set_option linter.unusedSimpArgs false
mutual
def spec_l3Head.j0 : Nat → Int → List (S76) → List (S46) → Int → Int → List Int → Int → Int → List (S67) → List (S70) → List (S73) → Option (Bool)
  | 0, _, _, _, _, _, _, _, _, _, _, _ => none
  | k + 1, x5, x130000, x130001, x131000, x131001, x131002, x131003, x131004, x131005, x131006, x131007 => if x131000 = 0 then (spec_l3Head.j1 k true x130000 x130001 x131000 x131001 x131002 x131003 x131004 x131005 x131006 x131007) else ((spec_l6In.f x131000 (-1) (wrap64 ((x130000.length : Int) - 1))).bind fun t131 => (if t131 = true then (if (x131002.length : Int) > 2 then (spec_l3Head.j1 k true x130000 x130001 x131000 x131001 x131002 x131003 x131004 x131005 x131006 x131007) else ((spec_l2Field.f x130000 x131003).bind fun t132 => (if t132 = true then ((spec_l6In.f x131004 (wrap64 (x5 + (x131002.length : Int))) 3).bind fun t133 => (spec_l3Head.j1 k (!t133) x130000 x130001 x131000 x131001 x131002 x131003 x131004 x131005 x131006 x131007)) else (spec_l3Head.j1 k true x130000 x130001 x131000 x131001 x131002 x131003 x131004 x131005 x131006 x131007)))) else (spec_l3Head.j1 k true x130000 x130001 x131000 x131001 x131002 x131003 x131004 x131005 x131006 x131007)))
def spec_l3Head.j1 : Nat → Bool → List (S76) → List (S46) → Int → Int → List Int → Int → Int → List (S67) → List (S70) → List (S73) → Option (Bool)
  | 0, _, _, _, _, _, _, _, _, _, _, _ => none
  | k + 1, x47, x130000, x130001, x131000, x131001, x131002, x131003, x131004, x131005, x131006, x131007 => if x47 = true then (some false) else (spec_l3Head.l0 k 0 x130000 x130001 x131000 x131001 x131002 x131003 x131004 x131005 x131006 x131007)
def spec_l3Head.l0 : Nat → Int → List (S76) → List (S46) → Int → Int → List Int → Int → Int → List (S67) → List (S70) → List (S73) → Option (Bool)
  | 0, _, _, _, _, _, _, _, _, _, _, _ => none
  | k + 1, x6, x130000, x130001, x131000, x131001, x131002, x131003, x131004, x131005, x131006, x131007 => if x6 < (x131002.length : Int) then (if 0 ≤ x6 then ((spec_l2Field.f x130000 (rd x131002 x6)).bind fun t135 => (if t135 = true then (spec_l3Head.l0 k (wrap64 (x6 + 1)) x130000 x130001 x131000 x131001 x131002 x131003 x131004 x131005 x131006 x131007) else (some false))) else (none)) else (if x131000 ≥ 0 then ((spec_l6In.f x131001 0 2).bind fun t136 => (if t136 = true then (some true) else (if x131000 < 0 then (some (x131001 == 0)) else (some false)))) else (if x131000 < 0 then (some (x131001 == 0)) else (some false)))
end
def spec_l3Head.f (k : Nat) (l0_0 : List (S76)) (l0_1 : List (S46)) (a1_0 : Int) (a1_1 : Int) (l1_2 : List Int) (a1_3 : Int) (a1_4 : Int) (l1_5 : List (S67)) (l1_6 : List (S70)) (l1_7 : List (S73)) : Option (Bool) := if a1_0 ≥ 0 then (spec_l3Head.j0 k 1 l0_0 l0_1 a1_0 a1_1 l1_2 a1_3 a1_4 l1_5 l1_6 l1_7) else (spec_l3Head.j0 k 0 l0_0 l0_1 a1_0 a1_1 l1_2 a1_3 a1_4 l1_5 l1_6 l1_7)
end Go.Proofs.Ytedodaifpekahaa.P

end
section

namespace Go.Proofs.Ytedodaifpekahaa.P
open Go.RowKit Go.Proofs.YtedodaifpekahaaW.PrintWords Go.Proofs.YtedodaifpekahaaW.PrintLast Go.Proofs.YtedodaifpekahaaW.PrintMore
attribute [local go_sem] max2_int min2_int max_two min_two max_three min_three max_four min_four
set_option linter.unusedVariables false
set_option linter.unusedSimpArgs false
def spec_l1Word.f (a0 : Int) : Option (Bool) := (spec_l6In.f a0 (-128) 127).bind fun t137 => (some t137)
end Go.Proofs.Ytedodaifpekahaa.P

end
section

namespace Go.Proofs.Ytedodaifpekahaa.P
open Go.RowKit Go.Proofs.YtedodaifpekahaaW.PrintWords Go.Proofs.YtedodaifpekahaaW.PrintLast Go.Proofs.YtedodaifpekahaaW.PrintMore
attribute [local go_sem] max2_int min2_int max_two min_two max_three min_three max_four min_four
set_option linter.unusedVariables false
set_option linter.unusedSimpArgs false
def spec_l2Fields.f : Nat → List (S76) → Int → Option (List Int)
  | 0, _, _ => none
  | k + 1, l0, a1 => if a1 = 0 then (some (([] : List Int))) else (if 0 ≤ a1 then (if a1 < (l0.length : Int) then ((spec_l2Fields.f k l0 ((rd_T76 l0 a1).f0)).bind fun t142 => (if t142.length + ((rd_T76 l0 a1).f1).length < 17592186044416 then (some (t142 ++ ((rd_T76 l0 a1).f1))) else (none))) else (none)) else (none))
end Go.Proofs.Ytedodaifpekahaa.P

end
section

namespace Go.Proofs.Ytedodaifpekahaa.P
open Go.RowKit Go.Proofs.YtedodaifpekahaaW.PrintWords Go.Proofs.YtedodaifpekahaaW.PrintLast Go.Proofs.YtedodaifpekahaaW.PrintMore
attribute [local go_sem] max2_int min2_int max_two min_two max_three min_three max_four min_four
set_option linter.unusedVariables false
set_option linter.unusedSimpArgs false
mutual
def spec_l3Ins.j0 : Nat → Bool → Int → Bool → List (S76) → List (S46) → Int → Int → List Int → Int → Int → List (S67) → List (S70) → List (S73) → Int → Int → Int → Option (Bool)
  | 0, _, _, _, _, _, _, _, _, _, _, _, _, _, _, _, _ => none
  | k + 1, x7, x16, x27, x150000, x150001, x151000, x151001, x151002, x151003, x151004, x151005, x151006, x151007, x152000, x152001, x152002 => if x27 = true then (if x152001 = 0 then (some (x152002 == 0)) else (some false)) else (if x16 = 3 then (spec_l3Ins.j1 k x7 x16 (x16 == 3) x150000 x150001 x151000 x151001 x151002 x151003 x151004 x151005 x151006 x151007 x152000 x152001 x152002) else (spec_l3Ins.j1 k x7 x16 (x16 == 4) x150000 x150001 x151000 x151001 x151002 x151003 x151004 x151005 x151006 x151007 x152000 x152001 x152002))
def spec_l3Ins.j1 : Nat → Bool → Int → Bool → List (S76) → List (S46) → Int → Int → List Int → Int → Int → List (S67) → List (S70) → List (S73) → Int → Int → Int → Option (Bool)
  | 0, _, _, _, _, _, _, _, _, _, _, _, _, _, _, _, _ => none
  | k + 1, x7, x16, x43, x150000, x150001, x151000, x151001, x151002, x151003, x151004, x151005, x151006, x151007, x152000, x152001, x152002 => if x43 = true then ((spec_l6In.f x152001 0 (wrap64 (x151004 - 1))).bind fun t154 => (if t154 = true then (some (x152002 == 0)) else (some false))) else (if x16 = 7 then ((spec_l6In.f x152001 1 4).bind fun t155 => (if t155 = true then (some (x152002 == 0)) else (some false))) else (if x16 = 8 then (spec_l3Ins.j2 k x7 x16 (x16 == 8) x150000 x150001 x151000 x151001 x151002 x151003 x151004 x151005 x151006 x151007 x152000 x152001 x152002) else (if x16 = 9 then (spec_l3Ins.j2 k x7 x16 (x16 == 9) x150000 x150001 x151000 x151001 x151002 x151003 x151004 x151005 x151006 x151007 x152000 x152001 x152002) else (if x16 = 10 then (spec_l3Ins.j2 k x7 x16 (x16 == 10) x150000 x150001 x151000 x151001 x151002 x151003 x151004 x151005 x151006 x151007 x152000 x152001 x152002) else (spec_l3Ins.j2 k x7 x16 (x16 == 11) x150000 x150001 x151000 x151001 x151002 x151003 x151004 x151005 x151006 x151007 x152000 x152001 x152002)))))
def spec_l3Ins.j2 : Nat → Bool → Int → Bool → List (S76) → List (S46) → Int → Int → List Int → Int → Int → List (S67) → List (S70) → List (S73) → Int → Int → Int → Option (Bool)
  | 0, _, _, _, _, _, _, _, _, _, _, _, _, _, _, _, _ => none
  | k + 1, x7, x16, x67, x150000, x150001, x151000, x151001, x151002, x151003, x151004, x151005, x151006, x151007, x152000, x152001, x152002 => if x67 = true then ((spec_l6In.f x152001 0 (wrap64 ((x151005.length : Int) - 1))).bind fun t156 => (if t156 = true then (some (x152002 == 0)) else (some false))) else (if x16 = 12 then (spec_l3Ins.j3 k x7 x16 (x16 == 12) x150000 x150001 x152000 x152001 x152002) else (spec_l3Ins.j3 k x7 x16 (x16 == 19) x150000 x150001 x152000 x152001 x152002))
def spec_l3Ins.j3 : Nat → Bool → Int → Bool → List (S76) → List (S46) → Int → Int → Int → Option (Bool)
  | 0, _, _, _, _, _, _, _, _ => none
  | k + 1, x7, x16, x84, x150000, x150001, x152000, x152001, x152002 => if x84 = true then (if x7 = true then (some (x152002 == 0)) else (some false)) else (if x16 = 13 then (spec_l3Ins.j4 k x7 x16 (x16 == 13) x150000 x150001 x152000 x152001 x152002) else (if x16 = 15 then (spec_l3Ins.j4 k x7 x16 (x16 == 15) x150000 x150001 x152000 x152001 x152002) else (spec_l3Ins.j4 k x7 x16 (x16 == 16) x150000 x150001 x152000 x152001 x152002)))
def spec_l3Ins.j4 : Nat → Bool → Int → Bool → List (S76) → List (S46) → Int → Int → Int → Option (Bool)
  | 0, _, _, _, _, _, _, _, _ => none
  | k + 1, x7, x16, x93, x150000, x150001, x152000, x152001, x152002 => if x93 = true then ((spec_l6In.f x152001 0 1).bind fun t157 => (if t157 = true then (some (x152002 == 0)) else (some false))) else (if x16 = 17 then (spec_l3Ins.j5 k x7 x16 (x16 == 17) x150000 x150001 x152000 x152001 x152002) else (spec_l3Ins.j5 k x7 x16 (x16 == 18) x150000 x150001 x152000 x152001 x152002))
def spec_l3Ins.j5 : Nat → Bool → Int → Bool → List (S76) → List (S46) → Int → Int → Int → Option (Bool)
  | 0, _, _, _, _, _, _, _, _ => none
  | k + 1, x7, x16, x105, x150000, x150001, x152000, x152001, x152002 => if x105 = true then (if x7 = true then ((spec_l2Fields.f k x150000 x152001).bind fun t158 => ((spec_l6In.f x152002 0 (wrap64 ((t158.length : Int) - 1))).bind fun t161 => (some t161))) else (some false)) else (if x16 = 20 then ((spec_l6In.f x152001 0 (wrap64 ((x150001.length : Int) - 1))).bind fun t162 => (if t162 = true then (if x152002 = 0 then (if 0 ≤ x152001 then (if x152001 < (x150001.length : Int) then (some (((rd_T46 x150001 x152001).f0) == (-1))) else (none)) else (none)) else (some false)) else (some false))) else (if x16 = 21 then (if x7 = true then ((spec_l6In.f x152002 0 2).bind fun t164 => (some t164)) else (some false)) else (some false)))
end
def spec_l3Ins.f (k : Nat) (l0_0 : List (S76)) (l0_1 : List (S46)) (a1_0 : Int) (a1_1 : Int) (l1_2 : List Int) (a1_3 : Int) (a1_4 : Int) (l1_5 : List (S67)) (l1_6 : List (S70)) (l1_7 : List (S73)) (a2_0 : Int) (a2_1 : Int) (a2_2 : Int) : Option (Bool) := (spec_l6In.f a2_1 0 (wrap64 ((l0_0.length : Int) - 1))).bind fun t152 => (if a2_0 = 1 then ((spec_l1Word.f a2_1).bind fun t153 => (if t153 = true then (some (a2_2 == 0)) else (some false))) else (if a2_0 = 2 then (spec_l3Ins.j0 k t152 a2_0 (a2_0 == 2) l0_0 l0_1 a1_0 a1_1 l1_2 a1_3 a1_4 l1_5 l1_6 l1_7 a2_0 a2_1 a2_2) else (if a2_0 = 5 then (spec_l3Ins.j0 k t152 a2_0 (a2_0 == 5) l0_0 l0_1 a1_0 a1_1 l1_2 a1_3 a1_4 l1_5 l1_6 l1_7 a2_0 a2_1 a2_2) else (if a2_0 = 6 then (spec_l3Ins.j0 k t152 a2_0 (a2_0 == 6) l0_0 l0_1 a1_0 a1_1 l1_2 a1_3 a1_4 l1_5 l1_6 l1_7 a2_0 a2_1 a2_2) else (if a2_0 = 14 then (spec_l3Ins.j0 k t152 a2_0 (a2_0 == 14) l0_0 l0_1 a1_0 a1_1 l1_2 a1_3 a1_4 l1_5 l1_6 l1_7 a2_0 a2_1 a2_2) else (if a2_0 = 22 then (spec_l3Ins.j0 k t152 a2_0 (a2_0 == 22) l0_0 l0_1 a1_0 a1_1 l1_2 a1_3 a1_4 l1_5 l1_6 l1_7 a2_0 a2_1 a2_2) else (if a2_0 = 23 then (spec_l3Ins.j0 k t152 a2_0 (a2_0 == 23) l0_0 l0_1 a1_0 a1_1 l1_2 a1_3 a1_4 l1_5 l1_6 l1_7 a2_0 a2_1 a2_2) else (spec_l3Ins.j0 k t152 a2_0 (a2_0 == 24) l0_0 l0_1 a1_0 a1_1 l1_2 a1_3 a1_4 l1_5 l1_6 l1_7 a2_0 a2_1 a2_2))))))))
end Go.Proofs.Ytedodaifpekahaa.P

end
section

namespace Go.Proofs.Ytedodaifpekahaa.P
open Go.RowKit Go.Proofs.YtedodaifpekahaaW.PrintWords Go.Proofs.YtedodaifpekahaaW.PrintLast Go.Proofs.YtedodaifpekahaaW.PrintMore
attribute [local go_sem] max2_int min2_int max_two min_two max_three min_three max_four min_four
set_option linter.unusedVariables false
set_option linter.unusedSimpArgs false
def spec_TypeOk.f (k : Nat) (l0 : List (S76)) (a1 : Int) : Option (Bool) := (spec_ClassesOk.f k l0).bind fun t165 => (if t165 = true then (if a1 = 0 then (some true) else (if a1 = 2 then (some true) else ((spec_l2Field.f l0 a1).bind fun t166 => (some t166)))) else (some false))
end Go.Proofs.Ytedodaifpekahaa.P

end
section

namespace Go.Proofs.Ytedodaifpekahaa.P
open Go.RowKit Go.Proofs.YtedodaifpekahaaW.PrintWords Go.Proofs.YtedodaifpekahaaW.PrintLast Go.Proofs.YtedodaifpekahaaW.PrintMore
attribute [local go_sem] max2_int min2_int max_two min_two max_three min_three max_four min_four
set_option linter.unusedVariables false
set_option linter.unusedSimpArgs false
mutual
def spec_ShapeOk.j0 : Nat → List (S76) → Bool → Bool → List Int → List Int → Option (Bool)
  | 0, _, _, _, _, _ => none
  | k + 1, x0, x35, x168000, x168001, x168002 => if x35 = true then (some false) else (spec_ShapeOk.l0 k x0 0 x168000 x168001 x168002)
def spec_ShapeOk.l0 : Nat → List (S76) → Int → Bool → List Int → List Int → Option (Bool)
  | 0, _, _, _, _, _ => none
  | k + 1, x0, x7, x168000, x168001, x168002 => if x7 < (x168001.length : Int) then (if 0 ≤ x7 then ((spec_TypeOk.f k x0 (rd x168001 x7)).bind fun t170 => (if t170 = true then (spec_ShapeOk.l0 k x0 (wrap64 (x7 + 1)) x168000 x168001 x168002) else (some false))) else (none)) else (spec_ShapeOk.l1 k x0 0 x168000 x168001 x168002)
def spec_ShapeOk.l1 : Nat → List (S76) → Int → Bool → List Int → List Int → Option (Bool)
  | 0, _, _, _, _, _ => none
  | k + 1, x0, x8, x168000, x168001, x168002 => if x8 < (x168002.length : Int) then (if 0 ≤ x8 then ((spec_TypeOk.f k x0 (rd x168002 x8)).bind fun t172 => (if t172 = true then (if (rd x168002 x8) = 0 then (some false) else (spec_ShapeOk.l1 k x0 (wrap64 (x8 + 1)) x168000 x168001 x168002)) else (some false))) else (none)) else (some true)
end
def spec_ShapeOk.f (k : Nat) (l0 : List (S76)) (a1 : Int) (a2_0 : Bool) (l2_1 : List Int) (l2_2 : List Int) : Option (Bool) := (spec_ClassesOk.f k l0).bind fun t168 => (if t168 = true then (if a2_0 = true then (if (l2_1.length : Int) = a1 then (spec_ShapeOk.j0 k l0 (decide ((l2_2.length : Int) > 4)) a2_0 l2_1 l2_2) else (spec_ShapeOk.j0 k l0 true a2_0 l2_1 l2_2)) else (if (l2_1.length : Int) = 0 then (some ((l2_2.length : Int) == 0)) else (some false))) else (some false))
end Go.Proofs.Ytedodaifpekahaa.P

end
section

namespace Go.Proofs.Ytedodaifpekahaa.P
open Go.RowKit Go.Proofs.YtedodaifpekahaaW.PrintWords Go.Proofs.YtedodaifpekahaaW.PrintLast Go.Proofs.YtedodaifpekahaaW.PrintMore
attribute [local go_sem] max2_int min2_int max_two min_two max_three min_three max_four min_four
set_option linter.unusedVariables false
set_option linter.unusedSimpArgs false
def spec_l2Up.l0 : Nat → List (S76) → Int → Int → Option (Bool)
  | 0, _, _, _ => none
  | k + 1, x0, x1, x2 => if x1 > x2 then (if 0 ≤ x1 then (if x1 < (x0.length : Int) then (spec_l2Up.l0 k x0 ((rd_T76 x0 x1).f0) x2) else (none)) else (none)) else (some (x1 == x2))
def spec_l2Up.f (k : Nat) (l0 : List (S76)) (a1 : Int) (a2 : Int) : Option (Bool) := spec_l2Up.l0 k l0 a1 a2
end Go.Proofs.Ytedodaifpekahaa.P

end
section

namespace Go.Proofs.Ytedodaifpekahaa.P
open Go.RowKit Go.Proofs.YtedodaifpekahaaW.PrintWords Go.Proofs.YtedodaifpekahaaW.PrintLast Go.Proofs.YtedodaifpekahaaW.PrintMore
attribute [local go_sem] max2_int min2_int max_two min_two max_three min_three max_four min_four
set_option linter.unusedVariables false
set_option linter.unusedSimpArgs false
def spec_l3Catch.f (k : Nat) (l0_0 : List (S76)) (l0_1 : List (S46)) (a1_0 : Int) (a1_1 : Int) (l1_2 : List Int) (a1_3 : Int) (a1_4 : Int) (l1_5 : List (S67)) (l1_6 : List (S70)) (l1_7 : List (S73)) (a2_0 : Int) (a2_1 : Int) (a2_2 : Int) (a2_3 : Int) : Option (Bool) := (spec_l6In.f a2_0 0 (wrap64 ((l1_5.length : Int) - 1))).bind fun t178 => (if t178 = true then ((spec_l6In.f a2_1 (wrap64 (a2_0 + 1)) (l1_5.length : Int)).bind fun t179 => (if t179 = true then ((spec_l6In.f a2_2 0 (wrap64 ((l1_5.length : Int) - 1))).bind fun t180 => (if t180 = true then ((spec_l6In.f a2_3 0 (wrap64 ((l0_0.length : Int) - 1))).bind fun t181 => (if t181 = true then ((spec_l2Up.f k l0_0 a2_3 1).bind fun t182 => (some t182)) else (some false))) else (some false))) else (some false))) else (some false))
end Go.Proofs.Ytedodaifpekahaa.P

end
section

namespace Go.Proofs.Ytedodaifpekahaa.P
open Go.RowKit Go.Proofs.YtedodaifpekahaaW.PrintWords Go.Proofs.YtedodaifpekahaaW.PrintLast Go.Proofs.YtedodaifpekahaaW.PrintMore
attribute [local go_sem] max2_int min2_int max_two min_two max_three min_three max_four min_four
set_option linter.unusedVariables false
set_option linter.unusedSimpArgs false
mutual
def spec_l3Method.j0 : Nat → Bool → List (S76) → List (S46) → Int → Int → List Int → Int → Int → List (S67) → List (S70) → List (S73) → Option (Bool)
  | 0, _, _, _, _, _, _, _, _, _, _, _ => none
  | k + 1, x32, x184000, x184001, x185000, x185001, x185002, x185003, x185004, x185005, x185006, x185007 => if x32 = true then (some false) else (spec_l3Method.l0 k 0 x184000 x184001 x185000 x185001 x185002 x185003 x185004 x185005 x185006 x185007)
def spec_l3Method.l0 : Nat → Int → List (S76) → List (S46) → Int → Int → List Int → Int → Int → List (S67) → List (S70) → List (S73) → Option (Bool)
  | 0, _, _, _, _, _, _, _, _, _, _, _ => none
  | k + 1, x5, x184000, x184001, x185000, x185001, x185002, x185003, x185004, x185005, x185006, x185007 => if x5 < (x185005.length : Int) then (if 0 ≤ x5 then ((spec_l3Ins.f k x184000 x184001 x185000 x185001 x185002 x185003 x185004 x185005 x185006 x185007 ((rd_T67 x185005 x5).f0) ((rd_T67 x185005 x5).f1) ((rd_T67 x185005 x5).f2)).bind fun t188 => (if t188 = true then (if x5 < (x185006.length : Int) then ((spec_ShapeOk.f k x184000 x185004 ((rd_T70 x185006 x5).f0) ((rd_T70 x185006 x5).f1) ((rd_T70 x185006 x5).f2)).bind fun t190 => (if t190 = true then (spec_l3Method.l0 k (wrap64 (x5 + 1)) x184000 x184001 x185000 x185001 x185002 x185003 x185004 x185005 x185006 x185007) else (some false))) else (none)) else (some false))) else (none)) else (spec_l3Method.l1 k 0 x184000 x184001 x185000 x185001 x185002 x185003 x185004 x185005 x185006 x185007)
def spec_l3Method.l1 : Nat → Int → List (S76) → List (S46) → Int → Int → List Int → Int → Int → List (S67) → List (S70) → List (S73) → Option (Bool)
  | 0, _, _, _, _, _, _, _, _, _, _, _ => none
  | k + 1, x6, x184000, x184001, x185000, x185001, x185002, x185003, x185004, x185005, x185006, x185007 => if x6 < (x185007.length : Int) then (if 0 ≤ x6 then ((spec_l3Catch.f k x184000 x184001 x185000 x185001 x185002 x185003 x185004 x185005 x185006 x185007 ((rd_T73 x185007 x6).f0) ((rd_T73 x185007 x6).f1) ((rd_T73 x185007 x6).f2) ((rd_T73 x185007 x6).f3)).bind fun t192 => (if t192 = true then (spec_l3Method.l1 k (wrap64 (x6 + 1)) x184000 x184001 x185000 x185001 x185002 x185003 x185004 x185005 x185006 x185007) else (some false))) else (none)) else (some true)
end
def spec_l3Method.f (k : Nat) (l0_0 : List (S76)) (l0_1 : List (S46)) (a1_0 : Int) (a1_1 : Int) (l1_2 : List Int) (a1_3 : Int) (a1_4 : Int) (l1_5 : List (S67)) (l1_6 : List (S70)) (l1_7 : List (S73)) : Option (Bool) := (spec_l3Head.f k l0_0 l0_1 a1_0 a1_1 l1_2 a1_3 a1_4 l1_5 l1_6 l1_7).bind fun t185 => (if t185 = true then ((spec_l6In.f (l1_5.length : Int) 1 12).bind fun t186 => (if t186 = true then (if (l1_6.length : Int) = (l1_5.length : Int) then (spec_l3Method.j0 k (decide ((l1_7.length : Int) > 2)) l0_0 l0_1 a1_0 a1_1 l1_2 a1_3 a1_4 l1_5 l1_6 l1_7) else (spec_l3Method.j0 k true l0_0 l0_1 a1_0 a1_1 l1_2 a1_3 a1_4 l1_5 l1_6 l1_7)) else (spec_l3Method.j0 k true l0_0 l0_1 a1_0 a1_1 l1_2 a1_3 a1_4 l1_5 l1_6 l1_7))) else (spec_l3Method.j0 k true l0_0 l0_1 a1_0 a1_1 l1_2 a1_3 a1_4 l1_5 l1_6 l1_7))
end Go.Proofs.Ytedodaifpekahaa.P

end
section

namespace Go.Proofs.Ytedodaifpekahaa.P
open Go.RowKit Go.Proofs.YtedodaifpekahaaW.PrintWords Go.Proofs.YtedodaifpekahaaW.PrintLast Go.Proofs.YtedodaifpekahaaW.PrintMore
attribute [local go_sem] max2_int min2_int max_two min_two max_three min_three max_four min_four
set_option linter.unusedVariables false
set_option linter.unusedSimpArgs false
mutual
def spec_l3Same.j0 : Nat → Bool → Int → Int → List Int → Int → Int → List (S67) → List (S70) → List (S73) → Int → Int → List Int → Int → Int → List (S67) → List (S70) → List (S73) → Option (Bool)
  | 0, _, _, _, _, _, _, _, _, _, _, _, _, _, _, _, _, _ => none
  | k + 1, x19, x194000, x194001, x194002, x194003, x194004, x194005, x194006, x194007, x195000, x195001, x195002, x195003, x195004, x195005, x195006, x195007 => if x19 = true then (some false) else (spec_l3Same.l0 k 0 x194000 x194001 x194002 x194003 x194004 x194005 x194006 x194007 x195000 x195001 x195002 x195003 x195004 x195005 x195006 x195007)
def spec_l3Same.l0 : Nat → Int → Int → Int → List Int → Int → Int → List (S67) → List (S70) → List (S73) → Int → Int → List Int → Int → Int → List (S67) → List (S70) → List (S73) → Option (Bool)
  | 0, _, _, _, _, _, _, _, _, _, _, _, _, _, _, _, _, _ => none
  | k + 1, x5, x194000, x194001, x194002, x194003, x194004, x194005, x194006, x194007, x195000, x195001, x195002, x195003, x195004, x195005, x195006, x195007 => if x5 < (x194002.length : Int) then (if 0 ≤ x5 then (if x5 < (x195002.length : Int) then (if (rd x194002 x5) = (rd x195002 x5) then (spec_l3Same.l0 k (wrap64 (x5 + 1)) x194000 x194001 x194002 x194003 x194004 x194005 x194006 x194007 x195000 x195001 x195002 x195003 x195004 x195005 x195006 x195007) else (some false)) else (none)) else (none)) else (some true)
end
def spec_l3Same.f (k : Nat) (a0_0 : Int) (a0_1 : Int) (l0_2 : List Int) (a0_3 : Int) (a0_4 : Int) (l0_5 : List (S67)) (l0_6 : List (S70)) (l0_7 : List (S73)) (a1_0 : Int) (a1_1 : Int) (l1_2 : List Int) (a1_3 : Int) (a1_4 : Int) (l1_5 : List (S67)) (l1_6 : List (S70)) (l1_7 : List (S73)) : Option (Bool) := if a0_3 = a1_3 then (spec_l3Same.j0 k ((l0_2.length : Int) != (l1_2.length : Int)) a0_0 a0_1 l0_2 a0_3 a0_4 l0_5 l0_6 l0_7 a1_0 a1_1 l1_2 a1_3 a1_4 l1_5 l1_6 l1_7) else (spec_l3Same.j0 k true a0_0 a0_1 l0_2 a0_3 a0_4 l0_5 l0_6 l0_7 a1_0 a1_1 l1_2 a1_3 a1_4 l1_5 l1_6 l1_7)
end Go.Proofs.Ytedodaifpekahaa.P

end
section

namespace Go.Proofs.Ytedodaifpekahaa.P
open Go.RowKit Go.Proofs.YtedodaifpekahaaW.PrintWords Go.Proofs.YtedodaifpekahaaW.PrintLast Go.Proofs.YtedodaifpekahaaW.PrintMore
attribute [local go_sem] max2_int min2_int max_two min_two max_three min_three max_four min_four
set_option linter.unusedVariables false
set_option linter.unusedSimpArgs false
mutual
def spec_l3Apart.l0 : Nat → Int → List (S76) → List (S46) → Option (Bool)
  | 0, _, _, _ => none
  | k + 1, x3, x198000, x198001 => if x3 < (x198001.length : Int) then (spec_l3Apart.l1 k x3 0 x198000 x198001) else (some true)
def spec_l3Apart.l1 : Nat → Int → Int → List (S76) → List (S46) → Option (Bool)
  | 0, _, _, _, _ => none
  | k + 1, x3, x4, x198000, x198001 => if x4 < (x198001.length : Int) then (if 0 ≤ x3 then (if x3 < (x198001.length : Int) then (if 0 ≤ x4 then (if x3 = x4 then (spec_l3Apart.l1 k x3 (wrap64 (x4 + 1)) x198000 x198001) else (if ((rd_T46 x198001 x3).f0) ≥ 0 then (if ((rd_T46 x198001 x4).f0) ≥ 0 then (if ((rd_T46 x198001 x3).f1) = ((rd_T46 x198001 x4).f1) then ((spec_l2Up.f k x198000 ((rd_T46 x198001 x3).f0) ((rd_T46 x198001 x4).f0)).bind fun t202 => (if t202 = true then (if ((rd_T46 x198001 x3).f0) = ((rd_T46 x198001 x4).f0) then (some false) else ((spec_l3Same.f k ((rd_T46 x198001 x3).f0) ((rd_T46 x198001 x3).f1) ((rd_T46 x198001 x3).f2) ((rd_T46 x198001 x3).f3) ((rd_T46 x198001 x3).f4) ((rd_T46 x198001 x3).f5) ((rd_T46 x198001 x3).f6) ((rd_T46 x198001 x3).f7) ((rd_T46 x198001 x4).f0) ((rd_T46 x198001 x4).f1) ((rd_T46 x198001 x4).f2) ((rd_T46 x198001 x4).f3) ((rd_T46 x198001 x4).f4) ((rd_T46 x198001 x4).f5) ((rd_T46 x198001 x4).f6) ((rd_T46 x198001 x4).f7)).bind fun t203 => (if t203 = true then (spec_l3Apart.l1 k x3 (wrap64 (x4 + 1)) x198000 x198001) else (some false)))) else (spec_l3Apart.l1 k x3 (wrap64 (x4 + 1)) x198000 x198001))) else (spec_l3Apart.l1 k x3 (wrap64 (x4 + 1)) x198000 x198001)) else (spec_l3Apart.l1 k x3 (wrap64 (x4 + 1)) x198000 x198001)) else (spec_l3Apart.l1 k x3 (wrap64 (x4 + 1)) x198000 x198001))) else (none)) else (none)) else (none)) else (spec_l3Apart.l0 k (wrap64 (x3 + 1)) x198000 x198001)
end
def spec_l3Apart.f (k : Nat) (l0_0 : List (S76)) (l0_1 : List (S46)) : Option (Bool) := spec_l3Apart.l0 k 0 l0_0 l0_1
end Go.Proofs.Ytedodaifpekahaa.P

end
section

namespace Go.Proofs.Ytedodaifpekahaa.P
open Go.RowKit Go.Proofs.YtedodaifpekahaaW.PrintWords Go.Proofs.YtedodaifpekahaaW.PrintLast Go.Proofs.YtedodaifpekahaaW.PrintMore
attribute [local go_sem] max2_int min2_int max_two min_two max_three min_three max_four min_four
set_option linter.unusedVariables false
set_option linter.unusedSimpArgs false
mutual
def spec_UnitOk.j0 : Nat → Bool → List (S76) → List (S46) → Option (Bool)
  | 0, _, _, _ => none
  | k + 1, x14, x205000, x205001 => if x14 = true then (some false) else (if 0 < (x205001.length : Int) then (if ((rd_T46 x205001 0).f0) = (-1) then (if (((rd_T46 x205001 0).f2).length : Int) > 0 then (spec_UnitOk.j1 k true x205000 x205001) else (spec_UnitOk.j1 k (((rd_T46 x205001 0).f3) != 1) x205000 x205001)) else (spec_UnitOk.j1 k true x205000 x205001)) else (none))
def spec_UnitOk.j1 : Nat → Bool → List (S76) → List (S46) → Option (Bool)
  | 0, _, _, _ => none
  | k + 1, x37, x205000, x205001 => if x37 = true then (some false) else (spec_UnitOk.l0 k 0 x205000 x205001)
def spec_UnitOk.l0 : Nat → Int → List (S76) → List (S46) → Option (Bool)
  | 0, _, _, _ => none
  | k + 1, x3, x205000, x205001 => if x3 < (x205001.length : Int) then (if 0 ≤ x3 then ((spec_l3Method.f k x205000 x205001 ((rd_T46 x205001 x3).f0) ((rd_T46 x205001 x3).f1) ((rd_T46 x205001 x3).f2) ((rd_T46 x205001 x3).f3) ((rd_T46 x205001 x3).f4) ((rd_T46 x205001 x3).f5) ((rd_T46 x205001 x3).f6) ((rd_T46 x205001 x3).f7)).bind fun t211 => (if t211 = true then (spec_UnitOk.l0 k (wrap64 (x3 + 1)) x205000 x205001) else (some false))) else (none)) else ((spec_l3Apart.f k x205000 x205001).bind fun t212 => (some t212))
end
def spec_UnitOk.f (k : Nat) (l0_0 : List (S76)) (l0_1 : List (S46)) : Option (Bool) := (spec_ClassesOk.f k l0_0).bind fun t205 => (if t205 = true then ((spec_l6In.f (l0_1.length : Int) 1 4).bind fun t206 => (spec_UnitOk.j0 k (!t206) l0_0 l0_1)) else (spec_UnitOk.j0 k true l0_0 l0_1))
end Go.Proofs.Ytedodaifpekahaa.P

end
section

namespace Go.Proofs.Ytedodaifpekahaa.P
open Go.RowKit Go.Proofs.YtedodaifpekahaaW.PrintWords Go.Proofs.YtedodaifpekahaaW.PrintLast Go.Proofs.YtedodaifpekahaaW.PrintMore
attribute [local go_sem] max2_int min2_int max_two min_two max_three min_three max_four min_four
set_option linter.unusedVariables false
set_option linter.unusedSimpArgs false
def laws_toIntS.l0 : Nat → List Int → List Int → Int → Option (List Int)
  | 0, _, _, _ => none
  | k + 1, x0, x3, x4 => if x4 < (x0.length : Int) then (if 0 ≤ x4 then (if x4 < (x3.length : Int) then (laws_toIntS.l0 k x0 (x3.set (x4 : Int).toNat (rd x0 x4)) (wrap64 (x4 + 1))) else (none)) else (none)) else (some x3)
def laws_toIntS.f (k : Nat) (l0 : List Int) : Option (List Int) := if 0 ≤ (l0.length : Int) then (if ((l0.length : Int) : Int).toNat ≤ 35184372088832 then (laws_toIntS.l0 k l0 (List.replicate ((l0.length : Int) : Int).toNat 0) 0) else (none)) else (none)
end Go.Proofs.Ytedodaifpekahaa.P

end
section

namespace Go.Proofs.Ytedodaifpekahaa.P
open Go.RowKit Go.Proofs.YtedodaifpekahaaW.PrintWords Go.Proofs.YtedodaifpekahaaW.PrintLast Go.Proofs.YtedodaifpekahaaW.PrintMore
attribute [local go_sem] max2_int min2_int max_two min_two max_three min_three max_four min_four
set_option linter.unusedVariables false
set_option linter.unusedSimpArgs false
def laws_toClass.f (k : Nat) (a0_0 : Int) (l0_1 : List Int) : Option (Int × List Int) := (laws_toIntS.f k l0_1).bind fun t221 => (some (a0_0, t221))
end Go.Proofs.Ytedodaifpekahaa.P

end
section

namespace Go.Proofs.Ytedodaifpekahaa.P
open Go.RowKit Go.Proofs.YtedodaifpekahaaW.PrintWords Go.Proofs.YtedodaifpekahaaW.PrintLast Go.Proofs.YtedodaifpekahaaW.PrintMore
attribute [local go_sem] max2_int min2_int max_two min_two max_three min_three max_four min_four
set_option linter.unusedVariables false
set_option linter.unusedSimpArgs false
def laws_toClassS.l0 : Nat → List (S58) → List (S76) → Int → Option ((List (S76)))
  | 0, _, _, _ => none
  | k + 1, x0, x3, x4 => if x4 < (x0.length : Int) then (if 0 ≤ x4 then ((laws_toClass.f k ((rd_T58 x0 x4).f0) ((rd_T58 x0 x4).f1)).bind fun bt228 => (if x4 < (x3.length : Int) then (laws_toClassS.l0 k x0 (x3.set (x4 : Int).toNat (⟨bt228.1, bt228.2⟩ : S76)) (wrap64 (x4 + 1))) else (none))) else (none)) else (some x3)
def laws_toClassS.f (k : Nat) (l0 : List (S58)) : Option ((List (S76))) := if 0 ≤ (l0.length : Int) then (if ((l0.length : Int) : Int).toNat ≤ 8796093022208 then (laws_toClassS.l0 k l0 (List.replicate ((l0.length : Int) : Int).toNat z76) 0) else (none)) else (none)
end Go.Proofs.Ytedodaifpekahaa.P

end
section

namespace Go.Proofs.Ytedodaifpekahaa.P
open Go.RowKit Go.Proofs.YtedodaifpekahaaW.PrintWords Go.Proofs.YtedodaifpekahaaW.PrintLast Go.Proofs.YtedodaifpekahaaW.PrintMore
attribute [local go_sem] max2_int min2_int max_two min_two max_three min_three max_four min_four
set_option linter.unusedVariables false
set_option linter.unusedSimpArgs false
def laws_toIns.f (a0_0 : Int) (a0_1 : Int) (a0_2 : Int) : Option (Int × Int × Int) := some (a0_0, a0_1, a0_2)
end Go.Proofs.Ytedodaifpekahaa.P

end
section

namespace Go.Proofs.Ytedodaifpekahaa.P
open Go.RowKit Go.Proofs.YtedodaifpekahaaW.PrintWords Go.Proofs.YtedodaifpekahaaW.PrintLast Go.Proofs.YtedodaifpekahaaW.PrintMore
attribute [local go_sem] max2_int min2_int max_two min_two max_three min_three max_four min_four
set_option linter.unusedVariables false
set_option linter.unusedSimpArgs false
def laws_toInsS.l0 : Nat → List (S113) → List (S67) → Int → Option ((List (S67)))
  | 0, _, _, _ => none
  | k + 1, x0, x3, x4 => if x4 < (x0.length : Int) then (if 0 ≤ x4 then ((laws_toIns.f ((rd_T113 x0 x4).f0) ((rd_T113 x0 x4).f1) ((rd_T113 x0 x4).f2)).bind fun bt240 => (if x4 < (x3.length : Int) then (laws_toInsS.l0 k x0 (x3.set (x4 : Int).toNat (⟨bt240.1, bt240.2.1, bt240.2.2⟩ : S67)) (wrap64 (x4 + 1))) else (none))) else (none)) else (some x3)
def laws_toInsS.f (k : Nat) (l0 : List (S113)) : Option ((List (S67))) := if 0 ≤ (l0.length : Int) then (if ((l0.length : Int) : Int).toNat ≤ 11728124029610 then (laws_toInsS.l0 k l0 (List.replicate ((l0.length : Int) : Int).toNat z67) 0) else (none)) else (none)
end Go.Proofs.Ytedodaifpekahaa.P

end
section

namespace Go.Proofs.Ytedodaifpekahaa.P
open Go.RowKit Go.Proofs.YtedodaifpekahaaW.PrintWords Go.Proofs.YtedodaifpekahaaW.PrintLast Go.Proofs.YtedodaifpekahaaW.PrintMore
attribute [local go_sem] max2_int min2_int max_two min_two max_three min_three max_four min_four
set_option linter.unusedVariables false
set_option linter.unusedSimpArgs false
def laws_toShape.f (k : Nat) (a0_0 : Bool) (l0_1 : List Int) (l0_2 : List Int) : Option (Bool × List Int × List Int) := (laws_toIntS.f k l0_1).bind fun t247 => ((laws_toIntS.f k l0_2).bind fun t250 => (some (a0_0, t247, t250)))
end Go.Proofs.Ytedodaifpekahaa.P

end
section

namespace Go.Proofs.Ytedodaifpekahaa.P
open Go.RowKit Go.Proofs.YtedodaifpekahaaW.PrintWords Go.Proofs.YtedodaifpekahaaW.PrintLast Go.Proofs.YtedodaifpekahaaW.PrintMore
attribute [local go_sem] max2_int min2_int max_two min_two max_three min_three max_four min_four
set_option linter.unusedVariables false
set_option linter.unusedSimpArgs false
def laws_toShapeS.l0 : Nat → List (S111) → List (S70) → Int → Option ((List (S70)))
  | 0, _, _, _ => none
  | k + 1, x0, x3, x4 => if x4 < (x0.length : Int) then (if 0 ≤ x4 then ((laws_toShape.f k ((rd_T111 x0 x4).f0) ((rd_T111 x0 x4).f1) ((rd_T111 x0 x4).f2)).bind fun bt257 => (if x4 < (x3.length : Int) then (laws_toShapeS.l0 k x0 (x3.set (x4 : Int).toNat (⟨bt257.1, bt257.2.1, bt257.2.2⟩ : S70)) (wrap64 (x4 + 1))) else (none))) else (none)) else (some x3)
def laws_toShapeS.f (k : Nat) (l0 : List (S111)) : Option ((List (S70))) := if 0 ≤ (l0.length : Int) then (if ((l0.length : Int) : Int).toNat ≤ 5026338869833 then (laws_toShapeS.l0 k l0 (List.replicate ((l0.length : Int) : Int).toNat z70) 0) else (none)) else (none)
end Go.Proofs.Ytedodaifpekahaa.P

end
section

namespace Go.Proofs.Ytedodaifpekahaa.P
open Go.RowKit Go.Proofs.YtedodaifpekahaaW.PrintWords Go.Proofs.YtedodaifpekahaaW.PrintLast Go.Proofs.YtedodaifpekahaaW.PrintMore
attribute [local go_sem] max2_int min2_int max_two min_two max_three min_three max_four min_four
set_option linter.unusedVariables false
set_option linter.unusedSimpArgs false
def laws_toCatch.f (a0_0 : Int) (a0_1 : Int) (a0_2 : Int) (a0_3 : Int) : Option (Int × Int × Int × Int) := some (a0_0, a0_1, a0_2, a0_3)
end Go.Proofs.Ytedodaifpekahaa.P

end
section

namespace Go.Proofs.Ytedodaifpekahaa.P
open Go.RowKit Go.Proofs.YtedodaifpekahaaW.PrintWords Go.Proofs.YtedodaifpekahaaW.PrintLast Go.Proofs.YtedodaifpekahaaW.PrintMore
attribute [local go_sem] max2_int min2_int max_two min_two max_three min_three max_four min_four
set_option linter.unusedVariables false
set_option linter.unusedSimpArgs false
def laws_toCatchS.l0 : Nat → List (S116) → List (S73) → Int → Option ((List (S73)))
  | 0, _, _, _ => none
  | k + 1, x0, x3, x4 => if x4 < (x0.length : Int) then (if 0 ≤ x4 then ((laws_toCatch.f ((rd_T116 x0 x4).f0) ((rd_T116 x0 x4).f1) ((rd_T116 x0 x4).f2) ((rd_T116 x0 x4).f3)).bind fun bt272 => (if x4 < (x3.length : Int) then (laws_toCatchS.l0 k x0 (x3.set (x4 : Int).toNat (⟨bt272.1, bt272.2.1, bt272.2.2.1, bt272.2.2.2⟩ : S73)) (wrap64 (x4 + 1))) else (none))) else (none)) else (some x3)
def laws_toCatchS.f (k : Nat) (l0 : List (S116)) : Option ((List (S73))) := if 0 ≤ (l0.length : Int) then (if ((l0.length : Int) : Int).toNat ≤ 8796093022208 then (laws_toCatchS.l0 k l0 (List.replicate ((l0.length : Int) : Int).toNat z73) 0) else (none)) else (none)
end Go.Proofs.Ytedodaifpekahaa.P

end
section

namespace Go.Proofs.Ytedodaifpekahaa.P
open Go.RowKit Go.Proofs.YtedodaifpekahaaW.PrintWords Go.Proofs.YtedodaifpekahaaW.PrintLast Go.Proofs.YtedodaifpekahaaW.PrintMore
attribute [local go_sem] max2_int min2_int max_two min_two max_three min_three max_four min_four
set_option linter.unusedVariables false
set_option linter.unusedSimpArgs false
def laws_toMethod.f (k : Nat) (a0_0 : Int) (a0_1 : Int) (l0_2 : List Int) (a0_3 : Int) (a0_4 : Int) (l0_5 : List (S113)) (l0_6 : List (S111)) (l0_7 : List (S116)) : Option (Int × Int × List Int × Int × Int × (List (S67)) × (List (S70)) × (List (S73))) := (laws_toIntS.f k l0_2).bind fun t280 => ((laws_toInsS.f k l0_5).bind fun t283 => ((laws_toShapeS.f k l0_6).bind fun t286 => ((laws_toCatchS.f k l0_7).bind fun t289 => (some (a0_0, a0_1, t280, a0_3, a0_4, t283, t286, t289)))))
end Go.Proofs.Ytedodaifpekahaa.P

end
section

namespace Go.Proofs.Ytedodaifpekahaa.P
open Go.RowKit Go.Proofs.YtedodaifpekahaaW.PrintWords Go.Proofs.YtedodaifpekahaaW.PrintLast Go.Proofs.YtedodaifpekahaaW.PrintMore
attribute [local go_sem] max2_int min2_int max_two min_two max_three min_three max_four min_four
set_option linter.unusedVariables false
set_option linter.unusedSimpArgs false
def laws_toMethodS.l0 : Nat → List (S64) → List (S46) → Int → Option ((List (S46)))
  | 0, _, _, _ => none
  | k + 1, x0, x3, x4 => if x4 < (x0.length : Int) then (if 0 ≤ x4 then ((laws_toMethod.f k ((rd_T64 x0 x4).f0) ((rd_T64 x0 x4).f1) ((rd_T64 x0 x4).f2) ((rd_T64 x0 x4).f3) ((rd_T64 x0 x4).f4) ((rd_T64 x0 x4).f5) ((rd_T64 x0 x4).f6) ((rd_T64 x0 x4).f7)).bind fun bt296 => (if x4 < (x3.length : Int) then (laws_toMethodS.l0 k x0 (x3.set (x4 : Int).toNat (⟨bt296.1, bt296.2.1, bt296.2.2.1, bt296.2.2.2.1, bt296.2.2.2.2.1, bt296.2.2.2.2.2.1, bt296.2.2.2.2.2.2.1, bt296.2.2.2.2.2.2.2⟩ : S46)) (wrap64 (x4 + 1))) else (none))) else (none)) else (some x3)
def laws_toMethodS.f (k : Nat) (l0 : List (S64)) : Option ((List (S46))) := if 0 ≤ (l0.length : Int) then (if ((l0.length : Int) : Int).toNat ≤ 2199023255552 then (laws_toMethodS.l0 k l0 (List.replicate ((l0.length : Int) : Int).toNat z46) 0) else (none)) else (none)
end Go.Proofs.Ytedodaifpekahaa.P

end
section

namespace Go.Proofs.Ytedodaifpekahaa.P
open Go.RowKit Go.Proofs.YtedodaifpekahaaW.PrintWords Go.Proofs.YtedodaifpekahaaW.PrintLast Go.Proofs.YtedodaifpekahaaW.PrintMore
attribute [local go_sem] max2_int min2_int max_two min_two max_three min_three max_four min_four
set_option linter.unusedVariables false
set_option linter.unusedSimpArgs false
def laws_toUnit.f (k : Nat) (l0_0 : List (S58)) (l0_1 : List (S64)) : Option ((List (S76)) × (List (S46))) := (laws_toClassS.f k l0_0).bind fun t316 => ((laws_toMethodS.f k l0_1).bind fun t319 => (some (t316, t319)))
end Go.Proofs.Ytedodaifpekahaa.P

end
section

namespace Go.Proofs.Ytedodaifpekahaa.P
open Go Go.RowKit Go.Proofs.YtedodaifpekahaaW.PrintWords
def kindW (r : Int) : Value :=
  if r = -1 then .nilIface else if r = 0 then .iface 117 (.agg #[]) else if r = 1 then .iface 102 (.agg #[]) else if r = 2 then .iface 118 (.agg #[])
  else if r = 3 then .iface 104 (.agg #[.bool false]) else if r = 4 then .iface 104 (.agg #[.bool true]) else .iface 106 (.agg #[.int .i64 (r - 8)])
def impl_kindOf.f (c t : Int) : Option Int :=
  if 0 ≤ c ∧ c ≤ 1000000000 ∧ -9223372036854775808 ≤ t ∧ t ≤ 9223372036854775807 then
    (if t = 0 then some 0 else if t = 1 then some 1 else if t = 2 then some 2 else if t = 3 then some 3 else if t = 4 then some 4 else if 8 ≤ t ∧ t < 8 + c then some t else some (-1)) else none
def impl_fieldType.f (c t : Int) : Option Bool := (impl_kindOf.f c t).bind fun r => some (decide (r = 1 ∨ r = 3 ∨ r = 4 ∨ 8 ≤ r))
end Go.Proofs.Ytedodaifpekahaa.P

end
section

namespace Go.Proofs.Ytedodaifpekahaa.P
open Go.RowKit Go.Proofs.YtedodaifpekahaaW.PrintWords Go.Proofs.YtedodaifpekahaaW.PrintLast Go.Proofs.YtedodaifpekahaaW.PrintMore
attribute [local go_sem] max2_int min2_int max_two min_two max_three min_three max_four min_four
set_option linter.unusedVariables false
set_option linter.unusedSimpArgs false
mutual
def impl_ClassesOk.j0 : Nat → List (S76) → Bool → Option (Bool)
  | 0, _, _ => none
  | k + 1, x0, x15 => if x15 = true then (some false) else (if 0 < (x0.length : Int) then (if ((rd_T76 x0 0).f0) = (-1) then (impl_ClassesOk.j1 k x0 ((((rd_T76 x0 0).f1).length : Int) != 0)) else (impl_ClassesOk.j1 k x0 true)) else (none))
def impl_ClassesOk.j1 : Nat → List (S76) → Bool → Option (Bool)
  | 0, _, _ => none
  | k + 1, x0, x28 => if x28 = true then (some false) else (if 1 < (x0.length : Int) then (if ((rd_T76 x0 1).f0) = 0 then (if (((rd_T76 x0 1).f1).length : Int) = 1 then (if 0 < (((rd_T76 x0 1).f1).length : Int) then (impl_ClassesOk.j2 k x0 ((rd ((rd_T76 x0 1).f1) 0) != 1)) else (none)) else (impl_ClassesOk.j2 k x0 true)) else (impl_ClassesOk.j2 k x0 true)) else (none))
def impl_ClassesOk.j2 : Nat → List (S76) → Bool → Option (Bool)
  | 0, _, _ => none
  | k + 1, x0, x47 => if x47 = true then (some false) else (impl_ClassesOk.l0 k x0 x0 (x0.length : Int) 0)
def impl_ClassesOk.l0 : Nat → List (S76) → List (S76) → Int → Int → Option (Bool)
  | 0, _, _, _, _ => none
  | k + 1, x0, x48, x49, x50 => if x50 < x49 then (if 0 ≤ x50 then (if x50 < (x48.length : Int) then (if x50 > 1 then (if ((rd_T76 x48 x50).f0) < 0 then (impl_ClassesOk.j4 k x0 x48 x49 x50 true ((rd_T76 x48 x50).f0) ((rd_T76 x48 x50).f1)) else (impl_ClassesOk.j4 k x0 x48 x49 x50 (decide (((rd_T76 x48 x50).f0) ≥ x50)) ((rd_T76 x48 x50).f0) ((rd_T76 x48 x50).f1))) else (impl_ClassesOk.j4 k x0 x48 x49 x50 false ((rd_T76 x48 x50).f0) ((rd_T76 x48 x50).f1))) else (none)) else (none)) else (some true)
def impl_ClassesOk.j4 : Nat → List (S76) → List (S76) → Int → Int → Bool → Int → List Int → Option (Bool)
  | 0, _, _, _, _, _, _, _ => none
  | k + 1, x0, x48, x49, x50, x67, x329000, x329001 => if x67 = true then (some false) else (if (x329001.length : Int) > 2 then (some false) else (impl_ClassesOk.l1 k x0 x48 x49 x50 x329001 (x329001.length : Int) 0))
def impl_ClassesOk.l1 : Nat → List (S76) → List (S76) → Int → Int → List Int → Int → Int → Option (Bool)
  | 0, _, _, _, _, _, _, _ => none
  | k + 1, x0, x48, x49, x50, x73, x74, x75 => if x75 < x74 then (if 0 ≤ x75 then (if x75 < (x73.length : Int) then ((impl_fieldType.f (x0.length : Int) (rd x73 x75)).bind fun t330 => (if t330 = true then (impl_ClassesOk.l1 k x0 x48 x49 x50 x73 x74 (wrap64 (x75 + 1))) else (some false))) else (none)) else (none)) else (impl_ClassesOk.l0 k x0 x48 x49 (wrap64 (x50 + 1)))
end
def impl_ClassesOk.f (k : Nat) (l0 : List (S76)) : Option (Bool) := if (l0.length : Int) < 2 then (impl_ClassesOk.j0 k l0 true) else (impl_ClassesOk.j0 k l0 (decide ((l0.length : Int) > 5)))
end Go.Proofs.Ytedodaifpekahaa.P

end
section

namespace Go.Proofs.Ytedodaifpekahaa.P
open Go.RowKit Go.Proofs.YtedodaifpekahaaW.PrintWords Go.Proofs.YtedodaifpekahaaW.PrintLast Go.Proofs.YtedodaifpekahaaW.PrintMore
attribute [local go_sem] max2_int min2_int max_two min_two max_three min_three max_four min_four
set_option linter.unusedVariables false
set_option linter.unusedSimpArgs false
def impl_isClass.f (l0 : List (S76)) (a1 : Int) : Option (Bool) := if a1 ≥ 0 then (some (decide (a1 < (l0.length : Int)))) else (some false)
end Go.Proofs.Ytedodaifpekahaa.P

end
section

namespace Go.Proofs.Ytedodaifpekahaa.P
open Go.RowKit Go.Proofs.YtedodaifpekahaaW.PrintWords Go.Proofs.YtedodaifpekahaaW.PrintLast Go.Proofs.YtedodaifpekahaaW.PrintMore
attribute [local go_sem] max2_int min2_int max_two min_two max_three min_three max_four min_four
set_option linter.unusedVariables false
set_option linter.unusedSimpArgs false
def impl_given.f (a0_0 : Int) (a0_1 : Int) (l0_2 : List Int) (a0_3 : Int) (a0_4 : Int) (l0_5 : List (S67)) (l0_6 : List (S70)) (l0_7 : List (S73)) : Option (List Int) := if a0_0 ≥ 0 then (if ([] : List Int).length < 17592186044416 then ((some (([] : List Int) ++ [wrap64 (8 + a0_0)] : List Int)).bind fun y332 => (if y332.length + l0_2.length < 17592186044416 then (some (y332 ++ l0_2)) else (none))) else (none)) else (if ([] : List Int).length + l0_2.length < 17592186044416 then (some (([] : List Int) ++ l0_2)) else (none))
end Go.Proofs.Ytedodaifpekahaa.P

end
section

namespace Go.Proofs.Ytedodaifpekahaa.P
open Go.RowKit Go.Proofs.YtedodaifpekahaaW.PrintWords Go.Proofs.YtedodaifpekahaaW.PrintLast Go.Proofs.YtedodaifpekahaaW.PrintMore
attribute [local go_sem] max2_int min2_int max_two min_two max_three min_three max_four min_four
set_option linter.unusedVariables false
set_option linter.unusedSimpArgs false
mutual
def impl_headOk.j0 : Nat → List (S76) → List (S46) → Int → Int → List Int → Int → Int → List (S67) → List (S70) → List (S73) → Option (Bool)
  | 0, _, _, _, _, _, _, _, _, _, _ => none
  | k + 1, x342000, x342001, x343000, x343001, x343002, x343003, x343004, x343005, x343006, x343007 => if (x343002.length : Int) > 2 then (impl_headOk.j1 k true x342000 x342001 x343000 x343001 x343002 x343003 x343004 x343005 x343006 x343007) else ((impl_fieldType.f (x342000.length : Int) x343003).bind fun t344 => (impl_headOk.j1 k (!t344) x342000 x342001 x343000 x343001 x343002 x343003 x343004 x343005 x343006 x343007))
def impl_headOk.j1 : Nat → Bool → List (S76) → List (S46) → Int → Int → List Int → Int → Int → List (S67) → List (S70) → List (S73) → Option (Bool)
  | 0, _, _, _, _, _, _, _, _, _, _, _ => none
  | k + 1, x46, x342000, x342001, x343000, x343001, x343002, x343003, x343004, x343005, x343006, x343007 => if x46 = true then (some false) else (impl_headOk.l0 k x343002 (x343002.length : Int) 0 x342000 x342001 x343000 x343001 x343002 x343003 x343004 x343005 x343006 x343007)
def impl_headOk.l0 : Nat → List Int → Int → Int → List (S76) → List (S46) → Int → Int → List Int → Int → Int → List (S67) → List (S70) → List (S73) → Option (Bool)
  | 0, _, _, _, _, _, _, _, _, _, _, _, _, _ => none
  | k + 1, x48, x49, x50, x342000, x342001, x343000, x343001, x343002, x343003, x343004, x343005, x343006, x343007 => if x50 < x49 then (if 0 ≤ x50 then (if x50 < (x48.length : Int) then ((impl_fieldType.f (x342000.length : Int) (rd x48 x50)).bind fun t346 => (if t346 = true then (impl_headOk.l0 k x48 x49 (wrap64 (x50 + 1)) x342000 x342001 x343000 x343001 x343002 x343003 x343004 x343005 x343006 x343007) else (some false))) else (none)) else (none)) else (if x343004 ≤ 3 then ((impl_given.f x343000 x343001 x343002 x343003 x343004 x343005 x343006 x343007).bind fun t347 => (some (decide (x343004 ≥ (t347.length : Int))))) else (some false))
end
def impl_headOk.f (k : Nat) (l0_0 : List (S76)) (l0_1 : List (S46)) (a1_0 : Int) (a1_1 : Int) (l1_2 : List Int) (a1_3 : Int) (a1_4 : Int) (l1_5 : List (S67)) (l1_6 : List (S70)) (l1_7 : List (S73)) : Option (Bool) := if a1_0 = (-1) then (if a1_1 = 0 then (impl_headOk.j0 k l0_0 l0_1 a1_0 a1_1 l1_2 a1_3 a1_4 l1_5 l1_6 l1_7) else (some false)) else (if a1_0 = 0 then (some false) else ((impl_isClass.f l0_0 a1_0).bind fun t343 => (if t343 = true then (if a1_1 < 0 then (some false) else (if a1_1 ≥ 3 then (some false) else (impl_headOk.j0 k l0_0 l0_1 a1_0 a1_1 l1_2 a1_3 a1_4 l1_5 l1_6 l1_7))) else (some false))))
end Go.Proofs.Ytedodaifpekahaa.P

end
section

namespace Go.Proofs.Ytedodaifpekahaa.P
open Go.RowKit Go.Proofs.YtedodaifpekahaaW.PrintWords Go.Proofs.YtedodaifpekahaaW.PrintLast Go.Proofs.YtedodaifpekahaaW.PrintMore
attribute [local go_sem] max2_int min2_int max_two min_two max_three min_three max_four min_four
set_option linter.unusedVariables false
set_option linter.unusedSimpArgs false
def impl_isWord.f (a0 : Int) : Option (Bool) := if a0 ≥ (-128) then (some (decide (a0 ≤ 127))) else (some false)
end Go.Proofs.Ytedodaifpekahaa.P

end
section

namespace Go.Proofs.Ytedodaifpekahaa.P
open Go.RowKit Go.Proofs.YtedodaifpekahaaW.PrintWords Go.Proofs.YtedodaifpekahaaW.PrintLast Go.Proofs.YtedodaifpekahaaW.PrintMore
attribute [local go_sem] max2_int min2_int max_two min_two max_three min_three max_four min_four
set_option linter.unusedVariables false
set_option linter.unusedSimpArgs false
def impl_classFields.f : Nat → List (S76) → Int → Option (List Int)
  | 0, _, _ => none
  | k + 1, l0, a1 => if a1 = 0 then (some ([] : List Int)) else (if 0 ≤ a1 then (if a1 < (l0.length : Int) then ((impl_classFields.f k l0 ((rd_T76 l0 a1).f0)).bind fun t351 => (if t351.length + ((rd_T76 l0 a1).f1).length < 17592186044416 then (some (t351 ++ ((rd_T76 l0 a1).f1))) else (none))) else (none)) else (none))
end Go.Proofs.Ytedodaifpekahaa.P

end
section

namespace Go.Proofs.Ytedodaifpekahaa.P
open Go.RowKit Go.Proofs.YtedodaifpekahaaW.PrintWords Go.Proofs.YtedodaifpekahaaW.PrintLast Go.Proofs.YtedodaifpekahaaW.PrintMore
attribute [local go_sem] max2_int min2_int max_two min_two max_three min_three max_four min_four
set_option linter.unusedVariables false
set_option linter.unusedSimpArgs false
def impl_operandOk.f (k : Nat) (l0_0 : List (S76)) (l0_1 : List (S46)) (a1_0 : Int) (a1_1 : Int) (l1_2 : List Int) (a1_3 : Int) (a1_4 : Int) (l1_5 : List (S67)) (l1_6 : List (S70)) (l1_7 : List (S73)) (a2_0 : Int) (a2_1 : Int) (a2_2 : Int) (a3 : Int) (a4 : Int) : Option (Bool) := if a3 = 1 then ((impl_isWord.f a4).bind fun t361 => (some t361)) else (if a3 = 2 then (if a4 ≥ 0 then (some (decide (a4 < a1_4))) else (some false)) else (if a3 = 3 then (if a4 ≥ 1 then (some (decide (a4 ≤ 4))) else (some false)) else (if a3 = 4 then (if a4 ≥ 0 then (some (decide (a4 < (l1_5.length : Int)))) else (some false)) else (if a3 = 5 then ((impl_isClass.f l0_0 a4).bind fun t362 => (some t362)) else (if a3 = 6 then (if a4 = 0 then (some true) else (some (a4 == 1))) else (if a3 = 7 then (if a4 ≥ 0 then (if a4 < (l0_1.length : Int) then (if 0 ≤ a4 then (some (((rd_T46 l0_1 a4).f0) == (-1))) else (none)) else (some false)) else (some false)) else (if a3 = 8 then (if a4 ≥ 0 then ((impl_classFields.f k l0_0 a2_1).bind fun t364 => (some (decide (a4 < (t364.length : Int))))) else (some false)) else (if a3 = 9 then (if a4 ≥ 0 then (some (decide (a4 < 3))) else (some false)) else (some (a4 == 0))))))))))
end Go.Proofs.Ytedodaifpekahaa.P

end
section

namespace Go.Proofs.Ytedodaifpekahaa.P
open Go.RowKit Go.Proofs.YtedodaifpekahaaW.PrintWords Go.Proofs.YtedodaifpekahaaW.PrintLast Go.Proofs.YtedodaifpekahaaW.PrintMore
attribute [local go_sem] max2_int min2_int max_two min_two max_three min_three max_four min_four
set_option linter.unusedVariables false
set_option linter.unusedSimpArgs false
mutual
def impl_shapeOk.j0 : Nat → List (S76) → Bool → Bool → List Int → List Int → Option (Bool)
  | 0, _, _, _, _, _ => none
  | k + 1, x0, x34, x368000, x368001, x368002 => if x34 = true then (some false) else (impl_shapeOk.l0 k x0 x368001 (x368001.length : Int) 0 x368000 x368001 x368002)
def impl_shapeOk.l0 : Nat → List (S76) → List Int → Int → Int → Bool → List Int → List Int → Option (Bool)
  | 0, _, _, _, _, _, _, _ => none
  | k + 1, x0, x36, x37, x38, x368000, x368001, x368002 => if x38 < x37 then (if 0 ≤ x38 then (if x38 < (x36.length : Int) then ((impl_kindOf.f (x0.length : Int) (rd x36 x38)).bind fun t369 => (if t369 = (-1) then (some false) else (impl_shapeOk.l0 k x0 x36 x37 (wrap64 (x38 + 1)) x368000 x368001 x368002))) else (none)) else (none)) else (impl_shapeOk.l1 k x0 x368002 (x368002.length : Int) 0)
def impl_shapeOk.l1 : Nat → List (S76) → List Int → Int → Int → Option (Bool)
  | 0, _, _, _, _ => none
  | k + 1, x0, x49, x50, x51 => if x51 < x50 then (if 0 ≤ x51 then (if x51 < (x49.length : Int) then (if (rd x49 x51) = 0 then (some false) else ((impl_kindOf.f (x0.length : Int) (rd x49 x51)).bind fun t371 => (if t371 = (-1) then (some false) else (impl_shapeOk.l1 k x0 x49 x50 (wrap64 (x51 + 1)))))) else (none)) else (none)) else (some true)
end
def impl_shapeOk.f (k : Nat) (l0 : List (S76)) (a1 : Int) (a2_0 : Bool) (l2_1 : List Int) (l2_2 : List Int) : Option (Bool) := if a2_0 = true then (if (l2_1.length : Int) = a1 then (impl_shapeOk.j0 k l0 (decide ((l2_2.length : Int) > 4)) a2_0 l2_1 l2_2) else (impl_shapeOk.j0 k l0 true a2_0 l2_1 l2_2)) else (if (l2_1.length : Int) = 0 then (some ((l2_2.length : Int) == 0)) else (some false))
end Go.Proofs.Ytedodaifpekahaa.P

end
section

namespace Go.Proofs.Ytedodaifpekahaa.P
open Go Go.RowKit Go.Proofs.YtedodaifpekahaaW.PrintWords Go.Proofs.YtedodaifpekahaaW.PrintLast Go.Proofs.YtedodaifpekahaaW.PrintMore
set_option linter.unusedVariables false
set_option linter.unusedSimpArgs false
def wantL : List (Int × Int × Int) := [(1, 1, 0), (2, 0, 0), (3, 2, 0), (4, 2, 0), (5, 0, 0), (6, 0, 0), (7, 3, 0), (8, 4, 0), (9, 4, 0), (10, 4, 0), (11, 4, 0), (12, 5, 0), (13, 6, 0), (14, 0, 0), (15, 6, 0), (16, 6, 0), (17, 5, 8), (18, 5, 8), (19, 5, 0), (20, 7, 0), (21, 5, 9), (22, 0, 0), (23, 0, 0), (24, 0, 0)]
def wantFind (n : Int) : List (Int × Int × Int) → Option (Int × Int)
  | [] => none
  | e :: l => if n = e.1 then some e.2 else wantFind n l
def impl_wantOf.f (n : Int) : Option (Int × Int × Bool) := some (match wantFind n wantL with | some p => (p.1, p.2, true) | none => (0, 0, false))
def wantE (e : Int × Int × Int) (i : Nat) : MapEntry := { key := .int .i64 e.1, val := .agg #[.int .i64 e.2.1, .int .i64 e.2.2], born := i }
def wantEnts : List (Int × Int × Int) → Nat → List MapEntry
  | [], _ => []
  | e :: l, i => wantE e i :: wantEnts l (i + 1)
def wantsAt (m : Nat) : Obj := .map (wantEnts (wantL.take m) 0).toArray m
def wantsO : Obj := wantsAt 24
theorem obj_far {w : World} {g : Nat} {o : Obj} (h : w.heap[g]? = some o) {p : Addr} (hp : g ≠ p.block) (u : Value) : (w.setCell p u).heap[g]? = some o := (Below.heap_setCell w p u g hp).trans h
theorem findNow_want (n : Int) : ∀ (l : List (Int × Int × Int)) (i m : Nat), ∃ j, Instr.findNow (.int .i64) (.int .i64 n) (wantEnts l i) m = some (match wantFind n l with | some p => some (j, .agg #[.int .i64 p.1, .int .i64 p.2]) | none => none)
  | [], _, _ => ⟨0, rfl⟩
  | e :: l, i, m => by
    by_cases h : n = e.1
    · refine ⟨m, ?_⟩
      subst h
      simp [wantEnts, wantE, wantFind, Instr.findNow, Instr.sameNow]
    · obtain ⟨j, hj⟩ := findNow_want n l (i + 1) (m + 1)
      refine ⟨j, ?_⟩
      have hb : (n == e.1) = false := by simpa using h
      simp only [wantEnts, wantE, wantFind, Instr.findNow, Instr.sameNow, if_true, hb, if_neg h]
      exact hj
section
variable {ops : Array Oper} {rest : List Oper} {o : Oper} {a : Act} {Q : Exit → Act → World → Prop} {W : World}
theorem want_event {gM : Nat} {n t1 t2 : Int} {t3 : Bool} {x i : Operand} (hgd : o.guard = none) (hop : o.op = .lookup 50 x i true) (hx : a.eval x = .map (some gM)) (hi : a.eval i = .int .i64 n) (hm : W.heap[gM]? = some wantsO) (hf : impl_wantOf.f n = some (t1, t2, t3))
    (h : wpList Try.prog ops Q rest (a.put o.dst (.tuple #[.agg #[.int .i64 t1, .int .i64 t2], .bool t3])) W) : wpList Try.prog ops Q (o :: rest) a W := by
  refine Kd.event_run hgd ?_ h
  have hE : wantsO = .map (wantEnts wantL 0).toArray 24 := rfl
  rw [hE] at hm
  obtain ⟨j, hj⟩ := findNow_want n wantL 0 0
  have hz : (zeroValue 82).run Try.prog W = .ok (.agg #[.int .i64 0, .int .i64 0]) W := by kernel_rfl
  have hk : MapKept.IsKey (.int .i64) (.int .i64 n) := by simp [MapKept.IsKey]
  have hu := Try.underlying50
  have hu3 := Try.underlying3
  have hl : (Instr.lookup 50 (.map (some gM)) (.int .i64 n) true).run Try.prog W = .ok (.tuple #[.agg #[.int .i64 t1, .int .i64 t2], .bool t3]) W := by
    unfold impl_wantOf.f at hf
    simp only [Instr.lookup, Sem.run_bind, run_underlying hu, Result.andThen, MapKept.run_getObj_map hm, Sem.run_pure]
    rw [MapKept.run_checkKey hu3 hk]
    simp only [Result.andThen, Sem.run_bind]
    rw [MapKept.run_findKey hu3 hj]
    cases hw : wantFind n wantL with
    | some p =>
      rw [hw] at hf
      simp only [Option.some.injEq, Prod.mk.injEq] at hf
      obtain ⟨rfl, rfl, rfl⟩ := hf
      rfl
    | none =>
      rw [hw] at hf
      simp only [Option.some.injEq, Prod.mk.injEq] at hf
      obtain ⟨rfl, rfl, rfl⟩ := hf
      simp only [Result.andThen, Sem.run_bind, hz, Sem.run_pure]
      rfl
  unfold execOp
  rw [hop]
  dsimp only
  rw [hx, hi]
  simp only [Sem.run_bind, hl, Result.andThen]
  rfl
end
end Go.Proofs.Ytedodaifpekahaa.P

end
section

namespace Go.Proofs.Ytedodaifpekahaa.P
open Go.RowKit Go.Proofs.YtedodaifpekahaaW.PrintWords Go.Proofs.YtedodaifpekahaaW.PrintLast Go.Proofs.YtedodaifpekahaaW.PrintMore
attribute [local go_sem] max2_int min2_int max_two min_two max_three min_three max_four min_four
set_option linter.unusedVariables false
set_option linter.unusedSimpArgs false
mutual
def impl_codeOk.j0 : Nat → Bool → List (S76) → List (S46) → Int → Int → List Int → Int → Int → List (S67) → List (S70) → List (S73) → Option (Bool)
  | 0, _, _, _, _, _, _, _, _, _, _, _ => none
  | k + 1, x31, x373000, x373001, x374000, x374001, x374002, x374003, x374004, x374005, x374006, x374007 => if x31 = true then (some false) else (impl_codeOk.l0 k x374005 (x374005.length : Int) 0 x373000 x373001 x374000 x374001 x374002 x374003 x374004 x374005 x374006 x374007)
def impl_codeOk.l0 : Nat → List (S67) → Int → Int → List (S76) → List (S46) → Int → Int → List Int → Int → Int → List (S67) → List (S70) → List (S73) → Option (Bool)
  | 0, _, _, _, _, _, _, _, _, _, _, _, _, _ => none
  | k + 1, x33, x34, x35, x373000, x373001, x374000, x374001, x374002, x374003, x374004, x374005, x374006, x374007 => if x35 < x34 then (if 0 ≤ x35 then (if x35 < (x33.length : Int) then ((impl_wantOf.f ((rd_T67 x33 x35).f0)).bind fun bt376 => (if bt376.2.2 = true then ((impl_operandOk.f k x373000 x373001 x374000 x374001 x374002 x374003 x374004 x374005 x374006 x374007 ((rd_T67 x33 x35).f0) ((rd_T67 x33 x35).f1) ((rd_T67 x33 x35).f2) bt376.1 ((rd_T67 x33 x35).f1)).bind fun t380 => (if t380 = true then ((impl_operandOk.f k x373000 x373001 x374000 x374001 x374002 x374003 x374004 x374005 x374006 x374007 ((rd_T67 x33 x35).f0) ((rd_T67 x33 x35).f1) ((rd_T67 x33 x35).f2) bt376.2.1 ((rd_T67 x33 x35).f2)).bind fun t381 => (if t381 = true then (impl_codeOk.l0 k x33 x34 (wrap64 (x35 + 1)) x373000 x373001 x374000 x374001 x374002 x374003 x374004 x374005 x374006 x374007) else (some false))) else (some false))) else (some false))) else (none)) else (none)) else (impl_codeOk.l1 k x374006 (x374006.length : Int) 0 x373000 x373001 x374000 x374001 x374002 x374003 x374004 x374005 x374006 x374007)
def impl_codeOk.l1 : Nat → List (S70) → Int → Int → List (S76) → List (S46) → Int → Int → List Int → Int → Int → List (S67) → List (S70) → List (S73) → Option (Bool)
  | 0, _, _, _, _, _, _, _, _, _, _, _, _, _ => none
  | k + 1, x72, x73, x74, x373000, x373001, x374000, x374001, x374002, x374003, x374004, x374005, x374006, x374007 => if x74 < x73 then (if 0 ≤ x74 then (if x74 < (x72.length : Int) then ((impl_shapeOk.f k x373000 x374004 ((rd_T70 x72 x74).f0) ((rd_T70 x72 x74).f1) ((rd_T70 x72 x74).f2)).bind fun t384 => (if t384 = true then (impl_codeOk.l1 k x72 x73 (wrap64 (x74 + 1)) x373000 x373001 x374000 x374001 x374002 x374003 x374004 x374005 x374006 x374007) else (some false))) else (none)) else (none)) else (some true)
end
def impl_codeOk.f (k : Nat) (l0_0 : List (S76)) (l0_1 : List (S46)) (a1_0 : Int) (a1_1 : Int) (l1_2 : List Int) (a1_3 : Int) (a1_4 : Int) (l1_5 : List (S67)) (l1_6 : List (S70)) (l1_7 : List (S73)) (a2 : Int) : Option (Bool) := if (l1_5.length : Int) < 1 then (impl_codeOk.j0 k true l0_0 l0_1 a1_0 a1_1 l1_2 a1_3 a1_4 l1_5 l1_6 l1_7) else (if (l1_5.length : Int) > 12 then (impl_codeOk.j0 k true l0_0 l0_1 a1_0 a1_1 l1_2 a1_3 a1_4 l1_5 l1_6 l1_7) else (impl_codeOk.j0 k ((l1_6.length : Int) != (l1_5.length : Int)) l0_0 l0_1 a1_0 a1_1 l1_2 a1_3 a1_4 l1_5 l1_6 l1_7))
end Go.Proofs.Ytedodaifpekahaa.P

end
section

namespace Go.Proofs.Ytedodaifpekahaa.P
open Go.RowKit Go.Proofs.YtedodaifpekahaaW.PrintWords Go.Proofs.YtedodaifpekahaaW.PrintLast Go.Proofs.YtedodaifpekahaaW.PrintMore
attribute [local go_sem] max2_int min2_int max_two min_two max_three min_three max_four min_four
set_option linter.unusedVariables false
set_option linter.unusedSimpArgs false
def impl_classUp.l0 : Nat → List (S76) → Int → Int → Option (Bool)
  | 0, _, _, _ => none
  | k + 1, x0, x2, x7 => if x7 ≥ 0 then (if x7 = x2 then (some true) else (if 0 ≤ x7 then (if x7 < (x0.length : Int) then (impl_classUp.l0 k x0 x2 ((rd_T76 x0 x7).f0)) else (none)) else (none))) else (some false)
def impl_classUp.f (k : Nat) (l0 : List (S76)) (a1 : Int) (a2 : Int) : Option (Bool) := impl_classUp.l0 k l0 a2 a1
end Go.Proofs.Ytedodaifpekahaa.P

end
section

namespace Go.Proofs.Ytedodaifpekahaa.P
open Go.RowKit Go.Proofs.YtedodaifpekahaaW.PrintWords Go.Proofs.YtedodaifpekahaaW.PrintLast Go.Proofs.YtedodaifpekahaaW.PrintMore
attribute [local go_sem] max2_int min2_int max_two min_two max_three min_three max_four min_four
set_option linter.unusedVariables false
set_option linter.unusedSimpArgs false
mutual
def impl_catchesOk.l0 : Nat → List (S73) → Int → Int → List (S76) → List (S46) → Int → Int → List Int → Int → Int → List (S67) → List (S70) → List (S73) → Option (Bool)
  | 0, _, _, _, _, _, _, _, _, _, _, _, _, _ => none
  | k + 1, x12, x13, x14, x387000, x387001, x388000, x388001, x388002, x388003, x388004, x388005, x388006, x388007 => if x14 < x13 then (if 0 ≤ x14 then (if x14 < (x12.length : Int) then (if ((rd_T73 x12 x14).f0) < 0 then (impl_catchesOk.j1 k x12 x13 x14 true x387000 x387001 x388000 x388001 x388002 x388003 x388004 x388005 x388006 x388007 ((rd_T73 x12 x14).f0) ((rd_T73 x12 x14).f1) ((rd_T73 x12 x14).f2) ((rd_T73 x12 x14).f3)) else (if ((rd_T73 x12 x14).f0) ≥ (x388005.length : Int) then (impl_catchesOk.j1 k x12 x13 x14 true x387000 x387001 x388000 x388001 x388002 x388003 x388004 x388005 x388006 x388007 ((rd_T73 x12 x14).f0) ((rd_T73 x12 x14).f1) ((rd_T73 x12 x14).f2) ((rd_T73 x12 x14).f3)) else (if ((rd_T73 x12 x14).f2) < 0 then (impl_catchesOk.j1 k x12 x13 x14 true x387000 x387001 x388000 x388001 x388002 x388003 x388004 x388005 x388006 x388007 ((rd_T73 x12 x14).f0) ((rd_T73 x12 x14).f1) ((rd_T73 x12 x14).f2) ((rd_T73 x12 x14).f3)) else (impl_catchesOk.j1 k x12 x13 x14 (decide (((rd_T73 x12 x14).f2) ≥ (x388005.length : Int))) x387000 x387001 x388000 x388001 x388002 x388003 x388004 x388005 x388006 x388007 ((rd_T73 x12 x14).f0) ((rd_T73 x12 x14).f1) ((rd_T73 x12 x14).f2) ((rd_T73 x12 x14).f3))))) else (none)) else (none)) else (some true)
def impl_catchesOk.j1 : Nat → List (S73) → Int → Int → Bool → List (S76) → List (S46) → Int → Int → List Int → Int → Int → List (S67) → List (S70) → List (S73) → Int → Int → Int → Int → Option (Bool)
  | 0, _, _, _, _, _, _, _, _, _, _, _, _, _, _, _, _, _, _ => none
  | k + 1, x12, x13, x14, x41, x387000, x387001, x388000, x388001, x388002, x388003, x388004, x388005, x388006, x388007, x390000, x390001, x390002, x390003 => if x41 = true then (some false) else (if x390001 ≤ x390000 then (impl_catchesOk.j2 k x12 x13 x14 true x387000 x387001 x388000 x388001 x388002 x388003 x388004 x388005 x388006 x388007 x390000 x390001 x390002 x390003) else (impl_catchesOk.j2 k x12 x13 x14 (decide (x390001 > (x388005.length : Int))) x387000 x387001 x388000 x388001 x388002 x388003 x388004 x388005 x388006 x388007 x390000 x390001 x390002 x390003))
def impl_catchesOk.j2 : Nat → List (S73) → Int → Int → Bool → List (S76) → List (S46) → Int → Int → List Int → Int → Int → List (S67) → List (S70) → List (S73) → Int → Int → Int → Int → Option (Bool)
  | 0, _, _, _, _, _, _, _, _, _, _, _, _, _, _, _, _, _, _ => none
  | k + 1, x12, x13, x14, x54, x387000, x387001, x388000, x388001, x388002, x388003, x388004, x388005, x388006, x388007, x390000, x390001, x390002, x390003 => if x54 = true then (some false) else ((impl_isClass.f x387000 x390003).bind fun t390 => (if t390 = true then ((impl_classUp.f k x387000 x390003 1).bind fun t391 => (if t391 = true then (impl_catchesOk.l0 k x12 x13 (wrap64 (x14 + 1)) x387000 x387001 x388000 x388001 x388002 x388003 x388004 x388005 x388006 x388007) else (some false))) else (some false)))
end
def impl_catchesOk.f (k : Nat) (l0_0 : List (S76)) (l0_1 : List (S46)) (a1_0 : Int) (a1_1 : Int) (l1_2 : List Int) (a1_3 : Int) (a1_4 : Int) (l1_5 : List (S67)) (l1_6 : List (S70)) (l1_7 : List (S73)) : Option (Bool) := if (l1_7.length : Int) > 2 then (some false) else (impl_catchesOk.l0 k l1_7 (l1_7.length : Int) 0 l0_0 l0_1 a1_0 a1_1 l1_2 a1_3 a1_4 l1_5 l1_6 l1_7)
end Go.Proofs.Ytedodaifpekahaa.P

end
section

namespace Go.Proofs.Ytedodaifpekahaa.P
open Go.RowKit Go.Proofs.YtedodaifpekahaaW.PrintWords Go.Proofs.YtedodaifpekahaaW.PrintLast Go.Proofs.YtedodaifpekahaaW.PrintMore
attribute [local go_sem] max2_int min2_int max_two min_two max_three min_three max_four min_four
set_option linter.unusedVariables false
set_option linter.unusedSimpArgs false
def slices_Equal_int_int.l0 : Nat → List Int → List Int → Int → Int → Option (Bool)
  | 0, _, _, _, _ => none
  | k + 1, x0, x1, x12, x13 => if x13 < x12 then (if 0 ≤ x13 then (if x13 < (x0.length : Int) then (if x13 < (x1.length : Int) then (if (rd x0 x13) = (rd x1 x13) then (slices_Equal_int_int.l0 k x0 x1 x12 (wrap64 (x13 + 1))) else (some false)) else (none)) else (none)) else (none)) else (some true)
def slices_Equal_int_int.f (k : Nat) (l0 : List Int) (l1 : List Int) : Option (Bool) := if (l0.length : Int) = (l1.length : Int) then (slices_Equal_int_int.l0 k l0 l1 (l0.length : Int) 0) else (some false)
end Go.Proofs.Ytedodaifpekahaa.P

end
section

namespace Go.Proofs.Ytedodaifpekahaa.P
open Go.RowKit Go.Proofs.YtedodaifpekahaaW.PrintWords Go.Proofs.YtedodaifpekahaaW.PrintLast Go.Proofs.YtedodaifpekahaaW.PrintMore
attribute [local go_sem] max2_int min2_int max_two min_two max_three min_three max_four min_four
set_option linter.unusedVariables false
set_option linter.unusedSimpArgs false
mutual
def impl_agree.l0 : Nat → List (S46) → Int → Int → List (S76) → List (S46) → Option (Bool)
  | 0, _, _, _, _, _ => none
  | k + 1, x8, x9, x10, x395000, x395001 => if x10 < x9 then (if 0 ≤ x10 then (if x10 < (x8.length : Int) then (impl_agree.l1 k x10 x8 x9 x10 x395001 (x395001.length : Int) 0 x395000 x395001 ((rd_T46 x8 x10).f0) ((rd_T46 x8 x10).f1) ((rd_T46 x8 x10).f2) ((rd_T46 x8 x10).f3) ((rd_T46 x8 x10).f4) ((rd_T46 x8 x10).f5) ((rd_T46 x8 x10).f6) ((rd_T46 x8 x10).f7)) else (none)) else (none)) else (some true)
def impl_agree.l1 : Nat → Int → List (S46) → Int → Int → List (S46) → Int → Int → List (S76) → List (S46) → Int → Int → List Int → Int → Int → List (S67) → List (S70) → List (S73) → Option (Bool)
  | 0, _, _, _, _, _, _, _, _, _, _, _, _, _, _, _, _, _ => none
  | k + 1, x3, x8, x9, x10, x16, x17, x18, x395000, x395001, x397000, x397001, x397002, x397003, x397004, x397005, x397006, x397007 => if x18 < x17 then (if 0 ≤ x18 then (if x18 < (x16.length : Int) then (if x3 = x18 then (impl_agree.j2 k x3 x8 x9 x10 x16 x17 x18 true x395000 x395001 x397000 x397001 x397002 x397003 x397004 x397005 x397006 x397007 ((rd_T46 x16 x18).f0) ((rd_T46 x16 x18).f1) ((rd_T46 x16 x18).f2) ((rd_T46 x16 x18).f3) ((rd_T46 x16 x18).f4) ((rd_T46 x16 x18).f5) ((rd_T46 x16 x18).f6) ((rd_T46 x16 x18).f7)) else (if x397000 < 0 then (impl_agree.j2 k x3 x8 x9 x10 x16 x17 x18 true x395000 x395001 x397000 x397001 x397002 x397003 x397004 x397005 x397006 x397007 ((rd_T46 x16 x18).f0) ((rd_T46 x16 x18).f1) ((rd_T46 x16 x18).f2) ((rd_T46 x16 x18).f3) ((rd_T46 x16 x18).f4) ((rd_T46 x16 x18).f5) ((rd_T46 x16 x18).f6) ((rd_T46 x16 x18).f7)) else (if ((rd_T46 x16 x18).f0) < 0 then (impl_agree.j2 k x3 x8 x9 x10 x16 x17 x18 true x395000 x395001 x397000 x397001 x397002 x397003 x397004 x397005 x397006 x397007 ((rd_T46 x16 x18).f0) ((rd_T46 x16 x18).f1) ((rd_T46 x16 x18).f2) ((rd_T46 x16 x18).f3) ((rd_T46 x16 x18).f4) ((rd_T46 x16 x18).f5) ((rd_T46 x16 x18).f6) ((rd_T46 x16 x18).f7)) else (impl_agree.j2 k x3 x8 x9 x10 x16 x17 x18 (x397001 != ((rd_T46 x16 x18).f1)) x395000 x395001 x397000 x397001 x397002 x397003 x397004 x397005 x397006 x397007 ((rd_T46 x16 x18).f0) ((rd_T46 x16 x18).f1) ((rd_T46 x16 x18).f2) ((rd_T46 x16 x18).f3) ((rd_T46 x16 x18).f4) ((rd_T46 x16 x18).f5) ((rd_T46 x16 x18).f6) ((rd_T46 x16 x18).f7))))) else (none)) else (none)) else (impl_agree.l0 k x8 x9 (wrap64 (x10 + 1)) x395000 x395001)
def impl_agree.j2 : Nat → Int → List (S46) → Int → Int → List (S46) → Int → Int → Bool → List (S76) → List (S46) → Int → Int → List Int → Int → Int → List (S67) → List (S70) → List (S73) → Int → Int → List Int → Int → Int → List (S67) → List (S70) → List (S73) → Option (Bool)
  | 0, _, _, _, _, _, _, _, _, _, _, _, _, _, _, _, _, _, _, _, _, _, _, _, _, _, _ => none
  | k + 1, x3, x8, x9, x10, x16, x17, x18, x42, x395000, x395001, x397000, x397001, x397002, x397003, x397004, x397005, x397006, x397007, x399000, x399001, x399002, x399003, x399004, x399005, x399006, x399007 => if x42 = true then (impl_agree.l1 k x3 x8 x9 x10 x16 x17 (wrap64 (x18 + 1)) x395000 x395001 x397000 x397001 x397002 x397003 x397004 x397005 x397006 x397007) else (if x397000 = x399000 then (some false) else ((impl_classUp.f k x395000 x397000 x399000).bind fun t399 => (if t399 = true then (if x397003 = x399003 then ((slices_Equal_int_int.f k x397002 x399002).bind fun t400 => (if t400 = true then (impl_agree.l1 k x3 x8 x9 x10 x16 x17 (wrap64 (x18 + 1)) x395000 x395001 x397000 x397001 x397002 x397003 x397004 x397005 x397006 x397007) else (some false))) else (some false)) else (impl_agree.l1 k x3 x8 x9 x10 x16 x17 (wrap64 (x18 + 1)) x395000 x395001 x397000 x397001 x397002 x397003 x397004 x397005 x397006 x397007))))
end
def impl_agree.f (k : Nat) (l0_0 : List (S76)) (l0_1 : List (S46)) : Option (Bool) := impl_agree.l0 k l0_1 (l0_1.length : Int) 0 l0_0 l0_1
end Go.Proofs.Ytedodaifpekahaa.P

end
section

namespace Go.Proofs.Ytedodaifpekahaa.P
open Go.RowKit Go.Proofs.YtedodaifpekahaaW.PrintWords Go.Proofs.YtedodaifpekahaaW.PrintLast Go.Proofs.YtedodaifpekahaaW.PrintMore
attribute [local go_sem] max2_int min2_int max_two min_two max_three min_three max_four min_four
set_option linter.unusedVariables false
set_option linter.unusedSimpArgs false
mutual
def impl_UnitOk.j0 : Nat → Bool → List (S76) → List (S46) → Option (Bool)
  | 0, _, _, _ => none
  | k + 1, x22, x402000, x402001 => if x22 = true then (some false) else (if 0 < (x402001.length : Int) then (if ((rd_T46 x402001 0).f0) = (-1) then (if (((rd_T46 x402001 0).f2).length : Int) = 0 then (impl_UnitOk.j1 k (((rd_T46 x402001 0).f3) != 1) x402000 x402001) else (impl_UnitOk.j1 k true x402000 x402001)) else (impl_UnitOk.j1 k true x402000 x402001)) else (none))
def impl_UnitOk.j1 : Nat → Bool → List (S76) → List (S46) → Option (Bool)
  | 0, _, _, _ => none
  | k + 1, x40, x402000, x402001 => if x40 = true then (some false) else (impl_UnitOk.l0 k x402001 (x402001.length : Int) 0 x402000 x402001)
def impl_UnitOk.l0 : Nat → List (S46) → Int → Int → List (S76) → List (S46) → Option (Bool)
  | 0, _, _, _, _, _ => none
  | k + 1, x43, x44, x45, x402000, x402001 => if x45 < x44 then (if 0 ≤ x45 then (if x45 < (x43.length : Int) then ((impl_headOk.f k x402000 x402001 ((rd_T46 x43 x45).f0) ((rd_T46 x43 x45).f1) ((rd_T46 x43 x45).f2) ((rd_T46 x43 x45).f3) ((rd_T46 x43 x45).f4) ((rd_T46 x43 x45).f5) ((rd_T46 x43 x45).f6) ((rd_T46 x43 x45).f7)).bind fun t409 => (if t409 = true then ((impl_codeOk.f k x402000 x402001 ((rd_T46 x43 x45).f0) ((rd_T46 x43 x45).f1) ((rd_T46 x43 x45).f2) ((rd_T46 x43 x45).f3) ((rd_T46 x43 x45).f4) ((rd_T46 x43 x45).f5) ((rd_T46 x43 x45).f6) ((rd_T46 x43 x45).f7) 0).bind fun t410 => (if t410 = true then ((impl_catchesOk.f k x402000 x402001 ((rd_T46 x43 x45).f0) ((rd_T46 x43 x45).f1) ((rd_T46 x43 x45).f2) ((rd_T46 x43 x45).f3) ((rd_T46 x43 x45).f4) ((rd_T46 x43 x45).f5) ((rd_T46 x43 x45).f6) ((rd_T46 x43 x45).f7)).bind fun t411 => (if t411 = true then (impl_UnitOk.l0 k x43 x44 (wrap64 (x45 + 1)) x402000 x402001) else (some false))) else (some false))) else (some false))) else (none)) else (none)) else ((impl_agree.f k x402000 x402001).bind fun t406 => (some t406))
end
def impl_UnitOk.f (k : Nat) (l0_0 : List (S76)) (l0_1 : List (S46)) : Option (Bool) := (impl_ClassesOk.f k l0_0).bind fun t402 => (if t402 = true then (if (l0_1.length : Int) < 1 then (impl_UnitOk.j0 k true l0_0 l0_1) else (impl_UnitOk.j0 k (decide ((l0_1.length : Int) > 4)) l0_0 l0_1)) else (impl_UnitOk.j0 k true l0_0 l0_1))
end Go.Proofs.Ytedodaifpekahaa.P

end
section

namespace Go.Proofs.Ytedodaifpekahaa.P
open Go.RowKit Go.Proofs.YtedodaifpekahaaW.PrintWords Go.Proofs.YtedodaifpekahaaW.PrintLast Go.Proofs.YtedodaifpekahaaW.PrintMore
attribute [local go_sem] max2_int min2_int max_two min_two max_three min_three max_four min_four
set_option linter.unusedVariables false
set_option linter.unusedSimpArgs false
def laws_eqIntS.l0 : Nat → List Int → List Int → Int → Option (Bool)
  | 0, _, _, _ => none
  | k + 1, x0, x1, x5 => if x5 < (x0.length : Int) then (if 0 ≤ x5 then (if x5 < (x1.length : Int) then (if (rd x0 x5) = (rd x1 x5) then (laws_eqIntS.l0 k x0 x1 (wrap64 (x5 + 1))) else (some false)) else (none)) else (none)) else (some true)
def laws_eqIntS.f (k : Nat) (l0 : List Int) (l1 : List Int) : Option (Bool) := if (l0.length : Int) = (l1.length : Int) then (laws_eqIntS.l0 k l0 l1 0) else (some false)
end Go.Proofs.Ytedodaifpekahaa.P

end
section

namespace Go.Proofs.Ytedodaifpekahaa.P
open Go.RowKit Go.Proofs.YtedodaifpekahaaW.PrintWords Go.Proofs.YtedodaifpekahaaW.PrintLast Go.Proofs.YtedodaifpekahaaW.PrintMore
attribute [local go_sem] max2_int min2_int max_two min_two max_three min_three max_four min_four
set_option linter.unusedVariables false
set_option linter.unusedSimpArgs false
def laws_eqClass.f (k : Nat) (a0_0 : Int) (l0_1 : List Int) (a1_0 : Int) (l1_1 : List Int) : Option (Bool) := if a0_0 = a1_0 then ((laws_eqIntS.f k l0_1 l1_1).bind fun t416 => (if t416 = true then (some true) else (some false))) else (some false)
end Go.Proofs.Ytedodaifpekahaa.P

end
section

namespace Go.Proofs.Ytedodaifpekahaa.P
open Go.RowKit Go.Proofs.YtedodaifpekahaaW.PrintWords Go.Proofs.YtedodaifpekahaaW.PrintLast Go.Proofs.YtedodaifpekahaaW.PrintMore
attribute [local go_sem] max2_int min2_int max_two min_two max_three min_three max_four min_four
set_option linter.unusedVariables false
set_option linter.unusedSimpArgs false
def laws_eqClassS.l0 : Nat → List (S76) → List (S76) → Int → Option (Bool)
  | 0, _, _, _ => none
  | k + 1, x0, x1, x5 => if x5 < (x0.length : Int) then (if 0 ≤ x5 then (if x5 < (x1.length : Int) then ((laws_eqClass.f k ((rd_T76 x0 x5).f0) ((rd_T76 x0 x5).f1) ((rd_T76 x1 x5).f0) ((rd_T76 x1 x5).f1)).bind fun t419 => (if t419 = true then (laws_eqClassS.l0 k x0 x1 (wrap64 (x5 + 1))) else (some false))) else (none)) else (none)) else (some true)
def laws_eqClassS.f (k : Nat) (l0 : List (S76)) (l1 : List (S76)) : Option (Bool) := if (l0.length : Int) = (l1.length : Int) then (laws_eqClassS.l0 k l0 l1 0) else (some false)
end Go.Proofs.Ytedodaifpekahaa.P

end
section

namespace Go.Proofs.Ytedodaifpekahaa.P
open Go.RowKit Go.Proofs.YtedodaifpekahaaW.PrintWords Go.Proofs.YtedodaifpekahaaW.PrintLast Go.Proofs.YtedodaifpekahaaW.PrintMore
attribute [local go_sem] max2_int min2_int max_two min_two max_three min_three max_four min_four
set_option linter.unusedVariables false
set_option linter.unusedSimpArgs false
def laws_eqIns.f (a0_0 : Int) (a0_1 : Int) (a0_2 : Int) (a1_0 : Int) (a1_1 : Int) (a1_2 : Int) : Option (Bool) := if a0_0 = a1_0 then (if a0_1 = a1_1 then (if a0_2 = a1_2 then (some true) else (some false)) else (some false)) else (some false)
end Go.Proofs.Ytedodaifpekahaa.P

end
section

namespace Go.Proofs.Ytedodaifpekahaa.P
open Go.RowKit Go.Proofs.YtedodaifpekahaaW.PrintWords Go.Proofs.YtedodaifpekahaaW.PrintLast Go.Proofs.YtedodaifpekahaaW.PrintMore
attribute [local go_sem] max2_int min2_int max_two min_two max_three min_three max_four min_four
set_option linter.unusedVariables false
set_option linter.unusedSimpArgs false
def laws_eqInsS.l0 : Nat → List (S67) → List (S67) → Int → Option (Bool)
  | 0, _, _, _ => none
  | k + 1, x0, x1, x5 => if x5 < (x0.length : Int) then (if 0 ≤ x5 then (if x5 < (x1.length : Int) then ((laws_eqIns.f ((rd_T67 x0 x5).f0) ((rd_T67 x0 x5).f1) ((rd_T67 x0 x5).f2) ((rd_T67 x1 x5).f0) ((rd_T67 x1 x5).f1) ((rd_T67 x1 x5).f2)).bind fun t424 => (if t424 = true then (laws_eqInsS.l0 k x0 x1 (wrap64 (x5 + 1))) else (some false))) else (none)) else (none)) else (some true)
def laws_eqInsS.f (k : Nat) (l0 : List (S67)) (l1 : List (S67)) : Option (Bool) := if (l0.length : Int) = (l1.length : Int) then (laws_eqInsS.l0 k l0 l1 0) else (some false)
end Go.Proofs.Ytedodaifpekahaa.P

end
section

namespace Go.Proofs.Ytedodaifpekahaa.P
open Go.RowKit Go.Proofs.YtedodaifpekahaaW.PrintWords Go.Proofs.YtedodaifpekahaaW.PrintLast Go.Proofs.YtedodaifpekahaaW.PrintMore
attribute [local go_sem] max2_int min2_int max_two min_two max_three min_three max_four min_four
set_option linter.unusedVariables false
set_option linter.unusedSimpArgs false
def laws_eqShape.f (k : Nat) (a0_0 : Bool) (l0_1 : List Int) (l0_2 : List Int) (a1_0 : Bool) (l1_1 : List Int) (l1_2 : List Int) : Option (Bool) := if (a0_0 != a1_0) = true then (some false) else ((laws_eqIntS.f k l0_1 l1_1).bind fun t427 => (if t427 = true then ((laws_eqIntS.f k l0_2 l1_2).bind fun t428 => (if t428 = true then (some true) else (some false))) else (some false)))
end Go.Proofs.Ytedodaifpekahaa.P

end
section

namespace Go.Proofs.Ytedodaifpekahaa.P
open Go.RowKit Go.Proofs.YtedodaifpekahaaW.PrintWords Go.Proofs.YtedodaifpekahaaW.PrintLast Go.Proofs.YtedodaifpekahaaW.PrintMore
attribute [local go_sem] max2_int min2_int max_two min_two max_three min_three max_four min_four
set_option linter.unusedVariables false
set_option linter.unusedSimpArgs false
def laws_eqShapeS.l0 : Nat → List (S70) → List (S70) → Int → Option (Bool)
  | 0, _, _, _ => none
  | k + 1, x0, x1, x5 => if x5 < (x0.length : Int) then (if 0 ≤ x5 then (if x5 < (x1.length : Int) then ((laws_eqShape.f k ((rd_T70 x0 x5).f0) ((rd_T70 x0 x5).f1) ((rd_T70 x0 x5).f2) ((rd_T70 x1 x5).f0) ((rd_T70 x1 x5).f1) ((rd_T70 x1 x5).f2)).bind fun t431 => (if t431 = true then (laws_eqShapeS.l0 k x0 x1 (wrap64 (x5 + 1))) else (some false))) else (none)) else (none)) else (some true)
def laws_eqShapeS.f (k : Nat) (l0 : List (S70)) (l1 : List (S70)) : Option (Bool) := if (l0.length : Int) = (l1.length : Int) then (laws_eqShapeS.l0 k l0 l1 0) else (some false)
end Go.Proofs.Ytedodaifpekahaa.P

end
section

namespace Go.Proofs.Ytedodaifpekahaa.P
open Go.RowKit Go.Proofs.YtedodaifpekahaaW.PrintWords Go.Proofs.YtedodaifpekahaaW.PrintLast Go.Proofs.YtedodaifpekahaaW.PrintMore
attribute [local go_sem] max2_int min2_int max_two min_two max_three min_three max_four min_four
set_option linter.unusedVariables false
set_option linter.unusedSimpArgs false
def laws_eqCatch.f (a0_0 : Int) (a0_1 : Int) (a0_2 : Int) (a0_3 : Int) (a1_0 : Int) (a1_1 : Int) (a1_2 : Int) (a1_3 : Int) : Option (Bool) := if a0_0 = a1_0 then (if a0_1 = a1_1 then (if a0_2 = a1_2 then (if a0_3 = a1_3 then (some true) else (some false)) else (some false)) else (some false)) else (some false)
end Go.Proofs.Ytedodaifpekahaa.P

end
section

namespace Go.Proofs.Ytedodaifpekahaa.P
open Go.RowKit Go.Proofs.YtedodaifpekahaaW.PrintWords Go.Proofs.YtedodaifpekahaaW.PrintLast Go.Proofs.YtedodaifpekahaaW.PrintMore
attribute [local go_sem] max2_int min2_int max_two min_two max_three min_three max_four min_four
set_option linter.unusedVariables false
set_option linter.unusedSimpArgs false
def laws_eqCatchS.l0 : Nat → List (S73) → List (S73) → Int → Option (Bool)
  | 0, _, _, _ => none
  | k + 1, x0, x1, x5 => if x5 < (x0.length : Int) then (if 0 ≤ x5 then (if x5 < (x1.length : Int) then ((laws_eqCatch.f ((rd_T73 x0 x5).f0) ((rd_T73 x0 x5).f1) ((rd_T73 x0 x5).f2) ((rd_T73 x0 x5).f3) ((rd_T73 x1 x5).f0) ((rd_T73 x1 x5).f1) ((rd_T73 x1 x5).f2) ((rd_T73 x1 x5).f3)).bind fun t436 => (if t436 = true then (laws_eqCatchS.l0 k x0 x1 (wrap64 (x5 + 1))) else (some false))) else (none)) else (none)) else (some true)
def laws_eqCatchS.f (k : Nat) (l0 : List (S73)) (l1 : List (S73)) : Option (Bool) := if (l0.length : Int) = (l1.length : Int) then (laws_eqCatchS.l0 k l0 l1 0) else (some false)
end Go.Proofs.Ytedodaifpekahaa.P

end
section

namespace Go.Proofs.Ytedodaifpekahaa.P
open Go.RowKit Go.Proofs.YtedodaifpekahaaW.PrintWords Go.Proofs.YtedodaifpekahaaW.PrintLast Go.Proofs.YtedodaifpekahaaW.PrintMore
attribute [local go_sem] max2_int min2_int max_two min_two max_three min_three max_four min_four
set_option linter.unusedVariables false
set_option linter.unusedSimpArgs false
def laws_eqMethod.f (k : Nat) (a0_0 : Int) (a0_1 : Int) (l0_2 : List Int) (a0_3 : Int) (a0_4 : Int) (l0_5 : List (S67)) (l0_6 : List (S70)) (l0_7 : List (S73)) (a1_0 : Int) (a1_1 : Int) (l1_2 : List Int) (a1_3 : Int) (a1_4 : Int) (l1_5 : List (S67)) (l1_6 : List (S70)) (l1_7 : List (S73)) : Option (Bool) := if a0_0 = a1_0 then (if a0_1 = a1_1 then ((laws_eqIntS.f k l0_2 l1_2).bind fun t439 => (if t439 = true then (if a0_3 = a1_3 then (if a0_4 = a1_4 then ((laws_eqInsS.f k l0_5 l1_5).bind fun t440 => (if t440 = true then ((laws_eqShapeS.f k l0_6 l1_6).bind fun t441 => (if t441 = true then ((laws_eqCatchS.f k l0_7 l1_7).bind fun t442 => (if t442 = true then (some true) else (some false))) else (some false))) else (some false))) else (some false)) else (some false)) else (some false))) else (some false)) else (some false)
end Go.Proofs.Ytedodaifpekahaa.P

end
section

namespace Go.Proofs.Ytedodaifpekahaa.P
open Go.RowKit Go.Proofs.YtedodaifpekahaaW.PrintWords Go.Proofs.YtedodaifpekahaaW.PrintLast Go.Proofs.YtedodaifpekahaaW.PrintMore
attribute [local go_sem] max2_int min2_int max_two min_two max_three min_three max_four min_four
set_option linter.unusedVariables false
set_option linter.unusedSimpArgs false
def laws_eqMethodS.l0 : Nat → List (S46) → List (S46) → Int → Option (Bool)
  | 0, _, _, _ => none
  | k + 1, x0, x1, x5 => if x5 < (x0.length : Int) then (if 0 ≤ x5 then (if x5 < (x1.length : Int) then ((laws_eqMethod.f k ((rd_T46 x0 x5).f0) ((rd_T46 x0 x5).f1) ((rd_T46 x0 x5).f2) ((rd_T46 x0 x5).f3) ((rd_T46 x0 x5).f4) ((rd_T46 x0 x5).f5) ((rd_T46 x0 x5).f6) ((rd_T46 x0 x5).f7) ((rd_T46 x1 x5).f0) ((rd_T46 x1 x5).f1) ((rd_T46 x1 x5).f2) ((rd_T46 x1 x5).f3) ((rd_T46 x1 x5).f4) ((rd_T46 x1 x5).f5) ((rd_T46 x1 x5).f6) ((rd_T46 x1 x5).f7)).bind fun t445 => (if t445 = true then (laws_eqMethodS.l0 k x0 x1 (wrap64 (x5 + 1))) else (some false))) else (none)) else (none)) else (some true)
def laws_eqMethodS.f (k : Nat) (l0 : List (S46)) (l1 : List (S46)) : Option (Bool) := if (l0.length : Int) = (l1.length : Int) then (laws_eqMethodS.l0 k l0 l1 0) else (some false)
end Go.Proofs.Ytedodaifpekahaa.P

end
section

namespace Go.Proofs.Ytedodaifpekahaa.P
open Go.RowKit Go.Proofs.YtedodaifpekahaaW.PrintWords Go.Proofs.YtedodaifpekahaaW.PrintLast Go.Proofs.YtedodaifpekahaaW.PrintMore
attribute [local go_sem] max2_int min2_int max_two min_two max_three min_three max_four min_four
set_option linter.unusedVariables false
set_option linter.unusedSimpArgs false
def laws_eqUnit.f (k : Nat) (l0_0 : List (S76)) (l0_1 : List (S46)) (l1_0 : List (S76)) (l1_1 : List (S46)) : Option (Bool) := (laws_eqClassS.f k l0_0 l1_0).bind fun t448 => (if t448 = true then ((laws_eqMethodS.f k l0_1 l1_1).bind fun t449 => (if t449 = true then (some true) else (some false))) else (some false))
end Go.Proofs.Ytedodaifpekahaa.P

end
section

namespace Go.Proofs.Ytedodaifpekahaa.P
open Go.RowKit Go.Proofs.YtedodaifpekahaaW.PrintWords Go.Proofs.YtedodaifpekahaaW.PrintLast Go.Proofs.YtedodaifpekahaaW.PrintMore
attribute [local go_sem] max2_int min2_int max_two min_two max_three min_three max_four min_four
set_option linter.unusedVariables false
set_option linter.unusedSimpArgs false
def laws_FnExactUnitOk.f (k : Nat) (l0_0 : List (S58)) (l0_1 : List (S64)) : Option (Bool) := (laws_szUnit.f k l0_0 l0_1 1048576).bind fun t451 => (if t451 < 0 then (some true) else ((laws_toUnit.f k l0_0 l0_1).bind fun bt452 => ((spec_UnitOk.f k bt452.1 bt452.2).bind fun t458 => ((laws_toUnit.f k l0_0 l0_1).bind fun bt459 => ((impl_UnitOk.f k bt459.1 bt459.2).bind fun t466 => (if (t466 != t458) = true then (some false) else ((laws_toUnit.f k l0_0 l0_1).bind fun bt467 => ((laws_eqUnit.f k bt459.1 bt459.2 bt467.1 bt467.2).bind fun t473 => (if t473 = true then (some true) else (some false))))))))))
end Go.Proofs.Ytedodaifpekahaa.P

end
section

namespace Go.Proofs.Ytedodaifpekahaa.P
open Go.RowKit Go.Proofs.YtedodaifpekahaaW.PrintWords Go.Proofs.YtedodaifpekahaaW.PrintLast Go.Proofs.YtedodaifpekahaaW.PrintMore
attribute [local go_sem] max2_int min2_int max_two min_two max_three min_three max_four min_four
set_option linter.unusedVariables false
set_option linter.unusedSimpArgs false
set_option maxHeartbeats 8000000 in
set_option maxRecDepth 100000 in
theorem laws_szIntS.calls (A0 : Option Addr) (c0 : Nat) (l0 : List Int) (a1 : Int) (r : Int) (w : World) (hr0 : Kd.C (Kd.int .i64) w A0 l0.length l0) (hc0 : l0.length ≤ c0) (h : laws_szIntS.f l0 a1 = some r) :
    Calls Try.prog 50 #[.slice A0 l0.length c0, .int .i64 a1] w fun e w' => e = .returned (.int .i64 r) ∧ Drawn0 w w' := by
  have HR0 := Aside0.mk hr0
  have HC0 := Aside0.mk hc0
  clear hr0 hc0
  have H : (if (wrap64 (a1 - (l0.length : Int))) < 0 then (some (-1)) else (some (wrap64 (a1 - (l0.length : Int))))) = some r := h
  clear h
  by_cases c3 : (wrap64 (a1 - (l0.length : Int))) < 0
  · rw [if_pos c3] at H
    have c3b0 : decide ((wrap64 (a1 - (l0.length : Int))) < 0) = true := decide_eq_true c3
    clear c3
    obtain rfl := Option.some.inj H
    simp only [Option.some.injEq, Prod.mk.injEq] at H
    obtain ⟨rfl⟩ := H
    go_enter Try.func50, Try.ntmps50
    go_wp2
    go_ret
    exact ⟨by first | rfl | (simp; done) | (simp [*]; done), by repeat (first | exact Drawn0.refl _ | apply Drawn0.step)⟩
  · rw [if_neg c3] at H
    have c3b0 : decide ((wrap64 (a1 - (l0.length : Int))) < 0) = false := decide_eq_false c3
    clear c3
    obtain rfl := Option.some.inj H
    simp only [Option.some.injEq, Prod.mk.injEq] at H
    obtain ⟨rfl⟩ := H
    go_enter Try.func50, Try.ntmps50
    go_wp2
    go_ret
    exact ⟨by first | rfl | (simp; done) | (simp [*]; done), by repeat (first | exact Drawn0.refl _ | apply Drawn0.step)⟩
end Go.Proofs.Ytedodaifpekahaa.P

end
section

namespace Go.Proofs.Ytedodaifpekahaa.P
open Go.RowKit Go.Proofs.YtedodaifpekahaaW.PrintWords Go.Proofs.YtedodaifpekahaaW.PrintLast Go.Proofs.YtedodaifpekahaaW.PrintMore
attribute [local go_sem] max2_int min2_int max_two min_two max_three min_three max_four min_four
set_option linter.unusedVariables false
set_option linter.unusedSimpArgs false
set_option maxHeartbeats 8000000 in
set_option maxRecDepth 100000 in
theorem laws_szClass.calls (a0_0 : Int) (A0_1 : Option Addr) (c0_1 : Nat) (l0_1 : List Int) (a1 : Int) (r : Int) (w : World) (hr0_1 : Kd.C (Kd.int .i64) w A0_1 l0_1.length l0_1) (hc0_1 : l0_1.length ≤ c0_1) (h : laws_szClass.f a0_0 l0_1 a1 = some r) :
    Calls Try.prog 31 #[.agg #[.int .i64 a0_0, .slice A0_1 l0_1.length c0_1], .int .i64 a1] w fun e w' => e = .returned (.int .i64 r) ∧ Below w.heap.size w w' := by
  have hu58 := Try.underlying58
  have HR0_1 := Aside0.mk hr0_1
  have HC0_1 := Aside0.mk hc0_1
  clear hr0_1 hc0_1
  have HB := Aside0.mk (Below.refl w.heap.size w)
  have H : ((laws_szIntS.f l0_1 a1).bind fun t102 => (if t102 < 0 then (some (-1)) else (some t102))) = some r := h
  clear h
  replace H := Option.bind_eq_some_iff.mp H
  obtain ⟨t102, A30, H⟩ := H
  replace H : (if t102 < 0 then (some (-1)) else (some t102)) = some r := H
  have A3 := Aside0.mk A30
  clear A30
  by_cases c4 : t102 < 0
  · rw [if_pos c4] at H
    have c4b0 : decide (t102 < 0) = true := decide_eq_true c4
    clear c4
    obtain rfl := Option.some.inj H
    simp only [Option.some.injEq, Prod.mk.injEq] at H
    obtain ⟨rfl⟩ := H
    go_enter Try.func31, Try.ntmps31
    go_wp2_with (first | ((with_reducible refine gate_dst (N := 2) rfl ?_); refine box_event ?hg (N := 2) ?hd (cs := #[.int .i64 a0_0, .slice A0_1 l0_1.length c0_1]) (t := 58) ?hr ?_; (case hd => rfl); (case hg => rfl); (case hr => first | (go_simp; done) | (go_simp; rfl)); intro gb101 hg w5 hbox hb; have n0_ := Aside0.mk (below_step (by repeat (first | (with_reducible first | exact HB.out | apply below_alloc | apply pw_below_drewN | apply below_drew1) | exact HB.out)) hb); have n1_ := Aside0.mk (hbox); have n2_ := Aside0.mk ((by rw [hg]; exact (below_size (by repeat (first | (with_reducible first | exact HB.out | apply below_alloc | apply pw_below_drewN | apply below_drew1) | exact HB.out))) : w.heap.size ≤ gb101)); have n3_ := Aside0.mk ((by rw [hg]; exact (below_size (by repeat (first | (with_reducible first | exact HB.out | apply below_alloc | apply pw_below_drewN | apply below_drew1) | exact HB.out))) : w.heap.size ≤ gb101)); clear HB; have HB := n0_; have BK101 := n1_; have GW101 := n2_; have GE101 := n3_; clear n0_ n1_ n2_ n3_; clear hb hbox hg; have hcz6_0 : w5.cell? ⟨gb101, 0, none⟩ = some (.int .i64 a0_0) := (blk_cell BK101.out 0).trans rfl; have hcz6_1 : w5.cell? ⟨gb101, 1, none⟩ = some (.slice A0_1 l0_1.length c0_1) := (blk_cell BK101.out 1).trans rfl; have hfz6_0 := blk_frozen BK101.out 0; have hfz6_1 := blk_frozen BK101.out 1) | ((with_reducible refine gate_callee (f := 50) rfl ?_); refine goesL_ (some 8) rfl rfl Try.func50 (by kernel_rfl) rfl #[.slice A0_1 l0_1.length c0_1, .int .i64 a1] rfl (by (try simp only [List.map_toArray, List.map_cons, List.map_nil]); first | done | rfl | (simp only [List.length_drop, List.length_take]; rfl)) ?_; (with_reducible refine (laws_szIntS.calls _ _ l0_1 a1 t102 _ ?side1 ?side2 A3.out).mono ?_); (case side1 => repeat (first | exact (Kd.C_below HR0_1.out HB.out) | (with_reducible refine Kd.C_alloc ?_ _) | (with_reducible refine Kd.C_drewN ?_ _) | (with_reducible refine Kd.C_drew ?_))); (case side2 => exact HC0_1.out); rintro e w' ⟨rfl, ⟨nd, rfl⟩⟩; refine ⟨_, rfl, ?_⟩))
    go_ret
    exact ⟨by first | rfl | (simp [errW_none, errW_some] <;> rfl) | (simp [*, errW_none, errW_some] <;> rfl), by repeat (first | (with_reducible first | exact HB.out | apply below_alloc | apply pw_below_drewN | apply below_drew1 | refine below_set ?_ GE101.out) | exact HB.out)⟩
  · rw [if_neg c4] at H
    have c4b0 : decide (t102 < 0) = false := decide_eq_false c4
    clear c4
    obtain rfl := Option.some.inj H
    simp only [Option.some.injEq, Prod.mk.injEq] at H
    obtain ⟨rfl⟩ := H
    go_enter Try.func31, Try.ntmps31
    go_wp2_with (first | ((with_reducible refine gate_dst (N := 2) rfl ?_); refine box_event ?hg (N := 2) ?hd (cs := #[.int .i64 a0_0, .slice A0_1 l0_1.length c0_1]) (t := 58) ?hr ?_; (case hd => rfl); (case hg => rfl); (case hr => first | (go_simp; done) | (go_simp; rfl)); intro gb101 hg w7 hbox hb; have n0_ := Aside0.mk (below_step (by repeat (first | (with_reducible first | exact HB.out | apply below_alloc | apply pw_below_drewN | apply below_drew1) | exact HB.out)) hb); have n1_ := Aside0.mk (hbox); have n2_ := Aside0.mk ((by rw [hg]; exact (below_size (by repeat (first | (with_reducible first | exact HB.out | apply below_alloc | apply pw_below_drewN | apply below_drew1) | exact HB.out))) : w.heap.size ≤ gb101)); have n3_ := Aside0.mk ((by rw [hg]; exact (below_size (by repeat (first | (with_reducible first | exact HB.out | apply below_alloc | apply pw_below_drewN | apply below_drew1) | exact HB.out))) : w.heap.size ≤ gb101)); clear HB; have HB := n0_; have BK101 := n1_; have GW101 := n2_; have GE101 := n3_; clear n0_ n1_ n2_ n3_; clear hb hbox hg; have hcz8_0 : w7.cell? ⟨gb101, 0, none⟩ = some (.int .i64 a0_0) := (blk_cell BK101.out 0).trans rfl; have hcz8_1 : w7.cell? ⟨gb101, 1, none⟩ = some (.slice A0_1 l0_1.length c0_1) := (blk_cell BK101.out 1).trans rfl; have hfz8_0 := blk_frozen BK101.out 0; have hfz8_1 := blk_frozen BK101.out 1) | ((with_reducible refine gate_callee (f := 50) rfl ?_); refine goesL_ (some 8) rfl rfl Try.func50 (by kernel_rfl) rfl #[.slice A0_1 l0_1.length c0_1, .int .i64 a1] rfl (by (try simp only [List.map_toArray, List.map_cons, List.map_nil]); first | done | rfl | (simp only [List.length_drop, List.length_take]; rfl)) ?_; (with_reducible refine (laws_szIntS.calls _ _ l0_1 a1 t102 _ ?side1 ?side2 A3.out).mono ?_); (case side1 => repeat (first | exact (Kd.C_below HR0_1.out HB.out) | (with_reducible refine Kd.C_alloc ?_ _) | (with_reducible refine Kd.C_drewN ?_ _) | (with_reducible refine Kd.C_drew ?_))); (case side2 => exact HC0_1.out); rintro e w' ⟨rfl, ⟨nd, rfl⟩⟩; refine ⟨_, rfl, ?_⟩))
    go_ret
    exact ⟨by first | rfl | (simp [errW_none, errW_some] <;> rfl) | (simp [*, errW_none, errW_some] <;> rfl), by repeat (first | (with_reducible first | exact HB.out | apply below_alloc | apply pw_below_drewN | apply below_drew1 | refine below_set ?_ GE101.out) | exact HB.out)⟩
end Go.Proofs.Ytedodaifpekahaa.P

end
section

namespace Go.Proofs.Ytedodaifpekahaa.P
open Go.RowKit Go.Proofs.YtedodaifpekahaaW.PrintWords Go.Proofs.YtedodaifpekahaaW.PrintLast Go.Proofs.YtedodaifpekahaaW.PrintMore
attribute [local go_sem] max2_int min2_int max_two min_two max_three min_three max_four min_four
set_option linter.unusedVariables false
set_option linter.unusedSimpArgs false
set_option maxHeartbeats 8000000 in
set_option maxRecDepth 100000 in
theorem laws_szClassS.calls (k : Nat) (A0 : Option Addr) (c0 : Nat) (l0 : List (S58)) (a1 : Int) (r : Int) (w : World) (hr0 : Kd.C k58 w A0 l0.length l0) (hc0 : l0.length ≤ c0) (h : laws_szClassS.f k l0 a1 = some r) :
    Calls Try.prog 12 #[.slice A0 l0.length c0, .int .i64 a1] w fun e w' => e = .returned (.int .i64 r) ∧ Below w.heap.size w w' := by
  have hu58 := Try.underlying58
  have HR0 := Aside0.mk hr0
  have HC0 := Aside0.mk hc0
  clear hr0 hc0
  have HB := Aside0.mk (Below.refl w.heap.size w)
  have H : (if (wrap64 (a1 - (l0.length : Int))) < 0 then (some (-1)) else (laws_szClassS.l0 k l0 (wrap64 (a1 - (l0.length : Int))) 0)) = some r := h
  clear h
  by_cases c3 : (wrap64 (a1 - (l0.length : Int))) < 0
  · rw [if_pos c3] at H
    have c3b0 : decide ((wrap64 (a1 - (l0.length : Int))) < 0) = true := decide_eq_true c3
    clear c3
    obtain rfl := Option.some.inj H
    simp only [Option.some.injEq, Prod.mk.injEq] at H
    obtain ⟨rfl⟩ := H
    go_enter Try.func12, Try.ntmps12
    go_wp2
    go_ret
    exact ⟨by first | rfl | (simp [errW_none, errW_some] <;> rfl) | (simp [*, errW_none, errW_some] <;> rfl), by repeat (first | (with_reducible first | exact HB.out | apply below_alloc | apply pw_below_drewN | apply below_drew1) | exact HB.out)⟩
  · rw [if_neg c3] at H
    have c3b0 : decide ((wrap64 (a1 - (l0.length : Int))) < 0) = false := decide_eq_false c3
    clear c3
    have H' := Aside0.mk H
    clear H
    go_enter Try.func12, Try.ntmps12
    go_wp2
    go_loopg [1, 5] k (fun kq v1 v5 w' => ∃ (x1_1 : Int) (x5_1 : Int), v1 = .int .i64 x1_1 ∧ v5 = .int .i64 x5_1 ∧ Aside0 (laws_szClassS.l0 kq l0 x1_1 x5_1 = some r) ∧ Aside0 (kq ≤ k) ∧ Aside0 (Below w.heap.size w w'))
    case atStart => exact ⟨(wrap64 (a1 - (l0.length : Int))), (0), (by first | rfl | (simp; done) | (simp [*]; done)), (by first | rfl | (simp; done) | (simp [*]; done)), H', ⟨Nat.le_refl _⟩, ⟨by repeat (first | (with_reducible first | exact HB.out | apply below_alloc | apply pw_below_drewN | apply below_drew1) | exact HB.out)⟩⟩
    case round =>
      clear H'
      try clear c1
      try clear p2
      try clear c3
      try clear c3b0
      obtain ⟨x1_1, x5_1, rfl, rfl, HA, HK1, HB⟩ := hrel
      cases gk with
      | zero => exact absurd HA.out (by simp [laws_szClassS.l0])
      | succ k1 =>
        have H := HA.out
        clear HA
        simp only [laws_szClassS.l0] at H
        by_cases c4 : x5_1 < (l0.length : Int)
        · rw [if_pos c4] at H
          have c4b0 : decide (x5_1 < (l0.length : Int)) = true := decide_eq_true c4
          clear c4
          by_cases c5 : 0 ≤ x5_1
          · rw [if_pos c5] at H
            have c5b0 : decide (0 ≤ x5_1) = true := decide_eq_true c5
            clear c5
            replace H := Option.bind_eq_some_iff.mp H
            obtain ⟨t104, A60, H⟩ := H
            replace H : (if t104 < 0 then (some (-1)) else (laws_szClassS.l0 k1 l0 t104 (wrap64 (x5_1 + 1)))) = some r := H
            have A6 := Aside0.mk A60
            clear A60
            by_cases c7 : t104 < 0
            · rw [if_pos c7] at H
              have c7b0 : decide (t104 < 0) = true := decide_eq_true c7
              clear c7
              obtain rfl := Option.some.inj H
              simp only [Option.some.injEq, Prod.mk.injEq] at H
              obtain ⟨rfl⟩ := H
              have p103 : 0 ≤ (x5_1 : Int) := of_decide_eq_true (by first | (with_reducible assumption) | assumption)
              have q103 : x5_1 < (l0.length : Int) := of_decide_eq_true (by first | (with_reducible assumption) | assumption)
              obtain ⟨ad103, A103_1, c103_1, e103, hx103_0, hx103_1, hl103_1, hi103_1⟩ := at_T58 HR0.out x5_1 p103 q103
              cases e103
              replace hx103_0 := (HB.out.cell (World.block_lt_of_cell? w _ hx103_0)).trans hx103_0
              replace hx103_1 := (HB.out.cell (World.block_lt_of_cell? w _ hx103_1)).trans hx103_1
              have HR103_1 := Aside0.mk hi103_1
              have HC103_1 := Aside0.mk hl103_1
              clear hi103_1 hl103_1
              replace p103 := eq_true p103
              replace q103 := eq_true q103
              go_wp2_with (first | ((with_reducible refine gate_callee (f := 31) rfl ?_); refine goesL_ (some 23) rfl rfl Try.func31 (by kernel_rfl) rfl #[.agg #[.int .i64 ((rd_T58 l0 x5_1).f0), .slice A103_1 ((rd_T58 l0 x5_1).f1).length c103_1], .int .i64 x1_1] rfl (by (try simp only [List.map_toArray, List.map_cons, List.map_nil]); first | done | rfl | (simp only [List.length_drop, List.length_take]; rfl)) ?_; (with_reducible refine (laws_szClass.calls ((rd_T58 l0 x5_1).f0) _ _ ((rd_T58 l0 x5_1).f1) x1_1 t104 _ ?side1 ?side2 A6.out).mono ?_); (case side1 => repeat (first | exact (Kd.C_below HR103_1.out HB.out) | (with_reducible refine Kd.C_alloc ?_ _) | (with_reducible refine Kd.C_drewN ?_ _) | (with_reducible refine Kd.C_drew ?_))); (case side2 => exact HC103_1.out); rintro e w8 ⟨rfl, hb⟩; refine ⟨_, rfl, ?_⟩; have n0_ := Aside0.mk (below_step (by repeat (first | (with_reducible first | exact HB.out | apply below_alloc | apply pw_below_drewN | apply below_drew1) | exact HB.out)) hb); clear HB; have HB := n0_; clear n0_; (try clear hb); (try clear hb2); (try clear hk); (try clear hi)))
              go_ret
              exact ⟨by first | rfl | (simp [errW_none, errW_some] <;> rfl) | (simp [*, errW_none, errW_some] <;> rfl), by repeat (first | (with_reducible first | exact HB.out | apply below_alloc | apply pw_below_drewN | apply below_drew1) | exact HB.out)⟩
            · rw [if_neg c7] at H
              have c7b0 : decide (t104 < 0) = false := decide_eq_false c7
              clear c7
              have H' := Aside0.mk H
              clear H
              have p103 : 0 ≤ (x5_1 : Int) := of_decide_eq_true (by first | (with_reducible assumption) | assumption)
              have q103 : x5_1 < (l0.length : Int) := of_decide_eq_true (by first | (with_reducible assumption) | assumption)
              obtain ⟨ad103, A103_1, c103_1, e103, hx103_0, hx103_1, hl103_1, hi103_1⟩ := at_T58 HR0.out x5_1 p103 q103
              cases e103
              replace hx103_0 := (HB.out.cell (World.block_lt_of_cell? w _ hx103_0)).trans hx103_0
              replace hx103_1 := (HB.out.cell (World.block_lt_of_cell? w _ hx103_1)).trans hx103_1
              have HR103_1 := Aside0.mk hi103_1
              have HC103_1 := Aside0.mk hl103_1
              clear hi103_1 hl103_1
              replace p103 := eq_true p103
              replace q103 := eq_true q103
              go_wp2_with (first | ((with_reducible refine gate_callee (f := 31) rfl ?_); refine goesL_ (some 23) rfl rfl Try.func31 (by kernel_rfl) rfl #[.agg #[.int .i64 ((rd_T58 l0 x5_1).f0), .slice A103_1 ((rd_T58 l0 x5_1).f1).length c103_1], .int .i64 x1_1] rfl (by (try simp only [List.map_toArray, List.map_cons, List.map_nil]); first | done | rfl | (simp only [List.length_drop, List.length_take]; rfl)) ?_; (with_reducible refine (laws_szClass.calls ((rd_T58 l0 x5_1).f0) _ _ ((rd_T58 l0 x5_1).f1) x1_1 t104 _ ?side1 ?side2 A6.out).mono ?_); (case side1 => repeat (first | exact (Kd.C_below HR103_1.out HB.out) | (with_reducible refine Kd.C_alloc ?_ _) | (with_reducible refine Kd.C_drewN ?_ _) | (with_reducible refine Kd.C_drew ?_))); (case side2 => exact HC103_1.out); rintro e w9 ⟨rfl, hb⟩; refine ⟨_, rfl, ?_⟩; have n0_ := Aside0.mk (below_step (by repeat (first | (with_reducible first | exact HB.out | apply below_alloc | apply pw_below_drewN | apply below_drew1) | exact HB.out)) hb); clear HB; have HB := n0_; clear n0_; (try clear hb); (try clear hb2); (try clear hk); (try clear hi)))
              go_roundg k1
              case measure => have := HK1.out; omega
              case rel => exact ⟨(t104), (wrap64 (x5_1 + 1)), (by first | rfl | (simp; done) | (simp [*]; done)), (by first | rfl | (simp; done) | (simp [*]; done)), H', ⟨by have := HK1.out; omega⟩, ⟨by repeat (first | (with_reducible first | exact HB.out | apply below_alloc | apply pw_below_drewN | apply below_drew1) | exact HB.out)⟩⟩
          · rw [if_neg c5] at H
            exact absurd H (by simp)
        · rw [if_neg c4] at H
          have c4b0 : decide (x5_1 < (l0.length : Int)) = false := decide_eq_false c4
          clear c4
          obtain rfl := Option.some.inj H
          simp only [Option.some.injEq, Prod.mk.injEq] at H
          obtain ⟨rfl⟩ := H
          go_wp2
          go_ret
          exact ⟨by first | rfl | (simp [errW_none, errW_some] <;> rfl) | (simp [*, errW_none, errW_some] <;> rfl), by repeat (first | (with_reducible first | exact HB.out | apply below_alloc | apply pw_below_drewN | apply below_drew1) | exact HB.out)⟩
end Go.Proofs.Ytedodaifpekahaa.P

end
section

namespace Go.Proofs.Ytedodaifpekahaa.P
open Go.RowKit Go.Proofs.YtedodaifpekahaaW.PrintWords Go.Proofs.YtedodaifpekahaaW.PrintLast Go.Proofs.YtedodaifpekahaaW.PrintMore
attribute [local go_sem] max2_int min2_int max_two min_two max_three min_three max_four min_four
set_option linter.unusedVariables false
set_option linter.unusedSimpArgs false
set_option maxHeartbeats 8000000 in
set_option maxRecDepth 100000 in
theorem laws_szInsS.calls (A0 : Option Addr) (c0 : Nat) (l0 : List (S113)) (a1 : Int) (r : Int) (w : World) (hr0 : Kd.C k113 w A0 l0.length l0) (hc0 : l0.length ≤ c0) (h : laws_szInsS.f l0 a1 = some r) :
    Calls Try.prog 51 #[.slice A0 l0.length c0, .int .i64 a1] w fun e w' => e = .returned (.int .i64 r) ∧ Drawn0 w w' := by
  have HR0 := Aside0.mk hr0
  have HC0 := Aside0.mk hc0
  clear hr0 hc0
  have H : (if (wrap64 (a1 - (l0.length : Int))) < 0 then (some (-1)) else (some (wrap64 (a1 - (l0.length : Int))))) = some r := h
  clear h
  by_cases c3 : (wrap64 (a1 - (l0.length : Int))) < 0
  · rw [if_pos c3] at H
    have c3b0 : decide ((wrap64 (a1 - (l0.length : Int))) < 0) = true := decide_eq_true c3
    clear c3
    obtain rfl := Option.some.inj H
    simp only [Option.some.injEq, Prod.mk.injEq] at H
    obtain ⟨rfl⟩ := H
    go_enter Try.func51, Try.ntmps51
    go_wp2
    go_ret
    exact ⟨by first | rfl | (simp; done) | (simp [*]; done), by repeat (first | exact Drawn0.refl _ | apply Drawn0.step)⟩
  · rw [if_neg c3] at H
    have c3b0 : decide ((wrap64 (a1 - (l0.length : Int))) < 0) = false := decide_eq_false c3
    clear c3
    obtain rfl := Option.some.inj H
    simp only [Option.some.injEq, Prod.mk.injEq] at H
    obtain ⟨rfl⟩ := H
    go_enter Try.func51, Try.ntmps51
    go_wp2
    go_ret
    exact ⟨by first | rfl | (simp; done) | (simp [*]; done), by repeat (first | exact Drawn0.refl _ | apply Drawn0.step)⟩
end Go.Proofs.Ytedodaifpekahaa.P

end
section

namespace Go.Proofs.Ytedodaifpekahaa.P
open Go.RowKit Go.Proofs.YtedodaifpekahaaW.PrintWords Go.Proofs.YtedodaifpekahaaW.PrintLast Go.Proofs.YtedodaifpekahaaW.PrintMore
attribute [local go_sem] max2_int min2_int max_two min_two max_three min_three max_four min_four
set_option linter.unusedVariables false
set_option linter.unusedSimpArgs false
set_option maxHeartbeats 8000000 in
set_option maxRecDepth 100000 in
theorem laws_szShape.calls (a0_0 : Bool) (A0_1 : Option Addr) (c0_1 : Nat) (l0_1 : List Int) (A0_2 : Option Addr) (c0_2 : Nat) (l0_2 : List Int) (a1 : Int) (r : Int) (w : World) (hr0_1 : Kd.C (Kd.int .i64) w A0_1 l0_1.length l0_1) (hc0_1 : l0_1.length ≤ c0_1) (hr0_2 : Kd.C (Kd.int .i64) w A0_2 l0_2.length l0_2) (hc0_2 : l0_2.length ≤ c0_2) (h : laws_szShape.f a0_0 l0_1 l0_2 a1 = some r) :
    Calls Try.prog 69 #[.agg #[.bool a0_0, .slice A0_1 l0_1.length c0_1, .slice A0_2 l0_2.length c0_2], .int .i64 a1] w fun e w' => e = .returned (.int .i64 r) ∧ Below w.heap.size w w' := by
  have hu111 := Try.underlying111
  have HR0_1 := Aside0.mk hr0_1
  have HC0_1 := Aside0.mk hc0_1
  clear hr0_1 hc0_1
  have HR0_2 := Aside0.mk hr0_2
  have HC0_2 := Aside0.mk hc0_2
  clear hr0_2 hc0_2
  have HB := Aside0.mk (Below.refl w.heap.size w)
  have H : ((laws_szIntS.f l0_1 a1).bind fun t106 => (if t106 < 0 then (some (-1)) else ((laws_szIntS.f l0_2 t106).bind fun t107 => (if t107 < 0 then (some (-1)) else (some t107))))) = some r := h
  clear h
  replace H := Option.bind_eq_some_iff.mp H
  obtain ⟨t106, A30, H⟩ := H
  replace H : (if t106 < 0 then (some (-1)) else ((laws_szIntS.f l0_2 t106).bind fun t107 => (if t107 < 0 then (some (-1)) else (some t107)))) = some r := H
  have A3 := Aside0.mk A30
  clear A30
  by_cases c4 : t106 < 0
  · rw [if_pos c4] at H
    have c4b0 : decide (t106 < 0) = true := decide_eq_true c4
    clear c4
    obtain rfl := Option.some.inj H
    simp only [Option.some.injEq, Prod.mk.injEq] at H
    obtain ⟨rfl⟩ := H
    go_enter Try.func69, Try.ntmps69
    go_wp2_with (first | ((with_reducible refine gate_dst (N := 2) rfl ?_); refine box_event ?hg (N := 2) ?hd (cs := #[.bool a0_0, .slice A0_1 l0_1.length c0_1, .slice A0_2 l0_2.length c0_2]) (t := 111) ?hr ?_; (case hd => rfl); (case hg => rfl); (case hr => first | (go_simp; done) | (go_simp; rfl)); intro gb105 hg w5 hbox hb; have n0_ := Aside0.mk (below_step (by repeat (first | (with_reducible first | exact HB.out | apply below_alloc | apply pw_below_drewN | apply below_drew1) | exact HB.out)) hb); have n1_ := Aside0.mk (hbox); have n2_ := Aside0.mk ((by rw [hg]; exact (below_size (by repeat (first | (with_reducible first | exact HB.out | apply below_alloc | apply pw_below_drewN | apply below_drew1) | exact HB.out))) : w.heap.size ≤ gb105)); have n3_ := Aside0.mk ((by rw [hg]; exact (below_size (by repeat (first | (with_reducible first | exact HB.out | apply below_alloc | apply pw_below_drewN | apply below_drew1) | exact HB.out))) : w.heap.size ≤ gb105)); clear HB; have HB := n0_; have BK105 := n1_; have GW105 := n2_; have GE105 := n3_; clear n0_ n1_ n2_ n3_; clear hb hbox hg; have hcz6_0 : w5.cell? ⟨gb105, 0, none⟩ = some (.bool a0_0) := (blk_cell BK105.out 0).trans rfl; have hcz6_1 : w5.cell? ⟨gb105, 1, none⟩ = some (.slice A0_1 l0_1.length c0_1) := (blk_cell BK105.out 1).trans rfl; have hcz6_2 : w5.cell? ⟨gb105, 2, none⟩ = some (.slice A0_2 l0_2.length c0_2) := (blk_cell BK105.out 2).trans rfl; have hfz6_0 := blk_frozen BK105.out 0; have hfz6_1 := blk_frozen BK105.out 1; have hfz6_2 := blk_frozen BK105.out 2) | ((with_reducible refine gate_callee (f := 50) rfl ?_); refine goesL_ (some 8) rfl rfl Try.func50 (by kernel_rfl) rfl #[.slice A0_1 l0_1.length c0_1, .int .i64 a1] rfl (by (try simp only [List.map_toArray, List.map_cons, List.map_nil]); first | done | rfl | (simp only [List.length_drop, List.length_take]; rfl)) ?_; (with_reducible refine (laws_szIntS.calls _ _ l0_1 a1 t106 _ ?side1 ?side2 A3.out).mono ?_); (case side1 => repeat (first | exact (Kd.C_below HR0_1.out HB.out) | (with_reducible refine Kd.C_alloc ?_ _) | (with_reducible refine Kd.C_drewN ?_ _) | (with_reducible refine Kd.C_drew ?_))); (case side2 => exact HC0_1.out); rintro e w' ⟨rfl, ⟨nd, rfl⟩⟩; refine ⟨_, rfl, ?_⟩))
    go_ret
    exact ⟨by first | rfl | (simp [errW_none, errW_some] <;> rfl) | (simp [*, errW_none, errW_some] <;> rfl), by repeat (first | (with_reducible first | exact HB.out | apply below_alloc | apply pw_below_drewN | apply below_drew1 | refine below_set ?_ GE105.out) | exact HB.out)⟩
  · rw [if_neg c4] at H
    have c4b0 : decide (t106 < 0) = false := decide_eq_false c4
    clear c4
    replace H := Option.bind_eq_some_iff.mp H
    obtain ⟨t107, A70, H⟩ := H
    replace H : (if t107 < 0 then (some (-1)) else (some t107)) = some r := H
    have A7 := Aside0.mk A70
    clear A70
    by_cases c8 : t107 < 0
    · rw [if_pos c8] at H
      have c8b0 : decide (t107 < 0) = true := decide_eq_true c8
      clear c8
      obtain rfl := Option.some.inj H
      simp only [Option.some.injEq, Prod.mk.injEq] at H
      obtain ⟨rfl⟩ := H
      go_enter Try.func69, Try.ntmps69
      go_wp2_with (first | ((with_reducible refine gate_dst (N := 2) rfl ?_); refine box_event ?hg (N := 2) ?hd (cs := #[.bool a0_0, .slice A0_1 l0_1.length c0_1, .slice A0_2 l0_2.length c0_2]) (t := 111) ?hr ?_; (case hd => rfl); (case hg => rfl); (case hr => first | (go_simp; done) | (go_simp; rfl)); intro gb105 hg w9 hbox hb; have n0_ := Aside0.mk (below_step (by repeat (first | (with_reducible first | exact HB.out | apply below_alloc | apply pw_below_drewN | apply below_drew1) | exact HB.out)) hb); have n1_ := Aside0.mk (hbox); have n2_ := Aside0.mk ((by rw [hg]; exact (below_size (by repeat (first | (with_reducible first | exact HB.out | apply below_alloc | apply pw_below_drewN | apply below_drew1) | exact HB.out))) : w.heap.size ≤ gb105)); have n3_ := Aside0.mk ((by rw [hg]; exact (below_size (by repeat (first | (with_reducible first | exact HB.out | apply below_alloc | apply pw_below_drewN | apply below_drew1) | exact HB.out))) : w.heap.size ≤ gb105)); clear HB; have HB := n0_; have BK105 := n1_; have GW105 := n2_; have GE105 := n3_; clear n0_ n1_ n2_ n3_; clear hb hbox hg; have hcz10_0 : w9.cell? ⟨gb105, 0, none⟩ = some (.bool a0_0) := (blk_cell BK105.out 0).trans rfl; have hcz10_1 : w9.cell? ⟨gb105, 1, none⟩ = some (.slice A0_1 l0_1.length c0_1) := (blk_cell BK105.out 1).trans rfl; have hcz10_2 : w9.cell? ⟨gb105, 2, none⟩ = some (.slice A0_2 l0_2.length c0_2) := (blk_cell BK105.out 2).trans rfl; have hfz10_0 := blk_frozen BK105.out 0; have hfz10_1 := blk_frozen BK105.out 1; have hfz10_2 := blk_frozen BK105.out 2) | ((with_reducible refine gate_callee (f := 50) rfl ?_); refine goesL_ (some 8) rfl rfl Try.func50 (by kernel_rfl) rfl #[.slice A0_1 l0_1.length c0_1, .int .i64 a1] rfl (by (try simp only [List.map_toArray, List.map_cons, List.map_nil]); first | done | rfl | (simp only [List.length_drop, List.length_take]; rfl)) ?_; (with_reducible refine (laws_szIntS.calls _ _ l0_1 a1 t106 _ ?side1 ?side2 A3.out).mono ?_); (case side1 => repeat (first | exact (Kd.C_below HR0_1.out HB.out) | (with_reducible refine Kd.C_alloc ?_ _) | (with_reducible refine Kd.C_drewN ?_ _) | (with_reducible refine Kd.C_drew ?_))); (case side2 => exact HC0_1.out); rintro e w' ⟨rfl, ⟨nd, rfl⟩⟩; refine ⟨_, rfl, ?_⟩) | ((with_reducible refine gate_callee (f := 50) rfl ?_); refine goesL_ (some 14) rfl rfl Try.func50 (by kernel_rfl) rfl #[.slice A0_2 l0_2.length c0_2, .int .i64 t106] rfl (by (try simp only [List.map_toArray, List.map_cons, List.map_nil]); first | done | rfl | (simp only [List.length_drop, List.length_take]; rfl)) ?_; (with_reducible refine (laws_szIntS.calls _ _ l0_2 t106 t107 _ ?side1 ?side2 A7.out).mono ?_); (case side1 => repeat (first | exact (Kd.C_below HR0_2.out (by repeat (first | (with_reducible first | exact HB.out | apply below_alloc | apply pw_below_drewN | apply below_drew1 | refine below_set ?_ GE105.out) | exact HB.out))) | (with_reducible refine Kd.C_alloc ?_ _) | (with_reducible refine Kd.C_drewN ?_ _) | (with_reducible refine Kd.C_drew ?_))); (case side2 => exact HC0_2.out); rintro e w' ⟨rfl, ⟨nd, rfl⟩⟩; refine ⟨_, rfl, ?_⟩))
      go_ret
      exact ⟨by first | rfl | (simp [errW_none, errW_some] <;> rfl) | (simp [*, errW_none, errW_some] <;> rfl), by repeat (first | (with_reducible first | exact HB.out | apply below_alloc | apply pw_below_drewN | apply below_drew1 | refine below_set ?_ GE105.out) | exact HB.out)⟩
    · rw [if_neg c8] at H
      have c8b0 : decide (t107 < 0) = false := decide_eq_false c8
      clear c8
      obtain rfl := Option.some.inj H
      simp only [Option.some.injEq, Prod.mk.injEq] at H
      obtain ⟨rfl⟩ := H
      go_enter Try.func69, Try.ntmps69
      go_wp2_with (first | ((with_reducible refine gate_dst (N := 2) rfl ?_); refine box_event ?hg (N := 2) ?hd (cs := #[.bool a0_0, .slice A0_1 l0_1.length c0_1, .slice A0_2 l0_2.length c0_2]) (t := 111) ?hr ?_; (case hd => rfl); (case hg => rfl); (case hr => first | (go_simp; done) | (go_simp; rfl)); intro gb105 hg w11 hbox hb; have n0_ := Aside0.mk (below_step (by repeat (first | (with_reducible first | exact HB.out | apply below_alloc | apply pw_below_drewN | apply below_drew1) | exact HB.out)) hb); have n1_ := Aside0.mk (hbox); have n2_ := Aside0.mk ((by rw [hg]; exact (below_size (by repeat (first | (with_reducible first | exact HB.out | apply below_alloc | apply pw_below_drewN | apply below_drew1) | exact HB.out))) : w.heap.size ≤ gb105)); have n3_ := Aside0.mk ((by rw [hg]; exact (below_size (by repeat (first | (with_reducible first | exact HB.out | apply below_alloc | apply pw_below_drewN | apply below_drew1) | exact HB.out))) : w.heap.size ≤ gb105)); clear HB; have HB := n0_; have BK105 := n1_; have GW105 := n2_; have GE105 := n3_; clear n0_ n1_ n2_ n3_; clear hb hbox hg; have hcz12_0 : w11.cell? ⟨gb105, 0, none⟩ = some (.bool a0_0) := (blk_cell BK105.out 0).trans rfl; have hcz12_1 : w11.cell? ⟨gb105, 1, none⟩ = some (.slice A0_1 l0_1.length c0_1) := (blk_cell BK105.out 1).trans rfl; have hcz12_2 : w11.cell? ⟨gb105, 2, none⟩ = some (.slice A0_2 l0_2.length c0_2) := (blk_cell BK105.out 2).trans rfl; have hfz12_0 := blk_frozen BK105.out 0; have hfz12_1 := blk_frozen BK105.out 1; have hfz12_2 := blk_frozen BK105.out 2) | ((with_reducible refine gate_callee (f := 50) rfl ?_); refine goesL_ (some 8) rfl rfl Try.func50 (by kernel_rfl) rfl #[.slice A0_1 l0_1.length c0_1, .int .i64 a1] rfl (by (try simp only [List.map_toArray, List.map_cons, List.map_nil]); first | done | rfl | (simp only [List.length_drop, List.length_take]; rfl)) ?_; (with_reducible refine (laws_szIntS.calls _ _ l0_1 a1 t106 _ ?side1 ?side2 A3.out).mono ?_); (case side1 => repeat (first | exact (Kd.C_below HR0_1.out HB.out) | (with_reducible refine Kd.C_alloc ?_ _) | (with_reducible refine Kd.C_drewN ?_ _) | (with_reducible refine Kd.C_drew ?_))); (case side2 => exact HC0_1.out); rintro e w' ⟨rfl, ⟨nd, rfl⟩⟩; refine ⟨_, rfl, ?_⟩) | ((with_reducible refine gate_callee (f := 50) rfl ?_); refine goesL_ (some 14) rfl rfl Try.func50 (by kernel_rfl) rfl #[.slice A0_2 l0_2.length c0_2, .int .i64 t106] rfl (by (try simp only [List.map_toArray, List.map_cons, List.map_nil]); first | done | rfl | (simp only [List.length_drop, List.length_take]; rfl)) ?_; (with_reducible refine (laws_szIntS.calls _ _ l0_2 t106 t107 _ ?side1 ?side2 A7.out).mono ?_); (case side1 => repeat (first | exact (Kd.C_below HR0_2.out (by repeat (first | (with_reducible first | exact HB.out | apply below_alloc | apply pw_below_drewN | apply below_drew1 | refine below_set ?_ GE105.out) | exact HB.out))) | (with_reducible refine Kd.C_alloc ?_ _) | (with_reducible refine Kd.C_drewN ?_ _) | (with_reducible refine Kd.C_drew ?_))); (case side2 => exact HC0_2.out); rintro e w' ⟨rfl, ⟨nd, rfl⟩⟩; refine ⟨_, rfl, ?_⟩))
      go_ret
      exact ⟨by first | rfl | (simp [errW_none, errW_some] <;> rfl) | (simp [*, errW_none, errW_some] <;> rfl), by repeat (first | (with_reducible first | exact HB.out | apply below_alloc | apply pw_below_drewN | apply below_drew1 | refine below_set ?_ GE105.out) | exact HB.out)⟩
end Go.Proofs.Ytedodaifpekahaa.P

end
section

namespace Go.Proofs.Ytedodaifpekahaa.P
open Go.RowKit Go.Proofs.YtedodaifpekahaaW.PrintWords Go.Proofs.YtedodaifpekahaaW.PrintLast Go.Proofs.YtedodaifpekahaaW.PrintMore
attribute [local go_sem] max2_int min2_int max_two min_two max_three min_three max_four min_four
set_option linter.unusedVariables false
set_option linter.unusedSimpArgs false
set_option maxHeartbeats 8000000 in
set_option maxRecDepth 100000 in
theorem laws_szShapeS.calls (k : Nat) (A0 : Option Addr) (c0 : Nat) (l0 : List (S111)) (a1 : Int) (r : Int) (w : World) (hr0 : Kd.C k111 w A0 l0.length l0) (hc0 : l0.length ≤ c0) (h : laws_szShapeS.f k l0 a1 = some r) :
    Calls Try.prog 52 #[.slice A0 l0.length c0, .int .i64 a1] w fun e w' => e = .returned (.int .i64 r) ∧ Below w.heap.size w w' := by
  have hu111 := Try.underlying111
  have HR0 := Aside0.mk hr0
  have HC0 := Aside0.mk hc0
  clear hr0 hc0
  have HB := Aside0.mk (Below.refl w.heap.size w)
  have H : (if (wrap64 (a1 - (l0.length : Int))) < 0 then (some (-1)) else (laws_szShapeS.l0 k l0 (wrap64 (a1 - (l0.length : Int))) 0)) = some r := h
  clear h
  by_cases c3 : (wrap64 (a1 - (l0.length : Int))) < 0
  · rw [if_pos c3] at H
    have c3b0 : decide ((wrap64 (a1 - (l0.length : Int))) < 0) = true := decide_eq_true c3
    clear c3
    obtain rfl := Option.some.inj H
    simp only [Option.some.injEq, Prod.mk.injEq] at H
    obtain ⟨rfl⟩ := H
    go_enter Try.func52, Try.ntmps52
    go_wp2
    go_ret
    exact ⟨by first | rfl | (simp [errW_none, errW_some] <;> rfl) | (simp [*, errW_none, errW_some] <;> rfl), by repeat (first | (with_reducible first | exact HB.out | apply below_alloc | apply pw_below_drewN | apply below_drew1) | exact HB.out)⟩
  · rw [if_neg c3] at H
    have c3b0 : decide ((wrap64 (a1 - (l0.length : Int))) < 0) = false := decide_eq_false c3
    clear c3
    have H' := Aside0.mk H
    clear H
    go_enter Try.func52, Try.ntmps52
    go_wp2
    go_loopg [1, 5] k (fun kq v1 v5 w' => ∃ (x1_1 : Int) (x5_1 : Int), v1 = .int .i64 x1_1 ∧ v5 = .int .i64 x5_1 ∧ Aside0 (laws_szShapeS.l0 kq l0 x1_1 x5_1 = some r) ∧ Aside0 (kq ≤ k) ∧ Aside0 (Below w.heap.size w w'))
    case atStart => exact ⟨(wrap64 (a1 - (l0.length : Int))), (0), (by first | rfl | (simp; done) | (simp [*]; done)), (by first | rfl | (simp; done) | (simp [*]; done)), H', ⟨Nat.le_refl _⟩, ⟨by repeat (first | (with_reducible first | exact HB.out | apply below_alloc | apply pw_below_drewN | apply below_drew1) | exact HB.out)⟩⟩
    case round =>
      clear H'
      try clear p2
      try clear c3
      try clear c3b0
      obtain ⟨x1_1, x5_1, rfl, rfl, HA, HK1, HB⟩ := hrel
      cases gk with
      | zero => exact absurd HA.out (by simp [laws_szShapeS.l0])
      | succ k1 =>
        have H := HA.out
        clear HA
        simp only [laws_szShapeS.l0] at H
        by_cases c4 : x5_1 < (l0.length : Int)
        · rw [if_pos c4] at H
          have c4b0 : decide (x5_1 < (l0.length : Int)) = true := decide_eq_true c4
          clear c4
          by_cases c5 : 0 ≤ x5_1
          · rw [if_pos c5] at H
            have c5b0 : decide (0 ≤ x5_1) = true := decide_eq_true c5
            clear c5
            replace H := Option.bind_eq_some_iff.mp H
            obtain ⟨t109, A60, H⟩ := H
            replace H : (if t109 < 0 then (some (-1)) else (laws_szShapeS.l0 k1 l0 t109 (wrap64 (x5_1 + 1)))) = some r := H
            have A6 := Aside0.mk A60
            clear A60
            by_cases c7 : t109 < 0
            · rw [if_pos c7] at H
              have c7b0 : decide (t109 < 0) = true := decide_eq_true c7
              clear c7
              obtain rfl := Option.some.inj H
              simp only [Option.some.injEq, Prod.mk.injEq] at H
              obtain ⟨rfl⟩ := H
              have p108 : 0 ≤ (x5_1 : Int) := of_decide_eq_true (by first | (with_reducible assumption) | assumption)
              have q108 : x5_1 < (l0.length : Int) := of_decide_eq_true (by first | (with_reducible assumption) | assumption)
              obtain ⟨ad108, A108_1, c108_1, A108_2, c108_2, e108, hx108_0, hx108_1, hx108_2, hl108_1, hi108_1, hl108_2, hi108_2⟩ := at_T111 HR0.out x5_1 p108 q108
              cases e108
              replace hx108_0 := (HB.out.cell (World.block_lt_of_cell? w _ hx108_0)).trans hx108_0
              replace hx108_1 := (HB.out.cell (World.block_lt_of_cell? w _ hx108_1)).trans hx108_1
              replace hx108_2 := (HB.out.cell (World.block_lt_of_cell? w _ hx108_2)).trans hx108_2
              have HR108_1 := Aside0.mk hi108_1
              have HC108_1 := Aside0.mk hl108_1
              clear hi108_1 hl108_1
              have HR108_2 := Aside0.mk hi108_2
              have HC108_2 := Aside0.mk hl108_2
              clear hi108_2 hl108_2
              replace p108 := eq_true p108
              replace q108 := eq_true q108
              go_wp2_with (first | ((with_reducible refine gate_callee (f := 69) rfl ?_); refine goesL_ (some 23) rfl rfl Try.func69 (by kernel_rfl) rfl #[.agg #[.bool ((rd_T111 l0 x5_1).f0), .slice A108_1 ((rd_T111 l0 x5_1).f1).length c108_1, .slice A108_2 ((rd_T111 l0 x5_1).f2).length c108_2], .int .i64 x1_1] rfl (by (try simp only [List.map_toArray, List.map_cons, List.map_nil]); first | done | rfl | (simp only [List.length_drop, List.length_take]; rfl)) ?_; (with_reducible refine (laws_szShape.calls ((rd_T111 l0 x5_1).f0) _ _ ((rd_T111 l0 x5_1).f1) _ _ ((rd_T111 l0 x5_1).f2) x1_1 t109 _ ?side1 ?side2 ?side3 ?side4 A6.out).mono ?_); (case side1 => repeat (first | exact (Kd.C_below HR108_1.out HB.out) | (with_reducible refine Kd.C_alloc ?_ _) | (with_reducible refine Kd.C_drewN ?_ _) | (with_reducible refine Kd.C_drew ?_))); (case side2 => exact HC108_1.out); (case side3 => repeat (first | exact (Kd.C_below HR108_2.out HB.out) | (with_reducible refine Kd.C_alloc ?_ _) | (with_reducible refine Kd.C_drewN ?_ _) | (with_reducible refine Kd.C_drew ?_))); (case side4 => exact HC108_2.out); rintro e w8 ⟨rfl, hb⟩; refine ⟨_, rfl, ?_⟩; have n0_ := Aside0.mk (below_step (by repeat (first | (with_reducible first | exact HB.out | apply below_alloc | apply pw_below_drewN | apply below_drew1) | exact HB.out)) hb); clear HB; have HB := n0_; clear n0_; (try clear hb); (try clear hb2); (try clear hk); (try clear hi)))
              go_ret
              exact ⟨by first | rfl | (simp [errW_none, errW_some] <;> rfl) | (simp [*, errW_none, errW_some] <;> rfl), by repeat (first | (with_reducible first | exact HB.out | apply below_alloc | apply pw_below_drewN | apply below_drew1) | exact HB.out)⟩
            · rw [if_neg c7] at H
              have c7b0 : decide (t109 < 0) = false := decide_eq_false c7
              clear c7
              have H' := Aside0.mk H
              clear H
              have p108 : 0 ≤ (x5_1 : Int) := of_decide_eq_true (by first | (with_reducible assumption) | assumption)
              have q108 : x5_1 < (l0.length : Int) := of_decide_eq_true (by first | (with_reducible assumption) | assumption)
              obtain ⟨ad108, A108_1, c108_1, A108_2, c108_2, e108, hx108_0, hx108_1, hx108_2, hl108_1, hi108_1, hl108_2, hi108_2⟩ := at_T111 HR0.out x5_1 p108 q108
              cases e108
              replace hx108_0 := (HB.out.cell (World.block_lt_of_cell? w _ hx108_0)).trans hx108_0
              replace hx108_1 := (HB.out.cell (World.block_lt_of_cell? w _ hx108_1)).trans hx108_1
              replace hx108_2 := (HB.out.cell (World.block_lt_of_cell? w _ hx108_2)).trans hx108_2
              have HR108_1 := Aside0.mk hi108_1
              have HC108_1 := Aside0.mk hl108_1
              clear hi108_1 hl108_1
              have HR108_2 := Aside0.mk hi108_2
              have HC108_2 := Aside0.mk hl108_2
              clear hi108_2 hl108_2
              replace p108 := eq_true p108
              replace q108 := eq_true q108
              go_wp2_with (first | ((with_reducible refine gate_callee (f := 69) rfl ?_); refine goesL_ (some 23) rfl rfl Try.func69 (by kernel_rfl) rfl #[.agg #[.bool ((rd_T111 l0 x5_1).f0), .slice A108_1 ((rd_T111 l0 x5_1).f1).length c108_1, .slice A108_2 ((rd_T111 l0 x5_1).f2).length c108_2], .int .i64 x1_1] rfl (by (try simp only [List.map_toArray, List.map_cons, List.map_nil]); first | done | rfl | (simp only [List.length_drop, List.length_take]; rfl)) ?_; (with_reducible refine (laws_szShape.calls ((rd_T111 l0 x5_1).f0) _ _ ((rd_T111 l0 x5_1).f1) _ _ ((rd_T111 l0 x5_1).f2) x1_1 t109 _ ?side1 ?side2 ?side3 ?side4 A6.out).mono ?_); (case side1 => repeat (first | exact (Kd.C_below HR108_1.out HB.out) | (with_reducible refine Kd.C_alloc ?_ _) | (with_reducible refine Kd.C_drewN ?_ _) | (with_reducible refine Kd.C_drew ?_))); (case side2 => exact HC108_1.out); (case side3 => repeat (first | exact (Kd.C_below HR108_2.out HB.out) | (with_reducible refine Kd.C_alloc ?_ _) | (with_reducible refine Kd.C_drewN ?_ _) | (with_reducible refine Kd.C_drew ?_))); (case side4 => exact HC108_2.out); rintro e w9 ⟨rfl, hb⟩; refine ⟨_, rfl, ?_⟩; have n0_ := Aside0.mk (below_step (by repeat (first | (with_reducible first | exact HB.out | apply below_alloc | apply pw_below_drewN | apply below_drew1) | exact HB.out)) hb); clear HB; have HB := n0_; clear n0_; (try clear hb); (try clear hb2); (try clear hk); (try clear hi)))
              go_roundg k1
              case measure => have := HK1.out; omega
              case rel => exact ⟨(t109), (wrap64 (x5_1 + 1)), (by first | rfl | (simp; done) | (simp [*]; done)), (by first | rfl | (simp; done) | (simp [*]; done)), H', ⟨by have := HK1.out; omega⟩, ⟨by repeat (first | (with_reducible first | exact HB.out | apply below_alloc | apply pw_below_drewN | apply below_drew1) | exact HB.out)⟩⟩
          · rw [if_neg c5] at H
            exact absurd H (by simp)
        · rw [if_neg c4] at H
          have c4b0 : decide (x5_1 < (l0.length : Int)) = false := decide_eq_false c4
          clear c4
          obtain rfl := Option.some.inj H
          simp only [Option.some.injEq, Prod.mk.injEq] at H
          obtain ⟨rfl⟩ := H
          go_wp2
          go_ret
          exact ⟨by first | rfl | (simp [errW_none, errW_some] <;> rfl) | (simp [*, errW_none, errW_some] <;> rfl), by repeat (first | (with_reducible first | exact HB.out | apply below_alloc | apply pw_below_drewN | apply below_drew1) | exact HB.out)⟩
end Go.Proofs.Ytedodaifpekahaa.P

end
section

namespace Go.Proofs.Ytedodaifpekahaa.P
open Go.RowKit Go.Proofs.YtedodaifpekahaaW.PrintWords Go.Proofs.YtedodaifpekahaaW.PrintLast Go.Proofs.YtedodaifpekahaaW.PrintMore
attribute [local go_sem] max2_int min2_int max_two min_two max_three min_three max_four min_four
set_option linter.unusedVariables false
set_option linter.unusedSimpArgs false
set_option maxHeartbeats 8000000 in
set_option maxRecDepth 100000 in
theorem laws_szCatchS.calls (A0 : Option Addr) (c0 : Nat) (l0 : List (S116)) (a1 : Int) (r : Int) (w : World) (hr0 : Kd.C k116 w A0 l0.length l0) (hc0 : l0.length ≤ c0) (h : laws_szCatchS.f l0 a1 = some r) :
    Calls Try.prog 53 #[.slice A0 l0.length c0, .int .i64 a1] w fun e w' => e = .returned (.int .i64 r) ∧ Drawn0 w w' := by
  have HR0 := Aside0.mk hr0
  have HC0 := Aside0.mk hc0
  clear hr0 hc0
  have H : (if (wrap64 (a1 - (l0.length : Int))) < 0 then (some (-1)) else (some (wrap64 (a1 - (l0.length : Int))))) = some r := h
  clear h
  by_cases c3 : (wrap64 (a1 - (l0.length : Int))) < 0
  · rw [if_pos c3] at H
    have c3b0 : decide ((wrap64 (a1 - (l0.length : Int))) < 0) = true := decide_eq_true c3
    clear c3
    obtain rfl := Option.some.inj H
    simp only [Option.some.injEq, Prod.mk.injEq] at H
    obtain ⟨rfl⟩ := H
    go_enter Try.func53, Try.ntmps53
    go_wp2
    go_ret
    exact ⟨by first | rfl | (simp; done) | (simp [*]; done), by repeat (first | exact Drawn0.refl _ | apply Drawn0.step)⟩
  · rw [if_neg c3] at H
    have c3b0 : decide ((wrap64 (a1 - (l0.length : Int))) < 0) = false := decide_eq_false c3
    clear c3
    obtain rfl := Option.some.inj H
    simp only [Option.some.injEq, Prod.mk.injEq] at H
    obtain ⟨rfl⟩ := H
    go_enter Try.func53, Try.ntmps53
    go_wp2
    go_ret
    exact ⟨by first | rfl | (simp; done) | (simp [*]; done), by repeat (first | exact Drawn0.refl _ | apply Drawn0.step)⟩
end Go.Proofs.Ytedodaifpekahaa.P

end
section

namespace Go.Proofs.Ytedodaifpekahaa.P
open Go.RowKit Go.Proofs.YtedodaifpekahaaW.PrintWords Go.Proofs.YtedodaifpekahaaW.PrintLast Go.Proofs.YtedodaifpekahaaW.PrintMore
attribute [local go_sem] max2_int min2_int max_two min_two max_three min_three max_four min_four
set_option linter.unusedVariables false
set_option linter.unusedSimpArgs false
set_option maxHeartbeats 8000000 in
set_option maxRecDepth 100000 in
theorem laws_szMethod.calls (k : Nat) (a0_0 : Int) (a0_1 : Int) (A0_2 : Option Addr) (c0_2 : Nat) (l0_2 : List Int) (a0_3 : Int) (a0_4 : Int) (A0_5 : Option Addr) (c0_5 : Nat) (l0_5 : List (S113)) (A0_6 : Option Addr) (c0_6 : Nat) (l0_6 : List (S111)) (A0_7 : Option Addr) (c0_7 : Nat) (l0_7 : List (S116)) (a1 : Int) (r : Int) (w : World) (hr0_2 : Kd.C (Kd.int .i64) w A0_2 l0_2.length l0_2) (hc0_2 : l0_2.length ≤ c0_2) (hr0_5 : Kd.C k113 w A0_5 l0_5.length l0_5) (hc0_5 : l0_5.length ≤ c0_5) (hr0_6 : Kd.C k111 w A0_6 l0_6.length l0_6) (hc0_6 : l0_6.length ≤ c0_6) (hr0_7 : Kd.C k116 w A0_7 l0_7.length l0_7) (hc0_7 : l0_7.length ≤ c0_7) (h : laws_szMethod.f k a0_0 a0_1 l0_2 a0_3 a0_4 l0_5 l0_6 l0_7 a1 = some r) :
    Calls Try.prog 32 #[.agg #[.int .i64 a0_0, .int .i64 a0_1, .slice A0_2 l0_2.length c0_2, .int .i64 a0_3, .int .i64 a0_4, .slice A0_5 l0_5.length c0_5, .slice A0_6 l0_6.length c0_6, .slice A0_7 l0_7.length c0_7], .int .i64 a1] w fun e w' => e = .returned (.int .i64 r) ∧ Below w.heap.size w w' := by
  have hu64 := Try.underlying64
  have HR0_2 := Aside0.mk hr0_2
  have HC0_2 := Aside0.mk hc0_2
  clear hr0_2 hc0_2
  have HR0_5 := Aside0.mk hr0_5
  have HC0_5 := Aside0.mk hc0_5
  clear hr0_5 hc0_5
  have HR0_6 := Aside0.mk hr0_6
  have HC0_6 := Aside0.mk hc0_6
  clear hr0_6 hc0_6
  have HR0_7 := Aside0.mk hr0_7
  have HC0_7 := Aside0.mk hc0_7
  clear hr0_7 hc0_7
  have HB := Aside0.mk (Below.refl w.heap.size w)
  have H : ((laws_szIntS.f l0_2 a1).bind fun t111 => (if t111 < 0 then (some (-1)) else ((laws_szInsS.f l0_5 t111).bind fun t112 => (if t112 < 0 then (some (-1)) else ((laws_szShapeS.f k l0_6 t112).bind fun t113 => (if t113 < 0 then (some (-1)) else ((laws_szCatchS.f l0_7 t113).bind fun t114 => (if t114 < 0 then (some (-1)) else (some t114))))))))) = some r := h
  clear h
  replace H := Option.bind_eq_some_iff.mp H
  obtain ⟨t111, A30, H⟩ := H
  replace H : (if t111 < 0 then (some (-1)) else ((laws_szInsS.f l0_5 t111).bind fun t112 => (if t112 < 0 then (some (-1)) else ((laws_szShapeS.f k l0_6 t112).bind fun t113 => (if t113 < 0 then (some (-1)) else ((laws_szCatchS.f l0_7 t113).bind fun t114 => (if t114 < 0 then (some (-1)) else (some t114)))))))) = some r := H
  have A3 := Aside0.mk A30
  clear A30
  by_cases c4 : t111 < 0
  · rw [if_pos c4] at H
    have c4b0 : decide (t111 < 0) = true := decide_eq_true c4
    clear c4
    obtain rfl := Option.some.inj H
    simp only [Option.some.injEq, Prod.mk.injEq] at H
    obtain ⟨rfl⟩ := H
    go_enter Try.func32, Try.ntmps32
    go_wp2_with (first | ((with_reducible refine gate_dst (N := 2) rfl ?_); refine box_event ?hg (N := 2) ?hd (cs := #[.int .i64 a0_0, .int .i64 a0_1, .slice A0_2 l0_2.length c0_2, .int .i64 a0_3, .int .i64 a0_4, .slice A0_5 l0_5.length c0_5, .slice A0_6 l0_6.length c0_6, .slice A0_7 l0_7.length c0_7]) (t := 64) ?hr ?_; (case hd => rfl); (case hg => rfl); (case hr => first | (go_simp; done) | (go_simp; rfl)); intro gb110 hg w5 hbox hb; have n0_ := Aside0.mk (below_step (by repeat (first | (with_reducible first | exact HB.out | apply below_alloc | apply pw_below_drewN | apply below_drew1) | exact HB.out)) hb); have n1_ := Aside0.mk (hbox); have n2_ := Aside0.mk ((by rw [hg]; exact (below_size (by repeat (first | (with_reducible first | exact HB.out | apply below_alloc | apply pw_below_drewN | apply below_drew1) | exact HB.out))) : w.heap.size ≤ gb110)); have n3_ := Aside0.mk ((by rw [hg]; exact (below_size (by repeat (first | (with_reducible first | exact HB.out | apply below_alloc | apply pw_below_drewN | apply below_drew1) | exact HB.out))) : w.heap.size ≤ gb110)); clear HB; have HB := n0_; have BK110 := n1_; have GW110 := n2_; have GE110 := n3_; clear n0_ n1_ n2_ n3_; clear hb hbox hg; have hcz6_0 : w5.cell? ⟨gb110, 0, none⟩ = some (.int .i64 a0_0) := (blk_cell BK110.out 0).trans rfl; have hcz6_1 : w5.cell? ⟨gb110, 1, none⟩ = some (.int .i64 a0_1) := (blk_cell BK110.out 1).trans rfl; have hcz6_2 : w5.cell? ⟨gb110, 2, none⟩ = some (.slice A0_2 l0_2.length c0_2) := (blk_cell BK110.out 2).trans rfl; have hcz6_3 : w5.cell? ⟨gb110, 3, none⟩ = some (.int .i64 a0_3) := (blk_cell BK110.out 3).trans rfl; have hcz6_4 : w5.cell? ⟨gb110, 4, none⟩ = some (.int .i64 a0_4) := (blk_cell BK110.out 4).trans rfl; have hcz6_5 : w5.cell? ⟨gb110, 5, none⟩ = some (.slice A0_5 l0_5.length c0_5) := (blk_cell BK110.out 5).trans rfl; have hcz6_6 : w5.cell? ⟨gb110, 6, none⟩ = some (.slice A0_6 l0_6.length c0_6) := (blk_cell BK110.out 6).trans rfl; have hcz6_7 : w5.cell? ⟨gb110, 7, none⟩ = some (.slice A0_7 l0_7.length c0_7) := (blk_cell BK110.out 7).trans rfl; have hfz6_0 := blk_frozen BK110.out 0; have hfz6_1 := blk_frozen BK110.out 1; have hfz6_2 := blk_frozen BK110.out 2; have hfz6_3 := blk_frozen BK110.out 3; have hfz6_4 := blk_frozen BK110.out 4; have hfz6_5 := blk_frozen BK110.out 5; have hfz6_6 := blk_frozen BK110.out 6; have hfz6_7 := blk_frozen BK110.out 7) | ((with_reducible refine gate_callee (f := 50) rfl ?_); refine goesL_ (some 8) rfl rfl Try.func50 (by kernel_rfl) rfl #[.slice A0_2 l0_2.length c0_2, .int .i64 a1] rfl (by (try simp only [List.map_toArray, List.map_cons, List.map_nil]); first | done | rfl | (simp only [List.length_drop, List.length_take]; rfl)) ?_; (with_reducible refine (laws_szIntS.calls _ _ l0_2 a1 t111 _ ?side1 ?side2 A3.out).mono ?_); (case side1 => repeat (first | exact (Kd.C_below HR0_2.out HB.out) | (with_reducible refine Kd.C_alloc ?_ _) | (with_reducible refine Kd.C_drewN ?_ _) | (with_reducible refine Kd.C_drew ?_))); (case side2 => exact HC0_2.out); rintro e w' ⟨rfl, ⟨nd, rfl⟩⟩; refine ⟨_, rfl, ?_⟩))
    go_ret
    exact ⟨by first | rfl | (simp [errW_none, errW_some] <;> rfl) | (simp [*, errW_none, errW_some] <;> rfl), by repeat (first | (with_reducible first | exact HB.out | apply below_alloc | apply pw_below_drewN | apply below_drew1 | refine below_set ?_ GE110.out) | exact HB.out)⟩
  · rw [if_neg c4] at H
    have c4b0 : decide (t111 < 0) = false := decide_eq_false c4
    clear c4
    replace H := Option.bind_eq_some_iff.mp H
    obtain ⟨t112, A70, H⟩ := H
    replace H : (if t112 < 0 then (some (-1)) else ((laws_szShapeS.f k l0_6 t112).bind fun t113 => (if t113 < 0 then (some (-1)) else ((laws_szCatchS.f l0_7 t113).bind fun t114 => (if t114 < 0 then (some (-1)) else (some t114)))))) = some r := H
    have A7 := Aside0.mk A70
    clear A70
    by_cases c8 : t112 < 0
    · rw [if_pos c8] at H
      have c8b0 : decide (t112 < 0) = true := decide_eq_true c8
      clear c8
      obtain rfl := Option.some.inj H
      simp only [Option.some.injEq, Prod.mk.injEq] at H
      obtain ⟨rfl⟩ := H
      go_enter Try.func32, Try.ntmps32
      go_wp2_with (first | ((with_reducible refine gate_dst (N := 2) rfl ?_); refine box_event ?hg (N := 2) ?hd (cs := #[.int .i64 a0_0, .int .i64 a0_1, .slice A0_2 l0_2.length c0_2, .int .i64 a0_3, .int .i64 a0_4, .slice A0_5 l0_5.length c0_5, .slice A0_6 l0_6.length c0_6, .slice A0_7 l0_7.length c0_7]) (t := 64) ?hr ?_; (case hd => rfl); (case hg => rfl); (case hr => first | (go_simp; done) | (go_simp; rfl)); intro gb110 hg w9 hbox hb; have n0_ := Aside0.mk (below_step (by repeat (first | (with_reducible first | exact HB.out | apply below_alloc | apply pw_below_drewN | apply below_drew1) | exact HB.out)) hb); have n1_ := Aside0.mk (hbox); have n2_ := Aside0.mk ((by rw [hg]; exact (below_size (by repeat (first | (with_reducible first | exact HB.out | apply below_alloc | apply pw_below_drewN | apply below_drew1) | exact HB.out))) : w.heap.size ≤ gb110)); have n3_ := Aside0.mk ((by rw [hg]; exact (below_size (by repeat (first | (with_reducible first | exact HB.out | apply below_alloc | apply pw_below_drewN | apply below_drew1) | exact HB.out))) : w.heap.size ≤ gb110)); clear HB; have HB := n0_; have BK110 := n1_; have GW110 := n2_; have GE110 := n3_; clear n0_ n1_ n2_ n3_; clear hb hbox hg; have hcz10_0 : w9.cell? ⟨gb110, 0, none⟩ = some (.int .i64 a0_0) := (blk_cell BK110.out 0).trans rfl; have hcz10_1 : w9.cell? ⟨gb110, 1, none⟩ = some (.int .i64 a0_1) := (blk_cell BK110.out 1).trans rfl; have hcz10_2 : w9.cell? ⟨gb110, 2, none⟩ = some (.slice A0_2 l0_2.length c0_2) := (blk_cell BK110.out 2).trans rfl; have hcz10_3 : w9.cell? ⟨gb110, 3, none⟩ = some (.int .i64 a0_3) := (blk_cell BK110.out 3).trans rfl; have hcz10_4 : w9.cell? ⟨gb110, 4, none⟩ = some (.int .i64 a0_4) := (blk_cell BK110.out 4).trans rfl; have hcz10_5 : w9.cell? ⟨gb110, 5, none⟩ = some (.slice A0_5 l0_5.length c0_5) := (blk_cell BK110.out 5).trans rfl; have hcz10_6 : w9.cell? ⟨gb110, 6, none⟩ = some (.slice A0_6 l0_6.length c0_6) := (blk_cell BK110.out 6).trans rfl; have hcz10_7 : w9.cell? ⟨gb110, 7, none⟩ = some (.slice A0_7 l0_7.length c0_7) := (blk_cell BK110.out 7).trans rfl; have hfz10_0 := blk_frozen BK110.out 0; have hfz10_1 := blk_frozen BK110.out 1; have hfz10_2 := blk_frozen BK110.out 2; have hfz10_3 := blk_frozen BK110.out 3; have hfz10_4 := blk_frozen BK110.out 4; have hfz10_5 := blk_frozen BK110.out 5; have hfz10_6 := blk_frozen BK110.out 6; have hfz10_7 := blk_frozen BK110.out 7) | ((with_reducible refine gate_callee (f := 50) rfl ?_); refine goesL_ (some 8) rfl rfl Try.func50 (by kernel_rfl) rfl #[.slice A0_2 l0_2.length c0_2, .int .i64 a1] rfl (by (try simp only [List.map_toArray, List.map_cons, List.map_nil]); first | done | rfl | (simp only [List.length_drop, List.length_take]; rfl)) ?_; (with_reducible refine (laws_szIntS.calls _ _ l0_2 a1 t111 _ ?side1 ?side2 A3.out).mono ?_); (case side1 => repeat (first | exact (Kd.C_below HR0_2.out HB.out) | (with_reducible refine Kd.C_alloc ?_ _) | (with_reducible refine Kd.C_drewN ?_ _) | (with_reducible refine Kd.C_drew ?_))); (case side2 => exact HC0_2.out); rintro e w' ⟨rfl, ⟨nd, rfl⟩⟩; refine ⟨_, rfl, ?_⟩) | ((with_reducible refine gate_callee (f := 51) rfl ?_); refine goesL_ (some 14) rfl rfl Try.func51 (by kernel_rfl) rfl #[.slice A0_5 l0_5.length c0_5, .int .i64 t111] rfl (by (try simp only [List.map_toArray, List.map_cons, List.map_nil]); first | done | rfl | (simp only [List.length_drop, List.length_take]; rfl)) ?_; (with_reducible refine (laws_szInsS.calls _ _ l0_5 t111 t112 _ ?side1 ?side2 A7.out).mono ?_); (case side1 => repeat (first | exact (Kd.C_below HR0_5.out (by repeat (first | (with_reducible first | exact HB.out | apply below_alloc | apply pw_below_drewN | apply below_drew1 | refine below_set ?_ GE110.out) | exact HB.out))) | (with_reducible refine Kd.C_alloc ?_ _) | (with_reducible refine Kd.C_drewN ?_ _) | (with_reducible refine Kd.C_drew ?_))); (case side2 => exact HC0_5.out); rintro e w' ⟨rfl, ⟨nd, rfl⟩⟩; refine ⟨_, rfl, ?_⟩))
      go_ret
      exact ⟨by first | rfl | (simp [errW_none, errW_some] <;> rfl) | (simp [*, errW_none, errW_some] <;> rfl), by repeat (first | (with_reducible first | exact HB.out | apply below_alloc | apply pw_below_drewN | apply below_drew1 | refine below_set ?_ GE110.out) | exact HB.out)⟩
    · rw [if_neg c8] at H
      have c8b0 : decide (t112 < 0) = false := decide_eq_false c8
      clear c8
      replace H := Option.bind_eq_some_iff.mp H
      obtain ⟨t113, A110, H⟩ := H
      replace H : (if t113 < 0 then (some (-1)) else ((laws_szCatchS.f l0_7 t113).bind fun t114 => (if t114 < 0 then (some (-1)) else (some t114)))) = some r := H
      have A11 := Aside0.mk A110
      clear A110
      by_cases c12 : t113 < 0
      · rw [if_pos c12] at H
        have c12b0 : decide (t113 < 0) = true := decide_eq_true c12
        clear c12
        obtain rfl := Option.some.inj H
        simp only [Option.some.injEq, Prod.mk.injEq] at H
        obtain ⟨rfl⟩ := H
        go_enter Try.func32, Try.ntmps32
        go_wp2_with (first | ((with_reducible refine gate_dst (N := 2) rfl ?_); refine box_event ?hg (N := 2) ?hd (cs := #[.int .i64 a0_0, .int .i64 a0_1, .slice A0_2 l0_2.length c0_2, .int .i64 a0_3, .int .i64 a0_4, .slice A0_5 l0_5.length c0_5, .slice A0_6 l0_6.length c0_6, .slice A0_7 l0_7.length c0_7]) (t := 64) ?hr ?_; (case hd => rfl); (case hg => rfl); (case hr => first | (go_simp; done) | (go_simp; rfl)); intro gb110 hg w13 hbox hb; have n0_ := Aside0.mk (below_step (by repeat (first | (with_reducible first | exact HB.out | apply below_alloc | apply pw_below_drewN | apply below_drew1) | exact HB.out)) hb); have n1_ := Aside0.mk (hbox); have n2_ := Aside0.mk ((by rw [hg]; exact (below_size (by repeat (first | (with_reducible first | exact HB.out | apply below_alloc | apply pw_below_drewN | apply below_drew1) | exact HB.out))) : w.heap.size ≤ gb110)); have n3_ := Aside0.mk ((by rw [hg]; exact (below_size (by repeat (first | (with_reducible first | exact HB.out | apply below_alloc | apply pw_below_drewN | apply below_drew1) | exact HB.out))) : w.heap.size ≤ gb110)); clear HB; have HB := n0_; have BK110 := n1_; have GW110 := n2_; have GE110 := n3_; clear n0_ n1_ n2_ n3_; clear hb hbox hg; have hcz14_0 : w13.cell? ⟨gb110, 0, none⟩ = some (.int .i64 a0_0) := (blk_cell BK110.out 0).trans rfl; have hcz14_1 : w13.cell? ⟨gb110, 1, none⟩ = some (.int .i64 a0_1) := (blk_cell BK110.out 1).trans rfl; have hcz14_2 : w13.cell? ⟨gb110, 2, none⟩ = some (.slice A0_2 l0_2.length c0_2) := (blk_cell BK110.out 2).trans rfl; have hcz14_3 : w13.cell? ⟨gb110, 3, none⟩ = some (.int .i64 a0_3) := (blk_cell BK110.out 3).trans rfl; have hcz14_4 : w13.cell? ⟨gb110, 4, none⟩ = some (.int .i64 a0_4) := (blk_cell BK110.out 4).trans rfl; have hcz14_5 : w13.cell? ⟨gb110, 5, none⟩ = some (.slice A0_5 l0_5.length c0_5) := (blk_cell BK110.out 5).trans rfl; have hcz14_6 : w13.cell? ⟨gb110, 6, none⟩ = some (.slice A0_6 l0_6.length c0_6) := (blk_cell BK110.out 6).trans rfl; have hcz14_7 : w13.cell? ⟨gb110, 7, none⟩ = some (.slice A0_7 l0_7.length c0_7) := (blk_cell BK110.out 7).trans rfl; have hfz14_0 := blk_frozen BK110.out 0; have hfz14_1 := blk_frozen BK110.out 1; have hfz14_2 := blk_frozen BK110.out 2; have hfz14_3 := blk_frozen BK110.out 3; have hfz14_4 := blk_frozen BK110.out 4; have hfz14_5 := blk_frozen BK110.out 5; have hfz14_6 := blk_frozen BK110.out 6; have hfz14_7 := blk_frozen BK110.out 7) | ((with_reducible refine gate_callee (f := 50) rfl ?_); refine goesL_ (some 8) rfl rfl Try.func50 (by kernel_rfl) rfl #[.slice A0_2 l0_2.length c0_2, .int .i64 a1] rfl (by (try simp only [List.map_toArray, List.map_cons, List.map_nil]); first | done | rfl | (simp only [List.length_drop, List.length_take]; rfl)) ?_; (with_reducible refine (laws_szIntS.calls _ _ l0_2 a1 t111 _ ?side1 ?side2 A3.out).mono ?_); (case side1 => repeat (first | exact (Kd.C_below HR0_2.out HB.out) | (with_reducible refine Kd.C_alloc ?_ _) | (with_reducible refine Kd.C_drewN ?_ _) | (with_reducible refine Kd.C_drew ?_))); (case side2 => exact HC0_2.out); rintro e w' ⟨rfl, ⟨nd, rfl⟩⟩; refine ⟨_, rfl, ?_⟩) | ((with_reducible refine gate_callee (f := 51) rfl ?_); refine goesL_ (some 14) rfl rfl Try.func51 (by kernel_rfl) rfl #[.slice A0_5 l0_5.length c0_5, .int .i64 t111] rfl (by (try simp only [List.map_toArray, List.map_cons, List.map_nil]); first | done | rfl | (simp only [List.length_drop, List.length_take]; rfl)) ?_; (with_reducible refine (laws_szInsS.calls _ _ l0_5 t111 t112 _ ?side1 ?side2 A7.out).mono ?_); (case side1 => repeat (first | exact (Kd.C_below HR0_5.out (by repeat (first | (with_reducible first | exact HB.out | apply below_alloc | apply pw_below_drewN | apply below_drew1 | refine below_set ?_ GE110.out) | exact HB.out))) | (with_reducible refine Kd.C_alloc ?_ _) | (with_reducible refine Kd.C_drewN ?_ _) | (with_reducible refine Kd.C_drew ?_))); (case side2 => exact HC0_5.out); rintro e w' ⟨rfl, ⟨nd, rfl⟩⟩; refine ⟨_, rfl, ?_⟩) | ((with_reducible refine gate_callee (f := 52) rfl ?_); refine goesL_ (some 20) rfl rfl Try.func52 (by kernel_rfl) rfl #[.slice A0_6 l0_6.length c0_6, .int .i64 t112] rfl (by (try simp only [List.map_toArray, List.map_cons, List.map_nil]); first | done | rfl | (simp only [List.length_drop, List.length_take]; rfl)) ?_; (with_reducible refine (laws_szShapeS.calls k _ _ l0_6 t112 t113 _ ?side1 ?side2 A11.out).mono ?_); (case side1 => repeat (first | exact (Kd.C_below HR0_6.out (by repeat (first | (with_reducible first | exact HB.out | apply below_alloc | apply pw_below_drewN | apply below_drew1 | refine below_set ?_ GE110.out) | exact HB.out))) | (with_reducible refine Kd.C_alloc ?_ _) | (with_reducible refine Kd.C_drewN ?_ _) | (with_reducible refine Kd.C_drew ?_))); (case side2 => exact HC0_6.out); rintro e w15 ⟨rfl, hb⟩; refine ⟨_, rfl, ?_⟩; have n0_ := Aside0.mk (blk_below (g := gb110) (o := .cells #[.int .i64 a0_0, .int .i64 a0_1, .slice A0_2 l0_2.length c0_2, .int .i64 a0_3, .int .i64 a0_4, .slice A0_5 l0_5.length c0_5, .slice A0_6 l0_6.length c0_6, .slice A0_7 l0_7.length c0_7] 64 (0, 0)) (by (with_reducible repeat (first | refine blk_drewN ?_ _ | refine blk_drew ?_ | refine blk_alloc ?_ _)); exact BK110.out) hb); have n1_ := Aside0.mk (below_step (by repeat (first | (with_reducible first | exact HB.out | apply below_alloc | apply pw_below_drewN | apply below_drew1 | refine below_set ?_ GE110.out) | exact HB.out)) hb); clear BK110; clear HB; have BK110 := n0_; have HB := n1_; clear n0_ n1_; (try clear hb); (try clear hb2); (try clear hk); (try clear hi)))
        go_ret
        exact ⟨by first | rfl | (simp [errW_none, errW_some] <;> rfl) | (simp [*, errW_none, errW_some] <;> rfl), by repeat (first | (with_reducible first | exact HB.out | apply below_alloc | apply pw_below_drewN | apply below_drew1 | refine below_set ?_ GE110.out) | exact HB.out)⟩
      · rw [if_neg c12] at H
        have c12b0 : decide (t113 < 0) = false := decide_eq_false c12
        clear c12
        replace H := Option.bind_eq_some_iff.mp H
        obtain ⟨t114, A160, H⟩ := H
        replace H : (if t114 < 0 then (some (-1)) else (some t114)) = some r := H
        have A16 := Aside0.mk A160
        clear A160
        by_cases c17 : t114 < 0
        · rw [if_pos c17] at H
          have c17b0 : decide (t114 < 0) = true := decide_eq_true c17
          clear c17
          obtain rfl := Option.some.inj H
          simp only [Option.some.injEq, Prod.mk.injEq] at H
          obtain ⟨rfl⟩ := H
          go_enter Try.func32, Try.ntmps32
          go_wp2_with (first | ((with_reducible refine gate_dst (N := 2) rfl ?_); refine box_event ?hg (N := 2) ?hd (cs := #[.int .i64 a0_0, .int .i64 a0_1, .slice A0_2 l0_2.length c0_2, .int .i64 a0_3, .int .i64 a0_4, .slice A0_5 l0_5.length c0_5, .slice A0_6 l0_6.length c0_6, .slice A0_7 l0_7.length c0_7]) (t := 64) ?hr ?_; (case hd => rfl); (case hg => rfl); (case hr => first | (go_simp; done) | (go_simp; rfl)); intro gb110 hg w18 hbox hb; have n0_ := Aside0.mk (below_step (by repeat (first | (with_reducible first | exact HB.out | apply below_alloc | apply pw_below_drewN | apply below_drew1) | exact HB.out)) hb); have n1_ := Aside0.mk (hbox); have n2_ := Aside0.mk ((by rw [hg]; exact (below_size (by repeat (first | (with_reducible first | exact HB.out | apply below_alloc | apply pw_below_drewN | apply below_drew1) | exact HB.out))) : w.heap.size ≤ gb110)); have n3_ := Aside0.mk ((by rw [hg]; exact (below_size (by repeat (first | (with_reducible first | exact HB.out | apply below_alloc | apply pw_below_drewN | apply below_drew1) | exact HB.out))) : w.heap.size ≤ gb110)); clear HB; have HB := n0_; have BK110 := n1_; have GW110 := n2_; have GE110 := n3_; clear n0_ n1_ n2_ n3_; clear hb hbox hg; have hcz19_0 : w18.cell? ⟨gb110, 0, none⟩ = some (.int .i64 a0_0) := (blk_cell BK110.out 0).trans rfl; have hcz19_1 : w18.cell? ⟨gb110, 1, none⟩ = some (.int .i64 a0_1) := (blk_cell BK110.out 1).trans rfl; have hcz19_2 : w18.cell? ⟨gb110, 2, none⟩ = some (.slice A0_2 l0_2.length c0_2) := (blk_cell BK110.out 2).trans rfl; have hcz19_3 : w18.cell? ⟨gb110, 3, none⟩ = some (.int .i64 a0_3) := (blk_cell BK110.out 3).trans rfl; have hcz19_4 : w18.cell? ⟨gb110, 4, none⟩ = some (.int .i64 a0_4) := (blk_cell BK110.out 4).trans rfl; have hcz19_5 : w18.cell? ⟨gb110, 5, none⟩ = some (.slice A0_5 l0_5.length c0_5) := (blk_cell BK110.out 5).trans rfl; have hcz19_6 : w18.cell? ⟨gb110, 6, none⟩ = some (.slice A0_6 l0_6.length c0_6) := (blk_cell BK110.out 6).trans rfl; have hcz19_7 : w18.cell? ⟨gb110, 7, none⟩ = some (.slice A0_7 l0_7.length c0_7) := (blk_cell BK110.out 7).trans rfl; have hfz19_0 := blk_frozen BK110.out 0; have hfz19_1 := blk_frozen BK110.out 1; have hfz19_2 := blk_frozen BK110.out 2; have hfz19_3 := blk_frozen BK110.out 3; have hfz19_4 := blk_frozen BK110.out 4; have hfz19_5 := blk_frozen BK110.out 5; have hfz19_6 := blk_frozen BK110.out 6; have hfz19_7 := blk_frozen BK110.out 7) | ((with_reducible refine gate_callee (f := 50) rfl ?_); refine goesL_ (some 8) rfl rfl Try.func50 (by kernel_rfl) rfl #[.slice A0_2 l0_2.length c0_2, .int .i64 a1] rfl (by (try simp only [List.map_toArray, List.map_cons, List.map_nil]); first | done | rfl | (simp only [List.length_drop, List.length_take]; rfl)) ?_; (with_reducible refine (laws_szIntS.calls _ _ l0_2 a1 t111 _ ?side1 ?side2 A3.out).mono ?_); (case side1 => repeat (first | exact (Kd.C_below HR0_2.out HB.out) | (with_reducible refine Kd.C_alloc ?_ _) | (with_reducible refine Kd.C_drewN ?_ _) | (with_reducible refine Kd.C_drew ?_))); (case side2 => exact HC0_2.out); rintro e w' ⟨rfl, ⟨nd, rfl⟩⟩; refine ⟨_, rfl, ?_⟩) | ((with_reducible refine gate_callee (f := 51) rfl ?_); refine goesL_ (some 14) rfl rfl Try.func51 (by kernel_rfl) rfl #[.slice A0_5 l0_5.length c0_5, .int .i64 t111] rfl (by (try simp only [List.map_toArray, List.map_cons, List.map_nil]); first | done | rfl | (simp only [List.length_drop, List.length_take]; rfl)) ?_; (with_reducible refine (laws_szInsS.calls _ _ l0_5 t111 t112 _ ?side1 ?side2 A7.out).mono ?_); (case side1 => repeat (first | exact (Kd.C_below HR0_5.out (by repeat (first | (with_reducible first | exact HB.out | apply below_alloc | apply pw_below_drewN | apply below_drew1 | refine below_set ?_ GE110.out) | exact HB.out))) | (with_reducible refine Kd.C_alloc ?_ _) | (with_reducible refine Kd.C_drewN ?_ _) | (with_reducible refine Kd.C_drew ?_))); (case side2 => exact HC0_5.out); rintro e w' ⟨rfl, ⟨nd, rfl⟩⟩; refine ⟨_, rfl, ?_⟩) | ((with_reducible refine gate_callee (f := 52) rfl ?_); refine goesL_ (some 20) rfl rfl Try.func52 (by kernel_rfl) rfl #[.slice A0_6 l0_6.length c0_6, .int .i64 t112] rfl (by (try simp only [List.map_toArray, List.map_cons, List.map_nil]); first | done | rfl | (simp only [List.length_drop, List.length_take]; rfl)) ?_; (with_reducible refine (laws_szShapeS.calls k _ _ l0_6 t112 t113 _ ?side1 ?side2 A11.out).mono ?_); (case side1 => repeat (first | exact (Kd.C_below HR0_6.out (by repeat (first | (with_reducible first | exact HB.out | apply below_alloc | apply pw_below_drewN | apply below_drew1 | refine below_set ?_ GE110.out) | exact HB.out))) | (with_reducible refine Kd.C_alloc ?_ _) | (with_reducible refine Kd.C_drewN ?_ _) | (with_reducible refine Kd.C_drew ?_))); (case side2 => exact HC0_6.out); rintro e w20 ⟨rfl, hb⟩; refine ⟨_, rfl, ?_⟩; have n0_ := Aside0.mk (blk_below (g := gb110) (o := .cells #[.int .i64 a0_0, .int .i64 a0_1, .slice A0_2 l0_2.length c0_2, .int .i64 a0_3, .int .i64 a0_4, .slice A0_5 l0_5.length c0_5, .slice A0_6 l0_6.length c0_6, .slice A0_7 l0_7.length c0_7] 64 (0, 0)) (by (with_reducible repeat (first | refine blk_drewN ?_ _ | refine blk_drew ?_ | refine blk_alloc ?_ _)); exact BK110.out) hb); have n1_ := Aside0.mk (below_step (by repeat (first | (with_reducible first | exact HB.out | apply below_alloc | apply pw_below_drewN | apply below_drew1 | refine below_set ?_ GE110.out) | exact HB.out)) hb); clear BK110; clear HB; have BK110 := n0_; have HB := n1_; clear n0_ n1_; (try clear hb); (try clear hb2); (try clear hk); (try clear hi); have hcz21_0 : w20.cell? ⟨gb110, 0, none⟩ = some (.int .i64 a0_0) := (blk_cell BK110.out 0).trans rfl; have hcz21_1 : w20.cell? ⟨gb110, 1, none⟩ = some (.int .i64 a0_1) := (blk_cell BK110.out 1).trans rfl; have hcz21_2 : w20.cell? ⟨gb110, 2, none⟩ = some (.slice A0_2 l0_2.length c0_2) := (blk_cell BK110.out 2).trans rfl; have hcz21_3 : w20.cell? ⟨gb110, 3, none⟩ = some (.int .i64 a0_3) := (blk_cell BK110.out 3).trans rfl; have hcz21_4 : w20.cell? ⟨gb110, 4, none⟩ = some (.int .i64 a0_4) := (blk_cell BK110.out 4).trans rfl; have hcz21_5 : w20.cell? ⟨gb110, 5, none⟩ = some (.slice A0_5 l0_5.length c0_5) := (blk_cell BK110.out 5).trans rfl; have hcz21_6 : w20.cell? ⟨gb110, 6, none⟩ = some (.slice A0_6 l0_6.length c0_6) := (blk_cell BK110.out 6).trans rfl; have hcz21_7 : w20.cell? ⟨gb110, 7, none⟩ = some (.slice A0_7 l0_7.length c0_7) := (blk_cell BK110.out 7).trans rfl; have hfz21_0 := blk_frozen BK110.out 0; have hfz21_1 := blk_frozen BK110.out 1; have hfz21_2 := blk_frozen BK110.out 2; have hfz21_3 := blk_frozen BK110.out 3; have hfz21_4 := blk_frozen BK110.out 4; have hfz21_5 := blk_frozen BK110.out 5; have hfz21_6 := blk_frozen BK110.out 6; have hfz21_7 := blk_frozen BK110.out 7) | ((with_reducible refine gate_callee (f := 53) rfl ?_); refine goesL_ (some 26) rfl rfl Try.func53 (by kernel_rfl) rfl #[.slice A0_7 l0_7.length c0_7, .int .i64 t113] rfl (by (try simp only [List.map_toArray, List.map_cons, List.map_nil]); first | done | rfl | (simp only [List.length_drop, List.length_take]; rfl)) ?_; (with_reducible refine (laws_szCatchS.calls _ _ l0_7 t113 t114 _ ?side1 ?side2 A16.out).mono ?_); (case side1 => repeat (first | exact (Kd.C_below HR0_7.out HB.out) | (with_reducible refine Kd.C_alloc ?_ _) | (with_reducible refine Kd.C_drewN ?_ _) | (with_reducible refine Kd.C_drew ?_))); (case side2 => exact HC0_7.out); rintro e w' ⟨rfl, ⟨nd, rfl⟩⟩; refine ⟨_, rfl, ?_⟩))
          go_ret
          exact ⟨by first | rfl | (simp [errW_none, errW_some] <;> rfl) | (simp [*, errW_none, errW_some] <;> rfl), by repeat (first | (with_reducible first | exact HB.out | apply below_alloc | apply pw_below_drewN | apply below_drew1 | refine below_set ?_ GE110.out) | exact HB.out)⟩
        · rw [if_neg c17] at H
          have c17b0 : decide (t114 < 0) = false := decide_eq_false c17
          clear c17
          obtain rfl := Option.some.inj H
          simp only [Option.some.injEq, Prod.mk.injEq] at H
          obtain ⟨rfl⟩ := H
          go_enter Try.func32, Try.ntmps32
          go_wp2_with (first | ((with_reducible refine gate_dst (N := 2) rfl ?_); refine box_event ?hg (N := 2) ?hd (cs := #[.int .i64 a0_0, .int .i64 a0_1, .slice A0_2 l0_2.length c0_2, .int .i64 a0_3, .int .i64 a0_4, .slice A0_5 l0_5.length c0_5, .slice A0_6 l0_6.length c0_6, .slice A0_7 l0_7.length c0_7]) (t := 64) ?hr ?_; (case hd => rfl); (case hg => rfl); (case hr => first | (go_simp; done) | (go_simp; rfl)); intro gb110 hg w22 hbox hb; have n0_ := Aside0.mk (below_step (by repeat (first | (with_reducible first | exact HB.out | apply below_alloc | apply pw_below_drewN | apply below_drew1) | exact HB.out)) hb); have n1_ := Aside0.mk (hbox); have n2_ := Aside0.mk ((by rw [hg]; exact (below_size (by repeat (first | (with_reducible first | exact HB.out | apply below_alloc | apply pw_below_drewN | apply below_drew1) | exact HB.out))) : w.heap.size ≤ gb110)); have n3_ := Aside0.mk ((by rw [hg]; exact (below_size (by repeat (first | (with_reducible first | exact HB.out | apply below_alloc | apply pw_below_drewN | apply below_drew1) | exact HB.out))) : w.heap.size ≤ gb110)); clear HB; have HB := n0_; have BK110 := n1_; have GW110 := n2_; have GE110 := n3_; clear n0_ n1_ n2_ n3_; clear hb hbox hg; have hcz23_0 : w22.cell? ⟨gb110, 0, none⟩ = some (.int .i64 a0_0) := (blk_cell BK110.out 0).trans rfl; have hcz23_1 : w22.cell? ⟨gb110, 1, none⟩ = some (.int .i64 a0_1) := (blk_cell BK110.out 1).trans rfl; have hcz23_2 : w22.cell? ⟨gb110, 2, none⟩ = some (.slice A0_2 l0_2.length c0_2) := (blk_cell BK110.out 2).trans rfl; have hcz23_3 : w22.cell? ⟨gb110, 3, none⟩ = some (.int .i64 a0_3) := (blk_cell BK110.out 3).trans rfl; have hcz23_4 : w22.cell? ⟨gb110, 4, none⟩ = some (.int .i64 a0_4) := (blk_cell BK110.out 4).trans rfl; have hcz23_5 : w22.cell? ⟨gb110, 5, none⟩ = some (.slice A0_5 l0_5.length c0_5) := (blk_cell BK110.out 5).trans rfl; have hcz23_6 : w22.cell? ⟨gb110, 6, none⟩ = some (.slice A0_6 l0_6.length c0_6) := (blk_cell BK110.out 6).trans rfl; have hcz23_7 : w22.cell? ⟨gb110, 7, none⟩ = some (.slice A0_7 l0_7.length c0_7) := (blk_cell BK110.out 7).trans rfl; have hfz23_0 := blk_frozen BK110.out 0; have hfz23_1 := blk_frozen BK110.out 1; have hfz23_2 := blk_frozen BK110.out 2; have hfz23_3 := blk_frozen BK110.out 3; have hfz23_4 := blk_frozen BK110.out 4; have hfz23_5 := blk_frozen BK110.out 5; have hfz23_6 := blk_frozen BK110.out 6; have hfz23_7 := blk_frozen BK110.out 7) | ((with_reducible refine gate_callee (f := 50) rfl ?_); refine goesL_ (some 8) rfl rfl Try.func50 (by kernel_rfl) rfl #[.slice A0_2 l0_2.length c0_2, .int .i64 a1] rfl (by (try simp only [List.map_toArray, List.map_cons, List.map_nil]); first | done | rfl | (simp only [List.length_drop, List.length_take]; rfl)) ?_; (with_reducible refine (laws_szIntS.calls _ _ l0_2 a1 t111 _ ?side1 ?side2 A3.out).mono ?_); (case side1 => repeat (first | exact (Kd.C_below HR0_2.out HB.out) | (with_reducible refine Kd.C_alloc ?_ _) | (with_reducible refine Kd.C_drewN ?_ _) | (with_reducible refine Kd.C_drew ?_))); (case side2 => exact HC0_2.out); rintro e w' ⟨rfl, ⟨nd, rfl⟩⟩; refine ⟨_, rfl, ?_⟩) | ((with_reducible refine gate_callee (f := 51) rfl ?_); refine goesL_ (some 14) rfl rfl Try.func51 (by kernel_rfl) rfl #[.slice A0_5 l0_5.length c0_5, .int .i64 t111] rfl (by (try simp only [List.map_toArray, List.map_cons, List.map_nil]); first | done | rfl | (simp only [List.length_drop, List.length_take]; rfl)) ?_; (with_reducible refine (laws_szInsS.calls _ _ l0_5 t111 t112 _ ?side1 ?side2 A7.out).mono ?_); (case side1 => repeat (first | exact (Kd.C_below HR0_5.out (by repeat (first | (with_reducible first | exact HB.out | apply below_alloc | apply pw_below_drewN | apply below_drew1 | refine below_set ?_ GE110.out) | exact HB.out))) | (with_reducible refine Kd.C_alloc ?_ _) | (with_reducible refine Kd.C_drewN ?_ _) | (with_reducible refine Kd.C_drew ?_))); (case side2 => exact HC0_5.out); rintro e w' ⟨rfl, ⟨nd, rfl⟩⟩; refine ⟨_, rfl, ?_⟩) | ((with_reducible refine gate_callee (f := 52) rfl ?_); refine goesL_ (some 20) rfl rfl Try.func52 (by kernel_rfl) rfl #[.slice A0_6 l0_6.length c0_6, .int .i64 t112] rfl (by (try simp only [List.map_toArray, List.map_cons, List.map_nil]); first | done | rfl | (simp only [List.length_drop, List.length_take]; rfl)) ?_; (with_reducible refine (laws_szShapeS.calls k _ _ l0_6 t112 t113 _ ?side1 ?side2 A11.out).mono ?_); (case side1 => repeat (first | exact (Kd.C_below HR0_6.out (by repeat (first | (with_reducible first | exact HB.out | apply below_alloc | apply pw_below_drewN | apply below_drew1 | refine below_set ?_ GE110.out) | exact HB.out))) | (with_reducible refine Kd.C_alloc ?_ _) | (with_reducible refine Kd.C_drewN ?_ _) | (with_reducible refine Kd.C_drew ?_))); (case side2 => exact HC0_6.out); rintro e w24 ⟨rfl, hb⟩; refine ⟨_, rfl, ?_⟩; have n0_ := Aside0.mk (blk_below (g := gb110) (o := .cells #[.int .i64 a0_0, .int .i64 a0_1, .slice A0_2 l0_2.length c0_2, .int .i64 a0_3, .int .i64 a0_4, .slice A0_5 l0_5.length c0_5, .slice A0_6 l0_6.length c0_6, .slice A0_7 l0_7.length c0_7] 64 (0, 0)) (by (with_reducible repeat (first | refine blk_drewN ?_ _ | refine blk_drew ?_ | refine blk_alloc ?_ _)); exact BK110.out) hb); have n1_ := Aside0.mk (below_step (by repeat (first | (with_reducible first | exact HB.out | apply below_alloc | apply pw_below_drewN | apply below_drew1 | refine below_set ?_ GE110.out) | exact HB.out)) hb); clear BK110; clear HB; have BK110 := n0_; have HB := n1_; clear n0_ n1_; (try clear hb); (try clear hb2); (try clear hk); (try clear hi); have hcz25_0 : w24.cell? ⟨gb110, 0, none⟩ = some (.int .i64 a0_0) := (blk_cell BK110.out 0).trans rfl; have hcz25_1 : w24.cell? ⟨gb110, 1, none⟩ = some (.int .i64 a0_1) := (blk_cell BK110.out 1).trans rfl; have hcz25_2 : w24.cell? ⟨gb110, 2, none⟩ = some (.slice A0_2 l0_2.length c0_2) := (blk_cell BK110.out 2).trans rfl; have hcz25_3 : w24.cell? ⟨gb110, 3, none⟩ = some (.int .i64 a0_3) := (blk_cell BK110.out 3).trans rfl; have hcz25_4 : w24.cell? ⟨gb110, 4, none⟩ = some (.int .i64 a0_4) := (blk_cell BK110.out 4).trans rfl; have hcz25_5 : w24.cell? ⟨gb110, 5, none⟩ = some (.slice A0_5 l0_5.length c0_5) := (blk_cell BK110.out 5).trans rfl; have hcz25_6 : w24.cell? ⟨gb110, 6, none⟩ = some (.slice A0_6 l0_6.length c0_6) := (blk_cell BK110.out 6).trans rfl; have hcz25_7 : w24.cell? ⟨gb110, 7, none⟩ = some (.slice A0_7 l0_7.length c0_7) := (blk_cell BK110.out 7).trans rfl; have hfz25_0 := blk_frozen BK110.out 0; have hfz25_1 := blk_frozen BK110.out 1; have hfz25_2 := blk_frozen BK110.out 2; have hfz25_3 := blk_frozen BK110.out 3; have hfz25_4 := blk_frozen BK110.out 4; have hfz25_5 := blk_frozen BK110.out 5; have hfz25_6 := blk_frozen BK110.out 6; have hfz25_7 := blk_frozen BK110.out 7) | ((with_reducible refine gate_callee (f := 53) rfl ?_); refine goesL_ (some 26) rfl rfl Try.func53 (by kernel_rfl) rfl #[.slice A0_7 l0_7.length c0_7, .int .i64 t113] rfl (by (try simp only [List.map_toArray, List.map_cons, List.map_nil]); first | done | rfl | (simp only [List.length_drop, List.length_take]; rfl)) ?_; (with_reducible refine (laws_szCatchS.calls _ _ l0_7 t113 t114 _ ?side1 ?side2 A16.out).mono ?_); (case side1 => repeat (first | exact (Kd.C_below HR0_7.out HB.out) | (with_reducible refine Kd.C_alloc ?_ _) | (with_reducible refine Kd.C_drewN ?_ _) | (with_reducible refine Kd.C_drew ?_))); (case side2 => exact HC0_7.out); rintro e w' ⟨rfl, ⟨nd, rfl⟩⟩; refine ⟨_, rfl, ?_⟩))
          go_ret
          exact ⟨by first | rfl | (simp [errW_none, errW_some] <;> rfl) | (simp [*, errW_none, errW_some] <;> rfl), by repeat (first | (with_reducible first | exact HB.out | apply below_alloc | apply pw_below_drewN | apply below_drew1 | refine below_set ?_ GE110.out) | exact HB.out)⟩
end Go.Proofs.Ytedodaifpekahaa.P

end
section

namespace Go.Proofs.Ytedodaifpekahaa.P
open Go.RowKit Go.Proofs.YtedodaifpekahaaW.PrintWords Go.Proofs.YtedodaifpekahaaW.PrintLast Go.Proofs.YtedodaifpekahaaW.PrintMore
attribute [local go_sem] max2_int min2_int max_two min_two max_three min_three max_four min_four
set_option linter.unusedVariables false
set_option linter.unusedSimpArgs false
set_option maxHeartbeats 8000000 in
set_option maxRecDepth 100000 in
theorem laws_szMethodS.calls (k : Nat) (A0 : Option Addr) (c0 : Nat) (l0 : List (S64)) (a1 : Int) (r : Int) (w : World) (hr0 : Kd.C k64 w A0 l0.length l0) (hc0 : l0.length ≤ c0) (h : laws_szMethodS.f k l0 a1 = some r) :
    Calls Try.prog 13 #[.slice A0 l0.length c0, .int .i64 a1] w fun e w' => e = .returned (.int .i64 r) ∧ Below w.heap.size w w' := by
  have hu64 := Try.underlying64
  have HR0 := Aside0.mk hr0
  have HC0 := Aside0.mk hc0
  clear hr0 hc0
  have HB := Aside0.mk (Below.refl w.heap.size w)
  have H : (if (wrap64 (a1 - (l0.length : Int))) < 0 then (some (-1)) else (laws_szMethodS.l0 k l0 (wrap64 (a1 - (l0.length : Int))) 0)) = some r := h
  clear h
  by_cases c3 : (wrap64 (a1 - (l0.length : Int))) < 0
  · rw [if_pos c3] at H
    have c3b0 : decide ((wrap64 (a1 - (l0.length : Int))) < 0) = true := decide_eq_true c3
    clear c3
    obtain rfl := Option.some.inj H
    simp only [Option.some.injEq, Prod.mk.injEq] at H
    obtain ⟨rfl⟩ := H
    go_enter Try.func13, Try.ntmps13
    go_wp2
    go_ret
    exact ⟨by first | rfl | (simp [errW_none, errW_some] <;> rfl) | (simp [*, errW_none, errW_some] <;> rfl), by repeat (first | (with_reducible first | exact HB.out | apply below_alloc | apply pw_below_drewN | apply below_drew1) | exact HB.out)⟩
  · rw [if_neg c3] at H
    have c3b0 : decide ((wrap64 (a1 - (l0.length : Int))) < 0) = false := decide_eq_false c3
    clear c3
    have H' := Aside0.mk H
    clear H
    go_enter Try.func13, Try.ntmps13
    go_wp2
    go_loopg [1, 5] k (fun kq v1 v5 w' => ∃ (x1_1 : Int) (x5_1 : Int), v1 = .int .i64 x1_1 ∧ v5 = .int .i64 x5_1 ∧ Aside0 (laws_szMethodS.l0 kq l0 x1_1 x5_1 = some r) ∧ Aside0 (kq ≤ k) ∧ Aside0 (Below w.heap.size w w'))
    case atStart => exact ⟨(wrap64 (a1 - (l0.length : Int))), (0), (by first | rfl | (simp; done) | (simp [*]; done)), (by first | rfl | (simp; done) | (simp [*]; done)), H', ⟨Nat.le_refl _⟩, ⟨by repeat (first | (with_reducible first | exact HB.out | apply below_alloc | apply pw_below_drewN | apply below_drew1) | exact HB.out)⟩⟩
    case round =>
      clear H'
      try clear c1
      try clear p2
      try clear c3
      try clear c3b0
      obtain ⟨x1_1, x5_1, rfl, rfl, HA, HK1, HB⟩ := hrel
      cases gk with
      | zero => exact absurd HA.out (by simp [laws_szMethodS.l0])
      | succ k1 =>
        have H := HA.out
        clear HA
        simp only [laws_szMethodS.l0] at H
        by_cases c4 : x5_1 < (l0.length : Int)
        · rw [if_pos c4] at H
          have c4b0 : decide (x5_1 < (l0.length : Int)) = true := decide_eq_true c4
          clear c4
          by_cases c5 : 0 ≤ x5_1
          · rw [if_pos c5] at H
            have c5b0 : decide (0 ≤ x5_1) = true := decide_eq_true c5
            clear c5
            replace H := Option.bind_eq_some_iff.mp H
            obtain ⟨t116, A60, H⟩ := H
            replace H : (if t116 < 0 then (some (-1)) else (laws_szMethodS.l0 k1 l0 t116 (wrap64 (x5_1 + 1)))) = some r := H
            have A6 := Aside0.mk A60
            clear A60
            by_cases c7 : t116 < 0
            · rw [if_pos c7] at H
              have c7b0 : decide (t116 < 0) = true := decide_eq_true c7
              clear c7
              obtain rfl := Option.some.inj H
              simp only [Option.some.injEq, Prod.mk.injEq] at H
              obtain ⟨rfl⟩ := H
              have p115 : 0 ≤ (x5_1 : Int) := of_decide_eq_true (by first | (with_reducible assumption) | assumption)
              have q115 : x5_1 < (l0.length : Int) := of_decide_eq_true (by first | (with_reducible assumption) | assumption)
              obtain ⟨ad115, A115_2, c115_2, A115_5, c115_5, A115_6, c115_6, A115_7, c115_7, e115, hx115_0, hx115_1, hx115_2, hx115_3, hx115_4, hx115_5, hx115_6, hx115_7, hl115_2, hi115_2, hl115_5, hi115_5, hl115_6, hi115_6, hl115_7, hi115_7⟩ := at_T64 HR0.out x5_1 p115 q115
              cases e115
              replace hx115_0 := (HB.out.cell (World.block_lt_of_cell? w _ hx115_0)).trans hx115_0
              replace hx115_1 := (HB.out.cell (World.block_lt_of_cell? w _ hx115_1)).trans hx115_1
              replace hx115_2 := (HB.out.cell (World.block_lt_of_cell? w _ hx115_2)).trans hx115_2
              replace hx115_3 := (HB.out.cell (World.block_lt_of_cell? w _ hx115_3)).trans hx115_3
              replace hx115_4 := (HB.out.cell (World.block_lt_of_cell? w _ hx115_4)).trans hx115_4
              replace hx115_5 := (HB.out.cell (World.block_lt_of_cell? w _ hx115_5)).trans hx115_5
              replace hx115_6 := (HB.out.cell (World.block_lt_of_cell? w _ hx115_6)).trans hx115_6
              replace hx115_7 := (HB.out.cell (World.block_lt_of_cell? w _ hx115_7)).trans hx115_7
              have HR115_2 := Aside0.mk hi115_2
              have HC115_2 := Aside0.mk hl115_2
              clear hi115_2 hl115_2
              have HR115_5 := Aside0.mk hi115_5
              have HC115_5 := Aside0.mk hl115_5
              clear hi115_5 hl115_5
              have HR115_6 := Aside0.mk hi115_6
              have HC115_6 := Aside0.mk hl115_6
              clear hi115_6 hl115_6
              have HR115_7 := Aside0.mk hi115_7
              have HC115_7 := Aside0.mk hl115_7
              clear hi115_7 hl115_7
              replace p115 := eq_true p115
              replace q115 := eq_true q115
              go_wp2_with (first | ((with_reducible refine gate_callee (f := 32) rfl ?_); refine goesL_ (some 23) rfl rfl Try.func32 (by kernel_rfl) rfl #[.agg #[.int .i64 ((rd_T64 l0 x5_1).f0), .int .i64 ((rd_T64 l0 x5_1).f1), .slice A115_2 ((rd_T64 l0 x5_1).f2).length c115_2, .int .i64 ((rd_T64 l0 x5_1).f3), .int .i64 ((rd_T64 l0 x5_1).f4), .slice A115_5 ((rd_T64 l0 x5_1).f5).length c115_5, .slice A115_6 ((rd_T64 l0 x5_1).f6).length c115_6, .slice A115_7 ((rd_T64 l0 x5_1).f7).length c115_7], .int .i64 x1_1] rfl (by (try simp only [List.map_toArray, List.map_cons, List.map_nil]); first | done | rfl | (simp only [List.length_drop, List.length_take]; rfl)) ?_; (with_reducible refine (laws_szMethod.calls k1 ((rd_T64 l0 x5_1).f0) ((rd_T64 l0 x5_1).f1) _ _ ((rd_T64 l0 x5_1).f2) ((rd_T64 l0 x5_1).f3) ((rd_T64 l0 x5_1).f4) _ _ ((rd_T64 l0 x5_1).f5) _ _ ((rd_T64 l0 x5_1).f6) _ _ ((rd_T64 l0 x5_1).f7) x1_1 t116 _ ?side1 ?side2 ?side3 ?side4 ?side5 ?side6 ?side7 ?side8 A6.out).mono ?_); (case side1 => repeat (first | exact (Kd.C_below HR115_2.out HB.out) | (with_reducible refine Kd.C_alloc ?_ _) | (with_reducible refine Kd.C_drewN ?_ _) | (with_reducible refine Kd.C_drew ?_))); (case side2 => exact HC115_2.out); (case side3 => repeat (first | exact (Kd.C_below HR115_5.out HB.out) | (with_reducible refine Kd.C_alloc ?_ _) | (with_reducible refine Kd.C_drewN ?_ _) | (with_reducible refine Kd.C_drew ?_))); (case side4 => exact HC115_5.out); (case side5 => repeat (first | exact (Kd.C_below HR115_6.out HB.out) | (with_reducible refine Kd.C_alloc ?_ _) | (with_reducible refine Kd.C_drewN ?_ _) | (with_reducible refine Kd.C_drew ?_))); (case side6 => exact HC115_6.out); (case side7 => repeat (first | exact (Kd.C_below HR115_7.out HB.out) | (with_reducible refine Kd.C_alloc ?_ _) | (with_reducible refine Kd.C_drewN ?_ _) | (with_reducible refine Kd.C_drew ?_))); (case side8 => exact HC115_7.out); rintro e w8 ⟨rfl, hb⟩; refine ⟨_, rfl, ?_⟩; have n0_ := Aside0.mk (below_step (by repeat (first | (with_reducible first | exact HB.out | apply below_alloc | apply pw_below_drewN | apply below_drew1) | exact HB.out)) hb); clear HB; have HB := n0_; clear n0_; (try clear hb); (try clear hb2); (try clear hk); (try clear hi)))
              go_ret
              exact ⟨by first | rfl | (simp [errW_none, errW_some] <;> rfl) | (simp [*, errW_none, errW_some] <;> rfl), by repeat (first | (with_reducible first | exact HB.out | apply below_alloc | apply pw_below_drewN | apply below_drew1) | exact HB.out)⟩
            · rw [if_neg c7] at H
              have c7b0 : decide (t116 < 0) = false := decide_eq_false c7
              clear c7
              have H' := Aside0.mk H
              clear H
              have p115 : 0 ≤ (x5_1 : Int) := of_decide_eq_true (by first | (with_reducible assumption) | assumption)
              have q115 : x5_1 < (l0.length : Int) := of_decide_eq_true (by first | (with_reducible assumption) | assumption)
              obtain ⟨ad115, A115_2, c115_2, A115_5, c115_5, A115_6, c115_6, A115_7, c115_7, e115, hx115_0, hx115_1, hx115_2, hx115_3, hx115_4, hx115_5, hx115_6, hx115_7, hl115_2, hi115_2, hl115_5, hi115_5, hl115_6, hi115_6, hl115_7, hi115_7⟩ := at_T64 HR0.out x5_1 p115 q115
              cases e115
              replace hx115_0 := (HB.out.cell (World.block_lt_of_cell? w _ hx115_0)).trans hx115_0
              replace hx115_1 := (HB.out.cell (World.block_lt_of_cell? w _ hx115_1)).trans hx115_1
              replace hx115_2 := (HB.out.cell (World.block_lt_of_cell? w _ hx115_2)).trans hx115_2
              replace hx115_3 := (HB.out.cell (World.block_lt_of_cell? w _ hx115_3)).trans hx115_3
              replace hx115_4 := (HB.out.cell (World.block_lt_of_cell? w _ hx115_4)).trans hx115_4
              replace hx115_5 := (HB.out.cell (World.block_lt_of_cell? w _ hx115_5)).trans hx115_5
              replace hx115_6 := (HB.out.cell (World.block_lt_of_cell? w _ hx115_6)).trans hx115_6
              replace hx115_7 := (HB.out.cell (World.block_lt_of_cell? w _ hx115_7)).trans hx115_7
              have HR115_2 := Aside0.mk hi115_2
              have HC115_2 := Aside0.mk hl115_2
              clear hi115_2 hl115_2
              have HR115_5 := Aside0.mk hi115_5
              have HC115_5 := Aside0.mk hl115_5
              clear hi115_5 hl115_5
              have HR115_6 := Aside0.mk hi115_6
              have HC115_6 := Aside0.mk hl115_6
              clear hi115_6 hl115_6
              have HR115_7 := Aside0.mk hi115_7
              have HC115_7 := Aside0.mk hl115_7
              clear hi115_7 hl115_7
              replace p115 := eq_true p115
              replace q115 := eq_true q115
              go_wp2_with (first | ((with_reducible refine gate_callee (f := 32) rfl ?_); refine goesL_ (some 23) rfl rfl Try.func32 (by kernel_rfl) rfl #[.agg #[.int .i64 ((rd_T64 l0 x5_1).f0), .int .i64 ((rd_T64 l0 x5_1).f1), .slice A115_2 ((rd_T64 l0 x5_1).f2).length c115_2, .int .i64 ((rd_T64 l0 x5_1).f3), .int .i64 ((rd_T64 l0 x5_1).f4), .slice A115_5 ((rd_T64 l0 x5_1).f5).length c115_5, .slice A115_6 ((rd_T64 l0 x5_1).f6).length c115_6, .slice A115_7 ((rd_T64 l0 x5_1).f7).length c115_7], .int .i64 x1_1] rfl (by (try simp only [List.map_toArray, List.map_cons, List.map_nil]); first | done | rfl | (simp only [List.length_drop, List.length_take]; rfl)) ?_; (with_reducible refine (laws_szMethod.calls k1 ((rd_T64 l0 x5_1).f0) ((rd_T64 l0 x5_1).f1) _ _ ((rd_T64 l0 x5_1).f2) ((rd_T64 l0 x5_1).f3) ((rd_T64 l0 x5_1).f4) _ _ ((rd_T64 l0 x5_1).f5) _ _ ((rd_T64 l0 x5_1).f6) _ _ ((rd_T64 l0 x5_1).f7) x1_1 t116 _ ?side1 ?side2 ?side3 ?side4 ?side5 ?side6 ?side7 ?side8 A6.out).mono ?_); (case side1 => repeat (first | exact (Kd.C_below HR115_2.out HB.out) | (with_reducible refine Kd.C_alloc ?_ _) | (with_reducible refine Kd.C_drewN ?_ _) | (with_reducible refine Kd.C_drew ?_))); (case side2 => exact HC115_2.out); (case side3 => repeat (first | exact (Kd.C_below HR115_5.out HB.out) | (with_reducible refine Kd.C_alloc ?_ _) | (with_reducible refine Kd.C_drewN ?_ _) | (with_reducible refine Kd.C_drew ?_))); (case side4 => exact HC115_5.out); (case side5 => repeat (first | exact (Kd.C_below HR115_6.out HB.out) | (with_reducible refine Kd.C_alloc ?_ _) | (with_reducible refine Kd.C_drewN ?_ _) | (with_reducible refine Kd.C_drew ?_))); (case side6 => exact HC115_6.out); (case side7 => repeat (first | exact (Kd.C_below HR115_7.out HB.out) | (with_reducible refine Kd.C_alloc ?_ _) | (with_reducible refine Kd.C_drewN ?_ _) | (with_reducible refine Kd.C_drew ?_))); (case side8 => exact HC115_7.out); rintro e w9 ⟨rfl, hb⟩; refine ⟨_, rfl, ?_⟩; have n0_ := Aside0.mk (below_step (by repeat (first | (with_reducible first | exact HB.out | apply below_alloc | apply pw_below_drewN | apply below_drew1) | exact HB.out)) hb); clear HB; have HB := n0_; clear n0_; (try clear hb); (try clear hb2); (try clear hk); (try clear hi)))
              go_roundg k1
              case measure => have := HK1.out; omega
              case rel => exact ⟨(t116), (wrap64 (x5_1 + 1)), (by first | rfl | (simp; done) | (simp [*]; done)), (by first | rfl | (simp; done) | (simp [*]; done)), H', ⟨by have := HK1.out; omega⟩, ⟨by repeat (first | (with_reducible first | exact HB.out | apply below_alloc | apply pw_below_drewN | apply below_drew1) | exact HB.out)⟩⟩
          · rw [if_neg c5] at H
            exact absurd H (by simp)
        · rw [if_neg c4] at H
          have c4b0 : decide (x5_1 < (l0.length : Int)) = false := decide_eq_false c4
          clear c4
          obtain rfl := Option.some.inj H
          simp only [Option.some.injEq, Prod.mk.injEq] at H
          obtain ⟨rfl⟩ := H
          go_wp2
          go_ret
          exact ⟨by first | rfl | (simp [errW_none, errW_some] <;> rfl) | (simp [*, errW_none, errW_some] <;> rfl), by repeat (first | (with_reducible first | exact HB.out | apply below_alloc | apply pw_below_drewN | apply below_drew1) | exact HB.out)⟩
end Go.Proofs.Ytedodaifpekahaa.P

end
section

namespace Go.Proofs.Ytedodaifpekahaa.P
open Go.RowKit Go.Proofs.YtedodaifpekahaaW.PrintWords Go.Proofs.YtedodaifpekahaaW.PrintLast Go.Proofs.YtedodaifpekahaaW.PrintMore
attribute [local go_sem] max2_int min2_int max_two min_two max_three min_three max_four min_four
set_option linter.unusedVariables false
set_option linter.unusedSimpArgs false
set_option maxHeartbeats 8000000 in
set_option maxRecDepth 100000 in
theorem laws_szUnit.calls (k : Nat) (A0_0 : Option Addr) (c0_0 : Nat) (l0_0 : List (S58)) (A0_1 : Option Addr) (c0_1 : Nat) (l0_1 : List (S64)) (a1 : Int) (r : Int) (w : World) (hr0_0 : Kd.C k58 w A0_0 l0_0.length l0_0) (hc0_0 : l0_0.length ≤ c0_0) (hr0_1 : Kd.C k64 w A0_1 l0_1.length l0_1) (hc0_1 : l0_1.length ≤ c0_1) (h : laws_szUnit.f k l0_0 l0_1 a1 = some r) :
    Calls Try.prog 5 #[.agg #[.slice A0_0 l0_0.length c0_0, .slice A0_1 l0_1.length c0_1], .int .i64 a1] w fun e w' => e = .returned (.int .i64 r) ∧ Below w.heap.size w w' := by
  have hu25 := Try.underlying25
  have HR0_0 := Aside0.mk hr0_0
  have HC0_0 := Aside0.mk hc0_0
  clear hr0_0 hc0_0
  have HR0_1 := Aside0.mk hr0_1
  have HC0_1 := Aside0.mk hc0_1
  clear hr0_1 hc0_1
  have HB := Aside0.mk (Below.refl w.heap.size w)
  have H : ((laws_szClassS.f k l0_0 a1).bind fun t118 => (if t118 < 0 then (some (-1)) else ((laws_szMethodS.f k l0_1 t118).bind fun t119 => (if t119 < 0 then (some (-1)) else (some t119))))) = some r := h
  clear h
  replace H := Option.bind_eq_some_iff.mp H
  obtain ⟨t118, A30, H⟩ := H
  replace H : (if t118 < 0 then (some (-1)) else ((laws_szMethodS.f k l0_1 t118).bind fun t119 => (if t119 < 0 then (some (-1)) else (some t119)))) = some r := H
  have A3 := Aside0.mk A30
  clear A30
  by_cases c4 : t118 < 0
  · rw [if_pos c4] at H
    have c4b0 : decide (t118 < 0) = true := decide_eq_true c4
    clear c4
    obtain rfl := Option.some.inj H
    simp only [Option.some.injEq, Prod.mk.injEq] at H
    obtain ⟨rfl⟩ := H
    go_enter Try.func5, Try.ntmps5
    go_wp2_with (first | ((with_reducible refine gate_dst (N := 2) rfl ?_); refine box_event ?hg (N := 2) ?hd (cs := #[.slice A0_0 l0_0.length c0_0, .slice A0_1 l0_1.length c0_1]) (t := 25) ?hr ?_; (case hd => rfl); (case hg => rfl); (case hr => first | (go_simp; done) | (go_simp; rfl)); intro gb117 hg w5 hbox hb; have n0_ := Aside0.mk (below_step (by repeat (first | (with_reducible first | exact HB.out | apply below_alloc | apply pw_below_drewN | apply below_drew1) | exact HB.out)) hb); have n1_ := Aside0.mk (hbox); have n2_ := Aside0.mk ((by rw [hg]; exact (below_size (by repeat (first | (with_reducible first | exact HB.out | apply below_alloc | apply pw_below_drewN | apply below_drew1) | exact HB.out))) : w.heap.size ≤ gb117)); have n3_ := Aside0.mk ((by rw [hg]; exact (below_size (by repeat (first | (with_reducible first | exact HB.out | apply below_alloc | apply pw_below_drewN | apply below_drew1) | exact HB.out))) : w.heap.size ≤ gb117)); clear HB; have HB := n0_; have BK117 := n1_; have GW117 := n2_; have GE117 := n3_; clear n0_ n1_ n2_ n3_; clear hb hbox hg; have hcz6_0 : w5.cell? ⟨gb117, 0, none⟩ = some (.slice A0_0 l0_0.length c0_0) := (blk_cell BK117.out 0).trans rfl; have hcz6_1 : w5.cell? ⟨gb117, 1, none⟩ = some (.slice A0_1 l0_1.length c0_1) := (blk_cell BK117.out 1).trans rfl; have hfz6_0 := blk_frozen BK117.out 0; have hfz6_1 := blk_frozen BK117.out 1) | ((with_reducible refine gate_callee (f := 12) rfl ?_); refine goesL_ (some 8) rfl rfl Try.func12 (by kernel_rfl) rfl #[.slice A0_0 l0_0.length c0_0, .int .i64 a1] rfl (by (try simp only [List.map_toArray, List.map_cons, List.map_nil]); first | done | rfl | (simp only [List.length_drop, List.length_take]; rfl)) ?_; (with_reducible refine (laws_szClassS.calls k _ _ l0_0 a1 t118 _ ?side1 ?side2 A3.out).mono ?_); (case side1 => repeat (first | exact (Kd.C_below HR0_0.out HB.out) | (with_reducible refine Kd.C_alloc ?_ _) | (with_reducible refine Kd.C_drewN ?_ _) | (with_reducible refine Kd.C_drew ?_))); (case side2 => exact HC0_0.out); rintro e w7 ⟨rfl, hb⟩; refine ⟨_, rfl, ?_⟩; have n0_ := Aside0.mk (blk_below (g := gb117) (o := .cells #[.slice A0_0 l0_0.length c0_0, .slice A0_1 l0_1.length c0_1] 25 (0, 0)) (by (with_reducible repeat (first | refine blk_drewN ?_ _ | refine blk_drew ?_ | refine blk_alloc ?_ _)); exact BK117.out) hb); have n1_ := Aside0.mk (below_step (by repeat (first | (with_reducible first | exact HB.out | apply below_alloc | apply pw_below_drewN | apply below_drew1 | refine below_set ?_ GE117.out) | exact HB.out)) hb); clear BK117; clear HB; have BK117 := n0_; have HB := n1_; clear n0_ n1_; (try clear hb); (try clear hb2); (try clear hk); (try clear hi)))
    go_ret
    exact ⟨by first | rfl | (simp [errW_none, errW_some] <;> rfl) | (simp [*, errW_none, errW_some] <;> rfl), by repeat (first | (with_reducible first | exact HB.out | apply below_alloc | apply pw_below_drewN | apply below_drew1 | refine below_set ?_ GE117.out) | exact HB.out)⟩
  · rw [if_neg c4] at H
    have c4b0 : decide (t118 < 0) = false := decide_eq_false c4
    clear c4
    replace H := Option.bind_eq_some_iff.mp H
    obtain ⟨t119, A80, H⟩ := H
    replace H : (if t119 < 0 then (some (-1)) else (some t119)) = some r := H
    have A8 := Aside0.mk A80
    clear A80
    by_cases c9 : t119 < 0
    · rw [if_pos c9] at H
      have c9b0 : decide (t119 < 0) = true := decide_eq_true c9
      clear c9
      obtain rfl := Option.some.inj H
      simp only [Option.some.injEq, Prod.mk.injEq] at H
      obtain ⟨rfl⟩ := H
      go_enter Try.func5, Try.ntmps5
      go_wp2_with (first | ((with_reducible refine gate_dst (N := 2) rfl ?_); refine box_event ?hg (N := 2) ?hd (cs := #[.slice A0_0 l0_0.length c0_0, .slice A0_1 l0_1.length c0_1]) (t := 25) ?hr ?_; (case hd => rfl); (case hg => rfl); (case hr => first | (go_simp; done) | (go_simp; rfl)); intro gb117 hg w10 hbox hb; have n0_ := Aside0.mk (below_step (by repeat (first | (with_reducible first | exact HB.out | apply below_alloc | apply pw_below_drewN | apply below_drew1) | exact HB.out)) hb); have n1_ := Aside0.mk (hbox); have n2_ := Aside0.mk ((by rw [hg]; exact (below_size (by repeat (first | (with_reducible first | exact HB.out | apply below_alloc | apply pw_below_drewN | apply below_drew1) | exact HB.out))) : w.heap.size ≤ gb117)); have n3_ := Aside0.mk ((by rw [hg]; exact (below_size (by repeat (first | (with_reducible first | exact HB.out | apply below_alloc | apply pw_below_drewN | apply below_drew1) | exact HB.out))) : w.heap.size ≤ gb117)); clear HB; have HB := n0_; have BK117 := n1_; have GW117 := n2_; have GE117 := n3_; clear n0_ n1_ n2_ n3_; clear hb hbox hg; have hcz11_0 : w10.cell? ⟨gb117, 0, none⟩ = some (.slice A0_0 l0_0.length c0_0) := (blk_cell BK117.out 0).trans rfl; have hcz11_1 : w10.cell? ⟨gb117, 1, none⟩ = some (.slice A0_1 l0_1.length c0_1) := (blk_cell BK117.out 1).trans rfl; have hfz11_0 := blk_frozen BK117.out 0; have hfz11_1 := blk_frozen BK117.out 1) | ((with_reducible refine gate_callee (f := 12) rfl ?_); refine goesL_ (some 8) rfl rfl Try.func12 (by kernel_rfl) rfl #[.slice A0_0 l0_0.length c0_0, .int .i64 a1] rfl (by (try simp only [List.map_toArray, List.map_cons, List.map_nil]); first | done | rfl | (simp only [List.length_drop, List.length_take]; rfl)) ?_; (with_reducible refine (laws_szClassS.calls k _ _ l0_0 a1 t118 _ ?side1 ?side2 A3.out).mono ?_); (case side1 => repeat (first | exact (Kd.C_below HR0_0.out HB.out) | (with_reducible refine Kd.C_alloc ?_ _) | (with_reducible refine Kd.C_drewN ?_ _) | (with_reducible refine Kd.C_drew ?_))); (case side2 => exact HC0_0.out); rintro e w12 ⟨rfl, hb⟩; refine ⟨_, rfl, ?_⟩; have n0_ := Aside0.mk (blk_below (g := gb117) (o := .cells #[.slice A0_0 l0_0.length c0_0, .slice A0_1 l0_1.length c0_1] 25 (0, 0)) (by (with_reducible repeat (first | refine blk_drewN ?_ _ | refine blk_drew ?_ | refine blk_alloc ?_ _)); exact BK117.out) hb); have n1_ := Aside0.mk (below_step (by repeat (first | (with_reducible first | exact HB.out | apply below_alloc | apply pw_below_drewN | apply below_drew1 | refine below_set ?_ GE117.out) | exact HB.out)) hb); clear BK117; clear HB; have BK117 := n0_; have HB := n1_; clear n0_ n1_; (try clear hb); (try clear hb2); (try clear hk); (try clear hi); have hcz13_0 : w12.cell? ⟨gb117, 0, none⟩ = some (.slice A0_0 l0_0.length c0_0) := (blk_cell BK117.out 0).trans rfl; have hcz13_1 : w12.cell? ⟨gb117, 1, none⟩ = some (.slice A0_1 l0_1.length c0_1) := (blk_cell BK117.out 1).trans rfl; have hfz13_0 := blk_frozen BK117.out 0; have hfz13_1 := blk_frozen BK117.out 1) | ((with_reducible refine gate_callee (f := 13) rfl ?_); refine goesL_ (some 14) rfl rfl Try.func13 (by kernel_rfl) rfl #[.slice A0_1 l0_1.length c0_1, .int .i64 t118] rfl (by (try simp only [List.map_toArray, List.map_cons, List.map_nil]); first | done | rfl | (simp only [List.length_drop, List.length_take]; rfl)) ?_; (with_reducible refine (laws_szMethodS.calls k _ _ l0_1 t118 t119 _ ?side1 ?side2 A8.out).mono ?_); (case side1 => repeat (first | exact (Kd.C_below HR0_1.out HB.out) | (with_reducible refine Kd.C_alloc ?_ _) | (with_reducible refine Kd.C_drewN ?_ _) | (with_reducible refine Kd.C_drew ?_))); (case side2 => exact HC0_1.out); rintro e w14 ⟨rfl, hb⟩; refine ⟨_, rfl, ?_⟩; have n0_ := Aside0.mk (blk_below (g := gb117) (o := .cells #[.slice A0_0 l0_0.length c0_0, .slice A0_1 l0_1.length c0_1] 25 (0, 0)) (by (with_reducible repeat (first | refine blk_drewN ?_ _ | refine blk_drew ?_ | refine blk_alloc ?_ _)); exact BK117.out) hb); have n1_ := Aside0.mk (below_step (by repeat (first | (with_reducible first | exact HB.out | apply below_alloc | apply pw_below_drewN | apply below_drew1 | refine below_set ?_ GE117.out) | exact HB.out)) hb); clear BK117; clear HB; have BK117 := n0_; have HB := n1_; clear n0_ n1_; (try clear hb); (try clear hb2); (try clear hk); (try clear hi)))
      go_ret
      exact ⟨by first | rfl | (simp [errW_none, errW_some] <;> rfl) | (simp [*, errW_none, errW_some] <;> rfl), by repeat (first | (with_reducible first | exact HB.out | apply below_alloc | apply pw_below_drewN | apply below_drew1 | refine below_set ?_ GE117.out) | exact HB.out)⟩
    · rw [if_neg c9] at H
      have c9b0 : decide (t119 < 0) = false := decide_eq_false c9
      clear c9
      obtain rfl := Option.some.inj H
      simp only [Option.some.injEq, Prod.mk.injEq] at H
      obtain ⟨rfl⟩ := H
      go_enter Try.func5, Try.ntmps5
      go_wp2_with (first | ((with_reducible refine gate_dst (N := 2) rfl ?_); refine box_event ?hg (N := 2) ?hd (cs := #[.slice A0_0 l0_0.length c0_0, .slice A0_1 l0_1.length c0_1]) (t := 25) ?hr ?_; (case hd => rfl); (case hg => rfl); (case hr => first | (go_simp; done) | (go_simp; rfl)); intro gb117 hg w15 hbox hb; have n0_ := Aside0.mk (below_step (by repeat (first | (with_reducible first | exact HB.out | apply below_alloc | apply pw_below_drewN | apply below_drew1) | exact HB.out)) hb); have n1_ := Aside0.mk (hbox); have n2_ := Aside0.mk ((by rw [hg]; exact (below_size (by repeat (first | (with_reducible first | exact HB.out | apply below_alloc | apply pw_below_drewN | apply below_drew1) | exact HB.out))) : w.heap.size ≤ gb117)); have n3_ := Aside0.mk ((by rw [hg]; exact (below_size (by repeat (first | (with_reducible first | exact HB.out | apply below_alloc | apply pw_below_drewN | apply below_drew1) | exact HB.out))) : w.heap.size ≤ gb117)); clear HB; have HB := n0_; have BK117 := n1_; have GW117 := n2_; have GE117 := n3_; clear n0_ n1_ n2_ n3_; clear hb hbox hg; have hcz16_0 : w15.cell? ⟨gb117, 0, none⟩ = some (.slice A0_0 l0_0.length c0_0) := (blk_cell BK117.out 0).trans rfl; have hcz16_1 : w15.cell? ⟨gb117, 1, none⟩ = some (.slice A0_1 l0_1.length c0_1) := (blk_cell BK117.out 1).trans rfl; have hfz16_0 := blk_frozen BK117.out 0; have hfz16_1 := blk_frozen BK117.out 1) | ((with_reducible refine gate_callee (f := 12) rfl ?_); refine goesL_ (some 8) rfl rfl Try.func12 (by kernel_rfl) rfl #[.slice A0_0 l0_0.length c0_0, .int .i64 a1] rfl (by (try simp only [List.map_toArray, List.map_cons, List.map_nil]); first | done | rfl | (simp only [List.length_drop, List.length_take]; rfl)) ?_; (with_reducible refine (laws_szClassS.calls k _ _ l0_0 a1 t118 _ ?side1 ?side2 A3.out).mono ?_); (case side1 => repeat (first | exact (Kd.C_below HR0_0.out HB.out) | (with_reducible refine Kd.C_alloc ?_ _) | (with_reducible refine Kd.C_drewN ?_ _) | (with_reducible refine Kd.C_drew ?_))); (case side2 => exact HC0_0.out); rintro e w17 ⟨rfl, hb⟩; refine ⟨_, rfl, ?_⟩; have n0_ := Aside0.mk (blk_below (g := gb117) (o := .cells #[.slice A0_0 l0_0.length c0_0, .slice A0_1 l0_1.length c0_1] 25 (0, 0)) (by (with_reducible repeat (first | refine blk_drewN ?_ _ | refine blk_drew ?_ | refine blk_alloc ?_ _)); exact BK117.out) hb); have n1_ := Aside0.mk (below_step (by repeat (first | (with_reducible first | exact HB.out | apply below_alloc | apply pw_below_drewN | apply below_drew1 | refine below_set ?_ GE117.out) | exact HB.out)) hb); clear BK117; clear HB; have BK117 := n0_; have HB := n1_; clear n0_ n1_; (try clear hb); (try clear hb2); (try clear hk); (try clear hi); have hcz18_0 : w17.cell? ⟨gb117, 0, none⟩ = some (.slice A0_0 l0_0.length c0_0) := (blk_cell BK117.out 0).trans rfl; have hcz18_1 : w17.cell? ⟨gb117, 1, none⟩ = some (.slice A0_1 l0_1.length c0_1) := (blk_cell BK117.out 1).trans rfl; have hfz18_0 := blk_frozen BK117.out 0; have hfz18_1 := blk_frozen BK117.out 1) | ((with_reducible refine gate_callee (f := 13) rfl ?_); refine goesL_ (some 14) rfl rfl Try.func13 (by kernel_rfl) rfl #[.slice A0_1 l0_1.length c0_1, .int .i64 t118] rfl (by (try simp only [List.map_toArray, List.map_cons, List.map_nil]); first | done | rfl | (simp only [List.length_drop, List.length_take]; rfl)) ?_; (with_reducible refine (laws_szMethodS.calls k _ _ l0_1 t118 t119 _ ?side1 ?side2 A8.out).mono ?_); (case side1 => repeat (first | exact (Kd.C_below HR0_1.out HB.out) | (with_reducible refine Kd.C_alloc ?_ _) | (with_reducible refine Kd.C_drewN ?_ _) | (with_reducible refine Kd.C_drew ?_))); (case side2 => exact HC0_1.out); rintro e w19 ⟨rfl, hb⟩; refine ⟨_, rfl, ?_⟩; have n0_ := Aside0.mk (blk_below (g := gb117) (o := .cells #[.slice A0_0 l0_0.length c0_0, .slice A0_1 l0_1.length c0_1] 25 (0, 0)) (by (with_reducible repeat (first | refine blk_drewN ?_ _ | refine blk_drew ?_ | refine blk_alloc ?_ _)); exact BK117.out) hb); have n1_ := Aside0.mk (below_step (by repeat (first | (with_reducible first | exact HB.out | apply below_alloc | apply pw_below_drewN | apply below_drew1 | refine below_set ?_ GE117.out) | exact HB.out)) hb); clear BK117; clear HB; have BK117 := n0_; have HB := n1_; clear n0_ n1_; (try clear hb); (try clear hb2); (try clear hk); (try clear hi)))
      go_ret
      exact ⟨by first | rfl | (simp [errW_none, errW_some] <;> rfl) | (simp [*, errW_none, errW_some] <;> rfl), by repeat (first | (with_reducible first | exact HB.out | apply below_alloc | apply pw_below_drewN | apply below_drew1 | refine below_set ?_ GE117.out) | exact HB.out)⟩
end Go.Proofs.Ytedodaifpekahaa.P

end
section

namespace Go.Proofs.Ytedodaifpekahaa.P
open Go.RowKit Go.Proofs.YtedodaifpekahaaW.PrintWords Go.Proofs.YtedodaifpekahaaW.PrintLast Go.Proofs.YtedodaifpekahaaW.PrintMore
attribute [local go_sem] max2_int min2_int max_two min_two max_three min_three max_four min_four
set_option linter.unusedVariables false
set_option linter.unusedSimpArgs false
set_option maxHeartbeats 8000000 in
set_option maxRecDepth 100000 in
theorem spec_l6In.calls (a0 : Int) (a1 : Int) (a2 : Int) (r : Bool) (w : World) (h : spec_l6In.f a0 a1 a2 = some r) :
    Calls Try.prog 15 #[.int .i64 a0, .int .i64 a1, .int .i64 a2] w fun e w' => e = .returned (.bool r) ∧ Drawn0 w w' := by
  have H : (if a0 ≥ a1 then (some (decide (a0 ≤ a2))) else (some false)) = some r := h
  clear h
  by_cases c4 : a0 ≥ a1
  · rw [if_pos c4] at H
    have c4b0 : decide (a1 ≤ a0) = true := decide_eq_true c4
    clear c4
    obtain rfl := Option.some.inj H
    simp only [Option.some.injEq, Prod.mk.injEq] at H
    obtain ⟨rfl⟩ := H
    go_enter Try.func15, Try.ntmps15
    go_wp2
    go_ret
    exact ⟨by first | rfl | (simp; done) | (simp [*]; done), by repeat (first | exact Drawn0.refl _ | apply Drawn0.step)⟩
  · rw [if_neg c4] at H
    have c4b0 : decide (a1 ≤ a0) = false := decide_eq_false c4
    clear c4
    obtain rfl := Option.some.inj H
    simp only [Option.some.injEq, Prod.mk.injEq] at H
    obtain ⟨rfl⟩ := H
    go_enter Try.func15, Try.ntmps15
    go_wp2
    go_ret
    exact ⟨by first | rfl | (simp; done) | (simp [*]; done), by repeat (first | exact Drawn0.refl _ | apply Drawn0.step)⟩
end Go.Proofs.Ytedodaifpekahaa.P

end
section

namespace Go.Proofs.Ytedodaifpekahaa.P
open Go.RowKit Go.Proofs.YtedodaifpekahaaW.PrintWords Go.Proofs.YtedodaifpekahaaW.PrintLast Go.Proofs.YtedodaifpekahaaW.PrintMore
attribute [local go_sem] max2_int min2_int max_two min_two max_three min_three max_four min_four
set_option linter.unusedVariables false
set_option linter.unusedSimpArgs false
set_option maxHeartbeats 8000000 in
set_option maxRecDepth 100000 in
theorem spec_l2Field.calls (A0 : Option Addr) (c0 : Nat) (l0 : List (S76)) (a1 : Int) (r : Bool) (w : World) (hr0 : Kd.C k76 w A0 l0.length l0) (hc0 : l0.length ≤ c0) (h : spec_l2Field.f l0 a1 = some r) :
    Calls Try.prog 54 #[.slice A0 l0.length c0, .int .i64 a1] w fun e w' => e = .returned (.bool r) ∧ Drawn0 w w' := by
  have HR0 := Aside0.mk hr0
  have HC0 := Aside0.mk hc0
  clear hr0 hc0
  have H : (if a1 = 1 then (some true) else (if a1 = 3 then (some true) else (if a1 = 4 then (some true) else ((spec_l6In.f a1 8 (wrap64 ((wrap64 (8 + (l0.length : Int))) - 1))).bind fun t120 => (some t120))))) = some r := h
  clear h
  by_cases c3 : a1 = 1
  · rw [if_pos c3] at H
    have c3b0 : (a1 == 1) = true := beq_iff_eq.mpr c3
    have c3b1 : (a1 != 1) = false := bne_eq_false_iff_eq.mpr c3
    clear c3
    obtain rfl := Option.some.inj H
    simp only [Option.some.injEq, Prod.mk.injEq] at H
    obtain ⟨rfl⟩ := H
    go_enter Try.func54, Try.ntmps54
    go_wp2
    go_ret
    exact ⟨by first | rfl | (simp; done) | (simp [*]; done), by repeat (first | exact Drawn0.refl _ | apply Drawn0.step)⟩
  · rw [if_neg c3] at H
    have c3b0 : (a1 == 1) = false := beq_eq_false_iff_ne.mpr c3
    have c3b1 : (a1 != 1) = true := bne_iff_ne.mpr c3
    by_cases c4 : a1 = 3
    · rw [if_pos c4] at H
      have c4b0 : (a1 == 3) = true := beq_iff_eq.mpr c4
      have c4b1 : (a1 != 3) = false := bne_eq_false_iff_eq.mpr c4
      clear c4
      obtain rfl := Option.some.inj H
      simp only [Option.some.injEq, Prod.mk.injEq] at H
      obtain ⟨rfl⟩ := H
      go_enter Try.func54, Try.ntmps54
      go_wp2
      go_ret
      exact ⟨by first | rfl | (simp; done) | (simp [*]; done), by repeat (first | exact Drawn0.refl _ | apply Drawn0.step)⟩
    · rw [if_neg c4] at H
      have c4b0 : (a1 == 3) = false := beq_eq_false_iff_ne.mpr c4
      have c4b1 : (a1 != 3) = true := bne_iff_ne.mpr c4
      by_cases c5 : a1 = 4
      · rw [if_pos c5] at H
        have c5b0 : (a1 == 4) = true := beq_iff_eq.mpr c5
        have c5b1 : (a1 != 4) = false := bne_eq_false_iff_eq.mpr c5
        clear c5
        obtain rfl := Option.some.inj H
        simp only [Option.some.injEq, Prod.mk.injEq] at H
        obtain ⟨rfl⟩ := H
        go_enter Try.func54, Try.ntmps54
        go_wp2
        go_ret
        exact ⟨by first | rfl | (simp; done) | (simp [*]; done), by repeat (first | exact Drawn0.refl _ | apply Drawn0.step)⟩
      · rw [if_neg c5] at H
        have c5b0 : (a1 == 4) = false := beq_eq_false_iff_ne.mpr c5
        have c5b1 : (a1 != 4) = true := bne_iff_ne.mpr c5
        replace H := Option.bind_eq_some_iff.mp H
        obtain ⟨t120, A60, H⟩ := H
        replace H : (some t120) = some r := H
        have A6 := Aside0.mk A60
        clear A60
        obtain rfl := Option.some.inj H
        simp only [Option.some.injEq, Prod.mk.injEq] at H
        obtain ⟨rfl⟩ := H
        go_enter Try.func54, Try.ntmps54
        go_wp2_with (first | (go_at_call 15; (with_reducible refine (spec_l6In.calls a1 8 (wrap64 ((wrap64 (8 + (l0.length : Int))) - 1)) t120 _ A6.out).mono ?_); rintro e w' ⟨rfl, ⟨nd, rfl⟩⟩))
        go_ret
        exact ⟨by first | rfl | (simp; done) | (simp [*]; done), by repeat (first | exact Drawn0.refl _ | apply Drawn0.step)⟩
end Go.Proofs.Ytedodaifpekahaa.P

end
section

namespace Go.Proofs.Ytedodaifpekahaa.P
open Go.RowKit Go.Proofs.YtedodaifpekahaaW.PrintWords Go.Proofs.YtedodaifpekahaaW.PrintLast Go.Proofs.YtedodaifpekahaaW.PrintMore
attribute [local go_sem] max2_int min2_int max_two min_two max_three min_three max_four min_four
set_option linter.unusedVariables false
set_option linter.unusedSimpArgs false
set_option maxHeartbeats 8000000 in
set_option maxRecDepth 100000 in
theorem spec_l2Class.calls (k : Nat) (A0 : Option Addr) (c0 : Nat) (l0 : List (S76)) (a1 : Int) (r : Bool) (w : World) (hr0 : Kd.C k76 w A0 l0.length l0) (hc0 : l0.length ≤ c0) (h : spec_l2Class.f k l0 a1 = some r) :
    Calls Try.prog 33 #[.slice A0 l0.length c0, .int .i64 a1] w fun e w' => e = .returned (.bool r) ∧ Below w.heap.size w w' := by
  have hu76 := Try.underlying76
  have HR0 := Aside0.mk hr0
  have HC0 := Aside0.mk hc0
  clear hr0 hc0
  have HB := Aside0.mk (Below.refl w.heap.size w)
  have H : (if 0 ≤ a1 then (if a1 < (l0.length : Int) then (spec_l2Class.l0 k l0 a1 0 ((rd_T76 l0 a1).f0) ((rd_T76 l0 a1).f1)) else (none)) else (none)) = some r := h
  clear h
  by_cases c3 : 0 ≤ a1
  · rw [if_pos c3] at H
    have c3b0 : decide (0 ≤ a1) = true := decide_eq_true c3
    clear c3
    by_cases c4 : a1 < (l0.length : Int)
    · rw [if_pos c4] at H
      have c4b0 : decide (a1 < (l0.length : Int)) = true := decide_eq_true c4
      clear c4
      have H' := Aside0.mk H
      clear H
      have p121 : 0 ≤ (a1 : Int) := of_decide_eq_true (by first | (with_reducible assumption) | assumption)
      have q121 : a1 < (l0.length : Int) := of_decide_eq_true (by first | (with_reducible assumption) | assumption)
      obtain ⟨ad121, A121_1, c121_1, e121, hx121_0, hx121_1, hl121_1, hi121_1⟩ := at_T76 HR0.out a1 p121 q121
      cases e121
      have HR121_1 := Aside0.mk hi121_1
      have HC121_1 := Aside0.mk hl121_1
      clear hi121_1 hl121_1
      replace p121 := eq_true p121
      replace q121 := eq_true q121
      go_enter Try.func33, Try.ntmps33
      go_wp2_with (first | ((with_reducible refine gate_dst (N := 5) rfl ?_); (try (refine gate_guard (by rfl) ?_; dsimp only)); refine box_event ?hg (N := 5) ?hd (cs := #[.int .i64 0, .slice none 0 0]) (t := 76) ?hr ?_; (case hd => rfl); (case hg => rfl); (case hr => first | (go_simp; done) | (go_simp; rfl)); intro gb122 hg w5 hbox hb; have n0_ := Aside0.mk (below_step (by repeat (first | (with_reducible first | exact HB.out | apply below_alloc | apply pw_below_drewN | apply below_drew1) | exact HB.out)) hb); have n1_ := Aside0.mk (hbox); have n2_ := Aside0.mk ((by rw [hg]; exact (below_size (by repeat (first | (with_reducible first | exact HB.out | apply below_alloc | apply pw_below_drewN | apply below_drew1) | exact HB.out))) : w.heap.size ≤ gb122)); have n3_ := Aside0.mk ((by rw [hg]; exact (below_size (by repeat (first | (with_reducible first | exact HB.out | apply below_alloc | apply pw_below_drewN | apply below_drew1) | exact HB.out))) : w.heap.size ≤ gb122)); clear HB; have HB := n0_; have BK122 := n1_; have GW122 := n2_; have GE122 := n3_; clear n0_ n1_ n2_ n3_; clear hb hbox hg; have hcz6_0 : w5.cell? ⟨gb122, 0, none⟩ = some (.int .i64 0) := (blk_cell BK122.out 0).trans rfl; have hcz6_1 : w5.cell? ⟨gb122, 1, none⟩ = some (.slice none 0 0) := (blk_cell BK122.out 1).trans rfl; have hfz6_0 := blk_frozen BK122.out 0; have hfz6_1 := blk_frozen BK122.out 1))
      go_loopg [6] k (fun kq v6 w' => ∃ (x6_1 : Int), v6 = .int .i64 x6_1 ∧ Aside0 (spec_l2Class.l0 kq l0 a1 x6_1 ((rd_T76 l0 a1).f0) ((rd_T76 l0 a1).f1) = some r) ∧ Aside0 (kq ≤ k) ∧ Aside0 (w'.heap[gb122]? = some (.cells #[.int .i64 ((rd_T76 l0 a1).f0), (.slice A121_1 ((rd_T76 l0 a1).f1).length c121_1)] 76 (0, 0))) ∧ Aside0 (Below w.heap.size w w'))
      case atStart => exact ⟨(0), (by first | rfl | (simp; done) | (simp [*]; done)), H', ⟨Nat.le_refl _⟩, ⟨by (with_reducible repeat (first | refine blk_drewN ?_ _ | refine blk_drew ?_ | refine blk_alloc ?_ _)); refine blk_put (cs := #[.int .i64 ((rd_T76 l0 a1).f0), .slice none 0 0]) ?_ 1 _ rfl; (with_reducible repeat (first | refine blk_drewN ?_ _ | refine blk_drew ?_ | refine blk_alloc ?_ _)); refine blk_put (cs := #[.int .i64 0, .slice none 0 0]) ?_ 0 _ rfl; (with_reducible repeat (first | refine blk_drewN ?_ _ | refine blk_drew ?_ | refine blk_alloc ?_ _)); exact BK122.out⟩, ⟨by repeat (first | (with_reducible first | exact HB.out | apply below_alloc | apply pw_below_drewN | apply below_drew1 | refine below_set ?_ GE122.out) | exact HB.out)⟩⟩
      case round =>
        clear H'
        try clear c1
        try clear p1
        try clear q1
        try clear hx1
        try clear p2
        try clear c3
        try clear c3b0
        try clear c4
        try clear c4b0
        try clear hcz6_0
        try clear hcz6_1
        try clear hfz6_0
        try clear hfz6_1
        try clear hx121_0
        try clear hx121_1
        try clear p121
        try clear q121
        obtain ⟨x6_1, rfl, HA, HK1, BK122, HB⟩ := hrel
        cases gk with
        | zero => exact absurd HA.out (by simp [spec_l2Class.l0])
        | succ k1 =>
          have H := HA.out
          clear HA
          simp only [spec_l2Class.l0] at H
          by_cases c7 : x6_1 < (((rd_T76 l0 a1).f1).length : Int)
          · rw [if_pos c7] at H
            have c7b0 : decide (x6_1 < (((rd_T76 l0 a1).f1).length : Int)) = true := decide_eq_true c7
            clear c7
            by_cases c8 : 0 ≤ x6_1
            · rw [if_pos c8] at H
              have c8b0 : decide (0 ≤ x6_1) = true := decide_eq_true c8
              clear c8
              replace H := Option.bind_eq_some_iff.mp H
              obtain ⟨t124, A90, H⟩ := H
              replace H : (if t124 = true then (spec_l2Class.l0 k1 l0 a1 (wrap64 (x6_1 + 1)) ((rd_T76 l0 a1).f0) ((rd_T76 l0 a1).f1)) else (some false)) = some r := H
              have A9 := Aside0.mk A90
              clear A90
              by_cases c10 : t124 = true
              · subst c10
                have H1 : (spec_l2Class.l0 k1 l0 a1 (wrap64 (x6_1 + 1)) ((rd_T76 l0 a1).f0) ((rd_T76 l0 a1).f1)) = some r := by rw [if_pos rfl] at H; exact H
                clear H
                have H := H1
                clear H1
                have H' := Aside0.mk H
                clear H
                have hcz11_0 : wr.cell? ⟨gb122, 0, none⟩ = some (.int .i64 ((rd_T76 l0 a1).f0)) := (blk_cell BK122.out 0).trans rfl
                have hcz11_1 : wr.cell? ⟨gb122, 1, none⟩ = some (.slice A121_1 ((rd_T76 l0 a1).f1).length c121_1) := (blk_cell BK122.out 1).trans rfl
                have hfz11_0 := blk_frozen BK122.out 0
                have hfz11_1 := blk_frozen BK122.out 1
                have p123 : 0 ≤ (x6_1 : Int) := of_decide_eq_true (by first | (with_reducible assumption) | assumption)
                have q123 : x6_1 < (((rd_T76 l0 a1).f1).length : Int) := of_decide_eq_true (by first | (with_reducible assumption) | assumption)
                obtain ⟨ad123, e123, hx123_0⟩ := Kd.at_int HR121_1.out x6_1 p123 q123
                cases e123
                replace hx123_0 := (HB.out.cell (World.block_lt_of_cell? w _ hx123_0)).trans hx123_0
                replace p123 := eq_true p123
                replace q123 := eq_true q123
                go_wp2_with (first | ((with_reducible refine gate_callee (f := 54) rfl ?_); refine goesL_ (some 24) rfl rfl Try.func54 (by kernel_rfl) rfl #[.slice (some ad121) l0.length c0, .int .i64 (rd ((rd_T76 l0 a1).f1) x6_1)] rfl (by (try simp only [List.map_toArray, List.map_cons, List.map_nil]); first | done | rfl | (simp only [List.length_drop, List.length_take]; rfl)) ?_; (with_reducible refine (spec_l2Field.calls _ _ l0 (rd ((rd_T76 l0 a1).f1) x6_1) true _ ?side1 ?side2 A9.out).mono ?_); (case side1 => repeat (first | exact (Kd.C_below HR0.out HB.out) | (with_reducible refine Kd.C_alloc ?_ _) | (with_reducible refine Kd.C_drewN ?_ _) | (with_reducible refine Kd.C_drew ?_))); (case side2 => exact HC0.out); rintro e w' ⟨rfl, ⟨nd, rfl⟩⟩; refine ⟨_, rfl, ?_⟩))
                go_roundg k1
                case measure => have := HK1.out; omega
                case rel => exact ⟨(wrap64 (x6_1 + 1)), (by first | rfl | (simp; done) | (simp [*]; done)), H', ⟨by have := HK1.out; omega⟩, ⟨by (with_reducible repeat (first | refine blk_drewN ?_ _ | refine blk_drew ?_ | refine blk_alloc ?_ _)); exact BK122.out⟩, ⟨by repeat (first | (with_reducible first | exact HB.out | apply below_alloc | apply pw_below_drewN | apply below_drew1 | refine below_set ?_ GE122.out) | exact HB.out)⟩⟩
              · replace c10 := Bool.eq_false_iff.mpr c10
                subst c10
                have H1 : (some false) = some r := by rw [if_neg (show ¬ (false = true) by decide)] at H; exact H
                clear H
                have H := H1
                clear H1
                obtain rfl := Option.some.inj H
                simp only [Option.some.injEq, Prod.mk.injEq] at H
                obtain ⟨rfl⟩ := H
                have hcz12_0 : wr.cell? ⟨gb122, 0, none⟩ = some (.int .i64 ((rd_T76 l0 a1).f0)) := (blk_cell BK122.out 0).trans rfl
                have hcz12_1 : wr.cell? ⟨gb122, 1, none⟩ = some (.slice A121_1 ((rd_T76 l0 a1).f1).length c121_1) := (blk_cell BK122.out 1).trans rfl
                have hfz12_0 := blk_frozen BK122.out 0
                have hfz12_1 := blk_frozen BK122.out 1
                have p123 : 0 ≤ (x6_1 : Int) := of_decide_eq_true (by first | (with_reducible assumption) | assumption)
                have q123 : x6_1 < (((rd_T76 l0 a1).f1).length : Int) := of_decide_eq_true (by first | (with_reducible assumption) | assumption)
                obtain ⟨ad123, e123, hx123_0⟩ := Kd.at_int HR121_1.out x6_1 p123 q123
                cases e123
                replace hx123_0 := (HB.out.cell (World.block_lt_of_cell? w _ hx123_0)).trans hx123_0
                replace p123 := eq_true p123
                replace q123 := eq_true q123
                go_wp2_with (first | ((with_reducible refine gate_callee (f := 54) rfl ?_); refine goesL_ (some 24) rfl rfl Try.func54 (by kernel_rfl) rfl #[.slice (some ad121) l0.length c0, .int .i64 (rd ((rd_T76 l0 a1).f1) x6_1)] rfl (by (try simp only [List.map_toArray, List.map_cons, List.map_nil]); first | done | rfl | (simp only [List.length_drop, List.length_take]; rfl)) ?_; (with_reducible refine (spec_l2Field.calls _ _ l0 (rd ((rd_T76 l0 a1).f1) x6_1) false _ ?side1 ?side2 A9.out).mono ?_); (case side1 => repeat (first | exact (Kd.C_below HR0.out HB.out) | (with_reducible refine Kd.C_alloc ?_ _) | (with_reducible refine Kd.C_drewN ?_ _) | (with_reducible refine Kd.C_drew ?_))); (case side2 => exact HC0.out); rintro e w' ⟨rfl, ⟨nd, rfl⟩⟩; refine ⟨_, rfl, ?_⟩))
                go_ret
                exact ⟨by first | rfl | (simp [errW_none, errW_some] <;> rfl) | (simp [*, errW_none, errW_some] <;> rfl), by repeat (first | (with_reducible first | exact HB.out | apply below_alloc | apply pw_below_drewN | apply below_drew1 | refine below_set ?_ GE122.out) | exact HB.out)⟩
            · rw [if_neg c8] at H
              exact absurd H (by simp)
          · rw [if_neg c7] at H
            have c7b0 : decide (x6_1 < (((rd_T76 l0 a1).f1).length : Int)) = false := decide_eq_false c7
            clear c7
            by_cases c13 : a1 = 0
            · rw [if_pos c13] at H
              have c13b0 : (a1 == 0) = true := beq_iff_eq.mpr c13
              have c13b1 : (a1 != 0) = false := bne_eq_false_iff_eq.mpr c13
              clear c13
              by_cases c14 : ((rd_T76 l0 a1).f0) = (-1)
              · rw [if_pos c14] at H
                have c14b0 : (((rd_T76 l0 a1).f0) == (-1)) = true := beq_iff_eq.mpr c14
                have c14b1 : (((rd_T76 l0 a1).f0) != (-1)) = false := bne_eq_false_iff_eq.mpr c14
                clear c14
                obtain rfl := Option.some.inj H
                simp only [Option.some.injEq, Prod.mk.injEq] at H
                obtain ⟨rfl⟩ := H
                have hcz15_0 : wr.cell? ⟨gb122, 0, none⟩ = some (.int .i64 ((rd_T76 l0 a1).f0)) := (blk_cell BK122.out 0).trans rfl
                have hcz15_1 : wr.cell? ⟨gb122, 1, none⟩ = some (.slice A121_1 ((rd_T76 l0 a1).f1).length c121_1) := (blk_cell BK122.out 1).trans rfl
                have hfz15_0 := blk_frozen BK122.out 0
                have hfz15_1 := blk_frozen BK122.out 1
                go_wp2
                go_ret
                exact ⟨by first | rfl | (simp [errW_none, errW_some] <;> rfl) | (simp [*, errW_none, errW_some] <;> rfl), by repeat (first | (with_reducible first | exact HB.out | apply below_alloc | apply pw_below_drewN | apply below_drew1 | refine below_set ?_ GE122.out) | exact HB.out)⟩
              · rw [if_neg c14] at H
                have c14b0 : (((rd_T76 l0 a1).f0) == (-1)) = false := beq_eq_false_iff_ne.mpr c14
                have c14b1 : (((rd_T76 l0 a1).f0) != (-1)) = true := bne_iff_ne.mpr c14
                obtain rfl := Option.some.inj H
                simp only [Option.some.injEq, Prod.mk.injEq] at H
                obtain ⟨rfl⟩ := H
                have hcz16_0 : wr.cell? ⟨gb122, 0, none⟩ = some (.int .i64 ((rd_T76 l0 a1).f0)) := (blk_cell BK122.out 0).trans rfl
                have hcz16_1 : wr.cell? ⟨gb122, 1, none⟩ = some (.slice A121_1 ((rd_T76 l0 a1).f1).length c121_1) := (blk_cell BK122.out 1).trans rfl
                have hfz16_0 := blk_frozen BK122.out 0
                have hfz16_1 := blk_frozen BK122.out 1
                go_wp2
                go_ret
                exact ⟨by first | rfl | (simp [errW_none, errW_some] <;> rfl) | (simp [*, errW_none, errW_some] <;> rfl), by repeat (first | (with_reducible first | exact HB.out | apply below_alloc | apply pw_below_drewN | apply below_drew1 | refine below_set ?_ GE122.out) | exact HB.out)⟩
            · rw [if_neg c13] at H
              have c13b0 : (a1 == 0) = false := beq_eq_false_iff_ne.mpr c13
              have c13b1 : (a1 != 0) = true := bne_iff_ne.mpr c13
              by_cases c17 : a1 = 1
              · rw [if_pos c17] at H
                have c17b0 : (a1 == 1) = true := beq_iff_eq.mpr c17
                have c17b1 : (a1 != 1) = false := bne_eq_false_iff_eq.mpr c17
                clear c17
                by_cases c18 : ((rd_T76 l0 a1).f0) = 0
                · rw [if_pos c18] at H
                  have c18b0 : (((rd_T76 l0 a1).f0) == 0) = true := beq_iff_eq.mpr c18
                  have c18b1 : (((rd_T76 l0 a1).f0) != 0) = false := bne_eq_false_iff_eq.mpr c18
                  clear c18
                  by_cases c19 : (((rd_T76 l0 a1).f1).length : Int) = 1
                  · rw [if_pos c19] at H
                    have c19b0 : ((((rd_T76 l0 a1).f1).length : Int) == 1) = true := beq_iff_eq.mpr c19
                    have c19b1 : ((((rd_T76 l0 a1).f1).length : Int) != 1) = false := bne_eq_false_iff_eq.mpr c19
                    clear c19
                    by_cases c20 : 0 < (((rd_T76 l0 a1).f1).length : Int)
                    · rw [if_pos c20] at H
                      have c20b0 : decide (0 < (((rd_T76 l0 a1).f1).length : Int)) = true := decide_eq_true c20
                      have c20b1 : decide (0 < ((rd_T76 l0 a1).f1).length) = true := decide_eq_true (by omega)
                      clear c20
                      obtain rfl := Option.some.inj H
                      simp only [Option.some.injEq, Prod.mk.injEq] at H
                      obtain ⟨rfl⟩ := H
                      have hcz21_0 : wr.cell? ⟨gb122, 0, none⟩ = some (.int .i64 ((rd_T76 l0 a1).f0)) := (blk_cell BK122.out 0).trans rfl
                      have hcz21_1 : wr.cell? ⟨gb122, 1, none⟩ = some (.slice A121_1 ((rd_T76 l0 a1).f1).length c121_1) := (blk_cell BK122.out 1).trans rfl
                      have hfz21_0 := blk_frozen BK122.out 0
                      have hfz21_1 := blk_frozen BK122.out 1
                      have p125 : 0 ≤ (0 : Int) := (by omega)
                      have q125 : 0 < (((rd_T76 l0 a1).f1).length : Int) := of_decide_eq_true (by first | (with_reducible assumption) | assumption)
                      obtain ⟨ad125, e125, hx125_0⟩ := Kd.at_int HR121_1.out 0 p125 q125
                      cases e125
                      have qi125 : (0 < ((rd_T76 l0 a1).f1).length) = True := eq_true (by omega)
                      (try rw [show ((0 : Int)).toNat = 0 from rfl] at hx125_0)
                      (try rw [Addr.add_zero'] at hx125_0)
                      replace hx125_0 := (HB.out.cell (World.block_lt_of_cell? w _ hx125_0)).trans hx125_0
                      replace p125 := eq_true p125
                      replace q125 := eq_true q125
                      go_wp2
                      go_ret
                      exact ⟨by first | rfl | (simp [errW_none, errW_some] <;> rfl) | (simp [*, errW_none, errW_some] <;> rfl), by repeat (first | (with_reducible first | exact HB.out | apply below_alloc | apply pw_below_drewN | apply below_drew1 | refine below_set ?_ GE122.out) | exact HB.out)⟩
                    · rw [if_neg c20] at H
                      exact absurd H (by simp)
                  · rw [if_neg c19] at H
                    have c19b0 : ((((rd_T76 l0 a1).f1).length : Int) == 1) = false := beq_eq_false_iff_ne.mpr c19
                    have c19b1 : ((((rd_T76 l0 a1).f1).length : Int) != 1) = true := bne_iff_ne.mpr c19
                    obtain rfl := Option.some.inj H
                    simp only [Option.some.injEq, Prod.mk.injEq] at H
                    obtain ⟨rfl⟩ := H
                    have hcz22_0 : wr.cell? ⟨gb122, 0, none⟩ = some (.int .i64 ((rd_T76 l0 a1).f0)) := (blk_cell BK122.out 0).trans rfl
                    have hcz22_1 : wr.cell? ⟨gb122, 1, none⟩ = some (.slice A121_1 ((rd_T76 l0 a1).f1).length c121_1) := (blk_cell BK122.out 1).trans rfl
                    have hfz22_0 := blk_frozen BK122.out 0
                    have hfz22_1 := blk_frozen BK122.out 1
                    go_wp2
                    go_ret
                    exact ⟨by first | rfl | (simp [errW_none, errW_some] <;> rfl) | (simp [*, errW_none, errW_some] <;> rfl), by repeat (first | (with_reducible first | exact HB.out | apply below_alloc | apply pw_below_drewN | apply below_drew1 | refine below_set ?_ GE122.out) | exact HB.out)⟩
                · rw [if_neg c18] at H
                  have c18b0 : (((rd_T76 l0 a1).f0) == 0) = false := beq_eq_false_iff_ne.mpr c18
                  have c18b1 : (((rd_T76 l0 a1).f0) != 0) = true := bne_iff_ne.mpr c18
                  obtain rfl := Option.some.inj H
                  simp only [Option.some.injEq, Prod.mk.injEq] at H
                  obtain ⟨rfl⟩ := H
                  have hcz23_0 : wr.cell? ⟨gb122, 0, none⟩ = some (.int .i64 ((rd_T76 l0 a1).f0)) := (blk_cell BK122.out 0).trans rfl
                  have hcz23_1 : wr.cell? ⟨gb122, 1, none⟩ = some (.slice A121_1 ((rd_T76 l0 a1).f1).length c121_1) := (blk_cell BK122.out 1).trans rfl
                  have hfz23_0 := blk_frozen BK122.out 0
                  have hfz23_1 := blk_frozen BK122.out 1
                  go_wp2
                  go_ret
                  exact ⟨by first | rfl | (simp [errW_none, errW_some] <;> rfl) | (simp [*, errW_none, errW_some] <;> rfl), by repeat (first | (with_reducible first | exact HB.out | apply below_alloc | apply pw_below_drewN | apply below_drew1 | refine below_set ?_ GE122.out) | exact HB.out)⟩
              · rw [if_neg c17] at H
                have c17b0 : (a1 == 1) = false := beq_eq_false_iff_ne.mpr c17
                have c17b1 : (a1 != 1) = true := bne_iff_ne.mpr c17
                replace H := Option.bind_eq_some_iff.mp H
                obtain ⟨t126, A240, H⟩ := H
                replace H : (if t126 = true then (some (decide ((((rd_T76 l0 a1).f1).length : Int) ≤ 2))) else (some false)) = some r := H
                have A24 := Aside0.mk A240
                clear A240
                by_cases c25 : t126 = true
                · subst c25
                  have H1 : (some (decide ((((rd_T76 l0 a1).f1).length : Int) ≤ 2))) = some r := by rw [if_pos rfl] at H; exact H
                  clear H
                  have H := H1
                  clear H1
                  obtain rfl := Option.some.inj H
                  simp only [Option.some.injEq, Prod.mk.injEq] at H
                  obtain ⟨rfl⟩ := H
                  have hcz26_0 : wr.cell? ⟨gb122, 0, none⟩ = some (.int .i64 ((rd_T76 l0 a1).f0)) := (blk_cell BK122.out 0).trans rfl
                  have hcz26_1 : wr.cell? ⟨gb122, 1, none⟩ = some (.slice A121_1 ((rd_T76 l0 a1).f1).length c121_1) := (blk_cell BK122.out 1).trans rfl
                  have hfz26_0 := blk_frozen BK122.out 0
                  have hfz26_1 := blk_frozen BK122.out 1
                  go_wp2_with (first | ((with_reducible refine gate_callee (f := 15) rfl ?_); refine goesL_ (some 60) rfl rfl Try.func15 (by kernel_rfl) rfl #[.int .i64 ((rd_T76 l0 a1).f0), .int .i64 0, .int .i64 (wrap64 (a1 - 1))] rfl (by (try simp only [List.map_toArray, List.map_cons, List.map_nil]); first | done | rfl | (simp only [List.length_drop, List.length_take]; rfl)) ?_; (with_reducible refine (spec_l6In.calls ((rd_T76 l0 a1).f0) 0 (wrap64 (a1 - 1)) true _ A24.out).mono ?_); rintro e w' ⟨rfl, ⟨nd, rfl⟩⟩; refine ⟨_, rfl, ?_⟩))
                  go_ret
                  exact ⟨by first | rfl | (simp [errW_none, errW_some] <;> rfl) | (simp [*, errW_none, errW_some] <;> rfl), by repeat (first | (with_reducible first | exact HB.out | apply below_alloc | apply pw_below_drewN | apply below_drew1 | refine below_set ?_ GE122.out) | exact HB.out)⟩
                · replace c25 := Bool.eq_false_iff.mpr c25
                  subst c25
                  have H1 : (some false) = some r := by rw [if_neg (show ¬ (false = true) by decide)] at H; exact H
                  clear H
                  have H := H1
                  clear H1
                  obtain rfl := Option.some.inj H
                  simp only [Option.some.injEq, Prod.mk.injEq] at H
                  obtain ⟨rfl⟩ := H
                  have hcz27_0 : wr.cell? ⟨gb122, 0, none⟩ = some (.int .i64 ((rd_T76 l0 a1).f0)) := (blk_cell BK122.out 0).trans rfl
                  have hcz27_1 : wr.cell? ⟨gb122, 1, none⟩ = some (.slice A121_1 ((rd_T76 l0 a1).f1).length c121_1) := (blk_cell BK122.out 1).trans rfl
                  have hfz27_0 := blk_frozen BK122.out 0
                  have hfz27_1 := blk_frozen BK122.out 1
                  go_wp2_with (first | ((with_reducible refine gate_callee (f := 15) rfl ?_); refine goesL_ (some 60) rfl rfl Try.func15 (by kernel_rfl) rfl #[.int .i64 ((rd_T76 l0 a1).f0), .int .i64 0, .int .i64 (wrap64 (a1 - 1))] rfl (by (try simp only [List.map_toArray, List.map_cons, List.map_nil]); first | done | rfl | (simp only [List.length_drop, List.length_take]; rfl)) ?_; (with_reducible refine (spec_l6In.calls ((rd_T76 l0 a1).f0) 0 (wrap64 (a1 - 1)) false _ A24.out).mono ?_); rintro e w' ⟨rfl, ⟨nd, rfl⟩⟩; refine ⟨_, rfl, ?_⟩))
                  go_ret
                  exact ⟨by first | rfl | (simp [errW_none, errW_some] <;> rfl) | (simp [*, errW_none, errW_some] <;> rfl), by repeat (first | (with_reducible first | exact HB.out | apply below_alloc | apply pw_below_drewN | apply below_drew1 | refine below_set ?_ GE122.out) | exact HB.out)⟩
    · rw [if_neg c4] at H
      exact absurd H (by simp)
  · rw [if_neg c3] at H
    exact absurd H (by simp)
end Go.Proofs.Ytedodaifpekahaa.P

end
section

namespace Go.Proofs.Ytedodaifpekahaa.P
open Go.RowKit Go.Proofs.YtedodaifpekahaaW.PrintWords Go.Proofs.YtedodaifpekahaaW.PrintLast Go.Proofs.YtedodaifpekahaaW.PrintMore
attribute [local go_sem] max2_int min2_int max_two min_two max_three min_three max_four min_four
set_option linter.unusedVariables false
set_option linter.unusedSimpArgs false
set_option maxHeartbeats 8000000 in
set_option maxRecDepth 100000 in
theorem spec_ClassesOk.calls (k : Nat) (A0 : Option Addr) (c0 : Nat) (l0 : List (S76)) (r : Bool) (w : World) (hr0 : Kd.C k76 w A0 l0.length l0) (hc0 : l0.length ≤ c0) (h : spec_ClassesOk.f k l0 = some r) :
    Calls Try.prog 14 #[.slice A0 l0.length c0] w fun e w' => e = .returned (.bool r) ∧ Below w.heap.size w w' := by
  have HR0 := Aside0.mk hr0
  have HC0 := Aside0.mk hc0
  clear hr0 hc0
  have HB := Aside0.mk (Below.refl w.heap.size w)
  have H : ((spec_l6In.f (l0.length : Int) 2 5).bind fun t127 => (if t127 = true then (spec_ClassesOk.l0 k l0 0) else (some false))) = some r := h
  clear h
  replace H := Option.bind_eq_some_iff.mp H
  obtain ⟨t127, A20, H⟩ := H
  replace H : (if t127 = true then (spec_ClassesOk.l0 k l0 0) else (some false)) = some r := H
  have A2 := Aside0.mk A20
  clear A20
  by_cases c3 : t127 = true
  · subst c3
    have H1 : (spec_ClassesOk.l0 k l0 0) = some r := by rw [if_pos rfl] at H; exact H
    clear H
    have H := H1
    clear H1
    have H' := Aside0.mk H
    clear H
    go_enter Try.func14, Try.ntmps14
    go_wp2_with (first | ((with_reducible refine gate_callee (f := 15) rfl ?_); refine goesL_ (some 6) rfl rfl Try.func15 (by kernel_rfl) rfl #[.int .i64 (l0.length : Int), .int .i64 2, .int .i64 5] rfl (by (try simp only [List.map_toArray, List.map_cons, List.map_nil]); first | done | rfl | (simp only [List.length_drop, List.length_take]; rfl)) ?_; (with_reducible refine (spec_l6In.calls (l0.length : Int) 2 5 true _ A2.out).mono ?_); rintro e w' ⟨rfl, ⟨nd, rfl⟩⟩; refine ⟨_, rfl, ?_⟩))
    go_loopg [3] k (fun kq v3 w' => ∃ (x3_1 : Int), v3 = .int .i64 x3_1 ∧ Aside0 (spec_ClassesOk.l0 kq l0 x3_1 = some r) ∧ Aside0 (kq ≤ k) ∧ Aside0 (Below w.heap.size w w'))
    case atStart => exact ⟨(0), (by first | rfl | (simp; done) | (simp [*]; done)), H', ⟨Nat.le_refl _⟩, ⟨by repeat (first | (with_reducible first | exact HB.out | apply below_alloc | apply pw_below_drewN | apply below_drew1) | exact HB.out)⟩⟩
    case round =>
      clear H'
      try clear c1
      try clear p2
      try clear c3
      obtain ⟨x3_1, rfl, HA, HK1, HB⟩ := hrel
      cases gk with
      | zero => exact absurd HA.out (by simp [spec_ClassesOk.l0])
      | succ k1 =>
        have H := HA.out
        clear HA
        simp only [spec_ClassesOk.l0] at H
        by_cases c4 : x3_1 < (l0.length : Int)
        · rw [if_pos c4] at H
          have c4b0 : decide (x3_1 < (l0.length : Int)) = true := decide_eq_true c4
          clear c4
          replace H := Option.bind_eq_some_iff.mp H
          obtain ⟨t128, A50, H⟩ := H
          replace H : (if t128 = true then (spec_ClassesOk.l0 k1 l0 (wrap64 (x3_1 + 1))) else (some false)) = some r := H
          have A5 := Aside0.mk A50
          clear A50
          by_cases c6 : t128 = true
          · subst c6
            have H1 : (spec_ClassesOk.l0 k1 l0 (wrap64 (x3_1 + 1))) = some r := by rw [if_pos rfl] at H; exact H
            clear H
            have H := H1
            clear H1
            have H' := Aside0.mk H
            clear H
            go_wp2_with (first | ((with_reducible refine gate_callee (f := 33) rfl ?_); refine goesL_ (some 16) rfl rfl Try.func33 (by kernel_rfl) rfl #[.slice A0 l0.length c0, .int .i64 x3_1] rfl (by (try simp only [List.map_toArray, List.map_cons, List.map_nil]); first | done | rfl | (simp only [List.length_drop, List.length_take]; rfl)) ?_; (with_reducible refine (spec_l2Class.calls k1 _ _ l0 x3_1 true _ ?side1 ?side2 A5.out).mono ?_); (case side1 => repeat (first | exact (Kd.C_below HR0.out HB.out) | (with_reducible refine Kd.C_alloc ?_ _) | (with_reducible refine Kd.C_drewN ?_ _) | (with_reducible refine Kd.C_drew ?_))); (case side2 => exact HC0.out); rintro e w7 ⟨rfl, hb⟩; refine ⟨_, rfl, ?_⟩; have n0_ := Aside0.mk (below_step (by repeat (first | (with_reducible first | exact HB.out | apply below_alloc | apply pw_below_drewN | apply below_drew1) | exact HB.out)) hb); clear HB; have HB := n0_; clear n0_; (try clear hb); (try clear hb2); (try clear hk); (try clear hi)))
            go_roundg k1
            case measure => have := HK1.out; omega
            case rel => exact ⟨(wrap64 (x3_1 + 1)), (by first | rfl | (simp; done) | (simp [*]; done)), H', ⟨by have := HK1.out; omega⟩, ⟨by repeat (first | (with_reducible first | exact HB.out | apply below_alloc | apply pw_below_drewN | apply below_drew1) | exact HB.out)⟩⟩
          · replace c6 := Bool.eq_false_iff.mpr c6
            subst c6
            have H1 : (some false) = some r := by rw [if_neg (show ¬ (false = true) by decide)] at H; exact H
            clear H
            have H := H1
            clear H1
            obtain rfl := Option.some.inj H
            simp only [Option.some.injEq, Prod.mk.injEq] at H
            obtain ⟨rfl⟩ := H
            go_wp2_with (first | ((with_reducible refine gate_callee (f := 33) rfl ?_); refine goesL_ (some 16) rfl rfl Try.func33 (by kernel_rfl) rfl #[.slice A0 l0.length c0, .int .i64 x3_1] rfl (by (try simp only [List.map_toArray, List.map_cons, List.map_nil]); first | done | rfl | (simp only [List.length_drop, List.length_take]; rfl)) ?_; (with_reducible refine (spec_l2Class.calls k1 _ _ l0 x3_1 false _ ?side1 ?side2 A5.out).mono ?_); (case side1 => repeat (first | exact (Kd.C_below HR0.out HB.out) | (with_reducible refine Kd.C_alloc ?_ _) | (with_reducible refine Kd.C_drewN ?_ _) | (with_reducible refine Kd.C_drew ?_))); (case side2 => exact HC0.out); rintro e w8 ⟨rfl, hb⟩; refine ⟨_, rfl, ?_⟩; have n0_ := Aside0.mk (below_step (by repeat (first | (with_reducible first | exact HB.out | apply below_alloc | apply pw_below_drewN | apply below_drew1) | exact HB.out)) hb); clear HB; have HB := n0_; clear n0_; (try clear hb); (try clear hb2); (try clear hk); (try clear hi)))
            go_ret
            exact ⟨by first | rfl | (simp [errW_none, errW_some] <;> rfl) | (simp [*, errW_none, errW_some] <;> rfl), by repeat (first | (with_reducible first | exact HB.out | apply below_alloc | apply pw_below_drewN | apply below_drew1) | exact HB.out)⟩
        · rw [if_neg c4] at H
          have c4b0 : decide (x3_1 < (l0.length : Int)) = false := decide_eq_false c4
          clear c4
          obtain rfl := Option.some.inj H
          simp only [Option.some.injEq, Prod.mk.injEq] at H
          obtain ⟨rfl⟩ := H
          go_wp2
          go_ret
          exact ⟨by first | rfl | (simp [errW_none, errW_some] <;> rfl) | (simp [*, errW_none, errW_some] <;> rfl), by repeat (first | (with_reducible first | exact HB.out | apply below_alloc | apply pw_below_drewN | apply below_drew1) | exact HB.out)⟩
  · replace c3 := Bool.eq_false_iff.mpr c3
    subst c3
    have H1 : (some false) = some r := by rw [if_neg (show ¬ (false = true) by decide)] at H; exact H
    clear H
    have H := H1
    clear H1
    obtain rfl := Option.some.inj H
    simp only [Option.some.injEq, Prod.mk.injEq] at H
    obtain ⟨rfl⟩ := H
    go_enter Try.func14, Try.ntmps14
    go_wp2_with (first | ((with_reducible refine gate_callee (f := 15) rfl ?_); refine goesL_ (some 6) rfl rfl Try.func15 (by kernel_rfl) rfl #[.int .i64 (l0.length : Int), .int .i64 2, .int .i64 5] rfl (by (try simp only [List.map_toArray, List.map_cons, List.map_nil]); first | done | rfl | (simp only [List.length_drop, List.length_take]; rfl)) ?_; (with_reducible refine (spec_l6In.calls (l0.length : Int) 2 5 false _ A2.out).mono ?_); rintro e w' ⟨rfl, ⟨nd, rfl⟩⟩; refine ⟨_, rfl, ?_⟩))
    go_ret
    exact ⟨by first | rfl | (simp [errW_none, errW_some] <;> rfl) | (simp [*, errW_none, errW_some] <;> rfl), by repeat (first | (with_reducible first | exact HB.out | apply below_alloc | apply pw_below_drewN | apply below_drew1) | exact HB.out)⟩
end Go.Proofs.Ytedodaifpekahaa.P

end
