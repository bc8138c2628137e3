/- A part of the claim FnClassJoin: texts of this session and texts that its program printed out of the translation, joined. -/
import Derived.Test.YtgmjolngnhdafaaProg
import Derived.Below
import Derived.Deep.Draws
import Derived.Deep.AppendLies
import Derived.Maps.AppendAt
import Derived.OwnWalk
import Derived.Laws.BytesArg
import Derived.Laws.MakeOwn
import Derived.Laws.OwnMore
import Derived.Deep.OwnRows
import Derived.Tactics
import Derived.Lib.ConvBytes
import Derived.Laws.Slices
import Derived.WalkKit
import Derived.KernelRfl
import Derived.RowKit3
import Derived.Deep.LoopGhost
import Derived.Deep.QuietTactic
import Derived.BigQuiet
import Derived.WideLaws
import Derived.Deep.DeepCutAuto
import Derived.Deep.CutBlock
import Derived.Deep.RegionHeld3
import Derived.Laws.Rows
import Derived.Lib.AppendStr
import Derived.ArgAppend
import Derived.Laws.IdiomCopy
import Derived.OrdersHeld
import Derived.Laws.BitsLemmas
import Derived.RowKit
import Derived.Test.YtgmjolngnhdafaaWWords
import Derived.Test.YtgmjolngnhdafaaWLast
import Derived.Test.YtgmjolngnhdafaaWTab
import Derived.Test.YtgmjolngnhdafaaWFour
import Derived.Test.YtgmjolngnhdafaaWQPut
import Derived.Test.YtgmjolngnhdafaaWApart
import Derived.Test.YtgmjolngnhdafaaWArr
import Derived.Test.YtgmjolngnhdafaaWZeros
import Derived.Test.YtgmjolngnhdafaaWFoot
import Derived.Test.YtgmjolngnhdafaaWKept
import Derived.Test.YtgmjolngnhdafaaWShare
import Derived.Test.YtgmjolngnhdafaaWN
import Derived.Test.YtgmjolngnhdafaaWFootNe
import Derived.Test.YtgmjolngnhdafaaWAt
import Derived.Test.YtgmjolngnhdafaaWEqStruct
import Derived.Test.YtgmjolngnhdafaaWRepsOne
import Derived.Test.YtgmjolngnhdafaaWInv
import Derived.Test.YtgmjolngnhdafaaWInvWords
import Derived.Test.YtgmjolngnhdafaaWGuard
import Derived.Test.YtgmjolngnhdafaaWNEv
import Derived.Test.YtgmjolngnhdafaaWMore
import Derived.WalkSpells
import Derived.WalkLawsBesides
section
namespace Go.Proofs.Ytgmjolngnhdafaa.P
open Go.RowKit Go.Proofs.YtgmjolngnhdafaaW.PrintWords Go.Proofs.YtgmjolngnhdafaaW.PrintLast Go.Proofs.YtgmjolngnhdafaaW.PrintMore
attribute [local go_sem] max2_int min2_int max_two min_two max_three min_three max_four min_four
set_option linter.unusedVariables false
set_option linter.unusedSimpArgs false

def errW : Option Int → Value
  | none => .nilIface
  | some c => .iface 0 (.int .i64 c)
theorem errW_none : errW none = .nilIface := rfl
theorem errW_some (c : Int) : errW (some c) = .iface 0 (.int .i64 c) := rfl

theorem info3 : (Try.prog.info? 3).map (fun i => (i.zero, i.size, i.bytes)) = some (some (.int .i64 0), 1, 8) := by kernel_rfl
theorem info5 : (Try.prog.info? 5).map (fun i => (i.zero, i.size, i.bytes)) = some (some (.int .u8 0), 1, 1) := by kernel_rfl
theorem info38 : (Try.prog.info? 38).map (fun i => (i.zero, i.size, i.bytes)) = some (some (.agg #[(.int .i64 0), (.slice none 0 0)]), 2, 32) := by kernel_rfl
-- the values' own types
def rd_L1 (xs : List (List Int)) (i : Int) : (List Int) := xs.getD i.toNat ([] : List Int)
theorem at_L1 {w : World} {A : Option Addr} {n : Nat} {xs : List (List Int)} (h : Kd.C (Kd.slice 3 (Kd.int .i64)) w A n xs) (i : Int) (h0 : 0 ≤ i) (h1 : i < n) : ∃ ad A0 c0, A = some ad ∧ w.cell? (ad.add i.toNat) = some (.slice A0 (rd_L1 xs i).length c0) ∧ (rd_L1 xs i).length ≤ c0 ∧ (Kd.int .i64).C w A0 (rd_L1 xs i).length (rd_L1 xs i) := by
  obtain ⟨ad, c, e, _, hK, hc0⟩ := Kd.C_get h ([] : List Int) i h0 h1
  have hc : ∀ j u, c[j]? = some u → w.cell? (ad.add (i.toNat * 1 + j)) = some u := hc0
  obtain ⟨A0, c0, rfl, l0, g0⟩ := hK
  exact ⟨ad, A0, c0, e, by have hq := hc 0 _ rfl; rwa [Nat.mul_one, Nat.add_zero] at hq, l0, g0⟩

/-! #### struct type 63 -/
structure S63 where
  f0 : Int
  f1 : (List Int)
def z63 : S63 := ⟨(0 : Int), ([] : List Int)⟩
def k63 : Kd S63 := Kd.iso (Kd.pair (Kd.int .i64) (Kd.slice 3 (Kd.int .i64))) (fun x : S63 => (x.f0, x.f1))
theorem k63_open {w : World} {x : S63} {cs : List Value} (h : k63.K w x cs) : ∃ A1 c1, cs = [.int .i64 x.f0, .slice A1 x.f1.length c1] ∧ x.f1.length ≤ c1 ∧ (Kd.int .i64).C w A1 x.f1.length x.f1 := by
  obtain ⟨_, _, rfl, rfl, ⟨A1, c1, rfl, l1, g1⟩⟩ := h
  exact ⟨A1, c1, rfl, l1, g1⟩
theorem k63_openM {w : World} {base : Nat} {ok : Nat → Prop} {x : S63} {cs : List Value} (h : k63.M w base ok x cs) : ∃ v1, cs = [.int .i64 x.f0, v1] ∧ (Kd.int .i64).R 3 w base ok v1 x.f1 := by
  obtain ⟨_, _, rfl, rfl, ⟨v1, rfl, g1⟩⟩ := h
  exact ⟨v1, rfl, g1⟩
theorem k63_mk (w : World) (x : S63) {A1 : Option Addr} {c1 : Nat} (l1 : x.f1.length ≤ c1) (g1 : (Kd.int .i64).C w A1 x.f1.length x.f1) : k63.K w x [.int .i64 x.f0, .slice A1 x.f1.length c1] := ⟨[.int .i64 x.f0], [.slice A1 x.f1.length c1], rfl, rfl, ⟨A1, c1, rfl, l1, g1⟩⟩
theorem k63_mkM (w : World) (base : Nat) (ok : Nat → Prop) (x : S63) {v1 : Value} (g1 : (Kd.int .i64).R 3 w base ok v1 x.f1) : k63.M w base ok x [.int .i64 x.f0, v1] := ⟨[.int .i64 x.f0], [v1], rfl, rfl, ⟨v1, rfl, g1⟩⟩
theorem k63_openF {W : World} {ok : Nat → Prop} {x : S63} {cs : List Value} (h : Kd.FK k63 W ok x cs) : ∃ A1 c1, cs = [.int .i64 x.f0, .slice A1 x.f1.length c1] ∧ x.f1.length ≤ c1 ∧ Kd.F (Kd.int .i64) W ok A1 x.f1.length x.f1 := by
  obtain ⟨A1, c1, rfl, l1, _⟩ := k63_open (Kd.FK_now h)
  exact ⟨A1, c1, rfl, l1, (fun W' hW => by obtain ⟨A1_, c1_, he, l1_, g1_⟩ := k63_open (h W' hW); injection (Option.some.inj (show some (Value.slice A1 x.f1.length c1) = some (Value.slice A1_ x.f1.length c1_) from congrArg (fun l => l[1]?) he)) with ha_ _ _; rw [ha_]; exact g1_)⟩
theorem k63_mkF (W : World) (ok : Nat → Prop) (x : S63) {A1 : Option Addr} {c1 : Nat} (l1 : x.f1.length ≤ c1) (g1 : Kd.F (Kd.int .i64) W ok A1 x.f1.length x.f1) : Kd.FK k63 W ok x [.int .i64 x.f0, .slice A1 x.f1.length c1] := fun W2 hW => k63_mk W2 x l1 (g1 W2 hW)
def rd_T63 (xs : List S63) (i : Int) : S63 := xs.getD i.toNat z63
theorem at_T63 {w : World} {A : Option Addr} {n : Nat} {xs : List S63} (h : Kd.C k63 w A n xs) (i : Int) (h0 : 0 ≤ i) (h1 : i < n) : ∃ ad A1 c1, A = some ad ∧ w.cell? (ad.add (i.toNat * 2)) = some (.int .i64 (rd_T63 xs i).f0) ∧ w.cell? ⟨(ad.add (i.toNat * 2)).block, (ad.add (i.toNat * 2)).off + 1, none⟩ = some (.slice A1 (rd_T63 xs i).f1.length c1) ∧ (rd_T63 xs i).f1.length ≤ c1 ∧ (Kd.int .i64).C w A1 (rd_T63 xs i).f1.length (rd_T63 xs i).f1 := by
  obtain ⟨ad, c, e, _, hK, hc0⟩ := Kd.C_get h z63 i h0 h1
  have hc : ∀ j u, c[j]? = some u → w.cell? (ad.add (i.toNat * 2 + j)) = some u := hc0
  obtain ⟨A1, c1, rfl, l1, g1⟩ := k63_open hK
  exact ⟨ad, A1, c1, e, hc 0 _ rfl, by rw [← add_field _ _ 1 (by omega)]; exact hc 1 _ rfl, l1, g1⟩

/-! #### struct type 38 -/
structure S38 where
  f0 : Int
  f1 : (List Int)
def z38 : S38 := ⟨(0 : Int), ([] : List Int)⟩
def k38 : Kd S38 := Kd.iso (Kd.pair (Kd.int .i64) (Kd.slice 3 (Kd.int .i64))) (fun x : S38 => (x.f0, x.f1))
theorem k38_open {w : World} {x : S38} {cs : List Value} (h : k38.K w x cs) : ∃ A1 c1, cs = [.int .i64 x.f0, .slice A1 x.f1.length c1] ∧ x.f1.length ≤ c1 ∧ (Kd.int .i64).C w A1 x.f1.length x.f1 := by
  obtain ⟨_, _, rfl, rfl, ⟨A1, c1, rfl, l1, g1⟩⟩ := h
  exact ⟨A1, c1, rfl, l1, g1⟩
theorem k38_openM {w : World} {base : Nat} {ok : Nat → Prop} {x : S38} {cs : List Value} (h : k38.M w base ok x cs) : ∃ v1, cs = [.int .i64 x.f0, v1] ∧ (Kd.int .i64).R 3 w base ok v1 x.f1 := by
  obtain ⟨_, _, rfl, rfl, ⟨v1, rfl, g1⟩⟩ := h
  exact ⟨v1, rfl, g1⟩
theorem k38_mk (w : World) (x : S38) {A1 : Option Addr} {c1 : Nat} (l1 : x.f1.length ≤ c1) (g1 : (Kd.int .i64).C w A1 x.f1.length x.f1) : k38.K w x [.int .i64 x.f0, .slice A1 x.f1.length c1] := ⟨[.int .i64 x.f0], [.slice A1 x.f1.length c1], rfl, rfl, ⟨A1, c1, rfl, l1, g1⟩⟩
theorem k38_mkM (w : World) (base : Nat) (ok : Nat → Prop) (x : S38) {v1 : Value} (g1 : (Kd.int .i64).R 3 w base ok v1 x.f1) : k38.M w base ok x [.int .i64 x.f0, v1] := ⟨[.int .i64 x.f0], [v1], rfl, rfl, ⟨v1, rfl, g1⟩⟩
theorem k38_openF {W : World} {ok : Nat → Prop} {x : S38} {cs : List Value} (h : Kd.FK k38 W ok x cs) : ∃ A1 c1, cs = [.int .i64 x.f0, .slice A1 x.f1.length c1] ∧ x.f1.length ≤ c1 ∧ Kd.F (Kd.int .i64) W ok A1 x.f1.length x.f1 := by
  obtain ⟨A1, c1, rfl, l1, _⟩ := k38_open (Kd.FK_now h)
  exact ⟨A1, c1, rfl, l1, (fun W' hW => by obtain ⟨A1_, c1_, he, l1_, g1_⟩ := k38_open (h W' hW); injection (Option.some.inj (show some (Value.slice A1 x.f1.length c1) = some (Value.slice A1_ x.f1.length c1_) from congrArg (fun l => l[1]?) he)) with ha_ _ _; rw [ha_]; exact g1_)⟩
theorem k38_mkF (W : World) (ok : Nat → Prop) (x : S38) {A1 : Option Addr} {c1 : Nat} (l1 : x.f1.length ≤ c1) (g1 : Kd.F (Kd.int .i64) W ok A1 x.f1.length x.f1) : Kd.FK k38 W ok x [.int .i64 x.f0, .slice A1 x.f1.length c1] := fun W2 hW => k38_mk W2 x l1 (g1 W2 hW)
def rd_T38 (xs : List S38) (i : Int) : S38 := xs.getD i.toNat z38
theorem at_T38 {w : World} {A : Option Addr} {n : Nat} {xs : List S38} (h : Kd.C k38 w A n xs) (i : Int) (h0 : 0 ≤ i) (h1 : i < n) : ∃ ad A1 c1, A = some ad ∧ w.cell? (ad.add (i.toNat * 2)) = some (.int .i64 (rd_T38 xs i).f0) ∧ w.cell? ⟨(ad.add (i.toNat * 2)).block, (ad.add (i.toNat * 2)).off + 1, none⟩ = some (.slice A1 (rd_T38 xs i).f1.length c1) ∧ (rd_T38 xs i).f1.length ≤ c1 ∧ (Kd.int .i64).C w A1 (rd_T38 xs i).f1.length (rd_T38 xs i).f1 := by
  obtain ⟨ad, c, e, _, hK, hc0⟩ := Kd.C_get h z38 i h0 h1
  have hc : ∀ j u, c[j]? = some u → w.cell? (ad.add (i.toNat * 2 + j)) = some u := hc0
  obtain ⟨A1, c1, rfl, l1, g1⟩ := k38_open hK
  exact ⟨ad, A1, c1, e, hc 0 _ rfl, by rw [← add_field _ _ 1 (by omega)]; exact hc 1 _ rfl, l1, g1⟩

def rd_L6 (xs : List (List S38)) (i : Int) : (List S38) := xs.getD i.toNat ([] : List S38)
theorem at_L6 {w : World} {A : Option Addr} {n : Nat} {xs : List (List S38)} (h : Kd.C (Kd.slice 38 k38) w A n xs) (i : Int) (h0 : 0 ≤ i) (h1 : i < n) : ∃ ad A0 c0, A = some ad ∧ w.cell? (ad.add i.toNat) = some (.slice A0 (rd_L6 xs i).length c0) ∧ (rd_L6 xs i).length ≤ c0 ∧ k38.C w A0 (rd_L6 xs i).length (rd_L6 xs i) := by
  obtain ⟨ad, c, e, _, hK, hc0⟩ := Kd.C_get h ([] : List S38) i h0 h1
  have hc : ∀ j u, c[j]? = some u → w.cell? (ad.add (i.toNat * 1 + j)) = some u := hc0
  obtain ⟨A0, c0, rfl, l0, g0⟩ := hK
  exact ⟨ad, A0, c0, e, by have hq := hc 0 _ rfl; rwa [Nat.mul_one, Nat.add_zero] at hq, l0, g0⟩

end Go.Proofs.Ytgmjolngnhdafaa.P

end
section
namespace Go.Proofs.Ytgmjolngnhdafaa
open Go Go.Proofs.Ytgmjolngnhdafaa.P
set_option maxRecDepth 100000
theorem enter_of {P : Program} {L : List Char} {W : List (List Char)} {c : List Char} {rest : List (List Char)} (h1 : P.initOrder.toList = L) (h2 : wordsSigns L = W) (h3 : behindMainWord W = c :: rest) (h4 : stripLifts liftWords (c :: rest) = ([], c :: rest)) (h5 : c = "cut".toList) (h6 : P.laysLater = false) (h7 : P.bearsReflect = false) (h8 : P.doorFits [] = true) : P.mayEnter = true := by
  unfold Program.mayEnter
  rw [h1, h2, h3]
  simp only [h4, h6, h7, h8, List.head?_cons]
  simp [h5]
theorem make_of {P : Program} {L : List Char} {W : List (List Char)} {c : List Char} {rest : List (List Char)} (h1 : P.initOrder.toList = L) (h2 : wordsSigns L = W) (h3 : behindMainWord W = c :: rest) (h5 : c = "cut".toList) : P.make = some .cut := by
  unfold Program.make
  rw [h1, h2, h3]
  simp [h5]
theorem lifts_of {P : Program} {L : List Char} {W : List (List Char)} {c : List Char} {rest : List (List Char)} (h1 : P.initOrder.toList = L) (h2 : wordsSigns L = W) (h3 : behindMainWord W = c :: rest) (h4 : stripLifts liftWords (c :: rest) = ([], c :: rest)) (h5 : c = "cut".toList) : P.liftsFinal = false := by
  unfold Program.liftsFinal Program.headLifts
  rw [h1, h2, h3]
  simp only [h4, List.head?_cons]
  simp [h5]
def headChars : List Char := [Char.ofNat 104, Char.ofNat 97, Char.ofNat 114, Char.ofNat 110, Char.ofNat 101, Char.ofNat 115, Char.ofNat 115, Char.ofNat 32, Char.ofNat 53, Char.ofNat 54, Char.ofNat 54, Char.ofNat 100, Char.ofNat 55, Char.ofNat 100, Char.ofNat 56, Char.ofNat 98, Char.ofNat 99, Char.ofNat 57, Char.ofNat 54, Char.ofNat 54, Char.ofNat 100, Char.ofNat 56, Char.ofNat 97, Char.ofNat 54, Char.ofNat 55, Char.ofNat 52, Char.ofNat 51, Char.ofNat 50, Char.ofNat 51, Char.ofNat 55, Char.ofNat 51, Char.ofNat 48, Char.ofNat 99, Char.ofNat 48, Char.ofNat 55, Char.ofNat 57, Char.ofNat 51, Char.ofNat 97, Char.ofNat 51, Char.ofNat 97, Char.ofNat 50, Char.ofNat 97, Char.ofNat 55, Char.ofNat 51, Char.ofNat 56, Char.ofNat 100, Char.ofNat 102, Char.ofNat 101, Char.ofNat 101, Char.ofNat 102, Char.ofNat 98, Char.ofNat 50, Char.ofNat 51, Char.ofNat 48, Char.ofNat 56, Char.ofNat 99, Char.ofNat 52, Char.ofNat 98, Char.ofNat 52, Char.ofNat 57, Char.ofNat 50, Char.ofNat 54, Char.ofNat 50, Char.ofNat 98, Char.ofNat 55, Char.ofNat 101, Char.ofNat 102, Char.ofNat 101, Char.ofNat 56, Char.ofNat 49, Char.ofNat 56, Char.ofNat 99, Char.ofNat 32, Char.ofNat 99, Char.ofNat 117, Char.ofNat 116, Char.ofNat 32, Char.ofNat 97, Char.ofNat 116, Char.ofNat 32, Char.ofNat 108, Char.ofNat 111, Char.ofNat 111, Char.ofNat 112, Char.ofNat 46, Char.ofNat 101, Char.ofNat 120, Char.ofNat 97, Char.ofNat 109, Char.ofNat 112, Char.ofNat 108, Char.ofNat 101, Char.ofNat 47, Char.ofNat 101, Char.ofNat 110, Char.ofNat 116, Char.ofNat 97, Char.ofNat 105, Char.ofNat 108, Char.ofNat 47, Char.ofNat 108, Char.ofNat 97, Char.ofNat 119, Char.ofNat 115, Char.ofNat 46, Char.ofNat 70, Char.ofNat 110, Char.ofNat 69, Char.ofNat 120, Char.ofNat 97, Char.ofNat 99, Char.ofNat 116, Char.ofNat 67, Char.ofNat 108, Char.ofNat 97, Char.ofNat 115, Char.ofNat 115, Char.ofNat 101, Char.ofNat 115, Char.ofNat 79, Char.ofNat 107, Char.ofNat 32, Char.ofNat 108, Char.ofNat 111, Char.ofNat 111, Char.ofNat 112, Char.ofNat 46, Char.ofNat 101, Char.ofNat 120, Char.ofNat 97, Char.ofNat 109, Char.ofNat 112, Char.ofNat 108, Char.ofNat 101, Char.ofNat 47, Char.ofNat 101, Char.ofNat 110, Char.ofNat 116, Char.ofNat 97, Char.ofNat 105, Char.ofNat 108, Char.ofNat 47, Char.ofNat 108, Char.ofNat 97, Char.ofNat 119, Char.ofNat 115, Char.ofNat 46, Char.ofNat 70, Char.ofNat 110, Char.ofNat 69, Char.ofNat 120, Char.ofNat 97, Char.ofNat 99, Char.ofNat 116, Char.ofNat 84, Char.ofNat 121, Char.ofNat 112, Char.ofNat 101, Char.ofNat 79, Char.ofNat 107, Char.ofNat 32, Char.ofNat 108, Char.ofNat 111, Char.ofNat 111, Char.ofNat 112, Char.ofNat 46, Char.ofNat 101, Char.ofNat 120, Char.ofNat 97, Char.ofNat 109, Char.ofNat 112, Char.ofNat 108, Char.ofNat 101, Char.ofNat 47, Char.ofNat 101, Char.ofNat 110, Char.ofNat 116, Char.ofNat 97, Char.ofNat 105, Char.ofNat 108, Char.ofNat 47, Char.ofNat 108, Char.ofNat 97, Char.ofNat 119, Char.ofNat 115, Char.ofNat 46, Char.ofNat 70, Char.ofNat 110, Char.ofNat 85, Char.ofNat 112, Char.ofNat 79, Char.ofNat 114, Char.ofNat 100, Char.ofNat 101, Char.ofNat 114, Char.ofNat 32, Char.ofNat 108, Char.ofNat 111, Char.ofNat 111, Char.ofNat 112, Char.ofNat 46, Char.ofNat 101, Char.ofNat 120, Char.ofNat 97, Char.ofNat 109, Char.ofNat 112, Char.ofNat 108, Char.ofNat 101, Char.ofNat 47, Char.ofNat 101, Char.ofNat 110, Char.ofNat 116, Char.ofNat 97, Char.ofNat 105, Char.ofNat 108, Char.ofNat 47, Char.ofNat 108, Char.ofNat 97, Char.ofNat 119, Char.ofNat 115, Char.ofNat 46, Char.ofNat 70, Char.ofNat 110, Char.ofNat 85, Char.ofNat 112, Char.ofNat 83, Char.ofNat 116, Char.ofNat 101, Char.ofNat 112, Char.ofNat 32, Char.ofNat 108, Char.ofNat 111, Char.ofNat 111, Char.ofNat 112, Char.ofNat 46, Char.ofNat 101, Char.ofNat 120, Char.ofNat 97, Char.ofNat 109, Char.ofNat 112, Char.ofNat 108, Char.ofNat 101, Char.ofNat 47, Char.ofNat 101, Char.ofNat 110, Char.ofNat 116, Char.ofNat 97, Char.ofNat 105, Char.ofNat 108, Char.ofNat 47, Char.ofNat 108, Char.ofNat 97, Char.ofNat 119, Char.ofNat 115, Char.ofNat 46, Char.ofNat 70, Char.ofNat 110, Char.ofNat 69, Char.ofNat 120, Char.ofNat 97, Char.ofNat 99, Char.ofNat 116, Char.ofNat 67, Char.ofNat 108, Char.ofNat 97, Char.ofNat 115, Char.ofNat 115, Char.ofNat 85, Char.ofNat 112, Char.ofNat 32, Char.ofNat 108, Char.ofNat 111, Char.ofNat 111, Char.ofNat 112, Char.ofNat 46, Char.ofNat 101, Char.ofNat 120, Char.ofNat 97, Char.ofNat 109, Char.ofNat 112, Char.ofNat 108, Char.ofNat 101, Char.ofNat 47, Char.ofNat 101, Char.ofNat 110, Char.ofNat 116, Char.ofNat 97, Char.ofNat 105, Char.ofNat 108, Char.ofNat 47, Char.ofNat 108, Char.ofNat 97, Char.ofNat 119, Char.ofNat 115, Char.ofNat 46, Char.ofNat 70, Char.ofNat 110, Char.ofNat 70, Char.ofNat 105, Char.ofNat 101, Char.ofNat 108, Char.ofNat 100, Char.ofNat 115, Char.ofNat 65, Char.ofNat 98, Char.ofNat 111, Char.ofNat 118, Char.ofNat 101, Char.ofNat 32, Char.ofNat 108, Char.ofNat 111, Char.ofNat 111, Char.ofNat 112, Char.ofNat 46, Char.ofNat 101, Char.ofNat 120, Char.ofNat 97, Char.ofNat 109, Char.ofNat 112, Char.ofNat 108, Char.ofNat 101, Char.ofNat 47, Char.ofNat 101, Char.ofNat 110, Char.ofNat 116, Char.ofNat 97, Char.ofNat 105, Char.ofNat 108, Char.ofNat 47, Char.ofNat 108, Char.ofNat 97, Char.ofNat 119, Char.ofNat 115, Char.ofNat 46, Char.ofNat 70, Char.ofNat 110, Char.ofNat 84, Char.ofNat 121, Char.ofNat 112, Char.ofNat 101, Char.ofNat 67, Char.ofNat 108, Char.ofNat 97, Char.ofNat 115, Char.ofNat 115, Char.ofNat 32, Char.ofNat 108, Char.ofNat 111, Char.ofNat 111, Char.ofNat 112, Char.ofNat 46, Char.ofNat 101, Char.ofNat 120, Char.ofNat 97, Char.ofNat 109, Char.ofNat 112, Char.ofNat 108, Char.ofNat 101, Char.ofNat 47, Char.ofNat 101, Char.ofNat 110, Char.ofNat 116, Char.ofNat 97, Char.ofNat 105, Char.ofNat 108, Char.ofNat 47, Char.ofNat 108, Char.ofNat 97, Char.ofNat 119, Char.ofNat 115, Char.ofNat 46, Char.ofNat 70, Char.ofNat 110, Char.ofNat 69, Char.ofNat 120, Char.ofNat 97, Char.ofNat 99, Char.ofNat 116, Char.ofNat 67, Char.ofNat 108, Char.ofNat 97, Char.ofNat 115, Char.ofNat 115, Char.ofNat 70, Char.ofNat 105, Char.ofNat 101, Char.ofNat 108, Char.ofNat 100, Char.ofNat 115, Char.ofNat 32, Char.ofNat 108, Char.ofNat 111, Char.ofNat 111, Char.ofNat 112, Char.ofNat 46, Char.ofNat 101, Char.ofNat 120, Char.ofNat 97, Char.ofNat 109, Char.ofNat 112, Char.ofNat 108, Char.ofNat 101, Char.ofNat 47, Char.ofNat 101, Char.ofNat 110, Char.ofNat 116, Char.ofNat 97, Char.ofNat 105, Char.ofNat 108, Char.ofNat 47, Char.ofNat 108, Char.ofNat 97, Char.ofNat 119, Char.ofNat 115, Char.ofNat 46, Char.ofNat 70, Char.ofNat 110, Char.ofNat 69, Char.ofNat 120, Char.ofNat 97, Char.ofNat 99, Char.ofNat 116, Char.ofNat 84, Char.ofNat 121, Char.ofNat 112, Char.ofNat 101, Char.ofNat 73, Char.ofNat 110, Char.ofNat 32, Char.ofNat 108, Char.ofNat 111, Char.ofNat 111, Char.ofNat 112, Char.ofNat 46, Char.ofNat 101, Char.ofNat 120, Char.ofNat 97, Char.ofNat 109, Char.ofNat 112, Char.ofNat 108, Char.ofNat 101, Char.ofNat 47, Char.ofNat 101, Char.ofNat 110, Char.ofNat 116, Char.ofNat 97, Char.ofNat 105, Char.ofNat 108, Char.ofNat 47, Char.ofNat 108, Char.ofNat 97, Char.ofNat 119, Char.ofNat 115, Char.ofNat 46, Char.ofNat 70, Char.ofNat 110, Char.ofNat 84, Char.ofNat 121, Char.ofNat 112, Char.ofNat 101, Char.ofNat 79, Char.ofNat 114, Char.ofNat 100, Char.ofNat 101, Char.ofNat 114, Char.ofNat 32, Char.ofNat 108, Char.ofNat 111, Char.ofNat 111, Char.ofNat 112, Char.ofNat 46, Char.ofNat 101, Char.ofNat 120, Char.ofNat 97, Char.ofNat 109, Char.ofNat 112, Char.ofNat 108, Char.ofNat 101, Char.ofNat 47, Char.ofNat 101, Char.ofNat 110, Char.ofNat 116, Char.ofNat 97, Char.ofNat 105, Char.ofNat 108, Char.ofNat 47, Char.ofNat 108, Char.ofNat 97, Char.ofNat 119, Char.ofNat 115, Char.ofNat 46, Char.ofNat 70, Char.ofNat 110, Char.ofNat 67, Char.ofNat 108, Char.ofNat 97, Char.ofNat 115, Char.ofNat 115, Char.ofNat 74, Char.ofNat 111, Char.ofNat 105, Char.ofNat 110, Char.ofNat 32, Char.ofNat 108, Char.ofNat 111, Char.ofNat 111, Char.ofNat 112, Char.ofNat 46, Char.ofNat 101, Char.ofNat 120, Char.ofNat 97, Char.ofNat 109, Char.ofNat 112, Char.ofNat 108, Char.ofNat 101, Char.ofNat 47, Char.ofNat 101, Char.ofNat 110, Char.ofNat 116, Char.ofNat 97, Char.ofNat 105, Char.ofNat 108, Char.ofNat 47, Char.ofNat 108, Char.ofNat 97, Char.ofNat 119, Char.ofNat 115, Char.ofNat 46, Char.ofNat 70, Char.ofNat 110, Char.ofNat 69, Char.ofNat 120, Char.ofNat 97, Char.ofNat 99, Char.ofNat 116, Char.ofNat 67, Char.ofNat 108, Char.ofNat 97, Char.ofNat 115, Char.ofNat 115, Char.ofNat 74, Char.ofNat 111, Char.ofNat 105, Char.ofNat 110, Char.ofNat 32, Char.ofNat 108, Char.ofNat 111, Char.ofNat 111, Char.ofNat 112, Char.ofNat 46, Char.ofNat 101, Char.ofNat 120, Char.ofNat 97, Char.ofNat 109, Char.ofNat 112, Char.ofNat 108, Char.ofNat 101, Char.ofNat 47, Char.ofNat 101, Char.ofNat 110, Char.ofNat 116, Char.ofNat 97, Char.ofNat 105, Char.ofNat 108, Char.ofNat 47, Char.ofNat 108, Char.ofNat 97, Char.ofNat 119, Char.ofNat 115, Char.ofNat 46, Char.ofNat 70, Char.ofNat 110, Char.ofNat 69, Char.ofNat 120, Char.ofNat 97, Char.ofNat 99, Char.ofNat 116, Char.ofNat 83, Char.ofNat 104, Char.ofNat 97, Char.ofNat 112, Char.ofNat 101, Char.ofNat 79, Char.ofNat 107, Char.ofNat 32, Char.ofNat 108, Char.ofNat 111, Char.ofNat 111, Char.ofNat 112, Char.ofNat 46, Char.ofNat 101, Char.ofNat 120, Char.ofNat 97, Char.ofNat 109, Char.ofNat 112, Char.ofNat 108, Char.ofNat 101, Char.ofNat 47, Char.ofNat 101, Char.ofNat 110, Char.ofNat 116, Char.ofNat 97, Char.ofNat 105, Char.ofNat 108, Char.ofNat 47, Char.ofNat 108, Char.ofNat 97, Char.ofNat 119, Char.ofNat 115, Char.ofNat 46, Char.ofNat 70, Char.ofNat 110, Char.ofNat 67, Char.ofNat 108, Char.ofNat 97, Char.ofNat 115, Char.ofNat 115, Char.ofNat 101, Char.ofNat 115, Char.ofNat 77, Char.ofNat 111, Char.ofNat 114, Char.ofNat 101, Char.ofNat 32, Char.ofNat 108, Char.ofNat 111, Char.ofNat 111, Char.ofNat 112, Char.ofNat 46, Char.ofNat 101, Char.ofNat 120, Char.ofNat 97, Char.ofNat 109, Char.ofNat 112, Char.ofNat 108, Char.ofNat 101, Char.ofNat 47, Char.ofNat 101, Char.ofNat 110, Char.ofNat 116, Char.ofNat 97, Char.ofNat 105, Char.ofNat 108, Char.ofNat 47, Char.ofNat 108, Char.ofNat 97, Char.ofNat 119, Char.ofNat 115, Char.ofNat 46, Char.ofNat 70, Char.ofNat 110, Char.ofNat 83, Char.ofNat 104, Char.ofNat 97, Char.ofNat 112, Char.ofNat 101, Char.ofNat 79, Char.ofNat 107, Char.ofNat 32, Char.ofNat 108, Char.ofNat 111, Char.ofNat 111, Char.ofNat 112, Char.ofNat 46, Char.ofNat 101, Char.ofNat 120, Char.ofNat 97, Char.ofNat 109, Char.ofNat 112, Char.ofNat 108, Char.ofNat 101, Char.ofNat 47, Char.ofNat 101, Char.ofNat 110, Char.ofNat 116, Char.ofNat 97, Char.ofNat 105, Char.ofNat 108, Char.ofNat 47, Char.ofNat 108, Char.ofNat 97, Char.ofNat 119, Char.ofNat 115, Char.ofNat 46, Char.ofNat 70, Char.ofNat 110, Char.ofNat 69, Char.ofNat 120, Char.ofNat 97, Char.ofNat 99, Char.ofNat 116, Char.ofNat 83, Char.ofNat 104, Char.ofNat 97, Char.ofNat 112, Char.ofNat 101, Char.ofNat 73, Char.ofNat 110, Char.ofNat 32, Char.ofNat 108, Char.ofNat 111, Char.ofNat 111, Char.ofNat 112, Char.ofNat 46, Char.ofNat 101, Char.ofNat 120, Char.ofNat 97, Char.ofNat 109, Char.ofNat 112, Char.ofNat 108, Char.ofNat 101, Char.ofNat 47, Char.ofNat 101, Char.ofNat 110, Char.ofNat 116, Char.ofNat 97, Char.ofNat 105, Char.ofNat 108, Char.ofNat 47, Char.ofNat 108, Char.ofNat 97, Char.ofNat 119, Char.ofNat 115, Char.ofNat 46, Char.ofNat 70, Char.ofNat 110, Char.ofNat 83, Char.ofNat 104, Char.ofNat 97, Char.ofNat 112, Char.ofNat 101, Char.ofNat 79, Char.ofNat 114, Char.ofNat 100, Char.ofNat 101, Char.ofNat 114]
def headWords : List (List Char) := [[Char.ofNat 104, Char.ofNat 97, Char.ofNat 114, Char.ofNat 110, Char.ofNat 101, Char.ofNat 115, Char.ofNat 115], [Char.ofNat 53, Char.ofNat 54, Char.ofNat 54, Char.ofNat 100, Char.ofNat 55, Char.ofNat 100, Char.ofNat 56, Char.ofNat 98, Char.ofNat 99, Char.ofNat 57, Char.ofNat 54, Char.ofNat 54, Char.ofNat 100, Char.ofNat 56, Char.ofNat 97, Char.ofNat 54, Char.ofNat 55, Char.ofNat 52, Char.ofNat 51, Char.ofNat 50, Char.ofNat 51, Char.ofNat 55, Char.ofNat 51, Char.ofNat 48, Char.ofNat 99, Char.ofNat 48, Char.ofNat 55, Char.ofNat 57, Char.ofNat 51, Char.ofNat 97, Char.ofNat 51, Char.ofNat 97, Char.ofNat 50, Char.ofNat 97, Char.ofNat 55, Char.ofNat 51, Char.ofNat 56, Char.ofNat 100, Char.ofNat 102, Char.ofNat 101, Char.ofNat 101, Char.ofNat 102, Char.ofNat 98, Char.ofNat 50, Char.ofNat 51, Char.ofNat 48, Char.ofNat 56, Char.ofNat 99, Char.ofNat 52, Char.ofNat 98, Char.ofNat 52, Char.ofNat 57, Char.ofNat 50, Char.ofNat 54, Char.ofNat 50, Char.ofNat 98, Char.ofNat 55, Char.ofNat 101, Char.ofNat 102, Char.ofNat 101, Char.ofNat 56, Char.ofNat 49, Char.ofNat 56, Char.ofNat 99], [Char.ofNat 99, Char.ofNat 117, Char.ofNat 116], [Char.ofNat 97, Char.ofNat 116], [Char.ofNat 108, Char.ofNat 111, Char.ofNat 111, Char.ofNat 112, Char.ofNat 46, Char.ofNat 101, Char.ofNat 120, Char.ofNat 97, Char.ofNat 109, Char.ofNat 112, Char.ofNat 108, Char.ofNat 101, Char.ofNat 47, Char.ofNat 101, Char.ofNat 110, Char.ofNat 116, Char.ofNat 97, Char.ofNat 105, Char.ofNat 108, Char.ofNat 47, Char.ofNat 108, Char.ofNat 97, Char.ofNat 119, Char.ofNat 115, Char.ofNat 46, Char.ofNat 70, Char.ofNat 110, Char.ofNat 69, Char.ofNat 120, Char.ofNat 97, Char.ofNat 99, Char.ofNat 116, Char.ofNat 67, Char.ofNat 108, Char.ofNat 97, Char.ofNat 115, Char.ofNat 115, Char.ofNat 101, Char.ofNat 115, Char.ofNat 79, Char.ofNat 107], [Char.ofNat 108, Char.ofNat 111, Char.ofNat 111, Char.ofNat 112, Char.ofNat 46, Char.ofNat 101, Char.ofNat 120, Char.ofNat 97, Char.ofNat 109, Char.ofNat 112, Char.ofNat 108, Char.ofNat 101, Char.ofNat 47, Char.ofNat 101, Char.ofNat 110, Char.ofNat 116, Char.ofNat 97, Char.ofNat 105, Char.ofNat 108, Char.ofNat 47, Char.ofNat 108, Char.ofNat 97, Char.ofNat 119, Char.ofNat 115, Char.ofNat 46, Char.ofNat 70, Char.ofNat 110, Char.ofNat 69, Char.ofNat 120, Char.ofNat 97, Char.ofNat 99, Char.ofNat 116, Char.ofNat 84, Char.ofNat 121, Char.ofNat 112, Char.ofNat 101, Char.ofNat 79, Char.ofNat 107], [Char.ofNat 108, Char.ofNat 111, Char.ofNat 111, Char.ofNat 112, Char.ofNat 46, Char.ofNat 101, Char.ofNat 120, Char.ofNat 97, Char.ofNat 109, Char.ofNat 112, Char.ofNat 108, Char.ofNat 101, Char.ofNat 47, Char.ofNat 101, Char.ofNat 110, Char.ofNat 116, Char.ofNat 97, Char.ofNat 105, Char.ofNat 108, Char.ofNat 47, Char.ofNat 108, Char.ofNat 97, Char.ofNat 119, Char.ofNat 115, Char.ofNat 46, Char.ofNat 70, Char.ofNat 110, Char.ofNat 85, Char.ofNat 112, Char.ofNat 79, Char.ofNat 114, Char.ofNat 100, Char.ofNat 101, Char.ofNat 114], [Char.ofNat 108, Char.ofNat 111, Char.ofNat 111, Char.ofNat 112, Char.ofNat 46, Char.ofNat 101, Char.ofNat 120, Char.ofNat 97, Char.ofNat 109, Char.ofNat 112, Char.ofNat 108, Char.ofNat 101, Char.ofNat 47, Char.ofNat 101, Char.ofNat 110, Char.ofNat 116, Char.ofNat 97, Char.ofNat 105, Char.ofNat 108, Char.ofNat 47, Char.ofNat 108, Char.ofNat 97, Char.ofNat 119, Char.ofNat 115, Char.ofNat 46, Char.ofNat 70, Char.ofNat 110, Char.ofNat 85, Char.ofNat 112, Char.ofNat 83, Char.ofNat 116, Char.ofNat 101, Char.ofNat 112], [Char.ofNat 108, Char.ofNat 111, Char.ofNat 111, Char.ofNat 112, Char.ofNat 46, Char.ofNat 101, Char.ofNat 120, Char.ofNat 97, Char.ofNat 109, Char.ofNat 112, Char.ofNat 108, Char.ofNat 101, Char.ofNat 47, Char.ofNat 101, Char.ofNat 110, Char.ofNat 116, Char.ofNat 97, Char.ofNat 105, Char.ofNat 108, Char.ofNat 47, Char.ofNat 108, Char.ofNat 97, Char.ofNat 119, Char.ofNat 115, Char.ofNat 46, Char.ofNat 70, Char.ofNat 110, Char.ofNat 69, Char.ofNat 120, Char.ofNat 97, Char.ofNat 99, Char.ofNat 116, Char.ofNat 67, Char.ofNat 108, Char.ofNat 97, Char.ofNat 115, Char.ofNat 115, Char.ofNat 85, Char.ofNat 112], [Char.ofNat 108, Char.ofNat 111, Char.ofNat 111, Char.ofNat 112, Char.ofNat 46, Char.ofNat 101, Char.ofNat 120, Char.ofNat 97, Char.ofNat 109, Char.ofNat 112, Char.ofNat 108, Char.ofNat 101, Char.ofNat 47, Char.ofNat 101, Char.ofNat 110, Char.ofNat 116, Char.ofNat 97, Char.ofNat 105, Char.ofNat 108, Char.ofNat 47, Char.ofNat 108, Char.ofNat 97, Char.ofNat 119, Char.ofNat 115, Char.ofNat 46, Char.ofNat 70, Char.ofNat 110, Char.ofNat 70, Char.ofNat 105, Char.ofNat 101, Char.ofNat 108, Char.ofNat 100, Char.ofNat 115, Char.ofNat 65, Char.ofNat 98, Char.ofNat 111, Char.ofNat 118, Char.ofNat 101], [Char.ofNat 108, Char.ofNat 111, Char.ofNat 111, Char.ofNat 112, Char.ofNat 46, Char.ofNat 101, Char.ofNat 120, Char.ofNat 97, Char.ofNat 109, Char.ofNat 112, Char.ofNat 108, Char.ofNat 101, Char.ofNat 47, Char.ofNat 101, Char.ofNat 110, Char.ofNat 116, Char.ofNat 97, Char.ofNat 105, Char.ofNat 108, Char.ofNat 47, Char.ofNat 108, Char.ofNat 97, Char.ofNat 119, Char.ofNat 115, Char.ofNat 46, Char.ofNat 70, Char.ofNat 110, Char.ofNat 84, Char.ofNat 121, Char.ofNat 112, Char.ofNat 101, Char.ofNat 67, Char.ofNat 108, Char.ofNat 97, Char.ofNat 115, Char.ofNat 115], [Char.ofNat 108, Char.ofNat 111, Char.ofNat 111, Char.ofNat 112, Char.ofNat 46, Char.ofNat 101, Char.ofNat 120, Char.ofNat 97, Char.ofNat 109, Char.ofNat 112, Char.ofNat 108, Char.ofNat 101, Char.ofNat 47, Char.ofNat 101, Char.ofNat 110, Char.ofNat 116, Char.ofNat 97, Char.ofNat 105, Char.ofNat 108, Char.ofNat 47, Char.ofNat 108, Char.ofNat 97, Char.ofNat 119, Char.ofNat 115, Char.ofNat 46, Char.ofNat 70, Char.ofNat 110, Char.ofNat 69, Char.ofNat 120, Char.ofNat 97, Char.ofNat 99, Char.ofNat 116, Char.ofNat 67, Char.ofNat 108, Char.ofNat 97, Char.ofNat 115, Char.ofNat 115, Char.ofNat 70, Char.ofNat 105, Char.ofNat 101, Char.ofNat 108, Char.ofNat 100, Char.ofNat 115], [Char.ofNat 108, Char.ofNat 111, Char.ofNat 111, Char.ofNat 112, Char.ofNat 46, Char.ofNat 101, Char.ofNat 120, Char.ofNat 97, Char.ofNat 109, Char.ofNat 112, Char.ofNat 108, Char.ofNat 101, Char.ofNat 47, Char.ofNat 101, Char.ofNat 110, Char.ofNat 116, Char.ofNat 97, Char.ofNat 105, Char.ofNat 108, Char.ofNat 47, Char.ofNat 108, Char.ofNat 97, Char.ofNat 119, Char.ofNat 115, Char.ofNat 46, Char.ofNat 70, Char.ofNat 110, Char.ofNat 69, Char.ofNat 120, Char.ofNat 97, Char.ofNat 99, Char.ofNat 116, Char.ofNat 84, Char.ofNat 121, Char.ofNat 112, Char.ofNat 101, Char.ofNat 73, Char.ofNat 110], [Char.ofNat 108, Char.ofNat 111, Char.ofNat 111, Char.ofNat 112, Char.ofNat 46, Char.ofNat 101, Char.ofNat 120, Char.ofNat 97, Char.ofNat 109, Char.ofNat 112, Char.ofNat 108, Char.ofNat 101, Char.ofNat 47, Char.ofNat 101, Char.ofNat 110, Char.ofNat 116, Char.ofNat 97, Char.ofNat 105, Char.ofNat 108, Char.ofNat 47, Char.ofNat 108, Char.ofNat 97, Char.ofNat 119, Char.ofNat 115, Char.ofNat 46, Char.ofNat 70, Char.ofNat 110, Char.ofNat 84, Char.ofNat 121, Char.ofNat 112, Char.ofNat 101, Char.ofNat 79, Char.ofNat 114, Char.ofNat 100, Char.ofNat 101, Char.ofNat 114], [Char.ofNat 108, Char.ofNat 111, Char.ofNat 111, Char.ofNat 112, Char.ofNat 46, Char.ofNat 101, Char.ofNat 120, Char.ofNat 97, Char.ofNat 109, Char.ofNat 112, Char.ofNat 108, Char.ofNat 101, Char.ofNat 47, Char.ofNat 101, Char.ofNat 110, Char.ofNat 116, Char.ofNat 97, Char.ofNat 105, Char.ofNat 108, Char.ofNat 47, Char.ofNat 108, Char.ofNat 97, Char.ofNat 119, Char.ofNat 115, Char.ofNat 46, Char.ofNat 70, Char.ofNat 110, Char.ofNat 67, Char.ofNat 108, Char.ofNat 97, Char.ofNat 115, Char.ofNat 115, Char.ofNat 74, Char.ofNat 111, Char.ofNat 105, Char.ofNat 110], [Char.ofNat 108, Char.ofNat 111, Char.ofNat 111, Char.ofNat 112, Char.ofNat 46, Char.ofNat 101, Char.ofNat 120, Char.ofNat 97, Char.ofNat 109, Char.ofNat 112, Char.ofNat 108, Char.ofNat 101, Char.ofNat 47, Char.ofNat 101, Char.ofNat 110, Char.ofNat 116, Char.ofNat 97, Char.ofNat 105, Char.ofNat 108, Char.ofNat 47, Char.ofNat 108, Char.ofNat 97, Char.ofNat 119, Char.ofNat 115, Char.ofNat 46, Char.ofNat 70, Char.ofNat 110, Char.ofNat 69, Char.ofNat 120, Char.ofNat 97, Char.ofNat 99, Char.ofNat 116, Char.ofNat 67, Char.ofNat 108, Char.ofNat 97, Char.ofNat 115, Char.ofNat 115, Char.ofNat 74, Char.ofNat 111, Char.ofNat 105, Char.ofNat 110], [Char.ofNat 108, Char.ofNat 111, Char.ofNat 111, Char.ofNat 112, Char.ofNat 46, Char.ofNat 101, Char.ofNat 120, Char.ofNat 97, Char.ofNat 109, Char.ofNat 112, Char.ofNat 108, Char.ofNat 101, Char.ofNat 47, Char.ofNat 101, Char.ofNat 110, Char.ofNat 116, Char.ofNat 97, Char.ofNat 105, Char.ofNat 108, Char.ofNat 47, Char.ofNat 108, Char.ofNat 97, Char.ofNat 119, Char.ofNat 115, Char.ofNat 46, Char.ofNat 70, Char.ofNat 110, Char.ofNat 69, Char.ofNat 120, Char.ofNat 97, Char.ofNat 99, Char.ofNat 116, Char.ofNat 83, Char.ofNat 104, Char.ofNat 97, Char.ofNat 112, Char.ofNat 101, Char.ofNat 79, Char.ofNat 107], [Char.ofNat 108, Char.ofNat 111, Char.ofNat 111, Char.ofNat 112, Char.ofNat 46, Char.ofNat 101, Char.ofNat 120, Char.ofNat 97, Char.ofNat 109, Char.ofNat 112, Char.ofNat 108, Char.ofNat 101, Char.ofNat 47, Char.ofNat 101, Char.ofNat 110, Char.ofNat 116, Char.ofNat 97, Char.ofNat 105, Char.ofNat 108, Char.ofNat 47, Char.ofNat 108, Char.ofNat 97, Char.ofNat 119, Char.ofNat 115, Char.ofNat 46, Char.ofNat 70, Char.ofNat 110, Char.ofNat 67, Char.ofNat 108, Char.ofNat 97, Char.ofNat 115, Char.ofNat 115, Char.ofNat 101, Char.ofNat 115, Char.ofNat 77, Char.ofNat 111, Char.ofNat 114, Char.ofNat 101], [Char.ofNat 108, Char.ofNat 111, Char.ofNat 111, Char.ofNat 112, Char.ofNat 46, Char.ofNat 101, Char.ofNat 120, Char.ofNat 97, Char.ofNat 109, Char.ofNat 112, Char.ofNat 108, Char.ofNat 101, Char.ofNat 47, Char.ofNat 101, Char.ofNat 110, Char.ofNat 116, Char.ofNat 97, Char.ofNat 105, Char.ofNat 108, Char.ofNat 47, Char.ofNat 108, Char.ofNat 97, Char.ofNat 119, Char.ofNat 115, Char.ofNat 46, Char.ofNat 70, Char.ofNat 110, Char.ofNat 83, Char.ofNat 104, Char.ofNat 97, Char.ofNat 112, Char.ofNat 101, Char.ofNat 79, Char.ofNat 107], [Char.ofNat 108, Char.ofNat 111, Char.ofNat 111, Char.ofNat 112, Char.ofNat 46, Char.ofNat 101, Char.ofNat 120, Char.ofNat 97, Char.ofNat 109, Char.ofNat 112, Char.ofNat 108, Char.ofNat 101, Char.ofNat 47, Char.ofNat 101, Char.ofNat 110, Char.ofNat 116, Char.ofNat 97, Char.ofNat 105, Char.ofNat 108, Char.ofNat 47, Char.ofNat 108, Char.ofNat 97, Char.ofNat 119, Char.ofNat 115, Char.ofNat 46, Char.ofNat 70, Char.ofNat 110, Char.ofNat 69, Char.ofNat 120, Char.ofNat 97, Char.ofNat 99, Char.ofNat 116, Char.ofNat 83, Char.ofNat 104, Char.ofNat 97, Char.ofNat 112, Char.ofNat 101, Char.ofNat 73, Char.ofNat 110], [Char.ofNat 108, Char.ofNat 111, Char.ofNat 111, Char.ofNat 112, Char.ofNat 46, Char.ofNat 101, Char.ofNat 120, Char.ofNat 97, Char.ofNat 109, Char.ofNat 112, Char.ofNat 108, Char.ofNat 101, Char.ofNat 47, Char.ofNat 101, Char.ofNat 110, Char.ofNat 116, Char.ofNat 97, Char.ofNat 105, Char.ofNat 108, Char.ofNat 47, Char.ofNat 108, Char.ofNat 97, Char.ofNat 119, Char.ofNat 115, Char.ofNat 46, Char.ofNat 70, Char.ofNat 110, Char.ofNat 83, Char.ofNat 104, Char.ofNat 97, Char.ofNat 112, Char.ofNat 101, Char.ofNat 79, Char.ofNat 114, Char.ofNat 100, Char.ofNat 101, Char.ofNat 114]]
theorem head_is : Try.prog.initOrder.toList = headChars := by
  have h : Try.prog.initOrder = String.ofList headChars := by kernel_rfl
  rw [h, String.toList_ofList]
def rootWords : List (List Char) := [[Char.ofNat 97, Char.ofNat 116], [Char.ofNat 108, Char.ofNat 111, Char.ofNat 111, Char.ofNat 112, Char.ofNat 46, Char.ofNat 101, Char.ofNat 120, Char.ofNat 97, Char.ofNat 109, Char.ofNat 112, Char.ofNat 108, Char.ofNat 101, Char.ofNat 47, Char.ofNat 101, Char.ofNat 110, Char.ofNat 116, Char.ofNat 97, Char.ofNat 105, Char.ofNat 108, Char.ofNat 47, Char.ofNat 108, Char.ofNat 97, Char.ofNat 119, Char.ofNat 115, Char.ofNat 46, Char.ofNat 70, Char.ofNat 110, Char.ofNat 69, Char.ofNat 120, Char.ofNat 97, Char.ofNat 99, Char.ofNat 116, Char.ofNat 67, Char.ofNat 108, Char.ofNat 97, Char.ofNat 115, Char.ofNat 115, Char.ofNat 101, Char.ofNat 115, Char.ofNat 79, Char.ofNat 107], [Char.ofNat 108, Char.ofNat 111, Char.ofNat 111, Char.ofNat 112, Char.ofNat 46, Char.ofNat 101, Char.ofNat 120, Char.ofNat 97, Char.ofNat 109, Char.ofNat 112, Char.ofNat 108, Char.ofNat 101, Char.ofNat 47, Char.ofNat 101, Char.ofNat 110, Char.ofNat 116, Char.ofNat 97, Char.ofNat 105, Char.ofNat 108, Char.ofNat 47, Char.ofNat 108, Char.ofNat 97, Char.ofNat 119, Char.ofNat 115, Char.ofNat 46, Char.ofNat 70, Char.ofNat 110, Char.ofNat 69, Char.ofNat 120, Char.ofNat 97, Char.ofNat 99, Char.ofNat 116, Char.ofNat 84, Char.ofNat 121, Char.ofNat 112, Char.ofNat 101, Char.ofNat 79, Char.ofNat 107], [Char.ofNat 108, Char.ofNat 111, Char.ofNat 111, Char.ofNat 112, Char.ofNat 46, Char.ofNat 101, Char.ofNat 120, Char.ofNat 97, Char.ofNat 109, Char.ofNat 112, Char.ofNat 108, Char.ofNat 101, Char.ofNat 47, Char.ofNat 101, Char.ofNat 110, Char.ofNat 116, Char.ofNat 97, Char.ofNat 105, Char.ofNat 108, Char.ofNat 47, Char.ofNat 108, Char.ofNat 97, Char.ofNat 119, Char.ofNat 115, Char.ofNat 46, Char.ofNat 70, Char.ofNat 110, Char.ofNat 85, Char.ofNat 112, Char.ofNat 79, Char.ofNat 114, Char.ofNat 100, Char.ofNat 101, Char.ofNat 114], [Char.ofNat 108, Char.ofNat 111, Char.ofNat 111, Char.ofNat 112, Char.ofNat 46, Char.ofNat 101, Char.ofNat 120, Char.ofNat 97, Char.ofNat 109, Char.ofNat 112, Char.ofNat 108, Char.ofNat 101, Char.ofNat 47, Char.ofNat 101, Char.ofNat 110, Char.ofNat 116, Char.ofNat 97, Char.ofNat 105, Char.ofNat 108, Char.ofNat 47, Char.ofNat 108, Char.ofNat 97, Char.ofNat 119, Char.ofNat 115, Char.ofNat 46, Char.ofNat 70, Char.ofNat 110, Char.ofNat 85, Char.ofNat 112, Char.ofNat 83, Char.ofNat 116, Char.ofNat 101, Char.ofNat 112], [Char.ofNat 108, Char.ofNat 111, Char.ofNat 111, Char.ofNat 112, Char.ofNat 46, Char.ofNat 101, Char.ofNat 120, Char.ofNat 97, Char.ofNat 109, Char.ofNat 112, Char.ofNat 108, Char.ofNat 101, Char.ofNat 47, Char.ofNat 101, Char.ofNat 110, Char.ofNat 116, Char.ofNat 97, Char.ofNat 105, Char.ofNat 108, Char.ofNat 47, Char.ofNat 108, Char.ofNat 97, Char.ofNat 119, Char.ofNat 115, Char.ofNat 46, Char.ofNat 70, Char.ofNat 110, Char.ofNat 69, Char.ofNat 120, Char.ofNat 97, Char.ofNat 99, Char.ofNat 116, Char.ofNat 67, Char.ofNat 108, Char.ofNat 97, Char.ofNat 115, Char.ofNat 115, Char.ofNat 85, Char.ofNat 112], [Char.ofNat 108, Char.ofNat 111, Char.ofNat 111, Char.ofNat 112, Char.ofNat 46, Char.ofNat 101, Char.ofNat 120, Char.ofNat 97, Char.ofNat 109, Char.ofNat 112, Char.ofNat 108, Char.ofNat 101, Char.ofNat 47, Char.ofNat 101, Char.ofNat 110, Char.ofNat 116, Char.ofNat 97, Char.ofNat 105, Char.ofNat 108, Char.ofNat 47, Char.ofNat 108, Char.ofNat 97, Char.ofNat 119, Char.ofNat 115, Char.ofNat 46, Char.ofNat 70, Char.ofNat 110, Char.ofNat 70, Char.ofNat 105, Char.ofNat 101, Char.ofNat 108, Char.ofNat 100, Char.ofNat 115, Char.ofNat 65, Char.ofNat 98, Char.ofNat 111, Char.ofNat 118, Char.ofNat 101], [Char.ofNat 108, Char.ofNat 111, Char.ofNat 111, Char.ofNat 112, Char.ofNat 46, Char.ofNat 101, Char.ofNat 120, Char.ofNat 97, Char.ofNat 109, Char.ofNat 112, Char.ofNat 108, Char.ofNat 101, Char.ofNat 47, Char.ofNat 101, Char.ofNat 110, Char.ofNat 116, Char.ofNat 97, Char.ofNat 105, Char.ofNat 108, Char.ofNat 47, Char.ofNat 108, Char.ofNat 97, Char.ofNat 119, Char.ofNat 115, Char.ofNat 46, Char.ofNat 70, Char.ofNat 110, Char.ofNat 84, Char.ofNat 121, Char.ofNat 112, Char.ofNat 101, Char.ofNat 67, Char.ofNat 108, Char.ofNat 97, Char.ofNat 115, Char.ofNat 115], [Char.ofNat 108, Char.ofNat 111, Char.ofNat 111, Char.ofNat 112, Char.ofNat 46, Char.ofNat 101, Char.ofNat 120, Char.ofNat 97, Char.ofNat 109, Char.ofNat 112, Char.ofNat 108, Char.ofNat 101, Char.ofNat 47, Char.ofNat 101, Char.ofNat 110, Char.ofNat 116, Char.ofNat 97, Char.ofNat 105, Char.ofNat 108, Char.ofNat 47, Char.ofNat 108, Char.ofNat 97, Char.ofNat 119, Char.ofNat 115, Char.ofNat 46, Char.ofNat 70, Char.ofNat 110, Char.ofNat 69, Char.ofNat 120, Char.ofNat 97, Char.ofNat 99, Char.ofNat 116, Char.ofNat 67, Char.ofNat 108, Char.ofNat 97, Char.ofNat 115, Char.ofNat 115, Char.ofNat 70, Char.ofNat 105, Char.ofNat 101, Char.ofNat 108, Char.ofNat 100, Char.ofNat 115], [Char.ofNat 108, Char.ofNat 111, Char.ofNat 111, Char.ofNat 112, Char.ofNat 46, Char.ofNat 101, Char.ofNat 120, Char.ofNat 97, Char.ofNat 109, Char.ofNat 112, Char.ofNat 108, Char.ofNat 101, Char.ofNat 47, Char.ofNat 101, Char.ofNat 110, Char.ofNat 116, Char.ofNat 97, Char.ofNat 105, Char.ofNat 108, Char.ofNat 47, Char.ofNat 108, Char.ofNat 97, Char.ofNat 119, Char.ofNat 115, Char.ofNat 46, Char.ofNat 70, Char.ofNat 110, Char.ofNat 69, Char.ofNat 120, Char.ofNat 97, Char.ofNat 99, Char.ofNat 116, Char.ofNat 84, Char.ofNat 121, Char.ofNat 112, Char.ofNat 101, Char.ofNat 73, Char.ofNat 110], [Char.ofNat 108, Char.ofNat 111, Char.ofNat 111, Char.ofNat 112, Char.ofNat 46, Char.ofNat 101, Char.ofNat 120, Char.ofNat 97, Char.ofNat 109, Char.ofNat 112, Char.ofNat 108, Char.ofNat 101, Char.ofNat 47, Char.ofNat 101, Char.ofNat 110, Char.ofNat 116, Char.ofNat 97, Char.ofNat 105, Char.ofNat 108, Char.ofNat 47, Char.ofNat 108, Char.ofNat 97, Char.ofNat 119, Char.ofNat 115, Char.ofNat 46, Char.ofNat 70, Char.ofNat 110, Char.ofNat 84, Char.ofNat 121, Char.ofNat 112, Char.ofNat 101, Char.ofNat 79, Char.ofNat 114, Char.ofNat 100, Char.ofNat 101, Char.ofNat 114], [Char.ofNat 108, Char.ofNat 111, Char.ofNat 111, Char.ofNat 112, Char.ofNat 46, Char.ofNat 101, Char.ofNat 120, Char.ofNat 97, Char.ofNat 109, Char.ofNat 112, Char.ofNat 108, Char.ofNat 101, Char.ofNat 47, Char.ofNat 101, Char.ofNat 110, Char.ofNat 116, Char.ofNat 97, Char.ofNat 105, Char.ofNat 108, Char.ofNat 47, Char.ofNat 108, Char.ofNat 97, Char.ofNat 119, Char.ofNat 115, Char.ofNat 46, Char.ofNat 70, Char.ofNat 110, Char.ofNat 67, Char.ofNat 108, Char.ofNat 97, Char.ofNat 115, Char.ofNat 115, Char.ofNat 74, Char.ofNat 111, Char.ofNat 105, Char.ofNat 110], [Char.ofNat 108, Char.ofNat 111, Char.ofNat 111, Char.ofNat 112, Char.ofNat 46, Char.ofNat 101, Char.ofNat 120, Char.ofNat 97, Char.ofNat 109, Char.ofNat 112, Char.ofNat 108, Char.ofNat 101, Char.ofNat 47, Char.ofNat 101, Char.ofNat 110, Char.ofNat 116, Char.ofNat 97, Char.ofNat 105, Char.ofNat 108, Char.ofNat 47, Char.ofNat 108, Char.ofNat 97, Char.ofNat 119, Char.ofNat 115, Char.ofNat 46, Char.ofNat 70, Char.ofNat 110, Char.ofNat 69, Char.ofNat 120, Char.ofNat 97, Char.ofNat 99, Char.ofNat 116, Char.ofNat 67, Char.ofNat 108, Char.ofNat 97, Char.ofNat 115, Char.ofNat 115, Char.ofNat 74, Char.ofNat 111, Char.ofNat 105, Char.ofNat 110], [Char.ofNat 108, Char.ofNat 111, Char.ofNat 111, Char.ofNat 112, Char.ofNat 46, Char.ofNat 101, Char.ofNat 120, Char.ofNat 97, Char.ofNat 109, Char.ofNat 112, Char.ofNat 108, Char.ofNat 101, Char.ofNat 47, Char.ofNat 101, Char.ofNat 110, Char.ofNat 116, Char.ofNat 97, Char.ofNat 105, Char.ofNat 108, Char.ofNat 47, Char.ofNat 108, Char.ofNat 97, Char.ofNat 119, Char.ofNat 115, Char.ofNat 46, Char.ofNat 70, Char.ofNat 110, Char.ofNat 69, Char.ofNat 120, Char.ofNat 97, Char.ofNat 99, Char.ofNat 116, Char.ofNat 83, Char.ofNat 104, Char.ofNat 97, Char.ofNat 112, Char.ofNat 101, Char.ofNat 79, Char.ofNat 107], [Char.ofNat 108, Char.ofNat 111, Char.ofNat 111, Char.ofNat 112, Char.ofNat 46, Char.ofNat 101, Char.ofNat 120, Char.ofNat 97, Char.ofNat 109, Char.ofNat 112, Char.ofNat 108, Char.ofNat 101, Char.ofNat 47, Char.ofNat 101, Char.ofNat 110, Char.ofNat 116, Char.ofNat 97, Char.ofNat 105, Char.ofNat 108, Char.ofNat 47, Char.ofNat 108, Char.ofNat 97, Char.ofNat 119, Char.ofNat 115, Char.ofNat 46, Char.ofNat 70, Char.ofNat 110, Char.ofNat 67, Char.ofNat 108, Char.ofNat 97, Char.ofNat 115, Char.ofNat 115, Char.ofNat 101, Char.ofNat 115, Char.ofNat 77, Char.ofNat 111, Char.ofNat 114, Char.ofNat 101], [Char.ofNat 108, Char.ofNat 111, Char.ofNat 111, Char.ofNat 112, Char.ofNat 46, Char.ofNat 101, Char.ofNat 120, Char.ofNat 97, Char.ofNat 109, Char.ofNat 112, Char.ofNat 108, Char.ofNat 101, Char.ofNat 47, Char.ofNat 101, Char.ofNat 110, Char.ofNat 116, Char.ofNat 97, Char.ofNat 105, Char.ofNat 108, Char.ofNat 47, Char.ofNat 108, Char.ofNat 97, Char.ofNat 119, Char.ofNat 115, Char.ofNat 46, Char.ofNat 70, Char.ofNat 110, Char.ofNat 83, Char.ofNat 104, Char.ofNat 97, Char.ofNat 112, Char.ofNat 101, Char.ofNat 79, Char.ofNat 107], [Char.ofNat 108, Char.ofNat 111, Char.ofNat 111, Char.ofNat 112, Char.ofNat 46, Char.ofNat 101, Char.ofNat 120, Char.ofNat 97, Char.ofNat 109, Char.ofNat 112, Char.ofNat 108, Char.ofNat 101, Char.ofNat 47, Char.ofNat 101, Char.ofNat 110, Char.ofNat 116, Char.ofNat 97, Char.ofNat 105, Char.ofNat 108, Char.ofNat 47, Char.ofNat 108, Char.ofNat 97, Char.ofNat 119, Char.ofNat 115, Char.ofNat 46, Char.ofNat 70, Char.ofNat 110, Char.ofNat 69, Char.ofNat 120, Char.ofNat 97, Char.ofNat 99, Char.ofNat 116, Char.ofNat 83, Char.ofNat 104, Char.ofNat 97, Char.ofNat 112, Char.ofNat 101, Char.ofNat 73, Char.ofNat 110], [Char.ofNat 108, Char.ofNat 111, Char.ofNat 111, Char.ofNat 112, Char.ofNat 46, Char.ofNat 101, Char.ofNat 120, Char.ofNat 97, Char.ofNat 109, Char.ofNat 112, Char.ofNat 108, Char.ofNat 101, Char.ofNat 47, Char.ofNat 101, Char.ofNat 110, Char.ofNat 116, Char.ofNat 97, Char.ofNat 105, Char.ofNat 108, Char.ofNat 47, Char.ofNat 108, Char.ofNat 97, Char.ofNat 119, Char.ofNat 115, Char.ofNat 46, Char.ofNat 70, Char.ofNat 110, Char.ofNat 83, Char.ofNat 104, Char.ofNat 97, Char.ofNat 112, Char.ofNat 101, Char.ofNat 79, Char.ofNat 114, Char.ofNat 100, Char.ofNat 101, Char.ofNat 114]]
theorem enter : Try.prog.mayEnter = true := enter_of (L := headChars) (W := headWords) head_is (by kernel_rfl) (c := [Char.ofNat 99, Char.ofNat 117, Char.ofNat 116]) (rest := rootWords) (by kernel_rfl) (by kernel_rfl) (by kernel_rfl) (by kernel_rfl) (by kernel_rfl) (by kernel_rfl)
theorem make : Try.prog.make = some .cut := make_of (L := headChars) (W := headWords) head_is (by kernel_rfl) (c := [Char.ofNat 99, Char.ofNat 117, Char.ofNat 116]) (rest := rootWords) (by kernel_rfl) (by kernel_rfl)
theorem lifts : Try.prog.liftsFinal = false := lifts_of (L := headChars) (W := headWords) head_is (by kernel_rfl) (c := [Char.ofNat 99, Char.ofNat 117, Char.ofNat 116]) (rest := rootWords) (by kernel_rfl) (by kernel_rfl) (by kernel_rfl)
end Go.Proofs.Ytgmjolngnhdafaa

end
section
namespace Go.Proofs.Ytgmjolngnhdafaa.P
open Go Go.RowKit Go.Proofs.YtgmjolngnhdafaaW.PrintWords
/-- The value of the interface 'kind': nil for -1. -/
def kindW (r : Int) : Value :=
  if r = -1 then .nilIface else if r = 0 then .iface 89 (.agg #[]) else if r = 1 then .iface 84 (.agg #[]) else if r = 2 then .iface 90 (.agg #[])
  else if r = 3 then .iface 86 (.agg #[.bool false]) else if r = 4 then .iface 86 (.agg #[.bool true]) else .iface 88 (.agg #[.int .i64 (r - 8)])
/-- impl.kindOf: the number, where it is one of a type of so many classes. -/
def impl_kindOf.f (c t : Int) : Option Int :=
  if 0 ≤ c ∧ c ≤ 1000000000 ∧ -9223372036854775808 ≤ t ∧ t ≤ 9223372036854775807 then
    (if t = 0 then some 0 else if t = 1 then some 1 else if t = 2 then some 2 else if t = 3 then some 3 else if t = 4 then some 4 else if 8 ≤ t ∧ t < 8 + c then some t else some (-1)) else none
def impl_fieldType.f (c t : Int) : Option Bool := (impl_kindOf.f c t).bind fun r => some (decide (r = 1 ∨ r = 3 ∨ r = 4 ∨ 8 ≤ r))
end Go.Proofs.Ytgmjolngnhdafaa.P

end
section
namespace Go.Proofs.Ytgmjolngnhdafaa.P
open Go.RowKit Go.Proofs.YtgmjolngnhdafaaW.PrintWords Go.Proofs.YtgmjolngnhdafaaW.PrintLast Go.Proofs.YtgmjolngnhdafaaW.PrintMore
attribute [local go_sem] max2_int min2_int max_two min_two max_three min_three max_four min_four
set_option linter.unusedVariables false
set_option linter.unusedSimpArgs false

/-! ### impl_ClassesOk: function 23 -/
mutual
def impl_ClassesOk.j0 : Nat → List (S38) → Bool → Option (Bool)
  | 0, _, _ => none
  | k + 1, x0, x15 => if x15 = true then (some false) else (if 0 < (x0.length : Int) then (if ((rd_T38 x0 0).f0) = (-1) then (impl_ClassesOk.j1 k x0 ((((rd_T38 x0 0).f1).length : Int) != 0)) else (impl_ClassesOk.j1 k x0 true)) else (none))
def impl_ClassesOk.j1 : Nat → List (S38) → Bool → Option (Bool)
  | 0, _, _ => none
  | k + 1, x0, x28 => if x28 = true then (some false) else (if 1 < (x0.length : Int) then (if ((rd_T38 x0 1).f0) = 0 then (if (((rd_T38 x0 1).f1).length : Int) = 1 then (if 0 < (((rd_T38 x0 1).f1).length : Int) then (impl_ClassesOk.j2 k x0 ((rd ((rd_T38 x0 1).f1) 0) != 1)) else (none)) else (impl_ClassesOk.j2 k x0 true)) else (impl_ClassesOk.j2 k x0 true)) else (none))
def impl_ClassesOk.j2 : Nat → List (S38) → Bool → Option (Bool)
  | 0, _, _ => none
  | k + 1, x0, x47 => if x47 = true then (some false) else (impl_ClassesOk.l0 k x0 x0 (x0.length : Int) 0)
def impl_ClassesOk.l0 : Nat → List (S38) → List (S38) → Int → Int → Option (Bool)
  | 0, _, _, _, _ => none
  | k + 1, x0, x48, x49, x50 => if x50 < x49 then (if 0 ≤ x50 then (if x50 < (x48.length : Int) then (if x50 > 1 then (if ((rd_T38 x48 x50).f0) < 0 then (impl_ClassesOk.j4 k x0 x48 x49 x50 true ((rd_T38 x48 x50).f0) ((rd_T38 x48 x50).f1)) else (impl_ClassesOk.j4 k x0 x48 x49 x50 (decide (((rd_T38 x48 x50).f0) ≥ x50)) ((rd_T38 x48 x50).f0) ((rd_T38 x48 x50).f1))) else (impl_ClassesOk.j4 k x0 x48 x49 x50 false ((rd_T38 x48 x50).f0) ((rd_T38 x48 x50).f1))) else (none)) else (none)) else (some true)
def impl_ClassesOk.j4 : Nat → List (S38) → List (S38) → Int → Int → Bool → Int → List Int → Option (Bool)
  | 0, _, _, _, _, _, _, _ => none
  | k + 1, x0, x48, x49, x50, x67, x141000, x141001 => if x67 = true then (some false) else (if (x141001.length : Int) > 2 then (some false) else (impl_ClassesOk.l1 k x0 x48 x49 x50 x141001 (x141001.length : Int) 0))
def impl_ClassesOk.l1 : Nat → List (S38) → List (S38) → Int → Int → List Int → Int → Int → Option (Bool)
  | 0, _, _, _, _, _, _, _ => none
  | k + 1, x0, x48, x49, x50, x73, x74, x75 => if x75 < x74 then (if 0 ≤ x75 then (if x75 < (x73.length : Int) then ((impl_fieldType.f (x0.length : Int) (rd x73 x75)).bind fun t142 => (if t142 = true then (impl_ClassesOk.l1 k x0 x48 x49 x50 x73 x74 (wrap64 (x75 + 1))) else (some false))) else (none)) else (none)) else (impl_ClassesOk.l0 k x0 x48 x49 (wrap64 (x50 + 1)))
end
def impl_ClassesOk.f (k : Nat) (l0 : List (S38)) : Option (Bool) := if (l0.length : Int) < 2 then (impl_ClassesOk.j0 k l0 true) else (impl_ClassesOk.j0 k l0 (decide ((l0.length : Int) > 5)))
theorem impl_ClassesOk.mono_l : ∀ k, (∀ y0 y1, LeO (impl_ClassesOk.j0 k y0 y1) (impl_ClassesOk.j0 (k + 1) y0 y1)) ∧ (∀ y0 y1, LeO (impl_ClassesOk.j1 k y0 y1) (impl_ClassesOk.j1 (k + 1) y0 y1)) ∧ (∀ y0 y1, LeO (impl_ClassesOk.j2 k y0 y1) (impl_ClassesOk.j2 (k + 1) y0 y1)) ∧ (∀ y0 y1 y2 y3, LeO (impl_ClassesOk.l0 k y0 y1 y2 y3) (impl_ClassesOk.l0 (k + 1) y0 y1 y2 y3)) ∧ (∀ y0 y1 y2 y3 y4 y5 y6, LeO (impl_ClassesOk.j4 k y0 y1 y2 y3 y4 y5 y6) (impl_ClassesOk.j4 (k + 1) y0 y1 y2 y3 y4 y5 y6)) ∧ (∀ y0 y1 y2 y3 y4 y5 y6, LeO (impl_ClassesOk.l1 k y0 y1 y2 y3 y4 y5 y6) (impl_ClassesOk.l1 (k + 1) y0 y1 y2 y3 y4 y5 y6))
  | 0 => ⟨fun _ _ r h => by simp [impl_ClassesOk.j0] at h, fun _ _ r h => by simp [impl_ClassesOk.j1] at h, fun _ _ r h => by simp [impl_ClassesOk.j2] at h, fun _ _ _ _ r h => by simp [impl_ClassesOk.l0] at h, fun _ _ _ _ _ _ _ r h => by simp [impl_ClassesOk.j4] at h, fun _ _ _ _ _ _ _ r h => by simp [impl_ClassesOk.l1] at h⟩
  | k + 1 => by
    obtain ⟨ih0, ih1, ih2, ih3, ih4, ih5⟩ := impl_ClassesOk.mono_l k
    refine ⟨?_, ?_, ?_, ?_, ?_, ?_⟩
    · intro y0 y1
      unfold impl_ClassesOk.j0
      repeat' first
      | (with_reducible exact ih0 _ _)
      | (with_reducible exact ih1 _ _)
      | (with_reducible exact ih2 _ _)
      | (with_reducible exact ih3 _ _ _ _)
      | (with_reducible exact ih4 _ _ _ _ _ _ _)
      | (with_reducible exact ih5 _ _ _ _ _ _ _)
      | (with_reducible exact LeO.refl _)
      | (with_reducible exact LeO.none _)
      | (with_reducible refine LeO.ite ?_ ?_)
      | (with_reducible refine LeO.bind ?_ (fun _ => ?_))
      | exact ih0 _ _
      | exact ih1 _ _
      | exact ih2 _ _
      | exact ih3 _ _ _ _
      | exact ih4 _ _ _ _ _ _ _
      | exact ih5 _ _ _ _ _ _ _
      | exact LeO.none _
      | refine LeO.ite ?_ ?_
      | refine LeO.bind ?_ (fun _ => ?_)
    · intro y0 y1
      unfold impl_ClassesOk.j1
      repeat' first
      | (with_reducible exact ih0 _ _)
      | (with_reducible exact ih1 _ _)
      | (with_reducible exact ih2 _ _)
      | (with_reducible exact ih3 _ _ _ _)
      | (with_reducible exact ih4 _ _ _ _ _ _ _)
      | (with_reducible exact ih5 _ _ _ _ _ _ _)
      | (with_reducible exact LeO.refl _)
      | (with_reducible exact LeO.none _)
      | (with_reducible refine LeO.ite ?_ ?_)
      | (with_reducible refine LeO.bind ?_ (fun _ => ?_))
      | exact ih0 _ _
      | exact ih1 _ _
      | exact ih2 _ _
      | exact ih3 _ _ _ _
      | exact ih4 _ _ _ _ _ _ _
      | exact ih5 _ _ _ _ _ _ _
      | exact LeO.none _
      | refine LeO.ite ?_ ?_
      | refine LeO.bind ?_ (fun _ => ?_)
    · intro y0 y1
      unfold impl_ClassesOk.j2
      repeat' first
      | (with_reducible exact ih0 _ _)
      | (with_reducible exact ih1 _ _)
      | (with_reducible exact ih2 _ _)
      | (with_reducible exact ih3 _ _ _ _)
      | (with_reducible exact ih4 _ _ _ _ _ _ _)
      | (with_reducible exact ih5 _ _ _ _ _ _ _)
      | (with_reducible exact LeO.refl _)
      | (with_reducible exact LeO.none _)
      | (with_reducible refine LeO.ite ?_ ?_)
      | (with_reducible refine LeO.bind ?_ (fun _ => ?_))
      | exact ih0 _ _
      | exact ih1 _ _
      | exact ih2 _ _
      | exact ih3 _ _ _ _
      | exact ih4 _ _ _ _ _ _ _
      | exact ih5 _ _ _ _ _ _ _
      | exact LeO.none _
      | refine LeO.ite ?_ ?_
      | refine LeO.bind ?_ (fun _ => ?_)
    · intro y0 y1 y2 y3
      unfold impl_ClassesOk.l0
      repeat' first
      | (with_reducible exact ih0 _ _)
      | (with_reducible exact ih1 _ _)
      | (with_reducible exact ih2 _ _)
      | (with_reducible exact ih3 _ _ _ _)
      | (with_reducible exact ih4 _ _ _ _ _ _ _)
      | (with_reducible exact ih5 _ _ _ _ _ _ _)
      | (with_reducible exact LeO.refl _)
      | (with_reducible exact LeO.none _)
      | (with_reducible refine LeO.ite ?_ ?_)
      | (with_reducible refine LeO.bind ?_ (fun _ => ?_))
      | exact ih0 _ _
      | exact ih1 _ _
      | exact ih2 _ _
      | exact ih3 _ _ _ _
      | exact ih4 _ _ _ _ _ _ _
      | exact ih5 _ _ _ _ _ _ _
      | exact LeO.none _
      | refine LeO.ite ?_ ?_
      | refine LeO.bind ?_ (fun _ => ?_)
    · intro y0 y1 y2 y3 y4 y5 y6
      unfold impl_ClassesOk.j4
      repeat' first
      | (with_reducible exact ih0 _ _)
      | (with_reducible exact ih1 _ _)
      | (with_reducible exact ih2 _ _)
      | (with_reducible exact ih3 _ _ _ _)
      | (with_reducible exact ih4 _ _ _ _ _ _ _)
      | (with_reducible exact ih5 _ _ _ _ _ _ _)
      | (with_reducible exact LeO.refl _)
      | (with_reducible exact LeO.none _)
      | (with_reducible refine LeO.ite ?_ ?_)
      | (with_reducible refine LeO.bind ?_ (fun _ => ?_))
      | exact ih0 _ _
      | exact ih1 _ _
      | exact ih2 _ _
      | exact ih3 _ _ _ _
      | exact ih4 _ _ _ _ _ _ _
      | exact ih5 _ _ _ _ _ _ _
      | exact LeO.none _
      | refine LeO.ite ?_ ?_
      | refine LeO.bind ?_ (fun _ => ?_)
    · intro y0 y1 y2 y3 y4 y5 y6
      unfold impl_ClassesOk.l1
      repeat' first
      | (with_reducible exact ih0 _ _)
      | (with_reducible exact ih1 _ _)
      | (with_reducible exact ih2 _ _)
      | (with_reducible exact ih3 _ _ _ _)
      | (with_reducible exact ih4 _ _ _ _ _ _ _)
      | (with_reducible exact ih5 _ _ _ _ _ _ _)
      | (with_reducible exact LeO.refl _)
      | (with_reducible exact LeO.none _)
      | (with_reducible refine LeO.ite ?_ ?_)
      | (with_reducible refine LeO.bind ?_ (fun _ => ?_))
      | exact ih0 _ _
      | exact ih1 _ _
      | exact ih2 _ _
      | exact ih3 _ _ _ _
      | exact ih4 _ _ _ _ _ _ _
      | exact ih5 _ _ _ _ _ _ _
      | exact LeO.none _
      | refine LeO.ite ?_ ?_
      | refine LeO.bind ?_ (fun _ => ?_)
theorem impl_ClassesOk.mono : ∀ a0 k, LeO (impl_ClassesOk.f k a0) (impl_ClassesOk.f (k + 1) a0) := by
  intro a0 k
  obtain ⟨ih0, ih1, ih2, ih3, ih4, ih5⟩ := impl_ClassesOk.mono_l k
  unfold impl_ClassesOk.f
  repeat' first
      | (with_reducible exact ih0 _ _)
      | (with_reducible exact ih1 _ _)
      | (with_reducible exact ih2 _ _)
      | (with_reducible exact ih3 _ _ _ _)
      | (with_reducible exact ih4 _ _ _ _ _ _ _)
      | (with_reducible exact ih5 _ _ _ _ _ _ _)
      | (with_reducible exact LeO.refl _)
      | (with_reducible exact LeO.none _)
      | (with_reducible refine LeO.ite ?_ ?_)
      | (with_reducible refine LeO.bind ?_ (fun _ => ?_))
      | exact ih0 _ _
      | exact ih1 _ _
      | exact ih2 _ _
      | exact ih3 _ _ _ _
      | exact ih4 _ _ _ _ _ _ _
      | exact ih5 _ _ _ _ _ _ _
      | exact LeO.none _
      | refine LeO.ite ?_ ?_
      | refine LeO.bind ?_ (fun _ => ?_)

end Go.Proofs.Ytgmjolngnhdafaa.P

end
section
namespace Go.Proofs.Ytgmjolngnhdafaa.P
open Go.RowKit Go.Proofs.YtgmjolngnhdafaaW.PrintWords Go.Proofs.YtgmjolngnhdafaaW.PrintLast Go.Proofs.YtgmjolngnhdafaaW.PrintMore
attribute [local go_sem] max2_int min2_int max_two min_two max_three min_three max_four min_four
set_option linter.unusedVariables false
set_option linter.unusedSimpArgs false

/-! ### impl_isClass: function 66 -/
def impl_isClass.f (l0 : List (S38)) (a1 : Int) : Option (Bool) := if a1 ≥ 0 then (some (decide (a1 < (l0.length : Int)))) else (some false)

end Go.Proofs.Ytgmjolngnhdafaa.P

end
section
namespace Go.Proofs.Ytgmjolngnhdafaa.P
open Go.RowKit Go.Proofs.YtgmjolngnhdafaaW.PrintWords Go.Proofs.YtgmjolngnhdafaaW.PrintLast Go.Proofs.YtgmjolngnhdafaaW.PrintMore
attribute [local go_sem] max2_int min2_int max_two min_two max_three min_three max_four min_four
set_option linter.unusedVariables false
set_option linter.unusedSimpArgs false

/-! ### impl_classUp: function 67 -/
def impl_classUp.l0 : Nat → List (S38) → Int → Int → Option (Bool)
  | 0, _, _, _ => none
  | k + 1, x0, x2, x7 => if x7 ≥ 0 then (if x7 = x2 then (some true) else (if 0 ≤ x7 then (if x7 < (x0.length : Int) then (impl_classUp.l0 k x0 x2 ((rd_T38 x0 x7).f0)) else (none)) else (none))) else (some false)
def impl_classUp.f (k : Nat) (l0 : List (S38)) (a1 : Int) (a2 : Int) : Option (Bool) := impl_classUp.l0 k l0 a2 a1
theorem impl_classUp.mono_l : ∀ k, (∀ y0 y1 y2, LeO (impl_classUp.l0 k y0 y1 y2) (impl_classUp.l0 (k + 1) y0 y1 y2))
  | 0 => fun _ _ _ r h => by simp [impl_classUp.l0] at h
  | k + 1 => by
    have ih0 := impl_classUp.mono_l k
    · intro y0 y1 y2
      unfold impl_classUp.l0
      repeat' first
      | (with_reducible exact ih0 _ _ _)
      | (with_reducible exact LeO.refl _)
      | (with_reducible exact LeO.none _)
      | (with_reducible refine LeO.ite ?_ ?_)
      | (with_reducible refine LeO.bind ?_ (fun _ => ?_))
      | exact ih0 _ _ _
      | exact LeO.none _
      | refine LeO.ite ?_ ?_
      | refine LeO.bind ?_ (fun _ => ?_)
theorem impl_classUp.mono : ∀ a0 a1 a2 k, LeO (impl_classUp.f k a0 a1 a2) (impl_classUp.f (k + 1) a0 a1 a2) := by
  intro a0 a1 a2 k
  have ih0 := impl_classUp.mono_l k
  unfold impl_classUp.f
  repeat' first
      | (with_reducible exact ih0 _ _ _)
      | (with_reducible exact LeO.refl _)
      | (with_reducible exact LeO.none _)
      | (with_reducible refine LeO.ite ?_ ?_)
      | (with_reducible refine LeO.bind ?_ (fun _ => ?_))
      | exact ih0 _ _ _
      | exact LeO.none _
      | refine LeO.ite ?_ ?_
      | refine LeO.bind ?_ (fun _ => ?_)

end Go.Proofs.Ytgmjolngnhdafaa.P

end
section
namespace Go.Proofs.Ytgmjolngnhdafaa.P
open Go.RowKit Go.Proofs.YtgmjolngnhdafaaW.PrintWords Go.Proofs.YtgmjolngnhdafaaW.PrintLast Go.Proofs.YtgmjolngnhdafaaW.PrintMore
attribute [local go_sem] max2_int min2_int max_two min_two max_three min_three max_four min_four
set_option linter.unusedVariables false
set_option linter.unusedSimpArgs false

/-! ### impl_ClassUp: function 28 -/
def impl_ClassUp.f (k : Nat) (l0 : List (S38)) (a1 : Int) (a2 : Int) : Option (Bool) := (impl_ClassesOk.f k l0).bind fun t228 => (if t228 = true then ((impl_isClass.f l0 a1).bind fun t229 => (if t229 = true then ((impl_isClass.f l0 a2).bind fun t230 => (if t230 = true then ((impl_classUp.f k l0 a1 a2).bind fun t231 => (some t231)) else (some false))) else (some false))) else (some false))
theorem impl_ClassUp.mono : ∀ a0 a1 a2 k, LeO (impl_ClassUp.f k a0 a1 a2) (impl_ClassUp.f (k + 1) a0 a1 a2) := by
  intro a0 a1 a2 k
  unfold impl_ClassUp.f
  repeat' first
      | (with_reducible exact impl_ClassesOk.mono _ _)
      | (with_reducible exact impl_classUp.mono _ _ _ _)
      | (with_reducible exact LeO.refl _)
      | (with_reducible exact LeO.none _)
      | (with_reducible refine LeO.ite ?_ ?_)
      | (with_reducible refine LeO.bind ?_ (fun _ => ?_))
      | exact impl_ClassesOk.mono _ _
      | exact impl_classUp.mono _ _ _ _
      | exact LeO.none _
      | refine LeO.ite ?_ ?_
      | refine LeO.bind ?_ (fun _ => ?_)

end Go.Proofs.Ytgmjolngnhdafaa.P

end
section
namespace Go.Proofs.Ytgmjolngnhdafaa.P
open Go.RowKit Go.Proofs.YtgmjolngnhdafaaW.PrintWords Go.Proofs.YtgmjolngnhdafaaW.PrintLast Go.Proofs.YtgmjolngnhdafaaW.PrintMore
attribute [local go_sem] max2_int min2_int max_two min_two max_three min_three max_four min_four
set_option linter.unusedVariables false
set_option linter.unusedSimpArgs false

/-! ### spec_l6In: function 56 -/
def spec_l6In.f (a0 : Int) (a1 : Int) (a2 : Int) : Option (Bool) := if a0 ≥ a1 then (some (decide (a0 ≤ a2))) else (some false)

end Go.Proofs.Ytgmjolngnhdafaa.P

end
section
namespace Go.Proofs.Ytgmjolngnhdafaa.P
open Go.RowKit Go.Proofs.YtgmjolngnhdafaaW.PrintWords Go.Proofs.YtgmjolngnhdafaaW.PrintLast Go.Proofs.YtgmjolngnhdafaaW.PrintMore
attribute [local go_sem] max2_int min2_int max_two min_two max_three min_three max_four min_four
set_option linter.unusedVariables false
set_option linter.unusedSimpArgs false

/-! ### spec_l2Field: function 61 -/
def spec_l2Field.f (l0 : List (S38)) (a1 : Int) : Option (Bool) := if a1 = 1 then (some true) else (if a1 = 3 then (some true) else (if a1 = 4 then (some true) else ((spec_l6In.f a1 8 (wrap64 ((wrap64 (8 + (l0.length : Int))) - 1))).bind fun t105 => (some t105))))

end Go.Proofs.Ytgmjolngnhdafaa.P

end
section
namespace Go.Proofs.Ytgmjolngnhdafaa.P
open Go.RowKit Go.Proofs.YtgmjolngnhdafaaW.PrintWords Go.Proofs.YtgmjolngnhdafaaW.PrintLast Go.Proofs.YtgmjolngnhdafaaW.PrintMore
attribute [local go_sem] max2_int min2_int max_two min_two max_three min_three max_four min_four
set_option linter.unusedVariables false
set_option linter.unusedSimpArgs false

/-! ### spec_l2Class: function 57 -/
def spec_l2Class.l0 : Nat → List (S38) → Int → Int → Int → List Int → Option (Bool)
  | 0, _, _, _, _, _ => none
  | k + 1, x0, x1, x6, x108000, x108001 => if x6 < (x108001.length : Int) then (if 0 ≤ x6 then ((spec_l2Field.f x0 (rd x108001 x6)).bind fun t109 => (if t109 = true then (spec_l2Class.l0 k x0 x1 (wrap64 (x6 + 1)) x108000 x108001) else (some false))) else (none)) else (if x1 = 0 then (if x108000 = (-1) then (some ((x108001.length : Int) == 0)) else (some false)) else (if x1 = 1 then (if x108000 = 0 then (if (x108001.length : Int) = 1 then (if 0 < (x108001.length : Int) then (some ((rd x108001 0) == 1)) else (none)) else (some false)) else (some false)) else ((spec_l6In.f x108000 0 (wrap64 (x1 - 1))).bind fun t111 => (if t111 = true then (some (decide ((x108001.length : Int) ≤ 2))) else (some false)))))
def spec_l2Class.f (k : Nat) (l0 : List (S38)) (a1 : Int) : Option (Bool) := if 0 ≤ a1 then (if a1 < (l0.length : Int) then (spec_l2Class.l0 k l0 a1 0 ((rd_T38 l0 a1).f0) ((rd_T38 l0 a1).f1)) else (none)) else (none)
theorem spec_l2Class.mono_l : ∀ k, (∀ y0 y1 y2 y3 y4, LeO (spec_l2Class.l0 k y0 y1 y2 y3 y4) (spec_l2Class.l0 (k + 1) y0 y1 y2 y3 y4))
  | 0 => fun _ _ _ _ _ r h => by simp [spec_l2Class.l0] at h
  | k + 1 => by
    have ih0 := spec_l2Class.mono_l k
    · intro y0 y1 y2 y3 y4
      unfold spec_l2Class.l0
      repeat' first
      | (with_reducible exact ih0 _ _ _ _ _)
      | (with_reducible exact LeO.refl _)
      | (with_reducible exact LeO.none _)
      | (with_reducible refine LeO.ite ?_ ?_)
      | (with_reducible refine LeO.bind ?_ (fun _ => ?_))
      | exact ih0 _ _ _ _ _
      | exact LeO.none _
      | refine LeO.ite ?_ ?_
      | refine LeO.bind ?_ (fun _ => ?_)
theorem spec_l2Class.mono : ∀ a0 a1 k, LeO (spec_l2Class.f k a0 a1) (spec_l2Class.f (k + 1) a0 a1) := by
  intro a0 a1 k
  have ih0 := spec_l2Class.mono_l k
  unfold spec_l2Class.f
  repeat' first
      | (with_reducible exact ih0 _ _ _ _ _)
      | (with_reducible exact LeO.refl _)
      | (with_reducible exact LeO.none _)
      | (with_reducible refine LeO.ite ?_ ?_)
      | (with_reducible refine LeO.bind ?_ (fun _ => ?_))
      | exact ih0 _ _ _ _ _
      | exact LeO.none _
      | refine LeO.ite ?_ ?_
      | refine LeO.bind ?_ (fun _ => ?_)

end Go.Proofs.Ytgmjolngnhdafaa.P

end
section
namespace Go.Proofs.Ytgmjolngnhdafaa.P
open Go.RowKit Go.Proofs.YtgmjolngnhdafaaW.PrintWords Go.Proofs.YtgmjolngnhdafaaW.PrintLast Go.Proofs.YtgmjolngnhdafaaW.PrintMore
attribute [local go_sem] max2_int min2_int max_two min_two max_three min_three max_four min_four
set_option linter.unusedVariables false
set_option linter.unusedSimpArgs false

/-! ### spec_ClassesOk: function 21 -/
def spec_ClassesOk.l0 : Nat → List (S38) → Int → Option (Bool)
  | 0, _, _ => none
  | k + 1, x0, x3 => if x3 < (x0.length : Int) then ((spec_l2Class.f k x0 x3).bind fun t113 => (if t113 = true then (spec_ClassesOk.l0 k x0 (wrap64 (x3 + 1))) else (some false))) else (some true)
def spec_ClassesOk.f (k : Nat) (l0 : List (S38)) : Option (Bool) := (spec_l6In.f (l0.length : Int) 2 5).bind fun t112 => (if t112 = true then (spec_ClassesOk.l0 k l0 0) else (some false))
theorem spec_ClassesOk.mono_l : ∀ k, (∀ y0 y1, LeO (spec_ClassesOk.l0 k y0 y1) (spec_ClassesOk.l0 (k + 1) y0 y1))
  | 0 => fun _ _ r h => by simp [spec_ClassesOk.l0] at h
  | k + 1 => by
    have ih0 := spec_ClassesOk.mono_l k
    · intro y0 y1
      unfold spec_ClassesOk.l0
      repeat' first
      | (with_reducible exact ih0 _ _)
      | (with_reducible exact spec_l2Class.mono _ _ _)
      | (with_reducible exact LeO.refl _)
      | (with_reducible exact LeO.none _)
      | (with_reducible refine LeO.ite ?_ ?_)
      | (with_reducible refine LeO.bind ?_ (fun _ => ?_))
      | exact ih0 _ _
      | exact spec_l2Class.mono _ _ _
      | exact LeO.none _
      | refine LeO.ite ?_ ?_
      | refine LeO.bind ?_ (fun _ => ?_)
theorem spec_ClassesOk.mono : ∀ a0 k, LeO (spec_ClassesOk.f k a0) (spec_ClassesOk.f (k + 1) a0) := by
  intro a0 k
  have ih0 := spec_ClassesOk.mono_l k
  unfold spec_ClassesOk.f
  repeat' first
      | (with_reducible exact ih0 _ _)
      | (with_reducible exact spec_l2Class.mono _ _ _)
      | (with_reducible exact LeO.refl _)
      | (with_reducible exact LeO.none _)
      | (with_reducible refine LeO.ite ?_ ?_)
      | (with_reducible refine LeO.bind ?_ (fun _ => ?_))
      | exact ih0 _ _
      | exact spec_l2Class.mono _ _ _
      | exact LeO.none _
      | refine LeO.ite ?_ ?_
      | refine LeO.bind ?_ (fun _ => ?_)

end Go.Proofs.Ytgmjolngnhdafaa.P

end
section
namespace Go.Proofs.Ytgmjolngnhdafaa.P
open Go.RowKit Go.Proofs.YtgmjolngnhdafaaW.PrintWords Go.Proofs.YtgmjolngnhdafaaW.PrintLast Go.Proofs.YtgmjolngnhdafaaW.PrintMore
attribute [local go_sem] max2_int min2_int max_two min_two max_three min_three max_four min_four
set_option linter.unusedVariables false
set_option linter.unusedSimpArgs false

/-! ### laws_leIs: function 30 -/
def laws_leIs.f (k : Nat) (l0 : List (S38)) (a1 : Int) : Option (Bool) := (spec_ClassesOk.f k l0).bind fun t238 => (if t238 = true then (if a1 ≥ 0 then (some (decide (a1 < (l0.length : Int)))) else (some false)) else (some false))
theorem laws_leIs.mono : ∀ a0 a1 k, LeO (laws_leIs.f k a0 a1) (laws_leIs.f (k + 1) a0 a1) := by
  intro a0 a1 k
  unfold laws_leIs.f
  repeat' first
      | (with_reducible exact spec_ClassesOk.mono _ _)
      | (with_reducible exact LeO.refl _)
      | (with_reducible exact LeO.none _)
      | (with_reducible refine LeO.ite ?_ ?_)
      | (with_reducible refine LeO.bind ?_ (fun _ => ?_))
      | exact spec_ClassesOk.mono _ _
      | exact LeO.none _
      | refine LeO.ite ?_ ?_
      | refine LeO.bind ?_ (fun _ => ?_)

end Go.Proofs.Ytgmjolngnhdafaa.P

end
section
namespace Go.Proofs.Ytgmjolngnhdafaa.P
open Go.RowKit Go.Proofs.YtgmjolngnhdafaaW.PrintWords Go.Proofs.YtgmjolngnhdafaaW.PrintLast Go.Proofs.YtgmjolngnhdafaaW.PrintMore
attribute [local go_sem] max2_int min2_int max_two min_two max_three min_three max_four min_four
set_option linter.unusedVariables false
set_option linter.unusedSimpArgs false

/-! ### spec_l6Open: function 63 -/
def spec_l6Open.f (l0 : List Int) : Option (List Int × Int) := if (l0.length : Int) > 2000 then (if 2000 ≤ (l0.length : Int) then (some (l0.take 2000, 0)) else (none)) else (some (l0, 0))

end Go.Proofs.Ytgmjolngnhdafaa.P

end
section
namespace Go.Proofs.Ytgmjolngnhdafaa.P
open Go.RowKit Go.Proofs.YtgmjolngnhdafaaW.PrintWords Go.Proofs.YtgmjolngnhdafaaW.PrintLast Go.Proofs.YtgmjolngnhdafaaW.PrintMore
attribute [local go_sem] max2_int min2_int max_two min_two max_three min_three max_four min_four
set_option linter.unusedVariables false
set_option linter.unusedSimpArgs false

/-! ### spec_l6Rd_pick: function 65 -/
def spec_l6Rd_pick.j0 : Nat → Int → Bool → List Int → Int → Option (Int × Int)
  | 0, _, _, _, _ => none
  | k + 1, x1, x24, x1000, x1001 => if x24 = true then (some (0, x1001)) else (if (wrap64 (x1001 - 1)) < (x1000.length : Int) then (if 0 ≤ (wrap64 (x1001 - 1)) then (if x1 = 0 then (none) else (some (Int.tmod (wrap64 (rd x1000 (wrap64 (x1001 - 1)))) x1, x1001))) else (none)) else (if (x1000.length : Int) = 0 then (none) else (if 0 ≤ (Int.tmod (wrap64 (x1001 - 1)) (x1000.length : Int)) then (if (Int.tmod (wrap64 (x1001 - 1)) (x1000.length : Int)) < (x1000.length : Int) then (if 0 ≤ (Int.tmod (wrap64 ((wrap64 ((wrap64 (x1001 - 1)) * 7)) + 3)) (x1000.length : Int)) then (if (Int.tmod (wrap64 ((wrap64 ((wrap64 (x1001 - 1)) * 7)) + 3)) (x1000.length : Int)) < (x1000.length : Int) then (if x1 = 0 then (none) else (some (Int.tmod (Go.bits .xor .i64 (wrap64 ((wrap64 ((wrap64 ((wrap64 ((wrap64 (rd x1000 (Int.tmod (wrap64 (x1001 - 1)) (x1000.length : Int)))) * 131)) + (wrap64 ((wrap64 (rd x1000 (Int.tmod (wrap64 ((wrap64 ((wrap64 (x1001 - 1)) * 7)) + 3)) (x1000.length : Int)))) * 1117)))) + (wrap64 ((wrap64 (x1001 - 1)) * 29)))) + (wrap64 ((wrap64 (Int.tdiv (wrap64 (x1001 - 1)) (x1000.length : Int))) * 53)))) (wrap64 (Int.tdiv (wrap64 ((wrap64 ((wrap64 ((wrap64 ((wrap64 (rd x1000 (Int.tmod (wrap64 (x1001 - 1)) (x1000.length : Int)))) * 131)) + (wrap64 ((wrap64 (rd x1000 (Int.tmod (wrap64 ((wrap64 ((wrap64 (x1001 - 1)) * 7)) + 3)) (x1000.length : Int)))) * 1117)))) + (wrap64 ((wrap64 (x1001 - 1)) * 29)))) + (wrap64 ((wrap64 (Int.tdiv (wrap64 (x1001 - 1)) (x1000.length : Int))) * 53)))) 64))) x1, x1001))) else (none)) else (none)) else (none)) else (none))))
def spec_l6Rd_pick.f (k : Nat) (s0_0 : List Int) (s0_1 : Int) (a1 : Int) : Option (Int × Int) := if a1 < 1 then (spec_l6Rd_pick.j0 k a1 true s0_0 (wrap64 (s0_1 + 1))) else (spec_l6Rd_pick.j0 k a1 ((s0_0.length : Int) == 0) s0_0 (wrap64 (s0_1 + 1)))
theorem spec_l6Rd_pick.mono_l : ∀ k, (∀ y0 y1 y2 y3, LeO (spec_l6Rd_pick.j0 k y0 y1 y2 y3) (spec_l6Rd_pick.j0 (k + 1) y0 y1 y2 y3))
  | 0 => fun _ _ _ _ r h => by simp [spec_l6Rd_pick.j0] at h
  | k + 1 => by
    have ih0 := spec_l6Rd_pick.mono_l k
    · intro y0 y1 y2 y3
      unfold spec_l6Rd_pick.j0
      repeat' first
      | (with_reducible exact ih0 _ _ _ _)
      | (with_reducible exact LeO.refl _)
      | (with_reducible exact LeO.none _)
      | (with_reducible refine LeO.ite ?_ ?_)
      | (with_reducible refine LeO.bind ?_ (fun _ => ?_))
      | exact ih0 _ _ _ _
      | exact LeO.none _
      | refine LeO.ite ?_ ?_
      | refine LeO.bind ?_ (fun _ => ?_)
theorem spec_l6Rd_pick.mono : ∀ a0 a1 a2 k, LeO (spec_l6Rd_pick.f k a0 a1 a2) (spec_l6Rd_pick.f (k + 1) a0 a1 a2) := by
  intro a0 a1 a2 k
  have ih0 := spec_l6Rd_pick.mono_l k
  unfold spec_l6Rd_pick.f
  repeat' first
      | (with_reducible exact ih0 _ _ _ _)
      | (with_reducible exact LeO.refl _)
      | (with_reducible exact LeO.none _)
      | (with_reducible refine LeO.ite ?_ ?_)
      | (with_reducible refine LeO.bind ?_ (fun _ => ?_))
      | exact ih0 _ _ _ _
      | exact LeO.none _
      | refine LeO.ite ?_ ?_
      | refine LeO.bind ?_ (fun _ => ?_)

end Go.Proofs.Ytgmjolngnhdafaa.P

end
section
namespace Go.Proofs.Ytgmjolngnhdafaa.P
open Go.RowKit Go.Proofs.YtgmjolngnhdafaaW.PrintWords Go.Proofs.YtgmjolngnhdafaaW.PrintLast Go.Proofs.YtgmjolngnhdafaaW.PrintMore
attribute [local go_sem] max2_int min2_int max_two min_two max_three min_three max_four min_four
set_option linter.unusedVariables false
set_option linter.unusedSimpArgs false

/-! ### spec_l71Field: function 91 -/
def spec_l71Field.j0 : Nat → Int → Int → Bool → List Int → Int → Option (Int × Int)
  | 0, _, _, _, _, _ => none
  | k + 1, x1, x6, x7, x1000, x1001 => if x7 = true then (some (1, x1001)) else (if x6 = 2 then (some (3, x1001)) else (if x6 = 3 then (some (4, x1001)) else ((spec_l6Rd_pick.f k x1000 x1001 x1).bind fun bt189 => (some (wrap64 (8 + bt189.1), bt189.2)))))
def spec_l71Field.f (k : Nat) (s0_0 : List Int) (s0_1 : Int) (a1 : Int) : Option (Int × Int) := (spec_l6Rd_pick.f k s0_0 s0_1 6).bind fun bt187 => (if bt187.1 = 0 then (spec_l71Field.j0 k a1 bt187.1 (bt187.1 == 0) s0_0 bt187.2) else (spec_l71Field.j0 k a1 bt187.1 (bt187.1 == 1) s0_0 bt187.2))
theorem spec_l71Field.mono_l : ∀ k, (∀ y0 y1 y2 y3 y4, LeO (spec_l71Field.j0 k y0 y1 y2 y3 y4) (spec_l71Field.j0 (k + 1) y0 y1 y2 y3 y4))
  | 0 => fun _ _ _ _ _ r h => by simp [spec_l71Field.j0] at h
  | k + 1 => by
    have ih0 := spec_l71Field.mono_l k
    · intro y0 y1 y2 y3 y4
      unfold spec_l71Field.j0
      repeat' first
      | (with_reducible exact ih0 _ _ _ _ _)
      | (with_reducible exact spec_l6Rd_pick.mono _ _ _ _)
      | (with_reducible exact LeO.refl _)
      | (with_reducible exact LeO.none _)
      | (with_reducible refine LeO.ite ?_ ?_)
      | (with_reducible refine LeO.bind ?_ (fun _ => ?_))
      | exact ih0 _ _ _ _ _
      | exact spec_l6Rd_pick.mono _ _ _ _
      | exact LeO.none _
      | refine LeO.ite ?_ ?_
      | refine LeO.bind ?_ (fun _ => ?_)
theorem spec_l71Field.mono : ∀ a0 a1 a2 k, LeO (spec_l71Field.f k a0 a1 a2) (spec_l71Field.f (k + 1) a0 a1 a2) := by
  intro a0 a1 a2 k
  have ih0 := spec_l71Field.mono_l k
  unfold spec_l71Field.f
  repeat' first
      | (with_reducible exact ih0 _ _ _ _ _)
      | (with_reducible exact spec_l6Rd_pick.mono _ _ _ _)
      | (with_reducible exact LeO.refl _)
      | (with_reducible exact LeO.none _)
      | (with_reducible refine LeO.ite ?_ ?_)
      | (with_reducible refine LeO.bind ?_ (fun _ => ?_))
      | exact ih0 _ _ _ _ _
      | exact spec_l6Rd_pick.mono _ _ _ _
      | exact LeO.none _
      | refine LeO.ite ?_ ?_
      | refine LeO.bind ?_ (fun _ => ?_)

end Go.Proofs.Ytgmjolngnhdafaa.P

end
section
namespace Go.Proofs.Ytgmjolngnhdafaa.P
open Go.RowKit Go.Proofs.YtgmjolngnhdafaaW.PrintWords Go.Proofs.YtgmjolngnhdafaaW.PrintLast Go.Proofs.YtgmjolngnhdafaaW.PrintMore
attribute [local go_sem] max2_int min2_int max_two min_two max_three min_three max_four min_four
set_option linter.unusedVariables false
set_option linter.unusedSimpArgs false

/-! ### spec_l71Classes: function 88 -/
mutual
def spec_l71Classes.l0 : Nat → Int → List (S38) → Int → List Int → Int → Option ((List (S38)) × Int)
  | 0, _, _, _, _, _ => none
  | k + 1, x3, x4, x5, x1000, x1001 => if x5 < x3 then ((spec_l6Rd_pick.f k x1000 x1001 x5).bind fun bt199 => ((spec_l6Rd_pick.f k x1000 bt199.2 3).bind fun bt202 => (spec_l71Classes.l1 k x3 x4 x5 bt202.1 x1000 bt202.2 bt199.1 ([] : List Int)))) else (some (x4, x1001))
def spec_l71Classes.l1 : Nat → Int → List (S38) → Int → Int → List Int → Int → Int → List Int → Option ((List (S38)) × Int)
  | 0, _, _, _, _, _, _, _, _ => none
  | k + 1, x3, x4, x5, x7, x1000, x1001, x202000, x202001 => if x7 > 0 then ((spec_l71Field.f k x1000 x1001 x3).bind fun bt204 => (if x202001.length < 17592186044416 then (spec_l71Classes.l1 k x3 x4 x5 (wrap64 (x7 - 1)) x1000 bt204.2 x202000 (x202001 ++ [bt204.1])) else (none))) else (if x4.length < 4398046511104 then (spec_l71Classes.l0 k x3 (x4 ++ [(⟨x202000, x202001⟩ : S38)]) (wrap64 (x5 + 1)) x1000 x1001) else (none))
end
def spec_l71Classes.f (k : Nat) (s0_0 : List Int) (s0_1 : Int) : Option ((List (S38)) × Int) := (spec_l6Rd_pick.f k s0_0 s0_1 4).bind fun bt191 => (spec_l71Classes.l0 k (wrap64 (2 + bt191.1)) (([(⟨(-1), ([] : List Int)⟩ : S38), (⟨0, (([1] : List Int))⟩ : S38)] : List (S38))) 2 s0_0 bt191.2)
theorem spec_l71Classes.mono_l : ∀ k, (∀ y0 y1 y2 y3 y4, LeO (spec_l71Classes.l0 k y0 y1 y2 y3 y4) (spec_l71Classes.l0 (k + 1) y0 y1 y2 y3 y4)) ∧ (∀ y0 y1 y2 y3 y4 y5 y6 y7, LeO (spec_l71Classes.l1 k y0 y1 y2 y3 y4 y5 y6 y7) (spec_l71Classes.l1 (k + 1) y0 y1 y2 y3 y4 y5 y6 y7))
  | 0 => ⟨fun _ _ _ _ _ r h => by simp [spec_l71Classes.l0] at h, fun _ _ _ _ _ _ _ _ r h => by simp [spec_l71Classes.l1] at h⟩
  | k + 1 => by
    obtain ⟨ih0, ih1⟩ := spec_l71Classes.mono_l k
    refine ⟨?_, ?_⟩
    · intro y0 y1 y2 y3 y4
      unfold spec_l71Classes.l0
      repeat' first
      | (with_reducible exact ih0 _ _ _ _ _)
      | (with_reducible exact ih1 _ _ _ _ _ _ _ _)
      | (with_reducible exact spec_l6Rd_pick.mono _ _ _ _)
      | (with_reducible exact spec_l71Field.mono _ _ _ _)
      | (with_reducible exact LeO.refl _)
      | (with_reducible exact LeO.none _)
      | (with_reducible refine LeO.ite ?_ ?_)
      | (with_reducible refine LeO.bind ?_ (fun _ => ?_))
      | exact ih0 _ _ _ _ _
      | exact ih1 _ _ _ _ _ _ _ _
      | exact spec_l6Rd_pick.mono _ _ _ _
      | exact spec_l71Field.mono _ _ _ _
      | exact LeO.none _
      | refine LeO.ite ?_ ?_
      | refine LeO.bind ?_ (fun _ => ?_)
    · intro y0 y1 y2 y3 y4 y5 y6 y7
      unfold spec_l71Classes.l1
      repeat' first
      | (with_reducible exact ih0 _ _ _ _ _)
      | (with_reducible exact ih1 _ _ _ _ _ _ _ _)
      | (with_reducible exact spec_l6Rd_pick.mono _ _ _ _)
      | (with_reducible exact spec_l71Field.mono _ _ _ _)
      | (with_reducible exact LeO.refl _)
      | (with_reducible exact LeO.none _)
      | (with_reducible refine LeO.ite ?_ ?_)
      | (with_reducible refine LeO.bind ?_ (fun _ => ?_))
      | exact ih0 _ _ _ _ _
      | exact ih1 _ _ _ _ _ _ _ _
      | exact spec_l6Rd_pick.mono _ _ _ _
      | exact spec_l71Field.mono _ _ _ _
      | exact LeO.none _
      | refine LeO.ite ?_ ?_
      | refine LeO.bind ?_ (fun _ => ?_)
theorem spec_l71Classes.mono : ∀ a0 a1 k, LeO (spec_l71Classes.f k a0 a1) (spec_l71Classes.f (k + 1) a0 a1) := by
  intro a0 a1 k
  obtain ⟨ih0, ih1⟩ := spec_l71Classes.mono_l k
  unfold spec_l71Classes.f
  repeat' first
      | (with_reducible exact ih0 _ _ _ _ _)
      | (with_reducible exact ih1 _ _ _ _ _ _ _ _)
      | (with_reducible exact spec_l6Rd_pick.mono _ _ _ _)
      | (with_reducible exact spec_l71Field.mono _ _ _ _)
      | (with_reducible exact LeO.refl _)
      | (with_reducible exact LeO.none _)
      | (with_reducible refine LeO.ite ?_ ?_)
      | (with_reducible refine LeO.bind ?_ (fun _ => ?_))
      | exact ih0 _ _ _ _ _
      | exact ih1 _ _ _ _ _ _ _ _
      | exact spec_l6Rd_pick.mono _ _ _ _
      | exact spec_l71Field.mono _ _ _ _
      | exact LeO.none _
      | refine LeO.ite ?_ ?_
      | refine LeO.bind ?_ (fun _ => ?_)

end Go.Proofs.Ytgmjolngnhdafaa.P

end
section
namespace Go.Proofs.Ytgmjolngnhdafaa.P
open Go.RowKit Go.Proofs.YtgmjolngnhdafaaW.PrintWords Go.Proofs.YtgmjolngnhdafaaW.PrintLast Go.Proofs.YtgmjolngnhdafaaW.PrintMore
attribute [local go_sem] max2_int min2_int max_two min_two max_three min_three max_four min_four
set_option linter.unusedVariables false
set_option linter.unusedSimpArgs false

/-! ### spec_l71OffA: function 64 -/
def spec_l71OffA.f (k : Nat) (s0_0 : List Int) (s0_1 : Int) : Option ((List (S38)) × Int) := (spec_l71Classes.f k s0_0 s0_1).bind fun bt212 => ((spec_l6Rd_pick.f k s0_0 bt212.2 20).bind fun bt216 => (if bt216.1 > 0 then (some (bt212.1, bt216.2)) else ((spec_l6Rd_pick.f k s0_0 bt216.2 (bt212.1.length : Int)).bind fun bt218 => ((spec_l6Rd_pick.f k s0_0 bt218.2 6).bind fun bt220 => (if bt220.1 = 0 then ((spec_l6Rd_pick.f k s0_0 bt220.2 7).bind fun bt222 => (if 0 ≤ bt218.1 then (if bt218.1 < (bt212.1.length : Int) then (some ((bt212.1.set (bt218.1 : Int).toNat (⟨wrap64 (bt222.1 - 1), (rd_T38 bt212.1 bt218.1).f1⟩ : S38)), bt222.2)) else (none)) else (none))) else (if bt220.1 = 1 then (if 0 ≤ bt218.1 then (if bt218.1 < (bt212.1.length : Int) then ((some (([0, 2, 13, 5] : List Int) : List Int)).bind fun y226 => ((spec_l6Rd_pick.f k s0_0 bt220.2 4).bind fun bt229 => (if 0 ≤ bt229.1 then (if bt229.1 < (y226.length : Int) then (if ((rd_T38 bt212.1 bt218.1).f1).length < 17592186044416 then (some ((bt212.1.set (bt218.1 : Int).toNat (⟨(rd_T38 bt212.1 bt218.1).f0, (((rd_T38 bt212.1 bt218.1).f1) ++ [rd y226 bt229.1])⟩ : S38)), bt229.2)) else (none)) else (none)) else (none)))) else (none)) else (none)) else (if bt220.1 = 2 then (if 1 ≤ (bt212.1.length : Int) then (some ((bt212.1.take (1 : Int).toNat), bt220.2)) else (none)) else (if bt220.1 = 3 then (if 1 < (bt212.1.length : Int) then (none) else (none)) else (if bt220.1 = 4 then (if 0 ≤ bt218.1 then (if bt218.1 < (bt212.1.length : Int) then (some ((bt212.1.set (bt218.1 : Int).toNat (⟨(rd_T38 bt212.1 bt218.1).f0, (([1, 1, 1] : List Int))⟩ : S38)), bt220.2)) else (none)) else (none)) else (if 0 ≤ bt218.1 then (if bt218.1 < (bt212.1.length : Int) then (some ((bt212.1.set (bt218.1 : Int).toNat (⟨(rd_T38 bt212.1 bt218.1).f0, ([] : List Int)⟩ : S38)), bt220.2)) else (none)) else (none)))))))))))
theorem spec_l71OffA.mono : ∀ a0 a1 k, LeO (spec_l71OffA.f k a0 a1) (spec_l71OffA.f (k + 1) a0 a1) := by
  intro a0 a1 k
  unfold spec_l71OffA.f
  repeat' first
      | (with_reducible exact spec_l6Rd_pick.mono _ _ _ _)
      | (with_reducible exact spec_l71Classes.mono _ _ _)
      | (with_reducible exact LeO.refl _)
      | (with_reducible exact LeO.none _)
      | (with_reducible refine LeO.ite ?_ ?_)
      | (with_reducible refine LeO.bind ?_ (fun _ => ?_))
      | exact spec_l6Rd_pick.mono _ _ _ _
      | exact spec_l71Classes.mono _ _ _
      | exact LeO.none _
      | refine LeO.ite ?_ ?_
      | refine LeO.bind ?_ (fun _ => ?_)

end Go.Proofs.Ytgmjolngnhdafaa.P

end
section
namespace Go.Proofs.Ytgmjolngnhdafaa.P
open Go.RowKit Go.Proofs.YtgmjolngnhdafaaW.PrintWords Go.Proofs.YtgmjolngnhdafaaW.PrintLast Go.Proofs.YtgmjolngnhdafaaW.PrintMore
attribute [local go_sem] max2_int min2_int max_two min_two max_three min_three max_four min_four
set_option linter.unusedVariables false
set_option linter.unusedSimpArgs false

/-! ### spec_l71OffB: function 64 -/
def spec_l71OffB.f (k : Nat) (s0_0 : List Int) (s0_1 : Int) : Option ((List (S38)) × Int) := (spec_l71Classes.f k s0_0 s0_1).bind fun bt212 => ((spec_l6Rd_pick.f k s0_0 bt212.2 20).bind fun bt216 => (if bt216.1 > 0 then (some (bt212.1, bt216.2)) else ((spec_l6Rd_pick.f k s0_0 bt216.2 (bt212.1.length : Int)).bind fun bt218 => ((spec_l6Rd_pick.f k s0_0 bt218.2 6).bind fun bt220 => (if bt220.1 = 0 then ((spec_l6Rd_pick.f k s0_0 bt220.2 7).bind fun bt222 => (if 0 ≤ bt218.1 then (if bt218.1 < (bt212.1.length : Int) then (some ((bt212.1.set (bt218.1 : Int).toNat (⟨wrap64 (bt222.1 - 1), (rd_T38 bt212.1 bt218.1).f1⟩ : S38)), bt222.2)) else (none)) else (none))) else (if bt220.1 = 1 then (if 0 ≤ bt218.1 then (if bt218.1 < (bt212.1.length : Int) then (none) else (none)) else (none)) else (if bt220.1 = 2 then (if 1 ≤ (bt212.1.length : Int) then (some ((bt212.1.take (1 : Int).toNat), bt220.2)) else (none)) else (if bt220.1 = 3 then (if 1 < (bt212.1.length : Int) then ((some (([(⟨(rd_T38 bt212.1 1).f0, (rd_T38 bt212.1 1).f1⟩ : S38), (⟨(rd_T38 bt212.1 1).f0, (rd_T38 bt212.1 1).f1⟩ : S38), (⟨(rd_T38 bt212.1 1).f0, (rd_T38 bt212.1 1).f1⟩ : S38), (⟨(rd_T38 bt212.1 1).f0, (rd_T38 bt212.1 1).f1⟩ : S38)] : List (S38)) : List (S38))).bind fun y233 => (if bt212.1.length + y233.length < 4398046511104 then (some ((bt212.1 ++ y233), bt220.2)) else (none))) else (none)) else (if bt220.1 = 4 then (none) else (if 0 ≤ bt218.1 then (if bt218.1 < (bt212.1.length : Int) then (some ((bt212.1.set (bt218.1 : Int).toNat (⟨(rd_T38 bt212.1 bt218.1).f0, ([] : List Int)⟩ : S38)), bt220.2)) else (none)) else (none)))))))))))
theorem spec_l71OffB.mono : ∀ a0 a1 k, LeO (spec_l71OffB.f k a0 a1) (spec_l71OffB.f (k + 1) a0 a1) := by
  intro a0 a1 k
  unfold spec_l71OffB.f
  repeat' first
      | (with_reducible exact spec_l6Rd_pick.mono _ _ _ _)
      | (with_reducible exact spec_l71Classes.mono _ _ _)
      | (with_reducible exact LeO.refl _)
      | (with_reducible exact LeO.none _)
      | (with_reducible refine LeO.ite ?_ ?_)
      | (with_reducible refine LeO.bind ?_ (fun _ => ?_))
      | exact spec_l6Rd_pick.mono _ _ _ _
      | exact spec_l71Classes.mono _ _ _
      | exact LeO.none _
      | refine LeO.ite ?_ ?_
      | refine LeO.bind ?_ (fun _ => ?_)

end Go.Proofs.Ytgmjolngnhdafaa.P

end
section
-- By off.py, a program of this session: spec.l71Off, out of its two printed ways. Lean checks it.
namespace Go.Proofs.Ytgmjolngnhdafaa.P
open Go.RowKit Go.Proofs.YtgmjolngnhdafaaW.PrintWords Go.Proofs.YtgmjolngnhdafaaW.PrintLast Go.Proofs.YtgmjolngnhdafaaW.PrintMore
attribute [local go_sem] max2_int min2_int max_two min_two max_three min_three max_four min_four
set_option linter.unusedVariables false
set_option linter.unusedSimpArgs false

def spec_l71Off.f (k : Nat) (s0_0 : List Int) (s0_1 : Int) : Option ((List (S38)) × Int) := (spec_l71Classes.f k s0_0 s0_1).bind fun bt212 => ((spec_l6Rd_pick.f k s0_0 bt212.2 20).bind fun bt216 => (if bt216.1 > 0 then (some (bt212.1, bt216.2)) else ((spec_l6Rd_pick.f k s0_0 bt216.2 (bt212.1.length : Int)).bind fun bt218 => ((spec_l6Rd_pick.f k s0_0 bt218.2 6).bind fun bt220 => (if bt220.1 = 0 then ((spec_l6Rd_pick.f k s0_0 bt220.2 7).bind fun bt222 => (if 0 ≤ bt218.1 then (if bt218.1 < (bt212.1.length : Int) then (some ((bt212.1.set (bt218.1 : Int).toNat (⟨wrap64 (bt222.1 - 1), (rd_T38 bt212.1 bt218.1).f1⟩ : S38)), bt222.2)) else (none)) else (none))) else (if bt220.1 = 1 then (if 0 ≤ bt218.1 then (if bt218.1 < (bt212.1.length : Int) then ((some (([0, 2, 13, 5] : List Int) : List Int)).bind fun y226 => ((spec_l6Rd_pick.f k s0_0 bt220.2 4).bind fun bt229 => (if 0 ≤ bt229.1 then (if bt229.1 < (y226.length : Int) then (if ((rd_T38 bt212.1 bt218.1).f1).length < 17592186044416 then (some ((bt212.1.set (bt218.1 : Int).toNat (⟨(rd_T38 bt212.1 bt218.1).f0, (((rd_T38 bt212.1 bt218.1).f1) ++ [rd y226 bt229.1])⟩ : S38)), bt229.2)) else (none)) else (none)) else (none)))) else (none)) else (none)) else (if bt220.1 = 2 then (if 1 ≤ (bt212.1.length : Int) then (some ((bt212.1.take (1 : Int).toNat), bt220.2)) else (none)) else (if bt220.1 = 3 then (if 1 < (bt212.1.length : Int) then ((some (([(⟨(rd_T38 bt212.1 1).f0, (rd_T38 bt212.1 1).f1⟩ : S38), (⟨(rd_T38 bt212.1 1).f0, (rd_T38 bt212.1 1).f1⟩ : S38), (⟨(rd_T38 bt212.1 1).f0, (rd_T38 bt212.1 1).f1⟩ : S38), (⟨(rd_T38 bt212.1 1).f0, (rd_T38 bt212.1 1).f1⟩ : S38)] : List (S38)) : List (S38))).bind fun y233 => (if bt212.1.length + y233.length < 4398046511104 then (some ((bt212.1 ++ y233), bt220.2)) else (none))) else (none)) else (if bt220.1 = 4 then (if 0 ≤ bt218.1 then (if bt218.1 < (bt212.1.length : Int) then (some ((bt212.1.set (bt218.1 : Int).toNat (⟨(rd_T38 bt212.1 bt218.1).f0, (([1, 1, 1] : List Int))⟩ : S38)), bt220.2)) else (none)) else (none)) else (if 0 ≤ bt218.1 then (if bt218.1 < (bt212.1.length : Int) then (some ((bt212.1.set (bt218.1 : Int).toNat (⟨(rd_T38 bt212.1 bt218.1).f0, ([] : List Int)⟩ : S38)), bt220.2)) else (none)) else (none)))))))))))
theorem spec_l71Off.mono : ∀ a0 a1 k, LeO (spec_l71Off.f k a0 a1) (spec_l71Off.f (k + 1) a0 a1) := by
  intro a0 a1 k
  unfold spec_l71Off.f
  repeat' first
      | (with_reducible exact spec_l6Rd_pick.mono _ _ _ _)
      | (with_reducible exact spec_l71Classes.mono _ _ _)
      | (with_reducible exact LeO.refl _)
      | (with_reducible exact LeO.none _)
      | (with_reducible refine LeO.ite ?_ ?_)
      | (with_reducible refine LeO.bind ?_ (fun _ => ?_))
      | exact spec_l6Rd_pick.mono _ _ _ _
      | exact spec_l71Classes.mono _ _ _
      | exact LeO.none _
      | refine LeO.ite ?_ ?_
      | refine LeO.bind ?_ (fun _ => ?_)

theorem spec_l71Off.or (k : Nat) (s0 : List Int) (s1 : Int) (r : (List (S38)) × Int) (h : spec_l71Off.f k s0 s1 = some r) : spec_l71OffA.f k s0 s1 = some r ∨ spec_l71OffB.f k s0 s1 = some r := by
  unfold spec_l71Off.f at h
  unfold spec_l71OffA.f spec_l71OffB.f
  cases h0 : spec_l71Classes.f k s0 s1 with
  | none => rw [h0] at h; exact absurd h (by simp)
  | some b0 =>
    rw [h0] at h
    simp only [Option.bind_some] at h ⊢
    cases h1 : spec_l6Rd_pick.f k s0 b0.2 20 with
    | none => rw [h1] at h; exact absurd h (by simp)
    | some b1 =>
      rw [h1] at h
      simp only [Option.bind_some] at h ⊢
      by_cases c1 : b1.1 > 0
      · rw [if_pos c1] at h
        rw [if_pos c1]
        exact .inl h
      · rw [if_neg c1] at h
        rw [if_neg c1, if_neg c1]
        cases h2 : spec_l6Rd_pick.f k s0 b1.2 (b0.1.length : Int) with
        | none => rw [h2] at h; exact absurd h (by simp)
        | some b2 =>
          rw [h2] at h
          simp only [Option.bind_some] at h ⊢
          cases h3 : spec_l6Rd_pick.f k s0 b2.2 6 with
          | none => rw [h3] at h; exact absurd h (by simp)
          | some b3 =>
            rw [h3] at h
            simp only [Option.bind_some] at h ⊢
            by_cases c3 : b3.1 = 3
            · refine .inr ?_
              rw [if_neg (by omega), if_neg (by omega), if_neg (by omega), if_pos c3] at h ⊢
              exact h
            · refine .inl ?_
              rw [if_neg c3] at h ⊢
              exact h
end Go.Proofs.Ytgmjolngnhdafaa.P

end
section
namespace Go.Proofs.Ytgmjolngnhdafaa.P
open Go.RowKit Go.Proofs.YtgmjolngnhdafaaW.PrintWords Go.Proofs.YtgmjolngnhdafaaW.PrintLast Go.Proofs.YtgmjolngnhdafaaW.PrintMore
attribute [local go_sem] max2_int min2_int max_two min_two max_three min_three max_four min_four
set_option linter.unusedVariables false
set_option linter.unusedSimpArgs false

/-! ### spec_DrawClassUp: function 27 -/
def spec_DrawClassUp.f (k : Nat) (l0 : List Int) : Option ((List (S38)) × Int × Int) := (spec_l6Open.f l0).bind fun bt212 => ((spec_l71Off.f k bt212.1 bt212.2).bind fun bt215 => ((spec_l6Rd_pick.f k bt212.1 bt215.2 (bt215.1.length : Int)).bind fun bt219 => ((spec_l6Rd_pick.f k bt212.1 bt219.2 24).bind fun bt221 => ((spec_l6Rd_pick.f k bt212.1 bt221.2 (bt215.1.length : Int)).bind fun bt223 => ((spec_l6Rd_pick.f k bt212.1 bt223.2 24).bind fun bt225 => (some (bt215.1, wrap64 (bt219.1 - (wrap64 (Int.tdiv bt221.1 23))), wrap64 (bt223.1 + (wrap64 (Int.tdiv bt225.1 23))))))))))
theorem spec_DrawClassUp.mono : ∀ a0 k, LeO (spec_DrawClassUp.f k a0) (spec_DrawClassUp.f (k + 1) a0) := by
  intro a0 k
  unfold spec_DrawClassUp.f
  repeat' first
      | (with_reducible exact spec_l6Rd_pick.mono _ _ _ _)
      | (with_reducible exact spec_l71Off.mono _ _ _)
      | (with_reducible exact LeO.refl _)
      | (with_reducible exact LeO.none _)
      | (with_reducible refine LeO.ite ?_ ?_)
      | (with_reducible refine LeO.bind ?_ (fun _ => ?_))
      | exact spec_l6Rd_pick.mono _ _ _ _
      | exact spec_l71Off.mono _ _ _
      | exact LeO.none _
      | refine LeO.ite ?_ ?_
      | refine LeO.bind ?_ (fun _ => ?_)

end Go.Proofs.Ytgmjolngnhdafaa.P

end
section
namespace Go.Proofs.Ytgmjolngnhdafaa.P
open Go.RowKit Go.Proofs.YtgmjolngnhdafaaW.PrintWords Go.Proofs.YtgmjolngnhdafaaW.PrintLast Go.Proofs.YtgmjolngnhdafaaW.PrintMore
attribute [local go_sem] max2_int min2_int max_two min_two max_three min_three max_four min_four
set_option linter.unusedVariables false
set_option linter.unusedSimpArgs false

/-! ### spec_DrawClassJoin: function 42 -/
def spec_DrawClassJoin.f (k : Nat) (l0 : List Int) : Option ((List (S38)) × Int × Int) := (spec_DrawClassUp.f k l0).bind fun bt456 => (some (bt456.1, bt456.2.1, bt456.2.2))
theorem spec_DrawClassJoin.mono : ∀ a0 k, LeO (spec_DrawClassJoin.f k a0) (spec_DrawClassJoin.f (k + 1) a0) := by
  intro a0 k
  unfold spec_DrawClassJoin.f
  repeat' first
      | (with_reducible exact spec_DrawClassUp.mono _ _)
      | (with_reducible exact LeO.refl _)
      | (with_reducible exact LeO.none _)
      | (with_reducible refine LeO.ite ?_ ?_)
      | (with_reducible refine LeO.bind ?_ (fun _ => ?_))
      | exact spec_DrawClassUp.mono _ _
      | exact LeO.none _
      | refine LeO.ite ?_ ?_
      | refine LeO.bind ?_ (fun _ => ?_)

end Go.Proofs.Ytgmjolngnhdafaa.P

end
section
namespace Go.Proofs.Ytgmjolngnhdafaa.P
open Go.RowKit Go.Proofs.YtgmjolngnhdafaaW.PrintWords Go.Proofs.YtgmjolngnhdafaaW.PrintLast Go.Proofs.YtgmjolngnhdafaaW.PrintMore
attribute [local go_sem] max2_int min2_int max_two min_two max_three min_three max_four min_four
set_option linter.unusedVariables false
set_option linter.unusedSimpArgs false

/-! ### spec_l2Is: function 68 -/
def spec_l2Is.f (k : Nat) (l0 : List (S38)) (a1 : Int) : Option (Bool) := (spec_ClassesOk.f k l0).bind fun t232 => (if t232 = true then ((spec_l6In.f a1 0 (wrap64 ((l0.length : Int) - 1))).bind fun t233 => (some t233)) else (some false))
theorem spec_l2Is.mono : ∀ a0 a1 k, LeO (spec_l2Is.f k a0 a1) (spec_l2Is.f (k + 1) a0 a1) := by
  intro a0 a1 k
  unfold spec_l2Is.f
  repeat' first
      | (with_reducible exact spec_ClassesOk.mono _ _)
      | (with_reducible exact LeO.refl _)
      | (with_reducible exact LeO.none _)
      | (with_reducible refine LeO.ite ?_ ?_)
      | (with_reducible refine LeO.bind ?_ (fun _ => ?_))
      | exact spec_ClassesOk.mono _ _
      | exact LeO.none _
      | refine LeO.ite ?_ ?_
      | refine LeO.bind ?_ (fun _ => ?_)

end Go.Proofs.Ytgmjolngnhdafaa.P

end
section
namespace Go.Proofs.Ytgmjolngnhdafaa.P
open Go.RowKit Go.Proofs.YtgmjolngnhdafaaW.PrintWords Go.Proofs.YtgmjolngnhdafaaW.PrintLast Go.Proofs.YtgmjolngnhdafaaW.PrintMore
attribute [local go_sem] max2_int min2_int max_two min_two max_three min_three max_four min_four
set_option linter.unusedVariables false
set_option linter.unusedSimpArgs false

/-! ### spec_l2Up: function 69 -/
def spec_l2Up.l0 : Nat → List (S38) → Int → Int → Option (Bool)
  | 0, _, _, _ => none
  | k + 1, x0, x1, x2 => if x1 > x2 then (if 0 ≤ x1 then (if x1 < (x0.length : Int) then (spec_l2Up.l0 k x0 ((rd_T38 x0 x1).f0) x2) else (none)) else (none)) else (some (x1 == x2))
def spec_l2Up.f (k : Nat) (l0 : List (S38)) (a1 : Int) (a2 : Int) : Option (Bool) := spec_l2Up.l0 k l0 a1 a2
theorem spec_l2Up.mono_l : ∀ k, (∀ y0 y1 y2, LeO (spec_l2Up.l0 k y0 y1 y2) (spec_l2Up.l0 (k + 1) y0 y1 y2))
  | 0 => fun _ _ _ r h => by simp [spec_l2Up.l0] at h
  | k + 1 => by
    have ih0 := spec_l2Up.mono_l k
    · intro y0 y1 y2
      unfold spec_l2Up.l0
      repeat' first
      | (with_reducible exact ih0 _ _ _)
      | (with_reducible exact LeO.refl _)
      | (with_reducible exact LeO.none _)
      | (with_reducible refine LeO.ite ?_ ?_)
      | (with_reducible refine LeO.bind ?_ (fun _ => ?_))
      | exact ih0 _ _ _
      | exact LeO.none _
      | refine LeO.ite ?_ ?_
      | refine LeO.bind ?_ (fun _ => ?_)
theorem spec_l2Up.mono : ∀ a0 a1 a2 k, LeO (spec_l2Up.f k a0 a1 a2) (spec_l2Up.f (k + 1) a0 a1 a2) := by
  intro a0 a1 a2 k
  have ih0 := spec_l2Up.mono_l k
  unfold spec_l2Up.f
  repeat' first
      | (with_reducible exact ih0 _ _ _)
      | (with_reducible exact LeO.refl _)
      | (with_reducible exact LeO.none _)
      | (with_reducible refine LeO.ite ?_ ?_)
      | (with_reducible refine LeO.bind ?_ (fun _ => ?_))
      | exact ih0 _ _ _
      | exact LeO.none _
      | refine LeO.ite ?_ ?_
      | refine LeO.bind ?_ (fun _ => ?_)

end Go.Proofs.Ytgmjolngnhdafaa.P

end
section
namespace Go.Proofs.Ytgmjolngnhdafaa.P
open Go.RowKit Go.Proofs.YtgmjolngnhdafaaW.PrintWords Go.Proofs.YtgmjolngnhdafaaW.PrintLast Go.Proofs.YtgmjolngnhdafaaW.PrintMore
attribute [local go_sem] max2_int min2_int max_two min_two max_three min_three max_four min_four
set_option linter.unusedVariables false
set_option linter.unusedSimpArgs false

/-! ### spec_l2Join: function 78 -/
def spec_l2Join.l0 : Nat → List (S38) → Int → Int → Option (Int)
  | 0, _, _, _ => none
  | k + 1, x0, x1, x2 => (spec_l2Up.f k x0 x2 x1).bind fun t461 => (if t461 = true then (some x1) else (if 0 ≤ x1 then (if x1 < (x0.length : Int) then (spec_l2Join.l0 k x0 ((rd_T38 x0 x1).f0) x2) else (none)) else (none)))
def spec_l2Join.f (k : Nat) (l0 : List (S38)) (a1 : Int) (a2 : Int) : Option (Int) := spec_l2Join.l0 k l0 a1 a2
theorem spec_l2Join.mono_l : ∀ k, (∀ y0 y1 y2, LeO (spec_l2Join.l0 k y0 y1 y2) (spec_l2Join.l0 (k + 1) y0 y1 y2))
  | 0 => fun _ _ _ r h => by simp [spec_l2Join.l0] at h
  | k + 1 => by
    have ih0 := spec_l2Join.mono_l k
    · intro y0 y1 y2
      unfold spec_l2Join.l0
      repeat' first
      | (with_reducible exact ih0 _ _ _)
      | (with_reducible exact spec_l2Up.mono _ _ _ _)
      | (with_reducible exact LeO.refl _)
      | (with_reducible exact LeO.none _)
      | (with_reducible refine LeO.ite ?_ ?_)
      | (with_reducible refine LeO.bind ?_ (fun _ => ?_))
      | exact ih0 _ _ _
      | exact spec_l2Up.mono _ _ _ _
      | exact LeO.none _
      | refine LeO.ite ?_ ?_
      | refine LeO.bind ?_ (fun _ => ?_)
theorem spec_l2Join.mono : ∀ a0 a1 a2 k, LeO (spec_l2Join.f k a0 a1 a2) (spec_l2Join.f (k + 1) a0 a1 a2) := by
  intro a0 a1 a2 k
  have ih0 := spec_l2Join.mono_l k
  unfold spec_l2Join.f
  repeat' first
      | (with_reducible exact ih0 _ _ _)
      | (with_reducible exact spec_l2Up.mono _ _ _ _)
      | (with_reducible exact LeO.refl _)
      | (with_reducible exact LeO.none _)
      | (with_reducible refine LeO.ite ?_ ?_)
      | (with_reducible refine LeO.bind ?_ (fun _ => ?_))
      | exact ih0 _ _ _
      | exact spec_l2Up.mono _ _ _ _
      | exact LeO.none _
      | refine LeO.ite ?_ ?_
      | refine LeO.bind ?_ (fun _ => ?_)

end Go.Proofs.Ytgmjolngnhdafaa.P

end
section
namespace Go.Proofs.Ytgmjolngnhdafaa.P
open Go.RowKit Go.Proofs.YtgmjolngnhdafaaW.PrintWords Go.Proofs.YtgmjolngnhdafaaW.PrintLast Go.Proofs.YtgmjolngnhdafaaW.PrintMore
attribute [local go_sem] max2_int min2_int max_two min_two max_three min_three max_four min_four
set_option linter.unusedVariables false
set_option linter.unusedSimpArgs false

/-! ### spec_ClassJoin: function 44 -/
def spec_ClassJoin.f (k : Nat) (l0 : List (S38)) (a1 : Int) (a2 : Int) : Option (Int) := (spec_l2Is.f k l0 a1).bind fun t463 => (if t463 = true then ((spec_l2Is.f k l0 a2).bind fun t464 => (if t464 = true then ((spec_l2Join.f k l0 a1 a2).bind fun t465 => (some t465)) else (some (-1)))) else (some (-1)))
theorem spec_ClassJoin.mono : ∀ a0 a1 a2 k, LeO (spec_ClassJoin.f k a0 a1 a2) (spec_ClassJoin.f (k + 1) a0 a1 a2) := by
  intro a0 a1 a2 k
  unfold spec_ClassJoin.f
  repeat' first
      | (with_reducible exact spec_l2Is.mono _ _ _)
      | (with_reducible exact spec_l2Join.mono _ _ _ _)
      | (with_reducible exact LeO.refl _)
      | (with_reducible exact LeO.none _)
      | (with_reducible refine LeO.ite ?_ ?_)
      | (with_reducible refine LeO.bind ?_ (fun _ => ?_))
      | exact spec_l2Is.mono _ _ _
      | exact spec_l2Join.mono _ _ _ _
      | exact LeO.none _
      | refine LeO.ite ?_ ?_
      | refine LeO.bind ?_ (fun _ => ?_)

end Go.Proofs.Ytgmjolngnhdafaa.P

end
section
namespace Go.Proofs.Ytgmjolngnhdafaa.P
open Go Go.RowKit Go.Proofs.YtgmjolngnhdafaaW.PrintWords Go.Proofs.YtgmjolngnhdafaaW.PrintLast Go.Proofs.YtgmjolngnhdafaaW.PrintMore
set_option linter.unusedVariables false
/-- 'both' of ClassJoin: c is above a and b. -/
def joinBoth.f (k : Nat) (l0 : List (S38)) (a b c : Int) : Option Bool := (impl_classUp.f k l0 a c).bind fun t1 => (if t1 = true then ((impl_classUp.f k l0 b c).bind fun t2 => (some t2)) else (some false))
mutual
def impl_nearest.l0 : Nat → List (S38) → Int → Int → List Int → Int → Option (Int × Bool)
  | 0, _, _, _, _, _ => none
  | k + 1, l0, a, b, xs, i => if i < (xs.length : Int) then (if 0 ≤ i then ((joinBoth.f k l0 a b (rd xs i)).bind fun t => (if t = true then (impl_nearest.l1 k l0 a b xs i (rd xs i) 0) else (impl_nearest.l0 k l0 a b xs (wrap64 (i + 1))))) else (none)) else (some (0, false))
def impl_nearest.l1 : Nat → List (S38) → Int → Int → List Int → Int → Int → Int → Option (Int × Bool)
  | 0, _, _, _, _, _, _, _ => none
  | k + 1, l0, a, b, xs, i, o, j => if j < (xs.length : Int) then (if 0 ≤ j then ((joinBoth.f k l0 a b (rd xs j)).bind fun t => (if t = true then ((impl_classUp.f k l0 o (rd xs j)).bind fun u => (if u = true then (impl_nearest.l1 k l0 a b xs i o (wrap64 (j + 1))) else (impl_nearest.l0 k l0 a b xs (wrap64 (i + 1))))) else (impl_nearest.l1 k l0 a b xs i o (wrap64 (j + 1))))) else (none)) else (some (o, true))
end
def impl_nearest.f (k : Nat) (l0 : List (S38)) (a b : Int) (xs : List Int) : Option (Int × Bool) := impl_nearest.l0 k l0 a b xs 0
def impl_ClassJoin.l0 : Nat → List (S38) → Int → Int → List Int → Int → Option Int
  | 0, _, _, _, _, _ => none
  | k + 1, l0, a, b, xs, i => if i < (l0.length : Int) then (if 0 ≤ i then (if i < (xs.length : Int) then (impl_ClassJoin.l0 k l0 a b (xs.set (i : Int).toNat i) (wrap64 (i + 1))) else (none)) else (none)) else ((impl_nearest.f k l0 a b xs).bind fun p => (if p.2 = true then (some p.1) else (some (-1))))
def impl_ClassJoin.f (k : Nat) (l0 : List (S38)) (a b : Int) : Option Int := (impl_ClassesOk.f k l0).bind fun t1 => (if t1 = true then ((impl_isClass.f l0 a).bind fun t2 => (if t2 = true then ((impl_isClass.f l0 b).bind fun t3 => (if t3 = true then (if ((l0.length : Int) : Int).toNat ≤ 35184372088832 then (impl_ClassJoin.l0 k l0 a b (List.replicate ((l0.length : Int) : Int).toNat 0) 0) else (none)) else (some (-1)))) else (some (-1)))) else (some (-1)))
theorem joinBoth.mono : ∀ a0 a1 a2 a3 k, LeO (joinBoth.f k a0 a1 a2 a3) (joinBoth.f (k + 1) a0 a1 a2 a3) := by
  intro a0 a1 a2 a3 k
  unfold joinBoth.f
  repeat' first
  | (with_reducible exact impl_classUp.mono _ _ _ _)
  | (with_reducible exact LeO.refl _)
  | (with_reducible exact LeO.none _)
  | (with_reducible refine LeO.ite ?_ ?_)
  | (with_reducible refine LeO.bind ?_ (fun _ => ?_))
theorem impl_nearest.mono_l : ∀ k, (∀ y0 y1 y2 y3 y4, LeO (impl_nearest.l0 k y0 y1 y2 y3 y4) (impl_nearest.l0 (k + 1) y0 y1 y2 y3 y4)) ∧ (∀ y0 y1 y2 y3 y4 y5 y6, LeO (impl_nearest.l1 k y0 y1 y2 y3 y4 y5 y6) (impl_nearest.l1 (k + 1) y0 y1 y2 y3 y4 y5 y6))
  | 0 => ⟨fun _ _ _ _ _ r h => by simp [impl_nearest.l0] at h, fun _ _ _ _ _ _ _ r h => by simp [impl_nearest.l1] at h⟩
  | k + 1 => by
    obtain ⟨ih0, ih1⟩ := impl_nearest.mono_l k
    refine ⟨?_, ?_⟩
    · intro y0 y1 y2 y3 y4
      unfold impl_nearest.l0
      repeat' first
      | (with_reducible exact ih0 _ _ _ _ _)
      | (with_reducible exact ih1 _ _ _ _ _ _ _)
      | (with_reducible exact impl_classUp.mono _ _ _ _)
      | (with_reducible exact joinBoth.mono _ _ _ _ _)
      | (with_reducible exact LeO.refl _)
      | (with_reducible exact LeO.none _)
      | (with_reducible refine LeO.ite ?_ ?_)
      | (with_reducible refine LeO.bind ?_ (fun _ => ?_))
    · intro y0 y1 y2 y3 y4 y5 y6
      unfold impl_nearest.l1
      repeat' first
      | (with_reducible exact ih0 _ _ _ _ _)
      | (with_reducible exact ih1 _ _ _ _ _ _ _)
      | (with_reducible exact impl_classUp.mono _ _ _ _)
      | (with_reducible exact joinBoth.mono _ _ _ _ _)
      | (with_reducible exact LeO.refl _)
      | (with_reducible exact LeO.none _)
      | (with_reducible refine LeO.ite ?_ ?_)
      | (with_reducible refine LeO.bind ?_ (fun _ => ?_))
theorem impl_nearest.mono : ∀ a0 a1 a2 a3 k, LeO (impl_nearest.f k a0 a1 a2 a3) (impl_nearest.f (k + 1) a0 a1 a2 a3) := fun _ _ _ _ k => (impl_nearest.mono_l k).1 _ _ _ _ _
theorem impl_ClassJoin.mono_l : ∀ k, (∀ y0 y1 y2 y3 y4, LeO (impl_ClassJoin.l0 k y0 y1 y2 y3 y4) (impl_ClassJoin.l0 (k + 1) y0 y1 y2 y3 y4))
  | 0 => fun _ _ _ _ _ r h => by simp [impl_ClassJoin.l0] at h
  | k + 1 => by
    have ih0 := impl_ClassJoin.mono_l k
    intro y0 y1 y2 y3 y4
    unfold impl_ClassJoin.l0
    repeat' first
    | (with_reducible exact ih0 _ _ _ _ _)
    | (with_reducible exact impl_nearest.mono _ _ _ _ _)
    | (with_reducible exact LeO.refl _)
    | (with_reducible exact LeO.none _)
    | (with_reducible refine LeO.ite ?_ ?_)
    | (with_reducible refine LeO.bind ?_ (fun _ => ?_))
theorem impl_ClassJoin.mono : ∀ a0 a1 a2 k, LeO (impl_ClassJoin.f k a0 a1 a2) (impl_ClassJoin.f (k + 1) a0 a1 a2) := by
  intro a0 a1 a2 k
  unfold impl_ClassJoin.f
  repeat' first
  | (with_reducible exact impl_ClassJoin.mono_l _ _ _ _ _ _)
  | (with_reducible exact impl_ClassesOk.mono _ _)
  | (with_reducible exact LeO.refl _)
  | (with_reducible exact LeO.none _)
  | (with_reducible refine LeO.ite ?_ ?_)
  | (with_reducible refine LeO.bind ?_ (fun _ => ?_))
end Go.Proofs.Ytgmjolngnhdafaa.P

end
section
namespace Go.Proofs.Ytgmjolngnhdafaa.P
open Go.RowKit Go.Proofs.YtgmjolngnhdafaaW.PrintWords Go.Proofs.YtgmjolngnhdafaaW.PrintLast Go.Proofs.YtgmjolngnhdafaaW.PrintMore
attribute [local go_sem] max2_int min2_int max_two min_two max_three min_three max_four min_four
set_option linter.unusedVariables false
set_option linter.unusedSimpArgs false

/-! ### laws_FnClassJoin: function 13 -/
mutual
def laws_FnClassJoin.j0 : Nat → List Int → List Int → Bool → Option (Bool)
  | 0, _, _, _ => none
  | k + 1, x0, x1, x17 => if x17 = true then (some true) else ((spec_DrawClassJoin.f k x0).bind fun bt466 => ((impl_ClassJoin.f k bt466.1 bt466.2.1 bt466.2.2).bind fun t471 => ((spec_ClassJoin.f k bt466.1 bt466.2.1 bt466.2.2).bind fun t472 => (if t471 = t472 then ((laws_leIs.f k bt466.1 bt466.2.1).bind fun t473 => (if t473 = true then ((laws_leIs.f k bt466.1 bt466.2.2).bind fun t474 => (laws_FnClassJoin.j1 k x1 bt466.1 bt466.2.1 bt466.2.2 t471 (!t474))) else (laws_FnClassJoin.j1 k x1 bt466.1 bt466.2.1 bt466.2.2 t471 true))) else (laws_FnClassJoin.j1 k x1 bt466.1 bt466.2.1 bt466.2.2 t471 true)))))
def laws_FnClassJoin.j1 : Nat → List Int → List (S38) → Int → Int → Int → Bool → Option (Bool)
  | 0, _, _, _, _, _, _ => none
  | k + 1, x1, x5, x6, x7, x8, x45 => if x45 = true then ((spec_ClassJoin.f k x5 x6 x7).bind fun t475 => (some (x8 == t475))) else (if (x5.length : Int) = 0 then (none) else ((impl_ClassUp.f k x5 x6 x8).bind fun t476 => (if t476 = true then ((impl_ClassUp.f k x5 x7 x8).bind fun t477 => (if t477 = true then ((impl_ClassJoin.f k x5 x7 x6).bind fun t478 => (laws_FnClassJoin.j2 k x5 x6 x7 x8 ((x1.length : Int) % (x5.length : Int)) (t478 != x8))) else (laws_FnClassJoin.j2 k x5 x6 x7 x8 ((x1.length : Int) % (x5.length : Int)) true))) else (laws_FnClassJoin.j2 k x5 x6 x7 x8 ((x1.length : Int) % (x5.length : Int)) true))))
def laws_FnClassJoin.j2 : Nat → List (S38) → Int → Int → Int → Int → Bool → Option (Bool)
  | 0, _, _, _, _, _, _ => none
  | k + 1, x5, x6, x7, x8, x9, x76 => if x76 = true then (some false) else ((impl_ClassUp.f k x5 x6 x9).bind fun t479 => (if t479 = true then ((impl_ClassUp.f k x5 x7 x9).bind fun t480 => (if t480 = true then ((impl_ClassUp.f k x5 x8 x9).bind fun t481 => (some t481)) else (some true))) else (some true)))
end
def laws_FnClassJoin.f (k : Nat) (l0 : List Int) (l1 : List Int) : Option (Bool) := if (l0.length : Int) > 1048576 then (laws_FnClassJoin.j0 k l0 l1 true) else (laws_FnClassJoin.j0 k l0 l1 (decide ((l1.length : Int) > 1048576)))
theorem laws_FnClassJoin.mono_l : ∀ k, (∀ y0 y1 y2, LeO (laws_FnClassJoin.j0 k y0 y1 y2) (laws_FnClassJoin.j0 (k + 1) y0 y1 y2)) ∧ (∀ y0 y1 y2 y3 y4 y5, LeO (laws_FnClassJoin.j1 k y0 y1 y2 y3 y4 y5) (laws_FnClassJoin.j1 (k + 1) y0 y1 y2 y3 y4 y5)) ∧ (∀ y0 y1 y2 y3 y4 y5, LeO (laws_FnClassJoin.j2 k y0 y1 y2 y3 y4 y5) (laws_FnClassJoin.j2 (k + 1) y0 y1 y2 y3 y4 y5))
  | 0 => ⟨fun _ _ _ r h => by simp [laws_FnClassJoin.j0] at h, fun _ _ _ _ _ _ r h => by simp [laws_FnClassJoin.j1] at h, fun _ _ _ _ _ _ r h => by simp [laws_FnClassJoin.j2] at h⟩
  | k + 1 => by
    obtain ⟨ih0, ih1, ih2⟩ := laws_FnClassJoin.mono_l k
    refine ⟨?_, ?_, ?_⟩
    · intro y0 y1 y2
      unfold laws_FnClassJoin.j0
      repeat' first
      | (with_reducible exact ih0 _ _ _)
      | (with_reducible exact ih1 _ _ _ _ _ _)
      | (with_reducible exact ih2 _ _ _ _ _ _)
      | (with_reducible exact impl_ClassJoin.mono _ _ _ _)
      | (with_reducible exact impl_ClassUp.mono _ _ _ _)
      | (with_reducible exact laws_leIs.mono _ _ _)
      | (with_reducible exact spec_ClassJoin.mono _ _ _ _)
      | (with_reducible exact spec_DrawClassJoin.mono _ _)
      | (with_reducible exact LeO.refl _)
      | (with_reducible exact LeO.none _)
      | (with_reducible refine LeO.ite ?_ ?_)
      | (with_reducible refine LeO.bind ?_ (fun _ => ?_))
      | exact ih0 _ _ _
      | exact ih1 _ _ _ _ _ _
      | exact ih2 _ _ _ _ _ _
      | exact impl_ClassJoin.mono _ _ _ _
      | exact impl_ClassUp.mono _ _ _ _
      | exact laws_leIs.mono _ _ _
      | exact spec_ClassJoin.mono _ _ _ _
      | exact spec_DrawClassJoin.mono _ _
      | exact LeO.none _
      | refine LeO.ite ?_ ?_
      | refine LeO.bind ?_ (fun _ => ?_)
    · intro y0 y1 y2 y3 y4 y5
      unfold laws_FnClassJoin.j1
      repeat' first
      | (with_reducible exact ih0 _ _ _)
      | (with_reducible exact ih1 _ _ _ _ _ _)
      | (with_reducible exact ih2 _ _ _ _ _ _)
      | (with_reducible exact impl_ClassJoin.mono _ _ _ _)
      | (with_reducible exact impl_ClassUp.mono _ _ _ _)
      | (with_reducible exact laws_leIs.mono _ _ _)
      | (with_reducible exact spec_ClassJoin.mono _ _ _ _)
      | (with_reducible exact spec_DrawClassJoin.mono _ _)
      | (with_reducible exact LeO.refl _)
      | (with_reducible exact LeO.none _)
      | (with_reducible refine LeO.ite ?_ ?_)
      | (with_reducible refine LeO.bind ?_ (fun _ => ?_))
      | exact ih0 _ _ _
      | exact ih1 _ _ _ _ _ _
      | exact ih2 _ _ _ _ _ _
      | exact impl_ClassJoin.mono _ _ _ _
      | exact impl_ClassUp.mono _ _ _ _
      | exact laws_leIs.mono _ _ _
      | exact spec_ClassJoin.mono _ _ _ _
      | exact spec_DrawClassJoin.mono _ _
      | exact LeO.none _
      | refine LeO.ite ?_ ?_
      | refine LeO.bind ?_ (fun _ => ?_)
    · intro y0 y1 y2 y3 y4 y5
      unfold laws_FnClassJoin.j2
      repeat' first
      | (with_reducible exact ih0 _ _ _)
      | (with_reducible exact ih1 _ _ _ _ _ _)
      | (with_reducible exact ih2 _ _ _ _ _ _)
      | (with_reducible exact impl_ClassJoin.mono _ _ _ _)
      | (with_reducible exact impl_ClassUp.mono _ _ _ _)
      | (with_reducible exact laws_leIs.mono _ _ _)
      | (with_reducible exact spec_ClassJoin.mono _ _ _ _)
      | (with_reducible exact spec_DrawClassJoin.mono _ _)
      | (with_reducible exact LeO.refl _)
      | (with_reducible exact LeO.none _)
      | (with_reducible refine LeO.ite ?_ ?_)
      | (with_reducible refine LeO.bind ?_ (fun _ => ?_))
      | exact ih0 _ _ _
      | exact ih1 _ _ _ _ _ _
      | exact ih2 _ _ _ _ _ _
      | exact impl_ClassJoin.mono _ _ _ _
      | exact impl_ClassUp.mono _ _ _ _
      | exact laws_leIs.mono _ _ _
      | exact spec_ClassJoin.mono _ _ _ _
      | exact spec_DrawClassJoin.mono _ _
      | exact LeO.none _
      | refine LeO.ite ?_ ?_
      | refine LeO.bind ?_ (fun _ => ?_)
theorem laws_FnClassJoin.mono : ∀ a0 a1 k, LeO (laws_FnClassJoin.f k a0 a1) (laws_FnClassJoin.f (k + 1) a0 a1) := by
  intro a0 a1 k
  obtain ⟨ih0, ih1, ih2⟩ := laws_FnClassJoin.mono_l k
  unfold laws_FnClassJoin.f
  repeat' first
      | (with_reducible exact ih0 _ _ _)
      | (with_reducible exact ih1 _ _ _ _ _ _)
      | (with_reducible exact ih2 _ _ _ _ _ _)
      | (with_reducible exact impl_ClassJoin.mono _ _ _ _)
      | (with_reducible exact impl_ClassUp.mono _ _ _ _)
      | (with_reducible exact laws_leIs.mono _ _ _)
      | (with_reducible exact spec_ClassJoin.mono _ _ _ _)
      | (with_reducible exact spec_DrawClassJoin.mono _ _)
      | (with_reducible exact LeO.refl _)
      | (with_reducible exact LeO.none _)
      | (with_reducible refine LeO.ite ?_ ?_)
      | (with_reducible refine LeO.bind ?_ (fun _ => ?_))
      | exact ih0 _ _ _
      | exact ih1 _ _ _ _ _ _
      | exact ih2 _ _ _ _ _ _
      | exact impl_ClassJoin.mono _ _ _ _
      | exact impl_ClassUp.mono _ _ _ _
      | exact laws_leIs.mono _ _ _
      | exact spec_ClassJoin.mono _ _ _ _
      | exact spec_DrawClassJoin.mono _ _
      | exact LeO.none _
      | refine LeO.ite ?_ ?_
      | refine LeO.bind ?_ (fun _ => ?_)

/-- THE ONE PURE STATEMENT of laws_FnClassJoin: yours. -/
def laws_FnClassJoin.Pure : Prop := ∀ (l0 : List Int) (l1 : List Int), l0.length ≤ maxLen → l0.length * 1 ≤ 140737488351232 → (∀ x ∈ l0, (Lit.int .u8 x).wf = true) → l1.length ≤ maxLen → l1.length * 1 ≤ 140737488351232 → (∀ x ∈ l1, (Lit.int .u8 x).wf = true) → ∃ k, laws_FnClassJoin.f k l0 l1 = some true
end Go.Proofs.Ytgmjolngnhdafaa.P

end
section
namespace Go.Proofs.Ytgmjolngnhdafaa.P
open Go Go.RowKit Go.Proofs.YtgmjolngnhdafaaW.PrintWords
set_option linter.unusedVariables false
set_option linter.unusedSimpArgs false
theorem kindW_nil : kindW (-1) = .nilIface := rfl
theorem kindW_0 : kindW 0 = .iface 89 (.agg #[]) := rfl
theorem kindW_1 : kindW 1 = .iface 84 (.agg #[]) := rfl
theorem kindW_2 : kindW 2 = .iface 90 (.agg #[]) := rfl
theorem kindW_3 : kindW 3 = .iface 86 (.agg #[.bool false]) := rfl
theorem kindW_4 : kindW 4 = .iface 86 (.agg #[.bool true]) := rfl
theorem kindW_8 {r : Int} (h : 8 ≤ r) : kindW r = .iface 88 (.agg #[.int .i64 (r - 8)]) := by
  unfold kindW
  rw [if_neg (by omega), if_neg (by omega), if_neg (by omega), if_neg (by omega), if_neg (by omega), if_neg (by omega)]
set_option maxHeartbeats 2000000 in
set_option maxRecDepth 100000 in
theorem impl_kindOf.calls' (a0 a1 r : Int) (w : World) (h : impl_kindOf.f a0 a1 = some r) :
    Calls Try.prog 62 #[.int .i64 a0, .int .i64 a1] w fun e w' => e = .returned (kindW r) ∧ w = w' := by
  unfold impl_kindOf.f at h
  split at h
  · rename_i hb
    obtain ⟨h0, h1, h2, h3⟩ := hb
    by_cases c0 : a1 = 0
    · subst c0
      obtain rfl : 0 = r := by simpa using h
      go_enter Try.func62, Try.ntmps62
      go_wp2
      go_ret
      exact ⟨rfl, rfl⟩
    by_cases c1 : a1 = 1
    · subst c1
      obtain rfl : 1 = r := by simpa using h
      go_enter Try.func62, Try.ntmps62
      go_wp2
      go_ret
      exact ⟨rfl, rfl⟩
    by_cases c2 : a1 = 2
    · subst c2
      obtain rfl : 2 = r := by simpa using h
      go_enter Try.func62, Try.ntmps62
      go_wp2
      go_ret
      exact ⟨rfl, rfl⟩
    by_cases c3 : a1 = 3
    · subst c3
      obtain rfl : 3 = r := by simpa using h
      go_enter Try.func62, Try.ntmps62
      go_wp2
      go_ret
      exact ⟨rfl, rfl⟩
    by_cases c4 : a1 = 4
    · subst c4
      obtain rfl : 4 = r := by simpa using h
      go_enter Try.func62, Try.ntmps62
      go_wp2
      go_ret
      exact ⟨rfl, rfl⟩
    rw [if_neg c0, if_neg c1, if_neg c2, if_neg c3, if_neg c4] at h
    have b0 : (a1 == 0) = false := by simpa using c0
    have b1 : (a1 == 1) = false := by simpa using c1
    have b2 : (a1 == 2) = false := by simpa using c2
    have b3 : (a1 == 3) = false := by simpa using c3
    have b4 : (a1 == 4) = false := by simpa using c4
    clear c0 c1 c2 c3 c4
    by_cases c5 : 8 ≤ a1
    · by_cases c6 : a1 < 8 + a0
      · rw [if_pos ⟨c5, c6⟩] at h
        obtain rfl := Option.some.inj h
        have H8 := Aside0.mk (kindW_8 c5)
        clear h
        go_enter Try.func62, Try.ntmps62
        go_wp2
        go_ret
        exact ⟨by rw [H8.out]; rfl, rfl⟩
      · rw [if_neg (by omega)] at h
        obtain rfl := Option.some.inj h
        go_enter Try.func62, Try.ntmps62
        go_wp2
        go_ret
        exact ⟨rfl, rfl⟩
    · rw [if_neg (by omega)] at h
      obtain rfl := Option.some.inj h
      go_enter Try.func62, Try.ntmps62
      go_wp2
      go_ret
      exact ⟨rfl, rfl⟩
  · cases h
theorem impl_kindOf.calls (a0 a1 r : Int) (w : World) (h : impl_kindOf.f a0 a1 = some r) :
    Calls Try.prog 62 #[.int .i64 a0, .int .i64 a1] w fun e w' => e = .returned (kindW r) ∧ Drawn0 w w' :=
  (impl_kindOf.calls' a0 a1 r w h).mono fun e w' ⟨he, hw⟩ => ⟨he, hw ▸ Drawn0.refl w⟩
/-- What kindOf tells is a type's number, or -1. -/
theorem kindOf_cases {c t r : Int} (h : impl_kindOf.f c t = some r) : r = -1 ∨ r = 0 ∨ r = 1 ∨ r = 2 ∨ r = 3 ∨ r = 4 ∨ (8 ≤ r ∧ r < 8 + c) := by
  unfold impl_kindOf.f at h
  split at h
  · repeat' split at h
    all_goals (have := Option.some.inj h; omega)
  · cases h
theorem kindEql (r : Int) (W : World) : (binOp .eql 69 (kindW r) .nilIface).run Try.prog W = .ok (.bool (r == -1)) W := by
  by_cases h : r = -1
  · subst h; rfl
  · have e : (r == -1) = false := by simpa using h
    rw [e]
    unfold kindW
    rw [if_neg h]
    repeat' split
    all_goals rfl
theorem kindNeq (r : Int) (W : World) : (binOp .neq 69 (kindW r) .nilIface).run Try.prog W = .ok (.bool (r != -1)) W := by
  by_cases h : r = -1
  · subst h; rfl
  · have e : (r != -1) = true := by simpa using h
    rw [e]
    unfold kindW
    rw [if_neg h]
    repeat' split
    all_goals rfl
theorem kindIface {r : Int} (h : r ≠ -1) : ∃ u x, kindW r = .iface u x := by
  unfold kindW
  rw [if_neg h]
  repeat' split
  all_goals exact ⟨_, _, rfl⟩
theorem guardNilE (r : Int) (t : TypeId) (o : Operand) (W : World) : (eqGuard .eql t o (.const .nilIface) (kindW r) .nilIface).run Try.prog W = .ok () W := by
  by_cases h : r = -1
  · subst h
    cases o <;> rfl
  · obtain ⟨u, x, e⟩ := kindIface h
    rw [e]; rfl
theorem guardNilN (r : Int) (t : TypeId) (o : Operand) (W : World) : (eqGuard .neq t o (.const .nilIface) (kindW r) .nilIface).run Try.prog W = .ok () W := by
  by_cases h : r = -1
  · subst h
    cases o <;> rfl
  · obtain ⟨u, x, e⟩ := kindIface h
    rw [e]; rfl
/-- A number of a kind, or -1. -/
def KindNo (r : Int) : Prop := r = -1 ∨ r = 0 ∨ r = 1 ∨ r = 2 ∨ r = 3 ∨ r = 4 ∨ 8 ≤ r
theorem assertInt {r : Int} (h : KindNo r) (W : World) : (Instr.typeAssert (kindW r) 69 84 true).run Try.prog W = .ok (.tuple #[.agg #[], .bool (r == 1)]) W := by
  rcases h with rfl | rfl | rfl | rfl | rfl | rfl | h
  all_goals try rfl
  rw [kindW_8 h, show (r == 1) = false by simp; omega]; rfl
theorem assertNull {r : Int} (h : KindNo r) (W : World) : (Instr.typeAssert (kindW r) 69 90 true).run Try.prog W = .ok (.tuple #[.agg #[], .bool (r == 2)]) W := by
  rcases h with rfl | rfl | rfl | rfl | rfl | rfl | h
  all_goals try rfl
  rw [kindW_8 h, show (r == 2) = false by simp; omega]; rfl
theorem assertArray {r : Int} (h : KindNo r) (W : World) : (Instr.typeAssert (kindW r) 69 86 true).run Try.prog W = .ok (.tuple #[.agg #[.bool (r == 4)], .bool (r == 3 || r == 4)]) W := by
  rcases h with rfl | rfl | rfl | rfl | rfl | rfl | h
  all_goals try rfl
  rw [kindW_8 h, show (r == 3) = false by simp; omega, show (r == 4) = false by simp; omega]; rfl
theorem assertClass {r : Int} (h : KindNo r) (W : World) : (Instr.typeAssert (kindW r) 69 88 true).run Try.prog W = .ok (.tuple #[.agg #[.int .i64 (if 8 ≤ r then r - 8 else 0)], .bool (decide (8 ≤ r))]) W := by
  rcases h with rfl | rfl | rfl | rfl | rfl | rfl | h
  all_goals try rfl
  rw [kindW_8 h, if_pos h, decide_eq_true h]; rfl
set_option maxHeartbeats 2000000 in
set_option maxRecDepth 100000 in
theorem impl_fieldType.calls (a0 a1 : Int) (r : Bool) (w : World) (h : impl_fieldType.f a0 a1 = some r) :
    Calls Try.prog 59 #[.int .i64 a0, .int .i64 a1] w fun e w' => e = .returned (.bool r) ∧ Drawn0 w w' := by
  unfold impl_fieldType.f at h
  obtain ⟨q, hq, hr⟩ := Option.bind_eq_some_iff.1 h
  obtain rfl := Option.some.inj hr
  clear h hr
  have hc : KindNo q := by have := kindOf_cases hq; unfold KindNo; omega
  have A := Aside0.mk hq
  clear hq
  have s1 := assertInt hc
  have s2 := assertArray hc
  have s3 := assertClass hc
  have b : (q == 1 || (q == 3 || q == 4) || decide (8 ≤ q)) = decide (q = 1 ∨ q = 3 ∨ q = 4 ∨ 8 ≤ q) := by
    rw [Bool.eq_iff_iff]; simp; omega
  have B := Aside0.mk b
  clear b hc
  rw [← B.out]
  clear B
  by_cases h1 : q = 1
  · subst h1
    go_enter Try.func59, Try.ntmps59
    go_wp2_with (go_at_call 62; refine (impl_kindOf.calls' _ _ _ _ A.out).mono ?_; rintro e w' ⟨rfl, rfl⟩)
    go_ret
    exact ⟨rfl, Drawn0.refl _⟩
  · have b1 : (q == 1) = false := by simpa using h1
    by_cases h2 : (q == 3 || q == 4) = true
    · go_enter Try.func59, Try.ntmps59
      go_wp2_with (go_at_call 62; refine (impl_kindOf.calls' _ _ _ _ A.out).mono ?_; rintro e w' ⟨rfl, rfl⟩)
      all_goals go_ret
      all_goals exact ⟨by simp [h2], Drawn0.refl _⟩
    · have b2 : (q == 3 || q == 4) = false := by simpa using h2
      by_cases h3 : 8 ≤ q
      · have b3 : decide (8 ≤ q) = true := decide_eq_true h3
        go_enter Try.func59, Try.ntmps59
        go_wp2_with (go_at_call 62; refine (impl_kindOf.calls' _ _ _ _ A.out).mono ?_; rintro e w' ⟨rfl, rfl⟩)
        all_goals go_ret
        all_goals exact ⟨by simp [*], Drawn0.refl _⟩
      · have b3 : decide (8 ≤ q) = false := decide_eq_false h3
        go_enter Try.func59, Try.ntmps59
        go_wp2_with (go_at_call 62; refine (impl_kindOf.calls' _ _ _ _ A.out).mono ?_; rintro e w' ⟨rfl, rfl⟩)
        all_goals go_ret
        all_goals exact ⟨by simp [*], Drawn0.refl _⟩
end Go.Proofs.Ytgmjolngnhdafaa.P

end
section
namespace Go.Proofs.Ytgmjolngnhdafaa.P
open Go.RowKit Go.Proofs.YtgmjolngnhdafaaW.PrintWords Go.Proofs.YtgmjolngnhdafaaW.PrintLast Go.Proofs.YtgmjolngnhdafaaW.PrintMore
attribute [local go_sem] max2_int min2_int max_two min_two max_three min_three max_four min_four
set_option linter.unusedVariables false
set_option linter.unusedSimpArgs false

set_option maxHeartbeats 8000000 in
set_option maxRecDepth 100000 in
theorem impl_ClassesOk.calls (k : Nat) (A0 : Option Addr) (c0 : Nat) (l0 : List (S38)) (r : Bool) (w : World) (hr0 : Kd.C k38 w A0 l0.length l0) (hc0 : l0.length ≤ c0) (h : impl_ClassesOk.f k l0 = some r) :
    Calls Try.prog 23 #[.slice A0 l0.length c0] w fun e w' => e = .returned (.bool r) ∧ Below w.heap.size w w' := by
  have hu38 := Try.underlying38
  have HR0 := Aside0.mk hr0
  have HC0 := Aside0.mk hc0
  clear hr0 hc0
  have HB := Aside0.mk (Below.refl w.heap.size w)
  have H : (if (l0.length : Int) < 2 then (impl_ClassesOk.j0 k l0 true) else (impl_ClassesOk.j0 k l0 (decide ((l0.length : Int) > 5)))) = some r := h
  clear h
  have HC2 := Aside0.mk H
  clear H
  go_enter Try.func23, Try.ntmps23
  go_upto_region 1 with (fail)
  go_cut [15] (fun v15 wc => ∃ (kq : Nat) (x15_1 : Bool), v15 = .bool x15_1 ∧ Aside0 (impl_ClassesOk.j0 kq l0 x15_1 = some r) ∧ Aside0 (kq ≤ k) ∧ Aside0 (Below w.heap.size w wc))
  case first =>
    have H := HC2.out
    clear HC2
    by_cases c3 : (l0.length : Int) < 2
    · rw [if_pos c3] at H
      have c3b0 : decide ((l0.length : Int) < 2) = true := decide_eq_true c3
      have c3b1 : decide (l0.length < 2) = true := decide_eq_true (by omega)
      clear c3
      (first | rw [c3b0] | (simp only [i64_w, i32_w]; rw [c3b0]) | skip)
      have H' := Aside0.mk H
      clear H
      go_wp2
      go_meet
      case rel => exact ⟨_, (true), (by first | rfl | (simp; done) | (simp [*]; done)), H', ⟨by first | omega | exact Nat.le_refl _⟩, ⟨by repeat (first | (with_reducible first | exact HB.out | apply below_alloc | apply pw_below_drewN | apply below_drew1) | exact HB.out)⟩⟩
    · rw [if_neg c3] at H
      have c3b0 : decide ((l0.length : Int) < 2) = false := decide_eq_false c3
      have c3b1 : decide (l0.length < 2) = false := decide_eq_false (by omega)
      clear c3
      (first | rw [c3b0] | (simp only [i64_w, i32_w]; rw [c3b0]) | skip)
      have H' := Aside0.mk H
      clear H
      go_wp2
      go_meet
      case rel => exact ⟨_, (decide ((l0.length : Int) > 5)), (by first | rfl | (simp; done) | (simp [*]; done)), H', ⟨by first | omega | exact Nat.le_refl _⟩, ⟨by repeat (first | (with_reducible first | exact HB.out | apply below_alloc | apply pw_below_drewN | apply below_drew1) | exact HB.out)⟩⟩
  case rest =>
    clear HC2
    try clear c2
    try clear p2
    try clear c3
    try clear c3b0
    try clear c3b1
    obtain ⟨kq, x15_1, rfl, HA, HJ1, HB⟩ := hcut
    cases kq with
    | zero => exact absurd HA.out (by simp [impl_ClassesOk.j0])
    | succ kj1 =>
      have H := HA.out
      clear HA
      simp only [impl_ClassesOk.j0] at H
      by_cases c4 : x15_1 = true
      · subst c4
        have H1 : (some false) = some r := by rw [if_pos rfl] at H; exact H
        clear H
        have H := H1
        clear H1
        obtain rfl := Option.some.inj H
        simp only [Option.some.injEq, Prod.mk.injEq] at H
        obtain ⟨rfl⟩ := H
        go_wp2
        go_ret
        exact ⟨by first | rfl | (simp [errW_none, errW_some] <;> rfl) | (simp [*, errW_none, errW_some] <;> rfl), by repeat (first | (with_reducible first | exact HB.out | apply below_alloc | apply pw_below_drewN | apply below_drew1) | exact HB.out)⟩
      · replace c4 := Bool.eq_false_iff.mpr c4
        subst c4
        have H1 : (if 0 < (l0.length : Int) then (if ((rd_T38 l0 0).f0) = (-1) then (impl_ClassesOk.j1 kj1 l0 ((((rd_T38 l0 0).f1).length : Int) != 0)) else (impl_ClassesOk.j1 kj1 l0 true)) else (none)) = some r := by rw [if_neg (show ¬ (false = true) by decide)] at H; exact H
        clear H
        have H := H1
        clear H1
        have HC5 := Aside0.mk H
        clear H
        go_upto_region 3 with (fail)
        go_cut [28] (fun v28 wc => ∃ (kq : Nat) (x28_4 : Bool), v28 = .bool x28_4 ∧ Aside0 (impl_ClassesOk.j1 kq l0 x28_4 = some r) ∧ Aside0 (kq ≤ kj1) ∧ Aside0 (Below w.heap.size w wc))
        case first =>
          have H := HC5.out
          clear HC5
          by_cases c6 : 0 < (l0.length : Int)
          · rw [if_pos c6] at H
            have c6b0 : decide (0 < (l0.length : Int)) = true := decide_eq_true c6
            have c6b1 : decide (0 < l0.length) = true := decide_eq_true (by omega)
            clear c6
            (first | rw [c6b0] | (simp only [i64_w, i32_w]; rw [c6b0]) | skip)
            by_cases c7 : ((rd_T38 l0 0).f0) = (-1)
            · rw [if_pos c7] at H
              have c7b0 : (((rd_T38 l0 0).f0) == (-1)) = true := beq_iff_eq.mpr c7
              have c7b1 : (((rd_T38 l0 0).f0) != (-1)) = false := bne_eq_false_iff_eq.mpr c7
              clear c7
              have H' := Aside0.mk H
              clear H
              have p134 : 0 ≤ (0 : Int) := (by omega)
              have q134 : 0 < (l0.length : Int) := of_decide_eq_true (by first | (with_reducible assumption) | assumption)
              obtain ⟨ad134, A134_1, c134_1, e134, hx134_0, hx134_1, hl134_1, hi134_1⟩ := at_T38 HR0.out 0 p134 q134
              cases e134
              have qi134 : (0 < l0.length) = True := eq_true (by omega)
              (try rw [show ((0 : Int)).toNat = 0 from rfl] at hx134_0)
              (try rw [show 0 * 2 = 0 from rfl] at hx134_0)
              (try rw [Addr.add_zero'] at hx134_0)
              (try rw [show ((0 : Int)).toNat = 0 from rfl] at hx134_1)
              (try rw [show 0 * 2 = 0 from rfl] at hx134_1)
              (try rw [Addr.add_zero'] at hx134_1)
              replace hx134_0 := (HB.out.cell (World.block_lt_of_cell? w _ hx134_0)).trans hx134_0
              replace hx134_1 := (HB.out.cell (World.block_lt_of_cell? w _ hx134_1)).trans hx134_1
              have HR134_1 := Aside0.mk hi134_1
              have HC134_1 := Aside0.mk hl134_1
              clear hi134_1 hl134_1
              replace p134 := eq_true p134
              replace q134 := eq_true q134
              have p135 : 0 ≤ (0 : Int) := (by omega)
              have q135 : 0 < (l0.length : Int) := of_decide_eq_true (by first | (with_reducible assumption) | assumption)
              obtain ⟨ad135, A135_1, c135_1, e135, hx135_0, hx135_1, hl135_1, hi135_1⟩ := at_T38 HR0.out 0 p135 q135
              obtain rfl : ad134 = ad135 := (by injection e135)
              have qi135 : (0 < l0.length) = True := eq_true (by omega)
              (try rw [show ((0 : Int)).toNat = 0 from rfl] at hx135_0)
              (try rw [show 0 * 2 = 0 from rfl] at hx135_0)
              (try rw [Addr.add_zero'] at hx135_0)
              (try rw [show ((0 : Int)).toNat = 0 from rfl] at hx135_1)
              (try rw [show 0 * 2 = 0 from rfl] at hx135_1)
              (try rw [Addr.add_zero'] at hx135_1)
              replace hx135_0 := (HB.out.cell (World.block_lt_of_cell? w _ hx135_0)).trans hx135_0
              replace hx135_1 := (HB.out.cell (World.block_lt_of_cell? w _ hx135_1)).trans hx135_1
              have HR135_1 := Aside0.mk hi135_1
              have HC135_1 := Aside0.mk hl135_1
              clear hi135_1 hl135_1
              replace p135 := eq_true p135
              replace q135 := eq_true q135
              have ea_ := Option.some.inj (hx134_1.symm.trans hx135_1)
              injection ea_ with ea_ en_ ec_
              subst ea_
              subst ec_
              clear en_
              go_wp2
              go_meet
              case rel => exact ⟨_, (((((rd_T38 l0 0).f1).length : Int) != 0)), (by first | rfl | (simp; done) | (simp [*]; done)), H', ⟨by have := HJ1.out; first | omega | exact Nat.le_refl _⟩, ⟨by repeat (first | (with_reducible first | exact HB.out | apply below_alloc | apply pw_below_drewN | apply below_drew1) | exact HB.out)⟩⟩
            · rw [if_neg c7] at H
              have c7b0 : (((rd_T38 l0 0).f0) == (-1)) = false := beq_eq_false_iff_ne.mpr c7
              have c7b1 : (((rd_T38 l0 0).f0) != (-1)) = true := bne_iff_ne.mpr c7
              have H' := Aside0.mk H
              clear H
              have p134 : 0 ≤ (0 : Int) := (by omega)
              have q134 : 0 < (l0.length : Int) := of_decide_eq_true (by first | (with_reducible assumption) | assumption)
              obtain ⟨ad134, A134_1, c134_1, e134, hx134_0, hx134_1, hl134_1, hi134_1⟩ := at_T38 HR0.out 0 p134 q134
              cases e134
              have qi134 : (0 < l0.length) = True := eq_true (by omega)
              (try rw [show ((0 : Int)).toNat = 0 from rfl] at hx134_0)
              (try rw [show 0 * 2 = 0 from rfl] at hx134_0)
              (try rw [Addr.add_zero'] at hx134_0)
              (try rw [show ((0 : Int)).toNat = 0 from rfl] at hx134_1)
              (try rw [show 0 * 2 = 0 from rfl] at hx134_1)
              (try rw [Addr.add_zero'] at hx134_1)
              replace hx134_0 := (HB.out.cell (World.block_lt_of_cell? w _ hx134_0)).trans hx134_0
              replace hx134_1 := (HB.out.cell (World.block_lt_of_cell? w _ hx134_1)).trans hx134_1
              have HR134_1 := Aside0.mk hi134_1
              have HC134_1 := Aside0.mk hl134_1
              clear hi134_1 hl134_1
              replace p134 := eq_true p134
              replace q134 := eq_true q134
              go_wp2
              go_meet
              case rel => exact ⟨_, (true), (by first | rfl | (simp; done) | (simp [*]; done)), H', ⟨by have := HJ1.out; first | omega | exact Nat.le_refl _⟩, ⟨by repeat (first | (with_reducible first | exact HB.out | apply below_alloc | apply pw_below_drewN | apply below_drew1) | exact HB.out)⟩⟩
          · rw [if_neg c6] at H
            exact absurd H (by simp)
        case rest =>
          clear HC5
          try clear c1
          try clear p1
          try clear q1
          try clear hx1
          try clear qi1
          try clear c2
          try clear p2
          try clear c3
          try clear c3b0
          try clear c3b1
          try clear c4
          try clear c6
          try clear c6b0
          try clear c6b1
          try clear c7
          try clear c7b0
          try clear c7b1
          try clear hx134_0
          try clear hx134_1
          try clear hx135_0
          try clear hx135_1
          try clear p134
          try clear p135
          try clear p2
          try clear q134
          try clear q135
          obtain ⟨kq, x28_4, rfl, HA, HJ4, HB⟩ := hcut
          cases kq with
          | zero => exact absurd HA.out (by simp [impl_ClassesOk.j1])
          | succ kj4 =>
            have H := HA.out
            clear HA
            simp only [impl_ClassesOk.j1] at H
            by_cases c8 : x28_4 = true
            · subst c8
              have H1 : (some false) = some r := by rw [if_pos rfl] at H; exact H
              clear H
              have H := H1
              clear H1
              obtain rfl := Option.some.inj H
              simp only [Option.some.injEq, Prod.mk.injEq] at H
              obtain ⟨rfl⟩ := H
              go_wp2
              go_ret
              exact ⟨by first | rfl | (simp [errW_none, errW_some] <;> rfl) | (simp [*, errW_none, errW_some] <;> rfl), by repeat (first | (with_reducible first | exact HB.out | apply below_alloc | apply pw_below_drewN | apply below_drew1) | exact HB.out)⟩
            · replace c8 := Bool.eq_false_iff.mpr c8
              subst c8
              have H1 : (if 1 < (l0.length : Int) then (if ((rd_T38 l0 1).f0) = 0 then (if (((rd_T38 l0 1).f1).length : Int) = 1 then (if 0 < (((rd_T38 l0 1).f1).length : Int) then (impl_ClassesOk.j2 kj4 l0 ((rd ((rd_T38 l0 1).f1) 0) != 1)) else (none)) else (impl_ClassesOk.j2 kj4 l0 true)) else (impl_ClassesOk.j2 kj4 l0 true)) else (none)) = some r := by rw [if_neg (show ¬ (false = true) by decide)] at H; exact H
              clear H
              have H := H1
              clear H1
              by_cases c9 : 1 < (l0.length : Int)
              · rw [if_pos c9] at H
                have c9b0 : decide (1 < (l0.length : Int)) = true := decide_eq_true c9
                have c9b1 : decide (1 < l0.length) = true := decide_eq_true (by omega)
                clear c9
                have HC10 := Aside0.mk H
                clear H
                have p136 : 0 ≤ (1 : Int) := (by omega)
                have q136 : 1 < (l0.length : Int) := of_decide_eq_true (by first | (with_reducible assumption) | assumption)
                obtain ⟨ad136, A136_1, c136_1, e136, hx136_0, hx136_1, hl136_1, hi136_1⟩ := at_T38 HR0.out 1 p136 q136
                cases e136
                (try simp only [show (1 : Int).toNat = 1 from rfl, Nat.reduceMul, Nat.reduceEqDiff, Go.Addr.add, ↓reduceIte] at hx136_0)
                (try simp only [show (1 : Int).toNat = 1 from rfl, Nat.reduceMul, Nat.reduceEqDiff, Go.Addr.add, ↓reduceIte] at hx136_1)
                have qi136 : (1 < l0.length) = True := eq_true (by omega)
                (try rw [show ((1 : Int)).toNat = 1 from rfl] at hx136_0)
                (try rw [show 1 * 2 = 2 from rfl] at hx136_0)
                (try rw [show ((1 : Int)).toNat = 1 from rfl] at hx136_1)
                (try rw [show 1 * 2 = 2 from rfl] at hx136_1)
                replace hx136_0 := (HB.out.cell (World.block_lt_of_cell? w _ hx136_0)).trans hx136_0
                replace hx136_1 := (HB.out.cell (World.block_lt_of_cell? w _ hx136_1)).trans hx136_1
                have HR136_1 := Aside0.mk hi136_1
                have HC136_1 := Aside0.mk hl136_1
                clear hi136_1 hl136_1
                replace p136 := eq_true p136
                replace q136 := eq_true q136
                go_upto_region 6 with (first | ((with_reducible refine gate_dst (N := 3) rfl ?_); (try (refine gate_guard (by rfl) ?_; dsimp only)); refine box_event ?hg (N := 3) ?hd (cs := #[.int .i64 0, .slice none 0 0]) (t := 38) ?hr ?_; (case hd => rfl); (case hg => rfl); (case hr => first | (go_simp; done) | (go_simp; rfl)); intro gb137 hg w11 hbox hb; have n0_ := Aside0.mk (below_step (by repeat (first | (with_reducible first | exact HB.out | apply below_alloc | apply pw_below_drewN | apply below_drew1) | exact HB.out)) hb); have n1_ := Aside0.mk (hbox); have n2_ := Aside0.mk ((by rw [hg]; exact (below_size (by repeat (first | (with_reducible first | exact HB.out | apply below_alloc | apply pw_below_drewN | apply below_drew1) | exact HB.out))) : w.heap.size ≤ gb137)); have n3_ := Aside0.mk ((by rw [hg]; exact (below_size (by repeat (first | (with_reducible first | exact HB.out | apply below_alloc | apply pw_below_drewN | apply below_drew1) | exact HB.out))) : w.heap.size ≤ gb137)); clear HB; have HB := n0_; have BK137 := n1_; have GW137 := n2_; have GE137 := n3_; clear n0_ n1_ n2_ n3_; clear hb hbox hg; have hcz12_0 : w11.cell? ⟨gb137, 0, none⟩ = some (.int .i64 0) := (blk_cell BK137.out 0).trans rfl; have hcz12_1 : w11.cell? ⟨gb137, 1, none⟩ = some (.slice none 0 0) := (blk_cell BK137.out 1).trans rfl; have hfz12_0 := blk_frozen BK137.out 0; have hfz12_1 := blk_frozen BK137.out 1))
                (try simp only [Act.put, List.setIfInBounds_toArray, List.set_cons_zero, List.set_cons_succ])
                go_cut [47] (fun v47 wc => ∃ (kq : Nat) (x47_9 : Bool), v47 = .bool x47_9 ∧ Aside0 (impl_ClassesOk.j2 kq l0 x47_9 = some r) ∧ Aside0 (kq ≤ kj4) ∧ Aside0 (wc.heap[gb137]? = some (.cells #[.int .i64 ((rd_T38 l0 1).f0), (.slice A136_1 ((rd_T38 l0 1).f1).length c136_1)] 38 (0, 0))) ∧ Aside0 (Below w.heap.size w wc))
                case first =>
                  have H := HC10.out
                  clear HC10
                  by_cases c13 : ((rd_T38 l0 1).f0) = 0
                  · rw [if_pos c13] at H
                    have c13b0 : (((rd_T38 l0 1).f0) == 0) = true := beq_iff_eq.mpr c13
                    have c13b1 : (((rd_T38 l0 1).f0) != 0) = false := bne_eq_false_iff_eq.mpr c13
                    clear c13
                    (first | rw [c13b0] | (simp only [i64_w, i32_w]; rw [c13b0]) | skip)
                    by_cases c14 : (((rd_T38 l0 1).f1).length : Int) = 1
                    · rw [if_pos c14] at H
                      have c14b0 : ((((rd_T38 l0 1).f1).length : Int) == 1) = true := beq_iff_eq.mpr c14
                      have c14b1 : ((((rd_T38 l0 1).f1).length : Int) != 1) = false := bne_eq_false_iff_eq.mpr c14
                      clear c14
                      by_cases c15 : 0 < (((rd_T38 l0 1).f1).length : Int)
                      · rw [if_pos c15] at H
                        have c15b0 : decide (0 < (((rd_T38 l0 1).f1).length : Int)) = true := decide_eq_true c15
                        have c15b1 : decide (0 < ((rd_T38 l0 1).f1).length) = true := decide_eq_true (by omega)
                        clear c15
                        have H' := Aside0.mk H
                        clear H
                        have hcz16_0 : w11.cell? ⟨gb137, 0, none⟩ = some (.int .i64 0) := (blk_cell BK137.out 0).trans rfl
                        have hcz16_1 : w11.cell? ⟨gb137, 1, none⟩ = some (.slice none 0 0) := (blk_cell BK137.out 1).trans rfl
                        have hfz16_0 := blk_frozen BK137.out 0
                        have hfz16_1 := blk_frozen BK137.out 1
                        have p138 : 0 ≤ (0 : Int) := (by omega)
                        have q138 : 0 < (((rd_T38 l0 1).f1).length : Int) := of_decide_eq_true (by first | (with_reducible assumption) | assumption)
                        obtain ⟨ad138, e138, hx138_0⟩ := Kd.at_int HR136_1.out 0 p138 q138
                        cases e138
                        have qi138 : (0 < ((rd_T38 l0 1).f1).length) = True := eq_true (by omega)
                        (try rw [show ((0 : Int)).toNat = 0 from rfl] at hx138_0)
                        (try rw [Addr.add_zero'] at hx138_0)
                        have hn138_0 : ad138.block ≠ gb137 := Nat.ne_of_lt (Nat.lt_of_lt_of_le (by have := World.block_lt_of_cell? _ _ hx138_0; first | rwa [add_block] at this | exact this) GW137.out)
                        have hn138_1 : ad138.block ≠ gb137 := Nat.ne_of_lt (Nat.lt_of_lt_of_le (by have := World.block_lt_of_cell? _ _ hx138_0; first | rwa [add_block] at this | exact this) GW137.out)
                        replace hx138_0 := (HB.out.cell (World.block_lt_of_cell? w _ hx138_0)).trans hx138_0
                        replace hx138_0 := (cell_far (p := ⟨gb137, 0, none⟩) (by first | (rw [add_block]; exact hn138_0) | (show (Addr.add _ _).block ≠ _; rw [add_block]; exact hn138_0) | exact hn138_0) (.int .i64 ((rd_T38 l0 1).f0))).trans hx138_0
                        replace hx138_0 := (cell_far (p := ⟨gb137, 1, none⟩) (by first | (rw [add_block]; exact hn138_1) | (show (Addr.add _ _).block ≠ _; rw [add_block]; exact hn138_1) | exact hn138_1) (.slice (some ad138) ((rd_T38 l0 1).f1).length c136_1)).trans hx138_0
                        clear hn138_0
                        clear hn138_1
                        replace p138 := eq_true p138
                        replace q138 := eq_true q138
                        go_wp2
                        go_meet
                        case rel => exact ⟨_, (((rd ((rd_T38 l0 1).f1) 0) != 1)), (by first | rfl | (simp; done) | (simp [*]; done)), H', ⟨by have := HJ1.out; have := HJ4.out; first | omega | exact Nat.le_refl _⟩, ⟨by (with_reducible repeat (first | refine blk_drewN ?_ _ | refine blk_drew ?_ | refine blk_alloc ?_ _)); refine blk_put (cs := #[.int .i64 ((rd_T38 l0 1).f0), .slice none 0 0]) ?_ 1 _ rfl; (with_reducible repeat (first | refine blk_drewN ?_ _ | refine blk_drew ?_ | refine blk_alloc ?_ _)); refine blk_put (cs := #[.int .i64 0, .slice none 0 0]) ?_ 0 _ rfl; (with_reducible repeat (first | refine blk_drewN ?_ _ | refine blk_drew ?_ | refine blk_alloc ?_ _)); exact BK137.out⟩, ⟨by repeat (first | (with_reducible first | exact HB.out | apply below_alloc | apply pw_below_drewN | apply below_drew1 | refine below_set ?_ GE137.out) | exact HB.out)⟩⟩
                      · rw [if_neg c15] at H
                        exact absurd H (by simp)
                    · rw [if_neg c14] at H
                      have c14b0 : ((((rd_T38 l0 1).f1).length : Int) == 1) = false := beq_eq_false_iff_ne.mpr c14
                      have c14b1 : ((((rd_T38 l0 1).f1).length : Int) != 1) = true := bne_iff_ne.mpr c14
                      have H' := Aside0.mk H
                      clear H
                      have hcz17_0 : w11.cell? ⟨gb137, 0, none⟩ = some (.int .i64 0) := (blk_cell BK137.out 0).trans rfl
                      have hcz17_1 : w11.cell? ⟨gb137, 1, none⟩ = some (.slice none 0 0) := (blk_cell BK137.out 1).trans rfl
                      have hfz17_0 := blk_frozen BK137.out 0
                      have hfz17_1 := blk_frozen BK137.out 1
                      go_wp2
                      go_meet
                      case rel => exact ⟨_, (true), (by first | rfl | (simp; done) | (simp [*]; done)), H', ⟨by have := HJ1.out; have := HJ4.out; first | omega | exact Nat.le_refl _⟩, ⟨by (with_reducible repeat (first | refine blk_drewN ?_ _ | refine blk_drew ?_ | refine blk_alloc ?_ _)); refine blk_put (cs := #[.int .i64 ((rd_T38 l0 1).f0), .slice none 0 0]) ?_ 1 _ rfl; (with_reducible repeat (first | refine blk_drewN ?_ _ | refine blk_drew ?_ | refine blk_alloc ?_ _)); refine blk_put (cs := #[.int .i64 0, .slice none 0 0]) ?_ 0 _ rfl; (with_reducible repeat (first | refine blk_drewN ?_ _ | refine blk_drew ?_ | refine blk_alloc ?_ _)); exact BK137.out⟩, ⟨by repeat (first | (with_reducible first | exact HB.out | apply below_alloc | apply pw_below_drewN | apply below_drew1 | refine below_set ?_ GE137.out) | exact HB.out)⟩⟩
                  · rw [if_neg c13] at H
                    have c13b0 : (((rd_T38 l0 1).f0) == 0) = false := beq_eq_false_iff_ne.mpr c13
                    have c13b1 : (((rd_T38 l0 1).f0) != 0) = true := bne_iff_ne.mpr c13
                    (first | rw [c13b0] | (simp only [i64_w, i32_w]; rw [c13b0]) | skip)
                    have H' := Aside0.mk H
                    clear H
                    have hcz18_0 : w11.cell? ⟨gb137, 0, none⟩ = some (.int .i64 0) := (blk_cell BK137.out 0).trans rfl
                    have hcz18_1 : w11.cell? ⟨gb137, 1, none⟩ = some (.slice none 0 0) := (blk_cell BK137.out 1).trans rfl
                    have hfz18_0 := blk_frozen BK137.out 0
                    have hfz18_1 := blk_frozen BK137.out 1
                    go_wp2
                    go_meet
                    case rel => exact ⟨_, (true), (by first | rfl | (simp; done) | (simp [*]; done)), H', ⟨by have := HJ1.out; have := HJ4.out; first | omega | exact Nat.le_refl _⟩, ⟨by (with_reducible repeat (first | refine blk_drewN ?_ _ | refine blk_drew ?_ | refine blk_alloc ?_ _)); refine blk_put (cs := #[.int .i64 ((rd_T38 l0 1).f0), .slice none 0 0]) ?_ 1 _ rfl; (with_reducible repeat (first | refine blk_drewN ?_ _ | refine blk_drew ?_ | refine blk_alloc ?_ _)); refine blk_put (cs := #[.int .i64 0, .slice none 0 0]) ?_ 0 _ rfl; (with_reducible repeat (first | refine blk_drewN ?_ _ | refine blk_drew ?_ | refine blk_alloc ?_ _)); exact BK137.out⟩, ⟨by repeat (first | (with_reducible first | exact HB.out | apply below_alloc | apply pw_below_drewN | apply below_drew1 | refine below_set ?_ GE137.out) | exact HB.out)⟩⟩
                case rest =>
                  clear HC10
                  try clear c1
                  try clear p1
                  try clear q1
                  try clear hx1
                  try clear qi1
                  try clear c2
                  try clear p2
                  try clear c3
                  try clear c3b0
                  try clear c3b1
                  try clear c4
                  try clear c6
                  try clear c6b0
                  try clear c6b1
                  try clear c7
                  try clear c7b0
                  try clear c7b1
                  try clear c8
                  try clear c9
                  try clear c9b0
                  try clear c9b1
                  try clear c13
                  try clear c13b0
                  try clear c13b1
                  try clear p13
                  try clear q13
                  try clear hx13
                  try clear qi13
                  try clear c14
                  try clear c14b0
                  try clear c14b1
                  try clear c15
                  try clear c15b0
                  try clear c15b1
                  try clear hcz12_0
                  try clear hcz12_1
                  try clear hcz16_0
                  try clear hcz16_1
                  try clear hcz17_0
                  try clear hcz17_1
                  try clear hcz18_0
                  try clear hcz18_1
                  try clear hfz12_0
                  try clear hfz12_1
                  try clear hfz16_0
                  try clear hfz16_1
                  try clear hfz17_0
                  try clear hfz17_1
                  try clear hfz18_0
                  try clear hfz18_1
                  try clear hx134_0
                  try clear hx134_1
                  try clear hx135_0
                  try clear hx135_1
                  try clear hx136_0
                  try clear hx136_1
                  try clear hx138_0
                  try clear p1
                  try clear p134
                  try clear p135
                  try clear p136
                  try clear p138
                  try clear p2
                  try clear q1
                  try clear q134
                  try clear q135
                  try clear q136
                  try clear q138
                  obtain ⟨kq, x47_9, rfl, HA, HJ9, BK137, HB⟩ := hcut
                  cases kq with
                  | zero => exact absurd HA.out (by simp [impl_ClassesOk.j2])
                  | succ kj9 =>
                    have H := HA.out
                    clear HA
                    simp only [impl_ClassesOk.j2] at H
                    by_cases c19 : x47_9 = true
                    · subst c19
                      have H1 : (some false) = some r := by rw [if_pos rfl] at H; exact H
                      clear H
                      have H := H1
                      clear H1
                      obtain rfl := Option.some.inj H
                      simp only [Option.some.injEq, Prod.mk.injEq] at H
                      obtain ⟨rfl⟩ := H
                      go_wp2
                      go_ret
                      exact ⟨by first | rfl | (simp [errW_none, errW_some] <;> rfl) | (simp [*, errW_none, errW_some] <;> rfl), by repeat (first | (with_reducible first | exact HB.out | apply below_alloc | apply pw_below_drewN | apply below_drew1 | refine below_set ?_ GE137.out) | exact HB.out)⟩
                    · replace c19 := Bool.eq_false_iff.mpr c19
                      subst c19
                      have H1 : (impl_ClassesOk.l0 kj9 l0 l0 (l0.length : Int) 0) = some r := by rw [if_neg (show ¬ (false = true) by decide)] at H; exact H
                      clear H
                      have H := H1
                      clear H1
                      have H' := Aside0.mk H
                      clear H
                      go_wp2
                      go_loopg [50] kj9 (fun kq v50 w' => ∃ (x50_4 : Int), v50 = .int .i64 x50_4 ∧ Aside0 (impl_ClassesOk.l0 kq l0 l0 (l0.length : Int) x50_4 = some r) ∧ Aside0 (kq ≤ kj9) ∧ Aside0 (w'.heap[gb137]? = some (.cells #[.int .i64 ((rd_T38 l0 1).f0), (.slice A136_1 ((rd_T38 l0 1).f1).length c136_1)] 38 (0, 0))) ∧ Aside0 (Below w.heap.size w w'))
                      case atStart => exact ⟨(0), (by first | rfl | (simp; done) | (simp [*]; done)), H', ⟨Nat.le_refl _⟩, ⟨by (with_reducible repeat (first | refine blk_drewN ?_ _ | refine blk_drew ?_ | refine blk_alloc ?_ _)); exact BK137.out⟩, ⟨by repeat (first | (with_reducible first | exact HB.out | apply below_alloc | apply pw_below_drewN | apply below_drew1 | refine below_set ?_ GE137.out) | exact HB.out)⟩⟩
                      case round =>
                        clear H'
                        try clear c1
                        try clear p1
                        try clear q1
                        try clear hx1
                        try clear qi1
                        try clear c2
                        try clear p2
                        try clear c3
                        try clear c3b0
                        try clear c3b1
                        try clear c4
                        try clear c6
                        try clear c6b0
                        try clear c6b1
                        try clear c7
                        try clear c7b0
                        try clear c7b1
                        try clear c8
                        try clear c9
                        try clear c9b0
                        try clear c9b1
                        try clear c13
                        try clear c13b0
                        try clear c13b1
                        try clear p13
                        try clear q13
                        try clear hx13
                        try clear qi13
                        try clear c14
                        try clear c14b0
                        try clear c14b1
                        try clear c15
                        try clear c15b0
                        try clear c15b1
                        try clear c19
                        try clear hcz12_0
                        try clear hcz12_1
                        try clear hcz16_0
                        try clear hcz16_1
                        try clear hcz17_0
                        try clear hcz17_1
                        try clear hcz18_0
                        try clear hcz18_1
                        try clear hfz12_0
                        try clear hfz12_1
                        try clear hfz16_0
                        try clear hfz16_1
                        try clear hfz17_0
                        try clear hfz17_1
                        try clear hfz18_0
                        try clear hfz18_1
                        try clear hx134_0
                        try clear hx134_1
                        try clear hx135_0
                        try clear hx135_1
                        try clear hx136_0
                        try clear hx136_1
                        try clear hx138_0
                        try clear p1
                        try clear p13
                        try clear p134
                        try clear p135
                        try clear p136
                        try clear p138
                        try clear p2
                        try clear q1
                        try clear q13
                        try clear q134
                        try clear q135
                        try clear q136
                        try clear q138
                        obtain ⟨x50_4, rfl, HA, HK4, BK137, HB⟩ := hrel
                        cases gk with
                        | zero => exact absurd HA.out (by simp [impl_ClassesOk.l0])
                        | succ k4 =>
                          have H := HA.out
                          clear HA
                          simp only [impl_ClassesOk.l0] at H
                          by_cases c20 : x50_4 < (l0.length : Int)
                          · rw [if_pos c20] at H
                            have c20b0 : decide (x50_4 < (l0.length : Int)) = true := decide_eq_true c20
                            clear c20
                            by_cases c21 : 0 ≤ x50_4
                            · rw [if_pos c21] at H
                              have c21b0 : decide (0 ≤ x50_4) = true := decide_eq_true c21
                              clear c21
                              by_cases c22 : x50_4 < (l0.length : Int)
                              · rw [if_pos c22] at H
                                have c22b0 : decide (x50_4 < (l0.length : Int)) = true := decide_eq_true c22
                                clear c22
                                have HC23 := Aside0.mk H
                                clear H
                                have p139 : 0 ≤ (x50_4 : Int) := of_decide_eq_true (by first | (with_reducible assumption) | assumption)
                                have q139 : x50_4 < (l0.length : Int) := of_decide_eq_true (by first | (with_reducible assumption) | assumption)
                                obtain ⟨ad139, A139_1, c139_1, e139, hx139_0, hx139_1, hl139_1, hi139_1⟩ := at_T38 HR0.out x50_4 p139 q139
                                obtain rfl : ad136 = ad139 := (by injection e139)
                                replace hx139_0 := (HB.out.cell (World.block_lt_of_cell? w _ hx139_0)).trans hx139_0
                                replace hx139_1 := (HB.out.cell (World.block_lt_of_cell? w _ hx139_1)).trans hx139_1
                                have HR139_1 := Aside0.mk hi139_1
                                have HC139_1 := Aside0.mk hl139_1
                                clear hi139_1 hl139_1
                                replace p139 := eq_true p139
                                replace q139 := eq_true q139
                                go_upto_region 11 with (first | ((with_reducible refine gate_dst (N := 5) rfl ?_); (try (refine gate_guard (by rfl) ?_; dsimp only)); refine box_event ?hg (N := 5) ?hd (cs := #[.int .i64 0, .slice none 0 0]) (t := 38) ?hr ?_; (case hd => rfl); (case hg => rfl); (case hr => first | (go_simp; done) | (go_simp; rfl)); intro gb140 hg w24 hbox hb; have n0_ := Aside0.mk (blk_below (g := gb137) (o := .cells #[.int .i64 ((rd_T38 l0 1).f0), .slice A136_1 ((rd_T38 l0 1).f1).length c136_1] 38 (0, 0)) (by (with_reducible repeat (first | refine blk_drewN ?_ _ | refine blk_drew ?_ | refine blk_alloc ?_ _)); exact BK137.out) hb); have n1_ := Aside0.mk (below_step (by repeat (first | (with_reducible first | exact HB.out | apply below_alloc | apply pw_below_drewN | apply below_drew1 | refine below_set ?_ GE137.out) | exact HB.out)) hb); have n2_ := Aside0.mk (hbox); have n3_ := Aside0.mk ((by rw [hg]; exact (below_size (by repeat (first | (with_reducible first | exact HB.out | apply below_alloc | apply pw_below_drewN | apply below_drew1 | refine below_set ?_ GE137.out) | exact HB.out))) : w.heap.size ≤ gb140)); have n4_ := Aside0.mk ((by rw [hg]; exact (below_size (by repeat (first | (with_reducible first | exact HB.out | apply below_alloc | apply pw_below_drewN | apply below_drew1 | refine below_set ?_ GE137.out) | exact HB.out))) : w.heap.size ≤ gb140)); have n5_ := Aside0.mk ((by rw [hg]; exact Nat.ne_of_lt (blk_lt (g := gb137) (o := .cells #[.int .i64 ((rd_T38 l0 1).f0), .slice A136_1 ((rd_T38 l0 1).f1).length c136_1] 38 (0, 0)) (by (with_reducible repeat (first | refine blk_drewN ?_ _ | refine blk_drew ?_ | refine blk_alloc ?_ _)); exact BK137.out)) : gb137 ≠ gb140)); have n6_ := Aside0.mk ((by rw [hg]; exact Nat.ne_of_gt (blk_lt (g := gb137) (o := .cells #[.int .i64 ((rd_T38 l0 1).f0), .slice A136_1 ((rd_T38 l0 1).f1).length c136_1] 38 (0, 0)) (by (with_reducible repeat (first | refine blk_drewN ?_ _ | refine blk_drew ?_ | refine blk_alloc ?_ _)); exact BK137.out)) : gb140 ≠ gb137)); clear BK137; clear HB; have BK137 := n0_; have HB := n1_; have BK140 := n2_; have GW140 := n3_; have GE140 := n4_; have NB137_140 := n5_; have NB140_137 := n6_; clear n0_ n1_ n2_ n3_ n4_ n5_ n6_; clear hb hbox hg; have hnb25 := NB140_137.out; have hnc25 := NB137_140.out; have hcz26_0 : w24.cell? ⟨gb140, 0, none⟩ = some (.int .i64 0) := (blk_cell BK140.out 0).trans rfl; have hcz26_1 : w24.cell? ⟨gb140, 1, none⟩ = some (.slice none 0 0) := (blk_cell BK140.out 1).trans rfl; have hfz26_0 := blk_frozen BK140.out 0; have hfz26_1 := blk_frozen BK140.out 1))
                                (try simp only [Act.put, List.setIfInBounds_toArray, List.set_cons_zero, List.set_cons_succ])
                                go_cut [67] (fun v67 wc => ∃ (kq : Nat) (x67_22 : Bool), v67 = .bool x67_22 ∧ Aside0 (impl_ClassesOk.j4 kq l0 l0 (l0.length : Int) x50_4 x67_22 ((rd_T38 l0 x50_4).f0) ((rd_T38 l0 x50_4).f1) = some r) ∧ Aside0 (kq ≤ k4) ∧ Aside0 (wc.heap[gb137]? = some (.cells #[.int .i64 ((rd_T38 l0 1).f0), (.slice A136_1 ((rd_T38 l0 1).f1).length c136_1)] 38 (0, 0))) ∧ Aside0 (wc.heap[gb140]? = some (.cells #[.int .i64 ((rd_T38 l0 x50_4).f0), (.slice A139_1 ((rd_T38 l0 x50_4).f1).length c139_1)] 38 (0, 0))) ∧ Aside0 (Below w.heap.size w wc))
                                case first =>
                                  have H := HC23.out
                                  clear HC23
                                  by_cases c27 : x50_4 > 1
                                  · rw [if_pos c27] at H
                                    have c27b0 : decide (1 < x50_4) = true := decide_eq_true c27
                                    clear c27
                                    (first | rw [c27b0] | (simp only [i64_w, i32_w]; rw [c27b0]) | skip)
                                    by_cases c28 : ((rd_T38 l0 x50_4).f0) < 0
                                    · rw [if_pos c28] at H
                                      have c28b0 : decide (((rd_T38 l0 x50_4).f0) < 0) = true := decide_eq_true c28
                                      clear c28
                                      have H' := Aside0.mk H
                                      clear H
                                      have hnb29 := NB140_137.out
                                      have hnc29 := NB137_140.out
                                      have hcz30_0 : w24.cell? ⟨gb140, 0, none⟩ = some (.int .i64 0) := (blk_cell BK140.out 0).trans rfl
                                      have hcz30_1 : w24.cell? ⟨gb140, 1, none⟩ = some (.slice none 0 0) := (blk_cell BK140.out 1).trans rfl
                                      have hfz30_0 := blk_frozen BK140.out 0
                                      have hfz30_1 := blk_frozen BK140.out 1
                                      go_wp2
                                      go_meet
                                      case rel => exact ⟨_, (true), (by first | rfl | (simp; done) | (simp [*]; done)), H', ⟨by have := HJ1.out; have := HJ4.out; have := HJ9.out; have := HK4.out; first | omega | exact Nat.le_refl _⟩, ⟨by (with_reducible repeat (first | refine blk_drewN ?_ _ | refine blk_drew ?_ | refine blk_alloc ?_ _)); refine blk_far ?_ NB137_140.out _; (with_reducible repeat (first | refine blk_drewN ?_ _ | refine blk_drew ?_ | refine blk_alloc ?_ _)); refine blk_far ?_ NB137_140.out _; (with_reducible repeat (first | refine blk_drewN ?_ _ | refine blk_drew ?_ | refine blk_alloc ?_ _)); exact BK137.out⟩, ⟨by (with_reducible repeat (first | refine blk_drewN ?_ _ | refine blk_drew ?_ | refine blk_alloc ?_ _)); refine blk_put (cs := #[.int .i64 ((rd_T38 l0 x50_4).f0), .slice none 0 0]) ?_ 1 _ rfl; (with_reducible repeat (first | refine blk_drewN ?_ _ | refine blk_drew ?_ | refine blk_alloc ?_ _)); refine blk_put (cs := #[.int .i64 0, .slice none 0 0]) ?_ 0 _ rfl; (with_reducible repeat (first | refine blk_drewN ?_ _ | refine blk_drew ?_ | refine blk_alloc ?_ _)); exact BK140.out⟩, ⟨by repeat (first | (with_reducible first | exact HB.out | apply below_alloc | apply pw_below_drewN | apply below_drew1 | refine below_set ?_ GE137.out | refine below_set ?_ GE140.out) | exact HB.out)⟩⟩
                                    · rw [if_neg c28] at H
                                      have c28b0 : decide (((rd_T38 l0 x50_4).f0) < 0) = false := decide_eq_false c28
                                      clear c28
                                      have H' := Aside0.mk H
                                      clear H
                                      have hnb31 := NB140_137.out
                                      have hnc31 := NB137_140.out
                                      have hcz32_0 : w24.cell? ⟨gb140, 0, none⟩ = some (.int .i64 0) := (blk_cell BK140.out 0).trans rfl
                                      have hcz32_1 : w24.cell? ⟨gb140, 1, none⟩ = some (.slice none 0 0) := (blk_cell BK140.out 1).trans rfl
                                      have hfz32_0 := blk_frozen BK140.out 0
                                      have hfz32_1 := blk_frozen BK140.out 1
                                      go_wp2
                                      go_meet
                                      case rel => exact ⟨_, (decide (((rd_T38 l0 x50_4).f0) ≥ x50_4)), (by first | rfl | (simp; done) | (simp [*]; done)), H', ⟨by have := HJ1.out; have := HJ4.out; have := HJ9.out; have := HK4.out; first | omega | exact Nat.le_refl _⟩, ⟨by (with_reducible repeat (first | refine blk_drewN ?_ _ | refine blk_drew ?_ | refine blk_alloc ?_ _)); refine blk_far ?_ NB137_140.out _; (with_reducible repeat (first | refine blk_drewN ?_ _ | refine blk_drew ?_ | refine blk_alloc ?_ _)); refine blk_far ?_ NB137_140.out _; (with_reducible repeat (first | refine blk_drewN ?_ _ | refine blk_drew ?_ | refine blk_alloc ?_ _)); exact BK137.out⟩, ⟨by (with_reducible repeat (first | refine blk_drewN ?_ _ | refine blk_drew ?_ | refine blk_alloc ?_ _)); refine blk_put (cs := #[.int .i64 ((rd_T38 l0 x50_4).f0), .slice none 0 0]) ?_ 1 _ rfl; (with_reducible repeat (first | refine blk_drewN ?_ _ | refine blk_drew ?_ | refine blk_alloc ?_ _)); refine blk_put (cs := #[.int .i64 0, .slice none 0 0]) ?_ 0 _ rfl; (with_reducible repeat (first | refine blk_drewN ?_ _ | refine blk_drew ?_ | refine blk_alloc ?_ _)); exact BK140.out⟩, ⟨by repeat (first | (with_reducible first | exact HB.out | apply below_alloc | apply pw_below_drewN | apply below_drew1 | refine below_set ?_ GE137.out | refine below_set ?_ GE140.out) | exact HB.out)⟩⟩
                                  · rw [if_neg c27] at H
                                    have c27b0 : decide (1 < x50_4) = false := decide_eq_false c27
                                    clear c27
                                    (first | rw [c27b0] | (simp only [i64_w, i32_w]; rw [c27b0]) | skip)
                                    have H' := Aside0.mk H
                                    clear H
                                    go_wp2
                                    go_meet
                                    case rel => exact ⟨_, (false), (by first | rfl | (simp; done) | (simp [*]; done)), H', ⟨by have := HJ1.out; have := HJ4.out; have := HJ9.out; have := HK4.out; first | omega | exact Nat.le_refl _⟩, ⟨by (with_reducible repeat (first | refine blk_drewN ?_ _ | refine blk_drew ?_ | refine blk_alloc ?_ _)); refine blk_far ?_ NB137_140.out _; (with_reducible repeat (first | refine blk_drewN ?_ _ | refine blk_drew ?_ | refine blk_alloc ?_ _)); refine blk_far ?_ NB137_140.out _; (with_reducible repeat (first | refine blk_drewN ?_ _ | refine blk_drew ?_ | refine blk_alloc ?_ _)); exact BK137.out⟩, ⟨by (with_reducible repeat (first | refine blk_drewN ?_ _ | refine blk_drew ?_ | refine blk_alloc ?_ _)); refine blk_put (cs := #[.int .i64 ((rd_T38 l0 x50_4).f0), .slice none 0 0]) ?_ 1 _ rfl; (with_reducible repeat (first | refine blk_drewN ?_ _ | refine blk_drew ?_ | refine blk_alloc ?_ _)); refine blk_put (cs := #[.int .i64 0, .slice none 0 0]) ?_ 0 _ rfl; (with_reducible repeat (first | refine blk_drewN ?_ _ | refine blk_drew ?_ | refine blk_alloc ?_ _)); exact BK140.out⟩, ⟨by repeat (first | (with_reducible first | exact HB.out | apply below_alloc | apply pw_below_drewN | apply below_drew1 | refine below_set ?_ GE137.out | refine below_set ?_ GE140.out) | exact HB.out)⟩⟩
                                case rest =>
                                  clear HC23
                                  try clear c1
                                  try clear p1
                                  try clear q1
                                  try clear hx1
                                  try clear qi1
                                  try clear c2
                                  try clear p2
                                  try clear c3
                                  try clear c3b0
                                  try clear c3b1
                                  try clear c4
                                  try clear c6
                                  try clear c6b0
                                  try clear c6b1
                                  try clear c7
                                  try clear c7b0
                                  try clear c7b1
                                  try clear c8
                                  try clear c9
                                  try clear c9b0
                                  try clear c9b1
                                  try clear c13
                                  try clear c13b0
                                  try clear c13b1
                                  try clear p13
                                  try clear q13
                                  try clear hx13
                                  try clear qi13
                                  try clear c14
                                  try clear c14b0
                                  try clear c14b1
                                  try clear c15
                                  try clear c15b0
                                  try clear c15b1
                                  try clear c19
                                  try clear c20
                                  try clear c20b0
                                  try clear c21
                                  try clear c21b0
                                  try clear c22
                                  try clear c22b0
                                  try clear c23
                                  try clear c25
                                  try clear c27
                                  try clear c27b0
                                  try clear c28
                                  try clear c28b0
                                  try clear c29
                                  try clear c31
                                  try clear hcz12_0
                                  try clear hcz12_1
                                  try clear hcz16_0
                                  try clear hcz16_1
                                  try clear hcz17_0
                                  try clear hcz17_1
                                  try clear hcz18_0
                                  try clear hcz18_1
                                  try clear hcz26_0
                                  try clear hcz26_1
                                  try clear hcz30_0
                                  try clear hcz30_1
                                  try clear hcz32_0
                                  try clear hcz32_1
                                  try clear hfz12_0
                                  try clear hfz12_1
                                  try clear hfz16_0
                                  try clear hfz16_1
                                  try clear hfz17_0
                                  try clear hfz17_1
                                  try clear hfz18_0
                                  try clear hfz18_1
                                  try clear hfz26_0
                                  try clear hfz26_1
                                  try clear hfz30_0
                                  try clear hfz30_1
                                  try clear hfz32_0
                                  try clear hfz32_1
                                  try clear hx134_0
                                  try clear hx134_1
                                  try clear hx135_0
                                  try clear hx135_1
                                  try clear hx136_0
                                  try clear hx136_1
                                  try clear hx138_0
                                  try clear hx139_0
                                  try clear hx139_1
                                  try clear p1
                                  try clear p13
                                  try clear p134
                                  try clear p135
                                  try clear p136
                                  try clear p138
                                  try clear p139
                                  try clear p2
                                  try clear q1
                                  try clear q13
                                  try clear q134
                                  try clear q135
                                  try clear q136
                                  try clear q138
                                  try clear q139
                                  obtain ⟨kq, x67_22, rfl, HA, HJ22, BK137, BK140, HB⟩ := hcut
                                  cases kq with
                                  | zero => exact absurd HA.out (by simp [impl_ClassesOk.j4])
                                  | succ kj22 =>
                                    have H := HA.out
                                    clear HA
                                    simp only [impl_ClassesOk.j4] at H
                                    by_cases c33 : x67_22 = true
                                    · subst c33
                                      have H1 : (some false) = some r := by rw [if_pos rfl] at H; exact H
                                      clear H
                                      have H := H1
                                      clear H1
                                      obtain rfl := Option.some.inj H
                                      simp only [Option.some.injEq, Prod.mk.injEq] at H
                                      obtain ⟨rfl⟩ := H
                                      go_wp2
                                      go_ret
                                      exact ⟨by first | rfl | (simp [errW_none, errW_some] <;> rfl) | (simp [*, errW_none, errW_some] <;> rfl), by repeat (first | (with_reducible first | exact HB.out | apply below_alloc | apply pw_below_drewN | apply below_drew1 | refine below_set ?_ GE137.out | refine below_set ?_ GE140.out) | exact HB.out)⟩
                                    · replace c33 := Bool.eq_false_iff.mpr c33
                                      subst c33
                                      have H1 : (if (((rd_T38 l0 x50_4).f1).length : Int) > 2 then (some false) else (impl_ClassesOk.l1 kj22 l0 l0 (l0.length : Int) x50_4 ((rd_T38 l0 x50_4).f1) (((rd_T38 l0 x50_4).f1).length : Int) 0)) = some r := by rw [if_neg (show ¬ (false = true) by decide)] at H; exact H
                                      clear H
                                      have H := H1
                                      clear H1
                                      by_cases c34 : (((rd_T38 l0 x50_4).f1).length : Int) > 2
                                      · rw [if_pos c34] at H
                                        have c34b0 : decide (2 < (((rd_T38 l0 x50_4).f1).length : Int)) = true := decide_eq_true c34
                                        have c34b1 : decide (2 < ((rd_T38 l0 x50_4).f1).length) = true := decide_eq_true (by omega)
                                        clear c34
                                        obtain rfl := Option.some.inj H
                                        simp only [Option.some.injEq, Prod.mk.injEq] at H
                                        obtain ⟨rfl⟩ := H
                                        have hnb35 := NB140_137.out
                                        have hnc35 := NB137_140.out
                                        have hcz36_0 : wc.cell? ⟨gb140, 0, none⟩ = some (.int .i64 ((rd_T38 l0 x50_4).f0)) := (blk_cell BK140.out 0).trans rfl
                                        have hcz36_1 : wc.cell? ⟨gb140, 1, none⟩ = some (.slice A139_1 ((rd_T38 l0 x50_4).f1).length c139_1) := (blk_cell BK140.out 1).trans rfl
                                        have hfz36_0 := blk_frozen BK140.out 0
                                        have hfz36_1 := blk_frozen BK140.out 1
                                        go_wp2
                                        go_ret
                                        exact ⟨by first | rfl | (simp [errW_none, errW_some] <;> rfl) | (simp [*, errW_none, errW_some] <;> rfl), by repeat (first | (with_reducible first | exact HB.out | apply below_alloc | apply pw_below_drewN | apply below_drew1 | refine below_set ?_ GE137.out | refine below_set ?_ GE140.out) | exact HB.out)⟩
                                      · rw [if_neg c34] at H
                                        have c34b0 : decide (2 < (((rd_T38 l0 x50_4).f1).length : Int)) = false := decide_eq_false c34
                                        have c34b1 : decide (2 < ((rd_T38 l0 x50_4).f1).length) = false := decide_eq_false (by omega)
                                        clear c34
                                        have H' := Aside0.mk H
                                        clear H
                                        have hnb37 := NB140_137.out
                                        have hnc37 := NB137_140.out
                                        have hcz38_0 : wc.cell? ⟨gb140, 0, none⟩ = some (.int .i64 ((rd_T38 l0 x50_4).f0)) := (blk_cell BK140.out 0).trans rfl
                                        have hcz38_1 : wc.cell? ⟨gb140, 1, none⟩ = some (.slice A139_1 ((rd_T38 l0 x50_4).f1).length c139_1) := (blk_cell BK140.out 1).trans rfl
                                        have hfz38_0 := blk_frozen BK140.out 0
                                        have hfz38_1 := blk_frozen BK140.out 1
                                        go_wp2
                                        go_loopg [75] kj22 (fun kq v75 w' => ∃ (x75_6 : Int), v75 = .int .i64 x75_6 ∧ Aside0 (impl_ClassesOk.l1 kq l0 l0 (l0.length : Int) x50_4 ((rd_T38 l0 x50_4).f1) (((rd_T38 l0 x50_4).f1).length : Int) x75_6 = some r) ∧ Aside0 (kq ≤ kj22) ∧ Aside0 (w'.heap[gb137]? = some (.cells #[.int .i64 ((rd_T38 l0 1).f0), (.slice A136_1 ((rd_T38 l0 1).f1).length c136_1)] 38 (0, 0))) ∧ Aside0 (w'.heap[gb140]? = some (.cells #[.int .i64 ((rd_T38 l0 x50_4).f0), (.slice A139_1 ((rd_T38 l0 x50_4).f1).length c139_1)] 38 (0, 0))) ∧ Aside0 (Below w.heap.size w w'))
                                        case atStart => exact ⟨(0), (by first | rfl | (simp; done) | (simp [*]; done)), H', ⟨Nat.le_refl _⟩, ⟨by (with_reducible repeat (first | refine blk_drewN ?_ _ | refine blk_drew ?_ | refine blk_alloc ?_ _)); exact BK137.out⟩, ⟨by (with_reducible repeat (first | refine blk_drewN ?_ _ | refine blk_drew ?_ | refine blk_alloc ?_ _)); exact BK140.out⟩, ⟨by repeat (first | (with_reducible first | exact HB.out | apply below_alloc | apply pw_below_drewN | apply below_drew1 | refine below_set ?_ GE137.out | refine below_set ?_ GE140.out) | exact HB.out)⟩⟩
                                        case round =>
                                          clear H'
                                          try clear c1
                                          try clear p1
                                          try clear q1
                                          try clear hx1
                                          try clear qi1
                                          try clear c2
                                          try clear p2
                                          try clear c3
                                          try clear c3b0
                                          try clear c3b1
                                          try clear c4
                                          try clear c6
                                          try clear c6b0
                                          try clear c6b1
                                          try clear c7
                                          try clear c7b0
                                          try clear c7b1
                                          try clear c8
                                          try clear c9
                                          try clear c9b0
                                          try clear c9b1
                                          try clear c13
                                          try clear c13b0
                                          try clear c13b1
                                          try clear p13
                                          try clear q13
                                          try clear hx13
                                          try clear qi13
                                          try clear c14
                                          try clear c14b0
                                          try clear c14b1
                                          try clear c15
                                          try clear c15b0
                                          try clear c15b1
                                          try clear c19
                                          try clear c20
                                          try clear c20b0
                                          try clear c21
                                          try clear c21b0
                                          try clear c22
                                          try clear c22b0
                                          try clear c23
                                          try clear c25
                                          try clear c27
                                          try clear c27b0
                                          try clear c28
                                          try clear c28b0
                                          try clear c29
                                          try clear c31
                                          try clear c33
                                          try clear c34
                                          try clear c34b0
                                          try clear c34b1
                                          try clear c35
                                          try clear c37
                                          try clear hcz12_0
                                          try clear hcz12_1
                                          try clear hcz16_0
                                          try clear hcz16_1
                                          try clear hcz17_0
                                          try clear hcz17_1
                                          try clear hcz18_0
                                          try clear hcz18_1
                                          try clear hcz26_0
                                          try clear hcz26_1
                                          try clear hcz30_0
                                          try clear hcz30_1
                                          try clear hcz32_0
                                          try clear hcz32_1
                                          try clear hcz36_0
                                          try clear hcz36_1
                                          try clear hcz38_0
                                          try clear hcz38_1
                                          try clear hfz12_0
                                          try clear hfz12_1
                                          try clear hfz16_0
                                          try clear hfz16_1
                                          try clear hfz17_0
                                          try clear hfz17_1
                                          try clear hfz18_0
                                          try clear hfz18_1
                                          try clear hfz26_0
                                          try clear hfz26_1
                                          try clear hfz30_0
                                          try clear hfz30_1
                                          try clear hfz32_0
                                          try clear hfz32_1
                                          try clear hfz36_0
                                          try clear hfz36_1
                                          try clear hfz38_0
                                          try clear hfz38_1
                                          try clear hx134_0
                                          try clear hx134_1
                                          try clear hx135_0
                                          try clear hx135_1
                                          try clear hx136_0
                                          try clear hx136_1
                                          try clear hx138_0
                                          try clear hx139_0
                                          try clear hx139_1
                                          try clear p1
                                          try clear p13
                                          try clear p134
                                          try clear p135
                                          try clear p136
                                          try clear p138
                                          try clear p139
                                          try clear p2
                                          try clear q1
                                          try clear q13
                                          try clear q134
                                          try clear q135
                                          try clear q136
                                          try clear q138
                                          try clear q139
                                          obtain ⟨x75_6, rfl, HA, HK6, BK137, BK140, HB⟩ := hrel
                                          cases gk with
                                          | zero => exact absurd HA.out (by simp [impl_ClassesOk.l1])
                                          | succ k6 =>
                                            have H := HA.out
                                            clear HA
                                            simp only [impl_ClassesOk.l1] at H
                                            by_cases c39 : x75_6 < (((rd_T38 l0 x50_4).f1).length : Int)
                                            · rw [if_pos c39] at H
                                              have c39b0 : decide (x75_6 < (((rd_T38 l0 x50_4).f1).length : Int)) = true := decide_eq_true c39
                                              clear c39
                                              by_cases c40 : 0 ≤ x75_6
                                              · rw [if_pos c40] at H
                                                have c40b0 : decide (0 ≤ x75_6) = true := decide_eq_true c40
                                                clear c40
                                                by_cases c41 : x75_6 < (((rd_T38 l0 x50_4).f1).length : Int)
                                                · rw [if_pos c41] at H
                                                  have c41b0 : decide (x75_6 < (((rd_T38 l0 x50_4).f1).length : Int)) = true := decide_eq_true c41
                                                  clear c41
                                                  replace H := Option.bind_eq_some_iff.mp H
                                                  obtain ⟨t142, A420, H⟩ := H
                                                  replace H : (if t142 = true then (impl_ClassesOk.l1 k6 l0 l0 (l0.length : Int) x50_4 ((rd_T38 l0 x50_4).f1) (((rd_T38 l0 x50_4).f1).length : Int) (wrap64 (x75_6 + 1))) else (some false)) = some r := H
                                                  have A42 := Aside0.mk A420
                                                  clear A420
                                                  by_cases c43 : t142 = true
                                                  · subst c43
                                                    have H1 : (impl_ClassesOk.l1 k6 l0 l0 (l0.length : Int) x50_4 ((rd_T38 l0 x50_4).f1) (((rd_T38 l0 x50_4).f1).length : Int) (wrap64 (x75_6 + 1))) = some r := by rw [if_pos rfl] at H; exact H
                                                    clear H
                                                    have H := H1
                                                    clear H1
                                                    have H' := Aside0.mk H
                                                    clear H
                                                    have p141 : 0 ≤ (x75_6 : Int) := of_decide_eq_true (by first | (with_reducible assumption) | assumption)
                                                    have q141 : x75_6 < (((rd_T38 l0 x50_4).f1).length : Int) := of_decide_eq_true (by first | (with_reducible assumption) | assumption)
                                                    obtain ⟨ad141, e141, hx141_0⟩ := Kd.at_int HR139_1.out x75_6 p141 q141
                                                    cases e141
                                                    replace hx141_0 := (HB.out.cell (World.block_lt_of_cell? w _ hx141_0)).trans hx141_0
                                                    replace p141 := eq_true p141
                                                    replace q141 := eq_true q141
                                                    go_wp2_with (first | ((with_reducible refine gate_callee (f := 59) rfl ?_); refine goesL_ (some 82) rfl rfl Try.func59 (by kernel_rfl) rfl #[.int .i64 (l0.length : Int), .int .i64 (rd ((rd_T38 l0 x50_4).f1) x75_6)] rfl (by (try simp only [List.map_toArray, List.map_cons, List.map_nil]); first | done | rfl | (simp only [List.length_drop, List.length_take]; rfl)) ?_; (with_reducible refine (impl_fieldType.calls (l0.length : Int) (rd ((rd_T38 l0 x50_4).f1) x75_6) true _ A42.out).mono ?_); rintro e w' ⟨rfl, ⟨nd, rfl⟩⟩; refine ⟨_, rfl, ?_⟩))
                                                    go_roundg k6
                                                    case measure => have := HJ1.out; have := HJ4.out; have := HJ9.out; have := HK4.out; have := HJ22.out; have := HK6.out; omega
                                                    case rel => exact ⟨(wrap64 (x75_6 + 1)), (by first | rfl | (simp; done) | (simp [*]; done)), H', ⟨by have := HJ1.out; have := HJ4.out; have := HJ9.out; have := HK4.out; have := HJ22.out; have := HK6.out; omega⟩, ⟨by (with_reducible repeat (first | refine blk_drewN ?_ _ | refine blk_drew ?_ | refine blk_alloc ?_ _)); exact BK137.out⟩, ⟨by (with_reducible repeat (first | refine blk_drewN ?_ _ | refine blk_drew ?_ | refine blk_alloc ?_ _)); exact BK140.out⟩, ⟨by repeat (first | (with_reducible first | exact HB.out | apply below_alloc | apply pw_below_drewN | apply below_drew1 | refine below_set ?_ GE137.out | refine below_set ?_ GE140.out) | exact HB.out)⟩⟩
                                                  · replace c43 := Bool.eq_false_iff.mpr c43
                                                    subst c43
                                                    have H1 : (some false) = some r := by rw [if_neg (show ¬ (false = true) by decide)] at H; exact H
                                                    clear H
                                                    have H := H1
                                                    clear H1
                                                    obtain rfl := Option.some.inj H
                                                    simp only [Option.some.injEq, Prod.mk.injEq] at H
                                                    obtain ⟨rfl⟩ := H
                                                    have p141 : 0 ≤ (x75_6 : Int) := of_decide_eq_true (by first | (with_reducible assumption) | assumption)
                                                    have q141 : x75_6 < (((rd_T38 l0 x50_4).f1).length : Int) := of_decide_eq_true (by first | (with_reducible assumption) | assumption)
                                                    obtain ⟨ad141, e141, hx141_0⟩ := Kd.at_int HR139_1.out x75_6 p141 q141
                                                    cases e141
                                                    replace hx141_0 := (HB.out.cell (World.block_lt_of_cell? w _ hx141_0)).trans hx141_0
                                                    replace p141 := eq_true p141
                                                    replace q141 := eq_true q141
                                                    go_wp2_with (first | ((with_reducible refine gate_callee (f := 59) rfl ?_); refine goesL_ (some 82) rfl rfl Try.func59 (by kernel_rfl) rfl #[.int .i64 (l0.length : Int), .int .i64 (rd ((rd_T38 l0 x50_4).f1) x75_6)] rfl (by (try simp only [List.map_toArray, List.map_cons, List.map_nil]); first | done | rfl | (simp only [List.length_drop, List.length_take]; rfl)) ?_; (with_reducible refine (impl_fieldType.calls (l0.length : Int) (rd ((rd_T38 l0 x50_4).f1) x75_6) false _ A42.out).mono ?_); rintro e w' ⟨rfl, ⟨nd, rfl⟩⟩; refine ⟨_, rfl, ?_⟩))
                                                    go_ret
                                                    exact ⟨by first | rfl | (simp [errW_none, errW_some] <;> rfl) | (simp [*, errW_none, errW_some] <;> rfl), by repeat (first | (with_reducible first | exact HB.out | apply below_alloc | apply pw_below_drewN | apply below_drew1 | refine below_set ?_ GE137.out | refine below_set ?_ GE140.out) | exact HB.out)⟩
                                                · rw [if_neg c41] at H
                                                  exact absurd H (by simp)
                                              · rw [if_neg c40] at H
                                                exact absurd H (by simp)
                                            · rw [if_neg c39] at H
                                              have c39b0 : decide (x75_6 < (((rd_T38 l0 x50_4).f1).length : Int)) = false := decide_eq_false c39
                                              clear c39
                                              have H' := Aside0.mk H
                                              clear H
                                              go_wp2
                                              go_roundg k6
                                              case measure => have := HJ1.out; have := HJ4.out; have := HJ9.out; have := HK4.out; have := HJ22.out; have := HK6.out; omega
                                              case rel => exact ⟨(wrap64 (x50_4 + 1)), (by first | rfl | (simp; done) | (simp [*]; done)), H', ⟨by have := HJ1.out; have := HJ4.out; have := HJ9.out; have := HK4.out; have := HJ22.out; have := HK6.out; omega⟩, ⟨by (with_reducible repeat (first | refine blk_drewN ?_ _ | refine blk_drew ?_ | refine blk_alloc ?_ _)); exact BK137.out⟩, ⟨by repeat (first | (with_reducible first | exact HB.out | apply below_alloc | apply pw_below_drewN | apply below_drew1 | refine below_set ?_ GE137.out | refine below_set ?_ GE140.out) | exact HB.out)⟩⟩
                              · rw [if_neg c22] at H
                                exact absurd H (by simp)
                            · rw [if_neg c21] at H
                              exact absurd H (by simp)
                          · rw [if_neg c20] at H
                            have c20b0 : decide (x50_4 < (l0.length : Int)) = false := decide_eq_false c20
                            clear c20
                            obtain rfl := Option.some.inj H
                            simp only [Option.some.injEq, Prod.mk.injEq] at H
                            obtain ⟨rfl⟩ := H
                            go_wp2
                            go_ret
                            exact ⟨by first | rfl | (simp [errW_none, errW_some] <;> rfl) | (simp [*, errW_none, errW_some] <;> rfl), by repeat (first | (with_reducible first | exact HB.out | apply below_alloc | apply pw_below_drewN | apply below_drew1 | refine below_set ?_ GE137.out) | exact HB.out)⟩
              · rw [if_neg c9] at H
                exact absurd H (by simp)

end Go.Proofs.Ytgmjolngnhdafaa.P

end
section
namespace Go.Proofs.Ytgmjolngnhdafaa.P
open Go.RowKit Go.Proofs.YtgmjolngnhdafaaW.PrintWords Go.Proofs.YtgmjolngnhdafaaW.PrintLast Go.Proofs.YtgmjolngnhdafaaW.PrintMore
attribute [local go_sem] max2_int min2_int max_two min_two max_three min_three max_four min_four
set_option linter.unusedVariables false
set_option linter.unusedSimpArgs false

set_option maxHeartbeats 8000000 in
set_option maxRecDepth 100000 in
theorem impl_isClass.calls (A0 : Option Addr) (c0 : Nat) (l0 : List (S38)) (a1 : Int) (r : Bool) (w : World) (hr0 : Kd.C k38 w A0 l0.length l0) (hc0 : l0.length ≤ c0) (h : impl_isClass.f l0 a1 = some r) :
    Calls Try.prog 66 #[.slice A0 l0.length c0, .int .i64 a1] w fun e w' => e = .returned (.bool r) ∧ Drawn0 w w' := by
  have HR0 := Aside0.mk hr0
  have HC0 := Aside0.mk hc0
  clear hr0 hc0
  have H : (if a1 ≥ 0 then (some (decide (a1 < (l0.length : Int)))) else (some false)) = some r := h
  clear h
  by_cases c3 : a1 ≥ 0
  · rw [if_pos c3] at H
    have c3b0 : decide (0 ≤ a1) = true := decide_eq_true c3
    clear c3
    obtain rfl := Option.some.inj H
    simp only [Option.some.injEq, Prod.mk.injEq] at H
    obtain ⟨rfl⟩ := H
    go_enter Try.func66, Try.ntmps66
    go_wp2
    go_ret
    exact ⟨by first | rfl | (simp; done) | (simp [*]; done), by repeat (first | exact Drawn0.refl _ | apply Drawn0.step)⟩
  · rw [if_neg c3] at H
    have c3b0 : decide (0 ≤ a1) = false := decide_eq_false c3
    clear c3
    obtain rfl := Option.some.inj H
    simp only [Option.some.injEq, Prod.mk.injEq] at H
    obtain ⟨rfl⟩ := H
    go_enter Try.func66, Try.ntmps66
    go_wp2
    go_ret
    exact ⟨by first | rfl | (simp; done) | (simp [*]; done), by repeat (first | exact Drawn0.refl _ | apply Drawn0.step)⟩

end Go.Proofs.Ytgmjolngnhdafaa.P

end
section
namespace Go.Proofs.Ytgmjolngnhdafaa.P
open Go.RowKit Go.Proofs.YtgmjolngnhdafaaW.PrintWords Go.Proofs.YtgmjolngnhdafaaW.PrintLast Go.Proofs.YtgmjolngnhdafaaW.PrintMore
attribute [local go_sem] max2_int min2_int max_two min_two max_three min_three max_four min_four
set_option linter.unusedVariables false
set_option linter.unusedSimpArgs false

set_option maxHeartbeats 8000000 in
set_option maxRecDepth 100000 in
theorem impl_classUp.calls (k : Nat) (A0 : Option Addr) (c0 : Nat) (l0 : List (S38)) (a1 : Int) (a2 : Int) (r : Bool) (w : World) (hr0 : Kd.C k38 w A0 l0.length l0) (hc0 : l0.length ≤ c0) (h : impl_classUp.f k l0 a1 a2 = some r) :
    Calls Try.prog 67 #[.slice A0 l0.length c0, .int .i64 a1, .int .i64 a2] w fun e w' => e = .returned (.bool r) ∧ Drawn0 w w' := by
  have HR0 := Aside0.mk hr0
  have HC0 := Aside0.mk hc0
  clear hr0 hc0
  have H : (impl_classUp.l0 k l0 a2 a1) = some r := h
  clear h
  have H' := Aside0.mk H
  clear H
  go_enter Try.func67, Try.ntmps67
  go_wp2
  go_loopg [7] k (fun kq v7 w' => ∃ (x7_1 : Int), v7 = .int .i64 x7_1 ∧ Aside0 (impl_classUp.l0 kq l0 a2 x7_1 = some r) ∧ Aside0 (kq ≤ k) ∧ Drawn0 w w')
  case atStart => exact ⟨(a1), (by first | rfl | (simp; done) | (simp [*]; done)), H', ⟨Nat.le_refl _⟩, by repeat (first | exact Drawn0.refl _ | apply Drawn0.step)⟩
  case round =>
    clear H'
    try clear p2
    obtain ⟨x7_1, rfl, HA, HK1, ⟨m1, rfl⟩⟩ := hrel
    cases gk with
    | zero => exact absurd HA.out (by simp [impl_classUp.l0])
    | succ k1 =>
      have H := HA.out
      clear HA
      simp only [impl_classUp.l0] at H
      by_cases c4 : x7_1 ≥ 0
      · rw [if_pos c4] at H
        have c4b0 : decide (0 ≤ x7_1) = true := decide_eq_true c4
        clear c4
        by_cases c5 : x7_1 = a2
        · rw [if_pos c5] at H
          have c5b0 : (x7_1 == a2) = true := beq_iff_eq.mpr c5
          have c5b1 : (x7_1 != a2) = false := bne_eq_false_iff_eq.mpr c5
          clear c5
          obtain rfl := Option.some.inj H
          simp only [Option.some.injEq, Prod.mk.injEq] at H
          obtain ⟨rfl⟩ := H
          go_wp2
          go_ret
          exact ⟨by first | rfl | (simp; done) | (simp [*]; done), by repeat (first | exact Drawn0.refl _ | apply Drawn0.step)⟩
        · rw [if_neg c5] at H
          have c5b0 : (x7_1 == a2) = false := beq_eq_false_iff_ne.mpr c5
          have c5b1 : (x7_1 != a2) = true := bne_iff_ne.mpr c5
          by_cases c6 : 0 ≤ x7_1
          · rw [if_pos c6] at H
            have c6b0 : decide (0 ≤ x7_1) = true := decide_eq_true c6
            clear c6
            by_cases c7 : x7_1 < (l0.length : Int)
            · rw [if_pos c7] at H
              have c7b0 : decide (x7_1 < (l0.length : Int)) = true := decide_eq_true c7
              clear c7
              have H' := Aside0.mk H
              clear H
              have p227 : 0 ≤ (x7_1 : Int) := of_decide_eq_true (by first | (with_reducible assumption) | assumption)
              have q227 : x7_1 < (l0.length : Int) := of_decide_eq_true (by first | (with_reducible assumption) | assumption)
              obtain ⟨ad227, A227_1, c227_1, e227, hx227_0, hx227_1, hl227_1, hi227_1⟩ := at_T38 HR0.out x7_1 p227 q227
              cases e227
              have HR227_1 := Aside0.mk hi227_1
              have HC227_1 := Aside0.mk hl227_1
              clear hi227_1 hl227_1
              replace p227 := eq_true p227
              replace q227 := eq_true q227
              go_wp2
              go_roundg k1
              case measure => have := HK1.out; omega
              case rel => exact ⟨((rd_T38 l0 x7_1).f0), (by first | rfl | (simp; done) | (simp [*]; done)), H', ⟨by have := HK1.out; omega⟩, by repeat (first | exact Drawn0.refl _ | apply Drawn0.step)⟩
            · rw [if_neg c7] at H
              exact absurd H (by simp)
          · rw [if_neg c6] at H
            exact absurd H (by simp)
      · rw [if_neg c4] at H
        have c4b0 : decide (0 ≤ x7_1) = false := decide_eq_false c4
        clear c4
        obtain rfl := Option.some.inj H
        simp only [Option.some.injEq, Prod.mk.injEq] at H
        obtain ⟨rfl⟩ := H
        go_wp2
        go_ret
        exact ⟨by first | rfl | (simp; done) | (simp [*]; done), by repeat (first | exact Drawn0.refl _ | apply Drawn0.step)⟩

end Go.Proofs.Ytgmjolngnhdafaa.P

end
section
namespace Go.Proofs.Ytgmjolngnhdafaa.P
open Go.RowKit Go.Proofs.YtgmjolngnhdafaaW.PrintWords Go.Proofs.YtgmjolngnhdafaaW.PrintLast Go.Proofs.YtgmjolngnhdafaaW.PrintMore
attribute [local go_sem] max2_int min2_int max_two min_two max_three min_three max_four min_four
set_option linter.unusedVariables false
set_option linter.unusedSimpArgs false

set_option maxHeartbeats 8000000 in
set_option maxRecDepth 100000 in
theorem impl_ClassUp.calls (k : Nat) (A0 : Option Addr) (c0 : Nat) (l0 : List (S38)) (a1 : Int) (a2 : Int) (r : Bool) (w : World) (hr0 : Kd.C k38 w A0 l0.length l0) (hc0 : l0.length ≤ c0) (h : impl_ClassUp.f k l0 a1 a2 = some r) :
    Calls Try.prog 28 #[.slice A0 l0.length c0, .int .i64 a1, .int .i64 a2] w fun e w' => e = .returned (.bool r) ∧ Below w.heap.size w w' := by
  have HR0 := Aside0.mk hr0
  have HC0 := Aside0.mk hc0
  clear hr0 hc0
  have HB := Aside0.mk (Below.refl w.heap.size w)
  have H : ((impl_ClassesOk.f k l0).bind fun t228 => (if t228 = true then ((impl_isClass.f l0 a1).bind fun t229 => (if t229 = true then ((impl_isClass.f l0 a2).bind fun t230 => (if t230 = true then ((impl_classUp.f k l0 a1 a2).bind fun t231 => (some t231)) else (some false))) else (some false))) else (some false))) = some r := h
  clear h
  replace H := Option.bind_eq_some_iff.mp H
  obtain ⟨t228, A40, H⟩ := H
  replace H : (if t228 = true then ((impl_isClass.f l0 a1).bind fun t229 => (if t229 = true then ((impl_isClass.f l0 a2).bind fun t230 => (if t230 = true then ((impl_classUp.f k l0 a1 a2).bind fun t231 => (some t231)) else (some false))) else (some false))) else (some false)) = some r := H
  have A4 := Aside0.mk A40
  clear A40
  by_cases c5 : t228 = true
  · subst c5
    have H1 : ((impl_isClass.f l0 a1).bind fun t229 => (if t229 = true then ((impl_isClass.f l0 a2).bind fun t230 => (if t230 = true then ((impl_classUp.f k l0 a1 a2).bind fun t231 => (some t231)) else (some false))) else (some false))) = some r := by rw [if_pos rfl] at H; exact H
    clear H
    have H := H1
    clear H1
    replace H := Option.bind_eq_some_iff.mp H
    obtain ⟨t229, A60, H⟩ := H
    replace H : (if t229 = true then ((impl_isClass.f l0 a2).bind fun t230 => (if t230 = true then ((impl_classUp.f k l0 a1 a2).bind fun t231 => (some t231)) else (some false))) else (some false)) = some r := H
    have A6 := Aside0.mk A60
    clear A60
    by_cases c7 : t229 = true
    · subst c7
      have H1 : ((impl_isClass.f l0 a2).bind fun t230 => (if t230 = true then ((impl_classUp.f k l0 a1 a2).bind fun t231 => (some t231)) else (some false))) = some r := by rw [if_pos rfl] at H; exact H
      clear H
      have H := H1
      clear H1
      replace H := Option.bind_eq_some_iff.mp H
      obtain ⟨t230, A80, H⟩ := H
      replace H : (if t230 = true then ((impl_classUp.f k l0 a1 a2).bind fun t231 => (some t231)) else (some false)) = some r := H
      have A8 := Aside0.mk A80
      clear A80
      by_cases c9 : t230 = true
      · subst c9
        have H1 : ((impl_classUp.f k l0 a1 a2).bind fun t231 => (some t231)) = some r := by rw [if_pos rfl] at H; exact H
        clear H
        have H := H1
        clear H1
        replace H := Option.bind_eq_some_iff.mp H
        obtain ⟨t231, A100, H⟩ := H
        replace H : (some t231) = some r := H
        have A10 := Aside0.mk A100
        clear A100
        obtain rfl := Option.some.inj H
        simp only [Option.some.injEq, Prod.mk.injEq] at H
        obtain ⟨rfl⟩ := H
        go_enter Try.func28, Try.ntmps28
        go_wp2_with (first | ((with_reducible refine gate_callee (f := 23) rfl ?_); refine goesL_ (some 8) rfl rfl Try.func23 (by kernel_rfl) rfl #[.slice A0 l0.length c0] rfl (by (try simp only [List.map_toArray, List.map_cons, List.map_nil]); first | done | rfl | (simp only [List.length_drop, List.length_take]; rfl)) ?_; (with_reducible refine (impl_ClassesOk.calls k _ _ l0 true _ ?side1 ?side2 A4.out).mono ?_); (case side1 => repeat (first | exact HR0.out | (with_reducible refine Kd.C_alloc ?_ _) | (with_reducible refine Kd.C_drewN ?_ _) | (with_reducible refine Kd.C_drew ?_))); (case side2 => exact HC0.out); rintro e w11 ⟨rfl, hb⟩; refine ⟨_, rfl, ?_⟩; have n0_ := Aside0.mk (below_step (by repeat (first | (with_reducible first | exact HB.out | apply below_alloc | apply pw_below_drewN | apply below_drew1) | exact HB.out)) hb); clear HB; have HB := n0_; clear n0_; (try clear hb); (try clear hb2); (try clear hk); (try clear hi)) | (go_at_call 66; (with_reducible refine (impl_isClass.calls _ _ l0 a1 true _ ?side1 ?side2 A6.out).mono ?_); (case side1 => repeat (first | exact (Kd.C_below HR0.out HB.out) | (with_reducible refine Kd.C_alloc ?_ _) | (with_reducible refine Kd.C_drewN ?_ _) | (with_reducible refine Kd.C_drew ?_))); (case side2 => exact HC0.out); rintro e w' ⟨rfl, ⟨nd, rfl⟩⟩) | (go_at_call 66; (with_reducible refine (impl_isClass.calls _ _ l0 a2 true _ ?side1 ?side2 A8.out).mono ?_); (case side1 => repeat (first | exact (Kd.C_below HR0.out (by repeat (first | (with_reducible first | exact HB.out | apply below_alloc | apply pw_below_drewN | apply below_drew1) | exact HB.out))) | (with_reducible refine Kd.C_alloc ?_ _) | (with_reducible refine Kd.C_drewN ?_ _) | (with_reducible refine Kd.C_drew ?_))); (case side2 => exact HC0.out); rintro e w' ⟨rfl, ⟨nd, rfl⟩⟩) | (go_at_call 67; (with_reducible refine (impl_classUp.calls k _ _ l0 a1 a2 t231 _ ?side1 ?side2 A10.out).mono ?_); (case side1 => repeat (first | exact (Kd.C_below HR0.out (by repeat (first | (with_reducible first | exact HB.out | apply below_alloc | apply pw_below_drewN | apply below_drew1) | exact HB.out))) | (with_reducible refine Kd.C_alloc ?_ _) | (with_reducible refine Kd.C_drewN ?_ _) | (with_reducible refine Kd.C_drew ?_))); (case side2 => exact HC0.out); rintro e w' ⟨rfl, ⟨nd, rfl⟩⟩))
        go_ret
        exact ⟨by first | rfl | (simp [errW_none, errW_some] <;> rfl) | (simp [*, errW_none, errW_some] <;> rfl), by repeat (first | (with_reducible first | exact HB.out | apply below_alloc | apply pw_below_drewN | apply below_drew1) | exact HB.out)⟩
      · replace c9 := Bool.eq_false_iff.mpr c9
        subst c9
        have H1 : (some false) = some r := by rw [if_neg (show ¬ (false = true) by decide)] at H; exact H
        clear H
        have H := H1
        clear H1
        obtain rfl := Option.some.inj H
        simp only [Option.some.injEq, Prod.mk.injEq] at H
        obtain ⟨rfl⟩ := H
        go_enter Try.func28, Try.ntmps28
        go_wp2_with (first | ((with_reducible refine gate_callee (f := 23) rfl ?_); refine goesL_ (some 8) rfl rfl Try.func23 (by kernel_rfl) rfl #[.slice A0 l0.length c0] rfl (by (try simp only [List.map_toArray, List.map_cons, List.map_nil]); first | done | rfl | (simp only [List.length_drop, List.length_take]; rfl)) ?_; (with_reducible refine (impl_ClassesOk.calls k _ _ l0 true _ ?side1 ?side2 A4.out).mono ?_); (case side1 => repeat (first | exact HR0.out | (with_reducible refine Kd.C_alloc ?_ _) | (with_reducible refine Kd.C_drewN ?_ _) | (with_reducible refine Kd.C_drew ?_))); (case side2 => exact HC0.out); rintro e w12 ⟨rfl, hb⟩; refine ⟨_, rfl, ?_⟩; have n0_ := Aside0.mk (below_step (by repeat (first | (with_reducible first | exact HB.out | apply below_alloc | apply pw_below_drewN | apply below_drew1) | exact HB.out)) hb); clear HB; have HB := n0_; clear n0_; (try clear hb); (try clear hb2); (try clear hk); (try clear hi)) | (go_at_call 66; (with_reducible refine (impl_isClass.calls _ _ l0 a1 true _ ?side1 ?side2 A6.out).mono ?_); (case side1 => repeat (first | exact (Kd.C_below HR0.out HB.out) | (with_reducible refine Kd.C_alloc ?_ _) | (with_reducible refine Kd.C_drewN ?_ _) | (with_reducible refine Kd.C_drew ?_))); (case side2 => exact HC0.out); rintro e w' ⟨rfl, ⟨nd, rfl⟩⟩) | (go_at_call 66; (with_reducible refine (impl_isClass.calls _ _ l0 a2 false _ ?side1 ?side2 A8.out).mono ?_); (case side1 => repeat (first | exact (Kd.C_below HR0.out (by repeat (first | (with_reducible first | exact HB.out | apply below_alloc | apply pw_below_drewN | apply below_drew1) | exact HB.out))) | (with_reducible refine Kd.C_alloc ?_ _) | (with_reducible refine Kd.C_drewN ?_ _) | (with_reducible refine Kd.C_drew ?_))); (case side2 => exact HC0.out); rintro e w' ⟨rfl, ⟨nd, rfl⟩⟩))
        go_ret
        exact ⟨by first | rfl | (simp [errW_none, errW_some] <;> rfl) | (simp [*, errW_none, errW_some] <;> rfl), by repeat (first | (with_reducible first | exact HB.out | apply below_alloc | apply pw_below_drewN | apply below_drew1) | exact HB.out)⟩
    · replace c7 := Bool.eq_false_iff.mpr c7
      subst c7
      have H1 : (some false) = some r := by rw [if_neg (show ¬ (false = true) by decide)] at H; exact H
      clear H
      have H := H1
      clear H1
      obtain rfl := Option.some.inj H
      simp only [Option.some.injEq, Prod.mk.injEq] at H
      obtain ⟨rfl⟩ := H
      go_enter Try.func28, Try.ntmps28
      go_wp2_with (first | ((with_reducible refine gate_callee (f := 23) rfl ?_); refine goesL_ (some 8) rfl rfl Try.func23 (by kernel_rfl) rfl #[.slice A0 l0.length c0] rfl (by (try simp only [List.map_toArray, List.map_cons, List.map_nil]); first | done | rfl | (simp only [List.length_drop, List.length_take]; rfl)) ?_; (with_reducible refine (impl_ClassesOk.calls k _ _ l0 true _ ?side1 ?side2 A4.out).mono ?_); (case side1 => repeat (first | exact HR0.out | (with_reducible refine Kd.C_alloc ?_ _) | (with_reducible refine Kd.C_drewN ?_ _) | (with_reducible refine Kd.C_drew ?_))); (case side2 => exact HC0.out); rintro e w13 ⟨rfl, hb⟩; refine ⟨_, rfl, ?_⟩; have n0_ := Aside0.mk (below_step (by repeat (first | (with_reducible first | exact HB.out | apply below_alloc | apply pw_below_drewN | apply below_drew1) | exact HB.out)) hb); clear HB; have HB := n0_; clear n0_; (try clear hb); (try clear hb2); (try clear hk); (try clear hi)) | (go_at_call 66; (with_reducible refine (impl_isClass.calls _ _ l0 a1 false _ ?side1 ?side2 A6.out).mono ?_); (case side1 => repeat (first | exact (Kd.C_below HR0.out HB.out) | (with_reducible refine Kd.C_alloc ?_ _) | (with_reducible refine Kd.C_drewN ?_ _) | (with_reducible refine Kd.C_drew ?_))); (case side2 => exact HC0.out); rintro e w' ⟨rfl, ⟨nd, rfl⟩⟩))
      go_ret
      exact ⟨by first | rfl | (simp [errW_none, errW_some] <;> rfl) | (simp [*, errW_none, errW_some] <;> rfl), by repeat (first | (with_reducible first | exact HB.out | apply below_alloc | apply pw_below_drewN | apply below_drew1) | exact HB.out)⟩
  · replace c5 := Bool.eq_false_iff.mpr c5
    subst c5
    have H1 : (some false) = some r := by rw [if_neg (show ¬ (false = true) by decide)] at H; exact H
    clear H
    have H := H1
    clear H1
    obtain rfl := Option.some.inj H
    simp only [Option.some.injEq, Prod.mk.injEq] at H
    obtain ⟨rfl⟩ := H
    go_enter Try.func28, Try.ntmps28
    go_wp2_with (first | ((with_reducible refine gate_callee (f := 23) rfl ?_); refine goesL_ (some 8) rfl rfl Try.func23 (by kernel_rfl) rfl #[.slice A0 l0.length c0] rfl (by (try simp only [List.map_toArray, List.map_cons, List.map_nil]); first | done | rfl | (simp only [List.length_drop, List.length_take]; rfl)) ?_; (with_reducible refine (impl_ClassesOk.calls k _ _ l0 false _ ?side1 ?side2 A4.out).mono ?_); (case side1 => repeat (first | exact HR0.out | (with_reducible refine Kd.C_alloc ?_ _) | (with_reducible refine Kd.C_drewN ?_ _) | (with_reducible refine Kd.C_drew ?_))); (case side2 => exact HC0.out); rintro e w14 ⟨rfl, hb⟩; refine ⟨_, rfl, ?_⟩; have n0_ := Aside0.mk (below_step (by repeat (first | (with_reducible first | exact HB.out | apply below_alloc | apply pw_below_drewN | apply below_drew1) | exact HB.out)) hb); clear HB; have HB := n0_; clear n0_; (try clear hb); (try clear hb2); (try clear hk); (try clear hi)))
    go_ret
    exact ⟨by first | rfl | (simp [errW_none, errW_some] <;> rfl) | (simp [*, errW_none, errW_some] <;> rfl), by repeat (first | (with_reducible first | exact HB.out | apply below_alloc | apply pw_below_drewN | apply below_drew1) | exact HB.out)⟩

end Go.Proofs.Ytgmjolngnhdafaa.P

end
section
namespace Go.Proofs.Ytgmjolngnhdafaa.P
open Go.RowKit Go.Proofs.YtgmjolngnhdafaaW.PrintWords Go.Proofs.YtgmjolngnhdafaaW.PrintLast Go.Proofs.YtgmjolngnhdafaaW.PrintMore
attribute [local go_sem] max2_int min2_int max_two min_two max_three min_three max_four min_four
set_option linter.unusedVariables false
set_option linter.unusedSimpArgs false

set_option maxHeartbeats 8000000 in
set_option maxRecDepth 100000 in
theorem spec_l6In.calls (a0 : Int) (a1 : Int) (a2 : Int) (r : Bool) (w : World) (h : spec_l6In.f a0 a1 a2 = some r) :
    Calls Try.prog 56 #[.int .i64 a0, .int .i64 a1, .int .i64 a2] w fun e w' => e = .returned (.bool r) ∧ Drawn0 w w' := by
  have H : (if a0 ≥ a1 then (some (decide (a0 ≤ a2))) else (some false)) = some r := h
  clear h
  by_cases c4 : a0 ≥ a1
  · rw [if_pos c4] at H
    have c4b0 : decide (a1 ≤ a0) = true := decide_eq_true c4
    clear c4
    obtain rfl := Option.some.inj H
    simp only [Option.some.injEq, Prod.mk.injEq] at H
    obtain ⟨rfl⟩ := H
    go_enter Try.func56, Try.ntmps56
    go_wp2
    go_ret
    exact ⟨by first | rfl | (simp; done) | (simp [*]; done), by repeat (first | exact Drawn0.refl _ | apply Drawn0.step)⟩
  · rw [if_neg c4] at H
    have c4b0 : decide (a1 ≤ a0) = false := decide_eq_false c4
    clear c4
    obtain rfl := Option.some.inj H
    simp only [Option.some.injEq, Prod.mk.injEq] at H
    obtain ⟨rfl⟩ := H
    go_enter Try.func56, Try.ntmps56
    go_wp2
    go_ret
    exact ⟨by first | rfl | (simp; done) | (simp [*]; done), by repeat (first | exact Drawn0.refl _ | apply Drawn0.step)⟩

end Go.Proofs.Ytgmjolngnhdafaa.P

end
section
namespace Go.Proofs.Ytgmjolngnhdafaa.P
open Go.RowKit Go.Proofs.YtgmjolngnhdafaaW.PrintWords Go.Proofs.YtgmjolngnhdafaaW.PrintLast Go.Proofs.YtgmjolngnhdafaaW.PrintMore
attribute [local go_sem] max2_int min2_int max_two min_two max_three min_three max_four min_four
set_option linter.unusedVariables false
set_option linter.unusedSimpArgs false

set_option maxHeartbeats 8000000 in
set_option maxRecDepth 100000 in
theorem spec_l2Field.calls (A0 : Option Addr) (c0 : Nat) (l0 : List (S38)) (a1 : Int) (r : Bool) (w : World) (hr0 : Kd.C k38 w A0 l0.length l0) (hc0 : l0.length ≤ c0) (h : spec_l2Field.f l0 a1 = some r) :
    Calls Try.prog 61 #[.slice A0 l0.length c0, .int .i64 a1] w fun e w' => e = .returned (.bool r) ∧ Drawn0 w w' := by
  have HR0 := Aside0.mk hr0
  have HC0 := Aside0.mk hc0
  clear hr0 hc0
  have H : (if a1 = 1 then (some true) else (if a1 = 3 then (some true) else (if a1 = 4 then (some true) else ((spec_l6In.f a1 8 (wrap64 ((wrap64 (8 + (l0.length : Int))) - 1))).bind fun t105 => (some t105))))) = some r := h
  clear h
  by_cases c3 : a1 = 1
  · rw [if_pos c3] at H
    have c3b0 : (a1 == 1) = true := beq_iff_eq.mpr c3
    have c3b1 : (a1 != 1) = false := bne_eq_false_iff_eq.mpr c3
    clear c3
    obtain rfl := Option.some.inj H
    simp only [Option.some.injEq, Prod.mk.injEq] at H
    obtain ⟨rfl⟩ := H
    go_enter Try.func61, Try.ntmps61
    go_wp2
    go_ret
    exact ⟨by first | rfl | (simp; done) | (simp [*]; done), by repeat (first | exact Drawn0.refl _ | apply Drawn0.step)⟩
  · rw [if_neg c3] at H
    have c3b0 : (a1 == 1) = false := beq_eq_false_iff_ne.mpr c3
    have c3b1 : (a1 != 1) = true := bne_iff_ne.mpr c3
    by_cases c4 : a1 = 3
    · rw [if_pos c4] at H
      have c4b0 : (a1 == 3) = true := beq_iff_eq.mpr c4
      have c4b1 : (a1 != 3) = false := bne_eq_false_iff_eq.mpr c4
      clear c4
      obtain rfl := Option.some.inj H
      simp only [Option.some.injEq, Prod.mk.injEq] at H
      obtain ⟨rfl⟩ := H
      go_enter Try.func61, Try.ntmps61
      go_wp2
      go_ret
      exact ⟨by first | rfl | (simp; done) | (simp [*]; done), by repeat (first | exact Drawn0.refl _ | apply Drawn0.step)⟩
    · rw [if_neg c4] at H
      have c4b0 : (a1 == 3) = false := beq_eq_false_iff_ne.mpr c4
      have c4b1 : (a1 != 3) = true := bne_iff_ne.mpr c4
      by_cases c5 : a1 = 4
      · rw [if_pos c5] at H
        have c5b0 : (a1 == 4) = true := beq_iff_eq.mpr c5
        have c5b1 : (a1 != 4) = false := bne_eq_false_iff_eq.mpr c5
        clear c5
        obtain rfl := Option.some.inj H
        simp only [Option.some.injEq, Prod.mk.injEq] at H
        obtain ⟨rfl⟩ := H
        go_enter Try.func61, Try.ntmps61
        go_wp2
        go_ret
        exact ⟨by first | rfl | (simp; done) | (simp [*]; done), by repeat (first | exact Drawn0.refl _ | apply Drawn0.step)⟩
      · rw [if_neg c5] at H
        have c5b0 : (a1 == 4) = false := beq_eq_false_iff_ne.mpr c5
        have c5b1 : (a1 != 4) = true := bne_iff_ne.mpr c5
        replace H := Option.bind_eq_some_iff.mp H
        obtain ⟨t105, A60, H⟩ := H
        replace H : (some t105) = some r := H
        have A6 := Aside0.mk A60
        clear A60
        obtain rfl := Option.some.inj H
        simp only [Option.some.injEq, Prod.mk.injEq] at H
        obtain ⟨rfl⟩ := H
        go_enter Try.func61, Try.ntmps61
        go_wp2_with (first | (go_at_call 56; (with_reducible refine (spec_l6In.calls a1 8 (wrap64 ((wrap64 (8 + (l0.length : Int))) - 1)) t105 _ A6.out).mono ?_); rintro e w' ⟨rfl, ⟨nd, rfl⟩⟩))
        go_ret
        exact ⟨by first | rfl | (simp; done) | (simp [*]; done), by repeat (first | exact Drawn0.refl _ | apply Drawn0.step)⟩

end Go.Proofs.Ytgmjolngnhdafaa.P

end
section
namespace Go.Proofs.Ytgmjolngnhdafaa.P
open Go.RowKit Go.Proofs.YtgmjolngnhdafaaW.PrintWords Go.Proofs.YtgmjolngnhdafaaW.PrintLast Go.Proofs.YtgmjolngnhdafaaW.PrintMore
attribute [local go_sem] max2_int min2_int max_two min_two max_three min_three max_four min_four
set_option linter.unusedVariables false
set_option linter.unusedSimpArgs false

set_option maxHeartbeats 8000000 in
set_option maxRecDepth 100000 in
theorem spec_l2Class.calls (k : Nat) (A0 : Option Addr) (c0 : Nat) (l0 : List (S38)) (a1 : Int) (r : Bool) (w : World) (hr0 : Kd.C k38 w A0 l0.length l0) (hc0 : l0.length ≤ c0) (h : spec_l2Class.f k l0 a1 = some r) :
    Calls Try.prog 57 #[.slice A0 l0.length c0, .int .i64 a1] w fun e w' => e = .returned (.bool r) ∧ Below w.heap.size w w' := by
  have hu38 := Try.underlying38
  have HR0 := Aside0.mk hr0
  have HC0 := Aside0.mk hc0
  clear hr0 hc0
  have HB := Aside0.mk (Below.refl w.heap.size w)
  have H : (if 0 ≤ a1 then (if a1 < (l0.length : Int) then (spec_l2Class.l0 k l0 a1 0 ((rd_T38 l0 a1).f0) ((rd_T38 l0 a1).f1)) else (none)) else (none)) = some r := h
  clear h
  by_cases c3 : 0 ≤ a1
  · rw [if_pos c3] at H
    have c3b0 : decide (0 ≤ a1) = true := decide_eq_true c3
    clear c3
    by_cases c4 : a1 < (l0.length : Int)
    · rw [if_pos c4] at H
      have c4b0 : decide (a1 < (l0.length : Int)) = true := decide_eq_true c4
      clear c4
      have H' := Aside0.mk H
      clear H
      have p106 : 0 ≤ (a1 : Int) := of_decide_eq_true (by first | (with_reducible assumption) | assumption)
      have q106 : a1 < (l0.length : Int) := of_decide_eq_true (by first | (with_reducible assumption) | assumption)
      obtain ⟨ad106, A106_1, c106_1, e106, hx106_0, hx106_1, hl106_1, hi106_1⟩ := at_T38 HR0.out a1 p106 q106
      cases e106
      have HR106_1 := Aside0.mk hi106_1
      have HC106_1 := Aside0.mk hl106_1
      clear hi106_1 hl106_1
      replace p106 := eq_true p106
      replace q106 := eq_true q106
      go_enter Try.func57, Try.ntmps57
      go_wp2_with (first | ((with_reducible refine gate_dst (N := 5) rfl ?_); (try (refine gate_guard (by rfl) ?_; dsimp only)); refine box_event ?hg (N := 5) ?hd (cs := #[.int .i64 0, .slice none 0 0]) (t := 38) ?hr ?_; (case hd => rfl); (case hg => rfl); (case hr => first | (go_simp; done) | (go_simp; rfl)); intro gb107 hg w5 hbox hb; have n0_ := Aside0.mk (below_step (by repeat (first | (with_reducible first | exact HB.out | apply below_alloc | apply pw_below_drewN | apply below_drew1) | exact HB.out)) hb); have n1_ := Aside0.mk (hbox); have n2_ := Aside0.mk ((by rw [hg]; exact (below_size (by repeat (first | (with_reducible first | exact HB.out | apply below_alloc | apply pw_below_drewN | apply below_drew1) | exact HB.out))) : w.heap.size ≤ gb107)); have n3_ := Aside0.mk ((by rw [hg]; exact (below_size (by repeat (first | (with_reducible first | exact HB.out | apply below_alloc | apply pw_below_drewN | apply below_drew1) | exact HB.out))) : w.heap.size ≤ gb107)); clear HB; have HB := n0_; have BK107 := n1_; have GW107 := n2_; have GE107 := n3_; clear n0_ n1_ n2_ n3_; clear hb hbox hg; have hcz6_0 : w5.cell? ⟨gb107, 0, none⟩ = some (.int .i64 0) := (blk_cell BK107.out 0).trans rfl; have hcz6_1 : w5.cell? ⟨gb107, 1, none⟩ = some (.slice none 0 0) := (blk_cell BK107.out 1).trans rfl; have hfz6_0 := blk_frozen BK107.out 0; have hfz6_1 := blk_frozen BK107.out 1))
      go_loopg [6] k (fun kq v6 w' => ∃ (x6_1 : Int), v6 = .int .i64 x6_1 ∧ Aside0 (spec_l2Class.l0 kq l0 a1 x6_1 ((rd_T38 l0 a1).f0) ((rd_T38 l0 a1).f1) = some r) ∧ Aside0 (kq ≤ k) ∧ Aside0 (w'.heap[gb107]? = some (.cells #[.int .i64 ((rd_T38 l0 a1).f0), (.slice A106_1 ((rd_T38 l0 a1).f1).length c106_1)] 38 (0, 0))) ∧ Aside0 (Below w.heap.size w w'))
      case atStart => exact ⟨(0), (by first | rfl | (simp; done) | (simp [*]; done)), H', ⟨Nat.le_refl _⟩, ⟨by (with_reducible repeat (first | refine blk_drewN ?_ _ | refine blk_drew ?_ | refine blk_alloc ?_ _)); refine blk_put (cs := #[.int .i64 ((rd_T38 l0 a1).f0), .slice none 0 0]) ?_ 1 _ rfl; (with_reducible repeat (first | refine blk_drewN ?_ _ | refine blk_drew ?_ | refine blk_alloc ?_ _)); refine blk_put (cs := #[.int .i64 0, .slice none 0 0]) ?_ 0 _ rfl; (with_reducible repeat (first | refine blk_drewN ?_ _ | refine blk_drew ?_ | refine blk_alloc ?_ _)); exact BK107.out⟩, ⟨by repeat (first | (with_reducible first | exact HB.out | apply below_alloc | apply pw_below_drewN | apply below_drew1 | refine below_set ?_ GE107.out) | exact HB.out)⟩⟩
      case round =>
        clear H'
        try clear c1
        try clear p1
        try clear q1
        try clear hx1
        try clear p2
        try clear c3
        try clear c3b0
        try clear c4
        try clear c4b0
        try clear c5
        try clear hcz6_0
        try clear hcz6_1
        try clear hfz6_0
        try clear hfz6_1
        try clear hx106_0
        try clear hx106_1
        try clear p106
        try clear q106
        obtain ⟨x6_1, rfl, HA, HK1, BK107, HB⟩ := hrel
        cases gk with
        | zero => exact absurd HA.out (by simp [spec_l2Class.l0])
        | succ k1 =>
          have H := HA.out
          clear HA
          simp only [spec_l2Class.l0] at H
          by_cases c7 : x6_1 < (((rd_T38 l0 a1).f1).length : Int)
          · rw [if_pos c7] at H
            have c7b0 : decide (x6_1 < (((rd_T38 l0 a1).f1).length : Int)) = true := decide_eq_true c7
            clear c7
            by_cases c8 : 0 ≤ x6_1
            · rw [if_pos c8] at H
              have c8b0 : decide (0 ≤ x6_1) = true := decide_eq_true c8
              clear c8
              replace H := Option.bind_eq_some_iff.mp H
              obtain ⟨t109, A90, H⟩ := H
              replace H : (if t109 = true then (spec_l2Class.l0 k1 l0 a1 (wrap64 (x6_1 + 1)) ((rd_T38 l0 a1).f0) ((rd_T38 l0 a1).f1)) else (some false)) = some r := H
              have A9 := Aside0.mk A90
              clear A90
              by_cases c10 : t109 = true
              · subst c10
                have H1 : (spec_l2Class.l0 k1 l0 a1 (wrap64 (x6_1 + 1)) ((rd_T38 l0 a1).f0) ((rd_T38 l0 a1).f1)) = some r := by rw [if_pos rfl] at H; exact H
                clear H
                have H := H1
                clear H1
                have H' := Aside0.mk H
                clear H
                have hcz11_0 : wr.cell? ⟨gb107, 0, none⟩ = some (.int .i64 ((rd_T38 l0 a1).f0)) := (blk_cell BK107.out 0).trans rfl
                have hcz11_1 : wr.cell? ⟨gb107, 1, none⟩ = some (.slice A106_1 ((rd_T38 l0 a1).f1).length c106_1) := (blk_cell BK107.out 1).trans rfl
                have hfz11_0 := blk_frozen BK107.out 0
                have hfz11_1 := blk_frozen BK107.out 1
                have p108 : 0 ≤ (x6_1 : Int) := of_decide_eq_true (by first | (with_reducible assumption) | assumption)
                have q108 : x6_1 < (((rd_T38 l0 a1).f1).length : Int) := of_decide_eq_true (by first | (with_reducible assumption) | assumption)
                obtain ⟨ad108, e108, hx108_0⟩ := Kd.at_int HR106_1.out x6_1 p108 q108
                cases e108
                replace hx108_0 := (HB.out.cell (World.block_lt_of_cell? w _ hx108_0)).trans hx108_0
                replace p108 := eq_true p108
                replace q108 := eq_true q108
                go_wp2_with (first | ((with_reducible refine gate_callee (f := 61) rfl ?_); refine goesL_ (some 24) rfl rfl Try.func61 (by kernel_rfl) rfl #[.slice (some ad106) l0.length c0, .int .i64 (rd ((rd_T38 l0 a1).f1) x6_1)] rfl (by (try simp only [List.map_toArray, List.map_cons, List.map_nil]); first | done | rfl | (simp only [List.length_drop, List.length_take]; rfl)) ?_; (with_reducible refine (spec_l2Field.calls _ _ l0 (rd ((rd_T38 l0 a1).f1) x6_1) true _ ?side1 ?side2 A9.out).mono ?_); (case side1 => repeat (first | exact (Kd.C_below HR0.out HB.out) | (with_reducible refine Kd.C_alloc ?_ _) | (with_reducible refine Kd.C_drewN ?_ _) | (with_reducible refine Kd.C_drew ?_))); (case side2 => exact HC0.out); rintro e w' ⟨rfl, ⟨nd, rfl⟩⟩; refine ⟨_, rfl, ?_⟩))
                go_roundg k1
                case measure => have := HK1.out; omega
                case rel => exact ⟨(wrap64 (x6_1 + 1)), (by first | rfl | (simp; done) | (simp [*]; done)), H', ⟨by have := HK1.out; omega⟩, ⟨by (with_reducible repeat (first | refine blk_drewN ?_ _ | refine blk_drew ?_ | refine blk_alloc ?_ _)); exact BK107.out⟩, ⟨by repeat (first | (with_reducible first | exact HB.out | apply below_alloc | apply pw_below_drewN | apply below_drew1 | refine below_set ?_ GE107.out) | exact HB.out)⟩⟩
              · replace c10 := Bool.eq_false_iff.mpr c10
                subst c10
                have H1 : (some false) = some r := by rw [if_neg (show ¬ (false = true) by decide)] at H; exact H
                clear H
                have H := H1
                clear H1
                obtain rfl := Option.some.inj H
                simp only [Option.some.injEq, Prod.mk.injEq] at H
                obtain ⟨rfl⟩ := H
                have hcz12_0 : wr.cell? ⟨gb107, 0, none⟩ = some (.int .i64 ((rd_T38 l0 a1).f0)) := (blk_cell BK107.out 0).trans rfl
                have hcz12_1 : wr.cell? ⟨gb107, 1, none⟩ = some (.slice A106_1 ((rd_T38 l0 a1).f1).length c106_1) := (blk_cell BK107.out 1).trans rfl
                have hfz12_0 := blk_frozen BK107.out 0
                have hfz12_1 := blk_frozen BK107.out 1
                have p108 : 0 ≤ (x6_1 : Int) := of_decide_eq_true (by first | (with_reducible assumption) | assumption)
                have q108 : x6_1 < (((rd_T38 l0 a1).f1).length : Int) := of_decide_eq_true (by first | (with_reducible assumption) | assumption)
                obtain ⟨ad108, e108, hx108_0⟩ := Kd.at_int HR106_1.out x6_1 p108 q108
                cases e108
                replace hx108_0 := (HB.out.cell (World.block_lt_of_cell? w _ hx108_0)).trans hx108_0
                replace p108 := eq_true p108
                replace q108 := eq_true q108
                go_wp2_with (first | ((with_reducible refine gate_callee (f := 61) rfl ?_); refine goesL_ (some 24) rfl rfl Try.func61 (by kernel_rfl) rfl #[.slice (some ad106) l0.length c0, .int .i64 (rd ((rd_T38 l0 a1).f1) x6_1)] rfl (by (try simp only [List.map_toArray, List.map_cons, List.map_nil]); first | done | rfl | (simp only [List.length_drop, List.length_take]; rfl)) ?_; (with_reducible refine (spec_l2Field.calls _ _ l0 (rd ((rd_T38 l0 a1).f1) x6_1) false _ ?side1 ?side2 A9.out).mono ?_); (case side1 => repeat (first | exact (Kd.C_below HR0.out HB.out) | (with_reducible refine Kd.C_alloc ?_ _) | (with_reducible refine Kd.C_drewN ?_ _) | (with_reducible refine Kd.C_drew ?_))); (case side2 => exact HC0.out); rintro e w' ⟨rfl, ⟨nd, rfl⟩⟩; refine ⟨_, rfl, ?_⟩))
                go_ret
                exact ⟨by first | rfl | (simp [errW_none, errW_some] <;> rfl) | (simp [*, errW_none, errW_some] <;> rfl), by repeat (first | (with_reducible first | exact HB.out | apply below_alloc | apply pw_below_drewN | apply below_drew1 | refine below_set ?_ GE107.out) | exact HB.out)⟩
            · rw [if_neg c8] at H
              exact absurd H (by simp)
          · rw [if_neg c7] at H
            have c7b0 : decide (x6_1 < (((rd_T38 l0 a1).f1).length : Int)) = false := decide_eq_false c7
            clear c7
            by_cases c13 : a1 = 0
            · rw [if_pos c13] at H
              have c13b0 : (a1 == 0) = true := beq_iff_eq.mpr c13
              have c13b1 : (a1 != 0) = false := bne_eq_false_iff_eq.mpr c13
              clear c13
              by_cases c14 : ((rd_T38 l0 a1).f0) = (-1)
              · rw [if_pos c14] at H
                have c14b0 : (((rd_T38 l0 a1).f0) == (-1)) = true := beq_iff_eq.mpr c14
                have c14b1 : (((rd_T38 l0 a1).f0) != (-1)) = false := bne_eq_false_iff_eq.mpr c14
                clear c14
                obtain rfl := Option.some.inj H
                simp only [Option.some.injEq, Prod.mk.injEq] at H
                obtain ⟨rfl⟩ := H
                have hcz15_0 : wr.cell? ⟨gb107, 0, none⟩ = some (.int .i64 ((rd_T38 l0 a1).f0)) := (blk_cell BK107.out 0).trans rfl
                have hcz15_1 : wr.cell? ⟨gb107, 1, none⟩ = some (.slice A106_1 ((rd_T38 l0 a1).f1).length c106_1) := (blk_cell BK107.out 1).trans rfl
                have hfz15_0 := blk_frozen BK107.out 0
                have hfz15_1 := blk_frozen BK107.out 1
                go_wp2
                go_ret
                exact ⟨by first | rfl | (simp [errW_none, errW_some] <;> rfl) | (simp [*, errW_none, errW_some] <;> rfl), by repeat (first | (with_reducible first | exact HB.out | apply below_alloc | apply pw_below_drewN | apply below_drew1 | refine below_set ?_ GE107.out) | exact HB.out)⟩
              · rw [if_neg c14] at H
                have c14b0 : (((rd_T38 l0 a1).f0) == (-1)) = false := beq_eq_false_iff_ne.mpr c14
                have c14b1 : (((rd_T38 l0 a1).f0) != (-1)) = true := bne_iff_ne.mpr c14
                obtain rfl := Option.some.inj H
                simp only [Option.some.injEq, Prod.mk.injEq] at H
                obtain ⟨rfl⟩ := H
                have hcz16_0 : wr.cell? ⟨gb107, 0, none⟩ = some (.int .i64 ((rd_T38 l0 a1).f0)) := (blk_cell BK107.out 0).trans rfl
                have hcz16_1 : wr.cell? ⟨gb107, 1, none⟩ = some (.slice A106_1 ((rd_T38 l0 a1).f1).length c106_1) := (blk_cell BK107.out 1).trans rfl
                have hfz16_0 := blk_frozen BK107.out 0
                have hfz16_1 := blk_frozen BK107.out 1
                go_wp2
                go_ret
                exact ⟨by first | rfl | (simp [errW_none, errW_some] <;> rfl) | (simp [*, errW_none, errW_some] <;> rfl), by repeat (first | (with_reducible first | exact HB.out | apply below_alloc | apply pw_below_drewN | apply below_drew1 | refine below_set ?_ GE107.out) | exact HB.out)⟩
            · rw [if_neg c13] at H
              have c13b0 : (a1 == 0) = false := beq_eq_false_iff_ne.mpr c13
              have c13b1 : (a1 != 0) = true := bne_iff_ne.mpr c13
              by_cases c17 : a1 = 1
              · rw [if_pos c17] at H
                have c17b0 : (a1 == 1) = true := beq_iff_eq.mpr c17
                have c17b1 : (a1 != 1) = false := bne_eq_false_iff_eq.mpr c17
                clear c17
                by_cases c18 : ((rd_T38 l0 a1).f0) = 0
                · rw [if_pos c18] at H
                  have c18b0 : (((rd_T38 l0 a1).f0) == 0) = true := beq_iff_eq.mpr c18
                  have c18b1 : (((rd_T38 l0 a1).f0) != 0) = false := bne_eq_false_iff_eq.mpr c18
                  clear c18
                  by_cases c19 : (((rd_T38 l0 a1).f1).length : Int) = 1
                  · rw [if_pos c19] at H
                    have c19b0 : ((((rd_T38 l0 a1).f1).length : Int) == 1) = true := beq_iff_eq.mpr c19
                    have c19b1 : ((((rd_T38 l0 a1).f1).length : Int) != 1) = false := bne_eq_false_iff_eq.mpr c19
                    clear c19
                    by_cases c20 : 0 < (((rd_T38 l0 a1).f1).length : Int)
                    · rw [if_pos c20] at H
                      have c20b0 : decide (0 < (((rd_T38 l0 a1).f1).length : Int)) = true := decide_eq_true c20
                      have c20b1 : decide (0 < ((rd_T38 l0 a1).f1).length) = true := decide_eq_true (by omega)
                      clear c20
                      obtain rfl := Option.some.inj H
                      simp only [Option.some.injEq, Prod.mk.injEq] at H
                      obtain ⟨rfl⟩ := H
                      have hcz21_0 : wr.cell? ⟨gb107, 0, none⟩ = some (.int .i64 ((rd_T38 l0 a1).f0)) := (blk_cell BK107.out 0).trans rfl
                      have hcz21_1 : wr.cell? ⟨gb107, 1, none⟩ = some (.slice A106_1 ((rd_T38 l0 a1).f1).length c106_1) := (blk_cell BK107.out 1).trans rfl
                      have hfz21_0 := blk_frozen BK107.out 0
                      have hfz21_1 := blk_frozen BK107.out 1
                      have p110 : 0 ≤ (0 : Int) := (by omega)
                      have q110 : 0 < (((rd_T38 l0 a1).f1).length : Int) := of_decide_eq_true (by first | (with_reducible assumption) | assumption)
                      obtain ⟨ad110, e110, hx110_0⟩ := Kd.at_int HR106_1.out 0 p110 q110
                      cases e110
                      have qi110 : (0 < ((rd_T38 l0 a1).f1).length) = True := eq_true (by omega)
                      (try rw [show ((0 : Int)).toNat = 0 from rfl] at hx110_0)
                      (try rw [Addr.add_zero'] at hx110_0)
                      replace hx110_0 := (HB.out.cell (World.block_lt_of_cell? w _ hx110_0)).trans hx110_0
                      replace p110 := eq_true p110
                      replace q110 := eq_true q110
                      go_wp2
                      go_ret
                      exact ⟨by first | rfl | (simp [errW_none, errW_some] <;> rfl) | (simp [*, errW_none, errW_some] <;> rfl), by repeat (first | (with_reducible first | exact HB.out | apply below_alloc | apply pw_below_drewN | apply below_drew1 | refine below_set ?_ GE107.out) | exact HB.out)⟩
                    · rw [if_neg c20] at H
                      exact absurd H (by simp)
                  · rw [if_neg c19] at H
                    have c19b0 : ((((rd_T38 l0 a1).f1).length : Int) == 1) = false := beq_eq_false_iff_ne.mpr c19
                    have c19b1 : ((((rd_T38 l0 a1).f1).length : Int) != 1) = true := bne_iff_ne.mpr c19
                    obtain rfl := Option.some.inj H
                    simp only [Option.some.injEq, Prod.mk.injEq] at H
                    obtain ⟨rfl⟩ := H
                    have hcz22_0 : wr.cell? ⟨gb107, 0, none⟩ = some (.int .i64 ((rd_T38 l0 a1).f0)) := (blk_cell BK107.out 0).trans rfl
                    have hcz22_1 : wr.cell? ⟨gb107, 1, none⟩ = some (.slice A106_1 ((rd_T38 l0 a1).f1).length c106_1) := (blk_cell BK107.out 1).trans rfl
                    have hfz22_0 := blk_frozen BK107.out 0
                    have hfz22_1 := blk_frozen BK107.out 1
                    go_wp2
                    go_ret
                    exact ⟨by first | rfl | (simp [errW_none, errW_some] <;> rfl) | (simp [*, errW_none, errW_some] <;> rfl), by repeat (first | (with_reducible first | exact HB.out | apply below_alloc | apply pw_below_drewN | apply below_drew1 | refine below_set ?_ GE107.out) | exact HB.out)⟩
                · rw [if_neg c18] at H
                  have c18b0 : (((rd_T38 l0 a1).f0) == 0) = false := beq_eq_false_iff_ne.mpr c18
                  have c18b1 : (((rd_T38 l0 a1).f0) != 0) = true := bne_iff_ne.mpr c18
                  obtain rfl := Option.some.inj H
                  simp only [Option.some.injEq, Prod.mk.injEq] at H
                  obtain ⟨rfl⟩ := H
                  have hcz23_0 : wr.cell? ⟨gb107, 0, none⟩ = some (.int .i64 ((rd_T38 l0 a1).f0)) := (blk_cell BK107.out 0).trans rfl
                  have hcz23_1 : wr.cell? ⟨gb107, 1, none⟩ = some (.slice A106_1 ((rd_T38 l0 a1).f1).length c106_1) := (blk_cell BK107.out 1).trans rfl
                  have hfz23_0 := blk_frozen BK107.out 0
                  have hfz23_1 := blk_frozen BK107.out 1
                  go_wp2
                  go_ret
                  exact ⟨by first | rfl | (simp [errW_none, errW_some] <;> rfl) | (simp [*, errW_none, errW_some] <;> rfl), by repeat (first | (with_reducible first | exact HB.out | apply below_alloc | apply pw_below_drewN | apply below_drew1 | refine below_set ?_ GE107.out) | exact HB.out)⟩
              · rw [if_neg c17] at H
                have c17b0 : (a1 == 1) = false := beq_eq_false_iff_ne.mpr c17
                have c17b1 : (a1 != 1) = true := bne_iff_ne.mpr c17
                replace H := Option.bind_eq_some_iff.mp H
                obtain ⟨t111, A240, H⟩ := H
                replace H : (if t111 = true then (some (decide ((((rd_T38 l0 a1).f1).length : Int) ≤ 2))) else (some false)) = some r := H
                have A24 := Aside0.mk A240
                clear A240
                by_cases c25 : t111 = true
                · subst c25
                  have H1 : (some (decide ((((rd_T38 l0 a1).f1).length : Int) ≤ 2))) = some r := by rw [if_pos rfl] at H; exact H
                  clear H
                  have H := H1
                  clear H1
                  obtain rfl := Option.some.inj H
                  simp only [Option.some.injEq, Prod.mk.injEq] at H
                  obtain ⟨rfl⟩ := H
                  have hcz26_0 : wr.cell? ⟨gb107, 0, none⟩ = some (.int .i64 ((rd_T38 l0 a1).f0)) := (blk_cell BK107.out 0).trans rfl
                  have hcz26_1 : wr.cell? ⟨gb107, 1, none⟩ = some (.slice A106_1 ((rd_T38 l0 a1).f1).length c106_1) := (blk_cell BK107.out 1).trans rfl
                  have hfz26_0 := blk_frozen BK107.out 0
                  have hfz26_1 := blk_frozen BK107.out 1
                  go_wp2_with (first | ((with_reducible refine gate_callee (f := 56) rfl ?_); refine goesL_ (some 60) rfl rfl Try.func56 (by kernel_rfl) rfl #[.int .i64 ((rd_T38 l0 a1).f0), .int .i64 0, .int .i64 (wrap64 (a1 - 1))] rfl (by (try simp only [List.map_toArray, List.map_cons, List.map_nil]); first | done | rfl | (simp only [List.length_drop, List.length_take]; rfl)) ?_; (with_reducible refine (spec_l6In.calls ((rd_T38 l0 a1).f0) 0 (wrap64 (a1 - 1)) true _ A24.out).mono ?_); rintro e w' ⟨rfl, ⟨nd, rfl⟩⟩; refine ⟨_, rfl, ?_⟩))
                  go_ret
                  exact ⟨by first | rfl | (simp [errW_none, errW_some] <;> rfl) | (simp [*, errW_none, errW_some] <;> rfl), by repeat (first | (with_reducible first | exact HB.out | apply below_alloc | apply pw_below_drewN | apply below_drew1 | refine below_set ?_ GE107.out) | exact HB.out)⟩
                · replace c25 := Bool.eq_false_iff.mpr c25
                  subst c25
                  have H1 : (some false) = some r := by rw [if_neg (show ¬ (false = true) by decide)] at H; exact H
                  clear H
                  have H := H1
                  clear H1
                  obtain rfl := Option.some.inj H
                  simp only [Option.some.injEq, Prod.mk.injEq] at H
                  obtain ⟨rfl⟩ := H
                  have hcz27_0 : wr.cell? ⟨gb107, 0, none⟩ = some (.int .i64 ((rd_T38 l0 a1).f0)) := (blk_cell BK107.out 0).trans rfl
                  have hcz27_1 : wr.cell? ⟨gb107, 1, none⟩ = some (.slice A106_1 ((rd_T38 l0 a1).f1).length c106_1) := (blk_cell BK107.out 1).trans rfl
                  have hfz27_0 := blk_frozen BK107.out 0
                  have hfz27_1 := blk_frozen BK107.out 1
                  go_wp2_with (first | ((with_reducible refine gate_callee (f := 56) rfl ?_); refine goesL_ (some 60) rfl rfl Try.func56 (by kernel_rfl) rfl #[.int .i64 ((rd_T38 l0 a1).f0), .int .i64 0, .int .i64 (wrap64 (a1 - 1))] rfl (by (try simp only [List.map_toArray, List.map_cons, List.map_nil]); first | done | rfl | (simp only [List.length_drop, List.length_take]; rfl)) ?_; (with_reducible refine (spec_l6In.calls ((rd_T38 l0 a1).f0) 0 (wrap64 (a1 - 1)) false _ A24.out).mono ?_); rintro e w' ⟨rfl, ⟨nd, rfl⟩⟩; refine ⟨_, rfl, ?_⟩))
                  go_ret
                  exact ⟨by first | rfl | (simp [errW_none, errW_some] <;> rfl) | (simp [*, errW_none, errW_some] <;> rfl), by repeat (first | (with_reducible first | exact HB.out | apply below_alloc | apply pw_below_drewN | apply below_drew1 | refine below_set ?_ GE107.out) | exact HB.out)⟩
    · rw [if_neg c4] at H
      exact absurd H (by simp)
  · rw [if_neg c3] at H
    exact absurd H (by simp)

end Go.Proofs.Ytgmjolngnhdafaa.P

end
section
namespace Go.Proofs.Ytgmjolngnhdafaa.P
open Go.RowKit Go.Proofs.YtgmjolngnhdafaaW.PrintWords Go.Proofs.YtgmjolngnhdafaaW.PrintLast Go.Proofs.YtgmjolngnhdafaaW.PrintMore
attribute [local go_sem] max2_int min2_int max_two min_two max_three min_three max_four min_four
set_option linter.unusedVariables false
set_option linter.unusedSimpArgs false

set_option maxHeartbeats 8000000 in
set_option maxRecDepth 100000 in
theorem spec_ClassesOk.calls (k : Nat) (A0 : Option Addr) (c0 : Nat) (l0 : List (S38)) (r : Bool) (w : World) (hr0 : Kd.C k38 w A0 l0.length l0) (hc0 : l0.length ≤ c0) (h : spec_ClassesOk.f k l0 = some r) :
    Calls Try.prog 21 #[.slice A0 l0.length c0] w fun e w' => e = .returned (.bool r) ∧ Below w.heap.size w w' := by
  have HR0 := Aside0.mk hr0
  have HC0 := Aside0.mk hc0
  clear hr0 hc0
  have HB := Aside0.mk (Below.refl w.heap.size w)
  have H : ((spec_l6In.f (l0.length : Int) 2 5).bind fun t112 => (if t112 = true then (spec_ClassesOk.l0 k l0 0) else (some false))) = some r := h
  clear h
  replace H := Option.bind_eq_some_iff.mp H
  obtain ⟨t112, A20, H⟩ := H
  replace H : (if t112 = true then (spec_ClassesOk.l0 k l0 0) else (some false)) = some r := H
  have A2 := Aside0.mk A20
  clear A20
  by_cases c3 : t112 = true
  · subst c3
    have H1 : (spec_ClassesOk.l0 k l0 0) = some r := by rw [if_pos rfl] at H; exact H
    clear H
    have H := H1
    clear H1
    have H' := Aside0.mk H
    clear H
    go_enter Try.func21, Try.ntmps21
    go_wp2_with (first | ((with_reducible refine gate_callee (f := 56) rfl ?_); refine goesL_ (some 6) rfl rfl Try.func56 (by kernel_rfl) rfl #[.int .i64 (l0.length : Int), .int .i64 2, .int .i64 5] rfl (by (try simp only [List.map_toArray, List.map_cons, List.map_nil]); first | done | rfl | (simp only [List.length_drop, List.length_take]; rfl)) ?_; (with_reducible refine (spec_l6In.calls (l0.length : Int) 2 5 true _ A2.out).mono ?_); rintro e w' ⟨rfl, ⟨nd, rfl⟩⟩; refine ⟨_, rfl, ?_⟩))
    go_loopg [3] k (fun kq v3 w' => ∃ (x3_1 : Int), v3 = .int .i64 x3_1 ∧ Aside0 (spec_ClassesOk.l0 kq l0 x3_1 = some r) ∧ Aside0 (kq ≤ k) ∧ Aside0 (Below w.heap.size w w'))
    case atStart => exact ⟨(0), (by first | rfl | (simp; done) | (simp [*]; done)), H', ⟨Nat.le_refl _⟩, ⟨by repeat (first | (with_reducible first | exact HB.out | apply below_alloc | apply pw_below_drewN | apply below_drew1) | exact HB.out)⟩⟩
    case round =>
      clear H'
      try clear c2
      try clear p2
      try clear c3
      obtain ⟨x3_1, rfl, HA, HK1, HB⟩ := hrel
      cases gk with
      | zero => exact absurd HA.out (by simp [spec_ClassesOk.l0])
      | succ k1 =>
        have H := HA.out
        clear HA
        simp only [spec_ClassesOk.l0] at H
        by_cases c4 : x3_1 < (l0.length : Int)
        · rw [if_pos c4] at H
          have c4b0 : decide (x3_1 < (l0.length : Int)) = true := decide_eq_true c4
          clear c4
          replace H := Option.bind_eq_some_iff.mp H
          obtain ⟨t113, A50, H⟩ := H
          replace H : (if t113 = true then (spec_ClassesOk.l0 k1 l0 (wrap64 (x3_1 + 1))) else (some false)) = some r := H
          have A5 := Aside0.mk A50
          clear A50
          by_cases c6 : t113 = true
          · subst c6
            have H1 : (spec_ClassesOk.l0 k1 l0 (wrap64 (x3_1 + 1))) = some r := by rw [if_pos rfl] at H; exact H
            clear H
            have H := H1
            clear H1
            have H' := Aside0.mk H
            clear H
            go_wp2_with (first | ((with_reducible refine gate_callee (f := 57) rfl ?_); refine goesL_ (some 16) rfl rfl Try.func57 (by kernel_rfl) rfl #[.slice A0 l0.length c0, .int .i64 x3_1] rfl (by (try simp only [List.map_toArray, List.map_cons, List.map_nil]); first | done | rfl | (simp only [List.length_drop, List.length_take]; rfl)) ?_; (with_reducible refine (spec_l2Class.calls k1 _ _ l0 x3_1 true _ ?side1 ?side2 A5.out).mono ?_); (case side1 => repeat (first | exact (Kd.C_below HR0.out HB.out) | (with_reducible refine Kd.C_alloc ?_ _) | (with_reducible refine Kd.C_drewN ?_ _) | (with_reducible refine Kd.C_drew ?_))); (case side2 => exact HC0.out); rintro e w7 ⟨rfl, hb⟩; refine ⟨_, rfl, ?_⟩; have n0_ := Aside0.mk (below_step (by repeat (first | (with_reducible first | exact HB.out | apply below_alloc | apply pw_below_drewN | apply below_drew1) | exact HB.out)) hb); clear HB; have HB := n0_; clear n0_; (try clear hb); (try clear hb2); (try clear hk); (try clear hi)))
            go_roundg k1
            case measure => have := HK1.out; omega
            case rel => exact ⟨(wrap64 (x3_1 + 1)), (by first | rfl | (simp; done) | (simp [*]; done)), H', ⟨by have := HK1.out; omega⟩, ⟨by repeat (first | (with_reducible first | exact HB.out | apply below_alloc | apply pw_below_drewN | apply below_drew1) | exact HB.out)⟩⟩
          · replace c6 := Bool.eq_false_iff.mpr c6
            subst c6
            have H1 : (some false) = some r := by rw [if_neg (show ¬ (false = true) by decide)] at H; exact H
            clear H
            have H := H1
            clear H1
            obtain rfl := Option.some.inj H
            simp only [Option.some.injEq, Prod.mk.injEq] at H
            obtain ⟨rfl⟩ := H
            go_wp2_with (first | ((with_reducible refine gate_callee (f := 57) rfl ?_); refine goesL_ (some 16) rfl rfl Try.func57 (by kernel_rfl) rfl #[.slice A0 l0.length c0, .int .i64 x3_1] rfl (by (try simp only [List.map_toArray, List.map_cons, List.map_nil]); first | done | rfl | (simp only [List.length_drop, List.length_take]; rfl)) ?_; (with_reducible refine (spec_l2Class.calls k1 _ _ l0 x3_1 false _ ?side1 ?side2 A5.out).mono ?_); (case side1 => repeat (first | exact (Kd.C_below HR0.out HB.out) | (with_reducible refine Kd.C_alloc ?_ _) | (with_reducible refine Kd.C_drewN ?_ _) | (with_reducible refine Kd.C_drew ?_))); (case side2 => exact HC0.out); rintro e w8 ⟨rfl, hb⟩; refine ⟨_, rfl, ?_⟩; have n0_ := Aside0.mk (below_step (by repeat (first | (with_reducible first | exact HB.out | apply below_alloc | apply pw_below_drewN | apply below_drew1) | exact HB.out)) hb); clear HB; have HB := n0_; clear n0_; (try clear hb); (try clear hb2); (try clear hk); (try clear hi)))
            go_ret
            exact ⟨by first | rfl | (simp [errW_none, errW_some] <;> rfl) | (simp [*, errW_none, errW_some] <;> rfl), by repeat (first | (with_reducible first | exact HB.out | apply below_alloc | apply pw_below_drewN | apply below_drew1) | exact HB.out)⟩
        · rw [if_neg c4] at H
          have c4b0 : decide (x3_1 < (l0.length : Int)) = false := decide_eq_false c4
          clear c4
          obtain rfl := Option.some.inj H
          simp only [Option.some.injEq, Prod.mk.injEq] at H
          obtain ⟨rfl⟩ := H
          go_wp2
          go_ret
          exact ⟨by first | rfl | (simp [errW_none, errW_some] <;> rfl) | (simp [*, errW_none, errW_some] <;> rfl), by repeat (first | (with_reducible first | exact HB.out | apply below_alloc | apply pw_below_drewN | apply below_drew1) | exact HB.out)⟩
  · replace c3 := Bool.eq_false_iff.mpr c3
    subst c3
    have H1 : (some false) = some r := by rw [if_neg (show ¬ (false = true) by decide)] at H; exact H
    clear H
    have H := H1
    clear H1
    obtain rfl := Option.some.inj H
    simp only [Option.some.injEq, Prod.mk.injEq] at H
    obtain ⟨rfl⟩ := H
    go_enter Try.func21, Try.ntmps21
    go_wp2_with (first | ((with_reducible refine gate_callee (f := 56) rfl ?_); refine goesL_ (some 6) rfl rfl Try.func56 (by kernel_rfl) rfl #[.int .i64 (l0.length : Int), .int .i64 2, .int .i64 5] rfl (by (try simp only [List.map_toArray, List.map_cons, List.map_nil]); first | done | rfl | (simp only [List.length_drop, List.length_take]; rfl)) ?_; (with_reducible refine (spec_l6In.calls (l0.length : Int) 2 5 false _ A2.out).mono ?_); rintro e w' ⟨rfl, ⟨nd, rfl⟩⟩; refine ⟨_, rfl, ?_⟩))
    go_ret
    exact ⟨by first | rfl | (simp [errW_none, errW_some] <;> rfl) | (simp [*, errW_none, errW_some] <;> rfl), by repeat (first | (with_reducible first | exact HB.out | apply below_alloc | apply pw_below_drewN | apply below_drew1) | exact HB.out)⟩

end Go.Proofs.Ytgmjolngnhdafaa.P

end
section
namespace Go.Proofs.Ytgmjolngnhdafaa.P
open Go.RowKit Go.Proofs.YtgmjolngnhdafaaW.PrintWords Go.Proofs.YtgmjolngnhdafaaW.PrintLast Go.Proofs.YtgmjolngnhdafaaW.PrintMore
attribute [local go_sem] max2_int min2_int max_two min_two max_three min_three max_four min_four
set_option linter.unusedVariables false
set_option linter.unusedSimpArgs false

set_option maxHeartbeats 8000000 in
set_option maxRecDepth 100000 in
theorem laws_leIs.calls (k : Nat) (A0 : Option Addr) (c0 : Nat) (l0 : List (S38)) (a1 : Int) (r : Bool) (w : World) (hr0 : Kd.C k38 w A0 l0.length l0) (hc0 : l0.length ≤ c0) (h : laws_leIs.f k l0 a1 = some r) :
    Calls Try.prog 30 #[.slice A0 l0.length c0, .int .i64 a1] w fun e w' => e = .returned (.bool r) ∧ Below w.heap.size w w' := by
  have HR0 := Aside0.mk hr0
  have HC0 := Aside0.mk hc0
  clear hr0 hc0
  have HB := Aside0.mk (Below.refl w.heap.size w)
  have H : ((spec_ClassesOk.f k l0).bind fun t238 => (if t238 = true then (if a1 ≥ 0 then (some (decide (a1 < (l0.length : Int)))) else (some false)) else (some false))) = some r := h
  clear h
  replace H := Option.bind_eq_some_iff.mp H
  obtain ⟨t238, A30, H⟩ := H
  replace H : (if t238 = true then (if a1 ≥ 0 then (some (decide (a1 < (l0.length : Int)))) else (some false)) else (some false)) = some r := H
  have A3 := Aside0.mk A30
  clear A30
  by_cases c4 : t238 = true
  · subst c4
    have H1 : (if a1 ≥ 0 then (some (decide (a1 < (l0.length : Int)))) else (some false)) = some r := by rw [if_pos rfl] at H; exact H
    clear H
    have H := H1
    clear H1
    by_cases c5 : a1 ≥ 0
    · rw [if_pos c5] at H
      have c5b0 : decide (0 ≤ a1) = true := decide_eq_true c5
      clear c5
      obtain rfl := Option.some.inj H
      simp only [Option.some.injEq, Prod.mk.injEq] at H
      obtain ⟨rfl⟩ := H
      go_enter Try.func30, Try.ntmps30
      go_wp2_with (first | ((with_reducible refine gate_callee (f := 21) rfl ?_); refine goesL_ (some 6) rfl rfl Try.func21 (by kernel_rfl) rfl #[.slice A0 l0.length c0] rfl (by (try simp only [List.map_toArray, List.map_cons, List.map_nil]); first | done | rfl | (simp only [List.length_drop, List.length_take]; rfl)) ?_; (with_reducible refine (spec_ClassesOk.calls k _ _ l0 true _ ?side1 ?side2 A3.out).mono ?_); (case side1 => repeat (first | exact HR0.out | (with_reducible refine Kd.C_alloc ?_ _) | (with_reducible refine Kd.C_drewN ?_ _) | (with_reducible refine Kd.C_drew ?_))); (case side2 => exact HC0.out); rintro e w6 ⟨rfl, hb⟩; refine ⟨_, rfl, ?_⟩; have n0_ := Aside0.mk (below_step (by repeat (first | (with_reducible first | exact HB.out | apply below_alloc | apply pw_below_drewN | apply below_drew1) | exact HB.out)) hb); clear HB; have HB := n0_; clear n0_; (try clear hb); (try clear hb2); (try clear hk); (try clear hi)))
      go_ret
      exact ⟨by first | rfl | (simp [errW_none, errW_some] <;> rfl) | (simp [*, errW_none, errW_some] <;> rfl), by repeat (first | (with_reducible first | exact HB.out | apply below_alloc | apply pw_below_drewN | apply below_drew1) | exact HB.out)⟩
    · rw [if_neg c5] at H
      have c5b0 : decide (0 ≤ a1) = false := decide_eq_false c5
      clear c5
      obtain rfl := Option.some.inj H
      simp only [Option.some.injEq, Prod.mk.injEq] at H
      obtain ⟨rfl⟩ := H
      go_enter Try.func30, Try.ntmps30
      go_wp2_with (first | ((with_reducible refine gate_callee (f := 21) rfl ?_); refine goesL_ (some 6) rfl rfl Try.func21 (by kernel_rfl) rfl #[.slice A0 l0.length c0] rfl (by (try simp only [List.map_toArray, List.map_cons, List.map_nil]); first | done | rfl | (simp only [List.length_drop, List.length_take]; rfl)) ?_; (with_reducible refine (spec_ClassesOk.calls k _ _ l0 true _ ?side1 ?side2 A3.out).mono ?_); (case side1 => repeat (first | exact HR0.out | (with_reducible refine Kd.C_alloc ?_ _) | (with_reducible refine Kd.C_drewN ?_ _) | (with_reducible refine Kd.C_drew ?_))); (case side2 => exact HC0.out); rintro e w7 ⟨rfl, hb⟩; refine ⟨_, rfl, ?_⟩; have n0_ := Aside0.mk (below_step (by repeat (first | (with_reducible first | exact HB.out | apply below_alloc | apply pw_below_drewN | apply below_drew1) | exact HB.out)) hb); clear HB; have HB := n0_; clear n0_; (try clear hb); (try clear hb2); (try clear hk); (try clear hi)))
      go_ret
      exact ⟨by first | rfl | (simp [errW_none, errW_some] <;> rfl) | (simp [*, errW_none, errW_some] <;> rfl), by repeat (first | (with_reducible first | exact HB.out | apply below_alloc | apply pw_below_drewN | apply below_drew1) | exact HB.out)⟩
  · replace c4 := Bool.eq_false_iff.mpr c4
    subst c4
    have H1 : (some false) = some r := by rw [if_neg (show ¬ (false = true) by decide)] at H; exact H
    clear H
    have H := H1
    clear H1
    obtain rfl := Option.some.inj H
    simp only [Option.some.injEq, Prod.mk.injEq] at H
    obtain ⟨rfl⟩ := H
    go_enter Try.func30, Try.ntmps30
    go_wp2_with (first | ((with_reducible refine gate_callee (f := 21) rfl ?_); refine goesL_ (some 6) rfl rfl Try.func21 (by kernel_rfl) rfl #[.slice A0 l0.length c0] rfl (by (try simp only [List.map_toArray, List.map_cons, List.map_nil]); first | done | rfl | (simp only [List.length_drop, List.length_take]; rfl)) ?_; (with_reducible refine (spec_ClassesOk.calls k _ _ l0 false _ ?side1 ?side2 A3.out).mono ?_); (case side1 => repeat (first | exact HR0.out | (with_reducible refine Kd.C_alloc ?_ _) | (with_reducible refine Kd.C_drewN ?_ _) | (with_reducible refine Kd.C_drew ?_))); (case side2 => exact HC0.out); rintro e w8 ⟨rfl, hb⟩; refine ⟨_, rfl, ?_⟩; have n0_ := Aside0.mk (below_step (by repeat (first | (with_reducible first | exact HB.out | apply below_alloc | apply pw_below_drewN | apply below_drew1) | exact HB.out)) hb); clear HB; have HB := n0_; clear n0_; (try clear hb); (try clear hb2); (try clear hk); (try clear hi)))
    go_ret
    exact ⟨by first | rfl | (simp [errW_none, errW_some] <;> rfl) | (simp [*, errW_none, errW_some] <;> rfl), by repeat (first | (with_reducible first | exact HB.out | apply below_alloc | apply pw_below_drewN | apply below_drew1) | exact HB.out)⟩

end Go.Proofs.Ytgmjolngnhdafaa.P

end
section
namespace Go.Proofs.Ytgmjolngnhdafaa.P
open Go.RowKit Go.Proofs.YtgmjolngnhdafaaW.PrintWords Go.Proofs.YtgmjolngnhdafaaW.PrintLast Go.Proofs.YtgmjolngnhdafaaW.PrintMore
attribute [local go_sem] max2_int min2_int max_two min_two max_three min_three max_four min_four
set_option linter.unusedVariables false
set_option linter.unusedSimpArgs false

/-- A state of type 92 at block g of W; what its slices lead to came in by w0. -/
def IsS92 (w0 W : World) (g : Nat) (f0 : List Int) (f1 : Int) : Prop := ∃ A0 c0, W.heap[g]? = some (.cells #[.slice A0 f0.length c0, .int .i64 f1] 92 (0, 0)) ∧ w0.heap.size ≤ g ∧ Kd.C (Kd.int .u8) w0 A0 f0.length f0
theorem IsS92.grown {w0 W : World} {g : Nat} {f0 : List Int} {f1 : Int} {W1 : World} {row : Option Nat} (h : IsS92 w0 W g f0 f1) (hw : W.grownBy W1 row) (hne : some g ≠ row) : IsS92 w0 W1 g f0 f1 := by
  obtain ⟨A0, c0, hb, hg, hr0⟩ := h
  exact ⟨A0, c0, blk_grown hb hw hne, hg, hr0⟩
theorem IsS92.own_neN {w0 W : World} {g : Nat} {f0 : List Int} {f1 : Int} {α : Type} {d : Kd α} {e : Nat} {base : Nat} {ok : Nat → Prop} {v : Value} {xs : List α} (h : IsS92 w0 W g f0 f1) (ho : Kd.N d e W base ok v xs) (ht : e ≠ 92) : some g ≠ v.ownBlock := by
  obtain ⟨A0, c0, hb, hg, hr0⟩ := h
  exact Kd.N_ne ho hb ht
theorem IsS92.fresh {w0 W : World} {g : Nat} {f0 : List Int} {f1 : Int} (h : IsS92 w0 W g f0 f1) : ∀ k, W.heap.size ≤ k → k ≠ g := by
  obtain ⟨A0, c0, hb, hg, hr0⟩ := h
  exact Kd.freshB hb
theorem IsS92.kept {w0 W : World} {g : Nat} {f0 : List Int} {f1 : Int} {W1 : World} {S : Nat → Prop} (h : IsS92 w0 W g f0 f1) (hk : Kept W W1 S) (hne : ¬ S g) : IsS92 w0 W1 g f0 f1 := by
  obtain ⟨A0, c0, hb, hg, hr0⟩ := h
  exact ⟨A0, c0, blk_kept hb hk hne, hg, hr0⟩
theorem IsS92.below {w0 W : World} {g : Nat} {f0 : List Int} {f1 : Int} {W1 : World} (h : IsS92 w0 W g f0 f1) (hw : Below W.heap.size W W1) : IsS92 w0 W1 g f0 f1 := h.grown (grown_of_below hw none) (by simp)
theorem IsS92.alloc {w0 W : World} {g : Nat} {f0 : List Int} {f1 : Int} (h : IsS92 w0 W g f0 f1) (o : Obj) : IsS92 w0 (W.alloc o) g f0 f1 := h.below (below_alloc (Below.refl _ _) o)
theorem IsS92.drewN {w0 W : World} {g : Nat} {f0 : List Int} {f1 : Int} (h : IsS92 w0 W g f0 f1) (m : Nat) : IsS92 w0 (W.drewN m) g f0 f1 := h
theorem IsS92.drew {w0 W : World} {g : Nat} {f0 : List Int} {f1 : Int} (h : IsS92 w0 W g f0 f1) : IsS92 w0 W.drew g f0 f1 := h
theorem IsS92.at_ {w0 W : World} {g : Nat} {f0 : List Int} {f1 : Int} {w' : World} {m : Nat} (hq : W.drewN m = w') (h : IsS92 w0 W g f0 f1) : IsS92 w0 w' g f0 f1 := by subst hq; exact IsS92.drewN h m
theorem IsS92.apart {w0 W : World} {g : Nat} {f0 : List Int} {f1 : Int} {α : Type} {d : Kd α} {e : Nat} {base : Nat} {ok : Nat → Prop} {v : Value} {xs : List α} (h : IsS92 w0 W g f0 f1) (ho : d.R e W base ok v xs) (ht : ∀ q, q ∈ e :: d.E → q ≠ 92) : d.R e W base (fun k => ok k ∧ k ≠ g) v xs := by
  obtain ⟨A0, c0, hb, hg, hr0⟩ := h
  exact Kd.R_types ho hb ht
theorem IsS92.own_ne {w0 W : World} {g : Nat} {f0 : List Int} {f1 : Int} {α : Type} {d : Kd α} {e : Nat} {base : Nat} {ok : Nat → Prop} {v : Value} {xs : List α} (h : IsS92 w0 W g f0 f1) (ho : d.R e W base ok v xs) (ht : e ≠ 92) : some g ≠ v.ownBlock := by
  obtain ⟨A0, c0, hb, hg, hr0⟩ := h
  exact Kd.R_ne ho hb ht
theorem IsS92.apartQ {w0 W : World} {g : Nat} {f0 : List Int} {f1 : Int} {α : Type} {d : Kd α} {e : Nat} {base : Nat} {ok : Nat → Prop} {v : Value} {xs : List α} (h : IsS92 w0 W g f0 f1) (ho : d.Q e W base ok v xs) (ht : ∀ q, q ∈ e :: d.E → q ≠ 92) : d.Q e W base (fun k => ok k ∧ k ≠ g) v xs := by
  obtain ⟨A0, c0, hb, hg, hr0⟩ := h
  exact Kd.Q_types ho hb ht
theorem IsS92.own_neQ {w0 W : World} {g : Nat} {f0 : List Int} {f1 : Int} {α : Type} {d : Kd α} {e : Nat} {base : Nat} {ok : Nat → Prop} {v : Value} {xs : List α} (h : IsS92 w0 W g f0 f1) (ho : d.Q e W base ok v xs) (ht : e ≠ 92) : some g ≠ v.ownBlock := by
  obtain ⟨A0, c0, hb, hg, hr0⟩ := h
  exact Kd.Q_ne ho hb ht
theorem IsS92.apartS {w0 W : World} {g : Nat} {f0 : List Int} {f1 : Int} {α : Type} {d : Kd α} {e : Nat} {base : Nat} {ok : Nat → Prop} {v : Value} {xs : List α} (h : IsS92 w0 W g f0 f1) (ho : d.S e W base ok v xs) (ht : ∀ q, q ∈ e :: d.E → q ≠ 92) : d.S e W base (fun k => ok k ∧ k ≠ g) v xs := by
  obtain ⟨A0, c0, hb, hg, hr0⟩ := h
  exact Kd.S_types ho hb ht
theorem IsS92.own_neS {w0 W : World} {g : Nat} {f0 : List Int} {f1 : Int} {α : Type} {d : Kd α} {e : Nat} {base : Nat} {ok : Nat → Prop} {v : Value} {xs : List α} (h : IsS92 w0 W g f0 f1) (ho : d.S e W base ok v xs) (ht : e ≠ 92) : some g ≠ v.ownBlock := by
  obtain ⟨A0, c0, hb, hg, hr0⟩ := h
  exact Kd.S_ne ho hb ht
theorem IsS92.lt {w0 W : World} {g : Nat} {f0 : List Int} {f1 : Int} (h : IsS92 w0 W g f0 f1) : g < W.heap.size := by
  obtain ⟨A0, c0, hb, hg, hr0⟩ := h
  exact blk_lt hb
theorem IsS92.ge {w0 W : World} {g : Nat} {f0 : List Int} {f1 : Int} (h : IsS92 w0 W g f0 f1) : w0.heap.size ≤ g := by
  obtain ⟨A0, c0, hb, hg, hr0⟩ := h
  exact hg
theorem IsS92.ne_blk {w0 W : World} {g : Nat} {f0 : List Int} {f1 : Int} {a : Nat} {cs : Array Value} {t : TypeId} {fr : Nat × Nat} (h : IsS92 w0 W g f0 f1) (hb2 : W.heap[a]? = some (.cells cs t fr)) (ht : t ≠ 92) : g ≠ a := by
  obtain ⟨A0, c0, hb, hg, hr0⟩ := h
  rintro rfl
  rw [hb] at hb2
  injection hb2 with hb2
  injection hb2 with _ ht2
  exact ht ht2.symm
theorem IsS92.far {w0 W : World} {g : Nat} {f0 : List Int} {f1 : Int} {p : Addr} (h : IsS92 w0 W g f0 f1) (hne : g ≠ p.block) (u : Value) : IsS92 w0 (W.setCell p u) g f0 f1 := by
  obtain ⟨A0, c0, hb, hg, hr0⟩ := h
  exact ⟨A0, c0, blk_far hb hne u, hg, hr0⟩
theorem cellS92_0 {W : World} {g : Nat} {A0 : Option Addr} {c0 : Nat} {f0 : List Int} {f1 : Int} (h : W.heap[g]? = some (.cells #[.slice A0 f0.length c0, .int .i64 f1] 92 (0, 0))) : W.cell? ⟨g, 0, none⟩ = some (.slice A0 f0.length c0) := (blk_cell h 0).trans rfl
theorem cellS92_1 {W : World} {g : Nat} {A0 : Option Addr} {c0 : Nat} {f0 : List Int} {f1 : Int} (h : W.heap[g]? = some (.cells #[.slice A0 f0.length c0, .int .i64 f1] 92 (0, 0))) : W.cell? ⟨g, 1, none⟩ = some (.int .i64 f1) := (blk_cell h 1).trans rfl
theorem IsS92.set_1 {w0 W : World} {g : Nat} {f0 : List Int} {f1 : Int} (h : IsS92 w0 W g f0 f1) (x : Int) : IsS92 w0 (W.setCell ⟨g, 1, none⟩ (.int .i64 x)) g f0 x := by
  obtain ⟨A0, c0, hb, hg, hr0⟩ := h
  exact ⟨A0, c0, by simpa using blk_set hb 1 (.int .i64 x), hg, hr0⟩
theorem IsS92.new (w0 W : World) (A0 : Option Addr) (c0 : Nat) (f0 : List Int) (f1 : Int) (hB : Below w0.heap.size w0 W) (hr0 : Kd.C (Kd.int .u8) w0 A0 f0.length f0) : IsS92 w0 (W.alloc (.cells #[.slice A0 f0.length c0, .int .i64 f1] 92)) W.heap.size f0 f1 := ⟨A0, c0, by simpa using heap_alloc_new W _, hB.size, hr0⟩


end Go.Proofs.Ytgmjolngnhdafaa.P

end
section
namespace Go.Proofs.Ytgmjolngnhdafaa.P
open Go.RowKit Go.Proofs.YtgmjolngnhdafaaW.PrintWords Go.Proofs.YtgmjolngnhdafaaW.PrintLast Go.Proofs.YtgmjolngnhdafaaW.PrintMore
attribute [local go_sem] max2_int min2_int max_two min_two max_three min_three max_four min_four
set_option linter.unusedVariables false
set_option linter.unusedSimpArgs false

set_option maxHeartbeats 8000000 in
set_option maxRecDepth 100000 in
theorem spec_l6Open.calls (A0 : Option Addr) (c0 : Nat) (l0 : List Int) (r1 : List Int) (r2 : Int) (w0 w : World) (hB : Below w0.heap.size w0 w) (hr0 : Kd.C (Kd.int .u8) w0 A0 l0.length l0) (hc0 : l0.length ≤ c0) (h : spec_l6Open.f l0 = some (r1, r2)) :
    Calls Try.prog 63 #[.slice A0 l0.length c0] w fun e w' => ∃ g_ : Nat, e = .returned (.pointer (some ⟨g_, 0, none⟩)) ∧ IsS92 w0 w' g_ r1 r2 ∧ Below w0.heap.size w0 w' ∧ Below w.heap.size w w' := by
  have hu92 := Try.underlying92
  have HR0 := Aside0.mk hr0
  have HC0 := Aside0.mk hc0
  clear hr0 hc0
  have HBW := Aside0.mk (Below.refl w.heap.size w)
  have HW0 := Aside0.mk hB.size
  have HB := Aside0.mk hB
  clear hB
  have H : (if (l0.length : Int) > 2000 then (if 2000 ≤ (l0.length : Int) then (some (l0.take 2000, 0)) else (none)) else (some (l0, 0))) = some (r1, r2) := h
  clear h
  by_cases c2 : (l0.length : Int) > 2000
  · rw [if_pos c2] at H
    have c2b0 : decide (2000 < (l0.length : Int)) = true := decide_eq_true c2
    have c2b1 : decide (2000 < l0.length) = true := decide_eq_true (by omega)
    clear c2
    by_cases c3 : 2000 ≤ (l0.length : Int)
    · rw [if_pos c3] at H
      have c3b0 := eq_true c3
      have c3b1 : decide (2000 ≤ (l0.length : Int)) = true := decide_eq_true c3
      clear c3
      simp only [Option.some.injEq, Prod.mk.injEq] at H
      obtain ⟨rfl, rfl⟩ := H
      obtain ⟨i04, hi04, _, hsz4, _⟩ := info_parts info5
      obtain ⟨hcut4, hA4, hC4⟩ := print_take_of (P := Try.prog) (Value.int .u8) 0 31 5 .i64 Try.underlying31 hi04 hsz4 A0 c0 l0 2000 (by omega) (of_decide_eq_true (by first | (with_reducible assumption) | assumption)) HC0.out
      have HR181 := Aside0.mk (Kd.C_of_reads (h1 := fun _ => rfl) (hA4 _ (Kd.reads_of_C HR0.out)))
      have HC181 := Aside0.mk hC4
      clear hA4 hC4 hi04 hsz4
      go_enter Try.func63, Try.ntmps63
      go_wp2_with (first | ((with_reducible refine gate_dst (N := 10) rfl ?_); refine box_event ?hg (N := 10) ?hd (cs := #[.slice A0 (l0.take 2000).length c0, .int .i64 0]) (t := 92) ?hr ?_; (case hd => rfl); (case hg => rfl); (case hr => first | (go_simp; done) | (go_simp; rfl)); intro gb182 hg w5 hbox hb; have n0_ := Aside0.mk (below_step HBW.out hb); have n1_ := Aside0.mk (below_step (by repeat (first | (with_reducible first | exact HB.out | apply below_alloc | apply pw_below_drewN | apply below_drew1) | exact HB.out)) hb); have n2_ := Aside0.mk (hbox); have n3_ := Aside0.mk ((by rw [hg]; exact (below_size (by repeat (first | (with_reducible first | exact HBW.out | apply below_alloc | apply pw_below_drewN | apply below_drew1) | exact HBW.out))) : w.heap.size ≤ gb182)); have n4_ := Aside0.mk ((Nat.le_trans HW0.out (by rw [hg]; exact (below_size (by repeat (first | (with_reducible first | exact HBW.out | apply below_alloc | apply pw_below_drewN | apply below_drew1) | exact HBW.out))) : w.heap.size ≤ gb182) : w0.heap.size ≤ gb182)); clear HBW; clear HB; have HBW := n0_; have HB := n1_; have BK182 := n2_; have GW182 := n3_; have GE182 := n4_; clear n0_ n1_ n2_ n3_ n4_; clear hb hbox hg))
      go_ret
      exact ⟨_, rfl, (show IsS92 w0 _ gb182 (l0.take 2000) 0 from ⟨_, _, by (with_reducible repeat (first | refine blk_drewN ?_ _ | refine blk_drew ?_ | refine blk_alloc ?_ _)); exact BK182.out, GE182.out, HR181.out⟩), by repeat (first | (with_reducible first | exact HB.out | apply below_alloc | apply pw_below_drewN | apply below_drew1 | refine below_set ?_ GE182.out) | exact HB.out), by repeat (first | (with_reducible first | exact HBW.out | apply below_alloc | apply pw_below_drewN | apply below_drew1 | refine below_set ?_ GW182.out) | exact HBW.out)⟩
    · rw [if_neg c3] at H
      exact absurd H (by simp)
  · rw [if_neg c2] at H
    have c2b0 : decide (2000 < (l0.length : Int)) = false := decide_eq_false c2
    have c2b1 : decide (2000 < l0.length) = false := decide_eq_false (by omega)
    clear c2
    simp only [Option.some.injEq, Prod.mk.injEq] at H
    obtain ⟨rfl, rfl⟩ := H
    go_enter Try.func63, Try.ntmps63
    go_wp2_with (first | ((with_reducible refine gate_dst (N := 10) rfl ?_); refine box_event ?hg (N := 10) ?hd (cs := #[.slice A0 l0.length c0, .int .i64 0]) (t := 92) ?hr ?_; (case hd => rfl); (case hg => rfl); (case hr => first | (go_simp; done) | (go_simp; rfl)); intro gb183 hg w6 hbox hb; have n0_ := Aside0.mk (below_step HBW.out hb); have n1_ := Aside0.mk (below_step (by repeat (first | (with_reducible first | exact HB.out | apply below_alloc | apply pw_below_drewN | apply below_drew1) | exact HB.out)) hb); have n2_ := Aside0.mk (hbox); have n3_ := Aside0.mk ((by rw [hg]; exact (below_size (by repeat (first | (with_reducible first | exact HBW.out | apply below_alloc | apply pw_below_drewN | apply below_drew1) | exact HBW.out))) : w.heap.size ≤ gb183)); have n4_ := Aside0.mk ((Nat.le_trans HW0.out (by rw [hg]; exact (below_size (by repeat (first | (with_reducible first | exact HBW.out | apply below_alloc | apply pw_below_drewN | apply below_drew1) | exact HBW.out))) : w.heap.size ≤ gb183) : w0.heap.size ≤ gb183)); clear HBW; clear HB; have HBW := n0_; have HB := n1_; have BK183 := n2_; have GW183 := n3_; have GE183 := n4_; clear n0_ n1_ n2_ n3_ n4_; clear hb hbox hg))
    go_ret
    exact ⟨_, rfl, (show IsS92 w0 _ gb183 l0 0 from ⟨_, _, by (with_reducible repeat (first | refine blk_drewN ?_ _ | refine blk_drew ?_ | refine blk_alloc ?_ _)); exact BK183.out, GE183.out, HR0.out⟩), by repeat (first | (with_reducible first | exact HB.out | apply below_alloc | apply pw_below_drewN | apply below_drew1 | refine below_set ?_ GE183.out) | exact HB.out), by repeat (first | (with_reducible first | exact HBW.out | apply below_alloc | apply pw_below_drewN | apply below_drew1 | refine below_set ?_ GW183.out) | exact HBW.out)⟩

end Go.Proofs.Ytgmjolngnhdafaa.P

end
