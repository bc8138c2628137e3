/- A part of the claim FnExactClassFields: texts of this session and texts that its program printed out of the translation, joined. -/
import Derived.Test.YtgmjolngnhdafaaProg
import Derived.Below
import Derived.Deep.Draws
import Derived.Deep.AppendLies
import Derived.Maps.AppendAt
import Derived.OwnWalk
import Derived.Laws.BytesArg
import Derived.Laws.MakeOwn
import Derived.Laws.OwnMore
import Derived.Deep.OwnRows
import Derived.Tactics
import Derived.Lib.ConvBytes
import Derived.Laws.Slices
import Derived.WalkKit
import Derived.KernelRfl
import Derived.RowKit3
import Derived.Deep.LoopGhost
import Derived.Deep.QuietTactic
import Derived.BigQuiet
import Derived.WideLaws
import Derived.Deep.DeepCutAuto
import Derived.Deep.CutBlock
import Derived.Deep.RegionHeld3
import Derived.Laws.Rows
import Derived.Lib.AppendStr
import Derived.ArgAppend
import Derived.Laws.IdiomCopy
import Derived.OrdersHeld
import Derived.Laws.BitsLemmas
import Derived.RowKit
import Derived.Test.YtgmjolngnhdafaaWWords
import Derived.Test.YtgmjolngnhdafaaWLast
import Derived.Test.YtgmjolngnhdafaaWTab
import Derived.Test.YtgmjolngnhdafaaWFour
import Derived.Test.YtgmjolngnhdafaaWQPut
import Derived.Test.YtgmjolngnhdafaaWApart
import Derived.Test.YtgmjolngnhdafaaWArr
import Derived.Test.YtgmjolngnhdafaaWZeros
import Derived.Test.YtgmjolngnhdafaaWFoot
import Derived.Test.YtgmjolngnhdafaaWKept
import Derived.Test.YtgmjolngnhdafaaWShare
import Derived.Test.YtgmjolngnhdafaaWN
import Derived.Test.YtgmjolngnhdafaaWFootNe
import Derived.Test.YtgmjolngnhdafaaWAt
import Derived.Test.YtgmjolngnhdafaaWEqStruct
import Derived.Test.YtgmjolngnhdafaaWRepsOne
import Derived.Test.YtgmjolngnhdafaaWInv
import Derived.Test.YtgmjolngnhdafaaWInvWords
import Derived.Test.YtgmjolngnhdafaaWGuard
import Derived.Test.YtgmjolngnhdafaaWNEv
import Derived.Test.YtgmjolngnhdafaaWMore
import Derived.WalkSpells
import Derived.WalkLawsBesides
section
namespace Go.Proofs.Ytgmjolngnhdafaa.P
open Go.RowKit Go.Proofs.YtgmjolngnhdafaaW.PrintWords Go.Proofs.YtgmjolngnhdafaaW.PrintLast Go.Proofs.YtgmjolngnhdafaaW.PrintMore
attribute [local go_sem] max2_int min2_int max_two min_two max_three min_three max_four min_four
set_option linter.unusedVariables false
set_option linter.unusedSimpArgs false

def errW : Option Int → Value
  | none => .nilIface
  | some c => .iface 0 (.int .i64 c)
theorem errW_none : errW none = .nilIface := rfl
theorem errW_some (c : Int) : errW (some c) = .iface 0 (.int .i64 c) := rfl

theorem info3 : (Try.prog.info? 3).map (fun i => (i.zero, i.size, i.bytes)) = some (some (.int .i64 0), 1, 8) := by kernel_rfl
theorem info5 : (Try.prog.info? 5).map (fun i => (i.zero, i.size, i.bytes)) = some (some (.int .u8 0), 1, 1) := by kernel_rfl
theorem info38 : (Try.prog.info? 38).map (fun i => (i.zero, i.size, i.bytes)) = some (some (.agg #[(.int .i64 0), (.slice none 0 0)]), 2, 32) := by kernel_rfl
-- the values' own types
def rd_L1 (xs : List (List Int)) (i : Int) : (List Int) := xs.getD i.toNat ([] : List Int)
theorem at_L1 {w : World} {A : Option Addr} {n : Nat} {xs : List (List Int)} (h : Kd.C (Kd.slice 3 (Kd.int .i64)) w A n xs) (i : Int) (h0 : 0 ≤ i) (h1 : i < n) : ∃ ad A0 c0, A = some ad ∧ w.cell? (ad.add i.toNat) = some (.slice A0 (rd_L1 xs i).length c0) ∧ (rd_L1 xs i).length ≤ c0 ∧ (Kd.int .i64).C w A0 (rd_L1 xs i).length (rd_L1 xs i) := by
  obtain ⟨ad, c, e, _, hK, hc0⟩ := Kd.C_get h ([] : List Int) i h0 h1
  have hc : ∀ j u, c[j]? = some u → w.cell? (ad.add (i.toNat * 1 + j)) = some u := hc0
  obtain ⟨A0, c0, rfl, l0, g0⟩ := hK
  exact ⟨ad, A0, c0, e, by have hq := hc 0 _ rfl; rwa [Nat.mul_one, Nat.add_zero] at hq, l0, g0⟩

/-! #### struct type 63 -/
structure S63 where
  f0 : Int
  f1 : (List Int)
def z63 : S63 := ⟨(0 : Int), ([] : List Int)⟩
def k63 : Kd S63 := Kd.iso (Kd.pair (Kd.int .i64) (Kd.slice 3 (Kd.int .i64))) (fun x : S63 => (x.f0, x.f1))
theorem k63_open {w : World} {x : S63} {cs : List Value} (h : k63.K w x cs) : ∃ A1 c1, cs = [.int .i64 x.f0, .slice A1 x.f1.length c1] ∧ x.f1.length ≤ c1 ∧ (Kd.int .i64).C w A1 x.f1.length x.f1 := by
  obtain ⟨_, _, rfl, rfl, ⟨A1, c1, rfl, l1, g1⟩⟩ := h
  exact ⟨A1, c1, rfl, l1, g1⟩
theorem k63_openM {w : World} {base : Nat} {ok : Nat → Prop} {x : S63} {cs : List Value} (h : k63.M w base ok x cs) : ∃ v1, cs = [.int .i64 x.f0, v1] ∧ (Kd.int .i64).R 3 w base ok v1 x.f1 := by
  obtain ⟨_, _, rfl, rfl, ⟨v1, rfl, g1⟩⟩ := h
  exact ⟨v1, rfl, g1⟩
theorem k63_mk (w : World) (x : S63) {A1 : Option Addr} {c1 : Nat} (l1 : x.f1.length ≤ c1) (g1 : (Kd.int .i64).C w A1 x.f1.length x.f1) : k63.K w x [.int .i64 x.f0, .slice A1 x.f1.length c1] := ⟨[.int .i64 x.f0], [.slice A1 x.f1.length c1], rfl, rfl, ⟨A1, c1, rfl, l1, g1⟩⟩
theorem k63_mkM (w : World) (base : Nat) (ok : Nat → Prop) (x : S63) {v1 : Value} (g1 : (Kd.int .i64).R 3 w base ok v1 x.f1) : k63.M w base ok x [.int .i64 x.f0, v1] := ⟨[.int .i64 x.f0], [v1], rfl, rfl, ⟨v1, rfl, g1⟩⟩
theorem k63_openF {W : World} {ok : Nat → Prop} {x : S63} {cs : List Value} (h : Kd.FK k63 W ok x cs) : ∃ A1 c1, cs = [.int .i64 x.f0, .slice A1 x.f1.length c1] ∧ x.f1.length ≤ c1 ∧ Kd.F (Kd.int .i64) W ok A1 x.f1.length x.f1 := by
  obtain ⟨A1, c1, rfl, l1, _⟩ := k63_open (Kd.FK_now h)
  exact ⟨A1, c1, rfl, l1, (fun W' hW => by obtain ⟨A1_, c1_, he, l1_, g1_⟩ := k63_open (h W' hW); injection (Option.some.inj (show some (Value.slice A1 x.f1.length c1) = some (Value.slice A1_ x.f1.length c1_) from congrArg (fun l => l[1]?) he)) with ha_ _ _; rw [ha_]; exact g1_)⟩
theorem k63_mkF (W : World) (ok : Nat → Prop) (x : S63) {A1 : Option Addr} {c1 : Nat} (l1 : x.f1.length ≤ c1) (g1 : Kd.F (Kd.int .i64) W ok A1 x.f1.length x.f1) : Kd.FK k63 W ok x [.int .i64 x.f0, .slice A1 x.f1.length c1] := fun W2 hW => k63_mk W2 x l1 (g1 W2 hW)
def rd_T63 (xs : List S63) (i : Int) : S63 := xs.getD i.toNat z63
theorem at_T63 {w : World} {A : Option Addr} {n : Nat} {xs : List S63} (h : Kd.C k63 w A n xs) (i : Int) (h0 : 0 ≤ i) (h1 : i < n) : ∃ ad A1 c1, A = some ad ∧ w.cell? (ad.add (i.toNat * 2)) = some (.int .i64 (rd_T63 xs i).f0) ∧ w.cell? ⟨(ad.add (i.toNat * 2)).block, (ad.add (i.toNat * 2)).off + 1, none⟩ = some (.slice A1 (rd_T63 xs i).f1.length c1) ∧ (rd_T63 xs i).f1.length ≤ c1 ∧ (Kd.int .i64).C w A1 (rd_T63 xs i).f1.length (rd_T63 xs i).f1 := by
  obtain ⟨ad, c, e, _, hK, hc0⟩ := Kd.C_get h z63 i h0 h1
  have hc : ∀ j u, c[j]? = some u → w.cell? (ad.add (i.toNat * 2 + j)) = some u := hc0
  obtain ⟨A1, c1, rfl, l1, g1⟩ := k63_open hK
  exact ⟨ad, A1, c1, e, hc 0 _ rfl, by rw [← add_field _ _ 1 (by omega)]; exact hc 1 _ rfl, l1, g1⟩

/-! #### struct type 38 -/
structure S38 where
  f0 : Int
  f1 : (List Int)
def z38 : S38 := ⟨(0 : Int), ([] : List Int)⟩
def k38 : Kd S38 := Kd.iso (Kd.pair (Kd.int .i64) (Kd.slice 3 (Kd.int .i64))) (fun x : S38 => (x.f0, x.f1))
theorem k38_open {w : World} {x : S38} {cs : List Value} (h : k38.K w x cs) : ∃ A1 c1, cs = [.int .i64 x.f0, .slice A1 x.f1.length c1] ∧ x.f1.length ≤ c1 ∧ (Kd.int .i64).C w A1 x.f1.length x.f1 := by
  obtain ⟨_, _, rfl, rfl, ⟨A1, c1, rfl, l1, g1⟩⟩ := h
  exact ⟨A1, c1, rfl, l1, g1⟩
theorem k38_openM {w : World} {base : Nat} {ok : Nat → Prop} {x : S38} {cs : List Value} (h : k38.M w base ok x cs) : ∃ v1, cs = [.int .i64 x.f0, v1] ∧ (Kd.int .i64).R 3 w base ok v1 x.f1 := by
  obtain ⟨_, _, rfl, rfl, ⟨v1, rfl, g1⟩⟩ := h
  exact ⟨v1, rfl, g1⟩
theorem k38_mk (w : World) (x : S38) {A1 : Option Addr} {c1 : Nat} (l1 : x.f1.length ≤ c1) (g1 : (Kd.int .i64).C w A1 x.f1.length x.f1) : k38.K w x [.int .i64 x.f0, .slice A1 x.f1.length c1] := ⟨[.int .i64 x.f0], [.slice A1 x.f1.length c1], rfl, rfl, ⟨A1, c1, rfl, l1, g1⟩⟩
theorem k38_mkM (w : World) (base : Nat) (ok : Nat → Prop) (x : S38) {v1 : Value} (g1 : (Kd.int .i64).R 3 w base ok v1 x.f1) : k38.M w base ok x [.int .i64 x.f0, v1] := ⟨[.int .i64 x.f0], [v1], rfl, rfl, ⟨v1, rfl, g1⟩⟩
theorem k38_openF {W : World} {ok : Nat → Prop} {x : S38} {cs : List Value} (h : Kd.FK k38 W ok x cs) : ∃ A1 c1, cs = [.int .i64 x.f0, .slice A1 x.f1.length c1] ∧ x.f1.length ≤ c1 ∧ Kd.F (Kd.int .i64) W ok A1 x.f1.length x.f1 := by
  obtain ⟨A1, c1, rfl, l1, _⟩ := k38_open (Kd.FK_now h)
  exact ⟨A1, c1, rfl, l1, (fun W' hW => by obtain ⟨A1_, c1_, he, l1_, g1_⟩ := k38_open (h W' hW); injection (Option.some.inj (show some (Value.slice A1 x.f1.length c1) = some (Value.slice A1_ x.f1.length c1_) from congrArg (fun l => l[1]?) he)) with ha_ _ _; rw [ha_]; exact g1_)⟩
theorem k38_mkF (W : World) (ok : Nat → Prop) (x : S38) {A1 : Option Addr} {c1 : Nat} (l1 : x.f1.length ≤ c1) (g1 : Kd.F (Kd.int .i64) W ok A1 x.f1.length x.f1) : Kd.FK k38 W ok x [.int .i64 x.f0, .slice A1 x.f1.length c1] := fun W2 hW => k38_mk W2 x l1 (g1 W2 hW)
def rd_T38 (xs : List S38) (i : Int) : S38 := xs.getD i.toNat z38
theorem at_T38 {w : World} {A : Option Addr} {n : Nat} {xs : List S38} (h : Kd.C k38 w A n xs) (i : Int) (h0 : 0 ≤ i) (h1 : i < n) : ∃ ad A1 c1, A = some ad ∧ w.cell? (ad.add (i.toNat * 2)) = some (.int .i64 (rd_T38 xs i).f0) ∧ w.cell? ⟨(ad.add (i.toNat * 2)).block, (ad.add (i.toNat * 2)).off + 1, none⟩ = some (.slice A1 (rd_T38 xs i).f1.length c1) ∧ (rd_T38 xs i).f1.length ≤ c1 ∧ (Kd.int .i64).C w A1 (rd_T38 xs i).f1.length (rd_T38 xs i).f1 := by
  obtain ⟨ad, c, e, _, hK, hc0⟩ := Kd.C_get h z38 i h0 h1
  have hc : ∀ j u, c[j]? = some u → w.cell? (ad.add (i.toNat * 2 + j)) = some u := hc0
  obtain ⟨A1, c1, rfl, l1, g1⟩ := k38_open hK
  exact ⟨ad, A1, c1, e, hc 0 _ rfl, by rw [← add_field _ _ 1 (by omega)]; exact hc 1 _ rfl, l1, g1⟩

def rd_L6 (xs : List (List S38)) (i : Int) : (List S38) := xs.getD i.toNat ([] : List S38)
theorem at_L6 {w : World} {A : Option Addr} {n : Nat} {xs : List (List S38)} (h : Kd.C (Kd.slice 38 k38) w A n xs) (i : Int) (h0 : 0 ≤ i) (h1 : i < n) : ∃ ad A0 c0, A = some ad ∧ w.cell? (ad.add i.toNat) = some (.slice A0 (rd_L6 xs i).length c0) ∧ (rd_L6 xs i).length ≤ c0 ∧ k38.C w A0 (rd_L6 xs i).length (rd_L6 xs i) := by
  obtain ⟨ad, c, e, _, hK, hc0⟩ := Kd.C_get h ([] : List S38) i h0 h1
  have hc : ∀ j u, c[j]? = some u → w.cell? (ad.add (i.toNat * 1 + j)) = some u := hc0
  obtain ⟨A0, c0, rfl, l0, g0⟩ := hK
  exact ⟨ad, A0, c0, e, by have hq := hc 0 _ rfl; rwa [Nat.mul_one, Nat.add_zero] at hq, l0, g0⟩

end Go.Proofs.Ytgmjolngnhdafaa.P

end
section
namespace Go.Proofs.Ytgmjolngnhdafaa
open Go Go.Proofs.Ytgmjolngnhdafaa.P
set_option maxRecDepth 100000
theorem enter_of {P : Program} {L : List Char} {W : List (List Char)} {c : List Char} {rest : List (List Char)} (h1 : P.initOrder.toList = L) (h2 : wordsSigns L = W) (h3 : behindMainWord W = c :: rest) (h4 : stripLifts liftWords (c :: rest) = ([], c :: rest)) (h5 : c = "cut".toList) (h6 : P.laysLater = false) (h7 : P.bearsReflect = false) (h8 : P.doorFits [] = true) : P.mayEnter = true := by
  unfold Program.mayEnter
  rw [h1, h2, h3]
  simp only [h4, h6, h7, h8, List.head?_cons]
  simp [h5]
theorem make_of {P : Program} {L : List Char} {W : List (List Char)} {c : List Char} {rest : List (List Char)} (h1 : P.initOrder.toList = L) (h2 : wordsSigns L = W) (h3 : behindMainWord W = c :: rest) (h5 : c = "cut".toList) : P.make = some .cut := by
  unfold Program.make
  rw [h1, h2, h3]
  simp [h5]
theorem lifts_of {P : Program} {L : List Char} {W : List (List Char)} {c : List Char} {rest : List (List Char)} (h1 : P.initOrder.toList = L) (h2 : wordsSigns L = W) (h3 : behindMainWord W = c :: rest) (h4 : stripLifts liftWords (c :: rest) = ([], c :: rest)) (h5 : c = "cut".toList) : P.liftsFinal = false := by
  unfold Program.liftsFinal Program.headLifts
  rw [h1, h2, h3]
  simp only [h4, List.head?_cons]
  simp [h5]
def headChars : List Char := [Char.ofNat 104, Char.ofNat 97, Char.ofNat 114, Char.ofNat 110, Char.ofNat 101, Char.ofNat 115, Char.ofNat 115, Char.ofNat 32, Char.ofNat 53, Char.ofNat 54, Char.ofNat 54, Char.ofNat 100, Char.ofNat 55, Char.ofNat 100, Char.ofNat 56, Char.ofNat 98, Char.ofNat 99, Char.ofNat 57, Char.ofNat 54, Char.ofNat 54, Char.ofNat 100, Char.ofNat 56, Char.ofNat 97, Char.ofNat 54, Char.ofNat 55, Char.ofNat 52, Char.ofNat 51, Char.ofNat 50, Char.ofNat 51, Char.ofNat 55, Char.ofNat 51, Char.ofNat 48, Char.ofNat 99, Char.ofNat 48, Char.ofNat 55, Char.ofNat 57, Char.ofNat 51, Char.ofNat 97, Char.ofNat 51, Char.ofNat 97, Char.ofNat 50, Char.ofNat 97, Char.ofNat 55, Char.ofNat 51, Char.ofNat 56, Char.ofNat 100, Char.ofNat 102, Char.ofNat 101, Char.ofNat 101, Char.ofNat 102, Char.ofNat 98, Char.ofNat 50, Char.ofNat 51, Char.ofNat 48, Char.ofNat 56, Char.ofNat 99, Char.ofNat 52, Char.ofNat 98, Char.ofNat 52, Char.ofNat 57, Char.ofNat 50, Char.ofNat 54, Char.ofNat 50, Char.ofNat 98, Char.ofNat 55, Char.ofNat 101, Char.ofNat 102, Char.ofNat 101, Char.ofNat 56, Char.ofNat 49, Char.ofNat 56, Char.ofNat 99, Char.ofNat 32, Char.ofNat 99, Char.ofNat 117, Char.ofNat 116, Char.ofNat 32, Char.ofNat 97, Char.ofNat 116, Char.ofNat 32, Char.ofNat 108, Char.ofNat 111, Char.ofNat 111, Char.ofNat 112, Char.ofNat 46, Char.ofNat 101, Char.ofNat 120, Char.ofNat 97, Char.ofNat 109, Char.ofNat 112, Char.ofNat 108, Char.ofNat 101, Char.ofNat 47, Char.ofNat 101, Char.ofNat 110, Char.ofNat 116, Char.ofNat 97, Char.ofNat 105, Char.ofNat 108, Char.ofNat 47, Char.ofNat 108, Char.ofNat 97, Char.ofNat 119, Char.ofNat 115, Char.ofNat 46, Char.ofNat 70, Char.ofNat 110, Char.ofNat 69, Char.ofNat 120, Char.ofNat 97, Char.ofNat 99, Char.ofNat 116, Char.ofNat 67, Char.ofNat 108, Char.ofNat 97, Char.ofNat 115, Char.ofNat 115, Char.ofNat 101, Char.ofNat 115, Char.ofNat 79, Char.ofNat 107, Char.ofNat 32, Char.ofNat 108, Char.ofNat 111, Char.ofNat 111, Char.ofNat 112, Char.ofNat 46, Char.ofNat 101, Char.ofNat 120, Char.ofNat 97, Char.ofNat 109, Char.ofNat 112, Char.ofNat 108, Char.ofNat 101, Char.ofNat 47, Char.ofNat 101, Char.ofNat 110, Char.ofNat 116, Char.ofNat 97, Char.ofNat 105, Char.ofNat 108, Char.ofNat 47, Char.ofNat 108, Char.ofNat 97, Char.ofNat 119, Char.ofNat 115, Char.ofNat 46, Char.ofNat 70, Char.ofNat 110, Char.ofNat 69, Char.ofNat 120, Char.ofNat 97, Char.ofNat 99, Char.ofNat 116, Char.ofNat 84, Char.ofNat 121, Char.ofNat 112, Char.ofNat 101, Char.ofNat 79, Char.ofNat 107, Char.ofNat 32, Char.ofNat 108, Char.ofNat 111, Char.ofNat 111, Char.ofNat 112, Char.ofNat 46, Char.ofNat 101, Char.ofNat 120, Char.ofNat 97, Char.ofNat 109, Char.ofNat 112, Char.ofNat 108, Char.ofNat 101, Char.ofNat 47, Char.ofNat 101, Char.ofNat 110, Char.ofNat 116, Char.ofNat 97, Char.ofNat 105, Char.ofNat 108, Char.ofNat 47, Char.ofNat 108, Char.ofNat 97, Char.ofNat 119, Char.ofNat 115, Char.ofNat 46, Char.ofNat 70, Char.ofNat 110, Char.ofNat 85, Char.ofNat 112, Char.ofNat 79, Char.ofNat 114, Char.ofNat 100, Char.ofNat 101, Char.ofNat 114, Char.ofNat 32, Char.ofNat 108, Char.ofNat 111, Char.ofNat 111, Char.ofNat 112, Char.ofNat 46, Char.ofNat 101, Char.ofNat 120, Char.ofNat 97, Char.ofNat 109, Char.ofNat 112, Char.ofNat 108, Char.ofNat 101, Char.ofNat 47, Char.ofNat 101, Char.ofNat 110, Char.ofNat 116, Char.ofNat 97, Char.ofNat 105, Char.ofNat 108, Char.ofNat 47, Char.ofNat 108, Char.ofNat 97, Char.ofNat 119, Char.ofNat 115, Char.ofNat 46, Char.ofNat 70, Char.ofNat 110, Char.ofNat 85, Char.ofNat 112, Char.ofNat 83, Char.ofNat 116, Char.ofNat 101, Char.ofNat 112, Char.ofNat 32, Char.ofNat 108, Char.ofNat 111, Char.ofNat 111, Char.ofNat 112, Char.ofNat 46, Char.ofNat 101, Char.ofNat 120, Char.ofNat 97, Char.ofNat 109, Char.ofNat 112, Char.ofNat 108, Char.ofNat 101, Char.ofNat 47, Char.ofNat 101, Char.ofNat 110, Char.ofNat 116, Char.ofNat 97, Char.ofNat 105, Char.ofNat 108, Char.ofNat 47, Char.ofNat 108, Char.ofNat 97, Char.ofNat 119, Char.ofNat 115, Char.ofNat 46, Char.ofNat 70, Char.ofNat 110, Char.ofNat 69, Char.ofNat 120, Char.ofNat 97, Char.ofNat 99, Char.ofNat 116, Char.ofNat 67, Char.ofNat 108, Char.ofNat 97, Char.ofNat 115, Char.ofNat 115, Char.ofNat 85, Char.ofNat 112, Char.ofNat 32, Char.ofNat 108, Char.ofNat 111, Char.ofNat 111, Char.ofNat 112, Char.ofNat 46, Char.ofNat 101, Char.ofNat 120, Char.ofNat 97, Char.ofNat 109, Char.ofNat 112, Char.ofNat 108, Char.ofNat 101, Char.ofNat 47, Char.ofNat 101, Char.ofNat 110, Char.ofNat 116, Char.ofNat 97, Char.ofNat 105, Char.ofNat 108, Char.ofNat 47, Char.ofNat 108, Char.ofNat 97, Char.ofNat 119, Char.ofNat 115, Char.ofNat 46, Char.ofNat 70, Char.ofNat 110, Char.ofNat 70, Char.ofNat 105, Char.ofNat 101, Char.ofNat 108, Char.ofNat 100, Char.ofNat 115, Char.ofNat 65, Char.ofNat 98, Char.ofNat 111, Char.ofNat 118, Char.ofNat 101, Char.ofNat 32, Char.ofNat 108, Char.ofNat 111, Char.ofNat 111, Char.ofNat 112, Char.ofNat 46, Char.ofNat 101, Char.ofNat 120, Char.ofNat 97, Char.ofNat 109, Char.ofNat 112, Char.ofNat 108, Char.ofNat 101, Char.ofNat 47, Char.ofNat 101, Char.ofNat 110, Char.ofNat 116, Char.ofNat 97, Char.ofNat 105, Char.ofNat 108, Char.ofNat 47, Char.ofNat 108, Char.ofNat 97, Char.ofNat 119, Char.ofNat 115, Char.ofNat 46, Char.ofNat 70, Char.ofNat 110, Char.ofNat 84, Char.ofNat 121, Char.ofNat 112, Char.ofNat 101, Char.ofNat 67, Char.ofNat 108, Char.ofNat 97, Char.ofNat 115, Char.ofNat 115, Char.ofNat 32, Char.ofNat 108, Char.ofNat 111, Char.ofNat 111, Char.ofNat 112, Char.ofNat 46, Char.ofNat 101, Char.ofNat 120, Char.ofNat 97, Char.ofNat 109, Char.ofNat 112, Char.ofNat 108, Char.ofNat 101, Char.ofNat 47, Char.ofNat 101, Char.ofNat 110, Char.ofNat 116, Char.ofNat 97, Char.ofNat 105, Char.ofNat 108, Char.ofNat 47, Char.ofNat 108, Char.ofNat 97, Char.ofNat 119, Char.ofNat 115, Char.ofNat 46, Char.ofNat 70, Char.ofNat 110, Char.ofNat 69, Char.ofNat 120, Char.ofNat 97, Char.ofNat 99, Char.ofNat 116, Char.ofNat 67, Char.ofNat 108, Char.ofNat 97, Char.ofNat 115, Char.ofNat 115, Char.ofNat 70, Char.ofNat 105, Char.ofNat 101, Char.ofNat 108, Char.ofNat 100, Char.ofNat 115, Char.ofNat 32, Char.ofNat 108, Char.ofNat 111, Char.ofNat 111, Char.ofNat 112, Char.ofNat 46, Char.ofNat 101, Char.ofNat 120, Char.ofNat 97, Char.ofNat 109, Char.ofNat 112, Char.ofNat 108, Char.ofNat 101, Char.ofNat 47, Char.ofNat 101, Char.ofNat 110, Char.ofNat 116, Char.ofNat 97, Char.ofNat 105, Char.ofNat 108, Char.ofNat 47, Char.ofNat 108, Char.ofNat 97, Char.ofNat 119, Char.ofNat 115, Char.ofNat 46, Char.ofNat 70, Char.ofNat 110, Char.ofNat 69, Char.ofNat 120, Char.ofNat 97, Char.ofNat 99, Char.ofNat 116, Char.ofNat 84, Char.ofNat 121, Char.ofNat 112, Char.ofNat 101, Char.ofNat 73, Char.ofNat 110, Char.ofNat 32, Char.ofNat 108, Char.ofNat 111, Char.ofNat 111, Char.ofNat 112, Char.ofNat 46, Char.ofNat 101, Char.ofNat 120, Char.ofNat 97, Char.ofNat 109, Char.ofNat 112, Char.ofNat 108, Char.ofNat 101, Char.ofNat 47, Char.ofNat 101, Char.ofNat 110, Char.ofNat 116, Char.ofNat 97, Char.ofNat 105, Char.ofNat 108, Char.ofNat 47, Char.ofNat 108, Char.ofNat 97, Char.ofNat 119, Char.ofNat 115, Char.ofNat 46, Char.ofNat 70, Char.ofNat 110, Char.ofNat 84, Char.ofNat 121, Char.ofNat 112, Char.ofNat 101, Char.ofNat 79, Char.ofNat 114, Char.ofNat 100, Char.ofNat 101, Char.ofNat 114, Char.ofNat 32, Char.ofNat 108, Char.ofNat 111, Char.ofNat 111, Char.ofNat 112, Char.ofNat 46, Char.ofNat 101, Char.ofNat 120, Char.ofNat 97, Char.ofNat 109, Char.ofNat 112, Char.ofNat 108, Char.ofNat 101, Char.ofNat 47, Char.ofNat 101, Char.ofNat 110, Char.ofNat 116, Char.ofNat 97, Char.ofNat 105, Char.ofNat 108, Char.ofNat 47, Char.ofNat 108, Char.ofNat 97, Char.ofNat 119, Char.ofNat 115, Char.ofNat 46, Char.ofNat 70, Char.ofNat 110, Char.ofNat 67, Char.ofNat 108, Char.ofNat 97, Char.ofNat 115, Char.ofNat 115, Char.ofNat 74, Char.ofNat 111, Char.ofNat 105, Char.ofNat 110, Char.ofNat 32, Char.ofNat 108, Char.ofNat 111, Char.ofNat 111, Char.ofNat 112, Char.ofNat 46, Char.ofNat 101, Char.ofNat 120, Char.ofNat 97, Char.ofNat 109, Char.ofNat 112, Char.ofNat 108, Char.ofNat 101, Char.ofNat 47, Char.ofNat 101, Char.ofNat 110, Char.ofNat 116, Char.ofNat 97, Char.ofNat 105, Char.ofNat 108, Char.ofNat 47, Char.ofNat 108, Char.ofNat 97, Char.ofNat 119, Char.ofNat 115, Char.ofNat 46, Char.ofNat 70, Char.ofNat 110, Char.ofNat 69, Char.ofNat 120, Char.ofNat 97, Char.ofNat 99, Char.ofNat 116, Char.ofNat 67, Char.ofNat 108, Char.ofNat 97, Char.ofNat 115, Char.ofNat 115, Char.ofNat 74, Char.ofNat 111, Char.ofNat 105, Char.ofNat 110, Char.ofNat 32, Char.ofNat 108, Char.ofNat 111, Char.ofNat 111, Char.ofNat 112, Char.ofNat 46, Char.ofNat 101, Char.ofNat 120, Char.ofNat 97, Char.ofNat 109, Char.ofNat 112, Char.ofNat 108, Char.ofNat 101, Char.ofNat 47, Char.ofNat 101, Char.ofNat 110, Char.ofNat 116, Char.ofNat 97, Char.ofNat 105, Char.ofNat 108, Char.ofNat 47, Char.ofNat 108, Char.ofNat 97, Char.ofNat 119, Char.ofNat 115, Char.ofNat 46, Char.ofNat 70, Char.ofNat 110, Char.ofNat 69, Char.ofNat 120, Char.ofNat 97, Char.ofNat 99, Char.ofNat 116, Char.ofNat 83, Char.ofNat 104, Char.ofNat 97, Char.ofNat 112, Char.ofNat 101, Char.ofNat 79, Char.ofNat 107, Char.ofNat 32, Char.ofNat 108, Char.ofNat 111, Char.ofNat 111, Char.ofNat 112, Char.ofNat 46, Char.ofNat 101, Char.ofNat 120, Char.ofNat 97, Char.ofNat 109, Char.ofNat 112, Char.ofNat 108, Char.ofNat 101, Char.ofNat 47, Char.ofNat 101, Char.ofNat 110, Char.ofNat 116, Char.ofNat 97, Char.ofNat 105, Char.ofNat 108, Char.ofNat 47, Char.ofNat 108, Char.ofNat 97, Char.ofNat 119, Char.ofNat 115, Char.ofNat 46, Char.ofNat 70, Char.ofNat 110, Char.ofNat 67, Char.ofNat 108, Char.ofNat 97, Char.ofNat 115, Char.ofNat 115, Char.ofNat 101, Char.ofNat 115, Char.ofNat 77, Char.ofNat 111, Char.ofNat 114, Char.ofNat 101, Char.ofNat 32, Char.ofNat 108, Char.ofNat 111, Char.ofNat 111, Char.ofNat 112, Char.ofNat 46, Char.ofNat 101, Char.ofNat 120, Char.ofNat 97, Char.ofNat 109, Char.ofNat 112, Char.ofNat 108, Char.ofNat 101, Char.ofNat 47, Char.ofNat 101, Char.ofNat 110, Char.ofNat 116, Char.ofNat 97, Char.ofNat 105, Char.ofNat 108, Char.ofNat 47, Char.ofNat 108, Char.ofNat 97, Char.ofNat 119, Char.ofNat 115, Char.ofNat 46, Char.ofNat 70, Char.ofNat 110, Char.ofNat 83, Char.ofNat 104, Char.ofNat 97, Char.ofNat 112, Char.ofNat 101, Char.ofNat 79, Char.ofNat 107, Char.ofNat 32, Char.ofNat 108, Char.ofNat 111, Char.ofNat 111, Char.ofNat 112, Char.ofNat 46, Char.ofNat 101, Char.ofNat 120, Char.ofNat 97, Char.ofNat 109, Char.ofNat 112, Char.ofNat 108, Char.ofNat 101, Char.ofNat 47, Char.ofNat 101, Char.ofNat 110, Char.ofNat 116, Char.ofNat 97, Char.ofNat 105, Char.ofNat 108, Char.ofNat 47, Char.ofNat 108, Char.ofNat 97, Char.ofNat 119, Char.ofNat 115, Char.ofNat 46, Char.ofNat 70, Char.ofNat 110, Char.ofNat 69, Char.ofNat 120, Char.ofNat 97, Char.ofNat 99, Char.ofNat 116, Char.ofNat 83, Char.ofNat 104, Char.ofNat 97, Char.ofNat 112, Char.ofNat 101, Char.ofNat 73, Char.ofNat 110, Char.ofNat 32, Char.ofNat 108, Char.ofNat 111, Char.ofNat 111, Char.ofNat 112, Char.ofNat 46, Char.ofNat 101, Char.ofNat 120, Char.ofNat 97, Char.ofNat 109, Char.ofNat 112, Char.ofNat 108, Char.ofNat 101, Char.ofNat 47, Char.ofNat 101, Char.ofNat 110, Char.ofNat 116, Char.ofNat 97, Char.ofNat 105, Char.ofNat 108, Char.ofNat 47, Char.ofNat 108, Char.ofNat 97, Char.ofNat 119, Char.ofNat 115, Char.ofNat 46, Char.ofNat 70, Char.ofNat 110, Char.ofNat 83, Char.ofNat 104, Char.ofNat 97, Char.ofNat 112, Char.ofNat 101, Char.ofNat 79, Char.ofNat 114, Char.ofNat 100, Char.ofNat 101, Char.ofNat 114]
def headWords : List (List Char) := [[Char.ofNat 104, Char.ofNat 97, Char.ofNat 114, Char.ofNat 110, Char.ofNat 101, Char.ofNat 115, Char.ofNat 115], [Char.ofNat 53, Char.ofNat 54, Char.ofNat 54, Char.ofNat 100, Char.ofNat 55, Char.ofNat 100, Char.ofNat 56, Char.ofNat 98, Char.ofNat 99, Char.ofNat 57, Char.ofNat 54, Char.ofNat 54, Char.ofNat 100, Char.ofNat 56, Char.ofNat 97, Char.ofNat 54, Char.ofNat 55, Char.ofNat 52, Char.ofNat 51, Char.ofNat 50, Char.ofNat 51, Char.ofNat 55, Char.ofNat 51, Char.ofNat 48, Char.ofNat 99, Char.ofNat 48, Char.ofNat 55, Char.ofNat 57, Char.ofNat 51, Char.ofNat 97, Char.ofNat 51, Char.ofNat 97, Char.ofNat 50, Char.ofNat 97, Char.ofNat 55, Char.ofNat 51, Char.ofNat 56, Char.ofNat 100, Char.ofNat 102, Char.ofNat 101, Char.ofNat 101, Char.ofNat 102, Char.ofNat 98, Char.ofNat 50, Char.ofNat 51, Char.ofNat 48, Char.ofNat 56, Char.ofNat 99, Char.ofNat 52, Char.ofNat 98, Char.ofNat 52, Char.ofNat 57, Char.ofNat 50, Char.ofNat 54, Char.ofNat 50, Char.ofNat 98, Char.ofNat 55, Char.ofNat 101, Char.ofNat 102, Char.ofNat 101, Char.ofNat 56, Char.ofNat 49, Char.ofNat 56, Char.ofNat 99], [Char.ofNat 99, Char.ofNat 117, Char.ofNat 116], [Char.ofNat 97, Char.ofNat 116], [Char.ofNat 108, Char.ofNat 111, Char.ofNat 111, Char.ofNat 112, Char.ofNat 46, Char.ofNat 101, Char.ofNat 120, Char.ofNat 97, Char.ofNat 109, Char.ofNat 112, Char.ofNat 108, Char.ofNat 101, Char.ofNat 47, Char.ofNat 101, Char.ofNat 110, Char.ofNat 116, Char.ofNat 97, Char.ofNat 105, Char.ofNat 108, Char.ofNat 47, Char.ofNat 108, Char.ofNat 97, Char.ofNat 119, Char.ofNat 115, Char.ofNat 46, Char.ofNat 70, Char.ofNat 110, Char.ofNat 69, Char.ofNat 120, Char.ofNat 97, Char.ofNat 99, Char.ofNat 116, Char.ofNat 67, Char.ofNat 108, Char.ofNat 97, Char.ofNat 115, Char.ofNat 115, Char.ofNat 101, Char.ofNat 115, Char.ofNat 79, Char.ofNat 107], [Char.ofNat 108, Char.ofNat 111, Char.ofNat 111, Char.ofNat 112, Char.ofNat 46, Char.ofNat 101, Char.ofNat 120, Char.ofNat 97, Char.ofNat 109, Char.ofNat 112, Char.ofNat 108, Char.ofNat 101, Char.ofNat 47, Char.ofNat 101, Char.ofNat 110, Char.ofNat 116, Char.ofNat 97, Char.ofNat 105, Char.ofNat 108, Char.ofNat 47, Char.ofNat 108, Char.ofNat 97, Char.ofNat 119, Char.ofNat 115, Char.ofNat 46, Char.ofNat 70, Char.ofNat 110, Char.ofNat 69, Char.ofNat 120, Char.ofNat 97, Char.ofNat 99, Char.ofNat 116, Char.ofNat 84, Char.ofNat 121, Char.ofNat 112, Char.ofNat 101, Char.ofNat 79, Char.ofNat 107], [Char.ofNat 108, Char.ofNat 111, Char.ofNat 111, Char.ofNat 112, Char.ofNat 46, Char.ofNat 101, Char.ofNat 120, Char.ofNat 97, Char.ofNat 109, Char.ofNat 112, Char.ofNat 108, Char.ofNat 101, Char.ofNat 47, Char.ofNat 101, Char.ofNat 110, Char.ofNat 116, Char.ofNat 97, Char.ofNat 105, Char.ofNat 108, Char.ofNat 47, Char.ofNat 108, Char.ofNat 97, Char.ofNat 119, Char.ofNat 115, Char.ofNat 46, Char.ofNat 70, Char.ofNat 110, Char.ofNat 85, Char.ofNat 112, Char.ofNat 79, Char.ofNat 114, Char.ofNat 100, Char.ofNat 101, Char.ofNat 114], [Char.ofNat 108, Char.ofNat 111, Char.ofNat 111, Char.ofNat 112, Char.ofNat 46, Char.ofNat 101, Char.ofNat 120, Char.ofNat 97, Char.ofNat 109, Char.ofNat 112, Char.ofNat 108, Char.ofNat 101, Char.ofNat 47, Char.ofNat 101, Char.ofNat 110, Char.ofNat 116, Char.ofNat 97, Char.ofNat 105, Char.ofNat 108, Char.ofNat 47, Char.ofNat 108, Char.ofNat 97, Char.ofNat 119, Char.ofNat 115, Char.ofNat 46, Char.ofNat 70, Char.ofNat 110, Char.ofNat 85, Char.ofNat 112, Char.ofNat 83, Char.ofNat 116, Char.ofNat 101, Char.ofNat 112], [Char.ofNat 108, Char.ofNat 111, Char.ofNat 111, Char.ofNat 112, Char.ofNat 46, Char.ofNat 101, Char.ofNat 120, Char.ofNat 97, Char.ofNat 109, Char.ofNat 112, Char.ofNat 108, Char.ofNat 101, Char.ofNat 47, Char.ofNat 101, Char.ofNat 110, Char.ofNat 116, Char.ofNat 97, Char.ofNat 105, Char.ofNat 108, Char.ofNat 47, Char.ofNat 108, Char.ofNat 97, Char.ofNat 119, Char.ofNat 115, Char.ofNat 46, Char.ofNat 70, Char.ofNat 110, Char.ofNat 69, Char.ofNat 120, Char.ofNat 97, Char.ofNat 99, Char.ofNat 116, Char.ofNat 67, Char.ofNat 108, Char.ofNat 97, Char.ofNat 115, Char.ofNat 115, Char.ofNat 85, Char.ofNat 112], [Char.ofNat 108, Char.ofNat 111, Char.ofNat 111, Char.ofNat 112, Char.ofNat 46, Char.ofNat 101, Char.ofNat 120, Char.ofNat 97, Char.ofNat 109, Char.ofNat 112, Char.ofNat 108, Char.ofNat 101, Char.ofNat 47, Char.ofNat 101, Char.ofNat 110, Char.ofNat 116, Char.ofNat 97, Char.ofNat 105, Char.ofNat 108, Char.ofNat 47, Char.ofNat 108, Char.ofNat 97, Char.ofNat 119, Char.ofNat 115, Char.ofNat 46, Char.ofNat 70, Char.ofNat 110, Char.ofNat 70, Char.ofNat 105, Char.ofNat 101, Char.ofNat 108, Char.ofNat 100, Char.ofNat 115, Char.ofNat 65, Char.ofNat 98, Char.ofNat 111, Char.ofNat 118, Char.ofNat 101], [Char.ofNat 108, Char.ofNat 111, Char.ofNat 111, Char.ofNat 112, Char.ofNat 46, Char.ofNat 101, Char.ofNat 120, Char.ofNat 97, Char.ofNat 109, Char.ofNat 112, Char.ofNat 108, Char.ofNat 101, Char.ofNat 47, Char.ofNat 101, Char.ofNat 110, Char.ofNat 116, Char.ofNat 97, Char.ofNat 105, Char.ofNat 108, Char.ofNat 47, Char.ofNat 108, Char.ofNat 97, Char.ofNat 119, Char.ofNat 115, Char.ofNat 46, Char.ofNat 70, Char.ofNat 110, Char.ofNat 84, Char.ofNat 121, Char.ofNat 112, Char.ofNat 101, Char.ofNat 67, Char.ofNat 108, Char.ofNat 97, Char.ofNat 115, Char.ofNat 115], [Char.ofNat 108, Char.ofNat 111, Char.ofNat 111, Char.ofNat 112, Char.ofNat 46, Char.ofNat 101, Char.ofNat 120, Char.ofNat 97, Char.ofNat 109, Char.ofNat 112, Char.ofNat 108, Char.ofNat 101, Char.ofNat 47, Char.ofNat 101, Char.ofNat 110, Char.ofNat 116, Char.ofNat 97, Char.ofNat 105, Char.ofNat 108, Char.ofNat 47, Char.ofNat 108, Char.ofNat 97, Char.ofNat 119, Char.ofNat 115, Char.ofNat 46, Char.ofNat 70, Char.ofNat 110, Char.ofNat 69, Char.ofNat 120, Char.ofNat 97, Char.ofNat 99, Char.ofNat 116, Char.ofNat 67, Char.ofNat 108, Char.ofNat 97, Char.ofNat 115, Char.ofNat 115, Char.ofNat 70, Char.ofNat 105, Char.ofNat 101, Char.ofNat 108, Char.ofNat 100, Char.ofNat 115], [Char.ofNat 108, Char.ofNat 111, Char.ofNat 111, Char.ofNat 112, Char.ofNat 46, Char.ofNat 101, Char.ofNat 120, Char.ofNat 97, Char.ofNat 109, Char.ofNat 112, Char.ofNat 108, Char.ofNat 101, Char.ofNat 47, Char.ofNat 101, Char.ofNat 110, Char.ofNat 116, Char.ofNat 97, Char.ofNat 105, Char.ofNat 108, Char.ofNat 47, Char.ofNat 108, Char.ofNat 97, Char.ofNat 119, Char.ofNat 115, Char.ofNat 46, Char.ofNat 70, Char.ofNat 110, Char.ofNat 69, Char.ofNat 120, Char.ofNat 97, Char.ofNat 99, Char.ofNat 116, Char.ofNat 84, Char.ofNat 121, Char.ofNat 112, Char.ofNat 101, Char.ofNat 73, Char.ofNat 110], [Char.ofNat 108, Char.ofNat 111, Char.ofNat 111, Char.ofNat 112, Char.ofNat 46, Char.ofNat 101, Char.ofNat 120, Char.ofNat 97, Char.ofNat 109, Char.ofNat 112, Char.ofNat 108, Char.ofNat 101, Char.ofNat 47, Char.ofNat 101, Char.ofNat 110, Char.ofNat 116, Char.ofNat 97, Char.ofNat 105, Char.ofNat 108, Char.ofNat 47, Char.ofNat 108, Char.ofNat 97, Char.ofNat 119, Char.ofNat 115, Char.ofNat 46, Char.ofNat 70, Char.ofNat 110, Char.ofNat 84, Char.ofNat 121, Char.ofNat 112, Char.ofNat 101, Char.ofNat 79, Char.ofNat 114, Char.ofNat 100, Char.ofNat 101, Char.ofNat 114], [Char.ofNat 108, Char.ofNat 111, Char.ofNat 111, Char.ofNat 112, Char.ofNat 46, Char.ofNat 101, Char.ofNat 120, Char.ofNat 97, Char.ofNat 109, Char.ofNat 112, Char.ofNat 108, Char.ofNat 101, Char.ofNat 47, Char.ofNat 101, Char.ofNat 110, Char.ofNat 116, Char.ofNat 97, Char.ofNat 105, Char.ofNat 108, Char.ofNat 47, Char.ofNat 108, Char.ofNat 97, Char.ofNat 119, Char.ofNat 115, Char.ofNat 46, Char.ofNat 70, Char.ofNat 110, Char.ofNat 67, Char.ofNat 108, Char.ofNat 97, Char.ofNat 115, Char.ofNat 115, Char.ofNat 74, Char.ofNat 111, Char.ofNat 105, Char.ofNat 110], [Char.ofNat 108, Char.ofNat 111, Char.ofNat 111, Char.ofNat 112, Char.ofNat 46, Char.ofNat 101, Char.ofNat 120, Char.ofNat 97, Char.ofNat 109, Char.ofNat 112, Char.ofNat 108, Char.ofNat 101, Char.ofNat 47, Char.ofNat 101, Char.ofNat 110, Char.ofNat 116, Char.ofNat 97, Char.ofNat 105, Char.ofNat 108, Char.ofNat 47, Char.ofNat 108, Char.ofNat 97, Char.ofNat 119, Char.ofNat 115, Char.ofNat 46, Char.ofNat 70, Char.ofNat 110, Char.ofNat 69, Char.ofNat 120, Char.ofNat 97, Char.ofNat 99, Char.ofNat 116, Char.ofNat 67, Char.ofNat 108, Char.ofNat 97, Char.ofNat 115, Char.ofNat 115, Char.ofNat 74, Char.ofNat 111, Char.ofNat 105, Char.ofNat 110], [Char.ofNat 108, Char.ofNat 111, Char.ofNat 111, Char.ofNat 112, Char.ofNat 46, Char.ofNat 101, Char.ofNat 120, Char.ofNat 97, Char.ofNat 109, Char.ofNat 112, Char.ofNat 108, Char.ofNat 101, Char.ofNat 47, Char.ofNat 101, Char.ofNat 110, Char.ofNat 116, Char.ofNat 97, Char.ofNat 105, Char.ofNat 108, Char.ofNat 47, Char.ofNat 108, Char.ofNat 97, Char.ofNat 119, Char.ofNat 115, Char.ofNat 46, Char.ofNat 70, Char.ofNat 110, Char.ofNat 69, Char.ofNat 120, Char.ofNat 97, Char.ofNat 99, Char.ofNat 116, Char.ofNat 83, Char.ofNat 104, Char.ofNat 97, Char.ofNat 112, Char.ofNat 101, Char.ofNat 79, Char.ofNat 107], [Char.ofNat 108, Char.ofNat 111, Char.ofNat 111, Char.ofNat 112, Char.ofNat 46, Char.ofNat 101, Char.ofNat 120, Char.ofNat 97, Char.ofNat 109, Char.ofNat 112, Char.ofNat 108, Char.ofNat 101, Char.ofNat 47, Char.ofNat 101, Char.ofNat 110, Char.ofNat 116, Char.ofNat 97, Char.ofNat 105, Char.ofNat 108, Char.ofNat 47, Char.ofNat 108, Char.ofNat 97, Char.ofNat 119, Char.ofNat 115, Char.ofNat 46, Char.ofNat 70, Char.ofNat 110, Char.ofNat 67, Char.ofNat 108, Char.ofNat 97, Char.ofNat 115, Char.ofNat 115, Char.ofNat 101, Char.ofNat 115, Char.ofNat 77, Char.ofNat 111, Char.ofNat 114, Char.ofNat 101], [Char.ofNat 108, Char.ofNat 111, Char.ofNat 111, Char.ofNat 112, Char.ofNat 46, Char.ofNat 101, Char.ofNat 120, Char.ofNat 97, Char.ofNat 109, Char.ofNat 112, Char.ofNat 108, Char.ofNat 101, Char.ofNat 47, Char.ofNat 101, Char.ofNat 110, Char.ofNat 116, Char.ofNat 97, Char.ofNat 105, Char.ofNat 108, Char.ofNat 47, Char.ofNat 108, Char.ofNat 97, Char.ofNat 119, Char.ofNat 115, Char.ofNat 46, Char.ofNat 70, Char.ofNat 110, Char.ofNat 83, Char.ofNat 104, Char.ofNat 97, Char.ofNat 112, Char.ofNat 101, Char.ofNat 79, Char.ofNat 107], [Char.ofNat 108, Char.ofNat 111, Char.ofNat 111, Char.ofNat 112, Char.ofNat 46, Char.ofNat 101, Char.ofNat 120, Char.ofNat 97, Char.ofNat 109, Char.ofNat 112, Char.ofNat 108, Char.ofNat 101, Char.ofNat 47, Char.ofNat 101, Char.ofNat 110, Char.ofNat 116, Char.ofNat 97, Char.ofNat 105, Char.ofNat 108, Char.ofNat 47, Char.ofNat 108, Char.ofNat 97, Char.ofNat 119, Char.ofNat 115, Char.ofNat 46, Char.ofNat 70, Char.ofNat 110, Char.ofNat 69, Char.ofNat 120, Char.ofNat 97, Char.ofNat 99, Char.ofNat 116, Char.ofNat 83, Char.ofNat 104, Char.ofNat 97, Char.ofNat 112, Char.ofNat 101, Char.ofNat 73, Char.ofNat 110], [Char.ofNat 108, Char.ofNat 111, Char.ofNat 111, Char.ofNat 112, Char.ofNat 46, Char.ofNat 101, Char.ofNat 120, Char.ofNat 97, Char.ofNat 109, Char.ofNat 112, Char.ofNat 108, Char.ofNat 101, Char.ofNat 47, Char.ofNat 101, Char.ofNat 110, Char.ofNat 116, Char.ofNat 97, Char.ofNat 105, Char.ofNat 108, Char.ofNat 47, Char.ofNat 108, Char.ofNat 97, Char.ofNat 119, Char.ofNat 115, Char.ofNat 46, Char.ofNat 70, Char.ofNat 110, Char.ofNat 83, Char.ofNat 104, Char.ofNat 97, Char.ofNat 112, Char.ofNat 101, Char.ofNat 79, Char.ofNat 114, Char.ofNat 100, Char.ofNat 101, Char.ofNat 114]]
theorem head_is : Try.prog.initOrder.toList = headChars := by
  have h : Try.prog.initOrder = String.ofList headChars := by kernel_rfl
  rw [h, String.toList_ofList]
def rootWords : List (List Char) := [[Char.ofNat 97, Char.ofNat 116], [Char.ofNat 108, Char.ofNat 111, Char.ofNat 111, Char.ofNat 112, Char.ofNat 46, Char.ofNat 101, Char.ofNat 120, Char.ofNat 97, Char.ofNat 109, Char.ofNat 112, Char.ofNat 108, Char.ofNat 101, Char.ofNat 47, Char.ofNat 101, Char.ofNat 110, Char.ofNat 116, Char.ofNat 97, Char.ofNat 105, Char.ofNat 108, Char.ofNat 47, Char.ofNat 108, Char.ofNat 97, Char.ofNat 119, Char.ofNat 115, Char.ofNat 46, Char.ofNat 70, Char.ofNat 110, Char.ofNat 69, Char.ofNat 120, Char.ofNat 97, Char.ofNat 99, Char.ofNat 116, Char.ofNat 67, Char.ofNat 108, Char.ofNat 97, Char.ofNat 115, Char.ofNat 115, Char.ofNat 101, Char.ofNat 115, Char.ofNat 79, Char.ofNat 107], [Char.ofNat 108, Char.ofNat 111, Char.ofNat 111, Char.ofNat 112, Char.ofNat 46, Char.ofNat 101, Char.ofNat 120, Char.ofNat 97, Char.ofNat 109, Char.ofNat 112, Char.ofNat 108, Char.ofNat 101, Char.ofNat 47, Char.ofNat 101, Char.ofNat 110, Char.ofNat 116, Char.ofNat 97, Char.ofNat 105, Char.ofNat 108, Char.ofNat 47, Char.ofNat 108, Char.ofNat 97, Char.ofNat 119, Char.ofNat 115, Char.ofNat 46, Char.ofNat 70, Char.ofNat 110, Char.ofNat 69, Char.ofNat 120, Char.ofNat 97, Char.ofNat 99, Char.ofNat 116, Char.ofNat 84, Char.ofNat 121, Char.ofNat 112, Char.ofNat 101, Char.ofNat 79, Char.ofNat 107], [Char.ofNat 108, Char.ofNat 111, Char.ofNat 111, Char.ofNat 112, Char.ofNat 46, Char.ofNat 101, Char.ofNat 120, Char.ofNat 97, Char.ofNat 109, Char.ofNat 112, Char.ofNat 108, Char.ofNat 101, Char.ofNat 47, Char.ofNat 101, Char.ofNat 110, Char.ofNat 116, Char.ofNat 97, Char.ofNat 105, Char.ofNat 108, Char.ofNat 47, Char.ofNat 108, Char.ofNat 97, Char.ofNat 119, Char.ofNat 115, Char.ofNat 46, Char.ofNat 70, Char.ofNat 110, Char.ofNat 85, Char.ofNat 112, Char.ofNat 79, Char.ofNat 114, Char.ofNat 100, Char.ofNat 101, Char.ofNat 114], [Char.ofNat 108, Char.ofNat 111, Char.ofNat 111, Char.ofNat 112, Char.ofNat 46, Char.ofNat 101, Char.ofNat 120, Char.ofNat 97, Char.ofNat 109, Char.ofNat 112, Char.ofNat 108, Char.ofNat 101, Char.ofNat 47, Char.ofNat 101, Char.ofNat 110, Char.ofNat 116, Char.ofNat 97, Char.ofNat 105, Char.ofNat 108, Char.ofNat 47, Char.ofNat 108, Char.ofNat 97, Char.ofNat 119, Char.ofNat 115, Char.ofNat 46, Char.ofNat 70, Char.ofNat 110, Char.ofNat 85, Char.ofNat 112, Char.ofNat 83, Char.ofNat 116, Char.ofNat 101, Char.ofNat 112], [Char.ofNat 108, Char.ofNat 111, Char.ofNat 111, Char.ofNat 112, Char.ofNat 46, Char.ofNat 101, Char.ofNat 120, Char.ofNat 97, Char.ofNat 109, Char.ofNat 112, Char.ofNat 108, Char.ofNat 101, Char.ofNat 47, Char.ofNat 101, Char.ofNat 110, Char.ofNat 116, Char.ofNat 97, Char.ofNat 105, Char.ofNat 108, Char.ofNat 47, Char.ofNat 108, Char.ofNat 97, Char.ofNat 119, Char.ofNat 115, Char.ofNat 46, Char.ofNat 70, Char.ofNat 110, Char.ofNat 69, Char.ofNat 120, Char.ofNat 97, Char.ofNat 99, Char.ofNat 116, Char.ofNat 67, Char.ofNat 108, Char.ofNat 97, Char.ofNat 115, Char.ofNat 115, Char.ofNat 85, Char.ofNat 112], [Char.ofNat 108, Char.ofNat 111, Char.ofNat 111, Char.ofNat 112, Char.ofNat 46, Char.ofNat 101, Char.ofNat 120, Char.ofNat 97, Char.ofNat 109, Char.ofNat 112, Char.ofNat 108, Char.ofNat 101, Char.ofNat 47, Char.ofNat 101, Char.ofNat 110, Char.ofNat 116, Char.ofNat 97, Char.ofNat 105, Char.ofNat 108, Char.ofNat 47, Char.ofNat 108, Char.ofNat 97, Char.ofNat 119, Char.ofNat 115, Char.ofNat 46, Char.ofNat 70, Char.ofNat 110, Char.ofNat 70, Char.ofNat 105, Char.ofNat 101, Char.ofNat 108, Char.ofNat 100, Char.ofNat 115, Char.ofNat 65, Char.ofNat 98, Char.ofNat 111, Char.ofNat 118, Char.ofNat 101], [Char.ofNat 108, Char.ofNat 111, Char.ofNat 111, Char.ofNat 112, Char.ofNat 46, Char.ofNat 101, Char.ofNat 120, Char.ofNat 97, Char.ofNat 109, Char.ofNat 112, Char.ofNat 108, Char.ofNat 101, Char.ofNat 47, Char.ofNat 101, Char.ofNat 110, Char.ofNat 116, Char.ofNat 97, Char.ofNat 105, Char.ofNat 108, Char.ofNat 47, Char.ofNat 108, Char.ofNat 97, Char.ofNat 119, Char.ofNat 115, Char.ofNat 46, Char.ofNat 70, Char.ofNat 110, Char.ofNat 84, Char.ofNat 121, Char.ofNat 112, Char.ofNat 101, Char.ofNat 67, Char.ofNat 108, Char.ofNat 97, Char.ofNat 115, Char.ofNat 115], [Char.ofNat 108, Char.ofNat 111, Char.ofNat 111, Char.ofNat 112, Char.ofNat 46, Char.ofNat 101, Char.ofNat 120, Char.ofNat 97, Char.ofNat 109, Char.ofNat 112, Char.ofNat 108, Char.ofNat 101, Char.ofNat 47, Char.ofNat 101, Char.ofNat 110, Char.ofNat 116, Char.ofNat 97, Char.ofNat 105, Char.ofNat 108, Char.ofNat 47, Char.ofNat 108, Char.ofNat 97, Char.ofNat 119, Char.ofNat 115, Char.ofNat 46, Char.ofNat 70, Char.ofNat 110, Char.ofNat 69, Char.ofNat 120, Char.ofNat 97, Char.ofNat 99, Char.ofNat 116, Char.ofNat 67, Char.ofNat 108, Char.ofNat 97, Char.ofNat 115, Char.ofNat 115, Char.ofNat 70, Char.ofNat 105, Char.ofNat 101, Char.ofNat 108, Char.ofNat 100, Char.ofNat 115], [Char.ofNat 108, Char.ofNat 111, Char.ofNat 111, Char.ofNat 112, Char.ofNat 46, Char.ofNat 101, Char.ofNat 120, Char.ofNat 97, Char.ofNat 109, Char.ofNat 112, Char.ofNat 108, Char.ofNat 101, Char.ofNat 47, Char.ofNat 101, Char.ofNat 110, Char.ofNat 116, Char.ofNat 97, Char.ofNat 105, Char.ofNat 108, Char.ofNat 47, Char.ofNat 108, Char.ofNat 97, Char.ofNat 119, Char.ofNat 115, Char.ofNat 46, Char.ofNat 70, Char.ofNat 110, Char.ofNat 69, Char.ofNat 120, Char.ofNat 97, Char.ofNat 99, Char.ofNat 116, Char.ofNat 84, Char.ofNat 121, Char.ofNat 112, Char.ofNat 101, Char.ofNat 73, Char.ofNat 110], [Char.ofNat 108, Char.ofNat 111, Char.ofNat 111, Char.ofNat 112, Char.ofNat 46, Char.ofNat 101, Char.ofNat 120, Char.ofNat 97, Char.ofNat 109, Char.ofNat 112, Char.ofNat 108, Char.ofNat 101, Char.ofNat 47, Char.ofNat 101, Char.ofNat 110, Char.ofNat 116, Char.ofNat 97, Char.ofNat 105, Char.ofNat 108, Char.ofNat 47, Char.ofNat 108, Char.ofNat 97, Char.ofNat 119, Char.ofNat 115, Char.ofNat 46, Char.ofNat 70, Char.ofNat 110, Char.ofNat 84, Char.ofNat 121, Char.ofNat 112, Char.ofNat 101, Char.ofNat 79, Char.ofNat 114, Char.ofNat 100, Char.ofNat 101, Char.ofNat 114], [Char.ofNat 108, Char.ofNat 111, Char.ofNat 111, Char.ofNat 112, Char.ofNat 46, Char.ofNat 101, Char.ofNat 120, Char.ofNat 97, Char.ofNat 109, Char.ofNat 112, Char.ofNat 108, Char.ofNat 101, Char.ofNat 47, Char.ofNat 101, Char.ofNat 110, Char.ofNat 116, Char.ofNat 97, Char.ofNat 105, Char.ofNat 108, Char.ofNat 47, Char.ofNat 108, Char.ofNat 97, Char.ofNat 119, Char.ofNat 115, Char.ofNat 46, Char.ofNat 70, Char.ofNat 110, Char.ofNat 67, Char.ofNat 108, Char.ofNat 97, Char.ofNat 115, Char.ofNat 115, Char.ofNat 74, Char.ofNat 111, Char.ofNat 105, Char.ofNat 110], [Char.ofNat 108, Char.ofNat 111, Char.ofNat 111, Char.ofNat 112, Char.ofNat 46, Char.ofNat 101, Char.ofNat 120, Char.ofNat 97, Char.ofNat 109, Char.ofNat 112, Char.ofNat 108, Char.ofNat 101, Char.ofNat 47, Char.ofNat 101, Char.ofNat 110, Char.ofNat 116, Char.ofNat 97, Char.ofNat 105, Char.ofNat 108, Char.ofNat 47, Char.ofNat 108, Char.ofNat 97, Char.ofNat 119, Char.ofNat 115, Char.ofNat 46, Char.ofNat 70, Char.ofNat 110, Char.ofNat 69, Char.ofNat 120, Char.ofNat 97, Char.ofNat 99, Char.ofNat 116, Char.ofNat 67, Char.ofNat 108, Char.ofNat 97, Char.ofNat 115, Char.ofNat 115, Char.ofNat 74, Char.ofNat 111, Char.ofNat 105, Char.ofNat 110], [Char.ofNat 108, Char.ofNat 111, Char.ofNat 111, Char.ofNat 112, Char.ofNat 46, Char.ofNat 101, Char.ofNat 120, Char.ofNat 97, Char.ofNat 109, Char.ofNat 112, Char.ofNat 108, Char.ofNat 101, Char.ofNat 47, Char.ofNat 101, Char.ofNat 110, Char.ofNat 116, Char.ofNat 97, Char.ofNat 105, Char.ofNat 108, Char.ofNat 47, Char.ofNat 108, Char.ofNat 97, Char.ofNat 119, Char.ofNat 115, Char.ofNat 46, Char.ofNat 70, Char.ofNat 110, Char.ofNat 69, Char.ofNat 120, Char.ofNat 97, Char.ofNat 99, Char.ofNat 116, Char.ofNat 83, Char.ofNat 104, Char.ofNat 97, Char.ofNat 112, Char.ofNat 101, Char.ofNat 79, Char.ofNat 107], [Char.ofNat 108, Char.ofNat 111, Char.ofNat 111, Char.ofNat 112, Char.ofNat 46, Char.ofNat 101, Char.ofNat 120, Char.ofNat 97, Char.ofNat 109, Char.ofNat 112, Char.ofNat 108, Char.ofNat 101, Char.ofNat 47, Char.ofNat 101, Char.ofNat 110, Char.ofNat 116, Char.ofNat 97, Char.ofNat 105, Char.ofNat 108, Char.ofNat 47, Char.ofNat 108, Char.ofNat 97, Char.ofNat 119, Char.ofNat 115, Char.ofNat 46, Char.ofNat 70, Char.ofNat 110, Char.ofNat 67, Char.ofNat 108, Char.ofNat 97, Char.ofNat 115, Char.ofNat 115, Char.ofNat 101, Char.ofNat 115, Char.ofNat 77, Char.ofNat 111, Char.ofNat 114, Char.ofNat 101], [Char.ofNat 108, Char.ofNat 111, Char.ofNat 111, Char.ofNat 112, Char.ofNat 46, Char.ofNat 101, Char.ofNat 120, Char.ofNat 97, Char.ofNat 109, Char.ofNat 112, Char.ofNat 108, Char.ofNat 101, Char.ofNat 47, Char.ofNat 101, Char.ofNat 110, Char.ofNat 116, Char.ofNat 97, Char.ofNat 105, Char.ofNat 108, Char.ofNat 47, Char.ofNat 108, Char.ofNat 97, Char.ofNat 119, Char.ofNat 115, Char.ofNat 46, Char.ofNat 70, Char.ofNat 110, Char.ofNat 83, Char.ofNat 104, Char.ofNat 97, Char.ofNat 112, Char.ofNat 101, Char.ofNat 79, Char.ofNat 107], [Char.ofNat 108, Char.ofNat 111, Char.ofNat 111, Char.ofNat 112, Char.ofNat 46, Char.ofNat 101, Char.ofNat 120, Char.ofNat 97, Char.ofNat 109, Char.ofNat 112, Char.ofNat 108, Char.ofNat 101, Char.ofNat 47, Char.ofNat 101, Char.ofNat 110, Char.ofNat 116, Char.ofNat 97, Char.ofNat 105, Char.ofNat 108, Char.ofNat 47, Char.ofNat 108, Char.ofNat 97, Char.ofNat 119, Char.ofNat 115, Char.ofNat 46, Char.ofNat 70, Char.ofNat 110, Char.ofNat 69, Char.ofNat 120, Char.ofNat 97, Char.ofNat 99, Char.ofNat 116, Char.ofNat 83, Char.ofNat 104, Char.ofNat 97, Char.ofNat 112, Char.ofNat 101, Char.ofNat 73, Char.ofNat 110], [Char.ofNat 108, Char.ofNat 111, Char.ofNat 111, Char.ofNat 112, Char.ofNat 46, Char.ofNat 101, Char.ofNat 120, Char.ofNat 97, Char.ofNat 109, Char.ofNat 112, Char.ofNat 108, Char.ofNat 101, Char.ofNat 47, Char.ofNat 101, Char.ofNat 110, Char.ofNat 116, Char.ofNat 97, Char.ofNat 105, Char.ofNat 108, Char.ofNat 47, Char.ofNat 108, Char.ofNat 97, Char.ofNat 119, Char.ofNat 115, Char.ofNat 46, Char.ofNat 70, Char.ofNat 110, Char.ofNat 83, Char.ofNat 104, Char.ofNat 97, Char.ofNat 112, Char.ofNat 101, Char.ofNat 79, Char.ofNat 114, Char.ofNat 100, Char.ofNat 101, Char.ofNat 114]]
theorem enter : Try.prog.mayEnter = true := enter_of (L := headChars) (W := headWords) head_is (by kernel_rfl) (c := [Char.ofNat 99, Char.ofNat 117, Char.ofNat 116]) (rest := rootWords) (by kernel_rfl) (by kernel_rfl) (by kernel_rfl) (by kernel_rfl) (by kernel_rfl) (by kernel_rfl)
theorem make : Try.prog.make = some .cut := make_of (L := headChars) (W := headWords) head_is (by kernel_rfl) (c := [Char.ofNat 99, Char.ofNat 117, Char.ofNat 116]) (rest := rootWords) (by kernel_rfl) (by kernel_rfl)
theorem lifts : Try.prog.liftsFinal = false := lifts_of (L := headChars) (W := headWords) head_is (by kernel_rfl) (c := [Char.ofNat 99, Char.ofNat 117, Char.ofNat 116]) (rest := rootWords) (by kernel_rfl) (by kernel_rfl) (by kernel_rfl)
end Go.Proofs.Ytgmjolngnhdafaa

end
section
namespace Go.Proofs.Ytgmjolngnhdafaa.P
open Go.RowKit Go.Proofs.YtgmjolngnhdafaaW.PrintWords Go.Proofs.YtgmjolngnhdafaaW.PrintLast Go.Proofs.YtgmjolngnhdafaaW.PrintMore
attribute [local go_sem] max2_int min2_int max_two min_two max_three min_three max_four min_four
set_option linter.unusedVariables false
set_option linter.unusedSimpArgs false

/-! ### laws_szIntS: function 79 -/
def laws_szIntS.f (l0 : List Int) (a1 : Int) : Option (Int) := if (wrap64 (a1 - (l0.length : Int))) < 0 then (some (-1)) else (some (wrap64 (a1 - (l0.length : Int))))

end Go.Proofs.Ytgmjolngnhdafaa.P

end
section
namespace Go.Proofs.Ytgmjolngnhdafaa.P
open Go.RowKit Go.Proofs.YtgmjolngnhdafaaW.PrintWords Go.Proofs.YtgmjolngnhdafaaW.PrintLast Go.Proofs.YtgmjolngnhdafaaW.PrintMore
attribute [local go_sem] max2_int min2_int max_two min_two max_three min_three max_four min_four
set_option linter.unusedVariables false
set_option linter.unusedSimpArgs false

/-! ### laws_szClass: function 55 -/
def laws_szClass.f (a0_0 : Int) (l0_1 : List Int) (a1 : Int) : Option (Int) := (laws_szIntS.f l0_1 a1).bind fun t102 => (if t102 < 0 then (some (-1)) else (some t102))

end Go.Proofs.Ytgmjolngnhdafaa.P

end
section
namespace Go.Proofs.Ytgmjolngnhdafaa.P
open Go.RowKit Go.Proofs.YtgmjolngnhdafaaW.PrintWords Go.Proofs.YtgmjolngnhdafaaW.PrintLast Go.Proofs.YtgmjolngnhdafaaW.PrintMore
attribute [local go_sem] max2_int min2_int max_two min_two max_three min_three max_four min_four
set_option linter.unusedVariables false
set_option linter.unusedSimpArgs false

/-! ### laws_szClassS: function 20 -/
def laws_szClassS.l0 : Nat → List (S63) → Int → Int → Option (Int)
  | 0, _, _, _ => none
  | k + 1, x0, x1, x5 => if x5 < (x0.length : Int) then (if 0 ≤ x5 then ((laws_szClass.f ((rd_T63 x0 x5).f0) ((rd_T63 x0 x5).f1) x1).bind fun t104 => (if t104 < 0 then (some (-1)) else (laws_szClassS.l0 k x0 t104 (wrap64 (x5 + 1))))) else (none)) else (some x1)
def laws_szClassS.f (k : Nat) (l0 : List (S63)) (a1 : Int) : Option (Int) := if (wrap64 (a1 - (l0.length : Int))) < 0 then (some (-1)) else (laws_szClassS.l0 k l0 (wrap64 (a1 - (l0.length : Int))) 0)
theorem laws_szClassS.mono_l : ∀ k, (∀ y0 y1 y2, LeO (laws_szClassS.l0 k y0 y1 y2) (laws_szClassS.l0 (k + 1) y0 y1 y2))
  | 0 => fun _ _ _ r h => by simp [laws_szClassS.l0] at h
  | k + 1 => by
    have ih0 := laws_szClassS.mono_l k
    · intro y0 y1 y2
      unfold laws_szClassS.l0
      repeat' first
      | (with_reducible exact ih0 _ _ _)
      | (with_reducible exact LeO.refl _)
      | (with_reducible exact LeO.none _)
      | (with_reducible refine LeO.ite ?_ ?_)
      | (with_reducible refine LeO.bind ?_ (fun _ => ?_))
      | exact ih0 _ _ _
      | exact LeO.none _
      | refine LeO.ite ?_ ?_
      | refine LeO.bind ?_ (fun _ => ?_)
theorem laws_szClassS.mono : ∀ a0 a1 k, LeO (laws_szClassS.f k a0 a1) (laws_szClassS.f (k + 1) a0 a1) := by
  intro a0 a1 k
  have ih0 := laws_szClassS.mono_l k
  unfold laws_szClassS.f
  repeat' first
      | (with_reducible exact ih0 _ _ _)
      | (with_reducible exact LeO.refl _)
      | (with_reducible exact LeO.none _)
      | (with_reducible refine LeO.ite ?_ ?_)
      | (with_reducible refine LeO.bind ?_ (fun _ => ?_))
      | exact ih0 _ _ _
      | exact LeO.none _
      | refine LeO.ite ?_ ?_
      | refine LeO.bind ?_ (fun _ => ?_)

end Go.Proofs.Ytgmjolngnhdafaa.P

end
section
namespace Go.Proofs.Ytgmjolngnhdafaa.P
open Go.RowKit Go.Proofs.YtgmjolngnhdafaaW.PrintWords Go.Proofs.YtgmjolngnhdafaaW.PrintLast Go.Proofs.YtgmjolngnhdafaaW.PrintMore
attribute [local go_sem] max2_int min2_int max_two min_two max_three min_three max_four min_four
set_option linter.unusedVariables false
set_option linter.unusedSimpArgs false

/-! ### laws_toIntS: function 80 -/
def laws_toIntS.l0 : Nat → List Int → List Int → Int → Option (List Int)
  | 0, _, _, _ => none
  | k + 1, x0, x3, x4 => if x4 < (x0.length : Int) then (if 0 ≤ x4 then (if x4 < (x3.length : Int) then (laws_toIntS.l0 k x0 (x3.set (x4 : Int).toNat (rd x0 x4)) (wrap64 (x4 + 1))) else (none)) else (none)) else (some x3)
def laws_toIntS.f (k : Nat) (l0 : List Int) : Option (List Int) := if 0 ≤ (l0.length : Int) then (if ((l0.length : Int) : Int).toNat ≤ 35184372088832 then (laws_toIntS.l0 k l0 (List.replicate ((l0.length : Int) : Int).toNat 0) 0) else (none)) else (none)
theorem laws_toIntS.mono_l : ∀ k, (∀ y0 y1 y2, LeO (laws_toIntS.l0 k y0 y1 y2) (laws_toIntS.l0 (k + 1) y0 y1 y2))
  | 0 => fun _ _ _ r h => by simp [laws_toIntS.l0] at h
  | k + 1 => by
    have ih0 := laws_toIntS.mono_l k
    · intro y0 y1 y2
      unfold laws_toIntS.l0
      repeat' first
      | (with_reducible exact ih0 _ _ _)
      | (with_reducible exact LeO.refl _)
      | (with_reducible exact LeO.none _)
      | (with_reducible refine LeO.ite ?_ ?_)
      | (with_reducible refine LeO.bind ?_ (fun _ => ?_))
      | exact ih0 _ _ _
      | exact LeO.none _
      | refine LeO.ite ?_ ?_
      | refine LeO.bind ?_ (fun _ => ?_)
theorem laws_toIntS.mono : ∀ a0 k, LeO (laws_toIntS.f k a0) (laws_toIntS.f (k + 1) a0) := by
  intro a0 k
  have ih0 := laws_toIntS.mono_l k
  unfold laws_toIntS.f
  repeat' first
      | (with_reducible exact ih0 _ _ _)
      | (with_reducible exact LeO.refl _)
      | (with_reducible exact LeO.none _)
      | (with_reducible refine LeO.ite ?_ ?_)
      | (with_reducible refine LeO.bind ?_ (fun _ => ?_))
      | exact ih0 _ _ _
      | exact LeO.none _
      | refine LeO.ite ?_ ?_
      | refine LeO.bind ?_ (fun _ => ?_)

end Go.Proofs.Ytgmjolngnhdafaa.P

end
section
namespace Go.Proofs.Ytgmjolngnhdafaa.P
open Go.RowKit Go.Proofs.YtgmjolngnhdafaaW.PrintWords Go.Proofs.YtgmjolngnhdafaaW.PrintLast Go.Proofs.YtgmjolngnhdafaaW.PrintMore
attribute [local go_sem] max2_int min2_int max_two min_two max_three min_three max_four min_four
set_option linter.unusedVariables false
set_option linter.unusedSimpArgs false

/-! ### laws_toClass: function 58 -/
def laws_toClass.f (k : Nat) (a0_0 : Int) (l0_1 : List Int) : Option (Int × List Int) := (laws_toIntS.f k l0_1).bind fun t122 => (some (a0_0, t122))
theorem laws_toClass.mono : ∀ a0 a1 k, LeO (laws_toClass.f k a0 a1) (laws_toClass.f (k + 1) a0 a1) := by
  intro a0 a1 k
  unfold laws_toClass.f
  repeat' first
      | (with_reducible exact laws_toIntS.mono _ _)
      | (with_reducible exact LeO.refl _)
      | (with_reducible exact LeO.none _)
      | (with_reducible refine LeO.ite ?_ ?_)
      | (with_reducible refine LeO.bind ?_ (fun _ => ?_))
      | exact laws_toIntS.mono _ _
      | exact LeO.none _
      | refine LeO.ite ?_ ?_
      | refine LeO.bind ?_ (fun _ => ?_)

end Go.Proofs.Ytgmjolngnhdafaa.P

end
section
namespace Go.Proofs.Ytgmjolngnhdafaa.P
open Go.RowKit Go.Proofs.YtgmjolngnhdafaaW.PrintWords Go.Proofs.YtgmjolngnhdafaaW.PrintLast Go.Proofs.YtgmjolngnhdafaaW.PrintMore
attribute [local go_sem] max2_int min2_int max_two min_two max_three min_three max_four min_four
set_option linter.unusedVariables false
set_option linter.unusedSimpArgs false

/-! ### laws_toClassS: function 22 -/
def laws_toClassS.l0 : Nat → List (S63) → List (S38) → Int → Option ((List (S38)))
  | 0, _, _, _ => none
  | k + 1, x0, x3, x4 => if x4 < (x0.length : Int) then (if 0 ≤ x4 then ((laws_toClass.f k ((rd_T63 x0 x4).f0) ((rd_T63 x0 x4).f1)).bind fun bt129 => (if x4 < (x3.length : Int) then (laws_toClassS.l0 k x0 (x3.set (x4 : Int).toNat (⟨bt129.1, bt129.2⟩ : S38)) (wrap64 (x4 + 1))) else (none))) else (none)) else (some x3)
def laws_toClassS.f (k : Nat) (l0 : List (S63)) : Option ((List (S38))) := if 0 ≤ (l0.length : Int) then (if ((l0.length : Int) : Int).toNat ≤ 8796093022208 then (laws_toClassS.l0 k l0 (List.replicate ((l0.length : Int) : Int).toNat z38) 0) else (none)) else (none)
theorem laws_toClassS.mono_l : ∀ k, (∀ y0 y1 y2, LeO (laws_toClassS.l0 k y0 y1 y2) (laws_toClassS.l0 (k + 1) y0 y1 y2))
  | 0 => fun _ _ _ r h => by simp [laws_toClassS.l0] at h
  | k + 1 => by
    have ih0 := laws_toClassS.mono_l k
    · intro y0 y1 y2
      unfold laws_toClassS.l0
      repeat' first
      | (with_reducible exact ih0 _ _ _)
      | (with_reducible exact laws_toClass.mono _ _ _)
      | (with_reducible exact LeO.refl _)
      | (with_reducible exact LeO.none _)
      | (with_reducible refine LeO.ite ?_ ?_)
      | (with_reducible refine LeO.bind ?_ (fun _ => ?_))
      | exact ih0 _ _ _
      | exact laws_toClass.mono _ _ _
      | exact LeO.none _
      | refine LeO.ite ?_ ?_
      | refine LeO.bind ?_ (fun _ => ?_)
theorem laws_toClassS.mono : ∀ a0 k, LeO (laws_toClassS.f k a0) (laws_toClassS.f (k + 1) a0) := by
  intro a0 k
  have ih0 := laws_toClassS.mono_l k
  unfold laws_toClassS.f
  repeat' first
      | (with_reducible exact ih0 _ _ _)
      | (with_reducible exact laws_toClass.mono _ _ _)
      | (with_reducible exact LeO.refl _)
      | (with_reducible exact LeO.none _)
      | (with_reducible refine LeO.ite ?_ ?_)
      | (with_reducible refine LeO.bind ?_ (fun _ => ?_))
      | exact ih0 _ _ _
      | exact laws_toClass.mono _ _ _
      | exact LeO.none _
      | refine LeO.ite ?_ ?_
      | refine LeO.bind ?_ (fun _ => ?_)

end Go.Proofs.Ytgmjolngnhdafaa.P

end
section
namespace Go.Proofs.Ytgmjolngnhdafaa.P
open Go.RowKit Go.Proofs.YtgmjolngnhdafaaW.PrintWords Go.Proofs.YtgmjolngnhdafaaW.PrintLast Go.Proofs.YtgmjolngnhdafaaW.PrintMore
attribute [local go_sem] max2_int min2_int max_two min_two max_three min_three max_four min_four
set_option linter.unusedVariables false
set_option linter.unusedSimpArgs false

/-! ### laws_eqIntS: function 36 -/
def laws_eqIntS.l0 : Nat → List Int → List Int → Int → Option (Bool)
  | 0, _, _, _ => none
  | k + 1, x0, x1, x5 => if x5 < (x0.length : Int) then (if 0 ≤ x5 then (if x5 < (x1.length : Int) then (if (rd x0 x5) = (rd x1 x5) then (laws_eqIntS.l0 k x0 x1 (wrap64 (x5 + 1))) else (some false)) else (none)) else (none)) else (some true)
def laws_eqIntS.f (k : Nat) (l0 : List Int) (l1 : List Int) : Option (Bool) := if (l0.length : Int) = (l1.length : Int) then (laws_eqIntS.l0 k l0 l1 0) else (some false)
theorem laws_eqIntS.mono_l : ∀ k, (∀ y0 y1 y2, LeO (laws_eqIntS.l0 k y0 y1 y2) (laws_eqIntS.l0 (k + 1) y0 y1 y2))
  | 0 => fun _ _ _ r h => by simp [laws_eqIntS.l0] at h
  | k + 1 => by
    have ih0 := laws_eqIntS.mono_l k
    · intro y0 y1 y2
      unfold laws_eqIntS.l0
      repeat' first
      | (with_reducible exact ih0 _ _ _)
      | (with_reducible exact LeO.refl _)
      | (with_reducible exact LeO.none _)
      | (with_reducible refine LeO.ite ?_ ?_)
      | (with_reducible refine LeO.bind ?_ (fun _ => ?_))
      | exact ih0 _ _ _
      | exact LeO.none _
      | refine LeO.ite ?_ ?_
      | refine LeO.bind ?_ (fun _ => ?_)
theorem laws_eqIntS.mono : ∀ a0 a1 k, LeO (laws_eqIntS.f k a0 a1) (laws_eqIntS.f (k + 1) a0 a1) := by
  intro a0 a1 k
  have ih0 := laws_eqIntS.mono_l k
  unfold laws_eqIntS.f
  repeat' first
      | (with_reducible exact ih0 _ _ _)
      | (with_reducible exact LeO.refl _)
      | (with_reducible exact LeO.none _)
      | (with_reducible refine LeO.ite ?_ ?_)
      | (with_reducible refine LeO.bind ?_ (fun _ => ?_))
      | exact ih0 _ _ _
      | exact LeO.none _
      | refine LeO.ite ?_ ?_
      | refine LeO.bind ?_ (fun _ => ?_)

end Go.Proofs.Ytgmjolngnhdafaa.P

end
section
namespace Go.Proofs.Ytgmjolngnhdafaa.P
open Go.RowKit Go.Proofs.YtgmjolngnhdafaaW.PrintWords Go.Proofs.YtgmjolngnhdafaaW.PrintLast Go.Proofs.YtgmjolngnhdafaaW.PrintMore
attribute [local go_sem] max2_int min2_int max_two min_two max_three min_three max_four min_four
set_option linter.unusedVariables false
set_option linter.unusedSimpArgs false

/-! ### laws_eqClass: function 60 -/
def laws_eqClass.f (k : Nat) (a0_0 : Int) (l0_1 : List Int) (a1_0 : Int) (l1_1 : List Int) : Option (Bool) := if a0_0 = a1_0 then ((laws_eqIntS.f k l0_1 l1_1).bind fun t147 => (if t147 = true then (some true) else (some false))) else (some false)
theorem laws_eqClass.mono : ∀ a0 a1 a2 a3 k, LeO (laws_eqClass.f k a0 a1 a2 a3) (laws_eqClass.f (k + 1) a0 a1 a2 a3) := by
  intro a0 a1 a2 a3 k
  unfold laws_eqClass.f
  repeat' first
      | (with_reducible exact laws_eqIntS.mono _ _ _)
      | (with_reducible exact LeO.refl _)
      | (with_reducible exact LeO.none _)
      | (with_reducible refine LeO.ite ?_ ?_)
      | (with_reducible refine LeO.bind ?_ (fun _ => ?_))
      | exact laws_eqIntS.mono _ _ _
      | exact LeO.none _
      | refine LeO.ite ?_ ?_
      | refine LeO.bind ?_ (fun _ => ?_)

end Go.Proofs.Ytgmjolngnhdafaa.P

end
section
namespace Go.Proofs.Ytgmjolngnhdafaa.P
open Go.RowKit Go.Proofs.YtgmjolngnhdafaaW.PrintWords Go.Proofs.YtgmjolngnhdafaaW.PrintLast Go.Proofs.YtgmjolngnhdafaaW.PrintMore
attribute [local go_sem] max2_int min2_int max_two min_two max_three min_three max_four min_four
set_option linter.unusedVariables false
set_option linter.unusedSimpArgs false

/-! ### laws_eqClassS: function 24 -/
def laws_eqClassS.l0 : Nat → List (S38) → List (S38) → Int → Option (Bool)
  | 0, _, _, _ => none
  | k + 1, x0, x1, x5 => if x5 < (x0.length : Int) then (if 0 ≤ x5 then (if x5 < (x1.length : Int) then ((laws_eqClass.f k ((rd_T38 x0 x5).f0) ((rd_T38 x0 x5).f1) ((rd_T38 x1 x5).f0) ((rd_T38 x1 x5).f1)).bind fun t150 => (if t150 = true then (laws_eqClassS.l0 k x0 x1 (wrap64 (x5 + 1))) else (some false))) else (none)) else (none)) else (some true)
def laws_eqClassS.f (k : Nat) (l0 : List (S38)) (l1 : List (S38)) : Option (Bool) := if (l0.length : Int) = (l1.length : Int) then (laws_eqClassS.l0 k l0 l1 0) else (some false)
theorem laws_eqClassS.mono_l : ∀ k, (∀ y0 y1 y2, LeO (laws_eqClassS.l0 k y0 y1 y2) (laws_eqClassS.l0 (k + 1) y0 y1 y2))
  | 0 => fun _ _ _ r h => by simp [laws_eqClassS.l0] at h
  | k + 1 => by
    have ih0 := laws_eqClassS.mono_l k
    · intro y0 y1 y2
      unfold laws_eqClassS.l0
      repeat' first
      | (with_reducible exact ih0 _ _ _)
      | (with_reducible exact laws_eqClass.mono _ _ _ _ _)
      | (with_reducible exact LeO.refl _)
      | (with_reducible exact LeO.none _)
      | (with_reducible refine LeO.ite ?_ ?_)
      | (with_reducible refine LeO.bind ?_ (fun _ => ?_))
      | exact ih0 _ _ _
      | exact laws_eqClass.mono _ _ _ _ _
      | exact LeO.none _
      | refine LeO.ite ?_ ?_
      | refine LeO.bind ?_ (fun _ => ?_)
theorem laws_eqClassS.mono : ∀ a0 a1 k, LeO (laws_eqClassS.f k a0 a1) (laws_eqClassS.f (k + 1) a0 a1) := by
  intro a0 a1 k
  have ih0 := laws_eqClassS.mono_l k
  unfold laws_eqClassS.f
  repeat' first
      | (with_reducible exact ih0 _ _ _)
      | (with_reducible exact laws_eqClass.mono _ _ _ _ _)
      | (with_reducible exact LeO.refl _)
      | (with_reducible exact LeO.none _)
      | (with_reducible refine LeO.ite ?_ ?_)
      | (with_reducible refine LeO.bind ?_ (fun _ => ?_))
      | exact ih0 _ _ _
      | exact laws_eqClass.mono _ _ _ _ _
      | exact LeO.none _
      | refine LeO.ite ?_ ?_
      | refine LeO.bind ?_ (fun _ => ?_)

end Go.Proofs.Ytgmjolngnhdafaa.P

end
section
namespace Go.Proofs.Ytgmjolngnhdafaa.P
open Go Go.RowKit Go.Proofs.YtgmjolngnhdafaaW.PrintWords
/-- The value of the interface 'kind': nil for -1. -/
def kindW (r : Int) : Value :=
  if r = -1 then .nilIface else if r = 0 then .iface 89 (.agg #[]) else if r = 1 then .iface 84 (.agg #[]) else if r = 2 then .iface 90 (.agg #[])
  else if r = 3 then .iface 86 (.agg #[.bool false]) else if r = 4 then .iface 86 (.agg #[.bool true]) else .iface 88 (.agg #[.int .i64 (r - 8)])
/-- impl.kindOf: the number, where it is one of a type of so many classes. -/
def impl_kindOf.f (c t : Int) : Option Int :=
  if 0 ≤ c ∧ c ≤ 1000000000 ∧ -9223372036854775808 ≤ t ∧ t ≤ 9223372036854775807 then
    (if t = 0 then some 0 else if t = 1 then some 1 else if t = 2 then some 2 else if t = 3 then some 3 else if t = 4 then some 4 else if 8 ≤ t ∧ t < 8 + c then some t else some (-1)) else none
def impl_fieldType.f (c t : Int) : Option Bool := (impl_kindOf.f c t).bind fun r => some (decide (r = 1 ∨ r = 3 ∨ r = 4 ∨ 8 ≤ r))
end Go.Proofs.Ytgmjolngnhdafaa.P

end
section
namespace Go.Proofs.Ytgmjolngnhdafaa.P
open Go.RowKit Go.Proofs.YtgmjolngnhdafaaW.PrintWords Go.Proofs.YtgmjolngnhdafaaW.PrintLast Go.Proofs.YtgmjolngnhdafaaW.PrintMore
attribute [local go_sem] max2_int min2_int max_two min_two max_three min_three max_four min_four
set_option linter.unusedVariables false
set_option linter.unusedSimpArgs false

/-! ### impl_ClassesOk: function 23 -/
mutual
def impl_ClassesOk.j0 : Nat → List (S38) → Bool → Option (Bool)
  | 0, _, _ => none
  | k + 1, x0, x15 => if x15 = true then (some false) else (if 0 < (x0.length : Int) then (if ((rd_T38 x0 0).f0) = (-1) then (impl_ClassesOk.j1 k x0 ((((rd_T38 x0 0).f1).length : Int) != 0)) else (impl_ClassesOk.j1 k x0 true)) else (none))
def impl_ClassesOk.j1 : Nat → List (S38) → Bool → Option (Bool)
  | 0, _, _ => none
  | k + 1, x0, x28 => if x28 = true then (some false) else (if 1 < (x0.length : Int) then (if ((rd_T38 x0 1).f0) = 0 then (if (((rd_T38 x0 1).f1).length : Int) = 1 then (if 0 < (((rd_T38 x0 1).f1).length : Int) then (impl_ClassesOk.j2 k x0 ((rd ((rd_T38 x0 1).f1) 0) != 1)) else (none)) else (impl_ClassesOk.j2 k x0 true)) else (impl_ClassesOk.j2 k x0 true)) else (none))
def impl_ClassesOk.j2 : Nat → List (S38) → Bool → Option (Bool)
  | 0, _, _ => none
  | k + 1, x0, x47 => if x47 = true then (some false) else (impl_ClassesOk.l0 k x0 x0 (x0.length : Int) 0)
def impl_ClassesOk.l0 : Nat → List (S38) → List (S38) → Int → Int → Option (Bool)
  | 0, _, _, _, _ => none
  | k + 1, x0, x48, x49, x50 => if x50 < x49 then (if 0 ≤ x50 then (if x50 < (x48.length : Int) then (if x50 > 1 then (if ((rd_T38 x48 x50).f0) < 0 then (impl_ClassesOk.j4 k x0 x48 x49 x50 true ((rd_T38 x48 x50).f0) ((rd_T38 x48 x50).f1)) else (impl_ClassesOk.j4 k x0 x48 x49 x50 (decide (((rd_T38 x48 x50).f0) ≥ x50)) ((rd_T38 x48 x50).f0) ((rd_T38 x48 x50).f1))) else (impl_ClassesOk.j4 k x0 x48 x49 x50 false ((rd_T38 x48 x50).f0) ((rd_T38 x48 x50).f1))) else (none)) else (none)) else (some true)
def impl_ClassesOk.j4 : Nat → List (S38) → List (S38) → Int → Int → Bool → Int → List Int → Option (Bool)
  | 0, _, _, _, _, _, _, _ => none
  | k + 1, x0, x48, x49, x50, x67, x141000, x141001 => if x67 = true then (some false) else (if (x141001.length : Int) > 2 then (some false) else (impl_ClassesOk.l1 k x0 x48 x49 x50 x141001 (x141001.length : Int) 0))
def impl_ClassesOk.l1 : Nat → List (S38) → List (S38) → Int → Int → List Int → Int → Int → Option (Bool)
  | 0, _, _, _, _, _, _, _ => none
  | k + 1, x0, x48, x49, x50, x73, x74, x75 => if x75 < x74 then (if 0 ≤ x75 then (if x75 < (x73.length : Int) then ((impl_fieldType.f (x0.length : Int) (rd x73 x75)).bind fun t142 => (if t142 = true then (impl_ClassesOk.l1 k x0 x48 x49 x50 x73 x74 (wrap64 (x75 + 1))) else (some false))) else (none)) else (none)) else (impl_ClassesOk.l0 k x0 x48 x49 (wrap64 (x50 + 1)))
end
def impl_ClassesOk.f (k : Nat) (l0 : List (S38)) : Option (Bool) := if (l0.length : Int) < 2 then (impl_ClassesOk.j0 k l0 true) else (impl_ClassesOk.j0 k l0 (decide ((l0.length : Int) > 5)))
theorem impl_ClassesOk.mono_l : ∀ k, (∀ y0 y1, LeO (impl_ClassesOk.j0 k y0 y1) (impl_ClassesOk.j0 (k + 1) y0 y1)) ∧ (∀ y0 y1, LeO (impl_ClassesOk.j1 k y0 y1) (impl_ClassesOk.j1 (k + 1) y0 y1)) ∧ (∀ y0 y1, LeO (impl_ClassesOk.j2 k y0 y1) (impl_ClassesOk.j2 (k + 1) y0 y1)) ∧ (∀ y0 y1 y2 y3, LeO (impl_ClassesOk.l0 k y0 y1 y2 y3) (impl_ClassesOk.l0 (k + 1) y0 y1 y2 y3)) ∧ (∀ y0 y1 y2 y3 y4 y5 y6, LeO (impl_ClassesOk.j4 k y0 y1 y2 y3 y4 y5 y6) (impl_ClassesOk.j4 (k + 1) y0 y1 y2 y3 y4 y5 y6)) ∧ (∀ y0 y1 y2 y3 y4 y5 y6, LeO (impl_ClassesOk.l1 k y0 y1 y2 y3 y4 y5 y6) (impl_ClassesOk.l1 (k + 1) y0 y1 y2 y3 y4 y5 y6))
  | 0 => ⟨fun _ _ r h => by simp [impl_ClassesOk.j0] at h, fun _ _ r h => by simp [impl_ClassesOk.j1] at h, fun _ _ r h => by simp [impl_ClassesOk.j2] at h, fun _ _ _ _ r h => by simp [impl_ClassesOk.l0] at h, fun _ _ _ _ _ _ _ r h => by simp [impl_ClassesOk.j4] at h, fun _ _ _ _ _ _ _ r h => by simp [impl_ClassesOk.l1] at h⟩
  | k + 1 => by
    obtain ⟨ih0, ih1, ih2, ih3, ih4, ih5⟩ := impl_ClassesOk.mono_l k
    refine ⟨?_, ?_, ?_, ?_, ?_, ?_⟩
    · intro y0 y1
      unfold impl_ClassesOk.j0
      repeat' first
      | (with_reducible exact ih0 _ _)
      | (with_reducible exact ih1 _ _)
      | (with_reducible exact ih2 _ _)
      | (with_reducible exact ih3 _ _ _ _)
      | (with_reducible exact ih4 _ _ _ _ _ _ _)
      | (with_reducible exact ih5 _ _ _ _ _ _ _)
      | (with_reducible exact LeO.refl _)
      | (with_reducible exact LeO.none _)
      | (with_reducible refine LeO.ite ?_ ?_)
      | (with_reducible refine LeO.bind ?_ (fun _ => ?_))
      | exact ih0 _ _
      | exact ih1 _ _
      | exact ih2 _ _
      | exact ih3 _ _ _ _
      | exact ih4 _ _ _ _ _ _ _
      | exact ih5 _ _ _ _ _ _ _
      | exact LeO.none _
      | refine LeO.ite ?_ ?_
      | refine LeO.bind ?_ (fun _ => ?_)
    · intro y0 y1
      unfold impl_ClassesOk.j1
      repeat' first
      | (with_reducible exact ih0 _ _)
      | (with_reducible exact ih1 _ _)
      | (with_reducible exact ih2 _ _)
      | (with_reducible exact ih3 _ _ _ _)
      | (with_reducible exact ih4 _ _ _ _ _ _ _)
      | (with_reducible exact ih5 _ _ _ _ _ _ _)
      | (with_reducible exact LeO.refl _)
      | (with_reducible exact LeO.none _)
      | (with_reducible refine LeO.ite ?_ ?_)
      | (with_reducible refine LeO.bind ?_ (fun _ => ?_))
      | exact ih0 _ _
      | exact ih1 _ _
      | exact ih2 _ _
      | exact ih3 _ _ _ _
      | exact ih4 _ _ _ _ _ _ _
      | exact ih5 _ _ _ _ _ _ _
      | exact LeO.none _
      | refine LeO.ite ?_ ?_
      | refine LeO.bind ?_ (fun _ => ?_)
    · intro y0 y1
      unfold impl_ClassesOk.j2
      repeat' first
      | (with_reducible exact ih0 _ _)
      | (with_reducible exact ih1 _ _)
      | (with_reducible exact ih2 _ _)
      | (with_reducible exact ih3 _ _ _ _)
      | (with_reducible exact ih4 _ _ _ _ _ _ _)
      | (with_reducible exact ih5 _ _ _ _ _ _ _)
      | (with_reducible exact LeO.refl _)
      | (with_reducible exact LeO.none _)
      | (with_reducible refine LeO.ite ?_ ?_)
      | (with_reducible refine LeO.bind ?_ (fun _ => ?_))
      | exact ih0 _ _
      | exact ih1 _ _
      | exact ih2 _ _
      | exact ih3 _ _ _ _
      | exact ih4 _ _ _ _ _ _ _
      | exact ih5 _ _ _ _ _ _ _
      | exact LeO.none _
      | refine LeO.ite ?_ ?_
      | refine LeO.bind ?_ (fun _ => ?_)
    · intro y0 y1 y2 y3
      unfold impl_ClassesOk.l0
      repeat' first
      | (with_reducible exact ih0 _ _)
      | (with_reducible exact ih1 _ _)
      | (with_reducible exact ih2 _ _)
      | (with_reducible exact ih3 _ _ _ _)
      | (with_reducible exact ih4 _ _ _ _ _ _ _)
      | (with_reducible exact ih5 _ _ _ _ _ _ _)
      | (with_reducible exact LeO.refl _)
      | (with_reducible exact LeO.none _)
      | (with_reducible refine LeO.ite ?_ ?_)
      | (with_reducible refine LeO.bind ?_ (fun _ => ?_))
      | exact ih0 _ _
      | exact ih1 _ _
      | exact ih2 _ _
      | exact ih3 _ _ _ _
      | exact ih4 _ _ _ _ _ _ _
      | exact ih5 _ _ _ _ _ _ _
      | exact LeO.none _
      | refine LeO.ite ?_ ?_
      | refine LeO.bind ?_ (fun _ => ?_)
    · intro y0 y1 y2 y3 y4 y5 y6
      unfold impl_ClassesOk.j4
      repeat' first
      | (with_reducible exact ih0 _ _)
      | (with_reducible exact ih1 _ _)
      | (with_reducible exact ih2 _ _)
      | (with_reducible exact ih3 _ _ _ _)
      | (with_reducible exact ih4 _ _ _ _ _ _ _)
      | (with_reducible exact ih5 _ _ _ _ _ _ _)
      | (with_reducible exact LeO.refl _)
      | (with_reducible exact LeO.none _)
      | (with_reducible refine LeO.ite ?_ ?_)
      | (with_reducible refine LeO.bind ?_ (fun _ => ?_))
      | exact ih0 _ _
      | exact ih1 _ _
      | exact ih2 _ _
      | exact ih3 _ _ _ _
      | exact ih4 _ _ _ _ _ _ _
      | exact ih5 _ _ _ _ _ _ _
      | exact LeO.none _
      | refine LeO.ite ?_ ?_
      | refine LeO.bind ?_ (fun _ => ?_)
    · intro y0 y1 y2 y3 y4 y5 y6
      unfold impl_ClassesOk.l1
      repeat' first
      | (with_reducible exact ih0 _ _)
      | (with_reducible exact ih1 _ _)
      | (with_reducible exact ih2 _ _)
      | (with_reducible exact ih3 _ _ _ _)
      | (with_reducible exact ih4 _ _ _ _ _ _ _)
      | (with_reducible exact ih5 _ _ _ _ _ _ _)
      | (with_reducible exact LeO.refl _)
      | (with_reducible exact LeO.none _)
      | (with_reducible refine LeO.ite ?_ ?_)
      | (with_reducible refine LeO.bind ?_ (fun _ => ?_))
      | exact ih0 _ _
      | exact ih1 _ _
      | exact ih2 _ _
      | exact ih3 _ _ _ _
      | exact ih4 _ _ _ _ _ _ _
      | exact ih5 _ _ _ _ _ _ _
      | exact LeO.none _
      | refine LeO.ite ?_ ?_
      | refine LeO.bind ?_ (fun _ => ?_)
theorem impl_ClassesOk.mono : ∀ a0 k, LeO (impl_ClassesOk.f k a0) (impl_ClassesOk.f (k + 1) a0) := by
  intro a0 k
  obtain ⟨ih0, ih1, ih2, ih3, ih4, ih5⟩ := impl_ClassesOk.mono_l k
  unfold impl_ClassesOk.f
  repeat' first
      | (with_reducible exact ih0 _ _)
      | (with_reducible exact ih1 _ _)
      | (with_reducible exact ih2 _ _)
      | (with_reducible exact ih3 _ _ _ _)
      | (with_reducible exact ih4 _ _ _ _ _ _ _)
      | (with_reducible exact ih5 _ _ _ _ _ _ _)
      | (with_reducible exact LeO.refl _)
      | (with_reducible exact LeO.none _)
      | (with_reducible refine LeO.ite ?_ ?_)
      | (with_reducible refine LeO.bind ?_ (fun _ => ?_))
      | exact ih0 _ _
      | exact ih1 _ _
      | exact ih2 _ _
      | exact ih3 _ _ _ _
      | exact ih4 _ _ _ _ _ _ _
      | exact ih5 _ _ _ _ _ _ _
      | exact LeO.none _
      | refine LeO.ite ?_ ?_
      | refine LeO.bind ?_ (fun _ => ?_)

end Go.Proofs.Ytgmjolngnhdafaa.P

end
section
namespace Go.Proofs.Ytgmjolngnhdafaa.P
open Go.RowKit Go.Proofs.YtgmjolngnhdafaaW.PrintWords Go.Proofs.YtgmjolngnhdafaaW.PrintLast Go.Proofs.YtgmjolngnhdafaaW.PrintMore
attribute [local go_sem] max2_int min2_int max_two min_two max_three min_three max_four min_four
set_option linter.unusedVariables false
set_option linter.unusedSimpArgs false

/-! ### impl_isClass: function 66 -/
def impl_isClass.f (l0 : List (S38)) (a1 : Int) : Option (Bool) := if a1 ≥ 0 then (some (decide (a1 < (l0.length : Int)))) else (some false)

end Go.Proofs.Ytgmjolngnhdafaa.P

end
section
namespace Go.Proofs.Ytgmjolngnhdafaa.P
open Go.RowKit Go.Proofs.YtgmjolngnhdafaaW.PrintWords Go.Proofs.YtgmjolngnhdafaaW.PrintLast Go.Proofs.YtgmjolngnhdafaaW.PrintMore
attribute [local go_sem] max2_int min2_int max_two min_two max_three min_three max_four min_four
set_option linter.unusedVariables false
set_option linter.unusedSimpArgs false

/-! ### impl_classFields: function 70 -/
def impl_classFields.f : Nat → List (S38) → Int → Option (List Int)
  | 0, _, _ => none
  | k + 1, l0, a1 => if a1 = 0 then (some ([] : List Int)) else (if 0 ≤ a1 then (if a1 < (l0.length : Int) then ((impl_classFields.f k l0 ((rd_T38 l0 a1).f0)).bind fun t291 => (if t291.length + ((rd_T38 l0 a1).f1).length < 17592186044416 then (some (t291 ++ ((rd_T38 l0 a1).f1))) else (none))) else (none)) else (none))
theorem impl_classFields.mono_l : ∀ k, (∀ y0 y1, LeO (impl_classFields.f k y0 y1) (impl_classFields.f (k + 1) y0 y1))
  | 0 => fun _ _ r h => by simp [impl_classFields.f] at h
  | k + 1 => by
    have ih0 := impl_classFields.mono_l k
    · intro y0 y1
      unfold impl_classFields.f
      repeat' first
      | (with_reducible exact ih0 _ _)
      | (with_reducible exact LeO.refl _)
      | (with_reducible exact LeO.none _)
      | (with_reducible refine LeO.ite ?_ ?_)
      | (with_reducible refine LeO.bind ?_ (fun _ => ?_))
      | exact ih0 _ _
      | exact LeO.none _
      | refine LeO.ite ?_ ?_
      | refine LeO.bind ?_ (fun _ => ?_)
theorem impl_classFields.mono : ∀ a0 a1 k, LeO (impl_classFields.f k a0 a1) (impl_classFields.f (k + 1) a0 a1) := by
  intro a0 a1 k
  have ih0 := impl_classFields.mono_l k
  exact ih0 a0 a1

end Go.Proofs.Ytgmjolngnhdafaa.P

end
section
namespace Go.Proofs.Ytgmjolngnhdafaa.P
open Go.RowKit Go.Proofs.YtgmjolngnhdafaaW.PrintWords Go.Proofs.YtgmjolngnhdafaaW.PrintLast Go.Proofs.YtgmjolngnhdafaaW.PrintMore
attribute [local go_sem] max2_int min2_int max_two min_two max_three min_three max_four min_four
set_option linter.unusedVariables false
set_option linter.unusedSimpArgs false

/-! ### impl_ClassFields: function 32 -/
def impl_ClassFields.f (k : Nat) (l0 : List (S38)) (a1 : Int) : Option (List Int) := (impl_ClassesOk.f k l0).bind fun t298 => (if t298 = true then ((impl_isClass.f l0 a1).bind fun t299 => (if t299 = true then ((impl_classFields.f k l0 a1).bind fun t300 => (some t300)) else (some ([] : List Int)))) else (some ([] : List Int)))
theorem impl_ClassFields.mono : ∀ a0 a1 k, LeO (impl_ClassFields.f k a0 a1) (impl_ClassFields.f (k + 1) a0 a1) := by
  intro a0 a1 k
  unfold impl_ClassFields.f
  repeat' first
      | (with_reducible exact impl_ClassesOk.mono _ _)
      | (with_reducible exact impl_classFields.mono _ _ _)
      | (with_reducible exact LeO.refl _)
      | (with_reducible exact LeO.none _)
      | (with_reducible refine LeO.ite ?_ ?_)
      | (with_reducible refine LeO.bind ?_ (fun _ => ?_))
      | exact impl_ClassesOk.mono _ _
      | exact impl_classFields.mono _ _ _
      | exact LeO.none _
      | refine LeO.ite ?_ ?_
      | refine LeO.bind ?_ (fun _ => ?_)

end Go.Proofs.Ytgmjolngnhdafaa.P

end
section
namespace Go.Proofs.Ytgmjolngnhdafaa.P
open Go.RowKit Go.Proofs.YtgmjolngnhdafaaW.PrintWords Go.Proofs.YtgmjolngnhdafaaW.PrintLast Go.Proofs.YtgmjolngnhdafaaW.PrintMore
attribute [local go_sem] max2_int min2_int max_two min_two max_three min_three max_four min_four
set_option linter.unusedVariables false
set_option linter.unusedSimpArgs false

/-! ### spec_l6In: function 56 -/
def spec_l6In.f (a0 : Int) (a1 : Int) (a2 : Int) : Option (Bool) := if a0 ≥ a1 then (some (decide (a0 ≤ a2))) else (some false)

end Go.Proofs.Ytgmjolngnhdafaa.P

end
section
namespace Go.Proofs.Ytgmjolngnhdafaa.P
open Go.RowKit Go.Proofs.YtgmjolngnhdafaaW.PrintWords Go.Proofs.YtgmjolngnhdafaaW.PrintLast Go.Proofs.YtgmjolngnhdafaaW.PrintMore
attribute [local go_sem] max2_int min2_int max_two min_two max_three min_three max_four min_four
set_option linter.unusedVariables false
set_option linter.unusedSimpArgs false

/-! ### spec_l2Field: function 61 -/
def spec_l2Field.f (l0 : List (S38)) (a1 : Int) : Option (Bool) := if a1 = 1 then (some true) else (if a1 = 3 then (some true) else (if a1 = 4 then (some true) else ((spec_l6In.f a1 8 (wrap64 ((wrap64 (8 + (l0.length : Int))) - 1))).bind fun t105 => (some t105))))

end Go.Proofs.Ytgmjolngnhdafaa.P

end
section
namespace Go.Proofs.Ytgmjolngnhdafaa.P
open Go.RowKit Go.Proofs.YtgmjolngnhdafaaW.PrintWords Go.Proofs.YtgmjolngnhdafaaW.PrintLast Go.Proofs.YtgmjolngnhdafaaW.PrintMore
attribute [local go_sem] max2_int min2_int max_two min_two max_three min_three max_four min_four
set_option linter.unusedVariables false
set_option linter.unusedSimpArgs false

/-! ### spec_l2Class: function 57 -/
def spec_l2Class.l0 : Nat → List (S38) → Int → Int → Int → List Int → Option (Bool)
  | 0, _, _, _, _, _ => none
  | k + 1, x0, x1, x6, x108000, x108001 => if x6 < (x108001.length : Int) then (if 0 ≤ x6 then ((spec_l2Field.f x0 (rd x108001 x6)).bind fun t109 => (if t109 = true then (spec_l2Class.l0 k x0 x1 (wrap64 (x6 + 1)) x108000 x108001) else (some false))) else (none)) else (if x1 = 0 then (if x108000 = (-1) then (some ((x108001.length : Int) == 0)) else (some false)) else (if x1 = 1 then (if x108000 = 0 then (if (x108001.length : Int) = 1 then (if 0 < (x108001.length : Int) then (some ((rd x108001 0) == 1)) else (none)) else (some false)) else (some false)) else ((spec_l6In.f x108000 0 (wrap64 (x1 - 1))).bind fun t111 => (if t111 = true then (some (decide ((x108001.length : Int) ≤ 2))) else (some false)))))
def spec_l2Class.f (k : Nat) (l0 : List (S38)) (a1 : Int) : Option (Bool) := if 0 ≤ a1 then (if a1 < (l0.length : Int) then (spec_l2Class.l0 k l0 a1 0 ((rd_T38 l0 a1).f0) ((rd_T38 l0 a1).f1)) else (none)) else (none)
theorem spec_l2Class.mono_l : ∀ k, (∀ y0 y1 y2 y3 y4, LeO (spec_l2Class.l0 k y0 y1 y2 y3 y4) (spec_l2Class.l0 (k + 1) y0 y1 y2 y3 y4))
  | 0 => fun _ _ _ _ _ r h => by simp [spec_l2Class.l0] at h
  | k + 1 => by
    have ih0 := spec_l2Class.mono_l k
    · intro y0 y1 y2 y3 y4
      unfold spec_l2Class.l0
      repeat' first
      | (with_reducible exact ih0 _ _ _ _ _)
      | (with_reducible exact LeO.refl _)
      | (with_reducible exact LeO.none _)
      | (with_reducible refine LeO.ite ?_ ?_)
      | (with_reducible refine LeO.bind ?_ (fun _ => ?_))
      | exact ih0 _ _ _ _ _
      | exact LeO.none _
      | refine LeO.ite ?_ ?_
      | refine LeO.bind ?_ (fun _ => ?_)
theorem spec_l2Class.mono : ∀ a0 a1 k, LeO (spec_l2Class.f k a0 a1) (spec_l2Class.f (k + 1) a0 a1) := by
  intro a0 a1 k
  have ih0 := spec_l2Class.mono_l k
  unfold spec_l2Class.f
  repeat' first
      | (with_reducible exact ih0 _ _ _ _ _)
      | (with_reducible exact LeO.refl _)
      | (with_reducible exact LeO.none _)
      | (with_reducible refine LeO.ite ?_ ?_)
      | (with_reducible refine LeO.bind ?_ (fun _ => ?_))
      | exact ih0 _ _ _ _ _
      | exact LeO.none _
      | refine LeO.ite ?_ ?_
      | refine LeO.bind ?_ (fun _ => ?_)

end Go.Proofs.Ytgmjolngnhdafaa.P

end
section
namespace Go.Proofs.Ytgmjolngnhdafaa.P
open Go.RowKit Go.Proofs.YtgmjolngnhdafaaW.PrintWords Go.Proofs.YtgmjolngnhdafaaW.PrintLast Go.Proofs.YtgmjolngnhdafaaW.PrintMore
attribute [local go_sem] max2_int min2_int max_two min_two max_three min_three max_four min_four
set_option linter.unusedVariables false
set_option linter.unusedSimpArgs false

/-! ### spec_ClassesOk: function 21 -/
def spec_ClassesOk.l0 : Nat → List (S38) → Int → Option (Bool)
  | 0, _, _ => none
  | k + 1, x0, x3 => if x3 < (x0.length : Int) then ((spec_l2Class.f k x0 x3).bind fun t113 => (if t113 = true then (spec_ClassesOk.l0 k x0 (wrap64 (x3 + 1))) else (some false))) else (some true)
def spec_ClassesOk.f (k : Nat) (l0 : List (S38)) : Option (Bool) := (spec_l6In.f (l0.length : Int) 2 5).bind fun t112 => (if t112 = true then (spec_ClassesOk.l0 k l0 0) else (some false))
theorem spec_ClassesOk.mono_l : ∀ k, (∀ y0 y1, LeO (spec_ClassesOk.l0 k y0 y1) (spec_ClassesOk.l0 (k + 1) y0 y1))
  | 0 => fun _ _ r h => by simp [spec_ClassesOk.l0] at h
  | k + 1 => by
    have ih0 := spec_ClassesOk.mono_l k
    · intro y0 y1
      unfold spec_ClassesOk.l0
      repeat' first
      | (with_reducible exact ih0 _ _)
      | (with_reducible exact spec_l2Class.mono _ _ _)
      | (with_reducible exact LeO.refl _)
      | (with_reducible exact LeO.none _)
      | (with_reducible refine LeO.ite ?_ ?_)
      | (with_reducible refine LeO.bind ?_ (fun _ => ?_))
      | exact ih0 _ _
      | exact spec_l2Class.mono _ _ _
      | exact LeO.none _
      | refine LeO.ite ?_ ?_
      | refine LeO.bind ?_ (fun _ => ?_)
theorem spec_ClassesOk.mono : ∀ a0 k, LeO (spec_ClassesOk.f k a0) (spec_ClassesOk.f (k + 1) a0) := by
  intro a0 k
  have ih0 := spec_ClassesOk.mono_l k
  unfold spec_ClassesOk.f
  repeat' first
      | (with_reducible exact ih0 _ _)
      | (with_reducible exact spec_l2Class.mono _ _ _)
      | (with_reducible exact LeO.refl _)
      | (with_reducible exact LeO.none _)
      | (with_reducible refine LeO.ite ?_ ?_)
      | (with_reducible refine LeO.bind ?_ (fun _ => ?_))
      | exact ih0 _ _
      | exact spec_l2Class.mono _ _ _
      | exact LeO.none _
      | refine LeO.ite ?_ ?_
      | refine LeO.bind ?_ (fun _ => ?_)

end Go.Proofs.Ytgmjolngnhdafaa.P

end
section
namespace Go.Proofs.Ytgmjolngnhdafaa.P
open Go.RowKit Go.Proofs.YtgmjolngnhdafaaW.PrintWords Go.Proofs.YtgmjolngnhdafaaW.PrintLast Go.Proofs.YtgmjolngnhdafaaW.PrintMore
attribute [local go_sem] max2_int min2_int max_two min_two max_three min_three max_four min_four
set_option linter.unusedVariables false
set_option linter.unusedSimpArgs false

/-! ### spec_l2Is: function 68 -/
def spec_l2Is.f (k : Nat) (l0 : List (S38)) (a1 : Int) : Option (Bool) := (spec_ClassesOk.f k l0).bind fun t232 => (if t232 = true then ((spec_l6In.f a1 0 (wrap64 ((l0.length : Int) - 1))).bind fun t233 => (some t233)) else (some false))
theorem spec_l2Is.mono : ∀ a0 a1 k, LeO (spec_l2Is.f k a0 a1) (spec_l2Is.f (k + 1) a0 a1) := by
  intro a0 a1 k
  unfold spec_l2Is.f
  repeat' first
      | (with_reducible exact spec_ClassesOk.mono _ _)
      | (with_reducible exact LeO.refl _)
      | (with_reducible exact LeO.none _)
      | (with_reducible refine LeO.ite ?_ ?_)
      | (with_reducible refine LeO.bind ?_ (fun _ => ?_))
      | exact spec_ClassesOk.mono _ _
      | exact LeO.none _
      | refine LeO.ite ?_ ?_
      | refine LeO.bind ?_ (fun _ => ?_)

end Go.Proofs.Ytgmjolngnhdafaa.P

end
section
namespace Go.Proofs.Ytgmjolngnhdafaa.P
open Go.RowKit Go.Proofs.YtgmjolngnhdafaaW.PrintWords Go.Proofs.YtgmjolngnhdafaaW.PrintLast Go.Proofs.YtgmjolngnhdafaaW.PrintMore
attribute [local go_sem] max2_int min2_int max_two min_two max_three min_three max_four min_four
set_option linter.unusedVariables false
set_option linter.unusedSimpArgs false

/-! ### spec_l2Fields: function 71 -/
def spec_l2Fields.f : Nat → List (S38) → Int → Option (List Int)
  | 0, _, _ => none
  | k + 1, l0, a1 => if a1 = 0 then (some (([] : List Int))) else (if 0 ≤ a1 then (if a1 < (l0.length : Int) then ((spec_l2Fields.f k l0 ((rd_T38 l0 a1).f0)).bind fun t309 => (if t309.length + ((rd_T38 l0 a1).f1).length < 17592186044416 then (some (t309 ++ ((rd_T38 l0 a1).f1))) else (none))) else (none)) else (none))
theorem spec_l2Fields.mono_l : ∀ k, (∀ y0 y1, LeO (spec_l2Fields.f k y0 y1) (spec_l2Fields.f (k + 1) y0 y1))
  | 0 => fun _ _ r h => by simp [spec_l2Fields.f] at h
  | k + 1 => by
    have ih0 := spec_l2Fields.mono_l k
    · intro y0 y1
      unfold spec_l2Fields.f
      repeat' first
      | (with_reducible exact ih0 _ _)
      | (with_reducible exact LeO.refl _)
      | (with_reducible exact LeO.none _)
      | (with_reducible refine LeO.ite ?_ ?_)
      | (with_reducible refine LeO.bind ?_ (fun _ => ?_))
      | exact ih0 _ _
      | exact LeO.none _
      | refine LeO.ite ?_ ?_
      | refine LeO.bind ?_ (fun _ => ?_)
theorem spec_l2Fields.mono : ∀ a0 a1 k, LeO (spec_l2Fields.f k a0 a1) (spec_l2Fields.f (k + 1) a0 a1) := by
  intro a0 a1 k
  have ih0 := spec_l2Fields.mono_l k
  exact ih0 a0 a1

end Go.Proofs.Ytgmjolngnhdafaa.P

end
section
namespace Go.Proofs.Ytgmjolngnhdafaa.P
open Go.RowKit Go.Proofs.YtgmjolngnhdafaaW.PrintWords Go.Proofs.YtgmjolngnhdafaaW.PrintLast Go.Proofs.YtgmjolngnhdafaaW.PrintMore
attribute [local go_sem] max2_int min2_int max_two min_two max_three min_three max_four min_four
set_option linter.unusedVariables false
set_option linter.unusedSimpArgs false

/-! ### spec_ClassFields: function 34 -/
def spec_ClassFields.f (k : Nat) (l0 : List (S38)) (a1 : Int) : Option (List Int) := (spec_l2Is.f k l0 a1).bind fun t316 => (if t316 = true then ((spec_l2Fields.f k l0 a1).bind fun t317 => (some t317)) else (some (([] : List Int))))
theorem spec_ClassFields.mono : ∀ a0 a1 k, LeO (spec_ClassFields.f k a0 a1) (spec_ClassFields.f (k + 1) a0 a1) := by
  intro a0 a1 k
  unfold spec_ClassFields.f
  repeat' first
      | (with_reducible exact spec_l2Fields.mono _ _ _)
      | (with_reducible exact spec_l2Is.mono _ _ _)
      | (with_reducible exact LeO.refl _)
      | (with_reducible exact LeO.none _)
      | (with_reducible refine LeO.ite ?_ ?_)
      | (with_reducible refine LeO.bind ?_ (fun _ => ?_))
      | exact spec_l2Fields.mono _ _ _
      | exact spec_l2Is.mono _ _ _
      | exact LeO.none _
      | refine LeO.ite ?_ ?_
      | refine LeO.bind ?_ (fun _ => ?_)

end Go.Proofs.Ytgmjolngnhdafaa.P

end
section
namespace Go.Proofs.Ytgmjolngnhdafaa.P
open Go.RowKit Go.Proofs.YtgmjolngnhdafaaW.PrintWords Go.Proofs.YtgmjolngnhdafaaW.PrintLast Go.Proofs.YtgmjolngnhdafaaW.PrintMore
attribute [local go_sem] max2_int min2_int max_two min_two max_three min_three max_four min_four
set_option linter.unusedVariables false
set_option linter.unusedSimpArgs false

/-! ### laws_markIntS: function 38 -/
def laws_markIntS.l0 : Nat → List Int → Int → Int → Option (Int × List Int)
  | 0, _, _, _ => none
  | k + 1, x0, x1, x5 => if x5 < (x0.length : Int) then (if 0 ≤ x5 then (laws_markIntS.l0 k (x0.set (x5 : Int).toNat x1) (wrap64 (x1 + 1)) (wrap64 (x5 + 1))) else (none)) else (some (x1, x0))
def laws_markIntS.f (k : Nat) (l0 : List Int) (a1 : Int) : Option (Int × List Int) := laws_markIntS.l0 k l0 a1 0
theorem laws_markIntS.mono_l : ∀ k, (∀ y0 y1 y2, LeO (laws_markIntS.l0 k y0 y1 y2) (laws_markIntS.l0 (k + 1) y0 y1 y2))
  | 0 => fun _ _ _ r h => by simp [laws_markIntS.l0] at h
  | k + 1 => by
    have ih0 := laws_markIntS.mono_l k
    · intro y0 y1 y2
      unfold laws_markIntS.l0
      repeat' first
      | (with_reducible exact ih0 _ _ _)
      | (with_reducible exact LeO.refl _)
      | (with_reducible exact LeO.none _)
      | (with_reducible refine LeO.ite ?_ ?_)
      | (with_reducible refine LeO.bind ?_ (fun _ => ?_))
      | exact ih0 _ _ _
      | exact LeO.none _
      | refine LeO.ite ?_ ?_
      | refine LeO.bind ?_ (fun _ => ?_)
theorem laws_markIntS.mono : ∀ a0 a1 k, LeO (laws_markIntS.f k a0 a1) (laws_markIntS.f (k + 1) a0 a1) := by
  intro a0 a1 k
  have ih0 := laws_markIntS.mono_l k
  unfold laws_markIntS.f
  repeat' first
      | (with_reducible exact ih0 _ _ _)
      | (with_reducible exact LeO.refl _)
      | (with_reducible exact LeO.none _)
      | (with_reducible refine LeO.ite ?_ ?_)
      | (with_reducible refine LeO.bind ?_ (fun _ => ?_))
      | exact ih0 _ _ _
      | exact LeO.none _
      | refine LeO.ite ?_ ?_
      | refine LeO.bind ?_ (fun _ => ?_)

end Go.Proofs.Ytgmjolngnhdafaa.P

end
section
namespace Go.Proofs.Ytgmjolngnhdafaa.P
open Go.RowKit Go.Proofs.YtgmjolngnhdafaaW.PrintWords Go.Proofs.YtgmjolngnhdafaaW.PrintLast Go.Proofs.YtgmjolngnhdafaaW.PrintMore
attribute [local go_sem] max2_int min2_int max_two min_two max_three min_three max_four min_four
set_option linter.unusedVariables false
set_option linter.unusedSimpArgs false

/-! ### laws_heldIntS: function 39 -/
def laws_heldIntS.l0 : Nat → List Int → Int → Int → Option (Int)
  | 0, _, _, _ => none
  | k + 1, x0, x1, x5 => if x5 < (x0.length : Int) then (if 0 ≤ x5 then (if (rd x0 x5) = x1 then (laws_heldIntS.l0 k x0 (wrap64 (x1 + 1)) (wrap64 (x5 + 1))) else (some (-1))) else (none)) else (some x1)
def laws_heldIntS.f (k : Nat) (l0 : List Int) (a1 : Int) : Option (Int) := laws_heldIntS.l0 k l0 a1 0
theorem laws_heldIntS.mono_l : ∀ k, (∀ y0 y1 y2, LeO (laws_heldIntS.l0 k y0 y1 y2) (laws_heldIntS.l0 (k + 1) y0 y1 y2))
  | 0 => fun _ _ _ r h => by simp [laws_heldIntS.l0] at h
  | k + 1 => by
    have ih0 := laws_heldIntS.mono_l k
    · intro y0 y1 y2
      unfold laws_heldIntS.l0
      repeat' first
      | (with_reducible exact ih0 _ _ _)
      | (with_reducible exact LeO.refl _)
      | (with_reducible exact LeO.none _)
      | (with_reducible refine LeO.ite ?_ ?_)
      | (with_reducible refine LeO.bind ?_ (fun _ => ?_))
      | exact ih0 _ _ _
      | exact LeO.none _
      | refine LeO.ite ?_ ?_
      | refine LeO.bind ?_ (fun _ => ?_)
theorem laws_heldIntS.mono : ∀ a0 a1 k, LeO (laws_heldIntS.f k a0 a1) (laws_heldIntS.f (k + 1) a0 a1) := by
  intro a0 a1 k
  have ih0 := laws_heldIntS.mono_l k
  unfold laws_heldIntS.f
  repeat' first
      | (with_reducible exact ih0 _ _ _)
      | (with_reducible exact LeO.refl _)
      | (with_reducible exact LeO.none _)
      | (with_reducible refine LeO.ite ?_ ?_)
      | (with_reducible refine LeO.bind ?_ (fun _ => ?_))
      | exact ih0 _ _ _
      | exact LeO.none _
      | refine LeO.ite ?_ ?_
      | refine LeO.bind ?_ (fun _ => ?_)

end Go.Proofs.Ytgmjolngnhdafaa.P

end
section
namespace Go.Proofs.Ytgmjolngnhdafaa.P
open Go Go.RowKit Go.Proofs.YtgmjolngnhdafaaW.PrintWords Go.Proofs.YtgmjolngnhdafaaW.PrintLast Go.Proofs.YtgmjolngnhdafaaW.PrintMore
set_option linter.unusedVariables false
def laws_markClassS.l0 : Nat → List (S38) → Int → Int → Option Int
  | 0, _, _, _ => none
  | k + 1, xs, a, i => if i < (xs.length : Int) then (if 0 ≤ i then ((laws_markIntS.f k ((rd_T38 xs i).f1) (wrap64 (a + 1))).bind fun p => (laws_markClassS.l0 k ((xs.set (i : Int).toNat (⟨a, (rd_T38 xs i).f1⟩ : S38)).set (i : Int).toNat (⟨a, p.2⟩ : S38)) p.1 (wrap64 (i + 1)))) else (none)) else (some a)
def laws_markClassS.f (k : Nat) (l0 : List (S38)) (a1 : Int) : Option Int := laws_markClassS.l0 k l0 a1 0
theorem laws_markClassS.mono_l : ∀ k, (∀ y0 y1 y2, LeO (laws_markClassS.l0 k y0 y1 y2) (laws_markClassS.l0 (k + 1) y0 y1 y2))
  | 0 => fun _ _ _ r h => by simp [laws_markClassS.l0] at h
  | k + 1 => by
    have ih0 := laws_markClassS.mono_l k
    intro y0 y1 y2
    unfold laws_markClassS.l0
    repeat' first
    | (with_reducible exact ih0 _ _ _)
    | (with_reducible exact laws_markIntS.mono _ _ _)
    | (with_reducible exact LeO.refl _)
    | (with_reducible exact LeO.none _)
    | (with_reducible refine LeO.ite ?_ ?_)
    | (with_reducible refine LeO.bind ?_ (fun _ => ?_))
theorem laws_markClassS.mono : ∀ a0 a1 k, LeO (laws_markClassS.f k a0 a1) (laws_markClassS.f (k + 1) a0 a1) := fun _ _ k => laws_markClassS.mono_l k _ _ _
end Go.Proofs.Ytgmjolngnhdafaa.P

end
section
namespace Go.Proofs.Ytgmjolngnhdafaa.P
open Go.RowKit Go.Proofs.YtgmjolngnhdafaaW.PrintWords Go.Proofs.YtgmjolngnhdafaaW.PrintLast Go.Proofs.YtgmjolngnhdafaaW.PrintMore
attribute [local go_sem] max2_int min2_int max_two min_two max_three min_three max_four min_four
set_option linter.unusedVariables false
set_option linter.unusedSimpArgs false

/-! ### laws_FnExactClassFields: function 10 -/
def laws_FnExactClassFields.j0 : Nat → List (S63) → Int → List Int → List Int → Bool → Option (Bool)
  | 0, _, _, _, _, _ => none
  | k + 1, x0, x1, x6, x8, x46 => if x46 = true then (some false) else ((laws_markIntS.f k x8 1).bind fun bt399 => ((laws_heldIntS.f k bt399.2 1).bind fun t401 => (if t401 < 0 then (some false) else (if t401 = bt399.1 then ((laws_toClassS.f k x0).bind fun t402 => ((impl_ClassFields.f k t402 x1).bind fun t405 => ((laws_eqIntS.f k t405 x6).bind fun t408 => (if t408 = true then ((laws_heldIntS.f k bt399.2 1).bind fun t409 => (if t409 < 0 then (some false) else (if t409 = bt399.1 then (some true) else (some false)))) else (some false))))) else (some false)))))
def laws_FnExactClassFields.f (k : Nat) (l0 : List (S63)) (a1 : Int) : Option (Bool) := (laws_szClassS.f k l0 1048576).bind fun t379 => (if t379 < 0 then (some true) else ((laws_toClassS.f k l0).bind fun t380 => ((spec_ClassFields.f k t380 a1).bind fun t383 => ((laws_toClassS.f k l0).bind fun t386 => ((impl_ClassFields.f k t386 a1).bind fun t389 => ((laws_eqIntS.f k t389 t383).bind fun t392 => (if t392 = true then ((laws_toClassS.f k l0).bind fun t393 => ((laws_eqClassS.f k t386 t393).bind fun t396 => (if t396 = true then ((laws_markClassS.f k t386 1).bind fun t397 => (if t397 < 0 then (laws_FnExactClassFields.j0 k l0 a1 t383 t389 true) else ((laws_eqIntS.f k t389 t383).bind fun t398 => (laws_FnExactClassFields.j0 k l0 a1 t383 t389 (!t398))))) else (some false)))) else (some false))))))))
theorem laws_FnExactClassFields.mono_l : ∀ k, (∀ y0 y1 y2 y3 y4, LeO (laws_FnExactClassFields.j0 k y0 y1 y2 y3 y4) (laws_FnExactClassFields.j0 (k + 1) y0 y1 y2 y3 y4))
  | 0 => fun _ _ _ _ _ r h => by simp [laws_FnExactClassFields.j0] at h
  | k + 1 => by
    have ih0 := laws_FnExactClassFields.mono_l k
    · intro y0 y1 y2 y3 y4
      unfold laws_FnExactClassFields.j0
      repeat' first
      | (with_reducible exact ih0 _ _ _ _ _)
      | (with_reducible exact impl_ClassFields.mono _ _ _)
      | (with_reducible exact laws_eqClassS.mono _ _ _)
      | (with_reducible exact laws_eqIntS.mono _ _ _)
      | (with_reducible exact laws_heldIntS.mono _ _ _)
      | (with_reducible exact laws_markClassS.mono _ _ _)
      | (with_reducible exact laws_markIntS.mono _ _ _)
      | (with_reducible exact laws_szClassS.mono _ _ _)
      | (with_reducible exact laws_toClassS.mono _ _)
      | (with_reducible exact spec_ClassFields.mono _ _ _)
      | (with_reducible exact LeO.refl _)
      | (with_reducible exact LeO.none _)
      | (with_reducible refine LeO.ite ?_ ?_)
      | (with_reducible refine LeO.bind ?_ (fun _ => ?_))
      | exact ih0 _ _ _ _ _
      | exact impl_ClassFields.mono _ _ _
      | exact laws_eqClassS.mono _ _ _
      | exact laws_eqIntS.mono _ _ _
      | exact laws_heldIntS.mono _ _ _
      | exact laws_markClassS.mono _ _ _
      | exact laws_markIntS.mono _ _ _
      | exact laws_szClassS.mono _ _ _
      | exact laws_toClassS.mono _ _
      | exact spec_ClassFields.mono _ _ _
      | exact LeO.none _
      | refine LeO.ite ?_ ?_
      | refine LeO.bind ?_ (fun _ => ?_)
theorem laws_FnExactClassFields.mono : ∀ a0 a1 k, LeO (laws_FnExactClassFields.f k a0 a1) (laws_FnExactClassFields.f (k + 1) a0 a1) := by
  intro a0 a1 k
  have ih0 := laws_FnExactClassFields.mono_l k
  unfold laws_FnExactClassFields.f
  repeat' first
      | (with_reducible exact ih0 _ _ _ _ _)
      | (with_reducible exact impl_ClassFields.mono _ _ _)
      | (with_reducible exact laws_eqClassS.mono _ _ _)
      | (with_reducible exact laws_eqIntS.mono _ _ _)
      | (with_reducible exact laws_heldIntS.mono _ _ _)
      | (with_reducible exact laws_markClassS.mono _ _ _)
      | (with_reducible exact laws_markIntS.mono _ _ _)
      | (with_reducible exact laws_szClassS.mono _ _ _)
      | (with_reducible exact laws_toClassS.mono _ _)
      | (with_reducible exact spec_ClassFields.mono _ _ _)
      | (with_reducible exact LeO.refl _)
      | (with_reducible exact LeO.none _)
      | (with_reducible refine LeO.ite ?_ ?_)
      | (with_reducible refine LeO.bind ?_ (fun _ => ?_))
      | exact ih0 _ _ _ _ _
      | exact impl_ClassFields.mono _ _ _
      | exact laws_eqClassS.mono _ _ _
      | exact laws_eqIntS.mono _ _ _
      | exact laws_heldIntS.mono _ _ _
      | exact laws_markClassS.mono _ _ _
      | exact laws_markIntS.mono _ _ _
      | exact laws_szClassS.mono _ _ _
      | exact laws_toClassS.mono _ _
      | exact spec_ClassFields.mono _ _ _
      | exact LeO.none _
      | refine LeO.ite ?_ ?_
      | refine LeO.bind ?_ (fun _ => ?_)

end Go.Proofs.Ytgmjolngnhdafaa.P

end
section
namespace Go.Proofs.Ytgmjolngnhdafaa.P
open Go.RowKit Go.Proofs.YtgmjolngnhdafaaW.PrintWords Go.Proofs.YtgmjolngnhdafaaW.PrintLast Go.Proofs.YtgmjolngnhdafaaW.PrintMore
attribute [local go_sem] max2_int min2_int max_two min_two max_three min_three max_four min_four
set_option linter.unusedVariables false
set_option linter.unusedSimpArgs false

set_option maxHeartbeats 8000000 in
set_option maxRecDepth 100000 in
theorem laws_szIntS.calls (A0 : Option Addr) (c0 : Nat) (l0 : List Int) (a1 : Int) (r : Int) (w : World) (hr0 : Kd.C (Kd.int .i64) w A0 l0.length l0) (hc0 : l0.length ≤ c0) (h : laws_szIntS.f l0 a1 = some r) :
    Calls Try.prog 79 #[.slice A0 l0.length c0, .int .i64 a1] w fun e w' => e = .returned (.int .i64 r) ∧ Drawn0 w w' := by
  have HR0 := Aside0.mk hr0
  have HC0 := Aside0.mk hc0
  clear hr0 hc0
  have H : (if (wrap64 (a1 - (l0.length : Int))) < 0 then (some (-1)) else (some (wrap64 (a1 - (l0.length : Int))))) = some r := h
  clear h
  by_cases c3 : (wrap64 (a1 - (l0.length : Int))) < 0
  · rw [if_pos c3] at H
    have c3b0 : decide ((wrap64 (a1 - (l0.length : Int))) < 0) = true := decide_eq_true c3
    clear c3
    obtain rfl := Option.some.inj H
    simp only [Option.some.injEq, Prod.mk.injEq] at H
    obtain ⟨rfl⟩ := H
    go_enter Try.func79, Try.ntmps79
    go_wp2
    go_ret
    exact ⟨by first | rfl | (simp; done) | (simp [*]; done), by repeat (first | exact Drawn0.refl _ | apply Drawn0.step)⟩
  · rw [if_neg c3] at H
    have c3b0 : decide ((wrap64 (a1 - (l0.length : Int))) < 0) = false := decide_eq_false c3
    clear c3
    obtain rfl := Option.some.inj H
    simp only [Option.some.injEq, Prod.mk.injEq] at H
    obtain ⟨rfl⟩ := H
    go_enter Try.func79, Try.ntmps79
    go_wp2
    go_ret
    exact ⟨by first | rfl | (simp; done) | (simp [*]; done), by repeat (first | exact Drawn0.refl _ | apply Drawn0.step)⟩

end Go.Proofs.Ytgmjolngnhdafaa.P

end
section
namespace Go.Proofs.Ytgmjolngnhdafaa.P
open Go.RowKit Go.Proofs.YtgmjolngnhdafaaW.PrintWords Go.Proofs.YtgmjolngnhdafaaW.PrintLast Go.Proofs.YtgmjolngnhdafaaW.PrintMore
attribute [local go_sem] max2_int min2_int max_two min_two max_three min_three max_four min_four
set_option linter.unusedVariables false
set_option linter.unusedSimpArgs false

set_option maxHeartbeats 8000000 in
set_option maxRecDepth 100000 in
theorem laws_szClass.calls (a0_0 : Int) (A0_1 : Option Addr) (c0_1 : Nat) (l0_1 : List Int) (a1 : Int) (r : Int) (w : World) (hr0_1 : Kd.C (Kd.int .i64) w A0_1 l0_1.length l0_1) (hc0_1 : l0_1.length ≤ c0_1) (h : laws_szClass.f a0_0 l0_1 a1 = some r) :
    Calls Try.prog 55 #[.agg #[.int .i64 a0_0, .slice A0_1 l0_1.length c0_1], .int .i64 a1] w fun e w' => e = .returned (.int .i64 r) ∧ Below w.heap.size w w' := by
  have hu63 := Try.underlying63
  have HR0_1 := Aside0.mk hr0_1
  have HC0_1 := Aside0.mk hc0_1
  clear hr0_1 hc0_1
  have HB := Aside0.mk (Below.refl w.heap.size w)
  have H : ((laws_szIntS.f l0_1 a1).bind fun t102 => (if t102 < 0 then (some (-1)) else (some t102))) = some r := h
  clear h
  replace H := Option.bind_eq_some_iff.mp H
  obtain ⟨t102, A30, H⟩ := H
  replace H : (if t102 < 0 then (some (-1)) else (some t102)) = some r := H
  have A3 := Aside0.mk A30
  clear A30
  by_cases c4 : t102 < 0
  · rw [if_pos c4] at H
    have c4b0 : decide (t102 < 0) = true := decide_eq_true c4
    clear c4
    obtain rfl := Option.some.inj H
    simp only [Option.some.injEq, Prod.mk.injEq] at H
    obtain ⟨rfl⟩ := H
    go_enter Try.func55, Try.ntmps55
    go_wp2_with (first | ((with_reducible refine gate_dst (N := 2) rfl ?_); refine box_event ?hg (N := 2) ?hd (cs := #[.int .i64 a0_0, .slice A0_1 l0_1.length c0_1]) (t := 63) ?hr ?_; (case hd => rfl); (case hg => rfl); (case hr => first | (go_simp; done) | (go_simp; rfl)); intro gb101 hg w5 hbox hb; have n0_ := Aside0.mk (below_step (by repeat (first | (with_reducible first | exact HB.out | apply below_alloc | apply pw_below_drewN | apply below_drew1) | exact HB.out)) hb); have n1_ := Aside0.mk (hbox); have n2_ := Aside0.mk ((by rw [hg]; exact (below_size (by repeat (first | (with_reducible first | exact HB.out | apply below_alloc | apply pw_below_drewN | apply below_drew1) | exact HB.out))) : w.heap.size ≤ gb101)); have n3_ := Aside0.mk ((by rw [hg]; exact (below_size (by repeat (first | (with_reducible first | exact HB.out | apply below_alloc | apply pw_below_drewN | apply below_drew1) | exact HB.out))) : w.heap.size ≤ gb101)); clear HB; have HB := n0_; have BK101 := n1_; have GW101 := n2_; have GE101 := n3_; clear n0_ n1_ n2_ n3_; clear hb hbox hg; have hcz6_0 : w5.cell? ⟨gb101, 0, none⟩ = some (.int .i64 a0_0) := (blk_cell BK101.out 0).trans rfl; have hcz6_1 : w5.cell? ⟨gb101, 1, none⟩ = some (.slice A0_1 l0_1.length c0_1) := (blk_cell BK101.out 1).trans rfl; have hfz6_0 := blk_frozen BK101.out 0; have hfz6_1 := blk_frozen BK101.out 1) | ((with_reducible refine gate_callee (f := 79) rfl ?_); refine goesL_ (some 8) rfl rfl Try.func79 (by kernel_rfl) rfl #[.slice A0_1 l0_1.length c0_1, .int .i64 a1] rfl (by (try simp only [List.map_toArray, List.map_cons, List.map_nil]); first | done | rfl | (simp only [List.length_drop, List.length_take]; rfl)) ?_; (with_reducible refine (laws_szIntS.calls _ _ l0_1 a1 t102 _ ?side1 ?side2 A3.out).mono ?_); (case side1 => repeat (first | exact (Kd.C_below HR0_1.out HB.out) | (with_reducible refine Kd.C_alloc ?_ _) | (with_reducible refine Kd.C_drewN ?_ _) | (with_reducible refine Kd.C_drew ?_))); (case side2 => exact HC0_1.out); rintro e w' ⟨rfl, ⟨nd, rfl⟩⟩; refine ⟨_, rfl, ?_⟩))
    go_ret
    exact ⟨by first | rfl | (simp [errW_none, errW_some] <;> rfl) | (simp [*, errW_none, errW_some] <;> rfl), by repeat (first | (with_reducible first | exact HB.out | apply below_alloc | apply pw_below_drewN | apply below_drew1 | refine below_set ?_ GE101.out) | exact HB.out)⟩
  · rw [if_neg c4] at H
    have c4b0 : decide (t102 < 0) = false := decide_eq_false c4
    clear c4
    obtain rfl := Option.some.inj H
    simp only [Option.some.injEq, Prod.mk.injEq] at H
    obtain ⟨rfl⟩ := H
    go_enter Try.func55, Try.ntmps55
    go_wp2_with (first | ((with_reducible refine gate_dst (N := 2) rfl ?_); refine box_event ?hg (N := 2) ?hd (cs := #[.int .i64 a0_0, .slice A0_1 l0_1.length c0_1]) (t := 63) ?hr ?_; (case hd => rfl); (case hg => rfl); (case hr => first | (go_simp; done) | (go_simp; rfl)); intro gb101 hg w7 hbox hb; have n0_ := Aside0.mk (below_step (by repeat (first | (with_reducible first | exact HB.out | apply below_alloc | apply pw_below_drewN | apply below_drew1) | exact HB.out)) hb); have n1_ := Aside0.mk (hbox); have n2_ := Aside0.mk ((by rw [hg]; exact (below_size (by repeat (first | (with_reducible first | exact HB.out | apply below_alloc | apply pw_below_drewN | apply below_drew1) | exact HB.out))) : w.heap.size ≤ gb101)); have n3_ := Aside0.mk ((by rw [hg]; exact (below_size (by repeat (first | (with_reducible first | exact HB.out | apply below_alloc | apply pw_below_drewN | apply below_drew1) | exact HB.out))) : w.heap.size ≤ gb101)); clear HB; have HB := n0_; have BK101 := n1_; have GW101 := n2_; have GE101 := n3_; clear n0_ n1_ n2_ n3_; clear hb hbox hg; have hcz8_0 : w7.cell? ⟨gb101, 0, none⟩ = some (.int .i64 a0_0) := (blk_cell BK101.out 0).trans rfl; have hcz8_1 : w7.cell? ⟨gb101, 1, none⟩ = some (.slice A0_1 l0_1.length c0_1) := (blk_cell BK101.out 1).trans rfl; have hfz8_0 := blk_frozen BK101.out 0; have hfz8_1 := blk_frozen BK101.out 1) | ((with_reducible refine gate_callee (f := 79) rfl ?_); refine goesL_ (some 8) rfl rfl Try.func79 (by kernel_rfl) rfl #[.slice A0_1 l0_1.length c0_1, .int .i64 a1] rfl (by (try simp only [List.map_toArray, List.map_cons, List.map_nil]); first | done | rfl | (simp only [List.length_drop, List.length_take]; rfl)) ?_; (with_reducible refine (laws_szIntS.calls _ _ l0_1 a1 t102 _ ?side1 ?side2 A3.out).mono ?_); (case side1 => repeat (first | exact (Kd.C_below HR0_1.out HB.out) | (with_reducible refine Kd.C_alloc ?_ _) | (with_reducible refine Kd.C_drewN ?_ _) | (with_reducible refine Kd.C_drew ?_))); (case side2 => exact HC0_1.out); rintro e w' ⟨rfl, ⟨nd, rfl⟩⟩; refine ⟨_, rfl, ?_⟩))
    go_ret
    exact ⟨by first | rfl | (simp [errW_none, errW_some] <;> rfl) | (simp [*, errW_none, errW_some] <;> rfl), by repeat (first | (with_reducible first | exact HB.out | apply below_alloc | apply pw_below_drewN | apply below_drew1 | refine below_set ?_ GE101.out) | exact HB.out)⟩

end Go.Proofs.Ytgmjolngnhdafaa.P

end
section
namespace Go.Proofs.Ytgmjolngnhdafaa.P
open Go.RowKit Go.Proofs.YtgmjolngnhdafaaW.PrintWords Go.Proofs.YtgmjolngnhdafaaW.PrintLast Go.Proofs.YtgmjolngnhdafaaW.PrintMore
attribute [local go_sem] max2_int min2_int max_two min_two max_three min_three max_four min_four
set_option linter.unusedVariables false
set_option linter.unusedSimpArgs false

set_option maxHeartbeats 8000000 in
set_option maxRecDepth 100000 in
theorem laws_szClassS.calls (k : Nat) (A0 : Option Addr) (c0 : Nat) (l0 : List (S63)) (a1 : Int) (r : Int) (w : World) (hr0 : Kd.C k63 w A0 l0.length l0) (hc0 : l0.length ≤ c0) (h : laws_szClassS.f k l0 a1 = some r) :
    Calls Try.prog 20 #[.slice A0 l0.length c0, .int .i64 a1] w fun e w' => e = .returned (.int .i64 r) ∧ Below w.heap.size w w' := by
  have hu63 := Try.underlying63
  have HR0 := Aside0.mk hr0
  have HC0 := Aside0.mk hc0
  clear hr0 hc0
  have HB := Aside0.mk (Below.refl w.heap.size w)
  have H : (if (wrap64 (a1 - (l0.length : Int))) < 0 then (some (-1)) else (laws_szClassS.l0 k l0 (wrap64 (a1 - (l0.length : Int))) 0)) = some r := h
  clear h
  by_cases c3 : (wrap64 (a1 - (l0.length : Int))) < 0
  · rw [if_pos c3] at H
    have c3b0 : decide ((wrap64 (a1 - (l0.length : Int))) < 0) = true := decide_eq_true c3
    clear c3
    obtain rfl := Option.some.inj H
    simp only [Option.some.injEq, Prod.mk.injEq] at H
    obtain ⟨rfl⟩ := H
    go_enter Try.func20, Try.ntmps20
    go_wp2
    go_ret
    exact ⟨by first | rfl | (simp [errW_none, errW_some] <;> rfl) | (simp [*, errW_none, errW_some] <;> rfl), by repeat (first | (with_reducible first | exact HB.out | apply below_alloc | apply pw_below_drewN | apply below_drew1) | exact HB.out)⟩
  · rw [if_neg c3] at H
    have c3b0 : decide ((wrap64 (a1 - (l0.length : Int))) < 0) = false := decide_eq_false c3
    clear c3
    have H' := Aside0.mk H
    clear H
    go_enter Try.func20, Try.ntmps20
    go_wp2
    go_loopg [1, 5] k (fun kq v1 v5 w' => ∃ (x1_1 : Int) (x5_1 : Int), v1 = .int .i64 x1_1 ∧ v5 = .int .i64 x5_1 ∧ Aside0 (laws_szClassS.l0 kq l0 x1_1 x5_1 = some r) ∧ Aside0 (kq ≤ k) ∧ Aside0 (Below w.heap.size w w'))
    case atStart => exact ⟨(wrap64 (a1 - (l0.length : Int))), (0), (by first | rfl | (simp; done) | (simp [*]; done)), (by first | rfl | (simp; done) | (simp [*]; done)), H', ⟨Nat.le_refl _⟩, ⟨by repeat (first | (with_reducible first | exact HB.out | apply below_alloc | apply pw_below_drewN | apply below_drew1) | exact HB.out)⟩⟩
    case round =>
      clear H'
      try clear c2
      try clear p2
      try clear c3
      try clear c3b0
      obtain ⟨x1_1, x5_1, rfl, rfl, HA, HK1, HB⟩ := hrel
      cases gk with
      | zero => exact absurd HA.out (by simp [laws_szClassS.l0])
      | succ k1 =>
        have H := HA.out
        clear HA
        simp only [laws_szClassS.l0] at H
        by_cases c4 : x5_1 < (l0.length : Int)
        · rw [if_pos c4] at H
          have c4b0 : decide (x5_1 < (l0.length : Int)) = true := decide_eq_true c4
          clear c4
          by_cases c5 : 0 ≤ x5_1
          · rw [if_pos c5] at H
            have c5b0 : decide (0 ≤ x5_1) = true := decide_eq_true c5
            clear c5
            replace H := Option.bind_eq_some_iff.mp H
            obtain ⟨t104, A60, H⟩ := H
            replace H : (if t104 < 0 then (some (-1)) else (laws_szClassS.l0 k1 l0 t104 (wrap64 (x5_1 + 1)))) = some r := H
            have A6 := Aside0.mk A60
            clear A60
            by_cases c7 : t104 < 0
            · rw [if_pos c7] at H
              have c7b0 : decide (t104 < 0) = true := decide_eq_true c7
              clear c7
              obtain rfl := Option.some.inj H
              simp only [Option.some.injEq, Prod.mk.injEq] at H
              obtain ⟨rfl⟩ := H
              have p103 : 0 ≤ (x5_1 : Int) := of_decide_eq_true (by first | (with_reducible assumption) | assumption)
              have q103 : x5_1 < (l0.length : Int) := of_decide_eq_true (by first | (with_reducible assumption) | assumption)
              obtain ⟨ad103, A103_1, c103_1, e103, hx103_0, hx103_1, hl103_1, hi103_1⟩ := at_T63 HR0.out x5_1 p103 q103
              cases e103
              replace hx103_0 := (HB.out.cell (World.block_lt_of_cell? w _ hx103_0)).trans hx103_0
              replace hx103_1 := (HB.out.cell (World.block_lt_of_cell? w _ hx103_1)).trans hx103_1
              have HR103_1 := Aside0.mk hi103_1
              have HC103_1 := Aside0.mk hl103_1
              clear hi103_1 hl103_1
              replace p103 := eq_true p103
              replace q103 := eq_true q103
              go_wp2_with (first | ((with_reducible refine gate_callee (f := 55) rfl ?_); refine goesL_ (some 23) rfl rfl Try.func55 (by kernel_rfl) rfl #[.agg #[.int .i64 ((rd_T63 l0 x5_1).f0), .slice A103_1 ((rd_T63 l0 x5_1).f1).length c103_1], .int .i64 x1_1] rfl (by (try simp only [List.map_toArray, List.map_cons, List.map_nil]); first | done | rfl | (simp only [List.length_drop, List.length_take]; rfl)) ?_; (with_reducible refine (laws_szClass.calls ((rd_T63 l0 x5_1).f0) _ _ ((rd_T63 l0 x5_1).f1) x1_1 t104 _ ?side1 ?side2 A6.out).mono ?_); (case side1 => repeat (first | exact (Kd.C_below HR103_1.out HB.out) | (with_reducible refine Kd.C_alloc ?_ _) | (with_reducible refine Kd.C_drewN ?_ _) | (with_reducible refine Kd.C_drew ?_))); (case side2 => exact HC103_1.out); rintro e w8 ⟨rfl, hb⟩; refine ⟨_, rfl, ?_⟩; have n0_ := Aside0.mk (below_step (by repeat (first | (with_reducible first | exact HB.out | apply below_alloc | apply pw_below_drewN | apply below_drew1) | exact HB.out)) hb); clear HB; have HB := n0_; clear n0_; (try clear hb); (try clear hb2); (try clear hk); (try clear hi)))
              go_ret
              exact ⟨by first | rfl | (simp [errW_none, errW_some] <;> rfl) | (simp [*, errW_none, errW_some] <;> rfl), by repeat (first | (with_reducible first | exact HB.out | apply below_alloc | apply pw_below_drewN | apply below_drew1) | exact HB.out)⟩
            · rw [if_neg c7] at H
              have c7b0 : decide (t104 < 0) = false := decide_eq_false c7
              clear c7
              have H' := Aside0.mk H
              clear H
              have p103 : 0 ≤ (x5_1 : Int) := of_decide_eq_true (by first | (with_reducible assumption) | assumption)
              have q103 : x5_1 < (l0.length : Int) := of_decide_eq_true (by first | (with_reducible assumption) | assumption)
              obtain ⟨ad103, A103_1, c103_1, e103, hx103_0, hx103_1, hl103_1, hi103_1⟩ := at_T63 HR0.out x5_1 p103 q103
              cases e103
              replace hx103_0 := (HB.out.cell (World.block_lt_of_cell? w _ hx103_0)).trans hx103_0
              replace hx103_1 := (HB.out.cell (World.block_lt_of_cell? w _ hx103_1)).trans hx103_1
              have HR103_1 := Aside0.mk hi103_1
              have HC103_1 := Aside0.mk hl103_1
              clear hi103_1 hl103_1
              replace p103 := eq_true p103
              replace q103 := eq_true q103
              go_wp2_with (first | ((with_reducible refine gate_callee (f := 55) rfl ?_); refine goesL_ (some 23) rfl rfl Try.func55 (by kernel_rfl) rfl #[.agg #[.int .i64 ((rd_T63 l0 x5_1).f0), .slice A103_1 ((rd_T63 l0 x5_1).f1).length c103_1], .int .i64 x1_1] rfl (by (try simp only [List.map_toArray, List.map_cons, List.map_nil]); first | done | rfl | (simp only [List.length_drop, List.length_take]; rfl)) ?_; (with_reducible refine (laws_szClass.calls ((rd_T63 l0 x5_1).f0) _ _ ((rd_T63 l0 x5_1).f1) x1_1 t104 _ ?side1 ?side2 A6.out).mono ?_); (case side1 => repeat (first | exact (Kd.C_below HR103_1.out HB.out) | (with_reducible refine Kd.C_alloc ?_ _) | (with_reducible refine Kd.C_drewN ?_ _) | (with_reducible refine Kd.C_drew ?_))); (case side2 => exact HC103_1.out); rintro e w9 ⟨rfl, hb⟩; refine ⟨_, rfl, ?_⟩; have n0_ := Aside0.mk (below_step (by repeat (first | (with_reducible first | exact HB.out | apply below_alloc | apply pw_below_drewN | apply below_drew1) | exact HB.out)) hb); clear HB; have HB := n0_; clear n0_; (try clear hb); (try clear hb2); (try clear hk); (try clear hi)))
              go_roundg k1
              case measure => have := HK1.out; omega
              case rel => exact ⟨(t104), (wrap64 (x5_1 + 1)), (by first | rfl | (simp; done) | (simp [*]; done)), (by first | rfl | (simp; done) | (simp [*]; done)), H', ⟨by have := HK1.out; omega⟩, ⟨by repeat (first | (with_reducible first | exact HB.out | apply below_alloc | apply pw_below_drewN | apply below_drew1) | exact HB.out)⟩⟩
          · rw [if_neg c5] at H
            exact absurd H (by simp)
        · rw [if_neg c4] at H
          have c4b0 : decide (x5_1 < (l0.length : Int)) = false := decide_eq_false c4
          clear c4
          obtain rfl := Option.some.inj H
          simp only [Option.some.injEq, Prod.mk.injEq] at H
          obtain ⟨rfl⟩ := H
          go_wp2
          go_ret
          exact ⟨by first | rfl | (simp [errW_none, errW_some] <;> rfl) | (simp [*, errW_none, errW_some] <;> rfl), by repeat (first | (with_reducible first | exact HB.out | apply below_alloc | apply pw_below_drewN | apply below_drew1) | exact HB.out)⟩

end Go.Proofs.Ytgmjolngnhdafaa.P

end
section
namespace Go.Proofs.Ytgmjolngnhdafaa.P
open Go.RowKit Go.Proofs.YtgmjolngnhdafaaW.PrintWords Go.Proofs.YtgmjolngnhdafaaW.PrintLast Go.Proofs.YtgmjolngnhdafaaW.PrintMore
attribute [local go_sem] max2_int min2_int max_two min_two max_three min_three max_four min_four
set_option linter.unusedVariables false
set_option linter.unusedSimpArgs false

set_option maxHeartbeats 8000000 in
set_option maxRecDepth 100000 in
theorem laws_toIntS.calls (k : Nat) (A0 : Option Addr) (c0 : Nat) (l0 : List Int) (r : List Int) (w : World) (hr0 : Kd.C (Kd.int .i64) w A0 l0.length l0) (hc0 : l0.length ≤ c0) (h : laws_toIntS.f k l0 = some r) :
    Calls Try.prog 80 #[.slice A0 l0.length c0] w fun e w' => ∃ v0_ : Value, e = .returned (v0_) ∧ Kd.R (Kd.int .i64) 3 w' w.heap.size (fun _ => True) v0_ r ∧ Below w.heap.size w w' := by
  have HR0 := Aside0.mk hr0
  have HC0 := Aside0.mk hc0
  clear hr0 hc0
  have HB := Aside0.mk (Below.refl w.heap.size w)
  have H : (if 0 ≤ (l0.length : Int) then (if ((l0.length : Int) : Int).toNat ≤ 35184372088832 then (laws_toIntS.l0 k l0 (List.replicate ((l0.length : Int) : Int).toNat 0) 0) else (none)) else (none)) = some r := h
  clear h
  by_cases c2 : 0 ≤ (l0.length : Int)
  · rw [if_pos c2] at H
    have c2b0 := eq_true c2
    have c2b1 : decide (0 ≤ (l0.length : Int)) = true := decide_eq_true c2
    clear c2
    by_cases c3 : ((l0.length : Int) : Int).toNat ≤ 35184372088832
    · rw [if_pos c3] at H
      have c3b0 := eq_true c3
      have c3b1 : decide (((l0.length : Int) : Int).toNat ≤ 35184372088832) = true := decide_eq_true c3
      clear c3
      obtain ⟨y114, hy114⟩ : ∃ y_ : List Int, y_ = (List.replicate ((l0.length : Int) : Int).toNat 0) := ⟨_, rfl⟩
      replace H : (laws_toIntS.l0 k l0 y114 0) = some r := by first | (rw [hy114]; with_reducible exact H) | (have H2_ := (Option.bind_some _ _).symm.trans H; rw [hy114]; with_reducible exact H2_) | (have H2_ := (Option.bind_some _ _).symm.trans H; with_reducible exact H2_) | with_reducible exact H | (rw [hy114]; exact H) | exact H
      have Ny114 := Aside0.mk hy114
      clear hy114
      have H' := Aside0.mk H
      clear H
      go_enter Try.func80, Try.ntmps80
      go_wp2_with (first | ((with_reducible refine gate_dst (N := 7) rfl ?_); refine Kd.R_make (Kd.int .i64) _ 3 rfl (N := 7) rfl 36 _ _ rfl (l0.length : Int) rfl rfl Try.underlying36 (.int .i64 0) 8 info3 rfl (by decide) (by omega) 0 (ok := fun _ => True) (okp := fun _ => True) rfl (fun _ hk => hk) trivial (of_decide_eq_true (by first | (with_reducible assumption) | assumption)) (Nat.le_trans (Nat.mul_le_mul_right _ (of_decide_eq_true (by first | (with_reducible assumption) | assumption) : (l0.length : Int).toNat ≤ 35184372088832)) (by omega)) (Below.refl _ _) (Nat.le_refl _) ?_; intro v115 w4 ho5 hb hg_ hnew_; clear hg_ hnew_; (first | rw [← Ny114.out] at ho5 | (simp only [Int.reduceToNat] at ho5; rw [← Ny114.out] at ho5)); have n0_ := Aside0.mk (Kd.R_lower ho5 (below_size (by repeat (first | (with_reducible first | exact HB.out | apply below_alloc | apply pw_below_drewN | apply below_drew1) | exact HB.out)))); have n1_ := Aside0.mk (below_step (by repeat (first | (with_reducible first | exact HB.out | apply below_alloc | apply pw_below_drewN | apply below_drew1) | exact HB.out)) hb); clear HB; have HO116 := n0_; have HB := n1_; clear n0_ n1_; clear hb ho5))
      go_loopg [4] k (fun kq v4 w' => ∃ (x3_1 : List Int) (x4_1 : Int), v4 = .int .i64 x4_1 ∧ Aside0 (laws_toIntS.l0 kq l0 x3_1 x4_1 = some r) ∧ Aside0 (kq ≤ k) ∧ Aside0 (Kd.R (Kd.int .i64) 3 w' w.heap.size (fun _ => True) v115 x3_1) ∧ Aside0 (Below w.heap.size w w'))
      case atStart => exact ⟨(y114), (0), (by first | rfl | (simp; done) | (simp [*]; done)), H', ⟨Nat.le_refl _⟩, ⟨by (with_reducible repeat (first | apply Kd.R_alloc | apply Kd.R_drewN | apply Kd.R_drew)); exact HO116.out⟩, ⟨by repeat (first | (with_reducible first | exact HB.out | apply below_alloc | apply pw_below_drewN | apply below_drew1) | exact HB.out)⟩⟩
      case round =>
        clear H'
        try clear c2
        try clear c2b0
        try clear c2b1
        try clear p2
        try clear c3
        try clear c3b0
        try clear c3b1
        obtain ⟨x3_1, x4_1, rfl, HA, HK1, HO_3, HB⟩ := hrel
        cases gk with
        | zero => exact absurd HA.out (by simp [laws_toIntS.l0])
        | succ k1 =>
          have H := HA.out
          clear HA
          simp only [laws_toIntS.l0] at H
          by_cases c6 : x4_1 < (l0.length : Int)
          · rw [if_pos c6] at H
            have c6b0 : decide (x4_1 < (l0.length : Int)) = true := decide_eq_true c6
            clear c6
            by_cases c7 : 0 ≤ x4_1
            · rw [if_pos c7] at H
              have c7b0 : decide (0 ≤ x4_1) = true := decide_eq_true c7
              clear c7
              by_cases c8 : x4_1 < (x3_1.length : Int)
              · rw [if_pos c8] at H
                have c8b0 : decide (x4_1 < (x3_1.length : Int)) = true := decide_eq_true c8
                clear c8
                obtain ⟨y118, hy118⟩ : ∃ y_ : List Int, y_ = (x3_1.set (x4_1 : Int).toNat (rd l0 x4_1)) := ⟨_, rfl⟩
                replace H : (laws_toIntS.l0 k1 l0 y118 (wrap64 (x4_1 + 1))) = some r := by first | (rw [hy118]; with_reducible exact H) | (have H2_ := (Option.bind_some _ _).symm.trans H; rw [hy118]; with_reducible exact H2_) | (have H2_ := (Option.bind_some _ _).symm.trans H; with_reducible exact H2_) | with_reducible exact H | (rw [hy118]; exact H) | exact H
                have Ny118 := Aside0.mk hy118
                clear hy118
                have H' := Aside0.mk H
                clear H
                have p117 : 0 ≤ (x4_1 : Int) := of_decide_eq_true (by first | (with_reducible assumption) | assumption)
                have q117 : x4_1 < (l0.length : Int) := of_decide_eq_true (by first | (with_reducible assumption) | assumption)
                obtain ⟨ad117, e117, hx117_0⟩ := Kd.at_int HR0.out x4_1 p117 q117
                cases e117
                replace hx117_0 := (HB.out.cell (World.block_lt_of_cell? w _ hx117_0)).trans hx117_0
                replace p117 := eq_true p117
                replace q117 := eq_true q117
                have p9 : 0 ≤ (x4_1 : Int) := of_decide_eq_true (by first | (with_reducible assumption) | assumption)
                have q9 : (x4_1 : Int) < ((x3_1.length : Int) : Int) := of_decide_eq_true (by first | (with_reducible assumption) | assumption)
                obtain ⟨go9, co9, eo9, gb9, gl9, cl9, HG9⟩ := Kd.R_form HO_3.out (by omega)
                (first | cases eo9 | (injection eo9 with ea_ en_ ec_; (first | subst ea_ | (injection ea_ with ea_; subst ea_)); subst ec_; clear en_))
                have GB9 := Aside0.mk gb9
                have GG9 := Aside0.mk HG9
                clear gb9 gl9 HG9
                obtain ⟨hx9_0, hf9_0⟩ := Kd.R_celln 0 HO_3.out (x4_1 : Int) p9 q9
                replace p9 := eq_true p9
                replace q9 := eq_true q9
                have HP10 := Kd.R_putg HO_3.out (x4_1 : Int) (rd l0 x4_1)
                go_wp2_with (first | ((with_reducible refine gate_store (t := 3) (p := 20) rfl ?_); refine store_event (t := 3) (p := 20) (v := ?vo_w11) (w1 := (wr.setCell ⟨go9, (x4_1 : Int).toNat, none⟩ (.int .i64 (rd l0 x4_1)))) ?hg ?ho ?hn ?hr ?_; (case ho => rfl); (case hg => rfl); (case hn => rfl); (case hr => first | (go_simp; done) | (go_simp; rfl)); intro w11 hw; have hg : wr.grownBy w11 (some go9) := (by rw [hw]; exact HP10.2); have hp_ : Kd.R (Kd.int .i64) 3 w11 w.heap.size (fun _ => True) (.slice (some ⟨go9, 0, none⟩) x3_1.length co9) y118 := (by rw [hw, Ny118.out]; exact HP10.1); clear HP10; have n0_ := Aside0.mk (hp_); have n1_ := Aside0.mk ((by rw [hw]; exact below_set (HB.out) GB9.out : Below w.heap.size w w11)); clear HO_3; clear HB; have HO_3 := n0_; have HB := n1_; clear n0_ n1_; clear hg hw hp_))
                go_roundg k1
                case measure => have := HK1.out; omega
                case rel => exact ⟨(y118), (wrap64 (x4_1 + 1)), (by first | rfl | (simp; done) | (simp [*]; done)), H', ⟨by have := HK1.out; omega⟩, ⟨by (with_reducible repeat (first | apply Kd.R_alloc | apply Kd.R_drewN | apply Kd.R_drew)); exact HO_3.out⟩, ⟨by repeat (first | (with_reducible first | exact HB.out | apply below_alloc | apply pw_below_drewN | apply below_drew1) | exact HB.out)⟩⟩
              · rw [if_neg c8] at H
                exact absurd H (by simp)
            · rw [if_neg c7] at H
              exact absurd H (by simp)
          · rw [if_neg c6] at H
            have c6b0 : decide (x4_1 < (l0.length : Int)) = false := decide_eq_false c6
            clear c6
            obtain rfl := Option.some.inj H
            simp only [Option.some.injEq, Prod.mk.injEq] at H
            obtain ⟨rfl⟩ := H
            go_wp2
            go_ret
            exact ⟨_, by first | rfl | (simp [errW_none, errW_some] <;> rfl) | (simp [*, errW_none, errW_some] <;> rfl), by (with_reducible repeat (first | apply Kd.R_alloc | apply Kd.R_drewN | apply Kd.R_drew)); exact HO_3.out, by repeat (first | (with_reducible first | exact HB.out | apply below_alloc | apply pw_below_drewN | apply below_drew1) | exact HB.out)⟩
    · rw [if_neg c3] at H
      exact absurd H (by simp)
  · rw [if_neg c2] at H
    exact absurd H (by simp)

end Go.Proofs.Ytgmjolngnhdafaa.P

end
section
namespace Go.Proofs.Ytgmjolngnhdafaa.P
open Go.RowKit Go.Proofs.YtgmjolngnhdafaaW.PrintWords Go.Proofs.YtgmjolngnhdafaaW.PrintLast Go.Proofs.YtgmjolngnhdafaaW.PrintMore
attribute [local go_sem] max2_int min2_int max_two min_two max_three min_three max_four min_four
set_option linter.unusedVariables false
set_option linter.unusedSimpArgs false

set_option maxHeartbeats 8000000 in
set_option maxRecDepth 100000 in
theorem laws_toClass.calls (k : Nat) (a0_0 : Int) (A0_1 : Option Addr) (c0_1 : Nat) (l0_1 : List Int) (r1 : Int) (r2 : List Int) (w : World) (hr0_1 : Kd.C (Kd.int .i64) w A0_1 l0_1.length l0_1) (hc0_1 : l0_1.length ≤ c0_1) (h : laws_toClass.f k a0_0 l0_1 = some (r1, r2)) :
    Calls Try.prog 58 #[.agg #[.int .i64 a0_0, .slice A0_1 l0_1.length c0_1]] w fun e w' => ∃ v1_ : Value, e = .returned (.agg #[.int .i64 r1, v1_]) ∧ Kd.R (Kd.int .i64) 3 w' w.heap.size (fun _ => True) v1_ r2 ∧ Below w.heap.size w w' := by
  have hu63 := Try.underlying63
  have hu38 := Try.underlying38
  have HR0_1 := Aside0.mk hr0_1
  have HC0_1 := Aside0.mk hc0_1
  clear hr0_1 hc0_1
  have HB := Aside0.mk (Below.refl w.heap.size w)
  have H : ((laws_toIntS.f k l0_1).bind fun t122 => (some (a0_0, t122))) = some (r1, r2) := h
  clear h
  replace H := Option.bind_eq_some_iff.mp H
  obtain ⟨t122, A20, H⟩ := H
  replace H : (some (a0_0, t122)) = some (r1, r2) := H
  have A2 := Aside0.mk A20
  clear A20
  simp only [Option.some.injEq, Prod.mk.injEq] at H
  obtain ⟨rfl, rfl⟩ := H
  go_enter Try.func58, Try.ntmps58
  go_wp2_with (first | ((with_reducible refine gate_dst (N := 1) rfl ?_); refine box_event ?hg (N := 1) ?hd (cs := #[.int .i64 a0_0, .slice A0_1 l0_1.length c0_1]) (t := 63) ?hr ?_; (case hd => rfl); (case hg => rfl); (case hr => first | (go_simp; done) | (go_simp; rfl)); intro gb119 hg w3 hbox hb; have n0_ := Aside0.mk (below_step (by repeat (first | (with_reducible first | exact HB.out | apply below_alloc | apply pw_below_drewN | apply below_drew1) | exact HB.out)) hb); have n1_ := Aside0.mk (hbox); have n2_ := Aside0.mk ((by rw [hg]; exact (below_size (by repeat (first | (with_reducible first | exact HB.out | apply below_alloc | apply pw_below_drewN | apply below_drew1) | exact HB.out))) : w.heap.size ≤ gb119)); have n3_ := Aside0.mk ((by rw [hg]; exact (below_size (by repeat (first | (with_reducible first | exact HB.out | apply below_alloc | apply pw_below_drewN | apply below_drew1) | exact HB.out))) : w.heap.size ≤ gb119)); clear HB; have HB := n0_; have BK119 := n1_; have GW119 := n2_; have GE119 := n3_; clear n0_ n1_ n2_ n3_; clear hb hbox hg) | ((with_reducible refine gate_dst (N := 2) rfl ?_); refine box_event ?hg (N := 2) ?hd (cs := #[.int .i64 0, .slice none 0 0]) (t := 38) ?hr ?_; (case hd => rfl); (case hg => rfl); (case hr => first | (go_simp; done) | (go_simp; rfl)); intro gb120 hg w4 hbox hb; have n0_ := Aside0.mk (blk_below (g := gb119) (o := .cells #[.int .i64 a0_0, .slice A0_1 l0_1.length c0_1] 63 (0, 0)) (by (with_reducible repeat (first | refine blk_drewN ?_ _ | refine blk_drew ?_ | refine blk_alloc ?_ _)); exact BK119.out) hb); have n1_ := Aside0.mk (below_step (by repeat (first | (with_reducible first | exact HB.out | apply below_alloc | apply pw_below_drewN | apply below_drew1 | refine below_set ?_ GE119.out) | exact HB.out)) hb); have n2_ := Aside0.mk (hbox); have n3_ := Aside0.mk ((by rw [hg]; exact (below_size (by repeat (first | (with_reducible first | exact HB.out | apply below_alloc | apply pw_below_drewN | apply below_drew1 | refine below_set ?_ GE119.out) | exact HB.out))) : w.heap.size ≤ gb120)); have n4_ := Aside0.mk ((by rw [hg]; exact (below_size (by repeat (first | (with_reducible first | exact HB.out | apply below_alloc | apply pw_below_drewN | apply below_drew1 | refine below_set ?_ GE119.out) | exact HB.out))) : w.heap.size ≤ gb120)); have n5_ := Aside0.mk ((by rw [hg]; exact Nat.ne_of_lt (blk_lt (g := gb119) (o := .cells #[.int .i64 a0_0, .slice A0_1 l0_1.length c0_1] 63 (0, 0)) (by (with_reducible repeat (first | refine blk_drewN ?_ _ | refine blk_drew ?_ | refine blk_alloc ?_ _)); exact BK119.out)) : gb119 ≠ gb120)); have n6_ := Aside0.mk ((by rw [hg]; exact Nat.ne_of_gt (blk_lt (g := gb119) (o := .cells #[.int .i64 a0_0, .slice A0_1 l0_1.length c0_1] 63 (0, 0)) (by (with_reducible repeat (first | refine blk_drewN ?_ _ | refine blk_drew ?_ | refine blk_alloc ?_ _)); exact BK119.out)) : gb120 ≠ gb119)); clear BK119; clear HB; have BK119 := n0_; have HB := n1_; have BK120 := n2_; have GW120 := n3_; have GE120 := n4_; have NB119_120 := n5_; have NB120_119 := n6_; clear n0_ n1_ n2_ n3_ n4_ n5_ n6_; clear hb hbox hg) | ((with_reducible refine gate_dst (N := 3) rfl ?_); refine box_event ?hg (N := 3) ?hd (cs := #[.int .i64 0, .slice none 0 0]) (t := 38) ?hr ?_; (case hd => rfl); (case hg => rfl); (case hr => first | (go_simp; done) | (go_simp; rfl)); intro gb121 hg w5 hbox hb; have n0_ := Aside0.mk (blk_below (g := gb119) (o := .cells #[.int .i64 a0_0, .slice A0_1 l0_1.length c0_1] 63 (0, 0)) (by (with_reducible repeat (first | refine blk_drewN ?_ _ | refine blk_drew ?_ | refine blk_alloc ?_ _)); exact BK119.out) hb); have n1_ := Aside0.mk (blk_below (g := gb120) (o := .cells #[.int .i64 0, .slice none 0 0] 38 (0, 0)) (by (with_reducible repeat (first | refine blk_drewN ?_ _ | refine blk_drew ?_ | refine blk_alloc ?_ _)); exact BK120.out) hb); have n2_ := Aside0.mk (below_step (by repeat (first | (with_reducible first | exact HB.out | apply below_alloc | apply pw_below_drewN | apply below_drew1 | refine below_set ?_ GE119.out | refine below_set ?_ GE120.out) | exact HB.out)) hb); have n3_ := Aside0.mk (hbox); have n4_ := Aside0.mk ((by rw [hg]; exact (below_size (by repeat (first | (with_reducible first | exact HB.out | apply below_alloc | apply pw_below_drewN | apply below_drew1 | refine below_set ?_ GE119.out | refine below_set ?_ GE120.out) | exact HB.out))) : w.heap.size ≤ gb121)); have n5_ := Aside0.mk ((by rw [hg]; exact (below_size (by repeat (first | (with_reducible first | exact HB.out | apply below_alloc | apply pw_below_drewN | apply below_drew1 | refine below_set ?_ GE119.out | refine below_set ?_ GE120.out) | exact HB.out))) : w.heap.size ≤ gb121)); have n6_ := Aside0.mk ((by rw [hg]; exact Nat.ne_of_lt (blk_lt (g := gb119) (o := .cells #[.int .i64 a0_0, .slice A0_1 l0_1.length c0_1] 63 (0, 0)) (by (with_reducible repeat (first | refine blk_drewN ?_ _ | refine blk_drew ?_ | refine blk_alloc ?_ _)); exact BK119.out)) : gb119 ≠ gb121)); have n7_ := Aside0.mk ((by rw [hg]; exact Nat.ne_of_gt (blk_lt (g := gb119) (o := .cells #[.int .i64 a0_0, .slice A0_1 l0_1.length c0_1] 63 (0, 0)) (by (with_reducible repeat (first | refine blk_drewN ?_ _ | refine blk_drew ?_ | refine blk_alloc ?_ _)); exact BK119.out)) : gb121 ≠ gb119)); have n8_ := Aside0.mk ((by rw [hg]; exact Nat.ne_of_lt (blk_lt (g := gb120) (o := .cells #[.int .i64 0, .slice none 0 0] 38 (0, 0)) (by (with_reducible repeat (first | refine blk_drewN ?_ _ | refine blk_drew ?_ | refine blk_alloc ?_ _)); exact BK120.out)) : gb120 ≠ gb121)); have n9_ := Aside0.mk ((by rw [hg]; exact Nat.ne_of_gt (blk_lt (g := gb120) (o := .cells #[.int .i64 0, .slice none 0 0] 38 (0, 0)) (by (with_reducible repeat (first | refine blk_drewN ?_ _ | refine blk_drew ?_ | refine blk_alloc ?_ _)); exact BK120.out)) : gb121 ≠ gb120)); clear BK119; clear BK120; clear HB; have BK119 := n0_; have BK120 := n1_; have HB := n2_; have BK121 := n3_; have GW121 := n4_; have GE121 := n5_; have NB119_121 := n6_; have NB121_119 := n7_; have NB120_121 := n8_; have NB121_120 := n9_; clear n0_ n1_ n2_ n3_ n4_ n5_ n6_ n7_ n8_ n9_; clear hb hbox hg; have hnb6 := NB119_120.out; have hnc6 := NB120_119.out; have hnb7 := NB119_121.out; have hnc7 := NB121_119.out; have hcz8_0 : w5.cell? ⟨gb119, 0, none⟩ = some (.int .i64 a0_0) := (blk_cell BK119.out 0).trans rfl; have hcz8_1 : w5.cell? ⟨gb119, 1, none⟩ = some (.slice A0_1 l0_1.length c0_1) := (blk_cell BK119.out 1).trans rfl; have hfz8_0 := blk_frozen BK119.out 0; have hfz8_1 := blk_frozen BK119.out 1; have hnb9 := NB121_120.out; have hnc9 := NB120_121.out; have hcz10_0 : w5.cell? ⟨gb121, 0, none⟩ = some (.int .i64 0) := (blk_cell BK121.out 0).trans rfl; have hcz10_1 : w5.cell? ⟨gb121, 1, none⟩ = some (.slice none 0 0) := (blk_cell BK121.out 1).trans rfl; have hfz10_0 := blk_frozen BK121.out 0; have hfz10_1 := blk_frozen BK121.out 1) | ((with_reducible refine gate_callee (f := 80) rfl ?_); refine goesL_ (some 9) rfl rfl Try.func80 (by kernel_rfl) rfl #[.slice A0_1 l0_1.length c0_1] rfl (by (try simp only [List.map_toArray, List.map_cons, List.map_nil]); first | done | rfl | (simp only [List.length_drop, List.length_take]; rfl)) ?_; (with_reducible refine (laws_toIntS.calls k _ _ l0_1 t122 _ ?side1 ?side2 A2.out).mono ?_); (case side1 => exact Kd.C_below HR0_1.out (by repeat (first | (with_reducible first | exact HB.out | apply below_alloc | apply pw_below_drewN | apply below_drew1 | refine below_set ?_ GE119.out | refine below_set ?_ GE120.out | refine below_set ?_ GE121.out) | exact HB.out))); (case side2 => exact HC0_1.out); rintro e w11 ⟨v123, rfl, ho0, hb⟩; refine ⟨_, rfl, ?_⟩; have n0_ := Aside0.mk (Kd.R_lower ho0 (below_size (by repeat (first | (with_reducible first | exact HB.out | apply below_alloc | apply pw_below_drewN | apply below_drew1 | refine below_set ?_ GE119.out | refine below_set ?_ GE120.out | refine below_set ?_ GE121.out) | exact HB.out)))); have n1_ := Aside0.mk (blk_below (g := gb119) (o := .cells #[.int .i64 a0_0, .slice A0_1 l0_1.length c0_1] 63 (0, 0)) (by (with_reducible repeat (first | refine blk_drewN ?_ _ | refine blk_drew ?_ | refine blk_alloc ?_ _)); refine blk_far ?_ NB119_121.out _; (with_reducible repeat (first | refine blk_drewN ?_ _ | refine blk_drew ?_ | refine blk_alloc ?_ _)); exact BK119.out) hb); have n2_ := Aside0.mk (blk_below (g := gb120) (o := .cells #[.int .i64 0, .slice none 0 0] 38 (0, 0)) (by (with_reducible repeat (first | refine blk_drewN ?_ _ | refine blk_drew ?_ | refine blk_alloc ?_ _)); refine blk_far ?_ NB120_121.out _; (with_reducible repeat (first | refine blk_drewN ?_ _ | refine blk_drew ?_ | refine blk_alloc ?_ _)); exact BK120.out) hb); have n3_ := Aside0.mk (blk_below (g := gb121) (o := .cells #[.int .i64 a0_0, .slice none 0 0] 38 (0, 0)) (by (with_reducible repeat (first | refine blk_drewN ?_ _ | refine blk_drew ?_ | refine blk_alloc ?_ _)); refine blk_put (cs := #[.int .i64 0, .slice none 0 0]) ?_ 0 _ rfl; (with_reducible repeat (first | refine blk_drewN ?_ _ | refine blk_drew ?_ | refine blk_alloc ?_ _)); exact BK121.out) hb); have n4_ := Aside0.mk (below_step (by repeat (first | (with_reducible first | exact HB.out | apply below_alloc | apply pw_below_drewN | apply below_drew1 | refine below_set ?_ GE119.out | refine below_set ?_ GE120.out | refine below_set ?_ GE121.out) | exact HB.out)) hb); clear BK119; clear BK120; clear BK121; clear HB; have HO124 := n0_; have BK119 := n1_; have BK120 := n2_; have BK121 := n3_; have HB := n4_; clear n0_ n1_ n2_ n3_ n4_; (try clear hb); (try clear hb2); (try clear hk); (try clear hi); (try clear ho0); obtain ⟨Ao12, co12, eo12⟩ := Kd.R_slice HO124.out; subst eo12; have hcz13_0 : w11.cell? ⟨gb121, 0, none⟩ = some (.int .i64 a0_0) := (blk_cell BK121.out 0).trans rfl; have hcz13_1 : w11.cell? ⟨gb121, 1, none⟩ = some (.slice none 0 0) := (blk_cell BK121.out 1).trans rfl; have hfz13_0 := blk_frozen BK121.out 0; have hfz13_1 := blk_frozen BK121.out 1; have hcz14_0 : w11.cell? ⟨gb120, 0, none⟩ = some (.int .i64 0) := (blk_cell BK120.out 0).trans rfl; have hcz14_1 : w11.cell? ⟨gb120, 1, none⟩ = some (.slice none 0 0) := (blk_cell BK120.out 1).trans rfl; have hfz14_0 := blk_frozen BK120.out 0; have hfz14_1 := blk_frozen BK120.out 1))
  refine bodyPost_ret (results_cell_row rfl _ _ gb120 38 #[.int .i64 a0_0, .slice Ao12 t122.length co12] (0, 0) _ rfl (by (with_reducible repeat (first | refine blk_drewN ?_ _ | refine blk_drew ?_ | refine blk_alloc ?_ _)); refine blk_put (cs := #[.int .i64 a0_0, .slice none 0 0]) ?_ 1 _ rfl; (with_reducible repeat (first | refine blk_drewN ?_ _ | refine blk_drew ?_ | refine blk_alloc ?_ _)); refine blk_put (cs := #[.int .i64 0, .slice none 0 0]) ?_ 0 _ rfl; (with_reducible repeat (first | refine blk_drewN ?_ _ | refine blk_drew ?_ | refine blk_alloc ?_ _)); refine blk_far ?_ NB120_121.out _; (with_reducible repeat (first | refine blk_drewN ?_ _ | refine blk_drew ?_ | refine blk_alloc ?_ _)); exact BK120.out) Try.underlying38 rfl (by kernel_rfl)) rfl ?_
  exact ⟨_, by first | rfl | (simp [errW_none, errW_some] <;> rfl) | (simp [*, errW_none, errW_some] <;> rfl), by (with_reducible repeat (first | apply Kd.R_alloc | apply Kd.R_drewN | apply Kd.R_drew)); exact Kd.R_mono (Kd.R_far (p := ⟨gb120, 1, none⟩) (Kd.R_far (p := ⟨gb120, 0, none⟩) (Kd.R_far (p := ⟨gb121, 1, none⟩) (Kd.R_types (Kd.R_types HO124.out BK121.out (by decide)) BK120.out (by decide)) (fun _ hk => hk.1.2) (.slice Ao12 t122.length co12)) (fun _ hk => hk.2) (.int .i64 a0_0)) (fun _ hk => hk.2) (.slice Ao12 t122.length co12)) (fun _ hk => trivial), by repeat (first | (with_reducible first | exact HB.out | apply below_alloc | apply pw_below_drewN | apply below_drew1 | refine below_set ?_ GE119.out | refine below_set ?_ GE120.out | refine below_set ?_ GE121.out) | exact HB.out)⟩

end Go.Proofs.Ytgmjolngnhdafaa.P

end
section
namespace Go.Proofs.Ytgmjolngnhdafaa.P
open Go.RowKit Go.Proofs.YtgmjolngnhdafaaW.PrintWords Go.Proofs.YtgmjolngnhdafaaW.PrintLast Go.Proofs.YtgmjolngnhdafaaW.PrintMore
attribute [local go_sem] max2_int min2_int max_two min_two max_three min_three max_four min_four
set_option linter.unusedVariables false
set_option linter.unusedSimpArgs false

set_option maxHeartbeats 8000000 in
set_option maxRecDepth 100000 in
theorem laws_toClassS.calls (k : Nat) (A0 : Option Addr) (c0 : Nat) (l0 : List (S63)) (r : List (S38)) (w : World) (hr0 : Kd.C k63 w A0 l0.length l0) (hc0 : l0.length ≤ c0) (h : laws_toClassS.f k l0 = some r) :
    Calls Try.prog 22 #[.slice A0 l0.length c0] w fun e w' => ∃ v0_ : Value, e = .returned (v0_) ∧ Kd.S k38 38 w' w.heap.size (fun _ => True) v0_ r ∧ Below w.heap.size w w' := by
  have hu63 := Try.underlying63
  have hu38 := Try.underlying38
  have HR0 := Aside0.mk hr0
  have HC0 := Aside0.mk hc0
  clear hr0 hc0
  have HB := Aside0.mk (Below.refl w.heap.size w)
  have H : (if 0 ≤ (l0.length : Int) then (if ((l0.length : Int) : Int).toNat ≤ 8796093022208 then (laws_toClassS.l0 k l0 (List.replicate ((l0.length : Int) : Int).toNat z38) 0) else (none)) else (none)) = some r := h
  clear h
  by_cases c2 : 0 ≤ (l0.length : Int)
  · rw [if_pos c2] at H
    have c2b0 := eq_true c2
    have c2b1 : decide (0 ≤ (l0.length : Int)) = true := decide_eq_true c2
    clear c2
    by_cases c3 : ((l0.length : Int) : Int).toNat ≤ 8796093022208
    · rw [if_pos c3] at H
      have c3b0 := eq_true c3
      have c3b1 : decide (((l0.length : Int) : Int).toNat ≤ 8796093022208) = true := decide_eq_true c3
      clear c3
      obtain ⟨y125, hy125⟩ : ∃ y_ : List (S38), y_ = (List.replicate ((l0.length : Int) : Int).toNat z38) := ⟨_, rfl⟩
      replace H : (laws_toClassS.l0 k l0 y125 0) = some r := by first | (rw [hy125]; with_reducible exact H) | (have H2_ := (Option.bind_some _ _).symm.trans H; rw [hy125]; with_reducible exact H2_) | (have H2_ := (Option.bind_some _ _).symm.trans H; with_reducible exact H2_) | with_reducible exact H | (rw [hy125]; exact H) | exact H
      have Ny125 := Aside0.mk hy125
      clear hy125
      have H' := Aside0.mk H
      clear H
      go_enter Try.func22, Try.ntmps22
      go_wp2_with (first | ((with_reducible refine gate_dst (N := 7) rfl ?_); refine Kd.S_make k38 _ 38 rfl (N := 7) rfl 25 _ _ rfl (l0.length : Int) rfl rfl Try.underlying25 (.agg #[(.int .i64 0), (.slice none 0 0)]) 32 info38 rfl (by decide) (by omega) z38 (ok := fun _ => True) (okp := fun _ => True) (k38_mkM _ _ _ z38 (Kd.R_nil _ _ _ _ _)) (fun _ hk => hk) trivial (of_decide_eq_true (by first | (with_reducible assumption) | assumption)) (Nat.le_trans (Nat.mul_le_mul_right _ (of_decide_eq_true (by first | (with_reducible assumption) | assumption) : (l0.length : Int).toNat ≤ 8796093022208)) (by omega)) (Below.refl _ _) (Nat.le_refl _) ?_; intro v126 w4 ho5 hb hg_ hnew_; clear hg_ hnew_; (first | rw [← Ny125.out] at ho5 | (simp only [Int.reduceToNat] at ho5; rw [← Ny125.out] at ho5)); have n0_ := Aside0.mk (Kd.S_lower ho5 (below_size (by repeat (first | (with_reducible first | exact HB.out | apply below_alloc | apply pw_below_drewN | apply below_drew1) | exact HB.out)))); have n1_ := Aside0.mk (below_step (by repeat (first | (with_reducible first | exact HB.out | apply below_alloc | apply pw_below_drewN | apply below_drew1) | exact HB.out)) hb); clear HB; have HO127 := n0_; have HB := n1_; clear n0_ n1_; clear hb ho5))
      go_loopg [4] k (fun kq v4 w' => ∃ (x3_1 : List (S38)) (x4_1 : Int), v4 = .int .i64 x4_1 ∧ Aside0 (laws_toClassS.l0 kq l0 x3_1 x4_1 = some r) ∧ Aside0 (kq ≤ k) ∧ Aside0 (Kd.S k38 38 w' w.heap.size (fun _ => True) v126 x3_1) ∧ Aside0 (Below w.heap.size w w'))
      case atStart => exact ⟨(y125), (0), (by first | rfl | (simp; done) | (simp [*]; done)), H', ⟨Nat.le_refl _⟩, ⟨by (with_reducible repeat (first | apply Kd.S_alloc | apply Kd.S_drewN | apply Kd.S_drew)); exact HO127.out⟩, ⟨by repeat (first | (with_reducible first | exact HB.out | apply below_alloc | apply pw_below_drewN | apply below_drew1) | exact HB.out)⟩⟩
      case round =>
        clear H'
        try clear c2
        try clear c2b0
        try clear c2b1
        try clear p2
        try clear c3
        try clear c3b0
        try clear c3b1
        obtain ⟨x3_1, x4_1, rfl, HA, HK1, HO_3, HB⟩ := hrel
        cases gk with
        | zero => exact absurd HA.out (by simp [laws_toClassS.l0])
        | succ k1 =>
          have H := HA.out
          clear HA
          simp only [laws_toClassS.l0] at H
          by_cases c6 : x4_1 < (l0.length : Int)
          · rw [if_pos c6] at H
            have c6b0 : decide (x4_1 < (l0.length : Int)) = true := decide_eq_true c6
            clear c6
            by_cases c7 : 0 ≤ x4_1
            · rw [if_pos c7] at H
              have c7b0 : decide (0 ≤ x4_1) = true := decide_eq_true c7
              clear c7
              replace H := Option.bind_eq_some_iff.mp H
              obtain ⟨⟨t129, t130⟩, A80, H⟩ := H
              replace H : (if x4_1 < (x3_1.length : Int) then (laws_toClassS.l0 k1 l0 (x3_1.set (x4_1 : Int).toNat (⟨t129, t130⟩ : S38)) (wrap64 (x4_1 + 1))) else (none)) = some r := H
              have A8 := Aside0.mk A80
              clear A80
              by_cases c9 : x4_1 < (x3_1.length : Int)
              · rw [if_pos c9] at H
                have c9b0 : decide (x4_1 < (x3_1.length : Int)) = true := decide_eq_true c9
                clear c9
                obtain ⟨y133, hy133⟩ : ∃ y_ : List (S38), y_ = (x3_1.set (x4_1 : Int).toNat (⟨t129, t130⟩ : S38)) := ⟨_, rfl⟩
                replace H : (laws_toClassS.l0 k1 l0 y133 (wrap64 (x4_1 + 1))) = some r := by first | (rw [hy133]; with_reducible exact H) | (have H2_ := (Option.bind_some _ _).symm.trans H; rw [hy133]; with_reducible exact H2_) | (have H2_ := (Option.bind_some _ _).symm.trans H; with_reducible exact H2_) | with_reducible exact H | (rw [hy133]; exact H) | exact H
                have Ny133 := Aside0.mk hy133
                clear hy133
                have H' := Aside0.mk H
                clear H
                have p128 : 0 ≤ (x4_1 : Int) := of_decide_eq_true (by first | (with_reducible assumption) | assumption)
                have q128 : x4_1 < (l0.length : Int) := of_decide_eq_true (by first | (with_reducible assumption) | assumption)
                obtain ⟨ad128, A128_1, c128_1, e128, hx128_0, hx128_1, hl128_1, hi128_1⟩ := at_T63 HR0.out x4_1 p128 q128
                cases e128
                replace hx128_0 := (HB.out.cell (World.block_lt_of_cell? w _ hx128_0)).trans hx128_0
                replace hx128_1 := (HB.out.cell (World.block_lt_of_cell? w _ hx128_1)).trans hx128_1
                have HR128_1 := Aside0.mk hi128_1
                have HC128_1 := Aside0.mk hl128_1
                clear hi128_1 hl128_1
                replace p128 := eq_true p128
                replace q128 := eq_true q128
                go_wp2_with (first | ((with_reducible refine gate_callee (f := 58) rfl ?_); refine goesL_ (some 20) rfl rfl Try.func58 (by kernel_rfl) rfl #[.agg #[.int .i64 ((rd_T63 l0 x4_1).f0), .slice A128_1 ((rd_T63 l0 x4_1).f1).length c128_1]] rfl (by (try simp only [List.map_toArray, List.map_cons, List.map_nil]); first | done | rfl | (simp only [List.length_drop, List.length_take]; rfl)) ?_; (with_reducible refine (laws_toClass.calls k1 ((rd_T63 l0 x4_1).f0) _ _ ((rd_T63 l0 x4_1).f1) t129 t130 _ ?side1 ?side2 A8.out).mono ?_); (case side1 => repeat (first | exact (Kd.C_below HR128_1.out HB.out) | (with_reducible refine Kd.C_alloc ?_ _) | (with_reducible refine Kd.C_drewN ?_ _) | (with_reducible refine Kd.C_drew ?_))); (case side2 => exact HC128_1.out); rintro e w11 ⟨v131, rfl, ho0, hb⟩; refine ⟨_, rfl, ?_⟩; have n0_ := Aside0.mk (Kd.S_elder' (by (with_reducible repeat (first | apply Kd.S_alloc | apply Kd.S_drewN | apply Kd.S_drew)); exact HO_3.out) (Kd.R_base ho0) hb); have n1_ := Aside0.mk (Kd.R_lower ho0 (below_size (by repeat (first | (with_reducible first | exact HB.out | apply below_alloc | apply pw_below_drewN | apply below_drew1) | exact HB.out)))); have n2_ := Aside0.mk (below_step (by repeat (first | (with_reducible first | exact HB.out | apply below_alloc | apply pw_below_drewN | apply below_drew1) | exact HB.out)) hb); clear HO_3; clear HB; have HO_3 := n0_; have HO132 := n1_; have HB := n2_; clear n0_ n1_ n2_; (try clear hb); (try clear hb2); (try clear hk); (try clear hi); (try clear ho0); have p10 : 0 ≤ (x4_1 : Int) := of_decide_eq_true (by first | (with_reducible assumption) | assumption); have q10 : (x4_1 : Int) < ((x3_1.length : Int) : Int) := of_decide_eq_true (by first | (with_reducible assumption) | assumption); obtain ⟨go10, co10, eo10, gb10, gl10, cl10, HG10⟩ := Kd.S_form HO_3.out (by omega); (first | cases eo10 | (injection eo10 with ea_ en_ ec_; (first | subst ea_ | (injection ea_ with ea_; subst ea_)); subst ec_; clear en_)); have GB10 := Aside0.mk gb10; have GG10 := Aside0.mk HG10; clear gb10 gl10 HG10; obtain ⟨_, ce10, hcl10, hM10, hcc10, hfr10, _, _⟩ := Kd.S_elem HO_3.out z38 (x4_1 : Int) p10 q10; obtain ⟨ve10_1, rfl, ge10_1⟩ := k38_openM hM10; have hx10_0 : w11.cell? ⟨go10, (x4_1 : Int).toNat * 2, none⟩ = some (.int .i64 ((rd_T38 x3_1 x4_1).f0)) := hcc10 0 _ rfl; have hx10_1 : w11.cell? ⟨go10, (x4_1 : Int).toNat * 2 + 1, none⟩ = some (ve10_1) := hcc10 1 _ rfl; have hf10_0 : w11.frozen? ⟨go10, (x4_1 : Int).toNat * 2, none⟩ = false := hfr10 0; have hf10_1 : w11.frozen? ⟨go10, (x4_1 : Int).toNat * 2 + 1, none⟩ = false := hfr10 1; clear hcl10 hcc10 hfr10 hM10; replace p10 := eq_true p10; replace q10 := eq_true q10; have n_ := Aside0.mk (Kd.S_mono (ok' := (fun k_ => some k_ ≠ (v131 : Value).ownBlock)) HO_3.out (fun k_ hk => hk.2)); clear HO_3; have HO_3 := n_; clear n_; have HX12 := Aside0.mk (show Kd.S k38 38 w11 w.heap.size (fun k_ => ((fun _ => True)) k_ ∧ ¬ ((fun k_ => some k_ = (v131 : Value).ownBlock)) k_) (.slice (some ⟨go10, 0, none⟩) x3_1.length co10) x3_1 from (by (with_reducible repeat (first | apply Kd.S_alloc | apply Kd.S_drewN | apply Kd.S_drew)); exact Kd.S_mono HO_3.out (fun k_ hk => ⟨trivial, fun e_ => hk e_⟩))); obtain ⟨oki12, ce12, hcl12, hM12, hcc12, hfr12, hoki12, hH12⟩ := Kd.S_elem HX12.out z38 (x4_1 : Int) (of_decide_eq_true (by first | (with_reducible assumption) | assumption)) (by have h_ : (x4_1 : Int) < ((x3_1.length : Int) : Int) := of_decide_eq_true (by first | (with_reducible assumption) | assumption); first | exact h_ | (have e_ := (Kd.S_reads' HO_3.out).1; omega) | simpa using h_); obtain ⟨ve12_1, rfl, ge12_1⟩ := k38_openM hM12; have HP12 := Kd.S_seg hH12 (of_decide_eq_true (by first | (with_reducible assumption) | assumption)) (by have h_ : (x4_1 : Int) < ((x3_1.length : Int) : Int) := of_decide_eq_true (by first | (with_reducible assumption) | assumption); first | exact h_ | (have e_ := (Kd.S_reads' HO_3.out).1; omega) | simpa using h_) (seg := [.int .i64 t129, v131]) (j := 0) (show 2 ≤ 2 from by decide) (x' := (⟨t129, t130⟩ : S38)) (k38_mkM _ _ _ (⟨t129, t130⟩ : S38) (Kd.R_mono (Kd.R_tight rfl (Kd.R_mono (ok' := fun k_ => ((fun _ => True)) k_ ∧ k_ ≠ go10) (Kd.R_apart' (HO132.out) (Kd.S_typed HO_3.out) (by decide)) (fun k_ hk => ⟨trivial, fun e_ => (hk.2) (by rw [e_]; rfl)⟩))) (fun _ h_ => Or.inr (h_)))) (fun _ hk => hk) (fun k_ hk_ => ((Kd.R_mono (ok' := fun k_ => ((fun _ => True)) k_ ∧ k_ ≠ go10) (Kd.R_apart' (HO132.out) (Kd.S_typed HO_3.out) (by decide)) (fun k_ hk => ⟨trivial, fun e_ => (hk.2) (by rw [e_]; rfl)⟩))).1 k_ hk_.symm); have hx12_0 := hcc12 0 _ rfl; (try simp only [show (k38).sz = 2 from rfl, Nat.mul_one, Nat.add_zero] at hx12_0); have hf12_0 := hfr12 0; (try simp only [show (k38).sz = 2 from rfl, Nat.mul_one, Nat.add_zero] at hf12_0); have hx12_1 := hcc12 1 _ rfl; (try simp only [show (k38).sz = 2 from rfl, Nat.mul_one, Nat.add_zero] at hx12_1); have hf12_1 := hfr12 1; (try simp only [show (k38).sz = 2 from rfl, Nat.mul_one, Nat.add_zero] at hf12_1); clear hcl12 hcc12 hfr12 hM12 hoki12 hH12) | ((with_reducible refine gate_store (t := 38) (p := 21) rfl ?_); refine store_event (t := 38) (p := 21) (v := ?vo_w13) (w1 := ((w11.setCell ⟨go10, (x4_1 : Int).toNat * 2, none⟩ (.int .i64 t129)).setCell ⟨go10, (x4_1 : Int).toNat * 2 + 1, none⟩ (v131))) ?hg ?ho ?hn ?hr ?_; (case ho => rfl); (case hg => rfl); (case hn => rfl); (case hr => first | (go_simp; done) | (go_simp; rfl) | (obtain ⟨_, _, rfl⟩ := Kd.R_slice HO132.out; first | (go_simp; done) | (go_simp; rfl))); intro w13 hw; have hg : w11.grownBy w13 (some go10) := (by rw [hw]; exact HP12.2); have hp_ : Kd.S k38 38 w13 w.heap.size (fun _ => True) (.slice (some ⟨go10, 0, none⟩) x3_1.length co10) y133 := (by rw [hw, Ny133.out]; exact HP12.1); clear HP12; have n0_ := Aside0.mk (hp_); have n1_ := Aside0.mk ((by rw [hw]; exact below_set (below_set (HB.out) GB10.out) GB10.out : Below w.heap.size w w13)); clear HO_3; clear HB; clear HO132; have HO_3 := n0_; have HB := n1_; clear n0_ n1_; clear hg hw hp_))
                go_roundg k1
                case measure => have := HK1.out; omega
                case rel => exact ⟨(y133), (wrap64 (x4_1 + 1)), (by first | rfl | (simp; done) | (simp [*]; done)), H', ⟨by have := HK1.out; omega⟩, ⟨by (with_reducible repeat (first | apply Kd.S_alloc | apply Kd.S_drewN | apply Kd.S_drew)); exact HO_3.out⟩, ⟨by repeat (first | (with_reducible first | exact HB.out | apply below_alloc | apply pw_below_drewN | apply below_drew1) | exact HB.out)⟩⟩
              · rw [if_neg c9] at H
                exact absurd H (by simp)
            · rw [if_neg c7] at H
              exact absurd H (by simp)
          · rw [if_neg c6] at H
            have c6b0 : decide (x4_1 < (l0.length : Int)) = false := decide_eq_false c6
            clear c6
            obtain rfl := Option.some.inj H
            simp only [Option.some.injEq, Prod.mk.injEq] at H
            obtain ⟨rfl⟩ := H
            go_wp2
            go_ret
            exact ⟨_, by first | rfl | (simp [errW_none, errW_some] <;> rfl) | (simp [*, errW_none, errW_some] <;> rfl), by (with_reducible repeat (first | apply Kd.S_alloc | apply Kd.S_drewN | apply Kd.S_drew)); exact HO_3.out, by repeat (first | (with_reducible first | exact HB.out | apply below_alloc | apply pw_below_drewN | apply below_drew1) | exact HB.out)⟩
    · rw [if_neg c3] at H
      exact absurd H (by simp)
  · rw [if_neg c2] at H
    exact absurd H (by simp)

end Go.Proofs.Ytgmjolngnhdafaa.P

end
section
namespace Go.Proofs.Ytgmjolngnhdafaa.P
open Go.RowKit Go.Proofs.YtgmjolngnhdafaaW.PrintWords Go.Proofs.YtgmjolngnhdafaaW.PrintLast Go.Proofs.YtgmjolngnhdafaaW.PrintMore
attribute [local go_sem] max2_int min2_int max_two min_two max_three min_three max_four min_four
set_option linter.unusedVariables false
set_option linter.unusedSimpArgs false

set_option maxHeartbeats 8000000 in
set_option maxRecDepth 100000 in
theorem laws_eqIntS.calls (k : Nat) (A0 : Option Addr) (c0 : Nat) (l0 : List Int) (A1 : Option Addr) (c1 : Nat) (l1 : List Int) (r : Bool) (w : World) (hr0 : Kd.C (Kd.int .i64) w A0 l0.length l0) (hc0 : l0.length ≤ c0) (hr1 : Kd.C (Kd.int .i64) w A1 l1.length l1) (hc1 : l1.length ≤ c1) (h : laws_eqIntS.f k l0 l1 = some r) :
    Calls Try.prog 36 #[.slice A0 l0.length c0, .slice A1 l1.length c1] w fun e w' => e = .returned (.bool r) ∧ Drawn0 w w' := by
  have HR0 := Aside0.mk hr0
  have HC0 := Aside0.mk hc0
  clear hr0 hc0
  have HR1 := Aside0.mk hr1
  have HC1 := Aside0.mk hc1
  clear hr1 hc1
  have H : (if (l0.length : Int) = (l1.length : Int) then (laws_eqIntS.l0 k l0 l1 0) else (some false)) = some r := h
  clear h
  by_cases c3 : (l0.length : Int) = (l1.length : Int)
  · rw [if_pos c3] at H
    have c3b0 : ((l0.length : Int) == (l1.length : Int)) = true := beq_iff_eq.mpr c3
    have c3b1 : ((l0.length : Int) != (l1.length : Int)) = false := bne_eq_false_iff_eq.mpr c3
    have c3b2 : (l0.length == l1.length) = true := by first | simpa using c3 | (simp at c3 ⊢; omega)
    clear c3
    have H' := Aside0.mk H
    clear H
    go_enter Try.func36, Try.ntmps36
    go_wp2
    repeat (go_quiet (fail); try go_wp2)
    go_loopg [5] k (fun kq v5 w' => ∃ (x5_1 : Int), v5 = .int .i64 x5_1 ∧ Aside0 (laws_eqIntS.l0 kq l0 l1 x5_1 = some r) ∧ Aside0 (kq ≤ k) ∧ Drawn0 w w')
    case atStart => exact ⟨(0), (by first | rfl | (simp; done) | (simp [*]; done)), H', ⟨Nat.le_refl _⟩, by repeat (first | exact Drawn0.refl _ | apply Drawn0.step)⟩
    case round =>
      clear H'
      try clear c1
      try clear p2
      try clear c3
      try clear c3b0
      try clear c3b1
      try clear c3b2
      obtain ⟨x5_1, rfl, HA, HK1, ⟨m1, rfl⟩⟩ := hrel
      cases gk with
      | zero => exact absurd HA.out (by simp [laws_eqIntS.l0])
      | succ k1 =>
        have H := HA.out
        clear HA
        simp only [laws_eqIntS.l0] at H
        by_cases c4 : x5_1 < (l0.length : Int)
        · rw [if_pos c4] at H
          have c4b0 : decide (x5_1 < (l0.length : Int)) = true := decide_eq_true c4
          clear c4
          by_cases c5 : 0 ≤ x5_1
          · rw [if_pos c5] at H
            have c5b0 : decide (0 ≤ x5_1) = true := decide_eq_true c5
            clear c5
            by_cases c6 : x5_1 < (l1.length : Int)
            · rw [if_pos c6] at H
              have c6b0 : decide (x5_1 < (l1.length : Int)) = true := decide_eq_true c6
              clear c6
              by_cases c7 : (rd l0 x5_1) = (rd l1 x5_1)
              · rw [if_pos c7] at H
                have c7b0 : ((rd l0 x5_1) == (rd l1 x5_1)) = true := beq_iff_eq.mpr c7
                have c7b1 : ((rd l0 x5_1) != (rd l1 x5_1)) = false := bne_eq_false_iff_eq.mpr c7
                clear c7
                have H' := Aside0.mk H
                clear H
                have p143 : 0 ≤ (x5_1 : Int) := of_decide_eq_true (by first | (with_reducible assumption) | assumption)
                have q143 : x5_1 < (l0.length : Int) := of_decide_eq_true (by first | (with_reducible assumption) | assumption)
                obtain ⟨ad143, e143, hx143_0⟩ := Kd.at_int HR0.out x5_1 p143 q143
                cases e143
                replace p143 := eq_true p143
                replace q143 := eq_true q143
                have p144 : 0 ≤ (x5_1 : Int) := of_decide_eq_true (by first | (with_reducible assumption) | assumption)
                have q144 : x5_1 < (l1.length : Int) := of_decide_eq_true (by first | (with_reducible assumption) | assumption)
                obtain ⟨ad144, e144, hx144_0⟩ := Kd.at_int HR1.out x5_1 p144 q144
                cases e144
                replace p144 := eq_true p144
                replace q144 := eq_true q144
                go_wp2
                repeat (go_quiet (fail); try go_wp2)
                go_roundg k1
                case measure => have := HK1.out; omega
                case rel => exact ⟨(wrap64 (x5_1 + 1)), (by first | rfl | (simp; done) | (simp [*]; done)), H', ⟨by have := HK1.out; omega⟩, by repeat (first | exact Drawn0.refl _ | apply Drawn0.step)⟩
              · rw [if_neg c7] at H
                have c7b0 : ((rd l0 x5_1) == (rd l1 x5_1)) = false := beq_eq_false_iff_ne.mpr c7
                have c7b1 : ((rd l0 x5_1) != (rd l1 x5_1)) = true := bne_iff_ne.mpr c7
                obtain rfl := Option.some.inj H
                simp only [Option.some.injEq, Prod.mk.injEq] at H
                obtain ⟨rfl⟩ := H
                have p143 : 0 ≤ (x5_1 : Int) := of_decide_eq_true (by first | (with_reducible assumption) | assumption)
                have q143 : x5_1 < (l0.length : Int) := of_decide_eq_true (by first | (with_reducible assumption) | assumption)
                obtain ⟨ad143, e143, hx143_0⟩ := Kd.at_int HR0.out x5_1 p143 q143
                cases e143
                replace p143 := eq_true p143
                replace q143 := eq_true q143
                have p144 : 0 ≤ (x5_1 : Int) := of_decide_eq_true (by first | (with_reducible assumption) | assumption)
                have q144 : x5_1 < (l1.length : Int) := of_decide_eq_true (by first | (with_reducible assumption) | assumption)
                obtain ⟨ad144, e144, hx144_0⟩ := Kd.at_int HR1.out x5_1 p144 q144
                cases e144
                replace p144 := eq_true p144
                replace q144 := eq_true q144
                go_wp2
                repeat (go_quiet (fail); try go_wp2)
                go_ret
                exact ⟨by first | rfl | (simp; done) | (simp [*]; done), by repeat (first | exact Drawn0.refl _ | apply Drawn0.step)⟩
            · rw [if_neg c6] at H
              exact absurd H (by simp)
          · rw [if_neg c5] at H
            exact absurd H (by simp)
        · rw [if_neg c4] at H
          have c4b0 : decide (x5_1 < (l0.length : Int)) = false := decide_eq_false c4
          clear c4
          obtain rfl := Option.some.inj H
          simp only [Option.some.injEq, Prod.mk.injEq] at H
          obtain ⟨rfl⟩ := H
          go_wp2
          repeat (go_quiet (fail); try go_wp2)
          go_ret
          exact ⟨by first | rfl | (simp; done) | (simp [*]; done), by repeat (first | exact Drawn0.refl _ | apply Drawn0.step)⟩
  · rw [if_neg c3] at H
    have c3b0 : ((l0.length : Int) == (l1.length : Int)) = false := beq_eq_false_iff_ne.mpr c3
    have c3b1 : ((l0.length : Int) != (l1.length : Int)) = true := bne_iff_ne.mpr c3
    have c3b2 : (l0.length == l1.length) = false := by first | simpa using c3 | (simp at c3 ⊢; omega)
    obtain rfl := Option.some.inj H
    simp only [Option.some.injEq, Prod.mk.injEq] at H
    obtain ⟨rfl⟩ := H
    go_enter Try.func36, Try.ntmps36
    go_wp2
    repeat (go_quiet (fail); try go_wp2)
    go_ret
    exact ⟨by first | rfl | (simp; done) | (simp [*]; done), by repeat (first | exact Drawn0.refl _ | apply Drawn0.step)⟩

end Go.Proofs.Ytgmjolngnhdafaa.P

end
section
namespace Go.Proofs.Ytgmjolngnhdafaa.P
open Go.RowKit Go.Proofs.YtgmjolngnhdafaaW.PrintWords Go.Proofs.YtgmjolngnhdafaaW.PrintLast Go.Proofs.YtgmjolngnhdafaaW.PrintMore
attribute [local go_sem] max2_int min2_int max_two min_two max_three min_three max_four min_four
set_option linter.unusedVariables false
set_option linter.unusedSimpArgs false

set_option maxHeartbeats 8000000 in
set_option maxRecDepth 100000 in
theorem laws_eqClass.calls (k : Nat) (a0_0 : Int) (A0_1 : Option Addr) (c0_1 : Nat) (l0_1 : List Int) (a1_0 : Int) (A1_1 : Option Addr) (c1_1 : Nat) (l1_1 : List Int) (r : Bool) (w : World) (hr0_1 : Kd.C (Kd.int .i64) w A0_1 l0_1.length l0_1) (hc0_1 : l0_1.length ≤ c0_1) (hr1_1 : Kd.C (Kd.int .i64) w A1_1 l1_1.length l1_1) (hc1_1 : l1_1.length ≤ c1_1) (h : laws_eqClass.f k a0_0 l0_1 a1_0 l1_1 = some r) :
    Calls Try.prog 60 #[.agg #[.int .i64 a0_0, .slice A0_1 l0_1.length c0_1], .agg #[.int .i64 a1_0, .slice A1_1 l1_1.length c1_1]] w fun e w' => e = .returned (.bool r) ∧ Below w.heap.size w w' := by
  have hu38 := Try.underlying38
  have HR0_1 := Aside0.mk hr0_1
  have HC0_1 := Aside0.mk hc0_1
  clear hr0_1 hc0_1
  have HR1_1 := Aside0.mk hr1_1
  have HC1_1 := Aside0.mk hc1_1
  clear hr1_1 hc1_1
  have HB := Aside0.mk (Below.refl w.heap.size w)
  have H : (if a0_0 = a1_0 then ((laws_eqIntS.f k l0_1 l1_1).bind fun t147 => (if t147 = true then (some true) else (some false))) else (some false)) = some r := h
  clear h
  by_cases c3 : a0_0 = a1_0
  · rw [if_pos c3] at H
    have c3b0 : (a0_0 == a1_0) = true := beq_iff_eq.mpr c3
    have c3b1 : (a0_0 != a1_0) = false := bne_eq_false_iff_eq.mpr c3
    clear c3
    replace H := Option.bind_eq_some_iff.mp H
    obtain ⟨t147, A40, H⟩ := H
    replace H : (if t147 = true then (some true) else (some false)) = some r := H
    have A4 := Aside0.mk A40
    clear A40
    by_cases c5 : t147 = true
    · subst c5
      have H1 : (some true) = some r := by rw [if_pos rfl] at H; exact H
      clear H
      have H := H1
      clear H1
      obtain rfl := Option.some.inj H
      simp only [Option.some.injEq, Prod.mk.injEq] at H
      obtain ⟨rfl⟩ := H
      go_enter Try.func60, Try.ntmps60
      go_wp2_with (first | ((with_reducible refine gate_dst (N := 2) rfl ?_); refine box_event ?hg (N := 2) ?hd (cs := #[.int .i64 a0_0, .slice A0_1 l0_1.length c0_1]) (t := 38) ?hr ?_; (case hd => rfl); (case hg => rfl); (case hr => first | (go_simp; done) | (go_simp; rfl)); intro gb145 hg w6 hbox hb; have n0_ := Aside0.mk (below_step (by repeat (first | (with_reducible first | exact HB.out | apply below_alloc | apply pw_below_drewN | apply below_drew1) | exact HB.out)) hb); have n1_ := Aside0.mk (hbox); have n2_ := Aside0.mk ((by rw [hg]; exact (below_size (by repeat (first | (with_reducible first | exact HB.out | apply below_alloc | apply pw_below_drewN | apply below_drew1) | exact HB.out))) : w.heap.size ≤ gb145)); have n3_ := Aside0.mk ((by rw [hg]; exact (below_size (by repeat (first | (with_reducible first | exact HB.out | apply below_alloc | apply pw_below_drewN | apply below_drew1) | exact HB.out))) : w.heap.size ≤ gb145)); clear HB; have HB := n0_; have BK145 := n1_; have GW145 := n2_; have GE145 := n3_; clear n0_ n1_ n2_ n3_; clear hb hbox hg) | ((with_reducible refine gate_dst (N := 3) rfl ?_); refine box_event ?hg (N := 3) ?hd (cs := #[.int .i64 a1_0, .slice A1_1 l1_1.length c1_1]) (t := 38) ?hr ?_; (case hd => rfl); (case hg => rfl); (case hr => first | (go_simp; done) | (go_simp; rfl)); intro gb146 hg w7 hbox hb; have n0_ := Aside0.mk (blk_below (g := gb145) (o := .cells #[.int .i64 a0_0, .slice A0_1 l0_1.length c0_1] 38 (0, 0)) (by (with_reducible repeat (first | refine blk_drewN ?_ _ | refine blk_drew ?_ | refine blk_alloc ?_ _)); exact BK145.out) hb); have n1_ := Aside0.mk (below_step (by repeat (first | (with_reducible first | exact HB.out | apply below_alloc | apply pw_below_drewN | apply below_drew1 | refine below_set ?_ GE145.out) | exact HB.out)) hb); have n2_ := Aside0.mk (hbox); have n3_ := Aside0.mk ((by rw [hg]; exact (below_size (by repeat (first | (with_reducible first | exact HB.out | apply below_alloc | apply pw_below_drewN | apply below_drew1 | refine below_set ?_ GE145.out) | exact HB.out))) : w.heap.size ≤ gb146)); have n4_ := Aside0.mk ((by rw [hg]; exact (below_size (by repeat (first | (with_reducible first | exact HB.out | apply below_alloc | apply pw_below_drewN | apply below_drew1 | refine below_set ?_ GE145.out) | exact HB.out))) : w.heap.size ≤ gb146)); have n5_ := Aside0.mk ((by rw [hg]; exact Nat.ne_of_lt (blk_lt (g := gb145) (o := .cells #[.int .i64 a0_0, .slice A0_1 l0_1.length c0_1] 38 (0, 0)) (by (with_reducible repeat (first | refine blk_drewN ?_ _ | refine blk_drew ?_ | refine blk_alloc ?_ _)); exact BK145.out)) : gb145 ≠ gb146)); have n6_ := Aside0.mk ((by rw [hg]; exact Nat.ne_of_gt (blk_lt (g := gb145) (o := .cells #[.int .i64 a0_0, .slice A0_1 l0_1.length c0_1] 38 (0, 0)) (by (with_reducible repeat (first | refine blk_drewN ?_ _ | refine blk_drew ?_ | refine blk_alloc ?_ _)); exact BK145.out)) : gb146 ≠ gb145)); clear BK145; clear HB; have BK145 := n0_; have HB := n1_; have BK146 := n2_; have GW146 := n3_; have GE146 := n4_; have NB145_146 := n5_; have NB146_145 := n6_; clear n0_ n1_ n2_ n3_ n4_ n5_ n6_; clear hb hbox hg; have hnb8 := NB145_146.out; have hnc8 := NB146_145.out; have hcz9_0 : w7.cell? ⟨gb145, 0, none⟩ = some (.int .i64 a0_0) := (blk_cell BK145.out 0).trans rfl; have hcz9_1 : w7.cell? ⟨gb145, 1, none⟩ = some (.slice A0_1 l0_1.length c0_1) := (blk_cell BK145.out 1).trans rfl; have hfz9_0 := blk_frozen BK145.out 0; have hfz9_1 := blk_frozen BK145.out 1; have hcz10_0 : w7.cell? ⟨gb146, 0, none⟩ = some (.int .i64 a1_0) := (blk_cell BK146.out 0).trans rfl; have hcz10_1 : w7.cell? ⟨gb146, 1, none⟩ = some (.slice A1_1 l1_1.length c1_1) := (blk_cell BK146.out 1).trans rfl; have hfz10_0 := blk_frozen BK146.out 0; have hfz10_1 := blk_frozen BK146.out 1) | ((with_reducible refine gate_callee (f := 36) rfl ?_); refine goesL_ (some 14) rfl rfl Try.func36 (by kernel_rfl) rfl #[.slice A0_1 l0_1.length c0_1, .slice A1_1 l1_1.length c1_1] rfl (by (try simp only [List.map_toArray, List.map_cons, List.map_nil]); first | done | rfl | (simp only [List.length_drop, List.length_take]; rfl)) ?_; (with_reducible refine (laws_eqIntS.calls k _ _ l0_1 _ _ l1_1 true _ ?side1 ?side2 ?side3 ?side4 A4.out).mono ?_); (case side1 => repeat (first | exact (Kd.C_below HR0_1.out HB.out) | (with_reducible refine Kd.C_alloc ?_ _) | (with_reducible refine Kd.C_drewN ?_ _) | (with_reducible refine Kd.C_drew ?_))); (case side2 => exact HC0_1.out); (case side3 => repeat (first | exact (Kd.C_below HR1_1.out HB.out) | (with_reducible refine Kd.C_alloc ?_ _) | (with_reducible refine Kd.C_drewN ?_ _) | (with_reducible refine Kd.C_drew ?_))); (case side4 => exact HC1_1.out); rintro e w' ⟨rfl, ⟨nd, rfl⟩⟩; refine ⟨_, rfl, ?_⟩))
      go_ret
      exact ⟨by first | rfl | (simp [errW_none, errW_some] <;> rfl) | (simp [*, errW_none, errW_some] <;> rfl), by repeat (first | (with_reducible first | exact HB.out | apply below_alloc | apply pw_below_drewN | apply below_drew1 | refine below_set ?_ GE145.out | refine below_set ?_ GE146.out) | exact HB.out)⟩
    · replace c5 := Bool.eq_false_iff.mpr c5
      subst c5
      have H1 : (some false) = some r := by rw [if_neg (show ¬ (false = true) by decide)] at H; exact H
      clear H
      have H := H1
      clear H1
      obtain rfl := Option.some.inj H
      simp only [Option.some.injEq, Prod.mk.injEq] at H
      obtain ⟨rfl⟩ := H
      go_enter Try.func60, Try.ntmps60
      go_wp2_with (first | ((with_reducible refine gate_dst (N := 2) rfl ?_); refine box_event ?hg (N := 2) ?hd (cs := #[.int .i64 a0_0, .slice A0_1 l0_1.length c0_1]) (t := 38) ?hr ?_; (case hd => rfl); (case hg => rfl); (case hr => first | (go_simp; done) | (go_simp; rfl)); intro gb145 hg w11 hbox hb; have n0_ := Aside0.mk (below_step (by repeat (first | (with_reducible first | exact HB.out | apply below_alloc | apply pw_below_drewN | apply below_drew1) | exact HB.out)) hb); have n1_ := Aside0.mk (hbox); have n2_ := Aside0.mk ((by rw [hg]; exact (below_size (by repeat (first | (with_reducible first | exact HB.out | apply below_alloc | apply pw_below_drewN | apply below_drew1) | exact HB.out))) : w.heap.size ≤ gb145)); have n3_ := Aside0.mk ((by rw [hg]; exact (below_size (by repeat (first | (with_reducible first | exact HB.out | apply below_alloc | apply pw_below_drewN | apply below_drew1) | exact HB.out))) : w.heap.size ≤ gb145)); clear HB; have HB := n0_; have BK145 := n1_; have GW145 := n2_; have GE145 := n3_; clear n0_ n1_ n2_ n3_; clear hb hbox hg) | ((with_reducible refine gate_dst (N := 3) rfl ?_); refine box_event ?hg (N := 3) ?hd (cs := #[.int .i64 a1_0, .slice A1_1 l1_1.length c1_1]) (t := 38) ?hr ?_; (case hd => rfl); (case hg => rfl); (case hr => first | (go_simp; done) | (go_simp; rfl)); intro gb146 hg w12 hbox hb; have n0_ := Aside0.mk (blk_below (g := gb145) (o := .cells #[.int .i64 a0_0, .slice A0_1 l0_1.length c0_1] 38 (0, 0)) (by (with_reducible repeat (first | refine blk_drewN ?_ _ | refine blk_drew ?_ | refine blk_alloc ?_ _)); exact BK145.out) hb); have n1_ := Aside0.mk (below_step (by repeat (first | (with_reducible first | exact HB.out | apply below_alloc | apply pw_below_drewN | apply below_drew1 | refine below_set ?_ GE145.out) | exact HB.out)) hb); have n2_ := Aside0.mk (hbox); have n3_ := Aside0.mk ((by rw [hg]; exact (below_size (by repeat (first | (with_reducible first | exact HB.out | apply below_alloc | apply pw_below_drewN | apply below_drew1 | refine below_set ?_ GE145.out) | exact HB.out))) : w.heap.size ≤ gb146)); have n4_ := Aside0.mk ((by rw [hg]; exact (below_size (by repeat (first | (with_reducible first | exact HB.out | apply below_alloc | apply pw_below_drewN | apply below_drew1 | refine below_set ?_ GE145.out) | exact HB.out))) : w.heap.size ≤ gb146)); have n5_ := Aside0.mk ((by rw [hg]; exact Nat.ne_of_lt (blk_lt (g := gb145) (o := .cells #[.int .i64 a0_0, .slice A0_1 l0_1.length c0_1] 38 (0, 0)) (by (with_reducible repeat (first | refine blk_drewN ?_ _ | refine blk_drew ?_ | refine blk_alloc ?_ _)); exact BK145.out)) : gb145 ≠ gb146)); have n6_ := Aside0.mk ((by rw [hg]; exact Nat.ne_of_gt (blk_lt (g := gb145) (o := .cells #[.int .i64 a0_0, .slice A0_1 l0_1.length c0_1] 38 (0, 0)) (by (with_reducible repeat (first | refine blk_drewN ?_ _ | refine blk_drew ?_ | refine blk_alloc ?_ _)); exact BK145.out)) : gb146 ≠ gb145)); clear BK145; clear HB; have BK145 := n0_; have HB := n1_; have BK146 := n2_; have GW146 := n3_; have GE146 := n4_; have NB145_146 := n5_; have NB146_145 := n6_; clear n0_ n1_ n2_ n3_ n4_ n5_ n6_; clear hb hbox hg; have hnb13 := NB145_146.out; have hnc13 := NB146_145.out; have hcz14_0 : w12.cell? ⟨gb145, 0, none⟩ = some (.int .i64 a0_0) := (blk_cell BK145.out 0).trans rfl; have hcz14_1 : w12.cell? ⟨gb145, 1, none⟩ = some (.slice A0_1 l0_1.length c0_1) := (blk_cell BK145.out 1).trans rfl; have hfz14_0 := blk_frozen BK145.out 0; have hfz14_1 := blk_frozen BK145.out 1; have hcz15_0 : w12.cell? ⟨gb146, 0, none⟩ = some (.int .i64 a1_0) := (blk_cell BK146.out 0).trans rfl; have hcz15_1 : w12.cell? ⟨gb146, 1, none⟩ = some (.slice A1_1 l1_1.length c1_1) := (blk_cell BK146.out 1).trans rfl; have hfz15_0 := blk_frozen BK146.out 0; have hfz15_1 := blk_frozen BK146.out 1) | ((with_reducible refine gate_callee (f := 36) rfl ?_); refine goesL_ (some 14) rfl rfl Try.func36 (by kernel_rfl) rfl #[.slice A0_1 l0_1.length c0_1, .slice A1_1 l1_1.length c1_1] rfl (by (try simp only [List.map_toArray, List.map_cons, List.map_nil]); first | done | rfl | (simp only [List.length_drop, List.length_take]; rfl)) ?_; (with_reducible refine (laws_eqIntS.calls k _ _ l0_1 _ _ l1_1 false _ ?side1 ?side2 ?side3 ?side4 A4.out).mono ?_); (case side1 => repeat (first | exact (Kd.C_below HR0_1.out HB.out) | (with_reducible refine Kd.C_alloc ?_ _) | (with_reducible refine Kd.C_drewN ?_ _) | (with_reducible refine Kd.C_drew ?_))); (case side2 => exact HC0_1.out); (case side3 => repeat (first | exact (Kd.C_below HR1_1.out HB.out) | (with_reducible refine Kd.C_alloc ?_ _) | (with_reducible refine Kd.C_drewN ?_ _) | (with_reducible refine Kd.C_drew ?_))); (case side4 => exact HC1_1.out); rintro e w' ⟨rfl, ⟨nd, rfl⟩⟩; refine ⟨_, rfl, ?_⟩))
      go_ret
      exact ⟨by first | rfl | (simp [errW_none, errW_some] <;> rfl) | (simp [*, errW_none, errW_some] <;> rfl), by repeat (first | (with_reducible first | exact HB.out | apply below_alloc | apply pw_below_drewN | apply below_drew1 | refine below_set ?_ GE145.out | refine below_set ?_ GE146.out) | exact HB.out)⟩
  · rw [if_neg c3] at H
    have c3b0 : (a0_0 == a1_0) = false := beq_eq_false_iff_ne.mpr c3
    have c3b1 : (a0_0 != a1_0) = true := bne_iff_ne.mpr c3
    obtain rfl := Option.some.inj H
    simp only [Option.some.injEq, Prod.mk.injEq] at H
    obtain ⟨rfl⟩ := H
    go_enter Try.func60, Try.ntmps60
    go_wp2_with (first | ((with_reducible refine gate_dst (N := 2) rfl ?_); refine box_event ?hg (N := 2) ?hd (cs := #[.int .i64 a0_0, .slice A0_1 l0_1.length c0_1]) (t := 38) ?hr ?_; (case hd => rfl); (case hg => rfl); (case hr => first | (go_simp; done) | (go_simp; rfl)); intro gb145 hg w16 hbox hb; have n0_ := Aside0.mk (below_step (by repeat (first | (with_reducible first | exact HB.out | apply below_alloc | apply pw_below_drewN | apply below_drew1) | exact HB.out)) hb); have n1_ := Aside0.mk (hbox); have n2_ := Aside0.mk ((by rw [hg]; exact (below_size (by repeat (first | (with_reducible first | exact HB.out | apply below_alloc | apply pw_below_drewN | apply below_drew1) | exact HB.out))) : w.heap.size ≤ gb145)); have n3_ := Aside0.mk ((by rw [hg]; exact (below_size (by repeat (first | (with_reducible first | exact HB.out | apply below_alloc | apply pw_below_drewN | apply below_drew1) | exact HB.out))) : w.heap.size ≤ gb145)); clear HB; have HB := n0_; have BK145 := n1_; have GW145 := n2_; have GE145 := n3_; clear n0_ n1_ n2_ n3_; clear hb hbox hg) | ((with_reducible refine gate_dst (N := 3) rfl ?_); refine box_event ?hg (N := 3) ?hd (cs := #[.int .i64 a1_0, .slice A1_1 l1_1.length c1_1]) (t := 38) ?hr ?_; (case hd => rfl); (case hg => rfl); (case hr => first | (go_simp; done) | (go_simp; rfl)); intro gb146 hg w17 hbox hb; have n0_ := Aside0.mk (blk_below (g := gb145) (o := .cells #[.int .i64 a0_0, .slice A0_1 l0_1.length c0_1] 38 (0, 0)) (by (with_reducible repeat (first | refine blk_drewN ?_ _ | refine blk_drew ?_ | refine blk_alloc ?_ _)); exact BK145.out) hb); have n1_ := Aside0.mk (below_step (by repeat (first | (with_reducible first | exact HB.out | apply below_alloc | apply pw_below_drewN | apply below_drew1 | refine below_set ?_ GE145.out) | exact HB.out)) hb); have n2_ := Aside0.mk (hbox); have n3_ := Aside0.mk ((by rw [hg]; exact (below_size (by repeat (first | (with_reducible first | exact HB.out | apply below_alloc | apply pw_below_drewN | apply below_drew1 | refine below_set ?_ GE145.out) | exact HB.out))) : w.heap.size ≤ gb146)); have n4_ := Aside0.mk ((by rw [hg]; exact (below_size (by repeat (first | (with_reducible first | exact HB.out | apply below_alloc | apply pw_below_drewN | apply below_drew1 | refine below_set ?_ GE145.out) | exact HB.out))) : w.heap.size ≤ gb146)); have n5_ := Aside0.mk ((by rw [hg]; exact Nat.ne_of_lt (blk_lt (g := gb145) (o := .cells #[.int .i64 a0_0, .slice A0_1 l0_1.length c0_1] 38 (0, 0)) (by (with_reducible repeat (first | refine blk_drewN ?_ _ | refine blk_drew ?_ | refine blk_alloc ?_ _)); exact BK145.out)) : gb145 ≠ gb146)); have n6_ := Aside0.mk ((by rw [hg]; exact Nat.ne_of_gt (blk_lt (g := gb145) (o := .cells #[.int .i64 a0_0, .slice A0_1 l0_1.length c0_1] 38 (0, 0)) (by (with_reducible repeat (first | refine blk_drewN ?_ _ | refine blk_drew ?_ | refine blk_alloc ?_ _)); exact BK145.out)) : gb146 ≠ gb145)); clear BK145; clear HB; have BK145 := n0_; have HB := n1_; have BK146 := n2_; have GW146 := n3_; have GE146 := n4_; have NB145_146 := n5_; have NB146_145 := n6_; clear n0_ n1_ n2_ n3_ n4_ n5_ n6_; clear hb hbox hg; have hnb18 := NB145_146.out; have hnc18 := NB146_145.out; have hcz19_0 : w17.cell? ⟨gb145, 0, none⟩ = some (.int .i64 a0_0) := (blk_cell BK145.out 0).trans rfl; have hcz19_1 : w17.cell? ⟨gb145, 1, none⟩ = some (.slice A0_1 l0_1.length c0_1) := (blk_cell BK145.out 1).trans rfl; have hfz19_0 := blk_frozen BK145.out 0; have hfz19_1 := blk_frozen BK145.out 1; have hcz20_0 : w17.cell? ⟨gb146, 0, none⟩ = some (.int .i64 a1_0) := (blk_cell BK146.out 0).trans rfl; have hcz20_1 : w17.cell? ⟨gb146, 1, none⟩ = some (.slice A1_1 l1_1.length c1_1) := (blk_cell BK146.out 1).trans rfl; have hfz20_0 := blk_frozen BK146.out 0; have hfz20_1 := blk_frozen BK146.out 1))
    go_ret
    exact ⟨by first | rfl | (simp [errW_none, errW_some] <;> rfl) | (simp [*, errW_none, errW_some] <;> rfl), by repeat (first | (with_reducible first | exact HB.out | apply below_alloc | apply pw_below_drewN | apply below_drew1 | refine below_set ?_ GE145.out | refine below_set ?_ GE146.out) | exact HB.out)⟩

end Go.Proofs.Ytgmjolngnhdafaa.P

end
section
namespace Go.Proofs.Ytgmjolngnhdafaa.P
open Go.RowKit Go.Proofs.YtgmjolngnhdafaaW.PrintWords Go.Proofs.YtgmjolngnhdafaaW.PrintLast Go.Proofs.YtgmjolngnhdafaaW.PrintMore
attribute [local go_sem] max2_int min2_int max_two min_two max_three min_three max_four min_four
set_option linter.unusedVariables false
set_option linter.unusedSimpArgs false

def laws_eqClassS.T6 : Bool × List (List Nat × List Nat) := (true, [([], []), ([], []), ([0, 1], [0, 1]), ([2], [2]), ([], []), ([], []), ([4, 5], [4, 5]), ([6], [6]), ([3, 7], [3, 7]), ([8], [8])])
def laws_eqClassS.B6 : List Nat := [0, 0, 3, 7, 0, 0, 48, 112, 255, 511]
theorem laws_eqClassS.tab6 : rtab .any (opsOf Try.f24 6) = laws_eqClassS.T6 := by kernel_rfl
theorem laws_eqClassS.bits6 : waitsOk laws_eqClassS.T6.2 laws_eqClassS.B6 = true := by kernel_rfl
set_option maxHeartbeats 8000000 in
set_option maxRecDepth 100000 in
theorem laws_eqClassS.calls (k : Nat) (A0 : Option Addr) (c0 : Nat) (l0 : List (S38)) (A1 : Option Addr) (c1 : Nat) (l1 : List (S38)) (r : Bool) (w : World) (hr0 : Kd.C k38 w A0 l0.length l0) (hc0 : l0.length ≤ c0) (hr1 : Kd.C k38 w A1 l1.length l1) (hc1 : l1.length ≤ c1) (h : laws_eqClassS.f k l0 l1 = some r) :
    Calls Try.prog 24 #[.slice A0 l0.length c0, .slice A1 l1.length c1] w fun e w' => e = .returned (.bool r) ∧ Below w.heap.size w w' := by
  have hu38 := Try.underlying38
  have HR0 := Aside0.mk hr0
  have HC0 := Aside0.mk hc0
  clear hr0 hc0
  have HR1 := Aside0.mk hr1
  have HC1 := Aside0.mk hc1
  clear hr1 hc1
  have HB := Aside0.mk (Below.refl w.heap.size w)
  have H : (if (l0.length : Int) = (l1.length : Int) then (laws_eqClassS.l0 k l0 l1 0) else (some false)) = some r := h
  clear h
  by_cases c3 : (l0.length : Int) = (l1.length : Int)
  · rw [if_pos c3] at H
    have c3b0 : ((l0.length : Int) == (l1.length : Int)) = true := beq_iff_eq.mpr c3
    have c3b1 : ((l0.length : Int) != (l1.length : Int)) = false := bne_eq_false_iff_eq.mpr c3
    have c3b2 : (l0.length == l1.length) = true := by first | simpa using c3 | (simp at c3 ⊢; omega)
    clear c3
    have H' := Aside0.mk H
    clear H
    go_enter Try.func24, Try.ntmps24
    go_wp2
    go_loopg [5] k (fun kq v5 w' => ∃ (x5_1 : Int), v5 = .int .i64 x5_1 ∧ Aside0 (laws_eqClassS.l0 kq l0 l1 x5_1 = some r) ∧ Aside0 (kq ≤ k) ∧ Aside0 (Below w.heap.size w w'))
    case atStart => exact ⟨(0), (by first | rfl | (simp; done) | (simp [*]; done)), H', ⟨Nat.le_refl _⟩, ⟨by repeat (first | (with_reducible first | exact HB.out | apply below_alloc | apply pw_below_drewN | apply below_drew1) | exact HB.out)⟩⟩
    case round =>
      clear H'
      try clear c1
      try clear c2
      try clear p2
      try clear c3
      try clear c3b0
      try clear c3b1
      try clear c3b2
      obtain ⟨x5_1, rfl, HA, HK1, HB⟩ := hrel
      cases gk with
      | zero => exact absurd HA.out (by simp [laws_eqClassS.l0])
      | succ k1 =>
        have H := HA.out
        clear HA
        simp only [laws_eqClassS.l0] at H
        by_cases c4 : x5_1 < (l0.length : Int)
        · rw [if_pos c4] at H
          have c4b0 : decide (x5_1 < (l0.length : Int)) = true := decide_eq_true c4
          clear c4
          by_cases c5 : 0 ≤ x5_1
          · rw [if_pos c5] at H
            have c5b0 : decide (0 ≤ x5_1) = true := decide_eq_true c5
            clear c5
            by_cases c6 : x5_1 < (l1.length : Int)
            · rw [if_pos c6] at H
              have c6b0 : decide (x5_1 < (l1.length : Int)) = true := decide_eq_true c6
              clear c6
              replace H := Option.bind_eq_some_iff.mp H
              obtain ⟨t150, A70, H⟩ := H
              replace H : (if t150 = true then (laws_eqClassS.l0 k1 l0 l1 (wrap64 (x5_1 + 1))) else (some false)) = some r := H
              have A7 := Aside0.mk A70
              clear A70
              by_cases c8 : t150 = true
              · subst c8
                have H1 : (laws_eqClassS.l0 k1 l0 l1 (wrap64 (x5_1 + 1))) = some r := by rw [if_pos rfl] at H; exact H
                clear H
                have H := H1
                clear H1
                have H' := Aside0.mk H
                clear H
                try go_wp2
                have n0_ := Aside0.mk (below_drew1 HB.out)
                clear HB
                have HB := n0_
                clear n0_
                have p148 : 0 ≤ (x5_1 : Int) := of_decide_eq_true (by first | (with_reducible assumption) | assumption)
                have q148 : x5_1 < (l0.length : Int) := of_decide_eq_true (by first | (with_reducible assumption) | assumption)
                obtain ⟨ad148, A148_1, c148_1, e148, hx148_0, hx148_1, hl148_1, hi148_1⟩ := at_T38 HR0.out x5_1 p148 q148
                have hw148_1 := hx148_1
                have hw148_0 := hx148_0
                cases e148
                replace hx148_0 := (HB.out.cell (World.block_lt_of_cell? w _ hx148_0)).trans hx148_0
                replace hx148_1 := (HB.out.cell (World.block_lt_of_cell? w _ hx148_1)).trans hx148_1
                have HR148_1 := Aside0.mk hi148_1
                have HC148_1 := Aside0.mk hl148_1
                clear hi148_1 hl148_1
                replace p148 := eq_true p148
                replace q148 := eq_true q148
                have p149 : 0 ≤ (x5_1 : Int) := of_decide_eq_true (by first | (with_reducible assumption) | assumption)
                have q149 : x5_1 < (l1.length : Int) := of_decide_eq_true (by first | (with_reducible assumption) | assumption)
                obtain ⟨ad149, A149_1, c149_1, e149, hx149_0, hx149_1, hl149_1, hi149_1⟩ := at_T38 HR1.out x5_1 p149 q149
                have hw149_1 := hx149_1
                have hw149_0 := hx149_0
                cases e149
                replace hx149_0 := (HB.out.cell (World.block_lt_of_cell? w _ hx149_0)).trans hx149_0
                replace hx149_1 := (HB.out.cell (World.block_lt_of_cell? w _ hx149_1)).trans hx149_1
                have HR149_1 := Aside0.mk hi149_1
                have HC149_1 := Aside0.mk hl149_1
                clear hi149_1 hl149_1
                replace p149 := eq_true p149
                replace q149 := eq_true q149
                refine start_ (n := 10) (S := fun w' => w'.cell? (ad148.add ((x5_1).toNat * 2)) = some (.int .i64 ((rd_T38 l0 x5_1).f0)) ∧ w'.cell? ⟨(ad148.add ((x5_1).toNat * 2)).block, (ad148.add ((x5_1).toNat * 2)).off + 1, none⟩ = some (.slice A148_1 ((rd_T38 l0 x5_1).f1).length c148_1) ∧ w'.cell? (ad149.add ((x5_1).toNat * 2)) = some (.int .i64 ((rd_T38 l1 x5_1).f0)) ∧ w'.cell? ⟨(ad149.add ((x5_1).toNat * 2)).block, (ad149.add ((x5_1).toNat * 2)).off + 1, none⟩ = some (.slice A149_1 ((rd_T38 l1 x5_1).f1).length c149_1)) (ds := []) #[false, false, false, false, false, false, false, false, false, false] (by kernel_rfl) rfl rfl ⟨((HB.out.cell (World.block_lt_of_cell? w _ hw148_0)).trans hw148_0), ((HB.out.cell (World.block_lt_of_cell? w _ hw148_1)).trans hw148_1), ((HB.out.cell (World.block_lt_of_cell? w _ hw149_0)).trans hw149_0), ((HB.out.cell (World.block_lt_of_cell? w _ hw149_1)).trans hw149_1)⟩ (fun hHeld => ?_); refine with_tabW laws_eqClassS.tab6 laws_eqClassS.bits6 (fun HT_ HW_ => ?_)
                generalize wr.drew = w9 at HB HR148_1 HR149_1 hx148_0 hx148_1 hx149_0 hx149_1 hHeld ⊢
                refine pure_ (i := 0) (N := some 17) (v := ?_) (a' := ?_) #[true, false, false, false, false, false, false, false, false, false] rfl rfl (any_of HT_.out (by kernel_rfl)) (fun _ _ _ h => h) (Or.inl ⟨by rfl, ?_⟩) ?_ ?_
                rotate_left
                · intro w'
                  go_simp
                  with_reducible rfl
                rotate_left
                · simp only [Act.put, List.setIfInBounds_toArray, List.set_cons_zero, List.set_cons_succ, i64_w, i32_w]
                  rfl
                refine pure_ (i := 1) (N := some 18) (v := ?_) (a' := ?_) #[true, true, false, false, false, false, false, false, false, false] rfl rfl (any_of HT_.out (by kernel_rfl)) (fun _ _ _ h => h) (Or.inl ⟨by rfl, ?_⟩) ?_ ?_
                rotate_left
                · intro w'
                  go_simp
                  with_reducible rfl
                rotate_left
                · simp only [Act.put, List.setIfInBounds_toArray, List.set_cons_zero, List.set_cons_succ, i64_w, i32_w]
                  rfl
                refine pure_ (i := 2) (N := some 19) (v := ?_) (a' := ?_) #[true, true, true, false, false, false, false, false, false, false] rfl rfl (any_of HT_.out (by kernel_rfl)) (fun _ _ _ h => h) (Or.inl ⟨by rfl, ?_⟩) ?_ ?_
                rotate_left
                · intro w'
                  go_simp
                  with_reducible rfl
                rotate_left
                · simp only [Act.put, List.setIfInBounds_toArray, List.set_cons_zero, List.set_cons_succ, i64_w, i32_w]
                  rfl
                refine pure_ (i := 4) (N := some 21) (v := ?_) (a' := ?_) #[true, true, true, false, true, false, false, false, false, false] rfl rfl (any_of HT_.out (by kernel_rfl)) (fun _ _ _ h => h) (Or.inl ⟨by rfl, ?_⟩) ?_ ?_
                rotate_left
                · intro w'
                  go_simp
                  with_reducible rfl
                rotate_left
                · simp only [Act.put, List.setIfInBounds_toArray, List.set_cons_zero, List.set_cons_succ, i64_w, i32_w]
                  rfl
                refine pure_ (i := 5) (N := some 22) (v := ?_) (a' := ?_) #[true, true, true, false, true, true, false, false, false, false] rfl rfl (any_of HT_.out (by kernel_rfl)) (fun _ _ _ h => h) (Or.inl ⟨by rfl, ?_⟩) ?_ ?_
                rotate_left
                · intro w'
                  go_simp
                  with_reducible rfl
                rotate_left
                · simp only [Act.put, List.setIfInBounds_toArray, List.set_cons_zero, List.set_cons_succ, i64_w, i32_w]
                  rfl
                refine pure_ (i := 6) (N := some 23) (v := ?_) (a' := ?_) #[true, true, true, false, true, true, true, false, false, false] rfl rfl (any_of HT_.out (by kernel_rfl)) (fun _ _ _ h => h) (Or.inl ⟨by rfl, ?_⟩) ?_ ?_
                rotate_left
                · intro w'
                  go_simp
                  with_reducible rfl
                rotate_left
                · simp only [Act.put, List.setIfInBounds_toArray, List.set_cons_zero, List.set_cons_succ, i64_w, i32_w]
                  rfl
                refine take_ (i := 3) (N := some 20) (v := ?_) (a' := ?_) #[true, true, true, true, true, true, true, false, false, false] rfl rfl (take_ofW HT_.out HW_.out (by kernel_rfl)) (fun _ _ _ h => h) (Or.inl ⟨by rfl, ?_⟩) hHeld ?_ ?_
                rotate_left
                · rintro w' ⟨s0, s1, s2, s3⟩
                  go_simp
                  with_reducible rfl
                rotate_left
                · simp only [Act.put, List.setIfInBounds_toArray, List.set_cons_zero, List.set_cons_succ, i64_w, i32_w]
                  rfl
                refine take_ (i := 7) (N := some 24) (v := ?_) (a' := ?_) #[true, true, true, true, true, true, true, true, false, false] rfl rfl (take_ofW HT_.out HW_.out (by kernel_rfl)) (fun _ _ _ h => h) (Or.inl ⟨by rfl, ?_⟩) hHeld ?_ ?_
                rotate_left
                · rintro w' ⟨s0, s1, s2, s3⟩
                  go_simp
                  with_reducible rfl
                rotate_left
                · simp only [Act.put, List.setIfInBounds_toArray, List.set_cons_zero, List.set_cons_succ, i64_w, i32_w]
                  rfl
                refine one_ (i := 8) (N := some 25) #[true, true, true, true, true, true, true, true, true, false] rfl rfl (one_of HT_.out (by kernel_rfl)) (by decide) (fun K hK => ?_)
                refine goes_ Try.func60 (by kernel_rfl) rfl #[.agg #[.int .i64 ((rd_T38 l0 x5_1).f0), .slice A148_1 ((rd_T38 l0 x5_1).f1).length c148_1], .agg #[.int .i64 ((rd_T38 l1 x5_1).f0), .slice A149_1 ((rd_T38 l1 x5_1).f1).length c149_1]] (by rfl) rfl rfl (by (try simp only [List.map_toArray, List.map_cons, List.map_nil]); first | done | rfl | (simp only [List.length_drop, List.length_take]; rfl)) ?_
                with_reducible refine (laws_eqClass.calls k1 ((rd_T38 l0 x5_1).f0) _ _ ((rd_T38 l0 x5_1).f1) ((rd_T38 l1 x5_1).f0) _ _ ((rd_T38 l1 x5_1).f1) true _ ?side1 ?side2 ?side3 ?side4 A7.out).mono ?_
                (case side1 => repeat (first | exact (Kd.C_below HR148_1.out HB.out) | (with_reducible refine Kd.C_alloc ?_ _) | (with_reducible refine Kd.C_drewN ?_ _) | (with_reducible refine Kd.C_drew ?_)))
                (case side2 => exact HC148_1.out)
                (case side3 => repeat (first | exact (Kd.C_below HR149_1.out HB.out) | (with_reducible refine Kd.C_alloc ?_ _) | (with_reducible refine Kd.C_drewN ?_ _) | (with_reducible refine Kd.C_drew ?_)))
                (case side4 => exact HC149_1.out)
                rintro e w10 ⟨rfl, hb⟩
                refine ⟨_, rfl, ?_⟩
                have n0_ := Aside0.mk (below_step (by repeat (first | (with_reducible first | exact HB.out | apply below_alloc | apply pw_below_drewN | apply below_drew1) | exact HB.out)) hb)
                clear HB
                have HB := n0_
                clear n0_
                (try clear hb)
                (try clear hb2)
                (try clear hk)
                (try clear hi)
                refine hK.out _ _ ⟨((HB.out.cell (World.block_lt_of_cell? w _ hw148_0)).trans hw148_0), ((HB.out.cell (World.block_lt_of_cell? w _ hw148_1)).trans hw148_1), ((HB.out.cell (World.block_lt_of_cell? w _ hw149_0)).trans hw149_0), ((HB.out.cell (World.block_lt_of_cell? w _ hw149_1)).trans hw149_1)⟩ (fun hHeld => ?_)
                clear hK K
                refine norm_ (a' := ?_) ?_ ?_
                rotate_left
                · show Act.put _ (some 25) _ = _
                  simp only [Act.put, List.setIfInBounds_toArray, List.set_cons_zero, List.set_cons_succ, i64_w, i32_w]
                  rfl
                refine pure_ (i := 9) (N := some 26) (v := ?_) (a' := ?_) #[true, true, true, true, true, true, true, true, true, true] rfl rfl (any_of HT_.out (by kernel_rfl)) (fun _ _ _ h => h) (Or.inl ⟨by rfl, ?_⟩) ?_ ?_
                rotate_left
                · intro w'
                  go_simp
                  with_reducible rfl
                rotate_left
                · simp only [Act.put, List.setIfInBounds_toArray, List.set_cons_zero, List.set_cons_succ, i64_w, i32_w]
                  rfl
                refine done_ (done_of HT_.out (by kernel_rfl)) ?_
                try go_wp2
                go_roundg k1
                case measure => have := HK1.out; omega
                case rel => exact ⟨(wrap64 (x5_1 + 1)), (by first | rfl | (simp; done) | (simp [*]; done)), H', ⟨by have := HK1.out; omega⟩, ⟨by repeat (first | (with_reducible first | exact HB.out | apply below_alloc | apply pw_below_drewN | apply below_drew1) | exact HB.out)⟩⟩
              · replace c8 := Bool.eq_false_iff.mpr c8
                subst c8
                have H1 : (some false) = some r := by rw [if_neg (show ¬ (false = true) by decide)] at H; exact H
                clear H
                have H := H1
                clear H1
                obtain rfl := Option.some.inj H
                simp only [Option.some.injEq, Prod.mk.injEq] at H
                obtain ⟨rfl⟩ := H
                try go_wp2
                have n0_ := Aside0.mk (below_drew1 HB.out)
                clear HB
                have HB := n0_
                clear n0_
                have p148 : 0 ≤ (x5_1 : Int) := of_decide_eq_true (by first | (with_reducible assumption) | assumption)
                have q148 : x5_1 < (l0.length : Int) := of_decide_eq_true (by first | (with_reducible assumption) | assumption)
                obtain ⟨ad148, A148_1, c148_1, e148, hx148_0, hx148_1, hl148_1, hi148_1⟩ := at_T38 HR0.out x5_1 p148 q148
                have hw148_1 := hx148_1
                have hw148_0 := hx148_0
                cases e148
                replace hx148_0 := (HB.out.cell (World.block_lt_of_cell? w _ hx148_0)).trans hx148_0
                replace hx148_1 := (HB.out.cell (World.block_lt_of_cell? w _ hx148_1)).trans hx148_1
                have HR148_1 := Aside0.mk hi148_1
                have HC148_1 := Aside0.mk hl148_1
                clear hi148_1 hl148_1
                replace p148 := eq_true p148
                replace q148 := eq_true q148
                have p149 : 0 ≤ (x5_1 : Int) := of_decide_eq_true (by first | (with_reducible assumption) | assumption)
                have q149 : x5_1 < (l1.length : Int) := of_decide_eq_true (by first | (with_reducible assumption) | assumption)
                obtain ⟨ad149, A149_1, c149_1, e149, hx149_0, hx149_1, hl149_1, hi149_1⟩ := at_T38 HR1.out x5_1 p149 q149
                have hw149_1 := hx149_1
                have hw149_0 := hx149_0
                cases e149
                replace hx149_0 := (HB.out.cell (World.block_lt_of_cell? w _ hx149_0)).trans hx149_0
                replace hx149_1 := (HB.out.cell (World.block_lt_of_cell? w _ hx149_1)).trans hx149_1
                have HR149_1 := Aside0.mk hi149_1
                have HC149_1 := Aside0.mk hl149_1
                clear hi149_1 hl149_1
                replace p149 := eq_true p149
                replace q149 := eq_true q149
                refine start_ (n := 10) (S := fun w' => w'.cell? (ad148.add ((x5_1).toNat * 2)) = some (.int .i64 ((rd_T38 l0 x5_1).f0)) ∧ w'.cell? ⟨(ad148.add ((x5_1).toNat * 2)).block, (ad148.add ((x5_1).toNat * 2)).off + 1, none⟩ = some (.slice A148_1 ((rd_T38 l0 x5_1).f1).length c148_1) ∧ w'.cell? (ad149.add ((x5_1).toNat * 2)) = some (.int .i64 ((rd_T38 l1 x5_1).f0)) ∧ w'.cell? ⟨(ad149.add ((x5_1).toNat * 2)).block, (ad149.add ((x5_1).toNat * 2)).off + 1, none⟩ = some (.slice A149_1 ((rd_T38 l1 x5_1).f1).length c149_1)) (ds := []) #[false, false, false, false, false, false, false, false, false, false] (by kernel_rfl) rfl rfl ⟨((HB.out.cell (World.block_lt_of_cell? w _ hw148_0)).trans hw148_0), ((HB.out.cell (World.block_lt_of_cell? w _ hw148_1)).trans hw148_1), ((HB.out.cell (World.block_lt_of_cell? w _ hw149_0)).trans hw149_0), ((HB.out.cell (World.block_lt_of_cell? w _ hw149_1)).trans hw149_1)⟩ (fun hHeld => ?_); refine with_tabW laws_eqClassS.tab6 laws_eqClassS.bits6 (fun HT_ HW_ => ?_)
                generalize wr.drew = w11 at HB HR148_1 HR149_1 hx148_0 hx148_1 hx149_0 hx149_1 hHeld ⊢
                refine pure_ (i := 0) (N := some 17) (v := ?_) (a' := ?_) #[true, false, false, false, false, false, false, false, false, false] rfl rfl (any_of HT_.out (by kernel_rfl)) (fun _ _ _ h => h) (Or.inl ⟨by rfl, ?_⟩) ?_ ?_
                rotate_left
                · intro w'
                  go_simp
                  with_reducible rfl
                rotate_left
                · simp only [Act.put, List.setIfInBounds_toArray, List.set_cons_zero, List.set_cons_succ, i64_w, i32_w]
                  rfl
                refine pure_ (i := 1) (N := some 18) (v := ?_) (a' := ?_) #[true, true, false, false, false, false, false, false, false, false] rfl rfl (any_of HT_.out (by kernel_rfl)) (fun _ _ _ h => h) (Or.inl ⟨by rfl, ?_⟩) ?_ ?_
                rotate_left
                · intro w'
                  go_simp
                  with_reducible rfl
                rotate_left
                · simp only [Act.put, List.setIfInBounds_toArray, List.set_cons_zero, List.set_cons_succ, i64_w, i32_w]
                  rfl
                refine pure_ (i := 2) (N := some 19) (v := ?_) (a' := ?_) #[true, true, true, false, false, false, false, false, false, false] rfl rfl (any_of HT_.out (by kernel_rfl)) (fun _ _ _ h => h) (Or.inl ⟨by rfl, ?_⟩) ?_ ?_
                rotate_left
                · intro w'
                  go_simp
                  with_reducible rfl
                rotate_left
                · simp only [Act.put, List.setIfInBounds_toArray, List.set_cons_zero, List.set_cons_succ, i64_w, i32_w]
                  rfl
                refine pure_ (i := 4) (N := some 21) (v := ?_) (a' := ?_) #[true, true, true, false, true, false, false, false, false, false] rfl rfl (any_of HT_.out (by kernel_rfl)) (fun _ _ _ h => h) (Or.inl ⟨by rfl, ?_⟩) ?_ ?_
                rotate_left
                · intro w'
                  go_simp
                  with_reducible rfl
                rotate_left
                · simp only [Act.put, List.setIfInBounds_toArray, List.set_cons_zero, List.set_cons_succ, i64_w, i32_w]
                  rfl
                refine pure_ (i := 5) (N := some 22) (v := ?_) (a' := ?_) #[true, true, true, false, true, true, false, false, false, false] rfl rfl (any_of HT_.out (by kernel_rfl)) (fun _ _ _ h => h) (Or.inl ⟨by rfl, ?_⟩) ?_ ?_
                rotate_left
                · intro w'
                  go_simp
                  with_reducible rfl
                rotate_left
                · simp only [Act.put, List.setIfInBounds_toArray, List.set_cons_zero, List.set_cons_succ, i64_w, i32_w]
                  rfl
                refine pure_ (i := 6) (N := some 23) (v := ?_) (a' := ?_) #[true, true, true, false, true, true, true, false, false, false] rfl rfl (any_of HT_.out (by kernel_rfl)) (fun _ _ _ h => h) (Or.inl ⟨by rfl, ?_⟩) ?_ ?_
                rotate_left
                · intro w'
                  go_simp
                  with_reducible rfl
                rotate_left
                · simp only [Act.put, List.setIfInBounds_toArray, List.set_cons_zero, List.set_cons_succ, i64_w, i32_w]
                  rfl
                refine take_ (i := 3) (N := some 20) (v := ?_) (a' := ?_) #[true, true, true, true, true, true, true, false, false, false] rfl rfl (take_ofW HT_.out HW_.out (by kernel_rfl)) (fun _ _ _ h => h) (Or.inl ⟨by rfl, ?_⟩) hHeld ?_ ?_
                rotate_left
                · rintro w' ⟨s0, s1, s2, s3⟩
                  go_simp
                  with_reducible rfl
                rotate_left
                · simp only [Act.put, List.setIfInBounds_toArray, List.set_cons_zero, List.set_cons_succ, i64_w, i32_w]
                  rfl
                refine take_ (i := 7) (N := some 24) (v := ?_) (a' := ?_) #[true, true, true, true, true, true, true, true, false, false] rfl rfl (take_ofW HT_.out HW_.out (by kernel_rfl)) (fun _ _ _ h => h) (Or.inl ⟨by rfl, ?_⟩) hHeld ?_ ?_
                rotate_left
                · rintro w' ⟨s0, s1, s2, s3⟩
                  go_simp
                  with_reducible rfl
                rotate_left
                · simp only [Act.put, List.setIfInBounds_toArray, List.set_cons_zero, List.set_cons_succ, i64_w, i32_w]
                  rfl
                refine one_ (i := 8) (N := some 25) #[true, true, true, true, true, true, true, true, true, false] rfl rfl (one_of HT_.out (by kernel_rfl)) (by decide) (fun K hK => ?_)
                refine goes_ Try.func60 (by kernel_rfl) rfl #[.agg #[.int .i64 ((rd_T38 l0 x5_1).f0), .slice A148_1 ((rd_T38 l0 x5_1).f1).length c148_1], .agg #[.int .i64 ((rd_T38 l1 x5_1).f0), .slice A149_1 ((rd_T38 l1 x5_1).f1).length c149_1]] (by rfl) rfl rfl (by (try simp only [List.map_toArray, List.map_cons, List.map_nil]); first | done | rfl | (simp only [List.length_drop, List.length_take]; rfl)) ?_
                with_reducible refine (laws_eqClass.calls k1 ((rd_T38 l0 x5_1).f0) _ _ ((rd_T38 l0 x5_1).f1) ((rd_T38 l1 x5_1).f0) _ _ ((rd_T38 l1 x5_1).f1) false _ ?side1 ?side2 ?side3 ?side4 A7.out).mono ?_
                (case side1 => repeat (first | exact (Kd.C_below HR148_1.out HB.out) | (with_reducible refine Kd.C_alloc ?_ _) | (with_reducible refine Kd.C_drewN ?_ _) | (with_reducible refine Kd.C_drew ?_)))
                (case side2 => exact HC148_1.out)
                (case side3 => repeat (first | exact (Kd.C_below HR149_1.out HB.out) | (with_reducible refine Kd.C_alloc ?_ _) | (with_reducible refine Kd.C_drewN ?_ _) | (with_reducible refine Kd.C_drew ?_)))
                (case side4 => exact HC149_1.out)
                rintro e w12 ⟨rfl, hb⟩
                refine ⟨_, rfl, ?_⟩
                have n0_ := Aside0.mk (below_step (by repeat (first | (with_reducible first | exact HB.out | apply below_alloc | apply pw_below_drewN | apply below_drew1) | exact HB.out)) hb)
                clear HB
                have HB := n0_
                clear n0_
                (try clear hb)
                (try clear hb2)
                (try clear hk)
                (try clear hi)
                refine hK.out _ _ ⟨((HB.out.cell (World.block_lt_of_cell? w _ hw148_0)).trans hw148_0), ((HB.out.cell (World.block_lt_of_cell? w _ hw148_1)).trans hw148_1), ((HB.out.cell (World.block_lt_of_cell? w _ hw149_0)).trans hw149_0), ((HB.out.cell (World.block_lt_of_cell? w _ hw149_1)).trans hw149_1)⟩ (fun hHeld => ?_)
                clear hK K
                refine norm_ (a' := ?_) ?_ ?_
                rotate_left
                · show Act.put _ (some 25) _ = _
                  simp only [Act.put, List.setIfInBounds_toArray, List.set_cons_zero, List.set_cons_succ, i64_w, i32_w]
                  rfl
                refine pure_ (i := 9) (N := some 26) (v := ?_) (a' := ?_) #[true, true, true, true, true, true, true, true, true, true] rfl rfl (any_of HT_.out (by kernel_rfl)) (fun _ _ _ h => h) (Or.inl ⟨by rfl, ?_⟩) ?_ ?_
                rotate_left
                · intro w'
                  go_simp
                  with_reducible rfl
                rotate_left
                · simp only [Act.put, List.setIfInBounds_toArray, List.set_cons_zero, List.set_cons_succ, i64_w, i32_w]
                  rfl
                refine done_ (done_of HT_.out (by kernel_rfl)) ?_
                try go_wp2
                go_ret
                exact ⟨by first | rfl | (simp [errW_none, errW_some] <;> rfl) | (simp [*, errW_none, errW_some] <;> rfl), by repeat (first | (with_reducible first | exact HB.out | apply below_alloc | apply pw_below_drewN | apply below_drew1) | exact HB.out)⟩
            · rw [if_neg c6] at H
              exact absurd H (by simp)
          · rw [if_neg c5] at H
            exact absurd H (by simp)
        · rw [if_neg c4] at H
          have c4b0 : decide (x5_1 < (l0.length : Int)) = false := decide_eq_false c4
          clear c4
          obtain rfl := Option.some.inj H
          simp only [Option.some.injEq, Prod.mk.injEq] at H
          obtain ⟨rfl⟩ := H
          go_wp2
          go_ret
          exact ⟨by first | rfl | (simp [errW_none, errW_some] <;> rfl) | (simp [*, errW_none, errW_some] <;> rfl), by repeat (first | (with_reducible first | exact HB.out | apply below_alloc | apply pw_below_drewN | apply below_drew1) | exact HB.out)⟩
  · rw [if_neg c3] at H
    have c3b0 : ((l0.length : Int) == (l1.length : Int)) = false := beq_eq_false_iff_ne.mpr c3
    have c3b1 : ((l0.length : Int) != (l1.length : Int)) = true := bne_iff_ne.mpr c3
    have c3b2 : (l0.length == l1.length) = false := by first | simpa using c3 | (simp at c3 ⊢; omega)
    obtain rfl := Option.some.inj H
    simp only [Option.some.injEq, Prod.mk.injEq] at H
    obtain ⟨rfl⟩ := H
    go_enter Try.func24, Try.ntmps24
    go_wp2
    go_ret
    exact ⟨by first | rfl | (simp [errW_none, errW_some] <;> rfl) | (simp [*, errW_none, errW_some] <;> rfl), by repeat (first | (with_reducible first | exact HB.out | apply below_alloc | apply pw_below_drewN | apply below_drew1) | exact HB.out)⟩

end Go.Proofs.Ytgmjolngnhdafaa.P

end
section
namespace Go.Proofs.Ytgmjolngnhdafaa.P
open Go Go.RowKit Go.Proofs.YtgmjolngnhdafaaW.PrintWords
set_option linter.unusedVariables false
set_option linter.unusedSimpArgs false
theorem kindW_nil : kindW (-1) = .nilIface := rfl
theorem kindW_0 : kindW 0 = .iface 89 (.agg #[]) := rfl
theorem kindW_1 : kindW 1 = .iface 84 (.agg #[]) := rfl
theorem kindW_2 : kindW 2 = .iface 90 (.agg #[]) := rfl
theorem kindW_3 : kindW 3 = .iface 86 (.agg #[.bool false]) := rfl
theorem kindW_4 : kindW 4 = .iface 86 (.agg #[.bool true]) := rfl
theorem kindW_8 {r : Int} (h : 8 ≤ r) : kindW r = .iface 88 (.agg #[.int .i64 (r - 8)]) := by
  unfold kindW
  rw [if_neg (by omega), if_neg (by omega), if_neg (by omega), if_neg (by omega), if_neg (by omega), if_neg (by omega)]
set_option maxHeartbeats 2000000 in
set_option maxRecDepth 100000 in
theorem impl_kindOf.calls' (a0 a1 r : Int) (w : World) (h : impl_kindOf.f a0 a1 = some r) :
    Calls Try.prog 62 #[.int .i64 a0, .int .i64 a1] w fun e w' => e = .returned (kindW r) ∧ w = w' := by
  unfold impl_kindOf.f at h
  split at h
  · rename_i hb
    obtain ⟨h0, h1, h2, h3⟩ := hb
    by_cases c0 : a1 = 0
    · subst c0
      obtain rfl : 0 = r := by simpa using h
      go_enter Try.func62, Try.ntmps62
      go_wp2
      go_ret
      exact ⟨rfl, rfl⟩
    by_cases c1 : a1 = 1
    · subst c1
      obtain rfl : 1 = r := by simpa using h
      go_enter Try.func62, Try.ntmps62
      go_wp2
      go_ret
      exact ⟨rfl, rfl⟩
    by_cases c2 : a1 = 2
    · subst c2
      obtain rfl : 2 = r := by simpa using h
      go_enter Try.func62, Try.ntmps62
      go_wp2
      go_ret
      exact ⟨rfl, rfl⟩
    by_cases c3 : a1 = 3
    · subst c3
      obtain rfl : 3 = r := by simpa using h
      go_enter Try.func62, Try.ntmps62
      go_wp2
      go_ret
      exact ⟨rfl, rfl⟩
    by_cases c4 : a1 = 4
    · subst c4
      obtain rfl : 4 = r := by simpa using h
      go_enter Try.func62, Try.ntmps62
      go_wp2
      go_ret
      exact ⟨rfl, rfl⟩
    rw [if_neg c0, if_neg c1, if_neg c2, if_neg c3, if_neg c4] at h
    have b0 : (a1 == 0) = false := by simpa using c0
    have b1 : (a1 == 1) = false := by simpa using c1
    have b2 : (a1 == 2) = false := by simpa using c2
    have b3 : (a1 == 3) = false := by simpa using c3
    have b4 : (a1 == 4) = false := by simpa using c4
    clear c0 c1 c2 c3 c4
    by_cases c5 : 8 ≤ a1
    · by_cases c6 : a1 < 8 + a0
      · rw [if_pos ⟨c5, c6⟩] at h
        obtain rfl := Option.some.inj h
        have H8 := Aside0.mk (kindW_8 c5)
        clear h
        go_enter Try.func62, Try.ntmps62
        go_wp2
        go_ret
        exact ⟨by rw [H8.out]; rfl, rfl⟩
      · rw [if_neg (by omega)] at h
        obtain rfl := Option.some.inj h
        go_enter Try.func62, Try.ntmps62
        go_wp2
        go_ret
        exact ⟨rfl, rfl⟩
    · rw [if_neg (by omega)] at h
      obtain rfl := Option.some.inj h
      go_enter Try.func62, Try.ntmps62
      go_wp2
      go_ret
      exact ⟨rfl, rfl⟩
  · cases h
theorem impl_kindOf.calls (a0 a1 r : Int) (w : World) (h : impl_kindOf.f a0 a1 = some r) :
    Calls Try.prog 62 #[.int .i64 a0, .int .i64 a1] w fun e w' => e = .returned (kindW r) ∧ Drawn0 w w' :=
  (impl_kindOf.calls' a0 a1 r w h).mono fun e w' ⟨he, hw⟩ => ⟨he, hw ▸ Drawn0.refl w⟩
/-- What kindOf tells is a type's number, or -1. -/
theorem kindOf_cases {c t r : Int} (h : impl_kindOf.f c t = some r) : r = -1 ∨ r = 0 ∨ r = 1 ∨ r = 2 ∨ r = 3 ∨ r = 4 ∨ (8 ≤ r ∧ r < 8 + c) := by
  unfold impl_kindOf.f at h
  split at h
  · repeat' split at h
    all_goals (have := Option.some.inj h; omega)
  · cases h
theorem kindEql (r : Int) (W : World) : (binOp .eql 69 (kindW r) .nilIface).run Try.prog W = .ok (.bool (r == -1)) W := by
  by_cases h : r = -1
  · subst h; rfl
  · have e : (r == -1) = false := by simpa using h
    rw [e]
    unfold kindW
    rw [if_neg h]
    repeat' split
    all_goals rfl
theorem kindNeq (r : Int) (W : World) : (binOp .neq 69 (kindW r) .nilIface).run Try.prog W = .ok (.bool (r != -1)) W := by
  by_cases h : r = -1
  · subst h; rfl
  · have e : (r != -1) = true := by simpa using h
    rw [e]
    unfold kindW
    rw [if_neg h]
    repeat' split
    all_goals rfl
theorem kindIface {r : Int} (h : r ≠ -1) : ∃ u x, kindW r = .iface u x := by
  unfold kindW
  rw [if_neg h]
  repeat' split
  all_goals exact ⟨_, _, rfl⟩
theorem guardNilE (r : Int) (t : TypeId) (o : Operand) (W : World) : (eqGuard .eql t o (.const .nilIface) (kindW r) .nilIface).run Try.prog W = .ok () W := by
  by_cases h : r = -1
  · subst h
    cases o <;> rfl
  · obtain ⟨u, x, e⟩ := kindIface h
    rw [e]; rfl
theorem guardNilN (r : Int) (t : TypeId) (o : Operand) (W : World) : (eqGuard .neq t o (.const .nilIface) (kindW r) .nilIface).run Try.prog W = .ok () W := by
  by_cases h : r = -1
  · subst h
    cases o <;> rfl
  · obtain ⟨u, x, e⟩ := kindIface h
    rw [e]; rfl
/-- A number of a kind, or -1. -/
def KindNo (r : Int) : Prop := r = -1 ∨ r = 0 ∨ r = 1 ∨ r = 2 ∨ r = 3 ∨ r = 4 ∨ 8 ≤ r
theorem assertInt {r : Int} (h : KindNo r) (W : World) : (Instr.typeAssert (kindW r) 69 84 true).run Try.prog W = .ok (.tuple #[.agg #[], .bool (r == 1)]) W := by
  rcases h with rfl | rfl | rfl | rfl | rfl | rfl | h
  all_goals try rfl
  rw [kindW_8 h, show (r == 1) = false by simp; omega]; rfl
theorem assertNull {r : Int} (h : KindNo r) (W : World) : (Instr.typeAssert (kindW r) 69 90 true).run Try.prog W = .ok (.tuple #[.agg #[], .bool (r == 2)]) W := by
  rcases h with rfl | rfl | rfl | rfl | rfl | rfl | h
  all_goals try rfl
  rw [kindW_8 h, show (r == 2) = false by simp; omega]; rfl
theorem assertArray {r : Int} (h : KindNo r) (W : World) : (Instr.typeAssert (kindW r) 69 86 true).run Try.prog W = .ok (.tuple #[.agg #[.bool (r == 4)], .bool (r == 3 || r == 4)]) W := by
  rcases h with rfl | rfl | rfl | rfl | rfl | rfl | h
  all_goals try rfl
  rw [kindW_8 h, show (r == 3) = false by simp; omega, show (r == 4) = false by simp; omega]; rfl
theorem assertClass {r : Int} (h : KindNo r) (W : World) : (Instr.typeAssert (kindW r) 69 88 true).run Try.prog W = .ok (.tuple #[.agg #[.int .i64 (if 8 ≤ r then r - 8 else 0)], .bool (decide (8 ≤ r))]) W := by
  rcases h with rfl | rfl | rfl | rfl | rfl | rfl | h
  all_goals try rfl
  rw [kindW_8 h, if_pos h, decide_eq_true h]; rfl
set_option maxHeartbeats 2000000 in
set_option maxRecDepth 100000 in
theorem impl_fieldType.calls (a0 a1 : Int) (r : Bool) (w : World) (h : impl_fieldType.f a0 a1 = some r) :
    Calls Try.prog 59 #[.int .i64 a0, .int .i64 a1] w fun e w' => e = .returned (.bool r) ∧ Drawn0 w w' := by
  unfold impl_fieldType.f at h
  obtain ⟨q, hq, hr⟩ := Option.bind_eq_some_iff.1 h
  obtain rfl := Option.some.inj hr
  clear h hr
  have hc : KindNo q := by have := kindOf_cases hq; unfold KindNo; omega
  have A := Aside0.mk hq
  clear hq
  have s1 := assertInt hc
  have s2 := assertArray hc
  have s3 := assertClass hc
  have b : (q == 1 || (q == 3 || q == 4) || decide (8 ≤ q)) = decide (q = 1 ∨ q = 3 ∨ q = 4 ∨ 8 ≤ q) := by
    rw [Bool.eq_iff_iff]; simp; omega
  have B := Aside0.mk b
  clear b hc
  rw [← B.out]
  clear B
  by_cases h1 : q = 1
  · subst h1
    go_enter Try.func59, Try.ntmps59
    go_wp2_with (go_at_call 62; refine (impl_kindOf.calls' _ _ _ _ A.out).mono ?_; rintro e w' ⟨rfl, rfl⟩)
    go_ret
    exact ⟨rfl, Drawn0.refl _⟩
  · have b1 : (q == 1) = false := by simpa using h1
    by_cases h2 : (q == 3 || q == 4) = true
    · go_enter Try.func59, Try.ntmps59
      go_wp2_with (go_at_call 62; refine (impl_kindOf.calls' _ _ _ _ A.out).mono ?_; rintro e w' ⟨rfl, rfl⟩)
      all_goals go_ret
      all_goals exact ⟨by simp [h2], Drawn0.refl _⟩
    · have b2 : (q == 3 || q == 4) = false := by simpa using h2
      by_cases h3 : 8 ≤ q
      · have b3 : decide (8 ≤ q) = true := decide_eq_true h3
        go_enter Try.func59, Try.ntmps59
        go_wp2_with (go_at_call 62; refine (impl_kindOf.calls' _ _ _ _ A.out).mono ?_; rintro e w' ⟨rfl, rfl⟩)
        all_goals go_ret
        all_goals exact ⟨by simp [*], Drawn0.refl _⟩
      · have b3 : decide (8 ≤ q) = false := decide_eq_false h3
        go_enter Try.func59, Try.ntmps59
        go_wp2_with (go_at_call 62; refine (impl_kindOf.calls' _ _ _ _ A.out).mono ?_; rintro e w' ⟨rfl, rfl⟩)
        all_goals go_ret
        all_goals exact ⟨by simp [*], Drawn0.refl _⟩
end Go.Proofs.Ytgmjolngnhdafaa.P

end
section
namespace Go.Proofs.Ytgmjolngnhdafaa.P
open Go.RowKit Go.Proofs.YtgmjolngnhdafaaW.PrintWords Go.Proofs.YtgmjolngnhdafaaW.PrintLast Go.Proofs.YtgmjolngnhdafaaW.PrintMore
attribute [local go_sem] max2_int min2_int max_two min_two max_three min_three max_four min_four
set_option linter.unusedVariables false
set_option linter.unusedSimpArgs false

set_option maxHeartbeats 8000000 in
set_option maxRecDepth 100000 in
theorem impl_ClassesOk.calls (k : Nat) (A0 : Option Addr) (c0 : Nat) (l0 : List (S38)) (r : Bool) (w : World) (hr0 : Kd.C k38 w A0 l0.length l0) (hc0 : l0.length ≤ c0) (h : impl_ClassesOk.f k l0 = some r) :
    Calls Try.prog 23 #[.slice A0 l0.length c0] w fun e w' => e = .returned (.bool r) ∧ Below w.heap.size w w' := by
  have hu38 := Try.underlying38
  have HR0 := Aside0.mk hr0
  have HC0 := Aside0.mk hc0
  clear hr0 hc0
  have HB := Aside0.mk (Below.refl w.heap.size w)
  have H : (if (l0.length : Int) < 2 then (impl_ClassesOk.j0 k l0 true) else (impl_ClassesOk.j0 k l0 (decide ((l0.length : Int) > 5)))) = some r := h
  clear h
  have HC2 := Aside0.mk H
  clear H
  go_enter Try.func23, Try.ntmps23
  go_upto_region 1 with (fail)
  go_cut [15] (fun v15 wc => ∃ (kq : Nat) (x15_1 : Bool), v15 = .bool x15_1 ∧ Aside0 (impl_ClassesOk.j0 kq l0 x15_1 = some r) ∧ Aside0 (kq ≤ k) ∧ Aside0 (Below w.heap.size w wc))
  case first =>
    have H := HC2.out
    clear HC2
    by_cases c3 : (l0.length : Int) < 2
    · rw [if_pos c3] at H
      have c3b0 : decide ((l0.length : Int) < 2) = true := decide_eq_true c3
      have c3b1 : decide (l0.length < 2) = true := decide_eq_true (by omega)
      clear c3
      (first | rw [c3b0] | (simp only [i64_w, i32_w]; rw [c3b0]) | skip)
      have H' := Aside0.mk H
      clear H
      go_wp2
      go_meet
      case rel => exact ⟨_, (true), (by first | rfl | (simp; done) | (simp [*]; done)), H', ⟨by first | omega | exact Nat.le_refl _⟩, ⟨by repeat (first | (with_reducible first | exact HB.out | apply below_alloc | apply pw_below_drewN | apply below_drew1) | exact HB.out)⟩⟩
    · rw [if_neg c3] at H
      have c3b0 : decide ((l0.length : Int) < 2) = false := decide_eq_false c3
      have c3b1 : decide (l0.length < 2) = false := decide_eq_false (by omega)
      clear c3
      (first | rw [c3b0] | (simp only [i64_w, i32_w]; rw [c3b0]) | skip)
      have H' := Aside0.mk H
      clear H
      go_wp2
      go_meet
      case rel => exact ⟨_, (decide ((l0.length : Int) > 5)), (by first | rfl | (simp; done) | (simp [*]; done)), H', ⟨by first | omega | exact Nat.le_refl _⟩, ⟨by repeat (first | (with_reducible first | exact HB.out | apply below_alloc | apply pw_below_drewN | apply below_drew1) | exact HB.out)⟩⟩
  case rest =>
    clear HC2
    try clear c2
    try clear p2
    try clear c3
    try clear c3b0
    try clear c3b1
    obtain ⟨kq, x15_1, rfl, HA, HJ1, HB⟩ := hcut
    cases kq with
    | zero => exact absurd HA.out (by simp [impl_ClassesOk.j0])
    | succ kj1 =>
      have H := HA.out
      clear HA
      simp only [impl_ClassesOk.j0] at H
      by_cases c4 : x15_1 = true
      · subst c4
        have H1 : (some false) = some r := by rw [if_pos rfl] at H; exact H
        clear H
        have H := H1
        clear H1
        obtain rfl := Option.some.inj H
        simp only [Option.some.injEq, Prod.mk.injEq] at H
        obtain ⟨rfl⟩ := H
        go_wp2
        go_ret
        exact ⟨by first | rfl | (simp [errW_none, errW_some] <;> rfl) | (simp [*, errW_none, errW_some] <;> rfl), by repeat (first | (with_reducible first | exact HB.out | apply below_alloc | apply pw_below_drewN | apply below_drew1) | exact HB.out)⟩
      · replace c4 := Bool.eq_false_iff.mpr c4
        subst c4
        have H1 : (if 0 < (l0.length : Int) then (if ((rd_T38 l0 0).f0) = (-1) then (impl_ClassesOk.j1 kj1 l0 ((((rd_T38 l0 0).f1).length : Int) != 0)) else (impl_ClassesOk.j1 kj1 l0 true)) else (none)) = some r := by rw [if_neg (show ¬ (false = true) by decide)] at H; exact H
        clear H
        have H := H1
        clear H1
        have HC5 := Aside0.mk H
        clear H
        go_upto_region 3 with (fail)
        go_cut [28] (fun v28 wc => ∃ (kq : Nat) (x28_4 : Bool), v28 = .bool x28_4 ∧ Aside0 (impl_ClassesOk.j1 kq l0 x28_4 = some r) ∧ Aside0 (kq ≤ kj1) ∧ Aside0 (Below w.heap.size w wc))
        case first =>
          have H := HC5.out
          clear HC5
          by_cases c6 : 0 < (l0.length : Int)
          · rw [if_pos c6] at H
            have c6b0 : decide (0 < (l0.length : Int)) = true := decide_eq_true c6
            have c6b1 : decide (0 < l0.length) = true := decide_eq_true (by omega)
            clear c6
            (first | rw [c6b0] | (simp only [i64_w, i32_w]; rw [c6b0]) | skip)
            by_cases c7 : ((rd_T38 l0 0).f0) = (-1)
            · rw [if_pos c7] at H
              have c7b0 : (((rd_T38 l0 0).f0) == (-1)) = true := beq_iff_eq.mpr c7
              have c7b1 : (((rd_T38 l0 0).f0) != (-1)) = false := bne_eq_false_iff_eq.mpr c7
              clear c7
              have H' := Aside0.mk H
              clear H
              have p134 : 0 ≤ (0 : Int) := (by omega)
              have q134 : 0 < (l0.length : Int) := of_decide_eq_true (by first | (with_reducible assumption) | assumption)
              obtain ⟨ad134, A134_1, c134_1, e134, hx134_0, hx134_1, hl134_1, hi134_1⟩ := at_T38 HR0.out 0 p134 q134
              cases e134
              have qi134 : (0 < l0.length) = True := eq_true (by omega)
              (try rw [show ((0 : Int)).toNat = 0 from rfl] at hx134_0)
              (try rw [show 0 * 2 = 0 from rfl] at hx134_0)
              (try rw [Addr.add_zero'] at hx134_0)
              (try rw [show ((0 : Int)).toNat = 0 from rfl] at hx134_1)
              (try rw [show 0 * 2 = 0 from rfl] at hx134_1)
              (try rw [Addr.add_zero'] at hx134_1)
              replace hx134_0 := (HB.out.cell (World.block_lt_of_cell? w _ hx134_0)).trans hx134_0
              replace hx134_1 := (HB.out.cell (World.block_lt_of_cell? w _ hx134_1)).trans hx134_1
              have HR134_1 := Aside0.mk hi134_1
              have HC134_1 := Aside0.mk hl134_1
              clear hi134_1 hl134_1
              replace p134 := eq_true p134
              replace q134 := eq_true q134
              have p135 : 0 ≤ (0 : Int) := (by omega)
              have q135 : 0 < (l0.length : Int) := of_decide_eq_true (by first | (with_reducible assumption) | assumption)
              obtain ⟨ad135, A135_1, c135_1, e135, hx135_0, hx135_1, hl135_1, hi135_1⟩ := at_T38 HR0.out 0 p135 q135
              obtain rfl : ad134 = ad135 := (by injection e135)
              have qi135 : (0 < l0.length) = True := eq_true (by omega)
              (try rw [show ((0 : Int)).toNat = 0 from rfl] at hx135_0)
              (try rw [show 0 * 2 = 0 from rfl] at hx135_0)
              (try rw [Addr.add_zero'] at hx135_0)
              (try rw [show ((0 : Int)).toNat = 0 from rfl] at hx135_1)
              (try rw [show 0 * 2 = 0 from rfl] at hx135_1)
              (try rw [Addr.add_zero'] at hx135_1)
              replace hx135_0 := (HB.out.cell (World.block_lt_of_cell? w _ hx135_0)).trans hx135_0
              replace hx135_1 := (HB.out.cell (World.block_lt_of_cell? w _ hx135_1)).trans hx135_1
              have HR135_1 := Aside0.mk hi135_1
              have HC135_1 := Aside0.mk hl135_1
              clear hi135_1 hl135_1
              replace p135 := eq_true p135
              replace q135 := eq_true q135
              have ea_ := Option.some.inj (hx134_1.symm.trans hx135_1)
              injection ea_ with ea_ en_ ec_
              subst ea_
              subst ec_
              clear en_
              go_wp2
              go_meet
              case rel => exact ⟨_, (((((rd_T38 l0 0).f1).length : Int) != 0)), (by first | rfl | (simp; done) | (simp [*]; done)), H', ⟨by have := HJ1.out; first | omega | exact Nat.le_refl _⟩, ⟨by repeat (first | (with_reducible first | exact HB.out | apply below_alloc | apply pw_below_drewN | apply below_drew1) | exact HB.out)⟩⟩
            · rw [if_neg c7] at H
              have c7b0 : (((rd_T38 l0 0).f0) == (-1)) = false := beq_eq_false_iff_ne.mpr c7
              have c7b1 : (((rd_T38 l0 0).f0) != (-1)) = true := bne_iff_ne.mpr c7
              have H' := Aside0.mk H
              clear H
              have p134 : 0 ≤ (0 : Int) := (by omega)
              have q134 : 0 < (l0.length : Int) := of_decide_eq_true (by first | (with_reducible assumption) | assumption)
              obtain ⟨ad134, A134_1, c134_1, e134, hx134_0, hx134_1, hl134_1, hi134_1⟩ := at_T38 HR0.out 0 p134 q134
              cases e134
              have qi134 : (0 < l0.length) = True := eq_true (by omega)
              (try rw [show ((0 : Int)).toNat = 0 from rfl] at hx134_0)
              (try rw [show 0 * 2 = 0 from rfl] at hx134_0)
              (try rw [Addr.add_zero'] at hx134_0)
              (try rw [show ((0 : Int)).toNat = 0 from rfl] at hx134_1)
              (try rw [show 0 * 2 = 0 from rfl] at hx134_1)
              (try rw [Addr.add_zero'] at hx134_1)
              replace hx134_0 := (HB.out.cell (World.block_lt_of_cell? w _ hx134_0)).trans hx134_0
              replace hx134_1 := (HB.out.cell (World.block_lt_of_cell? w _ hx134_1)).trans hx134_1
              have HR134_1 := Aside0.mk hi134_1
              have HC134_1 := Aside0.mk hl134_1
              clear hi134_1 hl134_1
              replace p134 := eq_true p134
              replace q134 := eq_true q134
              go_wp2
              go_meet
              case rel => exact ⟨_, (true), (by first | rfl | (simp; done) | (simp [*]; done)), H', ⟨by have := HJ1.out; first | omega | exact Nat.le_refl _⟩, ⟨by repeat (first | (with_reducible first | exact HB.out | apply below_alloc | apply pw_below_drewN | apply below_drew1) | exact HB.out)⟩⟩
          · rw [if_neg c6] at H
            exact absurd H (by simp)
        case rest =>
          clear HC5
          try clear c1
          try clear p1
          try clear q1
          try clear hx1
          try clear qi1
          try clear c2
          try clear p2
          try clear c3
          try clear c3b0
          try clear c3b1
          try clear c4
          try clear c6
          try clear c6b0
          try clear c6b1
          try clear c7
          try clear c7b0
          try clear c7b1
          try clear hx134_0
          try clear hx134_1
          try clear hx135_0
          try clear hx135_1
          try clear p134
          try clear p135
          try clear p2
          try clear q134
          try clear q135
          obtain ⟨kq, x28_4, rfl, HA, HJ4, HB⟩ := hcut
          cases kq with
          | zero => exact absurd HA.out (by simp [impl_ClassesOk.j1])
          | succ kj4 =>
            have H := HA.out
            clear HA
            simp only [impl_ClassesOk.j1] at H
            by_cases c8 : x28_4 = true
            · subst c8
              have H1 : (some false) = some r := by rw [if_pos rfl] at H; exact H
              clear H
              have H := H1
              clear H1
              obtain rfl := Option.some.inj H
              simp only [Option.some.injEq, Prod.mk.injEq] at H
              obtain ⟨rfl⟩ := H
              go_wp2
              go_ret
              exact ⟨by first | rfl | (simp [errW_none, errW_some] <;> rfl) | (simp [*, errW_none, errW_some] <;> rfl), by repeat (first | (with_reducible first | exact HB.out | apply below_alloc | apply pw_below_drewN | apply below_drew1) | exact HB.out)⟩
            · replace c8 := Bool.eq_false_iff.mpr c8
              subst c8
              have H1 : (if 1 < (l0.length : Int) then (if ((rd_T38 l0 1).f0) = 0 then (if (((rd_T38 l0 1).f1).length : Int) = 1 then (if 0 < (((rd_T38 l0 1).f1).length : Int) then (impl_ClassesOk.j2 kj4 l0 ((rd ((rd_T38 l0 1).f1) 0) != 1)) else (none)) else (impl_ClassesOk.j2 kj4 l0 true)) else (impl_ClassesOk.j2 kj4 l0 true)) else (none)) = some r := by rw [if_neg (show ¬ (false = true) by decide)] at H; exact H
              clear H
              have H := H1
              clear H1
              by_cases c9 : 1 < (l0.length : Int)
              · rw [if_pos c9] at H
                have c9b0 : decide (1 < (l0.length : Int)) = true := decide_eq_true c9
                have c9b1 : decide (1 < l0.length) = true := decide_eq_true (by omega)
                clear c9
                have HC10 := Aside0.mk H
                clear H
                have p136 : 0 ≤ (1 : Int) := (by omega)
                have q136 : 1 < (l0.length : Int) := of_decide_eq_true (by first | (with_reducible assumption) | assumption)
                obtain ⟨ad136, A136_1, c136_1, e136, hx136_0, hx136_1, hl136_1, hi136_1⟩ := at_T38 HR0.out 1 p136 q136
                cases e136
                (try simp only [show (1 : Int).toNat = 1 from rfl, Nat.reduceMul, Nat.reduceEqDiff, Go.Addr.add, ↓reduceIte] at hx136_0)
                (try simp only [show (1 : Int).toNat = 1 from rfl, Nat.reduceMul, Nat.reduceEqDiff, Go.Addr.add, ↓reduceIte] at hx136_1)
                have qi136 : (1 < l0.length) = True := eq_true (by omega)
                (try rw [show ((1 : Int)).toNat = 1 from rfl] at hx136_0)
                (try rw [show 1 * 2 = 2 from rfl] at hx136_0)
                (try rw [show ((1 : Int)).toNat = 1 from rfl] at hx136_1)
                (try rw [show 1 * 2 = 2 from rfl] at hx136_1)
                replace hx136_0 := (HB.out.cell (World.block_lt_of_cell? w _ hx136_0)).trans hx136_0
                replace hx136_1 := (HB.out.cell (World.block_lt_of_cell? w _ hx136_1)).trans hx136_1
                have HR136_1 := Aside0.mk hi136_1
                have HC136_1 := Aside0.mk hl136_1
                clear hi136_1 hl136_1
                replace p136 := eq_true p136
                replace q136 := eq_true q136
                go_upto_region 6 with (first | ((with_reducible refine gate_dst (N := 3) rfl ?_); (try (refine gate_guard (by rfl) ?_; dsimp only)); refine box_event ?hg (N := 3) ?hd (cs := #[.int .i64 0, .slice none 0 0]) (t := 38) ?hr ?_; (case hd => rfl); (case hg => rfl); (case hr => first | (go_simp; done) | (go_simp; rfl)); intro gb137 hg w11 hbox hb; have n0_ := Aside0.mk (below_step (by repeat (first | (with_reducible first | exact HB.out | apply below_alloc | apply pw_below_drewN | apply below_drew1) | exact HB.out)) hb); have n1_ := Aside0.mk (hbox); have n2_ := Aside0.mk ((by rw [hg]; exact (below_size (by repeat (first | (with_reducible first | exact HB.out | apply below_alloc | apply pw_below_drewN | apply below_drew1) | exact HB.out))) : w.heap.size ≤ gb137)); have n3_ := Aside0.mk ((by rw [hg]; exact (below_size (by repeat (first | (with_reducible first | exact HB.out | apply below_alloc | apply pw_below_drewN | apply below_drew1) | exact HB.out))) : w.heap.size ≤ gb137)); clear HB; have HB := n0_; have BK137 := n1_; have GW137 := n2_; have GE137 := n3_; clear n0_ n1_ n2_ n3_; clear hb hbox hg; have hcz12_0 : w11.cell? ⟨gb137, 0, none⟩ = some (.int .i64 0) := (blk_cell BK137.out 0).trans rfl; have hcz12_1 : w11.cell? ⟨gb137, 1, none⟩ = some (.slice none 0 0) := (blk_cell BK137.out 1).trans rfl; have hfz12_0 := blk_frozen BK137.out 0; have hfz12_1 := blk_frozen BK137.out 1))
                (try simp only [Act.put, List.setIfInBounds_toArray, List.set_cons_zero, List.set_cons_succ])
                go_cut [47] (fun v47 wc => ∃ (kq : Nat) (x47_9 : Bool), v47 = .bool x47_9 ∧ Aside0 (impl_ClassesOk.j2 kq l0 x47_9 = some r) ∧ Aside0 (kq ≤ kj4) ∧ Aside0 (wc.heap[gb137]? = some (.cells #[.int .i64 ((rd_T38 l0 1).f0), (.slice A136_1 ((rd_T38 l0 1).f1).length c136_1)] 38 (0, 0))) ∧ Aside0 (Below w.heap.size w wc))
                case first =>
                  have H := HC10.out
                  clear HC10
                  by_cases c13 : ((rd_T38 l0 1).f0) = 0
                  · rw [if_pos c13] at H
                    have c13b0 : (((rd_T38 l0 1).f0) == 0) = true := beq_iff_eq.mpr c13
                    have c13b1 : (((rd_T38 l0 1).f0) != 0) = false := bne_eq_false_iff_eq.mpr c13
                    clear c13
                    (first | rw [c13b0] | (simp only [i64_w, i32_w]; rw [c13b0]) | skip)
                    by_cases c14 : (((rd_T38 l0 1).f1).length : Int) = 1
                    · rw [if_pos c14] at H
                      have c14b0 : ((((rd_T38 l0 1).f1).length : Int) == 1) = true := beq_iff_eq.mpr c14
                      have c14b1 : ((((rd_T38 l0 1).f1).length : Int) != 1) = false := bne_eq_false_iff_eq.mpr c14
                      clear c14
                      by_cases c15 : 0 < (((rd_T38 l0 1).f1).length : Int)
                      · rw [if_pos c15] at H
                        have c15b0 : decide (0 < (((rd_T38 l0 1).f1).length : Int)) = true := decide_eq_true c15
                        have c15b1 : decide (0 < ((rd_T38 l0 1).f1).length) = true := decide_eq_true (by omega)
                        clear c15
                        have H' := Aside0.mk H
                        clear H
                        have hcz16_0 : w11.cell? ⟨gb137, 0, none⟩ = some (.int .i64 0) := (blk_cell BK137.out 0).trans rfl
                        have hcz16_1 : w11.cell? ⟨gb137, 1, none⟩ = some (.slice none 0 0) := (blk_cell BK137.out 1).trans rfl
                        have hfz16_0 := blk_frozen BK137.out 0
                        have hfz16_1 := blk_frozen BK137.out 1
                        have p138 : 0 ≤ (0 : Int) := (by omega)
                        have q138 : 0 < (((rd_T38 l0 1).f1).length : Int) := of_decide_eq_true (by first | (with_reducible assumption) | assumption)
                        obtain ⟨ad138, e138, hx138_0⟩ := Kd.at_int HR136_1.out 0 p138 q138
                        cases e138
                        have qi138 : (0 < ((rd_T38 l0 1).f1).length) = True := eq_true (by omega)
                        (try rw [show ((0 : Int)).toNat = 0 from rfl] at hx138_0)
                        (try rw [Addr.add_zero'] at hx138_0)
                        have hn138_0 : ad138.block ≠ gb137 := Nat.ne_of_lt (Nat.lt_of_lt_of_le (by have := World.block_lt_of_cell? _ _ hx138_0; first | rwa [add_block] at this | exact this) GW137.out)
                        have hn138_1 : ad138.block ≠ gb137 := Nat.ne_of_lt (Nat.lt_of_lt_of_le (by have := World.block_lt_of_cell? _ _ hx138_0; first | rwa [add_block] at this | exact this) GW137.out)
                        replace hx138_0 := (HB.out.cell (World.block_lt_of_cell? w _ hx138_0)).trans hx138_0
                        replace hx138_0 := (cell_far (p := ⟨gb137, 0, none⟩) (by first | (rw [add_block]; exact hn138_0) | (show (Addr.add _ _).block ≠ _; rw [add_block]; exact hn138_0) | exact hn138_0) (.int .i64 ((rd_T38 l0 1).f0))).trans hx138_0
                        replace hx138_0 := (cell_far (p := ⟨gb137, 1, none⟩) (by first | (rw [add_block]; exact hn138_1) | (show (Addr.add _ _).block ≠ _; rw [add_block]; exact hn138_1) | exact hn138_1) (.slice (some ad138) ((rd_T38 l0 1).f1).length c136_1)).trans hx138_0
                        clear hn138_0
                        clear hn138_1
                        replace p138 := eq_true p138
                        replace q138 := eq_true q138
                        go_wp2
                        go_meet
                        case rel => exact ⟨_, (((rd ((rd_T38 l0 1).f1) 0) != 1)), (by first | rfl | (simp; done) | (simp [*]; done)), H', ⟨by have := HJ1.out; have := HJ4.out; first | omega | exact Nat.le_refl _⟩, ⟨by (with_reducible repeat (first | refine blk_drewN ?_ _ | refine blk_drew ?_ | refine blk_alloc ?_ _)); refine blk_put (cs := #[.int .i64 ((rd_T38 l0 1).f0), .slice none 0 0]) ?_ 1 _ rfl; (with_reducible repeat (first | refine blk_drewN ?_ _ | refine blk_drew ?_ | refine blk_alloc ?_ _)); refine blk_put (cs := #[.int .i64 0, .slice none 0 0]) ?_ 0 _ rfl; (with_reducible repeat (first | refine blk_drewN ?_ _ | refine blk_drew ?_ | refine blk_alloc ?_ _)); exact BK137.out⟩, ⟨by repeat (first | (with_reducible first | exact HB.out | apply below_alloc | apply pw_below_drewN | apply below_drew1 | refine below_set ?_ GE137.out) | exact HB.out)⟩⟩
                      · rw [if_neg c15] at H
                        exact absurd H (by simp)
                    · rw [if_neg c14] at H
                      have c14b0 : ((((rd_T38 l0 1).f1).length : Int) == 1) = false := beq_eq_false_iff_ne.mpr c14
                      have c14b1 : ((((rd_T38 l0 1).f1).length : Int) != 1) = true := bne_iff_ne.mpr c14
                      have H' := Aside0.mk H
                      clear H
                      have hcz17_0 : w11.cell? ⟨gb137, 0, none⟩ = some (.int .i64 0) := (blk_cell BK137.out 0).trans rfl
                      have hcz17_1 : w11.cell? ⟨gb137, 1, none⟩ = some (.slice none 0 0) := (blk_cell BK137.out 1).trans rfl
                      have hfz17_0 := blk_frozen BK137.out 0
                      have hfz17_1 := blk_frozen BK137.out 1
                      go_wp2
                      go_meet
                      case rel => exact ⟨_, (true), (by first | rfl | (simp; done) | (simp [*]; done)), H', ⟨by have := HJ1.out; have := HJ4.out; first | omega | exact Nat.le_refl _⟩, ⟨by (with_reducible repeat (first | refine blk_drewN ?_ _ | refine blk_drew ?_ | refine blk_alloc ?_ _)); refine blk_put (cs := #[.int .i64 ((rd_T38 l0 1).f0), .slice none 0 0]) ?_ 1 _ rfl; (with_reducible repeat (first | refine blk_drewN ?_ _ | refine blk_drew ?_ | refine blk_alloc ?_ _)); refine blk_put (cs := #[.int .i64 0, .slice none 0 0]) ?_ 0 _ rfl; (with_reducible repeat (first | refine blk_drewN ?_ _ | refine blk_drew ?_ | refine blk_alloc ?_ _)); exact BK137.out⟩, ⟨by repeat (first | (with_reducible first | exact HB.out | apply below_alloc | apply pw_below_drewN | apply below_drew1 | refine below_set ?_ GE137.out) | exact HB.out)⟩⟩
                  · rw [if_neg c13] at H
                    have c13b0 : (((rd_T38 l0 1).f0) == 0) = false := beq_eq_false_iff_ne.mpr c13
                    have c13b1 : (((rd_T38 l0 1).f0) != 0) = true := bne_iff_ne.mpr c13
                    (first | rw [c13b0] | (simp only [i64_w, i32_w]; rw [c13b0]) | skip)
                    have H' := Aside0.mk H
                    clear H
                    have hcz18_0 : w11.cell? ⟨gb137, 0, none⟩ = some (.int .i64 0) := (blk_cell BK137.out 0).trans rfl
                    have hcz18_1 : w11.cell? ⟨gb137, 1, none⟩ = some (.slice none 0 0) := (blk_cell BK137.out 1).trans rfl
                    have hfz18_0 := blk_frozen BK137.out 0
                    have hfz18_1 := blk_frozen BK137.out 1
                    go_wp2
                    go_meet
                    case rel => exact ⟨_, (true), (by first | rfl | (simp; done) | (simp [*]; done)), H', ⟨by have := HJ1.out; have := HJ4.out; first | omega | exact Nat.le_refl _⟩, ⟨by (with_reducible repeat (first | refine blk_drewN ?_ _ | refine blk_drew ?_ | refine blk_alloc ?_ _)); refine blk_put (cs := #[.int .i64 ((rd_T38 l0 1).f0), .slice none 0 0]) ?_ 1 _ rfl; (with_reducible repeat (first | refine blk_drewN ?_ _ | refine blk_drew ?_ | refine blk_alloc ?_ _)); refine blk_put (cs := #[.int .i64 0, .slice none 0 0]) ?_ 0 _ rfl; (with_reducible repeat (first | refine blk_drewN ?_ _ | refine blk_drew ?_ | refine blk_alloc ?_ _)); exact BK137.out⟩, ⟨by repeat (first | (with_reducible first | exact HB.out | apply below_alloc | apply pw_below_drewN | apply below_drew1 | refine below_set ?_ GE137.out) | exact HB.out)⟩⟩
                case rest =>
                  clear HC10
                  try clear c1
                  try clear p1
                  try clear q1
                  try clear hx1
                  try clear qi1
                  try clear c2
                  try clear p2
                  try clear c3
                  try clear c3b0
                  try clear c3b1
                  try clear c4
                  try clear c6
                  try clear c6b0
                  try clear c6b1
                  try clear c7
                  try clear c7b0
                  try clear c7b1
                  try clear c8
                  try clear c9
                  try clear c9b0
                  try clear c9b1
                  try clear c13
                  try clear c13b0
                  try clear c13b1
                  try clear p13
                  try clear q13
                  try clear hx13
                  try clear qi13
                  try clear c14
                  try clear c14b0
                  try clear c14b1
                  try clear c15
                  try clear c15b0
                  try clear c15b1
                  try clear hcz12_0
                  try clear hcz12_1
                  try clear hcz16_0
                  try clear hcz16_1
                  try clear hcz17_0
                  try clear hcz17_1
                  try clear hcz18_0
                  try clear hcz18_1
                  try clear hfz12_0
                  try clear hfz12_1
                  try clear hfz16_0
                  try clear hfz16_1
                  try clear hfz17_0
                  try clear hfz17_1
                  try clear hfz18_0
                  try clear hfz18_1
                  try clear hx134_0
                  try clear hx134_1
                  try clear hx135_0
                  try clear hx135_1
                  try clear hx136_0
                  try clear hx136_1
                  try clear hx138_0
                  try clear p1
                  try clear p134
                  try clear p135
                  try clear p136
                  try clear p138
                  try clear p2
                  try clear q1
                  try clear q134
                  try clear q135
                  try clear q136
                  try clear q138
                  obtain ⟨kq, x47_9, rfl, HA, HJ9, BK137, HB⟩ := hcut
                  cases kq with
                  | zero => exact absurd HA.out (by simp [impl_ClassesOk.j2])
                  | succ kj9 =>
                    have H := HA.out
                    clear HA
                    simp only [impl_ClassesOk.j2] at H
                    by_cases c19 : x47_9 = true
                    · subst c19
                      have H1 : (some false) = some r := by rw [if_pos rfl] at H; exact H
                      clear H
                      have H := H1
                      clear H1
                      obtain rfl := Option.some.inj H
                      simp only [Option.some.injEq, Prod.mk.injEq] at H
                      obtain ⟨rfl⟩ := H
                      go_wp2
                      go_ret
                      exact ⟨by first | rfl | (simp [errW_none, errW_some] <;> rfl) | (simp [*, errW_none, errW_some] <;> rfl), by repeat (first | (with_reducible first | exact HB.out | apply below_alloc | apply pw_below_drewN | apply below_drew1 | refine below_set ?_ GE137.out) | exact HB.out)⟩
                    · replace c19 := Bool.eq_false_iff.mpr c19
                      subst c19
                      have H1 : (impl_ClassesOk.l0 kj9 l0 l0 (l0.length : Int) 0) = some r := by rw [if_neg (show ¬ (false = true) by decide)] at H; exact H
                      clear H
                      have H := H1
                      clear H1
                      have H' := Aside0.mk H
                      clear H
                      go_wp2
                      go_loopg [50] kj9 (fun kq v50 w' => ∃ (x50_4 : Int), v50 = .int .i64 x50_4 ∧ Aside0 (impl_ClassesOk.l0 kq l0 l0 (l0.length : Int) x50_4 = some r) ∧ Aside0 (kq ≤ kj9) ∧ Aside0 (w'.heap[gb137]? = some (.cells #[.int .i64 ((rd_T38 l0 1).f0), (.slice A136_1 ((rd_T38 l0 1).f1).length c136_1)] 38 (0, 0))) ∧ Aside0 (Below w.heap.size w w'))
                      case atStart => exact ⟨(0), (by first | rfl | (simp; done) | (simp [*]; done)), H', ⟨Nat.le_refl _⟩, ⟨by (with_reducible repeat (first | refine blk_drewN ?_ _ | refine blk_drew ?_ | refine blk_alloc ?_ _)); exact BK137.out⟩, ⟨by repeat (first | (with_reducible first | exact HB.out | apply below_alloc | apply pw_below_drewN | apply below_drew1 | refine below_set ?_ GE137.out) | exact HB.out)⟩⟩
                      case round =>
                        clear H'
                        try clear c1
                        try clear p1
                        try clear q1
                        try clear hx1
                        try clear qi1
                        try clear c2
                        try clear p2
                        try clear c3
                        try clear c3b0
                        try clear c3b1
                        try clear c4
                        try clear c6
                        try clear c6b0
                        try clear c6b1
                        try clear c7
                        try clear c7b0
                        try clear c7b1
                        try clear c8
                        try clear c9
                        try clear c9b0
                        try clear c9b1
                        try clear c13
                        try clear c13b0
                        try clear c13b1
                        try clear p13
                        try clear q13
                        try clear hx13
                        try clear qi13
                        try clear c14
                        try clear c14b0
                        try clear c14b1
                        try clear c15
                        try clear c15b0
                        try clear c15b1
                        try clear c19
                        try clear hcz12_0
                        try clear hcz12_1
                        try clear hcz16_0
                        try clear hcz16_1
                        try clear hcz17_0
                        try clear hcz17_1
                        try clear hcz18_0
                        try clear hcz18_1
                        try clear hfz12_0
                        try clear hfz12_1
                        try clear hfz16_0
                        try clear hfz16_1
                        try clear hfz17_0
                        try clear hfz17_1
                        try clear hfz18_0
                        try clear hfz18_1
                        try clear hx134_0
                        try clear hx134_1
                        try clear hx135_0
                        try clear hx135_1
                        try clear hx136_0
                        try clear hx136_1
                        try clear hx138_0
                        try clear p1
                        try clear p13
                        try clear p134
                        try clear p135
                        try clear p136
                        try clear p138
                        try clear p2
                        try clear q1
                        try clear q13
                        try clear q134
                        try clear q135
                        try clear q136
                        try clear q138
                        obtain ⟨x50_4, rfl, HA, HK4, BK137, HB⟩ := hrel
                        cases gk with
                        | zero => exact absurd HA.out (by simp [impl_ClassesOk.l0])
                        | succ k4 =>
                          have H := HA.out
                          clear HA
                          simp only [impl_ClassesOk.l0] at H
                          by_cases c20 : x50_4 < (l0.length : Int)
                          · rw [if_pos c20] at H
                            have c20b0 : decide (x50_4 < (l0.length : Int)) = true := decide_eq_true c20
                            clear c20
                            by_cases c21 : 0 ≤ x50_4
                            · rw [if_pos c21] at H
                              have c21b0 : decide (0 ≤ x50_4) = true := decide_eq_true c21
                              clear c21
                              by_cases c22 : x50_4 < (l0.length : Int)
                              · rw [if_pos c22] at H
                                have c22b0 : decide (x50_4 < (l0.length : Int)) = true := decide_eq_true c22
                                clear c22
                                have HC23 := Aside0.mk H
                                clear H
                                have p139 : 0 ≤ (x50_4 : Int) := of_decide_eq_true (by first | (with_reducible assumption) | assumption)
                                have q139 : x50_4 < (l0.length : Int) := of_decide_eq_true (by first | (with_reducible assumption) | assumption)
                                obtain ⟨ad139, A139_1, c139_1, e139, hx139_0, hx139_1, hl139_1, hi139_1⟩ := at_T38 HR0.out x50_4 p139 q139
                                obtain rfl : ad136 = ad139 := (by injection e139)
                                replace hx139_0 := (HB.out.cell (World.block_lt_of_cell? w _ hx139_0)).trans hx139_0
                                replace hx139_1 := (HB.out.cell (World.block_lt_of_cell? w _ hx139_1)).trans hx139_1
                                have HR139_1 := Aside0.mk hi139_1
                                have HC139_1 := Aside0.mk hl139_1
                                clear hi139_1 hl139_1
                                replace p139 := eq_true p139
                                replace q139 := eq_true q139
                                go_upto_region 11 with (first | ((with_reducible refine gate_dst (N := 5) rfl ?_); (try (refine gate_guard (by rfl) ?_; dsimp only)); refine box_event ?hg (N := 5) ?hd (cs := #[.int .i64 0, .slice none 0 0]) (t := 38) ?hr ?_; (case hd => rfl); (case hg => rfl); (case hr => first | (go_simp; done) | (go_simp; rfl)); intro gb140 hg w24 hbox hb; have n0_ := Aside0.mk (blk_below (g := gb137) (o := .cells #[.int .i64 ((rd_T38 l0 1).f0), .slice A136_1 ((rd_T38 l0 1).f1).length c136_1] 38 (0, 0)) (by (with_reducible repeat (first | refine blk_drewN ?_ _ | refine blk_drew ?_ | refine blk_alloc ?_ _)); exact BK137.out) hb); have n1_ := Aside0.mk (below_step (by repeat (first | (with_reducible first | exact HB.out | apply below_alloc | apply pw_below_drewN | apply below_drew1 | refine below_set ?_ GE137.out) | exact HB.out)) hb); have n2_ := Aside0.mk (hbox); have n3_ := Aside0.mk ((by rw [hg]; exact (below_size (by repeat (first | (with_reducible first | exact HB.out | apply below_alloc | apply pw_below_drewN | apply below_drew1 | refine below_set ?_ GE137.out) | exact HB.out))) : w.heap.size ≤ gb140)); have n4_ := Aside0.mk ((by rw [hg]; exact (below_size (by repeat (first | (with_reducible first | exact HB.out | apply below_alloc | apply pw_below_drewN | apply below_drew1 | refine below_set ?_ GE137.out) | exact HB.out))) : w.heap.size ≤ gb140)); have n5_ := Aside0.mk ((by rw [hg]; exact Nat.ne_of_lt (blk_lt (g := gb137) (o := .cells #[.int .i64 ((rd_T38 l0 1).f0), .slice A136_1 ((rd_T38 l0 1).f1).length c136_1] 38 (0, 0)) (by (with_reducible repeat (first | refine blk_drewN ?_ _ | refine blk_drew ?_ | refine blk_alloc ?_ _)); exact BK137.out)) : gb137 ≠ gb140)); have n6_ := Aside0.mk ((by rw [hg]; exact Nat.ne_of_gt (blk_lt (g := gb137) (o := .cells #[.int .i64 ((rd_T38 l0 1).f0), .slice A136_1 ((rd_T38 l0 1).f1).length c136_1] 38 (0, 0)) (by (with_reducible repeat (first | refine blk_drewN ?_ _ | refine blk_drew ?_ | refine blk_alloc ?_ _)); exact BK137.out)) : gb140 ≠ gb137)); clear BK137; clear HB; have BK137 := n0_; have HB := n1_; have BK140 := n2_; have GW140 := n3_; have GE140 := n4_; have NB137_140 := n5_; have NB140_137 := n6_; clear n0_ n1_ n2_ n3_ n4_ n5_ n6_; clear hb hbox hg; have hnb25 := NB140_137.out; have hnc25 := NB137_140.out; have hcz26_0 : w24.cell? ⟨gb140, 0, none⟩ = some (.int .i64 0) := (blk_cell BK140.out 0).trans rfl; have hcz26_1 : w24.cell? ⟨gb140, 1, none⟩ = some (.slice none 0 0) := (blk_cell BK140.out 1).trans rfl; have hfz26_0 := blk_frozen BK140.out 0; have hfz26_1 := blk_frozen BK140.out 1))
                                (try simp only [Act.put, List.setIfInBounds_toArray, List.set_cons_zero, List.set_cons_succ])
                                go_cut [67] (fun v67 wc => ∃ (kq : Nat) (x67_22 : Bool), v67 = .bool x67_22 ∧ Aside0 (impl_ClassesOk.j4 kq l0 l0 (l0.length : Int) x50_4 x67_22 ((rd_T38 l0 x50_4).f0) ((rd_T38 l0 x50_4).f1) = some r) ∧ Aside0 (kq ≤ k4) ∧ Aside0 (wc.heap[gb137]? = some (.cells #[.int .i64 ((rd_T38 l0 1).f0), (.slice A136_1 ((rd_T38 l0 1).f1).length c136_1)] 38 (0, 0))) ∧ Aside0 (wc.heap[gb140]? = some (.cells #[.int .i64 ((rd_T38 l0 x50_4).f0), (.slice A139_1 ((rd_T38 l0 x50_4).f1).length c139_1)] 38 (0, 0))) ∧ Aside0 (Below w.heap.size w wc))
                                case first =>
                                  have H := HC23.out
                                  clear HC23
                                  by_cases c27 : x50_4 > 1
                                  · rw [if_pos c27] at H
                                    have c27b0 : decide (1 < x50_4) = true := decide_eq_true c27
                                    clear c27
                                    (first | rw [c27b0] | (simp only [i64_w, i32_w]; rw [c27b0]) | skip)
                                    by_cases c28 : ((rd_T38 l0 x50_4).f0) < 0
                                    · rw [if_pos c28] at H
                                      have c28b0 : decide (((rd_T38 l0 x50_4).f0) < 0) = true := decide_eq_true c28
                                      clear c28
                                      have H' := Aside0.mk H
                                      clear H
                                      have hnb29 := NB140_137.out
                                      have hnc29 := NB137_140.out
                                      have hcz30_0 : w24.cell? ⟨gb140, 0, none⟩ = some (.int .i64 0) := (blk_cell BK140.out 0).trans rfl
                                      have hcz30_1 : w24.cell? ⟨gb140, 1, none⟩ = some (.slice none 0 0) := (blk_cell BK140.out 1).trans rfl
                                      have hfz30_0 := blk_frozen BK140.out 0
                                      have hfz30_1 := blk_frozen BK140.out 1
                                      go_wp2
                                      go_meet
                                      case rel => exact ⟨_, (true), (by first | rfl | (simp; done) | (simp [*]; done)), H', ⟨by have := HJ1.out; have := HJ4.out; have := HJ9.out; have := HK4.out; first | omega | exact Nat.le_refl _⟩, ⟨by (with_reducible repeat (first | refine blk_drewN ?_ _ | refine blk_drew ?_ | refine blk_alloc ?_ _)); refine blk_far ?_ NB137_140.out _; (with_reducible repeat (first | refine blk_drewN ?_ _ | refine blk_drew ?_ | refine blk_alloc ?_ _)); refine blk_far ?_ NB137_140.out _; (with_reducible repeat (first | refine blk_drewN ?_ _ | refine blk_drew ?_ | refine blk_alloc ?_ _)); exact BK137.out⟩, ⟨by (with_reducible repeat (first | refine blk_drewN ?_ _ | refine blk_drew ?_ | refine blk_alloc ?_ _)); refine blk_put (cs := #[.int .i64 ((rd_T38 l0 x50_4).f0), .slice none 0 0]) ?_ 1 _ rfl; (with_reducible repeat (first | refine blk_drewN ?_ _ | refine blk_drew ?_ | refine blk_alloc ?_ _)); refine blk_put (cs := #[.int .i64 0, .slice none 0 0]) ?_ 0 _ rfl; (with_reducible repeat (first | refine blk_drewN ?_ _ | refine blk_drew ?_ | refine blk_alloc ?_ _)); exact BK140.out⟩, ⟨by repeat (first | (with_reducible first | exact HB.out | apply below_alloc | apply pw_below_drewN | apply below_drew1 | refine below_set ?_ GE137.out | refine below_set ?_ GE140.out) | exact HB.out)⟩⟩
                                    · rw [if_neg c28] at H
                                      have c28b0 : decide (((rd_T38 l0 x50_4).f0) < 0) = false := decide_eq_false c28
                                      clear c28
                                      have H' := Aside0.mk H
                                      clear H
                                      have hnb31 := NB140_137.out
                                      have hnc31 := NB137_140.out
                                      have hcz32_0 : w24.cell? ⟨gb140, 0, none⟩ = some (.int .i64 0) := (blk_cell BK140.out 0).trans rfl
                                      have hcz32_1 : w24.cell? ⟨gb140, 1, none⟩ = some (.slice none 0 0) := (blk_cell BK140.out 1).trans rfl
                                      have hfz32_0 := blk_frozen BK140.out 0
                                      have hfz32_1 := blk_frozen BK140.out 1
                                      go_wp2
                                      go_meet
                                      case rel => exact ⟨_, (decide (((rd_T38 l0 x50_4).f0) ≥ x50_4)), (by first | rfl | (simp; done) | (simp [*]; done)), H', ⟨by have := HJ1.out; have := HJ4.out; have := HJ9.out; have := HK4.out; first | omega | exact Nat.le_refl _⟩, ⟨by (with_reducible repeat (first | refine blk_drewN ?_ _ | refine blk_drew ?_ | refine blk_alloc ?_ _)); refine blk_far ?_ NB137_140.out _; (with_reducible repeat (first | refine blk_drewN ?_ _ | refine blk_drew ?_ | refine blk_alloc ?_ _)); refine blk_far ?_ NB137_140.out _; (with_reducible repeat (first | refine blk_drewN ?_ _ | refine blk_drew ?_ | refine blk_alloc ?_ _)); exact BK137.out⟩, ⟨by (with_reducible repeat (first | refine blk_drewN ?_ _ | refine blk_drew ?_ | refine blk_alloc ?_ _)); refine blk_put (cs := #[.int .i64 ((rd_T38 l0 x50_4).f0), .slice none 0 0]) ?_ 1 _ rfl; (with_reducible repeat (first | refine blk_drewN ?_ _ | refine blk_drew ?_ | refine blk_alloc ?_ _)); refine blk_put (cs := #[.int .i64 0, .slice none 0 0]) ?_ 0 _ rfl; (with_reducible repeat (first | refine blk_drewN ?_ _ | refine blk_drew ?_ | refine blk_alloc ?_ _)); exact BK140.out⟩, ⟨by repeat (first | (with_reducible first | exact HB.out | apply below_alloc | apply pw_below_drewN | apply below_drew1 | refine below_set ?_ GE137.out | refine below_set ?_ GE140.out) | exact HB.out)⟩⟩
                                  · rw [if_neg c27] at H
                                    have c27b0 : decide (1 < x50_4) = false := decide_eq_false c27
                                    clear c27
                                    (first | rw [c27b0] | (simp only [i64_w, i32_w]; rw [c27b0]) | skip)
                                    have H' := Aside0.mk H
                                    clear H
                                    go_wp2
                                    go_meet
                                    case rel => exact ⟨_, (false), (by first | rfl | (simp; done) | (simp [*]; done)), H', ⟨by have := HJ1.out; have := HJ4.out; have := HJ9.out; have := HK4.out; first | omega | exact Nat.le_refl _⟩, ⟨by (with_reducible repeat (first | refine blk_drewN ?_ _ | refine blk_drew ?_ | refine blk_alloc ?_ _)); refine blk_far ?_ NB137_140.out _; (with_reducible repeat (first | refine blk_drewN ?_ _ | refine blk_drew ?_ | refine blk_alloc ?_ _)); refine blk_far ?_ NB137_140.out _; (with_reducible repeat (first | refine blk_drewN ?_ _ | refine blk_drew ?_ | refine blk_alloc ?_ _)); exact BK137.out⟩, ⟨by (with_reducible repeat (first | refine blk_drewN ?_ _ | refine blk_drew ?_ | refine blk_alloc ?_ _)); refine blk_put (cs := #[.int .i64 ((rd_T38 l0 x50_4).f0), .slice none 0 0]) ?_ 1 _ rfl; (with_reducible repeat (first | refine blk_drewN ?_ _ | refine blk_drew ?_ | refine blk_alloc ?_ _)); refine blk_put (cs := #[.int .i64 0, .slice none 0 0]) ?_ 0 _ rfl; (with_reducible repeat (first | refine blk_drewN ?_ _ | refine blk_drew ?_ | refine blk_alloc ?_ _)); exact BK140.out⟩, ⟨by repeat (first | (with_reducible first | exact HB.out | apply below_alloc | apply pw_below_drewN | apply below_drew1 | refine below_set ?_ GE137.out | refine below_set ?_ GE140.out) | exact HB.out)⟩⟩
                                case rest =>
                                  clear HC23
                                  try clear c1
                                  try clear p1
                                  try clear q1
                                  try clear hx1
                                  try clear qi1
                                  try clear c2
                                  try clear p2
                                  try clear c3
                                  try clear c3b0
                                  try clear c3b1
                                  try clear c4
                                  try clear c6
                                  try clear c6b0
                                  try clear c6b1
                                  try clear c7
                                  try clear c7b0
                                  try clear c7b1
                                  try clear c8
                                  try clear c9
                                  try clear c9b0
                                  try clear c9b1
                                  try clear c13
                                  try clear c13b0
                                  try clear c13b1
                                  try clear p13
                                  try clear q13
                                  try clear hx13
                                  try clear qi13
                                  try clear c14
                                  try clear c14b0
                                  try clear c14b1
                                  try clear c15
                                  try clear c15b0
                                  try clear c15b1
                                  try clear c19
                                  try clear c20
                                  try clear c20b0
                                  try clear c21
                                  try clear c21b0
                                  try clear c22
                                  try clear c22b0
                                  try clear c23
                                  try clear c25
                                  try clear c27
                                  try clear c27b0
                                  try clear c28
                                  try clear c28b0
                                  try clear c29
                                  try clear c31
                                  try clear hcz12_0
                                  try clear hcz12_1
                                  try clear hcz16_0
                                  try clear hcz16_1
                                  try clear hcz17_0
                                  try clear hcz17_1
                                  try clear hcz18_0
                                  try clear hcz18_1
                                  try clear hcz26_0
                                  try clear hcz26_1
                                  try clear hcz30_0
                                  try clear hcz30_1
                                  try clear hcz32_0
                                  try clear hcz32_1
                                  try clear hfz12_0
                                  try clear hfz12_1
                                  try clear hfz16_0
                                  try clear hfz16_1
                                  try clear hfz17_0
                                  try clear hfz17_1
                                  try clear hfz18_0
                                  try clear hfz18_1
                                  try clear hfz26_0
                                  try clear hfz26_1
                                  try clear hfz30_0
                                  try clear hfz30_1
                                  try clear hfz32_0
                                  try clear hfz32_1
                                  try clear hx134_0
                                  try clear hx134_1
                                  try clear hx135_0
                                  try clear hx135_1
                                  try clear hx136_0
                                  try clear hx136_1
                                  try clear hx138_0
                                  try clear hx139_0
                                  try clear hx139_1
                                  try clear p1
                                  try clear p13
                                  try clear p134
                                  try clear p135
                                  try clear p136
                                  try clear p138
                                  try clear p139
                                  try clear p2
                                  try clear q1
                                  try clear q13
                                  try clear q134
                                  try clear q135
                                  try clear q136
                                  try clear q138
                                  try clear q139
                                  obtain ⟨kq, x67_22, rfl, HA, HJ22, BK137, BK140, HB⟩ := hcut
                                  cases kq with
                                  | zero => exact absurd HA.out (by simp [impl_ClassesOk.j4])
                                  | succ kj22 =>
                                    have H := HA.out
                                    clear HA
                                    simp only [impl_ClassesOk.j4] at H
                                    by_cases c33 : x67_22 = true
                                    · subst c33
                                      have H1 : (some false) = some r := by rw [if_pos rfl] at H; exact H
                                      clear H
                                      have H := H1
                                      clear H1
                                      obtain rfl := Option.some.inj H
                                      simp only [Option.some.injEq, Prod.mk.injEq] at H
                                      obtain ⟨rfl⟩ := H
                                      go_wp2
                                      go_ret
                                      exact ⟨by first | rfl | (simp [errW_none, errW_some] <;> rfl) | (simp [*, errW_none, errW_some] <;> rfl), by repeat (first | (with_reducible first | exact HB.out | apply below_alloc | apply pw_below_drewN | apply below_drew1 | refine below_set ?_ GE137.out | refine below_set ?_ GE140.out) | exact HB.out)⟩
                                    · replace c33 := Bool.eq_false_iff.mpr c33
                                      subst c33
                                      have H1 : (if (((rd_T38 l0 x50_4).f1).length : Int) > 2 then (some false) else (impl_ClassesOk.l1 kj22 l0 l0 (l0.length : Int) x50_4 ((rd_T38 l0 x50_4).f1) (((rd_T38 l0 x50_4).f1).length : Int) 0)) = some r := by rw [if_neg (show ¬ (false = true) by decide)] at H; exact H
                                      clear H
                                      have H := H1
                                      clear H1
                                      by_cases c34 : (((rd_T38 l0 x50_4).f1).length : Int) > 2
                                      · rw [if_pos c34] at H
                                        have c34b0 : decide (2 < (((rd_T38 l0 x50_4).f1).length : Int)) = true := decide_eq_true c34
                                        have c34b1 : decide (2 < ((rd_T38 l0 x50_4).f1).length) = true := decide_eq_true (by omega)
                                        clear c34
                                        obtain rfl := Option.some.inj H
                                        simp only [Option.some.injEq, Prod.mk.injEq] at H
                                        obtain ⟨rfl⟩ := H
                                        have hnb35 := NB140_137.out
                                        have hnc35 := NB137_140.out
                                        have hcz36_0 : wc.cell? ⟨gb140, 0, none⟩ = some (.int .i64 ((rd_T38 l0 x50_4).f0)) := (blk_cell BK140.out 0).trans rfl
                                        have hcz36_1 : wc.cell? ⟨gb140, 1, none⟩ = some (.slice A139_1 ((rd_T38 l0 x50_4).f1).length c139_1) := (blk_cell BK140.out 1).trans rfl
                                        have hfz36_0 := blk_frozen BK140.out 0
                                        have hfz36_1 := blk_frozen BK140.out 1
                                        go_wp2
                                        go_ret
                                        exact ⟨by first | rfl | (simp [errW_none, errW_some] <;> rfl) | (simp [*, errW_none, errW_some] <;> rfl), by repeat (first | (with_reducible first | exact HB.out | apply below_alloc | apply pw_below_drewN | apply below_drew1 | refine below_set ?_ GE137.out | refine below_set ?_ GE140.out) | exact HB.out)⟩
                                      · rw [if_neg c34] at H
                                        have c34b0 : decide (2 < (((rd_T38 l0 x50_4).f1).length : Int)) = false := decide_eq_false c34
                                        have c34b1 : decide (2 < ((rd_T38 l0 x50_4).f1).length) = false := decide_eq_false (by omega)
                                        clear c34
                                        have H' := Aside0.mk H
                                        clear H
                                        have hnb37 := NB140_137.out
                                        have hnc37 := NB137_140.out
                                        have hcz38_0 : wc.cell? ⟨gb140, 0, none⟩ = some (.int .i64 ((rd_T38 l0 x50_4).f0)) := (blk_cell BK140.out 0).trans rfl
                                        have hcz38_1 : wc.cell? ⟨gb140, 1, none⟩ = some (.slice A139_1 ((rd_T38 l0 x50_4).f1).length c139_1) := (blk_cell BK140.out 1).trans rfl
                                        have hfz38_0 := blk_frozen BK140.out 0
                                        have hfz38_1 := blk_frozen BK140.out 1
                                        go_wp2
                                        go_loopg [75] kj22 (fun kq v75 w' => ∃ (x75_6 : Int), v75 = .int .i64 x75_6 ∧ Aside0 (impl_ClassesOk.l1 kq l0 l0 (l0.length : Int) x50_4 ((rd_T38 l0 x50_4).f1) (((rd_T38 l0 x50_4).f1).length : Int) x75_6 = some r) ∧ Aside0 (kq ≤ kj22) ∧ Aside0 (w'.heap[gb137]? = some (.cells #[.int .i64 ((rd_T38 l0 1).f0), (.slice A136_1 ((rd_T38 l0 1).f1).length c136_1)] 38 (0, 0))) ∧ Aside0 (w'.heap[gb140]? = some (.cells #[.int .i64 ((rd_T38 l0 x50_4).f0), (.slice A139_1 ((rd_T38 l0 x50_4).f1).length c139_1)] 38 (0, 0))) ∧ Aside0 (Below w.heap.size w w'))
                                        case atStart => exact ⟨(0), (by first | rfl | (simp; done) | (simp [*]; done)), H', ⟨Nat.le_refl _⟩, ⟨by (with_reducible repeat (first | refine blk_drewN ?_ _ | refine blk_drew ?_ | refine blk_alloc ?_ _)); exact BK137.out⟩, ⟨by (with_reducible repeat (first | refine blk_drewN ?_ _ | refine blk_drew ?_ | refine blk_alloc ?_ _)); exact BK140.out⟩, ⟨by repeat (first | (with_reducible first | exact HB.out | apply below_alloc | apply pw_below_drewN | apply below_drew1 | refine below_set ?_ GE137.out | refine below_set ?_ GE140.out) | exact HB.out)⟩⟩
                                        case round =>
                                          clear H'
                                          try clear c1
                                          try clear p1
                                          try clear q1
                                          try clear hx1
                                          try clear qi1
                                          try clear c2
                                          try clear p2
                                          try clear c3
                                          try clear c3b0
                                          try clear c3b1
                                          try clear c4
                                          try clear c6
                                          try clear c6b0
                                          try clear c6b1
                                          try clear c7
                                          try clear c7b0
                                          try clear c7b1
                                          try clear c8
                                          try clear c9
                                          try clear c9b0
                                          try clear c9b1
                                          try clear c13
                                          try clear c13b0
                                          try clear c13b1
                                          try clear p13
                                          try clear q13
                                          try clear hx13
                                          try clear qi13
                                          try clear c14
                                          try clear c14b0
                                          try clear c14b1
                                          try clear c15
                                          try clear c15b0
                                          try clear c15b1
                                          try clear c19
                                          try clear c20
                                          try clear c20b0
                                          try clear c21
                                          try clear c21b0
                                          try clear c22
                                          try clear c22b0
                                          try clear c23
                                          try clear c25
                                          try clear c27
                                          try clear c27b0
                                          try clear c28
                                          try clear c28b0
                                          try clear c29
                                          try clear c31
                                          try clear c33
                                          try clear c34
                                          try clear c34b0
                                          try clear c34b1
                                          try clear c35
                                          try clear c37
                                          try clear hcz12_0
                                          try clear hcz12_1
                                          try clear hcz16_0
                                          try clear hcz16_1
                                          try clear hcz17_0
                                          try clear hcz17_1
                                          try clear hcz18_0
                                          try clear hcz18_1
                                          try clear hcz26_0
                                          try clear hcz26_1
                                          try clear hcz30_0
                                          try clear hcz30_1
                                          try clear hcz32_0
                                          try clear hcz32_1
                                          try clear hcz36_0
                                          try clear hcz36_1
                                          try clear hcz38_0
                                          try clear hcz38_1
                                          try clear hfz12_0
                                          try clear hfz12_1
                                          try clear hfz16_0
                                          try clear hfz16_1
                                          try clear hfz17_0
                                          try clear hfz17_1
                                          try clear hfz18_0
                                          try clear hfz18_1
                                          try clear hfz26_0
                                          try clear hfz26_1
                                          try clear hfz30_0
                                          try clear hfz30_1
                                          try clear hfz32_0
                                          try clear hfz32_1
                                          try clear hfz36_0
                                          try clear hfz36_1
                                          try clear hfz38_0
                                          try clear hfz38_1
                                          try clear hx134_0
                                          try clear hx134_1
                                          try clear hx135_0
                                          try clear hx135_1
                                          try clear hx136_0
                                          try clear hx136_1
                                          try clear hx138_0
                                          try clear hx139_0
                                          try clear hx139_1
                                          try clear p1
                                          try clear p13
                                          try clear p134
                                          try clear p135
                                          try clear p136
                                          try clear p138
                                          try clear p139
                                          try clear p2
                                          try clear q1
                                          try clear q13
                                          try clear q134
                                          try clear q135
                                          try clear q136
                                          try clear q138
                                          try clear q139
                                          obtain ⟨x75_6, rfl, HA, HK6, BK137, BK140, HB⟩ := hrel
                                          cases gk with
                                          | zero => exact absurd HA.out (by simp [impl_ClassesOk.l1])
                                          | succ k6 =>
                                            have H := HA.out
                                            clear HA
                                            simp only [impl_ClassesOk.l1] at H
                                            by_cases c39 : x75_6 < (((rd_T38 l0 x50_4).f1).length : Int)
                                            · rw [if_pos c39] at H
                                              have c39b0 : decide (x75_6 < (((rd_T38 l0 x50_4).f1).length : Int)) = true := decide_eq_true c39
                                              clear c39
                                              by_cases c40 : 0 ≤ x75_6
                                              · rw [if_pos c40] at H
                                                have c40b0 : decide (0 ≤ x75_6) = true := decide_eq_true c40
                                                clear c40
                                                by_cases c41 : x75_6 < (((rd_T38 l0 x50_4).f1).length : Int)
                                                · rw [if_pos c41] at H
                                                  have c41b0 : decide (x75_6 < (((rd_T38 l0 x50_4).f1).length : Int)) = true := decide_eq_true c41
                                                  clear c41
                                                  replace H := Option.bind_eq_some_iff.mp H
                                                  obtain ⟨t142, A420, H⟩ := H
                                                  replace H : (if t142 = true then (impl_ClassesOk.l1 k6 l0 l0 (l0.length : Int) x50_4 ((rd_T38 l0 x50_4).f1) (((rd_T38 l0 x50_4).f1).length : Int) (wrap64 (x75_6 + 1))) else (some false)) = some r := H
                                                  have A42 := Aside0.mk A420
                                                  clear A420
                                                  by_cases c43 : t142 = true
                                                  · subst c43
                                                    have H1 : (impl_ClassesOk.l1 k6 l0 l0 (l0.length : Int) x50_4 ((rd_T38 l0 x50_4).f1) (((rd_T38 l0 x50_4).f1).length : Int) (wrap64 (x75_6 + 1))) = some r := by rw [if_pos rfl] at H; exact H
                                                    clear H
                                                    have H := H1
                                                    clear H1
                                                    have H' := Aside0.mk H
                                                    clear H
                                                    have p141 : 0 ≤ (x75_6 : Int) := of_decide_eq_true (by first | (with_reducible assumption) | assumption)
                                                    have q141 : x75_6 < (((rd_T38 l0 x50_4).f1).length : Int) := of_decide_eq_true (by first | (with_reducible assumption) | assumption)
                                                    obtain ⟨ad141, e141, hx141_0⟩ := Kd.at_int HR139_1.out x75_6 p141 q141
                                                    cases e141
                                                    replace hx141_0 := (HB.out.cell (World.block_lt_of_cell? w _ hx141_0)).trans hx141_0
                                                    replace p141 := eq_true p141
                                                    replace q141 := eq_true q141
                                                    go_wp2_with (first | ((with_reducible refine gate_callee (f := 59) rfl ?_); refine goesL_ (some 82) rfl rfl Try.func59 (by kernel_rfl) rfl #[.int .i64 (l0.length : Int), .int .i64 (rd ((rd_T38 l0 x50_4).f1) x75_6)] rfl (by (try simp only [List.map_toArray, List.map_cons, List.map_nil]); first | done | rfl | (simp only [List.length_drop, List.length_take]; rfl)) ?_; (with_reducible refine (impl_fieldType.calls (l0.length : Int) (rd ((rd_T38 l0 x50_4).f1) x75_6) true _ A42.out).mono ?_); rintro e w' ⟨rfl, ⟨nd, rfl⟩⟩; refine ⟨_, rfl, ?_⟩))
                                                    go_roundg k6
                                                    case measure => have := HJ1.out; have := HJ4.out; have := HJ9.out; have := HK4.out; have := HJ22.out; have := HK6.out; omega
                                                    case rel => exact ⟨(wrap64 (x75_6 + 1)), (by first | rfl | (simp; done) | (simp [*]; done)), H', ⟨by have := HJ1.out; have := HJ4.out; have := HJ9.out; have := HK4.out; have := HJ22.out; have := HK6.out; omega⟩, ⟨by (with_reducible repeat (first | refine blk_drewN ?_ _ | refine blk_drew ?_ | refine blk_alloc ?_ _)); exact BK137.out⟩, ⟨by (with_reducible repeat (first | refine blk_drewN ?_ _ | refine blk_drew ?_ | refine blk_alloc ?_ _)); exact BK140.out⟩, ⟨by repeat (first | (with_reducible first | exact HB.out | apply below_alloc | apply pw_below_drewN | apply below_drew1 | refine below_set ?_ GE137.out | refine below_set ?_ GE140.out) | exact HB.out)⟩⟩
                                                  · replace c43 := Bool.eq_false_iff.mpr c43
                                                    subst c43
                                                    have H1 : (some false) = some r := by rw [if_neg (show ¬ (false = true) by decide)] at H; exact H
                                                    clear H
                                                    have H := H1
                                                    clear H1
                                                    obtain rfl := Option.some.inj H
                                                    simp only [Option.some.injEq, Prod.mk.injEq] at H
                                                    obtain ⟨rfl⟩ := H
                                                    have p141 : 0 ≤ (x75_6 : Int) := of_decide_eq_true (by first | (with_reducible assumption) | assumption)
                                                    have q141 : x75_6 < (((rd_T38 l0 x50_4).f1).length : Int) := of_decide_eq_true (by first | (with_reducible assumption) | assumption)
                                                    obtain ⟨ad141, e141, hx141_0⟩ := Kd.at_int HR139_1.out x75_6 p141 q141
                                                    cases e141
                                                    replace hx141_0 := (HB.out.cell (World.block_lt_of_cell? w _ hx141_0)).trans hx141_0
                                                    replace p141 := eq_true p141
                                                    replace q141 := eq_true q141
                                                    go_wp2_with (first | ((with_reducible refine gate_callee (f := 59) rfl ?_); refine goesL_ (some 82) rfl rfl Try.func59 (by kernel_rfl) rfl #[.int .i64 (l0.length : Int), .int .i64 (rd ((rd_T38 l0 x50_4).f1) x75_6)] rfl (by (try simp only [List.map_toArray, List.map_cons, List.map_nil]); first | done | rfl | (simp only [List.length_drop, List.length_take]; rfl)) ?_; (with_reducible refine (impl_fieldType.calls (l0.length : Int) (rd ((rd_T38 l0 x50_4).f1) x75_6) false _ A42.out).mono ?_); rintro e w' ⟨rfl, ⟨nd, rfl⟩⟩; refine ⟨_, rfl, ?_⟩))
                                                    go_ret
                                                    exact ⟨by first | rfl | (simp [errW_none, errW_some] <;> rfl) | (simp [*, errW_none, errW_some] <;> rfl), by repeat (first | (with_reducible first | exact HB.out | apply below_alloc | apply pw_below_drewN | apply below_drew1 | refine below_set ?_ GE137.out | refine below_set ?_ GE140.out) | exact HB.out)⟩
                                                · rw [if_neg c41] at H
                                                  exact absurd H (by simp)
                                              · rw [if_neg c40] at H
                                                exact absurd H (by simp)
                                            · rw [if_neg c39] at H
                                              have c39b0 : decide (x75_6 < (((rd_T38 l0 x50_4).f1).length : Int)) = false := decide_eq_false c39
                                              clear c39
                                              have H' := Aside0.mk H
                                              clear H
                                              go_wp2
                                              go_roundg k6
                                              case measure => have := HJ1.out; have := HJ4.out; have := HJ9.out; have := HK4.out; have := HJ22.out; have := HK6.out; omega
                                              case rel => exact ⟨(wrap64 (x50_4 + 1)), (by first | rfl | (simp; done) | (simp [*]; done)), H', ⟨by have := HJ1.out; have := HJ4.out; have := HJ9.out; have := HK4.out; have := HJ22.out; have := HK6.out; omega⟩, ⟨by (with_reducible repeat (first | refine blk_drewN ?_ _ | refine blk_drew ?_ | refine blk_alloc ?_ _)); exact BK137.out⟩, ⟨by repeat (first | (with_reducible first | exact HB.out | apply below_alloc | apply pw_below_drewN | apply below_drew1 | refine below_set ?_ GE137.out | refine below_set ?_ GE140.out) | exact HB.out)⟩⟩
                              · rw [if_neg c22] at H
                                exact absurd H (by simp)
                            · rw [if_neg c21] at H
                              exact absurd H (by simp)
                          · rw [if_neg c20] at H
                            have c20b0 : decide (x50_4 < (l0.length : Int)) = false := decide_eq_false c20
                            clear c20
                            obtain rfl := Option.some.inj H
                            simp only [Option.some.injEq, Prod.mk.injEq] at H
                            obtain ⟨rfl⟩ := H
                            go_wp2
                            go_ret
                            exact ⟨by first | rfl | (simp [errW_none, errW_some] <;> rfl) | (simp [*, errW_none, errW_some] <;> rfl), by repeat (first | (with_reducible first | exact HB.out | apply below_alloc | apply pw_below_drewN | apply below_drew1 | refine below_set ?_ GE137.out) | exact HB.out)⟩
              · rw [if_neg c9] at H
                exact absurd H (by simp)

end Go.Proofs.Ytgmjolngnhdafaa.P

end
