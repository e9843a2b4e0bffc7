/- Contracts of the functions of this seat: what each call computes, as a plain Lean function. Made by this session's own generator. -/
import Derived.Test.YtejpnfaaboicdaaProg
import Derived.Below
import Derived.Deep.Draws
import Derived.Deep.AppendLies
import Derived.Maps.AppendAt
import Derived.OwnWalk
import Derived.Laws.BytesArg
import Derived.Laws.MakeOwn
import Derived.Laws.OwnMore
import Derived.Deep.OwnRows
import Derived.Tactics
import Derived.Lib.ConvBytes
import Derived.Laws.Slices
import Derived.WalkKit
import Derived.KernelRfl
import Derived.RowKit3
import Derived.Deep.LoopGhost
import Derived.Deep.QuietTactic
import Derived.BigQuiet
import Derived.WideLaws
import Derived.Deep.DeepCutAuto
import Derived.Deep.CutBlock
import Derived.Deep.RegionHeld3
import Derived.Laws.Rows
import Derived.Lib.AppendStr
import Derived.ArgAppend
import Derived.Laws.IdiomCopy
import Derived.OrdersHeld
import Derived.Laws.BitsLemmas
import Derived.RowKit
import Derived.Test.YtejpnfaaboicdaaMy
import Derived.Test.YtejpnfaaboicdaaWWords
import Derived.Test.YtejpnfaaboicdaaWLast
import Derived.Test.YtejpnfaaboicdaaWTab
import Derived.Test.YtejpnfaaboicdaaWFour
import Derived.Test.YtejpnfaaboicdaaWQPut
import Derived.Test.YtejpnfaaboicdaaWApart
import Derived.Test.YtejpnfaaboicdaaWArr
import Derived.Test.YtejpnfaaboicdaaWZeros
import Derived.Test.YtejpnfaaboicdaaWFoot
import Derived.Test.YtejpnfaaboicdaaWKept
import Derived.Test.YtejpnfaaboicdaaWShare
import Derived.Test.YtejpnfaaboicdaaWN
import Derived.Test.YtejpnfaaboicdaaWFootNe
import Derived.Test.YtejpnfaaboicdaaWAt
import Derived.Test.YtejpnfaaboicdaaWEqStruct
import Derived.Test.YtejpnfaaboicdaaWRepsOne
import Derived.Test.YtejpnfaaboicdaaWInv
import Derived.Test.YtejpnfaaboicdaaWInvWords
import Derived.Test.YtejpnfaaboicdaaWGuard
import Derived.Test.YtejpnfaaboicdaaWNEv
import Derived.Test.YtejpnfaaboicdaaWMore
namespace Go.Proofs.Ytejpnfaaboicdaa.G
open Go.RowKit Go.Proofs.YtejpnfaaboicdaaMy Go.Proofs.YtejpnfaaboicdaaW.PrintWords Go.Proofs.YtejpnfaaboicdaaW.PrintLast Go.Proofs.YtejpnfaaboicdaaW.PrintMore
attribute [local go_sem] max2_int min2_int max_two min_two max_three min_three max_four min_four   -- for this text's walks alone
set_option linter.unusedVariables false
set_option linter.unusedSimpArgs false



def errW : Option Int → Value
  | none => .nilIface
  | some c => .iface 0 (.int .i64 c)
theorem errW_none : errW none = .nilIface := rfl
theorem errW_some (c : Int) : errW (some c) = .iface 0 (.int .i64 c) := rfl

theorem info3 : (Try.prog.info? 3).map (fun i => (i.zero, i.size, i.bytes)) = some (some (.int .i64 0), 1, 8) := by kernel_rfl
-- the values' own types
def rd_L1 (xs : List (List Int)) (i : Int) : (List Int) := xs.getD i.toNat ([] : List Int)
theorem at_L1 {w : World} {A : Option Addr} {n : Nat} {xs : List (List Int)} (h : Kd.C (Kd.slice 3 (Kd.int .i64)) w A n xs) (i : Int) (h0 : 0 ≤ i) (h1 : i < n) : ∃ ad A0 c0, A = some ad ∧ w.cell? (ad.add i.toNat) = some (.slice A0 (rd_L1 xs i).length c0) ∧ (rd_L1 xs i).length ≤ c0 ∧ (Kd.int .i64).C w A0 (rd_L1 xs i).length (rd_L1 xs i) := by
  obtain ⟨ad, c, e, _, hK, hc0⟩ := Kd.C_get h ([] : List Int) i h0 h1
  have hc : ∀ j u, c[j]? = some u → w.cell? (ad.add (i.toNat * 1 + j)) = some u := hc0
  obtain ⟨A0, c0, rfl, l0, g0⟩ := hK
  exact ⟨ad, A0, c0, e, by have hq := hc 0 _ rfl; rwa [Nat.mul_one, Nat.add_zero] at hq, l0, g0⟩

/-! #### struct type 47 -/
structure S47 where
  f0 : Int
  f1 : Int
def z47 : S47 := ⟨(0 : Int), (0 : Int)⟩
def k47 : Kd S47 := Kd.iso (Kd.pair (Kd.int .i64) (Kd.int .i64)) (fun x : S47 => (x.f0, x.f1))
theorem k47_open {w : World} {x : S47} {cs : List Value} (h : k47.K w x cs) : cs = [.int .i64 x.f0, .int .i64 x.f1] := by
  obtain ⟨_, _, rfl, rfl, rfl⟩ := h
  exact rfl
theorem k47_openM {w : World} {base : Nat} {ok : Nat → Prop} {x : S47} {cs : List Value} (h : k47.M w base ok x cs) : cs = [.int .i64 x.f0, .int .i64 x.f1] := by
  obtain ⟨_, _, rfl, rfl, rfl⟩ := h
  exact rfl
theorem k47_mk (w : World) (x : S47)  : k47.K w x [.int .i64 x.f0, .int .i64 x.f1] := ⟨[.int .i64 x.f0], [.int .i64 x.f1], rfl, rfl, rfl⟩
theorem k47_mkM (w : World) (base : Nat) (ok : Nat → Prop) (x : S47)  : k47.M w base ok x [.int .i64 x.f0, .int .i64 x.f1] := ⟨[.int .i64 x.f0], [.int .i64 x.f1], rfl, rfl, rfl⟩
def rd_T47 (xs : List S47) (i : Int) : S47 := xs.getD i.toNat z47
theorem at_T47 {w : World} {A : Option Addr} {n : Nat} {xs : List S47} (h : Kd.C k47 w A n xs) (i : Int) (h0 : 0 ≤ i) (h1 : i < n) : ∃ ad , A = some ad ∧ w.cell? (ad.add (i.toNat * 2)) = some (.int .i64 (rd_T47 xs i).f0) ∧ w.cell? ⟨(ad.add (i.toNat * 2)).block, (ad.add (i.toNat * 2)).off + 1, none⟩ = some (.int .i64 (rd_T47 xs i).f1) := by
  obtain ⟨ad, c, e, _, hK, hc0⟩ := Kd.C_get h z47 i h0 h1
  have hc : ∀ j u, c[j]? = some u → w.cell? (ad.add (i.toNat * 2 + j)) = some u := hc0
  obtain rfl := k47_open hK
  exact ⟨ad, e, hc 0 _ rfl, by rw [← add_field _ _ 1 (by omega)]; exact hc 1 _ rfl⟩

def rd_L4 (xs : List (List S47)) (i : Int) : (List S47) := xs.getD i.toNat ([] : List S47)
theorem at_L4 {w : World} {A : Option Addr} {n : Nat} {xs : List (List S47)} (h : Kd.C (Kd.slice 47 k47) w A n xs) (i : Int) (h0 : 0 ≤ i) (h1 : i < n) : ∃ ad A0 c0, A = some ad ∧ w.cell? (ad.add i.toNat) = some (.slice A0 (rd_L4 xs i).length c0) ∧ (rd_L4 xs i).length ≤ c0 ∧ k47.C w A0 (rd_L4 xs i).length (rd_L4 xs i) := by
  obtain ⟨ad, c, e, _, hK, hc0⟩ := Kd.C_get h ([] : List S47) i h0 h1
  have hc : ∀ j u, c[j]? = some u → w.cell? (ad.add (i.toNat * 1 + j)) = some u := hc0
  obtain ⟨A0, c0, rfl, l0, g0⟩ := hK
  exact ⟨ad, A0, c0, e, by have hq := hc 0 _ rfl; rwa [Nat.mul_one, Nat.add_zero] at hq, l0, g0⟩

/-! #### struct type 24 -/
structure S24 where
  f0 : Int
  f1 : Int
  f2 : Int
  f3 : Int
  f4 : (List S47)
  f5 : Int
  f6 : Int
  f7 : Int
  f8 : Int
  f9 : Int
  f10 : Int
  f11 : Int
  f12 : Int
  f13 : Int
  f14 : Int
  f15 : Int
  f16 : Int
  f17 : Int
  f18 : Int
  f19 : Int
  f20 : Int
def z24 : S24 := ⟨(0 : Int), (0 : Int), (0 : Int), (0 : Int), ([] : List S47), (0 : Int), (0 : Int), (0 : Int), (0 : Int), (0 : Int), (0 : Int), (0 : Int), (0 : Int), (0 : Int), (0 : Int), (0 : Int), (0 : Int), (0 : Int), (0 : Int), (0 : Int), (0 : Int)⟩
def k24 : Kd S24 := Kd.iso (Kd.pair (Kd.int .i64) (Kd.pair (Kd.int .i64) (Kd.pair (Kd.int .i64) (Kd.pair (Kd.int .i64) (Kd.pair (Kd.slice 47 k47) (Kd.pair (Kd.int .i64) (Kd.pair (Kd.int .i64) (Kd.pair (Kd.int .i64) (Kd.pair (Kd.int .i64) (Kd.pair (Kd.int .i64) (Kd.pair (Kd.int .i64) (Kd.pair (Kd.int .i64) (Kd.pair (Kd.int .i64) (Kd.pair (Kd.int .i64) (Kd.pair (Kd.int .i64) (Kd.pair (Kd.int .i64) (Kd.pair (Kd.int .i64) (Kd.pair (Kd.int .i64) (Kd.pair (Kd.int .i64) (Kd.pair (Kd.int .i64) (Kd.int .i64))))))))))))))))))))) (fun x : S24 => (x.f0, x.f1, x.f2, x.f3, x.f4, x.f5, x.f6, x.f7, x.f8, x.f9, x.f10, x.f11, x.f12, x.f13, x.f14, x.f15, x.f16, x.f17, x.f18, x.f19, x.f20))
theorem k24_open {w : World} {x : S24} {cs : List Value} (h : k24.K w x cs) : ∃ A4 c4, cs = [.int .i64 x.f0, .int .i64 x.f1, .int .i64 x.f2, .int .i64 x.f3, .slice A4 x.f4.length c4, .int .i64 x.f5, .int .i64 x.f6, .int .i64 x.f7, .int .i64 x.f8, .int .i64 x.f9, .int .i64 x.f10, .int .i64 x.f11, .int .i64 x.f12, .int .i64 x.f13, .int .i64 x.f14, .int .i64 x.f15, .int .i64 x.f16, .int .i64 x.f17, .int .i64 x.f18, .int .i64 x.f19, .int .i64 x.f20] ∧ x.f4.length ≤ c4 ∧ k47.C w A4 x.f4.length x.f4 := by
  obtain ⟨_, _, rfl, rfl, ⟨_, _, rfl, rfl, ⟨_, _, rfl, rfl, ⟨_, _, rfl, rfl, ⟨_, _, rfl, ⟨A4, c4, rfl, l4, g4⟩, ⟨_, _, rfl, rfl, ⟨_, _, rfl, rfl, ⟨_, _, rfl, rfl, ⟨_, _, rfl, rfl, ⟨_, _, rfl, rfl, ⟨_, _, rfl, rfl, ⟨_, _, rfl, rfl, ⟨_, _, rfl, rfl, ⟨_, _, rfl, rfl, ⟨_, _, rfl, rfl, ⟨_, _, rfl, rfl, ⟨_, _, rfl, rfl, ⟨_, _, rfl, rfl, ⟨_, _, rfl, rfl, ⟨_, _, rfl, rfl, rfl⟩⟩⟩⟩⟩⟩⟩⟩⟩⟩⟩⟩⟩⟩⟩⟩⟩⟩⟩⟩ := h
  exact ⟨A4, c4, rfl, l4, g4⟩
theorem k24_openM {w : World} {base : Nat} {ok : Nat → Prop} {x : S24} {cs : List Value} (h : k24.M w base ok x cs) : ∃ v4, cs = [.int .i64 x.f0, .int .i64 x.f1, .int .i64 x.f2, .int .i64 x.f3, v4, .int .i64 x.f5, .int .i64 x.f6, .int .i64 x.f7, .int .i64 x.f8, .int .i64 x.f9, .int .i64 x.f10, .int .i64 x.f11, .int .i64 x.f12, .int .i64 x.f13, .int .i64 x.f14, .int .i64 x.f15, .int .i64 x.f16, .int .i64 x.f17, .int .i64 x.f18, .int .i64 x.f19, .int .i64 x.f20] ∧ k47.R 47 w base ok v4 x.f4 := by
  obtain ⟨_, _, rfl, rfl, ⟨_, _, rfl, rfl, ⟨_, _, rfl, rfl, ⟨_, _, rfl, rfl, ⟨_, _, rfl, ⟨v4, rfl, g4⟩, ⟨_, _, rfl, rfl, ⟨_, _, rfl, rfl, ⟨_, _, rfl, rfl, ⟨_, _, rfl, rfl, ⟨_, _, rfl, rfl, ⟨_, _, rfl, rfl, ⟨_, _, rfl, rfl, ⟨_, _, rfl, rfl, ⟨_, _, rfl, rfl, ⟨_, _, rfl, rfl, ⟨_, _, rfl, rfl, ⟨_, _, rfl, rfl, ⟨_, _, rfl, rfl, ⟨_, _, rfl, rfl, ⟨_, _, rfl, rfl, rfl⟩⟩⟩⟩⟩⟩⟩⟩⟩⟩⟩⟩⟩⟩⟩⟩⟩⟩⟩⟩ := h
  exact ⟨v4, rfl, g4⟩
theorem k24_mk (w : World) (x : S24) {A4 : Option Addr} {c4 : Nat} (l4 : x.f4.length ≤ c4) (g4 : k47.C w A4 x.f4.length x.f4) : k24.K w x [.int .i64 x.f0, .int .i64 x.f1, .int .i64 x.f2, .int .i64 x.f3, .slice A4 x.f4.length c4, .int .i64 x.f5, .int .i64 x.f6, .int .i64 x.f7, .int .i64 x.f8, .int .i64 x.f9, .int .i64 x.f10, .int .i64 x.f11, .int .i64 x.f12, .int .i64 x.f13, .int .i64 x.f14, .int .i64 x.f15, .int .i64 x.f16, .int .i64 x.f17, .int .i64 x.f18, .int .i64 x.f19, .int .i64 x.f20] := ⟨[.int .i64 x.f0], [.int .i64 x.f1, .int .i64 x.f2, .int .i64 x.f3, .slice A4 x.f4.length c4, .int .i64 x.f5, .int .i64 x.f6, .int .i64 x.f7, .int .i64 x.f8, .int .i64 x.f9, .int .i64 x.f10, .int .i64 x.f11, .int .i64 x.f12, .int .i64 x.f13, .int .i64 x.f14, .int .i64 x.f15, .int .i64 x.f16, .int .i64 x.f17, .int .i64 x.f18, .int .i64 x.f19, .int .i64 x.f20], rfl, rfl, ⟨[.int .i64 x.f1], [.int .i64 x.f2, .int .i64 x.f3, .slice A4 x.f4.length c4, .int .i64 x.f5, .int .i64 x.f6, .int .i64 x.f7, .int .i64 x.f8, .int .i64 x.f9, .int .i64 x.f10, .int .i64 x.f11, .int .i64 x.f12, .int .i64 x.f13, .int .i64 x.f14, .int .i64 x.f15, .int .i64 x.f16, .int .i64 x.f17, .int .i64 x.f18, .int .i64 x.f19, .int .i64 x.f20], rfl, rfl, ⟨[.int .i64 x.f2], [.int .i64 x.f3, .slice A4 x.f4.length c4, .int .i64 x.f5, .int .i64 x.f6, .int .i64 x.f7, .int .i64 x.f8, .int .i64 x.f9, .int .i64 x.f10, .int .i64 x.f11, .int .i64 x.f12, .int .i64 x.f13, .int .i64 x.f14, .int .i64 x.f15, .int .i64 x.f16, .int .i64 x.f17, .int .i64 x.f18, .int .i64 x.f19, .int .i64 x.f20], rfl, rfl, ⟨[.int .i64 x.f3], [.slice A4 x.f4.length c4, .int .i64 x.f5, .int .i64 x.f6, .int .i64 x.f7, .int .i64 x.f8, .int .i64 x.f9, .int .i64 x.f10, .int .i64 x.f11, .int .i64 x.f12, .int .i64 x.f13, .int .i64 x.f14, .int .i64 x.f15, .int .i64 x.f16, .int .i64 x.f17, .int .i64 x.f18, .int .i64 x.f19, .int .i64 x.f20], rfl, rfl, ⟨[.slice A4 x.f4.length c4], [.int .i64 x.f5, .int .i64 x.f6, .int .i64 x.f7, .int .i64 x.f8, .int .i64 x.f9, .int .i64 x.f10, .int .i64 x.f11, .int .i64 x.f12, .int .i64 x.f13, .int .i64 x.f14, .int .i64 x.f15, .int .i64 x.f16, .int .i64 x.f17, .int .i64 x.f18, .int .i64 x.f19, .int .i64 x.f20], rfl, ⟨A4, c4, rfl, l4, g4⟩, ⟨[.int .i64 x.f5], [.int .i64 x.f6, .int .i64 x.f7, .int .i64 x.f8, .int .i64 x.f9, .int .i64 x.f10, .int .i64 x.f11, .int .i64 x.f12, .int .i64 x.f13, .int .i64 x.f14, .int .i64 x.f15, .int .i64 x.f16, .int .i64 x.f17, .int .i64 x.f18, .int .i64 x.f19, .int .i64 x.f20], rfl, rfl, ⟨[.int .i64 x.f6], [.int .i64 x.f7, .int .i64 x.f8, .int .i64 x.f9, .int .i64 x.f10, .int .i64 x.f11, .int .i64 x.f12, .int .i64 x.f13, .int .i64 x.f14, .int .i64 x.f15, .int .i64 x.f16, .int .i64 x.f17, .int .i64 x.f18, .int .i64 x.f19, .int .i64 x.f20], rfl, rfl, ⟨[.int .i64 x.f7], [.int .i64 x.f8, .int .i64 x.f9, .int .i64 x.f10, .int .i64 x.f11, .int .i64 x.f12, .int .i64 x.f13, .int .i64 x.f14, .int .i64 x.f15, .int .i64 x.f16, .int .i64 x.f17, .int .i64 x.f18, .int .i64 x.f19, .int .i64 x.f20], rfl, rfl, ⟨[.int .i64 x.f8], [.int .i64 x.f9, .int .i64 x.f10, .int .i64 x.f11, .int .i64 x.f12, .int .i64 x.f13, .int .i64 x.f14, .int .i64 x.f15, .int .i64 x.f16, .int .i64 x.f17, .int .i64 x.f18, .int .i64 x.f19, .int .i64 x.f20], rfl, rfl, ⟨[.int .i64 x.f9], [.int .i64 x.f10, .int .i64 x.f11, .int .i64 x.f12, .int .i64 x.f13, .int .i64 x.f14, .int .i64 x.f15, .int .i64 x.f16, .int .i64 x.f17, .int .i64 x.f18, .int .i64 x.f19, .int .i64 x.f20], rfl, rfl, ⟨[.int .i64 x.f10], [.int .i64 x.f11, .int .i64 x.f12, .int .i64 x.f13, .int .i64 x.f14, .int .i64 x.f15, .int .i64 x.f16, .int .i64 x.f17, .int .i64 x.f18, .int .i64 x.f19, .int .i64 x.f20], rfl, rfl, ⟨[.int .i64 x.f11], [.int .i64 x.f12, .int .i64 x.f13, .int .i64 x.f14, .int .i64 x.f15, .int .i64 x.f16, .int .i64 x.f17, .int .i64 x.f18, .int .i64 x.f19, .int .i64 x.f20], rfl, rfl, ⟨[.int .i64 x.f12], [.int .i64 x.f13, .int .i64 x.f14, .int .i64 x.f15, .int .i64 x.f16, .int .i64 x.f17, .int .i64 x.f18, .int .i64 x.f19, .int .i64 x.f20], rfl, rfl, ⟨[.int .i64 x.f13], [.int .i64 x.f14, .int .i64 x.f15, .int .i64 x.f16, .int .i64 x.f17, .int .i64 x.f18, .int .i64 x.f19, .int .i64 x.f20], rfl, rfl, ⟨[.int .i64 x.f14], [.int .i64 x.f15, .int .i64 x.f16, .int .i64 x.f17, .int .i64 x.f18, .int .i64 x.f19, .int .i64 x.f20], rfl, rfl, ⟨[.int .i64 x.f15], [.int .i64 x.f16, .int .i64 x.f17, .int .i64 x.f18, .int .i64 x.f19, .int .i64 x.f20], rfl, rfl, ⟨[.int .i64 x.f16], [.int .i64 x.f17, .int .i64 x.f18, .int .i64 x.f19, .int .i64 x.f20], rfl, rfl, ⟨[.int .i64 x.f17], [.int .i64 x.f18, .int .i64 x.f19, .int .i64 x.f20], rfl, rfl, ⟨[.int .i64 x.f18], [.int .i64 x.f19, .int .i64 x.f20], rfl, rfl, ⟨[.int .i64 x.f19], [.int .i64 x.f20], rfl, rfl, rfl⟩⟩⟩⟩⟩⟩⟩⟩⟩⟩⟩⟩⟩⟩⟩⟩⟩⟩⟩⟩
theorem k24_mkM (w : World) (base : Nat) (ok : Nat → Prop) (x : S24) {v4 : Value} (g4 : k47.R 47 w base ok v4 x.f4) : k24.M w base ok x [.int .i64 x.f0, .int .i64 x.f1, .int .i64 x.f2, .int .i64 x.f3, v4, .int .i64 x.f5, .int .i64 x.f6, .int .i64 x.f7, .int .i64 x.f8, .int .i64 x.f9, .int .i64 x.f10, .int .i64 x.f11, .int .i64 x.f12, .int .i64 x.f13, .int .i64 x.f14, .int .i64 x.f15, .int .i64 x.f16, .int .i64 x.f17, .int .i64 x.f18, .int .i64 x.f19, .int .i64 x.f20] := ⟨[.int .i64 x.f0], [.int .i64 x.f1, .int .i64 x.f2, .int .i64 x.f3, v4, .int .i64 x.f5, .int .i64 x.f6, .int .i64 x.f7, .int .i64 x.f8, .int .i64 x.f9, .int .i64 x.f10, .int .i64 x.f11, .int .i64 x.f12, .int .i64 x.f13, .int .i64 x.f14, .int .i64 x.f15, .int .i64 x.f16, .int .i64 x.f17, .int .i64 x.f18, .int .i64 x.f19, .int .i64 x.f20], rfl, rfl, ⟨[.int .i64 x.f1], [.int .i64 x.f2, .int .i64 x.f3, v4, .int .i64 x.f5, .int .i64 x.f6, .int .i64 x.f7, .int .i64 x.f8, .int .i64 x.f9, .int .i64 x.f10, .int .i64 x.f11, .int .i64 x.f12, .int .i64 x.f13, .int .i64 x.f14, .int .i64 x.f15, .int .i64 x.f16, .int .i64 x.f17, .int .i64 x.f18, .int .i64 x.f19, .int .i64 x.f20], rfl, rfl, ⟨[.int .i64 x.f2], [.int .i64 x.f3, v4, .int .i64 x.f5, .int .i64 x.f6, .int .i64 x.f7, .int .i64 x.f8, .int .i64 x.f9, .int .i64 x.f10, .int .i64 x.f11, .int .i64 x.f12, .int .i64 x.f13, .int .i64 x.f14, .int .i64 x.f15, .int .i64 x.f16, .int .i64 x.f17, .int .i64 x.f18, .int .i64 x.f19, .int .i64 x.f20], rfl, rfl, ⟨[.int .i64 x.f3], [v4, .int .i64 x.f5, .int .i64 x.f6, .int .i64 x.f7, .int .i64 x.f8, .int .i64 x.f9, .int .i64 x.f10, .int .i64 x.f11, .int .i64 x.f12, .int .i64 x.f13, .int .i64 x.f14, .int .i64 x.f15, .int .i64 x.f16, .int .i64 x.f17, .int .i64 x.f18, .int .i64 x.f19, .int .i64 x.f20], rfl, rfl, ⟨[v4], [.int .i64 x.f5, .int .i64 x.f6, .int .i64 x.f7, .int .i64 x.f8, .int .i64 x.f9, .int .i64 x.f10, .int .i64 x.f11, .int .i64 x.f12, .int .i64 x.f13, .int .i64 x.f14, .int .i64 x.f15, .int .i64 x.f16, .int .i64 x.f17, .int .i64 x.f18, .int .i64 x.f19, .int .i64 x.f20], rfl, ⟨v4, rfl, g4⟩, ⟨[.int .i64 x.f5], [.int .i64 x.f6, .int .i64 x.f7, .int .i64 x.f8, .int .i64 x.f9, .int .i64 x.f10, .int .i64 x.f11, .int .i64 x.f12, .int .i64 x.f13, .int .i64 x.f14, .int .i64 x.f15, .int .i64 x.f16, .int .i64 x.f17, .int .i64 x.f18, .int .i64 x.f19, .int .i64 x.f20], rfl, rfl, ⟨[.int .i64 x.f6], [.int .i64 x.f7, .int .i64 x.f8, .int .i64 x.f9, .int .i64 x.f10, .int .i64 x.f11, .int .i64 x.f12, .int .i64 x.f13, .int .i64 x.f14, .int .i64 x.f15, .int .i64 x.f16, .int .i64 x.f17, .int .i64 x.f18, .int .i64 x.f19, .int .i64 x.f20], rfl, rfl, ⟨[.int .i64 x.f7], [.int .i64 x.f8, .int .i64 x.f9, .int .i64 x.f10, .int .i64 x.f11, .int .i64 x.f12, .int .i64 x.f13, .int .i64 x.f14, .int .i64 x.f15, .int .i64 x.f16, .int .i64 x.f17, .int .i64 x.f18, .int .i64 x.f19, .int .i64 x.f20], rfl, rfl, ⟨[.int .i64 x.f8], [.int .i64 x.f9, .int .i64 x.f10, .int .i64 x.f11, .int .i64 x.f12, .int .i64 x.f13, .int .i64 x.f14, .int .i64 x.f15, .int .i64 x.f16, .int .i64 x.f17, .int .i64 x.f18, .int .i64 x.f19, .int .i64 x.f20], rfl, rfl, ⟨[.int .i64 x.f9], [.int .i64 x.f10, .int .i64 x.f11, .int .i64 x.f12, .int .i64 x.f13, .int .i64 x.f14, .int .i64 x.f15, .int .i64 x.f16, .int .i64 x.f17, .int .i64 x.f18, .int .i64 x.f19, .int .i64 x.f20], rfl, rfl, ⟨[.int .i64 x.f10], [.int .i64 x.f11, .int .i64 x.f12, .int .i64 x.f13, .int .i64 x.f14, .int .i64 x.f15, .int .i64 x.f16, .int .i64 x.f17, .int .i64 x.f18, .int .i64 x.f19, .int .i64 x.f20], rfl, rfl, ⟨[.int .i64 x.f11], [.int .i64 x.f12, .int .i64 x.f13, .int .i64 x.f14, .int .i64 x.f15, .int .i64 x.f16, .int .i64 x.f17, .int .i64 x.f18, .int .i64 x.f19, .int .i64 x.f20], rfl, rfl, ⟨[.int .i64 x.f12], [.int .i64 x.f13, .int .i64 x.f14, .int .i64 x.f15, .int .i64 x.f16, .int .i64 x.f17, .int .i64 x.f18, .int .i64 x.f19, .int .i64 x.f20], rfl, rfl, ⟨[.int .i64 x.f13], [.int .i64 x.f14, .int .i64 x.f15, .int .i64 x.f16, .int .i64 x.f17, .int .i64 x.f18, .int .i64 x.f19, .int .i64 x.f20], rfl, rfl, ⟨[.int .i64 x.f14], [.int .i64 x.f15, .int .i64 x.f16, .int .i64 x.f17, .int .i64 x.f18, .int .i64 x.f19, .int .i64 x.f20], rfl, rfl, ⟨[.int .i64 x.f15], [.int .i64 x.f16, .int .i64 x.f17, .int .i64 x.f18, .int .i64 x.f19, .int .i64 x.f20], rfl, rfl, ⟨[.int .i64 x.f16], [.int .i64 x.f17, .int .i64 x.f18, .int .i64 x.f19, .int .i64 x.f20], rfl, rfl, ⟨[.int .i64 x.f17], [.int .i64 x.f18, .int .i64 x.f19, .int .i64 x.f20], rfl, rfl, ⟨[.int .i64 x.f18], [.int .i64 x.f19, .int .i64 x.f20], rfl, rfl, ⟨[.int .i64 x.f19], [.int .i64 x.f20], rfl, rfl, rfl⟩⟩⟩⟩⟩⟩⟩⟩⟩⟩⟩⟩⟩⟩⟩⟩⟩⟩⟩⟩
def rd_T24 (xs : List S24) (i : Int) : S24 := xs.getD i.toNat z24
theorem at_T24 {w : World} {A : Option Addr} {n : Nat} {xs : List S24} (h : Kd.C k24 w A n xs) (i : Int) (h0 : 0 ≤ i) (h1 : i < n) : ∃ ad A4 c4, A = some ad ∧ w.cell? (ad.add (i.toNat * 21)) = some (.int .i64 (rd_T24 xs i).f0) ∧ w.cell? ⟨(ad.add (i.toNat * 21)).block, (ad.add (i.toNat * 21)).off + 1, none⟩ = some (.int .i64 (rd_T24 xs i).f1) ∧ w.cell? ⟨(ad.add (i.toNat * 21)).block, (ad.add (i.toNat * 21)).off + 2, none⟩ = some (.int .i64 (rd_T24 xs i).f2) ∧ w.cell? ⟨(ad.add (i.toNat * 21)).block, (ad.add (i.toNat * 21)).off + 3, none⟩ = some (.int .i64 (rd_T24 xs i).f3) ∧ w.cell? ⟨(ad.add (i.toNat * 21)).block, (ad.add (i.toNat * 21)).off + 4, none⟩ = some (.slice A4 (rd_T24 xs i).f4.length c4) ∧ w.cell? ⟨(ad.add (i.toNat * 21)).block, (ad.add (i.toNat * 21)).off + 5, none⟩ = some (.int .i64 (rd_T24 xs i).f5) ∧ w.cell? ⟨(ad.add (i.toNat * 21)).block, (ad.add (i.toNat * 21)).off + 6, none⟩ = some (.int .i64 (rd_T24 xs i).f6) ∧ w.cell? ⟨(ad.add (i.toNat * 21)).block, (ad.add (i.toNat * 21)).off + 7, none⟩ = some (.int .i64 (rd_T24 xs i).f7) ∧ w.cell? ⟨(ad.add (i.toNat * 21)).block, (ad.add (i.toNat * 21)).off + 8, none⟩ = some (.int .i64 (rd_T24 xs i).f8) ∧ w.cell? ⟨(ad.add (i.toNat * 21)).block, (ad.add (i.toNat * 21)).off + 9, none⟩ = some (.int .i64 (rd_T24 xs i).f9) ∧ w.cell? ⟨(ad.add (i.toNat * 21)).block, (ad.add (i.toNat * 21)).off + 10, none⟩ = some (.int .i64 (rd_T24 xs i).f10) ∧ w.cell? ⟨(ad.add (i.toNat * 21)).block, (ad.add (i.toNat * 21)).off + 11, none⟩ = some (.int .i64 (rd_T24 xs i).f11) ∧ w.cell? ⟨(ad.add (i.toNat * 21)).block, (ad.add (i.toNat * 21)).off + 12, none⟩ = some (.int .i64 (rd_T24 xs i).f12) ∧ w.cell? ⟨(ad.add (i.toNat * 21)).block, (ad.add (i.toNat * 21)).off + 13, none⟩ = some (.int .i64 (rd_T24 xs i).f13) ∧ w.cell? ⟨(ad.add (i.toNat * 21)).block, (ad.add (i.toNat * 21)).off + 14, none⟩ = some (.int .i64 (rd_T24 xs i).f14) ∧ w.cell? ⟨(ad.add (i.toNat * 21)).block, (ad.add (i.toNat * 21)).off + 15, none⟩ = some (.int .i64 (rd_T24 xs i).f15) ∧ w.cell? ⟨(ad.add (i.toNat * 21)).block, (ad.add (i.toNat * 21)).off + 16, none⟩ = some (.int .i64 (rd_T24 xs i).f16) ∧ w.cell? ⟨(ad.add (i.toNat * 21)).block, (ad.add (i.toNat * 21)).off + 17, none⟩ = some (.int .i64 (rd_T24 xs i).f17) ∧ w.cell? ⟨(ad.add (i.toNat * 21)).block, (ad.add (i.toNat * 21)).off + 18, none⟩ = some (.int .i64 (rd_T24 xs i).f18) ∧ w.cell? ⟨(ad.add (i.toNat * 21)).block, (ad.add (i.toNat * 21)).off + 19, none⟩ = some (.int .i64 (rd_T24 xs i).f19) ∧ w.cell? ⟨(ad.add (i.toNat * 21)).block, (ad.add (i.toNat * 21)).off + 20, none⟩ = some (.int .i64 (rd_T24 xs i).f20) ∧ (rd_T24 xs i).f4.length ≤ c4 ∧ k47.C w A4 (rd_T24 xs i).f4.length (rd_T24 xs i).f4 := by
  obtain ⟨ad, c, e, _, hK, hc0⟩ := Kd.C_get h z24 i h0 h1
  have hc : ∀ j u, c[j]? = some u → w.cell? (ad.add (i.toNat * 21 + j)) = some u := hc0
  obtain ⟨A4, c4, rfl, l4, g4⟩ := k24_open hK
  exact ⟨ad, A4, c4, e, hc 0 _ rfl, by rw [← add_field _ _ 1 (by omega)]; exact hc 1 _ rfl, by rw [← add_field _ _ 2 (by omega)]; exact hc 2 _ rfl, by rw [← add_field _ _ 3 (by omega)]; exact hc 3 _ rfl, by rw [← add_field _ _ 4 (by omega)]; exact hc 4 _ rfl, by rw [← add_field _ _ 5 (by omega)]; exact hc 5 _ rfl, by rw [← add_field _ _ 6 (by omega)]; exact hc 6 _ rfl, by rw [← add_field _ _ 7 (by omega)]; exact hc 7 _ rfl, by rw [← add_field _ _ 8 (by omega)]; exact hc 8 _ rfl, by rw [← add_field _ _ 9 (by omega)]; exact hc 9 _ rfl, by rw [← add_field _ _ 10 (by omega)]; exact hc 10 _ rfl, by rw [← add_field _ _ 11 (by omega)]; exact hc 11 _ rfl, by rw [← add_field _ _ 12 (by omega)]; exact hc 12 _ rfl, by rw [← add_field _ _ 13 (by omega)]; exact hc 13 _ rfl, by rw [← add_field _ _ 14 (by omega)]; exact hc 14 _ rfl, by rw [← add_field _ _ 15 (by omega)]; exact hc 15 _ rfl, by rw [← add_field _ _ 16 (by omega)]; exact hc 16 _ rfl, by rw [← add_field _ _ 17 (by omega)]; exact hc 17 _ rfl, by rw [← add_field _ _ 18 (by omega)]; exact hc 18 _ rfl, by rw [← add_field _ _ 19 (by omega)]; exact hc 19 _ rfl, by rw [← add_field _ _ 20 (by omega)]; exact hc 20 _ rfl, l4, g4⟩

/-! #### struct type 26 -/
structure S26 where
  f0 : Int
  f1 : Int
  f2 : Int
def z26 : S26 := ⟨(0 : Int), (0 : Int), (0 : Int)⟩
def k26 : Kd S26 := Kd.iso (Kd.pair (Kd.int .i64) (Kd.pair (Kd.int .i64) (Kd.int .i64))) (fun x : S26 => (x.f0, x.f1, x.f2))
theorem k26_open {w : World} {x : S26} {cs : List Value} (h : k26.K w x cs) : cs = [.int .i64 x.f0, .int .i64 x.f1, .int .i64 x.f2] := by
  obtain ⟨_, _, rfl, rfl, ⟨_, _, rfl, rfl, rfl⟩⟩ := h
  exact rfl
theorem k26_openM {w : World} {base : Nat} {ok : Nat → Prop} {x : S26} {cs : List Value} (h : k26.M w base ok x cs) : cs = [.int .i64 x.f0, .int .i64 x.f1, .int .i64 x.f2] := by
  obtain ⟨_, _, rfl, rfl, ⟨_, _, rfl, rfl, rfl⟩⟩ := h
  exact rfl
theorem k26_mk (w : World) (x : S26)  : k26.K w x [.int .i64 x.f0, .int .i64 x.f1, .int .i64 x.f2] := ⟨[.int .i64 x.f0], [.int .i64 x.f1, .int .i64 x.f2], rfl, rfl, ⟨[.int .i64 x.f1], [.int .i64 x.f2], rfl, rfl, rfl⟩⟩
theorem k26_mkM (w : World) (base : Nat) (ok : Nat → Prop) (x : S26)  : k26.M w base ok x [.int .i64 x.f0, .int .i64 x.f1, .int .i64 x.f2] := ⟨[.int .i64 x.f0], [.int .i64 x.f1, .int .i64 x.f2], rfl, rfl, ⟨[.int .i64 x.f1], [.int .i64 x.f2], rfl, rfl, rfl⟩⟩
def rd_T26 (xs : List S26) (i : Int) : S26 := xs.getD i.toNat z26
theorem at_T26 {w : World} {A : Option Addr} {n : Nat} {xs : List S26} (h : Kd.C k26 w A n xs) (i : Int) (h0 : 0 ≤ i) (h1 : i < n) : ∃ ad , A = some ad ∧ w.cell? (ad.add (i.toNat * 3)) = some (.int .i64 (rd_T26 xs i).f0) ∧ w.cell? ⟨(ad.add (i.toNat * 3)).block, (ad.add (i.toNat * 3)).off + 1, none⟩ = some (.int .i64 (rd_T26 xs i).f1) ∧ w.cell? ⟨(ad.add (i.toNat * 3)).block, (ad.add (i.toNat * 3)).off + 2, none⟩ = some (.int .i64 (rd_T26 xs i).f2) := by
  obtain ⟨ad, c, e, _, hK, hc0⟩ := Kd.C_get h z26 i h0 h1
  have hc : ∀ j u, c[j]? = some u → w.cell? (ad.add (i.toNat * 3 + j)) = some u := hc0
  obtain rfl := k26_open hK
  exact ⟨ad, e, hc 0 _ rfl, by rw [← add_field _ _ 1 (by omega)]; exact hc 1 _ rfl, by rw [← add_field _ _ 2 (by omega)]; exact hc 2 _ rfl⟩

end Go.Proofs.Ytejpnfaaboicdaa.G
